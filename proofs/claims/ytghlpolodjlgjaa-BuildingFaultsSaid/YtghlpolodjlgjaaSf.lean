/- Contracts of functions, one behind the other (own work). -/
import Derived.Test.YtghlpolodjlgjaaTab
import Derived.Test.YtghlpolodjlgjaaSk
namespace Go.Proofs.Ytghlpolodjlgjaa.Sy
open Go Go.RowKit
set_option linter.unusedVariables false
set_option linter.unusedSimpArgs false

def lookG : List (Nat × Ct) → Nat → Option Ct
  | [], _ => none
  | (i, c) :: r, t => cnd (Nat.beq t i) (some c) (lookG r t)
def lookF : List (Nat × List Nat) → Nat → List Nat
  | [], _ => []
  | (i, l) :: r, t => cnd (Nat.beq t i) l (lookF r t)
/-- The evaluator's knowledge: types, contracts; fz: rows that nobody owns any more, ahead of a region. -/
def lookP : List (Nat × Cp) → Nat → Option Cp
  | [], _ => none
  | (i, c) :: r, t => cnd (Nat.beq t i) (some c) (lookP r t)
def ctxP (pl : List (Nat × Cp)) (fv : Option Fv) (l : List (Nat × Ct)) (fz : List (Nat × List Nat)) : Ctx := { D := lookupD tabL, xt := lookXt xtL, Γ := lookG l, G := gdS, gv := gvS, fz := lookF fz, pg := lookP pl, fv := fv }
abbrev ctxF (l : List (Nat × Ct)) (fz : List (Nat × List Nat)) : Ctx := ctxP [] none l fz
abbrev ctxG (l : List (Nat × Ct)) : Ctx := ctxF l []
def HasBody (P : Program) (f : FuncId) : Prop := ∃ fn, P.funcs[f]? = some fn ∧ (fn.name == "runtime.NumGoroutine") = false ∧ fn.body.isNone = false
def GOk (l : List (Nat × Ct)) : Prop := ∀ f ct, lookG l f = some ct → CtOk Try.prog gdS f ct ∧ HasBody Try.prog f
theorem gok_nil : GOk [] := fun f ct h => by cases h
theorem gok_cons {f : FuncId} {ct : Ct} {l : List (Nat × Ct)} (h1 : CtOk Try.prog gdS f ct) (h2 : HasBody Try.prog f) (h : GOk l) : GOk ((f, ct) :: l) := by
  intro g ct' hg
  simp only [lookG] at hg
  by_cases hgf : g = f
  · rw [cnd_beq_true hgf] at hg; cases hg; subst hgf; exact ⟨h1, h2⟩
  · rw [cnd_beq_false hgf] at hg; exact h g ct' hg
def PGOk (l : List (Nat × Cp)) : Prop := ∀ f cp, lookP l f = some cp → CpOk Try.prog gdS f cp ∧ HasBody Try.prog f
theorem pgok_nil : PGOk [] := fun f cp h => by cases h
theorem pgok_cons {f : FuncId} {cp : Cp} {l : List (Nat × Cp)} (h1 : CpOk Try.prog gdS f cp) (h2 : HasBody Try.prog f) (h : PGOk l) : PGOk ((f, cp) :: l) := by
  intro g cp' hg
  simp only [lookP] at hg
  by_cases hgf : g = f
  · rw [cnd_beq_true hgf] at hg; cases hg; subst hgf; exact ⟨h1, h2⟩
  · rw [cnd_beq_false hgf] at hg; exact h g cp' hg
def FvOk (cv : Fv) (g : Nat) : Prop := CtOk Try.prog gdS g { p := cv.p, psh := cv.psh, r := cv.r, rsh := cv.rsh, pre := none, fresh := none, F := cv.F g } ∧ HasBody Try.prog g
def FVOk (fv : Option Fv) : Prop := ∀ cv, fv = some cv → ∀ g ∈ cv.fs, FvOk cv g
theorem fvok_none : FVOk none := fun cv h => by cases h
theorem fvok_some {cv : Fv} (h : ∀ g ∈ cv.fs, FvOk cv g) : FVOk (some cv) := fun cv' h' => by cases h'; exact h
theorem ctxOkP {pl : List (Nat × Cp)} {fv : Option Fv} {l : List (Nat × Ct)} (hp : PGOk pl) (hv : FVOk fv) (h : GOk l) (fz : List (Nat × List Nat)) : CtxOk Try.prog (ctxP pl fv l fz) where
  xt := xtOk
  pg := hp
  fv := hv
  mixed := by kernel_rfl
  D := tabOk
  Γ := h
  bytes := bytesOk
  gv := gvOk
  eq := eqOk
theorem ctxOkF {l : List (Nat × Ct)} (h : GOk l) (fz : List (Nat × List Nat)) : CtxOk Try.prog (ctxF l fz) := ctxOkP pgok_nil fvok_none h fz
theorem ctxOk {l : List (Nat × Ct)} (h : GOk l) : CtxOk Try.prog (ctxG l) := ctxOkF h []

/-- Safe, as a word that nobody unfolds. -/
structure SafeW {ρ₀ ρ : Type} (t : Tr ρ₀ ρ) : Prop where
  safe : t.safe
/-- Nothing is needed on any way; and what is needed, without the ways on which nothing is. -/
def Tr.triv {ρ₀ ρ : Type} : Tr ρ₀ ρ → Bool
  | .ret _ => true | .ite _ t e => andd t.triv e.triv | .need _ _ => false | .opt _ t => t.triv | .bad => false
def Tr.slim {ρ₀ ρ : Type} : Tr ρ₀ ρ → Prop
  | .ret _ => True
  | .ite c t e => match t.triv, e.triv with | true, true => True | true, false => (c = false → e.slim) | false, true => (c = true → t.slim) | false, false => (c = true → t.slim) ∧ (c = false → e.slim)
  | .need p t => match t.triv with | true => p | false => p ∧ t.slim
  | .opt o t => match t.triv with | true => True | false => (o = none → t.slim)
  | .bad => False
theorem Tr.triv_safe {ρ₀ ρ : Type} : ∀ {t : Tr ρ₀ ρ}, t.triv = true → t.safe
  | .ret _, _ => trivial
  | .ite c t e, h => by
    cases ht : t.triv with
    | false => simp [Tr.triv, ht, andd] at h
    | true =>
      cases he : e.triv with
      | false => simp [Tr.triv, ht, he, andd] at h
      | true => exact ⟨fun _ => Tr.triv_safe ht, fun _ => Tr.triv_safe he⟩
  | .need _ _, h => by cases h
  | .opt o t, h => fun _ => Tr.triv_safe h
  | .bad, h => by cases h
theorem Tr.slim_safe {ρ₀ ρ : Type} : ∀ {t : Tr ρ₀ ρ}, t.slim → t.safe
  | .ret _, _ => trivial
  | .ite c t e, h => by
    cases ht : t.triv with
    | false =>
      cases he : e.triv with
      | false =>
        simp only [Tr.slim, ht, he] at h
        exact ⟨fun z => Tr.slim_safe (h.1 z), fun z => Tr.slim_safe (h.2 z)⟩
      | true =>
        simp only [Tr.slim, ht, he] at h
        exact ⟨fun z => Tr.slim_safe (h z), fun _ => Tr.triv_safe he⟩
    | true =>
      cases he : e.triv with
      | false =>
        simp only [Tr.slim, ht, he] at h
        exact ⟨fun _ => Tr.triv_safe ht, fun z => Tr.slim_safe (h z)⟩
      | true => exact ⟨fun _ => Tr.triv_safe ht, fun _ => Tr.triv_safe he⟩
  | .need p t, h => by
    cases ht : t.triv with
    | false =>
      simp only [Tr.slim, ht] at h
      exact ⟨h.1, Tr.slim_safe h.2⟩
    | true =>
      simp only [Tr.slim, ht] at h
      exact ⟨h, Tr.triv_safe ht⟩
  | .opt o t, h => by
    cases ht : t.triv with
    | false =>
      simp only [Tr.slim, ht] at h
      exact fun z => Tr.slim_safe (h z)
    | true => exact fun _ => Tr.triv_safe ht
  | .bad, h => h.elim
theorem triv_of {ρ₀ ρ : Type} {t : Tr ρ₀ ρ} (h : t.triv = true) : SafeW t := SafeW.mk (Tr.triv_safe h)
theorem slim_of {ρ₀ ρ : Type} {t : Tr ρ₀ ρ} {S : Prop} (h : t.slim = S) (k : S) : SafeW t := ⟨Tr.slim_safe (h ▸ k)⟩
theorem safe_of {ρ₀ ρ : Type} {t : Tr ρ₀ ρ} {S : Prop} (h : t.safe = S) (k : S) : SafeW t := ⟨h ▸ k⟩
theorem safe_pre {α : Type} {A pre Q : α → Prop} (h : ∀ x, A x → pre x → Q x) : ∀ x, A x → (∀ q, some pre = some q → q x) → Q x := fun x fx hq => h x fx (hq _ rfl)
theorem safe_no {α : Type} {A Q : α → Prop} {pre : Option (α → Prop)} (h : ∀ x, A x → Q x) : ∀ x, A x → (∀ q, pre = some q → q x) → Q x := fun x fx _ => h x fx
theorem fn_okU {C : Ctx} (hC : CtxOk Try.prog C) (hG : C.G = gdS) {f : FuncId} {fn : Func} (hf : Try.prog.funcs[f]? = some fn) {p : Ty} {psh : List (Option Nat)} {r : Ty} {rsh : Rsh} {pre : Option (p.den → Prop)} {fresh : Option Nat} {F : p.den → r.den} {L : Nat → Option (LS r.den)} {c : Code} (hb : fn.body = some c) {dflt : r.den}
    (hL : ∀ body ∈ loopsIn c, ∀ s, L (codeId body) = some s → LoopOk Try.prog C.G (RetAt Try.prog fn rsh fresh r) body s)
    (hsafe : ∀ x, Fit p x → (∀ q, pre = some q → q x) → SafeW (evFn C fn p psh rsh fresh r L x))
    (hval : ∀ x, (evFn C fn p psh rsh fresh r L x).val (fun y => y) dflt = F x) : CtOk Try.prog gdS f { p := p, psh := psh, r := r, rsh := rsh, pre := pre, fresh := fresh, F := F } :=
  hG ▸ fn_ok (ct := { p := p, psh := psh, r := r, rsh := rsh, pre := pre, fresh := fresh, F := F }) hC hf hb hL (fun x h1 h2 => (hsafe x h1 h2).safe) hval

theorem safe_preP {α : Type} {A Q : α → Prop} {B : Prop} {pre : α → Prop} (hb : B) (h : ∀ x, A x → pre x → Q x) : ∀ x, (B → A x) → (∀ q, some pre = some q → q x) → Q x := fun x fx hq => h x (fx hb) (hq _ rfl)
theorem safe_noP {α : Type} {A Q : α → Prop} {B : Prop} {pre : Option (α → Prop)} (hb : B) (h : ∀ x, A x → Q x) : ∀ x, (B → A x) → (∀ q, pre = some q → q x) → Q x := fun x fx _ => h x (fx hb)
theorem safe_preX {α : Type} {A Q : α → Prop} {B : Prop} {pre : α → Prop} (h : ∀ x, pre x → Q x) : ∀ x, (B → A x) → (∀ q, some pre = some q → q x) → Q x := fun x _ hq => h x (hq _ rfl)
theorem safe_noX {α : Type} {A Q : α → Prop} {B : Prop} {pre : Option (α → Prop)} (h : ∀ x, Q x) : ∀ x, (B → A x) → (∀ q, pre = some q → q x) → Q x := fun x _ _ => h x
theorem fn_okPU {C : Ctx} (hC : CtxOk Try.prog C) (hG : C.G = gdS) {f : FuncId} {fn : Func} (hf : Try.prog.funcs[f]? = some fn) (cp : Cp) {L : Nat → Option (LS Unit)} {c : Code} (hb : fn.body = some c) {dflt : cp.r.den × cp.q.den}
    (hL : ∀ body ∈ loopsIn c, ∀ s, L (codeId body) = some s → LoopOk Try.prog C.G (fun _ _ (_ : Unit) _ _ => False) body s)
    (hsafe : ∀ x, (cp.ex = false → Fit cp.p x) → (∀ q, cp.pre = some q → q x) → SafeW (evFnP C fn cp.p cp.psh cp.mask cp.sz cp.ro cp.ex cp.q cp.rsh cp.r L x))
    (hval : ∀ x, (evFnP C fn cp.p cp.psh cp.mask cp.sz cp.ro cp.ex cp.q cp.rsh cp.r L x).val (fun _ => dflt) dflt = cp.F x) : CpOk Try.prog gdS f cp :=
  hG ▸ fn_okP hC hf hb hL (fun x h1 h2 => (hsafe x h1 h2).safe) hval

/-! ### Loops by their rounds -/
end Go.Proofs.Ytghlpolodjlgjaa.Sy
namespace Go.Proofs.Ytghlpolodjlgjaa.Sp
open Go Go.Proofs.Ytghlpolodjlgjaa.Sy
theorem wrap_i64_of {x : Int} (h0 : -9223372036854775808 ≤ x) (h1 : x ≤ 9223372036854775807) : IntKind.i64.wrap x = x := by rw [IntKind.wrap_i64]; omega
theorem tmod_ite (a n : Int) : Int.tmod a n = if 0 ≤ a then a % n else -((-a) % n) := by
  split
  · exact Int.tmod_eq_emod_of_nonneg (by assumption)
  · have h : a = -(-a) := by omega
    conv => lhs; rw [h]
    rw [Int.neg_tmod, Int.tmod_eq_emod_of_nonneg (by omega)]
theorem tdiv_ite (a n : Int) : Int.tdiv a n = if 0 ≤ a then a / n else -((-a) / n) := by
  split
  · exact Int.tdiv_eq_ediv_of_nonneg (by assumption)
  · have h : a = -(-a) := by omega
    conv => lhs; rw [h]
    rw [Int.neg_tdiv, Int.tdiv_eq_ediv_of_nonneg (by omega)]
theorem tmod_nn {a b : Int} (h : 0 ≤ a) : 0 ≤ Int.tmod a b := by rw [Int.tmod_eq_emod_of_nonneg h]; exact (Int.lt_or_le 0 b).elim (fun hb => Int.emod_nonneg _ (by omega)) (fun hb => by
  by_cases h0 : b = 0
  · subst h0; simpa using h
  · exact Int.emod_nonneg _ h0)
theorem tmod_lt {a b : Int} (h : 0 ≤ a) (hb : 0 < b) : Int.tmod a b < b := by rw [Int.tmod_eq_emod_of_nonneg h]; exact Int.emod_lt_of_pos _ hb
theorem tmod_lit (a : Int) (n : Nat) {inst : OfNat Int n} : Int.tmod a (no_index (@OfNat.ofNat Int n inst)) = if 0 ≤ a then a % (@OfNat.ofNat Int n inst) else -((-a) % (@OfNat.ofNat Int n inst)) := tmod_ite _ _
theorem tdiv_lit (a : Int) (n : Nat) {inst : OfNat Int n} : Int.tdiv a (no_index (@OfNat.ofNat Int n inst)) = if 0 ≤ a then a / (@OfNat.ofNat Int n inst) else -((-a) / (@OfNat.ofNat Int n inst)) := tdiv_ite _ _
theorem wrap_u8_of {x : Int} (h0 : 0 ≤ x) (h1 : x ≤ 255) : IntKind.u8.wrap x = x := by rw [IntKind.wrap_u8]; omega
theorem wrap_u32_of {x : Int} (h0 : 0 ≤ x) (h1 : x ≤ 4294967295) : IntKind.u32.wrap x = x := by rw [IntKind.wrap_u32]; omega
theorem wrap_u64_of {x : Int} (h0 : 0 ≤ x) (h1 : x ≤ 18446744073709551615) : IntKind.u64.wrap x = x := by rw [IntKind.wrap_u64]; omega
/-- The variables behind so many rounds. -/
def endOf {K X ρ : Type} (step : K → X → BOut K X ρ) (k : K) : Nat → X → X
  | 0, x => x
  | n + 1, x => match step k x with | .next _ y => endOf step k n y | .brk _ y => y | .ret _ => x
/-- What a round returned. -/
def retOf {K X ρ : Type} (step : K → X → BOut K X ρ) (k : K) : Nat → X → Option ρ
  | 0, _ => none
  | n + 1, x => match step k x with | .next _ y => retOf step k n y | .brk _ _ => none | .ret r => some r
end Go.Proofs.Ytghlpolodjlgjaa.Sp
namespace Go.Proofs.Ytghlpolodjlgjaa.Sy
open Go Go.RowKit Sp

theorem endOf_more {K X ρ : Type} {step : K → X → BOut K X ρ} {k : K} {I : X → Prop} {μ : X → Nat} (h : ∀ x k' y, I x → step k x = .next k' y → I y ∧ μ y < μ x) :
    ∀ (n m : Nat) (x : X), I x → μ x < n → μ x < m → endOf step k n x = endOf step k m x ∧ retOf step k n x = retOf step k m x
  | 0, _, x, _, hn, _ => by omega
  | _ + 1, 0, x, _, _, hm => by omega
  | n + 1, m + 1, x, hi, hn, hm => by
    simp only [endOf, retOf]
    cases hs : step k x with
    | next k' y =>
      obtain ⟨h1, h2⟩ := h x k' y hi hs
      exact endOf_more h n m y h1 (by omega) (by omega)
    | brk k' y => exact ⟨rfl, rfl⟩
    | ret r => exact ⟨rfl, rfl⟩

/-- A loop as its rounds say. -/
def mkLS {ρ : Type} (K X : Ty) (ks : List (Nat × Option Nat)) (kb : List (Nat × Nat)) (xs : List (Nat × Option Nat)) (xb : List (Nat × Nat)) (vecs : List (Nat × Nat × Bool × Nat)) (fz : List Nat) (ptrs : List (Nat × Nat)) (exit : Nat) (rets : Bool)
    (inv : K.den → X.den → Prop) (step : K.den → X.den → BOut K.den X.den ρ) (μ : K.den → X.den → Nat) : LS ρ :=
  { K := K, X := X, ks := ks, kb := kb, xs := xs, xb := xb, vecs := vecs, fz := fz, ptrs := ptrs, exit := exit, inv := some inv,
    G := fun k x => endOf step k (Nat.succ (μ k x)) x, R := cnd rets (some fun k x => retOf step k (Nat.succ (μ k x)) x) none }

def StepOk {K X ρ : Type} (rets : Bool) (inv : K → X → Prop) (μ : K → X → Nat) (k : K) (x : X) : BOut K X ρ → Prop
  | .next k' y => k' = k ∧ inv k y ∧ μ k y < μ k x
  | .brk k' _ => k' = k
  | .ret _ => rets = true

theorem StepOk.cnd {K X ρ : Type} {rets : Bool} {inv : K → X → Prop} {μ : K → X → Nat} {k : K} {x : X} {c : Bool} {a b : BOut K X ρ} (ha : c = true → StepOk rets inv μ k x a) (hb : c = false → StepOk rets inv μ k x b) :
    StepOk rets inv μ k x (bif c then a else b) := by cases c; exact hb rfl; exact ha rfl
theorem StepOk.opt {K X ρ : Type} {inv : K → X → Prop} {μ : K → X → Nat} {k : K} {x : X} {o : Option ρ} {a : BOut K X ρ} (ha : o = none → StepOk true inv μ k x a) :
    StepOk true inv μ k x (Sp.optR o BOut.ret a) := by cases o; exact ha rfl; exact rfl

theorem loop_run0 {P : Program} {C : Ctx} (hC : CtxOk P C) {ρ : Type} {Ret : Nat → (Nat → Nat → Prop) → ρ → Act → World → Prop} {ret : ASt → Tr ρ ρ} (hmono : ∀ n X X' r a w, (∀ b p, X' b p → X b p) → Ret n X r a w → Ret n X' r a w)
    (hret : ∀ (φ : Fr) st a w r, Sat φ ν0 st a w → ret st = .ret r → Ret φ.n0 φ.X0 r a w) {L : Nat → Option (LS ρ)} {body : Code} {K X : Ty} {ks : List (Nat × Option Nat)} {kb : List (Nat × Nat)} {xs : List (Nat × Option Nat)} {xb : List (Nat × Nat)} {vecs : List (Nat × Nat × Bool × Nat)} {fz : List Nat} {ptrs : List (Nat × Nat)} {exit : Nat} {rets : Bool}
    {inv : K.den → X.den → Prop} {step : K.den → X.den → BOut K.den X.den ρ} {μ : K.den → X.den → Nat} {d : BOut K.den X.den ρ}
    (hL : ∀ b ∈ loopsIn body, ∀ s', L (codeId b) = some s' → LoopOk P C.G Ret b s')
    (hsafe : ∀ kv xv, Fit K kv → Fit X xv → inv kv xv → SafeW (evCode C L body (tmpl (mkLS K X ks kb xs xb vecs fz ptrs exit rets inv step μ) (enc K kv) (enc X xv)) (evRound (mkLS K X ks kb xs xb vecs fz ptrs exit rets inv step μ) ret)))
    (hval : ∀ kv xv, (evCode C L body (tmpl (mkLS K X ks kb xs xb vecs fz ptrs exit rets inv step μ) (enc K kv) (enc X xv)) (evRound (mkLS K X ks kb xs xb vecs fz ptrs exit rets inv step μ) ret)).val BOut.ret d = step kv xv)
    (hstep : ∀ kv xv, Fit K kv → inv kv xv → StepOk rets inv μ kv xv (step kv xv)) :
    LoopOk P C.G Ret body (mkLS K X ks kb xs xb vecs fz ptrs exit rets inv step μ) := by
  have key : ∀ (kv : K.den) (xv : X.den), Fit K kv → Fit X xv → inv kv xv → (evCode C L body (tmpl (mkLS K X ks kb xs xb vecs fz ptrs exit rets inv step μ) (enc K kv) (enc X xv)) (evRound (mkLS K X ks kb xs xb vecs fz ptrs exit rets inv step μ) ret)).All BOut.ret
      (RoundOk (mkLS K X ks kb xs xb vecs fz ptrs exit rets inv step μ) μ kv xv) := by
    intro kv xv hfK hfX hi
    refine All.mono (fun o ho => ?_) (all_of_safe (rt := BOut.ret) (d := d) (hsafe kv xv hfK hfX hi).safe)
    have ho : o = step kv xv := ho.trans (hval kv xv)
    subst ho
    have hs := hstep kv xv hfK hi
    have hmore : ∀ y, inv kv y → μ kv y < μ kv xv → endOf step kv (Nat.succ (μ kv y)) y = endOf step kv (μ kv xv) y ∧ retOf step kv (Nat.succ (μ kv y)) y = retOf step kv (μ kv xv) y := fun y hy hlt =>
      endOf_more (I := inv kv) (μ := μ kv) (fun x k' z hx hz => by have := hstep kv x hfK hx; rw [hz] at this; exact this.2) _ _ y hy (by omega) (by omega)
    cases hc : step kv xv with
    | next k y =>
      rw [hc] at hs
      obtain ⟨h1, h2, h3⟩ := hs
      refine ⟨h1, fun p hp => by cases hp; exact h2, h3, ?_, fun R hR => ?_⟩
      · show endOf step kv (Nat.succ (μ kv y)) y = endOf step kv (Nat.succ (μ kv xv)) xv
        rw [(hmore y h2 h3).1]
        simp only [endOf, hc]
      · cases rets with
        | false => cases hR
        | true =>
          cases hR
          show retOf step kv (Nat.succ (μ kv y)) y = retOf step kv (Nat.succ (μ kv xv)) xv
          rw [(hmore y h2 h3).2]
          simp only [retOf, hc]
    | brk k y =>
      rw [hc] at hs
      refine ⟨hs, ?_, fun R hR => ?_⟩
      · show endOf step kv (Nat.succ (μ kv xv)) xv = y
        simp only [endOf, hc]
      · cases rets with
        | false => cases hR
        | true =>
          cases hR
          show retOf step kv (Nat.succ (μ kv xv)) xv = none
          simp only [retOf, hc]
    | ret z =>
      rw [hc] at hs
      cases rets with
      | false => cases hs
      | true =>
        refine ⟨_, rfl, ?_⟩
        show retOf step kv (Nat.succ (μ kv xv)) xv = some z
        simp only [retOf, hc]
  exact loop_ok hC hmono (ret := ret) hret hL μ (fun kv xv hfK hfX hi => key kv xv hfK hfX (hi inv rfl))

theorem loop_run {P : Program} {C : Ctx} (hC : CtxOk P C) {fn : Func} {rsh : Rsh} {fr : Option Nat} {r : Ty} {L : Nat → Option (LS r.den)} {body : Code} {K X : Ty} {ks : List (Nat × Option Nat)} {kb : List (Nat × Nat)} {xs : List (Nat × Option Nat)} {xb : List (Nat × Nat)} {vecs : List (Nat × Nat × Bool × Nat)} {fz : List Nat} {ptrs : List (Nat × Nat)} {exit : Nat} {rets : Bool}
    {inv : K.den → X.den → Prop} {step : K.den → X.den → BOut K.den X.den r.den} {μ : K.den → X.den → Nat} {d : BOut K.den X.den r.den}
    (hL : ∀ b ∈ loopsIn body, ∀ s', L (codeId b) = some s' → LoopOk P C.G (RetAt P fn rsh fr r) b s')
    (hsafe : ∀ kv xv, Fit K kv → Fit X xv → inv kv xv → SafeW (evCode C L body (tmpl (mkLS K X ks kb xs xb vecs fz ptrs exit rets inv step μ) (enc K kv) (enc X xv)) (evRound (mkLS K X ks kb xs xb vecs fz ptrs exit rets inv step μ) (evRet C fn rsh fr r .ret))))
    (hval : ∀ kv xv, (evCode C L body (tmpl (mkLS K X ks kb xs xb vecs fz ptrs exit rets inv step μ) (enc K kv) (enc X xv)) (evRound (mkLS K X ks kb xs xb vecs fz ptrs exit rets inv step μ) (evRet C fn rsh fr r .ret))).val BOut.ret d = step kv xv)
    (hstep : ∀ kv xv, Fit K kv → inv kv xv → StepOk rets inv μ kv xv (step kv xv)) :
    LoopOk P C.G (RetAt P fn rsh fr r) body (mkLS K X ks kb xs xb vecs fz ptrs exit rets inv step μ) :=
  loop_run0 hC (fun n X X' r a w h hr => hr.mono h) (ret := evRet C fn rsh fr r .ret) (fun φ st a w r hs hr => by
    obtain ⟨m, hm⟩ := hs
    obtain ⟨_, y, hy, h⟩ := evRet_ok (Post := fun y => y = r) hC hm (by rw [hr]; exact rfl)
    subst hy
    exact h) hL hsafe hval hstep

theorem loop_runP {P : Program} {C : Ctx} (hC : CtxOk P C) {L : Nat → Option (LS Unit)} {body : Code} {K X : Ty} {ks : List (Nat × Option Nat)} {kb : List (Nat × Nat)} {xs : List (Nat × Option Nat)} {xb : List (Nat × Nat)} {vecs : List (Nat × Nat × Bool × Nat)} {fz : List Nat} {ptrs : List (Nat × Nat)} {exit : Nat} {rets : Bool}
    {inv : K.den → X.den → Prop} {step : K.den → X.den → BOut K.den X.den Unit} {μ : K.den → X.den → Nat} {d : BOut K.den X.den Unit}
    (hL : ∀ b ∈ loopsIn body, ∀ s', L (codeId b) = some s' → LoopOk P C.G (fun _ _ (_ : Unit) _ _ => False) b s')
    (hsafe : ∀ kv xv, Fit K kv → Fit X xv → inv kv xv → SafeW (evCode C L body (tmpl (mkLS K X ks kb xs xb vecs fz ptrs exit rets inv step μ) (enc K kv) (enc X xv)) (evRound (mkLS K X ks kb xs xb vecs fz ptrs exit rets inv step μ) (fun _ => .bad))))
    (hval : ∀ kv xv, (evCode C L body (tmpl (mkLS K X ks kb xs xb vecs fz ptrs exit rets inv step μ) (enc K kv) (enc X xv)) (evRound (mkLS K X ks kb xs xb vecs fz ptrs exit rets inv step μ) (fun _ => .bad))).val BOut.ret d = step kv xv)
    (hstep : ∀ kv xv, Fit K kv → inv kv xv → StepOk rets inv μ kv xv (step kv xv)) :
    LoopOk P C.G (fun _ _ (_ : Unit) _ _ => False) body (mkLS K X ks kb xs xb vecs fz ptrs exit rets inv step μ) :=
  loop_run0 hC (fun n X X' r a w h hr => hr.elim) (ret := fun _ => .bad) (fun φ st a w r hs hr => by cases hr) hL hsafe hval hstep

def noL {ρ : Type} : Nat → Option (LS ρ) := fun _ => none
theorem no_loops {ρ : Type} {c : Code} {Q : Code → LS ρ → Prop} : ∀ body ∈ loopsIn c, ∀ s, noL (codeId body) = some s → Q body s := fun _ _ _ h => by cases h
def lookL {ρ : Type} : List (Nat × LS ρ) → Nat → Option (LS ρ)
  | [], _ => none
  | (i, s) :: r, t => cnd (Nat.beq t i) (some s) (lookL r t)
/-- A loop's body: the i-th loop of a code, and so on inside. -/
def bodyAt : Code → List Nat → Code
  | c, [] => c
  | c, i :: r => bodyAt ((loopsIn c).getD i .skip) r
def bodyOf (fn : Func) : Code := fn.body.getD .skip

section
variable {P : Program} {G : Gd} {ρ : Type} {Ret : Nat → (Nat → Nat → Prop) → ρ → Act → World → Prop} {L : Nat → Option (LS ρ)}
theorem loops_nil : ∀ body ∈ ([] : List Code), ∀ s, L (codeId body) = some s → LoopOk P G Ret body s := fun _ h => by cases h
theorem loops_cons {b : Code} {s0 : LS ρ} {rest : List Code} (h0 : L (codeId b) = some s0) (h1 : LoopOk P G Ret b s0)
    (h : ∀ body ∈ rest, ∀ s, L (codeId body) = some s → LoopOk P G Ret body s) : ∀ body ∈ b :: rest, ∀ s, L (codeId body) = some s → LoopOk P G Ret body s := by
  intro body hb s hs
  rcases List.mem_cons.1 hb with rfl | hb
  · rw [h0] at hs; cases hs; exact h1
  · exact h body hb s hs
theorem loops_of {c : Code} {l : List Code} (he : loopsIn c = l) (h : ∀ body ∈ l, ∀ s, L (codeId body) = some s → LoopOk P G Ret body s) : ∀ body ∈ loopsIn c, ∀ s, L (codeId body) = some s → LoopOk P G Ret body s := by rw [he]; exact h
end
end Go.Proofs.Ytghlpolodjlgjaa.Sy
