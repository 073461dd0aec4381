/- The symbolic evaluator is sound: code, with loops (own work). -/
import Derived.Test.YtghlpolodjlgjaaSv
import Derived.Deep.LoopGhost
namespace Go.Proofs.Ytghlpolodjlgjaa.Sy
open Go Go.RowKit
set_option linter.unusedVariables false
set_option linter.unusedSimpArgs false

abbrev ν0 : Nat → Bool := fun _ => false

section
variable {φ : Fr} {ν ν' : Nat → Bool} {m : Map} {st : ASt} {a : Act} {w w' : World} {own : List (Nat × Bool)} {W : List Nat} {P : Program} {C : Ctx} {o : Oper} {e : Eff}
  {K : Act → World → Prop} {Q : Exit → Act → World → Prop}

def Plain (st : ASt) : Prop := ∀ t g, st.slot t = some g → g.tags = []

theorem plain_slot {t : Nat} {g : GS} (h : st.plain.slot t = some g) : st.slot t = some g ∧ g.tags = [] := by
  simp only [ASt.plain] at h
  split at h
  · rename_i v hv; cases h; exact ⟨hv, rfl⟩
  · cases h

theorem plain_plain : Plain st.plain := fun t g h => (plain_slot h).2

theorem SatM.plain (h : SatM φ ν m st a w) : SatM φ ν' m st.plain a w :=
  { h with
    slot := fun t g hg _ => h.slot t g (plain_slot hg).1 (by rw [(plain_slot hg).2]; intro x hx; cases hx)
    skip := fun t g hg ht => absurd (by rw [(plain_slot hg).2]; intro x hx; cases hx) ht }

structure KeepW (φ : Fr) (w : World) : Prop where
  old : w.os = φ.w0.os ∧ w.tape = φ.w0.tape ∧ w.output = φ.w0.output ∧ φ.w0.heap.size ≤ w.heap.size
  keep : ∀ b, b < φ.w0.heap.size → ¬ φ.B b → w.heap[b]? = φ.w0.heap[b]?
  keepS : ∀ b, b < φ.w0.heap.size → w.shape? b = φ.w0.shape? b ∧ ∀ p, w.frozen? ⟨b, p, none⟩ = φ.w0.frozen? ⟨b, p, none⟩

theorem SatM.keepW (h : SatM φ ν m st a w) : KeepW φ w := ⟨h.old, h.keep, h.keepS⟩

def exOf : Ex → Exit
  | .normal => .normal | .exit id => .exit id | .ret => .ret

def loopsIn : Code → List Code
  | .seq a b => loopsIn a ++ loopsIn b | .cond _ a b => loopsIn a ++ loopsIn b | .block _ b => loopsIn b | .loop b => [b] | _ => []

/-- What a loop's contract says. -/
def LoopOk {ρ₀ : Type} (P : Program) (G : Gd) (Ret : Nat → (Nat → Nat → Prop) → ρ₀ → Act → World → Prop) (body : Code) (s : LS ρ₀) : Prop :=
  ∀ (kv : s.K.den) (xv : s.X.den) (φ : Fr) (a : Act) (w : World), FrOk G φ → (∀ p, s.inv = some p → p kv xv) → Fit s.K kv → Fit s.X xv → (∀ d ∈ dsts body, d < φ.n ∧ φ.D d = true) → Sat φ ν0 (tmpl s (enc s.K kv) (enc s.X xv)) a w →
    (Code.loop body).wp P (fun e a' w' => match e with
      | .exit id => id = s.exit ∧ (∀ R, s.R = some R → R kv xv = none) ∧ Sat φ ν0 (tmpl s (enc s.K kv) (enc s.X (s.G kv xv))) a' w'
      | .ret => ∃ R r, s.R = some R ∧ R kv xv = some r ∧ Ret φ.n0 φ.X0 r a' w' ∧ KeepW φ w'
      | _ => False) a w

/-! ### What slots and boxes hold -/
def SlotVals (a : Act) : List (Nat × Option Nat) → List Value → Prop
  | [], vs => vs = []
  | (t, none) :: r, vs => ∃ vs', vs = a.tmps.getD t undef :: vs' ∧ SlotVals a r vs'
  | (t, some n) :: r, vs => ∃ ds vs' : List Value, a.tmps.getD t undef = .agg ds.toArray ∧ ds.length = n ∧ vs = ds ++ vs' ∧ SlotVals a r vs'

theorem rdS_ok (hs : SatM φ ν m st a w) : ∀ {l : List (Nat × Option Nat)} {cs : List Cell}, rdS st l = some cs → ∃ vs, SlotVals a l vs ∧ CRs m (XA φ m) w cs vs
  | [], cs, h => by simp only [rdS, Option.some.injEq] at h; subst h; exact ⟨[], rfl, trivial⟩
  | (t, sh) :: r, cs, h => by
    simp only [rdS] at h
    split at h
    case h_2 => cases h
    rename_i x cs' hx hr
    obtain ⟨vs', h1, h2⟩ := rdS_ok hs hr
    have hv := hs.slot t _ hx (fun x hx => by cases hx)
    split at h
    · rename_i c
      simp only [Option.some.injEq] at h
      subst h
      exact ⟨_ :: vs', ⟨vs', rfl, h1⟩, hv, h2⟩
    · rename_i n ds
      obtain ⟨hn, h⟩ := cnd_some h
      simp only [Option.some.injEq] at h
      subst h
      obtain ⟨us, hu, hus⟩ := hv
      have hn := beq_eq hn
      rw [len'_eq] at hn
      exact ⟨us.toList ++ vs', ⟨us.toList, vs', by rw [hu], by rw [← hn]; exact hus.length.symm, rfl, h1⟩, by rw [app_eq]; exact All2.append hus h2⟩
    · cases h

theorem SlotVals.len : ∀ {l : List (Nat × Option Nat)} {vs : List Value}, SlotVals a l vs → vs.length = shLen l
  | [], vs, h => by cases h; rfl
  | (t, none) :: r, vs, h => by obtain ⟨vs', rfl, h1⟩ := h; simp [shLen, h1.len]
  | (t, some n) :: r, vs, h => by obtain ⟨ds, vs', _, h2, rfl, h1⟩ := h; simp [shLen, h1.len, h2]

/-- A cell that tells of no box, but of rows that are named. -/
def Cell.free (ns : List Nat) : Cell → Bool
  | .box _ _ => false | .velem _ _ _ _ => false | .clo _ _ => false | .aelem _ _ _ _ _ => false | .vref _ k => mem k ns | .lst _ tl _ => (match tl with | .no => true | _ => false) | _ => true

theorem CR.free {ns : List Nat} {m m' : Map} {X : Nat → Nat → Prop} {c : Cell} {v : Value} (hm : ∀ k ∈ ns, m' k = m k) (hf : c.free ns = true) (h : CR m X w c v) : CR m' X w c v := by
  cases c with
  | box k off => cases hf
  | velem t k i off => cases hf
  | clo f ks => cases hf
  | aelem k off e len i => cases hf
  | vref t k =>
    obtain ⟨b, p, h1, h2⟩ := h
    exact ⟨b, p, (hm k (mem_spec.1 hf)).trans h1, h2⟩
  | lst t tl l =>
    cases tl with
    | no => exact h
    | exact => cases hf
  | _ => exact h

theorem enc_free (ns : List Nat) : ∀ (t : Ty) (x : t.den), ∀ c ∈ enc t x, c.free ns = true := by
  intro t
  induction t with
  | pair a b iha ihb =>
    intro x c hc
    simp only [enc, app_eq, List.mem_append] at hc
    rcases hc with hc | hc
    · exact iha _ _ hc
    · exact ihb _ _ hc
  | unit => intro x c hc; cases hc
  | _ => intro x c hc; simp only [enc, List.mem_singleton] at hc; subst hc; rfl

theorem lookV_mem : ∀ {vs : List (Nat × Nat × Bool × Nat)} {i k T : Nat} {o : Bool}, lookV vs i = some (k, o, T) → k ∈ vnames vs
  | [], _, _, _, _, h => by cases h
  | (p, k', o', T') :: r, i, k, T, o, h => by
    simp only [lookV] at h
    by_cases hi : i = p
    · rw [cnd_beq_true hi] at h; cases h; simp [vnames]
    · rw [cnd_beq_false hi] at h; simp [vnames, lookV_mem h]

theorem vxC_free {ns : List Nat} {vs : List (Nat × Nat × Bool × Nat)} (hns : ∀ k ∈ vnames vs, k ∈ ns) : ∀ {cs : List Cell} {i : Nat}, (∀ c ∈ cs, c.free ns = true) → ∀ c ∈ vxC vs i cs, c.free ns = true
  | [], _, _, c, hc => by cases hc
  | c0 :: cs, i, hf, c, hc => by
    simp only [vxC, List.mem_cons] at hc
    rcases hc with hc | hc
    · subst hc
      split
      · rename_i k o T hl
        split
        · exact mem_spec.2 (hns _ (lookV_mem hl))
        · exact hf c0 (by simp)
      · exact hf c0 (by simp)
    · exact vxC_free hns (fun c hc => hf c (by simp [hc])) c hc

def freeTV (ns : List Nat) : TV → Prop
  | .v (.one c) => c.free ns = true | .v (.agg cs) => ∀ c ∈ cs, c.free ns = true | .tup _ => False

theorem All2.imp {α β : Type} {R S : α → β → Prop} {p : α → Prop} (h : ∀ a b, p a → R a b → S a b) : ∀ {as : List α} {bs : List β}, (∀ x ∈ as, p x) → All2 R as bs → All2 S as bs
  | [], [], _, _ => trivial
  | x :: _, _ :: _, hp, hh => ⟨h _ _ (hp x (by simp)) hh.1, All2.imp h (fun y hy => hp y (by simp [hy])) hh.2⟩
  | [], _ :: _, _, hh => hh.elim
  | _ :: _, [], _, hh => hh.elim

theorem VR.free {ns : List Nat} {m m' : Map} {X : Nat → Nat → Prop} {tv : TV} {v : Value} (hm : ∀ k ∈ ns, m' k = m k) (hf : freeTV ns tv) (h : VR m X w tv v) : VR m' X w tv v := by
  cases tv with
  | tup xs => cases hf
  | v s =>
    cases s with
    | one c => exact CR.free hm hf h
    | agg cs => obtain ⟨vs, rfl, h2⟩ := h; exact ⟨vs, rfl, h2.imp (p := fun c => c.free ns = true) (fun a b hp => CR.free hm hp) (show ∀ c ∈ cs, c.free ns = true from hf)⟩

theorem slotsOf_ok {ns : List Nat} {X : Nat → Nat → Prop} {rest : List Value} : ∀ {l : List (Nat × Option Nat)} {cs : List Cell} {vs : List Value} {u : Nat} {g : GS}, SlotVals a l vs → CRs m X w cs (vs ++ rest) → slotsOf l cs u = some g →
    g.tags = [] ∧ VR m X w g.tv (a.tmps.getD u undef) ∧ ((∀ c ∈ cs, c.free ns = true) → freeTV ns g.tv) ∧ u ∈ firsts l
  | [], cs, vs, u, g, _, _, h => by cases h
  | (t, none) :: r, [], vs, u, g, hv, hc, h => by
    obtain ⟨vs', rfl, h1⟩ := hv
    cases hc
  | (t, none) :: r, c :: cs, vs, u, g, hv, hc, h => by
    obtain ⟨vs', rfl, h1⟩ := hv
    simp only [slotsOf] at h
    by_cases hut : u = t
    · rw [cnd_beq_true hut] at h
      cases h
      subst hut
      exact ⟨rfl, hc.1, fun hf => hf c (by simp), by simp [firsts]⟩
    · rw [cnd_beq_false hut] at h
      obtain ⟨h2, h3, h4, h5⟩ := slotsOf_ok h1 hc.2 h
      exact ⟨h2, h3, fun hf => h4 fun c hc => hf c (by simp [hc]), by simp [firsts, h5]⟩
  | (t, some n) :: r, cs, vs, u, g, hv, hc, h => by
    obtain ⟨ds, vs', hu, hl, rfl, h1⟩ := hv
    have h3 := All2.take n hc
    have h4 := All2.drop n hc
    rw [List.append_assoc, show (ds ++ (vs' ++ rest)).take n = ds by rw [← hl]; simp] at h3
    rw [List.append_assoc, show (ds ++ (vs' ++ rest)).drop n = vs' ++ rest by rw [← hl]; simp] at h4
    simp only [slotsOf] at h
    by_cases hut : u = t
    · rw [cnd_beq_true hut] at h
      cases h
      subst hut
      exact ⟨rfl, by rw [hu]; exact ⟨_, rfl, by simpa [CRs] using h3⟩, fun hf c hc => hf c (List.mem_of_mem_take hc), by simp [firsts]⟩
    · rw [cnd_beq_false hut] at h
      obtain ⟨h2, h5, h6, h7⟩ := slotsOf_ok h1 h4 h
      exact ⟨h2, h5, fun hf => h6 fun c hc => hf c (List.mem_of_mem_drop hc), by simp [firsts, h7]⟩

theorem rdB_ok (hs : SatM φ ν m st a w) : ∀ {l : List (Nat × Nat)} {cs : List Cell}, rdB st l = some cs → ∃ vs, BoxVals m w l vs ∧ CRs m (XA φ m) w cs vs ∧ ∀ k ∈ firsts l, st.box k ≠ none
  | [], cs, h => by simp only [rdB, Option.some.injEq] at h; subst h; exact ⟨[], rfl, trivial, fun k hk => by cases hk⟩
  | (k, n) :: r, cs, h => by
    simp only [rdB] at h
    have main : ∀ ds cs' , (st.box k = some (.cells ds) ∨ st.box k = some (.ro ds)) → rdB st r = some cs' → cnd (Nat.beq (len' ds) n) (some (app ds cs')) none = some cs →
        ∃ vs, BoxVals m w ((k, n) :: r) vs ∧ CRs m (XA φ m) w cs vs ∧ ∀ j ∈ firsts ((k, n) :: r), st.box j ≠ none := by
      intro ds cs' hb hr h
      obtain ⟨vs', h1, h2, h3⟩ := rdB_ok hs hr
      obtain ⟨hn, h⟩ := cnd_some h
      simp only [Option.some.injEq] at h
      subst h
      have : ∃ b vs T, m k = some (b, 0) ∧ w.heap[b]? = some (.cells vs T (0, 0)) ∧ CRs m (XA φ m) w ds vs.toList := by
        rcases hb with hb | hb
        · exact hs.box k _ hb
        · exact hs.box k _ hb
      obtain ⟨b, us, T, hm, hh, hus⟩ := this
      have hn := beq_eq hn
      rw [len'_eq] at hn
      refine ⟨us.toList ++ vs', ⟨b, us, T, vs', hm, hh, by rw [← hn]; simpa using hus.length.symm, rfl, h1⟩, by rw [app_eq]; exact All2.append hus h2, fun j hj => ?_⟩
      simp only [firsts, List.mem_cons] at hj
      rcases hj with rfl | hj
      · rcases hb with hb | hb <;> (rw [hb]; simp)
      · exact h3 j hj
    split at h
    · rename_i ds cs' hb hr; exact main ds cs' (.inl hb) hr h
    · rename_i ds cs' hb hr; exact main ds cs' (.inr hb) hr h
    · cases h

theorem boxesOf_ok {ns : List Nat} {X : Nat → Nat → Prop} {mk : List Cell → Bx} {rest : List Value} : ∀ {l : List (Nat × Nat)} {cs : List Cell} {vs : List Value} {u : Nat} {bx : Bx}, BoxVals m w l vs → CRs m X w cs (vs ++ rest) → boxesOf mk l cs u = some bx →
    ∃ cs', bx = mk cs' ∧ (∃ b us T, m u = some (b, 0) ∧ w.heap[b]? = some (.cells us T (0, 0)) ∧ CRs m X w cs' us.toList) ∧ ((∀ c ∈ cs, c.free ns = true) → ∀ c ∈ cs', c.free ns = true) ∧ u ∈ firsts l
  | [], cs, vs, u, bx, _, _, h => by cases h
  | (k, n) :: r, cs, vs, u, bx, hv, hc, h => by
    obtain ⟨b, us, T, vs', hm, hh, hl, rfl, h1⟩ := hv
    have h3 := All2.take n hc
    have h4 := All2.drop n hc
    rw [List.append_assoc, show (us.toList ++ (vs' ++ rest)).take n = us.toList by rw [← hl]; simp] at h3
    rw [List.append_assoc, show (us.toList ++ (vs' ++ rest)).drop n = vs' ++ rest by rw [← hl]; simp] at h4
    simp only [boxesOf] at h
    by_cases hut : u = k
    · rw [cnd_beq_true hut] at h
      cases h
      subst hut
      exact ⟨_, rfl, ⟨b, us, T, hm, hh, h3⟩, fun hf c hc => hf c (List.mem_of_mem_take hc), by simp [firsts]⟩
    · rw [cnd_beq_false hut] at h
      obtain ⟨cs', h5, h6, h7, h8⟩ := boxesOf_ok h1 h4 h
      exact ⟨cs', h5, h6, fun hf => h7 fun c hc => hf c (List.mem_of_mem_drop hc), by simp [firsts, h8]⟩

theorem boxesOf_some {mk : List Cell → Bx} : ∀ {l : List (Nat × Nat)} {cs : List Cell} {u : Nat}, u ∈ firsts l → ∃ bx, boxesOf mk l cs u = some bx
  | [], _, _, h => by cases h
  | (k, n) :: r, cs, u, h => by
    simp only [boxesOf]
    by_cases hut : u = k
    · rw [cnd_beq_true hut]; exact ⟨_, rfl⟩
    · rw [cnd_beq_false hut]
      simp only [firsts, List.mem_cons] at h
      exact boxesOf_some (h.resolve_left hut)

theorem boxesOf_mem {mk : List Cell → Bx} : ∀ {l : List (Nat × Nat)} {cs : List Cell} {u : Nat} {bx : Bx}, boxesOf mk l cs u = some bx → u ∈ firsts l ∧ ∃ cs', bx = mk cs'
  | [], _, _, _, h => by cases h
  | (k, n) :: r, cs, u, bx, h => by
    simp only [boxesOf] at h
    by_cases hut : u = k
    · rw [cnd_beq_true hut] at h; cases h; exact ⟨by simp [firsts, hut], _, rfl⟩
    · rw [cnd_beq_false hut] at h
      obtain ⟨h1, h2⟩ := boxesOf_mem h
      exact ⟨by simp [firsts, h1], h2⟩

theorem ptrsOf_some : ∀ {l : List (Nat × Nat)} {u : Nat} {g : GS}, ptrsOf l u = some g → ∃ k, (u, k) ∈ l ∧ g = ⟨[], .v (.one (.box k 0))⟩
  | [], u, g, h => by cases h
  | (t, k) :: r, u, g, h => by
    simp only [ptrsOf] at h
    by_cases hut : u = t
    · rw [cnd_beq_true hut] at h; cases h; exact ⟨k, by simp [hut], rfl⟩
    · rw [cnd_beq_false hut] at h
      obtain ⟨k', h1, h2⟩ := ptrsOf_some h
      exact ⟨k', by simp [h1], h2⟩
theorem ptrsOf_in : ∀ {l : List (Nat × Nat)} {u k : Nat}, (u, k) ∈ l → ∃ g, ptrsOf l u = some g
  | [], u, k, h => by cases h
  | (t, j) :: r, u, k, h => by
    simp only [ptrsOf]
    by_cases hut : u = t
    · rw [cnd_beq_true hut]; exact ⟨_, rfl⟩
    · rw [cnd_beq_false hut]
      rcases List.mem_cons.1 h with h | h
      · cases h; exact absurd rfl hut
      · exact ptrsOf_in h

theorem chkP_spec {ds xs ids : List Nat} : ∀ {l : List (Nat × Nat)}, chkP st ds xs ids l = true → ∀ t k, (t, k) ∈ l → st.slot t = some ⟨[], .v (.one (.box k 0))⟩ ∧ t ∉ ds ∧ t ∉ xs ∧ k ∈ ids
  | [], _, t, k, h => by cases h
  | (t', k') :: r, hc, t, k, h => by
    simp only [chkP] at hc
    split at hc
    case h_2 => cases hc
    rename_i k2 off hsl
    obtain ⟨h1, h2⟩ := andd_true hc
    obtain ⟨h1a, h1b⟩ := andd_true h1
    obtain ⟨h2, h3⟩ := andd_true h2
    obtain ⟨h3, h4⟩ := andd_true h3
    obtain ⟨h4, h5⟩ := andd_true h4
    rcases List.mem_cons.1 h with h | h
    · cases h
      rw [beq_eq h1a, beq_eq h1b] at hsl
      exact ⟨hsl, fun hm => (by have := nott_true h2; rw [mem_spec.2 hm] at this; cases this), fun hm => (by have := nott_true h3; rw [mem_spec.2 hm] at this; cases this), mem_spec.1 h4⟩
    · exact chkP_spec h5 t k h

theorem firsts_mem {α : Type} : ∀ {l : List (Nat × α)} {t : Nat} {x : α}, (t, x) ∈ l → t ∈ firsts l
  | [], _, _, h => by cases h
  | (t', x') :: r, t, x, h => by
    rcases List.mem_cons.1 h with h | h
    · cases h; simp [firsts]
    · simp [firsts, firsts_mem h]
theorem seconds_mem : ∀ {l : List (Nat × Nat)} {k : Nat}, k ∈ seconds l → ∃ t, (t, k) ∈ l
  | [], _, h => by cases h
  | (t', k') :: r, k, h => by
    simp only [seconds, List.mem_cons] at h
    rcases h with rfl | h
    · exact ⟨t', by simp⟩
    · obtain ⟨t, ht⟩ := seconds_mem h; exact ⟨t, by simp [ht]⟩

theorem BoxVals.mem : ∀ {l : List (Nat × Nat)} {vs : List Value} {k : Nat}, BoxVals m w l vs → k ∈ firsts l → ∃ b, m k = some (b, 0)
  | [], _, _, _, h => by cases h
  | (k', n) :: r, vs, k, hv, h => by
    obtain ⟨b, us, T, vs', hm, _, _, _, h1⟩ := hv
    simp only [firsts, List.mem_cons] at h
    rcases h with rfl | h
    · exact ⟨b, hm⟩
    · exact BoxVals.mem h1 h

theorem BoxVals.re {m' : Map} : ∀ {l : List (Nat × Nat)} {vs : List Value}, (∀ k ∈ firsts l, m' k = m k) → BoxVals m w l vs → BoxVals m' w l vs
  | [], _, _, h => h
  | (k, n) :: r, vs, he, h => by
    obtain ⟨b, us, T, vs', hm, h1, h2, h3, h4⟩ := h
    exact ⟨b, us, T, vs', by rw [he k (by simp [firsts]), hm], h1, h2, h3, BoxVals.re (fun j hj => he j (by simp [firsts, hj])) h4⟩

theorem appO_spec {a b : Option (List Cell)} {c : List Cell} (h : appO a b = some c) : ∃ x y, a = some x ∧ b = some y ∧ c = x ++ y := by
  unfold appO at h
  split at h
  · rename_i x y; cases h; exact ⟨x, y, rfl, rfl, app_eq x y⟩
  · cases h

theorem orE_some {α : Type} {a b : Option α} {x : α} (h : orE a b = some x) : a = some x ∨ (a = none ∧ b = some x) := by
  cases a with
  | none => exact .inr ⟨rfl, h⟩
  | some y => exact .inl h

/-! ### Rows among the variables -/
theorem lookV_inj : ∀ {vs : List (Nat × Nat × Bool × Nat)}, nodup (vnames vs) = true → ∀ {i j k T T' : Nat} {o o' : Bool}, lookV vs i = some (k, o, T) → lookV vs j = some (k, o', T') → i = j
  | [], _, i, j, k, T, T', o, o', h, _ => by cases h
  | (p, k', o1, T1) :: r, hn, i, j, k, T, T', o, o', h1, h2 => by
    obtain ⟨hn1, hn2⟩ := nodup_cons (x := k') (r := vnames r) hn
    simp only [lookV] at h1 h2
    by_cases hi : i = p
    · by_cases hj : j = p
      · rw [hi, hj]
      · rw [cnd_beq_true hi] at h1
        rw [cnd_beq_false hj] at h2
        cases h1
        exact absurd (lookV_mem h2) hn1
    · rw [cnd_beq_false hi] at h1
      by_cases hj : j = p
      · rw [cnd_beq_true hj] at h2
        cases h2
        exact absurd (lookV_mem h1) hn1
      · rw [cnd_beq_false hj] at h2
        exact lookV_inj hn2 h1 h2

/-- Where the variables' rows lie. -/
structure VM (m : Map) (X : Nat → Nat → Prop) (w : World) (vs : List (Nat × Nat × Bool × Nat)) (i : Nat) (cs xc : List Cell) (us : List Value) (vm : Map) : Prop where
  from_ : ∀ k r, vm k = some r → ∃ j o T, i ≤ j ∧ lookV vs j = some (k, o, T)
  dom : ∀ k, vxB vs i (xc.map Cell.no) k = none → vm k = none
  box : ∀ k bx, vxB vs i (xc.map Cell.no) k = some bx → (∃ o T t l, bx = .vec o T t l) ∧ ∀ m' : Map, m' k = vm k → BoxOk m' X w k bx
  live : ∀ k b p, vm k = some (b, p) → p % 2 = 0 → ∃ k0 ∈ keysX vs i cs, m k0 = some (b, p) ∧ 0 < p
  inj : ∀ k k' b p p', vm k = some (b, p) → vm k' = some (b, p') → p % 2 = 0 → p' % 2 = 0 → k = k'
  cells : ∀ m' : Map, (∀ k, vm k ≠ none → m' k = vm k) → CRs m' X w (vxC vs i (xc.map Cell.no)) us

theorem CR.pl_no {m m' : Map} {X : Nat → Nat → Prop} {c : Cell} {v : Value} (hp : c.pl = true) (h : CR m X w c v) : CR m' X w c.no v := by
  cases c with
  | lst e tl l => exact ⟨h.1, trivial⟩
  | int k n => exact h
  | bool b => exact h
  | flt k n => exact h
  | str s => exact h
  | fn f => exact h
  | _ => cases hp

theorem unvX_ok (hs : SatM φ ν m st a w) {vs : List (Nat × Nat × Bool × Nat)} (hnd : nodup (vnames vs) = true) : ∀ {cs xc : List Cell} {us : List Value} {i : Nat}, unvX st vs i cs = some xc → (∀ c ∈ xc, c.pl = true) → nodup (keysX vs i cs) = true →
    CRs m (XA φ m) w cs us → (∃ vm, VM m (XA φ m) w vs i cs xc us vm) ∧ CRs m (Xc φ m (keysX vs i cs)) w xc us
  | [], xc, us, i, h, hpl, hk, hc => by
    simp only [unvX, Option.some.injEq] at h
    subst h
    match us, hc with
    | [], _ =>
      exact ⟨⟨fun _ => none, ⟨(fun k r h => by cases h), (fun _ _ => rfl), (fun k bx h => by cases h), (fun k b p h => by cases h), (fun k k' b p p' h => by cases h), (fun _ _ => trivial)⟩⟩, trivial⟩
  | c :: cs, xc, [], i, h, hpl, hk, hc => hc.elim
  | c :: cs, xc, u :: us, i, h, hpl, hk, hc => by
    simp only [unvX] at h
    split at h
    case h_1 => cases h
    rename_i r' hr'
    -- the rest
    have rest : ∀ {c' : Cell}, xc = c' :: r' → nodup (keysX vs (Nat.succ i) cs) = true → (∃ vm, VM m (XA φ m) w vs (Nat.succ i) cs r' us vm) ∧ CRs m (Xc φ m (keysX vs (Nat.succ i) cs)) w r' us := fun hx hk' =>
      unvX_ok hs hnd hr' (fun c hc => hpl c (by rw [hx]; simp [hc])) hk' hc.2
    split at h
    · rename_i key o T hlook
      -- a variable that is a row
      have hadd : ∀ {e : Ty} {l : List e.den} {b p : Nat} (c' : Cell), c'.no = .lst e .no l → xc = c' :: r' → (hk' : nodup (keysX vs (Nat.succ i) cs) = true) →
          (∀ m' : Map, m' key = some (b, p) → BoxOk m' (XA φ m) w key (.vec o T e l)) → (∀ m' : Map, m' key = some (b, p) → CR m' (XA φ m) w (.vref e key) u) →
          (p % 2 = 0 → ∃ k0, keysX vs i (c :: cs) = k0 :: keysX vs (Nat.succ i) cs ∧ m k0 = some (b, p) ∧ 0 < p) → (∀ k0 ∈ keysX vs (Nat.succ i) cs, k0 ∈ keysX vs i (c :: cs)) → ∃ vm, VM m (XA φ m) w vs i (c :: cs) xc (u :: us) vm := by
        intro e l b p c' hno hx hk' hbx hcr hlv hsub
        obtain ⟨⟨vm, hv⟩, _⟩ := rest hx hk'
        have hnot : vm key = none := by
          cases hq : vm key with
          | none => rfl
          | some r =>
            obtain ⟨j, o', T', hj, hl⟩ := hv.from_ key r hq
            have := lookV_inj hnd hlook hl
            omega
        refine ⟨fun k => if k = key then some (b, p) else vm k, ?_⟩
        have hne : ∀ k, vm k ≠ none → k ≠ key := fun k hk e => hk (e ▸ hnot)
        have hB : ∀ k, vxB vs i (xc.map Cell.no) k = if k = key then some (.vec o T e l) else vxB vs (Nat.succ i) (r'.map Cell.no) k := by
          intro k
          rw [hx]
          simp only [List.map_cons, vxB, hlook, hno]
          by_cases hkk : k = key
          · rw [cnd_beq_true hkk, if_pos hkk]
          · rw [cnd_beq_false hkk, if_neg hkk]
        refine ⟨fun k r hk => ?_, fun k hk => ?_, fun k bx hk => ?_, fun k b' p' hk hp => ?_, fun k k' b' p1 p2 h1 h2 h3 h4 => ?_, fun m' hm' => ?_⟩
        · by_cases hkk : k = key
          · exact ⟨i, o, T, Nat.le_refl _, hkk ▸ hlook⟩
          · simp only [if_neg hkk] at hk
            obtain ⟨j, o', T', hj, hl⟩ := hv.from_ k r hk
            exact ⟨j, o', T', by omega, hl⟩
        · rw [hB] at hk
          by_cases hkk : k = key
          · rw [if_pos hkk] at hk; cases hk
          · rw [if_neg hkk] at hk; simp only [if_neg hkk]; exact hv.dom k hk
        · rw [hB] at hk
          by_cases hkk : k = key
          · rw [if_pos hkk] at hk
            cases hk
            subst hkk
            exact ⟨⟨_, _, _, _, rfl⟩, fun m' hm' => hbx m' (by simpa using hm')⟩
          · rw [if_neg hkk] at hk
            obtain ⟨h1, h2⟩ := hv.box k bx hk
            exact ⟨h1, fun m' hm' => h2 m' (by simpa [hkk] using hm')⟩
        · by_cases hkk : k = key
          · simp only [if_pos hkk, Option.some.injEq, Prod.mk.injEq] at hk
            obtain ⟨rfl, rfl⟩ := hk
            obtain ⟨k0, h1, h2⟩ := hlv hp
            exact ⟨k0, by rw [h1]; simp, h2⟩
          · simp only [if_neg hkk] at hk
            obtain ⟨k0, h1, h2⟩ := hv.live k b' p' hk hp
            exact ⟨k0, hsub k0 h1, h2⟩
        · by_cases hkk : k = key <;> by_cases hkk' : k' = key
          · rw [hkk, hkk']
          · simp only [if_pos hkk, Option.some.injEq, Prod.mk.injEq] at h1
            obtain ⟨rfl, rfl⟩ := h1
            simp only [if_neg hkk'] at h2
            obtain ⟨k0, h5, h6, _⟩ := hlv h3
            obtain ⟨k1, h7, h8, _⟩ := hv.live k' _ p2 h2 h4
            have := hs.inj _ _ _ _ _ h6 h8 h3 h4
            subst this
            rw [h5] at hk
            exact absurd h7 (nodup_cons hk).1
          · simp only [if_pos hkk', Option.some.injEq, Prod.mk.injEq] at h2
            obtain ⟨rfl, rfl⟩ := h2
            simp only [if_neg hkk] at h1
            obtain ⟨k0, h5, h6, _⟩ := hlv h4
            obtain ⟨k1, h7, h8, _⟩ := hv.live k _ p1 h1 h3
            have := hs.inj _ _ _ _ _ h6 h8 h4 h3
            subst this
            rw [h5] at hk
            exact absurd h7 (nodup_cons hk).1
          · simp only [if_neg hkk] at h1
            simp only [if_neg hkk'] at h2
            exact hv.inj _ _ _ _ _ h1 h2 h3 h4
        · rw [hx]
          simp only [List.map_cons, vxC, hlook, hno]
          refine ⟨hcr m' ?_, hv.cells m' fun k hk => ?_⟩
          · have := hm' key (by simp)
            simpa using this
          · have := hm' k (by simp [hne k hk, hk])
            simpa [hne k hk] using this
      split at h
      · rename_i e k0 
        split at h
        case h_2 => cases h
        rename_i o' T' e' l hbx
        split at h
        case h_2 => cases h
        rename_i l' hl'
        obtain ⟨hcc, h⟩ := cnd_some h
        obtain ⟨hcT, hco⟩ := andd_true hcc
        have hcT := beq_eq hcT
        cases h
        obtain ⟨e0, hl2⟩ := castL_eq hl'
        subst e0
        simp only at hl2
        subst hl2
        subst hcT
        have hkeys : keysX vs i (.vref e' k0 :: cs) = k0 :: keysX vs (Nat.succ i) cs := by simp only [keysX, hlook]
        have hk' : nodup (keysX vs (Nat.succ i) cs) = true := by rw [hkeys] at hk; exact (nodup_cons hk).2
        obtain ⟨b, p, hm, hp, hval⟩ := hc.1
        obtain ⟨b', p', h1, h2⟩ := hs.box k0 _ hbx
        rw [hm] at h1
        cases h1
        refine ⟨hadd (b := b) (p := p) _ rfl rfl hk' (fun m' hm' => ⟨b, p, hm', ?_⟩) (fun m' hm' => ⟨b, p, hm', hp, hval⟩) (fun _ => ⟨k0, hkeys, hm, hp⟩) (fun k hk => by rw [hkeys]; simp [hk]), ?_, ?_⟩
        · rcases h2 with h2 | h2 | ⟨h3, h4⟩
          · exact .inl h2
          · exact .inr (.inl h2)
          · refine .inr (.inr ⟨?_, h4⟩)
            subst h3
            rcases orr_true hco with h5 | h5
            · exact nott_true h5
            · cases h5
        · rw [hkeys]
          exact unvC_ok hs (fr := false) (c := .vref e' k0) (by simp only [unvC, hbx, cnd, hl']) hc.1 (fun _ k hk => by simp [vksL] at hk; simp [hk])
        · rw [hkeys]
          exact ((rest rfl hk').2).mono (CR.mono keeps_same (fun b q _ hx => ⟨hx.1, fun k hk => hx.2 k (by simp [hk])⟩) (fun _ _ _ h => h))
      · rename_i e l
        obtain ⟨hcc, h⟩ := cnd_some h
        cases h
        have hkeys : keysX vs i (.lst e .exact l :: cs) = keysX vs (Nat.succ i) cs := by simp only [keysX, hlook]
        have hk' : nodup (keysX vs (Nat.succ i) cs) = true := by rw [hkeys] at hk; exact hk
        refine ⟨?_, ⟨hc.1.1.mono keeps_same Xc.less (TR.mono keeps_same Xc.less e), trivial⟩, by rw [hkeys]; exact (rest rfl hk').2⟩
        rcases hc.1.2 with ⟨rfl, hu⟩ | ⟨hne, b, T', hu, hsh⟩
        · exact hadd (b := 0) (p := 1) _ rfl rfl hk' (fun m' hm' => ⟨0, 1, hm', .inl ⟨rfl, rfl⟩⟩) (fun m' hm' => ⟨0, 1, hm', by omega, .inl ⟨rfl, hu⟩⟩) (fun h => by omega) (fun k hk => by rw [hkeys]; exact hk)
        · have ho : o = false := by
            rcases orr_true hcc with h5 | h5
            · exact nott_true h5
            · cases l with | nil => exact absurd rfl hne | cons => cases h5
          have hrows : RowsOk w (XA φ m) e.n (TR w (XA φ m) e) l b 0 ∧ l.length ≤ maxLen := by
            rcases hc.1.1 with ⟨h4, _⟩ | ⟨ad, cap, h4, h6, h7, _, h5⟩
            · exact absurd h4 hne
            · rw [hu] at h4; cases h4; exact ⟨h5, by omega⟩
          exact hadd (b := b) (p := 2 * l.length + 3) _ rfl rfl hk' (fun m' hm' => ⟨b, _, hm', .inr (.inr ⟨ho, rfl, hrows.1, T', hsh⟩)⟩)
            (fun m' hm' => ⟨b, _, hm', by omega, .inr ⟨by omega, l.length, T', by rw [vlen_dead]; exact hu, hsh, by rw [vlen_dead]; exact Nat.le_refl _, hrows.2⟩⟩) (fun h => by omega) (fun k hk => by rw [hkeys]; exact hk)
      · cases h
    · rename_i hlook
      -- another variable
      split at h
      case h_2 => cases h
      rename_i c' hc'
      cases h
      have hkeys : keysX vs i (c :: cs) = keysX vs (Nat.succ i) cs := by simp only [keysX, hlook]
      have hk' : nodup (keysX vs (Nat.succ i) cs) = true := by rw [hkeys] at hk; exact hk
      obtain ⟨⟨vm, hv⟩, hrc⟩ := rest rfl hk'
      have hcc := unvC_ok hs hc' hc.1 (ks := []) (fun h => by cases h)
      have hX : Xc φ m [] = XA φ m := by funext b q; simp [Xc]
      refine ⟨⟨vm, ⟨fun k r hk => ?_, fun k hk => ?_, fun k bx hk => ?_, fun k b p hk hp => ?_, hv.inj, fun m' hm' => ?_⟩⟩, ?_, by rw [hkeys]; exact hrc⟩
      · obtain ⟨j, o', T', hj, hl⟩ := hv.from_ k r hk
        exact ⟨j, o', T', by omega, hl⟩
      · exact hv.dom k (by simpa only [List.map_cons, vxB, hlook] using hk)
      · exact hv.box k bx (by simpa only [List.map_cons, vxB, hlook] using hk)
      · rw [hkeys]; exact hv.live k b p hk hp
      · simp only [List.map_cons, vxC, hlook]
        rw [hX] at hcc
        exact ⟨CR.pl_no (hpl c' (by simp)) hcc, hv.cells m' hm'⟩
      · exact CR.mono keeps_same (fun b q _ hx => ⟨hx.1, fun k hk => by cases hk⟩) (fun _ _ _ h => h) _ _ hcc

theorem vxB_name {vs : List (Nat × Nat × Bool × Nat)} : ∀ {cs : List Cell} {i k : Nat} {bx : Bx}, vxB vs i cs k = some bx → k ∈ vnames vs ∧ ∃ o T t l, bx = .vec o T t l
  | [], _, _, _, h => by cases h
  | c :: cs, i, k, bx, h => by
    simp only [vxB] at h
    split at h
    · rename_i k' o T hl
      split at h
      · rename_i e tl l
        by_cases hkk : k = k'
        · rw [cnd_beq_true hkk] at h; cases h; exact ⟨hkk ▸ lookV_mem hl, _, _, _, _, rfl⟩
        · rw [cnd_beq_false hkk] at h; exact vxB_name h
      · exact vxB_name h
    · exact vxB_name h
end
end Go.Proofs.Ytghlpolodjlgjaa.Sy
