/- From what came in to typed values, and from a contract to a call (own work). -/
import Derived.Test.YtghlpolodjlgjaaSf
import Derived.Test.YtghlpolodjlgjaaOp
namespace Go.Proofs.Ytghlpolodjlgjaa.Sy
open Go Go.RowKit
set_option linter.unusedVariables false
set_option linter.unusedSimpArgs false

/-- What every value that comes in meets: numbers of their kinds, no text and no list longer than memory. -/
def InR : (t : Ty) → t.den → Prop
  | .int k, x => (Lit.int k x).wf = true | .flt k, x => (Lit.float k x).wf = true | .str, s => s.size ≤ maxLen
  | .pair a b, x => InR a x.1 ∧ InR b x.2 | .sl e, l => l.length ≤ maxLen ∧ ∀ x ∈ l, InR e x | _, _ => True

theorem castL_refl (a : Ty) (l : List a.den) : castL a a l = some l := by
  unfold castL
  have : tyeq a a = true := by
    induction a with
    | int k => cases k <;> rfl
    | flt k => cases k <;> rfl
    | pair x y ihx ihy =>
      simp only [tyeq]
      rw [ihx ([] : List x.den)]
      exact ihy ([] : List y.den)
    | sl x ih => simp only [tyeq]; exact ih []
    | _ => rfl
  split
  · rfl
  · rename_i h; rw [this] at h; cases h

theorem keq_refl (k : IntKind) : keq k k = true := by cases k <;> rfl
theorem feq_refl (k : FloatKind) : feq k k = true := by cases k <;> rfl
theorem dec_enc : ∀ (t : Ty) (x : t.den), dec t (enc t x) = some x := by
  intro t
  induction t with
  | pair a b iha ihb =>
    intro x
    simp only [enc, dec, app_eq]
    have h1 := enc_len a x.1
    rw [List.take_append_of_le_length (by omega), List.take_of_length_le (by omega), List.drop_append_of_le_length (by omega), List.drop_of_length_le (by omega), List.nil_append, iha, ihb]
  | int k => intro x; simp only [enc, dec, keq_refl, cnd]
  | flt k => intro x; simp only [enc, dec, feq_refl, cnd]
  | sl e ih => intro l; simp only [enc, dec]; exact castL_refl e l
  | _ => intro x; rfl

theorem tr_of {w : World} {X : Nat → Nat → Prop} {t : Ty} {x : t.den} {vs : List Value} (h : CRs (fun _ => none) X w (enc t x) vs) : TR w X t x vs := dec_ok (dec_enc t x) h

theorem slice_tr {w : World} {C : Nat} {E : List Value → Prop} {e : Ty} (hC : C = e.n) (hE : ∀ cs, E cs → ∃ x : e.den, TR w (fun _ _ => False) e x cs ∧ InR e x) {v : Value} (h : IsSlice w C E v) :
    ∃ l : List e.den, LR w (fun _ _ => False) e.n (TR w (fun _ _ => False) e) l v ∧ l.length ≤ maxLen ∧ ∀ x ∈ l, InR e x := by
  subst hC
  rcases h with rfl | ⟨ad, len, cap, rfl, hle, hmax, hel⟩
  · exact ⟨[], .inl ⟨rfl, rfl⟩, Nat.zero_le _, fun x hx => by cases hx⟩
  · have hch : ∀ i : Fin len, ∃ x : e.den, (∃ cs : List Value, cs.length = e.n ∧ (∀ j, j < e.n → w.cell? ⟨ad.block, ad.off + (i.1 * e.n + j), none⟩ = some (cs.getD j undef)) ∧ TR w (fun _ _ => False) e x cs) ∧ InR e x := by
      intro i
      obtain ⟨cs, h1, h2, _, _, h5⟩ := hel i.1 i.2
      obtain ⟨x, h6, h7⟩ := hE cs h2
      exact ⟨x, ⟨cs, h1, h5, h6⟩, h7⟩
    let f : Fin len → e.den := fun i => Classical.choose (hch i)
    have hf : ∀ i, _ := fun i => Classical.choose_spec (hch i)
    refine ⟨List.ofFn f, .inr ⟨ad, cap, by rw [List.length_ofFn], by rw [List.length_ofFn]; exact hle, hmax, fun hne => ?_, fun i hi => ?_, fun p _ _ h => h⟩, by rw [List.length_ofFn]; omega, fun x hx => ?_⟩
    · have : 0 < len := by
        have := List.length_pos_iff.2 hne
        rwa [List.length_ofFn] at this
      obtain ⟨_, _, _, h3, _⟩ := hel 0 this
      exact h3
    · rw [List.length_ofFn] at hi
      obtain ⟨cs, h1, h2, h3⟩ := (hf ⟨i, hi⟩).1
      refine ⟨cs, h1, h2, ?_⟩
      rw [List.getElem_ofFn]
      exact h3
    · obtain ⟨i, rfl⟩ := (List.mem_ofFn.1 hx)
      exact (hf i).2

/-- A law's call. -/
theorem call_true {f : FuncId} {p : Ty} {psh : List (Option Nat)} {pre : Option (p.den → Prop)} {F : p.den → Bool} (h : CtOk Try.prog gdS f { p := p, psh := psh, r := .bool, rsh := .one none, pre := pre, fresh := none, F := F })
    (x : p.den) (w : World) (args : Array Value) (cs : List Value) (hH : gdS.H w) (hpre : ∀ q, pre = some q → q x) (hsh : ShapeR psh args.toList cs) (hx : TR w (fun _ _ => False) p x cs) (hT : F x = true) :
    Calls Try.prog f args w fun e w' => e = .returned (.bool true) ∧ Below w.heap.size w w' := by
  refine (h x w (fun _ _ => False) args cs hH (fun _ _ h => h.elim) hpre hsh hx).mono fun e w' ⟨v, he, hb, cs', h1, _, h2⟩ => ⟨?_, hb⟩
  rw [he]
  have h1 : cs' = [.bool (F x)] := h1
  rw [h1, hT] at h2
  obtain ⟨cs2, h3, h4⟩ := h2
  cases h3
  rfl
end Go.Proofs.Ytghlpolodjlgjaa.Sy
