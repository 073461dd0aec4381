/- Laws of rounds (own work): what a loop comes to. -/
import Derived.Test.YtghlpolodjlgjaaSf
namespace Go.Proofs.Ytghlpolodjlgjaa.Sp
open Go Sy
set_option linter.unusedVariables false
set_option linter.unusedSimpArgs false
section
variable {K X ρ : Type} {step : K → X → BOut K X ρ} {k : K}

/-- No round returns. -/
theorem ret_none (I : X → Prop) (h : ∀ x, I x → match step k x with | .next _ y => I y | .brk _ _ => True | .ret _ => False) : ∀ (n : Nat) (x : X), I x → retOf step k n x = none
  | 0, _, _ => rfl
  | n + 1, x, hx => by
    have := h x hx
    simp only [retOf]
    cases hs : step k x with
    | next k' y => rw [hs] at this; exact ret_none I h n _ this
    | brk k' y => rfl
    | ret r => rw [hs] at this; exact this.elim

/-- A row of states. -/
theorem end_row (s : Nat → X) (n : Nat) (h : ∀ i, i < n → ∃ k', step k (s i) = .next k' (s (i + 1))) : ∀ (i fuel : Nat), i ≤ n →
    endOf step k (fuel + (n - i)) (s i) = endOf step k fuel (s n) ∧ retOf step k (fuel + (n - i)) (s i) = retOf step k fuel (s n) := by
  intro i fuel hi
  induction hd : n - i generalizing i with
  | zero => have : i = n := by omega
            subst this; exact ⟨rfl, rfl⟩
  | succ d ih =>
    obtain ⟨k', h1⟩ := h i (by omega)
    have := ih (i + 1) (by omega) (by omega)
    rw [show fuel + (d + 1) = (fuel + d) + 1 by omega]
    simp only [endOf, retOf, h1]
    exact this
theorem end_row_brk (s : Nat → X) (n : Nat) (h : ∀ i, i < n → ∃ k', step k (s i) = .next k' (s (i + 1))) {k' : K} {y : X} (hb : step k (s n) = .brk k' y) {fuel : Nat} (hf : n < fuel) :
    endOf step k fuel (s 0) = y ∧ retOf step k fuel (s 0) = none := by
  have := end_row s n h 0 (fuel - n) (by omega)
  rw [show fuel - n + (n - 0) = fuel by omega] at this
  rw [this.1, this.2, show fuel - n = (fuel - n - 1) + 1 by omega]
  simp only [endOf, retOf, hb, and_self]
theorem end_row_ret (s : Nat → X) (n : Nat) (h : ∀ i, i < n → ∃ k', step k (s i) = .next k' (s (i + 1))) {r : ρ} (hb : step k (s n) = .ret r) {fuel : Nat} (hf : n < fuel) :
    retOf step k fuel (s 0) = some r := by
  have := end_row s n h 0 (fuel - n) (by omega)
  rw [show fuel - n + (n - 0) = fuel by omega] at this
  rw [this.2, show fuel - n = (fuel - n - 1) + 1 by omega]
  simp only [retOf, hb]

/-- A row of rounds of which some may return. -/
theorem ret_row (s : Nat → X) (f : Nat → Option ρ) (n : Nat) (h : ∀ i, i < n → match f i with | some r => step k (s i) = .ret r | none => ∃ k', step k (s i) = .next k' (s (i + 1)))
    {k' : K} {y : X} (hb : step k (s n) = .brk k' y) : ∀ {fuel : Nat}, n < fuel → retOf step k fuel (s 0) = (List.range n).findSome? f := by
  have key : ∀ d i fuel, n - i = d → i ≤ n → d < fuel → retOf step k fuel (s i) = (List.range' i d).findSome? f := by
    intro d
    induction d with
    | zero =>
      intro i fuel hd hi hf
      have : i = n := by omega
      subst this
      obtain ⟨g, rfl⟩ : ∃ g, fuel = g + 1 := ⟨fuel - 1, by omega⟩
      simp only [retOf, hb]; rfl
    | succ d ih =>
      intro i fuel hd hi hf
      obtain ⟨g, rfl⟩ : ∃ g, fuel = g + 1 := ⟨fuel - 1, by omega⟩
      have := h i (by omega)
      rw [List.range'_succ, List.findSome?_cons]
      cases hfi : f i with
      | some r => rw [hfi] at this; simp only at this; simp only [retOf, this]
      | none =>
        rw [hfi] at this
        obtain ⟨k'', h1⟩ := this
        simp only [retOf, h1]
        exact ih (i + 1) g (by omega) (by omega) (by omega)
  intro fuel hf
  rw [key n 0 fuel rfl (by omega) hf, List.range_eq_range']

/-- What holds behind a loop: an invariant, and a measure that falls. -/
theorem loop_spec (I : X → Prop) (mu : X → Nat) (Q : Option ρ → X → Prop)
    (h : ∀ x, I x → match step k x with | .next _ y => I y ∧ mu y < mu x | .brk _ y => Q none y | .ret r => Q (some r) x) : ∀ (n : Nat) (x : X), I x → mu x < n → Q (retOf step k n x) (endOf step k n x)
  | 0, _, _, hn => by omega
  | n + 1, x, hx, hn => by
    have := h x hx
    simp only [retOf, endOf]
    cases hs : step k x with
    | next k' y => rw [hs] at this; exact loop_spec I mu Q h n _ this.1 (by have := this.2; omega)
    | brk k' y => rw [hs] at this; exact this
    | ret r => rw [hs] at this; exact this
/-- Two loops that go alike. -/
theorem loop_sim {K' X' : Type} {step' : K' → X' → BOut K' X' ρ} {k' : K'} (I : X → X' → Prop)
    (h : ∀ x x', I x x' → match step k x, step' k' x' with | .next _ y, .next _ y' => I y y' | .brk _ y, .brk _ y' => I y y' | .ret r, .ret r' => r = r' | _, _ => False) :
    ∀ (n : Nat) (x : X) (x' : X'), I x x' → I (endOf step k n x) (endOf step' k' n x') ∧ retOf step k n x = retOf step' k' n x'
  | 0, _, _, hx => ⟨hx, rfl⟩
  | n + 1, x, x', hx => by
    have := h x x' hx
    simp only [retOf, endOf]
    cases hs : step k x <;> cases hs' : step' k' x' <;> rw [hs, hs'] at this
    · exact loop_sim I h n _ _ this
    · exact this.elim
    · exact this.elim
    · exact this.elim
    · exact ⟨this, rfl⟩
    · exact this.elim
    · exact this.elim
    · exact this.elim
    · exact ⟨hx, by rw [this]⟩
/-- A loop that goes through a list. -/
theorem end_fold {α β : Type} {step : K → β × Int → BOut K (β × Int) ρ} (l : List α) (f : β → α → β) (hl : l.length ≤ maxLen)
    (h : ∀ m (i : Nat) (hi : i < l.length), ∃ k', step k (m, (i : Int)) = .next k' (f m l[i], IntKind.i64.wrap ((i : Int) + 1)))
    (hb : ∀ m, ∃ k', step k (m, (l.length : Int)) = .brk k' (m, (l.length : Int))) (m0 : β) {fuel : Nat} (hf : l.length < fuel) :
    endOf step k fuel (m0, 0) = (l.foldl f m0, (l.length : Int)) ∧ retOf step k fuel (m0, 0) = none := by
  have hs : ∀ i, i < l.length → ∃ k', step k ((fun i : Nat => ((l.take i).foldl f m0, (i : Int))) i) = .next k' ((fun i : Nat => ((l.take i).foldl f m0, (i : Int))) (i + 1)) := by
    intro i hi
    obtain ⟨k', h1⟩ := h ((l.take i).foldl f m0) i hi
    refine ⟨k', ?_⟩
    simp only [h1]
    have h2 : IntKind.i64.wrap ((i : Int) + 1) = ((i + 1 : Nat) : Int) := by simp only [maxLen] at hl; rw [IntKind.wrap_i64]; omega
    rw [h2, List.take_add_one, List.getElem?_eq_getElem hi, List.foldl_append]; rfl
  obtain ⟨k', hb'⟩ := hb (l.foldl f m0)
  have h0 := end_row_brk _ l.length hs (k' := k') (y := (l.foldl f m0, (l.length : Int))) (by simp only [List.take_length]; exact hb') hf
  simpa using h0

theorem nthT_nat {α : Type} [Inhabited α] (l : List α) (i : Nat) (h : i < l.length) : nthT l (i : Int) = l[i] := by
  simp [nthT, List.getD_eq_getElem?_getD, List.getElem?_eq_getElem h]
theorem nthT_of {α : Type} [Inhabited α] (l : List α) (i : Int) (h0 : 0 ≤ i) (h : i < l.length) : nthT l i = l[i.toNat]'(by omega) := by
  have : i.toNat < l.length := by omega
  simp [nthT, List.getD_eq_getElem?_getD, List.getElem?_eq_getElem this]

theorem findSome_range {α : Type} [Inhabited α] (l : List α) (g : α → Option ρ) : (List.range l.length).findSome? (fun (i : Nat) => g (nthT l (i : Int))) = l.findSome? g := by
  have : (List.range l.length).map (fun (i : Nat) => nthT l (i : Int)) = l := by
    apply List.ext_getElem
    · simp
    · intro i h1 h2; simp at h1; simp [nthT_nat l i h1]
  calc _ = ((List.range l.length).map (fun (i : Nat) => nthT l (i : Int))).findSome? g := by rw [List.findSome?_map]; rfl
    _ = _ := by rw [this]

theorem optR_none {α β : Type} (f : α → β) (d : β) : optR none f d = d := rfl
theorem optR_some {α β : Type} (r : α) (f : α → β) (d : β) : optR (some r) f d = f r := rfl
/-- Is it so for all? -/
theorem findSome_all {α : Type} (l : List α) (p : α → Bool) : optR (l.findSome? (fun n => if p n then none else some false)) (fun y => y) true = l.all p := by
  induction l with
  | nil => rfl
  | cons a l ih =>
    rw [List.findSome?_cons]
    cases hp : p a with
    | true => simp only [if_true]; rw [ih]; simp [hp]
    | false => simp [hp, optR]
end
end Go.Proofs.Ytghlpolodjlgjaa.Sp
namespace Go.Proofs.Ytghlpolodjlgjaa.Sp
open Go Sy
theorem wrap_succ {i n : Nat} (hi : i < n) (hn : n ≤ maxLen) : IntKind.i64.wrap ((i : Int) + 1) = ((i + 1 : Nat) : Int) := by
  simp only [maxLen] at hn
  rw [IntKind.wrap_i64]; omega
section
variable {K ρ : Type} {k : K}
/-- A loop that asks all elements. -/
theorem end_all {α : Type} [Inhabited α] {step : K → Bool × Int → BOut K (Bool × Int) ρ} (l : List α) (p : α → Bool) (hl : l.length ≤ maxLen)
    (h : ∀ b i, step k (b, i) = bif decide (i < (l.length : Int)) then .next k (b && p (nthT l i), IntKind.i64.wrap (i + 1)) else .brk k (b, i)) (b0 : Bool) {fuel : Nat} (hf : l.length < fuel) :
    (endOf step k fuel (b0, 0)).1 = (b0 && l.all p) := by
  have hs : ∀ i, i < l.length → ∃ k', step k ((fun i : Nat => (b0 && (l.take i).all p, (i : Int))) i) = .next k' ((fun i : Nat => (b0 && (l.take i).all p, (i : Int))) (i + 1)) := by
    intro i hi
    refine ⟨k, ?_⟩
    simp only [h]
    have h1 : decide ((i : Int) < (l.length : Int)) = true := by simp; omega
    have h2 : (l.take (i + 1)).all p = ((l.take i).all p && p l[i]) := by rw [List.take_add_one, List.getElem?_eq_getElem hi, List.all_append]; simp only [Option.toList_some, List.all_cons, List.all_nil, Bool.and_true]
    rw [h1, wrap_succ hi hl, nthT_nat l i hi, h2]
    simp [Bool.and_assoc]
  have hb : step k ((fun i : Nat => (b0 && (l.take i).all p, (i : Int))) l.length) = .brk k (b0 && l.all p, (l.length : Int)) := by
    simp only [h]
    have h1 : decide ((l.length : Int) < (l.length : Int)) = false := by simp
    rw [h1]; simp
  have := (end_row_brk _ l.length hs hb hf).1
  simp only [List.take_zero, List.all_nil, Bool.and_true, Int.ofNat_zero] at this
  have h3 : endOf step k fuel (b0, 0) = (b0 && l.all p, (l.length : Int)) := this
  rw [h3]
end
end Go.Proofs.Ytghlpolodjlgjaa.Sp
