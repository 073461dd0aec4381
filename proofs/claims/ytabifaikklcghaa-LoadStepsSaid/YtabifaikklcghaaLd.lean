/- Floats: what can be compared, and differences (own work). -/
import Derived.Test.YtabifaikklcghaaBuI
namespace Go.Proofs.Ytabifaikklcghaa.Sp
open Go Sy Ieee
set_option linter.unusedVariables false
set_option linter.unusedSimpArgs false
set_option maxRecDepth 10000

abbrev fmt : Format := FloatKind.f64.format
def IsNum (x : Nat) : Prop := ∃ s m p, fmt.read x = .number s m p
def NN (x : Nat) : Prop := (fmt.read x).isNaN = false
theorem IsNum.nn {x : Nat} (h : IsNum x) : NN x := by
  obtain ⟨s, m, p, e⟩ := h
  unfold NN; rw [e]; rfl
theorem order_some {x y : Nat} (hx : NN x) (hy : NN y) : ∃ o, fmt.order x y = some o := by
  unfold NN at hx hy
  unfold Format.order
  cases h1 : fmt.read x <;> cases h2 : fmt.read y <;> rw [h1] at hx <;> rw [h2] at hy <;> first | exact ⟨_, rfl⟩ | exact absurd hx (fun h => nomatch (show true = false from h)) | exact absurd hy (fun h => nomatch (show true = false from h))
theorem order_nan {x : Nat} (h : ¬ NN x) (y : Nat) : fmt.order x y = none ∧ fmt.order y x = none := by
  unfold NN at h
  unfold Format.order
  cases h1 : fmt.read x <;> rw [h1] at h
  · exact absurd rfl h
  · exact absurd rfl h
  · refine ⟨rfl, ?_⟩
    cases fmt.read y <;> rfl
theorem order_self {x : Nat} (h : NN x) : fmt.order x x = some .eq := by
  unfold NN at h
  unfold Format.order
  cases h1 : fmt.read x <;> rw [h1] at h
  · show some (compare _ _) = _
    rw [Int.instLawfulEqOrd.compare_self]
  · show some (compare _ _) = _
    rw [Nat.instLawfulEqOrd.compare_self]
  · cases h
theorem ge_lt {x y : Nat} (hx : NN x) (hy : NN y) : (fmt.order x y == some .gt || fmt.order x y == some .eq) = !(fmt.order x y == some .lt) := by
  obtain ⟨o, e⟩ := order_some hx hy
  rw [e]
  cases o <;> rfl
theorem zero_nn : NN 0 := rfl
/-- Not at least nought: no number, or below. -/
theorem unknown_eq (x : Nat) : (!(fmt.order x 0 == some .gt || fmt.order x 0 == some .eq)) = ((fmt.order x x != some .eq) || (fmt.order x 0 == some .lt)) := by
  by_cases h : NN x
  · rw [ge_lt h zero_nn, order_self h, Bool.not_not]; rfl
  · rw [(order_nan h 0).1, (order_nan h x).1]; rfl
/-! The thresholds are numbers. -/
theorem order_num_l {x y : Nat} {o : Ordering} (h : fmt.order x y = some o) : NN x ∧ NN y := by
  by_cases hx : NN x
  · by_cases hy : NN y
    · exact ⟨hx, hy⟩
    · rw [(order_nan hy x).2] at h; cases h
  · rw [(order_nan hx y).1] at h; cases h
theorem num_between {a x b : Nat} (h1 : fmt.order a x = some .lt) (h2 : fmt.order x b = some .lt) : IsNum x := by
  unfold Format.order at h1 h2
  cases hx : fmt.read x with
  | number s m p => exact ⟨s, m, p, hx⟩
  | nan s f => rw [hx] at h2; cases h2
  | infinity s =>
    rw [hx] at h1 h2
    cases s with
    | true => cases ha : fmt.read a <;> rw [ha] at h1 <;> first | cases h1 | (rename_i t; cases t <;> cases h1)
    | false => cases hb : fmt.read b <;> rw [hb] at h2 <;> first | cases h2 | (rename_i t; cases t <;> cases h2)
theorem maxF : IsNum 9218868437227405311 := ⟨_, _, _, rfl⟩
theorem num_below {a x b : Nat} (h1 : fmt.order a x = some .lt) (h2 : fmt.order x b = some .lt ∨ fmt.order x b = some .eq) (hb : IsNum b) : IsNum x := by
  rcases h2 with h2 | h2
  · exact num_between h1 h2
  · unfold Format.order at h1 h2
    obtain ⟨s, m, p, e⟩ := hb
    rw [e] at h2
    cases hx : fmt.read x with
    | number s m p => exact ⟨s, m, p, hx⟩
    | nan s f => rw [hx] at h2; cases h2
    | infinity s => rw [hx] at h2; cases s <;> cases h2
structure Lds (b : BldT) : Prop where
  em : IsNum b.2.2.2.2.1
  fu : IsNum b.2.2.2.2.2.1
  ov : IsNum b.2.2.2.2.2.2.1
  h0 : fmt.order 0 b.2.2.2.2.1 = some .lt
  h1 : fmt.order b.2.2.2.2.1 b.2.2.2.2.2.1 = some .lt
  h2 : fmt.order b.2.2.2.2.2.1 b.2.2.2.2.2.2.1 = some .lt
theorem lds_of {b : BldT} (h : loadsOk b = true) : Lds b := by
  unfold loadsOk F50 at h
  simp only [Bool.and_eq_true, Bool.or_eq_true, beq_iff_eq] at h
  obtain ⟨⟨⟨h0, h1⟩, h2⟩, h3⟩ := h
  exact ⟨num_between h0 h1, num_between h1 h2, num_below h2 h3 maxF, h0, h1, h2⟩
/-! Differences. -/
theorem nearest_nn (neg : Bool) (mag : Nat) (place : Int) : NN (fmt.nearest neg mag place) := by
  have key : ∀ (neg : Bool) (r : Nat), r ≤ fmt.infRung → NN (fmt.word neg r) := by
    intro neg r hr
    have hI : fmt.infRung = 9218868437227405312 := rfl
    have hS : fmt.signWeight = 9223372036854775808 := rfl
    have hm : fmt.word neg r % fmt.signWeight = r := by
      unfold Format.word
      rw [hS]
      rw [hI] at hr
      cases neg <;> simp <;> omega
    unfold NN Format.read
    simp only [hm]
    split
    · rfl
    · split
      · rfl
      · split
        · rfl
        · omega
  unfold Format.nearest
  split
  · exact key _ _ (Nat.zero_le _)
  · exact key _ _ (Nat.min_le_right _ _)
theorem sub_ok {x y : Nat} (hx : IsNum x) (hy : IsNum y) : ∃ z, fmt.sub x y = some z ∧ NN z := by
  obtain ⟨s, m, p, e⟩ := hx
  obtain ⟨t, n, q, e'⟩ := hy
  obtain ⟨s', m', p', hs⟩ : ∃ s' m' p', (Datum.number s m p).sum (Datum.number t n q).opposite = some (.number s' m' p') := ⟨_, _, _, rfl⟩
  refine ⟨fmt.nearest s' m' p', ?_, nearest_nn _ _ _⟩
  unfold Format.sub
  rw [e, e', hs]
  rfl
theorem margin_num : IsNum 4589168020290535424 := ⟨_, _, _, rfl⟩
end Go.Proofs.Ytabifaikklcghaa.Sp
