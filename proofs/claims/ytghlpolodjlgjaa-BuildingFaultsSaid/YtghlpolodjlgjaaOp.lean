/- Opening arguments of any flat make: own lemmas on the readings of structs, arrays and slices. -/
import Derived.Test.YtghlpolodjlgjaaAid
import Derived.ProofKit
import Derived.OpenShut
import Derived.Deep.Slices
import Derived.Laws.Cover2
import Derived.Below
import Derived.Carry
import Derived.ChangeOld
namespace Go.Proofs.Ytghlpolodjlgjaa
open Go.ChangeShapes Go.WideShapes Go.ChangeAt Go.RowKit Go.Deep

/-- A slice that came in: nil, or a row of elements of C cells each, every element as E says. -/
def IsSlice (w : World) (C : Nat) (E : List Value → Prop) (v : Value) : Prop :=
  v = .slice none 0 0 ∨ ∃ (a : Addr) (len cap : Nat), v = .slice (some a) len cap ∧ len ≤ cap ∧ cap ≤ maxLen ∧
    ∀ i, i < len → ∃ cs : List Value, cs.length = C ∧ E cs ∧ a.spot = none ∧ a.block < w.heap.size ∧ ∀ j, j < C → w.cell? ⟨a.block, a.off + (i * C + j), none⟩ = some (cs.getD j undef)

section
variable {H : Type} {enc : TypeId × Value → H} {P : Program} {w : World} {base : Nat} {spare : Nat → Bool} {held : Bool}

theorem okWide_array {r : Reach} {b0 : Nat} {t : TypeId} {v : Value} {n : Nat} {e : TypeId} (ht : P.underlying t = some (.array n e)) (h : Value.okWide P w r b0 t v) : ∃ cs, v = .agg cs ∧ cs.size = P.cellsOf t := by
  simp only [Value.okWide, ht] at h
  obtain ⟨cs, h1, h2, _⟩ := h
  exact ⟨cs, h1, h2⟩

theorem struct_fields {t : TypeId} {fs : Array Field} {fuel : Nat} {cs : List Value} {x : DataW H × List MemPlace} (ht : P.underlying t = some (.struct fs)) (h : DataW.trod enc P w base spare held fuel t cs = some x) :
    cs.length = P.cellsOf t ∧ ∃ n, ∀ (i : Nat) (f : Field), fs[i]? = some f → ∃ y, DataW.trod enc P w base spare held n f.type ((cs.drop f.offset).take (P.cellsOf f.type)) = some y := by
  obtain ⟨xs, n, _, _, hl, hx, hg⟩ := DataW.trod_struct ht h
  refine ⟨hl, n, fun i f hf => ?_⟩
  have hi : i < xs.length := by rw [hx]; exact (Array.getElem?_eq_some_iff.1 hf).1
  exact ⟨xs[i], (hg i f hf).trans (List.getElem?_eq_getElem hi)⟩

theorem array_elems {t e : TypeId} {m fuel : Nat} {cs : List Value} {x : DataW H × List MemPlace} (ht : P.underlying t = some (.array m e)) (h : DataW.trod enc P w base spare held fuel t cs = some x) :
    cs.length = P.cellsOf t ∧ ∃ n, ∀ (i : Nat), i < m → ∃ y, DataW.trod enc P w base spare held n e ((cs.drop (i * P.cellsOf e)).take (P.cellsOf e)) = some y := by
  obtain ⟨xs, n, _, _, hl, hx, hg⟩ := DataW.trod_array ht h
  refine ⟨hl, n, fun i hi => ?_⟩
  have hi' : i < xs.length := by omega
  exact ⟨xs[i], (hg i hi).trans (List.getElem?_eq_getElem hi')⟩

theorem trod_float {t : TypeId} {k : FloatKind} {fuel : Nat} {cs : List Value} {x : DataW H × List MemPlace} (ht : P.underlying t = some (.float k)) (h : DataW.trod enc P w base spare held fuel t cs = some x) : ∃ n, cs = [.float k n] ∧ (Lit.float k n).wf = true := by
  cases fuel with
  | zero => simp [DataW.trod] at h
  | succ n =>
    unfold DataW.trod at h
    rw [ht] at h
    split at h <;> simp_all

theorem slice_is {t e : TypeId} {C fuel : Nat} {cs : List Value} {x : DataW H × List MemPlace} (E : List Value → Prop) (ht : P.underlying t = some (.slice e)) (hC : P.cellsOf e = C) (hC0 : 0 < C)
    (hE : ∀ (n : Nat) (cs' : List Value) y, DataW.trod enc P w base spare held n e cs' = some y → E cs') (h : DataW.trod enc P w base spare held fuel t cs = some x) : ∃ v, cs = [v] ∧ IsSlice w C E v := by
  rcases open_slice ht h with ⟨rfl, _⟩ | ⟨a, len, cap, m, n, D, Pl, rfl, _, hl, hm, hmm, _, hg⟩
  · exact ⟨_, rfl, .inl rfl⟩
  · refine ⟨_, rfl, .inr ⟨a, len, cap, rfl, hl, hm, fun i hi => ?_⟩⟩
    obtain ⟨cs', h1, h2⟩ := hg i (by rw [hmm]; split <;> omega)
    rw [hC] at h1
    obtain ⟨_, hlen, hcell⟩ := World.cells?_some h1
    obtain ⟨cs0, h10, _⟩ := hg 0 (by rw [hmm]; split <;> omega)
    rw [hC] at h10
    obtain ⟨_, hlen0, hcell0⟩ := World.cells?_some h10
    have hc0 := hcell0 0 hC0
    rw [List.getElem?_eq_getElem (by omega)] at hc0
    have ha : (a.add (0 * C)).add 0 = a := by simp [Addr.add]
    rw [ha] at hc0
    have hs : a.spot = none := World.cell?_spot hc0
    have hb : a.block < w.heap.size := World.block_lt_of_cell? w a hc0
    refine ⟨cs', hlen, hE n cs' _ h2, hs, hb, fun j hj => ?_⟩
    have hcj := hcell j hj
    rw [List.getElem?_eq_getElem (by omega)] at hcj
    rw [List.getD_eq_getElem?_getD, List.getElem?_eq_getElem (by omega), Option.getD_some]
    rw [← hcj]
    congr 1
    obtain ⟨b, o, s⟩ := a
    simp only at hs
    subst hs
    unfold Addr.add
    by_cases h0 : i * C = 0 <;> by_cases hj0 : j = 0 <;> simp [h0, hj0, Nat.add_assoc]
end
end Go.Proofs.Ytghlpolodjlgjaa
