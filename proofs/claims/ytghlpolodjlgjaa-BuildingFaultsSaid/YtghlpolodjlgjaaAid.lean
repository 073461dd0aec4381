/- Small lemmas on worlds that have grown (own work): a call that keeps all old blocks leaves the old world with new blocks behind it. -/
import Derived.WalkKit
import Derived.WalkSpells
import Derived.WalkLawsBesides
import Derived.Handy
import Derived.Outline
import Derived.BigQuiet
import Derived.RegionTactic
import Derived.ChangeAlike
import Derived.Lib.Hide
namespace Go.Proofs.Ytghlpolodjlgjaa
open Go.RowKit

/-- What a world has grown by: blocks behind the old ones, and any count of draws. -/
structure Gr where
  xs : Array Obj
  d : Nat
instance : Inhabited Gr := ⟨⟨#[], 0⟩⟩
def Gr.n (g : Gr) : Nat := g.xs.size
def Gr.drew (g : Gr) : Gr := ⟨g.xs, g.d + 1⟩
def Gr.add (g h : Gr) : Gr := ⟨g.xs ++ h.xs, h.d⟩

def ext (w : World) (g : Gr) : World := { w with heap := w.heap ++ g.xs, drawn := g.d }

@[simp, go_sem] theorem size_ext (w : World) (g : Gr) : (ext w g).heap.size = w.heap.size + g.n := by simp [ext, Gr.n]
@[simp high, go_sem high] theorem size_ext_add (w : World) (g h : Gr) : (ext w (g.add h)).heap.size = (ext w g).heap.size + h.n := by simp [ext, Gr.add, Gr.n, Nat.add_assoc]
@[simp high, go_sem high] theorem size_ext_drew (w : World) (g : Gr) : (ext w g.drew).heap.size = (ext w g).heap.size := by simp [ext, Gr.drew]
@[simp, go_sem] theorem add_add_n (a : Nat) (g h : Gr) : a + (g.add h).n = a + g.n + h.n := by simp [Gr.add, Gr.n, Nat.add_assoc]
@[simp, go_sem] theorem add_drew_n (a : Nat) (g : Gr) : a + g.drew.n = a + g.n := by simp [Gr.drew, Gr.n]
@[go_sem] theorem drew_ext (w : World) (g : Gr) : (ext w g).drew = ext w g.drew := rfl
@[go_sem] theorem ext_drew (w : World) (g : Gr) : ext w.drew g = ext w g := rfl
@[go_sem] theorem ext_ext (w : World) (g h : Gr) : ext (ext w g) h = ext w (g.add h) := by simp [ext, Gr.add]
theorem heap_ext (w : World) (g : Gr) (k : Nat) (h : k < w.heap.size) : (ext w g).heap[k]? = w.heap[k]? := by
  simp [ext, Array.getElem?_append, h]
@[go_sem] theorem cell_ext (w : World) (g : Gr) (b i : Nat) (h : b < w.heap.size) : (ext w g).cell? ⟨b, i, none⟩ = w.cell? ⟨b, i, none⟩ := by
  unfold World.cell?; rw [heap_ext w g b h]
@[go_sem] theorem frozen_ext (w : World) (g : Gr) (b i : Nat) (h : b < w.heap.size) : (ext w g).frozen? ⟨b, i, none⟩ = w.frozen? ⟨b, i, none⟩ := by
  unfold World.frozen?; rw [heap_ext w g b h]
@[go_sem] theorem shape_ext (w : World) (g : Gr) (b : Nat) (h : b < w.heap.size) : (ext w g).shape? b = w.shape? b := by
  unfold World.shape?; rw [heap_ext w g b h]
@[go_sem] theorem setCell_ext (w : World) (g : Gr) (b i : Nat) (v : Value) (h : b < w.heap.size) : (ext w g).setCell ⟨b, i, none⟩ v = ext (w.setCell ⟨b, i, none⟩ v) g := by
  unfold World.setCell ext
  congr 1
  apply Array.ext_getElem?
  intro k
  simp only [Array.getElem?_modify, Array.getElem?_append, Array.size_modify]
  by_cases hk : k < w.heap.size
  · simp [hk]
  · simp [hk, show ¬ b = k by omega]

@[go_sem] theorem lt_size1 (a : Nat) (x0 : Nat) : (a < a + 1 + x0) = True := eq_true (by omega)
@[go_sem] theorem lt_size2 (a : Nat) (x0 x1 : Nat) : (a < a + 1 + x0 + x1) = True := eq_true (by omega)
@[go_sem] theorem lt_size3 (a : Nat) (x0 x1 x2 : Nat) : (a < a + 1 + x0 + x1 + x2) = True := eq_true (by omega)
@[go_sem] theorem lt_size4 (a : Nat) (x0 x1 x2 x3 : Nat) : (a < a + 1 + x0 + x1 + x2 + x3) = True := eq_true (by omega)
@[go_sem] theorem lt_size5 (a : Nat) (x0 x1 x2 x3 x4 : Nat) : (a < a + 1 + x0 + x1 + x2 + x3 + x4) = True := eq_true (by omega)
@[go_sem] theorem lt_size6 (a : Nat) (x0 x1 x2 x3 x4 x5 : Nat) : (a < a + 1 + x0 + x1 + x2 + x3 + x4 + x5) = True := eq_true (by omega)
@[go_sem] theorem lt_size7 (a : Nat) (x0 x1 x2 x3 x4 x5 x6 : Nat) : (a < a + 1 + x0 + x1 + x2 + x3 + x4 + x5 + x6) = True := eq_true (by omega)
@[go_sem] theorem lt_size8 (a : Nat) (x0 x1 x2 x3 x4 x5 x6 x7 : Nat) : (a < a + 1 + x0 + x1 + x2 + x3 + x4 + x5 + x6 + x7) = True := eq_true (by omega)
@[go_sem] theorem lt_size9 (a : Nat) (x0 x1 x2 x3 x4 x5 x6 x7 x8 : Nat) : (a < a + 1 + x0 + x1 + x2 + x3 + x4 + x5 + x6 + x7 + x8) = True := eq_true (by omega)
@[go_sem] theorem lt_size10 (a : Nat) (x0 x1 x2 x3 x4 x5 x6 x7 x8 x9 : Nat) : (a < a + 1 + x0 + x1 + x2 + x3 + x4 + x5 + x6 + x7 + x8 + x9) = True := eq_true (by omega)
@[go_sem] theorem lt_size11 (a : Nat) (x0 x1 x2 x3 x4 x5 x6 x7 x8 x9 x10 : Nat) : (a < a + 1 + x0 + x1 + x2 + x3 + x4 + x5 + x6 + x7 + x8 + x9 + x10) = True := eq_true (by omega)
@[go_sem] theorem lt_size12 (a : Nat) (x0 x1 x2 x3 x4 x5 x6 x7 x8 x9 x10 x11 : Nat) : (a < a + 1 + x0 + x1 + x2 + x3 + x4 + x5 + x6 + x7 + x8 + x9 + x10 + x11) = True := eq_true (by omega)
@[go_sem] theorem lt_size13 (a : Nat) (x0 x1 x2 x3 x4 x5 x6 x7 x8 x9 x10 x11 x12 : Nat) : (a < a + 1 + x0 + x1 + x2 + x3 + x4 + x5 + x6 + x7 + x8 + x9 + x10 + x11 + x12) = True := eq_true (by omega)
@[go_sem] theorem lt_size14 (a : Nat) (x0 x1 x2 x3 x4 x5 x6 x7 x8 x9 x10 x11 x12 x13 : Nat) : (a < a + 1 + x0 + x1 + x2 + x3 + x4 + x5 + x6 + x7 + x8 + x9 + x10 + x11 + x12 + x13) = True := eq_true (by omega)
@[go_sem] theorem lt_size15 (a : Nat) (x0 x1 x2 x3 x4 x5 x6 x7 x8 x9 x10 x11 x12 x13 x14 : Nat) : (a < a + 1 + x0 + x1 + x2 + x3 + x4 + x5 + x6 + x7 + x8 + x9 + x10 + x11 + x12 + x13 + x14) = True := eq_true (by omega)

@[go_sem low] theorem lt_base1 {b s : Nat} (h : b < s) (x0 : Nat) : (b < s + x0) = True := eq_true (by omega)
@[go_sem low] theorem lt_base2 {b s : Nat} (h : b < s) (x0 x1 : Nat) : (b < s + x0 + x1) = True := eq_true (by omega)
@[go_sem low] theorem lt_base3 {b s : Nat} (h : b < s) (x0 x1 x2 : Nat) : (b < s + x0 + x1 + x2) = True := eq_true (by omega)
@[go_sem low] theorem lt_base4 {b s : Nat} (h : b < s) (x0 x1 x2 x3 : Nat) : (b < s + x0 + x1 + x2 + x3) = True := eq_true (by omega)
@[go_sem low] theorem lt_base5 {b s : Nat} (h : b < s) (x0 x1 x2 x3 x4 : Nat) : (b < s + x0 + x1 + x2 + x3 + x4) = True := eq_true (by omega)
@[go_sem low] theorem lt_base6 {b s : Nat} (h : b < s) (x0 x1 x2 x3 x4 x5 : Nat) : (b < s + x0 + x1 + x2 + x3 + x4 + x5) = True := eq_true (by omega)
@[go_sem low] theorem lt_base7 {b s : Nat} (h : b < s) (x0 x1 x2 x3 x4 x5 x6 : Nat) : (b < s + x0 + x1 + x2 + x3 + x4 + x5 + x6) = True := eq_true (by omega)
@[go_sem low] theorem lt_base8 {b s : Nat} (h : b < s) (x0 x1 x2 x3 x4 x5 x6 x7 : Nat) : (b < s + x0 + x1 + x2 + x3 + x4 + x5 + x6 + x7) = True := eq_true (by omega)
@[go_sem low] theorem lt_base9 {b s : Nat} (h : b < s) (x0 x1 x2 x3 x4 x5 x6 x7 x8 : Nat) : (b < s + x0 + x1 + x2 + x3 + x4 + x5 + x6 + x7 + x8) = True := eq_true (by omega)
@[go_sem low] theorem lt_base10 {b s : Nat} (h : b < s) (x0 x1 x2 x3 x4 x5 x6 x7 x8 x9 : Nat) : (b < s + x0 + x1 + x2 + x3 + x4 + x5 + x6 + x7 + x8 + x9) = True := eq_true (by omega)
@[go_sem low] theorem lt_base11 {b s : Nat} (h : b < s) (x0 x1 x2 x3 x4 x5 x6 x7 x8 x9 x10 : Nat) : (b < s + x0 + x1 + x2 + x3 + x4 + x5 + x6 + x7 + x8 + x9 + x10) = True := eq_true (by omega)
@[go_sem low] theorem lt_base12 {b s : Nat} (h : b < s) (x0 x1 x2 x3 x4 x5 x6 x7 x8 x9 x10 x11 : Nat) : (b < s + x0 + x1 + x2 + x3 + x4 + x5 + x6 + x7 + x8 + x9 + x10 + x11) = True := eq_true (by omega)
@[go_sem low] theorem lt_base13 {b s : Nat} (h : b < s) (x0 x1 x2 x3 x4 x5 x6 x7 x8 x9 x10 x11 x12 : Nat) : (b < s + x0 + x1 + x2 + x3 + x4 + x5 + x6 + x7 + x8 + x9 + x10 + x11 + x12) = True := eq_true (by omega)

theorem below_ext {B : Nat} {a w : World} (h : Below B a w) (hB : B ≤ w.heap.size) (g : Gr) : Below B a (ext w g) :=
  h.trans ⟨rfl, rfl, rfl, by simp, fun k hk => heap_ext _ _ _ (by omega)⟩
theorem ext_of {w w' : World} (h : Below w.heap.size w w') : ∃ g, w' = ext w g := by
  refine ⟨⟨w'.heap.extract w.heap.size w'.heap.size, w'.drawn⟩, ?_⟩
  obtain ⟨h1, h2, h3, h4, h5⟩ := h
  cases w'; cases w
  simp only [ext] at *
  subst h1 h2 h3
  congr 1
  apply Array.ext_getElem?
  intro k
  rw [Array.getElem?_append]
  split
  · exact h5 k ‹_›
  · rw [Array.getElem?_extract]
    simp
    split
    · congr 1; omega
    · rw [Array.getElem?_eq_none_iff]; omega
theorem drew_is_ext (w : World) : w.drew = ext w ⟨#[], w.drawn + 1⟩ := by unfold ext; simp only [Array.append_empty]; rfl
theorem same_is_ext (w : World) : w = ext w ⟨#[], w.drawn⟩ := by unfold ext; simp only [Array.append_empty]

/-- A region that draws its order, whose operations only read what was there and whose calls only make memory: one walk in the order of the text. -/
theorem wp_region_ext {P : Program} {id : Nat} {Q : Exit → Act → World → Prop} {a : Act} {w : World} {l : List Oper} (hm : P.follows .mixedOrders = true) (hB : Region.lexB .any l.toArray = true)
    (h : wpQuiet P l.toArray (fun w' => ∃ g, w' = ext w g) (fun a' => ∀ w', (∃ g, w' = ext w g) → Q .normal a' w') l a) : (Code.region id l.toArray true).wp P Q a w :=
  wp_region_quiet (C := fun w' => ∃ g, w' = ext w g) hm hB ⟨_, drew_is_ext w⟩ (by simpa using h)

/-- A callee's contract met inside such a region. -/
theorem call_ext {P : Program} {f : FuncId} {args : Array Value} {w : World} {g : Gr} {v : Value}
    (h : Calls P f args (ext w g) fun e w' => e = .returned v ∧ Below (ext w g).heap.size (ext w g) w') : Calls P f args (ext w g) fun e w'' => e = .returned v ∧ ∃ g', w'' = ext w g' :=
  h.mono fun _ _ ⟨he, hb⟩ => by obtain ⟨g', rfl⟩ := ext_of hb; exact ⟨he, _, ext_ext w g g'⟩
theorem Gr.add_assoc (a b c : Gr) : (a.add b).add c = a.add (b.add c) := by simp [Gr.add, Array.append_assoc]
theorem call_ext2 {P : Program} {f : FuncId} {args : Array Value} {w : World} {A g : Gr} {v : Value}
    (h : Calls P f args (ext w (A.add g)) fun e w' => e = .returned v ∧ Below (ext w (A.add g)).heap.size (ext w (A.add g)) w') : Calls P f args (ext w (A.add g)) fun e w'' => e = .returned v ∧ ∃ g', w'' = ext w (A.add g') :=
  h.mono fun _ _ ⟨he, hb⟩ => by obtain ⟨g', rfl⟩ := ext_of hb; exact ⟨he, g.add g', by rw [ext_ext, Gr.add_assoc]⟩
theorem call_same2 {P : Program} {f : FuncId} {args : Array Value} {w : World} {A g : Gr} {v : Value}
    (h : Calls P f args (ext w (A.add g)) fun e w' => e = .returned v ∧ ext w (A.add g) = w') : Calls P f args (ext w (A.add g)) fun e w'' => e = .returned v ∧ ∃ g', w'' = ext w (A.add g') :=
  h.mono fun _ _ ⟨he, hb⟩ => ⟨he, g, hb.symm⟩
theorem call_same {P : Program} {f : FuncId} {args : Array Value} {w : World} {g : Gr} {v : Value}
    (h : Calls P f args (ext w g) fun e w' => e = .returned v ∧ ext w g = w') : Calls P f args (ext w g) fun e w'' => e = .returned v ∧ ∃ g', w'' = ext w g' :=
  h.mono fun _ _ ⟨he, hb⟩ => ⟨he, g, hb.symm⟩

theorem ret_bool {a b : Bool} (h : a = b) : Ending.returned (.bool a) = .returned (.bool b) := by rw [h]
theorem ret_iff {a : Bool} {p : Prop} [Decidable p] (h : a = true ↔ p) : Ending.returned (.bool a) = .returned (.bool (decide p)) := by
  rw [show a = decide p from by rw [Bool.eq_iff_iff]; simpa using h]
theorem ret_int {k : IntKind} {a b : Int} (h : a = b) : Ending.returned (.int k a) = .returned (.int k b) := by rw [h]
end Go.Proofs.Ytghlpolodjlgjaa
