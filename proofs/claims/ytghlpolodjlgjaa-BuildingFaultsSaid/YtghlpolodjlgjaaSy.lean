/- A symbolic evaluator for the model's code, and what its states say of the model's (own work). Values of slices are lists; a struct in memory is a box. -/
import Derived.WalkKit
import Derived.Orders
import Derived.Calls
import Derived.IntWalk
import Derived.Below
namespace Go.Proofs.Ytghlpolodjlgjaa.Sy
open Go
set_option linter.unusedVariables false
set_option linter.unusedSimpArgs false

inductive Ty where
  | int (k : IntKind) | bool | flt (k : FloatKind) | str | unit | fnt | pair (a b : Ty) | sl (e : Ty)
  deriving DecidableEq

@[reducible] def Ty.den : Ty → Type
  | .int _ => Int | .bool => Bool | .flt _ => Nat | .str => ByteArray | .unit => Unit | .fnt => Option Nat
  | .pair a b => a.den × b.den | .sl e => List e.den

def Ty.n : Ty → Nat
  | .unit => 0 | .pair a b => Nat.add a.n b.n | _ => 1

inductive Tail where
  | no | exact

inductive Cell where
  | int (k : IntKind) (n : Int) | bool (b : Bool) | flt (k : FloatKind) (n : Nat) | str (s : ByteArray)
  | lst (t : Ty) (tl : Tail) (l : List t.den)
  | nilp | box (k off : Nat) | elem (t : Ty) (l : List t.den) (i : Int) (off : Nat) | fn (f : Option Nat) | clo (f : FuncId) (ks : List Nat) | aelem (k off : Nat) (e : Ty) (len : Nat) (i : Int)
  | vref (t : Ty) (k : Nat) | velem (t : Ty) (k : Nat) (i : Int) (off : Nat)

inductive SV where
  | one (c : Cell) | agg (cs : List Cell)

inductive TV where
  | v (x : SV) | tup (xs : List SV)

/-- One list behind another (as plain as the evaluator wants it). -/
def app {α : Type} : List α → List α → List α
  | [], ys => ys | x :: xs, ys => x :: app xs ys
theorem app_eq {α : Type} (xs ys : List α) : app xs ys = xs ++ ys := by induction xs <;> simp [app, *]

def enc : (t : Ty) → t.den → List Cell
  | .int k, x => [.int k x] | .bool, x => [.bool x] | .flt k, x => [.flt k x] | .str, x => [.str x] | .unit, _ => [] | .fnt, x => [.fn x]
  | .pair a b, x => app (enc a x.1) (enc b x.2) | .sl e, l => [.lst e .no l]

/-! Equal kinds and types, by the evaluator's own words -/
def keq : IntKind → IntKind → Bool
  | .i8, .i8 => true | .i16, .i16 => true | .i32, .i32 => true | .i64, .i64 => true
  | .u8, .u8 => true | .u16, .u16 => true | .u32, .u32 => true | .u64, .u64 => true | _, _ => false
def feq : FloatKind → FloatKind → Bool
  | .f32, .f32 => true | .f64, .f64 => true | _, _ => false
theorem keq_eq {a b : IntKind} (h : keq a b = true) : a = b := by cases a <;> cases b <;> first | rfl | cases h
theorem feq_eq {a b : FloatKind} (h : feq a b = true) : a = b := by cases a <;> cases b <;> first | rfl | cases h
def cnd {α : Type} (b : Bool) (x y : α) : α := match b with | true => x | false => y
def tyeq : Ty → Ty → Bool
  | .int a, .int b => keq a b | .bool, .bool => true | .flt a, .flt b => feq a b | .str, .str => true | .unit, .unit => true | .fnt, .fnt => true
  | .pair a b, .pair c d => (match tyeq a c with | true => tyeq b d | false => false) | .sl a, .sl b => tyeq a b | _, _ => false
theorem tyeq_eq : ∀ {a b : Ty}, tyeq a b = true → a = b := by
  intro a
  induction a with
  | int k => intro b h; cases b <;> first | (rw [keq_eq h]) | cases h
  | flt k => intro b h; cases b <;> first | (rw [feq_eq h]) | cases h
  | pair x y ihx ihy =>
    intro b h
    cases b with
    | pair c d =>
      simp only [tyeq] at h
      split at h
      · rw [ihx ‹_›, ihy h]
      · cases h
    | _ => cases h
  | sl x ih => intro b h; cases b <;> first | (rw [ih h]) | cases h
  | _ => intro b h; cases b <;> first | rfl | cases h
/-- A list of another spelling of the same type. -/
def castL (a b : Ty) (l : List a.den) : Option (List b.den) :=
  match h : tyeq a b with | true => some (tyeq_eq h ▸ l) | false => none

def dec : (t : Ty) → List Cell → Option t.den
  | .int k => fun cs => match cs with | [.int k' n] => cnd (keq k k') (some n) none | _ => none
  | .bool => fun cs => match cs with | [.bool b] => some b | _ => none
  | .flt k => fun cs => match cs with | [.flt k' n] => cnd (feq k k') (some n) none | _ => none
  | .str => fun cs => match cs with | [.str s] => some s | _ => none
  | .unit => fun cs => match cs with | [] => some () | _ => none
  | .fnt => fun cs => match cs with | [.fn f] => some f | _ => none
  | .pair a b => fun cs => match dec a (cs.take a.n), dec b (cs.drop a.n) with
    | some x, some y => some (x, y)
    | _, _ => none
  | .sl e => fun cs => match cs with | [.lst e' _ l] => castL e' e l | _ => none

/-! ### What the cells of a typed value are in a world -/

def RowsOk (w : World) (X : Nat → Nat → Prop) {α : Type} (n : Nat) (R : α → List Value → Prop) (l : List α) (b o : Nat) : Prop :=
  (∀ i (h : i < l.length), ∃ vs : List Value, vs.length = n ∧ (∀ j, (hj : j < n) → w.cell? ⟨b, o + (i * n + j), none⟩ = some (vs.getD j undef)) ∧ R l[i] vs) ∧
  (∀ p, o ≤ p → p < o + l.length * n → ¬ X b p)

def LR (w : World) (X : Nat → Nat → Prop) {α : Type} (n : Nat) (R : α → List Value → Prop) (l : List α) (v : Value) : Prop :=
  (l = [] ∧ v = .slice none 0 0) ∨ ∃ (a : Addr) (cap : Nat), v = .slice (some a) l.length cap ∧ l.length ≤ cap ∧ cap ≤ maxLen ∧ (l ≠ [] → a.spot = none) ∧ RowsOk w X n R l a.block a.off

/-- Does the type hold slices? -/
def Ty.hasSl : Ty → Bool
  | .pair a b => match a.hasSl with | true => true | false => b.hasSl
  | .sl _ => true | _ => false

/-- A function as a value. -/
def fnV : Option Nat → Value
  | none => .nilFunc | some f => .func (.func f) #[] #[]

def TR (w : World) (X : Nat → Nat → Prop) : (t : Ty) → t.den → List Value → Prop
  | .int k, x, vs => vs = [.int k x]
  | .bool, x, vs => vs = [.bool x]
  | .flt k, x, vs => vs = [.float k x]
  | .str, x, vs => vs = [.string x]
  | .unit, _, vs => vs = []
  | .fnt, x, vs => vs = [fnV x]
  | .pair a b, x, vs => ∃ v1 v2, vs = v1 ++ v2 ∧ TR w X a x.1 v1 ∧ TR w X b x.2 v2
  | .sl e, l, vs => ∃ v, vs = [v] ∧ LR w X e.n (TR w X e) l v

/-- The world w' keeps what w holds outside of X, below the end of w. -/
structure Keeps (X : Nat → Nat → Prop) (w w' : World) : Prop where
  size : w.heap.size ≤ w'.heap.size
  cell : ∀ b p, b < w.heap.size → ¬ X b p → w'.cell? ⟨b, p, none⟩ = w.cell? ⟨b, p, none⟩
  shape : ∀ b, b < w.heap.size → w'.shape? b = w.shape? b
  frozen : ∀ b p, b < w.heap.size → w'.frozen? ⟨b, p, none⟩ = w.frozen? ⟨b, p, none⟩

/-- X' excludes no more than X below the end of w. -/
def NoMore (w : World) (X X' : Nat → Nat → Prop) : Prop := ∀ b p, b < w.heap.size → X' b p → X b p

theorem cell_lt {w : World} {b p : Nat} {v : Value} (h : w.cell? ⟨b, p, none⟩ = some v) : b < w.heap.size := World.block_lt_of_cell? w _ h

theorem RowsOk.mono {w w' : World} {X X' : Nat → Nat → Prop} {α : Type} {n : Nat} {R R' : α → List Value → Prop} {l : List α} {b o : Nat}
    (hk : Keeps X w w') (hx : NoMore w X X') (hR : ∀ x vs, R x vs → R' x vs) (h : RowsOk w X n R l b o) : RowsOk w' X' n R' l b o := by
  have key : ∀ i, i < l.length → ∀ j, j < n → o + (i * n + j) < o + l.length * n := by
    intro i hi j hj
    have h1 : (i + 1) * n ≤ l.length * n := Nat.mul_le_mul_right _ hi
    rw [Nat.succ_mul] at h1; omega
  refine ⟨fun i hi => ?_, fun p h1 h2 hX => ?_⟩
  · obtain ⟨vs, hl, hc, hr⟩ := h.1 i hi
    refine ⟨vs, hl, fun j hj => ?_, hR _ _ hr⟩
    have h0 := hc j hj
    rw [← h0]
    exact hk.cell _ _ (cell_lt h0) (h.2 _ (by omega) (key i hi j hj))
  · have hlen : 0 < l.length := by
      rcases Nat.eq_zero_or_pos l.length with h0 | h0
      · rw [h0] at h2; omega
      · exact h0
    have hn : 0 < n := by
      rcases Nat.eq_zero_or_pos n with h0 | h0
      · rw [h0] at h2; omega
      · exact h0
    obtain ⟨vs, hl, hc, hr⟩ := h.1 0 hlen
    exact h.2 p h1 h2 (hx b p (cell_lt (hc 0 hn)) hX)

theorem LR.mono {w w' : World} {X X' : Nat → Nat → Prop} {α : Type} {n : Nat} {R R' : α → List Value → Prop} {l : List α} {v : Value}
    (hk : Keeps X w w') (hx : NoMore w X X') (hR : ∀ x vs, R x vs → R' x vs) (h : LR w X n R l v) : LR w' X' n R' l v := by
  rcases h with h | ⟨a, cap, h1, h2, h3, h4, h5⟩
  · exact .inl h
  · exact .inr ⟨a, cap, h1, h2, h3, h4, h5.mono hk hx hR⟩

theorem TR.mono {w w' : World} {X X' : Nat → Nat → Prop} (hk : Keeps X w w') (hx : NoMore w X X') :
    ∀ (t : Ty) (x : t.den) (vs : List Value), TR w X t x vs → TR w' X' t x vs := by
  intro t
  induction t with
  | pair a b iha ihb =>
    intro x vs h
    obtain ⟨v1, v2, rfl, h1, h2⟩ := h
    exact ⟨v1, v2, rfl, iha _ _ h1, ihb _ _ h2⟩
  | sl e ih =>
    intro l vs h
    obtain ⟨v, rfl, h1⟩ := h
    exact ⟨v, rfl, h1.mono hk hx ih⟩
  | _ => intro x vs h; exact h

theorem TR.len {w : World} {X : Nat → Nat → Prop} : ∀ (t : Ty) (x : t.den) (vs : List Value), TR w X t x vs → vs.length = t.n := by
  intro t
  induction t with
  | pair a b iha ihb =>
    intro x vs h
    obtain ⟨v1, v2, rfl, h1, h2⟩ := h
    simp [Ty.n, iha _ _ h1, ihb _ _ h2]
  | sl e ih =>
    intro l vs h
    obtain ⟨v, rfl, h1⟩ := h
    simp [Ty.n]
  | _ => intro x vs h; cases h; simp [Ty.n]

def All2 {α β : Type} (R : α → β → Prop) : List α → List β → Prop
  | [], [] => True
  | a :: as, b :: bs => R a b ∧ All2 R as bs
  | _, _ => False

theorem All2.mono {α β : Type} {R R' : α → β → Prop} (h : ∀ a b, R a b → R' a b) : ∀ {as : List α} {bs : List β}, All2 R as bs → All2 R' as bs
  | [], [], _ => trivial
  | _ :: _, _ :: _, hh => ⟨h _ _ hh.1, All2.mono h hh.2⟩
  | [], _ :: _, hh => hh.elim
  | _ :: _, [], hh => hh.elim

theorem All2.length {α β : Type} {R : α → β → Prop} : ∀ {as : List α} {bs : List β}, All2 R as bs → as.length = bs.length
  | [], [], _ => rfl
  | _ :: _, _ :: _, hh => by simp [All2.length hh.2]
  | [], _ :: _, hh => hh.elim
  | _ :: _, [], hh => hh.elim

theorem All2.append {α β : Type} {R : α → β → Prop} : ∀ {as cs : List α} {bs ds : List β}, All2 R as bs → All2 R cs ds → All2 R (as ++ cs) (bs ++ ds)
  | [], _, [], _, _, h => h
  | _ :: _, _, _ :: _, _, hh, h => ⟨hh.1, All2.append hh.2 h⟩
  | [], _, _ :: _, _, hh, _ => hh.elim
  | _ :: _, _, [], _, hh, _ => hh.elim

theorem All2.split {α β : Type} {R : α → β → Prop} : ∀ {as cs : List α} {bs : List β}, All2 R (as ++ cs) bs → ∃ b1 b2, bs = b1 ++ b2 ∧ All2 R as b1 ∧ All2 R cs b2
  | [], _, bs, h => ⟨[], bs, rfl, trivial, h⟩
  | a :: as, cs, b :: bs, h => by
    obtain ⟨b1, b2, rfl, h1, h2⟩ := All2.split (as := as) h.2
    exact ⟨b :: b1, b2, rfl, ⟨h.1, h1⟩, h2⟩
  | _ :: _, _, [], h => h.elim

theorem All2.get {α β : Type} {R : α → β → Prop} : ∀ {as : List α} {bs : List β}, All2 R as bs → ∀ (i : Nat) (a : α), as[i]? = some a → ∃ b, bs[i]? = some b ∧ R a b
  | [], [], _, i, a, h => by simp at h
  | _ :: _, _ :: _, hh, 0, a, h => by simp at h; subst h; exact ⟨_, rfl, hh.1⟩
  | _ :: _, _ :: _, hh, i + 1, a, h => by simpa using All2.get hh.2 i a (by simpa using h)
  | [], _ :: _, hh, _, _, _ => hh.elim
  | _ :: _, [], hh, _, _, _ => hh.elim

theorem All2.drop {α β : Type} {R : α → β → Prop} : ∀ {as : List α} {bs : List β} (n : Nat), All2 R as bs → All2 R (as.drop n) (bs.drop n)
  | _, _, 0, h => by simpa using h
  | [], [], _ + 1, _ => trivial
  | _ :: _, _ :: _, n + 1, hh => by simpa using All2.drop n hh.2
  | [], _ :: _, _, hh => hh.elim
  | _ :: _, [], _, hh => hh.elim

theorem All2.take {α β : Type} {R : α → β → Prop} : ∀ {as : List α} {bs : List β} (n : Nat), All2 R as bs → All2 R (as.take n) (bs.take n)
  | _, _, 0, h => trivial
  | [], [], _ + 1, _ => trivial
  | _ :: _, _ :: _, n + 1, hh => ⟨hh.1, All2.take n hh.2⟩
  | [], _ :: _, _, hh => hh.elim
  | _ :: _, [], _, hh => hh.elim

theorem All2.set {α β : Type} {R : α → β → Prop} : ∀ {as : List α} {bs : List β} (n : Nat) {a : α} {b : β}, All2 R as bs → R a b → All2 R (as.set n a) (bs.set n b)
  | [], [], _, _, _, _, _ => trivial
  | _ :: _, _ :: _, 0, _, _, hh, h => ⟨h, hh.2⟩
  | _ :: _, _ :: _, n + 1, _, _, hh, h => ⟨hh.1, All2.set n hh.2 h⟩
  | [], _ :: _, _, _, _, hh, _ => hh.elim
  | _ :: _, [], _, _, _, hh, _ => hh.elim

theorem TR.nosl {w : World} {X X' : Nat → Nat → Prop} : ∀ {t : Ty} {x : t.den} {vs : List Value}, t.hasSl = false → TR w X t x vs → TR w X' t x vs := by
  intro t
  induction t with
  | pair a b iha ihb =>
    intro x vs hn h
    obtain ⟨v1, v2, rfl, h1, h2⟩ := h
    simp only [Ty.hasSl] at hn
    split at hn
    · cases hn
    · rename_i hq; exact ⟨v1, v2, rfl, iha hq h1, ihb hn h2⟩
  | sl e ih => intro x vs hn; cases hn
  | _ => intro x vs _ h; exact h

/-! ### Cells, values, boxes -/
/-- Where a box lies, and a number: 0 for a struct's box; for a row of n elements 2 n + 2 as long as it is nobody else's, otherwise 2 n + 3; 1 for nil. -/
abbrev Map := Nat → Option (Nat × Nat)
def vlen (p : Nat) : Nat := (p - 2) / 2
def PLe (p p' : Nat) : Prop := p' = p ∨ (p % 2 = 0 ∧ 0 < p ∧ p' = p + 1)
theorem PLe.len {p p' : Nat} (h : PLe p p') : vlen p' = vlen p := by
  rcases h with rfl | ⟨h1, h2, h3⟩
  · rfl
  · unfold vlen; omega
theorem PLe.one {p p' : Nat} (h : PLe p p') : p' = 1 ↔ p = 1 := by rcases h with rfl | ⟨h1, h2, h3⟩ <;> omega
theorem PLe.pos {p p' : Nat} (h : PLe p p') (hp : 0 < p) : 0 < p' := by rcases h with rfl | ⟨h1, h2, h3⟩ <;> omega
theorem PLe.zero {p' : Nat} (h : PLe 0 p') : p' = 0 := by rcases h with rfl | ⟨h1, h2, h3⟩ <;> omega
theorem PLe.even {p p' : Nat} (h : PLe p p') (he : p' % 2 = 0) : p' = p := by rcases h with rfl | ⟨h1, h2, h3⟩ <;> omega
theorem vlen_live (n : Nat) : vlen (2 * n + 2) = n := by unfold vlen; omega
theorem vlen_dead (n : Nat) : vlen (2 * n + 3) = n := by unfold vlen; omega
def MLe (m m' : Map) : Prop := ∀ k b p, m k = some (b, p) → ∃ p', m' k = some (b, p') ∧ PLe p p'
theorem MLe.of {m m' : Map} (h : ∀ k b p, m k = some (b, p) → m' k = some (b, p)) : MLe m m' := fun k b p hk => ⟨p, h k b p hk, .inl rfl⟩
theorem MLe.refl (m : Map) : MLe m m := MLe.of fun _ _ _ h => h

def CR (m : Map) (X : Nat → Nat → Prop) (w : World) : Cell → Value → Prop
  | .int k n, v => v = .int k n
  | .bool b, v => v = .bool b
  | .flt k n, v => v = .float k n
  | .str s, v => v = .string s
  | .lst t tl l, v => LR w X t.n (TR w X t) l v ∧
      match tl with
      | .no => True
      | .exact => (l = [] ∧ v = .slice none 0 0) ∨ l ≠ [] ∧ ∃ b T, v = .slice (some ⟨b, 0, none⟩) l.length l.length ∧ w.shape? b = some (T, l.length * t.n)
  | .nilp, v => v = .pointer none
  | .box k off, v => ∃ b, m k = some (b, 0) ∧ v = .pointer (some ⟨b, off, none⟩)
  | .elem t l i off, v => ∃ b o, v = .pointer (some ⟨b, o + (i.toNat * t.n + off), none⟩) ∧ i.toNat < l.length ∧ RowsOk w X t.n (TR w X t) l b o
  | .fn f, v => v = fnV f
  | .clo f ks, v => ∃ vs : List Value, v = .func (.func f) #[] vs.toArray ∧ All2 (fun k u => ∃ b, m k = some (b, 0) ∧ u = .pointer (some ⟨b, 0, none⟩)) ks vs
  | .aelem k off e len i, v => ∃ b, m k = some (b, 0) ∧ v = .pointer (some ⟨b, off + i.toNat * e.n, none⟩) ∧ 0 ≤ i ∧ i.toNat < len
  | .vref t k, v => ∃ b p, m k = some (b, p) ∧ 0 < p ∧ ((p = 1 ∧ v = .slice none 0 0) ∨
      p ≠ 1 ∧ ∃ cap T, v = .slice (some ⟨b, 0, none⟩) (vlen p) cap ∧ w.shape? b = some (T, cap * t.n) ∧ vlen p ≤ cap ∧ cap ≤ maxLen)
  | .velem t k i off, v => ∃ b p, m k = some (b, p) ∧ 0 < p ∧ v = .pointer (some ⟨b, i.toNat * t.n + off, none⟩) ∧ i.toNat < vlen p

def CRs (m : Map) (X : Nat → Nat → Prop) (w : World) (cs : List Cell) (vs : List Value) : Prop := All2 (CR m X w) cs vs

def SR (m : Map) (X : Nat → Nat → Prop) (w : World) : SV → Value → Prop
  | .one c, v => CR m X w c v
  | .agg cs, v => ∃ vs, v = .agg vs ∧ CRs m X w cs vs.toList

def VR (m : Map) (X : Nat → Nat → Prop) (w : World) : TV → Value → Prop
  | .v x, v => SR m X w x v
  | .tup xs, v => ∃ vs, v = .tuple vs ∧ All2 (SR m X w) xs vs.toList

theorem shape_lt {w : World} {b : Nat} {x : TypeId × Nat} (h : w.shape? b = some x) : b < w.heap.size := by
  unfold World.shape? at h
  rcases Nat.lt_or_ge b w.heap.size with h1 | h1
  · exact h1
  · simp [Array.getElem?_eq_none h1] at h

/-- m' says what m says of the boxes that live. -/
theorem CR.mle {m m' : Map} {w w' : World} {X X' : Nat → Nat → Prop} (hk : Keeps X w w') (hx : NoMore w X X') (hm : MLe m m') :
    ∀ (c : Cell) (v : Value), CR m X w c v → CR m' X' w' c v := by
  intro c v h
  cases c with
  | lst t tl l =>
    refine ⟨h.1.mono hk hx (TR.mono hk hx t), ?_⟩
    cases tl with
    | no => trivial
    | exact =>
      rcases h.2 with h2 | ⟨h2, b, T, h3, h4⟩
      · exact .inl h2
      · exact .inr ⟨h2, b, T, h3, (hk.shape _ (shape_lt h4)).trans h4⟩
  | box k off =>
    obtain ⟨b, h1, h2⟩ := h
    obtain ⟨p', h3, h4⟩ := hm _ _ _ h1
    exact ⟨b, by rw [h3, h4.zero], h2⟩
  | elem t l i off => obtain ⟨b, o, h1, h2, h3⟩ := h; exact ⟨b, o, h1, h2, h3.mono hk hx (TR.mono hk hx t)⟩
  | clo f ks =>
    obtain ⟨vs, h1, h2⟩ := h
    refine ⟨vs, h1, h2.mono fun k u ⟨b, h3, h4⟩ => ?_⟩
    obtain ⟨p', h5, h6⟩ := hm _ _ _ h3
    exact ⟨b, by rw [h5, h6.zero], h4⟩
  | aelem k off e len i =>
    obtain ⟨b, h1, h2⟩ := h
    obtain ⟨p', h3, h4⟩ := hm _ _ _ h1
    exact ⟨b, by rw [h3, h4.zero], h2⟩
  | vref t k =>
    obtain ⟨b, p, h1, h2, h3⟩ := h
    obtain ⟨p', h4, h5⟩ := hm _ _ _ h1
    refine ⟨b, p', h4, h5.pos h2, ?_⟩
    rw [h5.len]
    rcases h3 with h3 | ⟨h3, cap, T, h6, h7, h8⟩
    · exact .inl ⟨h5.one.2 h3.1, h3.2⟩
    · exact .inr ⟨fun e => h3 (h5.one.1 e), cap, T, h6, (hk.shape _ (shape_lt h7)).trans h7, h8⟩
  | velem t k i off =>
    obtain ⟨b, p, h1, h2, h3, h6⟩ := h
    obtain ⟨p', h4, h5⟩ := hm _ _ _ h1
    exact ⟨b, p', h4, h5.pos h2, h3, by rw [h5.len]; exact h6⟩
  | _ => exact h

theorem CR.mono {m m' : Map} {w w' : World} {X X' : Nat → Nat → Prop} (hk : Keeps X w w') (hx : NoMore w X X') (hm : ∀ k b p, m k = some (b, p) → m' k = some (b, p)) :
    ∀ (c : Cell) (v : Value), CR m X w c v → CR m' X' w' c v := CR.mle hk hx (MLe.of hm)

theorem SR.mle {m m' : Map} {w w' : World} {X X' : Nat → Nat → Prop} (hk : Keeps X w w') (hx : NoMore w X X') (hm : MLe m m')
    (x : SV) (v : Value) (h : SR m X w x v) : SR m' X' w' x v := by
  cases x with
  | one c => exact CR.mle hk hx hm c v h
  | agg cs => obtain ⟨vs, h1, h2⟩ := h; exact ⟨vs, h1, h2.mono (CR.mle hk hx hm)⟩

theorem SR.mono {m m' : Map} {w w' : World} {X X' : Nat → Nat → Prop} (hk : Keeps X w w') (hx : NoMore w X X') (hm : ∀ k b p, m k = some (b, p) → m' k = some (b, p))
    (x : SV) (v : Value) (h : SR m X w x v) : SR m' X' w' x v := SR.mle hk hx (MLe.of hm) x v h

theorem VR.mle {m m' : Map} {w w' : World} {X X' : Nat → Nat → Prop} (hk : Keeps X w w') (hx : NoMore w X X') (hm : MLe m m')
    (x : TV) (v : Value) (h : VR m X w x v) : VR m' X' w' x v := by
  cases x with
  | v x => exact SR.mle hk hx hm x v h
  | tup xs => obtain ⟨vs, h1, h2⟩ := h; exact ⟨vs, h1, h2.mono (SR.mle hk hx hm)⟩

theorem VR.mono {m m' : Map} {w w' : World} {X X' : Nat → Nat → Prop} (hk : Keeps X w w') (hx : NoMore w X X') (hm : ∀ k b p, m k = some (b, p) → m' k = some (b, p))
    (x : TV) (v : Value) (h : VR m X w x v) : VR m' X' w' x v := VR.mle hk hx (MLe.of hm) x v h

/-! ### States -/
structure GS where
  tags : List (Nat × Bool)
  tv : TV

/-- What a box holds: a struct's cells; the same, only to be read; nothing that is known; a row of elements (T: the elements' type): may they be written?; a row that is nobody's any more. -/
inductive Bx where
  | cells (cs : List Cell) | ro (cs : List Cell) | tok | vec (o : Bool) (T : TypeId) (t : Ty) (l : List t.den) | frz (t : Ty) (l : List t.den)

structure ASt where
  slot : Nat → Option GS
  box : Nat → Option Bx

def Xof (m : Map) (b q : Nat) : Prop := ∃ k p, m k = some (b, p) ∧ p % 2 = 0

/-- Nothing of a row is frozen (a mark may lie behind it). -/
def FzOk (z : Nat × Nat) (n : Nat) : Prop := z = (0, 0) ∨ z = (n, n + 1)
def RowBlk (w : World) (b : Nat) (vs : Array Value) (T : TypeId) : Prop := ∃ z, w.heap[b]? = some (.cells vs T z) ∧ FzOk z vs.size
/-- The elements of a row in a block of its own. -/
def VecAt (X : Nat → Nat → Prop) (w : World) (b : Nat) (T : TypeId) (t : Ty) (l : List t.den) : Prop :=
  ∃ vs cap, RowBlk w b vs T ∧ vs.size = cap * t.n ∧ l.length ≤ cap ∧ cap ≤ maxLen ∧ ∀ i (h : i < l.length), TR w X t l[i] ((vs.toList.drop (i * t.n)).take t.n)

def BoxOk (m : Map) (X : Nat → Nat → Prop) (w : World) (k : Nat) : Bx → Prop
  | .cells cs => ∃ b vs T, m k = some (b, 0) ∧ w.heap[b]? = some (.cells vs T (0, 0)) ∧ CRs m X w cs vs.toList
  | .ro cs => ∃ b vs T, m k = some (b, 0) ∧ w.heap[b]? = some (.cells vs T (0, 0)) ∧ CRs m X w cs vs.toList
  | .tok => True
  | .vec o T t l => ∃ b p, m k = some (b, p) ∧ ((l = [] ∧ p = 1) ∨ (p = 2 * l.length + 2 ∧ VecAt X w b T t l) ∨
      (o = false ∧ p = 2 * l.length + 3 ∧ RowsOk w X t.n (TR w X t) l b 0 ∧ ∃ T', w.shape? b = some (T', l.length * t.n)))
  | .frz t l => ∃ b p, m k = some (b, p) ∧ ((l = [] ∧ p = 1) ∨ (p = 2 * l.length + 3 ∧ RowsOk w X t.n (TR w X t) l b 0))

theorem VecAt.mono {X X' : Nat → Nat → Prop} {w w' : World} {b : Nat} {T : TypeId} {t : Ty} {l : List t.den} (hk : Keeps X w w') (hx : NoMore w X X') (hb : w'.heap[b]? = w.heap[b]?) (h : VecAt X w b T t l) : VecAt X' w' b T t l := by
  obtain ⟨vs, cap, h1, h2, h3, h4, h5⟩ := h
  exact ⟨vs, cap, by obtain ⟨z, h6, h7⟩ := h1; exact ⟨z, hb.trans h6, h7⟩, h2, h3, h4, fun i hi => (h5 i hi).mono hk hx _ _ _⟩

theorem BoxOk.mle {m m' : Map} {w w' : World} {X X' : Nat → Nat → Prop} {k : Nat} {bx : Bx} (hk : Keeps X w w') (hx : NoMore w X X') (hm : MLe m m')
    (hsame : ∀ b p, m k = some (b, p) → p % 2 = 0 → m' k = some (b, p) ∧ w'.heap[b]? = w.heap[b]?) (h : BoxOk m X w k bx) : BoxOk m' X' w' k bx := by
  cases bx with
  | tok => trivial
  | cells cs => obtain ⟨b, vs, T, h1, h2, h3⟩ := h; obtain ⟨h4, h5⟩ := hsame _ _ h1 rfl; exact ⟨b, vs, T, h4, h5.trans h2, h3.mono (CR.mle hk hx hm)⟩
  | ro cs => obtain ⟨b, vs, T, h1, h2, h3⟩ := h; obtain ⟨h4, h5⟩ := hsame _ _ h1 rfl; exact ⟨b, vs, T, h4, h5.trans h2, h3.mono (CR.mle hk hx hm)⟩
  | vec o T t l =>
    obtain ⟨b, p, h1, h2⟩ := h
    obtain ⟨p', h3, h4⟩ := hm _ _ _ h1
    rcases h2 with ⟨h2, h5⟩ | ⟨h2, h5⟩ | ⟨h2, h5, h6, T', h7⟩
    · have : p' = p := by rcases h4 with h4 | h4 <;> omega
      exact ⟨b, p', h3, .inl ⟨h2, by omega⟩⟩
    · obtain ⟨h6, h7⟩ := hsame _ _ h1 (by omega)
      exact ⟨b, p, h6, .inr (.inl ⟨h2, h5.mono hk hx h7⟩)⟩
    · have : p' = p := by rcases h4 with h4 | h4 <;> omega
      exact ⟨b, p', h3, .inr (.inr ⟨h2, by omega, h6.mono hk hx (TR.mono hk hx t), T', (hk.shape _ (shape_lt h7)).trans h7⟩)⟩
  | frz t l =>
    obtain ⟨b, p, h1, h2⟩ := h
    obtain ⟨p', h4, h5⟩ := hm _ _ _ h1
    rcases h2 with ⟨h2, h3⟩ | ⟨h2, h3⟩
    · have : p' = p := by rcases h5 with h5 | h5 <;> omega
      exact ⟨b, p', h4, .inl ⟨h2, by omega⟩⟩
    · have : p' = p := by rcases h5 with h5 | h5 <;> omega
      exact ⟨b, p', h4, .inr ⟨by omega, h3.mono hk hx (TR.mono hk hx t)⟩⟩

def holdsTags (ν : Nat → Bool) (g : List (Nat × Bool)) : Prop := ∀ x ∈ g, ν x.1 = x.2

def Bx.isRo : Bx → Bool
  | .ro _ => true | _ => false

/-- What the model's run leaves alone: who runs, the tape, and blocks that everybody reads. -/
structure GK (gl : Nat → Prop) (u v : World) : Prop where
  os : v.os = u.os
  tape : v.tape = u.tape
  size : u.heap.size ≤ v.heap.size
  block : ∀ b, gl b → b < u.heap.size ∧ v.heap[b]? = u.heap[b]?
theorem GK.refl {gl : Nat → Prop} {u : World} (h : ∀ b, gl b → b < u.heap.size) : GK gl u u := ⟨rfl, rfl, Nat.le_refl _, fun b hb => ⟨h b hb, rfl⟩⟩
theorem GK.trans {gl : Nat → Prop} {u v x : World} (h1 : GK gl u v) (h2 : GK gl v x) : GK gl u x :=
  ⟨h2.os.trans h1.os, h2.tape.trans h1.tape, Nat.le_trans h1.size h2.size, fun b hb => ⟨(h1.block b hb).1, (h2.block b hb).2.trans (h1.block b hb).2⟩⟩

/-- What stands fixed while a piece of code runs: the world and the slots ahead of it, the blocks that it may write, the slots that it may write; the end of the memory ahead of the function; a world ahead and the blocks that everybody reads. -/
structure Fr where
  n : Nat
  w0 : World
  a0 : Act
  B : Nat → Prop
  D : Nat → Bool
  X0 : Nat → Nat → Prop
  n0 : Nat
  base : World
  gl : Nat → Prop

/-- What no list may lie on: what was excluded ahead, and the boxes. -/
def XA (φ : Fr) (m : Map) (b p : Nat) : Prop := φ.X0 b p ∨ Xof m b p

structure SatM (φ : Fr) (ν : Nat → Bool) (m : Map) (st : ASt) (a : Act) (w : World) : Prop where
  tmps : a.tmps.size = φ.n
  defers : a.defers = []
  slot : ∀ t g, st.slot t = some g → holdsTags ν g.tags → VR m (XA φ m) w g.tv (a.tmps.getD t undef)
  skip : ∀ t g, st.slot t = some g → ¬ holdsTags ν g.tags → a.tmps.getD t undef = undef
  box : ∀ k bx, st.box k = some bx → BoxOk m (XA φ m) w k bx
  inj : ∀ k k' b p p', m k = some (b, p) → m k' = some (b, p') → p % 2 = 0 → p' % 2 = 0 → k = k'
  low : ∀ k b p, m k = some (b, p) → p % 2 = 0 → b < w.heap.size
  dom : ∀ k, st.box k = none → m k = none
  own : ∀ k bx b p, st.box k = some bx → bx.isRo = false → m k = some (b, p) → p % 2 = 0 → φ.B b ∨ φ.w0.heap.size ≤ b
  vn : ∀ k b p, m k = some (b, p) → p % 2 = 0 → 0 < p → φ.n0 ≤ b
  ngl : ∀ k b p, m k = some (b, p) → p % 2 = 0 → ¬ φ.gl b
  n0 : φ.n0 ≤ φ.w0.heap.size
  glob : GK φ.gl φ.base w
  old : w.os = φ.w0.os ∧ w.tape = φ.w0.tape ∧ w.output = φ.w0.output ∧ φ.w0.heap.size ≤ w.heap.size
  keep : ∀ b, b < φ.w0.heap.size → ¬ φ.B b → w.heap[b]? = φ.w0.heap[b]?
  keepS : ∀ b, b < φ.w0.heap.size → w.shape? b = φ.w0.shape? b ∧ ∀ p, w.frozen? ⟨b, p, none⟩ = φ.w0.frozen? ⟨b, p, none⟩
  x0 : ∀ b p, φ.X0 b p → b < φ.w0.heap.size ∧ ¬ φ.B b ∧ ¬ φ.gl b
  keepT : ∀ t, φ.D t = false → a.tmps.getD t undef = φ.a0.tmps.getD t undef

def Sat (φ : Fr) (ν : Nat → Bool) (st : ASt) (a : Act) (w : World) : Prop := ∃ m, SatM φ ν m st a w

/-! ### What every value in memory meets: no list is longer than memory allows -/
def Fit : (t : Ty) → t.den → Prop
  | .pair a b, x => Fit a x.1 ∧ Fit b x.2
  | .sl e, l => l.length ≤ maxLen ∧ ∀ x ∈ l, Fit e x
  | _, _ => True

theorem fit_of {w : World} {X : Nat → Nat → Prop} : ∀ {t : Ty} {x : t.den} {vs : List Value}, TR w X t x vs → Fit t x := by
  intro t
  induction t with
  | pair a b iha ihb => intro x vs h; obtain ⟨v1, v2, _, h1, h2⟩ := h; exact ⟨iha h1, ihb h2⟩
  | sl e ih =>
    intro l vs h
    obtain ⟨v, _, h⟩ := h
    rcases h with ⟨rfl, _⟩ | ⟨a, cap, _, h2, h3, _, h5⟩
    · exact ⟨Nat.zero_le _, fun x hx => by cases hx⟩
    · refine ⟨Nat.le_trans h2 h3, fun x hx => ?_⟩
      obtain ⟨i, hi, rfl⟩ := List.getElem_of_mem hx
      obtain ⟨us, _, _, hr⟩ := h5.1 i hi
      exact ih hr
  | _ => intro x vs h; exact trivial

end Go.Proofs.Ytghlpolodjlgjaa.Sy
