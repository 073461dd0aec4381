/- Collective: the program is the reference (own work). -/
import Derived.Test.YtidnlehjabhclaaDoorCb
namespace Go.Proofs.YtidnlehjabhclaaDoor.Sp
open Go Sy
set_option linter.unusedVariables false
set_option linter.unusedSimpArgs false
set_option maxRecDepth 10000

abbrev m2p (o : Int) : Bool := (IntKind.i64.wrap ((BitVec.ofInt IntKind.i64.bits (Int.fdiv o (2 ^ (min ((1 : Int)).toNat IntKind.i64.bits))) &&& BitVec.ofInt IntKind.i64.bits (1 : Int)).toNat : Int)) == (1 : Int)
abbrev m3p (o : Int) : Bool := (IntKind.i64.wrap ((BitVec.ofInt IntKind.i64.bits (Int.fdiv o (2 ^ (min ((2 : Int)).toNat IntKind.i64.bits))) &&& BitVec.ofInt IntKind.i64.bits (1 : Int)).toNat : Int)) == (1 : Int)
abbrev m2 (o : Int) : Bool := (IntKind.i64.wrap ((BitVec.ofInt IntKind.i64.bits o &&& BitVec.ofInt IntKind.i64.bits (2 : Int)).toNat : Int)) != (0 : Int)
abbrev m3 (o : Int) : Bool := (IntKind.i64.wrap ((BitVec.ofInt IntKind.i64.bits o &&& BitVec.ofInt IntKind.i64.bits (4 : Int)).toNat : Int)) != (0 : Int)
theorem m2_eq : ∀ o : Nat, o < 8 → m2p (o : Int) = m2 (o : Int) := by decide +kernel
theorem m3_eq : ∀ o : Nat, o < 8 → m3p (o : Int) = m3 (o : Int) := by decide +kernel
/-- Is there anything to do apart from what is marked? -/
def more (a u d : Bool) (ab be o : Int) : Bool := ((((a && (!(a && (o != 0)))) || (u && (!(u && m2 o)))) || (d && (!(d && m3 o)))) || decide (0 < ab)) || decide (0 < be)
def opd (a u d : Bool) (ab be o : Int) : Int := bif more a u d ab be o then o else 0
theorem without_val (a u d : Bool) (ab be : Int) (o : Nat) (ho : o < 8) : F27 (a, u, d, ab, be, (o : Int)) =
    ((a && (!(a && (opd a u d ab be o != 0))), u && (!(u && m2 (opd a u d ab be o))), d && (!(d && m3 (opd a u d ab be o))), ab, be, opd a u d ab be o),
      a && (opd a u d ab be o != 0), u && m2 (opd a u d ab be o), d && m3 (opd a u d ab be o), 0, 0, 0) := by
  have h : F27 (a, u, d, ab, be, (o : Int)) = bif ((((a && (!(a && ((o : Int) != 0)))) || (u && (!(u && m2p o)))) || (d && (!(d && m3p o)))) || decide (ab > 0)) || decide (be > 0) then
      ((a && (!(a && ((o : Int) != 0))), u && (!(u && m2p o)), d && (!(d && m3p o)), ab, be, (o : Int)), a && ((o : Int) != 0), u && m2p o, d && m3p o, 0, 0, 0) else ((a, u, d, ab, be, 0), false, false, false, 0, 0, 0) := rfl
  rw [h, m2_eq o ho, m3_eq o ho]
  show (bif more a u d ab be o then _ else _) = _
  unfold opd
  cases more a u d ab be o with
  | true => rfl
  | false =>
    rw [cond_false, cond_false]
    have h2 : m2 0 = false := by decide +kernel
    have h3 : m3 0 = false := by decide +kernel
    rw [h2, h3]
    cases a <;> cases u <;> cases d <;> rfl

theorem marked_val {A U D : Int} (hA : W A) (hU : W U) (hD : W D) (f : Nat) (hf : f < 32) (dir o : Int) : F38 ((dir, o), (f : Int), A, U, D) =
    (bif (bit A f && (o != 0)) then shl32 1 (f : Int) else 0, bif (bit U f && m2 o) then shl32 1 (f : Int) else 0, bif (bit D f && m3 o) then shl32 1 (f : Int) else 0) := by
  have h : F38 ((dir, o), (f : Int), A, U, D) = (bif (o != 0) then and32 A (shl32 1 (IntKind.u64.wrap (f : Int))) else 0, bif m2 o then and32 U (shl32 1 (IntKind.u64.wrap (f : Int))) else 0, bif m3 o then and32 D (shl32 1 (IntKind.u64.wrap (f : Int))) else 0) := by
    unfold F38
    unfold m2 m3
    simp only
    generalize ((IntKind.i64.wrap ((BitVec.ofInt IntKind.i64.bits o &&& BitVec.ofInt IntKind.i64.bits (2 : Int)).toNat : Int)) != (0 : Int)) = b2
    generalize ((IntKind.i64.wrap ((BitVec.ofInt IntKind.i64.bits o &&& BitVec.ofInt IntKind.i64.bits (4 : Int)).toNat : Int)) != (0 : Int)) = b3
    cases (o != 0) <;> cases b2 <;> cases b3 <;> rfl
  rw [h, wrap_u64_of (x := (f : Int)) (by omega) (by omega), and_shl hA f hf, and_shl hU f hf, and_shl hD f hf]
  generalize m2 o = b2
  generalize m3 o = b3
  generalize shl32 1 (f : Int) = q
  cases (o != 0) <;> cases b2 <;> cases b3 <;> cases bit A f <;> cases bit U f <;> cases bit D f <;> rfl
theorem mark_eq {A : Int} (hA : W A) (f : Nat) (hf : f < 32) (m : Bool) : ((bif (bit A f && m) then shl32 1 (f : Int) else 0) == A) = true ↔ (bit A f = true → m = true) ∧ ∀ i, i ≠ f → bit A i = false := by
  rw [beq_iff_eq]
  constructor
  · intro h
    refine ⟨fun hb => ?_, fun i hi => ?_⟩
    · cases m with
      | true => rfl
      | false =>
        rw [Bool.and_false, cond_false] at h
        rw [← h, bit_zero] at hb; cases hb
    · rcases Nat.lt_or_ge i 32 with h32 | h32
      · rw [← h]
        cases (bit A f && m) with
        | true => rw [cond_true, bit_one f i h32]; simpa using hi
        | false => exact bit_zero i
      · exact bit_hi hA h32
  · rintro ⟨h1, h2⟩
    refine W.ext (by cases (bit A f && m); exact W.zero; exact W_shl _ _) hA fun i hi => ?_
    by_cases hif : i = f
    · subst hif
      cases hb : bit A i with
      | true => rw [h1 hb]; simp [bit_one i i hi]
      | false => simp [bit_zero]
    · rw [h2 i hif]
      cases (bit A f && m) with
      | true => rw [cond_true, bit_one f i hi]; simpa using hif
      | false => exact bit_zero i
theorem counted_val {A U D : Int} (hA : W A) (hU : W U) (hD : W D) (f : Nat) (hf : f < 32) (dir o ab be : Int) (ha : AboveS (cS A U D) f ab) (hb : BelowS (cS A U D) f be) :
    F37 ((dir, o), (f : Int), A, U, D) = opd (bit A f) (bit U f) (bit D f) ab be o := by
  unfold F37 opd
  rw [marked_val hA hU hD f hf]
  have key : (((bif (bit A f && (o != 0)) then shl32 1 (f : Int) else 0) == A) && (((bif (bit U f && m2 o) then shl32 1 (f : Int) else 0) == U) && ((bif (bit D f && m3 o) then shl32 1 (f : Int) else 0) == D))) = !more (bit A f) (bit U f) (bit D f) ab be o := by
    rw [Bool.eq_iff_iff]
    rw [Bool.and_eq_true, Bool.and_eq_true, mark_eq hA f hf, mark_eq hU f hf, mark_eq hD f hf]
    unfold more
    simp only [Bool.not_eq_true', Bool.or_eq_false_iff, decide_eq_false_iff_not]
    rw [ha.none, hb.none]
    have hs : ∀ i, bit (cS A U D) i = false ↔ bit A i = false ∧ bit U i = false ∧ bit D i = false := fun i => by
      rcases Nat.lt_or_ge i 32 with h32 | h32
      · rw [bit_cS hA hU hD i h32]
        simp only [Bool.or_eq_false_iff]
        exact and_assoc
      · simp [bit_hi (W_cS A U D) h32, bit_hi hA h32, bit_hi hU h32, bit_hi hD h32]
    constructor
    · rintro ⟨⟨h1, h2⟩, ⟨h3, h4⟩, h5, h6⟩
      refine ⟨⟨⟨⟨?_, ?_⟩, ?_⟩, fun i hi => (hs i).2 ⟨h2 i (by omega), h4 i (by omega), h6 i (by omega)⟩⟩, fun i hi => (hs i).2 ⟨h2 i (by omega), h4 i (by omega), h6 i (by omega)⟩⟩
      · cases hx : bit A f with | false => rfl | true => rw [h1 hx]; rfl
      · cases hx : bit U f with | false => rfl | true => rw [h3 hx]; rfl
      · cases hx : bit D f with | false => rfl | true => rw [h5 hx]; rfl
    · rintro ⟨⟨⟨⟨h1, h2⟩, h3⟩, h4⟩, h5⟩
      have hne : ∀ i, i ≠ f → bit A i = false ∧ bit U i = false ∧ bit D i = false := fun i hi => by
        rcases Nat.lt_or_ge i f with h | h
        · exact (hs i).1 (h5 i h)
        · exact (hs i).1 (h4 i (by omega))
      refine ⟨⟨fun hx => ?_, fun i hi => (hne i hi).1⟩, ⟨fun hx => ?_, fun i hi => (hne i hi).2.1⟩, ⟨fun hx => ?_, fun i hi => (hne i hi).2.2⟩⟩
      · rw [hx] at h1; cases hm : (o != 0) with | true => rfl | false => rw [hm] at h1; cases h1
      · rw [hx] at h2; cases hm : m2 o with | true => rfl | false => rw [hm] at h2; cases h2
      · rw [hx] at h3; cases hm : m3 o with | true => rfl | false => rw [hm] at h3; cases h3
  show (bif (((bif (bit A f && (o != 0)) then shl32 1 (f : Int) else 0) == A) && (((bif (bit U f && m2 o) then shl32 1 (f : Int) else 0) == U) && ((bif (bit D f && m3 o) then shl32 1 (f : Int) else 0) == D))) then 0 else o) = _
  rw [key]
  cases more (bit A f) (bit U f) (bit D f) ab be o <;> rfl

/-- Arguments in order. -/
structure Ok (n f : Nat) (dir o : Int) (c u d : Int) : Prop where
  n2 : 2 ≤ n
  n32 : n ≤ 32
  f : f < n
  dir : 0 ≤ dir ∧ dir ≤ 2
  o : 0 ≤ o ∧ o ≤ 7
  c : W c
  u : W u
  d : W d
theorem Ok.proper {n f : Nat} {dir o c u d : Int} (h : Ok n f dir o c u d) : F17 ((n : Int), (dir, o), (f : Int)) = true := by
  have := h.n2; have := h.n32; have := h.f; have := h.dir; have := h.o
  unfold F17 F24
  simp only [Bool.and_eq_true, decide_eq_true_eq]
  omega
theorem Ok.guard {n f : Nat} {dir o c u d : Int} (h : Ok n f dir o c u d) : (((((decide ((n : Int) < (2 : Int))) || (decide ((n : Int) > (32 : Int)))) || (decide ((f : Int) < (0 : Int)))) || (decide ((f : Int) ≥ (n : Int)))) || (!(F25 (dir, o)))) = false := by
  have := h.n2; have := h.n32; have := h.f; have := h.dir; have := h.o
  unfold F25
  simp only [Bool.or_eq_false_iff, Bool.not_eq_false', Bool.and_eq_true, decide_eq_true_eq, decide_eq_false_iff_not]
  omega
theorem cA_idem (n : Nat) (hn : n ≤ 32) (c : Int) (hc : W c) : cA n (cA n c) = cA n c := by
  refine W.ext (W_and _ _) (W_and _ _) fun i hi => ?_
  rw [bit_and (W_and _ _).1 (W_allm _).1 i hi, bit_and hc.1 (W_allm _).1 i hi, Bool.and_assoc, Bool.and_self]
theorem and_idem (x y : Int) (hx : W x) (hy : W y) : and32 (and32 x y) y = and32 x y := by
  refine W.ext (W_and _ _) (W_and _ _) fun i hi => ?_
  rw [bit_and (W_and _ _).1 hy.1 i hi, bit_and hx.1 hy.1 i hi, Bool.and_assoc, Bool.and_self]

/-- What a choice depends on. -/
structure Sc (n f : Nat) (o c u d ab be : Int) : Prop where
  ab : AboveS (cS (cA n c) (cU n u) (cD n d)) f ab
  be : BelowS (cS (cA n c) (cU n u) (cD n d)) f be
abbrev oo (n f : Nat) (o c u d ab be : Int) : Int := opd (bit (cA n c) f) (bit (cU n u) f) (bit (cD n d) f) ab be o
abbrev rc (n f : Nat) (o c u d ab be : Int) : Bool := bit (cA n c) f && (!(bit (cA n c) f && (oo n f o c u d ab be != 0)))
abbrev ru (n f : Nat) (o c u d ab be : Int) : Bool := bit (cU n u) f && (!(bit (cU n u) f && m2 (oo n f o c u d ab be)))
abbrev rd (n f : Nat) (o c u d ab be : Int) : Bool := bit (cD n d) f && (!(bit (cD n d) f && m3 (oo n f o c u d ab be)))
theorem scene {n f : Nat} {dir o c u d : Int} (h : Ok n f dir o c u d) : ∃ ab be, Sc n f o c u d ab be ∧ F27 (F26 ((n : Int), (dir, o), (f : Int), c, u, d)) =
    ((rc n f o c u d ab be, ru n f o c u d ab be, rd n f o c u d ab be, ab, be, oo n f o c u d ab be), bit (cA n c) f && (oo n f o c u d ab be != 0), bit (cU n u) f && m2 (oo n f o c u d ab be), bit (cD n d) f && m3 (oo n f o c u d ab be), 0, 0, 0) := by
  obtain ⟨ab, be, h1, h2, h3⟩ := look_val n f h.n32 h.f (dir, o) c u d h.c
  refine ⟨ab, be, ⟨h1, h2⟩, ?_⟩
  rw [h3]
  obtain ⟨o', rfl⟩ := Int.eq_ofNat_of_zero_le h.o.1
  exact without_val _ _ _ ab be o' (by have := h.o; omega)
theorem uwrap (f : Nat) (hf : f < 32) : IntKind.u64.wrap (f : Int) = (f : Int) := wrap_u64_of (by omega) (by omega)
theorem rhas_up {U D : Int} (hU : W U) (f : Nat) (hf : f < 32) : F19 ((U, D), (f : Int), 1) = bit U f := by
  unfold F19
  have hb : (decide ((f : Int) < 0) || decide ((f : Int) > 31)) = false := by simp; omega
  simp only
  rw [hb, cond_false, uwrap f hf, show ((1 : Int) == 1) = true from rfl, show ((1 : Int) == 2) = false from rfl, Bool.true_and, Bool.false_and, Bool.or_false]
  exact ask_bit hU f
theorem rhas_down {U D : Int} (hD : W D) (f : Nat) (hf : f < 32) : F19 ((U, D), (f : Int), 2) = bit D f := by
  unfold F19
  have hb : (decide ((f : Int) < 0) || decide ((f : Int) > 31)) = false := by simp; omega
  simp only
  rw [hb, cond_false, uwrap f hf, show ((2 : Int) == 1) = false from rfl, show ((2 : Int) == 2) = true from rfl, Bool.true_and, Bool.false_and, Bool.false_or]
  exact ask_bit hD f
def near (ab be : Int) : Int := bif (decide (0 < ab) && ((!decide (0 < be)) || decide (be ≥ ab))) then 1 else bif decide (0 < be) then 2 else 0
theorem rspent {n f : Nat} {dir o c u d ab be : Int} (h : Ok n f dir o c u d) (s : Sc n f o c u d ab be) : F23 ((n : Int), (dir, o), (f : Int), cA n c, cU n u, cD n d) =
    (bif (bit (cA n c) f && (oo n f o c u d ab be != 0)) then shl32 1 (f : Int) else 0, bif (bit (cU n u) f && m2 (oo n f o c u d ab be)) then shl32 1 (f : Int) else 0, bif (bit (cD n d) f && m3 (oo n f o c u d ab be)) then shl32 1 (f : Int) else 0) := by
  have hn := h.n2; have hf := h.f; have h32 := h.n32
  have hp : F32 ((n : Int), cA n c, cU n u, cD n d) = (cA n c, cU n u, cD n d) := by
    rw [proper_val n (by omega) h32 _ _ _ (W_and _ _) (W_and _ _)]
    exact Prod.ext (and_idem _ _ h.c (W_allm _)) (Prod.ext (and_idem _ _ h.u (W_shr (W_allm _) 1 (by omega))) (and_idem _ _ h.d (W_nand _ _)))
  unfold F23
  simp only
  rw [h.guard, cond_false, hp]
  try simp only
  rw [counted_val (W_and _ _) (W_and _ _) (W_and _ _) f (by omega) dir o ab be s.ab s.be, marked_val (W_and _ _) (W_and _ _) (W_and _ _) f (by omega)]
theorem rspent' {n f : Nat} {dir o c u d ab be : Int} (h : Ok n f dir o c u d) (s : Sc n f o c u d ab be) : F23 ((n : Int), (dir, o), (f : Int), c, u, d) =
    (bif (bit (cA n c) f && (oo n f o c u d ab be != 0)) then shl32 1 (f : Int) else 0, bif (bit (cU n u) f && m2 (oo n f o c u d ab be)) then shl32 1 (f : Int) else 0, bif (bit (cD n d) f && m3 (oo n f o c u d ab be)) then shl32 1 (f : Int) else 0) := by
  have hn := h.n2; have hf := h.f; have h32 := h.n32
  unfold F23
  simp only
  rw [h.guard, cond_false, proper_val n (by omega) h32 _ _ _ h.u h.d]
  try simp only
  rw [counted_val (W_and _ _) (W_and _ _) (W_and _ _) f (by omega) dir o ab be s.ab s.be, marked_val (W_and _ _) (W_and _ _) (W_and _ _) f (by omega)]
theorem live_bit {A : Int} (hA : W A) (f : Nat) (hf : f < 32) (m : Bool) : bit (nand32 A (bif (bit A f && m) then shl32 1 (f : Int) else 0)) f = (bit A f && (!(bit A f && m))) := by
  have hW : W (bif (bit A f && m) then shl32 1 (f : Int) else 0) := by cases (bit A f && m); exact W.zero; exact W_shl _ _
  rw [bit_nand hA.1 hW.1 f hf]
  cases (bit A f && m) with
  | true => rw [cond_true, bit_one f f hf]; simp
  | false => rw [cond_false, bit_zero]
theorem rlook {n f : Nat} {dir o c u d ab be : Int} (h : Ok n f dir o c u d) (s : Sc n f o c u d ab be) : F31 ((n : Int), (dir, o), (f : Int), cA n c, cU n u, cD n d) =
    (ru n f o c u d ab be, rd n f o c u d ab be, rc n f o c u d ab be, decide (0 < ab), decide (0 < be), near ab be) := by
  have hn := h.n2; have hf := h.f; have h32 := h.n32
  unfold F31
  simp only
  rw [rspent h s, above_val f (by omega) s.ab, below_val f (by omega) s.be, uwrap f (by omega)]
  simp only
  have e1 : F15 ((cU n u, cD n d), (bif (bit (cU n u) f && m2 (oo n f o c u d ab be)) then shl32 1 (f : Int) else 0), (bif (bit (cD n d) f && m3 (oo n f o c u d ab be)) then shl32 1 (f : Int) else 0)) =
      (nand32 (cU n u) (bif (bit (cU n u) f && m2 (oo n f o c u d ab be)) then shl32 1 (f : Int) else 0), nand32 (cD n d) (bif (bit (cD n d) f && m3 (oo n f o c u d ab be)) then shl32 1 (f : Int) else 0)) := rfl
  rw [e1, rhas_up (W_nand _ _) f (by omega), rhas_down (W_nand _ _) f (by omega), live_bit (W_and _ _) f (by omega), live_bit (W_and _ _) f (by omega)]
  have e2 := ask_bit (W_nand (cA n c) (bif (bit (cA n c) f && (oo n f o c u d ab be != 0)) then shl32 1 (f : Int) else 0)) f
  rw [live_bit (W_and _ _) f (by omega)] at e2
  rw [e2]
  unfold near
  cases (decide (0 < ab) && ((!decide (0 < be)) || decide (be ≥ ab))) with
  | true => rfl
  | false =>
    rw [cond_false, cond_false]
    cases decide (0 < be) <;> rfl
end Go.Proofs.YtidnlehjabhclaaDoor.Sp
