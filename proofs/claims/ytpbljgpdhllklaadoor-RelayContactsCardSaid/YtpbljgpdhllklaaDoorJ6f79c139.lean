/- Own texts joined by pk.py. -/
import Derived.Test.YtpbljgpdhllklaaDoorJa992684b
import Derived.Test.YtpbljgpdhllklaaDoorJ35023f0f
import Derived.Test.YtpbljgpdhllklaaDoorTie
import Derived.Test.YtpbljgpdhllklaaDoorCards
import Derived.Lib.LaidTab
import Derived.ProofKit
import Derived.LaidMore
import Derived.OpenShut
import Derived.Stop.Joined
import Derived.SevenTiedAt
import Derived.Test.YtpbljgpdhllklaaDoorRows
section
/- RelaySteps: the plain law (own work). -/
namespace Go.Proofs.YtpbljgpdhllklaaDoor.Sp
open Go Sy
set_option linter.unusedVariables false
set_option linter.unusedSimpArgs false
set_option maxRecDepth 10000
abbrev rcar (s : RelT) : Int := s.2.2.2.2.2.2.2
abbrev rcalls (s : RelT) : Int × Int := s.2.2.2.2.2.2.1
theorem decide_keeps (y : Int × CarT × RelT) : (F67 y).2.2.2.2.2.2 = y.2.2.2.2.2.2.2.2 := by
  unfold F67 K67_1 K67_2 K67_3 F66
  simp only [cond_eq_ite]
  repeat' split
  all_goals rfl
theorem over_keeps (y : Int × CarT × RelT) : (F37 y).2.2.2.2.2.2 = y.2.2.2.2.2.2.2.2 := by
  unfold F37
  simp only [cond_eq_ite]
  split
  · rfl
  · split
    · rfl
    · split
      · exact decide_keeps _
      · exact decide_keeps _
theorem step_W (x : BldT × Int × RelT × (Int × Int) × Int) : W (rcar (F17 x)) ∧ W (rcalls (F17 x)).1 ∧ W (rcalls (F17 x)).2 := by
  have hk := over_keeps (x.1.1, (nthT x.1.2.2.2.2.2.2.2 x.2.1), x.2.2.1.1, x.2.2.1.2.1, x.2.2.1.2.2.1, x.2.2.1.2.2.2.1, x.2.2.1.2.2.2.2.1, x.2.2.1.2.2.2.2.2.1, (F34 (x.2.2.1.2.2.2.2.2.2.1, (F35 (x.2.2.2.1, (F36 x.1))))), (IntKind.u32.wrap ((BitVec.ofInt IntKind.u32.bits x.2.2.1.2.2.2.2.2.2.2 ||| BitVec.ofInt IntKind.u32.bits (IntKind.u32.wrap ((BitVec.ofInt IntKind.u32.bits x.2.2.2.2 &&& BitVec.ofInt IntKind.u32.bits (IntKind.u32.wrap ((IntKind.u32.wrap ((1 : Int) * 2 ^ (min (x.1.1).toNat IntKind.u32.bits))) - (1 : Int)))).toNat : Int))).toNat : Int)))
  have hk1 : (K17_1 x).2.2.2.2.2.2 = _ := hk
  have c1 : rcar (K17_1 x) = _ := congrArg Prod.snd hk1
  have c2 : rcalls (K17_1 x) = _ := congrArg Prod.fst hk1
  unfold F17
  simp only [cond_eq_ite]
  repeat' split
  · exact ⟨W.zero, W.zero, W.zero⟩
  · exact ⟨W_nand _ _, W_nand _ _, W_nand _ _⟩
  · exact ⟨W_or _ _, W_or _ _, W_or _ _⟩
  · exact ⟨W_nand _ _, W_nand _ _, W_nand _ _⟩
  · refine ⟨?_, ?_, ?_⟩
    · rw [c1]; exact W_or _ _
    · rw [c2]; exact W_or _ _
    · rw [c2]; exact W_or _ _
/-- A fact that every step keeps holds of the state that is made from numbers. -/
theorem state_ind (P : RelT → Prop) (b : BldT) (car : Int) (l : List Int) (hl : b.cars.length ≤ maxLen) (h0 : P (F15 0))
    (hs : ∀ s inj press, W inj.1 → W inj.2 → W press → W (rcar s) → P s → P (F17 (b, car, s, inj, press))) : W (rcar (F12 (b, car, l))) ∧ P (F12 (b, car, l)) := by
  unfold F12 G12_3
  refine loop_spec (ρ := RelT) (step := st12_3) (k := (car, l, b)) (fun y => 0 ≤ y.1 ∧ W (rcar y.2) ∧ P y.2) (mu12_3 (car, l, b)) (fun _ y => W (rcar y.2) ∧ P y.2) (fun y hy => ?_) _ _ ⟨by simp, W.zero, h0⟩ (Nat.lt_succ_self _)
  unfold st12_3
  cases hc : (decide (y.1 < (l.length : Int))) && (decide (y.1 < (100 : Int))) with
  | true =>
    rw [cond_true]
    simp only [Bool.and_eq_true, decide_eq_true_eq] at hc
    simp only
    rw [wrap_i64_of (x := y.1 + 1) (by omega) (by omega)]
    obtain ⟨i, p, w1, w2, w3, e⟩ : ∃ (i : Int × Int) (p : Int), W i.1 ∧ W i.2 ∧ W p ∧ K12_3_1 (car, l, b) y = F17 (b, car, y.2, i, p) := by
      refine ⟨(_, _), _, ?_, ?_, ?_, (step_eq b car y.2 (_, _) _ hl hy.2.1).symm⟩
      · exact W_wrap _
      · exact W_wrap _
      · exact W_wrap _
    rw [e]
    exact ⟨⟨by omega, (step_W _).1, hs _ _ _ w1 w2 w3 hy.2.1 hy.2.2⟩, by unfold mu12_3; simp only; omega⟩
  | false => rw [cond_false]; exact hy.2
theorem u8_of {x : Int} (h : (Lit.int .u8 x).wf = true) : 0 ≤ x ∧ x ≤ 255 := by
  simp only [Lit.wf, Bool.and_eq_true, decide_eq_true_eq] at h
  exact h
theorem rsane_true : F16 () = true := by kernel_rfl
theorem rsame_true (b : BldT) (car : Int) (s : RelT) (inj : Int × Int) (press : Int) (hl : b.cars.length ≤ maxLen) (hc : W (rcar s)) : F13 (b, car, s, inj, press) = true := by
  unfold F13
  simp only
  rw [step_eq b car s inj press hl hc, istate_eq b s hl hc, contacts_eq]
  simp only [beq_self_eq_true, Bool.and_self]
theorem r13 (s0 : RelT) (b : BldT) (s : RelT) (i : Int) (hl : b.cars.length ≤ maxLen) (hc : W (rcar s)) : R3_13 (s0, b, s) i = none := ret_none (fun _ => True) (fun x _ => by
  unfold st3_13
  simp only
  rw [rsame_true b x s _ _ hl hc, rsame_true b x s _ _ hl hc]
  cases decide (x ≤ (b.2.2.2.2.2.2.2.length : Int)) <;> simp) _ _ trivial
theorem r10 (p q r s0 : RelT) (m : Int) (b : BldT) (i : Int) (hm : m ≤ 3) (hi : 0 ≤ i) (hl : b.cars.length ≤ maxLen) (hp : W (rcar p)) (hq : W (rcar q)) (hr : W (rcar r)) : R3_10 ([p, q, r], m, s0, b) i = none := ret_none (fun x => 0 ≤ x) (fun x hx => by
  unfold st3_10
  simp only
  cases hc : decide (x < m) with
  | true =>
    rw [decide_eq_true_eq] at hc
    rw [cond_true]
    have h3 : x = 0 ∨ x = 1 ∨ x = 2 := by omega
    have hW : W (rcar (nthT [p, q, r] x)) := by
      rcases h3 with rfl | rfl | rfl
      · exact hp
      · exact hq
      · exact hr
    rw [r13 _ _ _ _ hl hW]
    simp only [optR]
    rw [wrap_i64_of (x := x + 1) (by omega) (by omega)]
    omega
  | false => rw [cond_false]; trivial) _ _ hi
theorem law_rsteps (x : ct3.p.den) (h : InR ct3.p x) : ct3.F x = true := by
  obtain ⟨m, l, st, fl, dir, op, dr, tm, ⟨u, d⟩, car⟩ := x
  have hc : W car := W_of h.2.2.2.2.2.2.2.2.2
  have hb := b15_len (x := m) ⟨u8_of h.1.1, u8_of h.1.2⟩
  have hl : (F11 m).2.2.2.2.2.2.2.length ≤ maxLen := Nat.le_trans hb (by decide)
  have hS := (state_ind (fun _ => True) _ 0 l hl trivial (fun _ _ _ _ _ _ _ _ => trivial)).1
  have hz : ∀ (s : RelT) (i : Int × Int) (p : Int), W (rcar s) → F13 (((0 : Int), (0 : Int), (0 : Int), (0 : Int), (0 : Nat), (0 : Nat), (0 : Nat), []), (0 : Int), s, i, p) = true := fun s i p hs => rsame_true (0, 0, 0, 0, 0, 0, 0, []) 0 s i p (Nat.zero_le _) hs
  have hN : ∀ z : Int, F14 z = F15 z := fun _ => rfl
  show F3 (m, l, st, fl, dir, op, dr, tm, (u, d), car) = true
  unfold F3
  simp only
  rw [r10 _ _ _ _ _ _ _ (by simp) (by simp) hl hS hc (W_and _ _), r10 _ _ _ _ _ _ _ (by simp) (by simp) hl hS hc (W_and _ _)]
  simp only [optR, hz (st, fl, dir, op, dr, tm, (u, d), car) _ _ hc, hN, rsane_true, beq_self_eq_true, Bool.and_self, Bool.cond_self]
end Go.Proofs.YtpbljgpdhllklaaDoor.Sp
end

section
/- The relay car: its states, and that a tick keeps them (own work). -/
namespace Go.Proofs.YtpbljgpdhllklaaDoor.Sp
open Go Sy
set_option linter.unusedVariables false
set_option linter.unusedSimpArgs false
set_option maxRecDepth 10000
theorem cS_lt {n : Nat} {c u d : Int} (hn : n ≤ 32) (hc : W c) (hu : W u) (hd : W d) {i : Nat} (h : bit (cS (cA n c) (cU n u) (cD n d)) i = true) : i < n := by
  have hi : i < 32 := bit_lt (W_cS _ _ _) h
  rw [bit_cS (W_and _ _) (W_and _ _) (W_and _ _) i hi, bit_cA hn hc, bit_cU hn hu, bit_cD hn hd] at h
  simp only [Bool.or_eq_true, Bool.and_eq_true, decide_eq_true_eq] at h
  omega
theorem up_room {n f : Nat} {dir o c u d ab be : Int} (h : Ok n f dir o c u d) (s : Sc n f o c u d ab be) (ha : decide (0 < ab) = true) : f + 1 < n := by
  obtain ⟨i, hi, hb⟩ := s.up_iff.1 ha
  have := cS_lt h.n32 h.c h.u h.d hb
  omega
theorem down_room {n f : Nat} {o c u d ab be : Int} (s : Sc n f o c u d ab be) (ha : decide (0 < be) = true) : 0 < f := by
  obtain ⟨i, hi, hb⟩ := s.down_iff.1 ha
  omega
set_option synthInstance.maxHeartbeats 400000
set_option synthInstance.maxSize 4096
theorem T1 : ∀ dir, dir < 3 → ∀ o, o < 8 → ∀ A U D a b l : Bool,
    ((ch ((dir : Nat) : Int) ((o : Nat) : Int) A U D a b l).1 = 3 ∧ (chN dir o A U D a b l).1 = (ch dir o A U D a b l).2.2 ∧ (0 ≤ (chN dir o A U D a b l).1 ∧ (chN dir o A U D a b l).1 ≤ 2) ∧ 0 ≤ (chN dir o A U D a b l).2 ∧ (chN dir o A U D a b l).2 ≤ 7) ∨
    ((ch dir o A U D a b l).1 = 1 ∧ a = true ∧ chN dir o A U D a b l = (1, 0)) ∨
    ((ch dir o A U D a b l).1 = 2 ∧ b = true ∧ chN dir o A U D a b l = (2, 0)) ∨
    ((ch dir o A U D a b l).1 = 0 ∧ (A || U || D || a || b) = false ∧ chN dir o A U D a b l = (0, 0)) := by decide +kernel
theorem hall_bits : ∀ n : Nat, n < 33 → ∀ i, i < 32 → 2 ≤ n → bit (hallT (n : Int)).1 i = decide (i + 1 < n) ∧ bit (hallT (n : Int)).2 i = decide (0 < i ∧ i < n) := by decide +kernel
theorem hall_W : ∀ n : Nat, n < 33 → W (hallT (n : Int)).1 ∧ W (hallT (n : Int)).2 := fun n hn => ⟨W_wrap _, W_wrap _⟩
/-- A state of the relay. -/
structure RS (n : Nat) (s : RelT) : Prop where
  st : 0 ≤ s.1 ∧ s.1 ≤ 4
  fl : 0 ≤ s.2.1 ∧ s.2.1 < n
  dir : 0 ≤ s.2.2.1 ∧ s.2.2.1 ≤ 2
  op : 0 ≤ s.2.2.2.1 ∧ s.2.2.2.1 ≤ 7
  dr : s.2.2.2.2.1 = F48 s.1
  tm : 0 ≤ s.2.2.2.2.2.1 ∧ s.2.2.2.2.2.1 ≤ 1000000
  tz : s.2.2.2.2.2.1 = 0 ↔ s.1 = 0
  mv : s.1 = 1 → (s.2.2.1 = 1 ∧ s.2.1 + 1 < n) ∨ (s.2.2.1 = 2 ∧ 0 < s.2.1)
  wu : W (rcalls s).1
  wd : W (rcalls s).2
  wc : W (rcar s)
  ub : ∀ i, bit (rcalls s).1 i = true → i + 1 < n
  db : ∀ i, bit (rcalls s).2 i = true → 0 < i ∧ i < n
  cb : ∀ i, bit (rcar s) i = true → i < n
theorem nand_zero {x y : Int} (hx : W x) (hy : W y) (h : ∀ i, bit x i = true → bit y i = true) : nand32 x y = 0 :=
  W.ext (W_nand _ _) W.zero fun i hi => by
    rw [bit_nand hx.1 hy.1 i hi, bit_zero]
    cases hb : bit x i with
    | true => rw [h i hb]; rfl
    | false => rfl
theorem shr_zero {x : Int} (hx : W x) (n : Nat) (h : ∀ i, bit x i = true → i < n) : shr32 x (n : Int) = 0 :=
  W.ext (W_shr hx _ (by omega)) W.zero fun i hi => by
    rw [bit_shr hx n i, bit_zero]
    cases hb : bit x (n + i) with
    | true => have := h _ hb; omega
    | false => rfl
theorem RS.istate {b : BldT} {n : Nat} {s : RelT} (hB : IsB b) (hl : b.cars.length ≤ maxLen) (hn : b.1 = n) (h : RS n s) : F19 (b, s) = true := by
  have hf := hB.fl
  have hn32 : n ≤ 32 := by omega
  have hn2 : 2 ≤ n := by omega
  obtain ⟨st, fl, dir, op, dr, tm, ⟨u, d⟩, car⟩ := s
  obtain ⟨h1, h2, h3, h4, h5, h6, h7, h8, wu, wd, wc, ub, db, cb⟩ := h
  simp only at h1 h2 h3 h4 h5 h6 h7 h8
  have hm : F38 ((u, d), hallT b.1) = (0, 0) := by
    have hw := hall_W n (by omega)
    show (nand32 u (hallT b.1).1, nand32 d (hallT b.1).2) = (0, 0)
    rw [hn]
    rw [nand_zero wu hw.1 (fun i hi => by
        have hi32 := bit_lt wu hi
        rw [(hall_bits n (by omega) i hi32 hn2).1, decide_eq_true_eq]; exact ub i hi),
      nand_zero wd hw.2 (fun i hi => by
        have hi32 := bit_lt wd hi
        rw [(hall_bits n (by omega) i hi32 hn2).2, decide_eq_true_eq]; exact db i hi)]
  have hc : Int.fdiv car (2 ^ (min b.1.toNat IntKind.u32.bits)) = 0 := by
    rw [hn]; exact shr_zero wc n cb
  unfold F19 F45 F46 F47
  simp only
  rw [valid_cond b hl, hall_eq b hl]
  simp only [hB, not_true, decide_false, Bool.false_or, if_true]
  rw [hm, hc, ← h5, wrap_i64_of (x := b.1 - 1) (by omega) (by omega)]
  have e1 : (decide (st ≥ 0) && decide (st ≤ 4)) = true := by simp; omega
  have e2 : (decide (fl ≥ 0) && decide (fl ≤ b.1 - 1)) = true := by simp; omega
  have e3 : (decide (dir ≥ 0) && decide (dir ≤ 2) && decide (op ≥ 0) && decide (op ≤ 7)) = true := by simp; omega
  have e4 : (decide (tm ≥ 0) && decide (tm ≤ 1000000)) = true := by simp; omega
  have e5 : ((tm == 0) == (st == 0)) = true := by
    rw [beq_iff_eq, Bool.eq_iff_iff]; simpa using h7
  rw [e1, e2, e3, e4, e5]
  simp only [Bool.not_true, Bool.or_false, cond_false, beq_self_eq_true, Bool.and_true]
  by_cases hs : st = 1
  · rcases h8 hs with ⟨ha, hb⟩ | ⟨ha, hb⟩
    · subst ha
      have e6 : (decide (IntKind.i64.wrap (fl + 1) ≥ 0) && decide (IntKind.i64.wrap (fl + 1) ≤ b.1 - 1)) = true := by
        rw [wrap_i64_of (by omega) (by omega)]; simp; omega
      simp [e6]
    · subst ha
      have e6 : (decide (IntKind.i64.wrap (fl - 1) ≥ 0) && decide (IntKind.i64.wrap (fl - 1) ≤ b.1 - 1)) = true := by
        rw [wrap_i64_of (by omega) (by omega)]; simp; omega
      simp [e6]
  · have e7 : (st == 1) = false := by simpa using hs
    rw [e7]; rfl
/-- The sets, with what joins them. -/
abbrev mU (n : Nat) (u i : Int) : Int := or32 u (and32 i (hallT (n : Int)).1)
abbrev mD (n : Nat) (d i : Int) : Int := or32 d (and32 i (hallT (n : Int)).2)
abbrev mC (n : Nat) (c p : Int) : Int := or32 c (and32 p (allm (n : Int)))
theorem bit_mU {n : Nat} (hn : n ≤ 32) (hn2 : 2 ≤ n) {u x : Int} (hu : W u) (hx : W x) (i : Nat) : bit (mU n u x) i = (bit u i || (bit x i && decide (i + 1 < n))) := by
  rcases Nat.lt_or_ge i 32 with hi | hi
  · rw [bit_or hu.1 (W_and _ _).1 i hi, bit_and hx.1 (hall_W n (by omega)).1.1 i hi, (hall_bits n (by omega) i hi hn2).1]
  · rw [bit_hi (W_or _ _) hi, bit_hi hu hi, bit_hi hx hi]; rfl
theorem bit_mD {n : Nat} (hn : n ≤ 32) (hn2 : 2 ≤ n) {u x : Int} (hu : W u) (hx : W x) (i : Nat) : bit (mD n u x) i = (bit u i || (bit x i && decide (0 < i ∧ i < n))) := by
  rcases Nat.lt_or_ge i 32 with hi | hi
  · rw [bit_or hu.1 (W_and _ _).1 i hi, bit_and hx.1 (hall_W n (by omega)).2.1 i hi, (hall_bits n (by omega) i hi hn2).2]
  · rw [bit_hi (W_or _ _) hi, bit_hi hu hi, bit_hi hx hi]; rfl
theorem bit_mC {n : Nat} (hn : n ≤ 32) {u x : Int} (hu : W u) (hx : W x) (i : Nat) : bit (mC n u x) i = (bit u i || (bit x i && decide (i < n))) := by
  rcases Nat.lt_or_ge i 32 with hi | hi
  · rw [bit_or hu.1 (W_and _ _).1 i hi, bit_and hx.1 (W_allm _).1 i hi, bit_allm n i hn]
  · rw [bit_hi (W_or _ _) hi, bit_hi hu hi, bit_hi hx hi]; rfl
/-- A car that waits serves its floor. -/
def srv (s : RelT) : RelT := bif (s.1 == 3) then (s.1, s.2.1, s.2.2.1, s.2.2.2.1, s.2.2.2.2.1, s.2.2.2.2.2.1, (F38 (s.2.2.2.2.2.2.1, F39 (s.2.1, s.2.2.1))), nand32 s.2.2.2.2.2.2.2 (shl32 1 s.2.1)) else s
/-- The state behind a tick, with its sets, before the service. -/
def nxt (b : BldT) (car : Int) (n : Nat) (s : RelT) (inj : Int × Int) (press : Int) : RelT :=
  bif decide (s.2.2.2.2.2.1 > 1) then (s.1, s.2.1, s.2.2.1, s.2.2.2.1, s.2.2.2.2.1, s.2.2.2.2.2.1 - 1, (mU n s.2.2.2.2.2.2.1.1 inj.1, mD n s.2.2.2.2.2.2.1.2 inj.2), mC n s.2.2.2.2.2.2.2 press)
  else F37 (b.1, nthT b.2.2.2.2.2.2.2 car, s.1, s.2.1, s.2.2.1, s.2.2.2.1, s.2.2.2.2.1, s.2.2.2.2.2.1, (mU n s.2.2.2.2.2.2.1.1 inj.1, mD n s.2.2.2.2.2.2.1.2 inj.2), mC n s.2.2.2.2.2.2.2 press)
theorem step_form {b : BldT} {car : Int} {n : Nat} {s : RelT} (inj : Int × Int) (press : Int) (hB : IsB b) (hl : b.cars.length ≤ maxLen) (hn : b.1 = n) (h0 : 0 ≤ car) (h1 : car < (b.2.2.2.2.2.2.2.length : Int)) (h : RS n s) :
    F17 (b, car, s, inj, press) = srv (nxt b car n s inj press) := by
  have hg : (((!F19 (b, s)) || decide (car < 0)) || decide (car ≥ (b.2.2.2.2.2.2.2.length : Int))) = false := by
    rw [h.istate hB hl hn]; simp; omega
  have ht := h.tm
  obtain ⟨st, fl, dir, op, dr, tm, ⟨u, d⟩, cr⟩ := s
  simp only at ht
  unfold F17 K17_1 nxt
  simp only
  rw [hg, cond_false, hall_eq b hl, if_pos hB, hn]
  cases hc : decide (tm > 1) with
  | true =>
    simp only [decide_eq_true_eq] at hc
    rw [wrap_i64_of (x := tm - 1) (by omega) (by omega)]
    simp only [cond_true]
    rfl
  | false =>
    simp only [cond_false]
    rfl
/-- What a car decides at a floor. -/
def dcs (cfg : CarT) (g : Int) (u d c : Int) (C : Int × Int × Int) (N : Int × Int) : RelT :=
  bif (C.1 == 3) then (2, g, N.1, N.2, 0, cfg.2.2.2.2.2.1, (u, d), c)
  else bif (C.1 == 1 || C.1 == 2) then (1, g, N.1, N.2, 2, cfg.2.2.2.2.1, (u, d), c)
  else (0, g, N.1, N.2, 2, 0, (u, d), c)
theorem dec_form {n g : Nat} {dir o c u d : Int} (h : Ok n g dir o c u d) (cfg : CarT) (st dr tm : Int) : ∃ ab be, Sc n g o c u d ab be ∧
    F67 ((n : Int), cfg, st, (g : Int), dir, o, dr, tm, (u, d), c) = dcs cfg g u d c (ch dir o (bit (cA n c) g) (bit (cU n u) g) (bit (cD n d) g) (decide (0 < ab)) (decide (0 < be)) (decide (be ≥ ab))) (chN dir o (bit (cA n c) g) (bit (cU n u) g) (bit (cD n d) g) (decide (0 < ab)) (decide (0 < be)) (decide (be ≥ ab))) := by
  obtain ⟨ab, be, s, hC, hN⟩ := Choose_ch h
  refine ⟨ab, be, s, ?_⟩
  unfold F67 K67_1 K67_2 K67_3 dcs
  simp only
  rw [hC, hN]
  generalize ch dir o (bit (cA n c) g) (bit (cU n u) g) (bit (cD n d) g) (decide (0 < ab)) (decide (0 < be)) (decide (be ≥ ab)) = C
  generalize chN dir o (bit (cA n c) g) (bit (cU n u) g) (bit (cD n d) g) (decide (0 < ab)) (decide (0 < be)) (decide (be ≥ ab)) = N
  cases h3 : (C.1 == 3) with
  | true => rfl
  | false =>
    cases h1 : (C.1 == 1) with
    | true => rfl
    | false => cases h2 : (C.1 == 2) <;> rfl
structure SetsOk (n : Nat) (u d c : Int) : Prop where
  wu : W u
  wd : W d
  wc : W c
  ub : ∀ i, bit u i = true → i + 1 < n
  db : ∀ i, bit d i = true → 0 < i ∧ i < n
  cb : ∀ i, bit c i = true → i < n
theorem RS.sets {n : Nat} {s : RelT} (h : RS n s) : SetsOk n (rcalls s).1 (rcalls s).2 (rcar s) := ⟨h.wu, h.wd, h.wc, h.ub, h.db, h.cb⟩
theorem SetsOk.more {n : Nat} {u d c : Int} (h : SetsOk n u d c) (hn : n ≤ 32) (hn2 : 2 ≤ n) {iu id p : Int} (hu : W iu) (hd : W id) (hp : W p) : SetsOk n (mU n u iu) (mD n d id) (mC n c p) where
  wu := W_or _ _
  wd := W_or _ _
  wc := W_or _ _
  ub := fun i hi => by
    rw [bit_mU hn hn2 h.wu hu, Bool.or_eq_true, Bool.and_eq_true, decide_eq_true_eq] at hi
    rcases hi with hi | hi
    · exact h.ub i hi
    · exact hi.2
  db := fun i hi => by
    rw [bit_mD hn hn2 h.wd hd, Bool.or_eq_true, Bool.and_eq_true, decide_eq_true_eq] at hi
    rcases hi with hi | hi
    · exact h.db i hi
    · exact hi.2
  cb := fun i hi => by
    rw [bit_mC hn h.wc hp, Bool.or_eq_true, Bool.and_eq_true, decide_eq_true_eq] at hi
    rcases hi with hi | hi
    · exact h.cb i hi
    · exact hi.2
theorem nand_sub {x y : Int} (hx : W x) (hy : W y) (i : Nat) (h : bit (nand32 x y) i = true) : bit x i = true := by
  have hi := bit_lt (W_nand _ _) h
  rw [bit_nand hx.1 hy.1 i hi, Bool.and_eq_true] at h
  exact h.1
theorem one_W (f d : Int) : W (F39 (f, d)).1 ∧ W (F39 (f, d)).2 := by
  unfold F39
  simp only [cond_eq_ite]
  repeat' split
  all_goals first | exact ⟨W_wrap _, W.zero⟩ | exact ⟨W.zero, W_wrap _⟩ | exact ⟨W.zero, W.zero⟩
theorem srv_RS {n : Nat} {s : RelT} (h : RS n s) : RS n (srv s) := by
  unfold srv
  cases h3 : (s.1 == 3) with
  | false => exact h
  | true =>
    have hw := one_W s.2.1 s.2.2.1
    exact { st := h.st, fl := h.fl, dir := h.dir, op := h.op, dr := h.dr, tm := h.tm, tz := h.tz, mv := h.mv, wu := W_nand _ _, wd := W_nand _ _, wc := W_nand _ _,
            ub := fun i hi => h.ub i (nand_sub h.wu hw.1 i hi), db := fun i hi => h.db i (nand_sub h.wd hw.2 i hi), cb := fun i hi => h.cb i (nand_sub h.wc (W_wrap _) i hi) }
theorem rs_of {n : Nat} {st g dir op dr tm u d c : Int} (hs : SetsOk n u d c) (h1 : 0 ≤ st ∧ st ≤ 4) (hg : 0 ≤ g ∧ g < n) (hd : 0 ≤ dir ∧ dir ≤ 2) (ho : 0 ≤ op ∧ op ≤ 7) (h5 : dr = F48 st) (h6 : 0 ≤ tm ∧ tm ≤ 1000000) (h7 : tm = 0 ↔ st = 0)
    (h8 : st = 1 → (dir = 1 ∧ g + 1 < n) ∨ (dir = 2 ∧ 0 < g)) : RS n (st, g, dir, op, dr, tm, (u, d), c) :=
  ⟨h1, hg, hd, ho, h5, h6, h7, h8, hs.wu, hs.wd, hs.wc, hs.ub, hs.db, hs.cb⟩
theorem dec_RS {n g : Nat} {dir o c u d : Int} (h : Ok n g dir o c u d) (hs : SetsOk n u d c) {cfg : CarT} (hS : 1 ≤ cfg.2.2.2.2.1 ∧ cfg.2.2.2.2.1 ≤ 10000) (hT : 1 ≤ cfg.2.2.2.2.2.1 ∧ cfg.2.2.2.2.2.1 ≤ 10000) (st dr tm : Int) :
    RS n (F67 ((n : Int), cfg, st, (g : Int), dir, o, dr, tm, (u, d), c)) := by
  obtain ⟨ab, be, s, e⟩ := dec_form h cfg st dr tm
  rw [e]
  have hg := h.f
  have ha := up_room h s
  have hb := down_room s
  obtain ⟨dir', rfl⟩ := Int.eq_ofNat_of_zero_le h.dir.1
  obtain ⟨o', rfl⟩ := Int.eq_ofNat_of_zero_le h.o.1
  have t := T1 dir' (by have := h.dir; omega) o' (by have := h.o; omega) (bit (cA n c) g) (bit (cU n u) g) (bit (cD n d) g) (decide (0 < ab)) (decide (0 < be)) (decide (be ≥ ab))
  generalize ch (dir' : Int) (o' : Int) (bit (cA n c) g) (bit (cU n u) g) (bit (cD n d) g) (decide (0 < ab)) (decide (0 < be)) (decide (be ≥ ab)) = C at t
  generalize chN (dir' : Int) (o' : Int) (bit (cA n c) g) (bit (cU n u) g) (bit (cD n d) g) (decide (0 < ab)) (decide (0 < be)) (decide (be ≥ ab)) = N at t
  have hg' : 0 ≤ (g : Int) ∧ (g : Int) < n := by omega
  have e3 : ∀ N : Int × Int, C.1 = 3 → dcs cfg g u d c C N = (2, (g : Int), N.1, N.2, 0, cfg.2.2.2.2.2.1, (u, d), c) := fun N h => by unfold dcs; rw [h]; rfl
  have e1 : ∀ N : Int × Int, C.1 = 1 ∨ C.1 = 2 → dcs cfg g u d c C N = (1, (g : Int), N.1, N.2, 2, cfg.2.2.2.2.1, (u, d), c) := fun N h => by unfold dcs; rcases h with h | h <;> (rw [h]; rfl)
  have e0 : ∀ N : Int × Int, C.1 = 0 → dcs cfg g u d c C N = (0, (g : Int), N.1, N.2, 2, 0, (u, d), c) := fun N h => by unfold dcs; rw [h]; rfl
  rcases t with ⟨t1, _, t3, t4⟩ | ⟨t1, t2, rfl⟩ | ⟨t1, t2, rfl⟩ | ⟨t1, _, rfl⟩
  · rw [e3 _ t1]
    exact rs_of hs (by decide) hg' t3 t4 rfl (by omega) (by omega) (by omega)
  · rw [e1 _ (Or.inl t1)]
    have := ha t2
    exact rs_of hs (by decide) hg' (by decide) (by decide) rfl (by omega) (by omega) (fun _ => Or.inl ⟨rfl, by omega⟩)
  · rw [e1 _ (Or.inr t1)]
    have := hb t2
    exact rs_of hs (by decide) hg' (by decide) (by decide) rfl (by omega) (by omega) (fun _ => Or.inr ⟨rfl, by omega⟩)
  · rw [e0 _ t1]
    exact rs_of hs (by decide) hg' (by decide) (by decide) rfl (by decide) (by decide) (fun h => by cases h)
theorem over_RS {n : Nat} {st fl dir op dr tm u d c : Int} (hn : n ≤ 32) (hn2 : 2 ≤ n) (h : RS n (st, fl, dir, op, dr, tm, (u, d), c)) {cfg : CarT} (hS : 1 ≤ cfg.2.2.2.2.1 ∧ cfg.2.2.2.2.1 ≤ 10000) (hT : 1 ≤ cfg.2.2.2.2.2.1 ∧ cfg.2.2.2.2.2.1 ≤ 10000)
    (hD : 1 ≤ cfg.2.2.2.2.2.2.1 ∧ cfg.2.2.2.2.2.2.1 ≤ 10000) : RS n (F37 ((n : Int), cfg, st, fl, dir, op, dr, tm, (u, d), c)) := by
  have hs : SetsOk n u d c := h.sets
  have h1 := h.st; have h2 := h.fl; have h3 := h.dir; have h4 := h.op; have h8 := h.mv
  simp only at h1 h2 h3 h4 h8
  obtain ⟨f, rfl⟩ := Int.eq_ofNat_of_zero_le h2.1
  unfold F37
  simp only [cond_eq_ite, beq_iff_eq]
  split
  · show RS n (3, (f : Int), dir, op, F48 3, cfg.2.2.2.2.2.2.1, (u, d), c)
    exact rs_of hs (by decide) h2 h3 h4 rfl (by omega) (by omega) (by omega)
  · split
    · show RS n (4, (f : Int), dir, op, F48 4, cfg.2.2.2.2.2.1, (u, d), c)
      exact rs_of hs (by decide) h2 h3 h4 rfl (by omega) (by omega) (by omega)
    · split
      · rename_i h1'
        rcases h8 h1' with ⟨rfl, h9⟩ | ⟨rfl, h9⟩
        · have e : F47 (st, (f : Int), 1, op, dr, tm, (u, d), c) = ((f + 1 : Nat) : Int) := by
            unfold F47
            show IntKind.i64.wrap ((f : Int) + 1) = _
            rw [wrap_i64_of (by omega) (by omega)]; omega
          rw [e]
          exact dec_RS ⟨hn2, hn, by omega, by decide, by decide, hs.wc, hs.wu, hs.wd⟩ hs hS hT _ _ _
        · have e : F47 (st, (f : Int), 2, op, dr, tm, (u, d), c) = ((f - 1 : Nat) : Int) := by
            unfold F47
            show IntKind.i64.wrap ((f : Int) - 1) = _
            rw [wrap_i64_of (by omega) (by omega)]; omega
          rw [e]
          exact dec_RS ⟨hn2, hn, by omega, by decide, by decide, hs.wc, hs.wu, hs.wd⟩ hs hS hT _ _ _
      · exact dec_RS ⟨hn2, hn, by omega, h3, h4, hs.wc, hs.wu, hs.wd⟩ hs hS hT _ _ _
theorem nxt_RS {b : BldT} {car : Int} {n : Nat} {s : RelT} {inj : Int × Int} {press : Int} (hB : IsB b) (hn : b.1 = n) (h0 : 0 ≤ car) (h1 : car < (b.2.2.2.2.2.2.2.length : Int)) (h : RS n s) (w1 : W inj.1) (w2 : W inj.2) (w3 : W press) : RS n (nxt b car n s inj press) := by
  have hf := hB.fl
  have hn32 : n ≤ 32 := by omega
  have hn2 : 2 ≤ n := by omega
  have ht := car_times hB h0 h1
  have hm := h.sets.more hn32 hn2 w1 w2 w3
  obtain ⟨st, fl, dir, op, dr, tm, ⟨u, d⟩, c⟩ := s
  unfold nxt
  have a1 := h.st; have a2 := h.fl; have a3 := h.dir; have a4 := h.op; have a5 := h.dr; have a6 := h.tm; have a7 := h.tz; have a8 := h.mv
  simp only at a1 a2 a3 a4 a5 a6 a7 a8 hm ⊢
  cases hc : decide (tm > 1) with
  | true =>
    rw [decide_eq_true_eq] at hc
    rw [cond_true]
    exact rs_of hm a1 a2 a3 a4 a5 (by omega) (by omega) a8
  | false =>
    rw [cond_false, hn]
    exact over_RS hn32 hn2 (rs_of hm a1 a2 a3 a4 a5 a6 a7 a8) ht.1 ht.2.1 ht.2.2.1
theorem step_RS {b : BldT} {car : Int} {n : Nat} {s : RelT} {inj : Int × Int} {press : Int} (hB : IsB b) (hl : b.cars.length ≤ maxLen) (hn : b.1 = n) (h0 : 0 ≤ car) (h1 : car < (b.2.2.2.2.2.2.2.length : Int)) (h : RS n s) (w1 : W inj.1) (w2 : W inj.2) (w3 : W press) : RS n (F17 (b, car, s, inj, press)) := by
  rw [step_form inj press hB hl hn h0 h1 h]
  exact srv_RS (nxt_RS hB hn h0 h1 h w1 w2 w3)
theorem bit_no {i : Nat} {p : Prop} (h : bit 0 i = true) : p := by rw [bit_zero] at h; cases h
theorem new_RS {n : Nat} (hn2 : 2 ≤ n) : RS n (F15 0) :=
  rs_of ⟨W.zero, W.zero, W.zero, fun _ h => bit_no h, fun _ h => bit_no h, fun _ h => bit_no h⟩ (by decide) (by omega) (by decide) (by decide) rfl (by decide) (by decide) (fun h => by cases h)
/-- The building of the laws, and its states. -/
theorem law_b {m : Int × Int} (h : (0 ≤ m.1 ∧ m.1 ≤ 255) ∧ 0 ≤ m.2 ∧ m.2 ≤ 255) : ∃ n : Nat, (F11 m).1 = n ∧ 2 ≤ n ∧ n ≤ 6 ∧ IsB (F11 m) ∧ (F11 m).2.2.2.2.2.2.2.length ≤ maxLen ∧ 0 < ((F11 m).2.2.2.2.2.2.2.length : Int) := by
  have hB := b15 h
  have hf := hB.1.fl
  have hc := hB.1.cn
  have hl := b15_len h
  exact ⟨(F11 m).1.toNat, by omega, by omega, by omega, hB.1, Nat.le_trans hl (by decide), by have : 1 ≤ (F11 m).2.2.2.2.2.2.2.length := hc.1; omega⟩
theorem state_RS {b : BldT} {n : Nat} (l : List Int) (hB : IsB b) (hl : b.cars.length ≤ maxLen) (hn : b.1 = n) (h1 : 0 < (b.2.2.2.2.2.2.2.length : Int)) : RS n (F12 (b, 0, l)) :=
  (state_ind (RS n) b 0 l hl (new_RS (by have := hB.fl; omega)) (fun s inj press w1 w2 w3 _ hs => step_RS hB hl hn (by decide) h1 hs w1 w2 w3)).2
/-- RelayRuns. -/
theorem law_runs (x : ct4.p.den) (h : InR ct4.p x) : ct4.F x = true := by
  obtain ⟨m, l⟩ := x
  obtain ⟨n, hn, hn2, hn6, hB, hl, hp⟩ := law_b (m := m) ⟨u8_of h.1.1, u8_of h.1.2⟩
  show F4 (m, l) = true
  unfold F4
  simp only
  generalize F11 m = b at *
  have key : R4_4 (l, b) (0, F14 0, F15 0) = none := ret_none (fun x => RS n x.2.1 ∧ x.2.1 = x.2.2) (fun x hx => by
    unfold st4_4
    simp only
    cases hc : (decide (x.1 < (l.length : Int)) && decide (x.1 < 200)) with
    | false => rw [cond_false]; trivial
    | true =>
      rw [cond_true]
      have e : K4_4_1 (l, b) x = K4_4_2 (l, b) x := by
        unfold K4_4_1 K4_4_2
        rw [← hx.2]
        exact step_eq b 0 x.2.1 _ _ hl hx.1.wc
      have hr : RS n (K4_4_1 (l, b) x) := by
        unfold K4_4_1
        exact step_RS hB hl hn (by decide) hp hx.1 (W_wrap _) (W_wrap _) (W_wrap _)
      rw [← e, hr.istate hB hl hn]
      simp only [beq_self_eq_true, Bool.and_self, Bool.not_true, Bool.or_self, cond_false]
      exact ⟨hr, trivial⟩) _ _ ⟨new_RS hn2, rfl⟩
  rw [key, rsane_true]
  rfl
end Go.Proofs.YtpbljgpdhllklaaDoor.Sp
end

section
/- The relay car: what its contacts show; RelayContacts (own work). -/
namespace Go.Proofs.YtpbljgpdhllklaaDoor.Sp
open Go Sy
set_option linter.unusedVariables false
set_option linter.unusedSimpArgs false
set_option maxRecDepth 10000
theorem floor_at : ∀ n : Nat, n < 7 → ∀ f : Nat, f < n → 2 ≤ n → F49 ((n : Int), shl32 1 (f : Int)) = (f : Int) := by decide +kernel
theorem floor_no : ∀ n : Nat, n < 7 → 2 ≤ n → F49 ((n : Int), 0) = -1 := by decide +kernel
theorem pair_012 {d : Int} (h : 0 ≤ d ∧ d ≤ 2) : F50 (d == 1, d == 2, 0, 1, 2, 3) = d := by
  have : d = 0 ∨ d = 1 ∨ d = 2 := by omega
  rcases this with rfl | rfl | rfl <;> rfl
theorem RS.door {n : Nat} {s : RelT} (h : RS n s) : 0 ≤ s.2.2.2.2.1 ∧ s.2.2.2.2.1 ≤ 2 := by
  rw [h.dr]
  have h1 := h.st
  have : s.1 = 0 ∨ s.1 = 1 ∨ s.1 = 2 ∨ s.1 = 3 ∨ s.1 = 4 := by omega
  rcases this with e | e | e | e | e <;> (rw [e]; decide)
theorem obs_val {n : Nat} (hn2 : 2 ≤ n) (hn6 : n ≤ 6) {s : RelT} (h : RS n s) : F21 ((n : Int), F22 s) = (bif (s.1 == 1) then -1 else s.2.1, s.2.2.1, s.2.2.2.2.1) := by
  have hd := h.door
  have h3 := h.dir
  have h2 := h.fl
  obtain ⟨st, fl, dir, op, dr, tm, ⟨u, d⟩, car⟩ := s
  simp only at h2 h3 hd
  obtain ⟨f, rfl⟩ := Int.eq_ofNat_of_zero_le h2.1
  unfold F22 F45
  have e1 : (decide ((f : Int) ≥ 0) && decide ((f : Int) ≤ 31)) = true := by simp; omega
  simp only [e1, Bool.and_true]
  unfold F21
  cases hs : (st == 1) with
  | true =>
    have e2 : (st != 1) = false := by simp [bne, hs]
    simp only [e2, cond_false, cond_true]
    rw [floor_no n (by omega) hn2, pair_012 h3, pair_012 hd]
  | false =>
    have e2 : (st != 1) = true := by simp [bne, hs]
    simp only [e2, cond_false, cond_true]
    rw [floor_at n (by omega) f (by omega) hn2, pair_012 h3, pair_012 hd]
theorem law_contacts (x : ct6.p.den) (h : InR ct6.p x) : ct6.F x = true := by
  obtain ⟨m, l⟩ := x
  obtain ⟨n, hn, hn2, hn6, hB, hl, hp⟩ := law_b (m := m) ⟨u8_of h.1.1, u8_of h.1.2⟩
  show F6 (m, l) = true
  unfold F6
  simp only
  have hs := state_RS l hB hl hn hp
  generalize F12 (F11 m, 0, l) = s at *
  rw [hn, obs_val hn2 hn6 hs, rsane_true]
  cases h1 : (s.1 == 1) <;> simp
end Go.Proofs.YtpbljgpdhllklaaDoor.Sp
end

section
/- RelayContacts: the call of the law returns true (written by own program mkwalk.py, out of the contract and the plain law). -/
namespace Go.Proofs.YtpbljgpdhllklaaDoor.Sy
open Go Go.RowKit
set_option linter.unusedVariables false
set_option linter.unusedSimpArgs false
set_option maxRecDepth 100000
theorem tr_T5 {w : World} (cs : List Value) (h : E_T5 cs) : ∃ x : ty5.den, TR w (fun _ _ => False) ty5 x cs ∧ InR ty5 x := by
  obtain ⟨a0, rfl, w0⟩ := h
  exact ⟨a0, tr_of ⟨rfl, trivial⟩, w0⟩
theorem pre_law (x : ct6.p.den) (h : InR ct6.p x) : ∀ q, ct6.pre = some q → q x := by
  intro q hq
  cases hq
  simp only [ct6, InR, Lit.wf, Bool.and_eq_true, decide_eq_true_eq] at h
  simp only [Sp.pre6]
  try simp only [show IntKind.u8.min = 0 from rfl, show IntKind.u8.max = 255 from rfl, show IntKind.u16.min = 0 from rfl, show IntKind.u16.max = 65535 from rfl, show IntKind.u32.min = 0 from rfl, show IntKind.u32.max = 4294967295 from rfl, show IntKind.u64.min = 0 from rfl, show IntKind.u64.max = 18446744073709551615 from rfl, show IntKind.i64.min = -9223372036854775808 from rfl, show IntKind.i64.max = 9223372036854775807 from rfl] at h
  repeat' (first | exact trivial | apply And.intro)
  all_goals first | omega | (intro v hv; first | exact h.2.2.2 v hv | exact h.2.2 v hv | exact h.2 v hv | exact h.1.2 v hv | exact h.2.1.2 v hv | exact h.2.2.1.2 v hv | exact h.2.2.2.2 v hv)
theorem walk_RelayContacts (a0_0 : Int) (a0_1 : Int) (a1_0 : Value) (w : World) (w0_0 : (Lit.int .u8 a0_0).wf = true) (w0_1 : (Lit.int .u8 a0_1).wf = true) (w1_0 : IsSlice w 1 E_T5 a1_0) (hT : gdS.H w) :
    Calls Tryd.prog 6 #[.agg #[.int .u8 a0_0, .int .u8 a0_1], a1_0] w fun e w' => e = .returned (.bool true) ∧ Below w.heap.size w w' := by
  obtain ⟨l1_0, t1_0, r1_0⟩ := slice_tr (e := ty5) rfl tr_T5 w1_0
  exact call_true ok6 ((a0_0, a0_1), l1_0) w _ [.int .u8 a0_0, .int .u8 a0_1, a1_0] hT (pre_law _ ⟨⟨w0_0, w0_1⟩, r1_0⟩) ⟨[.int .u8 a0_0, .int .u8 a0_1], _, rfl, rfl, rfl, ⟨_, rfl, rfl⟩⟩ (tr_of ⟨rfl, rfl, ⟨t1_0, trivial⟩, trivial⟩) (Sp.law_contacts _ ⟨⟨w0_0, w0_1⟩, r1_0⟩)
end Go.Proofs.YtpbljgpdhllklaaDoor.Sy
end

section
/- RelayContacts: for every input the call of the law returns true, and the arguments read behind the call as before. The walk stands in YtpbljgpdhllklaaDoorRelayContactsWalk. -/
namespace Go.Proofs.YtpbljgpdhllklaaDoor.relayContacts
open Go.ChangeShapes Go.WideShapes Go.ChangeAt Go.RowKit
set_option linter.unusedVariables false

theorem own : ownKnob Tryd.prog.godebug = none := by kernel_rfl
theorem laidOut : laidOutB Tryd.prog = true := by kernel_rfl

theorem gTab : Tryd.prog.globalNamed "math/bits.deBruijn32tab" = some 0 := by kernel_rfl
theorem door_met (os : Os) (args : Array Value) : laidMetH Tryd.prog Rows.relayContactsRow.laid ((World.doorLaid Tryd.prog 400 os).forCall (fun _ _ => 0) ⟨#[], args, []⟩).memory :=
  laidMetH_of_parts3 (fuel := 8) (laidMet_of_run' 8 (by kernel_rfl) (by kernel_rfl)) (by kernel_rfl) (by kernel_rfl)
theorem of_laid {W : World} (h : laidMetH Tryd.prog Rows.relayContactsRow.laid W) : Sy.gdS.H W := by
  have h : laidMet Tryd.prog [("math/bits.deBruijn32tab", Lib.tabData .u8 Sy.tabB)] W := h
  obtain ⟨t, ht⟩ : ∃ t, (Tryd.prog.globals[0]?).map (·.type) = some t := ⟨_, rfl⟩
  have hT := Lib.tabIs_of_head (n := 32) (t := 145) (e := 5) gTab (by kernel_rfl) Tryd.underlying145 Tryd.underlying5 (by kernel_rfl) (by kernel_rfl) h
  exact fun k hk => hT.cell gTab k hk

set_option maxRecDepth 100000 in
theorem lifted (os : Os) (started : os.Started) (H : Type) (enc : TypeId × Value → H) :
    ReturnsInHanded {} Tryd.checked os 6 .any (fun w args => (Rows.relayContactsSpec.pre enc Tryd.prog Tryd.f6 [] false w args ∧ laidMetH Tryd.prog Rows.relayContactsRow.laid w) ∧ sizedMet enc Tryd.prog Tryd.f6 (OpenSpec.ofChange Rows.relayContactsSpec) false w args)
      (Rows.relayContactsSpec.post enc Tryd.prog Tryd.f6 false true false false) := by
  refine returnsInHanded_of_change_and (C := Tryd.checked) (X := fun w _ => laidMetH Tryd.prog Rows.relayContactsRow.laid w) (fun _ _ _ hh h => h.of_heap hh) own started (by kernel_rfl) Tryd.func6
    (ChangeSpec.witness_shaped (enc := enc) (C := Tryd.checked) (os := os) (X := fun w _ => laidMetH Tryd.prog Rows.relayContactsRow.laid w) false (World.doorLaid Tryd.prog 400 os) #[.agg #[.int .u8 0, .int .u8 0], .slice none 0 0] 8 rfl (World.shaped_of_RefB (by kernel_rfl) (by kernel_rfl)) (by kernel_rfl) (by kernel_rfl) (by kernel_rfl) (door_met os _)) ?_
  intro W base args ds gs before hval0 hW hcnd _ hL _
  have hH := of_laid hL
  have hval : ∀ (j : Nat) t v, Tryd.f6.params[j]? = some t → args[j]? = some v → Value.okWide Tryd.prog W .any base t v := hval0
  have hW' := hW
  obtain ⟨p, q, hA0, hV, rfl, hfz, hnd⟩ := hW
  have hA : DataW.TrodAll enc Tryd.prog W 0 (fun _ => true) true Tryd.f6.params.toList args.toList ds p := hA0
  rw [Tryd.params6] at hA hval
  obtain ⟨v0, vs0, d0, ds0, p0, q0, hargs, rfl, rfl, h0, r0⟩ := trodAll_cons hA
  obtain ⟨v1, vs1, d1, ds1, p1, q1, rfl, rfl, rfl, h1, r1⟩ := trodAll_cons r0
  obtain ⟨rfl, rfl, rfl⟩ := trodAll_nil r1
  obtain rfl : args = #[v0, v1] := by cases args; simp_all
  obtain ⟨rfl, rfl⟩ := trodVars_none hV
  have k0 := h0
  have lt0 : ∀ x ∈ p0, x.block < W.heap.size := by obtain ⟨m, hm⟩ := k0; exact DataW.trod_lt m _ _ _ hm
  obtain ⟨c0, rfl, hsz0⟩ := okWide_array Tryd.underlying22 (hval 0 22 v0 rfl rfl)
  obtain ⟨fuel0, hf0⟩ := h0
  obtain ⟨a0_0, a0_1, e0, w0_0, w0_1⟩ := open_T22 hf0
  have e0' : c0 = #[.int .u8 a0_0, .int .u8 a0_1] := by rw [← Array.toList_inj]; exact e0
  subst e0'
  have k1 := h1
  have lt1 : ∀ x ∈ p1, x.block < W.heap.size := by obtain ⟨m, hm⟩ := k1; exact DataW.trod_lt m _ _ _ hm
  obtain ⟨b1, l1, cp1, rfl⟩ := okWide_slice Tryd.underlying23 (hval 1 23 v1 rfl rfl)
  obtain ⟨fuel1, hf1⟩ := h1
  obtain ⟨a1_0, e1, w1_0⟩ := open_T23 hf1
  simp only [Value.cells, List.cons.injEq, and_true] at e1
  subst e1
  clear hA0 hval0
  refine (Sy.walk_RelayContacts a0_0 a0_1 (.slice b1 l1 cp1) W w0_0 w0_1 w1_0 hH).mono fun e W' ⟨he, bel⟩ => ?_
  subst he
  exact ⟨_, rfl, _, _, _, [], _, [], hW', trodAll_mk1 (shut_bool Tryd.underlying4 _), (trodAll_cons_mk (Below.trod laidOut (by kernel_rfl) (of_decide_eq_true (by kernel_rfl)) k0 bel lt0) (trodAll_cons_mk (Below.trod laidOut (by kernel_rfl) (of_decide_eq_true (by kernel_rfl)) k1 bel lt1) trodAll_mk0)), rfl, bel.frame _, fun h => by cases h⟩

theorem over : Rows.relayContactsRow.holds Tryd.pinned (OpenSpec.ofChange Rows.relayContactsSpec) :=
  OpenClaim.holds_of_wide 6 Tryd.f6 rfl rfl rfl rfl rfl rfl rfl ⟨rfl, rfl, rfl, rfl, rfl⟩ rfl rfl rfl rfl rfl (by kernel_rfl) Tryd.func6 (by kernel_rfl)
    (of_decide_eq_true (by kernel_rfl)) (by unfold Func.isWrapper; first | (rw [if_pos (by decide +kernel)]; kernel_rfl) | (rw [if_neg (by decide +kernel)]; exact ⟨rfl, rfl⟩))
    (fun os started H enc _ => lifted os started H enc)

theorem proved : Rows.RelayContactsCardSaid :=
  Claim7.holds_tied_plain_at .later [] [.data] true (true, "1440d3c8af9d71bdb3464716bdf6836eb05cb696d189ef49cb2ef3b62c54346c") false
    over (fun _ h => by cases h) (by kernel_rfl) (fun _ h => by cases h) relayContacts_row_tie rfl ⟨rfl, rfl⟩ (by kernel_rfl) rfl
    (fun f fn hf hfn => by
      obtain rfl : f = 6 := Option.some.inj ((show Tryd.prog.funcNamed "overlay/overlaylaw17.RelayContacts" = some 6 by kernel_rfl).symm.trans hf) |>.symm
      obtain rfl : fn = Tryd.f6 := (Option.some.inj (Tryd.func6.symm.trans hfn)).symm
      exact ⟨by kernel_rfl, fun j t ht => by
        rw [Tryd.params6] at ht
        have h3 : t ∈ ([22, 23] : List TypeId) := List.mem_of_getElem? (by simpa using ht)
        simp only [List.mem_cons, List.not_mem_nil, or_false] at h3
        rcases h3 with rfl | rfl
        · exact (show Tryd.prog.wantsStandIn 22 = false by kernel_rfl)
        · exact (show Tryd.prog.wantsStandIn 23 = false by kernel_rfl)⟩)
    (by kernel_rfl)
#print axioms proved
end Go.Proofs.YtpbljgpdhllklaaDoor.relayContacts
end
