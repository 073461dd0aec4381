/- Own texts joined by pk.py. -/
import Derived.Test.YtpbljgpdhllklaaDoorJa992684b
import Derived.Test.YtpbljgpdhllklaaDoorJ35023f0f
import Derived.Test.YtpbljgpdhllklaaDoorTie
import Derived.Test.YtpbljgpdhllklaaDoorCards
import Derived.Lib.LaidTab
import Derived.ProofKit
import Derived.LaidMore
import Derived.OpenShut
import Derived.Stop.Joined
import Derived.SevenTiedAt
import Derived.Test.YtpbljgpdhllklaaDoorRows
section
/- RelaySteps: the plain law (own work). -/
namespace Go.Proofs.YtpbljgpdhllklaaDoor.Sp
open Go Sy
set_option linter.unusedVariables false
set_option linter.unusedSimpArgs false
set_option maxRecDepth 10000
abbrev rcar (s : RelT) : Int := s.2.2.2.2.2.2.2
abbrev rcalls (s : RelT) : Int × Int := s.2.2.2.2.2.2.1
theorem decide_keeps (y : Int × CarT × RelT) : (F67 y).2.2.2.2.2.2 = y.2.2.2.2.2.2.2.2 := by
  unfold F67 K67_1 K67_2 K67_3 F66
  simp only [cond_eq_ite]
  repeat' split
  all_goals rfl
theorem over_keeps (y : Int × CarT × RelT) : (F37 y).2.2.2.2.2.2 = y.2.2.2.2.2.2.2.2 := by
  unfold F37
  simp only [cond_eq_ite]
  split
  · rfl
  · split
    · rfl
    · split
      · exact decide_keeps _
      · exact decide_keeps _
theorem step_W (x : BldT × Int × RelT × (Int × Int) × Int) : W (rcar (F17 x)) ∧ W (rcalls (F17 x)).1 ∧ W (rcalls (F17 x)).2 := by
  have hk := over_keeps (x.1.1, (nthT x.1.2.2.2.2.2.2.2 x.2.1), x.2.2.1.1, x.2.2.1.2.1, x.2.2.1.2.2.1, x.2.2.1.2.2.2.1, x.2.2.1.2.2.2.2.1, x.2.2.1.2.2.2.2.2.1, (F34 (x.2.2.1.2.2.2.2.2.2.1, (F35 (x.2.2.2.1, (F36 x.1))))), (IntKind.u32.wrap ((BitVec.ofInt IntKind.u32.bits x.2.2.1.2.2.2.2.2.2.2 ||| BitVec.ofInt IntKind.u32.bits (IntKind.u32.wrap ((BitVec.ofInt IntKind.u32.bits x.2.2.2.2 &&& BitVec.ofInt IntKind.u32.bits (IntKind.u32.wrap ((IntKind.u32.wrap ((1 : Int) * 2 ^ (min (x.1.1).toNat IntKind.u32.bits))) - (1 : Int)))).toNat : Int))).toNat : Int)))
  have hk1 : (K17_1 x).2.2.2.2.2.2 = _ := hk
  have c1 : rcar (K17_1 x) = _ := congrArg Prod.snd hk1
  have c2 : rcalls (K17_1 x) = _ := congrArg Prod.fst hk1
  unfold F17
  simp only [cond_eq_ite]
  repeat' split
  · exact ⟨W.zero, W.zero, W.zero⟩
  · exact ⟨W_nand _ _, W_nand _ _, W_nand _ _⟩
  · exact ⟨W_or _ _, W_or _ _, W_or _ _⟩
  · exact ⟨W_nand _ _, W_nand _ _, W_nand _ _⟩
  · refine ⟨?_, ?_, ?_⟩
    · rw [c1]; exact W_or _ _
    · rw [c2]; exact W_or _ _
    · rw [c2]; exact W_or _ _
/-- A fact that every step keeps holds of the state that is made from numbers. -/
theorem state_ind (P : RelT → Prop) (b : BldT) (car : Int) (l : List Int) (hl : b.cars.length ≤ maxLen) (h0 : P (F15 0))
    (hs : ∀ s inj press, W inj.1 → W inj.2 → W press → W (rcar s) → P s → P (F17 (b, car, s, inj, press))) : W (rcar (F12 (b, car, l))) ∧ P (F12 (b, car, l)) := by
  unfold F12 G12_3
  refine loop_spec (ρ := RelT) (step := st12_3) (k := (car, l, b)) (fun y => 0 ≤ y.1 ∧ W (rcar y.2) ∧ P y.2) (mu12_3 (car, l, b)) (fun _ y => W (rcar y.2) ∧ P y.2) (fun y hy => ?_) _ _ ⟨by simp, W.zero, h0⟩ (Nat.lt_succ_self _)
  unfold st12_3
  cases hc : (decide (y.1 < (l.length : Int))) && (decide (y.1 < (100 : Int))) with
  | true =>
    rw [cond_true]
    simp only [Bool.and_eq_true, decide_eq_true_eq] at hc
    simp only
    rw [wrap_i64_of (x := y.1 + 1) (by omega) (by omega)]
    obtain ⟨i, p, w1, w2, w3, e⟩ : ∃ (i : Int × Int) (p : Int), W i.1 ∧ W i.2 ∧ W p ∧ K12_3_1 (car, l, b) y = F17 (b, car, y.2, i, p) := by
      refine ⟨(_, _), _, ?_, ?_, ?_, (step_eq b car y.2 (_, _) _ hl hy.2.1).symm⟩
      · exact W_wrap _
      · exact W_wrap _
      · exact W_wrap _
    rw [e]
    exact ⟨⟨by omega, (step_W _).1, hs _ _ _ w1 w2 w3 hy.2.1 hy.2.2⟩, by unfold mu12_3; simp only; omega⟩
  | false => rw [cond_false]; exact hy.2
theorem u8_of {x : Int} (h : (Lit.int .u8 x).wf = true) : 0 ≤ x ∧ x ≤ 255 := by
  simp only [Lit.wf, Bool.and_eq_true, decide_eq_true_eq] at h
  exact h
theorem rsane_true : F16 () = true := by kernel_rfl
theorem rsame_true (b : BldT) (car : Int) (s : RelT) (inj : Int × Int) (press : Int) (hl : b.cars.length ≤ maxLen) (hc : W (rcar s)) : F13 (b, car, s, inj, press) = true := by
  unfold F13
  simp only
  rw [step_eq b car s inj press hl hc, istate_eq b s hl hc, contacts_eq]
  simp only [beq_self_eq_true, Bool.and_self]
theorem r13 (s0 : RelT) (b : BldT) (s : RelT) (i : Int) (hl : b.cars.length ≤ maxLen) (hc : W (rcar s)) : R3_13 (s0, b, s) i = none := ret_none (fun _ => True) (fun x _ => by
  unfold st3_13
  simp only
  rw [rsame_true b x s _ _ hl hc, rsame_true b x s _ _ hl hc]
  cases decide (x ≤ (b.2.2.2.2.2.2.2.length : Int)) <;> simp) _ _ trivial
theorem r10 (p q r s0 : RelT) (m : Int) (b : BldT) (i : Int) (hm : m ≤ 3) (hi : 0 ≤ i) (hl : b.cars.length ≤ maxLen) (hp : W (rcar p)) (hq : W (rcar q)) (hr : W (rcar r)) : R3_10 ([p, q, r], m, s0, b) i = none := ret_none (fun x => 0 ≤ x) (fun x hx => by
  unfold st3_10
  simp only
  cases hc : decide (x < m) with
  | true =>
    rw [decide_eq_true_eq] at hc
    rw [cond_true]
    have h3 : x = 0 ∨ x = 1 ∨ x = 2 := by omega
    have hW : W (rcar (nthT [p, q, r] x)) := by
      rcases h3 with rfl | rfl | rfl
      · exact hp
      · exact hq
      · exact hr
    rw [r13 _ _ _ _ hl hW]
    simp only [optR]
    rw [wrap_i64_of (x := x + 1) (by omega) (by omega)]
    omega
  | false => rw [cond_false]; trivial) _ _ hi
theorem law_rsteps (x : ct3.p.den) (h : InR ct3.p x) : ct3.F x = true := by
  obtain ⟨m, l, st, fl, dir, op, dr, tm, ⟨u, d⟩, car⟩ := x
  have hc : W car := W_of h.2.2.2.2.2.2.2.2.2
  have hb := b15_len (x := m) ⟨u8_of h.1.1, u8_of h.1.2⟩
  have hl : (F11 m).2.2.2.2.2.2.2.length ≤ maxLen := Nat.le_trans hb (by decide)
  have hS := (state_ind (fun _ => True) _ 0 l hl trivial (fun _ _ _ _ _ _ _ _ => trivial)).1
  have hz : ∀ (s : RelT) (i : Int × Int) (p : Int), W (rcar s) → F13 (((0 : Int), (0 : Int), (0 : Int), (0 : Int), (0 : Nat), (0 : Nat), (0 : Nat), []), (0 : Int), s, i, p) = true := fun s i p hs => rsame_true (0, 0, 0, 0, 0, 0, 0, []) 0 s i p (Nat.zero_le _) hs
  have hN : ∀ z : Int, F14 z = F15 z := fun _ => rfl
  show F3 (m, l, st, fl, dir, op, dr, tm, (u, d), car) = true
  unfold F3
  simp only
  rw [r10 _ _ _ _ _ _ _ (by simp) (by simp) hl hS hc (W_and _ _), r10 _ _ _ _ _ _ _ (by simp) (by simp) hl hS hc (W_and _ _)]
  simp only [optR, hz (st, fl, dir, op, dr, tm, (u, d), car) _ _ hc, hN, rsane_true, beq_self_eq_true, Bool.and_self, Bool.cond_self]
end Go.Proofs.YtpbljgpdhllklaaDoor.Sp
end

section
/- The relay car: its states, and that a tick keeps them (own work). -/
namespace Go.Proofs.YtpbljgpdhllklaaDoor.Sp
open Go Sy
set_option linter.unusedVariables false
set_option linter.unusedSimpArgs false
set_option maxRecDepth 10000
theorem cS_lt {n : Nat} {c u d : Int} (hn : n ≤ 32) (hc : W c) (hu : W u) (hd : W d) {i : Nat} (h : bit (cS (cA n c) (cU n u) (cD n d)) i = true) : i < n := by
  have hi : i < 32 := bit_lt (W_cS _ _ _) h
  rw [bit_cS (W_and _ _) (W_and _ _) (W_and _ _) i hi, bit_cA hn hc, bit_cU hn hu, bit_cD hn hd] at h
  simp only [Bool.or_eq_true, Bool.and_eq_true, decide_eq_true_eq] at h
  omega
theorem up_room {n f : Nat} {dir o c u d ab be : Int} (h : Ok n f dir o c u d) (s : Sc n f o c u d ab be) (ha : decide (0 < ab) = true) : f + 1 < n := by
  obtain ⟨i, hi, hb⟩ := s.up_iff.1 ha
  have := cS_lt h.n32 h.c h.u h.d hb
  omega
theorem down_room {n f : Nat} {o c u d ab be : Int} (s : Sc n f o c u d ab be) (ha : decide (0 < be) = true) : 0 < f := by
  obtain ⟨i, hi, hb⟩ := s.down_iff.1 ha
  omega
set_option synthInstance.maxHeartbeats 400000
set_option synthInstance.maxSize 4096
theorem T1 : ∀ dir, dir < 3 → ∀ o, o < 8 → ∀ A U D a b l : Bool,
    ((ch ((dir : Nat) : Int) ((o : Nat) : Int) A U D a b l).1 = 3 ∧ (chN dir o A U D a b l).1 = (ch dir o A U D a b l).2.2 ∧ (0 ≤ (chN dir o A U D a b l).1 ∧ (chN dir o A U D a b l).1 ≤ 2) ∧ 0 ≤ (chN dir o A U D a b l).2 ∧ (chN dir o A U D a b l).2 ≤ 7) ∨
    ((ch dir o A U D a b l).1 = 1 ∧ a = true ∧ chN dir o A U D a b l = (1, 0)) ∨
    ((ch dir o A U D a b l).1 = 2 ∧ b = true ∧ chN dir o A U D a b l = (2, 0)) ∨
    ((ch dir o A U D a b l).1 = 0 ∧ (A || U || D || a || b) = false ∧ chN dir o A U D a b l = (0, 0)) := by decide +kernel
theorem hall_bits : ∀ n : Nat, n < 33 → ∀ i, i < 32 → 2 ≤ n → bit (hallT (n : Int)).1 i = decide (i + 1 < n) ∧ bit (hallT (n : Int)).2 i = decide (0 < i ∧ i < n) := by decide +kernel
theorem hall_W : ∀ n : Nat, n < 33 → W (hallT (n : Int)).1 ∧ W (hallT (n : Int)).2 := fun n hn => ⟨W_wrap _, W_wrap _⟩
/-- A state of the relay. -/
structure RS (n : Nat) (s : RelT) : Prop where
  st : 0 ≤ s.1 ∧ s.1 ≤ 4
  fl : 0 ≤ s.2.1 ∧ s.2.1 < n
  dir : 0 ≤ s.2.2.1 ∧ s.2.2.1 ≤ 2
  op : 0 ≤ s.2.2.2.1 ∧ s.2.2.2.1 ≤ 7
  dr : s.2.2.2.2.1 = F48 s.1
  tm : 0 ≤ s.2.2.2.2.2.1 ∧ s.2.2.2.2.2.1 ≤ 1000000
  tz : s.2.2.2.2.2.1 = 0 ↔ s.1 = 0
  mv : s.1 = 1 → (s.2.2.1 = 1 ∧ s.2.1 + 1 < n) ∨ (s.2.2.1 = 2 ∧ 0 < s.2.1)
  wu : W (rcalls s).1
  wd : W (rcalls s).2
  wc : W (rcar s)
  ub : ∀ i, bit (rcalls s).1 i = true → i + 1 < n
  db : ∀ i, bit (rcalls s).2 i = true → 0 < i ∧ i < n
  cb : ∀ i, bit (rcar s) i = true → i < n
theorem nand_zero {x y : Int} (hx : W x) (hy : W y) (h : ∀ i, bit x i = true → bit y i = true) : nand32 x y = 0 :=
  W.ext (W_nand _ _) W.zero fun i hi => by
    rw [bit_nand hx.1 hy.1 i hi, bit_zero]
    cases hb : bit x i with
    | true => rw [h i hb]; rfl
    | false => rfl
theorem shr_zero {x : Int} (hx : W x) (n : Nat) (h : ∀ i, bit x i = true → i < n) : shr32 x (n : Int) = 0 :=
  W.ext (W_shr hx _ (by omega)) W.zero fun i hi => by
    rw [bit_shr hx n i, bit_zero]
    cases hb : bit x (n + i) with
    | true => have := h _ hb; omega
    | false => rfl
theorem RS.istate {b : BldT} {n : Nat} {s : RelT} (hB : IsB b) (hl : b.cars.length ≤ maxLen) (hn : b.1 = n) (h : RS n s) : F19 (b, s) = true := by
  have hf := hB.fl
  have hn32 : n ≤ 32 := by omega
  have hn2 : 2 ≤ n := by omega
  obtain ⟨st, fl, dir, op, dr, tm, ⟨u, d⟩, car⟩ := s
  obtain ⟨h1, h2, h3, h4, h5, h6, h7, h8, wu, wd, wc, ub, db, cb⟩ := h
  simp only at h1 h2 h3 h4 h5 h6 h7 h8
  have hm : F38 ((u, d), hallT b.1) = (0, 0) := by
    have hw := hall_W n (by omega)
    show (nand32 u (hallT b.1).1, nand32 d (hallT b.1).2) = (0, 0)
    rw [hn]
    rw [nand_zero wu hw.1 (fun i hi => by
        have hi32 := bit_lt wu hi
        rw [(hall_bits n (by omega) i hi32 hn2).1, decide_eq_true_eq]; exact ub i hi),
      nand_zero wd hw.2 (fun i hi => by
        have hi32 := bit_lt wd hi
        rw [(hall_bits n (by omega) i hi32 hn2).2, decide_eq_true_eq]; exact db i hi)]
  have hc : Int.fdiv car (2 ^ (min b.1.toNat IntKind.u32.bits)) = 0 := by
    rw [hn]; exact shr_zero wc n cb
  unfold F19 F45 F46 F47
  simp only
  rw [valid_cond b hl, hall_eq b hl]
  simp only [hB, not_true, decide_false, Bool.false_or, if_true]
  rw [hm, hc, ← h5, wrap_i64_of (x := b.1 - 1) (by omega) (by omega)]
  have e1 : (decide (st ≥ 0) && decide (st ≤ 4)) = true := by simp; omega
  have e2 : (decide (fl ≥ 0) && decide (fl ≤ b.1 - 1)) = true := by simp; omega
  have e3 : (decide (dir ≥ 0) && decide (dir ≤ 2) && decide (op ≥ 0) && decide (op ≤ 7)) = true := by simp; omega
  have e4 : (decide (tm ≥ 0) && decide (tm ≤ 1000000)) = true := by simp; omega
  have e5 : ((tm == 0) == (st == 0)) = true := by
    rw [beq_iff_eq, Bool.eq_iff_iff]; simpa using h7
  rw [e1, e2, e3, e4, e5]
  simp only [Bool.not_true, Bool.or_false, cond_false, beq_self_eq_true, Bool.and_true]
  by_cases hs : st = 1
  · rcases h8 hs with ⟨ha, hb⟩ | ⟨ha, hb⟩
    · subst ha
      have e6 : (decide (IntKind.i64.wrap (fl + 1) ≥ 0) && decide (IntKind.i64.wrap (fl + 1) ≤ b.1 - 1)) = true := by
        rw [wrap_i64_of (by omega) (by omega)]; simp; omega
      simp [e6]
    · subst ha
      have e6 : (decide (IntKind.i64.wrap (fl - 1) ≥ 0) && decide (IntKind.i64.wrap (fl - 1) ≤ b.1 - 1)) = true := by
        rw [wrap_i64_of (by omega) (by omega)]; simp; omega
      simp [e6]
  · have e7 : (st == 1) = false := by simpa using hs
    rw [e7]; rfl
/-- The sets, with what joins them. -/
abbrev mU (n : Nat) (u i : Int) : Int := or32 u (and32 i (hallT (n : Int)).1)
abbrev mD (n : Nat) (d i : Int) : Int := or32 d (and32 i (hallT (n : Int)).2)
abbrev mC (n : Nat) (c p : Int) : Int := or32 c (and32 p (allm (n : Int)))
theorem bit_mU {n : Nat} (hn : n ≤ 32) (hn2 : 2 ≤ n) {u x : Int} (hu : W u) (hx : W x) (i : Nat) : bit (mU n u x) i = (bit u i || (bit x i && decide (i + 1 < n))) := by
  rcases Nat.lt_or_ge i 32 with hi | hi
  · rw [bit_or hu.1 (W_and _ _).1 i hi, bit_and hx.1 (hall_W n (by omega)).1.1 i hi, (hall_bits n (by omega) i hi hn2).1]
  · rw [bit_hi (W_or _ _) hi, bit_hi hu hi, bit_hi hx hi]; rfl
theorem bit_mD {n : Nat} (hn : n ≤ 32) (hn2 : 2 ≤ n) {u x : Int} (hu : W u) (hx : W x) (i : Nat) : bit (mD n u x) i = (bit u i || (bit x i && decide (0 < i ∧ i < n))) := by
  rcases Nat.lt_or_ge i 32 with hi | hi
  · rw [bit_or hu.1 (W_and _ _).1 i hi, bit_and hx.1 (hall_W n (by omega)).2.1 i hi, (hall_bits n (by omega) i hi hn2).2]
  · rw [bit_hi (W_or _ _) hi, bit_hi hu hi, bit_hi hx hi]; rfl
theorem bit_mC {n : Nat} (hn : n ≤ 32) {u x : Int} (hu : W u) (hx : W x) (i : Nat) : bit (mC n u x) i = (bit u i || (bit x i && decide (i < n))) := by
  rcases Nat.lt_or_ge i 32 with hi | hi
  · rw [bit_or hu.1 (W_and _ _).1 i hi, bit_and hx.1 (W_allm _).1 i hi, bit_allm n i hn]
  · rw [bit_hi (W_or _ _) hi, bit_hi hu hi, bit_hi hx hi]; rfl
/-- A car that waits serves its floor. -/
def srv (s : RelT) : RelT := bif (s.1 == 3) then (s.1, s.2.1, s.2.2.1, s.2.2.2.1, s.2.2.2.2.1, s.2.2.2.2.2.1, (F38 (s.2.2.2.2.2.2.1, F39 (s.2.1, s.2.2.1))), nand32 s.2.2.2.2.2.2.2 (shl32 1 s.2.1)) else s
/-- The state behind a tick, with its sets, before the service. -/
def nxt (b : BldT) (car : Int) (n : Nat) (s : RelT) (inj : Int × Int) (press : Int) : RelT :=
  bif decide (s.2.2.2.2.2.1 > 1) then (s.1, s.2.1, s.2.2.1, s.2.2.2.1, s.2.2.2.2.1, s.2.2.2.2.2.1 - 1, (mU n s.2.2.2.2.2.2.1.1 inj.1, mD n s.2.2.2.2.2.2.1.2 inj.2), mC n s.2.2.2.2.2.2.2 press)
  else F37 (b.1, nthT b.2.2.2.2.2.2.2 car, s.1, s.2.1, s.2.2.1, s.2.2.2.1, s.2.2.2.2.1, s.2.2.2.2.2.1, (mU n s.2.2.2.2.2.2.1.1 inj.1, mD n s.2.2.2.2.2.2.1.2 inj.2), mC n s.2.2.2.2.2.2.2 press)
theorem step_form {b : BldT} {car : Int} {n : Nat} {s : RelT} (inj : Int × Int) (press : Int) (hB : IsB b) (hl : b.cars.length ≤ maxLen) (hn : b.1 = n) (h0 : 0 ≤ car) (h1 : car < (b.2.2.2.2.2.2.2.length : Int)) (h : RS n s) :
    F17 (b, car, s, inj, press) = srv (nxt b car n s inj press) := by
  have hg : (((!F19 (b, s)) || decide (car < 0)) || decide (car ≥ (b.2.2.2.2.2.2.2.length : Int))) = false := by
    rw [h.istate hB hl hn]; simp; omega
  have ht := h.tm
  obtain ⟨st, fl, dir, op, dr, tm, ⟨u, d⟩, cr⟩ := s
  simp only at ht
  unfold F17 K17_1 nxt
  simp only
  rw [hg, cond_false, hall_eq b hl, if_pos hB, hn]
  cases hc : decide (tm > 1) with
  | true =>
    simp only [decide_eq_true_eq] at hc
    rw [wrap_i64_of (x := tm - 1) (by omega) (by omega)]
    simp only [cond_true]
    rfl
  | false =>
    simp only [cond_false]
    rfl
/-- What a car decides at a floor. -/
def dcs (cfg : CarT) (g : Int) (u d c : Int) (C : Int × Int × Int) (N : Int × Int) : RelT :=
  bif (C.1 == 3) then (2, g, N.1, N.2, 0, cfg.2.2.2.2.2.1, (u, d), c)
  else bif (C.1 == 1 || C.1 == 2) then (1, g, N.1, N.2, 2, cfg.2.2.2.2.1, (u, d), c)
  else (0, g, N.1, N.2, 2, 0, (u, d), c)
theorem dec_form {n g : Nat} {dir o c u d : Int} (h : Ok n g dir o c u d) (cfg : CarT) (st dr tm : Int) : ∃ ab be, Sc n g o c u d ab be ∧
    F67 ((n : Int), cfg, st, (g : Int), dir, o, dr, tm, (u, d), c) = dcs cfg g u d c (ch dir o (bit (cA n c) g) (bit (cU n u) g) (bit (cD n d) g) (decide (0 < ab)) (decide (0 < be)) (decide (be ≥ ab))) (chN dir o (bit (cA n c) g) (bit (cU n u) g) (bit (cD n d) g) (decide (0 < ab)) (decide (0 < be)) (decide (be ≥ ab))) := by
  obtain ⟨ab, be, s, hC, hN⟩ := Choose_ch h
  refine ⟨ab, be, s, ?_⟩
  unfold F67 K67_1 K67_2 K67_3 dcs
  simp only
  rw [hC, hN]
  generalize ch dir o (bit (cA n c) g) (bit (cU n u) g) (bit (cD n d) g) (decide (0 < ab)) (decide (0 < be)) (decide (be ≥ ab)) = C
  generalize chN dir o (bit (cA n c) g) (bit (cU n u) g) (bit (cD n d) g) (decide (0 < ab)) (decide (0 < be)) (decide (be ≥ ab)) = N
  cases h3 : (C.1 == 3) with
  | true => rfl
  | false =>
    cases h1 : (C.1 == 1) with
    | true => rfl
    | false => cases h2 : (C.1 == 2) <;> rfl
structure SetsOk (n : Nat) (u d c : Int) : Prop where
  wu : W u
  wd : W d
  wc : W c
  ub : ∀ i, bit u i = true → i + 1 < n
  db : ∀ i, bit d i = true → 0 < i ∧ i < n
  cb : ∀ i, bit c i = true → i < n
theorem RS.sets {n : Nat} {s : RelT} (h : RS n s) : SetsOk n (rcalls s).1 (rcalls s).2 (rcar s) := ⟨h.wu, h.wd, h.wc, h.ub, h.db, h.cb⟩
theorem SetsOk.more {n : Nat} {u d c : Int} (h : SetsOk n u d c) (hn : n ≤ 32) (hn2 : 2 ≤ n) {iu id p : Int} (hu : W iu) (hd : W id) (hp : W p) : SetsOk n (mU n u iu) (mD n d id) (mC n c p) where
  wu := W_or _ _
  wd := W_or _ _
  wc := W_or _ _
  ub := fun i hi => by
    rw [bit_mU hn hn2 h.wu hu, Bool.or_eq_true, Bool.and_eq_true, decide_eq_true_eq] at hi
    rcases hi with hi | hi
    · exact h.ub i hi
    · exact hi.2
  db := fun i hi => by
    rw [bit_mD hn hn2 h.wd hd, Bool.or_eq_true, Bool.and_eq_true, decide_eq_true_eq] at hi
    rcases hi with hi | hi
    · exact h.db i hi
    · exact hi.2
  cb := fun i hi => by
    rw [bit_mC hn h.wc hp, Bool.or_eq_true, Bool.and_eq_true, decide_eq_true_eq] at hi
    rcases hi with hi | hi
    · exact h.cb i hi
    · exact hi.2
theorem nand_sub {x y : Int} (hx : W x) (hy : W y) (i : Nat) (h : bit (nand32 x y) i = true) : bit x i = true := by
  have hi := bit_lt (W_nand _ _) h
  rw [bit_nand hx.1 hy.1 i hi, Bool.and_eq_true] at h
  exact h.1
theorem one_W (f d : Int) : W (F39 (f, d)).1 ∧ W (F39 (f, d)).2 := by
  unfold F39
  simp only [cond_eq_ite]
  repeat' split
  all_goals first | exact ⟨W_wrap _, W.zero⟩ | exact ⟨W.zero, W_wrap _⟩ | exact ⟨W.zero, W.zero⟩
theorem srv_RS {n : Nat} {s : RelT} (h : RS n s) : RS n (srv s) := by
  unfold srv
  cases h3 : (s.1 == 3) with
  | false => exact h
  | true =>
    have hw := one_W s.2.1 s.2.2.1
    exact { st := h.st, fl := h.fl, dir := h.dir, op := h.op, dr := h.dr, tm := h.tm, tz := h.tz, mv := h.mv, wu := W_nand _ _, wd := W_nand _ _, wc := W_nand _ _,
            ub := fun i hi => h.ub i (nand_sub h.wu hw.1 i hi), db := fun i hi => h.db i (nand_sub h.wd hw.2 i hi), cb := fun i hi => h.cb i (nand_sub h.wc (W_wrap _) i hi) }
theorem rs_of {n : Nat} {st g dir op dr tm u d c : Int} (hs : SetsOk n u d c) (h1 : 0 ≤ st ∧ st ≤ 4) (hg : 0 ≤ g ∧ g < n) (hd : 0 ≤ dir ∧ dir ≤ 2) (ho : 0 ≤ op ∧ op ≤ 7) (h5 : dr = F48 st) (h6 : 0 ≤ tm ∧ tm ≤ 1000000) (h7 : tm = 0 ↔ st = 0)
    (h8 : st = 1 → (dir = 1 ∧ g + 1 < n) ∨ (dir = 2 ∧ 0 < g)) : RS n (st, g, dir, op, dr, tm, (u, d), c) :=
  ⟨h1, hg, hd, ho, h5, h6, h7, h8, hs.wu, hs.wd, hs.wc, hs.ub, hs.db, hs.cb⟩
theorem dec_RS {n g : Nat} {dir o c u d : Int} (h : Ok n g dir o c u d) (hs : SetsOk n u d c) {cfg : CarT} (hS : 1 ≤ cfg.2.2.2.2.1 ∧ cfg.2.2.2.2.1 ≤ 10000) (hT : 1 ≤ cfg.2.2.2.2.2.1 ∧ cfg.2.2.2.2.2.1 ≤ 10000) (st dr tm : Int) :
    RS n (F67 ((n : Int), cfg, st, (g : Int), dir, o, dr, tm, (u, d), c)) := by
  obtain ⟨ab, be, s, e⟩ := dec_form h cfg st dr tm
  rw [e]
  have hg := h.f
  have ha := up_room h s
  have hb := down_room s
  obtain ⟨dir', rfl⟩ := Int.eq_ofNat_of_zero_le h.dir.1
  obtain ⟨o', rfl⟩ := Int.eq_ofNat_of_zero_le h.o.1
  have t := T1 dir' (by have := h.dir; omega) o' (by have := h.o; omega) (bit (cA n c) g) (bit (cU n u) g) (bit (cD n d) g) (decide (0 < ab)) (decide (0 < be)) (decide (be ≥ ab))
  generalize ch (dir' : Int) (o' : Int) (bit (cA n c) g) (bit (cU n u) g) (bit (cD n d) g) (decide (0 < ab)) (decide (0 < be)) (decide (be ≥ ab)) = C at t
  generalize chN (dir' : Int) (o' : Int) (bit (cA n c) g) (bit (cU n u) g) (bit (cD n d) g) (decide (0 < ab)) (decide (0 < be)) (decide (be ≥ ab)) = N at t
  have hg' : 0 ≤ (g : Int) ∧ (g : Int) < n := by omega
  have e3 : ∀ N : Int × Int, C.1 = 3 → dcs cfg g u d c C N = (2, (g : Int), N.1, N.2, 0, cfg.2.2.2.2.2.1, (u, d), c) := fun N h => by unfold dcs; rw [h]; rfl
  have e1 : ∀ N : Int × Int, C.1 = 1 ∨ C.1 = 2 → dcs cfg g u d c C N = (1, (g : Int), N.1, N.2, 2, cfg.2.2.2.2.1, (u, d), c) := fun N h => by unfold dcs; rcases h with h | h <;> (rw [h]; rfl)
  have e0 : ∀ N : Int × Int, C.1 = 0 → dcs cfg g u d c C N = (0, (g : Int), N.1, N.2, 2, 0, (u, d), c) := fun N h => by unfold dcs; rw [h]; rfl
  rcases t with ⟨t1, _, t3, t4⟩ | ⟨t1, t2, rfl⟩ | ⟨t1, t2, rfl⟩ | ⟨t1, _, rfl⟩
  · rw [e3 _ t1]
    exact rs_of hs (by decide) hg' t3 t4 rfl (by omega) (by omega) (by omega)
  · rw [e1 _ (Or.inl t1)]
    have := ha t2
    exact rs_of hs (by decide) hg' (by decide) (by decide) rfl (by omega) (by omega) (fun _ => Or.inl ⟨rfl, by omega⟩)
  · rw [e1 _ (Or.inr t1)]
    have := hb t2
    exact rs_of hs (by decide) hg' (by decide) (by decide) rfl (by omega) (by omega) (fun _ => Or.inr ⟨rfl, by omega⟩)
  · rw [e0 _ t1]
    exact rs_of hs (by decide) hg' (by decide) (by decide) rfl (by decide) (by decide) (fun h => by cases h)
theorem over_RS {n : Nat} {st fl dir op dr tm u d c : Int} (hn : n ≤ 32) (hn2 : 2 ≤ n) (h : RS n (st, fl, dir, op, dr, tm, (u, d), c)) {cfg : CarT} (hS : 1 ≤ cfg.2.2.2.2.1 ∧ cfg.2.2.2.2.1 ≤ 10000) (hT : 1 ≤ cfg.2.2.2.2.2.1 ∧ cfg.2.2.2.2.2.1 ≤ 10000)
    (hD : 1 ≤ cfg.2.2.2.2.2.2.1 ∧ cfg.2.2.2.2.2.2.1 ≤ 10000) : RS n (F37 ((n : Int), cfg, st, fl, dir, op, dr, tm, (u, d), c)) := by
  have hs : SetsOk n u d c := h.sets
  have h1 := h.st; have h2 := h.fl; have h3 := h.dir; have h4 := h.op; have h8 := h.mv
  simp only at h1 h2 h3 h4 h8
  obtain ⟨f, rfl⟩ := Int.eq_ofNat_of_zero_le h2.1
  unfold F37
  simp only [cond_eq_ite, beq_iff_eq]
  split
  · show RS n (3, (f : Int), dir, op, F48 3, cfg.2.2.2.2.2.2.1, (u, d), c)
    exact rs_of hs (by decide) h2 h3 h4 rfl (by omega) (by omega) (by omega)
  · split
    · show RS n (4, (f : Int), dir, op, F48 4, cfg.2.2.2.2.2.1, (u, d), c)
      exact rs_of hs (by decide) h2 h3 h4 rfl (by omega) (by omega) (by omega)
    · split
      · rename_i h1'
        rcases h8 h1' with ⟨rfl, h9⟩ | ⟨rfl, h9⟩
        · have e : F47 (st, (f : Int), 1, op, dr, tm, (u, d), c) = ((f + 1 : Nat) : Int) := by
            unfold F47
            show IntKind.i64.wrap ((f : Int) + 1) = _
            rw [wrap_i64_of (by omega) (by omega)]; omega
          rw [e]
          exact dec_RS ⟨hn2, hn, by omega, by decide, by decide, hs.wc, hs.wu, hs.wd⟩ hs hS hT _ _ _
        · have e : F47 (st, (f : Int), 2, op, dr, tm, (u, d), c) = ((f - 1 : Nat) : Int) := by
            unfold F47
            show IntKind.i64.wrap ((f : Int) - 1) = _
            rw [wrap_i64_of (by omega) (by omega)]; omega
          rw [e]
          exact dec_RS ⟨hn2, hn, by omega, by decide, by decide, hs.wc, hs.wu, hs.wd⟩ hs hS hT _ _ _
      · exact dec_RS ⟨hn2, hn, by omega, h3, h4, hs.wc, hs.wu, hs.wd⟩ hs hS hT _ _ _
theorem nxt_RS {b : BldT} {car : Int} {n : Nat} {s : RelT} {inj : Int × Int} {press : Int} (hB : IsB b) (hn : b.1 = n) (h0 : 0 ≤ car) (h1 : car < (b.2.2.2.2.2.2.2.length : Int)) (h : RS n s) (w1 : W inj.1) (w2 : W inj.2) (w3 : W press) : RS n (nxt b car n s inj press) := by
  have hf := hB.fl
  have hn32 : n ≤ 32 := by omega
  have hn2 : 2 ≤ n := by omega
  have ht := car_times hB h0 h1
  have hm := h.sets.more hn32 hn2 w1 w2 w3
  obtain ⟨st, fl, dir, op, dr, tm, ⟨u, d⟩, c⟩ := s
  unfold nxt
  have a1 := h.st; have a2 := h.fl; have a3 := h.dir; have a4 := h.op; have a5 := h.dr; have a6 := h.tm; have a7 := h.tz; have a8 := h.mv
  simp only at a1 a2 a3 a4 a5 a6 a7 a8 hm ⊢
  cases hc : decide (tm > 1) with
  | true =>
    rw [decide_eq_true_eq] at hc
    rw [cond_true]
    exact rs_of hm a1 a2 a3 a4 a5 (by omega) (by omega) a8
  | false =>
    rw [cond_false, hn]
    exact over_RS hn32 hn2 (rs_of hm a1 a2 a3 a4 a5 a6 a7 a8) ht.1 ht.2.1 ht.2.2.1
theorem step_RS {b : BldT} {car : Int} {n : Nat} {s : RelT} {inj : Int × Int} {press : Int} (hB : IsB b) (hl : b.cars.length ≤ maxLen) (hn : b.1 = n) (h0 : 0 ≤ car) (h1 : car < (b.2.2.2.2.2.2.2.length : Int)) (h : RS n s) (w1 : W inj.1) (w2 : W inj.2) (w3 : W press) : RS n (F17 (b, car, s, inj, press)) := by
  rw [step_form inj press hB hl hn h0 h1 h]
  exact srv_RS (nxt_RS hB hn h0 h1 h w1 w2 w3)
theorem bit_no {i : Nat} {p : Prop} (h : bit 0 i = true) : p := by rw [bit_zero] at h; cases h
theorem new_RS {n : Nat} (hn2 : 2 ≤ n) : RS n (F15 0) :=
  rs_of ⟨W.zero, W.zero, W.zero, fun _ h => bit_no h, fun _ h => bit_no h, fun _ h => bit_no h⟩ (by decide) (by omega) (by decide) (by decide) rfl (by decide) (by decide) (fun h => by cases h)
/-- The building of the laws, and its states. -/
theorem law_b {m : Int × Int} (h : (0 ≤ m.1 ∧ m.1 ≤ 255) ∧ 0 ≤ m.2 ∧ m.2 ≤ 255) : ∃ n : Nat, (F11 m).1 = n ∧ 2 ≤ n ∧ n ≤ 6 ∧ IsB (F11 m) ∧ (F11 m).2.2.2.2.2.2.2.length ≤ maxLen ∧ 0 < ((F11 m).2.2.2.2.2.2.2.length : Int) := by
  have hB := b15 h
  have hf := hB.1.fl
  have hc := hB.1.cn
  have hl := b15_len h
  exact ⟨(F11 m).1.toNat, by omega, by omega, by omega, hB.1, Nat.le_trans hl (by decide), by have : 1 ≤ (F11 m).2.2.2.2.2.2.2.length := hc.1; omega⟩
theorem state_RS {b : BldT} {n : Nat} (l : List Int) (hB : IsB b) (hl : b.cars.length ≤ maxLen) (hn : b.1 = n) (h1 : 0 < (b.2.2.2.2.2.2.2.length : Int)) : RS n (F12 (b, 0, l)) :=
  (state_ind (RS n) b 0 l hl (new_RS (by have := hB.fl; omega)) (fun s inj press w1 w2 w3 _ hs => step_RS hB hl hn (by decide) h1 hs w1 w2 w3)).2
/-- RelayRuns. -/
theorem law_runs (x : ct4.p.den) (h : InR ct4.p x) : ct4.F x = true := by
  obtain ⟨m, l⟩ := x
  obtain ⟨n, hn, hn2, hn6, hB, hl, hp⟩ := law_b (m := m) ⟨u8_of h.1.1, u8_of h.1.2⟩
  show F4 (m, l) = true
  unfold F4
  simp only
  generalize F11 m = b at *
  have key : R4_4 (l, b) (0, F14 0, F15 0) = none := ret_none (fun x => RS n x.2.1 ∧ x.2.1 = x.2.2) (fun x hx => by
    unfold st4_4
    simp only
    cases hc : (decide (x.1 < (l.length : Int)) && decide (x.1 < 200)) with
    | false => rw [cond_false]; trivial
    | true =>
      rw [cond_true]
      have e : K4_4_1 (l, b) x = K4_4_2 (l, b) x := by
        unfold K4_4_1 K4_4_2
        rw [← hx.2]
        exact step_eq b 0 x.2.1 _ _ hl hx.1.wc
      have hr : RS n (K4_4_1 (l, b) x) := by
        unfold K4_4_1
        exact step_RS hB hl hn (by decide) hp hx.1 (W_wrap _) (W_wrap _) (W_wrap _)
      rw [← e, hr.istate hB hl hn]
      simp only [beq_self_eq_true, Bool.and_self, Bool.not_true, Bool.or_self, cond_false]
      exact ⟨hr, trivial⟩) _ _ ⟨new_RS hn2, rfl⟩
  rw [key, rsane_true]
  rfl
end Go.Proofs.YtpbljgpdhllklaaDoor.Sp
end

section
/- The relay car: what its contacts show; RelayContacts (own work). -/
namespace Go.Proofs.YtpbljgpdhllklaaDoor.Sp
open Go Sy
set_option linter.unusedVariables false
set_option linter.unusedSimpArgs false
set_option maxRecDepth 10000
theorem floor_at : ∀ n : Nat, n < 7 → ∀ f : Nat, f < n → 2 ≤ n → F49 ((n : Int), shl32 1 (f : Int)) = (f : Int) := by decide +kernel
theorem floor_no : ∀ n : Nat, n < 7 → 2 ≤ n → F49 ((n : Int), 0) = -1 := by decide +kernel
theorem pair_012 {d : Int} (h : 0 ≤ d ∧ d ≤ 2) : F50 (d == 1, d == 2, 0, 1, 2, 3) = d := by
  have : d = 0 ∨ d = 1 ∨ d = 2 := by omega
  rcases this with rfl | rfl | rfl <;> rfl
theorem RS.door {n : Nat} {s : RelT} (h : RS n s) : 0 ≤ s.2.2.2.2.1 ∧ s.2.2.2.2.1 ≤ 2 := by
  rw [h.dr]
  have h1 := h.st
  have : s.1 = 0 ∨ s.1 = 1 ∨ s.1 = 2 ∨ s.1 = 3 ∨ s.1 = 4 := by omega
  rcases this with e | e | e | e | e <;> (rw [e]; decide)
theorem obs_val {n : Nat} (hn2 : 2 ≤ n) (hn6 : n ≤ 6) {s : RelT} (h : RS n s) : F21 ((n : Int), F22 s) = (bif (s.1 == 1) then -1 else s.2.1, s.2.2.1, s.2.2.2.2.1) := by
  have hd := h.door
  have h3 := h.dir
  have h2 := h.fl
  obtain ⟨st, fl, dir, op, dr, tm, ⟨u, d⟩, car⟩ := s
  simp only at h2 h3 hd
  obtain ⟨f, rfl⟩ := Int.eq_ofNat_of_zero_le h2.1
  unfold F22 F45
  have e1 : (decide ((f : Int) ≥ 0) && decide ((f : Int) ≤ 31)) = true := by simp; omega
  simp only [e1, Bool.and_true]
  unfold F21
  cases hs : (st == 1) with
  | true =>
    have e2 : (st != 1) = false := by simp [bne, hs]
    simp only [e2, cond_false, cond_true]
    rw [floor_no n (by omega) hn2, pair_012 h3, pair_012 hd]
  | false =>
    have e2 : (st != 1) = true := by simp [bne, hs]
    simp only [e2, cond_false, cond_true]
    rw [floor_at n (by omega) f (by omega) hn2, pair_012 h3, pair_012 hd]
theorem law_contacts (x : ct6.p.den) (h : InR ct6.p x) : ct6.F x = true := by
  obtain ⟨m, l⟩ := x
  obtain ⟨n, hn, hn2, hn6, hB, hl, hp⟩ := law_b (m := m) ⟨u8_of h.1.1, u8_of h.1.2⟩
  show F6 (m, l) = true
  unfold F6
  simp only
  have hs := state_RS l hB hl hn hp
  generalize F12 (F11 m, 0, l) = s at *
  rw [hn, obs_val hn2 hn6 hs, rsane_true]
  cases h1 : (s.1 == 1) <;> simp
end Go.Proofs.YtpbljgpdhllklaaDoor.Sp
end

section
/- The relay car: what a decision does to the way that is left to a call (own work). -/
namespace Go.Proofs.YtpbljgpdhllklaaDoor.Sp
open Go Sy
set_option linter.unusedVariables false
set_option linter.unusedSimpArgs false
set_option maxRecDepth 10000
/-- How many openings are left at a floor. -/
def opn (o : Nat) : Int := 2 - (if o % 4 < 2 then 0 else 1) - (if o < 4 then 0 else 1)
theorem opn_bd (o : Nat) : 0 ≤ opn o ∧ opn o ≤ 2 := by unfold opn; split <;> split <;> omega
/-- The floors that are left. -/
def phU (n g f dir o : Nat) : Int := if dir = 0 ∨ (f = g ∧ ¬ o % 4 < 2) then 3 * n else if dir = 1 then (if f ≤ g then (g : Int) - f else 2 * ((n : Int) - 1) - f + g) else (f : Int) + g
def phD (n g f dir o : Nat) : Int := if dir = 0 ∨ (f = g ∧ ¬ o < 4) then 3 * n else if dir = 1 then 2 * ((n : Int) - 1) - f - g else (if g ≤ f then (f : Int) - g else (f : Int) + 2 * ((n : Int) - 1) - g)
def phC (n g f dir o : Nat) : Int := if dir = 0 ∨ (f = g ∧ o ≠ 0) then 3 * n else if dir = 1 then (if f ≤ g then (g : Int) - f else 2 * ((n : Int) - 1) - f - g) else (if g ≤ f then (f : Int) - g else (f : Int) + g)
/-- What a decision has to do. -/
def Dec (n : Nat) (ph : Nat → Nat → Nat → Int) (hit : Nat → Nat → Prop) (f dir o : Nat) (C : Int × Int × Int) (N : Int × Int) : Prop :=
  (C.1 = 3 ∧ (∃ d' o' : Nat, N = ((d' : Int), (o' : Int)) ∧ d' ≤ 2 ∧ o' < 8 ∧ hit f d') ∧ (1 ≤ ph f dir o ∨ 1 ≤ opn o)) ∨
  (C.1 = 3 ∧ ∃ d' o' : Nat, N = ((d' : Int), (o' : Int)) ∧ d' ≤ 2 ∧ o' < 8 ∧ (ph f d' o' < ph f dir o ∨ (ph f d' o' ≤ ph f dir o ∧ opn o' < opn o))) ∨
  (C.1 = 1 ∧ N = (1, 0) ∧ f + 1 < n ∧ ph (f + 1) 1 0 < ph f dir o) ∨
  (C.1 = 2 ∧ N = (2, 0) ∧ 0 < f ∧ ph (f - 1) 2 0 < ph f dir o)
theorem lo : ∀ o : Nat, o < 8 → (o % 4 < 2 → opn (o + 2) < opn o ∧ o + 2 < 8) ∧ (o < 4 → opn (o + 4) < opn o ∧ o + 4 < 8) := by decide
theorem dec_up {n g f dir o : Nat} (hn : 2 ≤ n) (hf : f < n) (hg : g + 1 < n) (hd : dir < 3) (ho : o < 8) (A U D a b l : Bool) (hU : f = g → U = true) (ha : f < g → a = true) (hb : g < f → b = true)
    (ra : a = true → f + 1 < n) (rb : b = true → 0 < f) : Dec n (phU n g) (fun f' d' => f' = g ∧ d' = 1) f dir o (ch dir o A U D a b l) (chN dir o A U D a b l) := by
  have h4 := lo o ho
  unfold Dec
  by_cases hfg : f = g
  · subst hfg
    rw [hU rfl]
    rcases S2u dir hd o ho A D a b l with e | ⟨h1, e, h2, eN⟩ | ⟨h1, h2, e, eN⟩ | ⟨h1, e, h2, eN⟩ | ⟨h1, e, h2, eN⟩
    · left
      have t := T1 dir hd o ho A true D a b l
      rw [e] at t ⊢
      simp only at t
      refine ⟨rfl, ?_, ?_⟩
      · rcases t with ⟨_, t2, t3, t4⟩ | ⟨t1, _⟩ | ⟨t1, _⟩ | ⟨t1, _⟩
        · refine ⟨1, (chN dir o A true D a b l).2.toNat, Prod.ext t2 (by simp only; omega), by omega, by omega, rfl, rfl⟩
        · omega
        · omega
        · omega
      · unfold phU opn
        have := h4
        by_cases ho2 : o % 4 < 2
        · right; simp only [ho2, if_true]; split <;> omega
        · left; simp only [ho2, not_false_eq_true, and_true, or_true, if_true]; omega
    · right; left
      rw [e, eN]
      refine ⟨rfl, 2, o + 4, by simp, by omega, (h4.2 h2).2, Or.inr ⟨?_, (h4.2 h2).1⟩⟩
      unfold phU
      have e4 : (o + 4) % 4 = o % 4 := by omega
      rw [e4]
      split <;> split <;> (try split) <;> omega
    · right; left
      rw [e, eN]
      refine ⟨rfl, 2, 4, rfl, by omega, by omega, Or.inl ?_⟩
      unfold phU
      simp only [h1, not_false_eq_true, and_true, or_true, if_true]
      simp; omega
    · right; right; right
      rw [e, eN]
      have := rb h2
      refine ⟨rfl, rfl, this, ?_⟩
      unfold phU
      split <;> split <;> (try split) <;> omega
    · right; right; left
      rw [e, eN]
      have := ra h2
      refine ⟨rfl, rfl, this, ?_⟩
      unfold phU
      split <;> split <;> (try split) <;> omega
  · have hab : (a || b) = true := by
      rcases Nat.lt_or_ge f g with h | h
      · rw [ha h]; rfl
      · rw [hb (by omega), Bool.or_true]
    rcases S1 dir hd o ho A U D a b l hab with ⟨e, h1, h2, eN⟩ | ⟨e, h1, h2, eN⟩ | ⟨e, h1, h2, eN⟩ | ⟨e, h1, h2, eN⟩
    · right; right; left
      rw [e, eN]
      have := ra h1
      have hb' : ¬ (dir = 2 ∧ g < f) := fun ⟨x, y⟩ => h2 ⟨x, hb y⟩
      refine ⟨rfl, rfl, this, ?_⟩
      unfold phU
      split <;> split <;> (try split) <;> (try split) <;> omega
    · right; right; right
      rw [e, eN]
      have := rb h1
      have hb' : ¬ (dir = 1 ∧ f < g) := fun ⟨x, y⟩ => h2 ⟨x, ha y⟩
      refine ⟨rfl, rfl, this, ?_⟩
      unfold phU
      split <;> split <;> (try split) <;> (try split) <;> omega
    · right; left
      rw [e, eN]
      have hb' : ¬ (dir = 2 ∧ g < f) := fun ⟨x, y⟩ => h2 ⟨x, hb y⟩
      refine ⟨rfl, 1, o + 2, by simp, by omega, (h4.1 h1).2, Or.inr ⟨?_, (h4.1 h1).1⟩⟩
      unfold phU
      split <;> split <;> (try split) <;> (try split) <;> (try split) <;> omega
    · right; left
      rw [e, eN]
      have hb' : ¬ (dir = 1 ∧ f < g) := fun ⟨x, y⟩ => h2 ⟨x, ha y⟩
      refine ⟨rfl, 2, o + 4, by simp, by omega, (h4.2 h1).2, Or.inr ⟨?_, (h4.2 h1).1⟩⟩
      unfold phU
      split <;> split <;> (try split) <;> (try split) <;> (try split) <;> omega
theorem dec_dn {n g f dir o : Nat} (hn : 2 ≤ n) (hf : f < n) (hg : 0 < g ∧ g < n) (hd : dir < 3) (ho : o < 8) (A U D a b l : Bool) (hD : f = g → D = true) (ha : f < g → a = true) (hb : g < f → b = true)
    (ra : a = true → f + 1 < n) (rb : b = true → 0 < f) : Dec n (phD n g) (fun f' d' => f' = g ∧ d' = 2) f dir o (ch dir o A U D a b l) (chN dir o A U D a b l) := by
  have h4 := lo o ho
  unfold Dec
  by_cases hfg : f = g
  · subst hfg
    rw [hD rfl]
    rcases S2d dir hd o ho A U a b l with e | ⟨h1, e, h2, eN⟩ | ⟨h1, h2, e, eN⟩ | ⟨h1, e, h2, eN⟩ | ⟨h1, e, h2, eN⟩
    · left
      have t := T1 dir hd o ho A U true a b l
      rw [e] at t ⊢
      simp only at t
      refine ⟨rfl, ?_, ?_⟩
      · rcases t with ⟨_, t2, t3, t4⟩ | ⟨t1, _⟩ | ⟨t1, _⟩ | ⟨t1, _⟩
        · refine ⟨2, (chN dir o A U true a b l).2.toNat, Prod.ext t2 (by simp only; omega), by omega, by omega, rfl, rfl⟩
        · omega
        · omega
        · omega
      · unfold phD opn
        have := h4
        by_cases ho2 : o < 4
        · right; simp only [ho2, if_true]; split <;> omega
        · left; simp only [ho2, not_false_eq_true, and_true, or_true, if_true]; omega
    · right; left
      rw [e, eN]
      refine ⟨rfl, 1, o + 2, by simp, by omega, (h4.1 h2).2, Or.inr ⟨?_, (h4.1 h2).1⟩⟩
      have e4 : (o + 2 < 4) ↔ (o < 4) := by omega
      unfold phD
      split <;> split <;> (try split) <;> omega
    · right; left
      rw [e, eN]
      refine ⟨rfl, 1, 2, rfl, by omega, by omega, Or.inl ?_⟩
      unfold phD
      simp only [h1, not_false_eq_true, and_true, or_true, if_true]
      simp; omega
    · right; right; left
      rw [e, eN]
      have := ra h2
      refine ⟨rfl, rfl, this, ?_⟩
      unfold phD
      split <;> split <;> (try split) <;> omega
    · right; right; right
      rw [e, eN]
      have := rb h2
      refine ⟨rfl, rfl, this, ?_⟩
      unfold phD
      split <;> split <;> (try split) <;> omega
  · have hab : (a || b) = true := by
      rcases Nat.lt_or_ge f g with h | h
      · rw [ha h]; rfl
      · rw [hb (by omega), Bool.or_true]
    rcases S1 dir hd o ho A U D a b l hab with ⟨e, h1, h2, eN⟩ | ⟨e, h1, h2, eN⟩ | ⟨e, h1, h2, eN⟩ | ⟨e, h1, h2, eN⟩
    · right; right; left
      rw [e, eN]
      have := ra h1
      have hb' : ¬ (dir = 2 ∧ g < f) := fun ⟨x, y⟩ => h2 ⟨x, hb y⟩
      refine ⟨rfl, rfl, this, ?_⟩
      unfold phD
      split <;> split <;> (try split) <;> (try split) <;> omega
    · right; right; right
      rw [e, eN]
      have := rb h1
      have hb' : ¬ (dir = 1 ∧ f < g) := fun ⟨x, y⟩ => h2 ⟨x, ha y⟩
      refine ⟨rfl, rfl, this, ?_⟩
      unfold phD
      split <;> split <;> (try split) <;> (try split) <;> omega
    · right; left
      rw [e, eN]
      have hb' : ¬ (dir = 2 ∧ g < f) := fun ⟨x, y⟩ => h2 ⟨x, hb y⟩
      refine ⟨rfl, 1, o + 2, by simp, by omega, (h4.1 h1).2, Or.inr ⟨?_, (h4.1 h1).1⟩⟩
      unfold phD
      split <;> split <;> (try split) <;> (try split) <;> (try split) <;> omega
    · right; left
      rw [e, eN]
      have hb' : ¬ (dir = 1 ∧ f < g) := fun ⟨x, y⟩ => h2 ⟨x, ha y⟩
      refine ⟨rfl, 2, o + 4, by simp, by omega, (h4.2 h1).2, Or.inr ⟨?_, (h4.2 h1).1⟩⟩
      unfold phD
      split <;> split <;> (try split) <;> (try split) <;> (try split) <;> omega
theorem dec_car {n g f dir o : Nat} (hn : 2 ≤ n) (hf : f < n) (hg : g < n) (hd : dir < 3) (ho : o < 8) (A U D a b l : Bool) (hA : f = g → A = true) (ha : f < g → a = true) (hb : g < f → b = true)
    (ra : a = true → f + 1 < n) (rb : b = true → 0 < f) : Dec n (phC n g) (fun f' _ => f' = g) f dir o (ch dir o A U D a b l) (chN dir o A U D a b l) := by
  have h4 := lo o ho
  unfold Dec
  by_cases hfg : f = g
  · subst hfg
    rw [hA rfl]
    rcases S3 dir hd o ho U D a b l with e | ⟨h1, e, h2, eN⟩ | ⟨h1, e, h2, eN⟩
    · left
      have t := T1 dir hd o ho true U D a b l
      refine ⟨e, ?_, ?_⟩
      · rcases t with ⟨_, t2, t3, t4⟩ | ⟨t1, _⟩ | ⟨t1, _⟩ | ⟨t1, _⟩
        · refine ⟨(chN dir o true U D a b l).1.toNat, (chN dir o true U D a b l).2.toNat, Prod.ext (by simp only; omega) (by simp only; omega), by omega, by omega, rfl⟩
        · omega
        · omega
        · omega
      · unfold phC opn
        by_cases ho2 : o = 0
        · right; subst ho2; decide
        · left; simp only [ho2, ne_eq, not_false_eq_true, and_true, or_true, if_true]; omega
    · right; right; right
      rw [e, eN]
      have := rb h2
      refine ⟨rfl, rfl, this, ?_⟩
      unfold phC
      split <;> split <;> (try split) <;> omega
    · right; right; left
      rw [e, eN]
      have := ra h2
      refine ⟨rfl, rfl, this, ?_⟩
      unfold phC
      split <;> split <;> (try split) <;> omega
  · have hab : (a || b) = true := by
      rcases Nat.lt_or_ge f g with h | h
      · rw [ha h]; rfl
      · rw [hb (by omega), Bool.or_true]
    rcases S1 dir hd o ho A U D a b l hab with ⟨e, h1, h2, eN⟩ | ⟨e, h1, h2, eN⟩ | ⟨e, h1, h2, eN⟩ | ⟨e, h1, h2, eN⟩
    · right; right; left
      rw [e, eN]
      have := ra h1
      have hb' : ¬ (dir = 2 ∧ g < f) := fun ⟨x, y⟩ => h2 ⟨x, hb y⟩
      refine ⟨rfl, rfl, this, ?_⟩
      unfold phC
      split <;> split <;> (try split) <;> (try split) <;> omega
    · right; right; right
      rw [e, eN]
      have := rb h1
      have hb' : ¬ (dir = 1 ∧ f < g) := fun ⟨x, y⟩ => h2 ⟨x, ha y⟩
      refine ⟨rfl, rfl, this, ?_⟩
      unfold phC
      split <;> split <;> (try split) <;> (try split) <;> omega
    · right; left
      rw [e, eN]
      have hb' : ¬ (dir = 2 ∧ g < f) := fun ⟨x, y⟩ => h2 ⟨x, hb y⟩
      refine ⟨rfl, 1, o + 2, by simp, by omega, (h4.1 h1).2, Or.inr ⟨?_, (h4.1 h1).1⟩⟩
      unfold phC
      split <;> split <;> (try split) <;> (try split) <;> (try split) <;> omega
    · right; left
      rw [e, eN]
      have hb' : ¬ (dir = 1 ∧ f < g) := fun ⟨x, y⟩ => h2 ⟨x, ha y⟩
      refine ⟨rfl, 2, o + 4, by simp, by omega, (h4.2 h1).2, Or.inr ⟨?_, (h4.2 h1).1⟩⟩
      unfold phC
      split <;> split <;> (try split) <;> (try split) <;> (try split) <;> omega
end Go.Proofs.YtpbljgpdhllklaaDoor.Sp
end

section
/- The relay car: every tick brings a call that is held nearer to its service (own work). -/
namespace Go.Proofs.YtpbljgpdhllklaaDoor.Sp
open Go Sy
set_option linter.unusedVariables false
set_option linter.unusedSimpArgs false
set_option maxRecDepth 10000
section
variable {n : Nat} {ph : Nat → Nat → Nat → Int} {hit : Nat → Nat → Prop} {S T D : Int}
/-- The ticks that are left behind a decision. -/
def Qv (ph : Nat → Nat → Nat → Int) (S T D : Int) (f d o : Nat) : Int := ph f d o * (3 * (2 * T + D) + S) + opn o * (2 * T + D)
theorem q_hit {p q K C : Int} (hp : 0 ≤ p) (hq : 0 ≤ q) (hC : 0 ≤ C) (hK : C ≤ K) (h : 1 ≤ p ∨ 1 ≤ q) : C ≤ p * K + q * C := by
  have a1 : 0 ≤ p * K := Int.mul_nonneg hp (by omega)
  have a2 : 0 ≤ q * C := Int.mul_nonneg hq hC
  rcases h with h | h
  · have := Int.mul_le_mul_of_nonneg_right h (show 0 ≤ K by omega)
    omega
  · have := Int.mul_le_mul_of_nonneg_right h hC
    omega
theorem q_open {p p' q q' K C : Int} (hq : 0 ≤ q) (hq' : q' ≤ 2) (hC : 0 ≤ C) (hK : 3 * C ≤ K) (h : p' < p ∨ (p' ≤ p ∧ q' < q)) : C + (p' * K + q' * C) ≤ p * K + q * C := by
  rcases h with h | ⟨h, h2⟩
  · have a1 := Int.mul_le_mul_of_nonneg_right (show p' + 1 ≤ p by omega) (show 0 ≤ K by omega)
    have a2 : 0 ≤ q * C := Int.mul_nonneg hq hC
    have a3 := Int.mul_le_mul_of_nonneg_right hq' hC
    rw [Int.add_mul] at a1
    omega
  · have a1 := Int.mul_le_mul_of_nonneg_right h (show 0 ≤ K by omega)
    have a2 := Int.mul_le_mul_of_nonneg_right (show q' + 1 ≤ q by omega) hC
    rw [Int.add_mul] at a2
    omega
theorem q_move {p p' q K C S : Int} (hq : 0 ≤ q) (hC : 0 ≤ C) (hS : 0 ≤ S) (hK : 2 * C + S ≤ K) (h : p' < p) : S + (p' * K + 2 * C) ≤ p * K + q * C := by
  have a1 := Int.mul_le_mul_of_nonneg_right (show p' + 1 ≤ p by omega) (show 0 ≤ K by omega)
  have a2 : 0 ≤ q * C := Int.mul_nonneg hq hC
  rw [Int.add_mul] at a1
  omega
/-- So many ticks are left at most. -/
def VV (n : Nat) (ph : Nat → Nat → Nat → Int) (hit : Nat → Nat → Prop) (S T D : Int) (st fl dir op tm v : Int) : Prop :=
  ∃ f d o : Nat, fl = f ∧ dir = d ∧ op = o ∧ f < n ∧ d < 3 ∧ o < 8 ∧
   ((st = 2 ∧ hit f d ∧ 1 ≤ tm ∧ tm ≤ v) ∨ (st = 0 ∧ tm = 0 ∧ 1 + Qv ph S T D f d o ≤ v) ∨ (st = 4 ∧ 1 ≤ tm ∧ tm + Qv ph S T D f d o ≤ v) ∨
    (st = 3 ∧ 1 ≤ tm ∧ tm + T + Qv ph S T D f d o ≤ v) ∨ (st = 2 ∧ 1 ≤ tm ∧ tm + D + T + Qv ph S T D f d o ≤ v) ∨
    (st = 1 ∧ 1 ≤ tm ∧ d = 1 ∧ f + 1 < n ∧ tm + Qv ph S T D (f + 1) 1 0 ≤ v) ∨ (st = 1 ∧ 1 ≤ tm ∧ d = 2 ∧ 0 < f ∧ tm + Qv ph S T D (f - 1) 2 0 ≤ v))
theorem VV.mono {st fl dir op tm v v' : Int} (h : VV n ph hit S T D st fl dir op tm v) (hv : v ≤ v') : VV n ph hit S T D st fl dir op tm v' := by
  obtain ⟨f, d, o, h1, h2, h3, h4, h5, h6, h⟩ := h
  refine ⟨f, d, o, h1, h2, h3, h4, h5, h6, ?_⟩
  rcases h with ⟨a, b, c, d⟩ | ⟨a, b, c⟩ | ⟨a, b, c⟩ | ⟨a, b, c⟩ | ⟨a, b, c⟩ | ⟨a, b, c, d, e⟩ | ⟨a, b, c, d, e⟩
  · exact Or.inl ⟨a, b, c, by omega⟩
  · exact Or.inr (Or.inl ⟨a, b, by omega⟩)
  · exact Or.inr (Or.inr (Or.inl ⟨a, b, by omega⟩))
  · exact Or.inr (Or.inr (Or.inr (Or.inl ⟨a, b, by omega⟩)))
  · exact Or.inr (Or.inr (Or.inr (Or.inr (Or.inl ⟨a, b, by omega⟩))))
  · exact Or.inr (Or.inr (Or.inr (Or.inr (Or.inr (Or.inl ⟨a, b, c, d, by omega⟩)))))
  · exact Or.inr (Or.inr (Or.inr (Or.inr (Or.inr (Or.inr ⟨a, b, c, d, by omega⟩)))))
theorem Q_nn (hS : 1 ≤ S) (hT : 1 ≤ T) (hD : 1 ≤ D) (hph : ∀ f d o, f < n → d < 3 → 0 ≤ ph f d o) {f d o : Nat} (hf : f < n) (hd : d < 3) : 0 ≤ Qv ph S T D f d o :=
  Int.add_nonneg (Int.mul_nonneg (hph f d o hf hd) (by omega)) (Int.mul_nonneg (opn_bd o).1 (by omega))
theorem VV.pos (hS : 1 ≤ S) (hT : 1 ≤ T) (hD : 1 ≤ D) (hph : ∀ f d o, f < n → d < 3 → 0 ≤ ph f d o) {st fl dir op tm v : Int} (h : VV n ph hit S T D st fl dir op tm v) : 1 ≤ v := by
  obtain ⟨f, d, o, h1, h2, h3, h4, h5, h6, h⟩ := h
  have q0 := Q_nn (o := o) hS hT hD hph h4 h5
  rcases h with ⟨a, b, c, d⟩ | ⟨a, b, c⟩ | ⟨a, b, c⟩ | ⟨a, b, c⟩ | ⟨a, b, c⟩ | ⟨a, b, c, d, e⟩ | ⟨a, b, c, d, e⟩
  · omega
  · omega
  · omega
  · omega
  · omega
  · have q1 := Q_nn (o := 0) hS hT hD hph d (show 1 < 3 by omega); omega
  · have q1 := Q_nn (o := 0) hS hT hD hph (show f - 1 < n by omega) (show 2 < 3 by omega); omega
/-- A decision. -/
theorem dcs_VV (hS : 1 ≤ S) (hT : 1 ≤ T) (hD : 1 ≤ D) (hph : ∀ f d o, f < n → d < 3 → 0 ≤ ph f d o) {f d o : Nat} (hf : f < n) (hd : d < 3) (ho : o < 8) {C : Int × Int × Int} {N : Int × Int} (h : Dec n ph hit f d o C N)
    (cfg : CarT) (eS : cfg.2.2.2.2.1 = S) (eT : cfg.2.2.2.2.2.1 = T) (u d' c : Int) :
    VV n ph hit S T D (dcs cfg f u d' c C N).1 (dcs cfg f u d' c C N).2.1 (dcs cfg f u d' c C N).2.2.1 (dcs cfg f u d' c C N).2.2.2.1 (dcs cfg f u d' c C N).2.2.2.2.2.1 (Qv ph S T D f d o) := by
  have e3 : C.1 = 3 → dcs cfg f u d' c C N = (2, (f : Int), N.1, N.2, 0, T, (u, d'), c) := fun h => by unfold dcs; rw [h, eT]; rfl
  have e1 : C.1 = 1 ∨ C.1 = 2 → dcs cfg f u d' c C N = (1, (f : Int), N.1, N.2, 2, S, (u, d'), c) := fun h => by unfold dcs; rcases h with h | h <;> (rw [h, eS]; rfl)
  have ob := opn_bd o
  have p0 := hph f d o hf hd
  rcases h with ⟨c1, ⟨d1, o1, eN, hd1, ho1, hh⟩, h2⟩ | ⟨c1, d1, o1, eN, hd1, ho1, hh⟩ | ⟨c1, eN, hr, hh⟩ | ⟨c1, eN, hr, hh⟩
  · rw [e3 c1, eN]
    refine ⟨f, d1, o1, rfl, rfl, rfl, hf, by omega, ho1, Or.inl ⟨rfl, hh, hT, ?_⟩⟩
    have := q_hit (K := 3 * (2 * T + D) + S) (C := 2 * T + D) p0 ob.1 (by omega) (by omega) h2
    show T ≤ Qv ph S T D f d o
    unfold Qv; omega
  · rw [e3 c1, eN]
    refine ⟨f, d1, o1, rfl, rfl, rfl, hf, by omega, ho1, Or.inr (Or.inr (Or.inr (Or.inr (Or.inl ⟨rfl, hT, ?_⟩))))⟩
    have := q_open (K := 3 * (2 * T + D) + S) (C := 2 * T + D) ob.1 (opn_bd o1).2 (by omega) (by omega) hh
    show T + D + T + Qv ph S T D f d1 o1 ≤ Qv ph S T D f d o
    unfold Qv; omega
  · rw [e1 (Or.inl c1), eN]
    refine ⟨f, 1, 0, rfl, rfl, rfl, hf, by omega, by omega, Or.inr (Or.inr (Or.inr (Or.inr (Or.inr (Or.inl ⟨rfl, hS, rfl, hr, ?_⟩)))))⟩
    have := q_move (K := 3 * (2 * T + D) + S) (C := 2 * T + D) (S := S) ob.1 (by omega) (by omega) (by omega) hh
    show S + Qv ph S T D (f + 1) 1 0 ≤ Qv ph S T D f d o
    unfold Qv
    have o0 : opn 0 = 2 := rfl
    rw [o0]; omega
  · rw [e1 (Or.inr c1), eN]
    refine ⟨f, 2, 0, rfl, rfl, rfl, hf, by omega, by omega, Or.inr (Or.inr (Or.inr (Or.inr (Or.inr (Or.inr ⟨rfl, hS, rfl, hr, ?_⟩)))))⟩
    have := q_move (K := 3 * (2 * T + D) + S) (C := 2 * T + D) (S := S) ob.1 (by omega) (by omega) (by omega) hh
    show S + Qv ph S T D (f - 1) 2 0 ≤ Qv ph S T D f d o
    unfold Qv
    have o0 : opn 0 = 2 := rfl
    rw [o0]; omega
end
end Go.Proofs.YtpbljgpdhllklaaDoor.Sp
end

section
/- The relay car: a call that is held is served in time (own work). -/
namespace Go.Proofs.YtpbljgpdhllklaaDoor.Sp
open Go Sy
set_option linter.unusedVariables false
set_option linter.unusedSimpArgs false
set_option maxRecDepth 10000
/-- A kind of call. -/
structure Kind (n : Nat) where
  ph : Nat → Nat → Nat → Int
  hit : Nat → Nat → Prop
  pres : Int → Int → Int → Prop
  p0 : ∀ f d o, f < n → d < 3 → 0 ≤ ph f d o
  p3 : ∀ f d o, f < n → d < 3 → ph f d o ≤ 3 * n
  dec : ∀ (f d o : Nat) (u d' c ab be : Int), Ok n f d o c u d' → Sc n f o c u d' ab be → pres u d' c → Dec n ph hit f d o (ch d o (bit (cA n c) f) (bit (cU n u) f) (bit (cD n d') f) (decide (0 < ab)) (decide (0 < be)) (decide (be ≥ ab))) (chN d o (bit (cA n c) f) (bit (cU n u) f) (bit (cD n d') f) (decide (0 < ab)) (decide (0 < be)) (decide (be ≥ ab)))
  more : ∀ u d c iu id p, SetsOk n u d c → W iu → W id → W p → pres u d c → pres (mU n u iu) (mD n d id) (mC n c p)
def Shown {n : Nat} (k : Kind n) (s : RelT) : Prop := s.1 = 3 ∧ ∃ f d : Nat, s.2.1 = f ∧ s.2.2.1 = d ∧ k.hit f d
def VS {n : Nat} (k : Kind n) (cfg : CarT) (s : RelT) (v : Int) : Prop := VV n k.ph k.hit cfg.2.2.2.2.1 cfg.2.2.2.2.2.1 cfg.2.2.2.2.2.2.1 s.1 s.2.1 s.2.2.1 s.2.2.2.1 s.2.2.2.2.2.1 v
structure CfgOk (cfg : CarT) : Prop where
  S : 1 ≤ cfg.2.2.2.2.1 ∧ cfg.2.2.2.2.1 ≤ 10000
  T : 1 ≤ cfg.2.2.2.2.2.1 ∧ cfg.2.2.2.2.2.1 ≤ 10000
  D : 1 ≤ cfg.2.2.2.2.2.2.1 ∧ cfg.2.2.2.2.2.2.1 ≤ 10000
theorem dec_VS {n : Nat} (k : Kind n) {f d o : Nat} {u d' c : Int} (h : Ok n f d o c u d') (hp : k.pres u d' c) {cfg : CarT} (hc : CfgOk cfg) (st dr tm : Int) :
    VS k cfg (F67 ((n : Int), cfg, st, (f : Int), (d : Int), (o : Int), dr, tm, (u, d'), c)) (Qv k.ph cfg.2.2.2.2.1 cfg.2.2.2.2.2.1 cfg.2.2.2.2.2.2.1 f d o) := by
  obtain ⟨ab, be, s, e⟩ := dec_form h cfg st dr tm
  rw [e]
  exact dcs_VV hc.S.1 hc.T.1 hc.D.1 k.p0 h.f (by have := h.dir; omega) (by have := h.o; omega) (k.dec f d o u d' c ab be h s hp) cfg rfl rfl u d' c
theorem over_VS {n : Nat} (k : Kind n) {st fl dir op dr tm u d c v : Int} (hn : n ≤ 32) (hn2 : 2 ≤ n) (h : RS n (st, fl, dir, op, dr, tm, (u, d), c)) (hp : k.pres u d c) {cfg : CarT} (hc : CfgOk cfg)
    (hv : VS k cfg (st, fl, dir, op, dr, tm, (u, d), c) v) (ht : tm ≤ 1) (hs : ¬ Shown k (st, fl, dir, op, dr, tm, (u, d), c)) :
    Shown k (F37 ((n : Int), cfg, st, fl, dir, op, dr, tm, (u, d), c)) ∨ VS k cfg (F37 ((n : Int), cfg, st, fl, dir, op, dr, tm, (u, d), c)) (v - 1) := by
  have hse : SetsOk n u d c := h.sets
  obtain ⟨f, d', o, rfl, rfl, rfl, hf, hd, ho, hv⟩ := hv
  have ok : ∀ g e p : Nat, g < n → e < 3 → p < 8 → Ok n g e p c u d := fun g e p hg he hp => ⟨hn2, hn, hg, by omega, by omega, hse.wc, hse.wu, hse.wd⟩
  have o2 : st = 2 → F37 ((n : Int), cfg, st, (f : Int), (d' : Int), (o : Int), dr, tm, (u, d), c) = (3, (f : Int), (d' : Int), (o : Int), F48 3, cfg.2.2.2.2.2.2.1, (u, d), c) := fun e => by subst e; rfl
  have o3 : st = 3 → F37 ((n : Int), cfg, st, (f : Int), (d' : Int), (o : Int), dr, tm, (u, d), c) = (4, (f : Int), (d' : Int), (o : Int), F48 4, cfg.2.2.2.2.2.1, (u, d), c) := fun e => by subst e; rfl
  have o0 : st = 0 ∨ st = 4 → F37 ((n : Int), cfg, st, (f : Int), (d' : Int), (o : Int), dr, tm, (u, d), c) = F67 ((n : Int), cfg, st, (f : Int), (d' : Int), (o : Int), dr, tm, (u, d), c) := fun e => by rcases e with e | e <;> (subst e; rfl)
  have o1 : st = 1 → F37 ((n : Int), cfg, st, (f : Int), (d' : Int), (o : Int), dr, tm, (u, d), c) = F67 ((n : Int), cfg, st, F47 (st, (f : Int), (d' : Int), (o : Int), dr, tm, (u, d), c), (d' : Int), 0, dr, tm, (u, d), c) := fun e => by subst e; rfl
  rcases hv with ⟨a, b, c', e⟩ | ⟨a, b, c'⟩ | ⟨a, b, c'⟩ | ⟨a, b, c'⟩ | ⟨a, b, c'⟩ | ⟨a, b, c', e, g⟩ | ⟨a, b, c', e, g⟩
  · left
    rw [o2 a]
    exact ⟨rfl, f, d', rfl, rfl, b⟩
  · right
    rw [o0 (Or.inl a)]
    exact (dec_VS k (ok f d' o hf hd ho) hp hc st dr tm).mono (by omega)
  · right
    rw [o0 (Or.inr a)]
    exact (dec_VS k (ok f d' o hf hd ho) hp hc st dr tm).mono (by omega)
  · right
    rw [o3 a]
    refine ⟨f, d', o, rfl, rfl, rfl, hf, hd, ho, Or.inr (Or.inr (Or.inl ⟨rfl, hc.T.1, ?_⟩))⟩
    show cfg.2.2.2.2.2.1 + Qv _ _ _ _ f d' o ≤ v - 1
    omega
  · right
    rw [o2 a]
    refine ⟨f, d', o, rfl, rfl, rfl, hf, hd, ho, Or.inr (Or.inr (Or.inr (Or.inl ⟨rfl, hc.D.1, ?_⟩)))⟩
    show cfg.2.2.2.2.2.2.1 + cfg.2.2.2.2.2.1 + Qv _ _ _ _ f d' o ≤ v - 1
    omega
  · right
    subst c'
    have ea : F47 (st, (f : Int), ((1 : Nat) : Int), (o : Int), dr, tm, (u, d), c) = ((f + 1 : Nat) : Int) := by
      unfold F47
      show IntKind.i64.wrap ((f : Int) + 1) = _
      rw [wrap_i64_of (by omega) (by omega)]; omega
    rw [o1 a, ea]
    exact (dec_VS k (ok (f + 1) 1 0 e (by omega) (by omega)) hp hc st dr tm).mono (by omega)
  · right
    subst c'
    have ea : F47 (st, (f : Int), ((2 : Nat) : Int), (o : Int), dr, tm, (u, d), c) = ((f - 1 : Nat) : Int) := by
      unfold F47
      show IntKind.i64.wrap ((f : Int) - 1) = _
      rw [wrap_i64_of (by omega) (by omega)]; omega
    rw [o1 a, ea]
    exact (dec_VS k (ok (f - 1) 2 0 (by omega) (by omega) (by omega)) hp hc st dr tm).mono (by omega)
theorem VS.dec1 {n : Nat} (k : Kind n) {cfg : CarT} {st fl dir op dr dr' tm v : Int} {x y : (Int × Int) × Int} (h : VS k cfg (st, fl, dir, op, dr, tm, x) v) (ht : 1 < tm) : VS k cfg (st, fl, dir, op, dr', tm - 1, y) (v - 1) := by
  obtain ⟨f, d, o, h1, h2, h3, h4, h5, h6, h⟩ := h
  refine ⟨f, d, o, h1, h2, h3, h4, h5, h6, ?_⟩
  simp only at h ⊢
  rcases h with ⟨a, b, c, d⟩ | ⟨a, b, c⟩ | ⟨a, b, c⟩ | ⟨a, b, c⟩ | ⟨a, b, c⟩ | ⟨a, b, c, d, e⟩ | ⟨a, b, c, d, e⟩
  · exact Or.inl ⟨a, b, by omega, by omega⟩
  · omega
  · exact Or.inr (Or.inr (Or.inl ⟨a, by omega, by omega⟩))
  · exact Or.inr (Or.inr (Or.inr (Or.inl ⟨a, by omega, by omega⟩)))
  · exact Or.inr (Or.inr (Or.inr (Or.inr (Or.inl ⟨a, by omega, by omega⟩))))
  · exact Or.inr (Or.inr (Or.inr (Or.inr (Or.inr (Or.inl ⟨a, by omega, c, d, by omega⟩)))))
  · exact Or.inr (Or.inr (Or.inr (Or.inr (Or.inr (Or.inr ⟨a, by omega, c, d, by omega⟩)))))
theorem shown_srv {n : Nat} (k : Kind n) (s : RelT) : Shown k (srv s) ↔ Shown k s := by
  unfold srv
  cases h : (s.1 == 3) <;> exact Iff.rfl
theorem VS_srv {n : Nat} (k : Kind n) (cfg : CarT) (s : RelT) (v : Int) : VS k cfg (srv s) v ↔ VS k cfg s v := by
  unfold srv
  cases h : (s.1 == 3) <;> exact Iff.rfl
theorem nxt_sets (b : BldT) (car : Int) (n : Nat) (s : RelT) (inj : Int × Int) (press : Int) : (nxt b car n s inj press).2.2.2.2.2.2 = ((mU n s.2.2.2.2.2.2.1.1 inj.1, mD n s.2.2.2.2.2.2.1.2 inj.2), mC n s.2.2.2.2.2.2.2 press) := by
  unfold nxt
  cases hc : decide (s.2.2.2.2.2.1 > 1) with
  | true => rfl
  | false => rw [cond_false]; exact over_keeps _
theorem cfg_ok {b : BldT} (hB : IsB b) {car : Int} (h0 : 0 ≤ car) (h1 : car < (b.2.2.2.2.2.2.2.length : Int)) : CfgOk (nthT b.2.2.2.2.2.2.2 car) := by
  have ht := car_times hB h0 h1
  exact ⟨ht.1, ht.2.1, ht.2.2.1⟩
/-- A tick. -/
theorem nxt_VS {b : BldT} {car : Int} {n : Nat} (k : Kind n) {s : RelT} {inj : Int × Int} {press v : Int} (hB : IsB b) (hn : b.1 = n) (h0 : 0 ≤ car) (h1 : car < (b.2.2.2.2.2.2.2.length : Int)) (h : RS n s)
    (hp : k.pres (mU n s.2.2.2.2.2.2.1.1 inj.1) (mD n s.2.2.2.2.2.2.1.2 inj.2) (mC n s.2.2.2.2.2.2.2 press)) (w1 : W inj.1) (w2 : W inj.2) (w3 : W press) (hv : VS k (nthT b.2.2.2.2.2.2.2 car) s v) (hs : ¬ Shown k s) :
    Shown k (nxt b car n s inj press) ∨ VS k (nthT b.2.2.2.2.2.2.2 car) (nxt b car n s inj press) (v - 1) := by
  have hf := hB.fl
  have hn32 : n ≤ 32 := by omega
  have hn2 : 2 ≤ n := by omega
  have hm := h.sets.more hn32 hn2 w1 w2 w3
  obtain ⟨st, fl, dir, op, dr, tm, ⟨u, d⟩, c⟩ := s
  unfold nxt
  simp only at hm hp ⊢
  cases hc : decide (tm > 1) with
  | true =>
    rw [decide_eq_true_eq] at hc
    rw [cond_true]
    right
    exact hv.dec1 k hc
  | false =>
    rw [decide_eq_false_iff_not] at hc
    have hc : ¬ tm > 1 := hc
    rw [cond_false, hn]
    exact over_VS k hn32 hn2 (rs_of hm h.st h.fl h.dir h.op h.dr h.tm h.tz h.mv) hp (cfg_ok hB h0 h1) hv (show tm ≤ 1 by omega) hs
/-- The time of a stage is one of the car's. -/
def TB (cfg : CarT) (s : RelT) : Prop := (s.1 = 1 → s.2.2.2.2.2.1 ≤ cfg.2.2.2.2.1) ∧ (s.1 = 2 → s.2.2.2.2.2.1 ≤ cfg.2.2.2.2.2.1) ∧ (s.1 = 3 → s.2.2.2.2.2.1 ≤ cfg.2.2.2.2.2.2.1) ∧ (s.1 = 4 → s.2.2.2.2.2.1 ≤ cfg.2.2.2.2.2.1)
theorem TB_srv {cfg : CarT} {s : RelT} (h : TB cfg s) : TB cfg (srv s) := by
  unfold srv
  cases hs : (s.1 == 3) <;> exact h
theorem TB_begin {cfg : CarT} {s : RelT} {st tm : Int} (h : TB cfg (st, s.2.1, s.2.2.1, s.2.2.2.1, 0, tm, s.2.2.2.2.2.2)) : TB cfg (F66 (s, st, tm)) := h
theorem TB_decide (y : Int × CarT × RelT) : TB y.2.1 (F67 y) := by
  unfold F67 K67_1 K67_2 K67_3 F66
  simp only [cond_eq_ite]
  repeat' split
  all_goals exact ⟨fun h => by first | exact Int.le_refl _ | (exact absurd h (by intro h; have h := h; simp at h)), fun h => by first | exact Int.le_refl _ | (exact absurd h (by intro h; have h := h; simp at h)), fun h => by first | exact Int.le_refl _ | (exact absurd h (by intro h; have h := h; simp at h)), fun h => by first | exact Int.le_refl _ | (exact absurd h (by intro h; have h := h; simp at h))⟩
theorem TB_over (y : Int × CarT × RelT) : TB y.2.1 (F37 y) := by
  unfold F37
  simp only [cond_eq_ite]
  split
  · unfold F66
    refine ⟨fun h => ?_, fun h => ?_, fun h => Int.le_refl _, fun h => ?_⟩ <;> (simp at h)
  · split
    · unfold F66
      refine ⟨fun h => ?_, fun h => ?_, fun h => ?_, fun h => Int.le_refl _⟩ <;> (simp at h)
    · split
      · exact TB_decide _
      · exact TB_decide _
theorem TB_nxt {b : BldT} {car : Int} {n : Nat} {s : RelT} {inj : Int × Int} {press : Int} (h : TB (nthT b.2.2.2.2.2.2.2 car) s) : TB (nthT b.2.2.2.2.2.2.2 car) (nxt b car n s inj press) := by
  unfold nxt
  cases hc : decide (s.2.2.2.2.2.1 > 1) with
  | true =>
    rw [cond_true]
    obtain ⟨h1, h2, h3, h4⟩ := h
    refine ⟨fun e => ?_, fun e => ?_, fun e => ?_, fun e => ?_⟩
    · have := h1 e; simp only; omega
    · have := h2 e; simp only; omega
    · have := h3 e; simp only; omega
    · have := h4 e; simp only; omega
  | false =>
    rw [cond_false]
    exact TB_over _
theorem Q_max {n : Nat} (k : Kind n) {cfg : CarT} (hc : CfgOk cfg) {f d o : Nat} (hf : f < n) (hd : d < 3) : Qv k.ph cfg.2.2.2.2.1 cfg.2.2.2.2.2.1 cfg.2.2.2.2.2.2.1 f d o ≤ 3 * (n : Int) * (3 * (2 * cfg.2.2.2.2.2.1 + cfg.2.2.2.2.2.2.1) + cfg.2.2.2.2.1) + 2 * (2 * cfg.2.2.2.2.2.1 + cfg.2.2.2.2.2.2.1) := by
  have a1 := hc.S.1; have a2 := hc.T.1; have a3 := hc.D.1
  have h1 := Int.mul_le_mul_of_nonneg_right (k.p3 f d o hf hd) (show 0 ≤ 3 * (2 * cfg.2.2.2.2.2.1 + cfg.2.2.2.2.2.2.1) + cfg.2.2.2.2.1 by omega)
  have h2 := Int.mul_le_mul_of_nonneg_right (opn_bd o).2 (show 0 ≤ 2 * cfg.2.2.2.2.2.1 + cfg.2.2.2.2.2.2.1 by omega)
  unfold Qv
  omega
theorem init_VS {n : Nat} (k : Kind n) {s : RelT} (h : RS n s) {cfg : CarT} (hc : CfgOk cfg) (ht : TB cfg s) : VS k cfg s (3 * (n : Int) * (3 * (2 * cfg.2.2.2.2.2.1 + cfg.2.2.2.2.2.2.1) + cfg.2.2.2.2.1) + 3 * (2 * cfg.2.2.2.2.2.1 + cfg.2.2.2.2.2.2.1) + cfg.2.2.2.2.1) := by
  have a1 := hc.S.1; have a2 := hc.T.1; have a3 := hc.D.1
  have h1 := h.st; have h2 := h.fl; have h3 := h.dir; have h4 := h.op; have h6 := h.tm; have h7 := h.tz; have h8 := h.mv
  obtain ⟨st, fl, dir, op, dr, tm, ⟨u, d⟩, c⟩ := s
  obtain ⟨t1, t2, t3, t4⟩ := ht
  simp only at h1 h2 h3 h4 h6 h7 h8 t1 t2 t3 t4
  obtain ⟨f, rfl⟩ := Int.eq_ofNat_of_zero_le h2.1
  obtain ⟨e, rfl⟩ := Int.eq_ofNat_of_zero_le h3.1
  obtain ⟨o, rfl⟩ := Int.eq_ofNat_of_zero_le h4.1
  have q0 := Q_max k hc (f := f) (d := e) (o := o) (by omega) (by omega)
  refine ⟨f, e, o, rfl, rfl, rfl, by omega, by omega, by omega, ?_⟩
  simp only
  have h5 : st = 0 ∨ st = 1 ∨ st = 2 ∨ st = 3 ∨ st = 4 := by omega
  rcases h5 with rfl | rfl | rfl | rfl | rfl
  · exact Or.inr (Or.inl ⟨rfl, by omega, by omega⟩)
  · have t := t1 rfl
    rcases h8 rfl with ⟨x, y⟩ | ⟨x, y⟩
    · have q1 := Q_max k hc (f := f + 1) (d := 1) (o := 0) (by omega) (by omega)
      exact Or.inr (Or.inr (Or.inr (Or.inr (Or.inr (Or.inl ⟨rfl, by omega, by omega, by omega, by omega⟩)))))
    · have q1 := Q_max k hc (f := f - 1) (d := 2) (o := 0) (by omega) (by omega)
      exact Or.inr (Or.inr (Or.inr (Or.inr (Or.inr (Or.inr ⟨rfl, by omega, by omega, by omega, by omega⟩)))))
  · have t := t2 rfl
    exact Or.inr (Or.inr (Or.inr (Or.inr (Or.inl ⟨rfl, by omega, by omega⟩))))
  · have t := t3 rfl
    exact Or.inr (Or.inr (Or.inr (Or.inl ⟨rfl, by omega, by omega⟩)))
  · have t := t4 rfl
    exact Or.inr (Or.inr (Or.inl ⟨rfl, by omega, by omega⟩))
end Go.Proofs.YtpbljgpdhllklaaDoor.Sp
end

section
/- RelayPromises and RelayCarries: the plain laws (own work). -/
namespace Go.Proofs.YtpbljgpdhllklaaDoor.Sp
open Go Sy
set_option linter.unusedVariables false
set_option linter.unusedSimpArgs false
set_option maxRecDepth 10000
theorem one_val (f : Nat) (hf : f < 32) (dir : Int) : F39 ((f : Int), dir) = bif (dir == 1) then (shl32 1 (f : Int), 0) else bif (dir == 2) then (0, shl32 1 (f : Int)) else (0, 0) := by
  unfold F39
  have : (decide ((f : Int) ≥ 0) && decide ((f : Int) < 32)) = true := by simp; omega
  rw [this]; rfl
theorem cS_of {n : Nat} {c u d : Int} {i : Nat} (hi : i < 32) (h : bit (cA n c) i = true ∨ bit (cU n u) i = true ∨ bit (cD n d) i = true) : bit (cS (cA n c) (cU n u) (cD n d)) i = true := by
  rw [bit_cS (W_and _ _) (W_and _ _) (W_and _ _) i hi]
  rcases h with h | h | h <;> simp [h]
def upK (n g : Nat) (hn : n ≤ 32) (hn2 : 2 ≤ n) (hg : g + 1 < n) : Kind n where
  ph := phU n g
  hit := fun f' d' => f' = g ∧ d' = 1
  pres := fun u _ _ => bit u g = true
  p0 := fun f d o hf hd => by unfold phU; split <;> (try split) <;> (try split) <;> omega
  p3 := fun f d o hf hd => by unfold phU; split <;> (try split) <;> (try split) <;> omega
  dec := fun f d o u d' c ab be h s hp => by
    have hb : bit (cU n u) g = true := by rw [bit_cU hn h.u, hp]; simpa using hg
    exact dec_up hn2 h.f hg (by have := h.dir; omega) (by have := h.o; omega) _ _ _ _ _ _ (fun e => e ▸ hb) (fun e => s.up_iff.2 ⟨g, e, cS_of (by omega) (Or.inr (Or.inl hb))⟩) (fun e => s.down_iff.2 ⟨g, e, cS_of (by omega) (Or.inr (Or.inl hb))⟩) (up_room h s) (down_room s)
  more := fun u d c iu id p hs wu wd wp hp => by rw [bit_mU hn hn2 hs.wu wu, hp]; rfl
def dnK (n g : Nat) (hn : n ≤ 32) (hn2 : 2 ≤ n) (hg : 0 < g ∧ g < n) : Kind n where
  ph := phD n g
  hit := fun f' d' => f' = g ∧ d' = 2
  pres := fun _ d _ => bit d g = true
  p0 := fun f d o hf hd => by unfold phD; split <;> (try split) <;> (try split) <;> omega
  p3 := fun f d o hf hd => by unfold phD; split <;> (try split) <;> (try split) <;> omega
  dec := fun f d o u d' c ab be h s hp => by
    have hb : bit (cD n d') g = true := by rw [bit_cD hn h.d, hp]; simpa using hg
    exact dec_dn hn2 h.f hg (by have := h.dir; omega) (by have := h.o; omega) _ _ _ _ _ _ (fun e => e ▸ hb) (fun e => s.up_iff.2 ⟨g, e, cS_of (by omega) (Or.inr (Or.inr hb))⟩) (fun e => s.down_iff.2 ⟨g, e, cS_of (by omega) (Or.inr (Or.inr hb))⟩) (up_room h s) (down_room s)
  more := fun u d c iu id p hs wu wd wp hp => by rw [bit_mD hn hn2 hs.wd wd, hp]; rfl
def carK (n g : Nat) (hn : n ≤ 32) (hn2 : 2 ≤ n) (hg : g < n) : Kind n where
  ph := phC n g
  hit := fun f' _ => f' = g
  pres := fun _ _ c => bit c g = true
  p0 := fun f d o hf hd => by unfold phC; split <;> (try split) <;> (try split) <;> omega
  p3 := fun f d o hf hd => by unfold phC; split <;> (try split) <;> (try split) <;> omega
  dec := fun f d o u d' c ab be h s hp => by
    have hb : bit (cA n c) g = true := by rw [bit_cA hn h.c, hp]; simpa using hg
    exact dec_car hn2 h.f hg (by have := h.dir; omega) (by have := h.o; omega) _ _ _ _ _ _ (fun e => e ▸ hb) (fun e => s.up_iff.2 ⟨g, e, cS_of (by omega) (Or.inl hb)⟩) (fun e => s.down_iff.2 ⟨g, e, cS_of (by omega) (Or.inl hb)⟩) (up_room h s) (down_room s)
  more := fun u d c iu id p hs wu wd wp hp => by rw [bit_mC hn hs.wc wp, hp]; rfl
/-- The service takes away only what is shown. -/
def Keeps {n : Nat} (k : Kind n) : Prop := ∀ s, RS n s → k.pres (rcalls s).1 (rcalls s).2 (rcar s) → ¬ Shown k s → k.pres (rcalls (srv s)).1 (rcalls (srv s)).2 (rcar (srv s))
theorem nand_keep {x y : Int} (hx : W x) (hy : W y) {i : Nat} (h : bit x i = true) (h2 : bit y i = false) : bit (nand32 x y) i = true := by
  rw [bit_nand hx.1 hy.1 i (bit_lt hx h), h, h2]; rfl
theorem up_keeps {n g : Nat} (hn : n ≤ 32) (hn2 : 2 ≤ n) (hg : g + 1 < n) : Keeps (upK n g hn hn2 hg) := by
  intro s h hp hs
  have h2 := h.fl; have h3 := h.dir
  unfold srv
  cases h3' : (s.1 == 3) with
  | false => exact hp
  | true =>
    show bit (nand32 (rcalls s).1 (F39 (s.2.1, s.2.2.1)).1) g = true
    obtain ⟨f, hf⟩ := Int.eq_ofNat_of_zero_le h2.1
    refine nand_keep h.wu (one_W _ _).1 hp ?_
    rw [hf, one_val f (by omega)]
    cases hd : (s.2.2.1 == 1) with
    | true =>
      rw [cond_true]
      show bit (shl32 1 (f : Int)) g = false
      rw [bit_one f g (by omega), decide_eq_false_iff_not]
      intro e
      exact hs ⟨by simpa using h3', f, 1, hf, by simpa using hd, by omega, rfl⟩
    | false =>
      rw [cond_false]
      cases (s.2.2.1 == 2) <;> exact bit_zero _
theorem dn_keeps {n g : Nat} (hn : n ≤ 32) (hn2 : 2 ≤ n) (hg : 0 < g ∧ g < n) : Keeps (dnK n g hn hn2 hg) := by
  intro s h hp hs
  have h2 := h.fl; have h3 := h.dir
  unfold srv
  cases h3' : (s.1 == 3) with
  | false => exact hp
  | true =>
    show bit (nand32 (rcalls s).2 (F39 (s.2.1, s.2.2.1)).2) g = true
    obtain ⟨f, hf⟩ := Int.eq_ofNat_of_zero_le h2.1
    refine nand_keep h.wd (one_W _ _).2 hp ?_
    rw [hf, one_val f (by omega)]
    cases hd1 : (s.2.2.1 == 1) with
    | true => exact bit_zero _
    | false =>
      rw [cond_false]
      cases hd : (s.2.2.1 == 2) with
      | true =>
        rw [cond_true]
        show bit (shl32 1 (f : Int)) g = false
        rw [bit_one f g (by omega), decide_eq_false_iff_not]
        intro e
        exact hs ⟨by simpa using h3', f, 2, hf, by simpa using hd, by omega, rfl⟩
      | false => exact bit_zero _
theorem car_keeps {n g : Nat} (hn : n ≤ 32) (hn2 : 2 ≤ n) (hg : g < n) : Keeps (carK n g hn hn2 hg) := by
  intro s h hp hs
  have h2 := h.fl; have h3 := h.dir
  unfold srv
  cases h3' : (s.1 == 3) with
  | false => exact hp
  | true =>
    show bit (nand32 (rcar s) (shl32 1 s.2.1)) g = true
    obtain ⟨f, hf⟩ := Int.eq_ofNat_of_zero_le h2.1
    obtain ⟨e, he⟩ := Int.eq_ofNat_of_zero_le h3.1
    refine nand_keep h.wc (W_wrap _) hp ?_
    rw [hf, bit_one f g (by omega), decide_eq_false_iff_not]
    intro e'
    exact hs ⟨by simpa using h3', f, e, hf, he, by show f = g; omega⟩
theorem tick {b : BldT} {n : Nat} (k : Kind n) (hk : Keeps k) {s : RelT} {inj : Int × Int} {press v : Int} (hB : IsB b) (hl : b.cars.length ≤ maxLen) (hn : b.1 = n) (h1 : 0 < (b.2.2.2.2.2.2.2.length : Int)) (h : RS n s)
    (hp : k.pres (mU n s.2.2.2.2.2.2.1.1 inj.1) (mD n s.2.2.2.2.2.2.1.2 inj.2) (mC n s.2.2.2.2.2.2.2 press)) (w1 : W inj.1) (w2 : W inj.2) (w3 : W press) (ht : TB (nthT b.2.2.2.2.2.2.2 0) s) :
    RS n (F17 (b, 0, s, inj, press)) ∧ TB (nthT b.2.2.2.2.2.2.2 0) (F17 (b, 0, s, inj, press)) ∧
    (Shown k (F17 (b, 0, s, inj, press)) ∨ k.pres (rcalls (F17 (b, 0, s, inj, press))).1 (rcalls (F17 (b, 0, s, inj, press))).2 (rcar (F17 (b, 0, s, inj, press)))) ∧
    (¬ Shown k s → VS k (nthT b.2.2.2.2.2.2.2 0) s v → Shown k (F17 (b, 0, s, inj, press)) ∨ VS k (nthT b.2.2.2.2.2.2.2 0) (F17 (b, 0, s, inj, press)) (v - 1)) := by
  rw [step_form inj press hB hl hn (by decide) h1 h]
  have hr := nxt_RS (press := press) hB hn (by decide) h1 h w1 w2 w3
  refine ⟨srv_RS hr, TB_srv (TB_nxt ht), ?_, ?_⟩
  · rw [shown_srv]
    by_cases hs : Shown k (nxt b 0 n s inj press)
    · exact Or.inl hs
    · right
      refine hk _ hr ?_ hs
      have e := nxt_sets b 0 n s inj press
      show k.pres (nxt b 0 n s inj press).2.2.2.2.2.2.1.1 (nxt b 0 n s inj press).2.2.2.2.2.2.1.2 (nxt b 0 n s inj press).2.2.2.2.2.2.2
      rw [e]
      exact hp
  · intro hs hv
    rw [shown_srv, VS_srv]
    exact nxt_VS k hB hn (by decide) h1 h hp w1 w2 w3 hv hs
/-- So long it takes at most. -/
def vmax (n : Nat) (cfg : CarT) : Int := 3 * (n : Int) * (3 * (2 * cfg.2.2.2.2.2.1 + cfg.2.2.2.2.2.2.1) + cfg.2.2.2.2.1) + 3 * (2 * cfg.2.2.2.2.2.1 + cfg.2.2.2.2.2.2.1) + cfg.2.2.2.2.1
/-- The state at the head of the loop. -/
def Held {n : Nat} (k : Kind n) (cfg : CarT) (i : Int) (s : RelT) : Prop := 0 ≤ i ∧ i ≤ 2000000000 ∧ RS n s ∧ TB cfg s ∧ (i = 0 ∨ (¬ Shown k s ∧ k.pres (rcalls s).1 (rcalls s).2 (rcar s) ∧ VS k cfg s (vmax n cfg + 1 - i)))
theorem held_next {b : BldT} {n : Nat} (k : Kind n) (hk : Keeps k) {i : Int} {s : RelT} {inj : Int × Int} {press : Int} (hB : IsB b) (hl : b.cars.length ≤ maxLen) (hn : b.1 = n) (h1 : 0 < (b.2.2.2.2.2.2.2.length : Int))
    (h : Held k (nthT b.2.2.2.2.2.2.2 0) i s) (hi : i ≤ 1000000000) (w1 : W inj.1) (w2 : W inj.2) (w3 : W press) (h0 : i = 0 → k.pres (mU n s.2.2.2.2.2.2.1.1 inj.1) (mD n s.2.2.2.2.2.2.1.2 inj.2) (mC n s.2.2.2.2.2.2.2 press))
    (hs : ¬ Shown k (F17 (b, 0, s, inj, press))) : Held k (nthT b.2.2.2.2.2.2.2 0) (i + 1) (F17 (b, 0, s, inj, press)) := by
  obtain ⟨i0, _, hr, ht, hh⟩ := h
  have hf := hB.fl
  have hp : k.pres (mU n s.2.2.2.2.2.2.1.1 inj.1) (mD n s.2.2.2.2.2.2.1.2 inj.2) (mC n s.2.2.2.2.2.2.2 press) := by
    rcases hh with hh | hh
    · exact h0 hh
    · exact k.more _ _ _ _ _ _ hr.sets w1 w2 w3 hh.2.1
  obtain ⟨t1, t2, t3, t4⟩ := tick (v := vmax n (nthT b.2.2.2.2.2.2.2 0) + 1 - i) k hk hB hl hn h1 hr hp w1 w2 w3 ht
  refine ⟨by omega, by omega, t1, t2, Or.inr ⟨hs, t3.resolve_left hs, ?_⟩⟩
  rcases hh with hh | hh
  · subst hh
    exact (init_VS k t1 (cfg_ok hB (by decide) h1) t2).mono (by unfold vmax; omega)
  · exact ((t4 hh.1 hh.2.2).resolve_left hs).mono (by omega)
theorem held_end {n : Nat} (k : Kind n) {cfg : CarT} (hc : CfgOk cfg) {i : Int} {s : RelT} (h : Held k cfg i s) (hi : vmax n cfg < i) : False := by
  have a1 := hc.S.1; have a2 := hc.T.1; have a3 := hc.D.1
  have v0 : 0 ≤ 3 * (n : Int) * (3 * (2 * cfg.2.2.2.2.2.1 + cfg.2.2.2.2.2.2.1) + cfg.2.2.2.2.1) := Int.mul_nonneg (by omega) (by omega)
  obtain ⟨i0, _, hr, ht, hh⟩ := h
  rcases hh with hh | hh
  · unfold vmax at hi; omega
  · have := VV.pos hc.S.1 hc.T.1 hc.D.1 k.p0 hh.2.2
    omega
theorem vmax_le {b : BldT} {n : Nat} (hB : IsB b) (hl : b.cars.length ≤ maxLen) (hn : b.1 = n) (h1 : 0 < (b.2.2.2.2.2.2.2.length : Int)) : vmax n (nthT b.2.2.2.2.2.2.2 0) ≤ F20 (b, 0) := by
  rw [promise_eq hB hl (by decide) h1, hn]
  have hc := cfg_ok hB (by decide) h1
  have a1 := hc.S.1; have a2 := hc.T.1; have a3 := hc.D.1
  generalize nthT b.2.2.2.2.2.2.2 0 = cfg at *
  unfold vmax
  generalize hC : 2 * cfg.2.2.2.2.2.1 + cfg.2.2.2.2.2.2.1 = C
  rw [Int.add_mul, Int.one_mul]
  have : 3 * (n : Int) * (3 * C + cfg.2.2.2.2.1) ≤ 3 * (n : Int) * (3 * C + cfg.2.2.2.2.1 + 2) := Int.mul_le_mul_of_nonneg_left (by omega) (by omega)
  omega
end Go.Proofs.YtpbljgpdhllklaaDoor.Sp
end

section
/- RelayCarries and RelayPromises (own work). -/
namespace Go.Proofs.YtpbljgpdhllklaaDoor.Sp
open Go Sy
set_option linter.unusedVariables false
set_option linter.unusedSimpArgs false
set_option maxRecDepth 10000
theorem RS.open_iff {n : Nat} {s : RelT} (h : RS n s) : (s.2.2.2.2.1 = 1) ↔ s.1 = 3 := by
  rw [h.dr]
  have h1 := h.st
  have : s.1 = 0 ∨ s.1 = 1 ∨ s.1 = 2 ∨ s.1 = 3 ∨ s.1 = 4 := by omega
  rcases this with e | e | e | e | e <;> (rw [e]; decide)
theorem car_shown {n g : Nat} {hn : n ≤ 32} {hn2 : 2 ≤ n} {hg : g < n} {s : RelT} (h : RS n s) : ((s.2.1 == (g : Int)) && (s.2.2.2.2.1 == 1)) = true ↔ Shown (carK n g hn hn2 hg) s := by
  rw [Bool.and_eq_true, beq_iff_eq, beq_iff_eq, h.open_iff]
  have h3 := h.dir
  constructor
  · intro ⟨a, b⟩
    obtain ⟨d, hd⟩ := Int.eq_ofNat_of_zero_le h3.1
    exact ⟨b, g, d, a, hd, rfl⟩
  · intro ⟨a, f, d, b, c, e⟩
    have e : f = g := e
    subst e
    exact ⟨b, a⟩
theorem state_TB {b : BldT} {n : Nat} (l : List Int) (hB : IsB b) (hl : b.cars.length ≤ maxLen) (hn : b.1 = n) (h1 : 0 < (b.2.2.2.2.2.2.2.length : Int)) : RS n (F12 (b, 0, l)) ∧ TB (nthT b.2.2.2.2.2.2.2 0) (F12 (b, 0, l)) :=
  (state_ind (fun s => RS n s ∧ TB (nthT b.2.2.2.2.2.2.2 0) s) b 0 l hl ⟨new_RS (by have := hB.fl; omega), ⟨fun h => absurd h (by decide), fun h => absurd h (by decide), fun h => absurd h (by decide), fun h => absurd h (by decide)⟩⟩ (fun s inj press w1 w2 w3 _ hs => ⟨step_RS hB hl hn (by decide) h1 hs.1 w1 w2 w3, by
    rw [step_form inj press hB hl hn (by decide) h1 hs.1]
    exact TB_srv (TB_nxt hs.2)⟩)).2
theorem law_carries (x : ct5.p.den) (h : InR ct5.p x) : ct5.F x = true := by
  obtain ⟨⟨n0, n1, n2⟩, l, m⟩ := x
  have u2 : (0 : Int) ≤ n2 ∧ (n2 : Int) ≤ (255 : Int) := u8_of h.1.2.2
  obtain ⟨n, hn, hn2, hn6, hB, hl, hp⟩ := law_b (m := (n0, n1)) ⟨u8_of h.1.1, u8_of h.1.2.1⟩
  show F5 ((n0, n1, n2), l, m) = true
  unfold F5
  simp only
  have hs := state_TB l hB hl hn hp
  generalize F11 (n0, n1) = b at *
  generalize F12 (b, 0, l) = s0 at *
  obtain ⟨g, eg, hg⟩ : ∃ g : Nat, Int.tmod (IntKind.i64.wrap n2) b.1 = (g : Int) ∧ g < n := by
    have ew : IntKind.i64.wrap n2 = n2 := wrap_i64_of (Int.le_trans (by decide) u2.1) (Int.le_trans u2.2 (by decide))
    rw [ew, hn, Int.tmod_eq_emod_of_nonneg u2.1]
    have a1 := Int.emod_nonneg n2 (show (n : Int) ≠ 0 by omega)
    have a2 := Int.emod_lt_of_pos n2 (show 0 < (n : Int) by omega)
    exact ⟨(n2 % (n : Int)).toNat, by omega, by omega⟩
  rw [eg]
  have hn32 : n ≤ 32 := by omega
  have hP := promise_le (b, 0) hl
  have hV := vmax_le hB hl hn hp
  have hc := cfg_ok hB (car := 0) (by decide) hp
  have key : R5_5 (m, (g : Int), b) (0, s0) = some true := by
    unfold R5_5
    refine loop_spec (step := st5_5) (k := (m, (g : Int), b)) (fun x => Held (carK n g hn32 hn2 hg) (nthT b.2.2.2.2.2.2.2 0) x.1 x.2) (mu5_5 (m, (g : Int), b)) (fun o _ => o = some true) (fun x hx => ?_) _ _ ⟨Int.le_refl _, by show (0 : Int) ≤ 2000000000; decide, hs.1, hs.2, Or.inl rfl⟩ (Nat.lt_succ_self _)
    unfold st5_5
    simp only
    cases hc' : decide (x.1 ≤ F20 (b, 0)) with
    | false =>
      rw [cond_false]
      rw [decide_eq_false_iff_not] at hc'
      exact (held_end _ hc hx (by omega)).elim
    | true =>
      rw [cond_true]
      rw [decide_eq_true_eq] at hc'
      have hx0 := hx.1
      have hmu : ∀ y : RelT, mu5_5 (m, (g : Int), b) (x.1 + 1, y) < mu5_5 (m, (g : Int), b) x := fun y => by
        unfold mu5_5
        simp only; omega
      rw [wrap_i64_of (x := x.1 + 1) (by omega) (by omega)]
      cases h0 : (x.1 == 0) with
      | true =>
        rw [cond_true]
        have hst : ∀ (inj : Int × Int) (p : Int), W inj.1 → W inj.2 → W p → RS n (F17 (b, 0, x.2, inj, p)) := fun inj p a1 a2 a3 => step_RS hB hl hn (by decide) hp hx.2.2.1 a1 a2 a3
        obtain ⟨inj, p, e, w1, w2, w3⟩ : ∃ (inj : Int × Int) (p : Int), K5_5_1 (m, (g : Int), b) x = F17 (b, 0, x.2, inj, or32 p (shl32 1 (IntKind.u64.wrap (g : Int)))) ∧ W inj.1 ∧ W inj.2 ∧ W p := ⟨(_, _), _, rfl, W_wrap _, W_wrap _, W_wrap _⟩
        rw [e]
        have hr := hst inj _ w1 w2 (W_or p (shl32 1 (IntKind.u64.wrap (g : Int))))
        cases hsh : (((F17 (b, 0, x.2, inj, or32 p (shl32 1 (IntKind.u64.wrap (g : Int))))).2.1 == (g : Int)) && ((F17 (b, 0, x.2, inj, or32 p (shl32 1 (IntKind.u64.wrap (g : Int))))).2.2.2.2.1 == 1)) with
        | true => rw [cond_true, rsane_true]
        | false =>
          rw [cond_false]
          refine ⟨held_next _ (car_keeps hn32 hn2 hg) hB hl hn hp hx (by omega) w1 w2 (W_or _ _) (fun _ => ?_) (fun hh => ?_), hmu _⟩
          · show bit (mC n _ (or32 p (shl32 1 (IntKind.u64.wrap (g : Int))))) g = true
            rw [bit_mC hn32 hx.2.2.1.wc (W_or _ _), bit_or w3.1 (W_wrap _).1 g (by omega), uwrap g (by omega), bit_one g g (by omega)]
            simp [hg]
          · rw [(car_shown hr).2 hh] at hsh; cases hsh
      | false =>
        rw [cond_false]
        have hst : ∀ (inj : Int × Int) (p : Int), W inj.1 → W inj.2 → W p → RS n (F17 (b, 0, x.2, inj, p)) := fun inj p a1 a2 a3 => step_RS hB hl hn (by decide) hp hx.2.2.1 a1 a2 a3
        obtain ⟨inj, p, e, w1, w2, w3⟩ : ∃ (inj : Int × Int) (p : Int), K5_5_2 (m, (g : Int), b) x = F17 (b, 0, x.2, inj, p) ∧ W inj.1 ∧ W inj.2 ∧ W p := ⟨(_, _), _, rfl, W_wrap _, W_wrap _, W_wrap _⟩
        rw [e]
        have hr := hst inj _ w1 w2 w3
        cases hsh : (((F17 (b, 0, x.2, inj, p)).2.1 == (g : Int)) && ((F17 (b, 0, x.2, inj, p)).2.2.2.2.1 == 1)) with
        | true => rw [cond_true, rsane_true]
        | false =>
          rw [cond_false]
          refine ⟨held_next _ (car_keeps hn32 hn2 hg) hB hl hn hp hx (by omega) w1 w2 w3 (fun e0 => ?_) (fun hh => ?_), hmu _⟩
          · rw [e0] at h0; cases h0
          · rw [(car_shown hr).2 hh] at hsh; cases hsh
  rw [key]
  rfl
end Go.Proofs.YtpbljgpdhllklaaDoor.Sp
end

section
/- RelayPromises (own work). -/
namespace Go.Proofs.YtpbljgpdhllklaaDoor.Sp
open Go Sy
set_option linter.unusedVariables false
set_option linter.unusedSimpArgs false
set_option maxRecDepth 10000
set_option synthInstance.maxHeartbeats 400000
set_option synthInstance.maxSize 4096
theorem tabU : ∀ n : Nat, n < 7 → ∀ g : Nat, g < 7 → ∀ f : Nat, f < 7 → ∀ d : Nat, d < 3 → ∀ r : Nat, r < 3 → 2 ≤ n → g + 1 < n → f < n →
    (((F24 ((n : Int), (f : Int), (d : Int), (r : Int))).1 == (F39 ((g : Int), 1)).1) && ((F24 ((n : Int), (f : Int), (d : Int), (r : Int))).2 == (F39 ((g : Int), 1)).2)) = decide (f = g ∧ d = 1 ∧ r = 1) := by decide +kernel
theorem tabU' : ∀ n : Nat, n < 7 → ∀ g : Nat, g < 7 → ∀ d : Nat, d < 3 → ∀ r : Nat, r < 3 → 2 ≤ n → g + 1 < n →
    (((F24 ((n : Int), (-1), (d : Int), (r : Int))).1 == (F39 ((g : Int), 1)).1) && ((F24 ((n : Int), (-1), (d : Int), (r : Int))).2 == (F39 ((g : Int), 1)).2)) = false := by decide +kernel
theorem tabD : ∀ n : Nat, n < 7 → ∀ g : Nat, g < 7 → ∀ f : Nat, f < 7 → ∀ d : Nat, d < 3 → ∀ r : Nat, r < 3 → 2 ≤ n → 0 < g ∧ g < n → f < n →
    (((F24 ((n : Int), (f : Int), (d : Int), (r : Int))).1 == (F39 ((g : Int), 2)).1) && ((F24 ((n : Int), (f : Int), (d : Int), (r : Int))).2 == (F39 ((g : Int), 2)).2)) = decide (f = g ∧ d = 2 ∧ r = 1) := by decide +kernel
theorem tabD' : ∀ n : Nat, n < 7 → ∀ g : Nat, g < 7 → ∀ d : Nat, d < 3 → ∀ r : Nat, r < 3 → 2 ≤ n → 0 < g ∧ g < n →
    (((F24 ((n : Int), (-1), (d : Int), (r : Int))).1 == (F39 ((g : Int), 2)).1) && ((F24 ((n : Int), (-1), (d : Int), (r : Int))).2 == (F39 ((g : Int), 2)).2)) = false := by decide +kernel
/-- What the law looks at. -/
abbrev seen (n : Nat) (s : RelT) (c : Int × Int) : Bool := ((F24 ((n : Int), F21 ((n : Int), F22 s))).1 == c.1) && ((F24 ((n : Int), F21 ((n : Int), F22 s))).2 == c.2)
theorem up_shown {n g : Nat} {hn : n ≤ 32} {hn2 : 2 ≤ n} {hg : g + 1 < n} (hn6 : n ≤ 6) {s : RelT} (h : RS n s) : seen n s (F39 ((g : Int), 1)) = true ↔ Shown (upK n g hn hn2 hg) s := by
  unfold seen
  rw [obs_val hn2 hn6 h]
  have ho := h.open_iff
  have h1 := h.fl; have h2 := h.dir; have h3 := h.door
  obtain ⟨f, hf⟩ := Int.eq_ofNat_of_zero_le h1.1
  obtain ⟨d, hd⟩ := Int.eq_ofNat_of_zero_le h2.1
  obtain ⟨r, hr⟩ := Int.eq_ofNat_of_zero_le h3.1
  rw [hd, hr]
  rw [hr] at ho
  cases hs : (s.1 == 1) with
  | true =>
    rw [cond_true, tabU' n (by omega) g (by omega) d (by omega) r (by omega) hn2 hg]
    refine ⟨fun h => absurd h (by decide), fun ⟨a, _⟩ => ?_⟩
    rw [a] at hs; cases hs
  | false =>
    rw [cond_false, hf, tabU n (by omega) g (by omega) f (by omega) d (by omega) r (by omega) hn2 hg (by omega), decide_eq_true_eq]
    constructor
    · intro ⟨a, b, c⟩
      exact ⟨ho.1 (by omega), f, d, hf, hd, a, b⟩
    · intro ⟨a, f', d', b, c, e1, e2⟩
      have e1 : f' = g := e1
      have e2 : d' = 1 := e2
      have := ho.2 a
      omega
theorem dn_shown {n g : Nat} {hn : n ≤ 32} {hn2 : 2 ≤ n} {hg : 0 < g ∧ g < n} (hn6 : n ≤ 6) {s : RelT} (h : RS n s) : seen n s (F39 ((g : Int), 2)) = true ↔ Shown (dnK n g hn hn2 hg) s := by
  unfold seen
  rw [obs_val hn2 hn6 h]
  have ho := h.open_iff
  have h1 := h.fl; have h2 := h.dir; have h3 := h.door
  obtain ⟨f, hf⟩ := Int.eq_ofNat_of_zero_le h1.1
  obtain ⟨d, hd⟩ := Int.eq_ofNat_of_zero_le h2.1
  obtain ⟨r, hr⟩ := Int.eq_ofNat_of_zero_le h3.1
  rw [hd, hr]
  rw [hr] at ho
  cases hs : (s.1 == 1) with
  | true =>
    rw [cond_true, tabD' n (by omega) g (by omega) d (by omega) r (by omega) hn2 hg]
    refine ⟨fun h => absurd h (by decide), fun ⟨a, _⟩ => ?_⟩
    rw [a] at hs; cases hs
  | false =>
    rw [cond_false, hf, tabD n (by omega) g (by omega) f (by omega) d (by omega) r (by omega) hn2 hg (by omega), decide_eq_true_eq]
    constructor
    · intro ⟨a, b, c⟩
      exact ⟨ho.1 (by omega), f, d, hf, hd, a, b⟩
    · intro ⟨a, f', d', b, c, e1, e2⟩
      have e1 : f' = g := e1
      have e2 : d' = 2 := e2
      have := ho.2 a
      omega
/-- The loop of RelayPromises, for any kind of call. -/
theorem r11 {b : BldT} {n : Nat} (k : Kind n) (hk : Keeps k) (call : Int × Int) (hsh : ∀ s, RS n s → (seen n s call = true ↔ Shown k s)) (hcl : W call.1 ∧ W call.2)
    (hin : ∀ (s : RelT) (i : Int × Int) (p : Int), RS n s → W i.1 → W i.2 → W p → k.pres (mU n s.2.2.2.2.2.2.1.1 (or32 i.1 call.1)) (mD n s.2.2.2.2.2.2.1.2 (or32 i.2 call.2)) (mC n s.2.2.2.2.2.2.2 p))
    (hB : IsB b) (hl : b.cars.length ≤ maxLen) (hn : b.1 = n) (hp : 0 < (b.2.2.2.2.2.2.2.length : Int)) (m : List Int) (s0 : RelT) (hs : RS n s0 ∧ TB (nthT b.2.2.2.2.2.2.2 0) s0) :
    R8_11 (m, F20 (b, 0), b, call) (0, s0) = some true := by
  have hP := promise_le (b, 0) hl
  have hV := vmax_le hB hl hn hp
  have hc := cfg_ok hB (car := 0) (by decide) hp
  unfold R8_11
  refine loop_spec (step := st8_11) (k := (m, F20 (b, 0), b, call)) (fun x => Held k (nthT b.2.2.2.2.2.2.2 0) x.1 x.2) (mu8_11 (m, F20 (b, 0), b, call)) (fun o _ => o = some true) (fun x hx => ?_) _ _ ⟨Int.le_refl _, by show (0 : Int) ≤ 2000000000; decide, hs.1, hs.2, Or.inl rfl⟩ (Nat.lt_succ_self _)
  unfold st8_11
  simp only
  cases hc' : decide (x.1 ≤ F20 (b, 0)) with
  | false =>
    rw [cond_false]
    rw [decide_eq_false_iff_not] at hc'
    exact (held_end _ hc hx (by omega)).elim
  | true =>
    rw [cond_true]
    rw [decide_eq_true_eq] at hc'
    have hx0 := hx.1
    have hmu : ∀ y : RelT, mu8_11 (m, F20 (b, 0), b, call) (x.1 + 1, y) < mu8_11 (m, F20 (b, 0), b, call) x := fun y => by
      unfold mu8_11
      simp only; omega
    rw [wrap_i64_of (x := x.1 + 1) (by omega) (by omega), hn]
    have hst : ∀ (inj : Int × Int) (p : Int), W inj.1 → W inj.2 → W p → RS n (F17 (b, 0, x.2, inj, p)) := fun inj p a1 a2 a3 => step_RS hB hl hn (by decide) hp hx.2.2.1 a1 a2 a3
    cases h0 : (x.1 == 0) with
    | true =>
      rw [cond_true]
      obtain ⟨inj, p, e, w1, w2, w3⟩ : ∃ (inj : Int × Int) (p : Int), K8_11_2 (m, F20 (b, 0), b, call) x = F17 (b, 0, x.2, (or32 inj.1 call.1, or32 inj.2 call.2), p) ∧ W inj.1 ∧ W inj.2 ∧ W p := ⟨(_, _), _, rfl, W_wrap _, W_wrap _, W_wrap _⟩
      rw [e]
      have hr := hst (or32 inj.1 call.1, or32 inj.2 call.2) p (W_or _ _) (W_or _ _) w3
      cases hse : seen n (F17 (b, 0, x.2, (or32 inj.1 call.1, or32 inj.2 call.2), p)) call with
      | true =>
        have hse' := hse
        unfold seen at hse'
        rw [hse', cond_true, rsane_true]
      | false =>
        have hse' := hse
        unfold seen at hse'
        rw [hse', cond_false]
        refine ⟨held_next _ hk hB hl hn hp hx (by omega) (W_or _ _) (W_or _ _) w3 (fun _ => hin x.2 inj p hx.2.2.1 w1 w2 w3) (fun hh => ?_), hmu _⟩
        rw [(hsh _ hr).2 hh] at hse; cases hse
    | false =>
      rw [cond_false]
      obtain ⟨inj, p, e, w1, w2, w3⟩ : ∃ (inj : Int × Int) (p : Int), K8_11_3 (m, F20 (b, 0), b, call) x = F17 (b, 0, x.2, inj, p) ∧ W inj.1 ∧ W inj.2 ∧ W p := ⟨(_, _), _, rfl, W_wrap _, W_wrap _, W_wrap _⟩
      rw [e]
      have hr := hst inj p w1 w2 w3
      cases hse : seen n (F17 (b, 0, x.2, inj, p)) call with
      | true =>
        have hse' := hse
        unfold seen at hse'
        rw [hse', cond_true, rsane_true]
      | false =>
        have hse' := hse
        unfold seen at hse'
        rw [hse', cond_false]
        refine ⟨held_next _ hk hB hl hn hp hx (by omega) w1 w2 w3 (fun e0 => ?_) (fun hh => ?_), hmu _⟩
        · rw [e0] at h0; cases h0
        · rw [(hsh _ hr).2 hh] at hse; cases hse
theorem promise_ref (b : BldT) (i : Int) (hl : b.cars.length ≤ maxLen) : F26 (b, i) = F20 (b, i) := by
  unfold F26 F20
  simp only
  rw [valid_cond b hl, rvalid_cond b hl]
theorem promise_no (b : BldT) : F20 (b, -1) = 0 := by
  unfold F20
  simp only
  rw [show decide ((-1 : Int) < 0) = true from rfl, Bool.or_true, Bool.true_or, cond_true]
theorem promise_zero : F20 (((0 : Int), (0 : Int), (0 : Int), (0 : Int), (0 : Nat), (0 : Nat), (0 : Nat), []), (0 : Int)) = 0 := by kernel_rfl
theorem law_promises (x : ct8.p.den) (h : InR ct8.p x) : ct8.F x = true := by
  obtain ⟨⟨n0, n1, n2⟩, l, m⟩ := x
  have u2 : (0 : Int) ≤ n2 ∧ (n2 : Int) ≤ (255 : Int) := u8_of h.1.2.2
  obtain ⟨n, hn, hn2, hn6, hB, hl, hp⟩ := law_b (m := (n0, n1)) ⟨u8_of h.1.1, u8_of h.1.2.1⟩
  show F8 ((n0, n1, n2), l, m) = true
  unfold F8
  simp only
  have hs := state_TB l hB hl hn hp
  generalize F11 (n0, n1) = b at *
  generalize F12 (b, 0, l) = s0 at *
  have ew : IntKind.i64.wrap n2 = n2 := wrap_i64_of (Int.le_trans (by decide) u2.1) (Int.le_trans u2.2 (by decide))
  have ew1 : IntKind.i64.wrap (b.1 - 1) = b.1 - 1 := wrap_i64_of (by omega) (by omega)
  obtain ⟨g, eg, hg⟩ : ∃ g : Nat, Int.tmod n2 (b.1 - 1) = (g : Int) ∧ g + 1 < n := by
    rw [hn, Int.tmod_eq_emod_of_nonneg u2.1]
    have a1 := Int.emod_nonneg n2 (show (n : Int) - 1 ≠ 0 by omega)
    have a2 := Int.emod_lt_of_pos n2 (show 0 < (n : Int) - 1 by omega)
    exact ⟨(n2 % ((n : Int) - 1)).toNat, by omega, by omega⟩
  have hn32 : n ≤ 32 := by omega
  have eg1 : IntKind.i64.wrap ((g : Int) + 1) = ((g + 1 : Nat) : Int) := by rw [wrap_i64_of (by omega) (by omega)]; omega
  rw [ew, ew1, eg, eg1, promise_ref b 0 hl, promise_no, promise_zero, rone_eq, rone_eq]
  have hg1 : 0 < g + 1 ∧ g + 1 < n := by omega
  have kU := r11 (upK n g hn32 hn2 hg) (up_keeps hn32 hn2 hg) (F39 ((g : Int), 1)) (fun s h => up_shown hn6 h) (one_W _ _) (fun s i p h w1 w2 w3 => by
    show bit (mU n s.2.2.2.2.2.2.1.1 (or32 i.1 (F39 ((g : Int), 1)).1)) g = true
    have hw := (one_W (g : Int) 1).1
    rw [bit_mU hn32 hn2 h.wu (W_or _ _), bit_or w1.1 hw.1 g (by omega), one_val g (by omega)]
    have : bit (shl32 1 (g : Int)) g = true := by rw [bit_one g g (by omega)]; simp
    show (bit s.2.2.2.2.2.2.1.1 g || ((bit i.1 g || bit (shl32 1 (g : Int)) g) && decide (g + 1 < n))) = true
    rw [this]; simp [hg]) hB hl hn hp m s0 hs
  have kD := r11 (dnK n (g + 1) hn32 hn2 hg1) (dn_keeps hn32 hn2 hg1) (F39 (((g + 1 : Nat) : Int), 2)) (fun s h => dn_shown hn6 h) (one_W _ _) (fun s i p h w1 w2 w3 => by
    show bit (mD n s.2.2.2.2.2.2.1.2 (or32 i.2 (F39 (((g + 1 : Nat) : Int), 2)).2)) (g + 1) = true
    have hw := (one_W ((g + 1 : Nat) : Int) 2).2
    rw [bit_mD hn32 hn2 h.wd (W_or _ _), bit_or w2.1 hw.1 (g + 1) (by omega), one_val (g + 1) (by omega)]
    have : bit (shl32 1 ((g + 1 : Nat) : Int)) (g + 1) = true := by rw [bit_one (g + 1) (g + 1) (by omega)]; simp
    show (bit s.2.2.2.2.2.2.1.2 (g + 1) || ((bit i.2 (g + 1) || bit (shl32 1 ((g + 1 : Nat) : Int)) (g + 1)) && decide (0 < g + 1 ∧ g + 1 < n))) = true
    rw [this]; simp [hg]) hB hl hn hp m s0 hs
  rw [kU, kD]
  simp [optR]
end Go.Proofs.YtpbljgpdhllklaaDoor.Sp
end

section
/- RelayHolds (own work). -/
namespace Go.Proofs.YtpbljgpdhllklaaDoor.Sp
open Go Sy
set_option linter.unusedVariables false
set_option linter.unusedSimpArgs false
set_option maxRecDepth 10000
abbrev presOf {n : Nat} (k : Kind n) (s : RelT) : Prop := k.pres (rcalls s).1 (rcalls s).2 (rcar s)
def Clears {n : Nat} (k : Kind n) : Prop := ∀ x, RS n x → Shown k (srv x) → ¬ presOf k (srv x)
def Back {n : Nat} (k : Kind n) : Prop := ∀ (s x : RelT), RS n s → RS n x → rcalls x = (mU n (rcalls s).1 0, mD n (rcalls s).2 0) → rcar x = mC n (rcar s) 0 → presOf k (srv x) → presOf k s
theorem srv_st {s : RelT} (h : s.1 = 3) : srv s = (s.1, s.2.1, s.2.2.1, s.2.2.2.1, s.2.2.2.2.1, s.2.2.2.2.2.1, (nand32 (rcalls s).1 (F39 (s.2.1, s.2.2.1)).1, nand32 (rcalls s).2 (F39 (s.2.1, s.2.2.1)).2), nand32 (rcar s) (shl32 1 s.2.1)) := by
  unfold srv; rw [h]; rfl
theorem nand_off {x y : Int} (hx : W x) (hy : W y) {i : Nat} (hi : i < 32) (h : bit y i = true) : bit (nand32 x y) i = false := by
  rw [bit_nand hx.1 hy.1 i hi, h]; simp
theorem srv_bits (s : RelT) {n : Nat} (h : RS n s) (i : Nat) : (bit (rcalls (srv s)).1 i = true → bit (rcalls s).1 i = true) ∧ (bit (rcalls (srv s)).2 i = true → bit (rcalls s).2 i = true) ∧ (bit (rcar (srv s)) i = true → bit (rcar s) i = true) := by
  unfold srv
  cases h3 : (s.1 == 3) with
  | false => exact ⟨id, id, id⟩
  | true =>
    have hw := one_W s.2.1 s.2.2.1
    exact ⟨fun e => nand_sub h.wu hw.1 i e, fun e => nand_sub h.wd hw.2 i e, fun e => nand_sub h.wc (W_wrap _) i e⟩
theorem up_clears {n g : Nat} (hn : n ≤ 32) (hn2 : 2 ≤ n) (hg : g + 1 < n) : Clears (upK n g hn hn2 hg) := by
  intro x h hs
  rw [shown_srv] at hs
  obtain ⟨a, f, d, b, c, e1, e2⟩ := hs
  have e1 : f = g := e1
  have e2 : d = 1 := e2
  subst e1 e2
  show ¬ bit (rcalls (srv x)).1 f = true
  rw [srv_st a]
  show ¬ bit (nand32 (rcalls x).1 (F39 (x.2.1, x.2.2.1)).1) f = true
  rw [b, c, nand_off h.wu (one_W _ _).1 (by omega) (by
    rw [one_val f (by omega)]
    show bit (shl32 1 (f : Int)) f = true
    rw [bit_one f f (by omega)]; simp)]
  simp
theorem dn_clears {n g : Nat} (hn : n ≤ 32) (hn2 : 2 ≤ n) (hg : 0 < g ∧ g < n) : Clears (dnK n g hn hn2 hg) := by
  intro x h hs
  rw [shown_srv] at hs
  obtain ⟨a, f, d, b, c, e1, e2⟩ := hs
  have e1 : f = g := e1
  have e2 : d = 2 := e2
  subst e1 e2
  show ¬ bit (rcalls (srv x)).2 f = true
  rw [srv_st a]
  show ¬ bit (nand32 (rcalls x).2 (F39 (x.2.1, x.2.2.1)).2) f = true
  rw [b, c, nand_off h.wd (one_W _ _).2 (by omega) (by
    rw [one_val f (by omega)]
    show bit (shl32 1 (f : Int)) f = true
    rw [bit_one f f (by omega)]; simp)]
  simp
theorem car_clears {n g : Nat} (hn : n ≤ 32) (hn2 : 2 ≤ n) (hg : g < n) : Clears (carK n g hn hn2 hg) := by
  intro x h hs
  rw [shown_srv] at hs
  obtain ⟨a, f, d, b, c, e1⟩ := hs
  have e1 : f = g := e1
  subst e1
  show ¬ bit (rcar (srv x)) f = true
  rw [srv_st a]
  show ¬ bit (nand32 (rcar x) (shl32 1 x.2.1)) f = true
  rw [b, nand_off h.wc (W_wrap _) (by omega) (by rw [bit_one f f (by omega)]; simp)]
  simp
theorem up_back {n g : Nat} (hn : n ≤ 32) (hn2 : 2 ≤ n) (hg : g + 1 < n) : Back (upK n g hn hn2 hg) := by
  intro s x h hx e1 e2 hp
  have hp : bit (rcalls x).1 g = true := (srv_bits x hx g).1 hp
  rw [e1] at hp
  rw [bit_mU hn hn2 h.wu W.zero, bit_zero, Bool.false_and, Bool.or_false] at hp
  exact hp
theorem dn_back {n g : Nat} (hn : n ≤ 32) (hn2 : 2 ≤ n) (hg : 0 < g ∧ g < n) : Back (dnK n g hn hn2 hg) := by
  intro s x h hx e1 e2 hp
  have hp : bit (rcalls x).2 g = true := (srv_bits x hx g).2.1 hp
  rw [e1] at hp
  rw [bit_mD hn hn2 h.wd W.zero, bit_zero, Bool.false_and, Bool.or_false] at hp
  exact hp
theorem car_back {n g : Nat} (hn : n ≤ 32) (hn2 : 2 ≤ n) (hg : g < n) : Back (carK n g hn hn2 hg) := by
  intro s x h hx e1 e2 hp
  have hp : bit (rcar x) g = true := (srv_bits x hx g).2.2 hp
  rw [e2] at hp
  rw [bit_mC hn h.wc W.zero, bit_zero, Bool.false_and, Bool.or_false] at hp
  exact hp
/-- A kind of call behind ticks in which nothing comes. -/
structure Lone {n : Nat} (k : Kind n) (cfg : CarT) (i : Int) (s : RelT) : Prop where
  cl : Shown k s → ¬ presOf k s
  vs : presOf k s → VS k cfg s (vmax n cfg + 1 - i)
theorem lone_step {b : BldT} {n : Nat} (k : Kind n) (hk : Keeps k) (hc : Clears k) (hbk : Back k) {i : Int} {s : RelT} (hB : IsB b) (hl : b.cars.length ≤ maxLen) (hn : b.1 = n) (h1 : 0 < (b.2.2.2.2.2.2.2.length : Int)) (h : RS n s) (ht : TB (nthT b.2.2.2.2.2.2.2 0) s)
    (hh : i = 0 ∨ Lone k (nthT b.2.2.2.2.2.2.2 0) i s) : Lone k (nthT b.2.2.2.2.2.2.2 0) (i + 1) (F17 (b, 0, s, (0, 0), 0)) := by
  have hf := hB.fl
  have e := step_form (0, 0) 0 hB hl hn (by decide) h1 h
  have hr := nxt_RS (inj := (0, 0)) (press := 0) hB hn (by decide) h1 h W.zero W.zero W.zero
  have es := nxt_sets b 0 n s (0, 0) 0
  have clr : Shown k (F17 (b, 0, s, (0, 0), 0)) → ¬ presOf k (F17 (b, 0, s, (0, 0), 0)) := by
    rw [e]; exact hc _ hr
  have bk : presOf k (F17 (b, 0, s, (0, 0), 0)) → presOf k s := by
    rw [e]
    exact hbk s _ h hr (congrArg Prod.fst es) (congrArg Prod.snd es)
  refine ⟨clr, fun hp => ?_⟩
  have hp0 := bk hp
  have hns : ¬ Shown k (F17 (b, 0, s, (0, 0), 0)) := fun x => clr x hp
  have hm := k.more _ _ _ _ _ _ h.sets W.zero W.zero W.zero hp0
  obtain ⟨t1, t2, t3, t4⟩ := tick (v := vmax n (nthT b.2.2.2.2.2.2.2 0) + 1 - i) (inj := (0, 0)) (press := 0) k hk hB hl hn h1 h hm W.zero W.zero W.zero ht
  rcases hh with hh | hh
  · subst hh
    exact (init_VS k t1 (cfg_ok hB (by decide) h1) t2).mono (by unfold vmax; omega)
  · exact ((t4 (fun x => hh.cl x hp0) (hh.vs hp0)).resolve_left hns).mono (by omega)
structure Lones (n : Nat) (hn : n ≤ 32) (hn2 : 2 ≤ n) (cfg : CarT) (i : Int) (s : RelT) : Prop where
  up : ∀ (g : Nat) (hg : g + 1 < n), Lone (upK n g hn hn2 hg) cfg i s
  dn : ∀ (g : Nat) (hg : 0 < g ∧ g < n), Lone (dnK n g hn hn2 hg) cfg i s
  cr : ∀ (g : Nat) (hg : g < n), Lone (carK n g hn hn2 hg) cfg i s
def Empty (s : RelT) : Prop := (rcalls s).1 = 0 ∧ (rcalls s).2 = 0 ∧ rcar s = 0
theorem lones_empty {n : Nat} {hn : n ≤ 32} {hn2 : 2 ≤ n} {cfg : CarT} (hc : CfgOk cfg) {i : Int} {s : RelT} (h : RS n s) (hL : Lones n hn hn2 cfg i s) (hi : vmax n cfg < i) : Empty s := by
  have no : ∀ k : Kind n, Lone k cfg i s → ¬ presOf k s := fun k hk hp => by
    have := VV.pos hc.S.1 hc.T.1 hc.D.1 k.p0 (hk.vs hp)
    omega
  refine ⟨W.ext h.wu W.zero fun j hj => ?_, W.ext h.wd W.zero fun j hj => ?_, W.ext h.wc W.zero fun j hj => ?_⟩
  · rw [bit_zero]
    cases hb : bit (rcalls s).1 j with
    | false => rfl
    | true => exact absurd hb (no _ (hL.up j (h.ub j hb)))
  · rw [bit_zero]
    cases hb : bit (rcalls s).2 j with
    | false => rfl
    | true => exact absurd hb (no _ (hL.dn j (h.db j hb)))
  · rw [bit_zero]
    cases hb : bit (rcar s) j with
    | false => rfl
    | true => exact absurd hb (no _ (hL.cr j (h.cb j hb)))
end Go.Proofs.YtpbljgpdhllklaaDoor.Sp
end

section
/- RelayHolds: the law (own work). -/
namespace Go.Proofs.YtpbljgpdhllklaaDoor.Sp
open Go Sy
set_option linter.unusedVariables false
set_option linter.unusedSimpArgs false
set_option maxRecDepth 10000
set_option synthInstance.maxHeartbeats 400000
set_option synthInstance.maxSize 4096
theorem T0e : ∀ dir, dir < 3 → ∀ o, o < 8 → ∀ l : Bool, ch ((dir : Nat) : Int) ((o : Nat) : Int) false false false false false l = (0, 0, 0) ∧ chN ((dir : Nat) : Int) ((o : Nat) : Int) false false false false false l = (0, 0) := by decide +kernel
theorem cS_zero (n : Nat) (hn : n ≤ 32) (i : Nat) : bit (cS (cA n 0) (cU n 0) (cD n 0)) i = false := by
  rcases Nat.lt_or_ge i 32 with hi | hi
  · rw [bit_cS (W_and _ _) (W_and _ _) (W_and _ _) i hi, bit_cA hn W.zero, bit_cU hn W.zero, bit_cD hn W.zero, bit_zero]; rfl
  · exact bit_hi (W_cS _ _ _) hi
theorem dec_none {n f : Nat} {dir o : Int} (h : Ok n f dir o 0 0 0) (cfg : CarT) (st dr tm : Int) : F67 ((n : Int), cfg, st, (f : Int), dir, o, dr, tm, (0, 0), 0) = (0, (f : Int), 0, 0, 2, 0, (0, 0), 0) := by
  obtain ⟨ab, be, s, e⟩ := dec_form h cfg st dr tm
  rw [e]
  have hn := h.n32
  have h1 : decide (0 < ab) = false := by
    cases hb : decide (0 < ab) with
    | false => rfl
    | true => obtain ⟨i, _, hi⟩ := s.up_iff.1 hb; rw [cS_zero n hn] at hi; cases hi
  have h2 : decide (0 < be) = false := by
    cases hb : decide (0 < be) with
    | false => rfl
    | true => obtain ⟨i, _, hi⟩ := s.down_iff.1 hb; rw [cS_zero n hn] at hi; cases hi
  obtain ⟨dir', rfl⟩ := Int.eq_ofNat_of_zero_le h.dir.1
  obtain ⟨o', rfl⟩ := Int.eq_ofNat_of_zero_le h.o.1
  have t := T0e dir' (by have := h.dir; omega) o' (by have := h.o; omega) (decide (be ≥ ab))
  rw [h1, h2, bit_cA hn W.zero, bit_cU hn W.zero, bit_cD hn W.zero, bit_zero, Bool.false_and, Bool.false_and, Bool.false_and, t.1, t.2]
  rfl
def EB (cfg : CarT) (s : RelT) (v : Int) : Prop := (s.1 = 0 ∧ 1 ≤ v) ∨ (s.1 = 4 ∧ 1 ≤ s.2.2.2.2.2.1 ∧ s.2.2.2.2.2.1 ≤ v) ∨ (s.1 = 3 ∧ 1 ≤ s.2.2.2.2.2.1 ∧ s.2.2.2.2.2.1 + cfg.2.2.2.2.2.1 ≤ v) ∨ (s.1 = 2 ∧ 1 ≤ s.2.2.2.2.2.1 ∧ s.2.2.2.2.2.1 + cfg.2.2.2.2.2.2.1 + cfg.2.2.2.2.2.1 ≤ v) ∨ (s.1 = 1 ∧ 1 ≤ s.2.2.2.2.2.1 ∧ s.2.2.2.2.2.1 ≤ v)
def Canon (s : RelT) : Prop := s.1 = 0 ∧ s.2.2.1 = 0
theorem EB.pos {cfg : CarT} (hc : CfgOk cfg) {s : RelT} {v : Int} (h : EB cfg s v) : 1 ≤ v := by
  have a2 := hc.T.1; have a3 := hc.D.1
  rcases h with h | h | h | h | h <;> omega
theorem EB_init {n : Nat} {cfg : CarT} (hc : CfgOk cfg) {s : RelT} (h : RS n s) (ht : TB cfg s) : EB cfg s (2 * cfg.2.2.2.2.2.1 + cfg.2.2.2.2.2.2.1 + cfg.2.2.2.2.1) := by
  have a1 := hc.S.1; have a2 := hc.T.1; have a3 := hc.D.1
  have h1 := h.st; have h6 := h.tm; have h7 := h.tz
  obtain ⟨t1, t2, t3, t4⟩ := ht
  have h5 : s.1 = 0 ∨ s.1 = 1 ∨ s.1 = 2 ∨ s.1 = 3 ∨ s.1 = 4 := by omega
  unfold EB
  rcases h5 with e | e | e | e | e
  · left; omega
  · have := t1 e; omega
  · have := t2 e; omega
  · have := t3 e; omega
  · have := t4 e; omega
theorem zero_sets (n : Nat) (hn : n ≤ 32) (hn2 : 2 ≤ n) : mU n 0 0 = 0 ∧ mD n 0 0 = 0 ∧ mC n 0 0 = 0 :=
  ⟨W.ext (W_or _ _) W.zero fun i _ => by rw [bit_mU hn hn2 W.zero W.zero, bit_zero]; rfl, W.ext (W_or _ _) W.zero fun i _ => by rw [bit_mD hn hn2 W.zero W.zero, bit_zero]; rfl, W.ext (W_or _ _) W.zero fun i _ => by rw [bit_mC hn W.zero W.zero, bit_zero]; rfl⟩
theorem canon_srv {s : RelT} (h : Canon s) : Canon (srv s) := by
  unfold srv; cases (s.1 == 3) <;> exact h
theorem EB_srv {cfg : CarT} {s : RelT} {v : Int} (h : EB cfg s v) : EB cfg (srv s) v := by
  unfold srv; cases (s.1 == 3) <;> exact h
theorem idle_step {b : BldT} {n : Nat} {s : RelT} {v : Int} (hB : IsB b) (hl : b.cars.length ≤ maxLen) (hn : b.1 = n) (hp : 0 < (b.2.2.2.2.2.2.2.length : Int)) (h : RS n s) (he : Empty s) (hv : Canon s ∨ EB (nthT b.2.2.2.2.2.2.2 0) s v) :
    Canon (F17 (b, 0, s, (0, 0), 0)) ∨ EB (nthT b.2.2.2.2.2.2.2 0) (F17 (b, 0, s, (0, 0), 0)) (v - 1) := by
  rw [step_form (0, 0) 0 hB hl hn (by decide) hp h]
  have hf := hB.fl
  have hn32 : n ≤ 32 := by omega
  have hn2 : 2 ≤ n := by omega
  have hc := cfg_ok hB (car := 0) (by decide) hp
  have a1 := hc.S.1; have a2 := hc.T.1; have a3 := hc.D.1
  have key : Canon (nxt b 0 n s (0, 0) 0) ∨ EB (nthT b.2.2.2.2.2.2.2 0) (nxt b 0 n s (0, 0) 0) (v - 1) := by
    have h2 := h.fl; have h3 := h.dir; have h4 := h.op; have h8 := h.mv; have h7 := h.tz; have h6 := h.tm; have h1 := h.st
    obtain ⟨st, fl, dir, op, dr, tm, ⟨u, d⟩, c⟩ := s
    obtain ⟨e1, e2, e3⟩ := he
    have e1 : u = 0 := e1
    have e2 : d = 0 := e2
    have e3 : c = 0 := e3
    subst e1 e2 e3
    have hz := zero_sets n hn32 hn2
    unfold nxt
    simp only at h1 h2 h3 h4 h6 h7 h8 ⊢
    rw [hz.1, hz.2.1, hz.2.2]
    cases hct : decide (tm > 1) with
    | true =>
      rw [decide_eq_true_eq] at hct
      rw [cond_true]
      rcases hv with hv | hv
      · have hv1 : st = 0 := hv.1
        omega
      · right
        unfold EB at hv ⊢
        simp only at hv ⊢
        omega
    | false =>
      rw [decide_eq_false_iff_not] at hct
      rw [cond_false, hn]
      obtain ⟨f, rfl⟩ := Int.eq_ofNat_of_zero_le h2.1
      have ok : ∀ (g : Nat) (e p : Int), g < n → 0 ≤ e ∧ e ≤ 2 → 0 ≤ p ∧ p ≤ 7 → Ok n g e p 0 0 0 := fun g e p hg h1 h2 => ⟨hn2, hn32, hg, h1, h2, W.zero, W.zero, W.zero⟩
      have h5 : st = 0 ∨ st = 1 ∨ st = 2 ∨ st = 3 ∨ st = 4 := by omega
      rcases h5 with rfl | rfl | rfl | rfl | rfl
      · left
        show Canon (F67 ((n : Int), nthT b.2.2.2.2.2.2.2 0, 0, (f : Int), dir, op, dr, tm, (0, 0), 0))
        rw [dec_none (ok f dir op (by omega) h3 h4)]
        exact ⟨rfl, rfl⟩
      · left
        rcases h8 rfl with ⟨rfl, h9⟩ | ⟨rfl, h9⟩
        · have ea : F47 (1, (f : Int), 1, op, dr, tm, (0, 0), 0) = ((f + 1 : Nat) : Int) := by
            unfold F47
            show IntKind.i64.wrap ((f : Int) + 1) = _
            rw [wrap_i64_of (by omega) (by omega)]; omega
          show Canon (F67 ((n : Int), nthT b.2.2.2.2.2.2.2 0, 1, F47 (1, (f : Int), 1, op, dr, tm, (0, 0), 0), 1, 0, dr, tm, (0, 0), 0))
          rw [ea, dec_none (ok (f + 1) 1 0 (by omega) (by decide) (by decide))]
          exact ⟨rfl, rfl⟩
        · have ea : F47 (1, (f : Int), 2, op, dr, tm, (0, 0), 0) = ((f - 1 : Nat) : Int) := by
            unfold F47
            show IntKind.i64.wrap ((f : Int) - 1) = _
            rw [wrap_i64_of (by omega) (by omega)]; omega
          show Canon (F67 ((n : Int), nthT b.2.2.2.2.2.2.2 0, 1, F47 (1, (f : Int), 2, op, dr, tm, (0, 0), 0), 2, 0, dr, tm, (0, 0), 0))
          rw [ea, dec_none (ok (f - 1) 2 0 (by omega) (by decide) (by decide))]
          exact ⟨rfl, rfl⟩
      · right
        rcases hv with hv | hv
        · exact absurd hv.1 (by simp)
        · rcases hv with ⟨e, _⟩ | ⟨e, _⟩ | ⟨e, _⟩ | ⟨_, e1, e2⟩ | ⟨e, _⟩
          · have e : (2 : Int) = 0 := e
            omega
          · have e : (2 : Int) = 4 := e
            omega
          · have e : (2 : Int) = 3 := e
            omega
          · have e2 : tm + (nthT b.2.2.2.2.2.2.2 0).2.2.2.2.2.2.1 + (nthT b.2.2.2.2.2.2.2 0).2.2.2.2.2.1 ≤ v := e2
            have e1 : 1 ≤ tm := e1
            exact Or.inr (Or.inr (Or.inl ⟨rfl, a3, by show (nthT b.2.2.2.2.2.2.2 0).2.2.2.2.2.2.1 + (nthT b.2.2.2.2.2.2.2 0).2.2.2.2.2.1 ≤ v - 1; omega⟩))
          · have e : (2 : Int) = 1 := e
            omega
      · right
        rcases hv with hv | hv
        · exact absurd hv.1 (by simp)
        · rcases hv with ⟨e, _⟩ | ⟨e, _⟩ | ⟨_, e1, e2⟩ | ⟨e, _⟩ | ⟨e, _⟩
          · have e : (3 : Int) = 0 := e
            omega
          · have e : (3 : Int) = 4 := e
            omega
          · have e2 : tm + (nthT b.2.2.2.2.2.2.2 0).2.2.2.2.2.1 ≤ v := e2
            have e1 : 1 ≤ tm := e1
            exact Or.inr (Or.inl ⟨rfl, a2, by show (nthT b.2.2.2.2.2.2.2 0).2.2.2.2.2.1 ≤ v - 1; omega⟩)
          · have e : (3 : Int) = 2 := e
            omega
          · have e : (3 : Int) = 1 := e
            omega
      · left
        show Canon (F67 ((n : Int), nthT b.2.2.2.2.2.2.2 0, 4, (f : Int), dir, op, dr, tm, (0, 0), 0))
        rw [dec_none (ok f dir op (by omega) h3 h4)]
        exact ⟨rfl, rfl⟩
  rcases key with key | key
  · exact Or.inl (canon_srv key)
  · exact Or.inr (EB_srv key)
end Go.Proofs.YtpbljgpdhllklaaDoor.Sp
end

section
/- RelayHolds: the law, joined (own work). -/
namespace Go.Proofs.YtpbljgpdhllklaaDoor.Sp
open Go Sy
set_option linter.unusedVariables false
set_option linter.unusedSimpArgs false
set_option maxRecDepth 10000
theorem law_small {m : Int × Int} (h : (0 ≤ m.1 ∧ m.1 ≤ 255) ∧ 0 ≤ m.2 ∧ m.2 ≤ 255) : (nthT (F11 m).2.2.2.2.2.2.2 0).2.2.2.2.1 ≤ 3 ∧ (nthT (F11 m).2.2.2.2.2.2.2 0).2.2.2.2.2.1 ≤ 3 ∧ (nthT (F11 m).2.2.2.2.2.2.2 0).2.2.2.2.2.2.1 ≤ 3 := by
  rw [small_eq h]
  have hl : 0 < ((List.range (1 + m.1 / 5 % 3).toNat).map (smallCar (2 + m.1 % 5) m.2)).length := by rw [List.length_map, List.length_range]; omega
  have e : nthT (smallB (2 + m.1 % 5) m.2 (1 + m.1 / 5 % 3).toNat).2.2.2.2.2.2.2 0 = smallCar (2 + m.1 % 5) m.2 0 := by
    show nthT ((List.range (1 + m.1 / 5 % 3).toNat).map (smallCar (2 + m.1 % 5) m.2)) ((0 : Nat) : Int) = _
    rw [nthT_nat _ _ hl, List.getElem_map, List.getElem_range]
  rw [e]
  show 1 + m.2 % 3 ≤ 3 ∧ 1 + m.2 / 3 % 3 ≤ 3 ∧ 1 + m.2 / 9 % 3 ≤ 3
  omega
theorem both_one {n g : Nat} {s : RelT} (h : RS n s) (hn : n ≤ 32) (hg : g + 1 < n) (hp : bit (rcalls s).1 g = true) : F25 (rcalls s, F39 ((g : Int), 1)) = F39 ((g : Int), 1) := by
  rw [one_val g (by omega)]
  show (and32 (rcalls s).1 (shl32 1 (g : Int)), and32 (rcalls s).2 0) = (shl32 1 (g : Int), 0)
  rw [and_shl h.wu g (by omega), hp, and_zero h.wd]; rfl
theorem vmax_small {n : Nat} (hn : n ≤ 6) {cfg : CarT} (hc : CfgOk cfg) (h : cfg.2.2.2.2.1 ≤ 3 ∧ cfg.2.2.2.2.2.1 ≤ 3 ∧ cfg.2.2.2.2.2.2.1 ≤ 3) : 0 ≤ vmax n cfg ∧ vmax n cfg ≤ 600 := by
  have a1 := hc.S.1; have a2 := hc.T.1; have a3 := hc.D.1
  unfold vmax
  have m1 : 0 ≤ 3 * (n : Int) * (3 * (2 * cfg.2.2.2.2.2.1 + cfg.2.2.2.2.2.2.1) + cfg.2.2.2.2.1) := Int.mul_nonneg (by omega) (by omega)
  have m2 : 3 * (n : Int) * (3 * (2 * cfg.2.2.2.2.2.1 + cfg.2.2.2.2.2.2.1) + cfg.2.2.2.2.1) ≤ 18 * 30 := Int.mul_le_mul (by omega) (by omega) (by omega) (by decide)
  omega
/-- The state at the head of the last loop. -/
structure Rest (n : Nat) (hn : n ≤ 32) (hn2 : 2 ≤ n) (cfg : CarT) (i : Int) (s : RelT) : Prop where
  i0 : 0 ≤ i ∧ i ≤ 3000
  rs : RS n s
  tb : TB cfg s
  lo : i = 0 ∨ Lones n hn hn2 cfg i s
  fin : vmax n cfg + 1 ≤ i → Canon s ∨ EB cfg s (2 * cfg.2.2.2.2.2.1 + cfg.2.2.2.2.2.2.1 + cfg.2.2.2.2.1 - (i - (vmax n cfg + 1)))
theorem rest_step {b : BldT} {n : Nat} {hn32 : n ≤ 32} {hn2 : 2 ≤ n} {i : Int} {s : RelT} (hB : IsB b) (hl : b.cars.length ≤ maxLen) (hn : b.1 = n) (hp : 0 < (b.2.2.2.2.2.2.2.length : Int)) (hv0 : 0 ≤ vmax n (nthT b.2.2.2.2.2.2.2 0)) (hi : i < 3000)
    (h : Rest n hn32 hn2 (nthT b.2.2.2.2.2.2.2 0) i s) : Rest n hn32 hn2 (nthT b.2.2.2.2.2.2.2 0) (i + 1) (F17 (b, 0, s, (0, 0), 0)) := by
  have hc := cfg_ok hB (car := 0) (by decide) hp
  have hr := step_RS (inj := (0, 0)) (press := 0) hB hl hn (by decide) hp h.rs W.zero W.zero W.zero
  have ht : TB (nthT b.2.2.2.2.2.2.2 0) (F17 (b, 0, s, (0, 0), 0)) := by
    rw [step_form (0, 0) 0 hB hl hn (by decide) hp h.rs]
    exact TB_srv (TB_nxt h.tb)
  have hL : Lones n hn32 hn2 (nthT b.2.2.2.2.2.2.2 0) (i + 1) (F17 (b, 0, s, (0, 0), 0)) :=
    ⟨fun g hg => lone_step _ (up_keeps hn32 hn2 hg) (up_clears hn32 hn2 hg) (up_back hn32 hn2 hg) hB hl hn hp h.rs h.tb (h.lo.imp id fun x => x.up g hg),
     fun g hg => lone_step _ (dn_keeps hn32 hn2 hg) (dn_clears hn32 hn2 hg) (dn_back hn32 hn2 hg) hB hl hn hp h.rs h.tb (h.lo.imp id fun x => x.dn g hg),
     fun g hg => lone_step _ (car_keeps hn32 hn2 hg) (car_clears hn32 hn2 hg) (car_back hn32 hn2 hg) hB hl hn hp h.rs h.tb (h.lo.imp id fun x => x.cr g hg)⟩
  have i0 := h.i0
  refine ⟨by omega, hr, ht, Or.inr hL, fun hi1 => ?_⟩
  by_cases hi2 : vmax n (nthT b.2.2.2.2.2.2.2 0) + 1 ≤ i
  · have he : Empty s := by
      rcases h.lo with h0 | h0
      · omega
      · exact lones_empty hc h.rs h0 (by omega)
    rcases idle_step hB hl hn hp h.rs he (h.fin hi2) with x | x
    · exact Or.inl x
    · refine Or.inr ?_
      rwa [show 2 * (nthT b.2.2.2.2.2.2.2 0).2.2.2.2.2.1 + (nthT b.2.2.2.2.2.2.2 0).2.2.2.2.2.2.1 + (nthT b.2.2.2.2.2.2.2 0).2.2.2.2.1 - (i + 1 - (vmax n (nthT b.2.2.2.2.2.2.2 0) + 1)) = 2 * (nthT b.2.2.2.2.2.2.2 0).2.2.2.2.2.1 + (nthT b.2.2.2.2.2.2.2 0).2.2.2.2.2.2.1 + (nthT b.2.2.2.2.2.2.2 0).2.2.2.2.1 - (i - (vmax n (nthT b.2.2.2.2.2.2.2 0) + 1)) - 1 by omega]
  · right
    have : i + 1 - (vmax n (nthT b.2.2.2.2.2.2.2 0) + 1) = 0 := by omega
    rw [this, Int.sub_zero]
    exact EB_init hc hr ht
theorem rest_end {b : BldT} {n : Nat} {hn32 : n ≤ 32} {hn2 : 2 ≤ n} (hn6 : n ≤ 6) (hB : IsB b) (hp : 0 < (b.2.2.2.2.2.2.2.length : Int)) (hsm : (nthT b.2.2.2.2.2.2.2 0).2.2.2.2.1 ≤ 3 ∧ (nthT b.2.2.2.2.2.2.2 0).2.2.2.2.2.1 ≤ 3 ∧ (nthT b.2.2.2.2.2.2.2 0).2.2.2.2.2.2.1 ≤ 3) {i : Int} {s : RelT} (hi : 3000 ≤ i)
    (h : Rest n hn32 hn2 (nthT b.2.2.2.2.2.2.2 0) i s) : s.1 = 0 ∧ s.2.2.1 = 0 ∧ s.2.2.2.2.1 = 2 ∧ s.2.2.2.2.2.1 = 0 ∧ Empty s := by
  have hc := cfg_ok hB (car := 0) (by decide) hp
  have hv := vmax_small hn6 hc hsm
  have he : Empty s := by
    rcases h.lo with h0 | h0
    · omega
    · exact lones_empty hc h.rs h0 (by omega)
  rcases h.fin (by omega) with x | x
  · refine ⟨x.1, x.2, ?_, h.rs.tz.2 x.1, he⟩
    rw [h.rs.dr, x.1]; rfl
  · have := x.pos hc
    omega
theorem hold6 {b : BldT} {n g : Nat} (hn6 : n ≤ 6) (hn32 : n ≤ 32) (hn2 : 2 ≤ n) (hg : g + 1 < n) (hB : IsB b) (hl : b.cars.length ≤ maxLen) (hn : b.1 = n) (hp : 0 < (b.2.2.2.2.2.2.2.length : Int)) {s1 : RelT} (r1 : RS n s1) (r2 : TB (nthT b.2.2.2.2.2.2.2 0) s1) (r3 : Shown (upK n g hn32 hn2 hg) s1 ∨ presOf (upK n g hn32 hn2 hg) s1) :
    R7_6 (b, F39 ((g : Int), 1)) (0, s1) = none ∧ RS n (G7_6 (b, F39 ((g : Int), 1)) (0, s1)).2 ∧ TB (nthT b.2.2.2.2.2.2.2 0) (G7_6 (b, F39 ((g : Int), 1)) (0, s1)).2 := by
  have hk := up_keeps hn32 hn2 hg
  unfold R7_6 G7_6
  refine loop_spec (step := st7_6) (k := (b, F39 ((g : Int), 1))) (fun x => 0 ≤ x.1 ∧ RS n x.2 ∧ TB (nthT b.2.2.2.2.2.2.2 0) x.2 ∧ (Shown (upK n g hn32 hn2 hg) x.2 ∨ bit (rcalls x.2).1 g = true)) (mu7_6 (b, F39 ((g : Int), 1))) (fun o y => o = none ∧ RS n y.2 ∧ TB (nthT b.2.2.2.2.2.2.2 0) y.2) (fun x hx => ?_) _ _ ⟨Int.le_refl _, r1, r2, r3⟩ (Nat.lt_succ_self _)
  unfold st7_6
  simp only
  cases hc' : decide (x.1 < 3000) with
  | false => rw [cond_false]; exact ⟨trivial, hx.2.1, hx.2.2.1⟩
  | true =>
    rw [decide_eq_true_eq] at hc'
    rw [cond_true, hn]
    have hx0 := hx.1
    have hsh := up_shown (hn := hn32) (hn2 := hn2) (hg := hg) hn6 hx.2.1
    cases hse : seen n x.2 (F39 ((g : Int), 1)) with
    | true =>
      have hse' := hse
      unfold seen at hse'
      rw [hse', Bool.not_true, Bool.false_and, cond_false, cond_true]
      exact ⟨trivial, hx.2.1, hx.2.2.1⟩
    | false =>
      have hse' := hse
      unfold seen at hse'
      have hns : ¬ Shown (upK n g hn32 hn2 hg) x.2 := fun e => by rw [hsh.2 e] at hse; cases hse
      have hp1 : bit (rcalls x.2).1 g = true := hx.2.2.2.resolve_left hns
      have hb := both_one hx.2.1 hn32 hg hp1
      have hb' : F25 (x.2.2.2.2.2.2.2.1, F39 ((g : Int), 1)) = F39 ((g : Int), 1) := hb
      rw [hse', hb', cond_false]
      simp only [beq_self_eq_true, Bool.and_self, Bool.not_true, Bool.and_false, cond_false]
      have t := tick (v := 0) (inj := (0, 0)) (press := 0) (upK n g hn32 hn2 hg) hk hB hl hn hp hx.2.1 ((upK n g hn32 hn2 hg).more _ _ _ _ _ _ hx.2.1.sets W.zero W.zero W.zero hp1) W.zero W.zero W.zero hx.2.2.1
      rw [wrap_i64_of (x := x.1 + 1) (by omega) (by omega)]
      refine ⟨⟨by omega, t.1, t.2.1, t.2.2.1⟩, ?_⟩
      unfold mu7_6
      simp only; omega
theorem hold14 {b : BldT} {n : Nat} (hn6 : n ≤ 6) (hn32 : n ≤ 32) (hn2 : 2 ≤ n) (hB : IsB b) (hl : b.cars.length ≤ maxLen) (hn : b.1 = n) (hp : 0 < (b.2.2.2.2.2.2.2.length : Int)) (hsm : (nthT b.2.2.2.2.2.2.2 0).2.2.2.2.1 ≤ 3 ∧ (nthT b.2.2.2.2.2.2.2 0).2.2.2.2.2.1 ≤ 3 ∧ (nthT b.2.2.2.2.2.2.2 0).2.2.2.2.2.2.1 ≤ 3) {s2 : RelT} (r1 : RS n s2) (r2 : TB (nthT b.2.2.2.2.2.2.2 0) s2) :
    (G7_14 b (0, s2)).2.1 = 0 ∧ (G7_14 b (0, s2)).2.2.2.1 = 0 ∧ (G7_14 b (0, s2)).2.2.2.2.2.1 = 2 ∧ (G7_14 b (0, s2)).2.2.2.2.2.2.1 = 0 ∧ Empty (G7_14 b (0, s2)).2 := by
  have hc := cfg_ok hB (car := 0) (by decide) hp
  have hv := vmax_small hn6 hc hsm
  unfold G7_14
  refine loop_spec (ρ := Bool) (step := st7_14) (k := b) (fun x => Rest n hn32 hn2 (nthT b.2.2.2.2.2.2.2 0) x.1 x.2) (mu7_14 b) (fun _ y => y.2.1 = 0 ∧ y.2.2.2.1 = 0 ∧ y.2.2.2.2.2.1 = 2 ∧ y.2.2.2.2.2.2.1 = 0 ∧ Empty y.2) (fun x hx => ?_) _ _ ⟨⟨Int.le_refl _, by show (0 : Int) ≤ 3000; decide⟩, r1, r2, Or.inl rfl, fun e => by have e : vmax n (nthT b.2.2.2.2.2.2.2 0) + 1 ≤ 0 := e; omega⟩ (Nat.lt_succ_self _)
  unfold st7_14
  have hx0 := hx.i0
  cases hc' : decide (x.1 < 3000) with
  | false =>
    rw [cond_false]
    rw [decide_eq_false_iff_not] at hc'
    exact rest_end hn6 hB hp hsm (by omega) hx
  | true =>
    rw [decide_eq_true_eq] at hc'
    rw [cond_true]
    simp only
    rw [wrap_i64_of (x := x.1 + 1) (by omega) (by omega)]
    refine ⟨rest_step hB hl hn hp hv.1 hc' hx, ?_⟩
    unfold mu7_14
    simp only; omega
theorem f7_of (x : (Int × Int × Int) × List Int) (y : Int × RelT) (hR : (R7_6 ((F11 (x.1.1, x.1.2.1)), (F23 ((Int.tmod (IntKind.i64.wrap x.1.2.2) (IntKind.i64.wrap ((F11 (x.1.1, x.1.2.1)).1 - (1 : Int)))), (1 : Int)))) ((0 : Int), (F17 ((F11 (x.1.1, x.1.2.1)), (0 : Int), (F12 ((F11 (x.1.1, x.1.2.1)), (0 : Int), x.2)), (F23 ((Int.tmod (IntKind.i64.wrap x.1.2.2) (IntKind.i64.wrap ((F11 (x.1.1, x.1.2.1)).1 - (1 : Int)))), (1 : Int))), (0 : Int))))) = none) (hG : (G7_14 (F11 (x.1.1, x.1.2.1)) ((0 : Int), (K7_1 x).2)) = y) (k1 : y.2.1 = 0) (k2 : y.2.2.2.1 = 0) (k3 : y.2.2.2.2.2.1 = 2) (k4 : y.2.2.2.2.2.2.1 = 0) (k5 : y.2.2.2.2.2.2.2.1.1 = 0) (k6 : y.2.2.2.2.2.2.2.1.2 = 0) (k7 : y.2.2.2.2.2.2.2.2 = 0) : F7 x = true := by
  delta F7
  rw [hR, hG, k1, k2, k3, k4, k5, k6, k7, rsane_true]
  simp only [optR, beq_self_eq_true, Bool.and_self]
theorem holds_true (n0 n1 n2 : Int) (l : List Int) (u0 : 0 ≤ n0 ∧ n0 ≤ 255) (u1 : 0 ≤ n1 ∧ n1 ≤ 255) (u2 : 0 ≤ n2 ∧ n2 ≤ 255) : F7 ((n0, n1, n2), l) = true := by
  have hm : (0 ≤ (n0, n1).1 ∧ (n0, n1).1 ≤ 255) ∧ 0 ≤ (n0, n1).2 ∧ (n0, n1).2 ≤ 255 := ⟨u0, u1⟩
  obtain ⟨n, hn, hn2, hn6, hB, hl, hp⟩ := law_b (m := (n0, n1)) hm
  have hsm := law_small (m := (n0, n1)) hm
  have hs := state_TB l hB hl hn hp
  generalize hbb : F11 (n0, n1) = b at *
  generalize hss : F12 (b, 0, l) = s0 at *
  have ew : IntKind.i64.wrap n2 = n2 := wrap_i64_of (Int.le_trans (by decide) u2.1) (Int.le_trans u2.2 (by decide))
  have ew1 : IntKind.i64.wrap (b.1 - 1) = b.1 - 1 := wrap_i64_of (by omega) (by omega)
  obtain ⟨g, eg, hg⟩ : ∃ g : Nat, Int.tmod n2 (b.1 - 1) = (g : Int) ∧ g + 1 < n := by
    rw [hn, Int.tmod_eq_emod_of_nonneg u2.1]
    have a1 := Int.emod_nonneg n2 (show (n : Int) - 1 ≠ 0 by omega)
    have a2 := Int.emod_lt_of_pos n2 (show 0 < (n : Int) - 1 by omega)
    exact ⟨(n2 % ((n : Int) - 1)).toNat, by omega, by omega⟩
  have hn32 : n ≤ 32 := by omega
  have hc := cfg_ok hB (car := 0) (by decide) hp
  have hv := vmax_small hn6 hc hsm
  have hk := up_keeps hn32 hn2 hg
  have hw := one_W (g : Int) 1
  have t0 := tick (v := 0) (inj := F39 ((g : Int), 1)) (press := 0) (upK n g hn32 hn2 hg) hk hB hl hn hp hs.1 (by
    show bit (mU n s0.2.2.2.2.2.2.1.1 (F39 ((g : Int), 1)).1) g = true
    rw [bit_mU hn32 hn2 hs.1.wu hw.1, one_val g (by omega)]
    have : bit (shl32 1 (g : Int)) g = true := by rw [bit_one g g (by omega)]; simp
    show (bit s0.2.2.2.2.2.2.1.1 g || (bit (shl32 1 (g : Int)) g && decide (g + 1 < n))) = true
    rw [this]; simp [hg]) hw.1 hw.2 W.zero hs.2
  have key6 := hold6 hn6 hn32 hn2 hg hB hl hn hp t0.1 t0.2.1 t0.2.2.1
  have key14 := hold14 hn6 hn32 hn2 hB hl hn hp hsm key6.2.1 key6.2.2
  have eK : K7_1 ((n0, n1, n2), l) = G7_6 (b, F39 ((g : Int), 1)) (0, F17 (b, 0, s0, F39 ((g : Int), 1), 0)) := by
    unfold K7_1
    simp only
    rw [hbb, hss, ew, ew1, eg, rone_eq]
  refine f7_of ((n0, n1, n2), l) _ ?_ rfl ?_ ?_ ?_ ?_ ?_ ?_ ?_
  · rw [hbb, hss, show IntKind.i64.wrap (((n0, n1, n2), l) : (Int × Int × Int) × List Int).1.2.2 = n2 from ew, ew1, eg, rone_eq]
    clear key14
    generalize R7_6 = RR at *
    exact key6.1
  all_goals rw [eK, hbb]
  all_goals generalize G7_14 = GG at *
  · exact key14.1
  · exact key14.2.1
  · exact key14.2.2.1
  · exact key14.2.2.2.1
  · exact key14.2.2.2.2.1
  · exact key14.2.2.2.2.2.1
  · exact key14.2.2.2.2.2.2
theorem law_holds (x : ct7.p.den) (h : InR ct7.p x) : ct7.F x = true :=
  have k : F7 x = true := holds_true x.1.1 x.1.2.1 x.1.2.2 x.2 (u8_of h.1.1) (u8_of h.1.2.1) (u8_of h.1.2.2)
  k
end Go.Proofs.YtpbljgpdhllklaaDoor.Sp
end

section
/- RelayHolds: the call of the law returns true (written by own program mkwalk.py, out of the contract and the plain law). -/
namespace Go.Proofs.YtpbljgpdhllklaaDoor.Sy
open Go Go.RowKit
set_option linter.unusedVariables false
set_option linter.unusedSimpArgs false
set_option maxRecDepth 100000
theorem tr_T5 {w : World} (cs : List Value) (h : E_T5 cs) : ∃ x : ty5.den, TR w (fun _ _ => False) ty5 x cs ∧ InR ty5 x := by
  obtain ⟨a0, rfl, w0⟩ := h
  exact ⟨a0, tr_of ⟨rfl, trivial⟩, w0⟩
theorem pre_law (x : ct7.p.den) (h : InR ct7.p x) : ∀ q, ct7.pre = some q → q x := by
  intro q hq
  cases hq
  simp only [ct7, InR, Lit.wf, Bool.and_eq_true, decide_eq_true_eq] at h
  simp only [Sp.pre7]
  try simp only [show IntKind.u8.min = 0 from rfl, show IntKind.u8.max = 255 from rfl, show IntKind.u16.min = 0 from rfl, show IntKind.u16.max = 65535 from rfl, show IntKind.u32.min = 0 from rfl, show IntKind.u32.max = 4294967295 from rfl, show IntKind.u64.min = 0 from rfl, show IntKind.u64.max = 18446744073709551615 from rfl, show IntKind.i64.min = -9223372036854775808 from rfl, show IntKind.i64.max = 9223372036854775807 from rfl] at h
  repeat' (first | exact trivial | apply And.intro)
  all_goals first | omega | (intro v hv; first | exact h.2.2.2 v hv | exact h.2.2 v hv | exact h.2 v hv | exact h.1.2 v hv | exact h.2.1.2 v hv | exact h.2.2.1.2 v hv | exact h.2.2.2.2 v hv)
theorem walk_RelayHolds (a0_0 : Int) (a0_1 : Int) (a0_2 : Int) (a1_0 : Value) (w : World) (w0_0 : (Lit.int .u8 a0_0).wf = true) (w0_1 : (Lit.int .u8 a0_1).wf = true) (w0_2 : (Lit.int .u8 a0_2).wf = true) (w1_0 : IsSlice w 1 E_T5 a1_0) (hT : gdS.H w) :
    Calls Tryd.prog 7 #[.agg #[.int .u8 a0_0, .int .u8 a0_1, .int .u8 a0_2], a1_0] w fun e w' => e = .returned (.bool true) ∧ Below w.heap.size w w' := by
  obtain ⟨l1_0, t1_0, r1_0⟩ := slice_tr (e := ty5) rfl tr_T5 w1_0
  exact call_true ok7 ((a0_0, a0_1, a0_2), l1_0) w _ [.int .u8 a0_0, .int .u8 a0_1, .int .u8 a0_2, a1_0] hT (pre_law _ ⟨⟨w0_0, w0_1, w0_2⟩, r1_0⟩) ⟨[.int .u8 a0_0, .int .u8 a0_1, .int .u8 a0_2], _, rfl, rfl, rfl, ⟨_, rfl, rfl⟩⟩ (tr_of ⟨rfl, rfl, rfl, ⟨t1_0, trivial⟩, trivial⟩) (Sp.law_holds _ ⟨⟨w0_0, w0_1, w0_2⟩, r1_0⟩)
end Go.Proofs.YtpbljgpdhllklaaDoor.Sy
end

section
/- RelayHolds: for every input the call of the law returns true, and the arguments read behind the call as before. The walk stands in YtpbljgpdhllklaaDoorRelayHoldsWalk. -/
namespace Go.Proofs.YtpbljgpdhllklaaDoor.relayHolds
open Go.ChangeShapes Go.WideShapes Go.ChangeAt Go.RowKit
set_option linter.unusedVariables false

theorem own : ownKnob Tryd.prog.godebug = none := by kernel_rfl
theorem laidOut : laidOutB Tryd.prog = true := by kernel_rfl

theorem gTab : Tryd.prog.globalNamed "math/bits.deBruijn32tab" = some 0 := by kernel_rfl
theorem door_met (os : Os) (args : Array Value) : laidMetH Tryd.prog Rows.relayHoldsRow.laid ((World.doorLaid Tryd.prog 400 os).forCall (fun _ _ => 0) ⟨#[], args, []⟩).memory :=
  laidMetH_of_parts3 (fuel := 8) (laidMet_of_run' 8 (by kernel_rfl) (by kernel_rfl)) (by kernel_rfl) (by kernel_rfl)
theorem of_laid {W : World} (h : laidMetH Tryd.prog Rows.relayHoldsRow.laid W) : Sy.gdS.H W := by
  have h : laidMet Tryd.prog [("math/bits.deBruijn32tab", Lib.tabData .u8 Sy.tabB)] W := h
  obtain ⟨t, ht⟩ : ∃ t, (Tryd.prog.globals[0]?).map (·.type) = some t := ⟨_, rfl⟩
  have hT := Lib.tabIs_of_head (n := 32) (t := 145) (e := 5) gTab (by kernel_rfl) Tryd.underlying145 Tryd.underlying5 (by kernel_rfl) (by kernel_rfl) h
  exact fun k hk => hT.cell gTab k hk

set_option maxRecDepth 100000 in
theorem lifted (os : Os) (started : os.Started) (H : Type) (enc : TypeId × Value → H) :
    ReturnsInHanded {} Tryd.checked os 7 .any (fun w args => (Rows.relayHoldsSpec.pre enc Tryd.prog Tryd.f7 [] false w args ∧ laidMetH Tryd.prog Rows.relayHoldsRow.laid w) ∧ sizedMet enc Tryd.prog Tryd.f7 (OpenSpec.ofChange Rows.relayHoldsSpec) false w args)
      (Rows.relayHoldsSpec.post enc Tryd.prog Tryd.f7 false true false false) := by
  refine returnsInHanded_of_change_and (C := Tryd.checked) (X := fun w _ => laidMetH Tryd.prog Rows.relayHoldsRow.laid w) (fun _ _ _ hh h => h.of_heap hh) own started (by kernel_rfl) Tryd.func7
    (ChangeSpec.witness_shaped (enc := enc) (C := Tryd.checked) (os := os) (X := fun w _ => laidMetH Tryd.prog Rows.relayHoldsRow.laid w) false (World.doorLaid Tryd.prog 400 os) #[.agg #[.int .u8 0, .int .u8 0, .int .u8 0], .slice none 0 0] 8 rfl (World.shaped_of_RefB (by kernel_rfl) (by kernel_rfl)) (by kernel_rfl) (by kernel_rfl) (by kernel_rfl) (door_met os _)) ?_
  intro W base args ds gs before hval0 hW hcnd _ hL _
  have hH := of_laid hL
  have hval : ∀ (j : Nat) t v, Tryd.f7.params[j]? = some t → args[j]? = some v → Value.okWide Tryd.prog W .any base t v := hval0
  have hW' := hW
  obtain ⟨p, q, hA0, hV, rfl, hfz, hnd⟩ := hW
  have hA : DataW.TrodAll enc Tryd.prog W 0 (fun _ => true) true Tryd.f7.params.toList args.toList ds p := hA0
  rw [Tryd.params7] at hA hval
  obtain ⟨v0, vs0, d0, ds0, p0, q0, hargs, rfl, rfl, h0, r0⟩ := trodAll_cons hA
  obtain ⟨v1, vs1, d1, ds1, p1, q1, rfl, rfl, rfl, h1, r1⟩ := trodAll_cons r0
  obtain ⟨rfl, rfl, rfl⟩ := trodAll_nil r1
  obtain rfl : args = #[v0, v1] := by cases args; simp_all
  obtain ⟨rfl, rfl⟩ := trodVars_none hV
  have k0 := h0
  have lt0 : ∀ x ∈ p0, x.block < W.heap.size := by obtain ⟨m, hm⟩ := k0; exact DataW.trod_lt m _ _ _ hm
  obtain ⟨c0, rfl, hsz0⟩ := okWide_array Tryd.underlying45 (hval 0 45 v0 rfl rfl)
  obtain ⟨fuel0, hf0⟩ := h0
  obtain ⟨a0_0, a0_1, a0_2, e0, w0_0, w0_1, w0_2⟩ := open_T45 hf0
  have e0' : c0 = #[.int .u8 a0_0, .int .u8 a0_1, .int .u8 a0_2] := by rw [← Array.toList_inj]; exact e0
  subst e0'
  have k1 := h1
  have lt1 : ∀ x ∈ p1, x.block < W.heap.size := by obtain ⟨m, hm⟩ := k1; exact DataW.trod_lt m _ _ _ hm
  obtain ⟨b1, l1, cp1, rfl⟩ := okWide_slice Tryd.underlying23 (hval 1 23 v1 rfl rfl)
  obtain ⟨fuel1, hf1⟩ := h1
  obtain ⟨a1_0, e1, w1_0⟩ := open_T23 hf1
  simp only [Value.cells, List.cons.injEq, and_true] at e1
  subst e1
  clear hA0 hval0
  refine (Sy.walk_RelayHolds a0_0 a0_1 a0_2 (.slice b1 l1 cp1) W w0_0 w0_1 w0_2 w1_0 hH).mono fun e W' ⟨he, bel⟩ => ?_
  subst he
  exact ⟨_, rfl, _, _, _, [], _, [], hW', trodAll_mk1 (shut_bool Tryd.underlying4 _), (trodAll_cons_mk (Below.trod laidOut (by kernel_rfl) (of_decide_eq_true (by kernel_rfl)) k0 bel lt0) (trodAll_cons_mk (Below.trod laidOut (by kernel_rfl) (of_decide_eq_true (by kernel_rfl)) k1 bel lt1) trodAll_mk0)), rfl, bel.frame _, fun h => by cases h⟩

theorem over : Rows.relayHoldsRow.holds Tryd.pinned (OpenSpec.ofChange Rows.relayHoldsSpec) :=
  OpenClaim.holds_of_wide 7 Tryd.f7 rfl rfl rfl rfl rfl rfl rfl ⟨rfl, rfl, rfl, rfl, rfl⟩ rfl rfl rfl rfl rfl (by kernel_rfl) Tryd.func7 (by kernel_rfl)
    (of_decide_eq_true (by kernel_rfl)) (by unfold Func.isWrapper; first | (rw [if_pos (by decide +kernel)]; kernel_rfl) | (rw [if_neg (by decide +kernel)]; exact ⟨rfl, rfl⟩))
    (fun os started H enc _ => lifted os started H enc)

theorem proved : Rows.RelayHoldsCardSaid :=
  Claim7.holds_tied_plain_at .later [] [.data] true (true, "1440d3c8af9d71bdb3464716bdf6836eb05cb696d189ef49cb2ef3b62c54346c") false
    over (fun _ h => by cases h) (by kernel_rfl) (fun _ h => by cases h) relayHolds_row_tie rfl ⟨rfl, rfl⟩ (by kernel_rfl) rfl
    (fun f fn hf hfn => by
      obtain rfl : f = 7 := Option.some.inj ((show Tryd.prog.funcNamed "overlay/overlaylaw17.RelayHolds" = some 7 by kernel_rfl).symm.trans hf) |>.symm
      obtain rfl : fn = Tryd.f7 := (Option.some.inj (Tryd.func7.symm.trans hfn)).symm
      exact ⟨by kernel_rfl, fun j t ht => by
        rw [Tryd.params7] at ht
        have h3 : t ∈ ([45, 23] : List TypeId) := List.mem_of_getElem? (by simpa using ht)
        simp only [List.mem_cons, List.not_mem_nil, or_false] at h3
        rcases h3 with rfl | rfl
        · exact (show Tryd.prog.wantsStandIn 45 = false by kernel_rfl)
        · exact (show Tryd.prog.wantsStandIn 23 = false by kernel_rfl)⟩)
    (by kernel_rfl)
#print axioms proved
end Go.Proofs.YtpbljgpdhllklaaDoor.relayHolds
end
