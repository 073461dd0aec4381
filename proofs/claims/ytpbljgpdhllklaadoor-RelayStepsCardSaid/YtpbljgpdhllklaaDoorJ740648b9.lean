/- Own texts joined by pk.py. -/
import Derived.Test.YtpbljgpdhllklaaDoorJa992684b
import Derived.Test.YtpbljgpdhllklaaDoorJ35023f0f
import Derived.Test.YtpbljgpdhllklaaDoorTie
import Derived.Test.YtpbljgpdhllklaaDoorCards
import Derived.Lib.LaidTab
import Derived.ProofKit
import Derived.LaidMore
import Derived.OpenShut
import Derived.Stop.Joined
import Derived.SevenTiedAt
import Derived.Test.YtpbljgpdhllklaaDoorRows
section
/- RelaySteps: the plain law (own work). -/
namespace Go.Proofs.YtpbljgpdhllklaaDoor.Sp
open Go Sy
set_option linter.unusedVariables false
set_option linter.unusedSimpArgs false
set_option maxRecDepth 10000
abbrev rcar (s : RelT) : Int := s.2.2.2.2.2.2.2
abbrev rcalls (s : RelT) : Int × Int := s.2.2.2.2.2.2.1
theorem decide_keeps (y : Int × CarT × RelT) : (F67 y).2.2.2.2.2.2 = y.2.2.2.2.2.2.2.2 := by
  unfold F67 K67_1 K67_2 K67_3 F66
  simp only [cond_eq_ite]
  repeat' split
  all_goals rfl
theorem over_keeps (y : Int × CarT × RelT) : (F37 y).2.2.2.2.2.2 = y.2.2.2.2.2.2.2.2 := by
  unfold F37
  simp only [cond_eq_ite]
  split
  · rfl
  · split
    · rfl
    · split
      · exact decide_keeps _
      · exact decide_keeps _
theorem step_W (x : BldT × Int × RelT × (Int × Int) × Int) : W (rcar (F17 x)) ∧ W (rcalls (F17 x)).1 ∧ W (rcalls (F17 x)).2 := by
  have hk := over_keeps (x.1.1, (nthT x.1.2.2.2.2.2.2.2 x.2.1), x.2.2.1.1, x.2.2.1.2.1, x.2.2.1.2.2.1, x.2.2.1.2.2.2.1, x.2.2.1.2.2.2.2.1, x.2.2.1.2.2.2.2.2.1, (F34 (x.2.2.1.2.2.2.2.2.2.1, (F35 (x.2.2.2.1, (F36 x.1))))), (IntKind.u32.wrap ((BitVec.ofInt IntKind.u32.bits x.2.2.1.2.2.2.2.2.2.2 ||| BitVec.ofInt IntKind.u32.bits (IntKind.u32.wrap ((BitVec.ofInt IntKind.u32.bits x.2.2.2.2 &&& BitVec.ofInt IntKind.u32.bits (IntKind.u32.wrap ((IntKind.u32.wrap ((1 : Int) * 2 ^ (min (x.1.1).toNat IntKind.u32.bits))) - (1 : Int)))).toNat : Int))).toNat : Int)))
  have hk1 : (K17_1 x).2.2.2.2.2.2 = _ := hk
  have c1 : rcar (K17_1 x) = _ := congrArg Prod.snd hk1
  have c2 : rcalls (K17_1 x) = _ := congrArg Prod.fst hk1
  unfold F17
  simp only [cond_eq_ite]
  repeat' split
  · exact ⟨W.zero, W.zero, W.zero⟩
  · exact ⟨W_nand _ _, W_nand _ _, W_nand _ _⟩
  · exact ⟨W_or _ _, W_or _ _, W_or _ _⟩
  · exact ⟨W_nand _ _, W_nand _ _, W_nand _ _⟩
  · refine ⟨?_, ?_, ?_⟩
    · rw [c1]; exact W_or _ _
    · rw [c2]; exact W_or _ _
    · rw [c2]; exact W_or _ _
/-- A fact that every step keeps holds of the state that is made from numbers. -/
theorem state_ind (P : RelT → Prop) (b : BldT) (car : Int) (l : List Int) (hl : b.cars.length ≤ maxLen) (h0 : P (F15 0))
    (hs : ∀ s inj press, W inj.1 → W inj.2 → W press → W (rcar s) → P s → P (F17 (b, car, s, inj, press))) : W (rcar (F12 (b, car, l))) ∧ P (F12 (b, car, l)) := by
  unfold F12 G12_3
  refine loop_spec (ρ := RelT) (step := st12_3) (k := (car, l, b)) (fun y => 0 ≤ y.1 ∧ W (rcar y.2) ∧ P y.2) (mu12_3 (car, l, b)) (fun _ y => W (rcar y.2) ∧ P y.2) (fun y hy => ?_) _ _ ⟨by simp, W.zero, h0⟩ (Nat.lt_succ_self _)
  unfold st12_3
  cases hc : (decide (y.1 < (l.length : Int))) && (decide (y.1 < (100 : Int))) with
  | true =>
    rw [cond_true]
    simp only [Bool.and_eq_true, decide_eq_true_eq] at hc
    simp only
    rw [wrap_i64_of (x := y.1 + 1) (by omega) (by omega)]
    obtain ⟨i, p, w1, w2, w3, e⟩ : ∃ (i : Int × Int) (p : Int), W i.1 ∧ W i.2 ∧ W p ∧ K12_3_1 (car, l, b) y = F17 (b, car, y.2, i, p) := by
      refine ⟨(_, _), _, ?_, ?_, ?_, (step_eq b car y.2 (_, _) _ hl hy.2.1).symm⟩
      · exact W_wrap _
      · exact W_wrap _
      · exact W_wrap _
    rw [e]
    exact ⟨⟨by omega, (step_W _).1, hs _ _ _ w1 w2 w3 hy.2.1 hy.2.2⟩, by unfold mu12_3; simp only; omega⟩
  | false => rw [cond_false]; exact hy.2
theorem u8_of {x : Int} (h : (Lit.int .u8 x).wf = true) : 0 ≤ x ∧ x ≤ 255 := by
  simp only [Lit.wf, Bool.and_eq_true, decide_eq_true_eq] at h
  exact h
theorem rsane_true : F16 () = true := by kernel_rfl
theorem rsame_true (b : BldT) (car : Int) (s : RelT) (inj : Int × Int) (press : Int) (hl : b.cars.length ≤ maxLen) (hc : W (rcar s)) : F13 (b, car, s, inj, press) = true := by
  unfold F13
  simp only
  rw [step_eq b car s inj press hl hc, istate_eq b s hl hc, contacts_eq]
  simp only [beq_self_eq_true, Bool.and_self]
theorem r13 (s0 : RelT) (b : BldT) (s : RelT) (i : Int) (hl : b.cars.length ≤ maxLen) (hc : W (rcar s)) : R3_13 (s0, b, s) i = none := ret_none (fun _ => True) (fun x _ => by
  unfold st3_13
  simp only
  rw [rsame_true b x s _ _ hl hc, rsame_true b x s _ _ hl hc]
  cases decide (x ≤ (b.2.2.2.2.2.2.2.length : Int)) <;> simp) _ _ trivial
theorem r10 (p q r s0 : RelT) (m : Int) (b : BldT) (i : Int) (hm : m ≤ 3) (hi : 0 ≤ i) (hl : b.cars.length ≤ maxLen) (hp : W (rcar p)) (hq : W (rcar q)) (hr : W (rcar r)) : R3_10 ([p, q, r], m, s0, b) i = none := ret_none (fun x => 0 ≤ x) (fun x hx => by
  unfold st3_10
  simp only
  cases hc : decide (x < m) with
  | true =>
    rw [decide_eq_true_eq] at hc
    rw [cond_true]
    have h3 : x = 0 ∨ x = 1 ∨ x = 2 := by omega
    have hW : W (rcar (nthT [p, q, r] x)) := by
      rcases h3 with rfl | rfl | rfl
      · exact hp
      · exact hq
      · exact hr
    rw [r13 _ _ _ _ hl hW]
    simp only [optR]
    rw [wrap_i64_of (x := x + 1) (by omega) (by omega)]
    omega
  | false => rw [cond_false]; trivial) _ _ hi
theorem law_rsteps (x : ct3.p.den) (h : InR ct3.p x) : ct3.F x = true := by
  obtain ⟨m, l, st, fl, dir, op, dr, tm, ⟨u, d⟩, car⟩ := x
  have hc : W car := W_of h.2.2.2.2.2.2.2.2.2
  have hb := b15_len (x := m) ⟨u8_of h.1.1, u8_of h.1.2⟩
  have hl : (F11 m).2.2.2.2.2.2.2.length ≤ maxLen := Nat.le_trans hb (by decide)
  have hS := (state_ind (fun _ => True) _ 0 l hl trivial (fun _ _ _ _ _ _ _ _ => trivial)).1
  have hz : ∀ (s : RelT) (i : Int × Int) (p : Int), W (rcar s) → F13 (((0 : Int), (0 : Int), (0 : Int), (0 : Int), (0 : Nat), (0 : Nat), (0 : Nat), []), (0 : Int), s, i, p) = true := fun s i p hs => rsame_true (0, 0, 0, 0, 0, 0, 0, []) 0 s i p (Nat.zero_le _) hs
  have hN : ∀ z : Int, F14 z = F15 z := fun _ => rfl
  show F3 (m, l, st, fl, dir, op, dr, tm, (u, d), car) = true
  unfold F3
  simp only
  rw [r10 _ _ _ _ _ _ _ (by simp) (by simp) hl hS hc (W_and _ _), r10 _ _ _ _ _ _ _ (by simp) (by simp) hl hS hc (W_and _ _)]
  simp only [optR, hz (st, fl, dir, op, dr, tm, (u, d), car) _ _ hc, hN, rsane_true, beq_self_eq_true, Bool.and_self, Bool.cond_self]
end Go.Proofs.YtpbljgpdhllklaaDoor.Sp
end

section
/- RelaySteps: the call of the law returns true (written by own program mkwalk.py, out of the contract and the plain law). -/
namespace Go.Proofs.YtpbljgpdhllklaaDoor.Sy
open Go Go.RowKit
set_option linter.unusedVariables false
set_option linter.unusedSimpArgs false
set_option maxRecDepth 100000
theorem tr_T5 {w : World} (cs : List Value) (h : E_T5 cs) : ∃ x : ty5.den, TR w (fun _ _ => False) ty5 x cs ∧ InR ty5 x := by
  obtain ⟨a0, rfl, w0⟩ := h
  exact ⟨a0, tr_of ⟨rfl, trivial⟩, w0⟩
theorem pre_law (x : ct3.p.den) (h : InR ct3.p x) : ∀ q, ct3.pre = some q → q x := by
  intro q hq
  cases hq
  simp only [ct3, InR, Lit.wf, Bool.and_eq_true, decide_eq_true_eq] at h
  simp only [Sp.pre3]
  try simp only [show IntKind.u8.min = 0 from rfl, show IntKind.u8.max = 255 from rfl, show IntKind.u16.min = 0 from rfl, show IntKind.u16.max = 65535 from rfl, show IntKind.u32.min = 0 from rfl, show IntKind.u32.max = 4294967295 from rfl, show IntKind.u64.min = 0 from rfl, show IntKind.u64.max = 18446744073709551615 from rfl, show IntKind.i64.min = -9223372036854775808 from rfl, show IntKind.i64.max = 9223372036854775807 from rfl] at h
  repeat' (first | exact trivial | apply And.intro)
  all_goals first | omega | (intro v hv; first | exact h.2.2.2 v hv | exact h.2.2 v hv | exact h.2 v hv | exact h.1.2 v hv | exact h.2.1.2 v hv | exact h.2.2.1.2 v hv | exact h.2.2.2.2 v hv)
theorem walk_RelaySteps (a0_0 : Int) (a0_1 : Int) (a1_0 : Value) (a2_0 : Int) (a2_1 : Int) (a2_2 : Int) (a2_3 : Int) (a2_4 : Int) (a2_5 : Int) (a2_6 : Int) (a2_7 : Int) (a2_8 : Int) (w : World) (w0_0 : (Lit.int .u8 a0_0).wf = true) (w0_1 : (Lit.int .u8 a0_1).wf = true) (w1_0 : IsSlice w 1 E_T5 a1_0) (w2_0 : (Lit.int .i64 a2_0).wf = true) (w2_1 : (Lit.int .i64 a2_1).wf = true) (w2_2 : (Lit.int .i64 a2_2).wf = true) (w2_3 : (Lit.int .i64 a2_3).wf = true) (w2_4 : (Lit.int .i64 a2_4).wf = true) (w2_5 : (Lit.int .i64 a2_5).wf = true) (w2_6 : (Lit.int .u32 a2_6).wf = true) (w2_7 : (Lit.int .u32 a2_7).wf = true) (w2_8 : (Lit.int .u32 a2_8).wf = true) (hT : gdS.H w) :
    Calls Tryd.prog 3 #[.agg #[.int .u8 a0_0, .int .u8 a0_1], a1_0, .agg #[.int .i64 a2_0, .int .i64 a2_1, .int .i64 a2_2, .int .i64 a2_3, .int .i64 a2_4, .int .i64 a2_5, .int .u32 a2_6, .int .u32 a2_7, .int .u32 a2_8]] w fun e w' => e = .returned (.bool true) ∧ Below w.heap.size w w' := by
  obtain ⟨l1_0, t1_0, r1_0⟩ := slice_tr (e := ty5) rfl tr_T5 w1_0
  exact call_true ok3 ((a0_0, a0_1), l1_0, (a2_0, a2_1, a2_2, a2_3, a2_4, a2_5, (a2_6, a2_7), a2_8)) w _ [.int .u8 a0_0, .int .u8 a0_1, a1_0, .int .i64 a2_0, .int .i64 a2_1, .int .i64 a2_2, .int .i64 a2_3, .int .i64 a2_4, .int .i64 a2_5, .int .u32 a2_6, .int .u32 a2_7, .int .u32 a2_8] hT (pre_law _ ⟨⟨w0_0, w0_1⟩, r1_0, ⟨w2_0, w2_1, w2_2, w2_3, w2_4, w2_5, ⟨w2_6, w2_7⟩, w2_8⟩⟩) ⟨[.int .u8 a0_0, .int .u8 a0_1], _, rfl, rfl, rfl, ⟨_, rfl, ⟨[.int .i64 a2_0, .int .i64 a2_1, .int .i64 a2_2, .int .i64 a2_3, .int .i64 a2_4, .int .i64 a2_5, .int .u32 a2_6, .int .u32 a2_7, .int .u32 a2_8], _, rfl, rfl, rfl, rfl⟩⟩⟩ (tr_of ⟨rfl, rfl, ⟨t1_0, trivial⟩, rfl, rfl, rfl, rfl, rfl, rfl, rfl, rfl, rfl, trivial⟩) (Sp.law_rsteps _ ⟨⟨w0_0, w0_1⟩, r1_0, ⟨w2_0, w2_1, w2_2, w2_3, w2_4, w2_5, ⟨w2_6, w2_7⟩, w2_8⟩⟩)
end Go.Proofs.YtpbljgpdhllklaaDoor.Sy
end

section
/- RelaySteps: for every input the call of the law returns true, and the arguments read behind the call as before. The walk stands in YtpbljgpdhllklaaDoorRelayStepsWalk. -/
namespace Go.Proofs.YtpbljgpdhllklaaDoor.relaySteps
open Go.ChangeShapes Go.WideShapes Go.ChangeAt Go.RowKit
set_option linter.unusedVariables false

theorem own : ownKnob Tryd.prog.godebug = none := by kernel_rfl
theorem laidOut : laidOutB Tryd.prog = true := by kernel_rfl

theorem gTab : Tryd.prog.globalNamed "math/bits.deBruijn32tab" = some 0 := by kernel_rfl
theorem door_met (os : Os) (args : Array Value) : laidMetH Tryd.prog Rows.relayStepsRow.laid ((World.doorLaid Tryd.prog 400 os).forCall (fun _ _ => 0) ⟨#[], args, []⟩).memory :=
  laidMetH_of_parts3 (fuel := 8) (laidMet_of_run' 8 (by kernel_rfl) (by kernel_rfl)) (by kernel_rfl) (by kernel_rfl)
theorem of_laid {W : World} (h : laidMetH Tryd.prog Rows.relayStepsRow.laid W) : Sy.gdS.H W := by
  have h : laidMet Tryd.prog [("math/bits.deBruijn32tab", Lib.tabData .u8 Sy.tabB)] W := h
  obtain ⟨t, ht⟩ : ∃ t, (Tryd.prog.globals[0]?).map (·.type) = some t := ⟨_, rfl⟩
  have hT := Lib.tabIs_of_head (n := 32) (t := 145) (e := 5) gTab (by kernel_rfl) Tryd.underlying145 Tryd.underlying5 (by kernel_rfl) (by kernel_rfl) h
  exact fun k hk => hT.cell gTab k hk

set_option maxRecDepth 100000 in
theorem lifted (os : Os) (started : os.Started) (H : Type) (enc : TypeId × Value → H) :
    ReturnsInHanded {} Tryd.checked os 3 .any (fun w args => (Rows.relayStepsSpec.pre enc Tryd.prog Tryd.f3 [] false w args ∧ laidMetH Tryd.prog Rows.relayStepsRow.laid w) ∧ sizedMet enc Tryd.prog Tryd.f3 (OpenSpec.ofChange Rows.relayStepsSpec) false w args)
      (Rows.relayStepsSpec.post enc Tryd.prog Tryd.f3 false true false false) := by
  refine returnsInHanded_of_change_and (C := Tryd.checked) (X := fun w _ => laidMetH Tryd.prog Rows.relayStepsRow.laid w) (fun _ _ _ hh h => h.of_heap hh) own started (by kernel_rfl) Tryd.func3
    (ChangeSpec.witness_shaped (enc := enc) (C := Tryd.checked) (os := os) (X := fun w _ => laidMetH Tryd.prog Rows.relayStepsRow.laid w) false (World.doorLaid Tryd.prog 400 os) #[.agg #[.int .u8 0, .int .u8 0], .slice none 0 0, .agg #[.int .i64 0, .int .i64 0, .int .i64 0, .int .i64 0, .int .i64 0, .int .i64 0, .int .u32 0, .int .u32 0, .int .u32 0]] 8 rfl (World.shaped_of_RefB (by kernel_rfl) (by kernel_rfl)) (by kernel_rfl) (by kernel_rfl) (by kernel_rfl) (door_met os _)) ?_
  intro W base args ds gs before hval0 hW hcnd _ hL _
  have hH := of_laid hL
  have hval : ∀ (j : Nat) t v, Tryd.f3.params[j]? = some t → args[j]? = some v → Value.okWide Tryd.prog W .any base t v := hval0
  have hW' := hW
  obtain ⟨p, q, hA0, hV, rfl, hfz, hnd⟩ := hW
  have hA : DataW.TrodAll enc Tryd.prog W 0 (fun _ => true) true Tryd.f3.params.toList args.toList ds p := hA0
  rw [Tryd.params3] at hA hval
  obtain ⟨v0, vs0, d0, ds0, p0, q0, hargs, rfl, rfl, h0, r0⟩ := trodAll_cons hA
  obtain ⟨v1, vs1, d1, ds1, p1, q1, rfl, rfl, rfl, h1, r1⟩ := trodAll_cons r0
  obtain ⟨v2, vs2, d2, ds2, p2, q2, rfl, rfl, rfl, h2, r2⟩ := trodAll_cons r1
  obtain ⟨rfl, rfl, rfl⟩ := trodAll_nil r2
  obtain rfl : args = #[v0, v1, v2] := by cases args; simp_all
  obtain ⟨rfl, rfl⟩ := trodVars_none hV
  have k0 := h0
  have lt0 : ∀ x ∈ p0, x.block < W.heap.size := by obtain ⟨m, hm⟩ := k0; exact DataW.trod_lt m _ _ _ hm
  obtain ⟨c0, rfl, hsz0⟩ := okWide_array Tryd.underlying22 (hval 0 22 v0 rfl rfl)
  obtain ⟨fuel0, hf0⟩ := h0
  obtain ⟨a0_0, a0_1, e0, w0_0, w0_1⟩ := open_T22 hf0
  have e0' : c0 = #[.int .u8 a0_0, .int .u8 a0_1] := by rw [← Array.toList_inj]; exact e0
  subst e0'
  have k1 := h1
  have lt1 : ∀ x ∈ p1, x.block < W.heap.size := by obtain ⟨m, hm⟩ := k1; exact DataW.trod_lt m _ _ _ hm
  obtain ⟨b1, l1, cp1, rfl⟩ := okWide_slice Tryd.underlying23 (hval 1 23 v1 rfl rfl)
  obtain ⟨fuel1, hf1⟩ := h1
  obtain ⟨a1_0, e1, w1_0⟩ := open_T23 hf1
  simp only [Value.cells, List.cons.injEq, and_true] at e1
  subst e1
  have k2 := h2
  have lt2 : ∀ x ∈ p2, x.block < W.heap.size := by obtain ⟨m, hm⟩ := k2; exact DataW.trod_lt m _ _ _ hm
  obtain ⟨c2, rfl, hsz2⟩ := okWide_struct Tryd.underlying28 (hval 2 28 v2 rfl rfl)
  obtain ⟨fuel2, hf2⟩ := h2
  obtain ⟨a2_0, a2_1, a2_2, a2_3, a2_4, a2_5, a2_6, a2_7, a2_8, e2, w2_0, w2_1, w2_2, w2_3, w2_4, w2_5, w2_6, w2_7, w2_8⟩ := open_T28 hf2
  have e2' : c2 = #[.int .i64 a2_0, .int .i64 a2_1, .int .i64 a2_2, .int .i64 a2_3, .int .i64 a2_4, .int .i64 a2_5, .int .u32 a2_6, .int .u32 a2_7, .int .u32 a2_8] := by rw [← Array.toList_inj]; exact e2
  subst e2'
  clear hA0 hval0
  refine (Sy.walk_RelaySteps a0_0 a0_1 (.slice b1 l1 cp1) a2_0 a2_1 a2_2 a2_3 a2_4 a2_5 a2_6 a2_7 a2_8 W w0_0 w0_1 w1_0 w2_0 w2_1 w2_2 w2_3 w2_4 w2_5 w2_6 w2_7 w2_8 hH).mono fun e W' ⟨he, bel⟩ => ?_
  subst he
  exact ⟨_, rfl, _, _, _, [], _, [], hW', trodAll_mk1 (shut_bool Tryd.underlying4 _), (trodAll_cons_mk (Below.trod laidOut (by kernel_rfl) (of_decide_eq_true (by kernel_rfl)) k0 bel lt0) (trodAll_cons_mk (Below.trod laidOut (by kernel_rfl) (of_decide_eq_true (by kernel_rfl)) k1 bel lt1) (trodAll_cons_mk (Below.trod laidOut (by kernel_rfl) (of_decide_eq_true (by kernel_rfl)) k2 bel lt2) trodAll_mk0))), rfl, bel.frame _, fun h => by cases h⟩

theorem over : Rows.relayStepsRow.holds Tryd.pinned (OpenSpec.ofChange Rows.relayStepsSpec) :=
  OpenClaim.holds_of_wide 3 Tryd.f3 rfl rfl rfl rfl rfl rfl rfl ⟨rfl, rfl, rfl, rfl, rfl⟩ rfl rfl rfl rfl rfl (by kernel_rfl) Tryd.func3 (by kernel_rfl)
    (of_decide_eq_true (by kernel_rfl)) (by unfold Func.isWrapper; first | (rw [if_pos (by decide +kernel)]; kernel_rfl) | (rw [if_neg (by decide +kernel)]; exact ⟨rfl, rfl⟩))
    (fun os started H enc _ => lifted os started H enc)

theorem proved : Rows.RelayStepsCardSaid :=
  Claim7.holds_tied_plain_at .later [] [.data] true (true, "1440d3c8af9d71bdb3464716bdf6836eb05cb696d189ef49cb2ef3b62c54346c") false
    over (fun _ h => by cases h) (by kernel_rfl) (fun _ h => by cases h) relaySteps_row_tie rfl ⟨rfl, rfl⟩ (by kernel_rfl) rfl
    (fun f fn hf hfn => by
      obtain rfl : f = 3 := Option.some.inj ((show Tryd.prog.funcNamed "overlay/overlaylaw17.RelaySteps" = some 3 by kernel_rfl).symm.trans hf) |>.symm
      obtain rfl : fn = Tryd.f3 := (Option.some.inj (Tryd.func3.symm.trans hfn)).symm
      exact ⟨by kernel_rfl, fun j t ht => by
        rw [Tryd.params3] at ht
        have h3 : t ∈ ([22, 23, 28] : List TypeId) := List.mem_of_getElem? (by simpa using ht)
        simp only [List.mem_cons, List.not_mem_nil, or_false] at h3
        rcases h3 with rfl | rfl | rfl
        · exact (show Tryd.prog.wantsStandIn 22 = false by kernel_rfl)
        · exact (show Tryd.prog.wantsStandIn 23 = false by kernel_rfl)
        · exact (show Tryd.prog.wantsStandIn 28 = false by kernel_rfl)⟩)
    (by kernel_rfl)
#print axioms proved
end Go.Proofs.YtpbljgpdhllklaaDoor.relaySteps
end
