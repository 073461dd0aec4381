/- The law BuildingFaults (own work). -/
import Derived.Test.YtghlpolodjlgjaaBuQ
namespace Go.Proofs.Ytghlpolodjlgjaa.Sp
open Go Sy
set_option linter.unusedVariables false
set_option linter.unusedSimpArgs false
set_option maxRecDepth 10000
def NxtOk {K β ρ : Type} (c : Int) : BOut K (Int × β) ρ → Prop
  | .next _ z => z.1 = c
  | .brk _ _ => False
  | .ret _ => True
theorem nxt_cnd {K β ρ : Type} {i : Int} {c : Bool} {a b : BOut K (Int × β) ρ} (ha : NxtOk i a) (hb : NxtOk i b) : NxtOk i (bif c then a else b) := by cases c <;> assumption
theorem fsane : F14 () = true := by kernel_rfl
theorem faults_len (k : Int × Int) (y : Int × BldT) (h : in3_3 k y) (h1 : y.1 ≤ 2) : (G3_3 k y).2.2.2.2.2.2.2.2.length ≤ 24 := by
  unfold G3_3
  refine loop_spec (ρ := Bool) (step := st3_3) (k := k) (fun y => in3_3 k y ∧ y.1 ≤ 2) (mu3_3 k) (fun _ y => (y : Int × BldT).2.2.2.2.2.2.2.2.length ≤ 24) (fun y hy => ?_) _ _ ⟨h, h1⟩ (Nat.lt_succ_self _)
  have so := so3_3 k y (by simp only [Fit]; trivial) hy.1
  cases hc : decide (y.1 < 2) with
  | false =>
    have e : st3_3 k y = BOut.brk k y := by
      unfold st3_3
      rw [hc, cond_false]
    rw [e]
    have hl := hy.1
    unfold in3_3 at hl
    show y.2.2.2.2.2.2.2.2.length ≤ 24
    have := hy.2
    omega
  | true =>
    have nb : NxtOk (IntKind.i64.wrap (y.1 + 1)) (st3_3 k y) := by
      unfold st3_3
      rw [hc, cond_true]
      repeat' (refine nxt_cnd ?_ ?_)
      all_goals exact rfl
    rw [decide_eq_true_eq] at hc
    have h0 : 0 ≤ y.1 := hy.1.1
    rw [wrap_i64_of (x := y.1 + 1) (by omega) (by omega)] at nb
    cases hs : st3_3 k y with
    | next k' z => rw [hs] at so nb; exact ⟨⟨so.2.1, by have e : z.1 = y.1 + 1 := nb; omega⟩, so.2.2⟩
    | brk k' z => rw [hs] at nb; exact nb.elim
    | ret r => rw [hs] at so; cases so
theorem fu8 {x : Int} (h : (Lit.int .u8 x).wf = true) : 0 ≤ x ∧ x ≤ 255 := by
  simp only [Lit.wf, Bool.and_eq_true, decide_eq_true_eq] at h
  exact ⟨h.1, h.2⟩
theorem any_eq (b : BldT) (h : b.cars.length ≤ 24) : F8 b = F9 b ∧ F10 b = F11 b ∧ F12 b = F13 b := by
  have hl : b.cars.length ≤ maxLen := Nat.le_trans h (by decide)
  rw [valid_eq b hl, rvalid_eq b hl, hall_eq b hl, rhall_eq b hl, bound_eq b hl, rbound_eq b hl]
  exact ⟨rfl, rfl, rfl⟩
theorem law_bfaults (x : ct3.p.den) (h : InR ct3.p x) : ct3.F x = true := by
  obtain ⟨a, b, k⟩ := x
  have h1 := fu8 h.1
  have h2 := fu8 h.2.1
  have h3 := fu8 h.2.2.1
  have h4 := fu8 h.2.2.2
  show F3 (a, b, k) = true
  have t31 : 0 ≤ Int.tmod a 31 ∧ Int.tmod a 31 < 31 := ⟨Int.tmod_nonneg _ h1.1, Int.tmod_lt_of_pos _ (by decide)⟩
  have t8 : 0 ≤ Int.tmod b 8 ∧ Int.tmod b 8 < 8 := ⟨Int.tmod_nonneg _ h2.1, Int.tmod_lt_of_pos _ (by decide)⟩
  obtain ⟨n, hn⟩ : ∃ n : Nat, Int.tmod b 8 + 1 = (n : Int) := ⟨(Int.tmod b 8 + 1).toNat, by omega⟩
  have hg := faults_len k (0, F4 (Int.tmod a 31 + 2, (n : Int))) (by
    rw [show F4 (Int.tmod a 31 + 2, (n : Int)) = sampleB (Int.tmod a 31 + 2) n from sample_eq _ n (by omega) (by omega)]
    have hlen : (sampleB (Int.tmod a 31 + 2) n).2.2.2.2.2.2.2.length = n := sample_len _ n
    unfold in3_3
    simp only [hlen]
    have e3 : 0 ≤ k.1 ∧ k.1 ≤ (255 : Int) := h3
    have e4 : 0 ≤ k.2 ∧ k.2 ≤ (255 : Int) := h4
    show (0 : Int) ≤ 0 ∧ (0 : Int) ≤ k.1 ∧ k.1 ≤ (255 : Int) ∧ (0 : Int) ≤ k.2 ∧ k.2 ≤ (255 : Int) ∧ 1 ≤ n ∧ (n : Int) ≤ 8 + 8 * 0
    exact ⟨Int.le_refl _, e3.1, e3.2, e4.1, e4.2, by omega, by omega⟩) (by show (0 : Int) ≤ 2; decide)
  unfold F3
  simp only
  rw [wrap_i64_of (x := Int.tmod a 31) (by omega) (by omega), wrap_i64_of (x := Int.tmod b 8) (by omega) (by omega), wrap_i64_of (x := Int.tmod a 31 + 2) (by omega) (by omega), wrap_i64_of (x := Int.tmod b 8 + 1) (by omega) (by omega), hn]
  generalize G3_3 k (0, F4 (Int.tmod a 31 + 2, (n : Int))) = q at hg ⊢
  obtain ⟨e1, e2, e3⟩ := any_eq q.2 hg
  rw [e1, e2, e3, fsane]
  simp only [beq_self_eq_true, Bool.and_self]
end Go.Proofs.Ytghlpolodjlgjaa.Sp
