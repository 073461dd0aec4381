/- Layer 5: plain law of IndicatorFaults (own work). -/
import Derived.Test.YtmaobgibcehhmaaDoorI4
import Derived.Test.YtmaobgibcehhmaaDoorTr
namespace Go.Proofs.YtmaobgibcehhmaaDoor.Sp
open Go Sy
set_option linter.unusedVariables false
set_option linter.unusedSimpArgs false
set_option maxRecDepth 10000
theorem sane_true : F6 () = true := by kernel_rfl
def shA (a : Nat) : Int := IntKind.u32.wrap ((1 : Int) * 2 ^ (min ((IntKind.u64.wrap (a : Int))).toNat IntKind.u32.bits))
def orA (a b : Nat) : Int := IntKind.u32.wrap ((BitVec.ofInt IntKind.u32.bits (shA a) ||| BitVec.ofInt IntKind.u32.bits (shA b)).toNat : Int)
theorem two_all : ((List.range 32).all fun a => (List.range 32).all fun b => a == b || F12 (orA a b) != 1) = true := by kernel_rfl
theorem two_bits (a b : Nat) (ha : a < 32) (hb : b < 32) (h : a ≠ b) : F12 (orA a b) ≠ 1 := by
  have h1 := List.all_eq_true.1 two_all a (List.mem_range.2 ha)
  have h2 := List.all_eq_true.1 h1 b (List.mem_range.2 hb)
  rw [Bool.or_eq_true, beq_iff_eq, bne_iff_ne] at h2
  exact h2.resolve_left h
theorem shows_door {n f d g : Int} (h : g ≠ 1) : F4 (n, f, d, g) = (0, 0) := by
  unfold F4
  simp only
  rw [bne_iff_ne.2 h, Bool.or_true, Bool.true_or]
  rfl
theorem shows_floor {n f d g : Int} (h : f < 0) : F4 (n, f, d, g) = (0, 0) := by
  unfold F4
  simp only
  rw [decide_eq_true h, Bool.or_true]
  rfl
theorem shows_dir {n f d g : Int} (h1 : d ≠ 1) (h2 : d ≠ 2) : F4 (n, f, d, g) = (0, 0) := by
  unfold F4
  simp only
  rw [beq_eq_false_iff_ne.2 h1, beq_eq_false_iff_ne.2 h2, Bool.false_and, Bool.false_and, cond_false, cond_false]
  cases (((!(Sp.F7 (n, f, d, g))) || (g != (1 : Int))) || (decide (f < (0 : Int)))) <;> rfl
theorem floor_ones {n x : Int} (h : F12 x ≠ 1) : F8 (n, x) = -1 := by
  unfold F8
  simp only
  rw [beq_eq_false_iff_ne.2 h, Bool.and_false, Bool.false_and]
  rfl
theorem pair_tt : F9 (true, true, (0 : Int), (1 : Int), (2 : Int), (3 : Int)) = 3 := by kernel_rfl
theorem pair_f (c : Bool) : F9 (false, c, (0 : Int), (1 : Int), (2 : Int), (3 : Int)) ≠ 1 := by
  cases c
  · rw [show F9 (false, false, (0 : Int), (1 : Int), (2 : Int), (3 : Int)) = 0 from by kernel_rfl]; decide
  · rw [show F9 (false, true, (0 : Int), (1 : Int), (2 : Int), (3 : Int)) = 2 from by kernel_rfl]; decide
def Nul (n : Int) (c : Int × Bool × Bool × Bool × Bool) : Prop := F4 (n, F5 (n, c)) = (0, 0)
theorem nul_both (n x : Int) (p : Bool × Bool) : Nul n (x, true, true, p) := by
  unfold Nul F5
  simp only
  rw [pair_tt]
  exact shows_dir (by decide) (by decide)
theorem nul_doors (n x : Int) (u d : Bool) : Nul n (x, u, d, true, true) := by
  unfold Nul F5
  simp only
  rw [pair_tt]
  exact shows_door (by decide)
theorem nul_shut (n x : Int) (u d c : Bool) : Nul n (x, u, d, false, c) := by
  unfold Nul F5
  simp only
  exact shows_door (pair_f c)
theorem nul_ones (n x : Int) (p : Bool × Bool × Bool × Bool) (h : F12 x ≠ 1) : Nul n (x, p) := by
  unfold Nul F5
  simp only
  rw [floor_ones h]
  exact shows_floor (by decide)
theorem no_ret (n : Int) (l : List (Int × Bool × Bool × Bool × Bool)) (hl : l.length ≤ 10) (h : ∀ c ∈ l, Nul n c) : R3_12 (n, l) 0 = none := by
  refine ret_none (fun x : Int => 0 ≤ x) (fun x hx => ?_) _ _ (Int.le_refl 0)
  unfold st3_12
  simp only
  cases hc : decide (x < (l.length : Int)) with
  | false => trivial
  | true =>
    rw [decide_eq_true_eq] at hc
    have hn := h _ (List.getElem_mem (l := l) (n := x.toNat) (by omega))
    unfold Nul at hn
    rw [nthT_of l x hx hc, hn]
    show (0 : Int) ≤ IntKind.i64.wrap (x + 1)
    rw [wrap_i64_of (by omega) (by omega)]
    omega
theorem law_ifaults (x : ct3.p.den) (h : InR ct3.p x) : ct3.F x = true := by
  obtain ⟨n, ⟨cf, u, d, o, cl⟩, x0, x1⟩ := x
  obtain ⟨hn, hc, h0, h1⟩ := h
  have h0 : 0 ≤ x0 ∧ x0 ≤ 255 := by simp only [InR, Lit.wf, Bool.and_eq_true, decide_eq_true_eq] at h0; exact h0
  have h1 : 0 ≤ x1 ∧ x1 ≤ 255 := by simp only [InR, Lit.wf, Bool.and_eq_true, decide_eq_true_eq] at h1; exact h1
  show F3 (n, (cf, u, d, o, cl), x0, x1) = true
  unfold F3
  simp only
  obtain ⟨a, ha, e0⟩ : ∃ a : Nat, a < 32 ∧ Int.tmod x0 32 = (a : Int) := ⟨(x0 % 32).toNat, by omega, by rw [tmod_lit, if_pos h0.1]; omega⟩
  obtain ⟨b, hb, e1⟩ : ∃ b : Nat, b < 32 ∧ Int.tmod x1 32 = (b : Int) := ⟨(x1 % 32).toNat, by omega, by rw [tmod_lit, if_pos h1.1]; omega⟩
  rw [e0, e1, sane_true]
  generalize IntKind.i64.wrap ((2 : Int) + (IntKind.i64.wrap (Int.tmod n (31 : Int)))) = fl
  have h4 : ∀ c ∈ [(cf, true, true, o, cl), (cf, u, d, true, true), ((0 : Int), u, d, o, cl), (cf, u, d, false, cl)], Nul fl c := by
    intro c hc
    simp only [List.mem_cons, List.not_mem_nil, or_false] at hc
    rcases hc with rfl | rfl | rfl | rfl
    · exact nul_both _ _ _
    · exact nul_doors _ _ _ _
    · exact nul_ones _ _ _ (by rw [show F12 0 = 0 from by kernel_rfl]; decide)
    · exact nul_shut _ _ _ _ _
  cases hab : ((a : Int) != (b : Int)) with
  | false =>
    rw [cond_false, no_ret fl _ (by simp) h4, optR_none]
  | true =>
    rw [bne_iff_ne] at hab
    rw [cond_true]
    have h5 := no_ret fl [(cf, true, true, o, cl), (cf, u, d, true, true), ((0 : Int), u, d, o, cl), (cf, u, d, false, cl), (orA a b, u, d, o, cl)] (by simp) (fun c hc => by
      simp only [List.mem_cons, List.not_mem_nil, or_false] at hc
      rcases hc with rfl | rfl | rfl | rfl | rfl
      · exact nul_both _ _ _
      · exact nul_doors _ _ _ _
      · exact nul_ones _ _ _ (by rw [show F12 0 = 0 from by kernel_rfl]; decide)
      · exact nul_shut _ _ _ _ _
      · exact nul_ones _ _ _ (two_bits a b ha hb (by omega)))
    unfold orA shA at h5
    rw [h5, optR_none]
end Go.Proofs.YtmaobgibcehhmaaDoor.Sp
