/- Layer 5: plain law of IndicatorOne (own work). -/
import Derived.Test.YtkfhampdellhoaaDoorIa
namespace Go.Proofs.YtkfhampdellhoaaDoor.Sp
open Go Sy
set_option linter.unusedVariables false
set_option linter.unusedSimpArgs false
set_option maxRecDepth 10000

def b2i (b : Bool) : Int := bif b then 1 else 0
def badC (n x : Int) (u d o cl : Bool) (U D : Int) (f : Nat) : Bool :=
  ((((bit U f || bit D f) && ((((!o) || cl) || (x != shl32 1 (f : Int))) || decide ((f : Int) ≥ n))) || (bit U f && (((!u) || d) || ((f : Int) == IntKind.i64.wrap (n - 1))))) || (bit D f && ((u || (!d)) || ((f : Int) == 0))))
theorem one_step (n x : Int) (u d o cl : Bool) (U D : Int) (hU : W U) (hD : W D) (f : Nat) (hf : f < 32) (one : Int) (h0 : 0 ≤ one) (h1 : one ≤ 32) (hb : badC n x u d o cl U D f = false) :
    st6_6 (n, (x, u, d, o, cl), U, D) (one, (f : Int)) = .next (n, (x, u, d, o, cl), U, D) (one + b2i (bit U f) + b2i (bit D f), ((f + 1 : Nat) : Int)) := by
  unfold st6_6
  simp only
  rw [wrap_u64_nat (i := (f : Int)) (by omega) (by omega)]
  have hd : decide ((f : Int) < 32) = true := by simp; omega
  have aU : (IntKind.u32.wrap ((BitVec.ofInt IntKind.u32.bits (Int.fdiv U (2 ^ (min ((f : Int)).toNat IntKind.u32.bits))) &&& BitVec.ofInt IntKind.u32.bits (1 : Int)).toNat : Int) == (1 : Int)) = bit U f := ask_bit hU f
  have aD : (IntKind.u32.wrap ((BitVec.ofInt IntKind.u32.bits (Int.fdiv D (2 ^ (min ((f : Int)).toNat IntKind.u32.bits))) &&& BitVec.ofInt IntKind.u32.bits (1 : Int)).toNat : Int) == (1 : Int)) = bit D f := ask_bit hD f
  have hs : IntKind.u32.wrap ((1 : Int) * 2 ^ (min ((f : Int)).toNat IntKind.u32.bits)) = shl32 1 (f : Int) := rfl
  rw [hd, aU, aD, hs]
  unfold badC at hb
  have w1 : IntKind.i64.wrap (one + 1) = one + 1 := wrap_i64_of (by omega) (by omega)
  have w2 : IntKind.i64.wrap (one + 1 + 1) = one + 1 + 1 := wrap_i64_of (by omega) (by omega)
  have w3 : IntKind.i64.wrap ((f : Int) + 1) = ((f + 1 : Nat) : Int) := by rw [wrap_i64_of (by omega) (by omega)]; norm_cast
  cases h2 : bit U f <;> cases h3 : bit D f <;> rw [h2, h3] at hb
  · rw [cond_true, cond_false, cond_false, hb, cond_false, w3]; simp [b2i]
  · rw [cond_true, cond_false, cond_true, hb, cond_false, w3, w1]; simp [b2i]
  · rw [cond_true, cond_true, cond_false, hb, cond_false, w3, w1]; simp [b2i]
  · rw [cond_true, cond_true, cond_true, hb, cond_false, w3, w1, w2]; simp [b2i]

theorem one_run (n x : Int) (u d o cl : Bool) (U D : Int) (hU : W U) (hD : W D) (s : Nat → Int) (s0 : s 0 = 0) (hs : ∀ i, 0 ≤ s i ∧ s i ≤ 32)
    (h : ∀ f, f < 32 → badC n x u d o cl U D f = false ∧ s (f + 1) = s f + b2i (bit U f) + b2i (bit D f)) :
    R6_6 (n, (x, u, d, o, cl), U, D) (0, 0) = none ∧ (G6_6 (n, (x, u, d, o, cl), U, D) (0, 0)).1 = s 32 := by
  have hrow : ∀ i, i < 32 → st6_6 (n, (x, u, d, o, cl), U, D) (s i, (i : Int)) = .next (n, (x, u, d, o, cl), U, D) (s (i + 1), ((i + 1 : Nat) : Int)) := fun i hi => by
    rw [one_step n x u d o cl U D hU hD i hi (s i) (hs i).1 (hs i).2 (h i hi).1, (h i hi).2]
  have hend : st6_6 (n, (x, u, d, o, cl), U, D) (s 32, ((32 : Nat) : Int)) = .brk (n, (x, u, d, o, cl), U, D) (s 32, ((32 : Nat) : Int)) := by
    unfold st6_6
    rw [show decide ((s 32, ((32 : Nat) : Int)).2 < (32 : Int)) = false from rfl, cond_false]
  constructor
  · have h9 := ret_row (step := st6_6) (k := (n, (x, u, d, o, cl), U, D)) (k' := (n, (x, u, d, o, cl), U, D)) (y := (s 32, ((32 : Nat) : Int))) (fun i : Nat => (s i, (i : Int))) (fun _ => none) 32 (fun i hi => ⟨_, hrow i hi⟩) hend (fuel := Nat.succ (mu6_6 (n, (x, u, d, o, cl), U, D) (0, 0))) (by unfold mu6_6; decide)
    have e : (s 0, ((0 : Nat) : Int)) = ((0 : Int), (0 : Int)) := by rw [s0]; rfl
    simp only [e] at h9
    unfold R6_6
    rw [h9]
    simp
  · have h9 := end_row_brk (step := st6_6) (k := (n, (x, u, d, o, cl), U, D)) (fun i : Nat => (s i, (i : Int))) 32 (fun i hi => ⟨_, hrow i hi⟩) hend (fuel := Nat.succ (mu6_6 (n, (x, u, d, o, cl), U, D) (0, 0))) (by unfold mu6_6; decide)
    have e : (s 0, ((0 : Nat) : Int)) = ((0 : Int), (0 : Int)) := by rw [s0]; rfl
    simp only [e] at h9
    unfold G6_6
    rw [h9.1]

theorem dirN_up {u d : Bool} (h : dirN u d = 1) : u = true ∧ d = false := by cases u <;> cases d <;> first | exact ⟨rfl, rfl⟩ | (exact absurd h (by decide))
theorem dirN_down {u d : Bool} (h : dirN u d = 2) : u = false ∧ d = true := by cases u <;> cases d <;> first | exact ⟨rfl, rfl⟩ | (exact absurd h (by decide))

theorem W8_of {x : Int} (h : (Lit.int .u8 x).wf = true) : 0 ≤ x ∧ x ≤ 255 := by
  simp only [Lit.wf, Bool.and_eq_true, decide_eq_true_eq] at h
  have h1 : (0 : Int) ≤ x := h.1
  have h2 : x ≤ (255 : Int) := h.2
  omega
theorem law_one (y : ct6.p.den) (h : InR ct6.p y) : ct6.F y = true := by
  obtain ⟨m, x, u, d, o, cl⟩ := y
  obtain ⟨hm, hx, _⟩ := h
  have hx := W_of hx
  have hm := W8_of hm
  show F6 (m, x, u, d, o, cl) = true
  unfold F6 K6_1
  simp only
  have hn : 2 ≤ IntKind.i64.wrap ((2 : Int) + IntKind.i64.wrap (Int.tmod m 31)) ∧ IntKind.i64.wrap ((2 : Int) + IntKind.i64.wrap (Int.tmod m 31)) ≤ 32 := by
    have e : Int.tmod m 31 = m % 31 := Int.tmod_eq_emod_of_nonneg hm.1
    rw [e, wrap_i64_of (x := m % 31) (by omega) (by omega), wrap_i64_of (by omega) (by omega)]
    omega
  generalize IntKind.i64.wrap ((2 : Int) + IntKind.i64.wrap (Int.tmod m 31)) = n at hn
  obtain ⟨h2, h32⟩ := hn
  have hw1 : IntKind.i64.wrap (n - 1) = n - 1 := wrap_i64_of (by omega) (by omega)
  have hobs := obs_ok n (x, u, d, o, cl) hx h2 h32
  have hfc := (floor_cases n hx).2
  rw [decode_val] at hobs ⊢
  simp only at hobs ⊢
  generalize hp : F8 (n, x) = p at hobs hfc
  rw [hw1]
  have hsh : F14 (n, p, dirN u d, dirN o cl) = bif ((dirN o cl != 1) || decide (p < 0)) then (0, 0) else bif (dirN u d == 1 && decide (p < n - 1)) then (shl32 1 p, 0) else bif (dirN u d == 2 && decide (p > 0)) then (0, shl32 1 p) else (0, 0) := by
    unfold F14
    simp only
    rw [hobs, hw1]
    rfl
  have hz : ∀ i, bit 0 i = false := bit_zero
  have none_case : ∀ (Z : Prop), F14 (n, p, dirN u d, dirN o cl) = (0, 0) → R6_6 (n, (x, u, d, o, cl), F14 (n, p, dirN u d, dirN o cl)) (0, 0) = none ∧ (G6_6 (n, (x, u, d, o, cl), F14 (n, p, dirN u d, dirN o cl)) (0, 0)).1 = 0 := fun _ e => by
    rw [e]
    exact one_run n x u d o cl 0 0 W.zero W.zero (fun _ => 0) rfl (fun _ => ⟨by omega, by omega⟩) (fun f hf => ⟨by simp [badC, hz], by simp [hz, b2i]⟩)
  cases hA : ((dirN o cl != 1) || decide (p < 0)) with
  | true =>
    rw [hA, cond_true] at hsh
    obtain ⟨hR, hG⟩ := none_case True hsh
    rw [hR, hG, optR_none, sane_true]
    have hc : ((o && !cl) && decide (p ≥ 0)) = false := by
      simp only [Bool.or_eq_true, decide_eq_true_eq, bne_iff_ne, ne_eq] at hA
      cases o <;> cases cl <;> simp [dirN] at hA ⊢ <;> omega
    rw [hc, Bool.false_and, cond_false]; rfl
  | false =>
    rw [hA, cond_false] at hsh
    simp only [Bool.or_eq_false_iff, decide_eq_false_iff_not, bne_eq_false_iff_eq] at hA
    obtain ⟨ho, hcl⟩ := dirN_up hA.1
    subst ho hcl
    have hp0 : 0 ≤ p := by omega
    have hc0 : ((true && !false) && decide (p ≥ 0)) = true := by simp; omega
    rw [hc0, Bool.true_and, sane_true]
    rcases hfc with hfc | ⟨k, hk, hkn, _, _, hxk, hpk⟩
    · omega
    subst hpk
    cases hB : (dirN u d == 1 && decide ((k : Int) < n - 1)) with
    | true =>
      rw [hB, cond_true] at hsh
      simp only [Bool.and_eq_true, beq_iff_eq, decide_eq_true_eq] at hB
      obtain ⟨hu, hd⟩ := dirN_up hB.1
      subst hu hd
      have hrun := one_run n x true false true false (shl32 1 (k : Int)) 0 (W_shl _ _) W.zero (fun i => if k < i then 1 else 0) (by simp) (fun i => by by_cases hh : k < i <;> simp [hh]) (fun f hf => ⟨by
          simp only [badC, hz, bit_one k f hf, Bool.or_false, Bool.false_and]
          by_cases hfk : f = k
          · subst hfk
            have hxk : x = shl32 1 (f : Int) := hxk
            rw [hw1, hxk]
            simp; omega
          · simp [hfk], by
          simp only [hz, bit_one k f hf]
          by_cases hfk : f = k
          · subst hfk; simp [b2i]
          · by_cases h3 : k < f
            · simp [b2i, hfk, h3, Nat.lt_succ_of_lt h3]
            · have h4 : ¬ k < f + 1 := by omega
              simp [b2i, hfk, h3, h4]⟩)
      rw [hsh, hrun.1, hrun.2, optR_none]
      have hc1 : ((true && !false) && decide ((k : Int) < n - 1)) = true := by simp; omega
      rw [hc1, Bool.true_or, cond_true, if_pos (by omega)]
      rfl
    | false =>
      rw [hB, cond_false] at hsh
      cases hC : (dirN u d == 2 && decide ((k : Int) > 0)) with
      | true =>
        rw [hC, cond_true] at hsh
        simp only [Bool.and_eq_true, beq_iff_eq, decide_eq_true_eq] at hC
        obtain ⟨hu, hd⟩ := dirN_down hC.1
        subst hu hd
        have hrun := one_run n x false true true false 0 (shl32 1 (k : Int)) W.zero (W_shl _ _) (fun i => if k < i then 1 else 0) (by simp) (fun i => by by_cases hh : k < i <;> simp [hh]) (fun f hf => ⟨by
            simp only [badC, hz, bit_one k f hf, Bool.or_false, Bool.false_and]
            by_cases hfk : f = k
            · subst hfk
              have hxk : x = shl32 1 (f : Int) := hxk
              rw [hxk]
              simp; omega
            · simp [hfk], by
            simp only [hz, bit_one k f hf]
            by_cases hfk : f = k
            · subst hfk; simp [b2i]
            · by_cases h3 : k < f
              · simp [b2i, hfk, h3, Nat.lt_succ_of_lt h3]
              · have h4 : ¬ k < f + 1 := by omega
                simp [b2i, hfk, h3, h4]⟩)
        rw [hsh, hrun.1, hrun.2, optR_none]
        have hc1 : ((true && !false) && decide ((k : Int) > 0)) = true := by simp; omega
        rw [hc1, Bool.or_true, cond_true, if_pos (by omega)]
        rfl
      | false =>
        rw [hC, cond_false] at hsh
        obtain ⟨hR, hG⟩ := none_case True hsh
        rw [hR, hG, optR_none]
        have hc : (((u && !d) && decide ((k : Int) < n - 1)) || ((d && !u) && decide ((k : Int) > 0))) = false := by
          cases u <;> cases d <;> simp [dirN] at hB hC ⊢ <;> omega
        rw [hc, cond_false]; rfl
end Go.Proofs.YtkfhampdellhoaaDoor.Sp
