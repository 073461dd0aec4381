/- Cost: estimates (own work). -/
import Derived.Test.YtjdaplmlmmnokaaDoorKb
import Derived.Test.YtjdaplmlmmnokaaDoorF0
namespace Go.Proofs.YtjdaplmlmmnokaaDoor.Sp
open Go Sy
set_option linter.unusedVariables false
set_option linter.unusedSimpArgs false
set_option maxRecDepth 10000

theorem est_eq {b : BldT} (hl : b.cars.length ≤ maxLen) (car fl dr : Int) {v1 v2 v3 v4 : Bool} {vf vd v7 : Int} {v8 : Int × Int} {c u d : Int} (hc : W c) (hu : W u) (hd : W d) :
    F14 (b, car, (v1, v2, v3, v4, vf, vd, v7, v8, c, u, d), fl, dr) = F15 (b, car, (v1, v2, v3, v4, vf, vd, v7, v8, c, u, d), fl, dr) := by
  unfold F14 F15
  simp only
  rw [valid_eq b hl, rvalid_eq b hl]
  cases hf : decide (vf < 0) with
  | true =>
    rw [Bool.or_true, cond_true]
    rw [decide_eq_true_eq] at hf
    cases (vld b != 0 || decide (car < 0)) || decide (car ≥ (b.2.2.2.2.2.2.2.length : Int)) with
    | true => rfl
    | false =>
      rw [cond_false, path_bad (fun h => by have := h.2.1.1; omega), path_bad (fun h => by have := h.2.1.1; omega)]
      cases (vd == 3) <;> rfl
  | false =>
    rw [Bool.or_false, path_eq _ _ _ _ _ hc hu hd, path_eq _ _ _ _ _ hc hu hd, count_eq _ hc hu hd]
theorem law_estimates (x : ct6.p.den) (h : InR ct6.p x) : ct6.F x = true := by
  obtain ⟨⟨n0, n1⟩, ⟨v1, v2, v3, v4, vf, vd, v7, v8, c, u, d⟩, w1, w2, w3, w4⟩ := x
  obtain ⟨⟨h0, h1⟩, ⟨_, _, _, _, _, _, _, _, hc, hu, hd⟩, _⟩ := h
  have hc := W_of hc
  have hu := W_of hu
  have hd := W_of hd
  have h0 := u8_of h0
  show F6 ((n0, n1), (v1, v2, v3, v4, vf, vd, v7, v8, c, u, d), w1, w2, w3, w4) = true
  have hk : (K6_4 ((n0, n1), (v1, v2, v3, v4, vf, vd, v7, v8, c, u, d), w1, w2, w3, w4)).length ≤ maxLen := by
    have hc := (build_isB (x := n0) h0).cn
    have : (K6_4 ((n0, n1), (v1, v2, v3, v4, vf, vd, v7, v8, c, u, d), w1, w2, w3, w4)).length = (F13 n0).2.2.2.2.2.2.2.length := by
      simp only [K6_4, K6_3, K6_2, K6_1, setE, List.length_set]
    rw [this]
    have h2 : (F13 n0).2.2.2.2.2.2.2.length ≤ 8 := hc.2
    simp only [maxLen]; omega
  unfold F6 K6_6
  simp only
  generalize K6_4 ((n0, n1), (v1, v2, v3, v4, vf, vd, v7, v8, c, u, d), w1, w2, w3, w4) = cars at hk ⊢
  have hb : (F12 (n0, n1)).2.2.2.2.2.2.2.length ≤ maxLen := by
    have h2 := (bld15 (x := (n0, n1)) h0).2
    show (F12 (n0, n1)).2.2.2.2.2.2.2.length ≤ maxLen
    simp only [maxLen]; omega
  generalize F12 (n0, n1) = b at hb ⊢
  generalize IntKind.i64.wrap (Int.tmod (IntKind.u64.wrap vf) (IntKind.u64.wrap b.1)) = f1
  generalize IntKind.i64.wrap (Int.tmod (IntKind.u64.wrap vd) (4 : Int)) = d1
  generalize hlg : ((F13 n0).1, (F13 n0).2.1, (F13 n0).2.2.1, (F13 n0).2.2.2.1, (F13 n0).2.2.2.2.1, (F13 n0).2.2.2.2.2.1, (F13 n0).2.2.2.2.2.2.1, cars) = lg
  have hlgl : lg.2.2.2.2.2.2.2.length ≤ maxLen := by rw [← hlg]; exact hk
  have h13 : ∀ car f : Int, R6_13 (car, f, b, (v1, v2, v3, v4, f1, d1, v7, v8, c, u, d), lg) 0 = none := fun car f => ret_none (fun _ => True) (fun x _ => by
    unfold st6_13
    simp only
    rw [est_eq hb car f x hc hu hd, est_eq hlgl 0 f x hc hu hd, bne_self_eq_false, bne_self_eq_false, Bool.or_self, cond_false]
    cases decide (x < 4) <;> simp) _ _ trivial
  have h10 : ∀ car : Int, R6_10 (car, b, (v1, v2, v3, v4, f1, d1, v7, v8, c, u, d), lg) (-1) = none := fun car => ret_none (fun _ => True) (fun x _ => by
    unfold st6_10
    simp only
    rw [h13 car x, optR_none]
    cases decide (x ≤ b.1) <;> simp) _ _ trivial
  have h7 : R6_7 ((v1, v2, v3, v4, vf, vd, v7, v8, c, u, d), (w1, w2, w3, w4), b, (v1, v2, v3, v4, f1, d1, v7, v8, c, u, d), lg) (-1) = none := ret_none (fun _ => True) (fun x _ => by
    unfold st6_7
    simp only
    rw [h10 x, optR_none, est_eq hb x w3 w4 hc hu hd, bne_self_eq_false, cond_false]
    cases decide (x ≤ (b.2.2.2.2.2.2.2.length : Int)) <;> simp) _ _ trivial
  rw [h7, optR_none, sane_true, Bool.and_true]
  have hz : F14 (((0 : Int), (0 : Int), (0 : Int), (0 : Int), (0 : Nat), (0 : Nat), (0 : Nat), []), (0 : Int), (v1, v2, v3, v4, f1, d1, v7, v8, c, u, d), w3, w4) = 1000000 := by
    unfold F14
    simp only
    have : F26 ((0 : Int), (0 : Int), (0 : Int), (0 : Int), (0 : Nat), (0 : Nat), (0 : Nat), []) = 10 := by kernel_rfl
    rw [this]; rfl
  rw [hz]; rfl
end Go.Proofs.YtjdaplmlmmnokaaDoor.Sp
