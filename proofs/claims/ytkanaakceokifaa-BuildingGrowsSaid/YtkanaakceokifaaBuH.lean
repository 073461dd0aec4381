/- Bounds grow (own work). -/
import Derived.Test.YtkanaakceokifaaC0
import Derived.Test.YtkanaakceokifaaTr
namespace Go.Proofs.Ytkanaakceokifaa.Sp
open Go Sy
set_option linter.unusedVariables false
set_option linter.unusedSimpArgs false
/-- The sample's numbers with other floors and cars. -/
def likeB (fl : Int) (l : List CarT) : BldT := (fl, 1, 4000, 30, 4591870180066957722, 4605380978949069210, 4607632778762754458, l)
theorem like_sample (fl : Int) (n : Nat) : sampleB fl n = likeB fl ((List.range n).map (sampleCar fl)) := rfl
theorem like_isB {fl : Int} {l : List CarT} (h : 2 ≤ fl ∧ fl ≤ 32) (hn : 1 ≤ l.length ∧ l.length ≤ 8) (hc : ∀ c ∈ l, carOk fl c = true) : IsB (likeB fl l) where
  fl := h
  cn := hn
  deb := by show (1 : Int) ≤ 1 ∧ (1 : Int) ≤ 16; decide
  park := by show (1 : Int) ≤ 30 ∧ (30 : Int) ≤ 10000; decide
  car := hc
  loads := by simp only [loadsOk, likeB]; kernel_rfl
  room := by show 18 * (l.length : Int) + 24 ≤ 4000 ∧ (4000 : Int) ≤ 65536; omega
theorem most_mono {b b' : BldT} (h' : IsB b') (h : ∀ c ∈ b.cars, ∃ c' ∈ b'.cars, c.1 ≤ c'.1 ∧ svc b.1 c ≤ svc b'.1 c') : most b ≤ most b' :=
  fold_max _ _ _ _ (most_rng h').1 (fun c hc => by
    obtain ⟨c', h1, h2, h3⟩ := h c hc
    have h4 := fold_mem b'.1 b'.cars 0 c' h1
    have h5 : most b' = b'.cars.foldl (mostF b'.1) 0 := rfl
    omega)
theorem bnd_mono {b b' : BldT} (hB : IsB b) (h' : IsB b') (hl : b.cars.length ≤ b'.cars.length) (h : ∀ c ∈ b.cars, ∃ c' ∈ b'.cars, c.1 ≤ c'.1 ∧ svc b.1 c ≤ svc b'.1 c') : bnd b ≤ bnd b' := by
  have h1 := most_mono h' h
  have h2 := most_rng hB
  unfold bnd
  exact Int.mul_le_mul (by omega) (by omega) (by omega) (by omega)
theorem svc_mono {fl fl' : Int} {c c' : CarT} (hf : 2 ≤ fl ∧ fl ≤ fl') (h : CarB c) (h1 : c.2.2.2.2.1 ≤ c'.2.2.2.2.1) (h2 : c.2.2.2.2.2.1 ≤ c'.2.2.2.2.2.1) (h3 : c.2.2.2.2.2.2.2.1 ≤ c'.2.2.2.2.2.2.2.1) : svc fl c ≤ svc fl' c' := by
  have := h.st; have := h.tr; have := h.ho
  unfold svc
  exact Int.mul_le_mul (by omega) (by omega) (by omega) (by omega)
theorem scar_ok {fl fl' : Int} (h : 2 ≤ fl ∧ fl ≤ fl') (hf : fl' ≤ 32) {n : Nat} : ∀ c ∈ (List.range n).map (sampleCar fl), carOk fl' c = true ∧ ∃ i : Nat, c = sampleCar fl i := by
  intro c hc
  rw [List.mem_map] at hc
  obtain ⟨i, hi, rfl⟩ := hc
  refine ⟨?_, i, rfl⟩
  have h1 : 0 ≤ (i : Int) % fl := Int.emod_nonneg _ (by omega)
  have h2 : (i : Int) % fl < fl := Int.emod_lt_of_pos _ (by omega)
  have h3 : (i : Int) % fl ≤ fl' - 1 := by omega
  simp only [carOk, sampleCar, tOk]
  simp [h1, h3]
/-- One car with longer times. -/
theorem one_grows {fl : Int} {n : Nat} {ix : Int} {f : CarT → CarT} (hfl : 2 ≤ fl ∧ fl ≤ 31) (hn : 1 ≤ n ∧ n ≤ 7) (hi : 0 ≤ ix ∧ ix < n)
    (hf : ∀ i : Nat, carOk fl (sampleCar fl i) = true → carOk fl (f (sampleCar fl i)) = true ∧ (sampleCar fl i).1 ≤ (f (sampleCar fl i)).1 ∧ svc fl (sampleCar fl i) ≤ svc fl (f (sampleCar fl i))) :
    IsB (likeB fl (setE ty33 ((List.range n).map (sampleCar fl)) ix (f (nthT ((List.range n).map (sampleCar fl)) ix)))) ∧
    bnd (sampleB fl n) ≤ bnd (likeB fl (setE ty33 ((List.range n).map (sampleCar fl)) ix (f (nthT ((List.range n).map (sampleCar fl)) ix)))) := by
  have hlen : ((List.range n).map (sampleCar fl)).length = n := by simp
  have hok := scar_ok (fl := fl) (fl' := fl) (n := n) (by omega) (by omega)
  have hB := sample_isB fl n (by omega) (by omega)
  rw [like_sample] at hB ⊢
  generalize hl : (List.range n).map (sampleCar fl) = l at hlen hok hB ⊢
  have hix : ix.toNat < l.length := by omega
  have hnth : nthT l ix = l[ix.toNat] := nthT_of l ix hi.1 (by omega)
  rw [hnth]
  obtain ⟨ho, i0, hi0⟩ := hok _ (List.getElem_mem hix)
  have hgrow := hf i0 (hi0 ▸ ho)
  rw [← hi0] at hgrow
  have hB' : IsB (likeB fl (setE ty33 l ix (f l[ix.toNat]))) := by
    refine like_isB (by omega) (by simp only [setE, List.length_set]; omega) (fun c hc => ?_)
    rcases List.mem_or_eq_of_mem_set hc with hc | rfl
    · exact (hok c hc).1
    · exact hgrow.1
  refine ⟨hB', bnd_mono hB hB' (by show l.length ≤ (l.set _ _).length; rw [List.length_set]; exact Nat.le_refl _) (fun c hc => ?_)⟩
  have hc' : c ∈ l := hc
  obtain ⟨j, hj, rfl⟩ := List.getElem_of_mem hc'
  by_cases hji : j = ix.toNat
  · subst hji
    exact ⟨f l[ix.toNat], List.mem_set hix _, hgrow.2.1, hgrow.2.2⟩
  · refine ⟨l[j], ?_, Int.le_refl _, Int.le_refl _⟩
    show l[j] ∈ l.set ix.toNat (f l[ix.toNat])
    rw [List.mem_iff_getElem]
    exact ⟨j, by rw [List.length_set]; exact hj, by rw [List.getElem_set_ne (by omega)]⟩
theorem fin_grows {fl : Int} {n : Nat} {b : BldT} (hfl : 2 ≤ fl ∧ fl ≤ 31) (hn : 1 ≤ n ∧ n ≤ 7) (hB : IsB b) (hg : bnd (sampleB fl n) ≤ bnd b) (hl : b.cars.length ≤ maxLen) :
    ((((F12 b == (0 : Int)) && (decide (F20 b ≥ F20 (sampleB fl n)))) && (decide (F20 (sampleB fl n) > (0 : Int)))) && F14 ()) = true := by
  have hl2 : (sampleB fl n).cars.length ≤ maxLen := by rw [sample_len]; simp only [maxLen]; omega
  have hS := sample_isB fl n (by omega) (by omega)
  rw [valid_eq b hl, bound_eq b hl, bound_eq _ hl2, if_pos hB, if_pos hS, (vld_zero b).2 hB, sane_true]
  have h1 := (bound_mul hS).1
  have h2 : 0 < bnd (sampleB fl n) := h1
  simp [hg, h2]
theorem law_grows (x : Int × Int × Int × Int × Int) (h : InR ct5.p x) : F5 x = true := by
  simp only [ct5, InR, Lit.wf, Bool.and_eq_true, decide_eq_true_eq] at h
  obtain ⟨x1, x2, x3, x4, x5⟩ := x
  have hx1 : 0 ≤ x1 ∧ x1 ≤ 255 := h.1
  have hx2 : 0 ≤ x2 ∧ x2 ≤ 255 := h.2.1
  have hx3 : 0 ≤ x3 ∧ x3 ≤ 255 := h.2.2.1
  have hx5 : 0 ≤ x5 ∧ x5 ≤ 255 := h.2.2.2.2
  unfold F5
  simp only [K5_1, K5_2, K5_3, K5_4, K5_5, K5_6, K5_7, K5_8, K5_9, K5_10, K5_11, K5_12, K5_13, K5_14, K5_15, K5_16, K5_17, K5_18]
  have hfl : 2 ≤ IntKind.i64.wrap ((2 : Int) + (IntKind.i64.wrap (Int.tmod x1 (30 : Int)))) ∧ IntKind.i64.wrap ((2 : Int) + (IntKind.i64.wrap (Int.tmod x1 (30 : Int)))) ≤ 31 := by simp only [Sp.tmod_ite, IntKind.wrap_i64]; omega
  have hcn : 1 ≤ IntKind.i64.wrap ((1 : Int) + (IntKind.i64.wrap (Int.tmod x2 (7 : Int)))) ∧ IntKind.i64.wrap ((1 : Int) + (IntKind.i64.wrap (Int.tmod x2 (7 : Int)))) ≤ 7 := by simp only [Sp.tmod_ite, IntKind.wrap_i64]; omega
  obtain ⟨fl, hF⟩ : ∃ fl, IntKind.i64.wrap ((2 : Int) + (IntKind.i64.wrap (Int.tmod x1 (30 : Int)))) = fl := ⟨_, rfl⟩
  obtain ⟨n, hC⟩ : ∃ n : Nat, IntKind.i64.wrap ((1 : Int) + (IntKind.i64.wrap (Int.tmod x2 (7 : Int)))) = (n : Int) := ⟨(IntKind.i64.wrap ((1 : Int) + (IntKind.i64.wrap (Int.tmod x2 (7 : Int))))).toNat, by omega⟩
  rw [hF] at hfl
  rw [hC] at hcn
  simp only [hF, hC]
  have hs : F22 (fl, (n : Int)) = sampleB fl n := sample_eq fl n (by omega) (by omega)
  simp only [hs]
  have hn : 1 ≤ n ∧ n ≤ 7 := by omega
  have hlen : (sampleB fl n).2.2.2.2.2.2.2.length = n := sample_len fl n
  have hw3 : Int.tmod (IntKind.i64.wrap x3) (n : Int) = x3 % (n : Int) := by rw [wrap_i64_of (x := x3) (by omega) (by omega), Int.tmod_eq_emod_of_nonneg (a := x3) (by omega)]
  simp only [hlen, hw3, wrap_i64_of (x := x5) (by omega) (by omega)]
  have hi : 0 ≤ x3 % (n : Int) ∧ x3 % (n : Int) < n := ⟨Int.emod_nonneg _ (by omega), Int.emod_lt_of_pos _ (by omega)⟩
  obtain ⟨ix, hX⟩ : ∃ ix, x3 % (n : Int) = ix := ⟨_, rfl⟩
  rw [hX] at hi
  simp only [hX]
  have hset : ∀ v, (setE ty33 ((List.range n).map (sampleCar fl)) ix v).length ≤ maxLen := by
    intro v; simp only [setE, List.length_set, List.length_map, List.length_range, maxLen]; omega
  cases ((Int.tmod x4 (6 : Int)) == (0 : Int)) with
  | true =>
    have := one_grows (ix := ix) (f := fun c => (c.1, c.2.1, c.2.2.1, c.2.2.2.1, IntKind.i64.wrap (c.2.2.2.2.1 + x5), c.2.2.2.2.2)) hfl hn hi (fun i hc => by
      have e : (sampleCar fl i).2.2.2.2.1 = 4 := rfl
      refine ⟨?_, ?_, svc_mono ⟨hfl.1, Int.le_refl _⟩ (carB_of hc) ?_ ?_ ?_⟩ <;> simp only [e]
      · rw [wrap_i64_of (by omega) (by omega)]
        simp only [carOk, tOk, Bool.and_eq_true, decide_eq_true_eq] at hc ⊢; simp only [sampleCar, and_true, true_and, or_true, true_or, or_false, false_or, not_true_eq_false, and_false, false_and, not_false_eq_true, ne_eq, if_true, if_false, Bool.false_eq_true, Int.reduceEq, Int.reduceNeg, Int.reduceLE, Int.reduceLT, ge_iff_le] at hc ⊢
        omega
      all_goals (first | exact Int.le_refl _ | (rw [wrap_i64_of (by omega) (by omega)]; omega) | omega))
    exact fin_grows hfl hn this.1 this.2 (hset _)
  | false =>
  simp only [cond_false]
  cases ((Int.tmod x4 (6 : Int)) == (1 : Int)) with
  | true =>
    have := one_grows (ix := ix) (f := fun c => (c.1, c.2.1, c.2.2.1, c.2.2.2.1, c.2.2.2.2.1, IntKind.i64.wrap (c.2.2.2.2.2.1 + x5), c.2.2.2.2.2.2)) hfl hn hi (fun i hc => by
      have e : (sampleCar fl i).2.2.2.2.2.1 = 2 := rfl
      refine ⟨?_, ?_, svc_mono ⟨hfl.1, Int.le_refl _⟩ (carB_of hc) ?_ ?_ ?_⟩ <;> simp only [e]
      · rw [wrap_i64_of (by omega) (by omega)]
        simp only [carOk, tOk, Bool.and_eq_true, decide_eq_true_eq] at hc ⊢; simp only [sampleCar, and_true, true_and, or_true, true_or, or_false, false_or, not_true_eq_false, and_false, false_and, not_false_eq_true, ne_eq, if_true, if_false, Bool.false_eq_true, Int.reduceEq, Int.reduceNeg, Int.reduceLE, Int.reduceLT, ge_iff_le] at hc ⊢
        omega
      all_goals (first | exact Int.le_refl _ | (rw [wrap_i64_of (by omega) (by omega)]; omega) | omega))
    exact fin_grows hfl hn this.1 this.2 (hset _)
  | false =>
  simp only [cond_false]
  cases ((Int.tmod x4 (6 : Int)) == (2 : Int)) with
  | true =>
    have := one_grows (ix := ix) (f := fun c => (c.1, c.2.1, c.2.2.1, c.2.2.2.1, c.2.2.2.2.1, c.2.2.2.2.2.1, c.2.2.2.2.2.2.1, IntKind.i64.wrap (c.2.2.2.2.2.2.2.1 + x5), c.2.2.2.2.2.2.2.2)) hfl hn hi (fun i hc => by
      have e : (sampleCar fl i).2.2.2.2.2.2.2.1 = 10 := rfl
      refine ⟨?_, ?_, svc_mono ⟨hfl.1, Int.le_refl _⟩ (carB_of hc) ?_ ?_ ?_⟩ <;> simp only [e]
      · rw [wrap_i64_of (by omega) (by omega)]
        simp only [carOk, tOk, Bool.and_eq_true, decide_eq_true_eq] at hc ⊢; simp only [sampleCar, and_true, true_and, or_true, true_or, or_false, false_or, not_true_eq_false, and_false, false_and, not_false_eq_true, ne_eq, if_true, if_false, Bool.false_eq_true, Int.reduceEq, Int.reduceNeg, Int.reduceLE, Int.reduceLT, ge_iff_le] at hc ⊢
        omega
      all_goals (first | exact Int.le_refl _ | (rw [wrap_i64_of (by omega) (by omega)]; omega) | omega))
    exact fin_grows hfl hn this.1 this.2 (hset _)
  | false =>
  simp only [cond_false]
  cases ((Int.tmod x4 (6 : Int)) == (3 : Int)) with
  | true =>
    have := one_grows (ix := ix) (f := fun c => (IntKind.i64.wrap (c.1 + IntKind.i64.wrap (20 * x5)), c.2)) hfl hn hi (fun i hc => by
      have e : (sampleCar fl i).1 = 100 := rfl
      rw [wrap_i64_of (x := 20 * x5) (by omega) (by omega)]
      refine ⟨?_, ?_, svc_mono ⟨hfl.1, Int.le_refl _⟩ (carB_of hc) ?_ ?_ ?_⟩ <;> simp only [e]
      · rw [wrap_i64_of (by omega) (by omega)]
        simp only [carOk, tOk, Bool.and_eq_true, decide_eq_true_eq] at hc ⊢; simp only [sampleCar, and_true, true_and, or_true, true_or, or_false, false_or, not_true_eq_false, and_false, false_and, not_false_eq_true, ne_eq, if_true, if_false, Bool.false_eq_true, Int.reduceEq, Int.reduceNeg, Int.reduceLE, Int.reduceLT, ge_iff_le] at hc ⊢
        omega
      all_goals (first | exact Int.le_refl _ | (rw [wrap_i64_of (by omega) (by omega)]; omega) | omega))
    exact fin_grows hfl hn this.1 this.2 (hset _)
  | false =>
  simp only [cond_false]
  cases ((Int.tmod x4 (6 : Int)) == (4 : Int)) with
  | true =>
    have e : (sampleB fl n).1 = fl := rfl
    simp only [e, cond_true]
    rw [wrap_i64_of (x := fl + 1) (by omega) (by omega)]
    have hok := scar_ok (fl := fl) (fl' := fl + 1) (n := n) (by omega) (by omega)
    have hB : IsB (likeB (fl + 1) ((List.range n).map (sampleCar fl))) := like_isB (by omega) (by simp only [List.length_map, List.length_range]; omega) (fun c hc => (hok c hc).1)
    refine fin_grows hfl hn hB (bnd_mono (sample_isB fl n (by omega) (by omega)) hB (Nat.le_refl _) (fun c hc => ⟨c, hc, Int.le_refl _, svc_mono ⟨hfl.1, by show fl ≤ fl + 1; omega⟩ (carB_of (hok c hc).1) (Int.le_refl _) (Int.le_refl _) (Int.le_refl _)⟩)) ?_
    show ((List.range n).map (sampleCar fl)).length ≤ maxLen
    simp only [List.length_map, List.length_range, maxLen]; omega
  | false =>
  simp only [cond_false]
  have hl2 : (sampleB fl n).cars.length ≤ maxLen := by rw [sample_len]; simp only [maxLen]; omega
  cases ((Int.tmod x4 (6 : Int)) == (5 : Int)) with
  | true =>
    have hok := scar_ok (fl := fl) (fl' := fl) (n := n) (by omega) (by omega)
    have hlen' : ((List.range n).map (sampleCar fl)).length = n := by simp
    have h0 : nthT ((List.range n).map (sampleCar fl)) 0 = ((List.range n).map (sampleCar fl))[0]'(by omega) := nthT_of _ 0 (by omega) (by omega)
    have hB : IsB (likeB fl ((List.range n).map (sampleCar fl) ++ [nthT ((List.range n).map (sampleCar fl)) 0])) := by
      refine like_isB (by omega) (by simp only [List.length_append, hlen', List.length_cons, List.length_nil]; omega) (fun c hc => ?_)
      rcases List.mem_append.1 hc with hc | hc
      · exact (hok c hc).1
      · rw [List.mem_singleton] at hc
        rw [hc, h0]
        exact (hok _ (List.getElem_mem _)).1
    refine fin_grows hfl hn hB (bnd_mono (sample_isB fl n (by omega) (by omega)) hB ?_ (fun c hc => ⟨c, List.mem_append_left _ hc, Int.le_refl _, Int.le_refl _⟩)) ?_
    · show ((List.range n).map (sampleCar fl)).length ≤ ((List.range n).map (sampleCar fl) ++ [_]).length
      simp only [List.length_append, List.length_cons, List.length_nil]; omega
    · show ((List.range n).map (sampleCar fl) ++ [_]).length ≤ maxLen
      simp only [List.length_append, hlen', List.length_cons, List.length_nil, maxLen]; omega
  | false =>
    exact fin_grows hfl hn (sample_isB fl n (by omega) (by omega)) (Int.le_refl _) hl2
end Go.Proofs.Ytkanaakceokifaa.Sp
