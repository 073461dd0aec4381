/- Load: numbers in order, and the law of a full car (own work). -/
import Derived.Test.YtabifaikklcghaaLf
namespace Go.Proofs.Ytabifaikklcghaa.Sp
open Go Sy Ieee
set_option linter.unusedVariables false
set_option linter.unusedSimpArgs false
set_option maxRecDepth 10000

/-- What a word stands for, in units of the least place. -/
def vl (x : Nat) : Int := match fmt.read x with | .number s m p => signed s m (p - fmt.leastPlace).toNat | _ => 0
theorem read_place {x : Nat} {s : Bool} {m : Nat} {p : Int} (h : fmt.read x = .number s m p) : fmt.leastPlace ≤ p := by
  unfold Format.read at h
  simp only at h
  split at h
  · injection h with _ _ h3; rw [← h3]; exact Int.le_refl _
  · split at h
    · injection h with _ _ h3
      rw [← h3]
      omega
    · split at h <;> cases h
theorem signed_up (s : Bool) (m i k : Nat) : signed s m (i + k) = signed s m i * 2 ^ k := by
  unfold signed
  have e : ((m <<< (i + k) : Nat) : Int) = ((m <<< i : Nat) : Int) * 2 ^ k := by
    rw [Nat.shiftLeft_eq, Nat.shiftLeft_eq, Nat.pow_add, ← Nat.mul_assoc]
    push_cast
    rfl
  cases s
  · simp only [Bool.false_eq_true, if_false]; exact e
  · simp only [if_true]; rw [e, Int.neg_mul]
theorem compare_mul (a b : Int) (k : Nat) : compare (a * 2 ^ k) (b * 2 ^ k) = compare a b := by
  have hp : (0 : Int) < 2 ^ k := Int.pow_pos (by omega)
  rcases Int.lt_trichotomy a b with h | h | h
  · rw [Int.compare_eq_lt.2 h, Int.compare_eq_lt.2 (Int.mul_lt_mul_of_pos_right h hp)]
  · subst h
    rw [Int.compare_eq_eq.2 rfl, Int.compare_eq_eq.2 rfl]
  · rw [Int.compare_eq_gt.2 h, Int.compare_eq_gt.2 (Int.mul_lt_mul_of_pos_right h hp)]
theorem order_vl {x y : Nat} (hx : IsNum x) (hy : IsNum y) : fmt.order x y = some (compare (vl x) (vl y)) := by
  obtain ⟨s, m, p, e⟩ := hx
  obtain ⟨t, n, q, e'⟩ := hy
  have h1 := read_place e
  have h2 := read_place e'
  unfold Format.order vl
  rw [e, e']
  show some (compare (signed s m (p - min p q).toNat) (signed t n (q - min p q).toNat)) = some (compare (signed s m (p - fmt.leastPlace).toNat) (signed t n (q - fmt.leastPlace).toNat))
  have a1 : (p - fmt.leastPlace).toNat = (p - min p q).toNat + (min p q - fmt.leastPlace).toNat := by omega
  have a2 : (q - fmt.leastPlace).toNat = (q - min p q).toNat + (min p q - fmt.leastPlace).toNat := by omega
  rw [a1, a2, signed_up, signed_up, compare_mul]
theorem lt_vl {x y : Nat} (hx : IsNum x) (hy : IsNum y) : (fmt.order x y == some .lt) = decide (vl x < vl y) := by
  rw [order_vl hx hy]
  rcases Int.lt_trichotomy (vl x) (vl y) with h | h | h
  · rw [Int.compare_eq_lt.2 h]; simp [h]
  · rw [Int.compare_eq_eq.2 h]; simp [h]
  · rw [Int.compare_eq_gt.2 h]; simp; omega
theorem ge_vl {x y : Nat} (hx : IsNum x) (hy : IsNum y) : (fmt.order x y == some .gt || fmt.order x y == some .eq) = decide (vl y ≤ vl x) := by
  rw [ge_lt hx.nn hy.nn, lt_vl hx hy, Bool.eq_iff_iff]; simp
theorem n0 : IsNum 0 := ⟨_, _, _, rfl⟩
theorem n125 : IsNum 4593671619917905920 := ⟨_, _, _, rfl⟩
theorem n5 : IsNum 4602678819172646912 := ⟨_, _, _, rfl⟩
theorem n6875 : IsNum 4604367669032910848 := ⟨_, _, _, rfl⟩
theorem n75 : IsNum 4604930618986332160 := ⟨_, _, _, rfl⟩
theorem n1 : IsNum 4607182418800017408 := ⟨_, _, _, rfl⟩
/-- Between a half and one: a number. -/
theorem num_mid {x : Nat} (h1 : (fmt.order x 4602678819172646912 == some .gt || fmt.order x 4602678819172646912 == some .eq) = true) (h2 : (fmt.order x 4607182418800017408 == some .lt) = true) : IsNum x := by
  rw [beq_iff_eq] at h2
  cases hx : fmt.read x with
  | number s m p => exact ⟨s, m, p, hx⟩
  | nan s f => unfold Format.order at h2; rw [hx] at h2; cases h2
  | infinity s =>
    obtain ⟨a, b, c, e⟩ := n5
    obtain ⟨a', b', c', e'⟩ := n1
    cases s with
    | false => unfold Format.order at h2; rw [hx, e'] at h2; cases h2
    | true =>
      unfold Format.order at h1
      rw [hx, e] at h1
      exact absurd h1 (by simp [Datum.order])
theorem vl_consts : vl 0 < vl 4593671619917905920 ∧ vl 4593671619917905920 < vl 4602678819172646912 ∧ vl 4602678819172646912 < vl 4604367669032910848 ∧ vl 4604367669032910848 < vl 4604930618986332160 ∧ vl 4604930618986332160 < vl 4607182418800017408 := by decide +kernel
theorem sub_usual : fmt.sub 4604930618986332160 4589168020290535424 = some 4604367669032910848 := by decide +kernel
/-- A load between a half and one, in the usual building. -/
theorem keep_step {x : Nat} (hn : IsNum x) (h1 : vl 4602678819172646912 ≤ vl x) (h2 : vl x < vl 4607182418800017408) {s : Int} (hs : s = 0 ∨ s = 2 ∨ s = 3) :
    F29 (bldT usualT, s, x) = bif decide (vl 4604930618986332160 ≤ vl x) || ((s == 3) && decide (vl 4604367669032910848 ≤ vl x)) then 3 else 2 := by
  obtain ⟨t1, t2, e1, e2, hst⟩ := step_val (bldT_isB usualT (by kernel_rfl))
  have he1 : t1 = 4604367669032910848 := Option.some.inj (e1.symm.trans sub_usual)
  subst he1
  rw [(hst s x).1]
  obtain ⟨c0, c1, c2, c3, c4⟩ := vl_consts
  have hc : F46 (bldT usualT, x) = bif decide (vl 4604930618986332160 ≤ vl x) then 3 else 2 := by
    unfold F46
    show (bif (!(fmt.order x 0 == some .gt || fmt.order x 0 == some .eq)) then (0 : Int) else bif (fmt.order x 4593671619917905920 == some .lt) then 1 else bif (fmt.order x 4604930618986332160 == some .lt) then 2 else bif (fmt.order x 4607182418800017408 == some .lt) then 3 else 4) = _
    rw [ge_vl hn n0, lt_vl hn n125, lt_vl hn n75, lt_vl hn n1]
    rw [show decide (vl 0 ≤ vl x) = true from by simp; omega, show decide (vl x < vl 4593671619917905920) = false from by simp; omega, show decide (vl x < vl 4607182418800017408) = true from by simp; omega]
    rw [show decide (vl x < vl 4604930618986332160) = !decide (vl 4604930618986332160 ≤ vl x) from by rw [Bool.eq_iff_iff]; simp]
    cases decide (vl 4604930618986332160 ≤ vl x) <;> rfl
  unfold stp
  simp only
  rw [hc, lt_vl hn n6875, show decide (vl x < vl 4604367669032910848) = !decide (vl 4604367669032910848 ≤ vl x) from by rw [Bool.eq_iff_iff]; simp]
  rcases hs with rfl | rfl | rfl <;> cases decide (vl 4604930618986332160 ≤ vl x) <;> cases decide (vl 4604367669032910848 ≤ vl x) <;> rfl
theorem law_keeps (x : ct7.p.den) (h : InR ct7.p x) : ct7.F x = true := by
  let l : List Nat := x
  show F7 l = true
  unfold F7
  rw [sane_true]
  have hbl : F23 ((4593671619917905920 : Nat), (4604930618986332160 : Nat), (4607182418800017408 : Nat)) = bldT usualT := bld_usual
  rw [hbl]
  cases hl : decide ((l.length : Int) > 300) with
  | true => rfl
  | false =>
    rw [decide_eq_false_iff_not] at hl
    rw [cond_false]
    obtain ⟨c0, c1, c2, c3, c4⟩ := vl_consts
    have hR : R7_7 (l, bldT usualT) (false, 0, 0) = none := ret_none (fun x => 0 ≤ x.2.1 ∧ (x.2.2 = 0 ∨ x.2.2 = 2 ∨ x.2.2 = 3) ∧ x.1 = (x.2.2 == 3)) (fun x hx => by
      obtain ⟨f, i, s⟩ := x
      obtain ⟨h0, hs, hf⟩ := hx
      simp only at h0 hs hf
      unfold st7_7
      simp only
      cases hi : decide (i < (l.length : Int)) with
      | false => rw [cond_false]; trivial
      | true =>
        rw [decide_eq_true_eq] at hi
        have hw : IntKind.i64.wrap (i + 1) = i + 1 := wrap_i64_of (by omega) (by omega)
        rw [cond_true, hw]
        generalize nthT l i = y
        have fin : ∀ z : Nat, IsNum z → vl 4602678819172646912 ≤ vl z → vl z < vl 4607182418800017408 →
            match (bif (((F29 (bldT usualT, s, z) == (3 : Int)) != ((FloatKind.f64.format.order z (4604930618986332160 : Nat) == some Ordering.gt || FloatKind.f64.format.order z (4604930618986332160 : Nat) == some Ordering.eq) || (f && (FloatKind.f64.format.order z (4604367669032910848 : Nat) == some Ordering.gt || FloatKind.f64.format.order z (4604367669032910848 : Nat) == some Ordering.eq)))) || ((F29 (bldT usualT, s, z) != (3 : Int)) && (F29 (bldT usualT, s, z) != (2 : Int)))) then
              (BOut.ret false : BOut (List Nat × BldT) (Bool × Int × Int) Bool)
            else
              BOut.next (l, bldT usualT) (((FloatKind.f64.format.order z (4604930618986332160 : Nat) == some Ordering.gt || FloatKind.f64.format.order z (4604930618986332160 : Nat) == some Ordering.eq) || (f && (FloatKind.f64.format.order z (4604367669032910848 : Nat) == some Ordering.gt || FloatKind.f64.format.order z (4604367669032910848 : Nat) == some Ordering.eq))), i + 1, F29 (bldT usualT, s, z))) with
            | .next _ y => 0 ≤ y.2.1 ∧ (y.2.2 = 0 ∨ y.2.2 = 2 ∨ y.2.2 = 3) ∧ y.1 = (y.2.2 == 3) | .brk _ _ => True | .ret _ => False := by
          intro z hz h1 h2
          rw [keep_step hz h1 h2 hs]
          rw [show (FloatKind.f64.format.order z (4604930618986332160 : Nat) == some Ordering.gt || FloatKind.f64.format.order z (4604930618986332160 : Nat) == some Ordering.eq) = decide (vl 4604930618986332160 ≤ vl z) from ge_vl hz n75]
          rw [show (FloatKind.f64.format.order z (4604367669032910848 : Nat) == some Ordering.gt || FloatKind.f64.format.order z (4604367669032910848 : Nat) == some Ordering.eq) = decide (vl 4604367669032910848 ≤ vl z) from ge_vl hz n6875]
          rw [hf]
          cases (decide (vl 4604930618986332160 ≤ vl z) || ((s == 3) && decide (vl 4604367669032910848 ≤ vl z))) with
          | true => exact ⟨by show 0 ≤ i + 1; omega, .inr (.inr rfl), rfl⟩
          | false => exact ⟨by show 0 ≤ i + 1; omega, .inr (.inl rfl), rfl⟩
        cases hm : ((FloatKind.f64.format.order y (4602678819172646912 : Nat) == some Ordering.gt || FloatKind.f64.format.order y (4602678819172646912 : Nat) == some Ordering.eq) && (FloatKind.f64.format.order y (4607182418800017408 : Nat) == some Ordering.lt)) with
        | false =>
          rw [Bool.not_false, cond_true]
          have hfin := fin 4604367669032910848 n6875 (by omega) (by omega)
          split <;> (rename_i heq; rw [heq] at hfin; exact hfin)
        | true =>
          rw [Bool.not_true, cond_false]
          rw [Bool.and_eq_true] at hm
          have hy := num_mid hm.1 hm.2
          have g1 := (ge_vl hy n5).symm.trans hm.1
          have g2 := (lt_vl hy n1).symm.trans hm.2
          rw [decide_eq_true_eq] at g1 g2
          have hfin := fin y hy g1 g2
          split <;> (rename_i heq; rw [heq] at hfin; exact hfin)) _ _ ⟨by simp, .inl rfl, rfl⟩
    rw [hR, optR_none]
end Go.Proofs.Ytabifaikklcghaa.Sp
