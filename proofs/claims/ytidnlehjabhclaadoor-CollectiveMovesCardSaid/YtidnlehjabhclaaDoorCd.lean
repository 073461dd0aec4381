/- Collective: choices, and the law (own work). -/
import Derived.Test.YtidnlehjabhclaaDoorCc
import Derived.Test.YtidnlehjabhclaaDoorTr
namespace Go.Proofs.YtidnlehjabhclaaDoor.Sp
open Go Sy
set_option linter.unusedVariables false
set_option linter.unusedSimpArgs false
set_option maxRecDepth 10000

theorem rising_ref (c u d : Bool) (ab be o : Int) : F29 (c, u, d, ab, be, o) =
    bif (F33 (1, 2, c, u, d, decide (0 < ab), decide (0 < be))).2 then (F33 (1, 2, c, u, d, decide (0 < ab), decide (0 < be))).1 else F34 (2, d, decide (0 < be)) := by
  unfold F29 F30 F33 F34 F45
  simp only [gt_iff_lt]
  generalize decide (0 < ab) = a
  generalize decide (0 < be) = b
  cases c <;> cases u <;> cases d <;> cases a <;> cases b <;> rfl
theorem falling_ref (c u d : Bool) (ab be o : Int) : F30 (c, u, d, ab, be, o) =
    bif (F33 (2, 1, c, d, u, decide (0 < be), decide (0 < ab))).2 then (F33 (2, 1, c, d, u, decide (0 < be), decide (0 < ab))).1 else F34 (1, u, decide (0 < ab)) := by
  unfold F30 F33 F34 F45
  simp only [gt_iff_lt]
  generalize decide (0 < ab) = a
  generalize decide (0 < be) = b
  cases c <;> cases u <;> cases d <;> cases a <;> cases b <;> rfl
theorem near_eq (c u d : Bool) (ab be o : Int) (ha : 0 ≤ ab) (hb : 0 ≤ be) : F43 (c, u, d, ab, be, o) = near ab be := by
  unfold F43 near
  simp only [gt_iff_lt]
  have : (be == 0) = !decide (0 < be) := by
    rw [Bool.eq_iff_iff]; simp; omega
  rw [this]
theorem near_cases (ab be : Int) : near ab be = 0 ∨ near ab be = 1 ∨ near ab be = 2 := by
  unfold near
  cases (decide (0 < ab) && ((!decide (0 < be)) || decide (be ≥ ab))) with
  | true => exact .inr (.inl rfl)
  | false =>
    rw [cond_false]
    cases decide (0 < be) with
    | true => exact .inr (.inr rfl)
    | false => exact .inl rfl
theorem resting_ref (c u d : Bool) (ab be o : Int) (ha : 0 ≤ ab) (hb : 0 ≤ be) : F28 (c, u, d, ab, be, o) =
    bif u then F35 1 else bif d then F35 2 else bif c then F35 (near ab be) else F36 (near ab be) := by
  unfold F28
  rw [near_eq c u d ab be o ha hb]
  unfold F36
  rcases near_cases ab be with h | h | h <;> rw [h] <;> cases c <;> cases u <;> cases d <;> rfl

section
variable {n f : Nat} {dir o c u d : Int}
theorem choose_val (h : Ok n f dir o c u d) : ∃ ab be, Sc n f o c u d ab be ∧ F18 ((n : Int), (dir, o), (f : Int), c, u, d) = (F20 ((n : Int), (dir, o), (f : Int), c, u, d), oo n f o c u d ab be) := by
  obtain ⟨ab, be, s, hv⟩ := scene h
  refine ⟨ab, be, s, ?_⟩
  unfold F18 F20 K20_1 K20_2
  rw [hv]
  simp only
  rw [h.guard, cond_false, proper_val n (by have := h.n2; omega) h.n32 _ _ _ h.u h.d, rlook h s]
  simp only
  have hd : dir = 0 ∨ dir = 1 ∨ dir = 2 := by have := h.dir; omega
  refine Prod.ext ?_ rfl
  rcases hd with rfl | rfl | rfl
  · rw [rules0, resting_ref _ _ _ _ _ _ s.ab.nn s.be.nn]; rfl
  · rw [rules1, rising_ref]; rfl
  · rw [rules2, falling_ref]; rfl
theorem Choose_eq (h : Ok n f dir o c u d) : F9 ((n : Int), (dir, o), (f : Int), c, u, d) = F20 ((n : Int), (dir, o), (f : Int), c, u, d) := by
  obtain ⟨ab, be, s, hv⟩ := choose_val h
  unfold F9
  simp only
  rw [h.proper, hv]; rfl
theorem Next_eq (h : Ok n f dir o c u d) : F14 ((n : Int), (dir, o), (f : Int), c, u, d) = F21 ((n : Int), (dir, o), (f : Int), c, u, d) := by
  obtain ⟨ab, be, s, hv⟩ := choose_val h
  have hb := choose_bd ((n : Int), (dir, o), (f : Int), c, u, d) h.dir.1 h.dir.2
  rw [hv] at hb
  simp only at hb
  unfold F14 F21
  simp only
  rw [h.proper, hv, h.guard, cond_false, proper_val n (by have := h.n2; omega) h.n32 _ _ _ h.u h.d]
  simp only
  rw [counted_val (W_and _ _) (W_and _ _) (W_and _ _) f (by have := h.f; have := h.n32; omega) dir o ab be s.ab s.be]
  rw [wrap_u64_of (x := (F20 ((n : Int), (dir, o), (f : Int), c, u, d)).2.2) (by omega) (by omega)]
  generalize F20 ((n : Int), (dir, o), (f : Int), c, u, d) = C
  rw [Bool.not_true, cond_false]
  cases h3 : (C.1 == 3) with
  | true => rw [show (C.1 != 3) = false from by rw [bne, h3]; rfl]; rfl
  | false => rw [show (C.1 != 3) = true from by rw [bne, h3]; rfl]; rfl
theorem Spent_eq (h : Ok n f dir o c u d) : F22 ((n : Int), (dir, o), (f : Int), c, u, d) = F23 ((n : Int), (dir, o), (f : Int), c, u, d) := by
  obtain ⟨ab, be, s, hv⟩ := scene h
  rw [rspent' h s]
  unfold F22
  simp only
  rw [h.proper, hv]
  simp only
  generalize (bit (cA n c) f && (oo n f o c u d ab be != 0)) = b1
  generalize (bit (cU n u) f && m2 (oo n f o c u d ab be)) = b2
  generalize (bit (cD n d) f && m3 (oo n f o c u d ab be)) = b3
  cases b1 <;> cases b2 <;> cases b3 <;> rfl
end
theorem proper_guard (n : Int) (w : Int × Int) (f : Int) : (((((decide (n < (2 : Int))) || (decide (n > (32 : Int)))) || (decide (f < (0 : Int)))) || (decide (f ≥ n))) || (!(F25 w))) = !F17 (n, w, f) := by
  rw [Bool.eq_iff_iff]
  unfold F25 F17 F24
  simp only [Bool.or_eq_true, Bool.not_eq_true', Bool.and_eq_false_iff, decide_eq_true_eq, decide_eq_false_iff_not]
  omega
theorem same_true (n dir o f c u d : Int) (hc : W c) (hu : W u) (hd : W d) : F16 (n, ((dir, o), f), c, u, d) = true := by
  have key : F9 (n, (dir, o), f, c, u, d) = F20 (n, (dir, o), f, c, u, d) ∧ F14 (n, (dir, o), f, c, u, d) = F21 (n, (dir, o), f, c, u, d) ∧ F22 (n, (dir, o), f, c, u, d) = F23 (n, (dir, o), f, c, u, d) := by
    cases hp : F17 (n, (dir, o), f) with
    | false =>
      have hg := proper_guard n (dir, o) f
      rw [hp] at hg
      refine ⟨?_, ?_, ?_⟩
      · unfold F9 F20
        simp only
        rw [hp, hg]; rfl
      · unfold F14 F21
        simp only
        rw [hp, hg]; rfl
      · unfold F22 F23
        simp only
        rw [hp, hg]; rfl
    | true =>
      unfold F17 F24 at hp
      simp only [Bool.and_eq_true, decide_eq_true_eq] at hp
      obtain ⟨n', rfl⟩ := Int.eq_ofNat_of_zero_le (show 0 ≤ n by omega)
      obtain ⟨f', rfl⟩ := Int.eq_ofNat_of_zero_le (show 0 ≤ f by omega)
      have hok : Ok n' f' dir o c u d := ⟨by omega, by omega, by omega, by omega, by omega, hc, hu, hd⟩
      exact ⟨Choose_eq hok, Next_eq hok, Spent_eq hok⟩
  unfold F16
  simp only
  rw [key.1, key.2.1, key.2.2]
  have hs : F24 (dir, o) = F25 (dir, o) := rfl
  rw [hs]
  simp only [beq_self_eq_true, Bool.and_self]
theorem sane_true : F11 () = true := by kernel_rfl
theorem W_of {x : Int} (h : (Lit.int .u32 x).wf = true) : W x := by
  simp only [Lit.wf, Bool.and_eq_true, decide_eq_true_eq] at h
  have h1 : (0 : Int) ≤ x := h.1
  have h2 : x ≤ (4294967295 : Int) := h.2
  unfold W; omega
theorem law_chooses (x : ct7.p.den) (h : InR ct7.p x) : ct7.F x = true := by
  obtain ⟨m, ⟨⟨dir, o⟩, f⟩, c, u, d⟩ := x
  obtain ⟨_, _, hc, hu, hd⟩ := h
  have hc := W_of hc
  have hu := W_of hu
  have hd := W_of hd
  show F7 (m, ((dir, o), f), c, u, d) = true
  unfold F7
  simp only
  generalize IntKind.i64.wrap ((2 : Int) + (IntKind.i64.wrap (Int.tmod m (31 : Int)))) = n
  have h9 : ∀ n f dr o, R7_9 (n, f, dr, c, u, d) o = none := fun n f dr o => ret_none (fun _ => True) (fun x _ => by
    unfold st7_9 K7_9_1
    simp only
    rw [same_true n dr x f c u d hc hu hd]
    have h8 : F8 ((c, u, d), 4) = (and32 c (allm (IntKind.u64.wrap 4)), and32 u (allm (IntKind.u64.wrap 4)), and32 d (allm (IntKind.u64.wrap 4))) := rfl
    rw [h8, same_true n dr x f _ _ _ (W_and _ _) (W_and _ _) (W_and _ _)]
    rw [same_true n dr x f _ _ _ (W_and _ _) (W_and _ _) W.zero]
    cases decide (x < 8) <;> simp) _ _ trivial
  have h6 : ∀ n f dr, R7_6 (n, f, c, u, d) dr = none := fun n f dr => ret_none (fun _ => True) (fun x _ => by
    unfold st7_6
    simp only [h9, optR]
    cases decide (x < 4) <;> simp) _ _ trivial
  have h3 : ∀ n f, R7_3 (n, c, u, d) f = none := fun n f => ret_none (fun _ => True) (fun x _ => by
    unfold st7_3
    simp only [h6, optR]
    cases decide (x ≤ n) <;> simp) _ _ trivial
  rw [h3, same_true _ _ _ _ c u d hc hu hd, same_true n _ _ _ c u d hc hu hd, sane_true]
  rfl
end Go.Proofs.YtidnlehjabhclaaDoor.Sp
