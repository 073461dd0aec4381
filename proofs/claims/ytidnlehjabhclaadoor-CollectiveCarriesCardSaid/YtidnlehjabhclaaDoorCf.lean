/- Collective: a car moves only for a stop (own work). -/
import Derived.Test.YtidnlehjabhclaaDoorCb
import Derived.Test.YtidnlehjabhclaaDoorG1
namespace Go.Proofs.YtidnlehjabhclaaDoor.Sp
open Go Sy
set_option linter.unusedVariables false
set_option linter.unusedSimpArgs false
set_option maxRecDepth 10000

theorem cU_top {n : Nat} {u : Int} (hn : n ≤ 32) (hu : W u) {i : Nat} (h : bit (cU n u) i = true) : i + 1 < n := by
  rw [bit_cU hn hu, Bool.and_eq_true, decide_eq_true_eq] at h; exact h.2
theorem cD_bot {n : Nat} {d : Int} (hn : n ≤ 32) (hd : W d) {i : Nat} (h : bit (cD n d) i = true) : 0 < i := by
  rw [bit_cD hn hd, Bool.and_eq_true, decide_eq_true_eq] at h; exact h.2.1
theorem cS_lt {n : Nat} {c u d : Int} (hn : n ≤ 32) (hc : W c) (hu : W u) (hd : W d) {i : Nat} (h : bit (cS (cA n c) (cU n u) (cD n d)) i = true) : i < n := by
  have hi : i < 32 := bit_lt (W_cS _ _ _) h
  rw [bit_cS (W_and _ _) (W_and _ _) (W_and _ _) i hi, bit_cA hn hc, bit_cU hn hu, bit_cD hn hd] at h
  simp only [Bool.or_eq_true, Bool.and_eq_true, decide_eq_true_eq] at h
  omega
section
variable {n f : Nat} {dir o c u d ab be : Int}
theorem up_room (h : Ok n f dir o c u d) (s : Sc n f o c u d ab be) (ha : decide (0 < ab) = true) : f + 1 < n := by
  obtain ⟨i, hi, hb⟩ := s.up_iff.1 ha
  have := cS_lt h.n32 h.c h.u h.d hb
  omega
theorem down_room (s : Sc n f o c u d ab be) (ha : decide (0 < be) = true) : 0 < f := by
  obtain ⟨i, hi, hb⟩ := s.down_iff.1 ha
  omega
/-- Is there a stop? -/
def isAt (n : Nat) (c u d : Int) (j : Nat) : Bool := bit (cA n c) j || bit (cU n u) j || bit (cD n d) j
theorem isAt_cS (j : Nat) (hj : j < 32) : bit (cS (cA n c) (cU n u) (cD n d)) j = isAt n c u d j := bit_cS (W_and _ _) (W_and _ _) (W_and _ _) j hj
theorem stops_val (h : Ok n f dir o c u d) (s : Sc n f o c u d ab be) : F10 ((n : Int), (c, u, d), (f : Int)) = (isAt n c u d f, decide (0 < ab), decide (0 < be)) := by
  have hn := h.n32; have hf := h.f
  have hs : ∀ i, i < n → ∃ k', st10_3 ((n : Int), (f : Int), c, u, d) ((fun i : Nat => ((List.range i).any (fun j => isAt n c u d j && j == f), (List.range i).any (fun j => isAt n c u d j && decide (j > f)), (List.range i).any (fun j => isAt n c u d j && decide (j < f)), (i : Int))) i) =
      .next k' ((fun i : Nat => ((List.range i).any (fun j => isAt n c u d j && j == f), (List.range i).any (fun j => isAt n c u d j && decide (j > f)), (List.range i).any (fun j => isAt n c u d j && decide (j < f)), (i : Int))) (i + 1)) := by
    intro i hi
    refine ⟨((n : Int), (f : Int), c, u, d), ?_⟩
    unfold st10_3
    simp only
    rw [show decide ((i : Int) < (n : Int)) = true from by simp; omega, cond_true, uwrap i (by omega), ask_bit h.c i, rhas_up h.u i (by omega), rhas_down h.d i (by omega)]
    rw [wrap_i64_of (x := (n : Int) - 1) (by omega) (by omega), wrap_i64_of (x := (i : Int) + 1) (by omega) (by omega)]
    have hx : ((bit c i || (decide ((i : Int) < (n : Int) - 1) && bit u i)) || (decide ((i : Int) > 0) && bit d i)) = isAt n c u d i := by
      unfold isAt
      rw [bit_cA hn h.c, bit_cU hn h.u, bit_cD hn h.d]
      rw [show decide (i < n) = true from by simp; omega, Bool.and_true]
      congr 1
      · congr 1
        rw [Bool.and_comm]; congr 1
        rw [Bool.eq_iff_iff]; simp; omega
      · rw [Bool.and_comm]; congr 1
        rw [Bool.eq_iff_iff]; simp; omega
    rw [hx]
    have e1 : ((i : Int) == (f : Int)) = (i == f) := by rw [Bool.eq_iff_iff]; simp; omega
    have e2 : decide ((i : Int) > (f : Int)) = decide (i > f) := by rw [Bool.eq_iff_iff]; simp
    have e3 : decide ((i : Int) < (f : Int)) = decide (i < f) := by rw [Bool.eq_iff_iff]; simp
    rw [e1, e2, e3]
    simp only [List.range_succ, List.any_append, List.any_cons, List.any_nil, Bool.or_false, Int.natCast_succ]
  have hb : st10_3 ((n : Int), (f : Int), c, u, d) ((fun i : Nat => ((List.range i).any (fun j => isAt n c u d j && j == f), (List.range i).any (fun j => isAt n c u d j && decide (j > f)), (List.range i).any (fun j => isAt n c u d j && decide (j < f)), (i : Int))) n) =
      .brk ((n : Int), (f : Int), c, u, d) ((fun i : Nat => ((List.range i).any (fun j => isAt n c u d j && j == f), (List.range i).any (fun j => isAt n c u d j && decide (j > f)), (List.range i).any (fun j => isAt n c u d j && decide (j < f)), (i : Int))) n) := by
    unfold st10_3
    simp only
    rw [show decide ((n : Int) < (n : Int)) = false from by simp, cond_false]
  have he := end_row_brk (fun i : Nat => ((List.range i).any (fun j => isAt n c u d j && j == f), (List.range i).any (fun j => isAt n c u d j && decide (j > f)), (List.range i).any (fun j => isAt n c u d j && decide (j < f)), (i : Int))) n hs hb (fuel := Nat.succ (mu10_3 ((n : Int), (f : Int), c, u, d) (false, false, false, 0))) (by
    show n < Nat.succ ((n : Int) - 0).toNat
    omega)
  have hG : G10_3 ((n : Int), (f : Int), c, u, d) (false, false, false, 0) = ((List.range n).any (fun j => isAt n c u d j && j == f), (List.range n).any (fun j => isAt n c u d j && decide (j > f)), (List.range n).any (fun j => isAt n c u d j && decide (j < f)), (n : Int)) := by
    first | exact he.1 | exact he
  unfold F10
  simp only
  rw [hG]
  refine Prod.ext ?_ (Prod.ext ?_ ?_)
  · show (List.range n).any (fun j => isAt n c u d j && j == f) = isAt n c u d f
    rw [Bool.eq_iff_iff, List.any_eq_true]
    constructor
    · rintro ⟨j, _, hj⟩
      rw [Bool.and_eq_true, beq_iff_eq] at hj
      rw [← hj.2]; exact hj.1
    · intro hj
      exact ⟨f, List.mem_range.2 hf, by rw [hj]; simp⟩
  · show (List.range n).any (fun j => isAt n c u d j && decide (j > f)) = decide (0 < ab)
    rw [Bool.eq_iff_iff, s.up_iff, List.any_eq_true]
    constructor
    · rintro ⟨j, hm, hj⟩
      rw [Bool.and_eq_true, decide_eq_true_eq] at hj
      exact ⟨j, hj.2, by rw [isAt_cS j (by have := List.mem_range.1 hm; omega)]; exact hj.1⟩
    · rintro ⟨j, hj, hb⟩
      have hl := cS_lt hn h.c h.u h.d hb
      rw [isAt_cS j (by omega)] at hb
      exact ⟨j, List.mem_range.2 hl, by rw [hb]; simp; omega⟩
  · show (List.range n).any (fun j => isAt n c u d j && decide (j < f)) = decide (0 < be)
    rw [Bool.eq_iff_iff, s.down_iff, List.any_eq_true]
    constructor
    · rintro ⟨j, hm, hj⟩
      rw [Bool.and_eq_true, decide_eq_true_eq] at hj
      exact ⟨j, hj.2, by rw [isAt_cS j (by have := List.mem_range.1 hm; omega)]; exact hj.1⟩
    · rintro ⟨j, hj, hb⟩
      have hl := cS_lt hn h.c h.u h.d hb
      rw [isAt_cS j (by omega)] at hb
      exact ⟨j, List.mem_range.2 hl, by rw [hb]; simp; omega⟩
end
theorem bit_test : ∀ o, o < 8 → ∀ r, r < 3 → ((IntKind.i64.wrap ((BitVec.ofInt IntKind.i64.bits (Int.fdiv ((o : Nat) : Int) (2 ^ (min ((IntKind.u64.wrap ((r : Nat) : Int))).toNat IntKind.i64.bits))) &&& BitVec.ofInt IntKind.i64.bits (1 : Int)).toNat : Int)) == (1 : Int)) = o.testBit r := by decide +kernel
theorem round_moves {n f : Nat} {dir o : Nat} {l : List (Int × Int × Int)} {x : Int} (hx : 0 ≤ x) (hn2 : 2 ≤ n) (hn : n ≤ 32) (hf : f < n) (hd : dir < 3) (ho : o < 8) (h3l : l.length ≤ 3) (hW : ∀ p ∈ l, W p.1 ∧ W p.2.1 ∧ W p.2.2) :
    match st3_10 ((n : Int), (f : Int), (dir : Int), (o : Int), l, (l.length : Int)) x with | .next _ y => 0 ≤ y | .brk _ _ => True | .ret _ => False := by
  unfold st3_10
  simp only
  cases hl : decide (x < (l.length : Int)) with
  | false => rw [cond_false]; trivial
  | true =>
    rw [cond_true]
    rw [decide_eq_true_eq] at hl
    have hm := hW (nthT l x) (by rw [nthT_of l x hx hl]; exact List.getElem_mem _)
    generalize nthT l x = p at hm ⊢
    obtain ⟨c, u, d⟩ := p
    have hok : Ok n f (dir : Int) (o : Int) c u d := ⟨hn2, hn, hf, by omega, by omega, hm.1, hm.2.1, hm.2.2⟩
    obtain ⟨ab, be, s, hC, _⟩ := Choose_ch hok
    have hS := stops_val hok s
    rw [hC, hS]
    have ht : ((((f : Int) == IntKind.i64.wrap ((n : Int) - 1)) && (bit (cU n u) f || decide (0 < ab))) = false) := by
      rw [wrap_i64_of (x := (n : Int) - 1) (by omega) (by omega), Bool.and_eq_false_iff]
      rcases Nat.lt_or_ge (f + 1) n with hlt | hge
      · left; simp; omega
      · right
        rw [Bool.or_eq_false_iff]
        constructor
        · cases hb : bit (cU n u) f with
          | false => rfl
          | true => have := cU_top hn hm.2.1 hb; omega
        · cases ha : decide (0 < ab) with
          | false => rfl
          | true => have := up_room hok s ha; omega
    have he : ((((f : Int) == 0) && (bit (cD n d) f || decide (0 < be))) = false) := by
      rw [Bool.and_eq_false_iff]
      rcases Nat.lt_or_ge 0 f with hlt | hge
      · left; simp; omega
      · right
        rw [Bool.or_eq_false_iff]
        constructor
        · cases hb : bit (cD n d) f with
          | false => rfl
          | true => have := cD_bot hn hm.2.2 hb; omega
        · cases ha : decide (0 < be) with
          | false => rfl
          | true => have := down_room s ha; omega
    have h4 := S4 dir hd o ho _ _ (bit (cA n c) f) (bit (cU n u) f) (bit (cD n d) f) (decide (0 < ab)) (decide (0 < be)) (decide (be ≥ ab)) ht he
    unfold isAt
    generalize ch (dir : Int) (o : Int) (bit (cA n c) f) (bit (cU n u) f) (bit (cD n d) f) (decide (0 < ab)) (decide (0 < be)) (decide (be ≥ ab)) = C at h4 ⊢
    generalize (bit (cA n c) f) = A at h4 ⊢
    generalize (bit (cU n u) f) = U at h4 ⊢
    generalize (bit (cD n d) f) = D at h4 ⊢
    generalize decide (0 < ab) = a at h4 ⊢
    generalize decide (0 < be) = b at h4 ⊢
    generalize ((f : Int) == IntKind.i64.wrap ((n : Int) - 1)) = t at h4 ⊢
    generalize ((f : Int) == 0) = e at h4 ⊢
    obtain ⟨p, q, r⟩ := C
    unfold okM at h4
    simp only [Bool.or_eq_true, Bool.and_eq_true, beq_iff_eq, Bool.not_eq_true', decide_eq_true_eq, Prod.mk.injEq] at h4
    have hx1 : 0 ≤ IntKind.i64.wrap (x + 1) := by rw [wrap_i64_of (x := x + 1) (by omega) (by omega)]; omega
    rcases h4 with ((⟨rfl, ⟨ha, rfl⟩, rfl⟩ | ⟨rfl, ⟨ha, rfl⟩, rfl⟩) | ⟨rfl, ⟨⟨⟨⟨hA, rfl⟩, h1⟩, h2⟩, h3⟩, h5⟩) | ⟨rfl, ⟨⟨hA, ha⟩, hb⟩, _, rfl, rfl⟩
    · simp [ha, hx1]
    · simp [ha, hx1]
    · obtain ⟨r', rfl⟩ := Int.eq_ofNat_of_zero_le h5.1
      rw [bit_test o ho r' (by omega)]
      rw [Int.toNat_natCast] at h3
      have hA' : (A || U || D) = true := by simpa [Bool.or_eq_true, or_assoc] using hA
      simp [hA', h1, h2, h3, hx1]
    · have hA' : (A || U || D) = false := hA
      simp [hA', ha, hb, hx1]
/-- Numbers of floors. -/
theorem floors31 {m : Int} (h0 : 0 ≤ m) (h1 : m ≤ 255) : ∃ n : Nat, 2 ≤ n ∧ n ≤ 32 ∧ IntKind.i64.wrap ((2 : Int) + (IntKind.i64.wrap (Int.tmod m (31 : Int)))) = (n : Int) := by
  refine ⟨(2 + m % 31).toNat, by omega, by omega, ?_⟩
  rw [tmod_lit, if_pos h0, wrap_i64_of (x := m % 31) (by omega) (by omega), wrap_i64_of (by omega) (by omega)]
  omega
theorem floors9 {m : Int} (h0 : 0 ≤ m) (h1 : m ≤ 255) : ∃ n : Nat, 2 ≤ n ∧ n ≤ 10 ∧ IntKind.i64.wrap ((2 : Int) + (IntKind.i64.wrap (Int.tmod m (9 : Int)))) = (n : Int) := by
  refine ⟨(2 + m % 9).toNat, by omega, by omega, ?_⟩
  rw [tmod_lit, if_pos h0, wrap_i64_of (x := m % 9) (by omega) (by omega), wrap_i64_of (by omega) (by omega)]
  omega
theorem floor_of (p : Int) {n : Nat} (h : 1 ≤ n) (hn : n ≤ 32) : ∃ f : Nat, f < n ∧ IntKind.i64.wrap (Int.tmod (IntKind.u64.wrap p) (IntKind.u64.wrap (n : Int))) = (f : Int) := by
  have h0 : 0 ≤ IntKind.u64.wrap p := by rw [IntKind.wrap_u64]; omega
  rw [wrap_u64_of (x := (n : Int)) (by omega) (by omega), Int.tmod_eq_emod_of_nonneg h0]
  have h1 := Int.emod_nonneg (IntKind.u64.wrap p) (show (n : Int) ≠ 0 by omega)
  have h2 := Int.emod_lt_of_pos (IntKind.u64.wrap p) (show (0 : Int) < n by omega)
  refine ⟨(IntKind.u64.wrap p % (n : Int)).toNat, by omega, ?_⟩
  rw [wrap_i64_of (by omega) (by omega)]
  omega
theorem u8_of {x : Int} (h : (Lit.int .u8 x).wf = true) : 0 ≤ x ∧ x ≤ 255 := by
  simp only [Lit.wf, Bool.and_eq_true, decide_eq_true_eq] at h
  exact ⟨h.1, h.2⟩
theorem law_moves (x : ct3.p.den) (h : InR ct3.p x) : ct3.F x = true := by
  obtain ⟨m, ⟨⟨dir, o⟩, fl⟩, c, u, d⟩ := x
  obtain ⟨hm, _, hc, hu, hd⟩ := h
  have hc := W_of hc
  have hu := W_of hu
  have hd := W_of hd
  have hm := u8_of hm
  show F3 (m, ((dir, o), fl), c, u, d) = true
  unfold F3
  simp only
  obtain ⟨n, hn2, hn, hne⟩ := floors31 hm.1 hm.2
  obtain ⟨f, hf, hfe⟩ := floor_of fl (n := n) (by omega) hn
  rw [hne, hfe]
  have h10 : ∀ dr o : Nat, dr < 3 → o < 8 → ∀ l : List (Int × Int × Int), l.length ≤ 3 → (∀ p ∈ l, W p.1 ∧ W p.2.1 ∧ W p.2.2) → R3_10 ((n : Int), (f : Int), (dr : Int), (o : Int), l, (l.length : Int)) 0 = none := fun dr o hdr ho l hl hW =>
    ret_none (fun x => 0 ≤ x) (fun x hx => by
      have hr := round_moves (x := x) hx hn2 hn hf hdr ho hl hW
      cases hB : st3_10 ((n : Int), (f : Int), (dr : Int), (o : Int), l, (l.length : Int)) x <;> rw [hB] at hr <;> exact hr) _ _ (by omega)
  have h7 : ∀ dr : Nat, dr < 3 → R3_7 ((n : Int), (f : Int), (dr : Int), c, u, d) 0 = none := fun dr hdr => ret_none (fun x => 0 ≤ x) (fun x hx => by
    unfold st3_7
    simp only
    cases hl : decide (x < 8) with
    | false => rw [cond_false]; trivial
    | true =>
      rw [decide_eq_true_eq] at hl
      obtain ⟨o, rfl⟩ := Int.eq_ofNat_of_zero_le hx
      rw [cond_true]
      have hl3 := h10 dr o hdr (by omega)
        [(c, u, d), F8 ((c, u, d), 3), (and32 c u, 0, and32 d c)] (by simp) (by
          intro p hp
          simp only [List.mem_cons, List.not_mem_nil, or_false] at hp
          rcases hp with rfl | rfl | rfl
          · exact ⟨hc, hu, hd⟩
          · exact ⟨W_and _ _, W_and _ _, W_and _ _⟩
          · exact ⟨W_and _ _, W.zero, W_and _ _⟩)
      rw [hl3, optR_none]
      show 0 ≤ IntKind.i64.wrap ((o : Int) + 1)
      rw [wrap_i64_of (by omega) (by omega)]; omega) _ _ (by omega)
  have h4 : R3_4 ((n : Int), (f : Int), c, u, d) 0 = none := ret_none (fun x => 0 ≤ x) (fun x hx => by
    unfold st3_4
    simp only
    cases hl : decide (x < 3) with
    | false => rw [cond_false]; trivial
    | true =>
      rw [decide_eq_true_eq] at hl
      obtain ⟨dr, rfl⟩ := Int.eq_ofNat_of_zero_le hx
      rw [cond_true, h7 dr (by omega), optR_none]
      show 0 ≤ IntKind.i64.wrap ((dr : Int) + 1)
      rw [wrap_i64_of (by omega) (by omega)]; omega) _ _ (by omega)
  rw [h4, optR_none, sane_true]
end Go.Proofs.YtidnlehjabhclaaDoor.Sp
