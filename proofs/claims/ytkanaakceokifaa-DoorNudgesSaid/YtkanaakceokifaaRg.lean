/- A region that draws its order: reads and calls that only make memory, then writes one behind the other (own work, over the kit's lemmas on heads and tails of a region). -/
import Derived.Test.YtkanaakceokifaaAid
import Derived.StillTail
import Derived.Deep.RegionWith
namespace Go.Proofs.Ytkanaakceokifaa
open Go.RowKit
set_option linter.unusedSimpArgs false

section
variable {P : Program} {ops : Array Oper} {md : Region.Mode} {C : World → Prop}

/-- The first f operations that come up all lie ahead of n, whatever the order, and each is quiet; then L. -/
def headQ (P : Program) (md : Region.Mode) (ops : Array Oper) (C : World → Prop) (n : Nat) (L : Array Bool → Act → Prop) : Nat → Array Bool → Act → Prop
  | 0, u, a => L u a
  | f + 1, u, a => Region.ready md ops u ≠ [] ∧ ∀ i ∈ Region.ready md ops u, i < n ∧ qOp P ops C i (headQ P md ops C n L f (u.setIfInBounds i true)) a

theorem headQ_any {n g : Nat} {L : Array Bool → Act → Prop} {R : Exit → Act → World → Prop} (hL : ∀ u a w, C w → L u a → wpAny P md ops R g u a w) (f : Nat) :
    ∀ (u : Array Bool) (a : Act) (w : World), C w → headQ P md ops C n L f u a → wpAny P md ops R (f + g) u a w := by
  induction f with
  | zero => intro u a w hw h; rw [Nat.zero_add]; exact hL _ _ _ hw h
  | succ f ih =>
    intro u a w hw h
    rw [show f + 1 + g = (f + g) + 1 by omega]
    exact ⟨fun h0 => absurd h0 h.1, fun i hi => wpOp_of_qOp hw (fun a' w' hw' h' => ih _ a' w' hw' h') (h.2 i hi).2⟩

theorem headQ_take {n i : Nat} {o : Oper} {v : Value} {L : Array Bool → Act → Prop} (hi : ops[i]? = some o) (hsel : ∀ (j : Nat) (o : Oper) cs b, ops[j]? = some o → o.op ≠ .select cs b)
    (hs : Region.sinkB md ops n = true) (hc : Region.chainB md ops n = true) (hn : n < ops.size) (hin : i < n) (hdone : ∀ u a, L u a → ∀ j ∈ Region.ready md ops u, n ≤ j) (f : Nat) :
    ∀ (u : Array Bool) (a : Act), HeadInv md ops n u →
      (∀ j oj, ops[j]? = some oj → j ≠ i → u.getD j true = false → (∀ e ∈ oj.after, Region.binds md e = true → e.on ≠ i) → o.apart ops oj = true) →
      i ∈ Region.ready md ops u → YieldsIn P ops C o v a →
      headQ P md ops C n L f (u.setIfInBounds i true) (a.put o.dst v) → headQ P md ops C n L (f + 1) u a := by
  induction f with
  | zero =>
    intro u a inv _ hr hy H
    refine ⟨fun h => by simp [h] at hr, fun j hj => ?_⟩
    have hjn : j < n := Nat.lt_of_not_le fun h => tail_waits hs hc hn inv _ i rfl hin (mem_ready.1 hr).1 j h hj
    refine ⟨hjn, ?_⟩
    by_cases hji : j = i
    · subst hji; exact hy.qOp hi H
    · exact absurd (hdone _ _ H j (ready_mono hj hji)) (by omega)
  | succ f ih =>
    intro u a inv hap hr hy H
    have hun := (mem_ready.1 hr).1
    refine ⟨fun h => by simp [h] at hr, fun j hj => ?_⟩
    have hjn : j < n := Nat.lt_of_not_le fun h => tail_waits hs hc hn inv _ i rfl hin hun j h hj
    refine ⟨hjn, ?_⟩
    by_cases hji : j = i
    · subst hji; exact hy.qOp hi H
    obtain ⟨hju, oj, hoj, hall⟩ := mem_ready.1 hj
    have hnot : ∀ e ∈ oj.after, Region.binds md e = true → e.on ≠ i := by
      intro e he hb heq
      have h1 := hall e he hb
      rw [heq, getD_both hun] at h1
      simp at h1
    have h2 := qOp_put hoj (hap j oj hoj hji hju hnot) (fun cs b => hsel i o cs b hi) (fun cs b => hsel j oj cs b hoj) hy (H.2 j (ready_mono hj hji)).2
    refine qOp_mono (fun a' h3 => ih _ a' (inv.set hj hjn) (fun k ok hk hki hku hno => hap k ok hk hki ?_ hno) (ready_mono hr (Ne.symm hji)) h3.1 ?_) h2
    · by_cases hjk : j = k
      · subst hjk; exact hju
      · rwa [getD_set_ne true hjk] at hku
    · rw [Array.setIfInBounds_comm _ _ hji]; exact h3.2

theorem headQ_lex {n g : Nat} {R : Act → Prop} (hsel : Region.noSelect ops = true) (hs : Region.sinkB md ops n = true) (hc : Region.chainB md ops n = true) (hn : n < ops.size) (l : List Oper) :
    ∀ (k : Nat) (u : Array Bool) (a : Act), (∀ j, j < l.length → l[j]? = ops[k + j]?) → k + l.length = n → HeadInv md ops n u →
    Region.lexHead md ops g l.length k u = true → wpQuiet P ops C R l a → headQ P md ops C n (fun u' a' => Region.seqB md ops g n u' = true ∧ R a') l.length u a := by
  induction l with
  | nil =>
    intro k u a _ hk _ hB h
    obtain rfl : k = n := by simpa using hk
    exact ⟨by simpa [Region.lexHead] using hB, h⟩
  | cons o l ih =>
    intro k u a hl hk inv hB h
    have h0 : ops[k]? = some o := by simpa using (hl 0 (by simp)).symm
    simp only [List.length_cons, Region.lexHead, Bool.and_eq_true] at hB
    simp only [List.length_cons] at hk
    have hr : k ∈ Region.ready md ops u := by simpa using hB.1.1
    have hq : qOp P ops C k (wpQuiet P ops C R l) a := by unfold qOp; simp only [h0]; exact h
    obtain ⟨v, hy, hK⟩ := yieldsIn_of_qOp h0 hq
    exact headQ_take h0 (Region.noSelect_spec hsel) hs hc hn (by omega) (fun u' a' hL => seqB_ready hL.1) l.length u a inv (Region.free_spec h0 hB.1.2) hr hy
      (ih (k + 1) _ _ (fun j hj => by have := hl (j + 1) (by simp; omega); simpa [Nat.add_assoc, Nat.add_comm 1 j] using this) (by omega) (inv.set hr (by omega)) hB.2 hK)
end

/-- The region: n operations that read or call, then the rest in its one order. -/
theorem wp_region_tail {P : Program} {id : Nat} {Q : Exit → Act → World → Prop} {a : Act} {w : World} {l : List Oper} (n : Nat) (hm : P.follows .mixedOrders = true) (hB : Region.lexTailB .any l.toArray n = true)
    (h : wpQuiet P l.toArray (fun w' => ∃ g, w' = ext w g) (fun a' => ∀ w', (∃ g, w' = ext w g) → wpList P l.toArray Q (l.drop n) a' w') (l.take n) a) : (Code.region id l.toArray true).wp P Q a w := by
  simp only [Region.lexTailB, Bool.and_eq_true, decide_eq_true_eq] at hB
  obtain ⟨⟨⟨⟨hsel, hn⟩, hs⟩, hc⟩, hlex⟩ := hB
  have hn' : n < l.length := by simpa using hn
  have htl : (l.take n).length = n := by simp; omega
  have hdl : (l.drop n).length = l.toArray.size - n := by simp
  have inv : HeadInv .any l.toArray n (Array.replicate l.toArray.size false) :=
    ⟨by simp, fun j oj _ hl => (by rw [getD_replicate_false] at hl; cases hl), fun t _ ht => getD_in (by simpa using ht) (getD_replicate_false _ _)⟩
  have H := headQ_lex (md := .any) (g := l.toArray.size - n) hsel hs hc hn (l.take n) 0 _ a (fun j hj => by rw [htl] at hj; simp [hj]) (by simpa using htl) inv (by rw [htl]; exact hlex) h
  refine wp_region_any hm ?_
  have := headQ_any (g := l.toArray.size - n) (R := Q) (fun u a' w' hw hL => by
    have := wpAny_of_seq (md := .any) (Q' := Q) (l.drop n) n u a' w' (fun j => by simp [List.getElem?_drop]) (by rw [hdl]; exact hL.1) (hL.2 w' hw)
    rwa [hdl] at this) _ _ _ _ ⟨_, drew_is_ext w⟩ H
  rw [htl, show n + (l.toArray.size - n) = l.toArray.size by omega] at this
  exact this

/-! ### The same where some of the head's operations may come up behind the first write: moves, assignments and components of tuples, which yield in whatever world -/
def lateKind (o : Oper) : Bool := match o.op with | .move _ => true | .assign _ => true | .extract _ _ => true | _ => false

theorem run_extract_any {P : Program} {ρ : Operand → Value} {o : Oper} (x : Operand) (k : Nat) (h : o.op = .extract x k) {w0 : World} {v : Value} {C : World → Prop}
    (h0 : Oper.quietUpon P C w0 v ((execOp ρ o).run P w0)) (w : World) : (execOp ρ o).run P w = .ok (.value v) w := by
  simp only [execOp, h, Instr.extract] at h0 ⊢
  cases hx : ρ x <;> simp_all [Oper.quietUpon, go_sem]
  rename_i vs
  cases hk : vs[k]? <;> simp_all [Oper.quietUpon, go_sem]

section
variable {P : Program} {ops : Array Oper} {md : Region.Mode} {C : World → Prop}

/-- For the indices i .. n: must the operation have come up when n comes up? (from the top) -/
def mustList (md : Region.Mode) (ops : Array Oper) (n : Nat) : Nat → List Bool
  | 0 => [true]
  | k + 1 =>
    let r := mustList md ops n k
    (r.zipIdx.any fun x => x.1 && Region.waitsFor md ops (n - k + x.2) (n - k - 1)) :: r
def mustB (md : Region.Mode) (ops : Array Oper) (n i : Nat) : Bool := (mustList md ops n n).getD i true
def sink2B (md : Region.Mode) (ops : Array Oper) (n : Nat) : Bool :=
  let l := mustList md ops n n
  l.getD n true && (List.range n).all fun i => if l.getD i true then (List.range (n + 1)).any fun j => decide (i < j) && l.getD j true && Region.waitsFor md ops j i
    else (match ops[i]? with | some o => lateKind o | none => false)

theorem sink2_spec {n i : Nat} (h : sink2B md ops n = true) (hi : i < n) :
    (mustB md ops n i = true ∧ ∃ j, i < j ∧ j ≤ n ∧ mustB md ops n j = true ∧ Region.waitsFor md ops j i = true) ∨ (mustB md ops n i = false ∧ ∀ o, ops[i]? = some o → lateKind o = true) := by
  simp only [sink2B, Bool.and_eq_true, List.all_eq_true, List.mem_range] at h
  have h1 := h.2 i hi
  cases hm : mustB md ops n i
  · right
    refine ⟨rfl, fun o ho => ?_⟩
    unfold mustB at hm
    rw [hm] at h1
    simpa [ho] using h1
  · left
    refine ⟨rfl, ?_⟩
    have hm' := hm
    unfold mustB at hm'
    rw [hm'] at h1
    simp only [if_true] at h1
    obtain ⟨j, hj, hj2⟩ := List.any_eq_true.1 h1
    simp only [Bool.and_eq_true, decide_eq_true_eq] at hj2
    exact ⟨j, hj2.1.1, by have := List.mem_range.1 hj; omega, hj2.1.2, hj2.2⟩

theorem tail_waits2 {n : Nat} {u : Array Bool} (hs : sink2B md ops n = true) (hc : Region.chainB md ops n = true) (hn : n < ops.size) (inv : HeadInv md ops n u) (d : Nat) :
    ∀ (i : Nat), n - i = d → i < n → mustB md ops n i = true → u.getD i true = false → ∀ t, n ≤ t → t ∉ Region.ready md ops u := by
  induction d using Nat.strongRecOn with
  | _ d ih =>
    intro i hd hi hm hun t ht hr
    obtain ⟨_, ot, hot, hall⟩ := mem_ready.1 hr
    have htlt : t < ops.size := (Array.getElem?_eq_some_iff.1 hot).1
    by_cases htn : t = n
    · subst htn
      rcases sink2_spec hs hi with ⟨_, j, hij, hjt, hmj, hw⟩ | ⟨h, _⟩
      · obtain ⟨oj, hoj, e, he, hb, hon⟩ := Region.waitsFor_spec hw
        by_cases hjt' : j = t
        · subst hjt'
          obtain rfl : oj = ot := Option.some.inj (hoj.symm.trans hot)
          have h2 := hall e he hb
          rw [hon, getD_both hun] at h2
          cases h2
        · cases hl : u.getD j false with
          | true =>
            have h2 := inv.closed j oj hoj hl e he hb
            rw [hon, getD_both hun] at h2
            cases h2
          | false =>
            have hjs : j < u.size := by rw [inv.size]; omega
            exact ih (t - j) (by omega) j rfl (by omega) hmj (getD_in hjs hl) t (Nat.le_refl _) hr
      · rw [hm] at h; cases h
    · have h1 := List.all_eq_true.1 hc t (List.mem_range.2 htlt)
      simp only [Bool.or_eq_true, decide_eq_true_eq] at h1
      rcases h1 with h1 | h1
      · omega
      · obtain ⟨o', ho', e, he, hb, hon⟩ := Region.waitsFor_spec h1
        obtain rfl : o' = ot := Option.some.inj (ho'.symm.trans hot)
        have h2 := hall e he hb
        rw [hon, getD_both (inv.tail (t - 1) (by omega) (by omega))] at h2
        cases h2

/-- The head, where the tail may begin ahead of late operations. -/
def headX (P : Program) (md : Region.Mode) (ops : Array Oper) (C : World → Prop) (n g : Nat) (R : Exit → Act → World → Prop) : Nat → Array Bool → Act → Prop
  | 0, u, a => Region.seqB md ops g n u = true ∧ ∀ w, C w → wpAny P md ops R g u a w
  | f + 1, u, a => Region.ready md ops u ≠ [] ∧ ∀ i ∈ Region.ready md ops u,
      (i < n ∧ qOp P ops C i (headX P md ops C n g R f (u.setIfInBounds i true)) a) ∨ (n ≤ i ∧ ∀ w, C w → wpAny P md ops R (f + 1 + g) u a w)

theorem headX_any {n g : Nat} {R : Exit → Act → World → Prop} (f : Nat) : ∀ (u : Array Bool) (a : Act) (w : World), C w → headX P md ops C n g R f u a → wpAny P md ops R (f + g) u a w := by
  induction f with
  | zero => intro u a w hw h; rw [Nat.zero_add]; exact h.2 w hw
  | succ f ih =>
    intro u a w hw h
    have e : f + 1 + g = (f + g) + 1 := by omega
    rw [e]
    refine ⟨fun h0 => absurd h0 h.1, fun i hi => ?_⟩
    rcases h.2 i hi with ⟨_, h1⟩ | ⟨_, h1⟩
    · exact wpOp_of_qOp hw (fun a' w' hw' h' => ih _ a' w' hw' h') h1
    · have := h1 w hw
      rw [e] at this
      exact this.2 i hi

theorem headX_take {n g i : Nat} {o : Oper} {v : Value} {R : Exit → Act → World → Prop} (hi : ops[i]? = some o) (hsel : ∀ (j : Nat) (o : Oper) cs b, ops[j]? = some o → o.op ≠ .select cs b)
    (hs : sink2B md ops n = true) (hc : Region.chainB md ops n = true) (hn : n < ops.size) (hin : i < n) (hR : ∀ c a w, R (.panic c) (a.put o.dst v) w → R (.panic c) a w)
    (hlate : ∀ a, mustB md ops n i = false → YieldsIn P ops C o v a → Yields P ops o v a) (f : Nat) :
    ∀ (u : Array Bool) (a : Act), HeadInv md ops n u →
      (∀ j oj, ops[j]? = some oj → j ≠ i → u.getD j true = false → (∀ e ∈ oj.after, Region.binds md e = true → e.on ≠ i) → o.apart ops oj = true) →
      i ∈ Region.ready md ops u → YieldsIn P ops C o v a →
      headX P md ops C n g R f (u.setIfInBounds i true) (a.put o.dst v) → headX P md ops C n g R (f + 1) u a := by
  induction f with
  | zero =>
    intro u a inv hap hr hy H
    have hun := (mem_ready.1 hr).1
    refine ⟨fun h => by simp [h] at hr, fun j hj => ?_⟩
    by_cases hji : j = i
    · subst hji; exact .inl ⟨hin, hy.qOp hi H⟩
    have hjn : n ≤ j := seqB_ready H.1 j (ready_mono hj hji)
    cases hm : mustB md ops n i
    · refine .inr ⟨hjn, fun w hw => ?_⟩
      have := wpAny_first (Q := R) hi hsel hR g u a w hap hr (hlate a hm hy) (by simpa using H.2 w hw)
      rwa [show 0 + 1 + g = g + 1 by omega]
    · exact absurd hj (tail_waits2 hs hc hn inv _ i rfl hin hm hun j hjn)
  | succ f ih =>
    intro u a inv hap hr hy H
    have hun := (mem_ready.1 hr).1
    refine ⟨fun h => by simp [h] at hr, fun j hj => ?_⟩
    by_cases hji : j = i
    · subst hji; exact .inl ⟨hin, hy.qOp hi H⟩
    rcases Nat.lt_or_ge j n with hjn | hjn
    · obtain ⟨hju, oj, hoj, hall⟩ := mem_ready.1 hj
      have hnot : ∀ e ∈ oj.after, Region.binds md e = true → e.on ≠ i := by
        intro e he hb heq
        have h1 := hall e he hb
        rw [heq, getD_both hun] at h1
        simp at h1
      rcases H.2 j (ready_mono hj hji) with ⟨_, h1⟩ | ⟨h1, _⟩
      · have h2 := qOp_put hoj (hap j oj hoj hji hju hnot) (fun cs b => hsel i o cs b hi) (fun cs b => hsel j oj cs b hoj) hy h1
        refine .inl ⟨hjn, qOp_mono (fun a' h3 => ih _ a' (inv.set hj hjn) (fun k ok hk hki hku hno => hap k ok hk hki ?_ hno) (ready_mono hr (Ne.symm hji)) h3.1 ?_) h2⟩
        · by_cases hjk : j = k
          · subst hjk; exact hju
          · rwa [getD_set_ne true hjk] at hku
        · rw [Array.setIfInBounds_comm _ _ hji]; exact h3.2
      · omega
    · cases hm : mustB md ops n i
      · refine .inr ⟨hjn, fun w hw => ?_⟩
        have := wpAny_first (Q := R) hi hsel hR (f + 1 + g) u a w hap hr (hlate a hm hy) (headX_any (f + 1) _ _ w hw H)
        rwa [show f + 1 + 1 + g = f + 1 + g + 1 by omega]
      · exact absurd hj (tail_waits2 hs hc hn inv _ i rfl hin hm hun j hjn)

theorem yields_of_late {o : Oper} {v : Value} {a : Act} (hC : ∃ w, C w) (hk : lateKind o = true) (h : YieldsIn P ops C o v a) : Yields P ops o v a := by
  obtain ⟨w0, hw0⟩ := hC
  rcases h with ⟨hw, hq⟩ | h
  · refine .inl ⟨hw, ?_⟩
    have h0 := hq w0 hw0
    unfold Oper.quietAt at h0
    unfold lateKind at hk
    split at hk
    · rename_i x hx
      rw [BigFrame.run_move x hx] at h0
      simp only [Oper.quietUpon] at h0
      intro w
      rw [BigFrame.run_move x hx, h0.2]
    · rename_i x hx
      rw [BigFrame.run_assign x hx] at h0
      simp only [Oper.quietUpon] at h0
      intro w
      rw [BigFrame.run_assign x hx, h0.2]
    · rename_i x k hx
      exact fun w => run_extract_any x k hx h0 w
    · cases hk
  · exact .inr h

theorem headX_lex {n g : Nat} {R : Exit → Act → World → Prop} (hC : ∃ w, C w) (hsel : Region.noSelect ops = true) (hs : sink2B md ops n = true) (hc : Region.chainB md ops n = true) (hn : n < ops.size)
    (hR : ∀ (c : List PanicEntry) (a : Act) (d : Option Tmp) (v : Value) (w : World), R (.panic c) (a.put d v) w → R (.panic c) a w) (tl : List Oper) (htl : tl.length = g) (ht : ∀ j, tl[j]? = ops[n + j]?) (l : List Oper) :
    ∀ (k : Nat) (u : Array Bool) (a : Act), (∀ j, j < l.length → l[j]? = ops[k + j]?) → k + l.length = n → HeadInv md ops n u →
    Region.lexHead md ops g l.length k u = true → wpQuiet P ops C (fun a' => ∀ w', C w' → wpList P ops R tl a' w') l a → headX P md ops C n g R l.length u a := by
  induction l with
  | nil =>
    intro k u a _ hk _ hB h
    obtain rfl : k = n := by simpa using hk
    have hB' : Region.seqB md ops g k u = true := by simpa [Region.lexHead] using hB
    refine ⟨hB', fun w hw => ?_⟩
    subst htl
    exact wpAny_of_seq tl k u a w ht hB' (h w hw)
  | cons o l ih =>
    intro k u a hl hk inv hB h
    have h0 : ops[k]? = some o := by simpa using (hl 0 (by simp)).symm
    simp only [List.length_cons, Region.lexHead, Bool.and_eq_true] at hB
    simp only [List.length_cons] at hk
    have hr : k ∈ Region.ready md ops u := by simpa using hB.1.1
    have hq : qOp P ops C k (wpQuiet P ops C (fun a' => ∀ w', C w' → wpList P ops R tl a' w') l) a := by unfold qOp; simp only [h0]; exact h
    obtain ⟨v, hy, hK⟩ := yieldsIn_of_qOp h0 hq
    refine headX_take h0 (Region.noSelect_spec hsel) hs hc hn (by omega) (fun c a w => hR c a o.dst v w) (fun a' hm hy' => ?_) l.length u a inv (Region.free_spec h0 hB.1.2) hr hy
      (ih (k + 1) _ _ (fun j hj => by have := hl (j + 1) (by simp; omega); simpa [Nat.add_assoc, Nat.add_comm 1 j] using this) (by omega) (inv.set hr (by omega)) hB.2 hK)
    rcases sink2_spec hs (i := k) (by omega) with ⟨h1, _⟩ | ⟨_, h1⟩
    · rw [hm] at h1; cases h1
    · exact yields_of_late hC (h1 o h0) hy'
end

def lexTail2B (md : Region.Mode) (ops : Array Oper) (n : Nat) : Bool :=
  Region.noSelect ops && decide (n < ops.size) && sink2B md ops n && Region.chainB md ops n && Region.lexHead md ops (ops.size - n) n 0 (Array.replicate ops.size false)

/-- The region: n operations that read or call (or yield in any world), then writes in their one order. -/
theorem wp_region_tail2 {P : Program} {id : Nat} {Q : Exit → Act → World → Prop} {a : Act} {w : World} {l : List Oper} (n : Nat) (hm : P.follows .mixedOrders = true) (hB : lexTail2B .any l.toArray n = true)
    (hR : ∀ (c : List PanicEntry) (a : Act) (d : Option Tmp) (v : Value) (w : World), Q (.panic c) (a.put d v) w → Q (.panic c) a w)
    (h : wpQuiet P l.toArray (fun w' => ∃ g, w' = ext w g) (fun a' => ∀ w', (∃ g, w' = ext w g) → wpList P l.toArray Q (l.drop n) a' w') (l.take n) a) : (Code.region id l.toArray true).wp P Q a w := by
  simp only [lexTail2B, Bool.and_eq_true, decide_eq_true_eq] at hB
  obtain ⟨⟨⟨⟨hsel, hn⟩, hs⟩, hc⟩, hlex⟩ := hB
  have hn' : n < l.length := by simpa using hn
  have htl : (l.take n).length = n := by simp; omega
  have hdl : (l.drop n).length = l.toArray.size - n := by simp
  have inv : HeadInv .any l.toArray n (Array.replicate l.toArray.size false) :=
    ⟨by simp, fun j oj _ hl => (by rw [getD_replicate_false] at hl; cases hl), fun t _ ht => getD_in (by simpa using ht) (getD_replicate_false _ _)⟩
  have H := headX_lex (C := fun w' => ∃ g, w' = ext w g) (md := .any) (g := l.toArray.size - n) ⟨w.drew, _, drew_is_ext w⟩ hsel hs hc hn hR (l.drop n) hdl (fun j => by simp [List.getElem?_drop]) (l.take n) 0 _ a (fun j hj => by rw [htl] at hj; simp [hj]) (by simpa using htl) inv (by rw [htl]; exact hlex) h
  refine wp_region_any hm ?_
  have := headX_any _ _ _ _ ⟨_, drew_is_ext w⟩ H
  rw [htl, show n + (l.toArray.size - n) = l.toArray.size by omega] at this
  exact this
end Go.Proofs.Ytkanaakceokifaa
