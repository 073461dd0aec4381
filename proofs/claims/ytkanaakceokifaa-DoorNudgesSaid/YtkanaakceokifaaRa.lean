/- A region that draws its order and makes one new block for what a call gives: reads and calls, the new block at whatever time, then the writes (own work). -/
import Derived.Test.YtkanaakceokifaaRg
namespace Go.Proofs.Ytkanaakceokifaa
open Go.RowKit
set_option linter.unusedSimpArgs false

def clA (W : World) : World → Prop := fun w' => ∃ g, w' = ext W g
def clB (W : World) (z : Array Value) (T : TypeId) (g1 : Gr) : World → Prop := fun w' => ∃ g, w' = ext ((ext W g1).alloc (.cells z T)) g
def newPtr (W : World) (g1 : Gr) : Value := .pointer (some ⟨W.heap.size + g1.n, 0, none⟩)

section
variable {P : Program} {ops : Array Oper} {md : Region.Mode} {W : World} {z : Array Value} {T : TypeId}

/-- The walk in the order of the text, each operation with one result in both kinds of worlds. -/
def wpBoth (P : Program) (ops : Array Oper) (W : World) (z : Array Value) (T : TypeId) (Q : Act → Prop) : List Oper → Act → Prop
  | [], a => Q a
  | o :: rest, a => if Region.wanted o (yielded ops a.tmps) then ∃ a1, o.quiet P a (clA W) (· = a1) ∧ (∀ g1, o.quiet P a (clB W z T g1) (· = a1)) ∧ wpBoth P ops W z T Q rest a1
      else wpBoth P ops W z T Q rest (a.put o.dst undef)

theorem wpBoth_want {Q : Act → Prop} {o : Oper} {rest : List Oper} {a : Act} (a1 : Act) (hw : Region.wanted o (yielded ops a.tmps) = true) (h1 : o.quiet P a (fun w' => ∃ g, w' = ext W g) (· = a1))
    (h2 : ∀ g1, o.quiet P a (fun w' => ∃ g, w' = ext ((ext W g1).alloc (.cells z T)) g) (· = a1)) (h3 : wpBoth P ops W z T Q rest a1) : wpBoth P ops W z T Q (o :: rest) a := by
  unfold wpBoth; rw [if_pos hw]; exact ⟨a1, h1, h2, h3⟩
theorem wpBoth_skip {Q : Act → Prop} {o : Oper} {rest : List Oper} {a : Act} (hw : Region.wanted o (yielded ops a.tmps) = false) (h3 : wpBoth P ops W z T Q rest (a.put o.dst undef)) : wpBoth P ops W z T Q (o :: rest) a := by
  unfold wpBoth; rw [if_neg (by rw [hw]; simp)]; exact h3
theorem wpBoth_nil {Q : Act → Prop} {a : Act} (h : Q a) : wpBoth P ops W z T Q [] a := h

def dstIn (n : Nat) (o : Oper) : Bool := match o.dst with | some d => decide (d < n) | none => false

theorem put_size (a : Act) (d : Option Tmp) (v : Value) : (a.put d v).tmps.size = a.tmps.size := by cases d <;> simp [Act.put]
theorem put_inj {a : Act} {o : Oper} {v v' : Value} (hd : dstIn a.tmps.size o = true) (h : a.put o.dst v = a.put o.dst v') : v = v' := by
  unfold dstIn at hd
  cases ho : o.dst with
  | none => rw [ho] at hd; cases hd
  | some d =>
    rw [ho] at hd h
    have hd' : d < a.tmps.size := by simpa using hd
    have := congrArg (fun b : Act => b.tmps[d]?) h
    simpa [Act.put, hd'] using this

theorem both_step {Q : Act → Prop} {o : Oper} {rest : List Oper} {a : Act} (hd : dstIn a.tmps.size o = true) (h : wpBoth P ops W z T Q (o :: rest) a) :
    ∃ v, YieldsIn P ops (clA W) o v a ∧ (∀ g1, YieldsIn P ops (clB W z T g1) o v a) ∧ wpBoth P ops W z T Q rest (a.put o.dst v) := by
  unfold wpBoth at h
  cases hw : Region.wanted o (yielded ops a.tmps)
  · rw [hw] at h
    exact ⟨undef, .inr ⟨hw, rfl⟩, fun _ => .inr ⟨hw, rfl⟩, by simpa using h⟩
  · rw [hw] at h
    simp only [if_true] at h
    obtain ⟨a1, ⟨v, h1, e1⟩, h2, h3⟩ := h
    refine ⟨v, .inl ⟨hw, h1⟩, fun g1 => ?_, by rw [e1]; exact h3⟩
    obtain ⟨v', h4, e4⟩ := h2 g1
    obtain rfl : v = v' := put_inj hd (e1.trans e4.symm)
    exact .inl ⟨hw, h4⟩

/-- The head while the block has not been made (its operation is number n). -/
def headA (P : Program) (md : Region.Mode) (ops : Array Oper) (W : World) (z : Array Value) (T : TypeId) (d n g : Nat) (R : Exit → Act → World → Prop) : Nat → Array Bool → Act → Prop
  | 0, u, a => Region.ready md ops u = [n] ∧ ∀ g1, headX P md ops (clB W z T g1) (n + 1) g R 0 (u.setIfInBounds n true) (a.put (some d) (newPtr W g1))
  | f + 1, u, a => Region.ready md ops u ≠ [] ∧ ∀ i ∈ Region.ready md ops u,
      (i < n ∧ qOp P ops (clA W) i (headA P md ops W z T d n g R f (u.setIfInBounds i true)) a) ∨
      (i = n ∧ ∀ g1, headX P md ops (clB W z T g1) (n + 1) g R (f + 1) (u.setIfInBounds n true) (a.put (some d) (newPtr W g1)))

theorem wpOp_alloc {n d : Nat} {oal : Oper} {R : Exit → Act → World → Prop} {K : Act → World → Prop} {a : Act} {w : World} (hn : ops[n]? = some oal) (hd : oal.dst = some d) (hg : oal.guard = none)
    (hrun : ∀ ρ w, (execOp ρ oal).run P w = .ok (.value (.pointer (some ⟨w.heap.size, 0, none⟩))) (w.alloc (.cells z T)))
    (h : K (a.put (some d) (.pointer (some ⟨w.heap.size, 0, none⟩))) (w.alloc (.cells z T))) : wpOp P ops R n K a w := by
  unfold wpOp
  simp only [hn]
  rw [if_pos (by simp [Region.wanted, hg])]
  left
  unfold Oper.wp
  rw [hrun, Oper.upon_value, hd]
  exact h

theorem headA_any {d n g : Nat} {oal : Oper} {R : Exit → Act → World → Prop} (hn : ops[n]? = some oal) (hd : oal.dst = some d) (hg : oal.guard = none)
    (hrun : ∀ ρ w, (execOp ρ oal).run P w = .ok (.value (.pointer (some ⟨w.heap.size, 0, none⟩))) (w.alloc (.cells z T))) (f : Nat) :
    ∀ (u : Array Bool) (a : Act) (w : World), clA W w → headA P md ops W z T d n g R f u a → wpAny P md ops R (f + (1 + g)) u a w := by
  have key : ∀ (f : Nat) (u : Array Bool) (a : Act) (w : World), clA W w →
      (∀ g1, headX P md ops (clB W z T g1) (n + 1) g R f (u.setIfInBounds n true) (a.put (some d) (newPtr W g1))) → wpOp P ops R n (wpAny P md ops R (f + g) (u.setIfInBounds n true)) a w := by
    intro f u a w hw h
    obtain ⟨g1, rfl⟩ := hw
    refine wpOp_alloc hn hd hg hrun ?_
    have := headX_any f _ _ _ (⟨_, same_is_ext _⟩ : clB W z T g1 ((ext W g1).alloc (.cells z T))) (h g1)
    simpa [newPtr] using this
  induction f with
  | zero =>
    intro u a w hw h
    rw [show 0 + (1 + g) = (0 + g) + 1 by omega]
    refine ⟨fun h0 => by rw [h.1] at h0; simp at h0, fun i hi => ?_⟩
    rw [h.1] at hi
    obtain rfl : i = n := by simpa using hi
    exact key 0 u a w hw h.2
  | succ f ih =>
    intro u a w hw h
    rw [show f + 1 + (1 + g) = (f + (1 + g)) + 1 by omega]
    refine ⟨fun h0 => absurd h0 h.1, fun i hi => ?_⟩
    rcases h.2 i hi with ⟨_, h1⟩ | ⟨rfl, h1⟩
    · exact wpOp_of_qOp hw (fun a' w' hw' h' => ih _ a' w' hw' h') h1
    · have := key (f + 1) u a w hw h1
      rwa [show f + 1 + g = f + (1 + g) by omega] at this

theorem headA_take {d n g i : Nat} {o oal : Oper} {v : Value} {R : Exit → Act → World → Prop} (hi : ops[i]? = some o) (hsel : ∀ (j : Nat) (o : Oper) cs b, ops[j]? = some o → o.op ≠ .select cs b)
    (hal : ops[n]? = some oal) (hd : oal.dst = some d) (hsink : sink2B md ops (n + 1) = true) (hchain : Region.chainB md ops (n + 1) = true) (hn : n + 1 < ops.size) (hin : i < n)
    (hR : ∀ c a w, R (.panic c) (a.put o.dst v) w → R (.panic c) a w)
    (hlate : ∀ g1 a, mustB md ops (n + 1) i = false → YieldsIn P ops (clB W z T g1) o v a → Yields P ops o v a) (f : Nat) :
    ∀ (u : Array Bool) (a : Act), HeadInv md ops (n + 1) u →
      (∀ j oj, ops[j]? = some oj → j ≠ i → u.getD j true = false → (∀ e ∈ oj.after, Region.binds md e = true → e.on ≠ i) → o.apart ops oj = true) →
      i ∈ Region.ready md ops u → YieldsIn P ops (clA W) o v a → (∀ g1, YieldsIn P ops (clB W z T g1) o v a) →
      headA P md ops W z T d n g R f (u.setIfInBounds i true) (a.put o.dst v) → headA P md ops W z T d n g R (f + 1) u a := by
  -- operation i behind the new block
  have key : ∀ (f : Nat) (u : Array Bool) (a : Act), HeadInv md ops (n + 1) u →
      (∀ j oj, ops[j]? = some oj → j ≠ i → u.getD j true = false → (∀ e ∈ oj.after, Region.binds md e = true → e.on ≠ i) → o.apart ops oj = true) →
      i ∈ Region.ready md ops u → n ∈ Region.ready md ops u → (∀ g1, YieldsIn P ops (clB W z T g1) o v a) →
      (∀ g1, headX P md ops (clB W z T g1) (n + 1) g R f ((u.setIfInBounds i true).setIfInBounds n true) ((a.put o.dst v).put (some d) (newPtr W g1))) →
      ∀ g1, headX P md ops (clB W z T g1) (n + 1) g R (f + 1) (u.setIfInBounds n true) (a.put (some d) (newPtr W g1)) := by
    intro f u a inv hap hr hrn hy H g1
    have hne : n ≠ i := by omega
    obtain ⟨hnu, on, hon, hall⟩ := mem_ready.1 hrn
    obtain rfl : oal = on := Option.some.inj (hal.symm.trans hon)
    have hun := (mem_ready.1 hr).1
    have hnot : ∀ e ∈ oal.after, Region.binds md e = true → e.on ≠ i := by
      intro e he hb heq
      have h1 := hall e he hb
      rw [heq, getD_both hun] at h1
      simp at h1
    obtain ⟨p1, p2, p3⟩ := Oper.apart_spec (hap n oal hal hne hnu hnot)
    rw [hd] at p3
    have hy' : YieldsIn P ops (clB W z T g1) o v (a.put (some d) (newPtr W g1)) :=
      (hy g1).of_same (execOp_put o (fun cs b => hsel i o cs b hi) a (some d) _ p3) (wanted_put o a (some d) _ p3)
    refine headX_take hi hsel hsink hchain hn (by omega) hR (hlate g1) f _ _ (inv.set hrn (by omega)) (fun k ok hk hki hku hno => hap k ok hk hki ?_ hno) (ready_mono hr (Ne.symm hne)) hy' ?_
    · by_cases hnk : n = k
      · subst hnk; exact hnu
      · rwa [getD_set_ne true hnk] at hku
    · have := H g1
      rw [Array.setIfInBounds_comm _ _ (Ne.symm hne), ← Act.put_comm a v (newPtr W g1) (fun x hx => by have := p2 x hx; rwa [hd] at this)] at *
      exact this
  induction f with
  | zero =>
    intro u a inv hap hr hy hyB H
    refine ⟨fun h => by simp [h] at hr, fun j hj => ?_⟩
    by_cases hji : j = i
    · subst hji; exact .inl ⟨hin, hy.qOp hi H⟩
    have hj' := ready_mono hj hji
    rw [H.1] at hj'
    obtain rfl : j = n := by simpa using hj'
    exact .inr ⟨rfl, key 0 u a inv hap hr hj hyB H.2⟩
  | succ f ih =>
    intro u a inv hap hr hy hyB H
    have hun := (mem_ready.1 hr).1
    refine ⟨fun h => by simp [h] at hr, fun j hj => ?_⟩
    by_cases hji : j = i
    · subst hji; exact .inl ⟨hin, hy.qOp hi H⟩
    rcases H.2 j (ready_mono hj hji) with ⟨hjn, h1⟩ | ⟨rfl, h1⟩
    · obtain ⟨hju, oj, hoj, hall⟩ := mem_ready.1 hj
      have hnot : ∀ e ∈ oj.after, Region.binds md e = true → e.on ≠ i := by
        intro e he hb heq
        have h1 := hall e he hb
        rw [heq, getD_both hun] at h1
        simp at h1
      have hapj := hap j oj hoj hji hju hnot
      obtain ⟨_, _, p3⟩ := Oper.apart_spec hapj
      -- both yields stay behind operation j
      have h2 := qOp_put hoj hapj (fun cs b => hsel i o cs b hi) (fun cs b => hsel j oj cs b hoj) hy h1
      have hkeep : ∀ x, ∀ g1, YieldsIn P ops (clB W z T g1) o v (a.put oj.dst x) := fun x g1 =>
        (hyB g1).of_same (execOp_put o (fun cs b => hsel i o cs b hi) a oj.dst x p3) (wanted_put o a oj.dst x p3)
      refine .inl ⟨hjn, ?_⟩
      obtain ⟨x, hx, h3⟩ := yieldsIn_of_qOp hoj h2
      refine hx.qOp hoj (ih _ _ (inv.set hj (by omega)) (fun k ok hk hki hku hno => hap k ok hk hki ?_ hno) (ready_mono hr (Ne.symm hji)) h3.1 (hkeep x) ?_)
      · by_cases hjk : j = k
        · subst hjk; exact hju
        · rwa [getD_set_ne true hjk] at hku
      · rw [Array.setIfInBounds_comm _ _ hji]; exact h3.2
    · exact .inr ⟨rfl, key (f + 1) u a inv hap hr hj hyB h1⟩

theorem headA_lex {d n g : Nat} {oal : Oper} {R : Exit → Act → World → Prop} (hal : ops[n]? = some oal) (hd : oal.dst = some d) (hsel : Region.noSelect ops = true) (hsink : sink2B md ops (n + 1) = true)
    (hchain : Region.chainB md ops (n + 1) = true) (hn : n + 1 < ops.size)
    (hR : ∀ (c : List PanicEntry) (a : Act) (d : Option Tmp) (v : Value) (w : World), R (.panic c) (a.put d v) w → R (.panic c) a w) (tl : List Oper) (htl : tl.length = g) (ht : ∀ j, tl[j]? = ops[n + 1 + j]?) (l : List Oper) :
    ∀ (k : Nat) (u : Array Bool) (a : Act), (∀ j, j < l.length → l[j]? = ops[k + j]?) → k + l.length = n → HeadInv md ops (n + 1) u → (l.all (dstIn a.tmps.size)) = true →
    Region.lexHead md ops (g + 1) l.length k u = true → wpBoth P ops W z T (fun a' => ∀ g1 g2, wpList P ops R tl (a'.put (some d) (newPtr W g1)) (ext ((ext W g1).alloc (.cells z T)) g2)) l a →
    headA P md ops W z T d n g R l.length u a := by
  induction l with
  | nil =>
    intro k u a _ hk _ _ hB h
    obtain rfl : k = n := by simpa using hk
    have hB' : Region.seqB md ops (g + 1) k u = true := by simpa [Region.lexHead] using hB
    simp only [Region.seqB, Bool.and_eq_true, decide_eq_true_eq] at hB'
    refine ⟨hB'.1, fun g1 => ⟨hB'.2, fun w hw => ?_⟩⟩
    obtain ⟨g2, rfl⟩ := hw
    subst htl
    exact wpAny_of_seq tl (k + 1) _ _ _ ht hB'.2 (h g1 g2)
  | cons o l ih =>
    intro k u a hl hk inv hds hB h
    have h0 : ops[k]? = some o := by simpa using (hl 0 (by simp)).symm
    simp only [List.length_cons, Region.lexHead, Bool.and_eq_true] at hB
    simp only [List.length_cons] at hk
    simp only [List.all_cons, Bool.and_eq_true] at hds
    have hr : k ∈ Region.ready md ops u := by simpa using hB.1.1
    obtain ⟨v, hyA, hyB, hK⟩ := both_step hds.1 h
    refine headA_take h0 (Region.noSelect_spec hsel) hal hd hsink hchain hn (by omega) (fun c a w => hR c a o.dst v w) (fun g1 a' hm hy' => ?_) l.length u a inv (Region.free_spec h0 hB.1.2) hr hyA hyB
      (ih (k + 1) _ _ (fun j hj => by have := hl (j + 1) (by simp; omega); simpa [Nat.add_assoc, Nat.add_comm 1 j] using this) (by omega) (inv.set hr (by omega)) (by rw [put_size]; exact hds.2) hB.2 hK)
    rcases sink2_spec hsink (i := k) (by omega) with ⟨h1, _⟩ | ⟨_, h1⟩
    · rw [hm] at h1; cases h1
    · exact yields_of_late (C := clB W z T g1) ⟨_, ⟨⟨#[], 0⟩, rfl⟩⟩ (h1 o h0) hy'
end

def lexAllocB (md : Region.Mode) (ops : Array Oper) (n : Nat) : Bool :=
  Region.noSelect ops && decide (n + 1 < ops.size) && sink2B md ops (n + 1) && Region.chainB md ops (n + 1) && Region.lexHead md ops (ops.size - n) n 0 (Array.replicate ops.size false)

theorem wp_region_alloc {P : Program} {id : Nat} {Q : Exit → Act → World → Prop} {a : Act} {w : World} {l : List Oper} (n : Nat) {d : Nat} {z : Array Value} {T : TypeId} {oal : Oper} (hm : P.follows .mixedOrders = true) (hB : lexAllocB .any l.toArray n = true)
    (hal : l.toArray[n]? = some oal) (hd : oal.dst = some d) (hg : oal.guard = none)
    (hrun : ∀ ρ w, (execOp ρ oal).run P w = .ok (.value (.pointer (some ⟨w.heap.size, 0, none⟩))) (w.alloc (.cells z T)))
    (hds : ((l.take n).all (dstIn a.tmps.size)) = true)
    (hR : ∀ (c : List PanicEntry) (a : Act) (d : Option Tmp) (v : Value) (w : World), Q (.panic c) (a.put d v) w → Q (.panic c) a w)
    (h : wpBoth P l.toArray w z T (fun a' => ∀ g1 g2, wpList P l.toArray Q (l.drop (n + 1)) (a'.put (some d) (newPtr w g1)) (ext ((ext w g1).alloc (.cells z T)) g2)) (l.take n) a) : (Code.region id l.toArray true).wp P Q a w := by
  simp only [lexAllocB, Bool.and_eq_true, decide_eq_true_eq] at hB
  obtain ⟨⟨⟨⟨hsel, hn⟩, hs⟩, hc⟩, hlex⟩ := hB
  have hn' : n + 1 < l.length := by simpa using hn
  have htl : (l.take n).length = n := by simp; omega
  have hdl : (l.drop (n + 1)).length = l.toArray.size - (n + 1) := by simp
  have e1 : l.toArray.size - n = (l.toArray.size - (n + 1)) + 1 := by omega
  have inv : HeadInv .any l.toArray (n + 1) (Array.replicate l.toArray.size false) :=
    ⟨by simp, fun j oj _ hl => (by rw [getD_replicate_false] at hl; cases hl), fun t _ ht => getD_in (by simpa using ht) (getD_replicate_false _ _)⟩
  have H := headA_lex (md := .any) (g := l.toArray.size - (n + 1)) hal hd hsel hs hc hn hR (l.drop (n + 1)) hdl (fun j => by simp [List.getElem?_drop]) (l.take n) 0 _ a (fun j hj => by rw [htl] at hj; simp [hj]) (by simpa using htl) inv hds (by rw [htl, ← e1]; exact hlex) h
  refine wp_region_any hm ?_
  have := headA_any hal hd hg hrun _ _ _ _ ⟨_, drew_is_ext w⟩ H
  rw [htl, show n + (1 + (l.toArray.size - (n + 1))) = l.toArray.size by omega] at this
  exact this
end Go.Proofs.Ytkanaakceokifaa
