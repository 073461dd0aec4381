/- The symbolic evaluator is sound: functions that are given pointers (own work). -/
import Derived.Test.YtghlpolodjlgjaaSz
namespace Go.Proofs.Ytghlpolodjlgjaa.Sy
open Go Go.RowKit
set_option linter.unusedVariables false
set_option linter.unusedSimpArgs false

def selfs : List (Nat × Nat) → List (Nat × Nat)
  | [] => [] | (k, _) :: r => (k, k) :: selfs r
def posIn : List Bool → Nat → List Nat
  | [], _ => [] | true :: m, i => i :: posIn m (Nat.succ i) | false :: m, i => posIn m (Nat.succ i)
def insP : List Bool → Nat → List SV → List SV
  | [], _, _ => []
  | true :: m, i, vs => .one (.box i 0) :: insP m (Nat.succ i) vs
  | false :: m, i, v :: vs => v :: insP m (Nat.succ i) vs
  | false :: _, _, [] => []

def evRetP (C : Ctx) (fn : Func) (rsh : Rsh) (r q : Ty) (ro : Bool) (ptr : List (Nat × Nat)) (x : Ex) (st : ASt) : Tr Unit (r.den × q.den) :=
  match x, rsh with
  | .exit _, _ => .bad
  | _, .tup [_] => .bad
  | _, _ => match resCells C fn st fn.results.toList with
    | some xs0 => match unvSs false st xs0, cnd ro (rdR st ptr) (rdW st ptr), chkP st [] [] (firsts ptr) (selfs ptr) with
      | some xs, some qc0, true => match shapes (shapesOf rsh) xs, unvL true st qc0 with
        | some cs, some qc => match dec r cs, dec q qc with | some y, some z => .ret (y, z) | _, _ => .bad
        | _, _ => .bad
      | _, _, _ => .bad
    | none => .bad

def evFnP (C : Ctx) (fn : Func) (p : Ty) (psh : List (Option Nat)) (mask : List Bool) (sz : List Nat) (ro ex : Bool) (q : Ty) (rsh : Rsh) (r : Ty) (L : Nat → Option (LS Unit)) (x : p.den) : Tr Unit (r.den × q.den) :=
  match fn.body, unshape psh (exC ex ((enc p x).take (Nat.sub p.n (sumN sz)))) with
  | some c, some vs => cnd (andd (allB (fun d => Nat.ble (Nat.succ d) fn.ntmps) (dsts c)) (andd (allB (fun d => nott (mem d (posIn mask 0))) (dsts c)) (Nat.beq (lenL (posIn mask 0)) (lenL sz))))
      (evCode C L c { slot := fun t => initSlots (insP mask 0 vs) 0 t, box := boxesOf (cnd ro .ro .cells) (zipN (posIn mask 0) sz) ((enc p x).drop (Nat.sub p.n (sumN sz))) } (evRetP C fn rsh r q ro (zipN (posIn mask 0) sz))) .bad
  | _, _ => .bad

section
variable {φ : Fr} {ν ν' : Nat → Bool} {m : Map} {st : ASt} {a : Act} {w w' : World} {own : List (Nat × Bool)} {W : List Nat} {P : Program} {C : Ctx} {o : Oper} {e : Eff}
  {K : Act → World → Prop}

theorem selfs_mem : ∀ {l : List (Nat × Nat)} {k : Nat}, k ∈ firsts l → (k, k) ∈ selfs l
  | (k, n) :: r, j, h => by
    simp only [firsts, List.mem_cons] at h
    rcases h with rfl | h
    · simp [selfs]
    · simp [selfs, selfs_mem h]

theorem evRetP_ok (hC : CtxOk P C) (hs : SatM φ ν m st a w) {fn : Func} {rsh : Rsh} {r q : Ty} {ro : Bool} {ptr : List (Nat × Nat)} {x : Ex} {rt : Unit → r.den × q.den} {Post : r.den × q.den → Prop} (h : (evRetP C fn rsh r q ro ptr x st).All rt Post) :
    (∀ id, x ≠ .exit id) ∧ ∃ y z ks, Post (y, z) ∧ a.defers = [] ∧ (∃ v cv, (results fn a.tmps).run P w = .ok v w ∧ TR w (Xc φ m ks) r y cv ∧ ShapeV rsh cv v) ∧
      (∃ qv, BoxVals m w ptr qv ∧ TR w (XA φ m) q z qv) ∧ (∀ k ∈ firsts ptr, ∃ b, m k = some (b, 0) ∧ a.tmps.getD k undef = .pointer (some ⟨b, 0, none⟩)) := by
  unfold evRetP at h
  split at h
  · exact h.elim
  · exact h.elim
  · rename_i hne hnt
    refine ⟨fun id hx => hne id hx, ?_⟩
    split at h
    case h_2 => exact h.elim
    rename_i xs0 hxs0
    split at h
    case h_2 => exact h.elim
    rename_i xs qc0 hxs hqc0 hchk
    split at h
    case h_2 => exact h.elim
    rename_i cs qc hcs hqc
    split at h
    case h_2 => exact h.elim
    rename_i y z hy hz
    obtain ⟨vs, h1, h2⟩ := run_mapM_results hC hs hxs0
    have h2' := unvSs_ok hs hxs h2 (ks := vksS xs0) (fun _ k hk => hk)
    obtain ⟨cv, h3, h4⟩ := shapes_ok hcs h2'
    obtain ⟨qv, hbv, hqr⟩ : ∃ qv, BoxVals m w ptr qv ∧ CRs m (XA φ m) w qc0 qv := by
      cases hro : ro with
      | true => rw [hro] at hqc0; obtain ⟨qv, g1, g2⟩ := rdR_ok hs hqc0; exact ⟨qv, g1, g2⟩
      | false => rw [hro] at hqc0; obtain ⟨qv, g1, g2, _⟩ := rdW_ok hs hqc0; exact ⟨qv, g1, g2⟩
    have hqr2 := unvL_ok hs hqc hqr (ks := []) (fun h => by cases h)
    have hX0 : Xc φ m [] = XA φ m := by funext b q; simp [Xc]
    rw [hX0] at hqr2
    have hP := chkP_spec hchk
    refine ⟨y, z, vksS xs0, h, hs.defers, ?_, ⟨qv, hbv, dec_ok hz hqr2⟩, fun k hk => ?_⟩
    · have hres : (results fn a.tmps).run P w = .ok (if h : vs.toArray.size = 1 then vs.toArray[0] else .tuple vs.toArray) w := by
        unfold results
        rw [Sem.run_bind, Array.mapM_eq_mapM_toList]
        have : (List.toArray <$> fn.results.toList.mapM fun x => (match x with | .tmp t => pure (a.tmps.getD t undef) | .cell b t => do loadVar t (← asAddr (a.tmps.getD b undef)) : Sem Value)).run P w = .ok vs.toArray w := by
          rw [map_eq_pure_bind, Sem.run_bind]
          exact (congrArg (fun q => Result.andThen q (fun a w' => Sem.run P (pure a.toArray) w')) h1).trans rfl
        exact Eq.trans (congrArg (fun q => Result.andThen q _) this) rfl
      refine ⟨_, cv, hres, dec_ok hy h4, ?_⟩
      cases rsh with
      | none =>
        simp only [shapesOf] at h3
        match vs, h3 with | [], _ => rfl
      | one sh =>
        simp only [shapesOf] at h3
        match vs, h3 with
        | [v], h3 => exact h3
        | [], h3 => cases sh <;> cases h3
        | v :: v2 :: r2, h3 =>
          cases sh with
          | none => obtain ⟨_, _, h6⟩ := h3; cases h6
          | some n => obtain ⟨_, _, _, _, _, h6⟩ := h3; cases h6
      | tup ss =>
        simp only [shapesOf] at h3
        have hlen : ∀ (ss : List (Option Nat)) (vs cv : List Value), ShapeR ss vs cv → vs.length = ss.length := by
          intro ss
          induction ss with
          | nil => intro vs cv h; cases vs with | nil => rfl | cons v vs => cases h
          | cons s ss ih =>
            intro vs cv h
            cases vs with
            | nil => cases s <;> cases h
            | cons v vs =>
              cases s with
              | none => obtain ⟨cs', _, h6⟩ := h; simp [ih _ _ h6]
              | some n => obtain ⟨ds, cs', _, _, _, h6⟩ := h; simp [ih _ _ h6]
        have hne1 : ss.length ≠ 1 := by
          intro h6
          match ss, h6 with | [s], _ => exact hnt s rfl
        refine ⟨vs, ?_, h3⟩
        rw [dif_neg (by simpa [hlen _ _ _ h3] using hne1)]
    · obtain ⟨g1, _, _, _⟩ := hP k k (selfs_mem hk)
      obtain ⟨b, g2, g3⟩ := hs.slot k _ g1 (fun x hx => by cases hx)
      exact ⟨b, g2, g3⟩

/-! ### The start -/
def lookK : List Nat → List Nat → Nat → Option (Nat × Nat)
  | k :: ks, b :: bs, u => if u = k then some (b, 0) else lookK ks bs u
  | _, _, _ => none
theorem lookK_some : ∀ {ks bs : List Nat} {u b p : Nat}, lookK ks bs u = some (b, p) → p = 0 ∧ b ∈ bs ∧ u ∈ ks
  | k :: ks, b' :: bs, u, b, p, h => by
    simp only [lookK] at h
    split at h
    · rename_i hu; cases h; exact ⟨rfl, by simp, by simp [hu]⟩
    · obtain ⟨h1, h2, h3⟩ := lookK_some h; exact ⟨h1, by simp [h2], by simp [h3]⟩
  | [], _, _, _, _, h => by cases h
  | _ :: _, [], _, _, _, h => by cases h
theorem lookK_inj : ∀ {ks bs : List Nat} {u u' b p p' : Nat}, bs.Nodup → lookK ks bs u = some (b, p) → lookK ks bs u' = some (b, p') → u = u'
  | k :: ks, b' :: bs, u, u', b, p, p', hn, h, h' => by
    obtain ⟨hn1, hn2⟩ := List.nodup_cons.1 hn
    simp only [lookK] at h h'
    split at h
    · rename_i hu
      cases h
      split at h'
      · rename_i hu'; rw [hu, hu']
      · exact absurd (lookK_some h').2.1 hn1
    · split at h'
      · cases h'; exact absurd (lookK_some h).2.1 hn1
      · exact lookK_inj hn2 h h'
  | [], _, _, _, _, _, _, _, h, _ => by cases h
  | _ :: _, [], _, _, _, _, _, _, h, _ => by cases h
theorem lookK_all : ∀ {ks bs : List Nat}, ks.Nodup → ks.length = bs.length → All2 (fun k b => lookK ks bs k = some (b, 0)) ks bs
  | [], [], _, _ => trivial
  | k :: ks, b :: bs, hn, hl => by
    obtain ⟨h1, h2⟩ := List.nodup_cons.1 hn
    refine ⟨by simp [lookK], ?_⟩
    have key : ∀ (as cs : List Nat), (∀ x ∈ as, x ≠ k) → All2 (fun k b => lookK ks bs k = some (b, 0)) as cs → All2 (fun k' b' => lookK (k :: ks) (b :: bs) k' = some (b', 0)) as cs := by
      intro as
      induction as with
      | nil => intro cs _ h; cases cs with | nil => trivial | cons => exact h.elim
      | cons x as ih =>
        intro cs hx h
        cases cs with
        | nil => exact h.elim
        | cons c cs => exact ⟨by simp only [lookK]; rw [if_neg (hx x (by simp))]; exact h.1, ih cs (fun y hy => hx y (by simp [hy])) h.2⟩
    exact key _ _ (fun x hx e => h1 (e ▸ hx)) (lookK_all h2 (by simpa using hl))
  | [], _ :: _, _, hl => by simp at hl
  | _ :: _, [], _, hl => by simp at hl
theorem posIn_ge : ∀ {mask : List Bool} {i k : Nat}, k ∈ posIn mask i → i ≤ k
  | true :: mask, i, k, h => by
    simp only [posIn, List.mem_cons] at h
    rcases h with rfl | h
    · omega
    · have := posIn_ge h; omega
  | false :: mask, i, k, h => by have := posIn_ge (mask := mask) (show k ∈ posIn mask (i + 1) from h); omega
theorem posIn_nodup : ∀ {mask : List Bool} {i : Nat}, (posIn mask i).Nodup
  | [], _ => List.nodup_nil
  | true :: mask, i => by
    refine List.nodup_cons.2 ⟨fun h => ?_, posIn_nodup⟩
    have := posIn_ge h; omega
  | false :: mask, i => posIn_nodup (mask := mask)
theorem ptrs_rel {X : Nat → Nat → Prop} : ∀ {ks bs sz : List Nat} {vs pc : List Value}, All2 (fun k b => m k = some (b, 0)) ks bs → PtrVals w X bs sz vs pc → All2 (fun k v => ∃ b, m k = some (b, 0) ∧ v = .pointer (some ⟨b, 0, none⟩)) ks vs
  | [], [], sz, vs, pc, _, h => by cases sz <;> cases vs <;> first | trivial | exact h.elim
  | k :: ks, b :: bs, n :: sz, v :: vs, pc, ha, h => ⟨⟨b, ha.1, h.1⟩, by obtain ⟨_, _, us, T, pc', _, _, _, h'⟩ := h; exact ptrs_rel ha.2 h'⟩
  | k :: ks, b :: bs, [], vs, pc, _, h => by cases vs <;> exact h.elim
  | k :: ks, b :: bs, n :: sz, [], pc, _, h => h.elim
  | [], _ :: _, _, _, _, h, _ => h.elim
  | _ :: _, [], _, _, _, h, _ => h.elim
theorem ptrs_len {X : Nat → Nat → Prop} : ∀ {bs sz : List Nat} {vs pc : List Value}, PtrVals w X bs sz vs pc → bs.length = sz.length ∧ vs.length = sz.length ∧ pc.length = sumN sz
  | [], [], [], pc, h => by have h : pc = [] := h; subst h; exact ⟨rfl, rfl, rfl⟩
  | b :: bs, n :: sz, v :: vs, pc, h => by
    obtain ⟨_, _, us, T, pc', _, h1, rfl, h'⟩ := h
    obtain ⟨g1, g2, g3⟩ := ptrs_len h'
    exact ⟨by simp [g1], by simp [g2], by simp [sumN, g3, h1]⟩
  | [], _ :: _, vs, _, h => by cases vs <;> exact h.elim
  | _ :: _, [], vs, _, h => by cases vs <;> exact h.elim
  | [], [], _ :: _, _, h => h.elim
  | _ :: _, _ :: _, [], _, h => h.elim
theorem ptrs_X {X : Nat → Nat → Prop} : ∀ {bs sz : List Nat} {vs pc : List Value}, PtrVals w X bs sz vs pc → ∀ b ∈ bs, ∀ q, X b q
  | b :: bs, n :: sz, v :: vs, pc, h, c, hc, q => by
    obtain ⟨_, h1, us, T, pc', _, _, _, h'⟩ := h
    rcases List.mem_cons.1 hc with rfl | hc
    · exact h1 q
    · exact ptrs_X h' c hc q
  | [], _, _, _, _, c, hc, _ => by cases hc
  | _ :: _, [], vs, _, h, _, _, _ => by cases vs <;> exact h.elim
  | _ :: _, _ :: _, [], _, h, _, _, _ => h.elim
theorem ptrs_again {X : Nat → Nat → Prop} {m' : Map} : ∀ {ks bs sz : List Nat} {vs pc qv : List Value}, All2 (fun k b => m' k = some (b, 0)) ks bs → PtrVals w X bs sz vs pc → BoxVals m' w' (zipN ks sz) qv → PtrVals w' X bs sz vs qv
  | [], [], sz, vs, pc, qv, _, h, hb => by cases sz <;> cases vs <;> first | exact hb | exact h.elim
  | k :: ks, b :: bs, n :: sz, v :: vs, pc, qv, ha, h, hb => by
    obtain ⟨h1, h2, us, T, pc', _, _, _, h'⟩ := h
    obtain ⟨b2, us2, T2, qv', g1, g2, g3, rfl, g4⟩ := hb
    rw [ha.1] at g1
    cases g1
    exact ⟨h1, h2, us2, T2, qv', g2, g3, rfl, ptrs_again ha.2 h' g4⟩
  | k :: ks, b :: bs, [], vs, pc, _, _, h, _ => by cases vs <;> exact h.elim
  | k :: ks, b :: bs, n :: sz, [], pc, _, _, h, _ => h.elim
  | [], _ :: _, _, _, _, _, h, _, _ => h.elim
  | _ :: _, [], _, _, _, _, h, _, _ => h.elim
theorem insP_ok {X : Nat → Nat → Prop} : ∀ {mask : List Bool} {i : Nat} {vs : List SV} {args : List Value}, All2 (SR m X w) vs (valsOf mask args) → All2 (fun k v => ∃ b, m k = some (b, 0) ∧ v = .pointer (some ⟨b, 0, none⟩)) (posIn mask i) (ptrsIn mask args) → args.length = mask.length →
    All2 (SR m X w) (insP mask i vs) args
  | [], i, vs, [], _, _, _ => trivial
  | [], i, vs, _ :: _, _, _, hl => by simp at hl
  | _ :: _, i, vs, [], _, _, hl => by simp at hl
  | true :: mask, i, vs, v :: args, h1, h2, hl => ⟨h2.1, insP_ok (mask := mask) h1 h2.2 (by simpa using hl)⟩
  | false :: mask, i, [], v :: args, h1, h2, hl => h1.elim
  | false :: mask, i, s :: vs, v :: args, h1, h2, hl => ⟨h1.1, insP_ok (mask := mask) h1.2 h2 (by simpa using hl)⟩
theorem exC_take (b : Bool) : ∀ (cs : List Cell) (n : Nat), exC b (cs.take n) = (exC b cs).take n
  | [], n => by simp [exC]
  | c :: r, 0 => by simp [exC]
  | c :: r, n + 1 => by cases c <;> simp only [List.take_succ_cons, exC, exC_take b r n]
theorem exC_drop (b : Bool) : ∀ (cs : List Cell) (n : Nat), exC b (cs.drop n) = (exC b cs).drop n
  | [], n => by simp [exC]
  | c :: r, 0 => rfl
  | c :: r, n + 1 => by cases c <;> simp only [List.drop_succ_cons, exC, exC_drop b r n]
theorem exC_pl {b : Bool} : ∀ {cs : List Cell}, (∀ c ∈ cs, c.pl = true) → ∀ c ∈ exC b cs, c.pl = true
  | [], _, c, hc => by cases hc
  | d :: r, h, c, hc => by
    have ih := exC_pl (b := b) (cs := r) (fun x hx => h x (by simp [hx]))
    cases d with
    | lst e tl l =>
      simp only [exC, List.mem_cons] at hc
      rcases hc with rfl | hc
      · rfl
      · exact ih c hc
    | _ =>
      simp only [exC, List.mem_cons] at hc
      rcases hc with rfl | hc
      · exact h _ (by simp)
      · exact ih c hc
theorem exC_no {X : Nat → Nat → Prop} {b : Bool} : ∀ {cs : List Cell} {vs : List Value}, CRs m X w (exC b cs) vs → CRs m X w (cs.map Cell.no) vs
  | [], vs, h => h
  | c :: r, [], h => by cases c <;> exact h.elim
  | c :: r, v :: vs, h => by
    cases c with
    | lst e tl l => exact ⟨⟨h.1.1, trivial⟩, exC_no h.2⟩
    | _ => exact ⟨h.1, exC_no h.2⟩
theorem enc_no : ∀ (t : Ty) (x : t.den), (enc t x).map Cell.no = enc t x ∧ ∀ c ∈ enc t x, c.pl = true := by
  intro t
  induction t with
  | pair a b iha ihb =>
    intro x
    simp only [enc, app_eq, List.map_append, (iha x.1).1, (ihb x.2).1, List.mem_append, true_and]
    intro c hc
    rcases hc with hc | hc
    · exact (iha x.1).2 c hc
    · exact (ihb x.2).2 c hc
  | unit => intro x; exact ⟨rfl, fun c hc => by cases hc⟩
  | _ => intro x; refine ⟨rfl, fun c hc => ?_⟩; simp only [enc, List.mem_singleton] at hc; subst hc; rfl
theorem crs_any {m m' : Map} {X : Nat → Nat → Prop} : ∀ {cs : List Cell} {us : List Value}, (∀ c ∈ cs, c.pl = true) → CRs m X w cs us → CRs m' X w cs us
  | [], [], _, _ => trivial
  | [], _ :: _, _, h => h.elim
  | _ :: _, [], _, h => h.elim
  | c :: cs, u :: us, hp, h => ⟨CR.pl_any (hp c (by simp)) h.1, crs_any (fun c hc => hp c (by simp [hc])) h.2⟩
theorem boxesOf_mk {mk : List Cell → Bx} {X : Nat → Nat → Prop} {rest : List Value} : ∀ {l : List (Nat × Nat)} {cs : List Cell} {vs : List Value} {u : Nat} {bx : Bx}, BoxVals m w l vs → CRs m X w cs (vs ++ rest) → boxesOf mk l cs u = some bx →
    u ∈ firsts l ∧ ∃ cs', bx = mk cs' ∧ ∃ b us T, m u = some (b, 0) ∧ w.heap[b]? = some (.cells us T (0, 0)) ∧ CRs m X w cs' us.toList
  | [], cs, vs, u, bx, _, _, h => by cases h
  | (k, n) :: r, cs, vs, u, bx, hv, hc, h => by
    obtain ⟨b, us, T, vs', hm, hh, hl, rfl, h1⟩ := hv
    have h3 := All2.take n hc
    have h4 := All2.drop n hc
    rw [List.append_assoc, show (us.toList ++ (vs' ++ rest)).take n = us.toList by rw [← hl]; simp] at h3
    rw [List.append_assoc, show (us.toList ++ (vs' ++ rest)).drop n = vs' ++ rest by rw [← hl]; simp] at h4
    simp only [boxesOf] at h
    by_cases hut : u = k
    · rw [cnd_beq_true hut] at h
      cases h
      subst hut
      exact ⟨by simp [firsts], _, rfl, b, us, T, hm, hh, h3⟩
    · rw [cnd_beq_false hut] at h
      obtain ⟨h5, h6⟩ := boxesOf_mk h1 h4 h
      exact ⟨by simp [firsts, h5], h6⟩
theorem shapeR_len : ∀ {sh : List (Option Nat)} {vs cs : List Value} {cells : List Cell} {xs : List SV}, ShapeR sh vs cs → unshape sh cells = some xs → True := fun _ _ => trivial

theorem fn_okP (hC : CtxOk P C) {f : FuncId} {fn : Func} (hf : P.funcs[f]? = some fn) {cp : Cp} {L : Nat → Option (LS Unit)} {c : Code} (hb : fn.body = some c) {dflt : cp.r.den × cp.q.den}
    (hL : ∀ body ∈ loopsIn c, ∀ s, L (codeId body) = some s → LoopOk P C.G (fun _ _ (_ : Unit) _ _ => False) body s)
    (hsafe : ∀ x, (cp.ex = false → Fit cp.p x) → (∀ q, cp.pre = some q → q x) → (evFnP C fn cp.p cp.psh cp.mask cp.sz cp.ro cp.ex cp.q cp.rsh cp.r L x).safe)
    (hval : ∀ x, (evFnP C fn cp.p cp.psh cp.mask cp.sz cp.ro cp.ex cp.q cp.rsh cp.r L x).val (fun _ => dflt) dflt = cp.F x) : CpOk P C.G f cp := by
  intro x w X args cv pc bs hH hX hpre hsize hbn hsh hpv hcs
  have hno := enc_no cp.p x
  have hTR : TR w X cp.p x (cv ++ pc) := by
    have h1 := exC_no hcs
    rw [hno.1] at h1
    exact dec_ok (t := cp.p) (x := x) (by
      have key : ∀ (t : Ty) (x : t.den), dec t (enc t x) = some x := by
        intro t
        induction t with
        | pair a b iha ihb =>
          intro x
          simp only [enc, dec, app_eq]
          have h1 := enc_len a x.1
          rw [List.take_append_of_le_length (by omega), List.take_of_length_le (by omega), List.drop_append_of_le_length (by omega), List.drop_of_length_le (by omega), List.nil_append, iha, ihb]
        | int k => intro x; cases k <;> rfl
        | flt k => intro x; cases k <;> rfl
        | sl e ih =>
          intro l
          simp only [enc, dec]
          unfold castL
          have : tyeq e e = true := by
            clear ih l
            induction e with
            | int k => cases k <;> rfl
            | flt k => cases k <;> rfl
            | pair x y ihx ihy => simp only [tyeq, ihx, ihy]
            | sl x ih => exact ih
            | _ => rfl
          split
          · rfl
          · rename_i h; rw [this] at h; cases h
        | _ => intro x; rfl
      exact key _ _) h1
  have hA := all_of_safe (rt := fun _ => dflt) (d := dflt) (hsafe x (fun _ => fit_of hTR) hpre)
  rw [hval] at hA
  unfold evFnP at hA
  rw [hb] at hA
  split at hA
  case h_2 => exact hA.elim
  rename_i c' vs hc' hvs
  cases hc'
  obtain ⟨hck1, hck2, hck3, hA⟩ : allB (fun d => Nat.ble (Nat.succ d) fn.ntmps) (dsts c) = true ∧ allB (fun d => nott (mem d (posIn cp.mask 0))) (dsts c) = true ∧ (posIn cp.mask 0).length = cp.sz.length ∧
      (evCode C L c { slot := fun t => initSlots (insP cp.mask 0 vs) 0 t, box := boxesOf (cnd cp.ro .ro .cells) (zipN (posIn cp.mask 0) cp.sz) ((enc cp.p x).drop (Nat.sub cp.p.n (sumN cp.sz))) } (evRetP C fn cp.rsh cp.r cp.q cp.ro (zipN (posIn cp.mask 0) cp.sz))).All (fun _ => dflt) (fun r => r = cp.F x) := by
    cases hck : andd (allB (fun d => Nat.ble (Nat.succ d) fn.ntmps) (dsts c)) (andd (allB (fun d => nott (mem d (posIn cp.mask 0))) (dsts c)) (Nat.beq (lenL (posIn cp.mask 0)) (lenL cp.sz))) with
    | false => rw [hck] at hA; exact hA.elim
    | true =>
      rw [hck] at hA
      obtain ⟨h1, h2⟩ := andd_true hck
      obtain ⟨h2, h3⟩ := andd_true h2
      have h3 := beq_eq h3
      rw [lenL_eq, lenL_eq] at h3
      exact ⟨h1, h2, h3, hA⟩
  obtain ⟨l1, l2, l3⟩ := ptrs_len hpv
  let ks := posIn cp.mask 0
  let m : Map := lookK ks bs
  let a0 : Act := { tmps := args ++ Array.replicate (fn.ntmps - args.size) undef, defers := [] }
  let φ : Fr := { n := a0.tmps.size, w0 := w, a0 := a0, B := fun b => cp.ro = false ∧ b ∈ bs, D := fun t => mem t (dsts c), X0 := fun b q => X b q ∧ b ∉ bs, n0 := w.heap.size, base := w, gl := C.G.gl }
  have hkb : All2 (fun k b => m k = some (b, 0)) ks bs := lookK_all posIn_nodup (by rw [hck3, l1])
  have hXb := ptrs_X hpv
  have hXA : XA φ m = X := by
    funext b p
    refine propext ⟨fun h => ?_, fun h => ?_⟩
    · rcases h with h | ⟨k, p0, h1, _⟩
      · exact h.1
      · exact hXb b (lookK_some h1).2.1 p
    · by_cases hin : b ∈ bs
      · obtain ⟨k, _, hk⟩ := hkb.mem_right b hin
        exact .inr ⟨k, 0, hk, rfl⟩
      · exact .inl ⟨h, hin⟩
  have hlenE := enc_len cp.p x
  have hlc : (cv ++ pc).length = cp.p.n := hTR.len
  have hcvl : cv.length = cp.p.n - sumN cp.sz := by rw [List.length_append, l3] at hlc; omega
  have hcv : CRs m X w (exC cp.ex ((enc cp.p x).take (Nat.sub cp.p.n (sumN cp.sz)))) cv := by
    have h1 := All2.take (Nat.sub cp.p.n (sumN cp.sz)) hcs
    rw [show (cv ++ pc).take (Nat.sub cp.p.n (sumN cp.sz)) = cv by rw [show Nat.sub cp.p.n (sumN cp.sz) = cv.length from hcvl.symm]; simp, ← exC_take] at h1
    exact crs_any (exC_pl fun c hc => hno.2 c (List.mem_of_mem_take hc)) h1
  have hpc : CRs m X w ((enc cp.p x).drop (Nat.sub cp.p.n (sumN cp.sz))) (pc ++ []) := by
    have h1 := All2.drop (Nat.sub cp.p.n (sumN cp.sz)) hcs
    rw [show (cv ++ pc).drop (Nat.sub cp.p.n (sumN cp.sz)) = pc by rw [show Nat.sub cp.p.n (sumN cp.sz) = cv.length from hcvl.symm]; simp, ← exC_drop] at h1
    have h2 := exC_no (show CRs (fun _ => none) X w (exC cp.ex ((enc cp.p x).drop (Nat.sub cp.p.n (sumN cp.sz)))) pc from h1)
    rw [List.map_drop, hno.1] at h2
    rw [List.append_nil]
    exact crs_any (fun c hc => hno.2 c (List.mem_of_mem_drop hc)) h2
  have hbv : BoxVals m w (zipN ks cp.sz) pc := boxVals_of hkb hpv
  have hfz : firsts (zipN ks cp.sz) = ks := firsts_zip hck3
  have hall : All2 (SR m (XA φ m) w) (insP cp.mask 0 vs) args.toList := by
    rw [hXA]
    exact insP_ok (unshape_ok hvs hsh hcv) (ptrs_rel hkb hpv) (by simpa using hsize)
  have hslot : ∀ t g, initSlots (insP cp.mask 0 vs) 0 t = some g → g.tags = [] ∧ VR m (XA φ m) w g.tv (a0.tmps.getD t undef) := by
    intro t g hg
    obtain ⟨h1, u, h2, _, h4⟩ := initSlots_ok hall hg
    refine ⟨h1, ?_⟩
    have : a0.tmps.getD t undef = u := by
      rw [Nat.sub_zero, Array.getElem?_toList] at h2
      show (args ++ _).getD t undef = u
      have hlt : t < args.size := (Array.getElem?_eq_some_iff.1 h2).1
      rw [Array.getD_eq_getD_getElem?, Array.getElem?_append_left hlt, h2]
      rfl
    rw [this]; exact h4
  have hblt : ∀ b ∈ bs, b < w.heap.size := fun b hb => (hX b 0 (hXb b hb 0)).1
  have hsat : SatM φ ν0 m { slot := fun t => initSlots (insP cp.mask 0 vs) 0 t, box := boxesOf (cnd cp.ro .ro .cells) (zipN ks cp.sz) ((enc cp.p x).drop (Nat.sub cp.p.n (sumN cp.sz))) } a0 w := {
    tmps := rfl
    defers := rfl
    slot := fun t g hg _ => (hslot t g hg).2
    skip := fun t g hg ht => absurd (by rw [(hslot t g hg).1]; intro x hx; cases hx) ht
    box := fun k bx hk => by
      rw [hXA]
      obtain ⟨_, cs', rfl, b, us, T, h1, h2, h3⟩ := boxesOf_mk hbv hpc hk
      cases cp.ro with
      | true => exact ⟨b, us, T, h1, h2, h3⟩
      | false => exact ⟨b, us, T, h1, h2, h3⟩
    inj := fun k k' b p p' h h' _ _ => lookK_inj hbn h h'
    low := fun k b p h _ => hblt b (lookK_some h).2.1
    dom := fun k hk => by
      have := boxesOf_none hk
      rw [hfz] at this
      cases hm : m k with
      | none => rfl
      | some bp => exact absurd (lookK_some (b := bp.1) (p := bp.2) hm).2.2 this
    own := fun k bx b p h1 h2 h3 _ => by
      obtain ⟨_, cs', rfl, _⟩ := boxesOf_mk hbv hpc h1
      cases hro : cp.ro with
      | true => rw [hro] at h2; cases h2
      | false => exact .inl ⟨hro, (lookK_some h3).2.1⟩
    vn := fun k b p h _ hp => by have := (lookK_some h).1; omega
    ngl := fun k b p h _ => (hX b 0 (hXb b (lookK_some h).2.1 0)).2
    n0 := Nat.le_refl _
    glob := GK.refl fun b hb => C.G.low hH hb
    old := ⟨rfl, rfl, rfl, Nat.le_refl _⟩
    keep := fun _ _ _ => rfl
    keepS := fun _ _ => ⟨rfl, fun _ => rfl⟩
    x0 := fun b p h => ⟨(hX b p h.1).1, fun hf => h.2 hf.2, (hX b p h.1).2⟩
    keepT := fun t ht => rfl }
  refine calls_of_wp hf hb (evCode_ok (φ := φ) (Ret := fun _ _ _ _ _ => False) hC ⟨hH, rfl⟩ (fun n X X' r a w h hr => hr) c _ _ _ a0 w (fun t g hg => (hslot t g hg).1) ⟨m, hsat⟩
    (fun d hd => ⟨?_, mem_spec.2 hd⟩) hL hA (fun e st' a' w' hp' ⟨m', hm'⟩ hA' => ?_) (fun r a' w' hp hr hk => hr.elim))
  · have := Nat.le_of_ble_eq_true (allB_spec hck1 d hd)
    show d < (args ++ Array.replicate (fn.ntmps - args.size) undef).size
    simp
    omega
  · obtain ⟨hne, y, z, ks2, hPost, hdef, ⟨v, rv, hrun, hrr, hrs⟩, ⟨qv, hqb, hqr⟩, hsl⟩ := evRetP_ok hC hm' hA'
    rw [show firsts (zipN (posIn cp.mask 0) cp.sz) = ks from hfz] at hsl
    have hkb' : All2 (fun k b => m' k = some (b, 0)) ks bs := by
      have hrel := ptrs_rel hkb hpv
      have key : ∀ (mask : List Bool) (i : Nat) (as : List Value) (bs : List Nat), (∀ k ∈ posIn mask i, ∃ b, m' k = some (b, 0) ∧ a'.tmps.getD k undef = .pointer (some ⟨b, 0, none⟩)) → (∀ k ∈ posIn mask i, a'.tmps.getD k undef = as.getD (k - i) undef) →
          All2 (fun b v => v = .pointer (some ⟨b, 0, none⟩)) bs (ptrsIn mask as) → (as.length = mask.length) → All2 (fun k b => m' k = some (b, 0)) (posIn mask i) bs := by
        intro mask
        induction mask with
        | nil =>
          intro i as bs h1 h2 h3 hl
          cases as with
          | nil => cases bs with | nil => trivial | cons => exact h3.elim
          | cons => simp at hl
        | cons mk mask ih =>
          intro i as bs h1 h2 h3 hl
          cases as with
          | nil => simp at hl
          | cons v as =>
            cases mk with
            | true =>
              cases bs with
              | nil => exact h3.elim
              | cons b bs =>
                have g1 := h1 i (by simp [posIn])
                have g2 := h2 i (by simp [posIn])
                have hv : v = .pointer (some ⟨b, 0, none⟩) := h3.1
                rw [Nat.sub_self] at g2
                obtain ⟨b2, g3, g4⟩ := g1
                rw [g2] at g4
                simp only [List.getD_cons_zero] at g4
                rw [hv] at g4
                cases g4
                refine ⟨g3, ih (i + 1) as bs (fun k hk => h1 k (by simp [posIn, hk])) (fun k hk => ?_) h3.2 (by simpa using hl)⟩
                have := h2 k (by simp [posIn, hk])
                have hge := posIn_ge hk
                rw [this, show k - i = (k - (i + 1)) + 1 by omega, List.getD_cons_succ]
            | false =>
              refine ih (i + 1) as bs (fun k hk => h1 k hk) (fun k hk => ?_) h3 (by simpa using hl)
              have := h2 k hk
              have hge := posIn_ge (mask := mask) (i := i + 1) hk
              rw [this, show k - i = (k - (i + 1)) + 1 by omega, List.getD_cons_succ]
      refine key cp.mask 0 args.toList bs hsl (fun k hk => ?_) ?_ (by simpa using hsize)
      · have hD : φ.D k = false := by
          cases hq : mem k (dsts c) with
          | false => exact hq
          | true =>
            have := nott_true (allB_spec hck2 k (mem_spec.1 hq))
            rw [mem_spec.2 hk] at this
            cases this
        rw [hm'.keepT k hD]
        show (args ++ _).getD k undef = _
        rw [Nat.sub_zero]
        have hlt : k < args.size := by
          have hp : ∀ (mask : List Bool) (i k : Nat), k ∈ posIn mask i → k < i + mask.length := by
            intro mask
            induction mask with
            | nil => intro i k h; cases h
            | cons mk mask ih =>
              intro i k h
              cases mk with
              | true =>
                simp only [posIn, List.mem_cons] at h
                rcases h with rfl | h
                · simp
                · have := ih _ _ h; simp; omega
              | false => have := ih (i + 1) k h; simp; omega
          have := hp _ _ _ hk
          omega
        rw [Array.getD_eq_getD_getElem?, Array.getElem?_append_left hlt, List.getD_eq_getElem?_getD, Array.getElem?_toList]
      · have key2 : ∀ (bs sz : List Nat) (vs pc : List Value), PtrVals w X bs sz vs pc → All2 (fun b v => v = .pointer (some ⟨b, 0, none⟩)) bs vs := by
          intro bs
          induction bs with
          | nil => intro sz vs pc h; cases sz <;> cases vs <;> first | trivial | exact h.elim
          | cons b bs ih =>
            intro sz vs pc h
            cases sz with
            | nil => cases vs <;> exact h.elim
            | cons n sz =>
              cases vs with
              | nil => exact h.elim
              | cons v vs => obtain ⟨h1, _, us, T, pc', _, _, _, h'⟩ := h; exact ⟨h1, ih sz vs pc' h'⟩
        exact key2 _ _ _ _ hpv
    have hXm : NoMore w' (XA φ m') X := by
      intro b p _ hx
      by_cases hin : b ∈ bs
      · obtain ⟨k, _, hk⟩ := hkb'.mem_right b hin
        exact .inr ⟨k, 0, hk, rfl⟩
      · exact .inl ⟨hx, hin⟩
    have hXc : NoMore w' (Xc φ m' ks2) X := by
      intro b p hlt hx
      refine ⟨hXm b p hlt hx, fun j _ p0 he hp hmj => ?_⟩
      have := hm'.vn j b p0 hmj he hp
      have := (hX b p hx).1
      have h5 : w.heap.size ≤ b := hm'.vn j b p0 hmj he hp
      omega
    have hfin : bodyPost P fn (fun e w' => ∃ v, e = .returned v ∧ BelowBut (if cp.ro then [] else bs) w w' ∧ RetF w.heap.size none w' X cp.rsh cp.r (cp.F x).1 v ∧
        ∃ pc', PtrVals w' X bs cp.sz (ptrsIn cp.mask args.toList) pc' ∧ TR w' X cp.q (cp.F x).2 pc') .ret a' w' := by
      have hPost : (y, z) = cp.F x := hPost
      have hk := hm'.keepW
      refine ⟨hdef, v, hrun, v, rfl, ⟨hk.old.1, hk.old.2.1, hk.old.2.2.1, hk.old.2.2.2, fun k hk' hnin => hk.keep k hk' fun hB => ?_, fun k hk' => (hk.keepS k hk').1, fun k p hk' => (hk.keepS k hk').2 p⟩, ⟨rv, ?_, (fun T hT => by cases hT), hrs⟩, qv, ptrs_again hkb' hpv hqb, ?_⟩
      · have hB : cp.ro = false ∧ k ∈ bs := hB
        rw [hB.1] at hnin
        exact hnin hB.2
      · rw [← hPost]; exact hrr.mono (keeps_refl _ _) hXc _ _ _
      · rw [← hPost]; exact hqr.mono (keeps_refl _ _) hXm _ _ _
    cases e with
    | exit id => exact absurd rfl (hne id)
    | normal => exact hfin
    | ret => exact hfin
end
end Go.Proofs.Ytghlpolodjlgjaa.Sy
