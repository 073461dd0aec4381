/- The symbolic evaluator is sound: whole bodies, loops by their rounds, functions (own work). -/
import Derived.Test.YtghlpolodjlgjaaSx
import Derived.Test.YtghlpolodjlgjaaSd
namespace Go.Proofs.Ytghlpolodjlgjaa.Sy
open Go Go.RowKit
set_option linter.unusedVariables false
set_option linter.unusedSimpArgs false

section
variable {φ : Fr} {ν ν' : Nat → Bool} {m : Map} {st : ASt} {a : Act} {w w' : World} {own : List (Nat × Bool)} {W : List Nat} {P : Program} {C : Ctx} {o : Oper} {e : Eff}
  {K : Act → World → Prop}

theorem needs_all {ρ₀ ρ : Type} {rt : ρ₀ → ρ} {Post : ρ → Prop} : ∀ {l : List ER} {t : Tr ρ₀ ρ}, (needs l t).All rt Post → needsHold l ∧ t.All rt Post
  | [], t, h => ⟨fun e he => (by cases he), h⟩
  | e :: r, t, h => by
    simp only [needs] at h
    split at h
    · rename_i p hp
      obtain ⟨h1, h2⟩ := needs_all h.2
      refine ⟨fun x hx q hq => ?_, h2⟩
      rcases List.mem_cons.1 hx with rfl | hx
      · rw [hp] at hq; cases hq; exact h.1
      · exact h1 x hx q hq
    · rename_i hp
      obtain ⟨h1, h2⟩ := needs_all h
      refine ⟨fun x hx q hq => ?_, h2⟩
      rcases List.mem_cons.1 hx with rfl | hx
      · rw [hp] at hq; cases hq
      · exact h1 x hx q hq

theorem dsts_region {id : Nat} {ops : Array Oper} {d : Bool} {o : Oper} {t : Nat} (ho : o ∈ ops.toList) (hd : o.dst = some t) : t ∈ dsts (.region id ops d) :=
  List.mem_filterMap.2 ⟨o, ho, hd⟩

theorem evCode_ok (hC : CtxOk P C) {ρ₀ ρ : Type} {Ret : Nat → (Nat → Nat → Prop) → ρ₀ → Act → World → Prop} {L : Nat → Option (LS ρ₀)} {rt : ρ₀ → ρ} {Post : ρ → Prop} {φ : Fr} (hφ : FrOk C.G φ)
    (hmono : ∀ n X X' r a w, (∀ b p, X' b p → X b p) → Ret n X r a w → Ret n X' r a w) :
    ∀ (c : Code) (st : ASt) (k : Ex → ASt → Tr ρ₀ ρ) (R : Exit → Act → World → Prop) (a : Act) (w : World), Plain st → Sat φ ν0 st a w → (∀ d ∈ dsts c, d < φ.n ∧ φ.D d = true) →
      (∀ body ∈ loopsIn c, ∀ s, L (codeId body) = some s → LoopOk P C.G Ret body s) → (evCode C L c st k).All rt Post →
      (∀ x st' a' w', Plain st' → Sat φ ν0 st' a' w' → (k x st').All rt Post → R (exOf x) a' w') →
      (∀ r a' w', Post (rt r) → Ret φ.n0 φ.X0 r a' w' → KeepW φ w' → R .ret a' w') → c.wp P R a w := by
  intro c
  induction c with
  | skip => intro st k R a w hp hs hD hL hA hk hr; exact wp_skip (hk .normal st a w hp hs hA)
  | region id ops d =>
    intro st k R a w hp hs hD hL hA hk hr
    simp only [evCode] at hA
    cases hnd : nodup (ops.toList.filterMap (·.dst)) with
    | false => rw [hnd] at hA; exact hA.elim
    | true =>
      rw [hnd] at hA
      simp only [cnd] at hA
      split at hA
      case h_2 => exact hA.elim
      rename_i l hl
      obtain ⟨hn, hA⟩ := needs_all hA
      obtain ⟨m, hm⟩ := hs.frzAll (ks := C.fz id)
      have hreg : RegM φ ν0 m [] (frzAll (C.fz id) st) a w := ⟨hm, fun t g hg x hx => (by rw [frzAll_slot] at hg; rw [hp t g hg] at hx; cases hx), fun d hd => (by cases hd)⟩
      exact region_ok (φ := φ) (Q := R) hC hφ (fun o ho d hd => hD d (dsts_region ho hd)) hnd hl hn ⟨m, hreg⟩
        (fun a' w' ν' W' ⟨m', h'⟩ => hk .normal _ a' w' plain_plain ⟨m', h'.sat.plain⟩ hA)
  | seq x y ihx ihy =>
    intro st k R a w hp hs hD hL hA hk hr
    simp only [evCode] at hA
    have hDx : ∀ d ∈ dsts x, d < φ.n ∧ φ.D d = true := fun d hd => hD d (by simp only [dsts, app_eq, List.mem_append]; exact .inl hd)
    have hDy : ∀ d ∈ dsts y, d < φ.n ∧ φ.D d = true := fun d hd => hD d (by simp only [dsts, app_eq, List.mem_append]; exact .inr hd)
    refine wp_seq (ihx st _ (Exit.then (y.wp P R) R) a w hp hs hDx (fun b hb => hL b (by simp [loopsIn, hb])) hA (fun x' st' a' w' hp' hs' hA' => ?_) (fun r a' w' => hr r a' w'))
    cases x' with
    | normal => exact ihy st' k R a' w' hp' hs' hDy (fun b hb => hL b (by simp [loopsIn, hb])) hA' hk hr
    | exit id => exact hk (.exit id) st' a' w' hp' hs' hA'
    | ret => exact hk .ret st' a' w' hp' hs' hA'
  | cond c x y ihx ihy =>
    intro st k R a w hp hs hD hL hA hk hr
    simp only [evCode] at hA
    have hDx : ∀ d ∈ dsts x, d < φ.n ∧ φ.D d = true := fun d hd => hD d (by simp only [dsts, app_eq, List.mem_append]; exact .inl hd)
    have hDy : ∀ d ∈ dsts y, d < φ.n ∧ φ.D d = true := fun d hd => hD d (by simp only [dsts, app_eq, List.mem_append]; exact .inr hd)
    split at hA
    case h_2 => exact hA.elim
    rename_i cv hc
    obtain ⟨m, hm⟩ := hs
    have hcv : a.eval c = .bool cv := opndc_ok hm (fun x hx => by cases hx) hc
    refine wp_cond_split hcv (fun ht => ?_) (fun hf => ?_)
    · exact ihx st k R a w hp ⟨m, hm⟩ hDx (fun b hb => hL b (by simp [loopsIn, hb])) (hA.1 ht) hk hr
    · exact ihy st k R a w hp ⟨m, hm⟩ hDy (fun b hb => hL b (by simp [loopsIn, hb])) (hA.2 hf) hk hr
  | block id b ih =>
    intro st k R a w hp hs hD hL hA hk hr
    simp only [evCode] at hA
    refine wp_block (ih st _ (Exit.inBlock id R) a w hp hs hD hL hA (fun x st' a' w' hp' hs' hA' => ?_) (fun r a' w' => hr r a' w'))
    cases x with
    | normal => exact hk .normal st' a' w' hp' hs' hA'
    | ret => exact hk .ret st' a' w' hp' hs' hA'
    | exit j =>
      simp only [exOf, Exit.inBlock]
      by_cases hj : j = id
      · rw [if_pos hj]
        simp only at hA'
        rw [cnd_beq_true hj] at hA'
        exact hk .normal st' a' w' hp' hs' hA'
      · rw [if_neg hj]
        simp only at hA'
        rw [cnd_beq_false hj] at hA'
        exact hk (.exit j) st' a' w' hp' hs' hA'
  | loop body ih =>
    intro st0 k R a w hp0 hs hD hL hA hk hr
    simp only [evCode] at hA
    split at hA
    case h_2 => exact hA.elim
    rename_i s hLs
    have hs' := hs.frzAll (ks := s.fz)
    have hp : Plain (frzAll s.fz st0) := fun t g hg => by rw [frzAll_slot] at hg; exact hp0 t g hg
    generalize frzAll s.fz st0 = st at hA hs' hp
    split at hA
    case h_2 => exact hA.elim
    rename_i kc0 xc0 hkc hxc hchk
    obtain ⟨hchk, hN⟩ := andd_true hchk
    split at hA
    case h_2 => exact hA.elim
    rename_i kc xc hku hxu hnd
    split at hA
    case h_2 => exact hA.elim
    rename_i kv xv hkv hxv
    obtain ⟨m, hm⟩ := hs'
    have hDb : ∀ d ∈ dsts body, d < φ.n ∧ φ.D d = true := hD
    obtain ⟨hfK, hfX, m', hview, hxm, hvm, hxn⟩ := tmpl_view hm hkc hxc (andd_true hchk).1 hN hku hxu hnd hkv hxv
    have hin := hview.into (body := body) hm
    have hTw : ∀ k bx, (tmpl s (enc s.K kv) (enc s.X xv)).box k = some bx → bx.isRo = false → k ∈ firsts s.xb ∨ k ∈ vnames s.vecs := by
      intro k bx h1 h2
      rcases orE_some h1 with h3 | ⟨_, h3⟩
      · exact .inl (boxesOf_mem h3).1
      · rcases orE_some h3 with h4 | ⟨_, h4⟩
        · obtain ⟨_, cs', rfl⟩ := boxesOf_mem h4; cases h2
        · exact .inr (vxB_name h4).1
    have hTx : ∀ k ∈ firsts s.xb, ∃ bx, (tmpl s (enc s.K kv) (enc s.X xv)).box k = some bx ∧ bx.isRo = false := by
      intro k hk'
      obtain ⟨bx, hb⟩ := boxesOf_some (mk := .cells) (cs := (vxC s.vecs 0 (enc s.X xv)).drop (shLen s.xs)) hk'
      obtain ⟨_, cs', rfl⟩ := boxesOf_mem hb
      exact ⟨.cells cs', by show orE _ _ = _; rw [hb]; rfl, rfl⟩
    have hkeys : ∀ k ∈ keysX s.vecs 0 xc0, st.box k ≠ none ∧ ∀ b p, m k = some (b, p) → 0 < p := by
      obtain ⟨xc1, xc2, hx1, hx2, rfl⟩ := appO_spec hxc
      obtain ⟨xvs1, _, hxr1⟩ := rdS_ok hm hx1
      obtain ⟨xvs2, _, hxr2, _⟩ := rdW_ok hm hx2
      have hcs := All2.append hxr1 hxr2
      have key : ∀ (vs : List (Nat × Nat × Bool × Nat)) (i : Nat) (cs : List Cell) (us : List Value), CRs m (XA φ m) w cs us → ∀ k ∈ keysX vs i cs, st.box k ≠ none ∧ ∀ b p, m k = some (b, p) → 0 < p := by
        intro vs i cs
        induction cs generalizing i with
        | nil => intro us _ k hk'; cases hk'
        | cons c cs ih2 =>
          intro us hc k hk'
          cases us with
          | nil => exact hc.elim
          | cons u us =>
            have rest := ih2 (Nat.succ i) us hc.2 k
            simp only [keysX] at hk'
            split at hk'
            · split at hk'
              · rename_i e k0
                rcases List.mem_cons.1 hk' with rfl | hk'
                · obtain ⟨b, p, h1, h2, _⟩ := hc.1
                  exact ⟨(fun hn => by rw [hm.dom _ hn] at h1; cases h1), (fun b' p' h3 => by rw [h1] at h3; cases h3; exact h2)⟩
                · exact rest hk'
              · exact rest hk'
            · exact rest hk'
      exact key _ _ _ _ hcs
    have hok := hL body (by simp [loopsIn]) s hLs kv xv (inner φ m m' _ body a w) a w ⟨hφ.wok, hφ.gl⟩
      (fun p hpp => by rw [hpp] at hA; exact hA.1) hfK hfX (fun d hd => ⟨(hDb d hd).1, mem_spec.2 hd⟩) ⟨_, hin⟩
    refine wp_mono hok fun e a' w' hq => ?_
    have hA2 : (match s.R with | none => k (.exit s.exit) (after s (dsts body) (keysX s.vecs 0 xc0) st (enc s.X (s.G kv xv))) | some R => Tr.opt (R kv xv) (k (.exit s.exit) (after s (dsts body) (keysX s.vecs 0 xc0) st (enc s.X (s.G kv xv))))).All rt Post := by
      cases hi : s.inv with
      | none => rw [hi] at hA; exact hA
      | some p => rw [hi] at hA; exact hA.2
    cases e with
    | exit id =>
      obtain ⟨rfl, hR, m'', hi⟩ := hq
      obtain ⟨h1, h2⟩ := leave_loop hm hp hview hTw hxm hvm hxn hTx (fun k hk' => (hkeys k hk').2) (fun k hk' => (hkeys k hk').1) hchk hN (fun d hd => (hDb d hd).2) hi
      refine hk (.exit s.exit) _ a' w' h2 h1 ?_
      cases hRR : s.R with
      | none => rw [hRR] at hA2; exact hA2
      | some Rf => rw [hRR] at hA2; exact hA2.2 (hR Rf hRR)
    | ret =>
      obtain ⟨Rf, r, h1, h2, h3, h4⟩ := hq
      rw [h1] at hA2
      have hWown : ∀ b, Wr (tmpl s (enc s.K kv) (enc s.X xv)) m' b → φ.B b ∨ φ.w0.heap.size ≤ b := by
        rintro b ⟨k, bx, p, h5, h6, h7, h8⟩
        exact hview.own k bx b p h5 h6 h7 h8
      have hX0 : ∀ b p, φ.X0 b p → (inner φ m m' (tmpl s (enc s.K kv) (enc s.X xv)) body a w).X0 b p := by
        intro b p h
        refine ⟨.inl h, fun hw => ?_⟩
        obtain ⟨h5, h6, _⟩ := hm.x0 _ _ h
        rcases hWown b hw with h7 | h7
        · exact h6 h7
        · omega
      refine hr r a' w' (hA2.1 r h2) (hmono _ _ _ r a' w' hX0 h3) ⟨⟨h4.old.1.trans hm.old.1, h4.old.2.1.trans hm.old.2.1, h4.old.2.2.1.trans hm.old.2.2.1, Nat.le_trans hm.old.2.2.2 h4.old.2.2.2⟩, fun b hb hnb => ?_, fun b hb => ?_⟩
      · refine (h4.keep b (Nat.lt_of_lt_of_le hb hm.old.2.2.2) fun hw => ?_).trans (hm.keep b hb hnb)
        rcases hWown b hw with h5 | h5
        · exact hnb h5
        · omega
      · exact ⟨(h4.keepS b (Nat.lt_of_lt_of_le hb hm.old.2.2.2)).1.trans (hm.keepS b hb).1, fun p => ((h4.keepS b (Nat.lt_of_lt_of_le hb hm.old.2.2.2)).2 p).trans ((hm.keepS b hb).2 p)⟩
    | normal => exact hq.elim
    | goto l => exact hq.elim
    | panic ch => exact hq.elim
    | outgrown => exact hq.elim
  | exit id => intro st k R a w hp hs hD hL hA hk hr; exact wp_exit (hk (.exit id) st a w hp hs hA)
  | ret => intro st k R a w hp hs hD hL hA hk hr; exact wp_ret (hk .ret st a w hp hs hA)
  | rangeFunc f ps as b => intro st k R a w hp hs hD hL hA hk hr; exact hA.elim
  | scope b ih => intro st k R a w hp hs hD hL hA hk hr; exact hA.elim
  | label l => intro st k R a w hp hs hD hL hA hk hr; exact hA.elim
  | goto l => intro st k R a w hp hs hD hL hA hk hr; exact hA.elim
  | refuse s => intro st k R a w hp hs hD hL hA hk hr; exact hA.elim

/-! ### Results -/
def RetAt (P : Program) (fn : Func) (rsh : Rsh) (fr : Option Nat) (r : Ty) (n0 : Nat) (X : Nat → Nat → Prop) (y : r.den) (a : Act) (w : World) : Prop :=
  a.defers = [] ∧ ∃ v, (results fn a.tmps).run P w = .ok v w ∧ RetF n0 fr w X rsh r y v

theorem keeps_refl (X : Nat → Nat → Prop) (w : World) : Keeps X w w := ⟨Nat.le_refl _, fun _ _ _ _ => rfl, fun _ _ => rfl, fun _ _ _ => rfl⟩

theorem RetAt.mono {fn : Func} {rsh : Rsh} {fr : Option Nat} {r : Ty} {n0 : Nat} {X X' : Nat → Nat → Prop} {y : r.den} (hX : ∀ b p, X' b p → X b p) (h : RetAt P fn rsh fr r n0 X y a w) : RetAt P fn rsh fr r n0 X' y a w := by
  obtain ⟨h1, v, h2, cs, h3, h3', h4⟩ := h
  exact ⟨h1, v, h2, cs, h3.mono (keeps_refl _ _) (fun b p _ h => hX b p h) _ _ _, h3', h4⟩

theorem run_mapM_results {fn : Func} (hC : CtxOk P C) (hs : SatM φ ν m st a w) : ∀ {l : List ResultVar} {xs : List SV}, resCells C fn st l = some xs →
    ∃ vs : List Value, (l.mapM fun x => (match x with | .tmp t => pure (a.tmps.getD t undef) | .cell b t => do loadVar t (← asAddr (a.tmps.getD b undef)) : Sem Value)).run P w = .ok vs w ∧ All2 (SR m (XA φ m) w) xs vs
  | [], xs, h => by simp only [resCells, Option.some.injEq] at h; subst h; exact ⟨[], rfl, trivial⟩
  | .tmp t :: r, xs, h => by
    simp only [resCells] at h
    split at h
    case h_2 => cases h
    rename_i v l' hv hl
    simp only [Option.some.injEq] at h
    subst h
    obtain ⟨vs, h1, h2⟩ := run_mapM_results hC hs hl
    have hv' := opnd1_ok hs (fun x hx => by cases hx) hv
    refine ⟨a.tmps.getD t undef :: vs, ?_, hv', h2⟩
    rw [List.mapM_cons, Sem.run_bind]
    simp only [Sem.run_pure, Result.andThen_ok]
    rw [Sem.run_bind, h1]
    rfl
  | .cell b t :: r, xs, h => by
    simp only [resCells] at h
    split at h
    case h_2 => cases h
    rename_i k d l' hb hD hl
    split at h
    case h_2 => cases h
    rename_i cs hbx
    split at h
    case h_2 => cases h
    rename_i v hv
    obtain ⟨hle, h⟩ := cnd_some h
    simp only [Option.some.injEq] at h
    subst h
    have hle : d.ty.n ≤ cs.length := by have := Nat.le_of_ble_eq_true hle; rwa [len'_eq] at this
    obtain ⟨vs, h1, h2⟩ := run_mapM_results hC hs hl
    have hT := hC.D t d hD
    obtain ⟨blk, us, T, hm, hu, hh, hcs⟩ := box_cells hs (opndc_ok hs (fun x hx => by cases hx) hb) (.inl hbx)
    have hlen := hcs.length
    simp only [Array.length_toList] at hlen
    have hload : (loadVar t ⟨blk, 0, none⟩).run P w = .ok (mkV d.agg (us.toList.take d.ty.n)) w :=
      run_loadVar hT (by simp; omega) (fun j hj => by
        rw [Nat.zero_add, cell_heap hh, List.getD_eq_getElem?_getD, List.getElem?_take, if_pos hj, Array.getElem?_toList, Array.getElem?_eq_getElem (by omega)]
        rfl) hT.one
    refine ⟨mkV d.agg (us.toList.take d.ty.n) :: vs, ?_, mkSV_ok hv (All2.take _ hcs), h2⟩
    have hu' : a.tmps.getD b undef = .pointer (some ⟨blk, 0, none⟩) := hu
    have hhead : ((asAddr (a.tmps.getD b undef)) >>= fun x => loadVar t x).run P w = .ok (mkV d.agg (us.toList.take d.ty.n)) w := by
      rw [Sem.run_bind, hu']; exact hload
    rw [List.mapM_cons, Sem.run_bind]
    simp only []
    rw [hhead, Result.andThen_ok, Sem.run_bind, h1]
    rfl

theorem freshL_ok (hs : SatM φ ν m st a w) {T : TypeId} {ks : List Nat} : ∀ {cs cs' : List Cell} {us : List Value}, unvL false st cs = some cs' → freshL st T cs = true → CRs m (XA φ m) w cs us → All2 (FreshV φ.n0 T w) (cs'.map Cell.no) us
  | [], cs', us, h, hf, hc => by simp only [unvL, Option.some.injEq] at h; subst h; match us, hc with | [], _ => exact trivial
  | c :: cs, cs', [], h, hf, hc => hc.elim
  | c :: cs, cs', u :: us, h, hf, hc => by
    simp only [unvL] at h
    split at h
    case h_2 => cases h
    rename_i c1 r1 h1 h2
    cases h
    cases c with
    | lst e tl l =>
      cases tl with
      | no => cases hf
      | exact =>
        obtain ⟨hf1, hf2⟩ := andd_true hf
        simp only [unvC, Option.some.injEq] at h1
        subst h1
        refine ⟨.inl ?_, freshL_ok hs (ks := ks) h2 hf2 hc.2⟩
        rcases hc.1.2 with ⟨_, hu⟩ | ⟨hne, _⟩
        · exact hu
        · cases l with | nil => exact absurd rfl hne | cons => cases hf1
    | vref e k =>
      simp only [freshL] at hf
      have hsome : ∃ o T' e' l, st.box k = some (.vec o T' e' l) ∧ freshL st T cs = true ∧ unB T = T' ∧ (o = true ∨ (Nat.ble big T = true ∧ o = false)) := by
        split at hf
        · rename_i T' e' l hbx
          obtain ⟨hf1, hf2⟩ := andd_true hf
          exact ⟨true, T', e', l, hbx, hf2, beq_eq hf1, .inl rfl⟩
        · rename_i T' e' l hbx
          obtain ⟨hf1, hf2⟩ := andd_true hf
          exact ⟨false, T', e', l, hbx, hf2, beq_eq (andd_true hf1).2, .inr ⟨(andd_true hf1).1, rfl⟩⟩
        · cases hf
      obtain ⟨o, T', e', l, hbx, hf2, hT', hkind⟩ := hsome
      simp only [unvC, hbx, cnd] at h1
      split at h1
      case h_2 => cases h1
      rename_i l' hl'
      cases h1
      obtain ⟨e0, hl2⟩ := castL_eq hl'
      subst e0
      simp only at hl2
      subst hl2
      refine ⟨?_, freshL_ok hs (ks := ks) h2 hf2 hc.2⟩
      obtain ⟨b, p, hm, hp, hval⟩ := hc.1
      obtain ⟨b', p', h3, h4⟩ := hs.box k _ hbx
      rw [hm] at h3
      cases h3
      rcases h4 with ⟨_, rfl⟩ | ⟨rfl, vs, cap, ⟨z9, hh, hz9⟩, hsz, hcap, hmax, hel⟩ | ⟨h4, rfl, hrk, T9, hsh9⟩
      · rcases hval with ⟨_, hu⟩ | ⟨hne, _⟩
        · exact .inl hu
        · exact absurd rfl hne
      · rcases hval with ⟨h5, _⟩ | ⟨_, cap2, T2, hu, hsh, hle2, hmax2⟩
        · omega
        · refine .inr (.inl ⟨b, _, cap2, vs, hu, hs.vn _ _ _ hm (by omega) (by omega), by rw [hT']; exact ⟨z9, hh, hz9⟩, ?_, hmax2⟩)
          have : w.shape? b = some (T', vs.size) := by unfold World.shape?; rw [hh]
          rw [this] at hsh
          simp only [Option.some.injEq, Prod.mk.injEq] at hsh
          exact hsh.2
      · rcases hkind with h9 | ⟨h9, _⟩
        · rw [h9] at h4; cases h4
        · rcases hval with ⟨h5, _⟩ | ⟨_, cap2, T2, hu, hsh, hle2, hmax2⟩
          · omega
          · rw [vlen_dead] at hu hle2
            rw [hsh9] at hsh
            simp only [Option.some.injEq, Prod.mk.injEq] at hsh
            exact .inr (.inr ⟨h9, b, _, cap2, T9, hu, hsh9, hsh.2⟩)
    | _ => 
      simp only [unvC, Option.some.injEq] at h1
      subst h1
      exact ⟨trivial, freshL_ok hs (ks := ks) h2 hf hc.2⟩

theorem freshS_ok (hs : SatM φ ν m st a w) {fr : Option Nat} {ks : List Nat} : ∀ {xs xs' : List SV} {us : List Value}, unvSs false st xs = some xs' → freshO st xs fr = true → All2 (SR m (XA φ m) w) xs us → (∀ k ∈ vksS xs, k ∈ ks) →
    All2 (SRg fun c v => CR m (Xc φ m ks) w c v ∧ ∀ T, fr = some T → FreshV φ.n0 T w c.no v) xs' us
  | [], xs', us, h, hf, hc, hk => by simp only [unvSs, Option.some.injEq] at h; subst h; match us, hc with | [], _ => exact trivial
  | x :: xs, xs', [], h, hf, hc, hk => hc.elim
  | x :: xs, xs', u :: us, h, hf, hc, hk => by
    simp only [unvSs] at h
    split at h
    case h_2 => cases h
    rename_i x1 r1 h1 h2
    cases h
    have hf1 : ∀ T, fr = some T → freshL st T x.cells = true := fun T hT => by subst hT; exact (andd_true hf).1
    have hf2 : freshO st xs fr = true := by
      cases fr with
      | none => rfl
      | some T => exact (andd_true hf).2
    refine ⟨?_, freshS_ok hs h2 hf2 hc.2 (fun k hk' => hk k (by simp [vksS, app_eq, hk']))⟩
    have hcr := unvS_ok hs h1 hc.1 (ks := ks) (fun _ k hk' => hk k (by simp [vksS, app_eq, hk']))
    cases x with
    | one c =>
      simp only [unvS] at h1
      split at h1
      case h_2 => cases h1
      rename_i c' hc'
      cases h1
      refine ⟨hcr, fun T hT => ?_⟩
      have := freshL_ok hs (ks := ks) (cs := [c]) (cs' := [c']) (us := [u]) (by simp [unvL, hc']) (hf1 T hT) ⟨hc.1, trivial⟩
      exact this.1
    | agg cs =>
      simp only [unvS] at h1
      split at h1
      case h_2 => cases h1
      rename_i c' hc'
      cases h1
      obtain ⟨vs, rfl, h3⟩ := hcr
      obtain ⟨vs', h4, h5⟩ := hc.1
      cases h4
      refine ⟨vs, rfl, ?_⟩
      have hall : ∀ T, fr = some T → All2 (fun c v => FreshV φ.n0 T w c.no v) c' vs.toList := by
        intro T hT
        have h6 := freshL_ok hs (ks := ks) hc' (hf1 T hT) h5
        have key : ∀ (cs : List Cell) (us : List Value), All2 (FreshV φ.n0 T w) (cs.map Cell.no) us → All2 (fun c v => FreshV φ.n0 T w c.no v) cs us := by
          intro cs
          induction cs with
          | nil => intro us h; cases us with | nil => trivial | cons => exact h.elim
          | cons c cs ih => intro us h; cases us with | nil => exact h.elim | cons u us => exact ⟨h.1, ih us h.2⟩
        exact key _ _ h6
      have key2 : ∀ (cs : List Cell) (us : List Value), CRs m (Xc φ m ks) w cs us → (∀ T, fr = some T → All2 (fun c v => FreshV φ.n0 T w c.no v) cs us) → All2 (fun c v => CR m (Xc φ m ks) w c v ∧ ∀ T, fr = some T → FreshV φ.n0 T w c.no v) cs us := by
        intro cs
        induction cs with
        | nil => intro us h _; cases us with | nil => trivial | cons => exact h.elim
        | cons c cs ih => intro us h h2; cases us with | nil => exact h.elim | cons u us => exact ⟨⟨h.1, fun T hT => (h2 T hT).1⟩, ih us h.2 fun T hT => (h2 T hT).2⟩
      exact key2 _ _ h3 hall

theorem evRet_ok (hC : CtxOk P C) (hs : SatM φ ν m st a w) {fn : Func} {rsh : Rsh} {fr : Option Nat} {r : Ty} {x : Ex} {Post : r.den → Prop} (h : (evRet C fn rsh fr r x st).All (fun y => y) Post) :
    (∀ id, x ≠ .exit id) ∧ ∃ y, Post y ∧ RetAt P fn rsh fr r φ.n0 φ.X0 y a w := by
  unfold evRet at h
  split at h
  · exact h.elim
  · exact h.elim
  · rename_i hne hnt
    refine ⟨fun id hx => hne id hx, ?_⟩
    split at h
    case h_2 => exact h.elim
    rename_i xs0 hxs0
    split at h
    case h_2 => exact h.elim
    rename_i xs hxs hfr
    split at h
    case h_2 => exact h.elim
    rename_i cs hcs
    split at h
    case h_2 => exact h.elim
    rename_i y hy
    obtain ⟨vs, h1, h2⟩ := run_mapM_results hC hs hxs0
    have h2' := freshS_ok hs hxs hfr h2 (ks := vksS xs0) (fun k hk => hk)
    obtain ⟨cv, h3, h4'⟩ := shapes_rel hcs h2'
    have h4 : CRs m (Xc φ m (vksS xs0)) w cs cv := h4'.mono fun _ _ h => h.1
    have h5 := dec_ok hy h4
    obtain ⟨henc, _⟩ := enc_dec hy
    have hfresh : ∀ T, fr = some T → All2 (FreshV φ.n0 T w) (enc r y) cv := by
      intro T hT
      rw [henc]
      have key : ∀ (cs : List Cell) (us : List Value), All2 (fun c v => CR m (Xc φ m (vksS xs0)) w c v ∧ ∀ T, fr = some T → FreshV φ.n0 T w c.no v) cs us → All2 (FreshV φ.n0 T w) (cs.map Cell.no) us := by
        intro cs
        induction cs with
        | nil => intro us h; cases us with | nil => trivial | cons => exact h.elim
        | cons c cs ih => intro us h; cases us with | nil => exact h.elim | cons u us => exact ⟨h.1.2 T hT, ih us h.2⟩
      exact key _ _ h4'
    have hvref : ∀ k ∈ vksS xs0, ∀ b p, m k = some (b, p) → 0 < p := by
      have keyC : ∀ (cs : List Cell) (us : List Value), CRs m (XA φ m) w cs us → ∀ k ∈ vksL cs, ∀ b p, m k = some (b, p) → 0 < p := by
        intro cs
        induction cs with
        | nil => intro us _ k hk; cases hk
        | cons c cs ih =>
          intro us hc k hk
          cases us with
          | nil => exact hc.elim
          | cons u us =>
            cases c with
            | vref e k0 =>
              simp only [vksL, List.mem_cons] at hk
              rcases hk with rfl | hk
              · obtain ⟨b, p, h1, h2, _⟩ := hc.1
                intro b' p' h3; rw [h1] at h3; cases h3; exact h2
              · exact ih us hc.2 k hk
            | _ => exact ih us hc.2 k hk
      have keyS : ∀ (xs : List SV) (us : List Value), All2 (SR m (XA φ m) w) xs us → ∀ k ∈ vksS xs, ∀ b p, m k = some (b, p) → 0 < p := by
        intro xs
        induction xs with
        | nil => intro us _ k hk; cases hk
        | cons x xs ih =>
          intro us hc k hk
          cases us with
          | nil => exact hc.elim
          | cons u us =>
            simp only [vksS, app_eq, List.mem_append] at hk
            rcases hk with hk | hk
            · exact keyC _ _ (SV.cells_ok hc.1) k hk
            · exact ih us hc.2 k hk
      exact keyS _ _ h2
    have hX0 : NoMore w (Xc φ m (vksS xs0)) φ.X0 := by
      intro b q _ hx
      refine ⟨.inl hx, fun k hk p hp0 hp1 hm => ?_⟩
      obtain ⟨h6, h7, _⟩ := hs.x0 _ _ hx
      cases hb0 : st.box k with
      | none => rw [hs.dom k hb0] at hm; cases hm
      | some bx0 =>
        have hro : bx0.isRo = false := by
          cases bx0 with
          | ro cs =>
            obtain ⟨b2, _, _, h9, _⟩ := hs.box k _ hb0
            rw [hm] at h9; cases h9; omega
          | _ => rfl
        rcases hs.own k bx0 b p hb0 hro hm hp0 with h8 | h8
        · exact h7 h8
        · omega
    refine ⟨y, h, hs.defers, ?_⟩
    have hres : (results fn a.tmps).run P w = .ok (if h : vs.toArray.size = 1 then vs.toArray[0] else .tuple vs.toArray) w := by
      unfold results
      rw [Sem.run_bind, Array.mapM_eq_mapM_toList]
      have : (List.toArray <$> fn.results.toList.mapM fun x => (match x with | .tmp t => pure (a.tmps.getD t undef) | .cell b t => do loadVar t (← asAddr (a.tmps.getD b undef)) : Sem Value)).run P w = .ok vs.toArray w := by
        rw [map_eq_pure_bind, Sem.run_bind, h1]; rfl
      exact Eq.trans (congrArg (fun q => Result.andThen q _) this) rfl
    refine ⟨_, hres, cv, h5.mono (keeps_refl _ _) hX0 _ _ _, hfresh, ?_⟩
    cases rsh with
    | none =>
      simp only [shapesOf] at h3
      match vs, h3 with | [], _ => rfl
    | one sh =>
      simp only [shapesOf] at h3
      match vs, h3 with
      | [v], h3 => exact h3
      | [], h3 => cases sh <;> cases h3
      | v :: v2 :: r2, h3 =>
        cases sh with
        | none => obtain ⟨_, _, h6⟩ := h3; cases h6
        | some n => obtain ⟨_, _, _, _, _, h6⟩ := h3; cases h6
    | tup ss =>
      simp only [shapesOf] at h3
      have hlen : ∀ (ss : List (Option Nat)) (vs cv : List Value), ShapeR ss vs cv → vs.length = ss.length := by
        intro ss
        induction ss with
        | nil => intro vs cv h; cases vs with | nil => rfl | cons v vs => cases h
        | cons s ss ih =>
          intro vs cv h
          cases vs with
          | nil => cases s <;> cases h
          | cons v vs =>
            cases s with
            | none => obtain ⟨cs', _, h6⟩ := h; simp [ih _ _ h6]
            | some n => obtain ⟨ds, cs', _, _, _, h6⟩ := h; simp [ih _ _ h6]
      have hne1 : ss.length ≠ 1 := by
        intro h6
        match ss, h6 with | [s], _ => exact hnt s rfl
      refine ⟨vs, ?_, h3⟩
      rw [dif_neg (by simpa [hlen _ _ _ h3] using hne1)]

/-! ### Loops, by their rounds -/
inductive BOut (K X ρ : Type) where
  | next (k : K) (x : X) | brk (k : K) (x : X) | ret (r : ρ)

def readX {ρ₀ : Type} (s : LS ρ₀) (st : ASt) : Option s.X.den :=
  match appO (rdS st s.xs) (rdW st s.xb) with
  | some c => match unvX st s.vecs 0 c, nodup (keysX s.vecs 0 c) with | some c', true => dec s.X c' | _, _ => none
  | none => none
def readK {ρ₀ : Type} (s : LS ρ₀) (st : ASt) : Option s.K.den :=
  match appO (rdS st s.ks) (rdB st s.kb) with
  | some c => match unvL true st c with | some c' => dec s.K c' | none => none
  | none => none

/-- What a round's end comes to. -/
def evRound {ρ₀ : Type} (s : LS ρ₀) (ret : ASt → Tr ρ₀ ρ₀) (x : Ex) (st : ASt) : Tr ρ₀ (BOut s.K.den s.X.den ρ₀) :=
  match x with
  | .normal => match readK s st, readX s st, andd (chkN s) (chkP st [] (firsts s.xs) (app (firsts s.xb) (firsts s.kb)) s.ptrs) with | some k, some y, true => .ret (.next k y) | _, _, _ => .bad
  | .exit id => match readK s st, readX s st, andd (chkN s) (chkP st [] (firsts s.xs) (app (firsts s.xb) (firsts s.kb)) s.ptrs) with | some k, some y, true => cnd (Nat.beq id s.exit) (.ret (.brk k y)) .bad | _, _, _ => .bad
  | .ret => match ret st with | .ret r => .ret (.ret r) | _ => .bad

/-- What a round must come to. -/
def RoundOk {ρ₀ : Type} (s : LS ρ₀) (μ : s.K.den → s.X.den → Nat) (kv : s.K.den) (xv : s.X.den) : BOut s.K.den s.X.den ρ₀ → Prop
  | .next k y => k = kv ∧ (∀ p, s.inv = some p → p kv y) ∧ μ kv y < μ kv xv ∧ s.G kv y = s.G kv xv ∧ (∀ R, s.R = some R → R kv y = R kv xv)
  | .brk k y => k = kv ∧ s.G kv xv = y ∧ (∀ R, s.R = some R → R kv xv = none)
  | .ret r => ∃ R, s.R = some R ∧ R kv xv = some r

theorem tmpl_plain {ρ₀ : Type} {s : LS ρ₀} {kc xc : List Cell} : Plain (tmpl s kc xc) := by
  intro t g h
  have hsl : ∀ (l : List (Nat × Option Nat)) (cs : List Cell), slotsOf l cs t = some g → g.tags = [] := by
    intro l
    induction l with
    | nil => intro cs h; cases h
    | cons p r ih =>
      obtain ⟨u, sh⟩ := p
      intro cs h
      cases sh with
      | none =>
        cases cs with
        | nil => exact ih [] h
        | cons c cs =>
          simp only [slotsOf] at h
          by_cases hut : t = u
          · rw [cnd_beq_true hut] at h; cases h; rfl
          · rw [cnd_beq_false hut] at h; exact ih cs h
      | some n =>
        simp only [slotsOf] at h
        by_cases hut : t = u
        · rw [cnd_beq_true hut] at h; cases h; rfl
        · rw [cnd_beq_false hut] at h; exact ih _ h
  rcases orE_some h with h | ⟨_, h⟩
  · obtain ⟨k, _, rfl⟩ := ptrsOf_some h; rfl
  · rcases orE_some h with h | ⟨_, h⟩
    · exact hsl _ _ h
    · exact hsl _ _ h

theorem read_retmpl {ρ₀ : Type} {s : LS ρ₀} (hs : SatM φ ν m st a w) {kv : s.K.den} {xv : s.X.den} (hk : readK s st = some kv) (hx : readX s st = some xv)
    (hc : andd (chkN s) (chkP st [] (firsts s.xs) (app (firsts s.xb) (firsts s.kb)) s.ptrs) = true) : Fit s.X xv ∧ Sat φ ν0 (tmpl s (enc s.K kv) (enc s.X xv)) a w := by
  obtain ⟨hN, hc⟩ := andd_true hc
  unfold readK at hk
  unfold readX at hx
  split at hk
  case h_2 => cases hk
  rename_i kc0 hkc
  split at hk
  case h_2 => cases hk
  rename_i kc hku
  split at hx
  case h_2 => cases hx
  rename_i xc0 hxc
  split at hx
  case h_2 => cases hx
  rename_i xc hxu hnd
  obtain ⟨_, h2, m', hv, _⟩ := tmpl_view hs hkc hxc hc hN hku hxu hnd hk hx
  exact ⟨h2, m', hv.sat hs⟩

/-- A loop does what its contract says if each round does. -/
theorem loop_ok (hC : CtxOk P C) {ρ₀ : Type} {Ret : Nat → (Nat → Nat → Prop) → ρ₀ → Act → World → Prop} {L : Nat → Option (LS ρ₀)} {body : Code} {s : LS ρ₀} {ret : ASt → Tr ρ₀ ρ₀}
    (hmono : ∀ n X X' r a w, (∀ b p, X' b p → X b p) → Ret n X r a w → Ret n X' r a w)
    (hret : ∀ (φ : Fr) st a w r, Sat φ ν0 st a w → ret st = .ret r → Ret φ.n0 φ.X0 r a w)
    (hL : ∀ b ∈ loopsIn body, ∀ s', L (codeId b) = some s' → LoopOk P C.G Ret b s')
    (μ : s.K.den → s.X.den → Nat)
    (round : ∀ kv xv, Fit s.K kv → Fit s.X xv → (∀ p, s.inv = some p → p kv xv) → (evCode C L body (tmpl s (enc s.K kv) (enc s.X xv)) (evRound s ret)).All BOut.ret (RoundOk s μ kv xv)) :
    LoopOk P C.G Ret body s := by
  intro kv xv φ a w hφ hinv hfK hfX hD hs
  refine wp_loop_ghost (fun n a w => ∃ x, n = μ kv x ∧ Fit s.X x ∧ (∀ p, s.inv = some p → p kv x) ∧ s.G kv x = s.G kv xv ∧ (∀ R, s.R = some R → R kv x = R kv xv) ∧ Sat φ ν0 (tmpl s (enc s.K kv) (enc s.X x)) a w)
    (μ kv xv) ⟨xv, rfl, hfX, hinv, rfl, fun _ _ => rfl, hs⟩ ?_
  rintro n a w ⟨x, rfl, hf, hi, hG, hR, hs⟩
  refine evCode_ok (φ := φ) hC hφ hmono body _ _ _ a w tmpl_plain hs hD hL (round kv x hfK hf hi) (fun e st' a' w' hp' hs' hA => ?_) (fun r a' w' hp hr hk => ?_)
  · obtain ⟨m', hm'⟩ := hs'
    cases e with
    | normal =>
      simp only [evRound] at hA
      split at hA
      case h_2 => exact hA.elim
      rename_i k y hk hy hc
      obtain ⟨rfl, h2, h3, h4, h5⟩ := hA
      exact ⟨_, h3, y, rfl, (read_retmpl hm' hk hy hc).1, h2, h4.trans hG, fun R hRR => (h5 R hRR).trans (hR R hRR), (read_retmpl hm' hk hy hc).2⟩
    | exit id =>
      simp only [evRound] at hA
      split at hA
      case h_2 => exact hA.elim
      rename_i k y hk hy hc
      cases hid : Nat.beq id s.exit with
      | false => rw [hid] at hA; exact hA.elim
      | true =>
        rw [hid] at hA
        obtain ⟨rfl, h2, h3⟩ := hA
        refine ⟨beq_eq hid, fun R hRR => by rw [← hR R hRR]; exact h3 R hRR, ?_⟩
        rw [← hG, h2]
        exact (read_retmpl hm' hk hy hc).2
    | ret =>
      simp only [evRound] at hA
      split at hA
      case h_2 => exact hA.elim
      rename_i r hr
      obtain ⟨R, h1, h2⟩ := hA
      exact ⟨R, r, h1, by rw [← hR R h1]; exact h2, hret φ st' a' w' r ⟨m', hm'⟩ hr, hm'.keepW⟩
  · obtain ⟨R, h1, h2⟩ := hp
    exact ⟨R, r, h1, by rw [← hR R h1]; exact h2, hr, hk⟩

/-! ### Functions -/
theorem all_of_safe {ρ₀ ρ : Type} {rt : ρ₀ → ρ} {d : ρ} : ∀ {t : Tr ρ₀ ρ}, t.safe → t.All rt fun r => r = t.val rt d
  | .ret r, _ => rfl
  | .ite c t e, h => by
    refine ⟨fun hc => ?_, fun hc => ?_⟩
    · subst hc; exact all_of_safe (h.1 rfl)
    · subst hc; exact all_of_safe (h.2 rfl)
  | .need p t, h => ⟨h.1, all_of_safe h.2⟩
  | .opt o t, h => by
    refine ⟨fun r hr => by subst hr; rfl, fun hn => ?_⟩
    subst hn
    exact all_of_safe (h rfl)
  | .bad, h => h.elim

theorem All.mono {ρ₀ ρ : Type} {rt : ρ₀ → ρ} {Post Post' : ρ → Prop} (hp : ∀ r, Post r → Post' r) : ∀ {t : Tr ρ₀ ρ}, t.All rt Post → t.All rt Post'
  | .ret r, h => hp r h
  | .ite c t e, h => ⟨fun hc => All.mono hp (h.1 hc), fun hc => All.mono hp (h.2 hc)⟩
  | .need p t, h => ⟨h.1, All.mono hp h.2⟩
  | .opt o t, h => ⟨fun r hr => hp _ (h.1 r hr), fun hn => All.mono hp (h.2 hn)⟩
  | .bad, h => h.elim

theorem initSlots_ok {X : Nat → Nat → Prop} : ∀ {vs : List SV} {us : List Value} {i t : Nat} {g : GS}, All2 (SR m X w) vs us → initSlots vs i t = some g → g.tags = [] ∧ ∃ u, us[t - i]? = some u ∧ i ≤ t ∧ VR m X w g.tv u
  | [], us, i, t, g, _, h => by cases h
  | v :: r, u :: us, i, t, g, ha, h => by
    simp only [initSlots] at h
    by_cases hti : t = i
    · rw [cnd_beq_true hti] at h
      cases h
      subst hti
      exact ⟨rfl, u, by simp, Nat.le_refl _, ha.1⟩
    · rw [cnd_beq_false hti] at h
      obtain ⟨h1, u', h2, h3, h4⟩ := initSlots_ok ha.2 h
      have h3 : i + 1 ≤ t := h3
      refine ⟨h1, u', ?_, by omega, h4⟩
      have h2 : us[t - (i + 1)]? = some u' := h2
      rw [show t - i = (t - (i + 1)) + 1 by omega]
      simpa using h2
  | _ :: _, [], _, _, _, ha, _ => ha.elim

theorem fn_ok (hC : CtxOk P C) {f : FuncId} {fn : Func} (hf : P.funcs[f]? = some fn) {ct : Ct} {L : Nat → Option (LS ct.r.den)} {c : Code} (hb : fn.body = some c) {dflt : ct.r.den}
    (hL : ∀ body ∈ loopsIn c, ∀ s, L (codeId body) = some s → LoopOk P C.G (RetAt P fn ct.rsh ct.fresh ct.r) body s)
    (hsafe : ∀ x, Fit ct.p x → (∀ q, ct.pre = some q → q x) → (evFn C fn ct.p ct.psh ct.rsh ct.fresh ct.r L x).safe)
    (hval : ∀ x, (evFn C fn ct.p ct.psh ct.rsh ct.fresh ct.r L x).val (fun y => y) dflt = ct.F x) : CtOk P C.G f ct := by
  intro x w X args cs hH hX hpre hsh hx
  have hA := all_of_safe (rt := fun y => y) (d := dflt) (hsafe x (fit_of hx) hpre)
  rw [hval] at hA
  unfold evFn at hA
  rw [hb] at hA
  split at hA
  case h_2 => exact hA.elim
  rename_i c' vs hc' hvs
  cases hc'
  cases hck : allB (fun d => Nat.ble (Nat.succ d) fn.ntmps) (dsts c) with
  | false => rw [hck] at hA; exact hA.elim
  | true =>
    rw [hck] at hA
    simp only [cnd] at hA
    let m : Map := fun _ => none
    let a0 : Act := { tmps := args ++ Array.replicate (fn.ntmps - args.size) undef, defers := [] }
    let φ : Fr := { n := a0.tmps.size, w0 := w, a0 := a0, B := fun _ => False, D := fun _ => true, X0 := X, n0 := w.heap.size, base := w, gl := C.G.gl }
    have hXA : XA φ m = X := by
      funext b p
      refine propext ⟨fun h => ?_, fun h => .inl h⟩
      rcases h with h | ⟨k, p0, h1, _⟩
      · exact h
      · cases h1
    have hall : All2 (SR m (XA φ m) w) vs args.toList := by rw [hXA]; exact unshape_ok hvs hsh (enc_ok hx)
    have hslot : ∀ t g, initSlots vs 0 t = some g → g.tags = [] ∧ VR m (XA φ m) w g.tv (a0.tmps.getD t undef) := by
      intro t g hg
      obtain ⟨h1, u, h2, _, h4⟩ := initSlots_ok hall hg
      refine ⟨h1, ?_⟩
      have : a0.tmps.getD t undef = u := by
        rw [Nat.sub_zero, Array.getElem?_toList] at h2
        show (args ++ _).getD t undef = u
        have hlt : t < args.size := (Array.getElem?_eq_some_iff.1 h2).1
        rw [Array.getD_eq_getD_getElem?, Array.getElem?_append_left hlt, h2]
        rfl
      rw [this]; exact h4
    have hsat : SatM φ ν0 m { slot := fun t => initSlots vs 0 t, box := fun _ => none } a0 w := {
      tmps := rfl
      defers := rfl
      slot := fun t g hg _ => (hslot t g hg).2
      skip := fun t g hg ht => absurd (by rw [(hslot t g hg).1]; intro x hx; cases hx) ht
      box := fun k bx hk => by cases hk
      inj := fun k k' b p p' h => by cases h
      low := fun k b p h => by cases h
      dom := fun _ _ => rfl
      own := fun k bx b p h => by cases h
      vn := fun k b p h => by cases h
      ngl := fun k b p h => by cases h
      n0 := Nat.le_refl _
      glob := GK.refl fun b hb => C.G.low hH hb
      old := ⟨rfl, rfl, rfl, Nat.le_refl _⟩
      keep := fun _ _ _ => rfl
      keepS := fun _ _ => ⟨rfl, fun _ => rfl⟩
      x0 := fun b p h => ⟨(hX b p h).1, fun hf => hf, (hX b p h).2⟩
      keepT := fun t ht => by cases ht }
    have hfin : ∀ a' w', KeepW φ w' → RetAt P fn ct.rsh ct.fresh ct.r w.heap.size X (ct.F x) a' w' → bodyPost P fn (fun e w' => ∃ v, e = .returned v ∧ Below w.heap.size w w' ∧ RetF w.heap.size ct.fresh w' X ct.rsh ct.r (ct.F x) v) .ret a' w' := by
      intro a' w' hk ⟨hd, v, hr, hrr⟩
      exact ⟨hd, v, hr, v, rfl, ⟨hk.old.1, hk.old.2.1, hk.old.2.2.1, hk.old.2.2.2, fun k hk' => hk.keep k hk' (fun h => h)⟩, hrr⟩
    refine calls_of_wp hf hb (evCode_ok (φ := φ) (Ret := RetAt P fn ct.rsh ct.fresh ct.r) hC ⟨hH, rfl⟩ (fun n X X' r a w h hr => hr.mono h) c _ _ _ a0 w (fun t g hg => (hslot t g hg).1) ⟨m, hsat⟩
      (fun d hd => ⟨?_, rfl⟩) hL hA (fun e st' a' w' hp' ⟨m', hm'⟩ hA' => ?_) (fun r a' w' hp hr hk => ?_))
    · have := Nat.le_of_ble_eq_true (allB_spec hck d hd)
      show d < (args ++ Array.replicate (fn.ntmps - args.size) undef).size
      simp
      omega
    · obtain ⟨hne, y, rfl, hr⟩ := evRet_ok hC hm' hA'
      cases e with
      | exit id => exact absurd rfl (hne id)
      | normal => exact hfin a' w' hm'.keepW hr
      | ret => exact hfin a' w' hm'.keepW hr
    · have hp : r = ct.F x := hp
      subst hp
      exact hfin a' w' hk hr
end
end Go.Proofs.Ytghlpolodjlgjaa.Sy
