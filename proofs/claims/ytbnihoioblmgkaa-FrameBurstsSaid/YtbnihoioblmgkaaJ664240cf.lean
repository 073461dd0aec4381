/- Own texts joined by pk.py. -/
import Derived.Test.YtbnihoioblmgkaaJa3b051c7
section
/- The symbolic evaluator is sound: functions that make a box; functions that write to a row (own work). -/
namespace Go.Proofs.Ytbnihoioblmgkaa.Sy
open Go Go.RowKit
set_option linter.unusedVariables false
set_option linter.unusedSimpArgs false
def evRetM (C : Ctx) (fn : Func) (q : Ty) (x : Ex) (st : ASt) : Tr Unit (Option q.den × Int) := match x with
  | .exit _ => .bad
  | .pan _ => .bad
  | _ => match fn.results.toList with
    | [.tmp t1, .tmp t2] => match opndc st [] none (.tmp t1), opndc st [] none (.tmp t2) with
      | some .nilp, some (.int .i64 n) => .ret (none, n)
      | some (.box k 0), some (.int .i64 n) => match st.box k with
        | some (.cells cs) => match unvL true st cs with
          | some cs' => match dec q cs' with | some y => .need (n = 0) (.ret (some y, 0)) | none => .bad
          | none => .bad
        | _ => .bad
      | _, _ => .bad
    | _ => .bad
def noP (psh : List (Option Nat)) : List Bool := psh.map fun _ => false
def evFnM (C : Ctx) (fn : Func) (p : Ty) (psh : List (Option Nat)) (q : Ty) (L : Nat → Option (LS Unit)) (x : p.den) : Tr Unit (Option q.den × Int) :=
  match fn.body with
  | some c => evFnK C fn p psh (noP psh) [] false false L c c (evRetM C fn q) x
  | none => .bad
section
variable {φ : Fr} {ν ν' : Nat → Bool} {m : Map} {st : ASt} {a : Act} {w w' : World} {own : List (Nat × Bool)} {W : List Nat} {P : Program} {C : Ctx} {o : Oper} {e : Eff}
  {K : Act → World → Prop}
theorem shapeR_length : ∀ {sh : List (Option Nat)} {vs cs : List Value}, ShapeR sh vs cs → vs.length = sh.length
  | [], [], _, _ => rfl
  | none :: s, v :: vs, cs, h => by obtain ⟨_, _, h⟩ := h; simp [shapeR_length h]
  | some n :: s, v :: vs, cs, h => by obtain ⟨_, _, _, _, _, h⟩ := h; simp [shapeR_length h]
  | [], _ :: _, _, h => h.elim
  | none :: _, [], _, h => h.elim
  | some _ :: _, [], _, h => h.elim
theorem noP_vals {α : Type} : ∀ {psh : List (Option Nat)} {l : List α}, l.length = psh.length → valsOf (noP psh) l = l ∧ ptrsIn (noP psh) l = []
  | [], [], _ => ⟨rfl, rfl⟩
  | s :: psh, x :: l, h => by
    obtain ⟨h1, h2⟩ := noP_vals (psh := psh) (l := l) (by simpa using h)
    exact ⟨by show x :: valsOf (noP psh) l = _; rw [h1], h2⟩
  | [], _ :: _, h => by simp at h
  | _ :: _, [], h => by simp at h
theorem fn_okM (hC : CtxOk P C) {f : FuncId} {fn : Func} (hf : P.funcs[f]? = some fn) {cm : Cm} {L : Nat → Option (LS Unit)} {c : Code} (hb : fn.body = some c) {dflt : Option cm.q.den × Int}
    (hL : ∀ body ∈ loopsIn c, ∀ s, L (codeId body) = some s → LoopOk P C.G (fun _ _ _ (_ : Unit) _ _ => False) body s)
    (hsafe : ∀ x, Fit cm.p x → (∀ q, cm.pre = some q → q x) → (evFnM C fn cm.p cm.psh cm.q L x).safe)
    (hval : ∀ x, (evFnM C fn cm.p cm.psh cm.q L x).val (fun _ => dflt) dflt = cm.F x) : CmOk P C.G f cm := by
  intro x w X args cs hH hX hpre hsh htr
  have hA := all_of_safe (rt := fun _ => dflt) (d := dflt) (hsafe x (fit_of htr) hpre)
  rw [hval] at hA
  unfold evFnM at hA
  rw [hb] at hA
  have hlen := shapeR_length hsh
  obtain ⟨hv1, hv2⟩ := noP_vals (psh := cm.psh) (l := args.toList) hlen
  let cp : Cp := { p := cm.p, psh := cm.psh, mask := noP cm.psh, sz := [], ro := false, ex := false, q := .unit, r := .unit, rsh := .none, pre := none, F := fun _ => ((), ()) }
  refine calls_of_wp hf hb (fn_core (cp := cp) (bs := []) (pc := []) (cv := cs) hC (fun d h => h) (Ret := fun _ _ _ _ _ _ => False) (fun e n X X' r a w h hr => hr) hL hH hX (by show args.size = (noP cm.psh).length; unfold noP; simpa using hlen) List.nodup_nil
    (by show ShapeR cm.psh (valsOf (noP cm.psh) args.toList) cs; rw [hv1]; exact hsh) (by show PtrVals w X [] [] (ptrsIn (noP cm.psh) args.toList) []; rw [hv2]; rfl) (by show CRs _ X w (exC false (enc cm.p x)) (cs ++ []); rw [exC_false, List.append_nil]; exact enc_ok htr)
    hA (fun φ hin hd0 e st' a' w' m' hm' hp' hA' => ?_) (fun φ hin hd0 e he r a' w' hp hr hk hd => hr.elim))
  have hbel : Below w.heap.size w w' := by
    have h1 := hin.below w' hm'.keepW
    exact ⟨h1.os, h1.tape, h1.output, h1.size, fun k hk => h1.block k hk (by show k ∉ []; simp)⟩
  have key : ∀ e : Ex, (∀ id, e ≠ .exit id) → (∀ v, e ≠ .pan v) → (evRetM C fn cm.q e st').All (fun _ => dflt) (fun r => r = cm.F x) → bodyPost P fn (fun e w' => Below w.heap.size w w' ∧ match (cm.F x).1 with
      | some y => ∃ (b : Nat) (us : Array Value) (T : TypeId), e = .returned (.tuple #[.pointer (some ⟨b, 0, none⟩), .int .i64 0]) ∧ w.heap.size ≤ b ∧ w'.heap[b]? = some (.cells us T (0, 0)) ∧ TR w' (fun b' q => X b' q ∨ b' = b) cm.q y us.toList
      | none => e = .returned (.tuple #[.pointer none, .int .i64 (cm.F x).2])) .ret a' w' := by
    intro e h1 h2 hA'
    unfold evRetM at hA'
    split at hA'
    · exact hA'.elim
    · exact hA'.elim
    split at hA'
    case h_2 => exact hA'.elim
    rename_i t1 t2 hres
    have hrun : (results fn a'.tmps).run P w' = .ok (.tuple #[a'.tmps.getD t1 undef, a'.tmps.getD t2 undef]) w' := by
      unfold results
      rw [Sem.run_bind, Array.mapM_eq_mapM_toList, hres]
      rfl
    split at hA'
    · rename_i n ho1 ho2
      have hv1 : a'.tmps.getD t1 undef = .pointer none := opndc_ok hm' (fun x hx => by cases hx) ho1
      have hv2 : a'.tmps.getD t2 undef = .int .i64 n := opndc_ok hm' (fun x hx => by cases hx) ho2
      have hF : (none, n) = cm.F x := hA'
      refine ⟨hm'.defers.trans hd0, _, hrun, hbel, ?_⟩
      rw [← hF, hv1, hv2]
    · rename_i k n ho1 ho2
      split at hA'
      case h_2 => exact hA'.elim
      rename_i cs0 hbx
      split at hA'
      case h_2 => exact hA'.elim
      rename_i cs' hcs'
      split at hA'
      case h_2 => exact hA'.elim
      rename_i y hy
      obtain ⟨rfl, hF⟩ := hA'
      have hF : (some y, 0) = cm.F x := hF
      obtain ⟨b, hmk, hv1⟩ : ∃ b, m' k = some (b, 0) ∧ a'.tmps.getD t1 undef = .pointer (some ⟨b, 0, none⟩) := opndc_ok hm' (fun x hx => by cases hx) ho1
      have hv2 : a'.tmps.getD t2 undef = .int .i64 0 := opndc_ok hm' (fun x hx => by cases hx) ho2
      obtain ⟨b2, us, T, hm2, hh, hcr⟩ := hm'.box k _ hbx
      rw [hmk] at hm2
      cases hm2
      have hcr2 := unvL_ok hm' hcs' hcr (ks := []) (fun h => by cases h)
      have hX0 : Xc φ m' [] = XA φ m' := by funext b q; simp [Xc]
      rw [hX0] at hcr2
      refine ⟨hm'.defers.trans hd0, _, hrun, hbel, ?_⟩
      rw [← hF, hv1, hv2]
      refine ⟨b, us, T, rfl, ?_, hh, (dec_ok hy hcr2).mono keeps_same (fun b' q _ hx => ?_) _ _ _⟩
      · rcases hm'.own k _ b 0 hbx rfl hmk rfl with h | h
        · have := hin.B b h; cases this
        · rw [hin.w0] at h; exact h
      · rcases hx with hx | rfl
        · rcases hin.x0 b' q hx with h | h
          · cases h
          · exact .inl h
        · exact .inr ⟨k, 0, hmk, rfl⟩
    · exact hA'.elim
  cases e with
  | exit id => exact hA'.elim
  | pan v => exact hA'.elim
  | normal => exact key .normal (fun id h => by cases h) (fun v h => by cases h) hA'
  | ret => exact key .ret (fun id h => by cases h) (fun v h => by cases h) hA'
def rowN : Nat := 90000
def evRetW (C : Ctx) (fn : Func) (el : TypeId) (x : Ex) (st : ASt) : Tr Unit (List Int) := match x with
  | .exit _ => .bad
  | .pan _ => .bad
  | _ => match fn.results.toList, chkP st [] [] [0] [(0, 0)], st.box 0 with
    | [], true, some (.cells [.vref e k]) => match st.box k with
      | some (.vec _ T e2 l) => match castL e2 (.int .u8) l with | some l' => cnd (andd (Nat.beq T el) (andd (Nat.beq e.n 1) (tyeq e2 (.int .u8)))) (.ret l') .bad | none => .bad
      | _ => .bad
    | _, _, _ => .bad
def evFnW (C : Ctx) (fn : Func) (p : Ty) (psh : List (Option Nat)) (el : TypeId) (L : Nat → Option (LS Unit)) (x : p.den) (l : List Int) : Tr Unit (List Int) :=
  match fn.body, unshape psh (enc p x) with
  | some c, some vs => cnd (andd (allB (fun d => Nat.ble (Nat.succ d) fn.ntmps) (dsts c)) (nott (mem 0 (dsts c))))
      (evCode C L c { slot := fun t => initSlots (.one (.box 0 0) :: vs) 0 t, box := fun u => cnd (Nat.beq u 0) (some (.cells [.vref (.int .u8) rowN])) (cnd (Nat.beq u rowN) (some (.vec false el (.int .u8) l)) none) } (evRetW C fn el)) .bad
  | _, _ => .bad
theorem fn_okW (hC : CtxOk P C) {f : FuncId} {fn : Func} (hf : P.funcs[f]? = some fn) {cw : Cw} {L : Nat → Option (LS Unit)} {c : Code} (hb : fn.body = some c) {dflt : List Int}
    (hL : ∀ body ∈ loopsIn c, ∀ s, L (codeId body) = some s → LoopOk P C.G (fun _ _ _ (_ : Unit) _ _ => False) body s)
    (hsafe : ∀ x l, Fit cw.p x → l.length ≤ maxLen → (∀ q, cw.pre = some q → q x l) → (evFnW C fn cw.p cw.psh cw.el L x l).safe)
    (hval : ∀ x l, (evFnW C fn cw.p cw.psh cw.el L x l).val (fun _ => dflt) dflt = cw.F x l) : CwOk P C.G f cw := by
  intro x l w X args cs b rb p T0 v hH hX hpre hsh htr hXb hXr hin
  have hll : l.length ≤ maxLen := by
    obtain ⟨b2, p2, h1, h2⟩ := hin.row
    rcases h2 with ⟨rfl, _⟩ | ⟨_, vs, cap, _, _, h3, h4, _⟩ | ⟨_, h3, _, _⟩
    · simp
    · omega
    · obtain ⟨b3, p3, h4, h5, h6⟩ := hin.cell
      rw [h1] at h4
      cases h4
      rcases h6 with ⟨h7, _⟩ | ⟨_, cap, T, _, _, h8, h9⟩
      · omega
      · rw [h3, vlen_dead] at h8; omega
  have hA := all_of_safe (rt := fun _ => dflt) (d := dflt) (hsafe x l (fit_of htr) hll hpre)
  rw [hval] at hA
  unfold evFnW at hA
  rw [hb] at hA
  split at hA
  case h_2 => exact hA.elim
  rename_i c' vs hc' hvs
  cases hc'
  obtain ⟨hck1, hck2, hA⟩ : allB (fun d => Nat.ble (Nat.succ d) fn.ntmps) (dsts c) = true ∧ nott (mem 0 (dsts c)) = true ∧
      (evCode C L c { slot := fun t => initSlots (.one (.box 0 0) :: vs) 0 t, box := fun u => cnd (Nat.beq u 0) (some (.cells [.vref (.int .u8) rowN])) (cnd (Nat.beq u rowN) (some (.vec false cw.el (.int .u8) l)) none) } (evRetW C fn cw.el)).All (fun _ => dflt) (fun r => r = cw.F x l) := by
    cases hck : andd (allB (fun d => Nat.ble (Nat.succ d) fn.ntmps) (dsts c)) (nott (mem 0 (dsts c))) with
    | false => rw [hck] at hA; exact hA.elim
    | true => rw [hck] at hA; obtain ⟨h1, h2⟩ := andd_true hck; exact ⟨h1, h2, hA⟩
  let args1 : Array Value := (Value.pointer (some ⟨b, 0, none⟩) :: args).toArray
  let m : Map := fun k => if k = 0 then some (b, 0) else if k = rowN then some (rb, p) else none
  let a0 : Act := { tmps := args1 ++ Array.replicate (fn.ntmps - args1.size) undef, defers := [] }
  let φ : Fr := { n := a0.tmps.size, w0 := w, a0 := a0, B := fun b' => b' = b ∨ (p % 2 = 0 ∧ b' = rb), D := fun t => mem t (dsts c), X0 := fun b' q => X b' q ∧ b' ≠ b ∧ (p % 2 = 0 → b' ≠ rb), n0 := 0, base := w, gl := C.G.gl }
  have hm0 : m 0 = some (b, 0) := by simp [m]
  have hmR : m rowN = some (rb, p) := by simp [m, rowN]
  have hmk : ∀ k b' q, m k = some (b', q) → (k = 0 ∧ b' = b ∧ q = 0) ∨ (k = rowN ∧ b' = rb ∧ q = p) := fun k b' q h => by
    simp only [m] at h
    split at h
    · cases h; exact .inl ⟨by assumption, rfl, rfl⟩
    · split at h
      · cases h; exact .inr ⟨by assumption, rfl, rfl⟩
      · cases h
  have hXA : XA φ m = X := by
    funext b' q
    refine propext ⟨fun h => ?_, fun h => ?_⟩
    · rcases h with h | ⟨k, q0, h1, h2⟩
      · exact h.1
      · rcases hmk k b' q0 h1 with ⟨_, rfl, _⟩ | ⟨_, rfl, rfl⟩
        · exact hXb q
        · exact hXr h2 q
    · by_cases h1 : b' = b
      · subst h1; exact .inr ⟨0, 0, hm0, rfl⟩
      · by_cases h2 : p % 2 = 0 ∧ b' = rb
        · obtain ⟨h2, rfl⟩ := h2; exact .inr ⟨rowN, p, hmR, h2⟩
        · exact .inl ⟨h, h1, fun hp e => h2 ⟨hp, e⟩⟩
  obtain ⟨rb0, p0, hm1, hpos, hcell⟩ := hin.cell
  have hm1 : rb = rb0 ∧ p = p0 := by simpa [mapR] using hm1
  obtain ⟨rfl, rfl⟩ := hm1
  have hall : All2 (SR m (XA φ m) w) (.one (.box 0 0) :: vs) args1.toList := by
    rw [hXA]
    exact ⟨⟨b, hm0, rfl⟩, unshape_ok hvs hsh (enc_ok htr)⟩
  have hslot : ∀ t g, initSlots (.one (.box 0 0) :: vs) 0 t = some g → g.tags = [] ∧ VR m (XA φ m) w g.tv (a0.tmps.getD t undef) := by
    intro t g hg
    obtain ⟨h1, u, h2, _, h4⟩ := initSlots_ok hall hg
    refine ⟨h1, ?_⟩
    have : a0.tmps.getD t undef = u := by
      rw [Nat.sub_zero, Array.getElem?_toList] at h2
      show (args1 ++ _).getD t undef = u
      have hlt : t < args1.size := (Array.getElem?_eq_some_iff.1 h2).1
      rw [Array.getD_eq_getD_getElem?, Array.getElem?_append_left hlt, h2]
      rfl
    rw [this]; exact h4
  have hblt : b < w.heap.size := (hX b 0 (hXb 0)).1
  have hbox0 : ∀ u bx, cnd (Nat.beq u 0) (some (Bx.cells [.vref (.int .u8) rowN])) (cnd (Nat.beq u rowN) (some (.vec false cw.el (.int .u8) l)) none) = some bx → (u = 0 ∧ bx = .cells [.vref (.int .u8) rowN]) ∨ (u = rowN ∧ bx = .vec false cw.el (.int .u8) l) := fun u bx h => by
    by_cases h1 : u = 0
    · rw [cnd_beq_true h1] at h; cases h; exact .inl ⟨h1, rfl⟩
    · rw [cnd_beq_false h1] at h
      by_cases h2 : u = rowN
      · rw [cnd_beq_true h2] at h; cases h; exact .inr ⟨h2, rfl⟩
      · rw [cnd_beq_false h2] at h; cases h
  have hsat : SatM φ ν0 m { slot := fun t => initSlots (.one (.box 0 0) :: vs) 0 t, box := fun u => cnd (Nat.beq u 0) (some (.cells [.vref (.int .u8) rowN])) (cnd (Nat.beq u rowN) (some (.vec false cw.el (.int .u8) l)) none) } a0 w := {
    tmps := rfl
    defers := rfl
    slot := fun t g hg _ => (hslot t g hg).2
    skip := fun t g hg ht => absurd (by rw [(hslot t g hg).1]; intro x hx; cases hx) ht
    box := fun k bx hk => by
      rw [hXA]
      rcases hbox0 k bx hk with ⟨rfl, rfl⟩ | ⟨rfl, rfl⟩
      · exact ⟨b, _, T0, hm0, hin.box, ⟨rb, p, hmR, hpos, hcell⟩, trivial⟩
      · obtain ⟨b2, p2, h1, h2⟩ := hin.row
        have h1 : rb = b2 ∧ p = p2 := by simpa [mapR] using h1
        obtain ⟨rfl, rfl⟩ := h1
        exact ⟨rb, p, hmR, h2⟩
    inj := fun k k' b' q q' h1 h2 h3 h4 => by
      rcases hmk k b' q h1 with ⟨e1, e2, e3⟩ | ⟨e1, e2, e3⟩ <;> rcases hmk k' b' q' h2 with ⟨f1, f2, f3⟩ | ⟨f1, f2, f3⟩
      · rw [e1, f1]
      · subst f3; exact absurd (f2.symm.trans e2) (hin.live h4).1
      · subst e3; exact absurd (e2.symm.trans f2) (hin.live h3).1
      · rw [e1, f1]
    low := fun k b' q h1 h2 => by
      rcases hmk k b' q h1 with ⟨_, rfl, _⟩ | ⟨_, rfl, rfl⟩
      · exact hblt
      · exact (hin.live h2).2
    dom := fun k hk => by
      have h0 : k ≠ 0 := fun e => by subst e; simp [cnd] at hk
      have h1 : k ≠ rowN := fun e => by subst e; simp [cnd, rowN] at hk
      simp [m, h0, h1]
    own := fun k bx b' q h1 h2 h3 h4 => by
      rcases hmk k b' q h3 with ⟨_, rfl, _⟩ | ⟨_, rfl, rfl⟩
      · exact .inl (.inl rfl)
      · exact .inl (.inr ⟨h4, rfl⟩)
    vn := fun k b' q h _ hp => Nat.zero_le _
    ngl := fun k b' q h1 h2 => by
      rcases hmk k b' q h1 with ⟨_, rfl, _⟩ | ⟨_, rfl, rfl⟩
      · exact (hX _ 0 (hXb 0)).2
      · exact (hX _ 0 (hXr h2 0)).2
    n0 := Nat.zero_le _
    glob := GK.refl fun b hb => C.G.low hH hb
    old := ⟨rfl, rfl, rfl, Nat.le_refl _⟩
    keep := fun _ _ _ => rfl
    keepS := fun _ _ => ⟨rfl, fun _ => rfl⟩
    x0 := fun b' q h => ⟨(hX b' q h.1).1, fun hf => hf.elim h.2.1 (fun hf => h.2.2 hf.1 hf.2), (hX b' q h.1).2⟩
    keepT := fun t ht => rfl }
  refine calls_of_wp hf hb (evCode_ok (φ := φ) (Ret := fun _ _ _ _ _ _ => False) hC ⟨hH, rfl⟩ (fun e n X X' r a w h hr => hr) c _ _ _ a0 w (fun t g hg => (hslot t g hg).1) ⟨m, hsat⟩
    (fun d hd => ⟨?_, mem_spec.2 hd⟩) hL hA (fun e st' a' w' hp' ⟨m', hm'⟩ hA' => ?_) (fun e he r a' w' hp hr hk hd => hr.elim))
  · have := Nat.le_of_ble_eq_true (allB_spec hck1 d hd)
    show d < (args1 ++ Array.replicate (fn.ntmps - args1.size) undef).size
    simp
    omega
  have hBB : BelowBut (if p % 2 = 0 then [b, rb] else [b]) w w' := by
    have hk := hm'.keepW
    refine ⟨hk.old.1, hk.old.2.1, hk.old.2.2.1, hk.old.2.2.2, fun k hk' hnin => hk.keep k hk' fun hB => ?_, fun k hk' => (hk.keepS k hk').1, fun k p hk' => (hk.keepS k hk').2 p⟩
    have hB : k = b ∨ (p % 2 = 0 ∧ k = rb) := hB
    by_cases hp : p % 2 = 0
    · rw [if_pos hp] at hnin
      rcases hB with rfl | ⟨_, rfl⟩ <;> simp at hnin
    · rw [if_neg hp] at hnin
      rcases hB with rfl | ⟨h1, _⟩
      · simp at hnin
      · exact hp h1
  have key : ∀ e : Ex, (∀ id, e ≠ .exit id) → (∀ v, e ≠ .pan v) → (evRetW C fn cw.el e st').All (fun _ => dflt) (fun r => r = cw.F x l) → bodyPost P fn (fun e w' => e = .returned (.tuple #[]) ∧ BelowBut (if p % 2 = 0 then [b, rb] else [b]) w w' ∧
      ∃ rb' p' v', RowIn (fun b' q => X b' q ∧ (p % 2 = 0 → b' ≠ rb)) w' b rb' p' cw.el T0 v' (cw.F x l) ∧ (p' % 2 = 0 → (p % 2 = 0 ∧ rb' = rb) ∨ w.heap.size ≤ rb')) .ret a' w' := by
    intro e h1 h2 hA'
    unfold evRetW at hA'
    split at hA'
    · exact hA'.elim
    · exact hA'.elim
    split at hA'
    case h_2 => exact hA'.elim
    rename_i e1 k hres hchk hbx
    split at hA'
    case h_2 => exact hA'.elim
    rename_i ow T e2 l2 hbk
    split at hA'
    case h_2 => exact hA'.elim
    rename_i l' hcast
    obtain ⟨hcc, hF⟩ : andd (Nat.beq T cw.el) (andd (Nat.beq e1.n 1) (tyeq e2 (.int .u8))) = true ∧ l' = cw.F x l := by
      cases hcc : andd (Nat.beq T cw.el) (andd (Nat.beq e1.n 1) (tyeq e2 (.int .u8))) with
      | false => rw [hcc] at hA'; exact hA'.elim
      | true => rw [hcc] at hA'; exact ⟨rfl, hA'⟩
    obtain ⟨hT, hcc⟩ := andd_true hcc
    obtain ⟨hn1, hte⟩ := andd_true hcc
    have hT := beq_eq hT
    have hn1 := beq_eq hn1
    subst hT
    have he2 : e2 = .int .u8 := by
      cases e2 with
      | int k => cases k <;> first | rfl | cases hte
      | _ => cases hte
    subst he2
    have hl2 : l2 = l' := by
      have : castL (.int .u8) (.int .u8) l2 = some l2 := rfl
      rw [this] at hcast
      exact Option.some.inj hcast
    subst hl2
    have hrun : (results fn a'.tmps).run P w' = .ok (.tuple #[]) w' := by
      unfold results
      rw [Sem.run_bind, Array.mapM_eq_mapM_toList, hres]
      rfl
    obtain ⟨g1, _, _, _⟩ := chkP_spec hchk 0 0 (by simp)
    obtain ⟨b1, g2, g3⟩ := hm'.slot 0 _ g1 (fun x hx => by cases hx)
    have hb1 : b1 = b := by
      have hD : φ.D 0 = false := by
        show mem 0 (dsts c) = false
        exact nott_true hck2
      have := hm'.keepT 0 hD
      have h0 : a0.tmps.getD 0 undef = .pointer (some ⟨b, 0, none⟩) := by
        show (args1 ++ _).getD 0 undef = _
        rw [Array.getD_eq_getD_getElem?, Array.getElem?_append_left (by simp [args1])]
        rfl
      have h3 : φ.a0.tmps.getD 0 undef = .pointer (some ⟨b, 0, none⟩) := h0
      rw [h3] at this
      rw [this] at g3
      have g3 : Value.pointer (some ⟨b, 0, none⟩) = Value.pointer (some ⟨b1, 0, none⟩) := g3
      simp only [Value.pointer.injEq, Option.some.injEq, Addr.mk.injEq] at g3
      exact g3.1.symm
    subst hb1
    obtain ⟨b2, us, T2, hm2, hh, hcr⟩ := hm'.box 0 _ hbx
    rw [g2] at hm2
    cases hm2
    obtain ⟨v', rfl⟩ : ∃ v', us = #[v'] := by
      obtain ⟨ul⟩ := us
      match ul, hcr with
      | [u], _ => exact ⟨u, rfl⟩
    have hT2 : T2 = T0 := by
      have h4 := (hBB.shape b1 hblt)
      unfold World.shape? at h4
      rw [hh, hin.box] at h4
      simp at h4
      exact h4
    subst hT2
    obtain ⟨rb', p', hmk', hpos', hcell'⟩ := hcr.1
    obtain ⟨rb2, p2, hm3, hrow⟩ := hm'.box k _ hbk
    rw [hmk'] at hm3
    cases hm3
    refine ⟨hm'.defers, _, hrun, rfl, hBB, rb', p', v', ⟨hh, ⟨rb', p', by simp [mapR], hpos', ?_⟩, ⟨rb', p', by simp [mapR], ?_⟩, fun hp => ⟨fun e => ?_, hm'.low _ _ _ hmk' hp⟩⟩, fun hp => ?_⟩
    · rcases hcell' with h5 | ⟨h5, cap, T, h6, h7, h8, h9⟩
      · exact .inl h5
      · exact .inr ⟨h5, cap, T, h6, by rw [h7, hn1]; rfl, h8, h9⟩
    · rw [← hF]
      rcases hrow with h5 | h5 | ⟨h5, h6, h7, h8⟩
      · exact .inl h5
      · exact .inr (.inl h5)
      · refine .inr (.inr ⟨rfl, h6, h7.mono keeps_same (fun b' q _ hx => ?_) (fun x vs hx => hx), h8⟩)
        by_cases hbb : b' = b1
        · subst hbb; exact .inr ⟨0, 0, g2, rfl⟩
        · exact .inl ⟨hx.1, hbb, hx.2⟩
    · subst e
      have := hm'.inj _ _ _ _ _ g2 hmk' rfl hp
      subst this
      rw [hbx] at hbk
      cases hbk
    · rcases hm'.own k _ rb' p' hbk rfl hmk' hp with h5 | h5
      · have h5 : rb' = b1 ∨ (p % 2 = 0 ∧ rb' = rb) := h5
        rcases h5 with h5 | h5
        · subst h5
          have := hm'.inj _ _ _ _ _ g2 hmk' rfl hp
          subst this
          rw [hbx] at hbk
          cases hbk
        · exact .inl h5
      · exact .inr h5
  cases e with
  | exit id => exact hA'.elim
  | pan v => exact hA'.elim
  | normal => exact key .normal (fun id h => by cases h) (fun v h => by cases h) hA'
  | ret => exact key .ret (fun id h => by cases h) (fun v h => by cases h) hA'
end
end Go.Proofs.Ytbnihoioblmgkaa.Sy
end

section
/- The base of the frame's contracts (own work). -/
namespace Go.Proofs.Ytbnihoioblmgkaa.Sy
def PmFb : List (Nat × Cp) := PmFw
theorem pgokPmFb : PGOk PmFb := pgokPmFw
end Go.Proofs.Ytbnihoioblmgkaa.Sy
end

section
/- Contracts of functions, by the evaluator (own program gen.py): <*frame.reader>.get, building.Hall, <*frame.writer>.put. -/
set_option linter.unusedVariables false
set_option linter.unusedSimpArgs false
set_option maxRecDepth 100000
namespace Go.Proofs.Ytbnihoioblmgkaa.Sp
open Go Go.RowKit Sy
def in67_3 (k : (Int × ByteArray × BldT)) (x : (Int × Int)) : Prop := (0 : Int) ≤ x.2 ∧ k.1 ≤ 8 ∧ k.1 ≤ (k.2.1.size : Int) ∧ k.2.1.size ≤ 1000000
def mu67_3 (k : (Int × ByteArray × BldT)) (x : (Int × Int)) : Nat := (k.1 - x.2).toNat
def st67_3 (k : (Int × ByteArray × BldT)) (x : (Int × Int)) : BOut (Int × ByteArray × BldT) (Int × Int) (Unit) :=
  bif (decide (x.2 < k.1)) then
    BOut.next k ((IntKind.u64.wrap ((BitVec.ofInt IntKind.u64.bits x.1 ||| BitVec.ofInt IntKind.u64.bits (IntKind.u64.wrap ((IntKind.u64.wrap (strAt k.2.1 x.2)) * 2 ^ (min ((IntKind.i64.wrap ((8 : Int) * x.2))).toNat IntKind.u64.bits)))).toNat : Int)), (IntKind.i64.wrap (x.2 + (1 : Int))))
  else
    BOut.brk k x
def G67_3 (k : (Int × ByteArray × BldT)) (x : (Int × Int)) : (Int × Int) := endOf st67_3 k (Nat.succ (mu67_3 k x)) x
def F67 (x : Int × ByteArray × BldT) : (Int) × (ByteArray × BldT) :=
  ((Sp.G67_3 x ((0 : Int), (0 : Int))).1, ((ByteArray.extract x.2.1 (Int.toNat x.1) (Int.toNat ((x.2.1).size : Int))), x.2.2))
def pre67 (x : Int × ByteArray × BldT) : Prop := 0 ≤ x.1 ∧ x.1 ≤ 8 ∧ x.1 ≤ (x.2.1.size : Int) ∧ x.2.1.size ≤ 1000000
def F71 (x : BldT) : Int × Int :=
  bif ((Sp.F27 x) != (0 : Int)) then
    ((0 : Int), (0 : Int))
  else
    ((IntKind.u32.wrap ((IntKind.u32.wrap ((1 : Int) * 2 ^ (min ((IntKind.i64.wrap (x.1 - (1 : Int)))).toNat IntKind.u32.bits))) - (1 : Int))), (IntKind.u32.wrap ((IntKind.u32.wrap ((IntKind.u32.wrap ((1 : Int) * 2 ^ (min ((IntKind.i64.wrap (x.1 - (1 : Int)))).toNat IntKind.u32.bits))) - (1 : Int))) * 2 ^ (min ((1 : Int)).toNat IntKind.u32.bits))))
def in30_1 (k : (Int)) (x : (Int × Int × List Int)) : Prop := (0 : Int) ≤ x.2.1 ∧ k ≤ 8 ∧ (x.2.2.length : Int) ≤ 1000 + x.2.1
def mu30_1 (k : (Int)) (x : (Int × Int × List Int)) : Nat := (k - x.2.1).toNat
def st30_1 (k : (Int)) (x : (Int × Int × List Int)) : BOut (Int) (Int × Int × List Int) (Unit) :=
  bif (decide (x.2.1 < k)) then
    BOut.next k ((Int.fdiv x.1 (2 ^ (min ((8 : Int)).toNat IntKind.u64.bits))), (IntKind.i64.wrap (x.2.1 + (1 : Int))), (x.2.2 ++ [(IntKind.u8.wrap x.1)]))
  else
    BOut.brk k x
def G30_1 (k : (Int)) (x : (Int × Int × List Int)) : (Int × Int × List Int) := endOf st30_1 k (Nat.succ (mu30_1 k x)) x
def FW30 (x : Int × Int) (l : List Int) : List Int :=
  (Sp.G30_1 x.2 (x.1, (0 : Int), l)).2.2
def pre30 (x : Int × Int) (l : List Int) : Prop := 1 ≤ x.2 ∧ x.2 ≤ 8 ∧ l.length ≤ 1000
end Go.Proofs.Ytbnihoioblmgkaa.Sp
namespace Go.Proofs.Ytbnihoioblmgkaa.Sy
open Go Go.RowKit Sp
def LS67_3 : LS Unit := mkLS (Ty.pair ty3 ty117) (Ty.pair ty80 ty3)  [(7, none)] [(0, 9)] [(5, none), (8, none)] [] [] [] [(0, 0)] 0 false Sp.in67_3 Sp.st67_3 Sp.mu67_3
set_option maxHeartbeats 4000000 in
theorem so67_3 (k : (Ty.pair ty3 ty117).den) (x : (Ty.pair ty80 ty3).den) (fk : Fit (Ty.pair ty3 ty117) k) (h : Sp.in67_3 k x) : StepOk false Sp.in67_3 Sp.mu67_3 k x (Sp.st67_3 k x) := by
  try dsimp only [Ty.den] at *
  simp only [Sp.in67_3, Fit, maxLen] at h fk
  unfold Sp.st67_3
  (repeat' (first | exact rfl | (refine StepOk.cnd (fun hc => ?_) (fun hc => ?_) <;> (try simp only [IntKind.wrap_i64, IntKind.wrap_u8, IntKind.wrap_u32, IntKind.wrap_u64, bne_eq_false_iff_eq, Int.natCast_inj, setE, copyL, sliceL, zrow, List.length_append, List.length_cons, List.length_nil, List.length_set, List.length_replicate, List.length_take, List.length_drop, decide_eq_true_eq, decide_eq_false_iff_not, Bool.or_eq_true, Bool.and_eq_true, Bool.or_eq_false_iff, Bool.and_eq_false_iff, Bool.not_eq_true', Bool.not_eq_false', Bool.not_eq_true, Bool.not_eq_false, beq_iff_eq, beq_eq_false_iff_ne, bne_iff_ne, ne_eq] at hc)) | refine StepOk.opt (fun _ => ?_))) <;> (first | exact rfl | (refine ⟨rfl, ?_, ?_⟩ <;> simp only [Sp.in67_3, Sp.mu67_3, IntKind.wrap_i64, IntKind.wrap_u8, IntKind.wrap_u32, IntKind.wrap_u64, Sp.tmod_lit, Sp.tdiv_lit, bne_eq_false_iff_eq, Int.natCast_inj, setE, copyL, sliceL, zrow, List.length_append, List.length_cons, List.length_nil, List.length_set, List.length_replicate, List.length_take, List.length_drop, decide_eq_true_eq, decide_eq_false_iff_not, Bool.or_eq_true, Bool.and_eq_true, Bool.or_eq_false_iff, Bool.and_eq_false_iff, Bool.not_eq_true', Bool.not_eq_false', Bool.not_eq_true, Bool.not_eq_false, beq_iff_eq, beq_eq_false_iff_ne, bne_iff_ne, ne_eq] <;> first | omega | (and_intros <;> first | omega | exact h.1 | exact h.2 | exact h.2.1 | exact h.2.2 | exact h.2.2.1 | exact h.2.2.2 | exact h.2.2.2.1 | exact h.2.2.2.2 | exact h.2.2.2.2.1 | exact h.2.2.2.2.2 | exact h.2.2.2.2.2.1 | exact h.2.2.2.2.2.2)))
set_option maxHeartbeats 4000000 in
theorem lo67_3 : LoopOk Try.prog gdS (fun _ _ _ (_ : Unit) _ _ => False) (bodyAt (bodyOf Try.f67) [0]) LS67_3 :=
  loop_runP (ctxOkP pgokPmFb fvok_none gokGmT2 []) (L := lookL []) (d := BOut.brk (Ty.dflt (Ty.pair ty3 ty117)) (Ty.dflt (Ty.pair ty80 ty3))) (loops_of (l := []) (by kernel_rfl) (loops_nil)) (fun k x fk fx h => slim_of (S := (((decide (x.2 < k.1)) = true → ((0 ≤ x.2 ∧ x.2 < ((k.2.1).size : Int)) ∧ (0 ≤ (IntKind.i64.wrap ((8 : Int) * x.2))))))) (by kernel_rfl) (by
  try dsimp only [Ty.den] at *
  simp only [Sp.in67_3, Fit, maxLen] at h fk fx
  simp only [IntKind.wrap_i64, IntKind.wrap_u8, IntKind.wrap_u32, IntKind.wrap_u64, Sp.tmod_lit, Sp.tdiv_lit, bne_eq_false_iff_eq, Int.natCast_inj, setE, copyL, sliceL, zrow, List.length_append, List.length_cons, List.length_nil, List.length_set, List.length_replicate, List.length_take, List.length_drop, decide_eq_true_eq, decide_eq_false_iff_not, Bool.or_eq_true, Bool.and_eq_true, Bool.or_eq_false_iff, Bool.and_eq_false_iff, Bool.not_eq_true', Bool.not_eq_false', Bool.not_eq_true, Bool.not_eq_false, beq_iff_eq, beq_eq_false_iff_ne, bne_iff_ne, ne_eq, implies_true, and_true, true_and] at *
  all_goals ((repeat' (first | exact trivial | apply And.intro | intro _)) <;> first | trivial | omega | exact Sp.tmod_nn (by omega) | exact Sp.tmod_lt (by omega) (by omega)))) (fun k x => by kernel_rfl) so67_3
def cp67 : Cp := { p := (Ty.pair ty3 ty117), psh := [none], mask := [true, false], sz := [9], ro := false, ex := false, q := ty117, r := ty80, rsh := (Rsh.one (none)), pre := some Sp.pre67, F := Sp.F67 }
theorem va67 (x : (Ty.pair ty3 ty117).den) : ((evFnP (ctxP PmFb none GmT2 []) Try.f67 (Ty.pair ty3 ty117) [none] [true, false] [9] false false ty117 (Rsh.one (none)) ty80 (lookL [(3, LS67_3)]) x)).val (fun _ => (Ty.dflt ty80, Ty.dflt ty117)) (Ty.dflt ty80, Ty.dflt ty117) = Sp.F67 x := by kernel_rfl
theorem sa67 (x : (Ty.pair ty3 ty117).den) (fx : Fit (Ty.pair ty3 ty117) x) (h : Sp.pre67 x) : SafeW ((evFnP (ctxP PmFb none GmT2 []) Try.f67 (Ty.pair ty3 ty117) [none] [true, false] [9] false false ty117 (Rsh.one (none)) ty80 (lookL [(3, LS67_3)]) x)) := slim_of (S := (((Sp.in67_3 x ((0 : Int), (0 : Int))) ∧ (0 ≤ x.1 ∧ x.1 ≤ ((x.2.1).size : Int) ∧ ((x.2.1).size : Int) ≤ ((x.2.1).size : Int))))) (by kernel_rfl) (by
  try dsimp only [Ty.den] at *
  simp only [Fit, maxLen] at fx
  simp only [Sp.in67_3, Sp.pre67, IntKind.wrap_i64, IntKind.wrap_u8, IntKind.wrap_u32, IntKind.wrap_u64, Sp.tmod_lit, Sp.tdiv_lit, bne_eq_false_iff_eq, Int.natCast_inj, setE, copyL, sliceL, zrow, List.length_append, List.length_cons, List.length_nil, List.length_set, List.length_replicate, List.length_take, List.length_drop, decide_eq_true_eq, decide_eq_false_iff_not, Bool.or_eq_true, Bool.and_eq_true, Bool.or_eq_false_iff, Bool.and_eq_false_iff, Bool.not_eq_true', Bool.not_eq_false', Bool.not_eq_true, Bool.not_eq_false, beq_iff_eq, beq_eq_false_iff_ne, bne_iff_ne, ne_eq, implies_true, and_true, true_and] at *
  all_goals ((repeat' (first | exact trivial | apply And.intro | intro _)) <;> first | trivial | omega | exact Sp.tmod_nn (by omega) | exact Sp.tmod_lt (by omega) (by omega)))
theorem ok67 : CpOk Try.prog gdS 67 cp67 :=
  fn_okPU (ctxOkP pgokPmFb fvok_none gokGmT2 []) rfl Try.func67 cp67 (L := (lookL [(3, LS67_3)])) (c := bodyOf Try.f67) (dflt := (Ty.dflt ty80, Ty.dflt ty117)) rfl (loops_of (l := [bodyAt (bodyOf Try.f67) [0]]) (by kernel_rfl) (loops_cons (s0 := LS67_3) (by kernel_rfl) lo67_3 (loops_nil)))
    (safe_preP rfl @sa67) va67
def ct71 : Ct := { p := ty25, psh := [some 8], r := ty28, rsh := (Rsh.one (some 2)), pre := none, fresh := none, F := Sp.F71 }
theorem ok71 : CtOk Try.prog gdS 71 ct71 :=
  fn_okU (ctxOkP pgokPmFb fvok_none gokGmT2 []) rfl Try.func71 (p := ty25) (psh := [some 8]) (r := ty28) (rsh := (Rsh.one (some 2))) (pre := none) (fresh := none) (F := Sp.F71) (L := noL) (c := bodyOf Try.f71) (dflt := Ty.dflt ty28) rfl (no_loops)
    (fun x fx _ => safe_of (S := (((((Sp.F27 x) != (0 : Int)) = true → True) ∧ (((Sp.F27 x) != (0 : Int)) = false → ((0 ≤ (IntKind.i64.wrap (x.1 - (1 : Int)))) ∧ ((0 ≤ (1 : Int)) ∧ True)))))) (by kernel_rfl) (by
  refine ⟨fun _ => trivial, fun h => ?_⟩
  have hb := Sp.valid_b (Sp.fit_cars fx) (by simpa using h)
  rw [Sp.wrap_i64_of (by have := hb.fl; omega) (by have := hb.fl; omega)]
  exact ⟨by have := hb.fl; omega, by omega, trivial⟩)) (fun x => by kernel_rfl)
def LS30_1 : LS Unit := mkLS ty3 (Ty.pair ty80 (Ty.pair ty3 ty77))  [(6, none)] [] [(1, none), (7, none)] [(0, 1)] [(2, 100102, false, 5)] [] [(0, 0)] 0 false Sp.in30_1 Sp.st30_1 Sp.mu30_1
set_option maxHeartbeats 4000000 in
theorem so30_1 (k : ty3.den) (x : (Ty.pair ty80 (Ty.pair ty3 ty77)).den) (fk : Fit ty3 k) (h : Sp.in30_1 k x) : StepOk false Sp.in30_1 Sp.mu30_1 k x (Sp.st30_1 k x) := by
  try dsimp only [Ty.den] at *
  simp only [Sp.in30_1, Fit, maxLen] at h fk
  unfold Sp.st30_1
  (repeat' (first | exact rfl | (refine StepOk.cnd (fun hc => ?_) (fun hc => ?_) <;> (try simp only [IntKind.wrap_i64, IntKind.wrap_u8, IntKind.wrap_u32, IntKind.wrap_u64, bne_eq_false_iff_eq, Int.natCast_inj, setE, copyL, sliceL, zrow, List.length_append, List.length_cons, List.length_nil, List.length_set, List.length_replicate, List.length_take, List.length_drop, decide_eq_true_eq, decide_eq_false_iff_not, Bool.or_eq_true, Bool.and_eq_true, Bool.or_eq_false_iff, Bool.and_eq_false_iff, Bool.not_eq_true', Bool.not_eq_false', Bool.not_eq_true, Bool.not_eq_false, beq_iff_eq, beq_eq_false_iff_ne, bne_iff_ne, ne_eq] at hc)) | refine StepOk.opt (fun _ => ?_))) <;> (first | exact rfl | (refine ⟨rfl, ?_, ?_⟩ <;> simp only [Sp.in30_1, Sp.mu30_1, IntKind.wrap_i64, IntKind.wrap_u8, IntKind.wrap_u32, IntKind.wrap_u64, Sp.tmod_lit, Sp.tdiv_lit, bne_eq_false_iff_eq, Int.natCast_inj, setE, copyL, sliceL, zrow, List.length_append, List.length_cons, List.length_nil, List.length_set, List.length_replicate, List.length_take, List.length_drop, decide_eq_true_eq, decide_eq_false_iff_not, Bool.or_eq_true, Bool.and_eq_true, Bool.or_eq_false_iff, Bool.and_eq_false_iff, Bool.not_eq_true', Bool.not_eq_false', Bool.not_eq_true, Bool.not_eq_false, beq_iff_eq, beq_eq_false_iff_ne, bne_iff_ne, ne_eq] <;> first | omega | (and_intros <;> first | omega | exact h.1 | exact h.2 | exact h.2.1 | exact h.2.2 | exact h.2.2.1 | exact h.2.2.2 | exact h.2.2.2.1 | exact h.2.2.2.2 | exact h.2.2.2.2.1 | exact h.2.2.2.2.2 | exact h.2.2.2.2.2.1 | exact h.2.2.2.2.2.2)))
set_option maxHeartbeats 4000000 in
theorem lo30_1 : LoopOk Try.prog gdS (fun _ _ _ (_ : Unit) _ _ => False) (bodyAt (bodyOf Try.f30) [0]) LS30_1 :=
  loop_runP (ctxOkP pgokPmFb fvok_none gokGmT2 []) (L := lookL []) (d := BOut.brk (Ty.dflt ty3) (Ty.dflt (Ty.pair ty80 (Ty.pair ty3 ty77)))) (loops_of (l := []) (by kernel_rfl) (loops_nil)) (fun k x fk fx h => slim_of (S := (((decide (x.2.1 < k)) = true → (((List.length (x.2.2 : List Int) + List.length ([(IntKind.u8.wrap x.1)] : List Int)) * 1 ≤ 140737488355328 ∧ List.length (x.2.2 : List Int) + List.length ([(IntKind.u8.wrap x.1)] : List Int) ≤ 4611686018427387903) ∧ (0 ≤ (8 : Int)))))) (by kernel_rfl) (by
  try dsimp only [Ty.den] at *
  simp only [Sp.in30_1, Fit, maxLen] at h fk fx
  simp only [IntKind.wrap_i64, IntKind.wrap_u8, IntKind.wrap_u32, IntKind.wrap_u64, Sp.tmod_lit, Sp.tdiv_lit, bne_eq_false_iff_eq, Int.natCast_inj, setE, copyL, sliceL, zrow, List.length_append, List.length_cons, List.length_nil, List.length_set, List.length_replicate, List.length_take, List.length_drop, decide_eq_true_eq, decide_eq_false_iff_not, Bool.or_eq_true, Bool.and_eq_true, Bool.or_eq_false_iff, Bool.and_eq_false_iff, Bool.not_eq_true', Bool.not_eq_false', Bool.not_eq_true, Bool.not_eq_false, beq_iff_eq, beq_eq_false_iff_ne, bne_iff_ne, ne_eq, implies_true, and_true, true_and] at *
  all_goals ((repeat' (first | exact trivial | apply And.intro | intro _)) <;> first | trivial | omega | exact Sp.tmod_nn (by omega) | exact Sp.tmod_lt (by omega) (by omega)))) (fun k x => by kernel_rfl) so30_1
def cw30 : Cw := { p := (Ty.pair ty80 ty3), psh := [none, none], el := 5, pre := some Sp.pre30, F := Sp.FW30 }
theorem va30 (x : (Ty.pair ty80 ty3).den) (l : List Int) : ((evFnW (ctxP PmFb none GmT2 []) Try.f30 (Ty.pair ty80 ty3) [none, none] 5 (lookL [(1, LS30_1)]) x l)).val (fun _ => []) [] = Sp.FW30 x l := by kernel_rfl
theorem se30 (x : (Ty.pair ty80 ty3).den) (l : List Int) : ((evFnW (ctxP PmFb none GmT2 []) Try.f30 (Ty.pair ty80 ty3) [none, none] 5 (lookL [(1, LS30_1)]) x l)).safe = (((Sp.in30_1 x.2 (x.1, (0 : Int), l)) ∧ True)) := by kernel_rfl
theorem sa30 (x : (Ty.pair ty80 ty3).den) (l : List Int) (fx : Fit (Ty.pair ty80 ty3) x) (fl : l.length ≤ maxLen) (h : Sp.pre30 x l) : SafeW ((evFnW (ctxP PmFb none GmT2 []) Try.f30 (Ty.pair ty80 ty3) [none, none] 5 (lookL [(1, LS30_1)]) x l)) := by
  refine ⟨?_⟩
  rw [se30]
  try dsimp only [Ty.den] at *
  simp only [Fit, maxLen] at fx
  simp only [Sp.in30_1, Sp.pre30, IntKind.wrap_i64, IntKind.wrap_u8, IntKind.wrap_u32, IntKind.wrap_u64, Sp.tmod_lit, Sp.tdiv_lit, bne_eq_false_iff_eq, Int.natCast_inj, setE, copyL, sliceL, zrow, List.length_append, List.length_cons, List.length_nil, List.length_set, List.length_replicate, List.length_take, List.length_drop, decide_eq_true_eq, decide_eq_false_iff_not, Bool.or_eq_true, Bool.and_eq_true, Bool.or_eq_false_iff, Bool.and_eq_false_iff, Bool.not_eq_true', Bool.not_eq_false', Bool.not_eq_true, Bool.not_eq_false, beq_iff_eq, beq_eq_false_iff_ne, bne_iff_ne, ne_eq, implies_true, and_true, true_and] at *
  all_goals ((repeat' (first | exact trivial | apply And.intro | intro _)) <;> first | trivial | omega | exact Sp.tmod_nn (by omega) | exact Sp.tmod_lt (by omega) (by omega))
theorem ok30 : CwOk Try.prog gdS 30 cw30 :=
  fn_okW (ctxOkP pgokPmFb fvok_none gokGmT2 []) Try.func30 (cw := cw30) (L := (lookL [(1, LS30_1)])) (c := bodyOf Try.f30) (dflt := []) rfl (loops_of (l := [bodyAt (bodyOf Try.f30) [0]]) (by kernel_rfl) (loops_cons (s0 := LS30_1) (by kernel_rfl) lo30_1 (loops_nil)))
    (fun x l fx fl hq => (sa30 x l fx fl (hq _ rfl)).safe) va30
def ZmF0 (nw : Bool) : List (Nat × Zc) := (30, .pw cw30) :: []
theorem zkokZmF0 (nw : Bool) : ZKOk (ZmF0 nw) := zkok_cons (z := .pw cw30) ok30 ⟨_, Try.func30, by kernel_rfl, by kernel_rfl⟩ (zkok_nil)
def PmF0 : List (Nat × Cp) := (67, cp67) :: PmFb
theorem pgokPmF0 : PGOk PmF0 := pgok_cons ok67 ⟨_, Try.func67, by kernel_rfl, by kernel_rfl⟩ (pgokPmFb)
def GmF0 : List (Nat × Ct) := (71, ct71) :: GmT2
theorem gokGmF0 : GOk GmF0 := gok_cons ok71 ⟨_, Try.func71, by kernel_rfl, by kernel_rfl⟩ (gokGmT2)
end Go.Proofs.Ytbnihoioblmgkaa.Sy
end

section
/- Contracts of functions, by the evaluator (own program gen.py): <*frame.reader>.number, <*frame.reader>.bits, frame.isCalls. -/
set_option linter.unusedVariables false
set_option linter.unusedSimpArgs false
set_option maxRecDepth 100000
namespace Go.Proofs.Ytbnihoioblmgkaa.Sp
open Go Go.RowKit Sy
def FQ63 (x : Int × ByteArray × BldT) : Bool × ((Int) × (ByteArray × BldT)) :=
  bif (Sp.FQ64 (decide ((IntKind.i64.wrap ((Sp.F67 ((1 : Int), x.2)).1)) ≤ x.1))).1 then
    (true, ((0 : Int), (Sp.F67 ((1 : Int), x.2)).2))
  else
    (false, ((IntKind.i64.wrap ((Sp.F67 ((1 : Int), x.2)).1)), (Sp.F67 ((1 : Int), x.2)).2))
def pre63 (x : Int × ByteArray × BldT) : Prop := 1 ≤ x.2.1.size ∧ x.2.1.size ≤ 1000000
def FQ65 (x : ByteArray × BldT) : Bool × ((Int) × (ByteArray × BldT)) :=
  bif (Sp.FQ64 ((Int.fdiv (IntKind.u32.wrap ((Sp.F67 ((4 : Int), x)).1)) (2 ^ (min ((Sp.F67 ((4 : Int), x)).2.2.1).toNat IntKind.u32.bits))) == (0 : Int))).1 then
    (true, ((0 : Int), (Sp.F67 ((4 : Int), x)).2))
  else
    (false, ((IntKind.u32.wrap ((Sp.F67 ((4 : Int), x)).1)), (Sp.F67 ((4 : Int), x)).2))
def pre65 (x : ByteArray × BldT) : Prop := 4 ≤ x.1.size ∧ x.1.size ≤ 1000000 ∧ 0 ≤ x.2.1
def F53 (x : (BldT) × Int × Int) : Bool :=
  (((IntKind.u32.wrap ((BitVec.ofInt IntKind.u32.bits x.2.1 &&& ~~~ BitVec.ofInt IntKind.u32.bits ((Sp.F71 x.1).1)).toNat : Int)) == (0 : Int)) && ((IntKind.u32.wrap ((BitVec.ofInt IntKind.u32.bits x.2.2 &&& ~~~ BitVec.ofInt IntKind.u32.bits ((Sp.F71 x.1).2)).toNat : Int)) == (0 : Int)))
end Go.Proofs.Ytbnihoioblmgkaa.Sp
namespace Go.Proofs.Ytbnihoioblmgkaa.Sy
open Go Go.RowKit Sp
def cp63 : Cp := { p := (Ty.pair ty3 ty117), psh := [none], mask := [true, false], sz := [9], ro := false, ex := false, q := ty117, r := ty3, rsh := (Rsh.one (none)), pre := some Sp.pre63, F := fun x => (Sp.FQ63 x).2, pn := some fun x => (Sp.FQ63 x).1, pv := wrongV }
theorem va63 (x : (Ty.pair ty3 ty117).den) : ((evFnQ (ctxZ (ZmF0 true) PmF0 none GmF0 []) Try.f63 (Ty.pair ty3 ty117) [none] [true, false] [9] false ty117 (Rsh.one (none)) ty3 wrongV noL x)).val (fun _ => (false, (Ty.dflt ty3, Ty.dflt ty117))) (false, (Ty.dflt ty3, Ty.dflt ty117)) = Sp.FQ63 x := by kernel_rfl
theorem sa63 (x : (Ty.pair ty3 ty117).den) (fx : Fit (Ty.pair ty3 ty117) x) (h : Sp.pre63 x) : SafeW ((evFnQ (ctxZ (ZmF0 true) PmF0 none GmF0 []) Try.f63 (Ty.pair ty3 ty117) [none] [true, false] [9] false ty117 (Rsh.one (none)) ty3 wrongV noL x)) := slim_of (S := (((Sp.pre67 ((1 : Int), x.2)) ∧ (((Sp.FQ64 (decide ((IntKind.i64.wrap ((Sp.F67 ((1 : Int), x.2)).1)) ≤ x.1))).1 = true → (wrongV = wrongV)) ∧ ((Sp.FQ64 (decide ((IntKind.i64.wrap ((Sp.F67 ((1 : Int), x.2)).1)) ≤ x.1))).1 = false → ((Sp.FQ64 (decide ((IntKind.i64.wrap ((Sp.F67 ((1 : Int), x.2)).1)) ≤ x.1))).1 = false)))))) (by kernel_rfl) (by
  try dsimp only [Ty.den] at *
  simp only [Fit, maxLen] at fx
  simp only [Sp.pre63, Sp.pre67, IntKind.wrap_i64, IntKind.wrap_u8, IntKind.wrap_u32, IntKind.wrap_u64, Sp.tmod_lit, Sp.tdiv_lit, bne_eq_false_iff_eq, Int.natCast_inj, setE, copyL, sliceL, zrow, List.length_append, List.length_cons, List.length_nil, List.length_set, List.length_replicate, List.length_take, List.length_drop, decide_eq_true_eq, decide_eq_false_iff_not, Bool.or_eq_true, Bool.and_eq_true, Bool.or_eq_false_iff, Bool.and_eq_false_iff, Bool.not_eq_true', Bool.not_eq_false', Bool.not_eq_true, Bool.not_eq_false, beq_iff_eq, beq_eq_false_iff_ne, bne_iff_ne, ne_eq, implies_true, and_true, true_and] at *
  all_goals ((repeat' (first | exact trivial | apply And.intro | intro _)) <;> first | trivial | omega | exact Sp.tmod_nn (by omega) | exact Sp.tmod_lt (by omega) (by omega)))
theorem ok63 : CpOk Try.prog gdS 63 cp63 :=
  fn_okQU (ctxOkZ (zkokZmF0 true) pgokPmF0 fvok_none gokGmF0 []) rfl Try.func63 cp63 (L := noL) (c := bodyOf Try.f63) (dflt := (false, (Ty.dflt ty3, Ty.dflt ty117))) (FQ := Sp.FQ63) rfl rfl rfl (fun _ => rfl) (no_loops)
    (safe_preP rfl @sa63) va63
def cp65 : Cp := { p := ty117, psh := [], mask := [true], sz := [9], ro := false, ex := false, q := ty117, r := ty26, rsh := (Rsh.one (none)), pre := some Sp.pre65, F := fun x => (Sp.FQ65 x).2, pn := some fun x => (Sp.FQ65 x).1, pv := wrongV }
theorem va65 (x : ty117.den) : ((evFnQ (ctxZ (ZmF0 true) PmF0 none GmF0 []) Try.f65 ty117 [] [true] [9] false ty117 (Rsh.one (none)) ty26 wrongV noL x)).val (fun _ => (false, (Ty.dflt ty26, Ty.dflt ty117))) (false, (Ty.dflt ty26, Ty.dflt ty117)) = Sp.FQ65 x := by kernel_rfl
theorem sa65 (x : ty117.den) (fx : Fit ty117 x) (h : Sp.pre65 x) : SafeW ((evFnQ (ctxZ (ZmF0 true) PmF0 none GmF0 []) Try.f65 ty117 [] [true] [9] false ty117 (Rsh.one (none)) ty26 wrongV noL x)) := slim_of (S := (((Sp.pre67 ((4 : Int), x)) ∧ ((0 ≤ (Sp.F67 ((4 : Int), x)).2.2.1) ∧ (((Sp.FQ64 ((Int.fdiv (IntKind.u32.wrap ((Sp.F67 ((4 : Int), x)).1)) (2 ^ (min ((Sp.F67 ((4 : Int), x)).2.2.1).toNat IntKind.u32.bits))) == (0 : Int))).1 = true → (wrongV = wrongV)) ∧ ((Sp.FQ64 ((Int.fdiv (IntKind.u32.wrap ((Sp.F67 ((4 : Int), x)).1)) (2 ^ (min ((Sp.F67 ((4 : Int), x)).2.2.1).toNat IntKind.u32.bits))) == (0 : Int))).1 = false → ((Sp.FQ64 ((Int.fdiv (IntKind.u32.wrap ((Sp.F67 ((4 : Int), x)).1)) (2 ^ (min ((Sp.F67 ((4 : Int), x)).2.2.1).toNat IntKind.u32.bits))) == (0 : Int))).1 = false))))))) (by kernel_rfl) (by
  try dsimp only [Ty.den] at *
  simp only [Fit, maxLen] at fx
  simp only [Sp.pre65, Sp.pre67, Sp.F67, ByteArray.size_extract, Int.toNat_natCast, IntKind.wrap_i64, IntKind.wrap_u8, IntKind.wrap_u32, IntKind.wrap_u64, Sp.tmod_lit, Sp.tdiv_lit, bne_eq_false_iff_eq, Int.natCast_inj, setE, copyL, sliceL, zrow, List.length_append, List.length_cons, List.length_nil, List.length_set, List.length_replicate, List.length_take, List.length_drop, decide_eq_true_eq, decide_eq_false_iff_not, Bool.or_eq_true, Bool.and_eq_true, Bool.or_eq_false_iff, Bool.and_eq_false_iff, Bool.not_eq_true', Bool.not_eq_false', Bool.not_eq_true, Bool.not_eq_false, beq_iff_eq, beq_eq_false_iff_ne, bne_iff_ne, ne_eq, implies_true, and_true, true_and] at *
  all_goals ((repeat' (first | exact trivial | apply And.intro | intro _)) <;> first | trivial | omega | exact Sp.tmod_nn (by omega) | exact Sp.tmod_lt (by omega) (by omega)))
theorem ok65 : CpOk Try.prog gdS 65 cp65 :=
  fn_okQU (ctxOkZ (zkokZmF0 true) pgokPmF0 fvok_none gokGmF0 []) rfl Try.func65 cp65 (L := noL) (c := bodyOf Try.f65) (dflt := (false, (Ty.dflt ty26, Ty.dflt ty117))) (FQ := Sp.FQ65) rfl rfl rfl (fun _ => rfl) (no_loops)
    (safe_preP rfl @sa65) va65
def ct53 : Ct := { p := (Ty.pair ty25 ty28), psh := [some 8, some 2], r := ty4, rsh := (Rsh.one (none)), pre := none, fresh := none, F := Sp.F53 }
theorem ok53 : CtOk Try.prog gdS 53 ct53 :=
  fn_okU (ctxOkZ (zkokZmF0 true) pgokPmF0 fvok_none gokGmF0 []) rfl Try.func53 (p := (Ty.pair ty25 ty28)) (psh := [some 8, some 2]) (r := ty4) (rsh := (Rsh.one (none))) (pre := none) (fresh := none) (F := Sp.F53) (L := noL) (c := bodyOf Try.f53) (dflt := Ty.dflt ty4) rfl (no_loops)
    (fun x fx _ => triv_of (by kernel_rfl)) (fun x => by kernel_rfl)
def PmF1 : List (Nat × Cp) := (63, cp63) :: (65, cp65) :: PmF0
theorem pgokPmF1 : PGOk PmF1 := pgok_cons ok63 ⟨_, Try.func63, by kernel_rfl, by kernel_rfl⟩ (pgok_cons ok65 ⟨_, Try.func65, by kernel_rfl, by kernel_rfl⟩ (pgokPmF0))
def GmF1 : List (Nat × Ct) := (53, ct53) :: GmF0
theorem gokGmF1 : GOk GmF1 := gok_cons ok53 ⟨_, Try.func53, by kernel_rfl, by kernel_rfl⟩ (gokGmF0)
end Go.Proofs.Ytbnihoioblmgkaa.Sy
end

section
/- Contracts of functions, by the evaluator (own program gen.py): <*frame.reader>.calls, <*frame.reader>.flags. -/
set_option linter.unusedVariables false
set_option linter.unusedSimpArgs false
set_option maxRecDepth 100000
namespace Go.Proofs.Ytbnihoioblmgkaa.Sp
open Go Go.RowKit Sy
def FQ62 (x : ByteArray × BldT) : Bool × ((Int × Int) × (ByteArray × BldT)) :=
  bif (Sp.FQ64 (Sp.F53 ((Sp.F67 ((4 : Int), (Sp.F67 ((4 : Int), x)).2)).2.2, (IntKind.u32.wrap ((Sp.F67 ((4 : Int), x)).1)), (IntKind.u32.wrap ((Sp.F67 ((4 : Int), (Sp.F67 ((4 : Int), x)).2)).1))))).1 then
    (true, (((0 : Int), (0 : Int)), (Sp.F67 ((4 : Int), (Sp.F67 ((4 : Int), x)).2)).2))
  else
    (false, (((IntKind.u32.wrap ((Sp.F67 ((4 : Int), x)).1)), (IntKind.u32.wrap ((Sp.F67 ((4 : Int), (Sp.F67 ((4 : Int), x)).2)).1))), (Sp.F67 ((4 : Int), (Sp.F67 ((4 : Int), x)).2)).2))
def pre62 (x : ByteArray × BldT) : Prop := 8 ≤ x.1.size ∧ x.1.size ≤ 1000000
def in66_4 (k : (Int × Int)) (x : ((List Bool) × Int)) : Prop := (0 : Int) ≤ x.2 ∧ k.2 = (x.1.length : Int) ∧ k.2 ≤ 8
def mu66_4 (k : (Int × Int)) (x : ((List Bool) × Int)) : Nat := (k.2 - x.2).toNat
def st66_4 (k : (Int × Int)) (x : ((List Bool) × Int)) : BOut (Int × Int) ((List Bool) × Int) (Unit) :=
  bif (decide (x.2 < k.2)) then
    BOut.next k ((setE ty4 x.1 x.2 ((IntKind.i64.wrap ((BitVec.ofInt IntKind.i64.bits (Int.fdiv k.1 (2 ^ (min (x.2).toNat IntKind.i64.bits))) &&& BitVec.ofInt IntKind.i64.bits (1 : Int)).toNat : Int)) == (1 : Int))), (IntKind.i64.wrap (x.2 + (1 : Int))))
  else
    BOut.brk k x
def G66_4 (k : (Int × Int)) (x : ((List Bool) × Int)) : ((List Bool) × Int) := endOf st66_4 k (Nat.succ (mu66_4 k x)) x
def FQ66 (x : Int × ByteArray × BldT) : Bool × ((List Bool) × (ByteArray × BldT)) :=
  bif (Sp.FQ63 ((IntKind.i64.wrap ((IntKind.i64.wrap ((1 : Int) * 2 ^ (min (x.1).toNat IntKind.i64.bits))) - (1 : Int))), x.2)).1 then
    (true, ([], (Sp.FQ63 ((IntKind.i64.wrap ((IntKind.i64.wrap ((1 : Int) * 2 ^ (min (x.1).toNat IntKind.i64.bits))) - (1 : Int))), x.2)).2.2))
  else
    (false, ((Sp.G66_4 ((Sp.FQ63 ((IntKind.i64.wrap ((IntKind.i64.wrap ((1 : Int) * 2 ^ (min (x.1).toNat IntKind.i64.bits))) - (1 : Int))), x.2)).2.1, (((zrow ty4 x.1)).length : Int)) ((zrow ty4 x.1), (0 : Int))).1, (Sp.FQ63 ((IntKind.i64.wrap ((IntKind.i64.wrap ((1 : Int) * 2 ^ (min (x.1).toNat IntKind.i64.bits))) - (1 : Int))), x.2)).2.2))
def pre66 (x : Int × ByteArray × BldT) : Prop := 0 ≤ x.1 ∧ x.1 ≤ 8 ∧ 1 ≤ x.2.1.size ∧ x.2.1.size ≤ 1000000
end Go.Proofs.Ytbnihoioblmgkaa.Sp
namespace Go.Proofs.Ytbnihoioblmgkaa.Sy
open Go Go.RowKit Sp
def cp62 : Cp := { p := ty117, psh := [], mask := [true], sz := [9], ro := false, ex := false, q := ty117, r := ty28, rsh := (Rsh.one (some 2)), pre := some Sp.pre62, F := fun x => (Sp.FQ62 x).2, pn := some fun x => (Sp.FQ62 x).1, pv := wrongV }
theorem va62 (x : ty117.den) : ((evFnQ (ctxZ (ZmF0 true) PmF1 none GmF1 []) Try.f62 ty117 [] [true] [9] false ty117 (Rsh.one (some 2)) ty28 wrongV noL x)).val (fun _ => (false, (Ty.dflt ty28, Ty.dflt ty117))) (false, (Ty.dflt ty28, Ty.dflt ty117)) = Sp.FQ62 x := by kernel_rfl
theorem sa62 (x : ty117.den) (fx : Fit ty117 x) (h : Sp.pre62 x) : SafeW ((evFnQ (ctxZ (ZmF0 true) PmF1 none GmF1 []) Try.f62 ty117 [] [true] [9] false ty117 (Rsh.one (some 2)) ty28 wrongV noL x)) := slim_of (S := (((Sp.pre67 ((4 : Int), x)) ∧ ((Sp.pre67 ((4 : Int), (Sp.F67 ((4 : Int), x)).2)) ∧ (((Sp.FQ64 (Sp.F53 ((Sp.F67 ((4 : Int), (Sp.F67 ((4 : Int), x)).2)).2.2, (IntKind.u32.wrap ((Sp.F67 ((4 : Int), x)).1)), (IntKind.u32.wrap ((Sp.F67 ((4 : Int), (Sp.F67 ((4 : Int), x)).2)).1))))).1 = true → (wrongV = wrongV)) ∧ ((Sp.FQ64 (Sp.F53 ((Sp.F67 ((4 : Int), (Sp.F67 ((4 : Int), x)).2)).2.2, (IntKind.u32.wrap ((Sp.F67 ((4 : Int), x)).1)), (IntKind.u32.wrap ((Sp.F67 ((4 : Int), (Sp.F67 ((4 : Int), x)).2)).1))))).1 = false → ((Sp.FQ64 (Sp.F53 ((Sp.F67 ((4 : Int), (Sp.F67 ((4 : Int), x)).2)).2.2, (IntKind.u32.wrap ((Sp.F67 ((4 : Int), x)).1)), (IntKind.u32.wrap ((Sp.F67 ((4 : Int), (Sp.F67 ((4 : Int), x)).2)).1))))).1 = false))))))) (by kernel_rfl) (by
  try dsimp only [Ty.den] at *
  simp only [Fit, maxLen] at fx
  simp only [Sp.pre62, Sp.pre67, Sp.F67, ByteArray.size_extract, Int.toNat_natCast, IntKind.wrap_i64, IntKind.wrap_u8, IntKind.wrap_u32, IntKind.wrap_u64, Sp.tmod_lit, Sp.tdiv_lit, bne_eq_false_iff_eq, Int.natCast_inj, setE, copyL, sliceL, zrow, List.length_append, List.length_cons, List.length_nil, List.length_set, List.length_replicate, List.length_take, List.length_drop, decide_eq_true_eq, decide_eq_false_iff_not, Bool.or_eq_true, Bool.and_eq_true, Bool.or_eq_false_iff, Bool.and_eq_false_iff, Bool.not_eq_true', Bool.not_eq_false', Bool.not_eq_true, Bool.not_eq_false, beq_iff_eq, beq_eq_false_iff_ne, bne_iff_ne, ne_eq, implies_true, and_true, true_and] at *
  all_goals ((repeat' (first | exact trivial | apply And.intro | intro _)) <;> first | trivial | omega | exact Sp.tmod_nn (by omega) | exact Sp.tmod_lt (by omega) (by omega)))
theorem ok62 : CpOk Try.prog gdS 62 cp62 :=
  fn_okQU (ctxOkZ (zkokZmF0 true) pgokPmF1 fvok_none gokGmF1 []) rfl Try.func62 cp62 (L := noL) (c := bodyOf Try.f62) (dflt := (false, (Ty.dflt ty28, Ty.dflt ty117))) (FQ := Sp.FQ62) rfl rfl rfl (fun _ => rfl) (no_loops)
    (safe_preP rfl @sa62) va62
def LS66_4 : LS Unit := mkLS (Ty.pair ty3 ty3) (Ty.pair ty112 ty3)  [(5, none), (16, none)] [] [(6, none), (17, none)] [] [(0, 100400, true, 4)] [] [] 0 false Sp.in66_4 Sp.st66_4 Sp.mu66_4
set_option maxHeartbeats 4000000 in
theorem so66_4 (k : (Ty.pair ty3 ty3).den) (x : (Ty.pair ty112 ty3).den) (fk : Fit (Ty.pair ty3 ty3) k) (h : Sp.in66_4 k x) : StepOk false Sp.in66_4 Sp.mu66_4 k x (Sp.st66_4 k x) := by
  try dsimp only [Ty.den] at *
  simp only [Sp.in66_4, Fit, maxLen] at h fk
  unfold Sp.st66_4
  (repeat' (first | exact rfl | (refine StepOk.cnd (fun hc => ?_) (fun hc => ?_) <;> (try simp only [IntKind.wrap_i64, IntKind.wrap_u8, IntKind.wrap_u32, IntKind.wrap_u64, bne_eq_false_iff_eq, Int.natCast_inj, setE, copyL, sliceL, zrow, List.length_append, List.length_cons, List.length_nil, List.length_set, List.length_replicate, List.length_take, List.length_drop, decide_eq_true_eq, decide_eq_false_iff_not, Bool.or_eq_true, Bool.and_eq_true, Bool.or_eq_false_iff, Bool.and_eq_false_iff, Bool.not_eq_true', Bool.not_eq_false', Bool.not_eq_true, Bool.not_eq_false, beq_iff_eq, beq_eq_false_iff_ne, bne_iff_ne, ne_eq] at hc)) | refine StepOk.opt (fun _ => ?_))) <;> (first | exact rfl | (refine ⟨rfl, ?_, ?_⟩ <;> simp only [Sp.in66_4, Sp.mu66_4, IntKind.wrap_i64, IntKind.wrap_u8, IntKind.wrap_u32, IntKind.wrap_u64, Sp.tmod_lit, Sp.tdiv_lit, bne_eq_false_iff_eq, Int.natCast_inj, setE, copyL, sliceL, zrow, List.length_append, List.length_cons, List.length_nil, List.length_set, List.length_replicate, List.length_take, List.length_drop, decide_eq_true_eq, decide_eq_false_iff_not, Bool.or_eq_true, Bool.and_eq_true, Bool.or_eq_false_iff, Bool.and_eq_false_iff, Bool.not_eq_true', Bool.not_eq_false', Bool.not_eq_true, Bool.not_eq_false, beq_iff_eq, beq_eq_false_iff_ne, bne_iff_ne, ne_eq] <;> first | omega | (and_intros <;> first | omega | exact h.1 | exact h.2 | exact h.2.1 | exact h.2.2 | exact h.2.2.1 | exact h.2.2.2 | exact h.2.2.2.1 | exact h.2.2.2.2 | exact h.2.2.2.2.1 | exact h.2.2.2.2.2 | exact h.2.2.2.2.2.1 | exact h.2.2.2.2.2.2)))
set_option maxHeartbeats 4000000 in
theorem lo66_4 : LoopOk Try.prog gdS (fun _ _ _ (_ : Unit) _ _ => False) (bodyAt (bodyOf Try.f66) [0]) LS66_4 :=
  loop_runP (ctxOkZ (zkokZmF0 true) pgokPmF1 fvok_none gokGmF1 []) (L := lookL []) (d := BOut.brk (Ty.dflt (Ty.pair ty3 ty3)) (Ty.dflt (Ty.pair ty112 ty3))) (loops_of (l := []) (by kernel_rfl) (loops_nil)) (fun k x fk fx h => slim_of (S := (((decide (x.2 < k.2)) = true → ((0 ≤ x.2) ∧ (0 ≤ x.2 ∧ x.2 < ((x.1).length : Int)))))) (by kernel_rfl) (by
  try dsimp only [Ty.den] at *
  simp only [Sp.in66_4, Fit, maxLen] at h fk fx
  simp only [IntKind.wrap_i64, IntKind.wrap_u8, IntKind.wrap_u32, IntKind.wrap_u64, Sp.tmod_lit, Sp.tdiv_lit, bne_eq_false_iff_eq, Int.natCast_inj, setE, copyL, sliceL, zrow, List.length_append, List.length_cons, List.length_nil, List.length_set, List.length_replicate, List.length_take, List.length_drop, decide_eq_true_eq, decide_eq_false_iff_not, Bool.or_eq_true, Bool.and_eq_true, Bool.or_eq_false_iff, Bool.and_eq_false_iff, Bool.not_eq_true', Bool.not_eq_false', Bool.not_eq_true, Bool.not_eq_false, beq_iff_eq, beq_eq_false_iff_ne, bne_iff_ne, ne_eq, implies_true, and_true, true_and] at *
  all_goals ((repeat' (first | exact trivial | apply And.intro | intro _)) <;> first | trivial | omega | exact Sp.tmod_nn (by omega) | exact Sp.tmod_lt (by omega) (by omega)))) (fun k x => by kernel_rfl) so66_4
def cp66 : Cp := { p := (Ty.pair ty3 ty117), psh := [none], mask := [true, false], sz := [9], ro := false, ex := false, q := ty117, r := ty112, rsh := (Rsh.one (none)), pre := some Sp.pre66, F := fun x => (Sp.FQ66 x).2, pn := some fun x => (Sp.FQ66 x).1, pv := wrongV }
theorem va66 (x : (Ty.pair ty3 ty117).den) : ((evFnQ (ctxZ (ZmF0 true) PmF1 none GmF1 []) Try.f66 (Ty.pair ty3 ty117) [none] [true, false] [9] false ty117 (Rsh.one (none)) ty112 wrongV (lookL [(4, LS66_4)]) x)).val (fun _ => (false, (Ty.dflt ty112, Ty.dflt ty117))) (false, (Ty.dflt ty112, Ty.dflt ty117)) = Sp.FQ66 x := by kernel_rfl
theorem sa66 (x : (Ty.pair ty3 ty117).den) (fx : Fit (Ty.pair ty3 ty117) x) (h : Sp.pre66 x) : SafeW ((evFnQ (ctxZ (ZmF0 true) PmF1 none GmF1 []) Try.f66 (Ty.pair ty3 ty117) [none] [true, false] [9] false ty117 (Rsh.one (none)) ty112 wrongV (lookL [(4, LS66_4)]) x)) := safe_of (S := (((0 ≤ x.1) ∧ ((Sp.pre63 ((IntKind.i64.wrap ((IntKind.i64.wrap ((1 : Int) * 2 ^ (min (x.1).toNat IntKind.i64.bits))) - (1 : Int))), x.2)) ∧ (((Sp.FQ63 ((IntKind.i64.wrap ((IntKind.i64.wrap ((1 : Int) * 2 ^ (min (x.1).toNat IntKind.i64.bits))) - (1 : Int))), x.2)).1 = true → ((wrongV = wrongV) ∧ True)) ∧ ((Sp.FQ63 ((IntKind.i64.wrap ((IntKind.i64.wrap ((1 : Int) * 2 ^ (min (x.1).toNat IntKind.i64.bits))) - (1 : Int))), x.2)).1 = false → (((Sp.pre63 ((IntKind.i64.wrap ((IntKind.i64.wrap ((1 : Int) * 2 ^ (min (x.1).toNat IntKind.i64.bits))) - (1 : Int))), x.2)) ∧ (Sp.FQ63 ((IntKind.i64.wrap ((IntKind.i64.wrap ((1 : Int) * 2 ^ (min (x.1).toNat IntKind.i64.bits))) - (1 : Int))), x.2)).1 = false) ∧ ((0 ≤ x.1 ∧ x.1 = x.1 ∧ x.1 * (1 : Int) ≤ 140737488355328 ∧ x.1 ≤ 4611686018427387903) ∧ ((Sp.in66_4 ((Sp.FQ63 ((IntKind.i64.wrap ((IntKind.i64.wrap ((1 : Int) * 2 ^ (min (x.1).toNat IntKind.i64.bits))) - (1 : Int))), x.2)).2.1, (((zrow ty4 x.1)).length : Int)) ((zrow ty4 x.1), (0 : Int))) ∧ True))))))))) (by kernel_rfl) (by
  try dsimp only [Ty.den] at *
  obtain ⟨h0, h1, h2, h3⟩ := h
  refine ⟨h0, ⟨h2, h3⟩, fun _ => ⟨rfl, trivial⟩, fun hb => ⟨⟨⟨h2, h3⟩, hb⟩, ⟨h0, rfl, by omega, by omega⟩, ?_, trivial⟩⟩
  simp only [Sp.in66_4, zrow, List.length_replicate]
  exact ⟨Int.le_refl _, trivial, by omega⟩)
theorem ok66 : CpOk Try.prog gdS 66 cp66 :=
  fn_okQU (ctxOkZ (zkokZmF0 true) pgokPmF1 fvok_none gokGmF1 []) rfl Try.func66 cp66 (L := (lookL [(4, LS66_4)])) (c := bodyOf Try.f66) (dflt := (false, (Ty.dflt ty112, Ty.dflt ty117))) (FQ := Sp.FQ66) rfl rfl rfl (fun _ => rfl) (loops_of (l := [bodyAt (bodyOf Try.f66) [0]]) (by kernel_rfl) (loops_cons (s0 := LS66_4) (by kernel_rfl) lo66_4 (loops_nil)))
    (safe_preP rfl @sa66) va66
def PmF2 : List (Nat × Cp) := (62, cp62) :: (66, cp66) :: PmF1
theorem pgokPmF2 : PGOk PmF2 := pgok_cons ok62 ⟨_, Try.func62, by kernel_rfl, by kernel_rfl⟩ (pgok_cons ok66 ⟨_, Try.func66, by kernel_rfl, by kernel_rfl⟩ (pgokPmF1))
def GmF2 : List (Nat × Ct) := GmF1
theorem gokGmF2 : GOk GmF2 := gokGmF1
end Go.Proofs.Ytbnihoioblmgkaa.Sy
end

section
/- What the reader's methods leave of the reader (own work). -/
namespace Go.Proofs.Ytbnihoioblmgkaa.Sp
open Go Sy
set_option linter.unusedVariables false
set_option linter.unusedSimpArgs false
abbrev Cars := List (Int × Int × Int × Int × Int × Int × Int × Int × Int)
abbrev Rdr := ByteArray × Int × Int × Int × Int × Nat × Nat × Nat × List (Int × Int × Int × Int × Int × Int × Int × Int × Int)
def adv (r : ByteArray × Int × Int × Int × Int × Nat × Nat × Nat × List (Int × Int × Int × Int × Int × Int × Int × Int × Int)) (k : Nat) : ByteArray × Int × Int × Int × Int × Nat × Nat × Nat × List (Int × Int × Int × Int × Int × Int × Int × Int × Int) := (r.1.extract k r.1.size, r.2)
theorem adv_2 (r : Rdr) (k : Nat) : (adv r k).2 = r.2 := rfl
theorem adv_size (r : Rdr) (k : Nat) : (adv r k).1.size = r.1.size - k := by unfold adv; simp [ByteArray.size_extract]
theorem get_rd (k : Int) (r : Rdr) : (F67 (k, r)).2 = adv r k.toNat := rfl
theorem num_rd (m : Int) (r : Rdr) : (FQ63 (m, r)).2.2 = adv r 1 := by
  unfold FQ63
  cases (FQ64 _).1 <;> rfl
theorem bits_rd (r : Rdr) : (FQ65 r).2.2 = adv r 4 := by
  unfold FQ65
  cases (FQ64 _).1 <;> rfl
theorem adv_adv (r : Rdr) (j k : Nat) : adv (adv r j) k = adv r (j + k) := by
  unfold adv
  simp only [Prod.mk.injEq, and_true]
  rw [ByteArray.extract_extract, ByteArray.size_extract]
  congr 1
  omega
theorem calls_rd (r : Rdr) : (FQ62 r).2.2 = adv r 8 := by
  unfold FQ62
  have : (F67 ((4 : Int), (F67 ((4 : Int), r)).2)).2 = adv r 8 := by rw [get_rd, get_rd, adv_adv]; rfl
  cases (FQ64 _).1 <;> exact this
theorem flags_rd (c : Int) (r : Rdr) : (FQ66 (c, r)).2.2 = adv r 1 := by
  unfold FQ66
  cases h : (FQ63 _).1
  · exact num_rd _ _
  · exact num_rd _ _
theorem flg_len (k : Int × Int) : ∀ (n : Nat) (x : List Bool × Int), (endOf st66_4 k n x).1.length = x.1.length
  | 0, x => rfl
  | n + 1, x => by
    unfold endOf
    cases h : st66_4 k x with
    | next k' y =>
      have hy : y.1.length = x.1.length := by
        unfold st66_4 at h
        cases hc : decide (x.2 < k.2) with
        | false => rw [hc] at h; cases h
        | true =>
          rw [hc] at h
          cases h
          simp [setE]
      have hk : k' = k := by
        unfold st66_4 at h
        cases hc : decide (x.2 < k.2) with
        | false => rw [hc] at h; cases h
        | true => rw [hc] at h; cases h; rfl
      subst hk
      rw [flg_len k' n y, hy]
    | brk k' y =>
      unfold st66_4 at h
      cases hc : decide (x.2 < k.2) with
      | false => rw [hc] at h; cases h; rfl
      | true => rw [hc] at h; cases h
    | ret r => rfl
theorem flags_len {c : Int} {r : Rdr} (h : (FQ66 (c, r)).1 = false) : (FQ66 (c, r)).2.1.length = c.toNat := by
  unfold FQ66 at h ⊢
  cases hq : (FQ63 (_, (c, r).2)).1 with
  | true => rw [hq] at h; cases h
  | false =>
    simp only [cond_false]
    unfold G66_4
    rw [flg_len]
    simp [zrow]
def le : Int → Nat → List Int
  | _, 0 => [] | n, k + 1 => IntKind.u8.wrap n :: le (n.fdiv 256) k
theorem le_len : ∀ (k : Nat) (n : Int), (le n k).length = k
  | 0, _ => rfl
  | k + 1, n => by simp [le, le_len k]
theorem put_end (k : Int) (hk : k ≤ 8) : ∀ (f : Nat) (n i : Int) (l : List Int), 0 ≤ i → (k - i).toNat < f → (endOf st30_1 k f (n, i, l)).2.2 = l ++ le n (k - i).toNat
  | 0, n, i, l, _, h => by omega
  | f + 1, n, i, l, h0, hf => by
    unfold endOf
    have hst : st30_1 k (n, i, l) = bif decide (i < k) then BOut.next k (n.fdiv 256, i + 1, l ++ [IntKind.u8.wrap n]) else BOut.brk k (n, i, l) := by
      unfold st30_1
      cases h : decide (i < k) with
      | false => rfl
      | true =>
        rw [decide_eq_true_eq] at h
        simp only [cond_true]
        rw [Sp.wrap_i64_of (by omega) (by omega)]
        rfl
    rw [hst]
    by_cases h : i < k
    · simp only [h, decide_true, cond_true]
      rw [put_end k hk f _ _ _ (by omega) (by omega), show (k - i).toNat = (k - (i + 1)).toNat + 1 by omega]
      simp [le]
    · simp only [h, decide_false, cond_false]
      rw [show (k - i).toNat = 0 by omega]
      simp [le]
theorem put_row (n s : Int) (l : List Int) (hs : s ≤ 8) : FW30 (n, s) l = l ++ le n s.toNat := by
  unfold FW30 G30_1
  rw [put_end s hs _ _ _ _ (Int.le_refl _) (by unfold mu30_1; simp only; omega), Int.sub_zero]
theorem put_len (n s : Int) (l : List Int) (hs : s ≤ 8) : (FW30 (n, s) l).length = l.length + s.toNat := by rw [put_row n s l hs, List.length_append, le_len]
theorem put1 (n : Int) (l : List Int) : FW30 (n, 1) l = l ++ le n 1 := put_row n 1 l (by omega)
theorem put2 (n : Int) (l : List Int) : FW30 (n, 2) l = l ++ le n 2 := put_row n 2 l (by omega)
theorem put4 (n : Int) (l : List Int) : FW30 (n, 4) l = l ++ le n 4 := put_row n 4 l (by omega)
theorem put8 (n : Int) (l : List Int) : FW30 (n, 8) l = l ++ le n 8 := put_row n 8 l (by omega)
end Go.Proofs.Ytbnihoioblmgkaa.Sp
end

section
/- Contracts of functions, by the evaluator (own program gen.py): <*frame.reader>.inputs, <*frame.reader>.outputs, <*frame.writer>.calls, <*frame.writer>.flags. -/
set_option linter.unusedVariables false
set_option linter.unusedSimpArgs false
set_option maxRecDepth 100000
namespace Go.Proofs.Ytbnihoioblmgkaa.Sp
open Go Go.RowKit Sy
def in39_7 (k : (Int)) (x : (Int × (ByteArray × BldT) × ((Int × Int) × (Int × Int) × List ((Int × Bool × Bool × Bool × Bool) × (Int × Bool × Int × Bool) × Int × Nat)) × Int)) : Prop := 0 ≤ x.1 ∧ x.1 ≤ k ∧ k ≤ 8 ∧ (x.2.1.1.size : Int) = 19 * (k - x.1) ∧ 2 ≤ x.2.1.2.1 ∧ x.2.1.2.1 ≤ 32 ∧ (x.2.2.1.2.2.length : Int) = x.1
def mu39_7 (k : (Int)) (x : (Int × (ByteArray × BldT) × ((Int × Int) × (Int × Int) × List ((Int × Bool × Bool × Bool × Bool) × (Int × Bool × Int × Bool) × Int × Nat)) × Int)) : Nat := (k - x.1).toNat
def K39_7_1 (k : (Int)) (x : (Int × (ByteArray × BldT) × ((Int × Int) × (Int × Int) × List ((Int × Bool × Bool × Bool × Bool) × (Int × Bool × Int × Bool) × Int × Nat)) × Int)) :=
  (x.2.2.1.2.2 ++ [(((Sp.FQ65 x.2.1).2.1, (Sp.nthT ((Sp.FQ66 ((6 : Int), (Sp.FQ65 x.2.1).2.2)).2.1) (0 : Int)), (Sp.nthT ((Sp.FQ66 ((6 : Int), (Sp.FQ65 x.2.1).2.2)).2.1) (1 : Int)), (Sp.nthT ((Sp.FQ66 ((6 : Int), (Sp.FQ65 x.2.1).2.2)).2.1) (2 : Int)), (Sp.nthT ((Sp.FQ66 ((6 : Int), (Sp.FQ65 x.2.1).2.2)).2.1) (3 : Int))), ((Sp.FQ63 ((IntKind.i64.wrap ((Sp.FQ66 ((6 : Int), (Sp.FQ65 x.2.1).2.2)).2.2.2.1 - (1 : Int))), (Sp.FQ66 ((6 : Int), (Sp.FQ65 x.2.1).2.2)).2.2)).2.1, (Sp.nthT ((Sp.FQ66 ((6 : Int), (Sp.FQ65 x.2.1).2.2)).2.1) (4 : Int)), (Sp.FQ63 ((2 : Int), (Sp.FQ63 ((IntKind.i64.wrap ((Sp.FQ66 ((6 : Int), (Sp.FQ65 x.2.1).2.2)).2.2.2.1 - (1 : Int))), (Sp.FQ66 ((6 : Int), (Sp.FQ65 x.2.1).2.2)).2.2)).2.2)).2.1, (Sp.nthT ((Sp.FQ66 ((6 : Int), (Sp.FQ65 x.2.1).2.2)).2.1) (5 : Int))), (Sp.FQ65 ((Sp.FQ63 ((2 : Int), (Sp.FQ63 ((IntKind.i64.wrap ((Sp.FQ66 ((6 : Int), (Sp.FQ65 x.2.1).2.2)).2.2.2.1 - (1 : Int))), (Sp.FQ66 ((6 : Int), (Sp.FQ65 x.2.1).2.2)).2.2)).2.2)).2.2)).2.1, (Int.toNat ((Sp.F67 ((8 : Int), (Sp.FQ65 ((Sp.FQ63 ((2 : Int), (Sp.FQ63 ((IntKind.i64.wrap ((Sp.FQ66 ((6 : Int), (Sp.FQ65 x.2.1).2.2)).2.2.2.1 - (1 : Int))), (Sp.FQ66 ((6 : Int), (Sp.FQ65 x.2.1).2.2)).2.2)).2.2)).2.2)).2.2)).1)))])
def st39_7 (k : (Int)) (x : (Int × (ByteArray × BldT) × ((Int × Int) × (Int × Int) × List ((Int × Bool × Bool × Bool × Bool) × (Int × Bool × Int × Bool) × Int × Nat)) × Int)) : BOut (Int) (Int × (ByteArray × BldT) × ((Int × Int) × (Int × Int) × List ((Int × Bool × Bool × Bool × Bool) × (Int × Bool × Int × Bool) × Int × Nat)) × Int) ((ByteArray × BldT) × ((Int × Int) × (Int × Int) × List ((Int × Bool × Bool × Bool × Bool) × (Int × Bool × Int × Bool) × Int × Nat)) × Int) :=
  bif (decide (x.1 < k)) then
    (bif (Sp.FQ65 x.2.1).1 then
      BOut.ret ((Sp.FQ65 x.2.1).2.2, (x.2.2.1, x.2.2.2))
    else
      bif (Sp.FQ66 ((6 : Int), (Sp.FQ65 x.2.1).2.2)).1 then
        BOut.ret ((Sp.FQ66 ((6 : Int), (Sp.FQ65 x.2.1).2.2)).2.2, (x.2.2.1, x.2.2.2))
      else
        bif (Sp.FQ63 ((IntKind.i64.wrap ((Sp.FQ66 ((6 : Int), (Sp.FQ65 x.2.1).2.2)).2.2.2.1 - (1 : Int))), (Sp.FQ66 ((6 : Int), (Sp.FQ65 x.2.1).2.2)).2.2)).1 then
          BOut.ret ((Sp.FQ63 ((IntKind.i64.wrap ((Sp.FQ66 ((6 : Int), (Sp.FQ65 x.2.1).2.2)).2.2.2.1 - (1 : Int))), (Sp.FQ66 ((6 : Int), (Sp.FQ65 x.2.1).2.2)).2.2)).2.2, (x.2.2.1, x.2.2.2))
        else
          bif (Sp.FQ63 ((2 : Int), (Sp.FQ63 ((IntKind.i64.wrap ((Sp.FQ66 ((6 : Int), (Sp.FQ65 x.2.1).2.2)).2.2.2.1 - (1 : Int))), (Sp.FQ66 ((6 : Int), (Sp.FQ65 x.2.1).2.2)).2.2)).2.2)).1 then
            BOut.ret ((Sp.FQ63 ((2 : Int), (Sp.FQ63 ((IntKind.i64.wrap ((Sp.FQ66 ((6 : Int), (Sp.FQ65 x.2.1).2.2)).2.2.2.1 - (1 : Int))), (Sp.FQ66 ((6 : Int), (Sp.FQ65 x.2.1).2.2)).2.2)).2.2)).2.2, (x.2.2.1, x.2.2.2))
          else
            bif (Sp.FQ65 ((Sp.FQ63 ((2 : Int), (Sp.FQ63 ((IntKind.i64.wrap ((Sp.FQ66 ((6 : Int), (Sp.FQ65 x.2.1).2.2)).2.2.2.1 - (1 : Int))), (Sp.FQ66 ((6 : Int), (Sp.FQ65 x.2.1).2.2)).2.2)).2.2)).2.2)).1 then
              BOut.ret ((Sp.FQ65 ((Sp.FQ63 ((2 : Int), (Sp.FQ63 ((IntKind.i64.wrap ((Sp.FQ66 ((6 : Int), (Sp.FQ65 x.2.1).2.2)).2.2.2.1 - (1 : Int))), (Sp.FQ66 ((6 : Int), (Sp.FQ65 x.2.1).2.2)).2.2)).2.2)).2.2)).2.2, (x.2.2.1, x.2.2.2))
            else
              BOut.next k ((IntKind.i64.wrap (x.1 + (1 : Int))), (Sp.F67 ((8 : Int), (Sp.FQ65 ((Sp.FQ63 ((2 : Int), (Sp.FQ63 ((IntKind.i64.wrap ((Sp.FQ66 ((6 : Int), (Sp.FQ65 x.2.1).2.2)).2.2.2.1 - (1 : Int))), (Sp.FQ66 ((6 : Int), (Sp.FQ65 x.2.1).2.2)).2.2)).2.2)).2.2)).2.2)).2, (x.2.2.1.1, x.2.2.1.2.1, (Sp.K39_7_1 k x)), x.2.2.2))
  else
    BOut.brk k x
def G39_7 (k : (Int)) (x : (Int × (ByteArray × BldT) × ((Int × Int) × (Int × Int) × List ((Int × Bool × Bool × Bool × Bool) × (Int × Bool × Int × Bool) × Int × Nat)) × Int)) : (Int × (ByteArray × BldT) × ((Int × Int) × (Int × Int) × List ((Int × Bool × Bool × Bool × Bool) × (Int × Bool × Int × Bool) × Int × Nat)) × Int) := endOf st39_7 k (Nat.succ (mu39_7 k x)) x
def R39_7 (k : (Int)) (x : (Int × (ByteArray × BldT) × ((Int × Int) × (Int × Int) × List ((Int × Bool × Bool × Bool × Bool) × (Int × Bool × Int × Bool) × Int × Nat)) × Int)) : Option ((ByteArray × BldT) × ((Int × Int) × (Int × Int) × List ((Int × Bool × Bool × Bool × Bool) × (Int × Bool × Int × Bool) × Int × Nat)) × Int) := retOf st39_7 k (Nat.succ (mu39_7 k x)) x
def K39_1 (x : ByteArray × BldT) :=
  (Sp.FQ64 (((Sp.FQ63 ((8 : Int), (Sp.FQ62 x).2.2)).2.1 != (0 : Int)) || ((Sp.FQ63 ((IntKind.i64.wrap ((((Sp.FQ63 ((8 : Int), (Sp.FQ62 x).2.2)).2.2.2.2.2.2.2.2.2.2).length : Int) - (1 : Int))), (Sp.FQ63 ((8 : Int), (Sp.FQ62 x).2.2)).2.2)).2.1 == (0 : Int))))
def K39_2 (x : ByteArray × BldT) :=
  (Sp.G39_7 (((Sp.FQ63 ((IntKind.i64.wrap ((((Sp.FQ63 ((8 : Int), (Sp.FQ62 x).2.2)).2.2.2.2.2.2.2.2.2.2).length : Int) - (1 : Int))), (Sp.FQ63 ((8 : Int), (Sp.FQ62 x).2.2)).2.2)).2.2.2.2.2.2.2.2.2.2).length : Int) ((0 : Int), (Sp.FQ63 ((IntKind.i64.wrap ((((Sp.FQ63 ((8 : Int), (Sp.FQ62 x).2.2)).2.2.2.2.2.2.2.2.2.2).length : Int) - (1 : Int))), (Sp.FQ63 ((8 : Int), (Sp.FQ62 x).2.2)).2.2)).2.2, ((Sp.FQ62 x).2.1, ((Sp.FQ63 ((8 : Int), (Sp.FQ62 x).2.2)).2.1, (Sp.FQ63 ((IntKind.i64.wrap ((((Sp.FQ63 ((8 : Int), (Sp.FQ62 x).2.2)).2.2.2.2.2.2.2.2.2.2).length : Int) - (1 : Int))), (Sp.FQ63 ((8 : Int), (Sp.FQ62 x).2.2)).2.2)).2.1), []), (0 : Int)))
def FD39 (x : ByteArray × BldT) : (ByteArray × BldT) × ((Int × Int) × (Int × Int) × List ((Int × Bool × Bool × Bool × Bool) × (Int × Bool × Int × Bool) × Int × Nat)) × Int :=
  bif (Sp.FQ62 x).1 then
    ((Sp.FQ62 x).2.2, ((((0 : Int), (0 : Int)), ((0 : Int), (0 : Int)), []), 31))
  else
    bif (Sp.FQ63 ((8 : Int), (Sp.FQ62 x).2.2)).1 then
      ((Sp.FQ63 ((8 : Int), (Sp.FQ62 x).2.2)).2.2, (((Sp.FQ62 x).2.1, ((0 : Int), (0 : Int)), []), 31))
    else
      bif (Sp.FQ63 ((IntKind.i64.wrap ((((Sp.FQ63 ((8 : Int), (Sp.FQ62 x).2.2)).2.2.2.2.2.2.2.2.2.2).length : Int) - (1 : Int))), (Sp.FQ63 ((8 : Int), (Sp.FQ62 x).2.2)).2.2)).1 then
        ((Sp.FQ63 ((IntKind.i64.wrap ((((Sp.FQ63 ((8 : Int), (Sp.FQ62 x).2.2)).2.2.2.2.2.2.2.2.2.2).length : Int) - (1 : Int))), (Sp.FQ63 ((8 : Int), (Sp.FQ62 x).2.2)).2.2)).2.2, (((Sp.FQ62 x).2.1, ((Sp.FQ63 ((8 : Int), (Sp.FQ62 x).2.2)).2.1, (0 : Int)), []), 31))
      else
        bif (Sp.K39_1 x).1 then
          ((Sp.FQ63 ((IntKind.i64.wrap ((((Sp.FQ63 ((8 : Int), (Sp.FQ62 x).2.2)).2.2.2.2.2.2.2.2.2.2).length : Int) - (1 : Int))), (Sp.FQ63 ((8 : Int), (Sp.FQ62 x).2.2)).2.2)).2.2, (((Sp.FQ62 x).2.1, ((Sp.FQ63 ((8 : Int), (Sp.FQ62 x).2.2)).2.1, (Sp.FQ63 ((IntKind.i64.wrap ((((Sp.FQ63 ((8 : Int), (Sp.FQ62 x).2.2)).2.2.2.2.2.2.2.2.2.2).length : Int) - (1 : Int))), (Sp.FQ63 ((8 : Int), (Sp.FQ62 x).2.2)).2.2)).2.1), []), 31))
        else
          Sp.optR (Sp.R39_7 (((Sp.FQ63 ((IntKind.i64.wrap ((((Sp.FQ63 ((8 : Int), (Sp.FQ62 x).2.2)).2.2.2.2.2.2.2.2.2.2).length : Int) - (1 : Int))), (Sp.FQ63 ((8 : Int), (Sp.FQ62 x).2.2)).2.2)).2.2.2.2.2.2.2.2.2.2).length : Int) ((0 : Int), (Sp.FQ63 ((IntKind.i64.wrap ((((Sp.FQ63 ((8 : Int), (Sp.FQ62 x).2.2)).2.2.2.2.2.2.2.2.2.2).length : Int) - (1 : Int))), (Sp.FQ63 ((8 : Int), (Sp.FQ62 x).2.2)).2.2)).2.2, ((Sp.FQ62 x).2.1, ((Sp.FQ63 ((8 : Int), (Sp.FQ62 x).2.2)).2.1, (Sp.FQ63 ((IntKind.i64.wrap ((((Sp.FQ63 ((8 : Int), (Sp.FQ62 x).2.2)).2.2.2.2.2.2.2.2.2.2).length : Int) - (1 : Int))), (Sp.FQ63 ((8 : Int), (Sp.FQ62 x).2.2)).2.2)).2.1), []), (0 : Int))) (fun y => (y.1, (y.2.1, 31)))
          (((Sp.K39_2 x).2.1, ((Sp.K39_2 x).2.2.1, (0 : Int))))
def F39 (x : ByteArray × BldT) : (((Int × Int) × (Int × Int) × List ((Int × Bool × Bool × Bool × Bool) × (Int × Bool × Int × Bool) × Int × Nat)) × Int) × (ByteArray × BldT) := ((FD39 x).2, (FD39 x).1)
def pre39 (x : ByteArray × BldT) : Prop := (x.1.size : Int) = 10 + 19 * (x.2.2.2.2.2.2.2.2.length : Int) ∧ 1 ≤ x.2.2.2.2.2.2.2.2.length ∧ x.2.2.2.2.2.2.2.2.length ≤ 8 ∧ 2 ≤ x.2.1 ∧ x.2.1 ≤ 32
def in48_8 (k : (Int)) (x : (Int × (ByteArray × BldT) × ((Int × Int) × (Int × Int) × Bool × Bool × Int × List (((Int × Int) × Bool) × (Int × Int) × Bool × Int × Int × Bool)) × Int)) : Prop := 0 ≤ x.1 ∧ x.1 ≤ k ∧ k ≤ 8 ∧ (x.2.1.1.size : Int) = 19 * (k - x.1) ∧ 2 ≤ x.2.1.2.1 ∧ x.2.1.2.1 ≤ 32 ∧ (x.2.2.1.2.2.2.2.2.length : Int) = x.1
def mu48_8 (k : (Int)) (x : (Int × (ByteArray × BldT) × ((Int × Int) × (Int × Int) × Bool × Bool × Int × List (((Int × Int) × Bool) × (Int × Int) × Bool × Int × Int × Bool)) × Int)) : Nat := (k - x.1).toNat
def K48_8_1 (k : (Int)) (x : (Int × (ByteArray × BldT) × ((Int × Int) × (Int × Int) × Bool × Bool × Int × List (((Int × Int) × Bool) × (Int × Int) × Bool × Int × Int × Bool)) × Int)) :=
  (x.2.2.1.2.2.2.2.2 ++ [(((Sp.FQ62 x.2.1).2.1, (Sp.nthT ((Sp.FQ66 ((3 : Int), (Sp.FQ62 ((Sp.FQ62 x.2.1).2.2)).2.2)).2.1) (0 : Int))), (Sp.FQ62 ((Sp.FQ62 x.2.1).2.2)).2.1, (Sp.nthT ((Sp.FQ66 ((3 : Int), (Sp.FQ62 ((Sp.FQ62 x.2.1).2.2)).2.2)).2.1) (1 : Int)), (Sp.FQ63 ((5 : Int), (Sp.FQ66 ((3 : Int), (Sp.FQ62 ((Sp.FQ62 x.2.1).2.2)).2.2)).2.2)).2.1, (Sp.FQ63 ((4 : Int), (Sp.FQ63 ((5 : Int), (Sp.FQ66 ((3 : Int), (Sp.FQ62 ((Sp.FQ62 x.2.1).2.2)).2.2)).2.2)).2.2)).2.1, (Sp.nthT ((Sp.FQ66 ((3 : Int), (Sp.FQ62 ((Sp.FQ62 x.2.1).2.2)).2.2)).2.1) (2 : Int)))])
def st48_8 (k : (Int)) (x : (Int × (ByteArray × BldT) × ((Int × Int) × (Int × Int) × Bool × Bool × Int × List (((Int × Int) × Bool) × (Int × Int) × Bool × Int × Int × Bool)) × Int)) : BOut (Int) (Int × (ByteArray × BldT) × ((Int × Int) × (Int × Int) × Bool × Bool × Int × List (((Int × Int) × Bool) × (Int × Int) × Bool × Int × Int × Bool)) × Int) ((ByteArray × BldT) × ((Int × Int) × (Int × Int) × Bool × Bool × Int × List (((Int × Int) × Bool) × (Int × Int) × Bool × Int × Int × Bool)) × Int) :=
  bif (decide (x.1 < k)) then
    (bif (Sp.FQ62 x.2.1).1 then
      BOut.ret ((Sp.FQ62 x.2.1).2.2, (x.2.2.1, x.2.2.2))
    else
      bif (Sp.FQ62 ((Sp.FQ62 x.2.1).2.2)).1 then
        BOut.ret ((Sp.FQ62 ((Sp.FQ62 x.2.1).2.2)).2.2, (x.2.2.1, x.2.2.2))
      else
        bif (Sp.FQ66 ((3 : Int), (Sp.FQ62 ((Sp.FQ62 x.2.1).2.2)).2.2)).1 then
          BOut.ret ((Sp.FQ66 ((3 : Int), (Sp.FQ62 ((Sp.FQ62 x.2.1).2.2)).2.2)).2.2, (x.2.2.1, x.2.2.2))
        else
          bif (Sp.FQ63 ((5 : Int), (Sp.FQ66 ((3 : Int), (Sp.FQ62 ((Sp.FQ62 x.2.1).2.2)).2.2)).2.2)).1 then
            BOut.ret ((Sp.FQ63 ((5 : Int), (Sp.FQ66 ((3 : Int), (Sp.FQ62 ((Sp.FQ62 x.2.1).2.2)).2.2)).2.2)).2.2, (x.2.2.1, x.2.2.2))
          else
            bif (Sp.FQ63 ((4 : Int), (Sp.FQ63 ((5 : Int), (Sp.FQ66 ((3 : Int), (Sp.FQ62 ((Sp.FQ62 x.2.1).2.2)).2.2)).2.2)).2.2)).1 then
              BOut.ret ((Sp.FQ63 ((4 : Int), (Sp.FQ63 ((5 : Int), (Sp.FQ66 ((3 : Int), (Sp.FQ62 ((Sp.FQ62 x.2.1).2.2)).2.2)).2.2)).2.2)).2.2, (x.2.2.1, x.2.2.2))
            else
              BOut.next k ((IntKind.i64.wrap (x.1 + (1 : Int))), (Sp.FQ63 ((4 : Int), (Sp.FQ63 ((5 : Int), (Sp.FQ66 ((3 : Int), (Sp.FQ62 ((Sp.FQ62 x.2.1).2.2)).2.2)).2.2)).2.2)).2.2, (x.2.2.1.1, x.2.2.1.2.1, x.2.2.1.2.2.1, x.2.2.1.2.2.2.1, x.2.2.1.2.2.2.2.1, (Sp.K48_8_1 k x)), x.2.2.2))
  else
    BOut.brk k x
def G48_8 (k : (Int)) (x : (Int × (ByteArray × BldT) × ((Int × Int) × (Int × Int) × Bool × Bool × Int × List (((Int × Int) × Bool) × (Int × Int) × Bool × Int × Int × Bool)) × Int)) : (Int × (ByteArray × BldT) × ((Int × Int) × (Int × Int) × Bool × Bool × Int × List (((Int × Int) × Bool) × (Int × Int) × Bool × Int × Int × Bool)) × Int) := endOf st48_8 k (Nat.succ (mu48_8 k x)) x
def R48_8 (k : (Int)) (x : (Int × (ByteArray × BldT) × ((Int × Int) × (Int × Int) × Bool × Bool × Int × List (((Int × Int) × Bool) × (Int × Int) × Bool × Int × Int × Bool)) × Int)) : Option ((ByteArray × BldT) × ((Int × Int) × (Int × Int) × Bool × Bool × Int × List (((Int × Int) × Bool) × (Int × Int) × Bool × Int × Int × Bool)) × Int) := retOf st48_8 k (Nat.succ (mu48_8 k x)) x
def K48_1 (x : ByteArray × BldT) :=
  (Sp.G48_8 (((Sp.F67 ((2 : Int), (Sp.FQ66 ((2 : Int), (Sp.FQ62 ((Sp.FQ62 x).2.2)).2.2)).2.2)).2.2.2.2.2.2.2.2.2).length : Int) ((0 : Int), (Sp.F67 ((2 : Int), (Sp.FQ66 ((2 : Int), (Sp.FQ62 ((Sp.FQ62 x).2.2)).2.2)).2.2)).2, ((Sp.FQ62 x).2.1, (Sp.FQ62 ((Sp.FQ62 x).2.2)).2.1, (Sp.nthT ((Sp.FQ66 ((2 : Int), (Sp.FQ62 ((Sp.FQ62 x).2.2)).2.2)).2.1) (0 : Int)), (Sp.nthT ((Sp.FQ66 ((2 : Int), (Sp.FQ62 ((Sp.FQ62 x).2.2)).2.2)).2.1) (1 : Int)), (IntKind.i64.wrap ((Sp.F67 ((2 : Int), (Sp.FQ66 ((2 : Int), (Sp.FQ62 ((Sp.FQ62 x).2.2)).2.2)).2.2)).1)), []), (0 : Int)))
def FD48 (x : ByteArray × BldT) : (ByteArray × BldT) × ((Int × Int) × (Int × Int) × Bool × Bool × Int × List (((Int × Int) × Bool) × (Int × Int) × Bool × Int × Int × Bool)) × Int :=
  bif (Sp.FQ62 x).1 then
    ((Sp.FQ62 x).2.2, ((((0 : Int), (0 : Int)), ((0 : Int), (0 : Int)), false, false, (0 : Int), []), 31))
  else
    bif (Sp.FQ62 ((Sp.FQ62 x).2.2)).1 then
      ((Sp.FQ62 ((Sp.FQ62 x).2.2)).2.2, (((Sp.FQ62 x).2.1, ((0 : Int), (0 : Int)), false, false, (0 : Int), []), 31))
    else
      bif (Sp.FQ66 ((2 : Int), (Sp.FQ62 ((Sp.FQ62 x).2.2)).2.2)).1 then
        ((Sp.FQ66 ((2 : Int), (Sp.FQ62 ((Sp.FQ62 x).2.2)).2.2)).2.2, (((Sp.FQ62 x).2.1, (Sp.FQ62 ((Sp.FQ62 x).2.2)).2.1, false, false, (0 : Int), []), 31))
      else
        Sp.optR (Sp.R48_8 (((Sp.F67 ((2 : Int), (Sp.FQ66 ((2 : Int), (Sp.FQ62 ((Sp.FQ62 x).2.2)).2.2)).2.2)).2.2.2.2.2.2.2.2.2).length : Int) ((0 : Int), (Sp.F67 ((2 : Int), (Sp.FQ66 ((2 : Int), (Sp.FQ62 ((Sp.FQ62 x).2.2)).2.2)).2.2)).2, ((Sp.FQ62 x).2.1, (Sp.FQ62 ((Sp.FQ62 x).2.2)).2.1, (Sp.nthT ((Sp.FQ66 ((2 : Int), (Sp.FQ62 ((Sp.FQ62 x).2.2)).2.2)).2.1) (0 : Int)), (Sp.nthT ((Sp.FQ66 ((2 : Int), (Sp.FQ62 ((Sp.FQ62 x).2.2)).2.2)).2.1) (1 : Int)), (IntKind.i64.wrap ((Sp.F67 ((2 : Int), (Sp.FQ66 ((2 : Int), (Sp.FQ62 ((Sp.FQ62 x).2.2)).2.2)).2.2)).1)), []), (0 : Int))) (fun y => (y.1, (y.2.1, 31)))
        (((Sp.K48_1 x).2.1, ((Sp.K48_1 x).2.2.1, (0 : Int))))
def F48 (x : ByteArray × BldT) : (((Int × Int) × (Int × Int) × Bool × Bool × Int × List (((Int × Int) × Bool) × (Int × Int) × Bool × Int × Int × Bool)) × Int) × (ByteArray × BldT) := ((FD48 x).2, (FD48 x).1)
def pre48 (x : ByteArray × BldT) : Prop := (x.1.size : Int) = 19 + 19 * (x.2.2.2.2.2.2.2.2.length : Int) ∧ 1 ≤ x.2.2.2.2.2.2.2.2.length ∧ x.2.2.2.2.2.2.2.2.length ≤ 8 ∧ 2 ≤ x.2.1 ∧ x.2.1 ≤ 32
def in29_1 (k : ((List (Int × Int)) × Int)) (x : (Int × List Int)) : Prop := (0 : Int) ≤ x.1 ∧ k.2 = ((k.1).length : Int) ∧ k.2 = (k.1.length : Int) ∧ k.2 ≤ 2 ∧ (x.2.length : Int) ≤ 900 + 8 * x.1
def mu29_1 (k : ((List (Int × Int)) × Int)) (x : (Int × List Int)) : Nat := (k.2 - x.1).toNat
def st29_1 (k : ((List (Int × Int)) × Int)) (x : (Int × List Int)) : BOut ((List (Int × Int)) × Int) (Int × List Int) (Unit) :=
  bif (decide (x.1 < k.2)) then
    BOut.next k ((IntKind.i64.wrap (x.1 + (1 : Int))), (Sp.FW30 ((IntKind.u64.wrap ((Sp.nthT k.1 x.1).2)), (4 : Int)) (Sp.FW30 ((IntKind.u64.wrap ((Sp.nthT k.1 x.1).1)), (4 : Int)) x.2)))
  else
    BOut.brk k x
def G29_1 (k : ((List (Int × Int)) × Int)) (x : (Int × List Int)) : (Int × List Int) := endOf st29_1 k (Nat.succ (mu29_1 k x)) x
def FW29 (x : List (Int × Int)) (l : List Int) : List Int :=
  (Sp.G29_1 (x, ((x).length : Int)) ((0 : Int), l)).2
def pre29 (x : List (Int × Int)) (l : List Int) : Prop := x.length ≤ 2 ∧ l.length ≤ 900
def in31_2 (k : ((List Bool) × Int)) (x : (Int × Int)) : Prop := (0 : Int) ≤ x.2 ∧ k.2 = ((k.1).length : Int)
def mu31_2 (k : ((List Bool) × Int)) (x : (Int × Int)) : Nat := (k.2 - x.2).toNat
def st31_2 (k : ((List Bool) × Int)) (x : (Int × Int)) : BOut ((List Bool) × Int) (Int × Int) (Unit) :=
  bif (decide (x.2 < k.2)) then
    (bif (Sp.nthT k.1 x.2) then
      BOut.next k ((IntKind.u64.wrap ((BitVec.ofInt IntKind.u64.bits x.1 ||| BitVec.ofInt IntKind.u64.bits (IntKind.u64.wrap ((1 : Int) * 2 ^ (min (x.2).toNat IntKind.u64.bits)))).toNat : Int)), (IntKind.i64.wrap (x.2 + (1 : Int))))
    else
      BOut.next k (x.1, (IntKind.i64.wrap (x.2 + (1 : Int)))))
  else
    BOut.brk k x
def G31_2 (k : ((List Bool) × Int)) (x : (Int × Int)) : (Int × Int) := endOf st31_2 k (Nat.succ (mu31_2 k x)) x
def FW31 (x : List Bool) (l : List Int) : List Int :=
  (Sp.FW30 ((Sp.G31_2 (x, ((x).length : Int)) ((0 : Int), (0 : Int))).1, (1 : Int)) l)
def pre31 (x : List Bool) (l : List Int) : Prop := x.length ≤ 8 ∧ l.length ≤ 900
end Go.Proofs.Ytbnihoioblmgkaa.Sp
namespace Go.Proofs.Ytbnihoioblmgkaa.Sy
open Go Go.RowKit Sp
def LS39_7 : LS (Ty.pair ty117 (Ty.pair ty33 (Ty.int .i64))).den := mkLS ty3 (Ty.pair ty3 (Ty.pair ty117 (Ty.pair ty33 ty37)))  [(40, none)] [] [(41, none)] [(0, 9), (2, 5), (3, 1)] [(14, 100714, true, 71)] [] [(0, 0), (2, 2), (3, 3)] 0 true Sp.in39_7 Sp.st39_7 Sp.mu39_7
set_option maxHeartbeats 4000000 in
theorem so39_7 (k : ty3.den) (x : (Ty.pair ty3 (Ty.pair ty117 (Ty.pair ty33 ty37))).den) (fk : Fit ty3 k) (h : Sp.in39_7 k x) : StepOk true Sp.in39_7 Sp.mu39_7 k x (Sp.st39_7 k x) := by
  try dsimp only [Ty.den] at *
  unfold Sp.in39_7 at h
  unfold Sp.st39_7
  refine StepOk.cnd (fun hc => ?_) (fun _ => rfl)
  rw [decide_eq_true_eq] at hc
  have e : IntKind.i64.wrap (x.1 + 1) = x.1 + 1 := Sp.wrap_i64_of (by omega) (by omega)
  repeat' (refine StepOk.cnd (fun _ => rfl) (fun _ => ?_))
  rw [e]
  refine ⟨rfl, ?_, ?_⟩
  · simp only [Sp.in39_7, Sp.K39_7_1, List.length_append, List.length_cons, List.length_nil, Sp.num_rd, Sp.bits_rd, Sp.calls_rd, Sp.flags_rd, Sp.get_rd, Sp.adv_2, Sp.adv_adv, Sp.adv_size, Sp.pre67, Sp.pre63, Sp.pre65, Sp.pre62, Sp.pre66, List.length_append, List.length_cons, List.length_nil]
    omega
  · simp only [Sp.mu39_7]
    omega
set_option maxHeartbeats 4000000 in
theorem lo39_7 : LoopOk Try.prog gdS (RetD wrongV (Ty.pair ty117 (Ty.pair ty33 (Ty.int .i64))) (ptrD [true] [9] 2 ty33.n 3)) (bodyAt (bodyOf Try.f39) [0]) LS39_7 :=
  loop_runD (ctxOkZ (zkokZmF0 true) pgokPmF2 fvok_none gokGmF2 []) (L := lookL []) (d := BOut.brk (Ty.dflt ty3) (Ty.dflt (Ty.pair ty3 (Ty.pair ty117 (Ty.pair ty33 ty37))))) (loops_of (l := []) (by kernel_rfl) (loops_nil)) (fun k x fk fx h => safe_of (S := ((((decide (x.1 < k)) = true → ((Sp.pre65 x.2.1) ∧ (((Sp.FQ65 x.2.1).1 = true → True) ∧ ((Sp.FQ65 x.2.1).1 = false → (((Sp.pre65 x.2.1) ∧ (Sp.FQ65 x.2.1).1 = false) ∧ ((Sp.pre66 ((6 : Int), (Sp.FQ65 x.2.1).2.2)) ∧ (((Sp.FQ66 ((6 : Int), (Sp.FQ65 x.2.1).2.2)).1 = true → True) ∧ ((Sp.FQ66 ((6 : Int), (Sp.FQ65 x.2.1).2.2)).1 = false → (((Sp.pre66 ((6 : Int), (Sp.FQ65 x.2.1).2.2)) ∧ (Sp.FQ66 ((6 : Int), (Sp.FQ65 x.2.1).2.2)).1 = false) ∧ ((0 ≤ (0 : Int) ∧ (0 : Int) < (((Sp.FQ66 ((6 : Int), (Sp.FQ65 x.2.1).2.2)).2.1).length : Int)) ∧ ((0 ≤ (1 : Int) ∧ (1 : Int) < (((Sp.FQ66 ((6 : Int), (Sp.FQ65 x.2.1).2.2)).2.1).length : Int)) ∧ ((0 ≤ (2 : Int) ∧ (2 : Int) < (((Sp.FQ66 ((6 : Int), (Sp.FQ65 x.2.1).2.2)).2.1).length : Int)) ∧ ((0 ≤ (3 : Int) ∧ (3 : Int) < (((Sp.FQ66 ((6 : Int), (Sp.FQ65 x.2.1).2.2)).2.1).length : Int)) ∧ ((0 ≤ (4 : Int) ∧ (4 : Int) < (((Sp.FQ66 ((6 : Int), (Sp.FQ65 x.2.1).2.2)).2.1).length : Int)) ∧ ((0 ≤ (5 : Int) ∧ (5 : Int) < (((Sp.FQ66 ((6 : Int), (Sp.FQ65 x.2.1).2.2)).2.1).length : Int)) ∧ ((Sp.pre63 ((IntKind.i64.wrap ((Sp.FQ66 ((6 : Int), (Sp.FQ65 x.2.1).2.2)).2.2.2.1 - (1 : Int))), (Sp.FQ66 ((6 : Int), (Sp.FQ65 x.2.1).2.2)).2.2)) ∧ (((Sp.FQ63 ((IntKind.i64.wrap ((Sp.FQ66 ((6 : Int), (Sp.FQ65 x.2.1).2.2)).2.2.2.1 - (1 : Int))), (Sp.FQ66 ((6 : Int), (Sp.FQ65 x.2.1).2.2)).2.2)).1 = true → True) ∧ ((Sp.FQ63 ((IntKind.i64.wrap ((Sp.FQ66 ((6 : Int), (Sp.FQ65 x.2.1).2.2)).2.2.2.1 - (1 : Int))), (Sp.FQ66 ((6 : Int), (Sp.FQ65 x.2.1).2.2)).2.2)).1 = false → (((Sp.pre63 ((IntKind.i64.wrap ((Sp.FQ66 ((6 : Int), (Sp.FQ65 x.2.1).2.2)).2.2.2.1 - (1 : Int))), (Sp.FQ66 ((6 : Int), (Sp.FQ65 x.2.1).2.2)).2.2)) ∧ (Sp.FQ63 ((IntKind.i64.wrap ((Sp.FQ66 ((6 : Int), (Sp.FQ65 x.2.1).2.2)).2.2.2.1 - (1 : Int))), (Sp.FQ66 ((6 : Int), (Sp.FQ65 x.2.1).2.2)).2.2)).1 = false) ∧ ((Sp.pre63 ((2 : Int), (Sp.FQ63 ((IntKind.i64.wrap ((Sp.FQ66 ((6 : Int), (Sp.FQ65 x.2.1).2.2)).2.2.2.1 - (1 : Int))), (Sp.FQ66 ((6 : Int), (Sp.FQ65 x.2.1).2.2)).2.2)).2.2)) ∧ (((Sp.FQ63 ((2 : Int), (Sp.FQ63 ((IntKind.i64.wrap ((Sp.FQ66 ((6 : Int), (Sp.FQ65 x.2.1).2.2)).2.2.2.1 - (1 : Int))), (Sp.FQ66 ((6 : Int), (Sp.FQ65 x.2.1).2.2)).2.2)).2.2)).1 = true → True) ∧ ((Sp.FQ63 ((2 : Int), (Sp.FQ63 ((IntKind.i64.wrap ((Sp.FQ66 ((6 : Int), (Sp.FQ65 x.2.1).2.2)).2.2.2.1 - (1 : Int))), (Sp.FQ66 ((6 : Int), (Sp.FQ65 x.2.1).2.2)).2.2)).2.2)).1 = false → (((Sp.pre63 ((2 : Int), (Sp.FQ63 ((IntKind.i64.wrap ((Sp.FQ66 ((6 : Int), (Sp.FQ65 x.2.1).2.2)).2.2.2.1 - (1 : Int))), (Sp.FQ66 ((6 : Int), (Sp.FQ65 x.2.1).2.2)).2.2)).2.2)) ∧ (Sp.FQ63 ((2 : Int), (Sp.FQ63 ((IntKind.i64.wrap ((Sp.FQ66 ((6 : Int), (Sp.FQ65 x.2.1).2.2)).2.2.2.1 - (1 : Int))), (Sp.FQ66 ((6 : Int), (Sp.FQ65 x.2.1).2.2)).2.2)).2.2)).1 = false) ∧ ((Sp.pre65 ((Sp.FQ63 ((2 : Int), (Sp.FQ63 ((IntKind.i64.wrap ((Sp.FQ66 ((6 : Int), (Sp.FQ65 x.2.1).2.2)).2.2.2.1 - (1 : Int))), (Sp.FQ66 ((6 : Int), (Sp.FQ65 x.2.1).2.2)).2.2)).2.2)).2.2)) ∧ (((Sp.FQ65 ((Sp.FQ63 ((2 : Int), (Sp.FQ63 ((IntKind.i64.wrap ((Sp.FQ66 ((6 : Int), (Sp.FQ65 x.2.1).2.2)).2.2.2.1 - (1 : Int))), (Sp.FQ66 ((6 : Int), (Sp.FQ65 x.2.1).2.2)).2.2)).2.2)).2.2)).1 = true → True) ∧ ((Sp.FQ65 ((Sp.FQ63 ((2 : Int), (Sp.FQ63 ((IntKind.i64.wrap ((Sp.FQ66 ((6 : Int), (Sp.FQ65 x.2.1).2.2)).2.2.2.1 - (1 : Int))), (Sp.FQ66 ((6 : Int), (Sp.FQ65 x.2.1).2.2)).2.2)).2.2)).2.2)).1 = false → (((Sp.pre65 ((Sp.FQ63 ((2 : Int), (Sp.FQ63 ((IntKind.i64.wrap ((Sp.FQ66 ((6 : Int), (Sp.FQ65 x.2.1).2.2)).2.2.2.1 - (1 : Int))), (Sp.FQ66 ((6 : Int), (Sp.FQ65 x.2.1).2.2)).2.2)).2.2)).2.2)) ∧ (Sp.FQ65 ((Sp.FQ63 ((2 : Int), (Sp.FQ63 ((IntKind.i64.wrap ((Sp.FQ66 ((6 : Int), (Sp.FQ65 x.2.1).2.2)).2.2.2.1 - (1 : Int))), (Sp.FQ66 ((6 : Int), (Sp.FQ65 x.2.1).2.2)).2.2)).2.2)).2.2)).1 = false) ∧ ((Sp.pre67 ((8 : Int), (Sp.FQ65 ((Sp.FQ63 ((2 : Int), (Sp.FQ63 ((IntKind.i64.wrap ((Sp.FQ66 ((6 : Int), (Sp.FQ65 x.2.1).2.2)).2.2.2.1 - (1 : Int))), (Sp.FQ66 ((6 : Int), (Sp.FQ65 x.2.1).2.2)).2.2)).2.2)).2.2)).2.2)) ∧ (((List.length (x.2.2.1.2.2 : List ((Int × Bool × Bool × Bool × Bool) × (Int × Bool × Int × Bool) × Int × Nat)) + List.length ([(((Sp.FQ65 x.2.1).2.1, (Sp.nthT ((Sp.FQ66 ((6 : Int), (Sp.FQ65 x.2.1).2.2)).2.1) (0 : Int)), (Sp.nthT ((Sp.FQ66 ((6 : Int), (Sp.FQ65 x.2.1).2.2)).2.1) (1 : Int)), (Sp.nthT ((Sp.FQ66 ((6 : Int), (Sp.FQ65 x.2.1).2.2)).2.1) (2 : Int)), (Sp.nthT ((Sp.FQ66 ((6 : Int), (Sp.FQ65 x.2.1).2.2)).2.1) (3 : Int))), ((Sp.FQ63 ((IntKind.i64.wrap ((Sp.FQ66 ((6 : Int), (Sp.FQ65 x.2.1).2.2)).2.2.2.1 - (1 : Int))), (Sp.FQ66 ((6 : Int), (Sp.FQ65 x.2.1).2.2)).2.2)).2.1, (Sp.nthT ((Sp.FQ66 ((6 : Int), (Sp.FQ65 x.2.1).2.2)).2.1) (4 : Int)), (Sp.FQ63 ((2 : Int), (Sp.FQ63 ((IntKind.i64.wrap ((Sp.FQ66 ((6 : Int), (Sp.FQ65 x.2.1).2.2)).2.2.2.1 - (1 : Int))), (Sp.FQ66 ((6 : Int), (Sp.FQ65 x.2.1).2.2)).2.2)).2.2)).2.1, (Sp.nthT ((Sp.FQ66 ((6 : Int), (Sp.FQ65 x.2.1).2.2)).2.1) (5 : Int))), (Sp.FQ65 ((Sp.FQ63 ((2 : Int), (Sp.FQ63 ((IntKind.i64.wrap ((Sp.FQ66 ((6 : Int), (Sp.FQ65 x.2.1).2.2)).2.2.2.1 - (1 : Int))), (Sp.FQ66 ((6 : Int), (Sp.FQ65 x.2.1).2.2)).2.2)).2.2)).2.2)).2.1, (Int.toNat ((Sp.F67 ((8 : Int), (Sp.FQ65 ((Sp.FQ63 ((2 : Int), (Sp.FQ63 ((IntKind.i64.wrap ((Sp.FQ66 ((6 : Int), (Sp.FQ65 x.2.1).2.2)).2.2.2.1 - (1 : Int))), (Sp.FQ66 ((6 : Int), (Sp.FQ65 x.2.1).2.2)).2.2)).2.2)).2.2)).2.2)).1)))] : List ((Int × Bool × Bool × Bool × Bool) × (Int × Bool × Int × Bool) × Int × Nat))) * 56 ≤ 140737488355328 ∧ List.length (x.2.2.1.2.2 : List ((Int × Bool × Bool × Bool × Bool) × (Int × Bool × Int × Bool) × Int × Nat)) + List.length ([(((Sp.FQ65 x.2.1).2.1, (Sp.nthT ((Sp.FQ66 ((6 : Int), (Sp.FQ65 x.2.1).2.2)).2.1) (0 : Int)), (Sp.nthT ((Sp.FQ66 ((6 : Int), (Sp.FQ65 x.2.1).2.2)).2.1) (1 : Int)), (Sp.nthT ((Sp.FQ66 ((6 : Int), (Sp.FQ65 x.2.1).2.2)).2.1) (2 : Int)), (Sp.nthT ((Sp.FQ66 ((6 : Int), (Sp.FQ65 x.2.1).2.2)).2.1) (3 : Int))), ((Sp.FQ63 ((IntKind.i64.wrap ((Sp.FQ66 ((6 : Int), (Sp.FQ65 x.2.1).2.2)).2.2.2.1 - (1 : Int))), (Sp.FQ66 ((6 : Int), (Sp.FQ65 x.2.1).2.2)).2.2)).2.1, (Sp.nthT ((Sp.FQ66 ((6 : Int), (Sp.FQ65 x.2.1).2.2)).2.1) (4 : Int)), (Sp.FQ63 ((2 : Int), (Sp.FQ63 ((IntKind.i64.wrap ((Sp.FQ66 ((6 : Int), (Sp.FQ65 x.2.1).2.2)).2.2.2.1 - (1 : Int))), (Sp.FQ66 ((6 : Int), (Sp.FQ65 x.2.1).2.2)).2.2)).2.2)).2.1, (Sp.nthT ((Sp.FQ66 ((6 : Int), (Sp.FQ65 x.2.1).2.2)).2.1) (5 : Int))), (Sp.FQ65 ((Sp.FQ63 ((2 : Int), (Sp.FQ63 ((IntKind.i64.wrap ((Sp.FQ66 ((6 : Int), (Sp.FQ65 x.2.1).2.2)).2.2.2.1 - (1 : Int))), (Sp.FQ66 ((6 : Int), (Sp.FQ65 x.2.1).2.2)).2.2)).2.2)).2.2)).2.1, (Int.toNat ((Sp.F67 ((8 : Int), (Sp.FQ65 ((Sp.FQ63 ((2 : Int), (Sp.FQ63 ((IntKind.i64.wrap ((Sp.FQ66 ((6 : Int), (Sp.FQ65 x.2.1).2.2)).2.2.2.1 - (1 : Int))), (Sp.FQ66 ((6 : Int), (Sp.FQ65 x.2.1).2.2)).2.2)).2.2)).2.2)).2.2)).1)))] : List ((Int × Bool × Bool × Bool × Bool) × (Int × Bool × Int × Bool) × Int × Nat)) ≤ 4611686018427387903) ∧ True))))))))))))))))))))))))))))) ∧ ((decide (x.1 < k)) = false → True)))) (by kernel_rfl) (by
  try dsimp only [Ty.den] at *
  simp only [Sp.in39_7] at h
  simp only [List.length_append, List.length_cons, List.length_nil, Sp.num_rd, Sp.bits_rd, Sp.calls_rd, Sp.flags_rd, Sp.get_rd, Sp.adv_2, Sp.adv_adv, Sp.adv_size, Sp.pre67, Sp.pre63, Sp.pre65, Sp.pre62, Sp.pre66, decide_eq_true_eq, decide_eq_false_iff_not] at *
  (repeat' (first | exact trivial | apply And.intro | intro _)) <;> first | trivial | assumption | omega | (rw [Sp.flags_len (by assumption)]; omega))) (fun k x => by kernel_rfl) so39_7
def cp39 : Cp := { p := ty117, psh := [], mask := [true], sz := [9], ro := false, ex := false, q := ty117, r := (Ty.pair ty33 ty37), rsh := (Rsh.tup [some 5, none]), pre := some Sp.pre39, F := Sp.F39 }
theorem va39 (x : ty117.den) : ((evFnD (ctxZ (ZmF0 true) PmF2 none GmF2 []) Try.f39 ty117 [] [true] [9] false ty117 ty33 2 3 31 wrongV (lookL [(7, LS39_7)]) x)).val (fixD 31) (Ty.dflt (Ty.pair ty117 (Ty.pair ty33 (Ty.int .i64)))) = Sp.FD39 x := by kernel_rfl
theorem sa39 (x : ty117.den) (fx : Fit ty117 x) (h : Sp.pre39 x) : SafeW ((evFnD (ctxZ (ZmF0 true) PmF2 none GmF2 []) Try.f39 ty117 [] [true] [9] false ty117 ty33 2 3 31 wrongV (lookL [(7, LS39_7)]) x)) := safe_of (S := (((Sp.pre62 x) ∧ (((Sp.FQ62 x).1 = true → True) ∧ ((Sp.FQ62 x).1 = false → (((Sp.pre62 x) ∧ (Sp.FQ62 x).1 = false) ∧ ((Sp.pre63 ((8 : Int), (Sp.FQ62 x).2.2)) ∧ (((Sp.FQ63 ((8 : Int), (Sp.FQ62 x).2.2)).1 = true → True) ∧ ((Sp.FQ63 ((8 : Int), (Sp.FQ62 x).2.2)).1 = false → (((Sp.pre63 ((8 : Int), (Sp.FQ62 x).2.2)) ∧ (Sp.FQ63 ((8 : Int), (Sp.FQ62 x).2.2)).1 = false) ∧ ((Sp.pre63 ((IntKind.i64.wrap ((((Sp.FQ63 ((8 : Int), (Sp.FQ62 x).2.2)).2.2.2.2.2.2.2.2.2.2).length : Int) - (1 : Int))), (Sp.FQ63 ((8 : Int), (Sp.FQ62 x).2.2)).2.2)) ∧ (((Sp.FQ63 ((IntKind.i64.wrap ((((Sp.FQ63 ((8 : Int), (Sp.FQ62 x).2.2)).2.2.2.2.2.2.2.2.2.2).length : Int) - (1 : Int))), (Sp.FQ63 ((8 : Int), (Sp.FQ62 x).2.2)).2.2)).1 = true → True) ∧ ((Sp.FQ63 ((IntKind.i64.wrap ((((Sp.FQ63 ((8 : Int), (Sp.FQ62 x).2.2)).2.2.2.2.2.2.2.2.2.2).length : Int) - (1 : Int))), (Sp.FQ63 ((8 : Int), (Sp.FQ62 x).2.2)).2.2)).1 = false → (((Sp.pre63 ((IntKind.i64.wrap ((((Sp.FQ63 ((8 : Int), (Sp.FQ62 x).2.2)).2.2.2.2.2.2.2.2.2.2).length : Int) - (1 : Int))), (Sp.FQ63 ((8 : Int), (Sp.FQ62 x).2.2)).2.2)) ∧ (Sp.FQ63 ((IntKind.i64.wrap ((((Sp.FQ63 ((8 : Int), (Sp.FQ62 x).2.2)).2.2.2.2.2.2.2.2.2.2).length : Int) - (1 : Int))), (Sp.FQ63 ((8 : Int), (Sp.FQ62 x).2.2)).2.2)).1 = false) ∧ (((Sp.K39_1 x).1 = true → True) ∧ ((Sp.K39_1 x).1 = false → (((Sp.K39_1 x).1 = false) ∧ ((Sp.in39_7 (((Sp.FQ63 ((IntKind.i64.wrap ((((Sp.FQ63 ((8 : Int), (Sp.FQ62 x).2.2)).2.2.2.2.2.2.2.2.2.2).length : Int) - (1 : Int))), (Sp.FQ63 ((8 : Int), (Sp.FQ62 x).2.2)).2.2)).2.2.2.2.2.2.2.2.2.2).length : Int) ((0 : Int), (Sp.FQ63 ((IntKind.i64.wrap ((((Sp.FQ63 ((8 : Int), (Sp.FQ62 x).2.2)).2.2.2.2.2.2.2.2.2.2).length : Int) - (1 : Int))), (Sp.FQ63 ((8 : Int), (Sp.FQ62 x).2.2)).2.2)).2.2, ((Sp.FQ62 x).2.1, ((Sp.FQ63 ((8 : Int), (Sp.FQ62 x).2.2)).2.1, (Sp.FQ63 ((IntKind.i64.wrap ((((Sp.FQ63 ((8 : Int), (Sp.FQ62 x).2.2)).2.2.2.2.2.2.2.2.2.2).length : Int) - (1 : Int))), (Sp.FQ63 ((8 : Int), (Sp.FQ62 x).2.2)).2.2)).2.1), []), (0 : Int))) ∧ ((Sp.R39_7 (((Sp.FQ63 ((IntKind.i64.wrap ((((Sp.FQ63 ((8 : Int), (Sp.FQ62 x).2.2)).2.2.2.2.2.2.2.2.2.2).length : Int) - (1 : Int))), (Sp.FQ63 ((8 : Int), (Sp.FQ62 x).2.2)).2.2)).2.2.2.2.2.2.2.2.2.2).length : Int) ((0 : Int), (Sp.FQ63 ((IntKind.i64.wrap ((((Sp.FQ63 ((8 : Int), (Sp.FQ62 x).2.2)).2.2.2.2.2.2.2.2.2.2).length : Int) - (1 : Int))), (Sp.FQ63 ((8 : Int), (Sp.FQ62 x).2.2)).2.2)).2.2, ((Sp.FQ62 x).2.1, ((Sp.FQ63 ((8 : Int), (Sp.FQ62 x).2.2)).2.1, (Sp.FQ63 ((IntKind.i64.wrap ((((Sp.FQ63 ((8 : Int), (Sp.FQ62 x).2.2)).2.2.2.2.2.2.2.2.2.2).length : Int) - (1 : Int))), (Sp.FQ63 ((8 : Int), (Sp.FQ62 x).2.2)).2.2)).2.1), []), (0 : Int))) = none → True))))))))))))))))))) (by kernel_rfl) (by
  try dsimp only [Ty.den] at *
  simp only [Sp.pre39] at h
  simp only [List.length_append, List.length_cons, List.length_nil, Sp.num_rd, Sp.bits_rd, Sp.calls_rd, Sp.flags_rd, Sp.get_rd, Sp.adv_2, Sp.adv_adv, Sp.adv_size, Sp.pre67, Sp.pre63, Sp.pre65, Sp.pre62, Sp.pre66, Sp.in39_7] at *
  (repeat' (first | exact trivial | apply And.intro | intro _)) <;> first | trivial | assumption | omega | (rw [Sp.flags_len (by assumption)]; omega) | (simp; omega))
theorem ok39 : CpOk Try.prog gdS 39 cp39 :=
  fn_okDU (ctxOkZ (zkokZmF0 true) pgokPmF2 fvok_none gokGmF2 []) rfl Try.func39 (g := 61) (p := ty117) (q := ty117) (A := ty33) (psh := []) (mask := [true]) (sz := [9]) (ex := false) (pre := (some Sp.pre39)) (tx := 2) (te := 3) (TX := 33) (TE := 37) (dX := td33) (dE := td37) (n := 31) (pv := wrongV) (L := (lookL [(7, LS39_7)])) (dflt := (Ty.dflt (Ty.pair ty117 (Ty.pair ty33 (Ty.int .i64))))) (FD := Sp.FD39)
    rfl rfl rfl rfl rfl rfl catchOk to33 rfl rfl to37 rfl (by kernel_rfl) (by kernel_rfl) (loops_of (l := [bodyAt (bodyOf Try.f39) [0]]) (by kernel_rfl) (loops_cons (s0 := LS39_7) (by kernel_rfl) lo39_7 (loops_nil)))
    (safe_preP rfl @sa39) va39
def LS48_8 : LS (Ty.pair ty117 (Ty.pair ty52 (Ty.int .i64))).den := mkLS ty3 (Ty.pair ty3 (Ty.pair ty117 (Ty.pair ty52 ty37)))  [(32, none)] [] [(33, none)] [(0, 9), (2, 8), (3, 1)] [(17, 100817, true, 95)] [] [(0, 0), (2, 2), (3, 3)] 0 true Sp.in48_8 Sp.st48_8 Sp.mu48_8
set_option maxHeartbeats 4000000 in
theorem so48_8 (k : ty3.den) (x : (Ty.pair ty3 (Ty.pair ty117 (Ty.pair ty52 ty37))).den) (fk : Fit ty3 k) (h : Sp.in48_8 k x) : StepOk true Sp.in48_8 Sp.mu48_8 k x (Sp.st48_8 k x) := by
  try dsimp only [Ty.den] at *
  unfold Sp.in48_8 at h
  unfold Sp.st48_8
  refine StepOk.cnd (fun hc => ?_) (fun _ => rfl)
  rw [decide_eq_true_eq] at hc
  have e : IntKind.i64.wrap (x.1 + 1) = x.1 + 1 := Sp.wrap_i64_of (by omega) (by omega)
  repeat' (refine StepOk.cnd (fun _ => rfl) (fun _ => ?_))
  rw [e]
  refine ⟨rfl, ?_, ?_⟩
  · simp only [Sp.in48_8, Sp.K48_8_1, List.length_append, List.length_cons, List.length_nil, Sp.num_rd, Sp.bits_rd, Sp.calls_rd, Sp.flags_rd, Sp.get_rd, Sp.adv_2, Sp.adv_adv, Sp.adv_size, Sp.pre67, Sp.pre63, Sp.pre65, Sp.pre62, Sp.pre66, List.length_append, List.length_cons, List.length_nil]
    omega
  · simp only [Sp.mu48_8]
    omega
set_option maxHeartbeats 4000000 in
theorem lo48_8 : LoopOk Try.prog gdS (RetD wrongV (Ty.pair ty117 (Ty.pair ty52 (Ty.int .i64))) (ptrD [true] [9] 2 ty52.n 3)) (bodyAt (bodyOf Try.f48) [0]) LS48_8 :=
  loop_runD (ctxOkZ (zkokZmF0 true) pgokPmF2 fvok_none gokGmF2 []) (L := lookL []) (d := BOut.brk (Ty.dflt ty3) (Ty.dflt (Ty.pair ty3 (Ty.pair ty117 (Ty.pair ty52 ty37))))) (loops_of (l := []) (by kernel_rfl) (loops_nil)) (fun k x fk fx h => safe_of (S := ((((decide (x.1 < k)) = true → ((Sp.pre62 x.2.1) ∧ (((Sp.FQ62 x.2.1).1 = true → True) ∧ ((Sp.FQ62 x.2.1).1 = false → (((Sp.pre62 x.2.1) ∧ (Sp.FQ62 x.2.1).1 = false) ∧ ((Sp.pre62 ((Sp.FQ62 x.2.1).2.2)) ∧ (((Sp.FQ62 ((Sp.FQ62 x.2.1).2.2)).1 = true → True) ∧ ((Sp.FQ62 ((Sp.FQ62 x.2.1).2.2)).1 = false → (((Sp.pre62 ((Sp.FQ62 x.2.1).2.2)) ∧ (Sp.FQ62 ((Sp.FQ62 x.2.1).2.2)).1 = false) ∧ ((Sp.pre66 ((3 : Int), (Sp.FQ62 ((Sp.FQ62 x.2.1).2.2)).2.2)) ∧ (((Sp.FQ66 ((3 : Int), (Sp.FQ62 ((Sp.FQ62 x.2.1).2.2)).2.2)).1 = true → True) ∧ ((Sp.FQ66 ((3 : Int), (Sp.FQ62 ((Sp.FQ62 x.2.1).2.2)).2.2)).1 = false → (((Sp.pre66 ((3 : Int), (Sp.FQ62 ((Sp.FQ62 x.2.1).2.2)).2.2)) ∧ (Sp.FQ66 ((3 : Int), (Sp.FQ62 ((Sp.FQ62 x.2.1).2.2)).2.2)).1 = false) ∧ ((0 ≤ (0 : Int) ∧ (0 : Int) < (((Sp.FQ66 ((3 : Int), (Sp.FQ62 ((Sp.FQ62 x.2.1).2.2)).2.2)).2.1).length : Int)) ∧ ((0 ≤ (1 : Int) ∧ (1 : Int) < (((Sp.FQ66 ((3 : Int), (Sp.FQ62 ((Sp.FQ62 x.2.1).2.2)).2.2)).2.1).length : Int)) ∧ ((0 ≤ (2 : Int) ∧ (2 : Int) < (((Sp.FQ66 ((3 : Int), (Sp.FQ62 ((Sp.FQ62 x.2.1).2.2)).2.2)).2.1).length : Int)) ∧ ((Sp.pre63 ((5 : Int), (Sp.FQ66 ((3 : Int), (Sp.FQ62 ((Sp.FQ62 x.2.1).2.2)).2.2)).2.2)) ∧ (((Sp.FQ63 ((5 : Int), (Sp.FQ66 ((3 : Int), (Sp.FQ62 ((Sp.FQ62 x.2.1).2.2)).2.2)).2.2)).1 = true → True) ∧ ((Sp.FQ63 ((5 : Int), (Sp.FQ66 ((3 : Int), (Sp.FQ62 ((Sp.FQ62 x.2.1).2.2)).2.2)).2.2)).1 = false → (((Sp.pre63 ((5 : Int), (Sp.FQ66 ((3 : Int), (Sp.FQ62 ((Sp.FQ62 x.2.1).2.2)).2.2)).2.2)) ∧ (Sp.FQ63 ((5 : Int), (Sp.FQ66 ((3 : Int), (Sp.FQ62 ((Sp.FQ62 x.2.1).2.2)).2.2)).2.2)).1 = false) ∧ ((Sp.pre63 ((4 : Int), (Sp.FQ63 ((5 : Int), (Sp.FQ66 ((3 : Int), (Sp.FQ62 ((Sp.FQ62 x.2.1).2.2)).2.2)).2.2)).2.2)) ∧ (((Sp.FQ63 ((4 : Int), (Sp.FQ63 ((5 : Int), (Sp.FQ66 ((3 : Int), (Sp.FQ62 ((Sp.FQ62 x.2.1).2.2)).2.2)).2.2)).2.2)).1 = true → True) ∧ ((Sp.FQ63 ((4 : Int), (Sp.FQ63 ((5 : Int), (Sp.FQ66 ((3 : Int), (Sp.FQ62 ((Sp.FQ62 x.2.1).2.2)).2.2)).2.2)).2.2)).1 = false → (((Sp.pre63 ((4 : Int), (Sp.FQ63 ((5 : Int), (Sp.FQ66 ((3 : Int), (Sp.FQ62 ((Sp.FQ62 x.2.1).2.2)).2.2)).2.2)).2.2)) ∧ (Sp.FQ63 ((4 : Int), (Sp.FQ63 ((5 : Int), (Sp.FQ66 ((3 : Int), (Sp.FQ62 ((Sp.FQ62 x.2.1).2.2)).2.2)).2.2)).2.2)).1 = false) ∧ (((List.length (x.2.2.1.2.2.2.2.2 : List (((Int × Int) × Bool) × (Int × Int) × Bool × Int × Int × Bool)) + List.length ([(((Sp.FQ62 x.2.1).2.1, (Sp.nthT ((Sp.FQ66 ((3 : Int), (Sp.FQ62 ((Sp.FQ62 x.2.1).2.2)).2.2)).2.1) (0 : Int))), (Sp.FQ62 ((Sp.FQ62 x.2.1).2.2)).2.1, (Sp.nthT ((Sp.FQ66 ((3 : Int), (Sp.FQ62 ((Sp.FQ62 x.2.1).2.2)).2.2)).2.1) (1 : Int)), (Sp.FQ63 ((5 : Int), (Sp.FQ66 ((3 : Int), (Sp.FQ62 ((Sp.FQ62 x.2.1).2.2)).2.2)).2.2)).2.1, (Sp.FQ63 ((4 : Int), (Sp.FQ63 ((5 : Int), (Sp.FQ66 ((3 : Int), (Sp.FQ62 ((Sp.FQ62 x.2.1).2.2)).2.2)).2.2)).2.2)).2.1, (Sp.nthT ((Sp.FQ66 ((3 : Int), (Sp.FQ62 ((Sp.FQ62 x.2.1).2.2)).2.2)).2.1) (2 : Int)))] : List (((Int × Int) × Bool) × (Int × Int) × Bool × Int × Int × Bool))) * 48 ≤ 140737488355328 ∧ List.length (x.2.2.1.2.2.2.2.2 : List (((Int × Int) × Bool) × (Int × Int) × Bool × Int × Int × Bool)) + List.length ([(((Sp.FQ62 x.2.1).2.1, (Sp.nthT ((Sp.FQ66 ((3 : Int), (Sp.FQ62 ((Sp.FQ62 x.2.1).2.2)).2.2)).2.1) (0 : Int))), (Sp.FQ62 ((Sp.FQ62 x.2.1).2.2)).2.1, (Sp.nthT ((Sp.FQ66 ((3 : Int), (Sp.FQ62 ((Sp.FQ62 x.2.1).2.2)).2.2)).2.1) (1 : Int)), (Sp.FQ63 ((5 : Int), (Sp.FQ66 ((3 : Int), (Sp.FQ62 ((Sp.FQ62 x.2.1).2.2)).2.2)).2.2)).2.1, (Sp.FQ63 ((4 : Int), (Sp.FQ63 ((5 : Int), (Sp.FQ66 ((3 : Int), (Sp.FQ62 ((Sp.FQ62 x.2.1).2.2)).2.2)).2.2)).2.2)).2.1, (Sp.nthT ((Sp.FQ66 ((3 : Int), (Sp.FQ62 ((Sp.FQ62 x.2.1).2.2)).2.2)).2.1) (2 : Int)))] : List (((Int × Int) × Bool) × (Int × Int) × Bool × Int × Int × Bool)) ≤ 4611686018427387903) ∧ True))))))))))))))))))))))))) ∧ ((decide (x.1 < k)) = false → True)))) (by kernel_rfl) (by
  try dsimp only [Ty.den] at *
  simp only [Sp.in48_8] at h
  simp only [List.length_append, List.length_cons, List.length_nil, Sp.num_rd, Sp.bits_rd, Sp.calls_rd, Sp.flags_rd, Sp.get_rd, Sp.adv_2, Sp.adv_adv, Sp.adv_size, Sp.pre67, Sp.pre63, Sp.pre65, Sp.pre62, Sp.pre66, decide_eq_true_eq, decide_eq_false_iff_not] at *
  (repeat' (first | exact trivial | apply And.intro | intro _)) <;> first | trivial | assumption | omega | (rw [Sp.flags_len (by assumption)]; omega))) (fun k x => by kernel_rfl) so48_8
def cp48 : Cp := { p := ty117, psh := [], mask := [true], sz := [9], ro := false, ex := false, q := ty117, r := (Ty.pair ty52 ty37), rsh := (Rsh.tup [some 8, none]), pre := some Sp.pre48, F := Sp.F48 }
theorem va48 (x : ty117.den) : ((evFnD (ctxZ (ZmF0 true) PmF2 none GmF2 []) Try.f48 ty117 [] [true] [9] false ty117 ty52 2 3 31 wrongV (lookL [(8, LS48_8)]) x)).val (fixD 31) (Ty.dflt (Ty.pair ty117 (Ty.pair ty52 (Ty.int .i64)))) = Sp.FD48 x := by kernel_rfl
theorem sa48 (x : ty117.den) (fx : Fit ty117 x) (h : Sp.pre48 x) : SafeW ((evFnD (ctxZ (ZmF0 true) PmF2 none GmF2 []) Try.f48 ty117 [] [true] [9] false ty117 ty52 2 3 31 wrongV (lookL [(8, LS48_8)]) x)) := safe_of (S := (((Sp.pre62 x) ∧ (((Sp.FQ62 x).1 = true → True) ∧ ((Sp.FQ62 x).1 = false → (((Sp.pre62 x) ∧ (Sp.FQ62 x).1 = false) ∧ ((Sp.pre62 ((Sp.FQ62 x).2.2)) ∧ (((Sp.FQ62 ((Sp.FQ62 x).2.2)).1 = true → True) ∧ ((Sp.FQ62 ((Sp.FQ62 x).2.2)).1 = false → (((Sp.pre62 ((Sp.FQ62 x).2.2)) ∧ (Sp.FQ62 ((Sp.FQ62 x).2.2)).1 = false) ∧ ((Sp.pre66 ((2 : Int), (Sp.FQ62 ((Sp.FQ62 x).2.2)).2.2)) ∧ (((Sp.FQ66 ((2 : Int), (Sp.FQ62 ((Sp.FQ62 x).2.2)).2.2)).1 = true → True) ∧ ((Sp.FQ66 ((2 : Int), (Sp.FQ62 ((Sp.FQ62 x).2.2)).2.2)).1 = false → (((Sp.pre66 ((2 : Int), (Sp.FQ62 ((Sp.FQ62 x).2.2)).2.2)) ∧ (Sp.FQ66 ((2 : Int), (Sp.FQ62 ((Sp.FQ62 x).2.2)).2.2)).1 = false) ∧ ((0 ≤ (0 : Int) ∧ (0 : Int) < (((Sp.FQ66 ((2 : Int), (Sp.FQ62 ((Sp.FQ62 x).2.2)).2.2)).2.1).length : Int)) ∧ ((0 ≤ (1 : Int) ∧ (1 : Int) < (((Sp.FQ66 ((2 : Int), (Sp.FQ62 ((Sp.FQ62 x).2.2)).2.2)).2.1).length : Int)) ∧ ((Sp.pre67 ((2 : Int), (Sp.FQ66 ((2 : Int), (Sp.FQ62 ((Sp.FQ62 x).2.2)).2.2)).2.2)) ∧ ((Sp.in48_8 (((Sp.F67 ((2 : Int), (Sp.FQ66 ((2 : Int), (Sp.FQ62 ((Sp.FQ62 x).2.2)).2.2)).2.2)).2.2.2.2.2.2.2.2.2).length : Int) ((0 : Int), (Sp.F67 ((2 : Int), (Sp.FQ66 ((2 : Int), (Sp.FQ62 ((Sp.FQ62 x).2.2)).2.2)).2.2)).2, ((Sp.FQ62 x).2.1, (Sp.FQ62 ((Sp.FQ62 x).2.2)).2.1, (Sp.nthT ((Sp.FQ66 ((2 : Int), (Sp.FQ62 ((Sp.FQ62 x).2.2)).2.2)).2.1) (0 : Int)), (Sp.nthT ((Sp.FQ66 ((2 : Int), (Sp.FQ62 ((Sp.FQ62 x).2.2)).2.2)).2.1) (1 : Int)), (IntKind.i64.wrap ((Sp.F67 ((2 : Int), (Sp.FQ66 ((2 : Int), (Sp.FQ62 ((Sp.FQ62 x).2.2)).2.2)).2.2)).1)), []), (0 : Int))) ∧ ((Sp.R48_8 (((Sp.F67 ((2 : Int), (Sp.FQ66 ((2 : Int), (Sp.FQ62 ((Sp.FQ62 x).2.2)).2.2)).2.2)).2.2.2.2.2.2.2.2.2).length : Int) ((0 : Int), (Sp.F67 ((2 : Int), (Sp.FQ66 ((2 : Int), (Sp.FQ62 ((Sp.FQ62 x).2.2)).2.2)).2.2)).2, ((Sp.FQ62 x).2.1, (Sp.FQ62 ((Sp.FQ62 x).2.2)).2.1, (Sp.nthT ((Sp.FQ66 ((2 : Int), (Sp.FQ62 ((Sp.FQ62 x).2.2)).2.2)).2.1) (0 : Int)), (Sp.nthT ((Sp.FQ66 ((2 : Int), (Sp.FQ62 ((Sp.FQ62 x).2.2)).2.2)).2.1) (1 : Int)), (IntKind.i64.wrap ((Sp.F67 ((2 : Int), (Sp.FQ66 ((2 : Int), (Sp.FQ62 ((Sp.FQ62 x).2.2)).2.2)).2.2)).1)), []), (0 : Int))) = none → True))))))))))))))))))) (by kernel_rfl) (by
  try dsimp only [Ty.den] at *
  simp only [Sp.pre48] at h
  simp only [List.length_append, List.length_cons, List.length_nil, Sp.num_rd, Sp.bits_rd, Sp.calls_rd, Sp.flags_rd, Sp.get_rd, Sp.adv_2, Sp.adv_adv, Sp.adv_size, Sp.pre67, Sp.pre63, Sp.pre65, Sp.pre62, Sp.pre66, Sp.in48_8] at *
  (repeat' (first | exact trivial | apply And.intro | intro _)) <;> first | trivial | assumption | omega | (rw [Sp.flags_len (by assumption)]; omega) | (simp; omega))
theorem ok48 : CpOk Try.prog gdS 48 cp48 :=
  fn_okDU (ctxOkZ (zkokZmF0 true) pgokPmF2 fvok_none gokGmF2 []) rfl Try.func48 (g := 61) (p := ty117) (q := ty117) (A := ty52) (psh := []) (mask := [true]) (sz := [9]) (ex := false) (pre := (some Sp.pre48)) (tx := 2) (te := 3) (TX := 52) (TE := 37) (dX := td52) (dE := td37) (n := 31) (pv := wrongV) (L := (lookL [(8, LS48_8)])) (dflt := (Ty.dflt (Ty.pair ty117 (Ty.pair ty52 (Ty.int .i64))))) (FD := Sp.FD48)
    rfl rfl rfl rfl rfl rfl catchOk to52 rfl rfl to37 rfl (by kernel_rfl) (by kernel_rfl) (loops_of (l := [bodyAt (bodyOf Try.f48) [0]]) (by kernel_rfl) (loops_cons (s0 := LS48_8) (by kernel_rfl) lo48_8 (loops_nil)))
    (safe_preP rfl @sa48) va48
def LS29_1 : LS Unit := mkLS (Ty.pair ty111 ty3) (Ty.pair ty3 ty77)  [(6, none), (7, none)] [] [(8, none)] [(0, 1)] [(1, 100101, false, 5)] [] [(0, 0)] 0 false Sp.in29_1 Sp.st29_1 Sp.mu29_1
set_option maxHeartbeats 4000000 in
theorem so29_1 (k : (Ty.pair ty111 ty3).den) (x : (Ty.pair ty3 ty77).den) (fk : Fit (Ty.pair ty111 ty3) k) (h : Sp.in29_1 k x) : StepOk false Sp.in29_1 Sp.mu29_1 k x (Sp.st29_1 k x) := by
  try dsimp only [Ty.den] at *
  simp only [Sp.in29_1, Fit, maxLen] at h fk
  unfold Sp.st29_1
  (repeat' (first | exact rfl | (refine StepOk.cnd (fun hc => ?_) (fun hc => ?_) <;> (try simp only [IntKind.wrap_i64, IntKind.wrap_u8, IntKind.wrap_u32, IntKind.wrap_u64, bne_eq_false_iff_eq, Int.natCast_inj, setE, copyL, sliceL, zrow, List.length_append, List.length_cons, List.length_nil, List.length_set, List.length_replicate, List.length_take, List.length_drop, decide_eq_true_eq, decide_eq_false_iff_not, Bool.or_eq_true, Bool.and_eq_true, Bool.or_eq_false_iff, Bool.and_eq_false_iff, Bool.not_eq_true', Bool.not_eq_false', Bool.not_eq_true, Bool.not_eq_false, beq_iff_eq, beq_eq_false_iff_ne, bne_iff_ne, ne_eq] at hc)) | refine StepOk.opt (fun _ => ?_))) <;> (first | exact rfl | (refine ⟨rfl, ?_, ?_⟩ <;> simp only [Sp.in29_1, Sp.mu29_1, Sp.put1, Sp.put2, Sp.put4, Sp.put8, Sp.le_len, List.length_append, List.length_cons, List.length_nil, IntKind.wrap_i64, IntKind.wrap_u8, IntKind.wrap_u32, IntKind.wrap_u64, Sp.tmod_lit, Sp.tdiv_lit, bne_eq_false_iff_eq, Int.natCast_inj, setE, copyL, sliceL, zrow, List.length_append, List.length_cons, List.length_nil, List.length_set, List.length_replicate, List.length_take, List.length_drop, decide_eq_true_eq, decide_eq_false_iff_not, Bool.or_eq_true, Bool.and_eq_true, Bool.or_eq_false_iff, Bool.and_eq_false_iff, Bool.not_eq_true', Bool.not_eq_false', Bool.not_eq_true, Bool.not_eq_false, beq_iff_eq, beq_eq_false_iff_ne, bne_iff_ne, ne_eq] <;> first | omega | (and_intros <;> first | omega | exact h.1 | exact h.2 | exact h.2.1 | exact h.2.2 | exact h.2.2.1 | exact h.2.2.2 | exact h.2.2.2.1 | exact h.2.2.2.2 | exact h.2.2.2.2.1 | exact h.2.2.2.2.2 | exact h.2.2.2.2.2.1 | exact h.2.2.2.2.2.2)))
set_option maxHeartbeats 4000000 in
theorem lo29_1 : LoopOk Try.prog gdS (fun _ _ _ (_ : Unit) _ _ => False) (bodyAt (bodyOf Try.f29) [0]) LS29_1 :=
  loop_runP (ctxOkZ (zkokZmF0 true) pgokPmF2 fvok_none gokGmF2 []) (L := lookL []) (d := BOut.brk (Ty.dflt (Ty.pair ty111 ty3)) (Ty.dflt (Ty.pair ty3 ty77))) (loops_of (l := []) (by kernel_rfl) (loops_nil)) (fun k x fk fx h => slim_of (S := (((decide (x.1 < k.2)) = true → ((0 ≤ x.1 ∧ x.1 < ((k.1).length : Int)) ∧ ((Sp.pre30 ((IntKind.u64.wrap ((Sp.nthT k.1 x.1).1)), (4 : Int)) x.2) ∧ (Sp.pre30 ((IntKind.u64.wrap ((Sp.nthT k.1 x.1).2)), (4 : Int)) (Sp.FW30 ((IntKind.u64.wrap ((Sp.nthT k.1 x.1).1)), (4 : Int)) x.2))))))) (by kernel_rfl) (by
  try dsimp only [Ty.den] at *
  simp only [Sp.in29_1, Fit, maxLen] at h fk fx
  simp only [Sp.pre30, Sp.put1, Sp.put2, Sp.put4, Sp.put8, Sp.le_len, List.length_append, List.length_cons, List.length_nil, IntKind.wrap_i64, IntKind.wrap_u8, IntKind.wrap_u32, IntKind.wrap_u64, Sp.tmod_lit, Sp.tdiv_lit, bne_eq_false_iff_eq, Int.natCast_inj, setE, copyL, sliceL, zrow, List.length_append, List.length_cons, List.length_nil, List.length_set, List.length_replicate, List.length_take, List.length_drop, decide_eq_true_eq, decide_eq_false_iff_not, Bool.or_eq_true, Bool.and_eq_true, Bool.or_eq_false_iff, Bool.and_eq_false_iff, Bool.not_eq_true', Bool.not_eq_false', Bool.not_eq_true, Bool.not_eq_false, beq_iff_eq, beq_eq_false_iff_ne, bne_iff_ne, ne_eq, implies_true, and_true, true_and] at *
  all_goals ((repeat' (first | exact trivial | apply And.intro | intro _)) <;> first | trivial | omega | exact Sp.tmod_nn (by omega) | exact Sp.tmod_lt (by omega) (by omega)))) (fun k x => by kernel_rfl) so29_1
def cw29 : Cw := { p := ty111, psh := [none], el := 5, pre := some Sp.pre29, F := Sp.FW29 }
theorem va29 (x : ty111.den) (l : List Int) : ((evFnW (ctxZ (ZmF0 true) PmF2 none GmF2 []) Try.f29 ty111 [none] 5 (lookL [(1, LS29_1)]) x l)).val (fun _ => []) [] = Sp.FW29 x l := by kernel_rfl
theorem se29 (x : ty111.den) (l : List Int) : ((evFnW (ctxZ (ZmF0 true) PmF2 none GmF2 []) Try.f29 ty111 [none] 5 (lookL [(1, LS29_1)]) x l)).safe = (((Sp.in29_1 (x, ((x).length : Int)) ((0 : Int), l)) ∧ True)) := by kernel_rfl
theorem sa29 (x : ty111.den) (l : List Int) (fx : Fit ty111 x) (fl : l.length ≤ maxLen) (h : Sp.pre29 x l) : SafeW ((evFnW (ctxZ (ZmF0 true) PmF2 none GmF2 []) Try.f29 ty111 [none] 5 (lookL [(1, LS29_1)]) x l)) := by
  refine ⟨?_⟩
  rw [se29]
  try dsimp only [Ty.den] at *
  simp only [Fit, maxLen] at fx
  simp only [Sp.in29_1, Sp.pre29, Sp.put1, Sp.put2, Sp.put4, Sp.put8, Sp.le_len, List.length_append, List.length_cons, List.length_nil, IntKind.wrap_i64, IntKind.wrap_u8, IntKind.wrap_u32, IntKind.wrap_u64, Sp.tmod_lit, Sp.tdiv_lit, bne_eq_false_iff_eq, Int.natCast_inj, setE, copyL, sliceL, zrow, List.length_append, List.length_cons, List.length_nil, List.length_set, List.length_replicate, List.length_take, List.length_drop, decide_eq_true_eq, decide_eq_false_iff_not, Bool.or_eq_true, Bool.and_eq_true, Bool.or_eq_false_iff, Bool.and_eq_false_iff, Bool.not_eq_true', Bool.not_eq_false', Bool.not_eq_true, Bool.not_eq_false, beq_iff_eq, beq_eq_false_iff_ne, bne_iff_ne, ne_eq, implies_true, and_true, true_and] at *
  all_goals ((repeat' (first | exact trivial | apply And.intro | intro _)) <;> first | trivial | omega | exact Sp.tmod_nn (by omega) | exact Sp.tmod_lt (by omega) (by omega))
theorem ok29 : CwOk Try.prog gdS 29 cw29 :=
  fn_okW (ctxOkZ (zkokZmF0 true) pgokPmF2 fvok_none gokGmF2 []) Try.func29 (cw := cw29) (L := (lookL [(1, LS29_1)])) (c := bodyOf Try.f29) (dflt := []) rfl (loops_of (l := [bodyAt (bodyOf Try.f29) [0]]) (by kernel_rfl) (loops_cons (s0 := LS29_1) (by kernel_rfl) lo29_1 (loops_nil)))
    (fun x l fx fl hq => (sa29 x l fx fl (hq _ rfl)).safe) va29
def LS31_2 : LS Unit := mkLS (Ty.pair ty112 ty3) (Ty.pair ty80 ty3)  [(7, none), (8, none)] [] [(4, none), (9, none)] [] [] [] [] 0 false Sp.in31_2 Sp.st31_2 Sp.mu31_2
set_option maxHeartbeats 4000000 in
theorem so31_2 (k : (Ty.pair ty112 ty3).den) (x : (Ty.pair ty80 ty3).den) (fk : Fit (Ty.pair ty112 ty3) k) (h : Sp.in31_2 k x) : StepOk false Sp.in31_2 Sp.mu31_2 k x (Sp.st31_2 k x) := by
  try dsimp only [Ty.den] at *
  simp only [Sp.in31_2, Fit, maxLen] at h fk
  unfold Sp.st31_2
  (repeat' (first | exact rfl | (refine StepOk.cnd (fun hc => ?_) (fun hc => ?_) <;> (try simp only [IntKind.wrap_i64, IntKind.wrap_u8, IntKind.wrap_u32, IntKind.wrap_u64, bne_eq_false_iff_eq, Int.natCast_inj, setE, copyL, sliceL, zrow, List.length_append, List.length_cons, List.length_nil, List.length_set, List.length_replicate, List.length_take, List.length_drop, decide_eq_true_eq, decide_eq_false_iff_not, Bool.or_eq_true, Bool.and_eq_true, Bool.or_eq_false_iff, Bool.and_eq_false_iff, Bool.not_eq_true', Bool.not_eq_false', Bool.not_eq_true, Bool.not_eq_false, beq_iff_eq, beq_eq_false_iff_ne, bne_iff_ne, ne_eq] at hc)) | refine StepOk.opt (fun _ => ?_))) <;> (first | exact rfl | (refine ⟨rfl, ?_, ?_⟩ <;> simp only [Sp.in31_2, Sp.mu31_2, Sp.put1, Sp.put2, Sp.put4, Sp.put8, Sp.le_len, List.length_append, List.length_cons, List.length_nil, IntKind.wrap_i64, IntKind.wrap_u8, IntKind.wrap_u32, IntKind.wrap_u64, Sp.tmod_lit, Sp.tdiv_lit, bne_eq_false_iff_eq, Int.natCast_inj, setE, copyL, sliceL, zrow, List.length_append, List.length_cons, List.length_nil, List.length_set, List.length_replicate, List.length_take, List.length_drop, decide_eq_true_eq, decide_eq_false_iff_not, Bool.or_eq_true, Bool.and_eq_true, Bool.or_eq_false_iff, Bool.and_eq_false_iff, Bool.not_eq_true', Bool.not_eq_false', Bool.not_eq_true, Bool.not_eq_false, beq_iff_eq, beq_eq_false_iff_ne, bne_iff_ne, ne_eq] <;> first | omega | (and_intros <;> first | omega | exact h.1 | exact h.2 | exact h.2.1 | exact h.2.2 | exact h.2.2.1 | exact h.2.2.2 | exact h.2.2.2.1 | exact h.2.2.2.2 | exact h.2.2.2.2.1 | exact h.2.2.2.2.2 | exact h.2.2.2.2.2.1 | exact h.2.2.2.2.2.2)))
set_option maxHeartbeats 4000000 in
theorem lo31_2 : LoopOk Try.prog gdS (fun _ _ _ (_ : Unit) _ _ => False) (bodyAt (bodyOf Try.f31) [0]) LS31_2 :=
  loop_runP (ctxOkZ (zkokZmF0 true) pgokPmF2 fvok_none gokGmF2 []) (L := lookL []) (d := BOut.brk (Ty.dflt (Ty.pair ty112 ty3)) (Ty.dflt (Ty.pair ty80 ty3))) (loops_of (l := []) (by kernel_rfl) (loops_nil)) (fun k x fk fx h => slim_of (S := (((decide (x.2 < k.2)) = true → ((0 ≤ x.2 ∧ x.2 < ((k.1).length : Int)) ∧ ((Sp.nthT k.1 x.2) = true → (0 ≤ x.2)))))) (by kernel_rfl) (by
  try dsimp only [Ty.den] at *
  simp only [Sp.in31_2, Fit, maxLen] at h fk fx
  simp only [Sp.put1, Sp.put2, Sp.put4, Sp.put8, Sp.le_len, List.length_append, List.length_cons, List.length_nil, IntKind.wrap_i64, IntKind.wrap_u8, IntKind.wrap_u32, IntKind.wrap_u64, Sp.tmod_lit, Sp.tdiv_lit, bne_eq_false_iff_eq, Int.natCast_inj, setE, copyL, sliceL, zrow, List.length_append, List.length_cons, List.length_nil, List.length_set, List.length_replicate, List.length_take, List.length_drop, decide_eq_true_eq, decide_eq_false_iff_not, Bool.or_eq_true, Bool.and_eq_true, Bool.or_eq_false_iff, Bool.and_eq_false_iff, Bool.not_eq_true', Bool.not_eq_false', Bool.not_eq_true, Bool.not_eq_false, beq_iff_eq, beq_eq_false_iff_ne, bne_iff_ne, ne_eq, implies_true, and_true, true_and] at *
  all_goals ((repeat' (first | exact trivial | apply And.intro | intro _)) <;> first | trivial | omega | exact Sp.tmod_nn (by omega) | exact Sp.tmod_lt (by omega) (by omega)))) (fun k x => by kernel_rfl) so31_2
def cw31 : Cw := { p := ty112, psh := [none], el := 5, pre := some Sp.pre31, F := Sp.FW31 }
theorem va31 (x : ty112.den) (l : List Int) : ((evFnW (ctxZ (ZmF0 true) PmF2 none GmF2 []) Try.f31 ty112 [none] 5 (lookL [(2, LS31_2)]) x l)).val (fun _ => []) [] = Sp.FW31 x l := by kernel_rfl
theorem se31 (x : ty112.den) (l : List Int) : ((evFnW (ctxZ (ZmF0 true) PmF2 none GmF2 []) Try.f31 ty112 [none] 5 (lookL [(2, LS31_2)]) x l)).safe = (((Sp.in31_2 (x, ((x).length : Int)) ((0 : Int), (0 : Int))) ∧ ((Sp.pre30 ((Sp.G31_2 (x, ((x).length : Int)) ((0 : Int), (0 : Int))).1, (1 : Int)) l) ∧ True))) := by kernel_rfl
theorem sa31 (x : ty112.den) (l : List Int) (fx : Fit ty112 x) (fl : l.length ≤ maxLen) (h : Sp.pre31 x l) : SafeW ((evFnW (ctxZ (ZmF0 true) PmF2 none GmF2 []) Try.f31 ty112 [none] 5 (lookL [(2, LS31_2)]) x l)) := by
  refine ⟨?_⟩
  rw [se31]
  try dsimp only [Ty.den] at *
  simp only [Fit, maxLen] at fx
  simp only [Sp.in31_2, Sp.pre31, Sp.put1, Sp.put2, Sp.put4, Sp.put8, Sp.le_len, List.length_append, List.length_cons, List.length_nil, IntKind.wrap_i64, IntKind.wrap_u8, IntKind.wrap_u32, IntKind.wrap_u64, Sp.tmod_lit, Sp.tdiv_lit, bne_eq_false_iff_eq, Int.natCast_inj, setE, copyL, sliceL, zrow, List.length_append, List.length_cons, List.length_nil, List.length_set, List.length_replicate, List.length_take, List.length_drop, decide_eq_true_eq, decide_eq_false_iff_not, Bool.or_eq_true, Bool.and_eq_true, Bool.or_eq_false_iff, Bool.and_eq_false_iff, Bool.not_eq_true', Bool.not_eq_false', Bool.not_eq_true, Bool.not_eq_false, beq_iff_eq, beq_eq_false_iff_ne, bne_iff_ne, ne_eq, implies_true, and_true, true_and] at *
  all_goals ((repeat' (first | exact trivial | apply And.intro | intro _)) <;> first | trivial | omega | exact Sp.tmod_nn (by omega) | exact Sp.tmod_lt (by omega) (by omega))
theorem ok31 : CwOk Try.prog gdS 31 cw31 :=
  fn_okW (ctxOkZ (zkokZmF0 true) pgokPmF2 fvok_none gokGmF2 []) Try.func31 (cw := cw31) (L := (lookL [(2, LS31_2)])) (c := bodyOf Try.f31) (dflt := []) rfl (loops_of (l := [bodyAt (bodyOf Try.f31) [0]]) (by kernel_rfl) (loops_cons (s0 := LS31_2) (by kernel_rfl) lo31_2 (loops_nil)))
    (fun x l fx fl hq => (sa31 x l fx fl (hq _ rfl)).safe) va31
def ZmG0 (nw : Bool) : List (Nat × Zc) := (29, .pw cw29) :: (31, .pw cw31) :: (ZmF0 nw)
theorem zkokZmG0 (nw : Bool) : ZKOk (ZmG0 nw) := zkok_cons (z := .pw cw29) ok29 ⟨_, Try.func29, by kernel_rfl, by kernel_rfl⟩ (zkok_cons (z := .pw cw31) ok31 ⟨_, Try.func31, by kernel_rfl, by kernel_rfl⟩ ((zkokZmF0 nw)))
def PmG0 : List (Nat × Cp) := (39, cp39) :: (48, cp48) :: PmF2
theorem pgokPmG0 : PGOk PmG0 := pgok_cons ok39 ⟨_, Try.func39, by kernel_rfl, by kernel_rfl⟩ (pgok_cons ok48 ⟨_, Try.func48, by kernel_rfl, by kernel_rfl⟩ (pgokPmF2))
def GmG0 : List (Nat × Ct) := GmF2
theorem gokGmG0 : GOk GmG0 := gokGmF2
end Go.Proofs.Ytbnihoioblmgkaa.Sy
end

section
/- Texts as lists of bytes (own work). -/
namespace Go.Proofs.Ytbnihoioblmgkaa.Sp
open Go Sy
set_option linter.unusedVariables false
set_option linter.unusedSimpArgs false
theorem ba_ext {a b : ByteArray} (h : a.data.toList = b.data.toList) : a = b := by
  cases a; cases b; congr 1; exact Array.toList_inj.1 h
theorem bts_fold (l : List Int) : ∀ r : ByteArray, (l.foldl (fun r n => r.push (UInt8.ofNat n.toNat)) r).data.toList = r.data.toList ++ l.map (fun n => UInt8.ofNat n.toNat) := by
  induction l with
  | nil => intro r; simp
  | cons x l ih =>
    intro r
    rw [List.foldl_cons, ih]
    show (r.data.push _).toList ++ _ = _
    simp
theorem bts_data (l : List Int) : (bts l).data.toList = l.map (fun n => UInt8.ofNat n.toNat) := by
  unfold bts
  rw [bts_fold]
  rfl
theorem size_len (s : ByteArray) : s.size = s.data.toList.length := by rw [Array.length_toList]; rfl
@[simp] theorem bts_size (l : List Int) : (bts l).size = l.length := by rw [size_len, bts_data, List.length_map]
theorem strCat_data (a b : ByteArray) : (strCat a b).data.toList = a.data.toList ++ b.data.toList := by
  unfold strCat
  rw [ByteArray.data_append, Array.toList_append]
@[simp] theorem strCat_size (a b : ByteArray) : (strCat a b).size = a.size + b.size := by rw [size_len, strCat_data, List.length_append, ← size_len, ← size_len]
theorem extract_data (s : ByteArray) (a b : Nat) : (s.extract a b).data.toList = (s.data.toList.take b).drop a := by
  rw [ByteArray.data_extract, Array.toList_extract, List.extract_eq_drop_take', ]
@[simp] theorem extract_size (s : ByteArray) (a b : Nat) : (s.extract a b).size = min b s.size - a := by
  rw [size_len, extract_data, List.length_drop, List.length_take, ← size_len]
@[simp] theorem stb_len (s : ByteArray) : (stb s).length = s.size := by unfold stb; rw [List.length_map, ← size_len]
@[simp] theorem mk_size (l : List UInt8) : (ByteArray.mk l.toArray).size = l.length := by rw [size_len]
@[simp] theorem empty_size : ByteArray.empty.size = 0 := rfl
theorem stb_inj {a b : ByteArray} (h : stb a = stb b) : a = b := by
  refine ba_ext ?_
  unfold stb at h
  have : ∀ (l m : List UInt8), l.map (fun b => (b.toNat : Int)) = m.map (fun b => (b.toNat : Int)) → l = m := by
    intro l
    induction l with
    | nil => intro m h; cases m with | nil => rfl | cons => simp at h
    | cons x l ih =>
      intro m h
      cases m with
      | nil => simp at h
      | cons y m =>
        simp only [List.map_cons, List.cons.injEq] at h
        rw [ih m h.2, UInt8.toNat_inj.1 (by omega : x.toNat = y.toNat)]
  exact this _ _ h
theorem stb_cat (a b : ByteArray) : stb (strCat a b) = stb a ++ stb b := by unfold stb; rw [strCat_data, List.map_append]
theorem stb_extract (s : ByteArray) (a b : Nat) : stb (s.extract a b) = ((stb s).take b).drop a := by unfold stb; rw [extract_data, List.map_drop, List.map_take]
theorem stb_bts (l : List Int) (h : ∀ x ∈ l, 0 ≤ x ∧ x ≤ 255) : stb (bts l) = l := by
  unfold stb
  rw [bts_data, List.map_map]
  conv => rhs; rw [← List.map_id l]
  refine List.map_congr_left fun x hx => ?_
  obtain ⟨h1, h2⟩ := h x hx
  simp only [Function.comp, UInt8.toNat_ofNat', id]
  omega
theorem stb_rng (s : ByteArray) : ∀ x ∈ stb s, 0 ≤ x ∧ x ≤ 255 := by
  intro x hx
  unfold stb at hx
  obtain ⟨b, _, rfl⟩ := List.mem_map.1 hx
  have := b.toNat_lt
  omega
theorem bts_stb (s : ByteArray) : bts (stb s) = s := stb_inj (stb_bts _ (stb_rng s))
theorem tl_loop (bs : ByteArray) : ∀ (n i : Nat) (r : List UInt8), bs.size - i = n → ByteArray.toList.loop bs i r = r.reverse ++ bs.data.toList.drop i := by
  intro n
  induction n with
  | zero =>
    intro i r h
    rw [ByteArray.toList.loop, if_neg (by omega), List.drop_of_length_le (by rw [← size_len]; omega), List.append_nil]
  | succ n ih =>
    intro i r h
    have hi : i < bs.data.toList.length := by rw [← size_len]; omega
    rw [ByteArray.toList.loop, if_pos (by omega), ih (i + 1) _ (by omega), List.reverse_cons, List.append_assoc, List.drop_eq_getElem_cons hi]
    congr 1
    have : bs.get! i = bs.data.toList[i] := by
      have h2 : i < bs.data.size := by rw [Array.length_toList] at hi; exact hi
      show bs.data[i]! = _
      rw [getElem!_pos bs.data i h2, Array.getElem_toList]
    rw [this]; rfl
theorem tl_eq (bs : ByteArray) : bs.toList = bs.data.toList := by
  unfold ByteArray.toList
  rw [tl_loop bs _ 0 [] rfl]; rfl
theorem strEq_iff (a b : ByteArray) : strEq a b = true ↔ a = b := by
  unfold strEq
  rw [beq_iff_eq]
  refine ⟨fun h => ?_, fun h => by rw [h]⟩
  refine ba_ext ?_
  rw [tl_eq, tl_eq] at h
  exact h
theorem strEq_self (a : ByteArray) : strEq a a = true := (strEq_iff a a).2 rfl
theorem strEq_dec (a b : ByteArray) : strEq a b = decide (stb a = stb b) := by
  cases h : strEq a b with
  | true => rw [strEq_iff] at h; simp [h]
  | false =>
    have : ¬ a = b := fun e => by rw [(strEq_iff a b).2 e] at h; cases h
    rw [eq_comm, decide_eq_false_iff_not]
    exact fun e => this (stb_inj e)
theorem strAt_eq (s : ByteArray) (i : Int) : strAt s i = (stb s).getD i.toNat 0 := by
  unfold strAt stb
  rw [List.getD_eq_getElem?_getD, List.getElem?_map, Array.getElem?_toList, Array.getD_eq_getD_getElem?]
  cases s.data[i.toNat]? <;> rfl
theorem strAt_rng (s : ByteArray) (i : Int) : 0 ≤ strAt s i ∧ strAt s i ≤ 255 := by
  unfold strAt
  have := (s.data.getD i.toNat 0).toNat_lt
  omega
theorem strAt_nat (s : ByteArray) (i : Nat) (h : i < s.size) : strAt s (i : Int) = (stb s)[i]'(by rw [stb_len]; exact h) := by
  rw [strAt_eq, Int.toNat_natCast, List.getD_eq_getElem?_getD, List.getElem?_eq_getElem (by rw [stb_len]; exact h)]
  rfl
end Go.Proofs.Ytbnihoioblmgkaa.Sp
end

section
/- What the writer's methods write (own work). -/
namespace Go.Proofs.Ytbnihoioblmgkaa.Sp
open Go Sy
set_option linter.unusedVariables false
set_option linter.unusedSimpArgs false
def ce (c : Int × Int) : List Int := le (IntKind.u64.wrap c.1) 4 ++ le (IntKind.u64.wrap c.2) 4
theorem calls_end (xs : List (Int × Int)) (hl : xs.length ≤ 1000) : ∀ (f : Nat) (i : Int) (l : List Int), 0 ≤ i → ((xs.length : Int) - i).toNat < f →
    (endOf st29_1 (xs, (xs.length : Int)) f (i, l)).2 = l ++ (xs.drop i.toNat).flatMap ce
  | 0, i, l, _, h => by omega
  | f + 1, i, l, h0, hf => by
    unfold endOf
    by_cases h : i < (xs.length : Int)
    · have hst : st29_1 (xs, (xs.length : Int)) (i, l) = BOut.next (xs, (xs.length : Int)) (i + 1, l ++ ce (nthT xs i)) := by
        unfold st29_1
        simp only [h, decide_true, cond_true]
        rw [Sp.wrap_i64_of (by omega) (by omega), put4, put4, List.append_assoc]
        rfl
      rw [hst]
      simp only
      rw [calls_end xs hl f _ _ (by omega) (by omega), show (i + 1).toNat = i.toNat + 1 by omega]
      have hlt : i.toNat < xs.length := by omega
      rw [List.drop_eq_getElem_cons hlt, List.flatMap_cons, List.append_assoc]
      unfold nthT
      rw [List.getD_eq_getElem?_getD, List.getElem?_eq_getElem hlt]
      rfl
    · have hst : st29_1 (xs, (xs.length : Int)) (i, l) = BOut.brk (xs, (xs.length : Int)) (i, l) := by
        unfold st29_1
        simp only [h, decide_false, cond_false]
      rw [hst]
      simp only
      rw [List.drop_eq_nil_of_le (by omega)]
      simp
theorem calls_row (xs : List (Int × Int)) (hl : xs.length ≤ 1000) (l : List Int) : FW29 xs l = l ++ xs.flatMap ce := by
  unfold FW29 G29_1
  rw [calls_end xs hl _ _ _ (Int.le_refl _) (by unfold mu29_1; simp only; omega)]
  simp
theorem calls1 (a : Int × Int) (l : List Int) : FW29 [a] l = l ++ ce a := by rw [calls_row _ (by simp)]; simp
theorem calls2 (a b : Int × Int) (l : List Int) : FW29 [a, b] l = l ++ (ce a ++ ce b) := by rw [calls_row _ (by simp)]; simp
theorem ce_len (c : Int × Int) : (ce c).length = 8 := by unfold ce; simp [le_len]
def flg (l : List Bool) : Int := (G31_2 (l, (l.length : Int)) ((0 : Int), (0 : Int))).1
theorem flags_row (x : List Bool) (l : List Int) : FW31 x l = l ++ le (flg x) 1 := by
  unfold FW31
  rw [put1]
  rfl
theorem end_inv {K X ρ : Type} {step : K → X → BOut K X ρ} {k : K} {I : X → Prop} (hn : ∀ y k' z, I y → step k y = .next k' z → I z) (hb : ∀ y k' z, I y → step k y = .brk k' z → I z) : ∀ (n : Nat) (y : X), I y → I (endOf step k n y)
  | 0, y, h => h
  | n + 1, y, h => by
    unfold endOf
    cases hs : step k y with
    | next k' z => exact end_inv hn hb n z (hn y k' z h hs)
    | brk k' z => exact hb y k' z h hs
    | ret r => exact h
end Go.Proofs.Ytbnihoioblmgkaa.Sp
end

section
/- Contracts of functions, by the evaluator (own program gen.py): frame.within, crc.Sum16, frame.Size. -/
set_option linter.unusedVariables false
set_option linter.unusedSimpArgs false
set_option maxRecDepth 100000
namespace Go.Proofs.Ytbnihoioblmgkaa.Sp
open Go Go.RowKit Sy
def F54 (x : Int × Int) : Bool :=
  ((decide (x.1 ≥ (0 : Int))) && (decide (x.1 ≤ x.2)))
def in56_7 (k : (Unit)) (x : (Int × Int)) : Prop := (0 : Int) ≤ x.2
def mu56_7 (k : (Unit)) (x : (Int × Int)) : Nat := ((8 : Int) - x.2).toNat
def st56_7 (k : (Unit)) (x : (Int × Int)) : BOut (Unit) (Int × Int) (Int) :=
  bif (decide (x.2 < (8 : Int))) then
    BOut.next () ((IntKind.u16.wrap ((BitVec.ofInt IntKind.u16.bits (IntKind.u16.wrap (x.1 * 2 ^ (min ((1 : Int)).toNat IntKind.u16.bits))) ^^^ BitVec.ofInt IntKind.u16.bits (IntKind.u16.wrap ((Int.fdiv x.1 (2 ^ (min ((15 : Int)).toNat IntKind.u16.bits))) * (4129 : Int)))).toNat : Int)), (IntKind.i64.wrap (x.2 + (1 : Int))))
  else
    BOut.brk () x
def G56_7 (k : (Unit)) (x : (Int × Int)) : (Int × Int) := endOf st56_7 k (Nat.succ (mu56_7 k x)) x
def in56_3 (k : (ByteArray × Int)) (x : (Int × Int)) : Prop := (0 : Int) ≤ x.2 ∧ k.2 = (k.1.size : Int) ∧ k.1.size ≤ 100000
def mu56_3 (k : (ByteArray × Int)) (x : (Int × Int)) : Nat := (k.2 - x.2).toNat
def st56_3 (k : (ByteArray × Int)) (x : (Int × Int)) : BOut (ByteArray × Int) (Int × Int) (Int) :=
  bif (decide (x.2 < k.2)) then
    BOut.next k ((Sp.G56_7 () ((IntKind.u16.wrap ((BitVec.ofInt IntKind.u16.bits x.1 ^^^ BitVec.ofInt IntKind.u16.bits (IntKind.u16.wrap ((IntKind.u16.wrap (strAt k.1 x.2)) * 2 ^ (min ((8 : Int)).toNat IntKind.u16.bits)))).toNat : Int)), (0 : Int))).1, (IntKind.i64.wrap (x.2 + (1 : Int))))
  else
    BOut.brk k x
def G56_3 (k : (ByteArray × Int)) (x : (Int × Int)) : (Int × Int) := endOf st56_3 k (Nat.succ (mu56_3 k x)) x
def F56 (x : ByteArray) : Int :=
  (Sp.G56_3 (x, ((x).size : Int)) ((65535 : Int), (0 : Int))).1
def pre56 (x : ByteArray) : Prop := x.size ≤ 100000
def F24 (x : BldT) : Int × Int :=
  bif ((Sp.F27 x) != (0 : Int)) then
    ((0 : Int), (0 : Int))
  else
    ((IntKind.i64.wrap ((14 : Int) + (IntKind.i64.wrap ((19 : Int) * ((x.2.2.2.2.2.2.2).length : Int))))), (IntKind.i64.wrap ((23 : Int) + (IntKind.i64.wrap ((19 : Int) * ((x.2.2.2.2.2.2.2).length : Int))))))
end Go.Proofs.Ytbnihoioblmgkaa.Sp
namespace Go.Proofs.Ytbnihoioblmgkaa.Sy
open Go Go.RowKit Sp
def ct54 : Ct := { p := (Ty.pair ty3 ty3), psh := [none, none], r := ty4, rsh := (Rsh.one (none)), pre := none, fresh := none, F := Sp.F54 }
theorem ok54 : CtOk Try.prog gdS 54 ct54 :=
  fn_okU (ctxOkZ (zkokZmG0 true) pgokPmG0 fvok_none gokGmG0 []) rfl Try.func54 (p := (Ty.pair ty3 ty3)) (psh := [none, none]) (r := ty4) (rsh := (Rsh.one (none))) (pre := none) (fresh := none) (F := Sp.F54) (L := noL) (c := bodyOf Try.f54) (dflt := Ty.dflt ty4) rfl (no_loops)
    (fun x fx _ => triv_of (by kernel_rfl)) (fun x => by kernel_rfl)
def LS56_7 : LS ty59.den := mkLS Ty.unit (Ty.pair ty59 ty3)  [] [] [(3, none), (18, none)] [] [] [] [] 2 false Sp.in56_7 Sp.st56_7 Sp.mu56_7
def LS56_3 : LS ty59.den := mkLS (Ty.pair ty9 ty3) (Ty.pair ty59 ty3)  [(0, none), (7, none)] [] [(3, none), (8, none)] [] [] [] [] 0 false Sp.in56_3 Sp.st56_3 Sp.mu56_3
set_option maxHeartbeats 4000000 in
theorem so56_7 (k : Ty.unit.den) (x : (Ty.pair ty59 ty3).den) (fk : Fit Ty.unit k) (h : Sp.in56_7 k x) : StepOk false Sp.in56_7 Sp.mu56_7 k x (Sp.st56_7 k x) := by
  try dsimp only [Ty.den] at *
  simp only [Sp.in56_7, Fit, maxLen] at h fk
  unfold Sp.st56_7
  (repeat' (first | exact rfl | (refine StepOk.cnd (fun hc => ?_) (fun hc => ?_) <;> (try simp only [IntKind.wrap_i64, IntKind.wrap_u8, IntKind.wrap_u32, IntKind.wrap_u64, bne_eq_false_iff_eq, Int.natCast_inj, setE, copyL, sliceL, zrow, List.length_append, List.length_cons, List.length_nil, List.length_set, List.length_replicate, List.length_take, List.length_drop, decide_eq_true_eq, decide_eq_false_iff_not, Bool.or_eq_true, Bool.and_eq_true, Bool.or_eq_false_iff, Bool.and_eq_false_iff, Bool.not_eq_true', Bool.not_eq_false', Bool.not_eq_true, Bool.not_eq_false, beq_iff_eq, beq_eq_false_iff_ne, bne_iff_ne, ne_eq] at hc)) | refine StepOk.opt (fun _ => ?_))) <;> (first | exact rfl | (refine ⟨rfl, ?_, ?_⟩ <;> simp only [Sp.in56_7, Sp.mu56_7, Sp.put1, Sp.put2, Sp.put4, Sp.put8, Sp.calls1, Sp.calls2, Sp.flags_row, Sp.ce_len, Sp.le_len, List.length_append, List.length_cons, List.length_nil, IntKind.wrap_i64, IntKind.wrap_u8, IntKind.wrap_u32, IntKind.wrap_u64, Sp.tmod_lit, Sp.tdiv_lit, bne_eq_false_iff_eq, Int.natCast_inj, setE, copyL, sliceL, zrow, List.length_append, List.length_cons, List.length_nil, List.length_set, List.length_replicate, List.length_take, List.length_drop, decide_eq_true_eq, decide_eq_false_iff_not, Bool.or_eq_true, Bool.and_eq_true, Bool.or_eq_false_iff, Bool.and_eq_false_iff, Bool.not_eq_true', Bool.not_eq_false', Bool.not_eq_true, Bool.not_eq_false, beq_iff_eq, beq_eq_false_iff_ne, bne_iff_ne, ne_eq] <;> first | omega | (and_intros <;> first | omega | exact h.1 | exact h.2 | exact h.2.1 | exact h.2.2 | exact h.2.2.1 | exact h.2.2.2 | exact h.2.2.2.1 | exact h.2.2.2.2 | exact h.2.2.2.2.1 | exact h.2.2.2.2.2 | exact h.2.2.2.2.2.1 | exact h.2.2.2.2.2.2)))
set_option maxHeartbeats 4000000 in
theorem lo56_7 : LoopOk Try.prog gdS (RetAt Try.prog Try.f56 (Rsh.one (none)) none ty59) (bodyAt (bodyOf Try.f56) [0, 0]) LS56_7 :=
  loop_run (ctxOkZ (zkokZmG0 true) pgokPmG0 fvok_none gokGmG0 []) (L := lookL []) (d := BOut.brk (Ty.dflt Ty.unit) (Ty.dflt (Ty.pair ty59 ty3))) (loops_of (l := []) (by kernel_rfl) (loops_nil)) (fun k x fk fx h => slim_of (S := (((decide (x.2 < (8 : Int))) = true → ((0 ≤ (15 : Int)) ∧ (0 ≤ (1 : Int)))))) (by kernel_rfl) (by
  try dsimp only [Ty.den] at *
  simp only [Sp.in56_7, Fit, maxLen] at h fk fx
  simp only [Sp.put1, Sp.put2, Sp.put4, Sp.put8, Sp.calls1, Sp.calls2, Sp.flags_row, Sp.ce_len, Sp.le_len, List.length_append, List.length_cons, List.length_nil, IntKind.wrap_i64, IntKind.wrap_u8, IntKind.wrap_u32, IntKind.wrap_u64, Sp.tmod_lit, Sp.tdiv_lit, bne_eq_false_iff_eq, Int.natCast_inj, setE, copyL, sliceL, zrow, List.length_append, List.length_cons, List.length_nil, List.length_set, List.length_replicate, List.length_take, List.length_drop, decide_eq_true_eq, decide_eq_false_iff_not, Bool.or_eq_true, Bool.and_eq_true, Bool.or_eq_false_iff, Bool.and_eq_false_iff, Bool.not_eq_true', Bool.not_eq_false', Bool.not_eq_true, Bool.not_eq_false, beq_iff_eq, beq_eq_false_iff_ne, bne_iff_ne, ne_eq, implies_true, and_true, true_and] at *
  all_goals ((repeat' (first | exact trivial | apply And.intro | intro _)) <;> first | trivial | omega | exact Sp.tmod_nn (by omega) | exact Sp.tmod_lt (by omega) (by omega)))) (fun k x => by kernel_rfl) so56_7
set_option maxHeartbeats 4000000 in
theorem so56_3 (k : (Ty.pair ty9 ty3).den) (x : (Ty.pair ty59 ty3).den) (fk : Fit (Ty.pair ty9 ty3) k) (h : Sp.in56_3 k x) : StepOk false Sp.in56_3 Sp.mu56_3 k x (Sp.st56_3 k x) := by
  try dsimp only [Ty.den] at *
  simp only [Sp.in56_3, Fit, maxLen] at h fk
  unfold Sp.st56_3
  (repeat' (first | exact rfl | (refine StepOk.cnd (fun hc => ?_) (fun hc => ?_) <;> (try simp only [IntKind.wrap_i64, IntKind.wrap_u8, IntKind.wrap_u32, IntKind.wrap_u64, bne_eq_false_iff_eq, Int.natCast_inj, setE, copyL, sliceL, zrow, List.length_append, List.length_cons, List.length_nil, List.length_set, List.length_replicate, List.length_take, List.length_drop, decide_eq_true_eq, decide_eq_false_iff_not, Bool.or_eq_true, Bool.and_eq_true, Bool.or_eq_false_iff, Bool.and_eq_false_iff, Bool.not_eq_true', Bool.not_eq_false', Bool.not_eq_true, Bool.not_eq_false, beq_iff_eq, beq_eq_false_iff_ne, bne_iff_ne, ne_eq] at hc)) | refine StepOk.opt (fun _ => ?_))) <;> (first | exact rfl | (refine ⟨rfl, ?_, ?_⟩ <;> simp only [Sp.in56_3, Sp.mu56_3, Sp.put1, Sp.put2, Sp.put4, Sp.put8, Sp.calls1, Sp.calls2, Sp.flags_row, Sp.ce_len, Sp.le_len, List.length_append, List.length_cons, List.length_nil, IntKind.wrap_i64, IntKind.wrap_u8, IntKind.wrap_u32, IntKind.wrap_u64, Sp.tmod_lit, Sp.tdiv_lit, bne_eq_false_iff_eq, Int.natCast_inj, setE, copyL, sliceL, zrow, List.length_append, List.length_cons, List.length_nil, List.length_set, List.length_replicate, List.length_take, List.length_drop, decide_eq_true_eq, decide_eq_false_iff_not, Bool.or_eq_true, Bool.and_eq_true, Bool.or_eq_false_iff, Bool.and_eq_false_iff, Bool.not_eq_true', Bool.not_eq_false', Bool.not_eq_true, Bool.not_eq_false, beq_iff_eq, beq_eq_false_iff_ne, bne_iff_ne, ne_eq] <;> first | omega | (and_intros <;> first | omega | exact h.1 | exact h.2 | exact h.2.1 | exact h.2.2 | exact h.2.2.1 | exact h.2.2.2 | exact h.2.2.2.1 | exact h.2.2.2.2 | exact h.2.2.2.2.1 | exact h.2.2.2.2.2 | exact h.2.2.2.2.2.1 | exact h.2.2.2.2.2.2)))
set_option maxHeartbeats 4000000 in
theorem lo56_3 : LoopOk Try.prog gdS (RetAt Try.prog Try.f56 (Rsh.one (none)) none ty59) (bodyAt (bodyOf Try.f56) [0]) LS56_3 :=
  loop_run (ctxOkZ (zkokZmG0 true) pgokPmG0 fvok_none gokGmG0 []) (L := lookL [(7, LS56_7)]) (d := BOut.brk (Ty.dflt (Ty.pair ty9 ty3)) (Ty.dflt (Ty.pair ty59 ty3))) (loops_of (l := [bodyAt (bodyOf Try.f56) [0, 0]]) (by kernel_rfl) (loops_cons (s0 := LS56_7) (by kernel_rfl) lo56_7 (loops_nil))) (fun k x fk fx h => slim_of (S := (((decide (x.2 < k.2)) = true → ((0 ≤ x.2 ∧ x.2 < ((k.1).size : Int)) ∧ ((0 ≤ (8 : Int)) ∧ (Sp.in56_7 () ((IntKind.u16.wrap ((BitVec.ofInt IntKind.u16.bits x.1 ^^^ BitVec.ofInt IntKind.u16.bits (IntKind.u16.wrap ((IntKind.u16.wrap (strAt k.1 x.2)) * 2 ^ (min ((8 : Int)).toNat IntKind.u16.bits)))).toNat : Int)), (0 : Int)))))))) (by kernel_rfl) (by
  try dsimp only [Ty.den] at *
  simp only [Sp.in56_3, Fit, maxLen] at h fk fx
  simp only [Sp.in56_7, Sp.put1, Sp.put2, Sp.put4, Sp.put8, Sp.calls1, Sp.calls2, Sp.flags_row, Sp.ce_len, Sp.le_len, List.length_append, List.length_cons, List.length_nil, IntKind.wrap_i64, IntKind.wrap_u8, IntKind.wrap_u32, IntKind.wrap_u64, Sp.tmod_lit, Sp.tdiv_lit, bne_eq_false_iff_eq, Int.natCast_inj, setE, copyL, sliceL, zrow, List.length_append, List.length_cons, List.length_nil, List.length_set, List.length_replicate, List.length_take, List.length_drop, decide_eq_true_eq, decide_eq_false_iff_not, Bool.or_eq_true, Bool.and_eq_true, Bool.or_eq_false_iff, Bool.and_eq_false_iff, Bool.not_eq_true', Bool.not_eq_false', Bool.not_eq_true, Bool.not_eq_false, beq_iff_eq, beq_eq_false_iff_ne, bne_iff_ne, ne_eq, implies_true, and_true, true_and] at *
  all_goals ((repeat' (first | exact trivial | apply And.intro | intro _)) <;> first | trivial | omega | exact Sp.tmod_nn (by omega) | exact Sp.tmod_lt (by omega) (by omega)))) (fun k x => by kernel_rfl) so56_3
def ct56 : Ct := { p := ty9, psh := [none], r := ty59, rsh := (Rsh.one (none)), pre := some Sp.pre56, fresh := none, F := Sp.F56 }
theorem ok56 : CtOk Try.prog gdS 56 ct56 :=
  fn_okU (ctxOkZ (zkokZmG0 true) pgokPmG0 fvok_none gokGmG0 []) rfl Try.func56 (p := ty9) (psh := [none]) (r := ty59) (rsh := (Rsh.one (none))) (pre := some Sp.pre56) (fresh := none) (F := Sp.F56) (L := (lookL [(7, LS56_7), (3, LS56_3)])) (c := bodyOf Try.f56) (dflt := Ty.dflt ty59) rfl (loops_of (l := [bodyAt (bodyOf Try.f56) [0]]) (by kernel_rfl) (loops_cons (s0 := LS56_3) (by kernel_rfl) lo56_3 (loops_nil)))
    (fun x fx hq => have h := hq _ rfl; slim_of (S := ((Sp.in56_3 (x, ((x).size : Int)) ((65535 : Int), (0 : Int))))) (by kernel_rfl) (by
  try dsimp only [Ty.den] at *
  simp only [Fit, maxLen] at fx
  simp only [Sp.in56_7, Sp.in56_3, Sp.pre56, Sp.put1, Sp.put2, Sp.put4, Sp.put8, Sp.calls1, Sp.calls2, Sp.flags_row, Sp.ce_len, Sp.le_len, List.length_append, List.length_cons, List.length_nil, IntKind.wrap_i64, IntKind.wrap_u8, IntKind.wrap_u32, IntKind.wrap_u64, Sp.tmod_lit, Sp.tdiv_lit, bne_eq_false_iff_eq, Int.natCast_inj, setE, copyL, sliceL, zrow, List.length_append, List.length_cons, List.length_nil, List.length_set, List.length_replicate, List.length_take, List.length_drop, decide_eq_true_eq, decide_eq_false_iff_not, Bool.or_eq_true, Bool.and_eq_true, Bool.or_eq_false_iff, Bool.and_eq_false_iff, Bool.not_eq_true', Bool.not_eq_false', Bool.not_eq_true, Bool.not_eq_false, beq_iff_eq, beq_eq_false_iff_ne, bne_iff_ne, ne_eq, implies_true, and_true, true_and] at *
  all_goals ((repeat' (first | exact trivial | apply And.intro | intro _)) <;> first | trivial | omega | exact Sp.tmod_nn (by omega) | exact Sp.tmod_lt (by omega) (by omega)))) (fun x => by kernel_rfl)
def ct24 : Ct := { p := ty25, psh := [some 8], r := (Ty.pair ty3 ty3), rsh := (Rsh.tup [none, none]), pre := none, fresh := none, F := Sp.F24 }
theorem ok24 : CtOk Try.prog gdS 24 ct24 :=
  fn_okU (ctxOkZ (zkokZmG0 true) pgokPmG0 fvok_none gokGmG0 []) rfl Try.func24 (p := ty25) (psh := [some 8]) (r := (Ty.pair ty3 ty3)) (rsh := (Rsh.tup [none, none])) (pre := none) (fresh := none) (F := Sp.F24) (L := noL) (c := bodyOf Try.f24) (dflt := Ty.dflt (Ty.pair ty3 ty3)) rfl (no_loops)
    (fun x fx _ => triv_of (by kernel_rfl)) (fun x => by kernel_rfl)
def GmH0 : List (Nat × Ct) := (54, ct54) :: (56, ct56) :: (24, ct24) :: GmG0
theorem gokGmH0 : GOk GmH0 := gok_cons ok54 ⟨_, Try.func54, by kernel_rfl, by kernel_rfl⟩ (gok_cons ok56 ⟨_, Try.func56, by kernel_rfl, by kernel_rfl⟩ (gok_cons ok24 ⟨_, Try.func24, by kernel_rfl, by kernel_rfl⟩ (gokGmG0)))
end Go.Proofs.Ytbnihoioblmgkaa.Sy
end

section
/- Contracts of functions, by the evaluator (own program gen.py): frame.isCarIn, crc.Seal, frame.isOut. -/
set_option linter.unusedVariables false
set_option linter.unusedSimpArgs false
set_option maxRecDepth 100000
namespace Go.Proofs.Ytbnihoioblmgkaa.Sp
open Go Go.RowKit Sy
def F55 (x : (BldT) × (Int × Bool × Bool × Bool × Bool) × (Int × Bool × Int × Bool) × Int × Nat) : Bool :=
  (((((Int.fdiv x.2.1.1 (2 ^ (min (x.1.1).toNat IntKind.u32.bits))) == (0 : Int)) && ((Int.fdiv x.2.2.2.1 (2 ^ (min (x.1.1).toNat IntKind.u32.bits))) == (0 : Int))) && (Sp.F54 (x.2.2.1.1, (IntKind.i64.wrap (x.1.1 - (1 : Int)))))) && (((x.2.2.1.2.2.1 == (0 : Int)) || (x.2.2.1.2.2.1 == (1 : Int))) || (x.2.2.1.2.2.1 == (2 : Int))))
def pre55 (x : (BldT) × (Int × Bool × Bool × Bool × Bool) × (Int × Bool × Int × Bool) × Int × Nat) : Prop := 2 ≤ x.1.1 ∧ x.1.1 ≤ 32
def F33 (x : ByteArray) : ByteArray :=
  (strCat x (bts [(IntKind.u8.wrap (Int.fdiv (Sp.F56 x) (2 ^ (min ((8 : Int)).toNat IntKind.u16.bits)))), (IntKind.u8.wrap (Sp.F56 x))]))
def pre33 (x : ByteArray) : Prop := x.size ≤ 99990
def in49_4 (k : ((List (((Int × Int) × Bool) × (Int × Int) × Bool × Int × Int × Bool)) × Int × BldT)) (x : (Int)) : Prop := (0 : Int) ≤ x ∧ k.2.1 = ((k.1).length : Int)
def mu49_4 (k : ((List (((Int × Int) × Bool) × (Int × Int) × Bool × Int × Int × Bool)) × Int × BldT)) (x : (Int)) : Nat := (k.2.1 - x).toNat
def st49_4 (k : ((List (((Int × Int) × Bool) × (Int × Int) × Bool × Int × Int × Bool)) × Int × BldT)) (x : (Int)) : BOut ((List (((Int × Int) × Bool) × (Int × Int) × Bool × Int × Int × Bool)) × Int × BldT) (Int) (Bool) :=
  bif (decide (x < k.2.1)) then
    (bif ((((!(Sp.F53 (k.2.2, (Sp.nthT k.1 x).1.1))) || (!(Sp.F53 (k.2.2, (Sp.nthT k.1 x).2.1)))) || (!(Sp.F54 ((Sp.nthT k.1 x).2.2.2.1, (5 : Int))))) || (!(Sp.F54 ((Sp.nthT k.1 x).2.2.2.2.1, (4 : Int))))) then
      BOut.ret false
    else
      BOut.next k (IntKind.i64.wrap (x + (1 : Int))))
  else
    BOut.brk k x
def G49_4 (k : ((List (((Int × Int) × Bool) × (Int × Int) × Bool × Int × Int × Bool)) × Int × BldT)) (x : (Int)) : (Int) := endOf st49_4 k (Nat.succ (mu49_4 k x)) x
def R49_4 (k : ((List (((Int × Int) × Bool) × (Int × Int) × Bool × Int × Int × Bool)) × Int × BldT)) (x : (Int)) : Option (Bool) := retOf st49_4 k (Nat.succ (mu49_4 k x)) x
def F49 (x : (BldT) × (Int × Int) × (Int × Int) × Bool × Bool × Int × List (((Int × Int) × Bool) × (Int × Int) × Bool × Int × Int × Bool)) : Bool :=
  bif ((((!(Sp.F53 (x.1, x.2.1))) || (!(Sp.F53 (x.1, x.2.2.1)))) || (!(Sp.F54 (x.2.2.2.2.2.1, (65535 : Int))))) || (((x.2.2.2.2.2.2).length : Int) != ((x.1.2.2.2.2.2.2.2).length : Int))) then
    false
  else
    Sp.optR (Sp.R49_4 (x.2.2.2.2.2.2, ((x.2.2.2.2.2.2).length : Int), x.1) (0 : Int)) (fun y => y)
    (true)
end Go.Proofs.Ytbnihoioblmgkaa.Sp
namespace Go.Proofs.Ytbnihoioblmgkaa.Sy
open Go Go.RowKit Sp
def ct55 : Ct := { p := (Ty.pair ty25 ty71), psh := [some 8, some 11], r := ty4, rsh := (Rsh.one (none)), pre := some Sp.pre55, fresh := none, F := Sp.F55 }
theorem ok55 : CtOk Try.prog gdS 55 ct55 :=
  fn_okU (ctxOkZ (zkokZmG0 true) pgokPmG0 fvok_none gokGmH0 []) rfl Try.func55 (p := (Ty.pair ty25 ty71)) (psh := [some 8, some 11]) (r := ty4) (rsh := (Rsh.one (none))) (pre := some Sp.pre55) (fresh := none) (F := Sp.F55) (L := noL) (c := bodyOf Try.f55) (dflt := Ty.dflt ty4) rfl (no_loops)
    (fun x fx hq => have h := hq _ rfl; slim_of (S := (((0 ≤ x.1.1) ∧ ((((Int.fdiv x.2.1.1 (2 ^ (min (x.1.1).toNat IntKind.u32.bits))) == (0 : Int)) = true → 0 ≤ x.1.1))))) (by kernel_rfl) (by
  try dsimp only [Ty.den] at *
  simp only [Fit, maxLen] at fx
  simp only [Sp.pre55, Sp.put1, Sp.put2, Sp.put4, Sp.put8, Sp.calls1, Sp.calls2, Sp.flags_row, Sp.ce_len, Sp.le_len, List.length_append, List.length_cons, List.length_nil, IntKind.wrap_i64, IntKind.wrap_u8, IntKind.wrap_u32, IntKind.wrap_u64, Sp.tmod_lit, Sp.tdiv_lit, bne_eq_false_iff_eq, Int.natCast_inj, setE, copyL, sliceL, zrow, List.length_append, List.length_cons, List.length_nil, List.length_set, List.length_replicate, List.length_take, List.length_drop, decide_eq_true_eq, decide_eq_false_iff_not, Bool.or_eq_true, Bool.and_eq_true, Bool.or_eq_false_iff, Bool.and_eq_false_iff, Bool.not_eq_true', Bool.not_eq_false', Bool.not_eq_true, Bool.not_eq_false, beq_iff_eq, beq_eq_false_iff_ne, bne_iff_ne, ne_eq, implies_true, and_true, true_and] at *
  all_goals ((repeat' (first | exact trivial | apply And.intro | intro _)) <;> first | trivial | omega | exact Sp.tmod_nn (by omega) | exact Sp.tmod_lt (by omega) (by omega)))) (fun x => by kernel_rfl)
def ct33 : Ct := { p := ty9, psh := [none], r := ty9, rsh := (Rsh.one (none)), pre := some Sp.pre33, fresh := none, F := Sp.F33 }
theorem ok33 : CtOk Try.prog gdS 33 ct33 :=
  fn_okU (ctxOkZ (zkokZmG0 true) pgokPmG0 fvok_none gokGmH0 []) rfl Try.func33 (p := ty9) (psh := [none]) (r := ty9) (rsh := (Rsh.one (none))) (pre := some Sp.pre33) (fresh := none) (F := Sp.F33) (L := noL) (c := bodyOf Try.f33) (dflt := Ty.dflt ty9) rfl (no_loops)
    (fun x fx hq => have h := hq _ rfl; safe_of (S := (((Sp.pre56 x) ∧ ((0 ≤ (8 : Int)) ∧ ((((ByteArray.size x : Nat) : Int) + ((ByteArray.size (bts [(IntKind.u8.wrap (Int.fdiv (Sp.F56 x) (2 ^ (min ((8 : Int)).toNat IntKind.u16.bits)))), (IntKind.u8.wrap (Sp.F56 x))]) : Nat) : Int) ≤ 9223372036854775807) ∧ True))))) (by kernel_rfl) (by
  try dsimp only [Ty.den] at *
  have h : x.size ≤ 99990 := h
  refine ⟨show x.size ≤ 100000 by omega, by omega, ?_, trivial⟩
  rw [Sp.bts_size]
  simp only [List.length_cons, List.length_nil]
  omega)) (fun x => by kernel_rfl)
def LS49_4 : LS ty4.den := mkLS (Ty.pair ty50 (Ty.pair ty3 ty25)) ty3  [(35, none), (36, none)] [(2, 8)] [(37, none)] [] [] [] [(2, 2)] 0 true Sp.in49_4 Sp.st49_4 Sp.mu49_4
set_option maxHeartbeats 4000000 in
theorem so49_4 (k : (Ty.pair ty50 (Ty.pair ty3 ty25)).den) (x : ty3.den) (fk : Fit (Ty.pair ty50 (Ty.pair ty3 ty25)) k) (h : Sp.in49_4 k x) : StepOk true Sp.in49_4 Sp.mu49_4 k x (Sp.st49_4 k x) := by
  try dsimp only [Ty.den] at *
  simp only [Sp.in49_4, Fit, maxLen] at h fk
  unfold Sp.st49_4
  (repeat' (first | exact rfl | (refine StepOk.cnd (fun hc => ?_) (fun hc => ?_) <;> (try simp only [IntKind.wrap_i64, IntKind.wrap_u8, IntKind.wrap_u32, IntKind.wrap_u64, bne_eq_false_iff_eq, Int.natCast_inj, setE, copyL, sliceL, zrow, List.length_append, List.length_cons, List.length_nil, List.length_set, List.length_replicate, List.length_take, List.length_drop, decide_eq_true_eq, decide_eq_false_iff_not, Bool.or_eq_true, Bool.and_eq_true, Bool.or_eq_false_iff, Bool.and_eq_false_iff, Bool.not_eq_true', Bool.not_eq_false', Bool.not_eq_true, Bool.not_eq_false, beq_iff_eq, beq_eq_false_iff_ne, bne_iff_ne, ne_eq] at hc)) | refine StepOk.opt (fun _ => ?_))) <;> (first | exact rfl | (refine ⟨rfl, ?_, ?_⟩ <;> simp only [Sp.in49_4, Sp.mu49_4, Sp.put1, Sp.put2, Sp.put4, Sp.put8, Sp.calls1, Sp.calls2, Sp.flags_row, Sp.ce_len, Sp.le_len, List.length_append, List.length_cons, List.length_nil, IntKind.wrap_i64, IntKind.wrap_u8, IntKind.wrap_u32, IntKind.wrap_u64, Sp.tmod_lit, Sp.tdiv_lit, bne_eq_false_iff_eq, Int.natCast_inj, setE, copyL, sliceL, zrow, List.length_append, List.length_cons, List.length_nil, List.length_set, List.length_replicate, List.length_take, List.length_drop, decide_eq_true_eq, decide_eq_false_iff_not, Bool.or_eq_true, Bool.and_eq_true, Bool.or_eq_false_iff, Bool.and_eq_false_iff, Bool.not_eq_true', Bool.not_eq_false', Bool.not_eq_true, Bool.not_eq_false, beq_iff_eq, beq_eq_false_iff_ne, bne_iff_ne, ne_eq] <;> first | omega | (and_intros <;> first | omega | exact h.1 | exact h.2 | exact h.2.1 | exact h.2.2 | exact h.2.2.1 | exact h.2.2.2 | exact h.2.2.2.1 | exact h.2.2.2.2 | exact h.2.2.2.2.1 | exact h.2.2.2.2.2 | exact h.2.2.2.2.2.1 | exact h.2.2.2.2.2.2)))
set_option maxHeartbeats 4000000 in
theorem lo49_4 : LoopOk Try.prog gdS (RetAt Try.prog Try.f49 (Rsh.one (none)) none ty4) (bodyAt (bodyOf Try.f49) [0]) LS49_4 :=
  loop_run (ctxOkZ (zkokZmG0 true) pgokPmG0 fvok_none gokGmH0 []) (L := lookL []) (d := BOut.brk (Ty.dflt (Ty.pair ty50 (Ty.pair ty3 ty25))) (Ty.dflt ty3)) (loops_of (l := []) (by kernel_rfl) (loops_nil)) (fun k x fk fx h => slim_of (S := (((decide (x < k.2.1)) = true → (0 ≤ x ∧ x < ((k.1).length : Int))))) (by kernel_rfl) (by
  try dsimp only [Ty.den] at *
  simp only [Sp.in49_4, Fit, maxLen] at h fk fx
  simp only [Sp.put1, Sp.put2, Sp.put4, Sp.put8, Sp.calls1, Sp.calls2, Sp.flags_row, Sp.ce_len, Sp.le_len, List.length_append, List.length_cons, List.length_nil, IntKind.wrap_i64, IntKind.wrap_u8, IntKind.wrap_u32, IntKind.wrap_u64, Sp.tmod_lit, Sp.tdiv_lit, bne_eq_false_iff_eq, Int.natCast_inj, setE, copyL, sliceL, zrow, List.length_append, List.length_cons, List.length_nil, List.length_set, List.length_replicate, List.length_take, List.length_drop, decide_eq_true_eq, decide_eq_false_iff_not, Bool.or_eq_true, Bool.and_eq_true, Bool.or_eq_false_iff, Bool.and_eq_false_iff, Bool.not_eq_true', Bool.not_eq_false', Bool.not_eq_true, Bool.not_eq_false, beq_iff_eq, beq_eq_false_iff_ne, bne_iff_ne, ne_eq, implies_true, and_true, true_and] at *
  all_goals ((repeat' (first | exact trivial | apply And.intro | intro _)) <;> first | trivial | omega | exact Sp.tmod_nn (by omega) | exact Sp.tmod_lt (by omega) (by omega)))) (fun k x => by kernel_rfl) so49_4
def ct49 : Ct := { p := (Ty.pair ty25 ty52), psh := [some 8, some 8], r := ty4, rsh := (Rsh.one (none)), pre := none, fresh := none, F := Sp.F49 }
theorem ok49 : CtOk Try.prog gdS 49 ct49 :=
  fn_okU (ctxOkZ (zkokZmG0 true) pgokPmG0 fvok_none gokGmH0 []) rfl Try.func49 (p := (Ty.pair ty25 ty52)) (psh := [some 8, some 8]) (r := ty4) (rsh := (Rsh.one (none))) (pre := none) (fresh := none) (F := Sp.F49) (L := (lookL [(4, LS49_4)])) (c := bodyOf Try.f49) (dflt := Ty.dflt ty4) rfl (loops_of (l := [bodyAt (bodyOf Try.f49) [0]]) (by kernel_rfl) (loops_cons (s0 := LS49_4) (by kernel_rfl) lo49_4 (loops_nil)))
    (fun x fx _ => slim_of (S := ((((((!(Sp.F53 (x.1, x.2.1))) || (!(Sp.F53 (x.1, x.2.2.1)))) || (!(Sp.F54 (x.2.2.2.2.2.1, (65535 : Int))))) || (((x.2.2.2.2.2.2).length : Int) != ((x.1.2.2.2.2.2.2.2).length : Int))) = false → (Sp.in49_4 (x.2.2.2.2.2.2, ((x.2.2.2.2.2.2).length : Int), x.1) (0 : Int))))) (by kernel_rfl) (by
  try dsimp only [Ty.den] at *
  simp only [Fit, maxLen] at fx
  simp only [Sp.in49_4, Sp.put1, Sp.put2, Sp.put4, Sp.put8, Sp.calls1, Sp.calls2, Sp.flags_row, Sp.ce_len, Sp.le_len, List.length_append, List.length_cons, List.length_nil, IntKind.wrap_i64, IntKind.wrap_u8, IntKind.wrap_u32, IntKind.wrap_u64, Sp.tmod_lit, Sp.tdiv_lit, bne_eq_false_iff_eq, Int.natCast_inj, setE, copyL, sliceL, zrow, List.length_append, List.length_cons, List.length_nil, List.length_set, List.length_replicate, List.length_take, List.length_drop, decide_eq_true_eq, decide_eq_false_iff_not, Bool.or_eq_true, Bool.and_eq_true, Bool.or_eq_false_iff, Bool.and_eq_false_iff, Bool.not_eq_true', Bool.not_eq_false', Bool.not_eq_true, Bool.not_eq_false, beq_iff_eq, beq_eq_false_iff_ne, bne_iff_ne, ne_eq, implies_true, and_true, true_and] at *
  all_goals ((repeat' (first | exact trivial | apply And.intro | intro _)) <;> first | trivial | omega | exact Sp.tmod_nn (by omega) | exact Sp.tmod_lt (by omega) (by omega)))) (fun x => by kernel_rfl)
def GmH1 : List (Nat × Ct) := (55, ct55) :: (33, ct33) :: (49, ct49) :: GmH0
theorem gokGmH1 : GOk GmH1 := gok_cons ok55 ⟨_, Try.func55, by kernel_rfl, by kernel_rfl⟩ (gok_cons ok33 ⟨_, Try.func33, by kernel_rfl, by kernel_rfl⟩ (gok_cons ok49 ⟨_, Try.func49, by kernel_rfl, by kernel_rfl⟩ (gokGmH0)))
end Go.Proofs.Ytbnihoioblmgkaa.Sy
end

section
/- Contracts of functions, by the evaluator (own program gen.py): frame.isIn, frame.Out, crc.Open. -/
set_option linter.unusedVariables false
set_option linter.unusedSimpArgs false
set_option maxRecDepth 100000
namespace Go.Proofs.Ytbnihoioblmgkaa.Sp
open Go Go.RowKit Sy
def in28_5 (k : ((List ((Int × Bool × Bool × Bool × Bool) × (Int × Bool × Int × Bool) × Int × Nat)) × Int × BldT)) (x : (Int)) : Prop := (0 : Int) ≤ x ∧ k.2.1 = ((k.1).length : Int) ∧ 2 ≤ k.2.2.1 ∧ k.2.2.1 ≤ 32
def mu28_5 (k : ((List ((Int × Bool × Bool × Bool × Bool) × (Int × Bool × Int × Bool) × Int × Nat)) × Int × BldT)) (x : (Int)) : Nat := (k.2.1 - x).toNat
def st28_5 (k : ((List ((Int × Bool × Bool × Bool × Bool) × (Int × Bool × Int × Bool) × Int × Nat)) × Int × BldT)) (x : (Int)) : BOut ((List ((Int × Bool × Bool × Bool × Bool) × (Int × Bool × Int × Bool) × Int × Nat)) × Int × BldT) (Int) (Bool) :=
  bif (decide (x < k.2.1)) then
    (bif (!(Sp.F55 (k.2.2, (Sp.nthT k.1 x)))) then
      BOut.ret false
    else
      BOut.next k (IntKind.i64.wrap (x + (1 : Int))))
  else
    BOut.brk k x
def G28_5 (k : ((List ((Int × Bool × Bool × Bool × Bool) × (Int × Bool × Int × Bool) × Int × Nat)) × Int × BldT)) (x : (Int)) : (Int) := endOf st28_5 k (Nat.succ (mu28_5 k x)) x
def R28_5 (k : ((List ((Int × Bool × Bool × Bool × Bool) × (Int × Bool × Int × Bool) × Int × Nat)) × Int × BldT)) (x : (Int)) : Option (Bool) := retOf st28_5 k (Nat.succ (mu28_5 k x)) x
def F28 (x : (BldT) × (Int × Int) × (Int × Int) × List ((Int × Bool × Bool × Bool × Bool) × (Int × Bool × Int × Bool) × Int × Nat)) : Bool :=
  bif (((((!(Sp.F53 (x.1, x.2.1))) || (!(Sp.F54 (x.2.2.1.1, (8 : Int))))) || (!(Sp.F54 (x.2.2.1.2, (IntKind.i64.wrap (((x.1.2.2.2.2.2.2.2).length : Int) - (1 : Int))))))) || ((x.2.2.1.1 == (0 : Int)) && (x.2.2.1.2 != (0 : Int)))) || (((x.2.2.2).length : Int) != ((x.1.2.2.2.2.2.2.2).length : Int))) then
    false
  else
    Sp.optR (Sp.R28_5 (x.2.2.2, ((x.2.2.2).length : Int), x.1) (0 : Int)) (fun y => y)
    (true)
def pre28 (x : (BldT) × (Int × Int) × (Int × Int) × List ((Int × Bool × Bool × Bool × Bool) × (Int × Bool × Int × Bool) × Int × Nat)) : Prop := 2 ≤ x.1.1 ∧ x.1.1 ≤ 32
def in23_8 (k : ((List (((Int × Int) × Bool) × (Int × Int) × Bool × Int × Int × Bool)) × Int)) (x : (Int × List Int)) : Prop := (0 : Int) ≤ x.1 ∧ x.1 ≤ k.2 ∧ k.2 = ((k.1).length : Int) ∧ k.2 ≤ 30 ∧ (x.2.length : Int) = 21 + 19 * x.1
def mu23_8 (k : ((List (((Int × Int) × Bool) × (Int × Int) × Bool × Int × Int × Bool)) × Int)) (x : (Int × List Int)) : Nat := (k.2 - x.1).toNat
def K23_8_1 (k : ((List (((Int × Int) × Bool) × (Int × Int) × Bool × Int × Int × Bool)) × Int)) (x : (Int × List Int)) :=
  (Sp.FW30 ((IntKind.u64.wrap ((Sp.nthT k.1 x.1).2.2.2.2.1)), (1 : Int)) (Sp.FW30 ((IntKind.u64.wrap ((Sp.nthT k.1 x.1).2.2.2.1)), (1 : Int)) (Sp.FW31 [(Sp.nthT k.1 x.1).1.2, (Sp.nthT k.1 x.1).2.2.1, (Sp.nthT k.1 x.1).2.2.2.2.2] (Sp.FW29 [(Sp.nthT k.1 x.1).1.1, (Sp.nthT k.1 x.1).2.1] x.2))))
def st23_8 (k : ((List (((Int × Int) × Bool) × (Int × Int) × Bool × Int × Int × Bool)) × Int)) (x : (Int × List Int)) : BOut ((List (((Int × Int) × Bool) × (Int × Int) × Bool × Int × Int × Bool)) × Int) (Int × List Int) (ByteArray × Int) :=
  bif (decide (x.1 < k.2)) then
    BOut.next k ((IntKind.i64.wrap (x.1 + (1 : Int))), (Sp.K23_8_1 k x))
  else
    BOut.brk k x
def G23_8 (k : ((List (((Int × Int) × Bool) × (Int × Int) × Bool × Int × Int × Bool)) × Int)) (x : (Int × List Int)) : (Int × List Int) := endOf st23_8 k (Nat.succ (mu23_8 k x)) x
def K23_1 (x : (BldT) × (Int × Int) × (Int × Int) × Bool × Bool × Int × List (((Int × Int) × Bool) × (Int × Int) × Bool × Int × Int × Bool)) :=
  (Sp.G23_8 (x.2.2.2.2.2.2, ((x.2.2.2.2.2.2).length : Int)) ((0 : Int), (Sp.FW30 ((IntKind.u64.wrap x.2.2.2.2.2.1), (2 : Int)) (Sp.FW31 [x.2.2.2.1, x.2.2.2.2.1] (Sp.FW29 [x.2.1, x.2.2.1] [(90 : Int), (IntKind.u8.wrap ((x.1.2.2.2.2.2.2.2).length : Int))])))))
def F23 (x : (BldT) × (Int × Int) × (Int × Int) × Bool × Bool × Int × List (((Int × Int) × Bool) × (Int × Int) × Bool × Int × Int × Bool)) : ByteArray × Int :=
  bif (((Sp.F27 x.1) != (0 : Int)) || (!(Sp.F49 x))) then
    ((ByteArray.mk #[]), (1 : Int))
  else
    ((Sp.F33 (bts ((Sp.K23_1 x).2))), (0 : Int))
def pre23 (x : (BldT) × (Int × Int) × (Int × Int) × Bool × Bool × Int × List (((Int × Int) × Bool) × (Int × Int) × Bool × Int × Int × Bool)) : Prop := x.2.2.2.2.2.2.length ≤ 30 ∧ x.1.2.2.2.2.2.2.2.length ≤ 30
def F60 (x : ByteArray) : ByteArray × Int :=
  bif (decide ((IntKind.i64.wrap (((x).size : Int) - (2 : Int))) < (0 : Int))) then
    ((ByteArray.mk #[]), (4 : Int))
  else
    bif (!strEq (Sp.F33 (ByteArray.extract x (Int.toNat (0 : Int)) (Int.toNat (IntKind.i64.wrap (((x).size : Int) - (2 : Int)))))) x) then
      ((ByteArray.mk #[]), (5 : Int))
    else
      ((ByteArray.extract x (Int.toNat (0 : Int)) (Int.toNat (IntKind.i64.wrap (((x).size : Int) - (2 : Int))))), (0 : Int))
def pre60 (x : ByteArray) : Prop := x.size ≤ 99990
end Go.Proofs.Ytbnihoioblmgkaa.Sp
namespace Go.Proofs.Ytbnihoioblmgkaa.Sy
open Go Go.RowKit Sp
def LS28_5 : LS ty4.den := mkLS (Ty.pair ty31 (Ty.pair ty3 ty25)) ty3  [(51, none), (52, none)] [(2, 8)] [(53, none)] [] [] [] [(2, 2)] 0 true Sp.in28_5 Sp.st28_5 Sp.mu28_5
set_option maxHeartbeats 4000000 in
theorem so28_5 (k : (Ty.pair ty31 (Ty.pair ty3 ty25)).den) (x : ty3.den) (fk : Fit (Ty.pair ty31 (Ty.pair ty3 ty25)) k) (h : Sp.in28_5 k x) : StepOk true Sp.in28_5 Sp.mu28_5 k x (Sp.st28_5 k x) := by
  try dsimp only [Ty.den] at *
  simp only [Sp.in28_5, Fit, maxLen] at h fk
  unfold Sp.st28_5
  (repeat' (first | exact rfl | (refine StepOk.cnd (fun hc => ?_) (fun hc => ?_) <;> (try simp only [IntKind.wrap_i64, IntKind.wrap_u8, IntKind.wrap_u32, IntKind.wrap_u64, bne_eq_false_iff_eq, Int.natCast_inj, setE, copyL, sliceL, zrow, List.length_append, List.length_cons, List.length_nil, List.length_set, List.length_replicate, List.length_take, List.length_drop, decide_eq_true_eq, decide_eq_false_iff_not, Bool.or_eq_true, Bool.and_eq_true, Bool.or_eq_false_iff, Bool.and_eq_false_iff, Bool.not_eq_true', Bool.not_eq_false', Bool.not_eq_true, Bool.not_eq_false, beq_iff_eq, beq_eq_false_iff_ne, bne_iff_ne, ne_eq] at hc)) | refine StepOk.opt (fun _ => ?_))) <;> (first | exact rfl | (refine ⟨rfl, ?_, ?_⟩ <;> simp only [Sp.in28_5, Sp.mu28_5, Sp.put1, Sp.put2, Sp.put4, Sp.put8, Sp.calls1, Sp.calls2, Sp.flags_row, Sp.ce_len, Sp.le_len, List.length_append, List.length_cons, List.length_nil, IntKind.wrap_i64, IntKind.wrap_u8, IntKind.wrap_u32, IntKind.wrap_u64, Sp.tmod_lit, Sp.tdiv_lit, bne_eq_false_iff_eq, Int.natCast_inj, setE, copyL, sliceL, zrow, List.length_append, List.length_cons, List.length_nil, List.length_set, List.length_replicate, List.length_take, List.length_drop, decide_eq_true_eq, decide_eq_false_iff_not, Bool.or_eq_true, Bool.and_eq_true, Bool.or_eq_false_iff, Bool.and_eq_false_iff, Bool.not_eq_true', Bool.not_eq_false', Bool.not_eq_true, Bool.not_eq_false, beq_iff_eq, beq_eq_false_iff_ne, bne_iff_ne, ne_eq] <;> first | omega | (and_intros <;> first | omega | exact h.1 | exact h.2 | exact h.2.1 | exact h.2.2 | exact h.2.2.1 | exact h.2.2.2 | exact h.2.2.2.1 | exact h.2.2.2.2 | exact h.2.2.2.2.1 | exact h.2.2.2.2.2 | exact h.2.2.2.2.2.1 | exact h.2.2.2.2.2.2)))
set_option maxHeartbeats 4000000 in
theorem lo28_5 : LoopOk Try.prog gdS (RetAt Try.prog Try.f28 (Rsh.one (none)) none ty4) (bodyAt (bodyOf Try.f28) [0]) LS28_5 :=
  loop_run (ctxOkZ (zkokZmG0 true) pgokPmG0 fvok_none gokGmH1 []) (L := lookL []) (d := BOut.brk (Ty.dflt (Ty.pair ty31 (Ty.pair ty3 ty25))) (Ty.dflt ty3)) (loops_of (l := []) (by kernel_rfl) (loops_nil)) (fun k x fk fx h => slim_of (S := (((decide (x < k.2.1)) = true → ((0 ≤ x ∧ x < ((k.1).length : Int)) ∧ (Sp.pre55 (k.2.2, (Sp.nthT k.1 x))))))) (by kernel_rfl) (by
  try dsimp only [Ty.den] at *
  simp only [Sp.in28_5, Fit, maxLen] at h fk fx
  simp only [Sp.pre55, Sp.put1, Sp.put2, Sp.put4, Sp.put8, Sp.calls1, Sp.calls2, Sp.flags_row, Sp.ce_len, Sp.le_len, List.length_append, List.length_cons, List.length_nil, IntKind.wrap_i64, IntKind.wrap_u8, IntKind.wrap_u32, IntKind.wrap_u64, Sp.tmod_lit, Sp.tdiv_lit, bne_eq_false_iff_eq, Int.natCast_inj, setE, copyL, sliceL, zrow, List.length_append, List.length_cons, List.length_nil, List.length_set, List.length_replicate, List.length_take, List.length_drop, decide_eq_true_eq, decide_eq_false_iff_not, Bool.or_eq_true, Bool.and_eq_true, Bool.or_eq_false_iff, Bool.and_eq_false_iff, Bool.not_eq_true', Bool.not_eq_false', Bool.not_eq_true, Bool.not_eq_false, beq_iff_eq, beq_eq_false_iff_ne, bne_iff_ne, ne_eq, implies_true, and_true, true_and] at *
  all_goals ((repeat' (first | exact trivial | apply And.intro | intro _)) <;> first | trivial | omega | exact Sp.tmod_nn (by omega) | exact Sp.tmod_lt (by omega) (by omega)))) (fun k x => by kernel_rfl) so28_5
def ct28 : Ct := { p := (Ty.pair ty25 ty33), psh := [some 8, some 5], r := ty4, rsh := (Rsh.one (none)), pre := some Sp.pre28, fresh := none, F := Sp.F28 }
theorem ok28 : CtOk Try.prog gdS 28 ct28 :=
  fn_okU (ctxOkZ (zkokZmG0 true) pgokPmG0 fvok_none gokGmH1 []) rfl Try.func28 (p := (Ty.pair ty25 ty33)) (psh := [some 8, some 5]) (r := ty4) (rsh := (Rsh.one (none))) (pre := some Sp.pre28) (fresh := none) (F := Sp.F28) (L := (lookL [(5, LS28_5)])) (c := bodyOf Try.f28) (dflt := Ty.dflt ty4) rfl (loops_of (l := [bodyAt (bodyOf Try.f28) [0]]) (by kernel_rfl) (loops_cons (s0 := LS28_5) (by kernel_rfl) lo28_5 (loops_nil)))
    (fun x fx hq => have h := hq _ rfl; slim_of (S := (((((((!(Sp.F53 (x.1, x.2.1))) || (!(Sp.F54 (x.2.2.1.1, (8 : Int))))) || (!(Sp.F54 (x.2.2.1.2, (IntKind.i64.wrap (((x.1.2.2.2.2.2.2.2).length : Int) - (1 : Int))))))) || ((x.2.2.1.1 == (0 : Int)) && (x.2.2.1.2 != (0 : Int)))) || (((x.2.2.2).length : Int) != ((x.1.2.2.2.2.2.2.2).length : Int))) = false → (Sp.in28_5 (x.2.2.2, ((x.2.2.2).length : Int), x.1) (0 : Int))))) (by kernel_rfl) (by
  try dsimp only [Ty.den] at *
  simp only [Fit, maxLen] at fx
  simp only [Sp.in28_5, Sp.pre28, Sp.pre55, Sp.put1, Sp.put2, Sp.put4, Sp.put8, Sp.calls1, Sp.calls2, Sp.flags_row, Sp.ce_len, Sp.le_len, List.length_append, List.length_cons, List.length_nil, IntKind.wrap_i64, IntKind.wrap_u8, IntKind.wrap_u32, IntKind.wrap_u64, Sp.tmod_lit, Sp.tdiv_lit, bne_eq_false_iff_eq, Int.natCast_inj, setE, copyL, sliceL, zrow, List.length_append, List.length_cons, List.length_nil, List.length_set, List.length_replicate, List.length_take, List.length_drop, decide_eq_true_eq, decide_eq_false_iff_not, Bool.or_eq_true, Bool.and_eq_true, Bool.or_eq_false_iff, Bool.and_eq_false_iff, Bool.not_eq_true', Bool.not_eq_false', Bool.not_eq_true, Bool.not_eq_false, beq_iff_eq, beq_eq_false_iff_ne, bne_iff_ne, ne_eq, implies_true, and_true, true_and] at *
  all_goals ((repeat' (first | exact trivial | apply And.intro | intro _)) <;> first | trivial | omega | exact Sp.tmod_nn (by omega) | exact Sp.tmod_lt (by omega) (by omega)))) (fun x => by kernel_rfl)
def LS23_8 : LS (Ty.pair ty9 ty37).den := mkLS (Ty.pair ty50 ty3) (Ty.pair ty3 ty77)  [(45, none), (46, none)] [] [(47, none)] [(24, 1)] [(1, 100801, false, 5)] [] [(6, 24), (24, 24)] 0 false Sp.in23_8 Sp.st23_8 Sp.mu23_8
set_option maxHeartbeats 4000000 in
theorem so23_8 (k : (Ty.pair ty50 ty3).den) (x : (Ty.pair ty3 ty77).den) (fk : Fit (Ty.pair ty50 ty3) k) (h : Sp.in23_8 k x) : StepOk false Sp.in23_8 Sp.mu23_8 k x (Sp.st23_8 k x) := by
  try dsimp only [Ty.den] at *
  unfold Sp.in23_8 at h
  unfold Sp.st23_8
  refine StepOk.cnd (fun hc => ?_) (fun _ => rfl)
  rw [decide_eq_true_eq] at hc
  have e : IntKind.i64.wrap (x.1 + 1) = x.1 + 1 := Sp.wrap_i64_of (by omega) (by omega)
  rw [e]
  refine ⟨rfl, ?_, ?_⟩
  · simp only [Sp.in23_8, Sp.K23_8_1, Sp.put1, Sp.put2, Sp.put4, Sp.put8, Sp.calls1, Sp.calls2, Sp.flags_row, Sp.ce_len, Sp.le_len, List.length_append, List.length_cons, List.length_nil, Sp.pre30, Sp.pre29, Sp.pre31]
    omega
  · simp only [Sp.mu23_8]
    omega
set_option maxHeartbeats 4000000 in
theorem lo23_8 : LoopOk Try.prog gdS (RetAt Try.prog Try.f23 (Rsh.tup [none, none]) none (Ty.pair ty9 ty37)) (bodyAt (bodyOf Try.f23) [0]) LS23_8 :=
  loop_run (ctxOkZ (zkokZmG0 true) pgokPmG0 fvok_none gokGmH1 []) (L := lookL []) (d := BOut.brk (Ty.dflt (Ty.pair ty50 ty3)) (Ty.dflt (Ty.pair ty3 ty77))) (loops_of (l := []) (by kernel_rfl) (loops_nil)) (fun k x fk fx h => safe_of (S := ((((decide (x.1 < k.2)) = true → ((0 ≤ x.1 ∧ x.1 < ((k.1).length : Int)) ∧ ((Sp.pre29 [(Sp.nthT k.1 x.1).1.1, (Sp.nthT k.1 x.1).2.1] x.2) ∧ ((Sp.pre31 [(Sp.nthT k.1 x.1).1.2, (Sp.nthT k.1 x.1).2.2.1, (Sp.nthT k.1 x.1).2.2.2.2.2] (Sp.FW29 [(Sp.nthT k.1 x.1).1.1, (Sp.nthT k.1 x.1).2.1] x.2)) ∧ ((Sp.pre30 ((IntKind.u64.wrap ((Sp.nthT k.1 x.1).2.2.2.1)), (1 : Int)) (Sp.FW31 [(Sp.nthT k.1 x.1).1.2, (Sp.nthT k.1 x.1).2.2.1, (Sp.nthT k.1 x.1).2.2.2.2.2] (Sp.FW29 [(Sp.nthT k.1 x.1).1.1, (Sp.nthT k.1 x.1).2.1] x.2))) ∧ ((Sp.pre30 ((IntKind.u64.wrap ((Sp.nthT k.1 x.1).2.2.2.2.1)), (1 : Int)) (Sp.FW30 ((IntKind.u64.wrap ((Sp.nthT k.1 x.1).2.2.2.1)), (1 : Int)) (Sp.FW31 [(Sp.nthT k.1 x.1).1.2, (Sp.nthT k.1 x.1).2.2.1, (Sp.nthT k.1 x.1).2.2.2.2.2] (Sp.FW29 [(Sp.nthT k.1 x.1).1.1, (Sp.nthT k.1 x.1).2.1] x.2)))) ∧ True)))))) ∧ ((decide (x.1 < k.2)) = false → True)))) (by kernel_rfl) (by
  try dsimp only [Ty.den] at *
  unfold Sp.in23_8 at h
  simp only [Sp.put1, Sp.put2, Sp.put4, Sp.put8, Sp.calls1, Sp.calls2, Sp.flags_row, Sp.ce_len, Sp.le_len, List.length_append, List.length_cons, List.length_nil, Sp.pre30, Sp.pre29, Sp.pre31, decide_eq_true_eq, decide_eq_false_iff_not] at *
  (repeat' (first | exact trivial | apply And.intro | intro _)) <;> first | trivial | omega)) (fun k x => by kernel_rfl) so23_8
def ct23 : Ct := { p := (Ty.pair ty25 ty52), psh := [some 8, some 8], r := (Ty.pair ty9 ty37), rsh := (Rsh.tup [none, none]), pre := some Sp.pre23, fresh := none, F := Sp.F23 }
theorem ok23 : CtOk Try.prog gdS 23 ct23 :=
  fn_okU (ctxOkZ (zkokZmG0 true) pgokPmG0 fvok_none gokGmH1 []) rfl Try.func23 (p := (Ty.pair ty25 ty52)) (psh := [some 8, some 8]) (r := (Ty.pair ty9 ty37)) (rsh := (Rsh.tup [none, none])) (pre := some Sp.pre23) (fresh := none) (F := Sp.F23) (L := (lookL [(8, LS23_8)])) (c := bodyOf Try.f23) (dflt := Ty.dflt (Ty.pair ty9 ty37)) rfl (loops_of (l := [bodyAt (bodyOf Try.f23) [0]]) (by kernel_rfl) (loops_cons (s0 := LS23_8) (by kernel_rfl) lo23_8 (loops_nil)))
    (fun x fx hq => have h := hq _ rfl; safe_of (S := ((((((Sp.F27 x.1) != (0 : Int)) || (!(Sp.F49 x))) = true → True) ∧ ((((Sp.F27 x.1) != (0 : Int)) || (!(Sp.F49 x))) = false → ((Sp.pre29 [x.2.1, x.2.2.1] [(90 : Int), (IntKind.u8.wrap ((x.1.2.2.2.2.2.2.2).length : Int))]) ∧ ((Sp.pre31 [x.2.2.2.1, x.2.2.2.2.1] (Sp.FW29 [x.2.1, x.2.2.1] [(90 : Int), (IntKind.u8.wrap ((x.1.2.2.2.2.2.2.2).length : Int))])) ∧ ((Sp.pre30 ((IntKind.u64.wrap x.2.2.2.2.2.1), (2 : Int)) (Sp.FW31 [x.2.2.2.1, x.2.2.2.2.1] (Sp.FW29 [x.2.1, x.2.2.1] [(90 : Int), (IntKind.u8.wrap ((x.1.2.2.2.2.2.2.2).length : Int))]))) ∧ ((Sp.in23_8 (x.2.2.2.2.2.2, ((x.2.2.2.2.2.2).length : Int)) ((0 : Int), (Sp.FW30 ((IntKind.u64.wrap x.2.2.2.2.2.1), (2 : Int)) (Sp.FW31 [x.2.2.2.1, x.2.2.2.2.1] (Sp.FW29 [x.2.1, x.2.2.1] [(90 : Int), (IntKind.u8.wrap ((x.1.2.2.2.2.2.2.2).length : Int))]))))) ∧ ((Sp.pre33 (bts ((Sp.K23_1 x).2))) ∧ True))))))))) (by kernel_rfl) (by
  try dsimp only [Ty.den] at *
  unfold Sp.pre23 at h
  refine ⟨fun _ => trivial, fun hc => ?_⟩
  have hin : Sp.in23_8 (x.2.2.2.2.2.2, ((x.2.2.2.2.2.2).length : Int)) ((0 : Int), (Sp.FW30 ((IntKind.u64.wrap x.2.2.2.2.2.1), (2 : Int)) (Sp.FW31 [x.2.2.2.1, x.2.2.2.2.1] (Sp.FW29 [x.2.1, x.2.2.1] [(90 : Int), (IntKind.u8.wrap ((x.1.2.2.2.2.2.2.2).length : Int))])))) := by
    simp only [Sp.in23_8, Sp.put1, Sp.put2, Sp.put4, Sp.put8, Sp.calls1, Sp.calls2, Sp.flags_row, Sp.ce_len, Sp.le_len, List.length_append, List.length_cons, List.length_nil, Sp.pre30, Sp.pre29, Sp.pre31, true_and, and_true]
    omega
  have hI := Sp.end_inv (step := Sp.st23_8) (k := (x.2.2.2.2.2.2, ((x.2.2.2.2.2.2).length : Int))) (I := Sp.in23_8 (x.2.2.2.2.2.2, ((x.2.2.2.2.2.2).length : Int))) (fun y k' z hy hz => by
      have h0 := so23_8 (x.2.2.2.2.2.2, ((x.2.2.2.2.2.2).length : Int)) y ⟨fx.2.2.2.2.2.2, trivial⟩ hy
      rw [hz] at h0
      exact h0.2.1) (fun y k' z hy hz => by
      unfold Sp.st23_8 at hz
      cases hd : decide (y.1 < (x.2.2.2.2.2.2, ((x.2.2.2.2.2.2).length : Int)).2) with
      | true => rw [hd] at hz; cases hz
      | false => rw [hd] at hz; cases hz; exact hy) (Nat.succ (Sp.mu23_8 (x.2.2.2.2.2.2, ((x.2.2.2.2.2.2).length : Int)) ((0 : Int), (Sp.FW30 ((IntKind.u64.wrap x.2.2.2.2.2.1), (2 : Int)) (Sp.FW31 [x.2.2.2.1, x.2.2.2.2.1] (Sp.FW29 [x.2.1, x.2.2.1] [(90 : Int), (IntKind.u8.wrap ((x.1.2.2.2.2.2.2.2).length : Int))])))))) _ hin
  have hlen : ((Sp.K23_1 x).2.length : Int) ≤ 1000 := by
    have h1 : Sp.in23_8 (x.2.2.2.2.2.2, ((x.2.2.2.2.2.2).length : Int)) (Sp.K23_1 x) := hI
    obtain ⟨_, h2, _, h4, h5⟩ := h1
    have h2 : (Sp.K23_1 x).1 ≤ ((x.2.2.2.2.2.2).length : Int) := h2
    have h4 : ((x.2.2.2.2.2.2).length : Int) ≤ 30 := h4
    have h5 : ((Sp.K23_1 x).2.length : Int) = 21 + 19 * (Sp.K23_1 x).1 := h5
    omega
  refine ⟨?_, ?_, ?_, hin, ?_, trivial⟩
  · simp only [Sp.put1, Sp.put2, Sp.put4, Sp.put8, Sp.calls1, Sp.calls2, Sp.flags_row, Sp.ce_len, Sp.le_len, List.length_append, List.length_cons, List.length_nil, Sp.pre30, Sp.pre29, Sp.pre31]; omega
  · simp only [Sp.put1, Sp.put2, Sp.put4, Sp.put8, Sp.calls1, Sp.calls2, Sp.flags_row, Sp.ce_len, Sp.le_len, List.length_append, List.length_cons, List.length_nil, Sp.pre30, Sp.pre29, Sp.pre31]; omega
  · simp only [Sp.put1, Sp.put2, Sp.put4, Sp.put8, Sp.calls1, Sp.calls2, Sp.flags_row, Sp.ce_len, Sp.le_len, List.length_append, List.length_cons, List.length_nil, Sp.pre30, Sp.pre29, Sp.pre31]; omega
  · show (bts _).size ≤ 99990
    rw [Sp.bts_size]
    omega)) (fun x => by kernel_rfl)
def ct60 : Ct := { p := ty9, psh := [none], r := (Ty.pair ty9 ty37), rsh := (Rsh.tup [none, none]), pre := some Sp.pre60, fresh := none, F := Sp.F60 }
theorem ok60 : CtOk Try.prog gdS 60 ct60 :=
  fn_okU (ctxOkZ (zkokZmG0 true) pgokPmG0 fvok_none gokGmH1 []) rfl Try.func60 (p := ty9) (psh := [none]) (r := (Ty.pair ty9 ty37)) (rsh := (Rsh.tup [none, none])) (pre := some Sp.pre60) (fresh := none) (F := Sp.F60) (L := noL) (c := bodyOf Try.f60) (dflt := Ty.dflt (Ty.pair ty9 ty37)) rfl (no_loops)
    (fun x fx hq => have h := hq _ rfl; safe_of (S := ((((decide ((IntKind.i64.wrap (((x).size : Int) - (2 : Int))) < (0 : Int))) = true → True) ∧ ((decide ((IntKind.i64.wrap (((x).size : Int) - (2 : Int))) < (0 : Int))) = false → ((0 ≤ (0 : Int) ∧ (0 : Int) ≤ (IntKind.i64.wrap (((x).size : Int) - (2 : Int))) ∧ (IntKind.i64.wrap (((x).size : Int) - (2 : Int))) ≤ ((x).size : Int)) ∧ ((Sp.pre33 (ByteArray.extract x (Int.toNat (0 : Int)) (Int.toNat (IntKind.i64.wrap (((x).size : Int) - (2 : Int)))))) ∧ (((!strEq (Sp.F33 (ByteArray.extract x (Int.toNat (0 : Int)) (Int.toNat (IntKind.i64.wrap (((x).size : Int) - (2 : Int)))))) x) = true → True) ∧ ((!strEq (Sp.F33 (ByteArray.extract x (Int.toNat (0 : Int)) (Int.toNat (IntKind.i64.wrap (((x).size : Int) - (2 : Int)))))) x) = false → ((0 ≤ (0 : Int) ∧ (0 : Int) ≤ (IntKind.i64.wrap (((x).size : Int) - (2 : Int))) ∧ (IntKind.i64.wrap (((x).size : Int) - (2 : Int))) ≤ ((x).size : Int)) ∧ True))))))))) (by kernel_rfl) (by
  try dsimp only [Ty.den] at *
  have h : x.size ≤ 99990 := h
  have e : IntKind.i64.wrap ((x.size : Int) - 2) = (x.size : Int) - 2 := Sp.wrap_i64_of (by omega) (by omega)
  simp only [e, decide_eq_true_eq, decide_eq_false_iff_not, Sp.pre33, Sp.extract_size]
  (repeat' (first | exact trivial | apply And.intro | intro _)) <;> first | trivial | omega)) (fun x => by kernel_rfl)
def GmH2 : List (Nat × Ct) := (28, ct28) :: (23, ct23) :: (60, ct60) :: GmH1
theorem gokGmH2 : GOk GmH2 := gok_cons ok28 ⟨_, Try.func28, by kernel_rfl, by kernel_rfl⟩ (gok_cons ok23 ⟨_, Try.func23, by kernel_rfl, by kernel_rfl⟩ (gok_cons ok60 ⟨_, Try.func60, by kernel_rfl, by kernel_rfl⟩ (gokGmH1)))
end Go.Proofs.Ytbnihoioblmgkaa.Sy
end

section
/- What is opened is shorter (own work). -/
namespace Go.Proofs.Ytbnihoioblmgkaa.Sp
open Go Sy
set_option linter.unusedVariables false
set_option linter.unusedSimpArgs false
theorem copen_eq (s : ByteArray) (h : s.size ≤ 1000000) : F60 s = if s.size < 2 then (ByteArray.empty, 4) else if F33 (s.extract 0 (s.size - 2)) = s then (s.extract 0 (s.size - 2), 0) else (ByteArray.empty, 5) := by
  unfold F60
  have e : IntKind.i64.wrap ((s.size : Int) - 2) = (s.size : Int) - 2 := wrap_i64_of (by omega) (by omega)
  simp only [e]
  by_cases h1 : s.size < 2
  · rw [if_pos h1]
    have : decide ((s.size : Int) - 2 < 0) = true := by simp; omega
    rw [this]
    rfl
  · rw [if_neg h1]
    have : decide ((s.size : Int) - 2 < 0) = false := by simp; omega
    rw [this]
    have e2 : Int.toNat ((s.size : Int) - 2) = s.size - 2 := by omega
    simp only [cond_false, e2, Int.toNat_zero]
    by_cases h2 : F33 (s.extract 0 (s.size - 2)) = s
    · rw [if_pos h2, h2, strEq_self]; rfl
    · rw [if_neg h2]
      have : strEq (F33 (s.extract 0 (s.size - 2))) s = false := by
        cases h3 : strEq (F33 (s.extract 0 (s.size - 2))) s with
        | false => rfl
        | true => exact absurd ((strEq_iff _ _).1 h3) h2
      rw [this]; rfl
theorem copen_size {s : ByteArray} (h : (F60 s).2 = 0) (h2 : s.size ≤ 1000000) : (F60 s).1.size = s.size - 2 ∧ 2 ≤ s.size := by
  rw [copen_eq s h2] at h ⊢
  by_cases h1 : s.size < 2
  · rw [if_pos h1] at h; cases h
  · rw [if_neg h1] at h ⊢
    split at h
    · rename_i h3
      rw [if_pos h3]
      simp only [extract_size]
      omega
    · cases h
end Go.Proofs.Ytbnihoioblmgkaa.Sp
end

section
/- Contracts of functions, by the evaluator (own program gen.py): frame.In, frame.open. -/
set_option linter.unusedVariables false
set_option linter.unusedSimpArgs false
set_option maxRecDepth 100000
namespace Go.Proofs.Ytbnihoioblmgkaa.Sp
open Go Go.RowKit Sy
def in11_8 (k : ((List ((Int × Bool × Bool × Bool × Bool) × (Int × Bool × Int × Bool) × Int × Nat)) × Int)) (x : (Int × List Int)) : Prop := (0 : Int) ≤ x.1 ∧ x.1 ≤ k.2 ∧ k.2 = ((k.1).length : Int) ∧ k.2 ≤ 30 ∧ (x.2.length : Int) = 12 + 19 * x.1
def mu11_8 (k : ((List ((Int × Bool × Bool × Bool × Bool) × (Int × Bool × Int × Bool) × Int × Nat)) × Int)) (x : (Int × List Int)) : Nat := (k.2 - x.1).toNat
def K11_8_1 (k : ((List ((Int × Bool × Bool × Bool × Bool) × (Int × Bool × Int × Bool) × Int × Nat)) × Int)) (x : (Int × List Int)) :=
  (Sp.FW30 ((IntKind.u64.wrap ((Sp.nthT k.1 x.1).2.1.1)), (1 : Int)) (Sp.FW31 [(Sp.nthT k.1 x.1).1.2.1, (Sp.nthT k.1 x.1).1.2.2.1, (Sp.nthT k.1 x.1).1.2.2.2.1, (Sp.nthT k.1 x.1).1.2.2.2.2, (Sp.nthT k.1 x.1).2.1.2.1, (Sp.nthT k.1 x.1).2.1.2.2.2] (Sp.FW30 ((IntKind.u64.wrap ((Sp.nthT k.1 x.1).1.1)), (4 : Int)) x.2)))
def st11_8 (k : ((List ((Int × Bool × Bool × Bool × Bool) × (Int × Bool × Int × Bool) × Int × Nat)) × Int)) (x : (Int × List Int)) : BOut ((List ((Int × Bool × Bool × Bool × Bool) × (Int × Bool × Int × Bool) × Int × Nat)) × Int) (Int × List Int) (ByteArray × Int) :=
  bif (decide (x.1 < k.2)) then
    BOut.next k ((IntKind.i64.wrap (x.1 + (1 : Int))), (Sp.FW30 ((((Sp.nthT k.1 x.1).2.2.2 : Nat) : Int), (8 : Int)) (Sp.FW30 ((IntKind.u64.wrap ((Sp.nthT k.1 x.1).2.2.1)), (4 : Int)) (Sp.FW30 ((IntKind.u64.wrap ((Sp.nthT k.1 x.1).2.1.2.2.1)), (1 : Int)) (Sp.K11_8_1 k x)))))
  else
    BOut.brk k x
def G11_8 (k : ((List ((Int × Bool × Bool × Bool × Bool) × (Int × Bool × Int × Bool) × Int × Nat)) × Int)) (x : (Int × List Int)) : (Int × List Int) := endOf st11_8 k (Nat.succ (mu11_8 k x)) x
def K11_1 (x : (BldT) × (Int × Int) × (Int × Int) × List ((Int × Bool × Bool × Bool × Bool) × (Int × Bool × Int × Bool) × Int × Nat)) :=
  (Sp.F33 (bts ((Sp.G11_8 (x.2.2.2, ((x.2.2.2).length : Int)) ((0 : Int), (Sp.FW30 ((IntKind.u64.wrap x.2.2.1.2), (1 : Int)) (Sp.FW30 ((IntKind.u64.wrap x.2.2.1.1), (1 : Int)) (Sp.FW29 [x.2.1] [(165 : Int), (IntKind.u8.wrap ((x.1.2.2.2.2.2.2.2).length : Int))]))))).2)))
def F11 (x : (BldT) × (Int × Int) × (Int × Int) × List ((Int × Bool × Bool × Bool × Bool) × (Int × Bool × Int × Bool) × Int × Nat)) : ByteArray × Int :=
  bif (((Sp.F27 x.1) != (0 : Int)) || (!(Sp.F28 x))) then
    ((ByteArray.mk #[]), (1 : Int))
  else
    ((Sp.K11_1 x), (0 : Int))
def pre11 (x : (BldT) × (Int × Int) × (Int × Int) × List ((Int × Bool × Bool × Bool × Bool) × (Int × Bool × Int × Bool) × Int × Nat)) : Prop := x.2.2.2.length ≤ 30 ∧ x.1.2.2.2.2.2.2.2.length ≤ 30
def FM38 (x : (BldT) × ByteArray × Int × Int) : Option (ByteArray × BldT) × Int :=
  bif ((Sp.F27 x.1) != (0 : Int)) then
    (none, (1 : Int))
  else
    bif (((x.2.1).size : Int) != x.2.2.1) then
      (none, (4 : Int))
    else
      bif (((strAt x.2.1 (0 : Int)) != x.2.2.2) || ((IntKind.i64.wrap (strAt x.2.1 (1 : Int))) != ((x.1.2.2.2.2.2.2.2).length : Int))) then
        (none, (30 : Int))
      else
        bif ((Sp.F60 x.2.1).2 != (0 : Int)) then
          (none, (Sp.F60 x.2.1).2)
        else
          (some ((ByteArray.extract ((Sp.F60 x.2.1).1) (Int.toNat (2 : Int)) (Int.toNat (((Sp.F60 x.2.1).1).size : Int))), x.1), 0)
def pre38 (x : (BldT) × ByteArray × Int × Int) : Prop := Sp.F27 x.1 = 0 → 14 ≤ x.2.2.1 ∧ x.2.2.1 ≤ 99000
end Go.Proofs.Ytbnihoioblmgkaa.Sp
namespace Go.Proofs.Ytbnihoioblmgkaa.Sy
open Go Go.RowKit Sp
def LS11_8 : LS (Ty.pair ty9 ty37).den := mkLS (Ty.pair ty31 ty3) (Ty.pair ty3 ty77)  [(45, none), (46, none)] [] [(47, none)] [(26, 1)] [(1, 100801, false, 5)] [] [(6, 26), (26, 26)] 0 false Sp.in11_8 Sp.st11_8 Sp.mu11_8
set_option maxHeartbeats 4000000 in
theorem so11_8 (k : (Ty.pair ty31 ty3).den) (x : (Ty.pair ty3 ty77).den) (fk : Fit (Ty.pair ty31 ty3) k) (h : Sp.in11_8 k x) : StepOk false Sp.in11_8 Sp.mu11_8 k x (Sp.st11_8 k x) := by
  try dsimp only [Ty.den] at *
  unfold Sp.in11_8 at h
  unfold Sp.st11_8
  refine StepOk.cnd (fun hc => ?_) (fun _ => rfl)
  rw [decide_eq_true_eq] at hc
  have e : IntKind.i64.wrap (x.1 + 1) = x.1 + 1 := Sp.wrap_i64_of (by omega) (by omega)
  rw [e]
  refine ⟨rfl, ?_, ?_⟩
  · simp only [Sp.in11_8, Sp.K11_8_1, Sp.put1, Sp.put2, Sp.put4, Sp.put8, Sp.calls1, Sp.calls2, Sp.flags_row, Sp.ce_len, Sp.le_len, List.length_append, List.length_cons, List.length_nil, Sp.pre30, Sp.pre29, Sp.pre31]
    omega
  · simp only [Sp.mu11_8]
    omega
set_option maxHeartbeats 4000000 in
theorem lo11_8 : LoopOk Try.prog gdS (RetAt Try.prog Try.f11 (Rsh.tup [none, none]) none (Ty.pair ty9 ty37)) (bodyAt (bodyOf Try.f11) [0]) LS11_8 :=
  loop_run (ctxOkZ (zkokZmG0 true) pgokPmG0 fvok_none gokGmH2 []) (L := lookL []) (d := BOut.brk (Ty.dflt (Ty.pair ty31 ty3)) (Ty.dflt (Ty.pair ty3 ty77))) (loops_of (l := []) (by kernel_rfl) (loops_nil)) (fun k x fk fx h => safe_of (S := ((((decide (x.1 < k.2)) = true → ((0 ≤ x.1 ∧ x.1 < ((k.1).length : Int)) ∧ ((Sp.pre30 ((IntKind.u64.wrap ((Sp.nthT k.1 x.1).1.1)), (4 : Int)) x.2) ∧ ((Sp.pre31 [(Sp.nthT k.1 x.1).1.2.1, (Sp.nthT k.1 x.1).1.2.2.1, (Sp.nthT k.1 x.1).1.2.2.2.1, (Sp.nthT k.1 x.1).1.2.2.2.2, (Sp.nthT k.1 x.1).2.1.2.1, (Sp.nthT k.1 x.1).2.1.2.2.2] (Sp.FW30 ((IntKind.u64.wrap ((Sp.nthT k.1 x.1).1.1)), (4 : Int)) x.2)) ∧ ((Sp.pre30 ((IntKind.u64.wrap ((Sp.nthT k.1 x.1).2.1.1)), (1 : Int)) (Sp.FW31 [(Sp.nthT k.1 x.1).1.2.1, (Sp.nthT k.1 x.1).1.2.2.1, (Sp.nthT k.1 x.1).1.2.2.2.1, (Sp.nthT k.1 x.1).1.2.2.2.2, (Sp.nthT k.1 x.1).2.1.2.1, (Sp.nthT k.1 x.1).2.1.2.2.2] (Sp.FW30 ((IntKind.u64.wrap ((Sp.nthT k.1 x.1).1.1)), (4 : Int)) x.2))) ∧ ((Sp.pre30 ((IntKind.u64.wrap ((Sp.nthT k.1 x.1).2.1.2.2.1)), (1 : Int)) (Sp.K11_8_1 k x)) ∧ ((Sp.pre30 ((IntKind.u64.wrap ((Sp.nthT k.1 x.1).2.2.1)), (4 : Int)) (Sp.FW30 ((IntKind.u64.wrap ((Sp.nthT k.1 x.1).2.1.2.2.1)), (1 : Int)) (Sp.K11_8_1 k x))) ∧ ((Sp.pre30 ((((Sp.nthT k.1 x.1).2.2.2 : Nat) : Int), (8 : Int)) (Sp.FW30 ((IntKind.u64.wrap ((Sp.nthT k.1 x.1).2.2.1)), (4 : Int)) (Sp.FW30 ((IntKind.u64.wrap ((Sp.nthT k.1 x.1).2.1.2.2.1)), (1 : Int)) (Sp.K11_8_1 k x)))) ∧ True)))))))) ∧ ((decide (x.1 < k.2)) = false → True)))) (by kernel_rfl) (by
  try dsimp only [Sp.K11_8_1, Ty.den] at *
  unfold Sp.in11_8 at h
  simp only [Sp.K11_8_1, Sp.put1, Sp.put2, Sp.put4, Sp.put8, Sp.calls1, Sp.calls2, Sp.flags_row, Sp.ce_len, Sp.le_len, List.length_append, List.length_cons, List.length_nil, Sp.pre30, Sp.pre29, Sp.pre31, decide_eq_true_eq, decide_eq_false_iff_not] at *
  (repeat' (first | exact trivial | apply And.intro | intro _)) <;> first | trivial | omega)) (fun k x => by kernel_rfl) so11_8
def ct11 : Ct := { p := (Ty.pair ty25 ty33), psh := [some 8, some 5], r := (Ty.pair ty9 ty37), rsh := (Rsh.tup [none, none]), pre := some Sp.pre11, fresh := none, F := Sp.F11 }
theorem ok11 : CtOk Try.prog gdS 11 ct11 :=
  fn_okU (ctxOkZ (zkokZmG0 true) pgokPmG0 fvok_none gokGmH2 []) rfl Try.func11 (p := (Ty.pair ty25 ty33)) (psh := [some 8, some 5]) (r := (Ty.pair ty9 ty37)) (rsh := (Rsh.tup [none, none])) (pre := some Sp.pre11) (fresh := none) (F := Sp.F11) (L := (lookL [(8, LS11_8)])) (c := bodyOf Try.f11) (dflt := Ty.dflt (Ty.pair ty9 ty37)) rfl (loops_of (l := [bodyAt (bodyOf Try.f11) [0]]) (by kernel_rfl) (loops_cons (s0 := LS11_8) (by kernel_rfl) lo11_8 (loops_nil)))
    (fun x fx hq => have h := hq _ rfl; safe_of (S := ((((((Sp.F27 x.1) != (0 : Int)) = false → Sp.pre28 x)) ∧ (((((Sp.F27 x.1) != (0 : Int)) || (!(Sp.F28 x))) = true → True) ∧ ((((Sp.F27 x.1) != (0 : Int)) || (!(Sp.F28 x))) = false → ((Sp.pre29 [x.2.1] [(165 : Int), (IntKind.u8.wrap ((x.1.2.2.2.2.2.2.2).length : Int))]) ∧ ((Sp.pre30 ((IntKind.u64.wrap x.2.2.1.1), (1 : Int)) (Sp.FW29 [x.2.1] [(165 : Int), (IntKind.u8.wrap ((x.1.2.2.2.2.2.2.2).length : Int))])) ∧ ((Sp.pre30 ((IntKind.u64.wrap x.2.2.1.2), (1 : Int)) (Sp.FW30 ((IntKind.u64.wrap x.2.2.1.1), (1 : Int)) (Sp.FW29 [x.2.1] [(165 : Int), (IntKind.u8.wrap ((x.1.2.2.2.2.2.2.2).length : Int))]))) ∧ ((Sp.in11_8 (x.2.2.2, ((x.2.2.2).length : Int)) ((0 : Int), (Sp.FW30 ((IntKind.u64.wrap x.2.2.1.2), (1 : Int)) (Sp.FW30 ((IntKind.u64.wrap x.2.2.1.1), (1 : Int)) (Sp.FW29 [x.2.1] [(165 : Int), (IntKind.u8.wrap ((x.1.2.2.2.2.2.2.2).length : Int))]))))) ∧ ((Sp.pre33 (bts ((Sp.G11_8 (x.2.2.2, ((x.2.2.2).length : Int)) ((0 : Int), (Sp.FW30 ((IntKind.u64.wrap x.2.2.1.2), (1 : Int)) (Sp.FW30 ((IntKind.u64.wrap x.2.2.1.1), (1 : Int)) (Sp.FW29 [x.2.1] [(165 : Int), (IntKind.u8.wrap ((x.1.2.2.2.2.2.2.2).length : Int))]))))).2))) ∧ True)))))))))) (by kernel_rfl) (by
  try dsimp only [Ty.den] at *
  unfold Sp.pre11 at h
  refine ⟨fun h1 => ?_, fun _ => trivial, fun hc => ?_⟩
  · have hB : Sp.IsB x.1 := Sp.valid_b fx.1.2.2.2.2.2.2.2.1 (by rw [bne_eq_false_iff_eq] at h1; exact h1)
    exact ⟨hB.fl.1, hB.fl.2⟩
  have hin : Sp.in11_8 (x.2.2.2, ((x.2.2.2).length : Int)) ((0 : Int), (Sp.FW30 ((IntKind.u64.wrap x.2.2.1.2), (1 : Int)) (Sp.FW30 ((IntKind.u64.wrap x.2.2.1.1), (1 : Int)) (Sp.FW29 [x.2.1] [(165 : Int), (IntKind.u8.wrap ((x.1.2.2.2.2.2.2.2).length : Int))])))) := by
    simp only [Sp.in11_8, Sp.put1, Sp.put2, Sp.put4, Sp.put8, Sp.calls1, Sp.calls2, Sp.flags_row, Sp.ce_len, Sp.le_len, List.length_append, List.length_cons, List.length_nil, Sp.pre30, Sp.pre29, Sp.pre31, true_and, and_true]
    omega
  have hI := Sp.end_inv (step := Sp.st11_8) (k := (x.2.2.2, ((x.2.2.2).length : Int))) (I := Sp.in11_8 (x.2.2.2, ((x.2.2.2).length : Int))) (fun y k' z hy hz => by
      have h0 := so11_8 (x.2.2.2, ((x.2.2.2).length : Int)) y ⟨fx.2.2.2, trivial⟩ hy
      rw [hz] at h0
      exact h0.2.1) (fun y k' z hy hz => by
      unfold Sp.st11_8 at hz
      cases hd : decide (y.1 < (x.2.2.2, ((x.2.2.2).length : Int)).2) with
      | true => rw [hd] at hz; cases hz
      | false => rw [hd] at hz; cases hz; exact hy) (Nat.succ (Sp.mu11_8 (x.2.2.2, ((x.2.2.2).length : Int)) ((0 : Int), (Sp.FW30 ((IntKind.u64.wrap x.2.2.1.2), (1 : Int)) (Sp.FW30 ((IntKind.u64.wrap x.2.2.1.1), (1 : Int)) (Sp.FW29 [x.2.1] [(165 : Int), (IntKind.u8.wrap ((x.1.2.2.2.2.2.2.2).length : Int))])))))) _ hin
  have hlen : ((Sp.G11_8 (x.2.2.2, ((x.2.2.2).length : Int)) ((0 : Int), (Sp.FW30 ((IntKind.u64.wrap x.2.2.1.2), (1 : Int)) (Sp.FW30 ((IntKind.u64.wrap x.2.2.1.1), (1 : Int)) (Sp.FW29 [x.2.1] [(165 : Int), (IntKind.u8.wrap ((x.1.2.2.2.2.2.2.2).length : Int))]))))).2.length : Int) ≤ 1000 := by
    have h1 : Sp.in11_8 (x.2.2.2, ((x.2.2.2).length : Int)) (Sp.G11_8 (x.2.2.2, ((x.2.2.2).length : Int)) ((0 : Int), (Sp.FW30 ((IntKind.u64.wrap x.2.2.1.2), (1 : Int)) (Sp.FW30 ((IntKind.u64.wrap x.2.2.1.1), (1 : Int)) (Sp.FW29 [x.2.1] [(165 : Int), (IntKind.u8.wrap ((x.1.2.2.2.2.2.2.2).length : Int))]))))) := hI
    obtain ⟨_, h2, _, h4, h5⟩ := h1
    have h2 : (Sp.G11_8 (x.2.2.2, ((x.2.2.2).length : Int)) ((0 : Int), (Sp.FW30 ((IntKind.u64.wrap x.2.2.1.2), (1 : Int)) (Sp.FW30 ((IntKind.u64.wrap x.2.2.1.1), (1 : Int)) (Sp.FW29 [x.2.1] [(165 : Int), (IntKind.u8.wrap ((x.1.2.2.2.2.2.2.2).length : Int))]))))).1 ≤ ((x.2.2.2).length : Int) := h2
    have h4 : ((x.2.2.2).length : Int) ≤ 30 := h4
    have h5 : ((Sp.G11_8 (x.2.2.2, ((x.2.2.2).length : Int)) ((0 : Int), (Sp.FW30 ((IntKind.u64.wrap x.2.2.1.2), (1 : Int)) (Sp.FW30 ((IntKind.u64.wrap x.2.2.1.1), (1 : Int)) (Sp.FW29 [x.2.1] [(165 : Int), (IntKind.u8.wrap ((x.1.2.2.2.2.2.2.2).length : Int))]))))).2.length : Int) = 12 + 19 * (Sp.G11_8 (x.2.2.2, ((x.2.2.2).length : Int)) ((0 : Int), (Sp.FW30 ((IntKind.u64.wrap x.2.2.1.2), (1 : Int)) (Sp.FW30 ((IntKind.u64.wrap x.2.2.1.1), (1 : Int)) (Sp.FW29 [x.2.1] [(165 : Int), (IntKind.u8.wrap ((x.1.2.2.2.2.2.2.2).length : Int))]))))).1 := h5
    omega
  refine ⟨?_, ?_, ?_, hin, ?_, trivial⟩
  · simp only [Sp.put1, Sp.put2, Sp.put4, Sp.put8, Sp.calls1, Sp.calls2, Sp.flags_row, Sp.ce_len, Sp.le_len, List.length_append, List.length_cons, List.length_nil, Sp.pre30, Sp.pre29, Sp.pre31]; omega
  · simp only [Sp.put1, Sp.put2, Sp.put4, Sp.put8, Sp.calls1, Sp.calls2, Sp.flags_row, Sp.ce_len, Sp.le_len, List.length_append, List.length_cons, List.length_nil, Sp.pre30, Sp.pre29, Sp.pre31]; omega
  · simp only [Sp.put1, Sp.put2, Sp.put4, Sp.put8, Sp.calls1, Sp.calls2, Sp.flags_row, Sp.ce_len, Sp.le_len, List.length_append, List.length_cons, List.length_nil, Sp.pre30, Sp.pre29, Sp.pre31]; omega
  · show (bts _).size ≤ 99990
    rw [Sp.bts_size]
    omega)) (fun x => by kernel_rfl)
def cm38 (nw : Bool) : Cm := { p := (Ty.pair ty25 (Ty.pair ty9 (Ty.pair ty3 ty5))), psh := [some 8, none, none, none], q := ty117, pre := some Sp.pre38, F := Sp.FM38, nw := nw }
theorem va38 (x : (Ty.pair ty25 (Ty.pair ty9 (Ty.pair ty3 ty5))).den) : ((evFnM (ctxZ (ZmG0 true) PmG0 none GmH2 []) Try.f38 (Ty.pair ty25 (Ty.pair ty9 (Ty.pair ty3 ty5))) [some 8, none, none, none] ty117 noL x)).val (fun _ => (none, 0)) (none, 0) = Sp.FM38 x := by kernel_rfl
theorem se38 (x : (Ty.pair ty25 (Ty.pair ty9 (Ty.pair ty3 ty5))).den) : ((evFnM (ctxZ (ZmG0 true) PmG0 none GmH2 []) Try.f38 (Ty.pair ty25 (Ty.pair ty9 (Ty.pair ty3 ty5))) [some 8, none, none, none] ty117 noL x)).safe = (((((Sp.F27 x.1) != (0 : Int)) = true → True) ∧ (((Sp.F27 x.1) != (0 : Int)) = false → (((((x.2.1).size : Int) != x.2.2.1) = true → True) ∧ ((((x.2.1).size : Int) != x.2.2.1) = false → ((0 ≤ (0 : Int) ∧ (0 : Int) < ((x.2.1).size : Int)) ∧ (((((strAt x.2.1 (0 : Int)) != x.2.2.2) = false → 0 ≤ (1 : Int) ∧ (1 : Int) < ((x.2.1).size : Int))) ∧ (((((strAt x.2.1 (0 : Int)) != x.2.2.2) || ((IntKind.i64.wrap (strAt x.2.1 (1 : Int))) != ((x.1.2.2.2.2.2.2.2).length : Int))) = true → True) ∧ ((((strAt x.2.1 (0 : Int)) != x.2.2.2) || ((IntKind.i64.wrap (strAt x.2.1 (1 : Int))) != ((x.1.2.2.2.2.2.2.2).length : Int))) = false → ((Sp.pre60 x.2.1) ∧ ((((Sp.F60 x.2.1).2 != (0 : Int)) = true → True) ∧ (((Sp.F60 x.2.1).2 != (0 : Int)) = false → ((0 ≤ (2 : Int) ∧ (2 : Int) ≤ (((Sp.F60 x.2.1).1).size : Int) ∧ (((Sp.F60 x.2.1).1).size : Int) ≤ (((Sp.F60 x.2.1).1).size : Int)) ∧ (((0 : Int) = 0) ∧ True)))))))))))))) := by kernel_rfl
theorem sa38 (x : (Ty.pair ty25 (Ty.pair ty9 (Ty.pair ty3 ty5))).den) (fx : Fit (Ty.pair ty25 (Ty.pair ty9 (Ty.pair ty3 ty5))) x) (h : Sp.pre38 x) : SafeW ((evFnM (ctxZ (ZmG0 true) PmG0 none GmH2 []) Try.f38 (Ty.pair ty25 (Ty.pair ty9 (Ty.pair ty3 ty5))) [some 8, none, none, none] ty117 noL x)) := by
  refine ⟨?_⟩
  rw [se38]
  try dsimp only [Ty.den] at *
  refine ⟨fun _ => trivial, fun h1 => ⟨fun _ => trivial, fun h2 => ?_⟩⟩
  rw [bne_eq_false_iff_eq] at h1 h2
  obtain ⟨h3, h3'⟩ := h h1
  refine ⟨⟨Int.le_refl _, by omega⟩, fun _ => ⟨by omega, by omega⟩, fun _ => trivial, fun h4 => ⟨?_, fun _ => trivial, fun h5 => ⟨?_, rfl, trivial⟩⟩⟩
  · show x.2.1.size ≤ 99990
    omega
  · rw [bne_eq_false_iff_eq] at h5
    have h6 := Sp.copen_size h5 (by omega)
    refine ⟨by omega, by omega, Int.le_refl _⟩
theorem ok38 (nw : Bool) : CmOk Try.prog gdS 38 (cm38 nw) :=
  fn_okM (ctxOkZ (zkokZmG0 true) pgokPmG0 fvok_none gokGmH2 []) Try.func38 (cm := cm38 nw) (L := noL) (c := bodyOf Try.f38) (dflt := (none, 0)) rfl (no_loops)
    (fun x fx hq => (sa38 x fx (hq _ rfl)).safe) va38
def ZmH3 (nw : Bool) : List (Nat × Zc) := (38, .mk (cm38 nw)) :: (ZmG0 nw)
theorem zkokZmH3 (nw : Bool) : ZKOk (ZmH3 nw) := zkok_cons (z := .mk (cm38 nw)) (ok38 nw) ⟨_, Try.func38, by kernel_rfl, by kernel_rfl⟩ ((zkokZmG0 nw))
def GmH3 : List (Nat × Ct) := (11, ct11) :: GmH2
theorem gokGmH3 : GOk GmH3 := gok_cons ok11 ⟨_, Try.func11, by kernel_rfl, by kernel_rfl⟩ (gokGmH2)
end Go.Proofs.Ytbnihoioblmgkaa.Sy
end

section
/- What open gives (own work). -/
namespace Go.Proofs.Ytbnihoioblmgkaa.Sp
open Go Sy
set_option linter.unusedVariables false
set_option linter.unusedSimpArgs false
theorem size_ok {b : BldT} (hB : IsB b) (hv : F27 b = 0) : F24 b = (14 + 19 * (b.2.2.2.2.2.2.2.length : Int), 23 + 19 * (b.2.2.2.2.2.2.2.length : Int)) := by
  have h1 := hB.cn
  have h1 : b.2.2.2.2.2.2.2.length ≤ 8 := h1.2
  unfold F24
  rw [hv]
  show ((IntKind.i64.wrap (14 + IntKind.i64.wrap (19 * (b.2.2.2.2.2.2.2.length : Int)))), (IntKind.i64.wrap (23 + IntKind.i64.wrap (19 * (b.2.2.2.2.2.2.2.length : Int))))) = _
  rw [wrap_i64_of (x := 19 * (b.2.2.2.2.2.2.2.length : Int)) (by omega) (by omega), wrap_i64_of (by omega) (by omega), wrap_i64_of (by omega) (by omega)]
theorem size_pre {b : BldT} (hl : b.cars.length ≤ maxLen) : F27 b = 0 → (14 ≤ (F24 b).1 ∧ (F24 b).1 ≤ 99000) ∧ (14 ≤ (F24 b).2 ∧ (F24 b).2 ≤ 99000) := fun hv => by
  have hc := (valid_b hl hv).cn
  have hc : b.2.2.2.2.2.2.2.length ≤ 8 := hc.2
  rw [size_ok (valid_b hl hv) hv]
  show (14 ≤ 14 + 19 * (b.2.2.2.2.2.2.2.length : Int) ∧ 14 + 19 * (b.2.2.2.2.2.2.2.length : Int) ≤ 99000) ∧ (14 ≤ 23 + 19 * (b.2.2.2.2.2.2.2.length : Int) ∧ 23 + 19 * (b.2.2.2.2.2.2.2.length : Int) ≤ 99000)
  omega
theorem open_some {b : BldT} {s : ByteArray} {z hd : Int} (hl : b.cars.length ≤ maxLen) (hz : F27 b = 0 → 14 ≤ z ∧ z ≤ 99000) (h : (FM38 (b, s, z, hd)).1.isSome = true) :
    F27 b = 0 ∧ IsB b ∧ (s.size : Int) = z ∧ ∃ d, F60 s = (d, 0) ∧ d.size = s.size - 2 ∧ 2 ≤ s.size ∧ FM38 (b, s, z, hd) = (some (d.extract 2 d.size, b), 0) ∧ strAt s 0 = hd ∧ strAt s 1 = (b.2.2.2.2.2.2.2.length : Int) := by
  unfold FM38 at h ⊢
  simp only at h ⊢
  cases h1 : (F27 b != 0) with
  | true => rw [h1] at h; cases h
  | false =>
    rw [h1] at h
    simp only [cond_false] at h ⊢
    cases h2 : ((s.size : Int) != z) with
    | true => rw [h2] at h; cases h
    | false =>
      rw [h2] at h
      simp only [cond_false] at h ⊢
      cases h3 : ((strAt s 0 != hd) || (IntKind.i64.wrap (strAt s 1) != (b.2.2.2.2.2.2.2.length : Int))) with
      | true => rw [h3] at h; cases h
      | false =>
        rw [h3] at h
        simp only [cond_false] at h ⊢
        cases h4 : ((F60 s).2 != 0) with
        | true => rw [h4] at h; cases h
        | false =>
          rw [bne_eq_false_iff_eq] at h1 h2 h4
          rw [Bool.or_eq_false_iff, bne_eq_false_iff_eq, bne_eq_false_iff_eq] at h3
          have hz := hz h1
          obtain ⟨h5, h6⟩ := copen_size h4 (by omega)
          refine ⟨h1, valid_b hl h1, h2, (F60 s).1, by rw [← h4], h5, h6, rfl, h3.1, ?_⟩
          have := h3.2
          have hr := strAt_rng s 1
          rwa [wrap_i64_of (by omega) (by omega)] at this
theorem open_none {b : BldT} {s : ByteArray} {z hd : Int} (h : (FM38 (b, s, z, hd)).1.isSome = false) : (FM38 (b, s, z, hd)).2 ≠ 0 := by
  unfold FM38 at h ⊢
  simp only at h ⊢
  cases h1 : (F27 b != 0) with
  | true => simp
  | false =>
    rw [h1] at h
    simp only [cond_false] at h ⊢
    cases h2 : ((s.size : Int) != z) with
    | true => simp
    | false =>
      rw [h2] at h
      simp only [cond_false] at h ⊢
      cases h3 : ((strAt s 0 != hd) || (IntKind.i64.wrap (strAt s 1) != (b.2.2.2.2.2.2.2.length : Int))) with
      | true => simp
      | false =>
        rw [h3] at h
        simp only [cond_false] at h ⊢
        cases h4 : ((F60 s).2 != 0) with
        | true =>
          simp only [cond_true]
          exact bne_iff_ne.1 h4
        | false => rw [h4] at h; cases h
end Go.Proofs.Ytbnihoioblmgkaa.Sp
end

section
/- Contracts of functions, by the evaluator (own program gen.py): frame.ReadIn, frame.ReadOut. -/
set_option linter.unusedVariables false
set_option linter.unusedSimpArgs false
set_option maxRecDepth 100000
namespace Go.Proofs.Ytbnihoioblmgkaa.Sp
open Go Go.RowKit Sy
def KA13_1 (x : (BldT) × ByteArray) :=
  (Sp.F39 (((Sp.FM38 (x.1, x.2, (Sp.F24 x.1).1, (165 : Int))).1.getD (Ty.dflt ty117)).1, (((Sp.FM38 (x.1, x.2, (Sp.F24 x.1).1, (165 : Int))).1.getD (Ty.dflt ty117)).2).1, ((((Sp.FM38 (x.1, x.2, (Sp.F24 x.1).1, (165 : Int))).1.getD (Ty.dflt ty117)).2).2).1, (((((Sp.FM38 (x.1, x.2, (Sp.F24 x.1).1, (165 : Int))).1.getD (Ty.dflt ty117)).2).2).2).1, ((((((Sp.FM38 (x.1, x.2, (Sp.F24 x.1).1, (165 : Int))).1.getD (Ty.dflt ty117)).2).2).2).2).1, (((((((Sp.FM38 (x.1, x.2, (Sp.F24 x.1).1, (165 : Int))).1.getD (Ty.dflt ty117)).2).2).2).2).2).1, ((((((((Sp.FM38 (x.1, x.2, (Sp.F24 x.1).1, (165 : Int))).1.getD (Ty.dflt ty117)).2).2).2).2).2).2).1, (((((((((Sp.FM38 (x.1, x.2, (Sp.F24 x.1).1, (165 : Int))).1.getD (Ty.dflt ty117)).2).2).2).2).2).2).2)))
def FA13 (x : (BldT) × ByteArray) : ((Int × Int) × (Int × Int) × List ((Int × Bool × Bool × Bool × Bool) × (Int × Bool × Int × Bool) × Int × Nat)) × Int :=
  bif ((0 : Int) != (0 : Int)) then
    ((((0 : Int), (0 : Int)), ((0 : Int), (0 : Int)), []), (0 : Int))
  else
    bif ((Sp.KA13_1 x).1.2 != (0 : Int)) then
      ((((0 : Int), (0 : Int)), ((0 : Int), (0 : Int)), []), (Sp.KA13_1 x).1.2)
    else
      ((Sp.KA13_1 x).1.1, (0 : Int))
def preA13 (x : (BldT) × ByteArray) : Prop := True ∧ (Sp.FM38 (x.1, x.2, (Sp.F24 x.1).1, (165 : Int))).1.isSome = true
def KA20_1 (x : (BldT) × ByteArray) :=
  (Sp.F48 (((Sp.FM38 (x.1, x.2, (Sp.F24 x.1).2, (90 : Int))).1.getD (Ty.dflt ty117)).1, (((Sp.FM38 (x.1, x.2, (Sp.F24 x.1).2, (90 : Int))).1.getD (Ty.dflt ty117)).2).1, ((((Sp.FM38 (x.1, x.2, (Sp.F24 x.1).2, (90 : Int))).1.getD (Ty.dflt ty117)).2).2).1, (((((Sp.FM38 (x.1, x.2, (Sp.F24 x.1).2, (90 : Int))).1.getD (Ty.dflt ty117)).2).2).2).1, ((((((Sp.FM38 (x.1, x.2, (Sp.F24 x.1).2, (90 : Int))).1.getD (Ty.dflt ty117)).2).2).2).2).1, (((((((Sp.FM38 (x.1, x.2, (Sp.F24 x.1).2, (90 : Int))).1.getD (Ty.dflt ty117)).2).2).2).2).2).1, ((((((((Sp.FM38 (x.1, x.2, (Sp.F24 x.1).2, (90 : Int))).1.getD (Ty.dflt ty117)).2).2).2).2).2).2).1, (((((((((Sp.FM38 (x.1, x.2, (Sp.F24 x.1).2, (90 : Int))).1.getD (Ty.dflt ty117)).2).2).2).2).2).2).2)))
def FA20 (x : (BldT) × ByteArray) : ((Int × Int) × (Int × Int) × Bool × Bool × Int × List (((Int × Int) × Bool) × (Int × Int) × Bool × Int × Int × Bool)) × Int :=
  bif ((0 : Int) != (0 : Int)) then
    ((((0 : Int), (0 : Int)), ((0 : Int), (0 : Int)), false, false, (0 : Int), []), (0 : Int))
  else
    bif ((Sp.KA20_1 x).1.2 != (0 : Int)) then
      ((((0 : Int), (0 : Int)), ((0 : Int), (0 : Int)), false, false, (0 : Int), []), (Sp.KA20_1 x).1.2)
    else
      ((Sp.KA20_1 x).1.1, (0 : Int))
def preA20 (x : (BldT) × ByteArray) : Prop := True ∧ (Sp.FM38 (x.1, x.2, (Sp.F24 x.1).2, (90 : Int))).1.isSome = true
end Go.Proofs.Ytbnihoioblmgkaa.Sp
namespace Go.Proofs.Ytbnihoioblmgkaa.Sy
open Go Go.RowKit Sp
def ctA13 : Ct := { p := (Ty.pair ty25 ty9), psh := [some 8, none], r := (Ty.pair ty33 ty37), rsh := (Rsh.tup [some 5, none]), pre := some Sp.preA13, fresh := none, F := Sp.FA13 }
theorem okA13 : CtOk Try.prog gdS 13 ctA13 :=
  fn_okU (ctxOkZ (zkokZmH3 true) pgokPmG0 fvok_none gokGmH3 []) rfl Try.func13 (p := (Ty.pair ty25 ty9)) (psh := [some 8, none]) (r := (Ty.pair ty33 ty37)) (rsh := (Rsh.tup [some 5, none])) (pre := some Sp.preA13) (fresh := none) (F := Sp.FA13) (L := noL) (c := bodyOf Try.f13) (dflt := Ty.dflt (Ty.pair ty33 ty37)) rfl (no_loops)
    (fun x fx hq => have h := hq _ rfl; safe_of (S := ((((Sp.pre38 (x.1, x.2, (Sp.F24 x.1).1, (165 : Int))) ∧ (Sp.FM38 (x.1, x.2, (Sp.F24 x.1).1, (165 : Int))).1.isSome = true) ∧ ((((0 : Int) != (0 : Int)) = true → True) ∧ (((0 : Int) != (0 : Int)) = false → ((Sp.pre39 (((Sp.FM38 (x.1, x.2, (Sp.F24 x.1).1, (165 : Int))).1.getD (Ty.dflt ty117)).1, (((Sp.FM38 (x.1, x.2, (Sp.F24 x.1).1, (165 : Int))).1.getD (Ty.dflt ty117)).2).1, ((((Sp.FM38 (x.1, x.2, (Sp.F24 x.1).1, (165 : Int))).1.getD (Ty.dflt ty117)).2).2).1, (((((Sp.FM38 (x.1, x.2, (Sp.F24 x.1).1, (165 : Int))).1.getD (Ty.dflt ty117)).2).2).2).1, ((((((Sp.FM38 (x.1, x.2, (Sp.F24 x.1).1, (165 : Int))).1.getD (Ty.dflt ty117)).2).2).2).2).1, (((((((Sp.FM38 (x.1, x.2, (Sp.F24 x.1).1, (165 : Int))).1.getD (Ty.dflt ty117)).2).2).2).2).2).1, ((((((((Sp.FM38 (x.1, x.2, (Sp.F24 x.1).1, (165 : Int))).1.getD (Ty.dflt ty117)).2).2).2).2).2).2).1, (((((((((Sp.FM38 (x.1, x.2, (Sp.F24 x.1).1, (165 : Int))).1.getD (Ty.dflt ty117)).2).2).2).2).2).2).2))) ∧ ((((Sp.KA13_1 x).1.2 != (0 : Int)) = true → True) ∧ (((Sp.KA13_1 x).1.2 != (0 : Int)) = false → True)))))))) (by kernel_rfl) (by
  try dsimp only [Ty.den] at *
  obtain ⟨hs, ho⟩ := h
  have hl := fx.1.2.2.2.2.2.2.2.1
  obtain ⟨hv, hB, hz, d, hd, hds, h2, hfm, _, _⟩ := Sp.open_some hl (fun h => (Sp.size_pre hl h).1) ho
  refine ⟨⟨fun h => (Sp.size_pre hl h).1, ho⟩, fun _ => trivial, fun _ => ⟨?_, fun _ => trivial, fun _ => trivial⟩⟩
  rw [hfm]
  show Sp.pre39 (d.extract 2 d.size, x.1)
  have h1 := hB.fl
  have h3 := hB.cn
  rw [Sp.size_ok hB hv] at hz
  have hz : (x.2.size : Int) = 14 + 19 * (x.1.2.2.2.2.2.2.2.length : Int) := hz
  refine ⟨?_, h3.1, h3.2, h1.1, h1.2⟩
  show ((d.extract 2 d.size).size : Int) = 10 + 19 * (x.1.2.2.2.2.2.2.2.length : Int)
  rw [Sp.extract_size]
  omega)) (fun x => by kernel_rfl)
def ctA20 : Ct := { p := (Ty.pair ty25 ty9), psh := [some 8, none], r := (Ty.pair ty52 ty37), rsh := (Rsh.tup [some 8, none]), pre := some Sp.preA20, fresh := none, F := Sp.FA20 }
theorem okA20 : CtOk Try.prog gdS 20 ctA20 :=
  fn_okU (ctxOkZ (zkokZmH3 true) pgokPmG0 fvok_none gokGmH3 []) rfl Try.func20 (p := (Ty.pair ty25 ty9)) (psh := [some 8, none]) (r := (Ty.pair ty52 ty37)) (rsh := (Rsh.tup [some 8, none])) (pre := some Sp.preA20) (fresh := none) (F := Sp.FA20) (L := noL) (c := bodyOf Try.f20) (dflt := Ty.dflt (Ty.pair ty52 ty37)) rfl (no_loops)
    (fun x fx hq => have h := hq _ rfl; safe_of (S := ((((Sp.pre38 (x.1, x.2, (Sp.F24 x.1).2, (90 : Int))) ∧ (Sp.FM38 (x.1, x.2, (Sp.F24 x.1).2, (90 : Int))).1.isSome = true) ∧ ((((0 : Int) != (0 : Int)) = true → True) ∧ (((0 : Int) != (0 : Int)) = false → ((Sp.pre48 (((Sp.FM38 (x.1, x.2, (Sp.F24 x.1).2, (90 : Int))).1.getD (Ty.dflt ty117)).1, (((Sp.FM38 (x.1, x.2, (Sp.F24 x.1).2, (90 : Int))).1.getD (Ty.dflt ty117)).2).1, ((((Sp.FM38 (x.1, x.2, (Sp.F24 x.1).2, (90 : Int))).1.getD (Ty.dflt ty117)).2).2).1, (((((Sp.FM38 (x.1, x.2, (Sp.F24 x.1).2, (90 : Int))).1.getD (Ty.dflt ty117)).2).2).2).1, ((((((Sp.FM38 (x.1, x.2, (Sp.F24 x.1).2, (90 : Int))).1.getD (Ty.dflt ty117)).2).2).2).2).1, (((((((Sp.FM38 (x.1, x.2, (Sp.F24 x.1).2, (90 : Int))).1.getD (Ty.dflt ty117)).2).2).2).2).2).1, ((((((((Sp.FM38 (x.1, x.2, (Sp.F24 x.1).2, (90 : Int))).1.getD (Ty.dflt ty117)).2).2).2).2).2).2).1, (((((((((Sp.FM38 (x.1, x.2, (Sp.F24 x.1).2, (90 : Int))).1.getD (Ty.dflt ty117)).2).2).2).2).2).2).2))) ∧ ((((Sp.KA20_1 x).1.2 != (0 : Int)) = true → True) ∧ (((Sp.KA20_1 x).1.2 != (0 : Int)) = false → True)))))))) (by kernel_rfl) (by
  try dsimp only [Ty.den] at *
  obtain ⟨hs, ho⟩ := h
  have hl := fx.1.2.2.2.2.2.2.2.1
  obtain ⟨hv, hB, hz, d, hd, hds, h2, hfm, _, _⟩ := Sp.open_some hl (fun h => (Sp.size_pre hl h).2) ho
  refine ⟨⟨fun h => (Sp.size_pre hl h).2, ho⟩, fun _ => trivial, fun _ => ⟨?_, fun _ => trivial, fun _ => trivial⟩⟩
  rw [hfm]
  show Sp.pre48 (d.extract 2 d.size, x.1)
  have h1 := hB.fl
  have h3 := hB.cn
  rw [Sp.size_ok hB hv] at hz
  have hz : (x.2.size : Int) = 23 + 19 * (x.1.2.2.2.2.2.2.2.length : Int) := hz
  refine ⟨?_, h3.1, h3.2, h1.1, h1.2⟩
  show ((d.extract 2 d.size).size : Int) = 19 + 19 * (x.1.2.2.2.2.2.2.2.length : Int)
  rw [Sp.extract_size]
  omega)) (fun x => by kernel_rfl)
def GmI0 : List (Nat × Ct) := (13, ctA13) :: (20, ctA20) :: GmH3
theorem gokGmI0 : GOk GmI0 := gok_cons okA13 ⟨_, Try.func13, by kernel_rfl, by kernel_rfl⟩ (gok_cons okA20 ⟨_, Try.func20, by kernel_rfl, by kernel_rfl⟩ (gokGmH3))
end Go.Proofs.Ytbnihoioblmgkaa.Sy
end

section
/- Contracts of functions, by the evaluator (own program gen.py): frame.ReadIn, frame.ReadOut. -/
set_option linter.unusedVariables false
set_option linter.unusedSimpArgs false
set_option maxRecDepth 100000
namespace Go.Proofs.Ytbnihoioblmgkaa.Sp
open Go Go.RowKit Sy
def FB13 (x : (BldT) × ByteArray) : ((Int × Int) × (Int × Int) × List ((Int × Bool × Bool × Bool × Bool) × (Int × Bool × Int × Bool) × Int × Nat)) × Int :=
  bif ((Sp.FM38 (x.1, x.2, (Sp.F24 x.1).1, (165 : Int))).2 != (0 : Int)) then
    ((((0 : Int), (0 : Int)), ((0 : Int), (0 : Int)), []), (Sp.FM38 (x.1, x.2, (Sp.F24 x.1).1, (165 : Int))).2)
  else
    (Ty.dflt (Ty.pair ty33 ty37))
def preB13 (x : (BldT) × ByteArray) : Prop := True ∧ (Sp.FM38 (x.1, x.2, (Sp.F24 x.1).1, (165 : Int))).1.isSome = false
def FB20 (x : (BldT) × ByteArray) : ((Int × Int) × (Int × Int) × Bool × Bool × Int × List (((Int × Int) × Bool) × (Int × Int) × Bool × Int × Int × Bool)) × Int :=
  bif ((Sp.FM38 (x.1, x.2, (Sp.F24 x.1).2, (90 : Int))).2 != (0 : Int)) then
    ((((0 : Int), (0 : Int)), ((0 : Int), (0 : Int)), false, false, (0 : Int), []), (Sp.FM38 (x.1, x.2, (Sp.F24 x.1).2, (90 : Int))).2)
  else
    (Ty.dflt (Ty.pair ty52 ty37))
def preB20 (x : (BldT) × ByteArray) : Prop := True ∧ (Sp.FM38 (x.1, x.2, (Sp.F24 x.1).2, (90 : Int))).1.isSome = false
end Go.Proofs.Ytbnihoioblmgkaa.Sp
namespace Go.Proofs.Ytbnihoioblmgkaa.Sy
open Go Go.RowKit Sp
def ctB13 : Ct := { p := (Ty.pair ty25 ty9), psh := [some 8, none], r := (Ty.pair ty33 ty37), rsh := (Rsh.tup [some 5, none]), pre := some Sp.preB13, fresh := (some 71), F := Sp.FB13 }
theorem okB13 : CtOk Try.prog gdS 13 ctB13 :=
  fn_okU (ctxOkZ (zkokZmH3 false) pgokPmG0 fvok_none gokGmH3 []) rfl Try.func13 (p := (Ty.pair ty25 ty9)) (psh := [some 8, none]) (r := (Ty.pair ty33 ty37)) (rsh := (Rsh.tup [some 5, none])) (pre := some Sp.preB13) (fresh := (some 71)) (F := Sp.FB13) (L := noL) (c := bodyOf Try.f13) (dflt := Ty.dflt (Ty.pair ty33 ty37)) rfl (no_loops)
    (fun x fx hq => have h := hq _ rfl; safe_of (S := ((((Sp.pre38 (x.1, x.2, (Sp.F24 x.1).1, (165 : Int))) ∧ (Sp.FM38 (x.1, x.2, (Sp.F24 x.1).1, (165 : Int))).1.isSome = false) ∧ ((((Sp.FM38 (x.1, x.2, (Sp.F24 x.1).1, (165 : Int))).2 != (0 : Int)) = true → True) ∧ (((Sp.FM38 (x.1, x.2, (Sp.F24 x.1).1, (165 : Int))).2 != (0 : Int)) = false → False))))) (by kernel_rfl) (by
  try dsimp only [Ty.den] at *
  obtain ⟨hs, ho⟩ := h
  have hl := fx.1.2.2.2.2.2.2.2.1
  have hn := Sp.open_none ho
  refine ⟨⟨fun h => (Sp.size_pre hl h).1, ho⟩, fun _ => trivial, fun hc => ?_⟩
  rw [bne_eq_false_iff_eq] at hc
  exact hn hc)) (fun x => by kernel_rfl)
def ctB20 : Ct := { p := (Ty.pair ty25 ty9), psh := [some 8, none], r := (Ty.pair ty52 ty37), rsh := (Rsh.tup [some 8, none]), pre := some Sp.preB20, fresh := (some 95), F := Sp.FB20 }
theorem okB20 : CtOk Try.prog gdS 20 ctB20 :=
  fn_okU (ctxOkZ (zkokZmH3 false) pgokPmG0 fvok_none gokGmH3 []) rfl Try.func20 (p := (Ty.pair ty25 ty9)) (psh := [some 8, none]) (r := (Ty.pair ty52 ty37)) (rsh := (Rsh.tup [some 8, none])) (pre := some Sp.preB20) (fresh := (some 95)) (F := Sp.FB20) (L := noL) (c := bodyOf Try.f20) (dflt := Ty.dflt (Ty.pair ty52 ty37)) rfl (no_loops)
    (fun x fx hq => have h := hq _ rfl; safe_of (S := ((((Sp.pre38 (x.1, x.2, (Sp.F24 x.1).2, (90 : Int))) ∧ (Sp.FM38 (x.1, x.2, (Sp.F24 x.1).2, (90 : Int))).1.isSome = false) ∧ ((((Sp.FM38 (x.1, x.2, (Sp.F24 x.1).2, (90 : Int))).2 != (0 : Int)) = true → True) ∧ (((Sp.FM38 (x.1, x.2, (Sp.F24 x.1).2, (90 : Int))).2 != (0 : Int)) = false → False))))) (by kernel_rfl) (by
  try dsimp only [Ty.den] at *
  obtain ⟨hs, ho⟩ := h
  have hl := fx.1.2.2.2.2.2.2.2.1
  have hn := Sp.open_none ho
  refine ⟨⟨fun h => (Sp.size_pre hl h).2, ho⟩, fun _ => trivial, fun hc => ?_⟩
  rw [bne_eq_false_iff_eq] at hc
  exact hn hc)) (fun x => by kernel_rfl)
def GmJ0 : List (Nat × Ct) := (13, ctB13) :: (20, ctB20) :: GmH3
theorem gokGmJ0 : GOk GmJ0 := gok_cons okB13 ⟨_, Try.func13, by kernel_rfl, by kernel_rfl⟩ (gok_cons okB20 ⟨_, Try.func20, by kernel_rfl, by kernel_rfl⟩ (gokGmH3))
end Go.Proofs.Ytbnihoioblmgkaa.Sy
end

section
/- ReadIn and ReadOut, whether open gives a reader or none (own work). -/
namespace Go.Proofs.Ytbnihoioblmgkaa.Sp
open Go Sy
def oki13 (x : BldT × ByteArray) : Bool := (FM38 (x.1, x.2, (F24 x.1).1, (165 : Int))).1.isSome
def oki20 (x : BldT × ByteArray) : Bool := (FM38 (x.1, x.2, (F24 x.1).2, (90 : Int))).1.isSome
def F13 (x : BldT × ByteArray) := bif oki13 x then FA13 x else FB13 x
def F20 (x : BldT × ByteArray) := bif oki20 x then FA20 x else FB20 x
def pre13 (_ : BldT × ByteArray) : Prop := True
def pre20 (_ : BldT × ByteArray) : Prop := True
end Go.Proofs.Ytbnihoioblmgkaa.Sp
namespace Go.Proofs.Ytbnihoioblmgkaa.Sy
open Go Go.RowKit Sp
set_option linter.unusedVariables false
theorem ct_both {P : Program} {G : Gd} {f : FuncId} {p r : Ty} {psh : List (Option Nat)} {rsh : Rsh} {fresh : Option Nat} {pre : p.den → Prop} (c : p.den → Bool) {FA FB : p.den → r.den}
    (hA : CtOk P G f { p := p, psh := psh, r := r, rsh := rsh, pre := some fun x => pre x ∧ c x = true, fresh := fresh, F := FA })
    (hB : CtOk P G f { p := p, psh := psh, r := r, rsh := rsh, pre := some fun x => pre x ∧ c x = false, fresh := fresh, F := FB }) :
    CtOk P G f { p := p, psh := psh, r := r, rsh := rsh, pre := some pre, fresh := fresh, F := fun x => bif c x then FA x else FB x } := by
  intro x w X args cs h1 h2 h3 h4 h5
  cases hc : c x with
  | true =>
    have := hA x w X args cs h1 h2 (fun q hq => by cases hq; exact ⟨h3 _ rfl, hc⟩) h4 h5
    simp only [hc, cond_true]
    exact this
  | false =>
    have := hB x w X args cs h1 h2 (fun q hq => by cases hq; exact ⟨h3 _ rfl, hc⟩) h4 h5
    simp only [hc, cond_false]
    exact this
def ct13 : Ct := { ctA13 with pre := some Sp.pre13, F := Sp.F13 }
theorem ok13 : CtOk Try.prog gdS 13 ct13 := ct_both (p := ctA13.p) (r := ctA13.r) (psh := ctA13.psh) (rsh := ctA13.rsh) (fresh := ctA13.fresh) (pre := Sp.pre13) (FA := Sp.FA13) (FB := Sp.FB13) Sp.oki13 okA13 (CtOk.weak okB13)
def ct20 : Ct := { ctA20 with pre := some Sp.pre20, F := Sp.F20 }
theorem ok20 : CtOk Try.prog gdS 20 ct20 := ct_both (p := ctA20.p) (r := ctA20.r) (psh := ctA20.psh) (rsh := ctA20.rsh) (fresh := ctA20.fresh) (pre := Sp.pre20) (FA := Sp.FA20) (FB := Sp.FB20) Sp.oki20 okA20 (CtOk.weak okB20)
def GmHj : List (Nat × Ct) := (13, ct13) :: (20, ct20) :: GmH3
theorem gokGmHj : GOk GmHj := gok_cons ok13 ⟨_, Try.func13, by kernel_rfl, by kernel_rfl⟩ (gok_cons ok20 ⟨_, Try.func20, by kernel_rfl, by kernel_rfl⟩ gokGmH3)
end Go.Proofs.Ytbnihoioblmgkaa.Sy
end

section
/- The frames as rows (own work). -/
namespace Go.Proofs.Ytbnihoioblmgkaa.Sp
open Go Sy
set_option linter.unusedVariables false
set_option linter.unusedSimpArgs false
abbrev CarIn := (Int × Bool × Bool × Bool × Bool) × (Int × Bool × Int × Bool) × Int × Nat
abbrev CarOut := ((Int × Int) × Bool) × (Int × Int) × Bool × Int × Int × Bool
abbrev InT := (Int × Int) × (Int × Int) × List CarIn
abbrev OutT := (Int × Int) × (Int × Int) × Bool × Bool × Int × List CarOut
theorem cat_end {α ρ : Type} [Inhabited α] {st : (List α × Int) → (Int × List Int) → BOut (List α × Int) (Int × List Int) ρ} (f : α → List Int) (xs : List α) (hl : xs.length ≤ 1000000)
    (hn : ∀ i l, 0 ≤ i → i < (xs.length : Int) → st (xs, (xs.length : Int)) (i, l) = .next (xs, (xs.length : Int)) (i + 1, l ++ f (nthT xs i))) (hb : ∀ i l, ¬ i < (xs.length : Int) → st (xs, (xs.length : Int)) (i, l) = .brk (xs, (xs.length : Int)) (i, l)) :
    ∀ (n : Nat) (i : Int) (l : List Int), 0 ≤ i → ((xs.length : Int) - i).toNat < n → (endOf st (xs, (xs.length : Int)) n (i, l)).2 = l ++ (xs.drop i.toNat).flatMap f
  | 0, i, l, _, h => by omega
  | n + 1, i, l, h0, hf => by
    unfold endOf
    by_cases h : i < (xs.length : Int)
    · rw [hn i l h0 h]
      simp only
      rw [cat_end f xs hl hn hb n _ _ (by omega) (by omega), show (i + 1).toNat = i.toNat + 1 by omega]
      have hlt : i.toNat < xs.length := by omega
      rw [List.drop_eq_getElem_cons hlt, List.flatMap_cons, List.append_assoc]
      unfold nthT
      rw [List.getD_eq_getElem?_getD, List.getElem?_eq_getElem hlt]
      rfl
    · rw [hb i l h]
      simp only
      rw [List.drop_eq_nil_of_le (by omega)]
      simp
def carE (c : CarIn) : List Int := le (IntKind.u64.wrap c.1.1) 4 ++ le (flg [c.1.2.1, c.1.2.2.1, c.1.2.2.2.1, c.1.2.2.2.2, c.2.1.2.1, c.2.1.2.2.2]) 1 ++ le (IntKind.u64.wrap c.2.1.1) 1 ++ le (IntKind.u64.wrap c.2.1.2.2.1) 1 ++ le (IntKind.u64.wrap c.2.2.1) 4 ++ le ((c.2.2.2 : Nat) : Int) 8
def carO (c : CarOut) : List Int := ce c.1.1 ++ ce c.2.1 ++ le (flg [c.1.2, c.2.2.1, c.2.2.2.2.2]) 1 ++ le (IntKind.u64.wrap c.2.2.2.1) 1 ++ le (IntKind.u64.wrap c.2.2.2.2.1) 1
def inRow (n : Int) (x : InT) : List Int := [165, n] ++ ce x.1 ++ le (IntKind.u64.wrap x.2.1.1) 1 ++ le (IntKind.u64.wrap x.2.1.2) 1 ++ x.2.2.flatMap carE
def outRow (n : Int) (x : OutT) : List Int := [90, n] ++ ce x.1 ++ ce x.2.1 ++ le (flg [x.2.2.1, x.2.2.2.1]) 1 ++ le (IntKind.u64.wrap x.2.2.2.2.1) 2 ++ x.2.2.2.2.2.flatMap carO
theorem carE_len (c : CarIn) : (carE c).length = 19 := by unfold carE; simp [le_len]
theorem carO_len (c : CarOut) : (carO c).length = 19 := by unfold carO; simp [le_len, ce_len]
theorem flat_len {α : Type} (f : α → List Int) (k : Nat) (h : ∀ c, (f c).length = k) : ∀ l : List α, (l.flatMap f).length = k * l.length
  | [] => by simp
  | x :: l => by rw [List.flatMap_cons, List.length_append, h, flat_len f k h l, List.length_cons]; rw [Nat.mul_add]; omega
theorem inRow_len (n : Int) (x : InT) : (inRow n x).length = 12 + 19 * x.2.2.length := by unfold inRow; simp [le_len, ce_len, flat_len carE 19 carE_len]; omega
theorem outRow_len (n : Int) (x : OutT) : (outRow n x).length = 21 + 19 * x.2.2.2.2.2.length := by unfold outRow; simp [le_len, ce_len, flat_len carO 19 carO_len]; omega
theorem in_loop (xs : List CarIn) (hl : xs.length ≤ 1000) (row : List Int) : (G11_8 (xs, (xs.length : Int)) ((0 : Int), row)).2 = row ++ xs.flatMap carE := by
  unfold G11_8
  rw [cat_end (st := st11_8) carE xs (by omega) (fun i l h0 h => ?_) (fun i l h => ?_) _ _ _ (Int.le_refl _) (by unfold mu11_8; simp only; omega)]
  · simp
  · unfold st11_8
    simp only [h, decide_true, cond_true]
    rw [wrap_i64_of (by omega) (by omega)]
    unfold K11_8_1
    simp only [put1, put4, put8, flags_row]
    unfold carE
    simp only [List.append_assoc]
  · unfold st11_8
    simp only [h, decide_false, cond_false]
theorem out_loop (xs : List CarOut) (hl : xs.length ≤ 1000) (row : List Int) : (G23_8 (xs, (xs.length : Int)) ((0 : Int), row)).2 = row ++ xs.flatMap carO := by
  unfold G23_8
  rw [cat_end (st := st23_8) carO xs (by omega) (fun i l h0 h => ?_) (fun i l h => ?_) _ _ _ (Int.le_refl _) (by unfold mu23_8; simp only; omega)]
  · simp
  · unfold st23_8
    simp only [h, decide_true, cond_true]
    rw [wrap_i64_of (by omega) (by omega)]
    unfold K23_8_1
    simp only [put1, put2, put4, put8, flags_row, calls2]
    unfold carO
    simp only [List.append_assoc]
  · unfold st23_8
    simp only [h, decide_false, cond_false]
theorem In_eq (b : BldT) (x : InT) (h : x.2.2.length ≤ 30) : F11 (b, x) = bif ((F27 b != 0) || !(F28 (b, x))) then (ByteArray.empty, 1) else (F33 (bts (inRow (IntKind.u8.wrap (b.2.2.2.2.2.2.2.length : Int)) x)), 0) := by
  unfold F11 K11_1
  simp only
  have e : (G11_8 (x.2.2, (x.2.2.length : Int)) ((0 : Int), (FW30 ((IntKind.u64.wrap x.2.1.2), (1 : Int)) (FW30 ((IntKind.u64.wrap x.2.1.1), (1 : Int)) (FW29 [x.1] [(165 : Int), (IntKind.u8.wrap (b.2.2.2.2.2.2.2.length : Int))]))))).2 = inRow (IntKind.u8.wrap (b.2.2.2.2.2.2.2.length : Int)) x := by
    rw [in_loop _ (by omega), put1, put1, calls1]
    unfold inRow
    simp only [List.append_assoc]
  rw [e]
  rfl
theorem Out_eq (b : BldT) (x : OutT) (h : x.2.2.2.2.2.length ≤ 30) : F23 (b, x) = bif ((F27 b != 0) || !(F49 (b, x))) then (ByteArray.empty, 1) else (F33 (bts (outRow (IntKind.u8.wrap (b.2.2.2.2.2.2.2.length : Int)) x)), 0) := by
  unfold F23 K23_1
  simp only
  rw [out_loop _ (by omega), put2, flags_row, calls2]
  unfold outRow
  simp only [List.append_assoc]
  rfl
theorem seal_size (s : ByteArray) : (F33 s).size = s.size + 2 := by unfold F33; rw [strCat_size, bts_size]; rfl
theorem In_size (b : BldT) (x : InT) (h : x.2.2.length ≤ 30) : (F11 (b, x)).1.size ≤ 1000 := by
  rw [In_eq b x h]
  cases ((F27 b != 0) || !(F28 (b, x)))
  · simp only [cond_false]
    rw [seal_size, bts_size, inRow_len]
    omega
  · simp
theorem Out_size (b : BldT) (x : OutT) (h : x.2.2.2.2.2.length ≤ 30) : (F23 (b, x)).1.size ≤ 1000 := by
  rw [Out_eq b x h]
  cases ((F27 b != 0) || !(F49 (b, x)))
  · simp only [cond_false]
    rw [seal_size, bts_size, outRow_len]
    omega
  · simp
end Go.Proofs.Ytbnihoioblmgkaa.Sp
end
