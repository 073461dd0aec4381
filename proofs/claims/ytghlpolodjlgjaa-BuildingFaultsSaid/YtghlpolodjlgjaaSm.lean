/- The symbolic evaluator is sound: append, copy, make, slices of slices (own work). -/
import Derived.Test.YtghlpolodjlgjaaSn
namespace Go.Proofs.Ytghlpolodjlgjaa.Sy
open Go Go.RowKit
set_option linter.unusedVariables false
set_option linter.unusedSimpArgs false

section
variable {φ : Fr} {ν : Nat → Bool} {m : Map} {st : ASt} {a : Act} {w w' : World} {own : List (Nat × Bool)} {W : List Nat} {P : Program} {C : Ctx} {o : Oper} {e : Eff}
  {K : Act → World → Prop} {Q : Exit → Act → World → Prop}

theorem rep_chunk {α : Type} {z : List α} : ∀ {n i : Nat}, i < n → (((List.replicate n z).flatten.drop (i * z.length)).take z.length) = z
  | 0, i, h => by omega
  | n + 1, 0, h => by simp [List.replicate_succ]
  | n + 1, i + 1, h => by
    rw [List.replicate_succ, List.flatten_cons, show (i + 1) * z.length = z.length + i * z.length by rw [Nat.succ_mul]; omega, ← List.drop_drop, List.drop_left]
    exact rep_chunk (by omega)

/-- What an append comes to that needs a new block. -/
theorem append_new {ts tx ty el : TypeId} {ety : Ty} {i : TypeInfo} {z : Value} {l1 l2 : List ety.den} (ht : P.underlying ts = some (.slice el)) (hi : P.info? el = some i) (hz : i.zero = some z) (hisz : i.size = ety.n) (hzc : z.cells.toList = zeroVs ety)
    {base : Option Addr} {sCap : Nat} {olds : List Value} (hold : (Builtin.firstCells i.size l1.length (.slice base l1.length sCap)).run P w.drew = .ok olds.toArray w.drew) (hol : olds.length = l1.length * ety.n)
    {X : Nat → Nat → Prop} (ho : ∀ i (h : i < l1.length), TR w X ety l1[i] ((olds.drop (i * ety.n)).take ety.n)) {v2 : Value} (hs : SrcA P w X ety el tx v2 l2) (hne : l2 ≠ []) (hn : 1 ≤ ety.n) (hg : sCap < l1.length + l2.length)
    (hby : (l1.length + l2.length) * i.bytes ≤ 140737488355328) (hlen : l1.length + l2.length ≤ 4611686018427387903) :
    ∃ w' cap, (Builtin.append_ #[ts, tx] ty #[.slice base l1.length sCap, v2]).run P w = .ok (.slice (some ⟨w.heap.size, 0, none⟩) (l1.length + l2.length) cap) w' ∧ Below w.heap.size w w' ∧ w.heap.size < w'.heap.size ∧ l1.length + l2.length ≤ cap ∧ cap ≤ maxLen ∧
      w'.shape? w.heap.size = some (el, cap * ety.n) ∧ ∀ X', NoMore w X X' → VecAt X' w' w.heap.size el ety (l1 ++ l2) := by
  obtain ⟨news, h1, h2, h3, h4⟩ := hs
  rw [← hisz] at h1
  have hrun := h1.elim (fun h1 => run_append_grow_src (P := P) w ts tx ty el i z ht hi hz base l1.length sCap olds hold v2 l2.length news h1 hg (by omega) (growslice_fits hg hby)) (fun h1 => run_append_growZ (P := P) (w := w) ts tx ty el i z ht hi hz base l1.length sCap olds hold v2 l2.length news h1 (List.length_pos_iff.2 hne) (by omega) hg (by omega) (growslice_fits hg hby))
  have hcap := grownCap_ge w (l1.length + l2.length) sCap el
  have hmax := grownCap_le_maxLen w (l1.length + l2.length) sCap el (by unfold maxLen; omega)
  let cap := grownCap w (l1.length + l2.length) sCap el
  let vs : Array Value := (olds ++ news).toArray ++ Builtin.zeroCells z.cells (cap - (l1.length + l2.length))
  have hb : Below w.heap.size w (w.drew.alloc (.cells vs el)) := Below.drewAlloc w _
  have hnew : (w.drew.alloc (.cells vs el)).heap[w.heap.size]? = some (.cells vs el) := by
    unfold World.alloc; show (w.heap.push _)[w.heap.size]? = _; simp
  have hzs : z.cells.size = ety.n := by rw [← Array.length_toList, hzc, zeroVs_len]
  have hvl : vs.toList = olds ++ news ++ (Builtin.zeroCells z.cells (cap - (l1.length + l2.length))).toList := by simp [vs]
  have hrl : (Builtin.zeroCells z.cells (cap - (l1.length + l2.length))).toList.length = (cap - (l1.length + l2.length)) * ety.n := by rw [Array.length_toList, size_zeroCells, hzs]
  have hvec : ∀ X', NoMore w X X' → VecAt X' (w.drew.alloc (.cells vs el)) w.heap.size el ety (l1 ++ l2) := fun X' hX =>
    grown_vec hol h2 hrl hcap hmax ho h4 hvl ⟨(0, 0), hnew, .inl rfl⟩ (keeps_of_below hb) hX
  refine ⟨_, cap, hrun, hb, by simp, hcap, hmax, ?_, hvec⟩
  obtain ⟨vs0, cap0, h5, h6, _⟩ := hvec _ noMore_refl
  unfold World.shape?
  rw [hnew]
  have hsz : vs.size = cap * ety.n := by
    rw [← Array.length_toList, hvl]
    simp only [List.length_append, hol, h2, hrl, ← Nat.add_mul]
    congr 1; omega
  simp [hsz]

theorem firstCells_row {b n cap size : Nat} {olds : List Value} (hl : olds.length = n * size) (h : ∀ j u, olds[j]? = some u → w.cell? ⟨b, 0 + j, none⟩ = some u) : (Builtin.firstCells size n (.slice (some ⟨b, 0, none⟩) n cap)).run P w.drew = .ok olds.toArray w.drew :=
  run_firstCells_some w.drew size n ⟨b, 0, none⟩ n cap olds hl (fun j u hu => by rw [add_none]; exact h j u hu)

theorem ok_append_src {c : Call} (hop : o.op = .call c) (hcal : c.callee = .builtin .append) {s x : Operand} {ts tx : TypeId} (hxy : c.args.toList = [s, x]) (hts : c.argTypes.toList = [ts, tx]) {k : Nat} (hdst : o.dst = some k)
    {d de : TD} {cs cx : Cell} {el : TypeId} {ety : Ty} {l1 l2 : List ety.den} {j : Option Nat} {ow : Bool}
    (hD : C.D ts = some d) (hnone : st.box k = none) (hs : opndc st own none s = some cs)
    (hk : d.kind = .slice el) (hty : d.ty = .sl ety) (hDe : C.D el = some de) (h1 : apSrc st el ety cs = some (l1, j, ow)) (hsrc : SrcA P w (XA φ m) ety el tx (a.eval x) l2) (hl2 : l2 = [] → newCons cx = false)
    (hn : 1 ≤ ety.n) (hde : de.ty.n = ety.n)
    {pre : Option Prop} (hbd : (l1.length + l2.length) * de.bytes ≤ 140737488355328 ∧ l1.length + l2.length ≤ 4611686018427387903)
    (he : e = ⟨pre, some (k, .v (.one (.vref ety k))),
      (k, some (.vec (orr (newCons cx) ow) el ety (l1 ++ l2))) :: killO j⟩)
    (h : At P C φ ν own W st o e m a w K) : o.wp P a w K Q := by
  obtain ⟨hb1, hb2⟩ := hbd
  obtain ⟨ht, i, z, hi1, hi2, hi3, hzc, hby, hinfo⟩ := elem_info h.ctx hD hk hty hDe hde hn
  rw [← hby] at hb1
  have hvs := opndc_ok h.sat h.tags hs
  have hed : e.dst = some (k, .v (.one (.vref ety k))) := by rw [he]
  -- a new block
  have grow : ∀ {base : Option Addr} {sCap : Nat} {olds : List Value}, a.eval s = .slice base l1.length sCap → (Builtin.firstCells i.size l1.length (.slice base l1.length sCap)).run P w.drew = .ok olds.toArray w.drew → olds.length = l1.length * ety.n →
      (∀ i (h : i < l1.length), TR w (XA φ m) ety l1[i] ((olds.drop (i * ety.n)).take ety.n)) → l2 ≠ [] → sCap < l1.length + l2.length → (∀ j', j = some j' → ∃ ow T t l, st.box j' = some (.vec ow T t l)) → o.wp P a w K Q := by
    intro base sCap olds hu hold hol hot hne hg hkl
    obtain ⟨w', cap, hrun, hbel, hlt, hcap, hmax, hsh, hvec⟩ := append_new (ty := o.type) ht hi1 hi3 hi2 hzc hold hol hot hsrc hne hn hg hb1 hb2
    have hll : (l1 ++ l2).length = l1.length + l2.length := by simp
    refine h.newRow (bx := .vec (orr (newCons cx) _) el ety (l1 ++ _)) (kl := j) (p := 2 * (l1.length + l2.length) + 2) (b := w.heap.size) hdst hnone hed (by rw [he]) hkl (run_append hop hcal hxy hts (by rw [hu]; exact hrun)) hbel (fun _ => ⟨Nat.le_refl _, hlt⟩)
      (fun m' h3 h4 h5 => ⟨_, _, h3, .inr (.inl ⟨by rw [hll], hvec _ h5⟩)⟩)
      (fun m' h3 => ⟨_, _, h3, by omega, .inr ⟨by omega, cap, el, by rw [vlen_live], hsh, by rw [vlen_live]; omega, hmax⟩⟩)
  rcases apSrc_spec h1 with ⟨rfl, rfl, rfl⟩ | ⟨e1, j0, rfl, rfl, hc2, hbx⟩
  case inl =>
      rcases hvs.2 with ⟨h3, hu⟩ | ⟨h3, b, T, hu, hsh⟩
      · subst h3
        by_cases h0 : l2 = []
        · subst h0
          obtain ⟨news, hs1, hs2, _⟩ := hsrc
          have : news = [] := List.eq_nil_of_length_eq_zero (by simpa using hs2)
          subst this
          refine h.newRow (bx := .vec (orr (newCons cx) _) el ety ([] ++ [])) (kl := none) (p := 1) (b := 0) (v := .slice none 0 0) hdst hnone hed (by rw [he]) (fun j hj => by cases hj) (run_append hop hcal hxy hts (by rw [hu]; exact append_nothingX _ _ _ _ i ht hi1 none 0 0 (Nat.le_refl _) (by rw [hi2]; exact hs1))) (Below.refl _ _) (fun hp => by omega)
            (fun m' h3 h4 h5 => ⟨_, _, h3, .inl ⟨rfl, rfl⟩⟩) (fun m' h3 => ⟨_, _, h3, by omega, .inl ⟨rfl, rfl⟩⟩)
        · have : 0 < l2.length := List.length_pos_iff.2 h0
          exact grow (base := none) (sCap := 0) (olds := []) (by simpa using hu) (run_firstCells_none _ _ _ _ _) (by simp) (fun i hi => by simp at hi) h0 (by simpa using this) (fun j hj => by cases hj)
      · -- a literal: no room behind it
        have hrows : RowsOk w (XA φ m) ety.n (TR w (XA φ m) ety) l1 b 0 := by
          rcases hvs.1 with ⟨h4, _⟩ | ⟨ad, cap, h4, _, _, _, h5⟩
          · exact absurd h4 h3
          · rw [hu] at h4; cases h4; exact h5
        by_cases h0 : l2 = []
        · have hnc := hl2 h0
          subst h0
          obtain ⟨news, hs1, hs2, _⟩ := hsrc
          have : news = [] := List.eq_nil_of_length_eq_zero (by simpa using hs2)
          subst this
          have hnil : isNilB l1 = false := by cases l1 with | nil => exact absurd rfl h3 | cons => rfl
          refine h.newRow (bx := .vec (orr (newCons cx) _) el ety (l1 ++ _)) (kl := none) (p := 2 * l1.length + 3) (b := b) hdst hnone hed (by rw [he]) (fun j hj => by cases hj) (run_append hop hcal hxy hts (by rw [hu]; exact append_nothingX _ _ _ _ i ht hi1 _ _ _ (Nat.le_refl _) (by rw [hi2]; exact hs1))) (Below.refl _ _) (fun hp => by omega)
            (fun m' h6 h4 h5 => ⟨_, _, h6, .inr (.inr ⟨by rw [hnil, hnc]; rfl, by simp, by simpa using hrows.mono keeps_same h5 (TR.mono keeps_same h5 ety), T, by simpa using hsh⟩)⟩)
            (fun m' h6 => ⟨_, _, h6, by omega, .inr ⟨by omega, l1.length, T, by rw [vlen_dead], hsh, by rw [vlen_dead]; omega, by unfold maxLen; omega⟩⟩)
        · have : 0 < l2.length := List.length_pos_iff.2 h0
          obtain ⟨olds, ho1, ho2, ho3⟩ := rows_list (by omega) hrows.1
          exact grow hu (by rw [hi2]; exact firstCells_row ho1 ho2) ho1 ho3 h0 (by omega) (fun j hj => by cases hj)
  case inr =>
    obtain ⟨b, p, hm, hp, hval⟩ := hvs
    obtain ⟨b', p', h3, h4⟩ := h.sat.box j0 _ hbx
    rw [hm] at h3
    cases h3
    have hkl : ∀ j', some j0 = some j' → ∃ ow T t l, st.box j' = some (.vec ow T t l) := fun j' hj => by cases hj; exact ⟨_, _, _, _, hbx⟩
    rcases h4 with ⟨rfl, rfl⟩ | ⟨rfl, vs, cap, ⟨z9, hh, hz9⟩, hsz, hcap, hmax, hel⟩ | ⟨rfl, rfl, hrows, T', hsh⟩
    · -- nil
      have hu : a.eval s = .slice none 0 0 := by
        rcases hval with ⟨_, hu⟩ | ⟨hne, _⟩
        · exact hu
        · exact absurd rfl hne
      by_cases h0 : l2 = []
      · subst h0
        obtain ⟨news, hs1, hs2, _⟩ := hsrc
        have : news = [] := List.eq_nil_of_length_eq_zero (by simpa using hs2)
        subst this
        refine h.moveRow (bx := .vec (orr (newCons cx) _) el ety ([] ++ [])) (v := .slice none 0 0) (pd := 1) hdst hnone hed (by rw [he]) hbx hm hp (run_append hop hcal hxy hts (by rw [hu]; exact append_nothingX _ _ _ _ i ht hi1 none 0 0 (Nat.le_refl _) (by rw [hi2]; exact hs1))) keeps_same (fun _ _ => rfl) rfl ⟨rfl, rfl, rfl⟩ rfl (by omega)
          (fun m' h3 h4 h5 => ⟨_, _, h3, .inl ⟨rfl, rfl⟩⟩) (fun m' h3 => ⟨_, _, h3, by omega, .inl ⟨rfl, rfl⟩⟩)
      · have : 0 < l2.length := List.length_pos_iff.2 h0
        exact grow (base := none) (sCap := 0) (olds := []) (by simpa using hu) (run_firstCells_none _ _ _ _ _) (by simp) (fun i hi => by simp at hi) h0 (by simpa using this) hkl
    · -- a row of its own
      obtain ⟨cap2, T2, hu, hsh, _, _⟩ : ∃ cap2 T2, a.eval s = .slice (some ⟨b, 0, none⟩) l1.length cap2 ∧ w.shape? b = some (T2, cap2 * e1.n) ∧ True ∧ True := by
        rcases hval with ⟨h5, _⟩ | ⟨_, cap2, T2, h5, h6, _⟩
        · omega
        · rw [vlen_live] at h5; exact ⟨cap2, T2, h5, h6, trivial, trivial⟩
      have hcc : cap2 = cap := by
        have : w.shape? b = some (el, vs.size) := by unfold World.shape?; rw [hh]
        rw [this] at hsh
        simp only [Option.some.injEq, Prod.mk.injEq] at hsh
        have : cap * ety.n = cap2 * ety.n := by rw [← hsz, hsh.2, hc2]
        exact (Nat.eq_of_mul_eq_mul_right (by omega) this).symm
      subst hcc
      have holds : RowsC w ety.n (TR w (XA φ m) ety) l1 b 0 := VecAt.rows ⟨vs, cap2, ⟨z9, hh, hz9⟩, hsz, hcap, hmax, hel⟩
      by_cases h0 : l2 = []
      · subst h0
        obtain ⟨news, hs1, hs2, _⟩ := hsrc
        have : news = [] := List.eq_nil_of_length_eq_zero (by simpa using hs2)
        subst this
        refine h.moveRow (bx := .vec (orr (newCons cx) _) el ety (l1 ++ _)) (pd := 2 * l1.length + 2) hdst hnone hed (by rw [he]) hbx hm hp (run_append hop hcal hxy hts (by rw [hu]; exact append_nothingX _ _ _ _ i ht hi1 _ _ _ hcap (by rw [hi2]; exact hs1))) keeps_same (fun _ _ => rfl) rfl ⟨rfl, rfl, rfl⟩ rfl (by omega)
          (fun m' h3 h4 h5 => ⟨_, _, h3, .inr (.inl ⟨by simp, by simpa using VecAt.mono keeps_same h5 rfl ⟨vs, cap2, ⟨z9, hh, hz9⟩, hsz, hcap, hmax, hel⟩⟩)⟩)
          (fun m' h3 => ⟨_, _, h3, by omega, .inr ⟨by omega, cap2, T2, by rw [vlen_live], by rw [hc2] at hsh; exact hsh, by rw [vlen_live]; omega, hmax⟩⟩)
      · have hpos : 0 < l2.length := List.length_pos_iff.2 h0
        by_cases hroom : l1.length + l2.length ≤ cap2
        · obtain ⟨news, hs1, hs2, hs3, hs4⟩ := hsrc
          have hfit : l1.length * ety.n + news.length ≤ vs.size := by rw [hs2, hsz, ← Nat.add_mul]; exact Nat.mul_le_mul_right _ hroom
          have hrun := run_append_rowX (P := P) (w := w) ts tx o.type el i ht hi1 b l1.length cap2 vs hh hz9 (by rw [hi2]; exact hs1) hs3 hpos (by rw [hi2]; exact hn) hroom (by rw [hi2]; exact hfit)
          rw [hi2] at hrun
          let vs' : Array Value := (vs.toList.take (l1.length * ety.n) ++ news ++ vs.toList.drop (l1.length * ety.n + news.length)).toArray
          have hX : ∀ q, XA φ m b q := fun q => .inr ⟨j0, _, hm, by omega⟩
          have hsize : vs'.size = vs.size := by simp [vs']; omega
          have hkeep : Keeps (XA φ m) w (w.setRow b vs') := by
            refine ⟨by simp, fun b' p hb' hx => ?_, fun b' hb' => ?_, fun b' p hb' => ?_⟩
            · have : b' ≠ b := fun e => hx (e ▸ hX p)
              unfold World.cell?; rw [setRow_other _ _ _ _ this]
            · by_cases e : b' = b
              · subst e; unfold World.shape?; rw [setRow_heap _ _ _ _ _ _ hh, hh]; simp [hsize]
              · unfold World.shape?; rw [setRow_other _ _ _ _ e]
            · by_cases e : b' = b
              · subst e; unfold World.frozen?; simp only []; rw [setRow_heap _ _ _ _ _ _ hh, hh]
              · unfold World.frozen?; simp only []; rw [setRow_other _ _ _ _ e]
          have hh' : (w.setRow b vs').heap[b]? = some (.cells vs' el z9) := setRow_heap _ _ _ _ _ _ hh
          have hml : l1.length * ety.n ≤ vs.toList.length := by show _ ≤ vs.size; rw [hsz]; exact Nat.mul_le_mul_right _ hcap
          have hvec : ∀ X', NoMore w (XA φ m) X' → VecAt X' (w.setRow b vs') b el ety (l1 ++ l2) := fun X' hX' =>
            grown_vec (cap := cap2) (olds := vs.toList.take (l1.length * ety.n)) (news := news) (rest := vs.toList.drop (l1.length * ety.n + news.length)) (by simp; omega) hs2
              (by rw [List.length_drop, Array.length_toList, hsz, hs2, ← Nat.add_mul, ← Nat.mul_sub_right_distrib]) hroom hmax
              (fun i hi => by
                have hik : i * ety.n + ety.n ≤ l1.length * ety.n := by rw [← Nat.succ_mul]; exact Nat.mul_le_mul_right _ hi
                have : ((vs.toList.take (l1.length * ety.n)).drop (i * ety.n)).take ety.n = (vs.toList.drop (i * ety.n)).take ety.n := by
                  apply List.ext_getElem?
                  intro r
                  rw [chunk_get, chunk_get]
                  split
                  · rw [List.getElem?_take, if_pos (by omega)]
                  · rfl
                rw [this]; exact hel i hi) hs4 (by simp [vs']) ⟨z9, hh', by rw [hsize]; exact hz9⟩ hkeep hX'
          refine h.moveRow (bx := .vec (orr (newCons cx) _) el ety (l1 ++ _)) (pd := 2 * (l1.length + l2.length) + 2) hdst hnone hed (by rw [he]) hbx hm hp (run_append hop hcal hxy hts (by rw [hu]; exact hrun)) hkeep (fun b' hb' => setRow_other _ _ _ _ (hb' (by omega))) (by simp) ⟨rfl, rfl, rfl⟩ (by omega) (by omega)
            (fun m' h3 h4 h5 => ⟨_, _, h3, .inr (.inl ⟨by simp, hvec _ h5⟩)⟩)
            (fun m' h3 => ⟨_, _, h3, by omega, .inr ⟨by omega, cap2, el, by rw [vlen_live], ?_, by rw [vlen_live]; omega, hmax⟩⟩)
          unfold World.shape?; rw [hh']; simp [hsize, hsz]
        · obtain ⟨olds, ho1, ho2, ho3⟩ := rows_list (by omega) holds
          exact grow hu (by rw [hi2]; exact firstCells_row ho1 ho2) ho1 ho3 h0 (by omega) hkl
    · -- a row that others read
      obtain ⟨cap2, T2, hu, hsh2⟩ : ∃ cap2 T2, a.eval s = .slice (some ⟨b, 0, none⟩) l1.length cap2 ∧ w.shape? b = some (T2, cap2 * e1.n) := by
        rcases hval with ⟨h5, _⟩ | ⟨_, cap2, T2, h5, h6, _⟩
        · omega
        · rw [vlen_dead] at h5; exact ⟨cap2, T2, h5, h6⟩
      have hcc : cap2 = l1.length := by
        rw [hsh] at hsh2
        simp only [Option.some.injEq, Prod.mk.injEq] at hsh2
        have := hsh2.2
        rw [hc2] at this
        exact (Nat.eq_of_mul_eq_mul_right (by omega) this).symm
      subst hcc
      by_cases h0 : l2 = []
      · have hnc := hl2 h0
        subst h0
        obtain ⟨news, hs1, hs2, _⟩ := hsrc
        have : news = [] := List.eq_nil_of_length_eq_zero (by simpa using hs2)
        subst this
        refine h.moveRow (bx := .vec (orr (newCons cx) _) el ety (l1 ++ _)) (pd := 2 * l1.length + 3) hdst hnone hed (by rw [he]) hbx hm hp (run_append hop hcal hxy hts (by rw [hu]; exact append_nothingX _ _ _ _ i ht hi1 _ _ _ (Nat.le_refl _) (by rw [hi2]; exact hs1))) keeps_same (fun _ _ => rfl) rfl ⟨rfl, rfl, rfl⟩ rfl (by omega)
          (fun m' h3 h4 h5 => ⟨_, _, h3, .inr (.inr ⟨by rw [hnc]; rfl, by simp, by simpa using hrows.mono keeps_same h5 (TR.mono keeps_same h5 ety), T', by simpa using hsh⟩)⟩)
          (fun m' h3 => ⟨_, _, h3, by omega, .inr ⟨by omega, l1.length, T', by rw [vlen_dead], hsh, by rw [vlen_dead]; omega, by unfold maxLen; omega⟩⟩)
      · have hpos : 0 < l2.length := List.length_pos_iff.2 h0
        obtain ⟨olds, ho1, ho2, ho3⟩ := rows_list (by omega) hrows.1
        exact grow hu (by rw [hi2]; exact firstCells_row ho1 ho2) ho1 ho3 h0 (by omega) hkl

theorem ok_append {c : Call} (hop : o.op = .call c) (hcal : c.callee = .builtin .append) {s x : Operand} {ts tx : TypeId} (hxy : c.args.toList = [s, x]) (hts : c.argTypes.toList = [ts, tx]) {k : Nat} (hdst : o.dst = some k)
    {d dx de : TD} {cs cx : Cell} {el ex : TypeId} {ety : Ty} {l1 l2 : List ety.den} {j : Option Nat} {ow : Bool}
    (hD : C.D ts = some d) (hDx : C.D tx = some dx) (hnone : st.box k = none) (hs : opndc st own none s = some cs) (hx : opndc st own none x = some cx)
    (hk : d.kind = .slice el) (hty : d.ty = .sl ety) (hkx : dx.kind = .slice ex) (hDe : C.D el = some de) (h1 : apSrc st el ety cs = some (l1, j, ow)) (h2 : apNew st ety cx = some l2)
    (htt : ts = tx) (hn : 1 ≤ ety.n) (hde : de.ty.n = ety.n)
    (he : e = ⟨some ((l1.length + l2.length) * de.bytes ≤ 140737488355328 ∧ l1.length + l2.length ≤ 4611686018427387903), some (k, .v (.one (.vref ety k))),
      (k, some (.vec (orr (newCons cx) ow) el ety (l1 ++ l2))) :: killO j⟩)
    (h : At P C φ ν own W st o e m a w K) : o.wp P a w K Q := by
  obtain ⟨ht, i, z, hi1, hi2, hi3, hzc, hby, hinfo⟩ := elem_info h.ctx hD hk hty hDe hde hn
  subst htt
  have hsrc := srcA_of (el := el) (apNew_ok h.sat h2 (opndc_ok h.sat h.tags hx) (by omega) ht)
  have hl2 : l2 = [] → newCons cx = false := by
    intro h0
    subst h0
    cases cx with
    | lst e1 tl l =>
      obtain ⟨rfl, h3⟩ := castL_eq (show castL e1 ety l = some [] from h2)
      simp only at h3
      subst h3
      cases tl <;> rfl
    | _ => rfl
  exact ok_append_src hop hcal hxy hts hdst hD hnone hs hk hty hDe h1 hsrc hl2 hn hde (h.need _ (by rw [he])) he h

theorem zrow_chunk {X : Nat → Nat → Prop} {ety : Ty} {z : Array Value} (hz : z.toList = zeroVs ety) (hn : 0 < ety.n) {c : Nat} : ∀ i (h : i < (List.replicate c ety.dflt).length), TR w X ety (List.replicate c ety.dflt)[i] (((madeCells z (c * ety.n)).toList.drop (i * ety.n)).take ety.n) := by
  intro i hi
  have hzs : z.size = ety.n := by rw [← Array.length_toList, hz, zeroVs_len]
  have h1 : (madeCells z (c * ety.n)).toList = (List.replicate c z.toList).flatten := by
    unfold madeCells
    rw [← hzs]
    exact zero_range z (by omega) c
  simp only [List.length_replicate] at hi
  have h2 := rep_chunk (z := z.toList) hi
  rw [Array.length_toList, hzs] at h2
  rw [h1, h2, hz, List.getElem_replicate]
  exact zero_TR ety

/-- The zeros that an append makes. -/
theorem srcA_zero {X : Nat → Nat → Prop} {ety : Ty} {el tx : TypeId} {i : TypeInfo} {z : Value} {kx kv : IntKind} (hk : P.underlying tx = some (.int kx)) (hi : P.info? el = some i) (hz : i.zero = some z) (hzc : z.cells.toList = zeroVs ety) (hn : 0 < ety.n)
    {n : Int} (h0 : 0 ≤ n) (hb : n.toNat * i.bytes ≤ 281474976710656) (hm : n.toNat ≤ 4611686018427387903) : SrcA P w X ety el tx (.int kv n) (List.replicate n.toNat ety.dflt) := by
  have hzs : z.cells.size = ety.n := by rw [← Array.length_toList, hzc, zeroVs_len]
  have he : (Builtin.zeroCells z.cells n.toNat).toList = (madeCells z.cells (n.toNat * ety.n)).toList := by unfold Builtin.zeroCells madeCells; rw [hzs]
  have hl : (madeCells z.cells (n.toNat * ety.n)).toList.length = n.toNat * ety.n := by rw [Array.length_toList]; exact size_madeCells _ _
  have ht := zrow_chunk (X := X) (w := w) hzc hn (c := n.toNat)
  refine ⟨_, .inr ⟨⟨_, hk⟩, ⟨kv, by rw [List.length_replicate, Int.toNat_of_nonneg h0]⟩, ⟨i, z, hi, hz, rfl, by rw [List.length_replicate]; exact hb⟩, by rw [List.length_replicate]; exact hm⟩, ?_, ?_, ?_⟩
  · rw [List.length_replicate, he, hl]
  · rw [List.length_replicate, he]
    intro u hu
    obtain ⟨j, hj, rfl⟩ := List.getElem_of_mem hu
    have hjn : j / ety.n < (List.replicate n.toNat ety.dflt).length := by rw [List.length_replicate]; exact (Nat.div_lt_iff_lt_mul hn).2 (by omega)
    refine (ht (j / ety.n) hjn).one _ (List.mem_iff_getElem?.2 ⟨j % ety.n, ?_⟩)
    rw [chunk_get, if_pos (Nat.mod_lt _ hn), show j / ety.n * ety.n + j % ety.n = j by rw [Nat.mul_comm]; exact Nat.div_add_mod j ety.n, List.getElem?_eq_getElem hj]
  · intro k hk2
    have := ht k hk2
    rw [List.length_replicate, he]
    exact this

theorem ok_makeSlice {t : TypeId} {x y : Operand} (hop : o.op = .makeSlice t x y) (h : At P C φ ν own W st o e m a w K) : o.wp P a w K Q := by
  have he := h.ev
  simp only [evOp, hop] at he
  split at he
  case h_2 => cases he
  rename_i d k k1 n k2 c hD hdst hx hy
  split at he
  case h_2 => cases he
  rename_i el ety hk hty hnone
  split at he
  case h_2 => cases he
  rename_i de hDe
  obtain ⟨hc, he2⟩ := cnd_some he
  obtain ⟨hc1, hc2⟩ := andd_true hc
  have hn : 1 ≤ ety.n := Nat.le_of_ble_eq_true hc1
  have hde : de.ty.n = ety.n := beq_eq hc2
  simp only [Option.some.injEq] at he2
  obtain ⟨h0, h1, h2, h3⟩ := h.need _ (by rw [← he2])
  subst h1
  obtain ⟨ht, i, z, hi1, hi2, hi3, hzc, hby, hinfo⟩ := elem_info h.ctx hD hk hty hDe hde hn
  have hX : a.eval x = .int k1 n := opndc_ok h.sat h.tags hx
  have hY : a.eval y = .int k2 n := opndc_ok h.sat h.tags hy
  have hrun := run_make (P := P) w t el i z ht hi1 hi3 k1 k2 n n h0 (Int.le_refl _) (by rw [hby, Int.mul_comm]; omega) (by omega)
  rw [hi2] at hrun
  have hzs : z.cells.size = ety.n := by rw [← Array.length_toList, hzc, zeroVs_len]
  let vs := madeCells z.cells (n.toNat * ety.n)
  have hb : Below w.heap.size w (w.alloc (.cells vs el)) := (Below.refl _ _).alloc (Nat.le_refl _) _
  have hnew : (w.alloc (.cells vs el)).heap[w.heap.size]? = some (.cells vs el) := by unfold World.alloc; simp only [Array.getElem?_push_size]
  have hsz : vs.size = n.toNat * ety.n := size_madeCells _ _
  have hlen : (zrow ety n).length = n.toNat := by simp [zrow]
  refine h.newRow (kl := none) (tv := .v (.one (.vref ety k))) (bx := .vec true el ety (zrow ety n)) (p := 2 * n.toNat + 2) (b := w.heap.size) (v := .slice (some ⟨w.heap.size, 0, none⟩) n.toNat n.toNat) hdst hnone (by rw [← he2]) (by rw [← he2]; rfl) (fun j hj => by cases hj)
    (by simp only [execOp, hop, hX, hY, Sem.run_bind, hrun, Result.andThen_ok, Sem.run_pure]; rfl) hb (fun _ => ⟨Nat.le_refl _, by simp⟩)
    (fun m' h4 h5 h6 => ⟨_, _, h4, .inr (.inl ⟨by rw [hlen], vs, n.toNat, ⟨(0, 0), hnew, .inl rfl⟩, hsz, by rw [hlen]; exact Nat.le_refl _, by unfold maxLen; omega, fun i hi => zrow_chunk hzc hn i hi⟩)⟩)
    (fun m' h4 => ⟨_, _, h4, by omega, .inr ⟨by omega, n.toNat, el, by rw [vlen_live], by unfold World.shape?; rw [hnew]; simp [hsz], by rw [vlen_live]; exact Nat.le_refl _, by unfold maxLen; omega⟩⟩)

theorem run_firstCells_part {b off n k cap size : Nat} {news : List Value} (hk : k ≤ n) (hl : news.length = n * size) {ad : Addr} (h : ∀ j u, news[j]? = some u → w.cell? (ad.add j) = some u) :
    (Builtin.firstCells size k (.slice (some ad) n cap)).run P w = .ok (news.take (k * size)).toArray w :=
  run_firstCells_some w size k ad n cap (news.take (k * size)) (by rw [List.length_take, hl]; have := Nat.mul_le_mul_right size hk; omega) (fun j u hu => by
    rw [List.getElem?_take] at hu
    split at hu
    · exact h j u hu
    · cases hu)

theorem copyL_lt {α : Type} {l l2 : List α} {r : Nat} (hr : r < (copyL l l2).length) (h : r < min l2.length l.length) : (copyL l l2)[r] = l2[r]'(by omega) := by
  simp only [copyL]
  rw [List.getElem_append_left (by simp; omega), List.getElem_take]
theorem copyL_ge {α : Type} {l l2 : List α} {r : Nat} (hr : r < (copyL l l2).length) (hr' : r < l.length) (h : ¬ r < min l2.length l.length) : (copyL l l2)[r] = l[r] := by
  simp only [copyL]
  rw [List.getElem_append_right (by simp; omega), List.getElem_drop]
  congr 1
  simp
  omega

theorem ok_copy {c : Call} (hop : o.op = .call c) (hcal : c.callee = .builtin .copy) {s x : Operand} {ts tx : TypeId} (hxy : c.args.toList = [s, x]) (hts : c.argTypes.toList = [ts, tx]) {k : Nat} (hdst : o.dst = some k)
    {d dx de : TD} {cx : Cell} {el ex : TypeId} {ety e0 : Ty} {l l2 : List ety.den} {j : Nat} {T : TypeId}
    (hD : C.D ts = some d) (hDx : C.D tx = some dx) (hs : opndc st own none s = some (.vref e0 j)) (hx : opndc st own none x = some cx)
    (hk : d.kind = .slice el) (hkx : dx.kind = .slice ex) (hbx : st.box j = some (.vec true T ety l)) (hDe : C.D el = some de) (h2 : apNew st ety cx = some l2)
    (hde : de.ty.n = ety.n) (he0 : e0.n = ety.n) (hn : 1 ≤ ety.n)
    (he : e = ⟨none, some (k, .v (.one (.int .i64 (min (l2.length : Int) (l.length : Int))))), [(j, some (.vec true T ety (copyL l l2)))]⟩)
    (h : At P C φ ν own W st o e m a w K) : o.wp P a w K Q := by
  obtain ⟨d1, hd1, hkd, _⟩ := (h.ctx.D ts d hD).desc
  unfold kindOk at hkd
  rw [hk] at hkd
  obtain ⟨_, rfl, t', ag, hty', hinfo⟩ := hkd
  obtain ⟨i, hi1, hi2, hi3⟩ := hinfo.info
  obtain ⟨i', hi1', hi2', hi3'⟩ := (h.ctx.D el de hDe).info.info
  rw [hi1] at hi1'; cases hi1'
  have hisz : i.size = ety.n := hi2'.trans hde
  obtain ⟨d2, hd2, hkd2, _⟩ := (h.ctx.D tx dx hDx).desc
  unfold kindOk at hkd2
  rw [hkx] at hkd2
  obtain ⟨_, rfl, _⟩ := hkd2
  obtain ⟨news, hs1, hs2, hs3, hs4, hs5⟩ := apNew_ok h.sat h2 (opndc_ok h.sat h.tags hx) (by omega) hd2
  obtain ⟨b, p, hm, hp, hval⟩ := opndc_ok h.sat h.tags hs
  obtain ⟨b', p', h3, h4⟩ := h.sat.box j _ hbx
  rw [hm] at h3
  cases h3
  obtain ⟨k0, hkd⟩ : ∃ k0, k0 = min l2.length l.length := ⟨_, rfl⟩
  have hk0 : (min (l2.length : Int) (l.length : Int)) = (k0 : Int) := by omega
  have hsz : (sizeOf el).run P w = .ok ety.n w := by simp [sizeOf, typeInfo, hi1, hisz]
  -- the cells that are copied
  have hfirst : (Builtin.firstCells ety.n k0 (a.eval x)).run P w = .ok (news.take (k0 * ety.n)).toArray w := by
    rcases hs5 with h0 | ⟨ad, cap, hu, hcell⟩
    · subst h0
      have hnl : news = [] := List.eq_nil_of_length_eq_zero (by simpa using hs2)
      subst hnl
      have : k0 = 0 := by simp [hkd]
      rw [this]
      simpa using hs1.cells
    · rw [hu]; exact run_firstCells_part (off := 0) (b := 0) (by omega) hs2 hcell
  have hbody : ∀ (base : Option Addr) (cap : Nat) (w2 : World), a.eval s = .slice base l.length cap → ((match base with | some a => storeCells a (news.take (k0 * ety.n)) | none => pure () : Sem Unit)).run P w = .ok () w2 →
      (execOp a.eval o).run P w = .ok (.value (.int .i64 (k0 : Int))) w2 := by
    intro base cap w2 hu hst
    refine run_copy hop hcal hxy hts ?_
    rw [hu]
    have hmin : Nat.min l2.length l.length = k0 := hkd.symm
    unfold Builtin.copy_
    cases base with
    | none =>
      cases hst
      simp [run_underlying hd1, hs1.len, hmin, hsz, hfirst, goInt]
    | some ad =>
      simp [run_underlying hd1, hs1.len, hmin, hsz, hfirst, goInt, hst]
  unfold Oper.wp
  rcases h4 with ⟨rfl, rfl⟩ | ⟨rfl, vs, cap, ⟨z9, hh, hz9⟩, hvsz, hcap, hmax, hel⟩ | ⟨h4, _⟩
  · -- nil
    have hu : a.eval s = .slice none 0 0 := by
      rcases hval with ⟨_, hu⟩ | ⟨hne, _⟩
      · exact hu
      · exact absurd rfl hne
    rw [hbody none 0 w hu rfl]
    show K (a.put o.dst _) w
    rw [hdst]
    refine h.next _ _ ?_
    rw [he, apply_put, applyB_one, hk0]
    have hc : copyL ([] : List ety.den) l2 = [] := by simp [copyL]
    rw [hc]
    have : (fun u => if u = j then some (Bx.vec true T ety []) else st.box u) = st.box := by
      funext u
      split
      · rename_i hu; rw [hu, hbx]
      · rfl
    rw [this]
    exact ⟨m, h.sat.put (h.dst k hdst).1 (h.dst k hdst).2 h.tags rfl⟩
  · obtain ⟨cap2, T2, hu, hsh⟩ : ∃ cap2 T2, a.eval s = .slice (some ⟨b, 0, none⟩) l.length cap2 ∧ w.shape? b = some (T2, cap2 * e0.n) := by
      rcases hval with ⟨h5, _⟩ | ⟨_, cap2, T2, h5, h6, _⟩
      · omega
      · rw [vlen_live] at h5; exact ⟨cap2, T2, h5, h6⟩
    let cp := news.take (k0 * ety.n)
    have hcl : cp.length = k0 * ety.n := by
      have : k0 * ety.n ≤ l2.length * ety.n := Nat.mul_le_mul_right _ (by omega)
      simp only [cp, List.length_take, hs2]; omega
    have hk0l : k0 * ety.n ≤ l.length * ety.n := Nat.mul_le_mul_right _ (by omega)
    have hfit : cp.length ≤ vs.size := by
      rw [hcl, hvsz]
      exact Nat.le_trans hk0l (Nat.mul_le_mul_right _ hcap)
    let vs' : Array Value := (vs.toList.take 0 ++ cp ++ vs.toList.drop (0 + cp.length)).toArray
    have hstore := run_storeCells_row (P := P) b 0 T cp 0 vs w hh hz9 (by omega) (fun u hu => hs3 u (List.mem_of_mem_take hu))
    rw [hbody (some ⟨b, 0, none⟩) cap2 (w.setRow b vs') hu (by simpa [vs'] using hstore)]
    show K (a.put o.dst _) _
    rw [hdst]
    refine h.next _ _ ?_
    have hsize : vs'.size = vs.size := by simp [vs']; omega
    have hvg : ∀ q, vs'.toList[q]? = if q < cp.length then cp[q]? else vs.toList[q]? := by
      intro q
      simp only [vs', List.toList_toArray]
      rw [splice_get _ _ _ _ (by rw [Nat.zero_add]; exact hfit)]
      simp
    have hclen : (copyL l l2).length = l.length := by simp [copyL]; omega
    have h9 := h.sat.write (bx := .vec true T ety (copyL l l2)) hbx rfl hm (by omega) hh hsize (fun hk1 hk2 => ⟨b, _, hm, .inr (.inl ⟨by rw [hclen], vs', cap, ⟨z9, hk2, by rw [hsize]; exact hz9⟩, by rw [hsize]; exact hvsz, by rw [hclen]; exact hcap, hmax, fun r hr => ?_⟩)⟩) rfl own
    · rw [he, apply_put, hk0]
      exact ⟨m, h9.put (h.dst k hdst).1 (h.dst k hdst).2 h.tags rfl⟩
    · have hr' : r < l.length := hclen ▸ hr
      have hch : (vs'.toList.drop (r * ety.n)).take ety.n = if r < k0 then (news.drop (r * ety.n)).take ety.n else (vs.toList.drop (r * ety.n)).take ety.n := by
        apply List.ext_getElem?
        intro q
        rw [chunk_get]
        by_cases hrk : r < k0
        · have := Nat.mul_le_mul_right ety.n (show r + 1 ≤ k0 from hrk)
          rw [Nat.succ_mul] at this
          rw [if_pos hrk, chunk_get]
          split
          · rw [hvg, if_pos (by omega)]
            simp only [cp]
            rw [List.getElem?_take, if_pos (by omega)]
          · rfl
        · have := Nat.mul_le_mul_right ety.n (show k0 ≤ r by omega)
          rw [if_neg hrk, chunk_get]
          split
          · rw [hvg, if_neg (by omega)]
          · rfl
      rw [hch]
      by_cases hrk : r < k0
      · rw [if_pos hrk]
        have : (copyL l l2)[r] = l2[r]'(by omega) := copyL_lt hr (by rw [← hkd]; exact hrk)
        rw [this]
        exact (hs4 r (by omega)).mono hk1 noMore_refl _ _ _
      · rw [if_neg hrk]
        have : (copyL l l2)[r] = l[r] := copyL_ge hr hr' (by rw [← hkd]; exact hrk)
        rw [this]
        exact (hel r hr').mono hk1 noMore_refl _ _ _
  · cases h4
end
end Go.Proofs.Ytghlpolodjlgjaa.Sy
