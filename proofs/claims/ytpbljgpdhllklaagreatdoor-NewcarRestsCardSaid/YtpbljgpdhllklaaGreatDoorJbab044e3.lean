/- Own texts joined by pk.py. -/
import Derived.Test.YtpbljgpdhllklaaGreatDoorJ76fdc65c
import Derived.Test.YtpbljgpdhllklaaGreatDoorJ79d8b98f
import Derived.Test.YtpbljgpdhllklaaGreatDoorJ6aed71cc
section
/- The plain tick of a modernised car, and of its drive (own work). -/
namespace Go.Proofs.YtpbljgpdhllklaaGreatDoor.Sp
open Go Sy
set_option linter.unusedVariables false
set_option linter.unusedSimpArgs false
abbrev RigT := Int × Int × Int × Int × Int × Int
def mor (x : Int) : Int := min (x + 1) 1000000
def dcnt (i : Int) : Int := if i = 0 then 0 else mor i
abbrev zd : DoorT := (0, 0, 0, false, 0)
abbrev zm : MotT := (0, 0, 0)
def dtick (dw ho : Int) (s : DoorT) (door : Int) (blk : Bool) : DoorT × Int :=
  if s.1 = 1 ∧ door = 1 then ((2, 0, max (dcnt s.2.2.1) 1, s.2.2.2), 0)
  else if s.1 = 3 ∧ door = 2 then (zd, 0)
  else if s.1 = 3 ∧ dcnt s.2.2.1 > ho ∧ s.2.2.2.1 = true then ((3, mor s.2.1, dcnt s.2.2.1, s.2.2.2), 5)
  else if dcnt s.2.2.1 > ho then ((3, 0, dcnt s.2.2.1, true, s.2.2.2.2), 5)
  else if s.1 = 1 then ((1, mor s.2.1, dcnt s.2.2.1, s.2.2.2), 3)
  else if s.1 = 2 then (if s.2.1 + 1 ≥ dw ∧ blk = false then ((3, 0, dcnt s.2.2.1, s.2.2.2), 4) else ((2, mor s.2.1, dcnt s.2.2.1, s.2.2.2), 0))
  else if blk = true then ((1, 0, dcnt s.2.2.1, s.2.2.2.1, mor s.2.2.2.2), 3)
  else ((3, mor s.2.1, dcnt s.2.2.1, s.2.2.2), 4)
def DOk (s : DoorT) : Prop := s = zd ∨ ((1 ≤ s.1 ∧ s.1 ≤ 3) ∧ (0 ≤ s.2.1 ∧ s.2.1 ≤ 1000000) ∧ (0 ≤ s.2.2.1 ∧ s.2.2.1 ≤ 1000000) ∧ 0 ≤ s.2.2.2.2 ∧ s.2.2.2.2 ≤ 1000000)
def MOk (n : Int) (s : MotT) : Prop := (0 ≤ s.2.1 ∧ s.2.1 ≤ 1000000) ∧ ((s.1 = 0 ∧ s.2.2 = 0) ∨ (s.1 = 1 ∧ 0 ≤ s.2.2 ∧ s.2.2 + 1 < n) ∨ (s.1 = 2 ∧ 0 < s.2.2 ∧ s.2.2 < n))
def tgt (m : MotT) : Int := if m.1 = 1 then m.2.2 + 1 else m.2.2 - 1
structure NS (n : Nat) (s : CarS) : Prop where
  sd : 0 ≤ s.1.1 ∧ s.1.1 ≤ 2
  so : 0 ≤ s.1.2 ∧ s.1.2 ≤ 7
  dr : DOk s.2.1
  mo : MOk n s.2.2.1
  ex : s.2.1 = zd ∨ s.2.2.1 = zm
  wc : W s.2.2.2.1
  cb : ∀ i, bit s.2.2.2.1 i = true → i < n
  sh : 0 ≤ s.2.2.2.2.1 ∧ s.2.2.2.2.1 ≤ 2
  id : 0 ≤ s.2.2.2.2.2.1 ∧ s.2.2.2.2.2.1 ≤ 1000000
  fa : s.2.2.2.2.2.2 = false
def nclr (f c : Int) : Int := nand32 c (shl32 1 f)
def npress (n f : Int) (s : CarS) (p : Int) : CarS :=
  (s.1, s.2.1, s.2.2.1, or32 s.2.2.2.1 (if s.2.1.1 = 0 then and32 p (allm n) else nand32 (and32 p (allm n)) (shl32 1 f)), s.2.2.2.2)
def ncyc (dw ho : Int) (fb : FbT) (s : CarS) : CarS × Int :=
  ((s.1, (dtick dw ho s.2.1 fb.2.2.1 fb.2.2.2).1, s.2.2.1, (if (dtick dw ho s.2.1 fb.2.2.1 fb.2.2.2).1.1 = 2 then nclr fb.1 s.2.2.2.1 else s.2.2.2.1),
    (if (dtick dw ho s.2.1 fb.2.2.1 fb.2.2.2).1.1 = 0 then 0 else s.2.2.2.2.1), 0, s.2.2.2.2.2.2), (dtick dw ho s.2.1 fb.2.2.1 fb.2.2.2).2)
def ndec (C : Int × Int × Int) (N : Int × Int) (p : Int) (f : Int) (s : CarS) : CarS × Int :=
  if C.1 = 3 then ((N, (1, 0, 0, false, 0), zm, s.2.2.2.1, C.2.2, 0, s.2.2.2.2.2.2), 3)
  else if C.1 = 1 ∨ C.1 = 2 then ((N, s.2.1, (C.1, 0, f), s.2.2.2.1, s.2.2.2.2.1, 0, s.2.2.2.2.2.2), C.1)
  else if p ≠ 0 then ((N, s.2.1, (p, 0, f), s.2.2.2.1, s.2.2.2.2.1, s.2.2.2.2.2.1, s.2.2.2.2.2.2), p)
  else ((N, s.2.1, zm, s.2.2.2.1, s.2.2.2.2.1, mor s.2.2.2.2.2.1, s.2.2.2.2.2.2), 0)
def mark1 (o : Int) : Int := o + 1 - o % 2
def nflr (dw ho : Int) (C : Int × Int × Int) (N : Int × Int) (p : Int) (fb : FbT) (s : CarS) : CarS × Int :=
  if fb.2.2.1 ≠ 2 then ncyc dw ho fb ((s.1.1, mark1 s.1.2), (1, 0, 0, false, 0), zm, s.2.2.2.1, 0, s.2.2.2.2.2)
  else ndec C N p fb.1 s
def ncore (dw ho : Int) (C : Int × Int × Int) (N : Int × Int) (p : Int) (fb : FbT) (s : CarS) : CarS × Int :=
  if s.2.1.1 ≠ 0 then ncyc dw ho fb s
  else if s.2.2.1.1 ≠ 0 then
    (if fb.2.1 = true ∧ fb.1 = tgt s.2.2.1 then nflr dw ho C N p fb (s.1, s.2.1, zm, s.2.2.2)
     else ((s.1, s.2.1, (s.2.2.1.1, mor s.2.2.1.2.1, s.2.2.1.2.2), s.2.2.2.1, s.2.2.2.2.1, (if s.1.1 ≠ 0 then 0 else s.2.2.2.2.2.1), s.2.2.2.2.2.2), s.2.2.1.1))
  else if fb.2.1 = true then nflr dw ho C N p fb (s.1, s.2.1, zm, s.2.2.2)
  else ((s.1, s.2.1, (s.2.2.1.1, mor s.2.2.1.2.1, s.2.2.1.2.2), s.2.2.2.1, s.2.2.2.2.1, 0, s.2.2.2.2.2.2), 0)
abbrev zf : CarS := ((0, 0), zd, zm, 0, 0, 0, true)
def nlate (T S : Int) (s : CarS) : Prop := ((s.2.1.1 = 1 ∨ s.2.1.1 = 3) ∧ s.2.1.2.1 > T) ∨ s.2.2.1.2.1 > S
instance (T S : Int) (s : CarS) : Decidable (nlate T S s) := by unfold nlate; infer_instance
def nwatch (T S : Int) (r : CarS × Int) : CarS × Int := if nlate T S r.1 then (zf, 0) else r
theorem mor_bd {x : Int} (h : 0 ≤ x) : 0 ≤ mor x ∧ mor x ≤ 1000000 := by unfold mor; omega
theorem dcnt_bd {x : Int} (h : 0 ≤ x ∧ x ≤ 1000000) : 0 ≤ dcnt x ∧ dcnt x ≤ 1000000 := by unfold dcnt mor; split <;> omega
theorem dtick_ok {dw ho : Int} {s : DoorT} {door : Int} {blk : Bool} (h1 : 1 ≤ s.1 ∧ s.1 ≤ 3) (h2 : 0 ≤ s.2.1 ∧ s.2.1 ≤ 1000000) (h3 : 0 ≤ s.2.2.1 ∧ s.2.2.1 ≤ 1000000) (h4 : 0 ≤ s.2.2.2.2 ∧ s.2.2.2.2 ≤ 1000000) :
    DOk (dtick dw ho s door blk).1 := by
  have a1 := mor_bd h2.1
  have a2 := dcnt_bd h3
  have a3 := mor_bd h4.1
  unfold dtick
  repeat' split
  all_goals first
    | exact Or.inl rfl
    | exact Or.inr ⟨by simp only; omega, by simp only; omega, by simp only; omega, by simp only; omega⟩
theorem NS.put {n : Nat} {dir op st tm si cy mc mt mf c sh id : Int} {nu : Bool} (h1 : 0 ≤ dir ∧ dir ≤ 2) (h2 : 0 ≤ op ∧ op ≤ 7) (h3 : DOk (st, tm, si, nu, cy)) (h4 : MOk n (mc, mt, mf)) (h5 : (st, tm, si, nu, cy) = zd ∨ (mc, mt, mf) = zm) (h6 : W c) (h7 : ∀ i, bit c i = true → i < n) (h8 : 0 ≤ sh ∧ sh ≤ 2) (h9 : 0 ≤ id ∧ id ≤ 1000000) :
    NS n ((dir, op), (st, tm, si, nu, cy), (mc, mt, mf), c, sh, id, false) := ⟨h1, h2, h3, h4, h5, h6, h7, h8, h9, rfl⟩
theorem MOk.z (n : Nat) : MOk n zm := ⟨by decide, Or.inl ⟨rfl, rfl⟩⟩
theorem nclr_ok {n : Nat} {f : Nat} {c : Int} (hn : n ≤ 32) (hf : f < n) (h6 : W c) (h7 : ∀ i, bit c i = true → i < n) : W (nclr f c) ∧ ∀ i, bit (nclr f c) i = true → i < n := by
  refine ⟨W_nand _ _, fun i hi => ?_⟩
  have h32 := bit_lt (W_nand _ _) hi
  unfold nclr at hi
  rw [bit_nand h6.1 (W_shl _ _).1 i h32] at hi
  simp only [Bool.and_eq_true] at hi
  exact h7 i hi.1
theorem ncyc_NS {n f : Nat} {dw ho : Int} {fb : FbT} {s : CarS} (hn : n ≤ 32) (hf : f < n) (ef : fb.1 = f) (h : NS n s) (h0 : s.2.1.1 ≠ 0) : NS n (ncyc dw ho fb s).1 := by
  obtain ⟨⟨dir, op⟩, ⟨st, tm, si, nu, cy⟩, ⟨mc, mt, mf⟩, c, sh, id, fa⟩ := s
  obtain ⟨a1, a2, a3, a4, a5, a6, a7, a8, a9, a10⟩ := h
  simp only at a1 a2 a3 a4 a5 a6 a7 a8 a9 a10 h0
  subst a10
  have hd : DOk (dtick dw ho (st, tm, si, nu, cy) fb.2.2.1 fb.2.2.2).1 := by
    rcases a3 with a3 | a3
    · exact absurd (congrArg Prod.fst a3) h0
    · exact dtick_ok a3.1 a3.2.1 a3.2.2.1 a3.2.2.2
  have hm : (mc, mt, mf) = zm := by
    rcases a5 with a5 | a5
    · exact absurd (congrArg Prod.fst a5) h0
    · exact a5
  unfold ncyc
  simp only
  generalize dtick dw ho (st, tm, si, nu, cy) fb.2.2.1 fb.2.2.2 = q at hd ⊢
  obtain ⟨⟨st', tm', si', nu', cy'⟩, cm⟩ := q
  have hc := nclr_ok (f := f) hn hf a6 a7
  rw [ef]
  refine NS.put a1 a2 hd a4 (Or.inr hm) ?_ ?_ ?_ (by decide)
  · split
    · exact hc.1
    · exact a6
  · split
    · exact hc.2
    · exact a7
  · split
    · decide
    · exact a8
structure CNP (n f : Nat) (C : Int × Int × Int) (N : Int × Int) (p : Int) : Prop where
  c : 0 ≤ C.1 ∧ C.1 ≤ 3
  s : 0 ≤ C.2.2 ∧ C.2.2 ≤ 2
  n1 : 0 ≤ N.1 ∧ N.1 ≤ 2
  n2 : 0 ≤ N.2 ∧ N.2 ≤ 7
  up : C.1 = 1 → f + 1 < n
  dn : C.1 = 2 → 0 < f
  p : (p = 0) ∨ (p = 1 ∧ f + 1 < n) ∨ (p = 2 ∧ 0 < f)
theorem ndec_NS {n f : Nat} {C : Int × Int × Int} {N : Int × Int} {p : Int} {s : CarS} (hf : f < n) (k : CNP n f C N p) (h : NS n s) (hz : s.2.1 = zd) : NS n (ndec C N p f s).1 := by
  obtain ⟨⟨dir, op⟩, ⟨st, tm, si, nu, cy⟩, ⟨mc, mt, mf⟩, c, sh, id, fa⟩ := s
  obtain ⟨a1, a2, a3, a4, a5, a6, a7, a8, a9, a10⟩ := h
  obtain ⟨k1, k2, k3, k4, k5, k6, k7⟩ := k
  obtain ⟨N1, N2⟩ := N
  simp only at a1 a2 a3 a4 a5 a6 a7 a8 a9 a10 hz k3 k4
  subst a10
  have a9' := mor_bd a9.1
  unfold ndec
  repeat' split
  · exact NS.put k3 k4 (Or.inr (by decide)) (MOk.z n) (Or.inr rfl) a6 a7 k2 (by decide)
  · rename_i h1 h2
    exact NS.put k3 k4 a3 ⟨by simp only; omega, by simp only; omega⟩ (Or.inl hz) a6 a7 a8 (by decide)
  · exact NS.put k3 k4 a3 ⟨by simp only; omega, by simp only; omega⟩ (Or.inl hz) a6 a7 a8 a9
  · exact NS.put k3 k4 a3 (MOk.z n) (Or.inl hz) a6 a7 a8 a9'
theorem DOk.one : DOk (1, 0, 0, false, 0) := Or.inr (by decide)
theorem le02 : (0 : Int) ≤ 0 ∧ (0 : Int) ≤ 2 := by decide
theorem nflr_NS {n f : Nat} {dw ho : Int} {C : Int × Int × Int} {N : Int × Int} {p : Int} {fb : FbT} {s : CarS} (hn : n ≤ 32) (hf : f < n) (ef : fb.1 = f) (k : CNP n f C N p) (h : NS n s) (hz : s.2.1 = zd) : NS n (nflr dw ho C N p fb s).1 := by
  unfold nflr
  split
  · refine ncyc_NS hn hf ef ⟨h.sd, ?_, DOk.one, MOk.z n, Or.inr rfl, h.wc, h.cb, le02, h.id, h.fa⟩ (by show (1 : Int) ≠ 0; decide)
    have := h.so
    show 0 ≤ mark1 s.1.2 ∧ mark1 s.1.2 ≤ 7
    unfold mark1; omega
  · rw [ef]
    exact ndec_NS hf k h hz
theorem NS.moz {n : Nat} {s : CarS} (h : NS n s) : NS n (s.1, s.2.1, zm, s.2.2.2) := ⟨h.sd, h.so, h.dr, MOk.z n, Or.inr rfl, h.wc, h.cb, h.sh, h.id, h.fa⟩
theorem NS.dz {n : Nat} {s : CarS} (h : NS n s) (h0 : ¬ s.2.1.1 ≠ 0) : s.2.1 = zd := by
  rcases h.dr with a | a
  · exact a
  · omega
theorem ncore_NS {n f : Nat} {dw ho : Int} {C : Int × Int × Int} {N : Int × Int} {p : Int} {fb : FbT} {s : CarS} (hn : n ≤ 32) (hf : f < n) (ef : fb.1 = f) (k : CNP n f C N p) (h : NS n s) : NS n (ncore dw ho C N p fb s).1 := by
  have hmt := h.mo.1
  have b1 := mor_bd hmt.1
  have hid := h.id
  unfold ncore
  split
  · exact ncyc_NS hn hf ef h (by assumption)
  · rename_i h0
    have hz := h.dz h0
    split
    · split
      · exact nflr_NS hn hf ef k h.moz hz
      · refine ⟨h.sd, h.so, h.dr, ⟨b1, h.mo.2⟩, Or.inl hz, h.wc, h.cb, h.sh, ?_, h.fa⟩
        show 0 ≤ (if s.1.1 ≠ 0 then 0 else s.2.2.2.2.2.1) ∧ (if s.1.1 ≠ 0 then 0 else s.2.2.2.2.2.1) ≤ 1000000
        split <;> omega
    · split
      · exact nflr_NS hn hf ef k h.moz hz
      · exact ⟨h.sd, h.so, h.dr, ⟨b1, h.mo.2⟩, Or.inl hz, h.wc, h.cb, h.sh, by show (0 : Int) ≤ 0 ∧ (0 : Int) ≤ 1000000; decide, h.fa⟩
theorem npress_NS {n : Nat} {f p : Int} {s : CarS} (hn : n ≤ 32) (wp : W p) (h : NS n s) : NS n (npress n f s p) := by
  refine ⟨h.sd, h.so, h.dr, h.mo, h.ex, W_or _ _, fun i hi => ?_, h.sh, h.id, h.fa⟩
  have hi : bit (or32 s.2.2.2.1 (if s.2.1.1 = 0 then and32 p (allm (n : Int)) else nand32 (and32 p (allm (n : Int))) (shl32 1 f))) i = true := hi
  have h32 := bit_lt (W_or _ _) hi
  have wz : ∀ z, (z = and32 p (allm (n : Int)) ∨ z = nand32 (and32 p (allm (n : Int))) (shl32 1 f)) → 0 ≤ z ∧ (bit z i = true → i < n) := by
    intro z hz
    rcases hz with rfl | rfl
    · refine ⟨(W_and _ _).1, fun e => ?_⟩
      rw [bit_and wp.1 (W_allm _).1 i h32, bit_allm n i hn] at e
      simp only [Bool.and_eq_true, decide_eq_true_eq] at e
      exact e.2
    · refine ⟨(W_nand _ _).1, fun e => ?_⟩
      rw [bit_nand (W_and _ _).1 (W_shl _ _).1 i h32, bit_and wp.1 (W_allm _).1 i h32, bit_allm n i hn] at e
      simp only [Bool.and_eq_true, decide_eq_true_eq] at e
      exact e.1.2
  have hz := wz (if s.2.1.1 = 0 then and32 p (allm (n : Int)) else nand32 (and32 p (allm (n : Int))) (shl32 1 f)) (by split <;> simp)
  rw [bit_or h.wc.1 hz.1 i h32] at hi
  simp only [Bool.or_eq_true] at hi
  rcases hi with hi | hi
  · exact h.cb i hi
  · exact hz.2 hi
end Go.Proofs.YtpbljgpdhllklaaGreatDoor.Sp
end

section
/- Collective: the program's scene and the reference's, the program is the reference, choices at every combination (own work; the part without law 11). -/
namespace Go.Proofs.YtpbljgpdhllklaaGreatDoor.Sp
open Go Sy
set_option linter.unusedVariables false
set_option linter.unusedSimpArgs false
set_option maxRecDepth 10000
abbrev cA (n : Nat) (c : Int) : Int := and32 c (allm (n : Int))
abbrev cU (n : Nat) (u : Int) : Int := and32 u (shr32 (allm (n : Int)) 1)
abbrev cD (n : Nat) (d : Int) : Int := and32 d (nand32 (allm (n : Int)) 1)
abbrev cS (A U D : Int) : Int := or32 (or32 A U) D
theorem W_cS (A U D : Int) : W (cS A U D) := W_or _ _
theorem bit_cS {A U D : Int} (hA : W A) (hU : W U) (hD : W D) (i : Nat) (hi : i < 32) : bit (cS A U D) i = (bit A i || bit U i || bit D i) := by
  rw [bit_or (W_or _ _).1 hD.1 i hi, bit_or hA.1 hU.1 i hi]
theorem and_zero {a : Int} (ha : W a) : and32 a 0 = 0 := W.ext (W_and _ _) W.zero fun i hi => by rw [bit_and ha.1 (by omega) i hi, bit_zero, Bool.and_false]
theorem has_up {U D : Int} (hU : W U) (hD : W D) (f : Nat) (hf : f < 32) : F117 ((U, D), (f : Int), 1) = bit U f := by
  have h1 : F123 ((f : Int), 1) = (shl32 1 (f : Int), 0) := by
    unfold F123
    have : (decide ((f : Int) ≥ 0) && decide ((f : Int) < 32)) = true := by simp; omega
    rw [this]; rfl
  unfold F117
  rw [h1]
  show (!((and32 U (shl32 1 (f : Int)) == 0) && (and32 D 0 == 0))) = _
  rw [and_zero hD, and_shl hU f hf]
  cases hb : bit U f with
  | false => rfl
  | true =>
    rw [cond_true]
    have : shl32 1 (f : Int) ≠ 0 := ne_zero_of (i := f) (by rw [bit_one f f hf]; simp)
    simp [this]
theorem has_down {U D : Int} (hU : W U) (hD : W D) (f : Nat) (hf : f < 32) : F117 ((U, D), (f : Int), 2) = bit D f := by
  have h1 : F123 ((f : Int), 2) = (0, shl32 1 (f : Int)) := by
    unfold F123
    have : (decide ((f : Int) ≥ 0) && decide ((f : Int) < 32)) = true := by simp; omega
    rw [this]; rfl
  unfold F117
  rw [h1]
  show (!((and32 U 0 == 0) && (and32 D (shl32 1 (f : Int)) == 0))) = _
  rw [and_zero hU, and_shl hD f hf]
  cases hb : bit D f with
  | false => rfl
  | true =>
    rw [cond_true]
    have : shl32 1 (f : Int) ≠ 0 := ne_zero_of (i := f) (by rw [bit_one f f hf]; simp)
    simp [this]
theorem look_eq (n f : Nat) (w : Int × Int) (c u d : Int) : F105 ((n : Int), w, (f : Int), c, u, d) =
    bif (shr32 (shr32 (cS (cA n c) (cU n u) (cD n d)) (f : Int)) 1 != 0) then
      (bif (and32 (cS (cA n c) (cU n u) (cD n d)) (allm (f : Int)) != 0) then
        (and32 (shr32 c (f : Int)) 1 == 1, F117 ((cU n u, cD n d), (f : Int), 1), F117 ((cU n u, cD n d), (f : Int), 2), IntKind.i64.wrap (1 + F118 (shr32 (shr32 (cS (cA n c) (cU n u) (cD n d)) (f : Int)) 1)), IntKind.i64.wrap (IntKind.i64.wrap ((f : Int) - F119 (and32 (cS (cA n c) (cU n u) (cD n d)) (allm (f : Int)))) + 1), w.2)
      else (and32 (shr32 c (f : Int)) 1 == 1, F117 ((cU n u, cD n d), (f : Int), 1), F117 ((cU n u, cD n d), (f : Int), 2), IntKind.i64.wrap (1 + F118 (shr32 (shr32 (cS (cA n c) (cU n u) (cD n d)) (f : Int)) 1)), 0, w.2))
    else
      bif (and32 (cS (cA n c) (cU n u) (cD n d)) (allm (f : Int)) != 0) then
        (and32 (shr32 c (f : Int)) 1 == 1, F117 ((cU n u, cD n d), (f : Int), 1), F117 ((cU n u, cD n d), (f : Int), 2), 0, IntKind.i64.wrap (IntKind.i64.wrap ((f : Int) - F119 (and32 (cS (cA n c) (cU n u) (cD n d)) (allm (f : Int)))) + 1), w.2)
      else (and32 (shr32 c (f : Int)) 1 == 1, F117 ((cU n u, cD n d), (f : Int), 1), F117 ((cU n u, cD n d), (f : Int), 2), 0, 0, w.2) := by kernel_rfl
theorem look_val (n f : Nat) (hn : n ≤ 32) (hf : f < n) (w : Int × Int) (c u d : Int) (hc : W c) : ∃ ab be, AboveS (cS (cA n c) (cU n u) (cD n d)) f ab ∧ BelowS (cS (cA n c) (cU n u) (cD n d)) f be ∧
    F105 ((n : Int), w, (f : Int), c, u, d) = (bit (cA n c) f, bit (cU n u) f, bit (cD n d) f, ab, be, w.2) := by
  rw [look_eq, ask_bit hc f, has_up (W_and _ _) (W_and _ _) f (by omega), has_down (W_and _ _) (W_and _ _) f (by omega)]
  have hcA : bit c f = bit (cA n c) f := by
    rw [bit_and hc.1 (W_allm _).1 f (by omega), bit_allm n f hn]; simp [hf]
  rw [hcA]
  have hS : W (cS (cA n c) (cU n u) (cD n d)) := W_cS _ _ _
  generalize cS (cA n c) (cU n u) (cD n d) = S at hS
  obtain ⟨a1, a2⟩ := above_tz hS f (by omega)
  obtain ⟨b1, b2⟩ := below_len hS f (by omega)
  generalize shr32 (shr32 S (f : Int)) 1 = V at a1 a2
  generalize and32 S (allm (f : Int)) = B at b1 b2
  by_cases hV : V = 0
  · have hVb : (V != 0) = false := by simp [hV]
    rw [hVb, cond_false]
    by_cases hB : B = 0
    · have hBb : (B != 0) = false := by simp [hB]
      rw [hBb, cond_false]
      exact ⟨0, 0, .inl ⟨rfl, a1 hV⟩, .inl ⟨rfl, b1 hB⟩, rfl⟩
    · have hBb : (B != 0) = true := by simp [hB]
      rw [hBb, cond_true]
      obtain ⟨h1, h2, h3⟩ := b2 hB
      rw [wrap_i64_of (x := (f : Int) - _) (by omega) (by omega), wrap_i64_of (by omega) (by omega)]
      exact ⟨0, _, .inl ⟨rfl, a1 hV⟩, h1, rfl⟩
  · have hVb : (V != 0) = true := by simp [hV]
    rw [hVb, cond_true]
    obtain ⟨g1, g2, g3⟩ := a2 hV
    rw [wrap_i64_of (x := 1 + _) (by omega) (by omega)]
    by_cases hB : B = 0
    · have hBb : (B != 0) = false := by simp [hB]
      rw [hBb, cond_false]
      exact ⟨_, 0, g1, .inl ⟨rfl, b1 hB⟩, rfl⟩
    · have hBb : (B != 0) = true := by simp [hB]
      rw [hBb, cond_true]
      obtain ⟨h1, h2, h3⟩ := b2 hB
      rw [wrap_i64_of (x := (f : Int) - _) (by omega) (by omega), wrap_i64_of (x := (f : Int) - _ + 1) (by omega) (by omega)]
      exact ⟨_, _, g1, h1, rfl⟩
theorem proper_val (n : Nat) (h1 : 1 ≤ n) (hn : n ≤ 32) (c u d : Int) (hu : W u) (hd : W d) : F99 ((n : Int), c, u, d) = (cA n c, cU n u, cD n d) := by
  unfold F99
  have hb : (decide ((n : Int) < 1) || decide ((n : Int) > 32)) = false := by simp; omega
  simp only
  rw [hb, cond_false, wrap_i64_of (x := (n : Int) - 1) (by omega) (by omega), wrap_u64_of (x := (n : Int)) (by omega) (by omega), wrap_u64_of (x := (n : Int) - 1) (by omega) (by omega)]
  have e1 : nand32 (and32 u (allm (n : Int))) (shl32 1 ((n : Int) - 1)) = cU n u := by
    refine W.ext (W_nand _ _) (W_and _ _) fun i hi => ?_
    rw [show ((n : Int) - 1) = ((n - 1 : Nat) : Int) by omega]
    have hs := bit_shr (W_allm (n : Int)) 1 i
    rw [show (((1 : Nat) : Int)) = 1 from rfl] at hs
    rw [bit_nand (W_and _ _).1 (W_shl _ _).1 i hi, bit_and hu.1 (W_allm _).1 i hi, bit_and hu.1 (W_shr (W_allm _) 1 (by omega)).1 i hi, hs, bit_allm n _ hn, bit_allm n _ hn, bit_one _ i hi]
    by_cases h : i + 1 < n
    · have h2 : i < n := by omega
      have h3 : ¬ i = n - 1 := by omega
      simp [h2, h3, Nat.add_comm 1 i, h]
    · by_cases h2 : i = n - 1
      · simp [h2]; omega
      · have h3 : ¬ i < n := by omega
        simp [h3, Nat.add_comm 1 i, h]
  have e2 : nand32 (and32 d (allm (n : Int))) 1 = cD n d := by
    refine W.ext (W_nand _ _) (W_and _ _) fun i hi => ?_
    rw [bit_nand (W_and _ _).1 (by omega) i hi, bit_and hd.1 (W_allm _).1 i hi, bit_and hd.1 (W_nand _ _).1 i hi, bit_nand (W_allm _).1 (by omega) i hi, Bool.and_assoc]
  exact Prod.ext rfl (Prod.ext e1 e2)
theorem above_val {A U D : Int} (f : Nat) (hf : f < 32) {ab : Int} (h : AboveS (cS A U D) f ab) : F113 ((A, U, D), (f : Int)) = (decide (0 < ab), ab) := by
  have hS : W (cS A U D) := W_cS A U D
  unfold F113
  simp only
  rw [wrap_i64_of (x := (f : Int) + 1) (by omega) (by omega)]
  have hround : ∀ i : Nat, f + 1 + i < 32 → bit (cS A U D) (f + 1 + i) = false → st113_2 ((f : Int), A, U, D) ((f + 1 + i : Nat) : Int) = .next ((f : Int), A, U, D) ((f + 1 + (i + 1) : Nat) : Int) := fun i hi hb => by
    unfold st113_2
    simp only
    have hd : decide (((f + 1 + i : Nat) : Int) < 32) = true := by simp; omega
    rw [hd, cond_true, wrap_u64_of (x := ((f + 1 + i : Nat) : Int)) (by omega) (by omega)]
    have ha := ask_bit hS (f + 1 + i)
    rw [hb] at ha
    rw [ha, cond_false, wrap_i64_of (by omega) (by omega)]
    congr 1
  have hw : ((f : Int) + 1) = ((f + 1 + 0 : Nat) : Int) := by omega
  rcases h with ⟨h1, h2⟩ | ⟨k, h1, h2, h3, h4⟩
  · have hbrk : st113_2 ((f : Int), A, U, D) ((f + 1 + (31 - f) : Nat) : Int) = .brk ((f : Int), A, U, D) ((f + 1 + (31 - f) : Nat) : Int) := by
      unfold st113_2
      have hd : decide (((f + 1 + (31 - f) : Nat) : Int) < 32) = false := by simp; omega
      rw [hd, cond_false]
    have := (end_row_brk (step := st113_2) (fun i : Nat => ((f + 1 + i : Nat) : Int)) (31 - f) (fun i hi => ⟨_, hround i (by omega) (h2 _ (by omega))⟩) hbrk (fuel := Nat.succ (mu113_2 ((f : Int), A, U, D) ((f : Int) + 1))) (by unfold mu113_2; omega)).2
    unfold R113_2
    simp only [← hw] at this
    rw [this, h1]
    rfl
  · have hk := bit_lt hS h2
    have hret : st113_2 ((f : Int), A, U, D) ((f + 1 + (k - f - 1) : Nat) : Int) = .ret (true, ab) := by
      unfold st113_2
      simp only
      rw [show f + 1 + (k - f - 1) = k by omega]
      have hd : decide ((k : Int) < 32) = true := by simp; omega
      have ha := ask_bit hS k
      rw [h2] at ha
      rw [hd, cond_true, wrap_u64_of (x := (k : Int)) (by omega) (by omega), ha, cond_true, wrap_i64_of (by omega) (by omega), h4]
    have := end_row_ret (step := st113_2) (fun i : Nat => ((f + 1 + i : Nat) : Int)) (k - f - 1) (fun i hi => ⟨_, hround i (by omega) (h3 _ (by omega) (by omega))⟩) hret (fuel := Nat.succ (mu113_2 ((f : Int), A, U, D) ((f : Int) + 1))) (by unfold mu113_2; omega)
    unfold R113_2
    simp only [← hw] at this
    rw [this]
    have : decide (0 < ab) = true := by simp; omega
    rw [this]
    rfl
theorem below_val {A U D : Int} (f : Nat) (hf : f < 32) {be : Int} (h : BelowS (cS A U D) f be) : F114 ((A, U, D), (f : Int)) = (decide (0 < be), be) := by
  have hS : W (cS A U D) := W_cS A U D
  unfold F114
  simp only
  rw [wrap_i64_of (x := (f : Int) - 1) (by omega) (by omega)]
  have hround : ∀ i : Nat, i < f → bit (cS A U D) (f - 1 - i) = false → st114_2 ((f : Int), A, U, D) ((f : Int) - 1 - (i : Int)) = .next ((f : Int), A, U, D) ((f : Int) - 1 - ((i + 1 : Nat) : Int)) := fun i hi hb => by
    unfold st114_2
    simp only
    have he : (f : Int) - 1 - (i : Int) = ((f - 1 - i : Nat) : Int) := by omega
    have hd : decide ((f : Int) - 1 - (i : Int) ≥ 0) = true := by simp; omega
    rw [hd, cond_true, he, wrap_u64_of (x := ((f - 1 - i : Nat) : Int)) (by omega) (by omega)]
    have ha := ask_bit hS (f - 1 - i)
    rw [hb] at ha
    rw [ha, cond_false, wrap_i64_of (by omega) (by omega)]
    congr 1
    omega
  have hw : ((f : Int) - 1) = (f : Int) - 1 - ((0 : Nat) : Int) := by omega
  rcases h with ⟨h1, h2⟩ | ⟨k, h1, h2, h3, h4⟩
  · have hbrk : st114_2 ((f : Int), A, U, D) ((f : Int) - 1 - (f : Int)) = .brk ((f : Int), A, U, D) ((f : Int) - 1 - (f : Int)) := by
      unfold st114_2
      have hd : decide ((f : Int) - 1 - (f : Int) ≥ 0) = false := by simp; omega
      rw [hd, cond_false]
    have := (end_row_brk (step := st114_2) (fun i : Nat => (f : Int) - 1 - (i : Int)) f (fun i hi => ⟨_, hround i hi (h2 _ (by omega))⟩) hbrk (fuel := Nat.succ (mu114_2 ((f : Int), A, U, D) ((f : Int) - 1))) (by unfold mu114_2; omega)).2
    unfold R114_2
    simp only [← hw] at this
    rw [this, h1]
    rfl
  · have hret : st114_2 ((f : Int), A, U, D) ((f : Int) - 1 - ((f - 1 - k : Nat) : Int)) = .ret (true, be) := by
      unfold st114_2
      simp only
      rw [show (f : Int) - 1 - ((f - 1 - k : Nat) : Int) = (k : Int) by omega]
      have hd : decide ((k : Int) ≥ 0) = true := by simp
      have ha := ask_bit hS k
      rw [h2] at ha
      rw [hd, cond_true, wrap_u64_of (x := (k : Int)) (by omega) (by omega), ha, cond_true, wrap_i64_of (by omega) (by omega), h4]
    have := end_row_ret (step := st114_2) (fun i : Nat => (f : Int) - 1 - (i : Int)) (f - 1 - k) (fun i hi => ⟨_, hround i (by omega) (h3 _ (by omega) (by omega))⟩) hret (fuel := Nat.succ (mu114_2 ((f : Int), A, U, D) ((f : Int) - 1))) (by unfold mu114_2; omega)
    unfold R114_2
    simp only [← hw] at this
    rw [this]
    have : decide (0 < be) = true := by simp; omega
    rw [this]
    rfl
abbrev m2p (o : Int) : Bool := (IntKind.i64.wrap ((BitVec.ofInt IntKind.i64.bits (Int.fdiv o (2 ^ (min ((1 : Int)).toNat IntKind.i64.bits))) &&& BitVec.ofInt IntKind.i64.bits (1 : Int)).toNat : Int)) == (1 : Int)
abbrev m3p (o : Int) : Bool := (IntKind.i64.wrap ((BitVec.ofInt IntKind.i64.bits (Int.fdiv o (2 ^ (min ((2 : Int)).toNat IntKind.i64.bits))) &&& BitVec.ofInt IntKind.i64.bits (1 : Int)).toNat : Int)) == (1 : Int)
abbrev m2 (o : Int) : Bool := (IntKind.i64.wrap ((BitVec.ofInt IntKind.i64.bits o &&& BitVec.ofInt IntKind.i64.bits (2 : Int)).toNat : Int)) != (0 : Int)
abbrev m3 (o : Int) : Bool := (IntKind.i64.wrap ((BitVec.ofInt IntKind.i64.bits o &&& BitVec.ofInt IntKind.i64.bits (4 : Int)).toNat : Int)) != (0 : Int)
theorem m2_eq : ∀ o : Nat, o < 8 → m2p (o : Int) = m2 (o : Int) := by decide +kernel
theorem m3_eq : ∀ o : Nat, o < 8 → m3p (o : Int) = m3 (o : Int) := by decide +kernel
def more (a u d : Bool) (ab be o : Int) : Bool := ((((a && (!(a && (o != 0)))) || (u && (!(u && m2 o)))) || (d && (!(d && m3 o)))) || decide (0 < ab)) || decide (0 < be)
def opd (a u d : Bool) (ab be o : Int) : Int := bif more a u d ab be o then o else 0
theorem without_val (a u d : Bool) (ab be : Int) (o : Nat) (ho : o < 8) : F106 (a, u, d, ab, be, (o : Int)) =
    ((a && (!(a && (opd a u d ab be o != 0))), u && (!(u && m2 (opd a u d ab be o))), d && (!(d && m3 (opd a u d ab be o))), ab, be, opd a u d ab be o),
      a && (opd a u d ab be o != 0), u && m2 (opd a u d ab be o), d && m3 (opd a u d ab be o), 0, 0, 0) := by
  have h : F106 (a, u, d, ab, be, (o : Int)) = bif ((((a && (!(a && ((o : Int) != 0)))) || (u && (!(u && m2p o)))) || (d && (!(d && m3p o)))) || decide (ab > 0)) || decide (be > 0) then
      ((a && (!(a && ((o : Int) != 0))), u && (!(u && m2p o)), d && (!(d && m3p o)), ab, be, (o : Int)), a && ((o : Int) != 0), u && m2p o, d && m3p o, 0, 0, 0) else ((a, u, d, ab, be, 0), false, false, false, 0, 0, 0) := rfl
  rw [h, m2_eq o ho, m3_eq o ho]
  show (bif more a u d ab be o then _ else _) = _
  unfold opd
  cases more a u d ab be o with
  | true => rfl
  | false =>
    rw [cond_false, cond_false]
    have h2 : m2 0 = false := by decide +kernel
    have h3 : m3 0 = false := by decide +kernel
    rw [h2, h3]
    cases a <;> cases u <;> cases d <;> rfl
theorem marked_val {A U D : Int} (hA : W A) (hU : W U) (hD : W D) (f : Nat) (hf : f < 32) (dir o : Int) : F115 ((dir, o), (f : Int), A, U, D) =
    (bif (bit A f && (o != 0)) then shl32 1 (f : Int) else 0, bif (bit U f && m2 o) then shl32 1 (f : Int) else 0, bif (bit D f && m3 o) then shl32 1 (f : Int) else 0) := by
  have h : F115 ((dir, o), (f : Int), A, U, D) = (bif (o != 0) then and32 A (shl32 1 (IntKind.u64.wrap (f : Int))) else 0, bif m2 o then and32 U (shl32 1 (IntKind.u64.wrap (f : Int))) else 0, bif m3 o then and32 D (shl32 1 (IntKind.u64.wrap (f : Int))) else 0) := by
    unfold F115
    unfold m2 m3
    simp only
    generalize ((IntKind.i64.wrap ((BitVec.ofInt IntKind.i64.bits o &&& BitVec.ofInt IntKind.i64.bits (2 : Int)).toNat : Int)) != (0 : Int)) = b2
    generalize ((IntKind.i64.wrap ((BitVec.ofInt IntKind.i64.bits o &&& BitVec.ofInt IntKind.i64.bits (4 : Int)).toNat : Int)) != (0 : Int)) = b3
    cases (o != 0) <;> cases b2 <;> cases b3 <;> rfl
  rw [h, wrap_u64_of (x := (f : Int)) (by omega) (by omega), and_shl hA f hf, and_shl hU f hf, and_shl hD f hf]
  generalize m2 o = b2
  generalize m3 o = b3
  generalize shl32 1 (f : Int) = q
  cases (o != 0) <;> cases b2 <;> cases b3 <;> cases bit A f <;> cases bit U f <;> cases bit D f <;> rfl
theorem mark_eq {A : Int} (hA : W A) (f : Nat) (hf : f < 32) (m : Bool) : ((bif (bit A f && m) then shl32 1 (f : Int) else 0) == A) = true ↔ (bit A f = true → m = true) ∧ ∀ i, i ≠ f → bit A i = false := by
  rw [beq_iff_eq]
  constructor
  · intro h
    refine ⟨fun hb => ?_, fun i hi => ?_⟩
    · cases m with
      | true => rfl
      | false =>
        rw [Bool.and_false, cond_false] at h
        rw [← h, bit_zero] at hb; cases hb
    · rcases Nat.lt_or_ge i 32 with h32 | h32
      · rw [← h]
        cases (bit A f && m) with
        | true => rw [cond_true, bit_one f i h32]; simpa using hi
        | false => exact bit_zero i
      · exact bit_hi hA h32
  · rintro ⟨h1, h2⟩
    refine W.ext (by cases (bit A f && m); exact W.zero; exact W_shl _ _) hA fun i hi => ?_
    by_cases hif : i = f
    · subst hif
      cases hb : bit A i with
      | true => rw [h1 hb]; simp [bit_one i i hi]
      | false => simp [bit_zero]
    · rw [h2 i hif]
      cases (bit A f && m) with
      | true => rw [cond_true, bit_one f i hi]; simpa using hif
      | false => exact bit_zero i
theorem counted_val {A U D : Int} (hA : W A) (hU : W U) (hD : W D) (f : Nat) (hf : f < 32) (dir o ab be : Int) (ha : AboveS (cS A U D) f ab) (hb : BelowS (cS A U D) f be) :
    F104 ((dir, o), (f : Int), A, U, D) = opd (bit A f) (bit U f) (bit D f) ab be o := by
  unfold F104 opd
  rw [marked_val hA hU hD f hf]
  have key : (((bif (bit A f && (o != 0)) then shl32 1 (f : Int) else 0) == A) && (((bif (bit U f && m2 o) then shl32 1 (f : Int) else 0) == U) && ((bif (bit D f && m3 o) then shl32 1 (f : Int) else 0) == D))) = !more (bit A f) (bit U f) (bit D f) ab be o := by
    rw [Bool.eq_iff_iff]
    rw [Bool.and_eq_true, Bool.and_eq_true, mark_eq hA f hf, mark_eq hU f hf, mark_eq hD f hf]
    unfold more
    simp only [Bool.not_eq_true', Bool.or_eq_false_iff, decide_eq_false_iff_not]
    rw [ha.none, hb.none]
    have hs : ∀ i, bit (cS A U D) i = false ↔ bit A i = false ∧ bit U i = false ∧ bit D i = false := fun i => by
      rcases Nat.lt_or_ge i 32 with h32 | h32
      · rw [bit_cS hA hU hD i h32]
        simp only [Bool.or_eq_false_iff]
        exact and_assoc
      · simp [bit_hi (W_cS A U D) h32, bit_hi hA h32, bit_hi hU h32, bit_hi hD h32]
    constructor
    · rintro ⟨⟨h1, h2⟩, ⟨h3, h4⟩, h5, h6⟩
      refine ⟨⟨⟨⟨?_, ?_⟩, ?_⟩, fun i hi => (hs i).2 ⟨h2 i (by omega), h4 i (by omega), h6 i (by omega)⟩⟩, fun i hi => (hs i).2 ⟨h2 i (by omega), h4 i (by omega), h6 i (by omega)⟩⟩
      · cases hx : bit A f with | false => rfl | true => rw [h1 hx]; rfl
      · cases hx : bit U f with | false => rfl | true => rw [h3 hx]; rfl
      · cases hx : bit D f with | false => rfl | true => rw [h5 hx]; rfl
    · rintro ⟨⟨⟨⟨h1, h2⟩, h3⟩, h4⟩, h5⟩
      have hne : ∀ i, i ≠ f → bit A i = false ∧ bit U i = false ∧ bit D i = false := fun i hi => by
        rcases Nat.lt_or_ge i f with h | h
        · exact (hs i).1 (h5 i h)
        · exact (hs i).1 (h4 i (by omega))
      refine ⟨⟨fun hx => ?_, fun i hi => (hne i hi).1⟩, ⟨fun hx => ?_, fun i hi => (hne i hi).2.1⟩, ⟨fun hx => ?_, fun i hi => (hne i hi).2.2⟩⟩
      · rw [hx] at h1; cases hm : (o != 0) with | true => rfl | false => rw [hm] at h1; cases h1
      · rw [hx] at h2; cases hm : m2 o with | true => rfl | false => rw [hm] at h2; cases h2
      · rw [hx] at h3; cases hm : m3 o with | true => rfl | false => rw [hm] at h3; cases h3
  show (bif (((bif (bit A f && (o != 0)) then shl32 1 (f : Int) else 0) == A) && (((bif (bit U f && m2 o) then shl32 1 (f : Int) else 0) == U) && ((bif (bit D f && m3 o) then shl32 1 (f : Int) else 0) == D))) then 0 else o) = _
  rw [key]
  cases more (bit A f) (bit U f) (bit D f) ab be o <;> rfl
structure Ok (n f : Nat) (dir o : Int) (c u d : Int) : Prop where
  n2 : 2 ≤ n
  n32 : n ≤ 32
  f : f < n
  dir : 0 ≤ dir ∧ dir ≤ 2
  o : 0 ≤ o ∧ o ≤ 7
  c : W c
  u : W u
  d : W d
theorem Ok.proper {n f : Nat} {dir o c u d : Int} (h : Ok n f dir o c u d) : F96 ((n : Int), (dir, o), (f : Int)) = true := by
  have := h.n2; have := h.n32; have := h.f; have := h.dir; have := h.o
  unfold F96 F51
  simp only [Bool.and_eq_true, decide_eq_true_eq]
  omega
theorem Ok.guard {n f : Nat} {dir o c u d : Int} (h : Ok n f dir o c u d) : (((((decide ((n : Int) < (2 : Int))) || (decide ((n : Int) > (32 : Int)))) || (decide ((f : Int) < (0 : Int)))) || (decide ((f : Int) ≥ (n : Int)))) || (!(F65 (dir, o)))) = false := by
  have := h.n2; have := h.n32; have := h.f; have := h.dir; have := h.o
  unfold F65
  simp only [Bool.or_eq_false_iff, Bool.not_eq_false', Bool.and_eq_true, decide_eq_true_eq, decide_eq_false_iff_not]
  omega
theorem cA_idem (n : Nat) (hn : n ≤ 32) (c : Int) (hc : W c) : cA n (cA n c) = cA n c := by
  refine W.ext (W_and _ _) (W_and _ _) fun i hi => ?_
  rw [bit_and (W_and _ _).1 (W_allm _).1 i hi, bit_and hc.1 (W_allm _).1 i hi, Bool.and_assoc, Bool.and_self]
theorem and_idem (x y : Int) (hx : W x) (hy : W y) : and32 (and32 x y) y = and32 x y := by
  refine W.ext (W_and _ _) (W_and _ _) fun i hi => ?_
  rw [bit_and (W_and _ _).1 hy.1 i hi, bit_and hx.1 hy.1 i hi, Bool.and_assoc, Bool.and_self]
structure Sc (n f : Nat) (o c u d ab be : Int) : Prop where
  ab : AboveS (cS (cA n c) (cU n u) (cD n d)) f ab
  be : BelowS (cS (cA n c) (cU n u) (cD n d)) f be
abbrev oo (n f : Nat) (o c u d ab be : Int) : Int := opd (bit (cA n c) f) (bit (cU n u) f) (bit (cD n d) f) ab be o
abbrev rc (n f : Nat) (o c u d ab be : Int) : Bool := bit (cA n c) f && (!(bit (cA n c) f && (oo n f o c u d ab be != 0)))
abbrev ru (n f : Nat) (o c u d ab be : Int) : Bool := bit (cU n u) f && (!(bit (cU n u) f && m2 (oo n f o c u d ab be)))
abbrev rd (n f : Nat) (o c u d ab be : Int) : Bool := bit (cD n d) f && (!(bit (cD n d) f && m3 (oo n f o c u d ab be)))
theorem scene {n f : Nat} {dir o c u d : Int} (h : Ok n f dir o c u d) : ∃ ab be, Sc n f o c u d ab be ∧ F106 (F105 ((n : Int), (dir, o), (f : Int), c, u, d)) =
    ((rc n f o c u d ab be, ru n f o c u d ab be, rd n f o c u d ab be, ab, be, oo n f o c u d ab be), bit (cA n c) f && (oo n f o c u d ab be != 0), bit (cU n u) f && m2 (oo n f o c u d ab be), bit (cD n d) f && m3 (oo n f o c u d ab be), 0, 0, 0) := by
  obtain ⟨ab, be, h1, h2, h3⟩ := look_val n f h.n32 h.f (dir, o) c u d h.c
  refine ⟨ab, be, ⟨h1, h2⟩, ?_⟩
  rw [h3]
  obtain ⟨o', rfl⟩ := Int.eq_ofNat_of_zero_le h.o.1
  exact without_val _ _ _ ab be o' (by have := h.o; omega)
theorem uwrap (f : Nat) (hf : f < 32) : IntKind.u64.wrap (f : Int) = (f : Int) := wrap_u64_of (by omega) (by omega)
theorem rhas_up {U D : Int} (hU : W U) (f : Nat) (hf : f < 32) : F112 ((U, D), (f : Int), 1) = bit U f := by
  unfold F112
  have hb : (decide ((f : Int) < 0) || decide ((f : Int) > 31)) = false := by simp; omega
  simp only
  rw [hb, cond_false, uwrap f hf, show ((1 : Int) == 1) = true from rfl, show ((1 : Int) == 2) = false from rfl, Bool.true_and, Bool.false_and, Bool.or_false]
  exact ask_bit hU f
theorem rhas_down {U D : Int} (hD : W D) (f : Nat) (hf : f < 32) : F112 ((U, D), (f : Int), 2) = bit D f := by
  unfold F112
  have hb : (decide ((f : Int) < 0) || decide ((f : Int) > 31)) = false := by simp; omega
  simp only
  rw [hb, cond_false, uwrap f hf, show ((2 : Int) == 1) = false from rfl, show ((2 : Int) == 2) = true from rfl, Bool.true_and, Bool.false_and, Bool.false_or]
  exact ask_bit hD f
def near (ab be : Int) : Int := bif (decide (0 < ab) && ((!decide (0 < be)) || decide (be ≥ ab))) then 1 else bif decide (0 < be) then 2 else 0
theorem rspent {n f : Nat} {dir o c u d ab be : Int} (h : Ok n f dir o c u d) (s : Sc n f o c u d ab be) : F110 ((n : Int), (dir, o), (f : Int), cA n c, cU n u, cD n d) =
    (bif (bit (cA n c) f && (oo n f o c u d ab be != 0)) then shl32 1 (f : Int) else 0, bif (bit (cU n u) f && m2 (oo n f o c u d ab be)) then shl32 1 (f : Int) else 0, bif (bit (cD n d) f && m3 (oo n f o c u d ab be)) then shl32 1 (f : Int) else 0) := by
  have hn := h.n2; have hf := h.f; have h32 := h.n32
  have hp : F99 ((n : Int), cA n c, cU n u, cD n d) = (cA n c, cU n u, cD n d) := by
    rw [proper_val n (by omega) h32 _ _ _ (W_and _ _) (W_and _ _)]
    exact Prod.ext (and_idem _ _ h.c (W_allm _)) (Prod.ext (and_idem _ _ h.u (W_shr (W_allm _) 1 (by omega))) (and_idem _ _ h.d (W_nand _ _)))
  unfold F110
  simp only
  rw [h.guard, cond_false, hp]
  try simp only
  rw [counted_val (W_and _ _) (W_and _ _) (W_and _ _) f (by omega) dir o ab be s.ab s.be, marked_val (W_and _ _) (W_and _ _) (W_and _ _) f (by omega)]
theorem rspent' {n f : Nat} {dir o c u d ab be : Int} (h : Ok n f dir o c u d) (s : Sc n f o c u d ab be) : F110 ((n : Int), (dir, o), (f : Int), c, u, d) =
    (bif (bit (cA n c) f && (oo n f o c u d ab be != 0)) then shl32 1 (f : Int) else 0, bif (bit (cU n u) f && m2 (oo n f o c u d ab be)) then shl32 1 (f : Int) else 0, bif (bit (cD n d) f && m3 (oo n f o c u d ab be)) then shl32 1 (f : Int) else 0) := by
  have hn := h.n2; have hf := h.f; have h32 := h.n32
  unfold F110
  simp only
  rw [h.guard, cond_false, proper_val n (by omega) h32 _ _ _ h.u h.d]
  try simp only
  rw [counted_val (W_and _ _) (W_and _ _) (W_and _ _) f (by omega) dir o ab be s.ab s.be, marked_val (W_and _ _) (W_and _ _) (W_and _ _) f (by omega)]
theorem live_bit {A : Int} (hA : W A) (f : Nat) (hf : f < 32) (m : Bool) : bit (nand32 A (bif (bit A f && m) then shl32 1 (f : Int) else 0)) f = (bit A f && (!(bit A f && m))) := by
  have hW : W (bif (bit A f && m) then shl32 1 (f : Int) else 0) := by cases (bit A f && m); exact W.zero; exact W_shl _ _
  rw [bit_nand hA.1 hW.1 f hf]
  cases (bit A f && m) with
  | true => rw [cond_true, bit_one f f hf]; simp
  | false => rw [cond_false, bit_zero]
theorem rlook {n f : Nat} {dir o c u d ab be : Int} (h : Ok n f dir o c u d) (s : Sc n f o c u d ab be) : F98 ((n : Int), (dir, o), (f : Int), cA n c, cU n u, cD n d) =
    (ru n f o c u d ab be, rd n f o c u d ab be, rc n f o c u d ab be, decide (0 < ab), decide (0 < be), near ab be) := by
  have hn := h.n2; have hf := h.f; have h32 := h.n32
  unfold F98
  simp only
  rw [rspent h s, above_val f (by omega) s.ab, below_val f (by omega) s.be, uwrap f (by omega)]
  simp only
  have e1 : F111 ((cU n u, cD n d), (bif (bit (cU n u) f && m2 (oo n f o c u d ab be)) then shl32 1 (f : Int) else 0), (bif (bit (cD n d) f && m3 (oo n f o c u d ab be)) then shl32 1 (f : Int) else 0)) =
      (nand32 (cU n u) (bif (bit (cU n u) f && m2 (oo n f o c u d ab be)) then shl32 1 (f : Int) else 0), nand32 (cD n d) (bif (bit (cD n d) f && m3 (oo n f o c u d ab be)) then shl32 1 (f : Int) else 0)) := rfl
  rw [e1, rhas_up (W_nand _ _) f (by omega), rhas_down (W_nand _ _) f (by omega), live_bit (W_and _ _) f (by omega), live_bit (W_and _ _) f (by omega)]
  have e2 := ask_bit (W_nand (cA n c) (bif (bit (cA n c) f && (oo n f o c u d ab be != 0)) then shl32 1 (f : Int) else 0)) f
  rw [live_bit (W_and _ _) f (by omega)] at e2
  rw [e2]
  unfold near
  cases (decide (0 < ab) && ((!decide (0 < be)) || decide (be ≥ ab))) with
  | true => rfl
  | false =>
    rw [cond_false, cond_false]
    cases decide (0 < be) <;> rfl
theorem rising_ref (c u d : Bool) (ab be o : Int) : F108 (c, u, d, ab, be, o) =
    bif (F100 (1, 2, c, u, d, decide (0 < ab), decide (0 < be))).2 then (F100 (1, 2, c, u, d, decide (0 < ab), decide (0 < be))).1 else F101 (2, d, decide (0 < be)) := by
  unfold F108 F109 F100 F101 F122
  simp only [gt_iff_lt]
  generalize decide (0 < ab) = a
  generalize decide (0 < be) = b
  cases c <;> cases u <;> cases d <;> cases a <;> cases b <;> rfl
theorem falling_ref (c u d : Bool) (ab be o : Int) : F109 (c, u, d, ab, be, o) =
    bif (F100 (2, 1, c, d, u, decide (0 < be), decide (0 < ab))).2 then (F100 (2, 1, c, d, u, decide (0 < be), decide (0 < ab))).1 else F101 (1, u, decide (0 < ab)) := by
  unfold F109 F100 F101 F122
  simp only [gt_iff_lt]
  generalize decide (0 < ab) = a
  generalize decide (0 < be) = b
  cases c <;> cases u <;> cases d <;> cases a <;> cases b <;> rfl
theorem near_eq (c u d : Bool) (ab be o : Int) (ha : 0 ≤ ab) (hb : 0 ≤ be) : F120 (c, u, d, ab, be, o) = near ab be := by
  unfold F120 near
  simp only [gt_iff_lt]
  have : (be == 0) = !decide (0 < be) := by
    rw [Bool.eq_iff_iff]; simp; omega
  rw [this]
theorem near_cases (ab be : Int) : near ab be = 0 ∨ near ab be = 1 ∨ near ab be = 2 := by
  unfold near
  cases (decide (0 < ab) && ((!decide (0 < be)) || decide (be ≥ ab))) with
  | true => exact .inr (.inl rfl)
  | false =>
    rw [cond_false]
    cases decide (0 < be) with
    | true => exact .inr (.inr rfl)
    | false => exact .inl rfl
theorem resting_ref (c u d : Bool) (ab be o : Int) (ha : 0 ≤ ab) (hb : 0 ≤ be) : F107 (c, u, d, ab, be, o) =
    bif u then F102 1 else bif d then F102 2 else bif c then F102 (near ab be) else F103 (near ab be) := by
  unfold F107
  rw [near_eq c u d ab be o ha hb]
  unfold F103
  rcases near_cases ab be with h | h | h <;> rw [h] <;> cases c <;> cases u <;> cases d <;> rfl
section
variable {n f : Nat} {dir o c u d : Int}
theorem choose_val (h : Ok n f dir o c u d) : ∃ ab be, Sc n f o c u d ab be ∧ F97 ((n : Int), (dir, o), (f : Int), c, u, d) = (F86 ((n : Int), (dir, o), (f : Int), c, u, d), oo n f o c u d ab be) := by
  obtain ⟨ab, be, s, hv⟩ := scene h
  refine ⟨ab, be, s, ?_⟩
  unfold F97 F86 K86_1 K86_2
  rw [hv]
  simp only
  rw [h.guard, cond_false, proper_val n (by have := h.n2; omega) h.n32 _ _ _ h.u h.d, rlook h s]
  simp only
  have hd : dir = 0 ∨ dir = 1 ∨ dir = 2 := by have := h.dir; omega
  refine Prod.ext ?_ rfl
  rcases hd with rfl | rfl | rfl
  · rw [rules0, resting_ref _ _ _ _ _ _ s.ab.nn s.be.nn]; rfl
  · rw [rules1, rising_ref]; rfl
  · rw [rules2, falling_ref]; rfl
theorem Choose_eq (h : Ok n f dir o c u d) : F70 ((n : Int), (dir, o), (f : Int), c, u, d) = F86 ((n : Int), (dir, o), (f : Int), c, u, d) := by
  obtain ⟨ab, be, s, hv⟩ := choose_val h
  unfold F70
  simp only
  rw [h.proper, hv]; rfl
theorem Next_eq (h : Ok n f dir o c u d) : F71 ((n : Int), (dir, o), (f : Int), c, u, d) = F87 ((n : Int), (dir, o), (f : Int), c, u, d) := by
  obtain ⟨ab, be, s, hv⟩ := choose_val h
  have hb := choose_bd ((n : Int), (dir, o), (f : Int), c, u, d) h.dir.1 h.dir.2
  rw [hv] at hb
  simp only at hb
  unfold F71 F87
  simp only
  rw [h.proper, hv, h.guard, cond_false, proper_val n (by have := h.n2; omega) h.n32 _ _ _ h.u h.d]
  simp only
  rw [counted_val (W_and _ _) (W_and _ _) (W_and _ _) f (by have := h.f; have := h.n32; omega) dir o ab be s.ab s.be]
  rw [wrap_u64_of (x := (F86 ((n : Int), (dir, o), (f : Int), c, u, d)).2.2) (by omega) (by omega)]
  generalize F86 ((n : Int), (dir, o), (f : Int), c, u, d) = C
  rw [Bool.not_true, cond_false]
  cases h3 : (C.1 == 3) with
  | true => rw [show (C.1 != 3) = false from by rw [bne, h3]; rfl]; rfl
  | false => rw [show (C.1 != 3) = true from by rw [bne, h3]; rfl]; rfl
end
theorem proper_guard (n : Int) (w : Int × Int) (f : Int) : (((((decide (n < (2 : Int))) || (decide (n > (32 : Int)))) || (decide (f < (0 : Int)))) || (decide (f ≥ n))) || (!(F65 w))) = !F96 (n, w, f) := by
  rw [Bool.eq_iff_iff]
  unfold F65 F96 F51
  simp only [Bool.or_eq_true, Bool.not_eq_true', Bool.and_eq_false_iff, decide_eq_true_eq, decide_eq_false_iff_not]
  omega
theorem both_all (n dir o f c u d : Int) (hc : W c) (hu : W u) (hd : W d) : F70 (n, (dir, o), f, c, u, d) = F86 (n, (dir, o), f, c, u, d) ∧ F71 (n, (dir, o), f, c, u, d) = F87 (n, (dir, o), f, c, u, d) := by
    cases hp : F96 (n, (dir, o), f) with
    | false =>
      have hg := proper_guard n (dir, o) f
      rw [hp] at hg
      refine ⟨?_, ?_⟩
      · unfold F70 F86
        simp only
        rw [hp, hg]; rfl
      · unfold F71 F87
        simp only
        rw [hp, hg]; rfl
    | true =>
      unfold F96 F51 at hp
      simp only [Bool.and_eq_true, decide_eq_true_eq] at hp
      obtain ⟨n', rfl⟩ := Int.eq_ofNat_of_zero_le (show 0 ≤ n by omega)
      obtain ⟨f', rfl⟩ := Int.eq_ofNat_of_zero_le (show 0 ≤ f by omega)
      have hok : Ok n' f' dir o c u d := ⟨by omega, by omega, by omega, by omega, by omega, hc, hu, hd⟩
      exact ⟨Choose_eq hok, Next_eq hok⟩
theorem W_of {x : Int} (h : (Lit.int .u32 x).wf = true) : W x := by
  simp only [Lit.wf, Bool.and_eq_true, decide_eq_true_eq] at h
  have h1 : (0 : Int) ≤ x := h.1
  have h2 : x ≤ (4294967295 : Int) := h.2
  unfold W; omega
def chR (dir : Int) (c u d a b l : Bool) : Int × Int × Int :=
  bif dir == 1 then (bif (F100 (1, 2, c, u, d, a, b)).2 then (F100 (1, 2, c, u, d, a, b)).1 else F101 (2, d, b))
  else bif dir == 2 then (bif (F100 (2, 1, c, d, u, b, a)).2 then (F100 (2, 1, c, d, u, b, a)).1 else F101 (1, u, a))
  else bif u then F102 1 else bif d then F102 2 else bif c then F102 (bif a && (!b || l) then 1 else bif b then 2 else 0) else F103 (bif a && (!b || l) then 1 else bif b then 2 else 0)
def chO (o : Int) (A U D a b : Bool) : Int := bif ((((A && (!(A && (o != 0)))) || (U && (!(U && m2 o)))) || (D && (!(D && m3 o)))) || a) || b then o else 0
def ch (dir o : Int) (A U D a b l : Bool) : Int × Int × Int :=
  chR dir (A && !(A && (chO o A U D a b != 0))) (U && !(U && m2 (chO o A U D a b))) (D && !(D && m3 (chO o A U D a b))) a b l
def chN (dir o : Int) (A U D a b l : Bool) : Int × Int :=
  bif (ch dir o A U D a b l).1 == 3 then ((ch dir o A U D a b l).2.1, (IntKind.i64.wrap ((BitVec.ofInt IntKind.i64.bits (chO o A U D a b) ||| BitVec.ofInt IntKind.i64.bits (IntKind.i64.wrap ((1 : Int) * (2 ^ (min (IntKind.u64.wrap (ch dir o A U D a b l).2.2).toNat IntKind.i64.bits))))).toNat : Int))) else ((ch dir o A U D a b l).2.1, 0)
section
variable {n f : Nat} {dir o c u d : Int}
theorem choose_ch (h : Ok n f dir o c u d) : ∃ ab be, Sc n f o c u d ab be ∧ F97 ((n : Int), (dir, o), (f : Int), c, u, d) =
    (ch dir o (bit (cA n c) f) (bit (cU n u) f) (bit (cD n d) f) (decide (0 < ab)) (decide (0 < be)) (decide (be ≥ ab)), chO o (bit (cA n c) f) (bit (cU n u) f) (bit (cD n d) f) (decide (0 < ab)) (decide (0 < be))) := by
  obtain ⟨ab, be, s, hv⟩ := scene h
  refine ⟨ab, be, s, ?_⟩
  unfold F97
  rw [hv]
  simp only
  have hd : dir = 0 ∨ dir = 1 ∨ dir = 2 := by have := h.dir; omega
  refine Prod.ext ?_ rfl
  rcases hd with rfl | rfl | rfl
  · rw [rules0, resting_ref _ _ _ _ _ _ s.ab.nn s.be.nn]; rfl
  · rw [rules1, rising_ref]; rfl
  · rw [rules2, falling_ref]; rfl
theorem Choose_ch (h : Ok n f dir o c u d) : ∃ ab be, Sc n f o c u d ab be ∧
    F70 ((n : Int), (dir, o), (f : Int), c, u, d) = ch dir o (bit (cA n c) f) (bit (cU n u) f) (bit (cD n d) f) (decide (0 < ab)) (decide (0 < be)) (decide (be ≥ ab)) ∧
    F71 ((n : Int), (dir, o), (f : Int), c, u, d) = chN dir o (bit (cA n c) f) (bit (cU n u) f) (bit (cD n d) f) (decide (0 < ab)) (decide (0 < be)) (decide (be ≥ ab)) := by
  obtain ⟨ab, be, s, hv⟩ := choose_ch h
  have hb := choose_bd ((n : Int), (dir, o), (f : Int), c, u, d) h.dir.1 h.dir.2
  refine ⟨ab, be, s, ?_, ?_⟩
  · unfold F70
    simp only
    rw [h.proper, hv]; rfl
  · unfold F71 chN
    simp only
    rw [h.proper, hv]
    rw [hv] at hb
    simp only at hb ⊢
    generalize hC : ch dir o (bit (cA n c) f) (bit (cU n u) f) (bit (cD n d) f) (decide (0 < ab)) (decide (0 < be)) (decide (be ≥ ab)) = C at hb ⊢
    rw [wrap_u64_of (x := C.2.2) (by omega) (by omega), Bool.not_true, cond_false]
    cases h3 : (C.1 == 3) with
    | true => rw [show (C.1 != 3) = false from by rw [bne, h3]; rfl]; rfl
    | false => rw [show (C.1 != 3) = true from by rw [bne, h3]; rfl]; rfl
theorem Sc.up_iff {ab be : Int} (s : Sc n f o c u d ab be) : (decide (0 < ab) = true) ↔ ∃ i, f < i ∧ bit (cS (cA n c) (cU n u) (cD n d)) i = true := by
  rw [decide_eq_true_eq]
  rcases s.ab with ⟨h1, h2⟩ | ⟨k, h1, h2, _, h4⟩
  · exact ⟨fun h => by omega, fun ⟨i, hi, hb⟩ => by rw [h2 i hi] at hb; cases hb⟩
  · exact ⟨fun _ => ⟨k, h1, h2⟩, fun _ => by omega⟩
theorem Sc.down_iff {ab be : Int} (s : Sc n f o c u d ab be) : (decide (0 < be) = true) ↔ ∃ i, i < f ∧ bit (cS (cA n c) (cU n u) (cD n d)) i = true := by
  rw [decide_eq_true_eq]
  rcases s.be with ⟨h1, h2⟩ | ⟨k, h1, h2, _, h4⟩
  · exact ⟨fun h => by omega, fun ⟨i, hi, hb⟩ => by rw [h2 i hi] at hb; cases hb⟩
  · exact ⟨fun _ => ⟨k, h1, h2⟩, fun _ => by omega⟩
theorem bit_cA (hn : n ≤ 32) (hc : W c) (i : Nat) : bit (cA n c) i = (bit c i && decide (i < n)) := by
  rcases Nat.lt_or_ge i 32 with hi | hi
  · rw [bit_and hc.1 (W_allm _).1 i hi, bit_allm n i hn]
  · rw [bit_hi (W_and _ _) hi, bit_hi hc hi, Bool.false_and]
theorem bit_cU (hn : n ≤ 32) (hu : W u) (i : Nat) : bit (cU n u) i = (bit u i && decide (i + 1 < n)) := by
  rcases Nat.lt_or_ge i 32 with hi | hi
  · have e : bit (shr32 (allm (n : Int)) 1) i = bit (allm (n : Int)) (1 + i) := bit_shr (W_allm _) 1 i
    rw [bit_and hu.1 (W_shr (W_allm _) _ (by omega)).1 i hi, e, bit_allm n _ hn, Nat.add_comm 1 i]
  · rw [bit_hi (W_and _ _) hi, bit_hi hu hi, Bool.false_and]
theorem bit_cD (hn : n ≤ 32) (hd : W d) (i : Nat) : bit (cD n d) i = (bit d i && decide (0 < i ∧ i < n)) := by
  rcases Nat.lt_or_ge i 32 with hi | hi
  · rw [bit_and hd.1 (W_nand _ _).1 i hi, bit_nand (W_allm _).1 (by omega) i hi, bit_allm n _ hn, bit1 i hi]
    congr 1
    rw [Bool.eq_iff_iff]; simp; omega
  · rw [bit_hi (W_and _ _) hi, bit_hi hd hi, Bool.false_and]
end
set_option synthInstance.maxHeartbeats 400000
set_option synthInstance.maxSize 4096
theorem S1 : ∀ dir, dir < 3 → ∀ o, o < 8 → ∀ A U D a b l : Bool, (a || b) = true →
    (ch ((dir : Nat) : Int) ((o : Nat) : Int) A U D a b l = (1, 1, 0) ∧ a = true ∧ ¬ (dir = 2 ∧ b = true) ∧ chN dir o A U D a b l = (1, 0)) ∨
    (ch dir o A U D a b l = (2, 2, 0) ∧ b = true ∧ ¬ (dir = 1 ∧ a = true) ∧ chN dir o A U D a b l = (2, 0)) ∨
    (ch dir o A U D a b l = (3, 1, 1) ∧ o % 4 < 2 ∧ ¬ (dir = 2 ∧ b = true) ∧ chN dir o A U D a b l = (1, (o : Int) + 2)) ∨
    (ch dir o A U D a b l = (3, 2, 2) ∧ o < 4 ∧ ¬ (dir = 1 ∧ a = true) ∧ chN dir o A U D a b l = (2, (o : Int) + 4)) := by decide +kernel
theorem S2u : ∀ dir, dir < 3 → ∀ o, o < 8 → ∀ A D a b l : Bool,
    ch ((dir : Nat) : Int) ((o : Nat) : Int) A true D a b l = (3, 1, 1) ∨
    (¬ (o % 4 < 2 ∧ dir ≠ 2) ∧ ch dir o A true D a b l = (3, 2, 2) ∧ o < 4 ∧ chN dir o A true D a b l = (2, (o : Int) + 4)) ∨
    (¬ (o % 4 < 2) ∧ ¬ (o < 4) ∧ ch dir o A true D a b l = (3, 2, 2) ∧ chN dir o A true D a b l = (2, 4)) ∨
    (¬ (o % 4 < 2 ∧ dir ≠ 2) ∧ ch dir o A true D a b l = (2, 2, 0) ∧ b = true ∧ chN dir o A true D a b l = (2, 0)) ∨
    (¬ (o % 4 < 2) ∧ ch dir o A true D a b l = (1, 1, 0) ∧ a = true ∧ chN dir o A true D a b l = (1, 0)) := by decide +kernel
theorem S2d : ∀ dir, dir < 3 → ∀ o, o < 8 → ∀ A U a b l : Bool,
    ch ((dir : Nat) : Int) ((o : Nat) : Int) A U true a b l = (3, 2, 2) ∨
    (¬ (o < 4 ∧ dir = 2) ∧ ch dir o A U true a b l = (3, 1, 1) ∧ o % 4 < 2 ∧ chN dir o A U true a b l = (1, (o : Int) + 2)) ∨
    (¬ (o < 4) ∧ ¬ (o % 4 < 2) ∧ ch dir o A U true a b l = (3, 1, 1) ∧ chN dir o A U true a b l = (1, 2)) ∨
    (¬ (o < 4 ∧ dir ≠ 1) ∧ ch dir o A U true a b l = (1, 1, 0) ∧ a = true ∧ chN dir o A U true a b l = (1, 0)) ∨
    (¬ (o < 4) ∧ ch dir o A U true a b l = (2, 2, 0) ∧ b = true ∧ chN dir o A U true a b l = (2, 0)) := by decide +kernel
theorem S3 : ∀ dir, dir < 3 → ∀ o, o < 8 → ∀ U D a b l : Bool,
    (ch ((dir : Nat) : Int) ((o : Nat) : Int) true U D a b l).1 = 3 ∨
    (o ≠ 0 ∧ ch dir o true U D a b l = (2, 2, 0) ∧ b = true ∧ chN dir o true U D a b l = (2, 0)) ∨
    (o ≠ 0 ∧ ch dir o true U D a b l = (1, 1, 0) ∧ a = true ∧ chN dir o true U D a b l = (1, 0)) := by decide +kernel
def okM (t e a b A U D : Bool) (o : Nat) (c : Int × Int × Int) : Bool :=
  (c.1 == 1 && (a && c.2.1 == 1 && c.2.2 == 0)) || (c.1 == 2 && (b && c.2.1 == 2 && c.2.2 == 0)) ||
  (c.1 == 3 && ((A || U || D) && c.2.1 == c.2.2 && !(c.2.2 == 1 && t) && !(c.2.2 == 2 && e) && !((a || b) && o.testBit c.2.2.toNat) && (0 ≤ c.2.2 && c.2.2 ≤ 2))) ||
  (c.1 == 0 && (!(A || U || D) && !a && !b && c == (0, 0, 0)))
theorem S4 : ∀ dir, dir < 3 → ∀ o, o < 8 → ∀ t e A U D a b l : Bool, (t && (U || a)) = false → (e && (D || b)) = false → okM t e a b A U D o (ch ((dir : Nat) : Int) ((o : Nat) : Int) A U D a b l) = true := by decide +kernel
def mirD (d : Int) : Int := bif d == 1 then 2 else bif d == 2 then 1 else d
def mirO (o : Nat) : Nat := o % 2 + (o / 2 % 2) * 4 + (o / 4 % 2) * 2
theorem S5 : ∀ o, o < 8 → ∀ A U D a b l l' : Bool,
    ch 2 ((mirO o : Nat) : Int) A D U b a l' = (mirD (ch 1 ((o : Nat) : Int) A U D a b l).1, mirD (ch 1 o A U D a b l).2.1, mirD (ch 1 o A U D a b l).2.2) ∧
    ch 1 (mirO o) A D U b a l' = (mirD (ch 2 o A U D a b l).1, mirD (ch 2 o A U D a b l).2.1, mirD (ch 2 o A U D a b l).2.2) := by decide +kernel
theorem S6 : ∀ dir, dir < 3 → ∀ o, o < 8 → ∀ A U D a b l : Bool,
    0 ≤ (ch ((dir : Nat) : Int) ((o : Nat) : Int) A U D a b l).1 ∧ (ch ((dir : Nat) : Int) ((o : Nat) : Int) A U D a b l).1 ≤ 3 ∧ 0 ≤ (ch ((dir : Nat) : Int) ((o : Nat) : Int) A U D a b l).2.1 ∧ (ch ((dir : Nat) : Int) ((o : Nat) : Int) A U D a b l).2.1 ≤ 2 ∧ 0 ≤ (ch ((dir : Nat) : Int) ((o : Nat) : Int) A U D a b l).2.2 ∧ (ch ((dir : Nat) : Int) ((o : Nat) : Int) A U D a b l).2.2 ≤ 2 := by decide +kernel
end Go.Proofs.YtpbljgpdhllklaaGreatDoor.Sp
end

section
/- What a decision does to the way that is left to a call: without the relay (own work). -/
namespace Go.Proofs.YtpbljgpdhllklaaGreatDoor.Sp
open Go Sy
set_option linter.unusedVariables false
set_option linter.unusedSimpArgs false
set_option maxRecDepth 10000
theorem cS_lt {n : Nat} {c u d : Int} (hn : n ≤ 32) (hc : W c) (hu : W u) (hd : W d) {i : Nat} (h : bit (cS (cA n c) (cU n u) (cD n d)) i = true) : i < n := by
  have hi : i < 32 := bit_lt (W_cS _ _ _) h
  rw [bit_cS (W_and _ _) (W_and _ _) (W_and _ _) i hi, bit_cA hn hc, bit_cU hn hu, bit_cD hn hd] at h
  simp only [Bool.or_eq_true, Bool.and_eq_true, decide_eq_true_eq] at h
  omega
theorem up_room {n f : Nat} {dir o c u d ab be : Int} (h : Ok n f dir o c u d) (s : Sc n f o c u d ab be) (ha : decide (0 < ab) = true) : f + 1 < n := by
  obtain ⟨i, hi, hb⟩ := s.up_iff.1 ha
  have := cS_lt h.n32 h.c h.u h.d hb
  omega
theorem down_room {n f : Nat} {o c u d ab be : Int} (s : Sc n f o c u d ab be) (ha : decide (0 < be) = true) : 0 < f := by
  obtain ⟨i, hi, hb⟩ := s.down_iff.1 ha
  omega
set_option synthInstance.maxHeartbeats 400000
set_option synthInstance.maxSize 4096
theorem T1 : ∀ dir, dir < 3 → ∀ o, o < 8 → ∀ A U D a b l : Bool,
    ((ch ((dir : Nat) : Int) ((o : Nat) : Int) A U D a b l).1 = 3 ∧ (chN dir o A U D a b l).1 = (ch dir o A U D a b l).2.2 ∧ (0 ≤ (chN dir o A U D a b l).1 ∧ (chN dir o A U D a b l).1 ≤ 2) ∧ 0 ≤ (chN dir o A U D a b l).2 ∧ (chN dir o A U D a b l).2 ≤ 7) ∨
    ((ch dir o A U D a b l).1 = 1 ∧ a = true ∧ chN dir o A U D a b l = (1, 0)) ∨
    ((ch dir o A U D a b l).1 = 2 ∧ b = true ∧ chN dir o A U D a b l = (2, 0)) ∨
    ((ch dir o A U D a b l).1 = 0 ∧ (A || U || D || a || b) = false ∧ chN dir o A U D a b l = (0, 0)) := by decide +kernel
def opn (o : Nat) : Int := 2 - (if o % 4 < 2 then 0 else 1) - (if o < 4 then 0 else 1)
theorem opn_bd (o : Nat) : 0 ≤ opn o ∧ opn o ≤ 2 := by unfold opn; split <;> split <;> omega
def phU (n g f dir o : Nat) : Int := if dir = 0 ∨ (f = g ∧ ¬ o % 4 < 2) then 3 * n else if dir = 1 then (if f ≤ g then (g : Int) - f else 2 * ((n : Int) - 1) - f + g) else (f : Int) + g
def phD (n g f dir o : Nat) : Int := if dir = 0 ∨ (f = g ∧ ¬ o < 4) then 3 * n else if dir = 1 then 2 * ((n : Int) - 1) - f - g else (if g ≤ f then (f : Int) - g else (f : Int) + 2 * ((n : Int) - 1) - g)
def phC (n g f dir o : Nat) : Int := if dir = 0 ∨ (f = g ∧ o ≠ 0) then 3 * n else if dir = 1 then (if f ≤ g then (g : Int) - f else 2 * ((n : Int) - 1) - f - g) else (if g ≤ f then (f : Int) - g else (f : Int) + g)
def Dec (n : Nat) (ph : Nat → Nat → Nat → Int) (hit : Nat → Nat → Prop) (f dir o : Nat) (C : Int × Int × Int) (N : Int × Int) : Prop :=
  (C.1 = 3 ∧ (∃ d' o' : Nat, N = ((d' : Int), (o' : Int)) ∧ d' ≤ 2 ∧ o' < 8 ∧ hit f d') ∧ (1 ≤ ph f dir o ∨ 1 ≤ opn o)) ∨
  (C.1 = 3 ∧ ∃ d' o' : Nat, N = ((d' : Int), (o' : Int)) ∧ d' ≤ 2 ∧ o' < 8 ∧ (ph f d' o' < ph f dir o ∨ (ph f d' o' ≤ ph f dir o ∧ opn o' < opn o))) ∨
  (C.1 = 1 ∧ N = (1, 0) ∧ f + 1 < n ∧ ph (f + 1) 1 0 < ph f dir o) ∨
  (C.1 = 2 ∧ N = (2, 0) ∧ 0 < f ∧ ph (f - 1) 2 0 < ph f dir o)
theorem lo : ∀ o : Nat, o < 8 → (o % 4 < 2 → opn (o + 2) < opn o ∧ o + 2 < 8) ∧ (o < 4 → opn (o + 4) < opn o ∧ o + 4 < 8) := by decide
theorem dec_up {n g f dir o : Nat} (hn : 2 ≤ n) (hf : f < n) (hg : g + 1 < n) (hd : dir < 3) (ho : o < 8) (A U D a b l : Bool) (hU : f = g → U = true) (ha : f < g → a = true) (hb : g < f → b = true)
    (ra : a = true → f + 1 < n) (rb : b = true → 0 < f) : Dec n (phU n g) (fun f' d' => f' = g ∧ d' = 1) f dir o (ch dir o A U D a b l) (chN dir o A U D a b l) := by
  have h4 := lo o ho
  unfold Dec
  by_cases hfg : f = g
  · subst hfg
    rw [hU rfl]
    rcases S2u dir hd o ho A D a b l with e | ⟨h1, e, h2, eN⟩ | ⟨h1, h2, e, eN⟩ | ⟨h1, e, h2, eN⟩ | ⟨h1, e, h2, eN⟩
    · left
      have t := T1 dir hd o ho A true D a b l
      rw [e] at t ⊢
      simp only at t
      refine ⟨rfl, ?_, ?_⟩
      · rcases t with ⟨_, t2, t3, t4⟩ | ⟨t1, _⟩ | ⟨t1, _⟩ | ⟨t1, _⟩
        · refine ⟨1, (chN dir o A true D a b l).2.toNat, Prod.ext t2 (by simp only; omega), by omega, by omega, rfl, rfl⟩
        · omega
        · omega
        · omega
      · unfold phU opn
        have := h4
        by_cases ho2 : o % 4 < 2
        · right; simp only [ho2, if_true]; split <;> omega
        · left; simp only [ho2, not_false_eq_true, and_true, or_true, if_true]; omega
    · right; left
      rw [e, eN]
      refine ⟨rfl, 2, o + 4, by simp, by omega, (h4.2 h2).2, Or.inr ⟨?_, (h4.2 h2).1⟩⟩
      unfold phU
      have e4 : (o + 4) % 4 = o % 4 := by omega
      rw [e4]
      split <;> split <;> (try split) <;> omega
    · right; left
      rw [e, eN]
      refine ⟨rfl, 2, 4, rfl, by omega, by omega, Or.inl ?_⟩
      unfold phU
      simp only [h1, not_false_eq_true, and_true, or_true, if_true]
      simp; omega
    · right; right; right
      rw [e, eN]
      have := rb h2
      refine ⟨rfl, rfl, this, ?_⟩
      unfold phU
      split <;> split <;> (try split) <;> omega
    · right; right; left
      rw [e, eN]
      have := ra h2
      refine ⟨rfl, rfl, this, ?_⟩
      unfold phU
      split <;> split <;> (try split) <;> omega
  · have hab : (a || b) = true := by
      rcases Nat.lt_or_ge f g with h | h
      · rw [ha h]; rfl
      · rw [hb (by omega), Bool.or_true]
    rcases S1 dir hd o ho A U D a b l hab with ⟨e, h1, h2, eN⟩ | ⟨e, h1, h2, eN⟩ | ⟨e, h1, h2, eN⟩ | ⟨e, h1, h2, eN⟩
    · right; right; left
      rw [e, eN]
      have := ra h1
      have hb' : ¬ (dir = 2 ∧ g < f) := fun ⟨x, y⟩ => h2 ⟨x, hb y⟩
      refine ⟨rfl, rfl, this, ?_⟩
      unfold phU
      split <;> split <;> (try split) <;> (try split) <;> omega
    · right; right; right
      rw [e, eN]
      have := rb h1
      have hb' : ¬ (dir = 1 ∧ f < g) := fun ⟨x, y⟩ => h2 ⟨x, ha y⟩
      refine ⟨rfl, rfl, this, ?_⟩
      unfold phU
      split <;> split <;> (try split) <;> (try split) <;> omega
    · right; left
      rw [e, eN]
      have hb' : ¬ (dir = 2 ∧ g < f) := fun ⟨x, y⟩ => h2 ⟨x, hb y⟩
      refine ⟨rfl, 1, o + 2, by simp, by omega, (h4.1 h1).2, Or.inr ⟨?_, (h4.1 h1).1⟩⟩
      unfold phU
      split <;> split <;> (try split) <;> (try split) <;> (try split) <;> omega
    · right; left
      rw [e, eN]
      have hb' : ¬ (dir = 1 ∧ f < g) := fun ⟨x, y⟩ => h2 ⟨x, ha y⟩
      refine ⟨rfl, 2, o + 4, by simp, by omega, (h4.2 h1).2, Or.inr ⟨?_, (h4.2 h1).1⟩⟩
      unfold phU
      split <;> split <;> (try split) <;> (try split) <;> (try split) <;> omega
theorem dec_dn {n g f dir o : Nat} (hn : 2 ≤ n) (hf : f < n) (hg : 0 < g ∧ g < n) (hd : dir < 3) (ho : o < 8) (A U D a b l : Bool) (hD : f = g → D = true) (ha : f < g → a = true) (hb : g < f → b = true)
    (ra : a = true → f + 1 < n) (rb : b = true → 0 < f) : Dec n (phD n g) (fun f' d' => f' = g ∧ d' = 2) f dir o (ch dir o A U D a b l) (chN dir o A U D a b l) := by
  have h4 := lo o ho
  unfold Dec
  by_cases hfg : f = g
  · subst hfg
    rw [hD rfl]
    rcases S2d dir hd o ho A U a b l with e | ⟨h1, e, h2, eN⟩ | ⟨h1, h2, e, eN⟩ | ⟨h1, e, h2, eN⟩ | ⟨h1, e, h2, eN⟩
    · left
      have t := T1 dir hd o ho A U true a b l
      rw [e] at t ⊢
      simp only at t
      refine ⟨rfl, ?_, ?_⟩
      · rcases t with ⟨_, t2, t3, t4⟩ | ⟨t1, _⟩ | ⟨t1, _⟩ | ⟨t1, _⟩
        · refine ⟨2, (chN dir o A U true a b l).2.toNat, Prod.ext t2 (by simp only; omega), by omega, by omega, rfl, rfl⟩
        · omega
        · omega
        · omega
      · unfold phD opn
        have := h4
        by_cases ho2 : o < 4
        · right; simp only [ho2, if_true]; split <;> omega
        · left; simp only [ho2, not_false_eq_true, and_true, or_true, if_true]; omega
    · right; left
      rw [e, eN]
      refine ⟨rfl, 1, o + 2, by simp, by omega, (h4.1 h2).2, Or.inr ⟨?_, (h4.1 h2).1⟩⟩
      have e4 : (o + 2 < 4) ↔ (o < 4) := by omega
      unfold phD
      split <;> split <;> (try split) <;> omega
    · right; left
      rw [e, eN]
      refine ⟨rfl, 1, 2, rfl, by omega, by omega, Or.inl ?_⟩
      unfold phD
      simp only [h1, not_false_eq_true, and_true, or_true, if_true]
      simp; omega
    · right; right; left
      rw [e, eN]
      have := ra h2
      refine ⟨rfl, rfl, this, ?_⟩
      unfold phD
      split <;> split <;> (try split) <;> omega
    · right; right; right
      rw [e, eN]
      have := rb h2
      refine ⟨rfl, rfl, this, ?_⟩
      unfold phD
      split <;> split <;> (try split) <;> omega
  · have hab : (a || b) = true := by
      rcases Nat.lt_or_ge f g with h | h
      · rw [ha h]; rfl
      · rw [hb (by omega), Bool.or_true]
    rcases S1 dir hd o ho A U D a b l hab with ⟨e, h1, h2, eN⟩ | ⟨e, h1, h2, eN⟩ | ⟨e, h1, h2, eN⟩ | ⟨e, h1, h2, eN⟩
    · right; right; left
      rw [e, eN]
      have := ra h1
      have hb' : ¬ (dir = 2 ∧ g < f) := fun ⟨x, y⟩ => h2 ⟨x, hb y⟩
      refine ⟨rfl, rfl, this, ?_⟩
      unfold phD
      split <;> split <;> (try split) <;> (try split) <;> omega
    · right; right; right
      rw [e, eN]
      have := rb h1
      have hb' : ¬ (dir = 1 ∧ f < g) := fun ⟨x, y⟩ => h2 ⟨x, ha y⟩
      refine ⟨rfl, rfl, this, ?_⟩
      unfold phD
      split <;> split <;> (try split) <;> (try split) <;> omega
    · right; left
      rw [e, eN]
      have hb' : ¬ (dir = 2 ∧ g < f) := fun ⟨x, y⟩ => h2 ⟨x, hb y⟩
      refine ⟨rfl, 1, o + 2, by simp, by omega, (h4.1 h1).2, Or.inr ⟨?_, (h4.1 h1).1⟩⟩
      unfold phD
      split <;> split <;> (try split) <;> (try split) <;> (try split) <;> omega
    · right; left
      rw [e, eN]
      have hb' : ¬ (dir = 1 ∧ f < g) := fun ⟨x, y⟩ => h2 ⟨x, ha y⟩
      refine ⟨rfl, 2, o + 4, by simp, by omega, (h4.2 h1).2, Or.inr ⟨?_, (h4.2 h1).1⟩⟩
      unfold phD
      split <;> split <;> (try split) <;> (try split) <;> (try split) <;> omega
theorem dec_car {n g f dir o : Nat} (hn : 2 ≤ n) (hf : f < n) (hg : g < n) (hd : dir < 3) (ho : o < 8) (A U D a b l : Bool) (hA : f = g → A = true) (ha : f < g → a = true) (hb : g < f → b = true)
    (ra : a = true → f + 1 < n) (rb : b = true → 0 < f) : Dec n (phC n g) (fun f' _ => f' = g) f dir o (ch dir o A U D a b l) (chN dir o A U D a b l) := by
  have h4 := lo o ho
  unfold Dec
  by_cases hfg : f = g
  · subst hfg
    rw [hA rfl]
    rcases S3 dir hd o ho U D a b l with e | ⟨h1, e, h2, eN⟩ | ⟨h1, e, h2, eN⟩
    · left
      have t := T1 dir hd o ho true U D a b l
      refine ⟨e, ?_, ?_⟩
      · rcases t with ⟨_, t2, t3, t4⟩ | ⟨t1, _⟩ | ⟨t1, _⟩ | ⟨t1, _⟩
        · refine ⟨(chN dir o true U D a b l).1.toNat, (chN dir o true U D a b l).2.toNat, Prod.ext (by simp only; omega) (by simp only; omega), by omega, by omega, rfl⟩
        · omega
        · omega
        · omega
      · unfold phC opn
        by_cases ho2 : o = 0
        · right; subst ho2; decide
        · left; simp only [ho2, ne_eq, not_false_eq_true, and_true, or_true, if_true]; omega
    · right; right; right
      rw [e, eN]
      have := rb h2
      refine ⟨rfl, rfl, this, ?_⟩
      unfold phC
      split <;> split <;> (try split) <;> omega
    · right; right; left
      rw [e, eN]
      have := ra h2
      refine ⟨rfl, rfl, this, ?_⟩
      unfold phC
      split <;> split <;> (try split) <;> omega
  · have hab : (a || b) = true := by
      rcases Nat.lt_or_ge f g with h | h
      · rw [ha h]; rfl
      · rw [hb (by omega), Bool.or_true]
    rcases S1 dir hd o ho A U D a b l hab with ⟨e, h1, h2, eN⟩ | ⟨e, h1, h2, eN⟩ | ⟨e, h1, h2, eN⟩ | ⟨e, h1, h2, eN⟩
    · right; right; left
      rw [e, eN]
      have := ra h1
      have hb' : ¬ (dir = 2 ∧ g < f) := fun ⟨x, y⟩ => h2 ⟨x, hb y⟩
      refine ⟨rfl, rfl, this, ?_⟩
      unfold phC
      split <;> split <;> (try split) <;> (try split) <;> omega
    · right; right; right
      rw [e, eN]
      have := rb h1
      have hb' : ¬ (dir = 1 ∧ f < g) := fun ⟨x, y⟩ => h2 ⟨x, ha y⟩
      refine ⟨rfl, rfl, this, ?_⟩
      unfold phC
      split <;> split <;> (try split) <;> (try split) <;> omega
    · right; left
      rw [e, eN]
      have hb' : ¬ (dir = 2 ∧ g < f) := fun ⟨x, y⟩ => h2 ⟨x, hb y⟩
      refine ⟨rfl, 1, o + 2, by simp, by omega, (h4.1 h1).2, Or.inr ⟨?_, (h4.1 h1).1⟩⟩
      unfold phC
      split <;> split <;> (try split) <;> (try split) <;> (try split) <;> omega
    · right; left
      rw [e, eN]
      have hb' : ¬ (dir = 1 ∧ f < g) := fun ⟨x, y⟩ => h2 ⟨x, ha y⟩
      refine ⟨rfl, 2, o + 4, by simp, by omega, (h4.2 h1).2, Or.inr ⟨?_, (h4.2 h1).1⟩⟩
      unfold phC
      split <;> split <;> (try split) <;> (try split) <;> (try split) <;> omega
theorem q_hit {p q K C : Int} (hp : 0 ≤ p) (hq : 0 ≤ q) (hC : 0 ≤ C) (hK : C ≤ K) (h : 1 ≤ p ∨ 1 ≤ q) : C ≤ p * K + q * C := by
  have a1 : 0 ≤ p * K := Int.mul_nonneg hp (by omega)
  have a2 : 0 ≤ q * C := Int.mul_nonneg hq hC
  rcases h with h | h
  · have := Int.mul_le_mul_of_nonneg_right h (show 0 ≤ K by omega)
    omega
  · have := Int.mul_le_mul_of_nonneg_right h hC
    omega
theorem q_open {p p' q q' K C : Int} (hq : 0 ≤ q) (hq' : q' ≤ 2) (hC : 0 ≤ C) (hK : 3 * C ≤ K) (h : p' < p ∨ (p' ≤ p ∧ q' < q)) : C + (p' * K + q' * C) ≤ p * K + q * C := by
  rcases h with h | ⟨h, h2⟩
  · have a1 := Int.mul_le_mul_of_nonneg_right (show p' + 1 ≤ p by omega) (show 0 ≤ K by omega)
    have a2 : 0 ≤ q * C := Int.mul_nonneg hq hC
    have a3 := Int.mul_le_mul_of_nonneg_right hq' hC
    rw [Int.add_mul] at a1
    omega
  · have a1 := Int.mul_le_mul_of_nonneg_right h (show 0 ≤ K by omega)
    have a2 := Int.mul_le_mul_of_nonneg_right (show q' + 1 ≤ q by omega) hC
    rw [Int.add_mul] at a2
    omega
theorem q_move {p p' q K C S : Int} (hq : 0 ≤ q) (hC : 0 ≤ C) (hS : 0 ≤ S) (hK : 2 * C + S ≤ K) (h : p' < p) : S + (p' * K + 2 * C) ≤ p * K + q * C := by
  have a1 := Int.mul_le_mul_of_nonneg_right (show p' + 1 ≤ p by omega) (show 0 ≤ K by omega)
  have a2 : 0 ≤ q * C := Int.mul_nonneg hq hC
  rw [Int.add_mul] at a1
  omega
end Go.Proofs.YtpbljgpdhllklaaGreatDoor.Sp
end

section
/- The control of a modernised car: the program's tick is the plain one (own work). -/
namespace Go.Proofs.YtpbljgpdhllklaaGreatDoor.Sp
open Go Sy
set_option linter.unusedVariables false
set_option linter.unusedSimpArgs false
set_option maxRecDepth 10000
theorem z5_iff (s : DoorT) : ((s.1 == (0 : Int)) && ((s.2.1 == (0 : Int)) && ((s.2.2.1 == (0 : Int)) && ((s.2.2.2.1 == false) && (s.2.2.2.2 == (0 : Int)))))) = decide (s = zd) := by
  obtain ⟨a, b, c, d, e⟩ := s
  rw [Bool.eq_iff_iff]
  simp only [Bool.and_eq_true, beq_iff_eq, decide_eq_true_eq, zd, Prod.mk.injEq]
theorem z3_iff (s : MotT) : ((s.1 == (0 : Int)) && ((s.2.1 == (0 : Int)) && (s.2.2 == (0 : Int)))) = decide (s = zm) := by
  obtain ⟨a, b, c⟩ := s
  rw [Bool.eq_iff_iff]
  simp only [Bool.and_eq_true, beq_iff_eq, decide_eq_true_eq, zm, Prod.mk.injEq]
instance (s : DoorT) : Decidable (DOk s) := by unfold DOk; infer_instance
instance (n : Int) (s : MotT) : Decidable (MOk n s) := by unfold MOk; infer_instance
theorem door_is (s : DoorT) : F52 s = decide (DOk s) := by
  rw [Bool.eq_iff_iff, decide_eq_true_eq]
  unfold F52 F76
  rw [z5_iff]
  obtain ⟨a, b, c, d, e⟩ := s
  simp only [cond_eq_ite, beq_iff_eq, DOk]
  split
  · rename_i h
    rw [decide_eq_true_eq]
    constructor
    · exact Or.inl
    · rintro (h1 | h1)
      · exact h1
      · omega
  · rename_i h
    simp only [Bool.and_eq_true, decide_eq_true_eq]
    constructor
    · intro h1; right; omega
    · rintro (h1 | h1)
      · exact absurd (congrArg Prod.fst h1) h
      · omega
theorem beside_eq (n f c : Int) (hf : -100 ≤ f ∧ f ≤ 1000) : F77 (n, f, c) = if c = 1 then (f + 1, decide (0 ≤ f + 1 ∧ f + 1 < n)) else if c = 2 then (f - 1, decide (0 ≤ f - 1 ∧ f - 1 < n)) else (0, false) := by
  unfold F77
  simp only
  by_cases h1 : c = 1
  · subst h1
    have e1 : nthT [(0 : Int), 1, -1] 1 = 1 := rfl
    simp only [bne_self_eq_false, Bool.false_and, cond_false, e1, if_true]
    rw [wrap_i64_of (by omega) (by omega)]
    refine Prod.ext rfl ?_
    rw [Bool.eq_iff_iff]; simp
  · by_cases h2 : c = 2
    · subst h2
      have e1 : nthT [(0 : Int), 1, -1] 2 = -1 := rfl
      simp only [bne_self_eq_false, Bool.and_false, cond_false, e1, if_true]
      rw [wrap_i64_of (by omega) (by omega), if_neg (by decide)]
      refine Prod.ext (by simp only; omega) ?_
      rw [Bool.eq_iff_iff]; simp; omega
    · have e : ((c != 1) && (c != 2)) = true := by simp [h1, h2]
      rw [e, cond_true, if_neg h1, if_neg h2]
theorem mot_is (n : Int) (s : MotT) (hn : 2 ≤ n ∧ n ≤ 32) : F53 (n, s) = decide (MOk n s) := by
  obtain ⟨c, t, f⟩ := s
  unfold F53
  simp only
  rw [Bool.eq_iff_iff, decide_eq_true_eq]
  unfold MOk
  simp only
  by_cases hf : 0 ≤ f ∧ f < n
  · rw [beside_eq n f c (by omega)]
    simp only [cond_eq_ite, Bool.or_eq_true, decide_eq_true_eq, beq_iff_eq]
    split
    · simp only [Bool.false_eq_true, false_iff]; omega
    · split
      · simp only [beq_iff_eq]; omega
      · split
        · simp only [decide_eq_true_eq]; omega
        · split
          · simp only [decide_eq_true_eq]; omega
          · simp only [Bool.false_eq_true, false_iff]; omega
  · simp only [cond_eq_ite, Bool.or_eq_true, decide_eq_true_eq, beq_iff_eq]
    rw [if_pos (by omega)]
    simp only [Bool.false_eq_true, false_iff]; omega
theorem dmore_eq {n : Int} (h : 0 ≤ n ∧ n ≤ 1000000) : F80 n = mor n := by
  unfold F80 mor
  rw [wrap_i64_of (by omega) (by omega)]
theorem dcounted_eq {s : DoorT} (h : 0 ≤ s.2.2.1 ∧ s.2.2.1 ≤ 1000000) : F79 s = (s.1, s.2.1, dcnt s.2.2.1, s.2.2.2) := by
  unfold F79 dcnt
  by_cases h0 : s.2.2.1 = 0
  · simp [h0]
    obtain ⟨a, b, c, d⟩ := s
    simp only at h0; subst h0; rfl
  · simp only [bne_iff_ne, ne_eq, h0, not_false_eq_true, if_true, cond_eq_ite, if_false]
    rw [dmore_eq h]
theorem dtick_eq (c : CarT) (s : DoorT) (door : Int) (block : Bool) (hs : 1 ≤ s.1 ∧ s.1 ≤ 3) (ht : 0 ≤ s.2.1 ∧ s.2.1 ≤ 1000000) (hi : 0 ≤ s.2.2.1 ∧ s.2.2.1 ≤ 1000000) (hc : 0 ≤ s.2.2.2.2 ∧ s.2.2.2.2 ≤ 1000000) :
    F69 (c, s, door, block, false) = dtick c.2.2.2.2.2.2.1 c.2.2.2.2.2.2.2.1 s door block := by
  have hS : F52 s = true := by
    rw [door_is, decide_eq_true_eq]
    exact Or.inr ⟨hs, ht, hi, hc⟩
  have hC := dcounted_eq hi
  obtain ⟨st, tm, si, nu, cy⟩ := s
  simp only [] at hs ht hi hc hC hS
  unfold F69
  have e : (st == 0) = false := by simp; omega
  simp only [hS, Bool.not_true, cond_false, e, hC]
  unfold dtick
  simp only []
  generalize dcnt si = sj
  simp only [F94, F95, F93, dmore_eq ht, dmore_eq hc, wrap_i64_of (x := tm + 1) (by omega) (by omega), cond_eq_ite, Bool.and_eq_true, beq_iff_eq, decide_eq_true_eq, Bool.not_eq_true']
  (repeat' split) <;> first | rfl | (exfalso; omega) | (exfalso; simp_all; done) | rw [show st = 1 by omega] | rw [show st = 2 by omega] | rw [show st = 3 by omega]
theorem dopen_eq (c : CarT) (door : Int) (block : Bool) : F69 (c, zd, door, block, true) = ((1, 0, 0, false, 0), 3) := by
  have hS : F52 zd = true := by rw [door_is]; decide
  unfold F69
  simp only [hS, Bool.not_true, cond_false]
  rfl
def mtick (fb : FbT) (s : MotT) : MotT × Int × Bool :=
  if s.1 ≠ 0 then (if fb.2.1 = true ∧ fb.1 = tgt s then (zm, 0, true) else ((s.1, mor s.2.1, s.2.2), s.1, false))
  else if fb.2.1 = true then (zm, 0, false) else ((s.1, mor s.2.1, s.2.2), s.1, false)
theorem mtick_eq (n : Int) (s : MotT) (fb : FbT) (hn : 2 ≤ n ∧ n ≤ 32) (hs : MOk n s) (hf : 0 ≤ fb.1 ∧ fb.1 < n) : F92 (n, s, fb, 0) = mtick fb s := by
  have hS : F53 (n, s) = true := by rw [mot_is n s hn, decide_eq_true_eq]; exact hs
  obtain ⟨c, t, f⟩ := s
  obtain ⟨g, lv, dr, bl⟩ := fb
  unfold MOk at hs
  simp only at hs hf hS
  have hff : -100 ≤ f ∧ f ≤ 1000 := by omega
  have hgg : -100 ≤ g ∧ g ≤ 1000 := by omega
  unfold F92
  simp only [hS, Bool.not_true, Bool.false_or]
  have e1 : (decide (g < 0) || decide (g ≥ n)) = false := by simp; omega
  rw [e1, cond_false, wrap_i64_of (x := t + 1) (by omega) (by omega)]
  have e0 : F77 (n, g, 0) = (0, false) := by rw [beside_eq n g 0 hgg]; rfl
  rw [e0, beside_eq n f c hff]
  unfold mtick tgt mor
  simp only
  rcases hs.2 with ⟨h1, h2⟩ | ⟨h1, h2, h3⟩ | ⟨h1, h2, h3⟩
  · subst h1 h2
    cases lv <;> rfl
  · subst h1
    have hd : decide (0 ≤ f + 1 ∧ f + 1 < n) = true := by simp; omega
    simp only [if_true, hd, Bool.true_and, Bool.true_or, cond_true]
    by_cases hg : g = f + 1
    · subst hg
      cases lv <;> simp
    · have hgb : (g == f + 1) = false := by rw [beq_eq_false_iff_ne]; exact hg
      rw [hgb]
      cases lv <;> simp [hg]
  · subst h1
    have hd : decide (0 ≤ f - 1 ∧ f - 1 < n) = true := by simp; omega
    simp only [if_true, hd, Bool.true_and, Bool.true_or, cond_true, if_neg (show ¬ (2 : Int) = 1 by decide)]
    by_cases hg : g = f - 1
    · subst hg
      cases lv <;> simp
    · have hgb : (g == f - 1) = false := by rw [beq_eq_false_iff_ne]; exact hg
      rw [hgb]
      cases lv <;> simp [hg]
theorem mgo_eq (n w : Int) (fb : FbT) (hn : 2 ≤ n ∧ n ≤ 32) (hf : 0 ≤ fb.1 ∧ fb.1 < n) (hl : fb.2.1 = true) (hw : (w = 1 ∧ fb.1 + 1 < n) ∨ (w = 2 ∧ 0 < fb.1)) : F92 (n, zm, fb, w) = ((w, 0, fb.1), w, false) := by
  have hS : F53 (n, zm) = true := by rw [mot_is n zm hn, decide_eq_true_eq]; exact ⟨by decide, Or.inl ⟨rfl, rfl⟩⟩
  obtain ⟨g, lv, dr, bl⟩ := fb
  simp only at hf hl hw
  subst hl
  unfold F92
  simp only [hS, Bool.not_true, Bool.false_or]
  have e1 : (decide (g < 0) || decide (g ≥ n)) = false := by simp; omega
  rw [e1, cond_false]
  have e0 : F77 (n, 0, 0) = (0, false) := by rw [beside_eq n 0 0 (by decide)]; rfl
  rw [e0, beside_eq n g w (by omega)]
  simp only [Bool.false_and, cond_false, Bool.not_true, Bool.or_self]
  rcases hw with ⟨rfl, h⟩ | ⟨rfl, h⟩
  · have hd : decide (0 ≤ g + 1 ∧ g + 1 < n) = true := by simp; omega
    simp [hd]
  · have hd : decide (0 ≤ g - 1 ∧ g - 1 < n) = true := by simp; omega
    simp only [if_neg (show ¬ (2 : Int) = 1 by decide), if_true, hd, cond_true]
theorem pmove_val {b : BldT} (hB : IsB b) (hl : b.cars.length ≤ maxLen) {c id f : Int} (hc : 0 ≤ c ∧ c < (b.2.2.2.2.2.2.2.length : Int)) (hf : 0 ≤ f ∧ f < b.1) :
    F72 (b, c, id, f) = if id < b.2.2.2.1 then 0 else if (nthT b.2.2.2.2.2.2.2 c).2.2.2.2.2.2.2.2 > f then 1 else if (nthT b.2.2.2.2.2.2.2 c).2.2.2.2.2.2.2.2 < f then 2 else 0 := by
  unfold F72
  simp only [valid_of hB hl]
  have e : (((((((0 : Int) != (0 : Int)) || (decide (c < (0 : Int)))) || (decide (c ≥ (b.2.2.2.2.2.2.2.length : Int)))) || (decide (f < (0 : Int)))) || (decide (f ≥ b.1))) || (decide (id < b.2.2.2.1))) = decide (id < b.2.2.2.1) := by
    rw [Bool.eq_iff_iff]
    simp only [Bool.or_eq_true, decide_eq_true_eq, bne_iff_ne, ne_eq, not_true_eq_false, false_or]
    omega
  rw [e]
  simp only [cond_eq_ite, decide_eq_true_eq]
theorem car_home {b : BldT} (hB : IsB b) {c : Int} (hc : 0 ≤ c ∧ c < (b.2.2.2.2.2.2.2.length : Int)) : 0 ≤ (nthT b.2.2.2.2.2.2.2 c).2.2.2.2.2.2.2.2 ∧ (nthT b.2.2.2.2.2.2.2 c).2.2.2.2.2.2.2.2 < b.1 := by
  have h := car_at hB hc.1 hc.2
  simp only [carOk, tOk, Bool.and_eq_true, decide_eq_true_eq] at h
  have := h.2
  omega
abbrev nC (b : BldT) (s : CarS) (f : Int) (hall : Int × Int) : Int × Int × Int := F70 (b.1, s.1, f, s.2.2.2.1, hall)
abbrev nN (b : BldT) (s : CarS) (f : Int) (hall : Int × Int) : Int × Int := F71 (b.1, s.1, f, s.2.2.2.1, hall)
abbrev nP (b : BldT) (car : Int) (s : CarS) (f : Int) : Int := F72 (b, car, s.2.2.2.2.2.1, f)
theorem cnp_of {b : BldT} {car : Int} {n f : Nat} {s : CarS} {hall : Int × Int} (hB : IsB b) (hl : b.cars.length ≤ maxLen) (hn : b.1 = n) (hc : 0 ≤ car ∧ car < (b.2.2.2.2.2.2.2.length : Int)) (hf : f < n) (h : NS n s) (wu : W hall.1) (wd : W hall.2) :
    CNP n f (nC b s f hall) (nN b s f hall) (nP b car s f) ∧ ((nC b s f hall).1 = 3 → (nN b s f hall).1 = (nC b s f hall).2.2) := by
  have hfl := hB.fl
  obtain ⟨⟨dir, op⟩, dr, mo, c, sh, id, fa⟩ := s
  have a1 := h.sd; have a2 := h.so
  simp only at a1 a2
  obtain ⟨dir, rfl⟩ := Int.eq_ofNat_of_zero_le a1.1
  obtain ⟨op, rfl⟩ := Int.eq_ofNat_of_zero_le a2.1
  have ok : Ok n f (dir : Int) (op : Int) c hall.1 hall.2 := ⟨by omega, by omega, hf, a1, a2, h.wc, wu, wd⟩
  obtain ⟨ab, be, s, e1, e2⟩ := Choose_ch ok
  have ha := up_room ok s
  have hb := down_room s
  have t := T1 dir (by omega) op (by omega) (bit (cA n c) f) (bit (cU n hall.1) f) (bit (cD n hall.2) f) (decide (0 < ab)) (decide (0 < be)) (decide (be ≥ ab))
  have t6 := S6 dir (by omega) op (by omega) (bit (cA n c) f) (bit (cU n hall.1) f) (bit (cD n hall.2) f) (decide (0 < ab)) (decide (0 < be)) (decide (be ≥ ab))
  have hp := pmove_val hB hl (id := id) (f := (f : Int)) hc (by omega)
  have hh := car_home hB hc
  unfold nC nN nP
  rw [hn, hp]
  rw [show (((n : Int), ((dir : Int), (op : Int)), (f : Int), c, hall) : Int × (Int × Int) × Int × Int × Int × Int) = ((n : Int), ((dir : Int), (op : Int)), (f : Int), c, hall.1, hall.2) from rfl, e1, e2]
  generalize ch (dir : Int) (op : Int) (bit (cA n c) f) (bit (cU n hall.1) f) (bit (cD n hall.2) f) (decide (0 < ab)) (decide (0 < be)) (decide (be ≥ ab)) = C at t t6
  generalize chN (dir : Int) (op : Int) (bit (cA n c) f) (bit (cU n hall.1) f) (bit (cD n hall.2) f) (decide (0 < ab)) (decide (0 < be)) (decide (be ≥ ab)) = N at t
  have hpp : ∀ p, p = (if id < b.2.2.2.1 then (0 : Int) else if (nthT b.2.2.2.2.2.2.2 car).2.2.2.2.2.2.2.2 > (f : Int) then 1 else if (nthT b.2.2.2.2.2.2.2 car).2.2.2.2.2.2.2.2 < (f : Int) then 2 else 0) → (p = 0) ∨ (p = 1 ∧ f + 1 < n) ∨ (p = 2 ∧ 0 < f) := by
    intro p hp
    split at hp
    · exact Or.inl hp
    · split at hp
      · right; left; omega
      · split at hp
        · right; right; omega
        · exact Or.inl hp
  rcases t with ⟨t1, t2, t3, t4⟩ | ⟨t1, t2, rfl⟩ | ⟨t1, t2, rfl⟩ | ⟨t1, t2, rfl⟩
  · exact ⟨⟨by omega, by omega, t3, t4, by omega, by omega, hpp _ rfl⟩, fun _ => t2⟩
  · have := ha t2
    exact ⟨⟨by omega, by omega, by decide, by decide, by omega, by omega, hpp _ rfl⟩, fun _ => by omega⟩
  · have := hb t2
    exact ⟨⟨by omega, by omega, by decide, by decide, by omega, by omega, hpp _ rfl⟩, fun _ => by omega⟩
  · exact ⟨⟨by omega, by omega, by decide, by decide, by omega, by omega, hpp _ rfl⟩, fun _ => by omega⟩
theorem or_one : ∀ o : Nat, o < 8 → (IntKind.i64.wrap ((BitVec.ofInt IntKind.i64.bits (o : Int) ||| BitVec.ofInt IntKind.i64.bits (1 : Int)).toNat : Int)) = mark1 (o : Int) := by decide +kernel
end Go.Proofs.YtpbljgpdhllklaaGreatDoor.Sp
end

section
/- The control of a modernised car: a tick of the program is the plain one (own work). -/
namespace Go.Proofs.YtpbljgpdhllklaaGreatDoor.Sp
open Go Sy
set_option linter.unusedVariables false
set_option linter.unusedSimpArgs false
set_option maxRecDepth 10000
abbrev cfgOf (b : BldT) (car : Int) : CarT := nthT b.2.2.2.2.2.2.2 car
abbrev cS_ (c : CarT) : Int := c.2.2.2.2.1
abbrev cT_ (c : CarT) : Int := c.2.2.2.2.2.1
abbrev cD_ (c : CarT) : Int := c.2.2.2.2.2.2.1
abbrev cH_ (c : CarT) : Int := c.2.2.2.2.2.2.2.1
section
variable {b : BldT} {car : Int} {n f : Nat} {s : CarS} {fb : FbT} {cmd : Int} {hall : Int × Int}
theorem dok_of (h : DOk s.2.1) (h0 : s.2.1.1 ≠ 0) : (1 ≤ s.2.1.1 ∧ s.2.1.1 ≤ 3) ∧ (0 ≤ s.2.1.2.1 ∧ s.2.1.2.1 ≤ 1000000) ∧ (0 ≤ s.2.1.2.2.1 ∧ s.2.1.2.2.1 ≤ 1000000) ∧ 0 ≤ s.2.1.2.2.2.2 ∧ s.2.1.2.2.2.2 ≤ 1000000 := by
  rcases h with h | h
  · rw [h] at h0; exact absurd rfl h0
  · exact h
theorem cyc_eq (h : DOk s.2.1) (h0 : s.2.1.1 ≠ 0) : (F46 (b, car, s, fb, cmd)).2 = (b, car, (ncyc (cD_ (cfgOf b car)) (cH_ (cfgOf b car)) fb s).1, fb, (ncyc (cD_ (cfgOf b car)) (cH_ (cfgOf b car)) fb s).2) := by
  have hd := dok_of h h0
  unfold F46 F29 ncyc
  simp only
  rw [dtick_eq _ _ _ _ hd.1 hd.2.1 hd.2.2.1 hd.2.2.2]
  generalize dtick _ _ s.2.1 fb.2.2.1 fb.2.2.2 = q
  simp only [cond_eq_ite, beq_iff_eq]
  by_cases h2 : q.1.1 = 2
  · rw [if_pos h2, if_pos h2, if_neg (by omega)]; rfl
  · rw [if_neg h2, if_neg h2]
    by_cases h3 : q.1.1 = 0
    · rw [if_pos h3, if_pos h3]
    · rw [if_neg h3, if_neg h3]
theorem dec_eq (hB : IsB b) (hn : b.1 = n) (hf : f < n) (ef : fb.1 = f) (hl : fb.2.1 = true) (h : NS n s) (hz : s.2.1 = zd) (hm : s.2.2.1 = zm) (k : CNP n f (nC b s f hall) (nN b s f hall) (nP b car s f)) :
    (F47 (hall, b, car, s, fb, cmd)).2 = (b, car, (ndec (nC b s f hall) (nN b s f hall) (nP b car s f) f s).1, fb, (ndec (nC b s f hall) (nN b s f hall) (nP b car s f) f s).2) := by
  have hfl := hB.fl
  obtain ⟨sw, dr, mo, c, sh, id, fa⟩ := s
  have hid := h.id
  simp only at hz hm hid
  subst hz hm
  have hgo : ∀ w : Int, (w = 1 ∧ f + 1 < n) ∨ (w = 2 ∧ 0 < f) → F92 (b.1, zm, fb, w) = ((w, 0, (f : Int)), w, false) := fun w hw => by
    rw [mgo_eq b.1 w fb hfl (by omega) hl (by omega), ef]
  unfold F47 K47_1 K47_2 F29 F68 ndec
  simp only [ef]
  rw [show F70 (b.1, sw, (f : Int), c, hall) = nC b (sw, zd, zm, c, sh, id, fa) f hall from rfl, show F71 (b.1, sw, (f : Int), c, hall) = nN b (sw, zd, zm, c, sh, id, fa) f hall from rfl,
    show F72 (b, car, id, (f : Int)) = nP b car (sw, zd, zm, c, sh, id, fa) f from rfl, dopen_eq, wrap_i64_of (x := id + 1) (by omega) (by omega)]
  generalize nC b (sw, zd, zm, c, sh, id, fa) f hall = C at k ⊢
  generalize nN b (sw, zd, zm, c, sh, id, fa) f hall = N at k ⊢
  generalize nP b car (sw, zd, zm, c, sh, id, fa) f = p at k ⊢
  simp only [cond_eq_ite, beq_iff_eq, bne_iff_ne]
  by_cases c3 : C.1 = 3
  · simp only [c3, if_true]
  · by_cases c1 : C.1 = 1
    · have hu := k.up c1
      simp only [c1, Int.reduceEq, if_true, if_false, true_or, hgo 1 (Or.inl ⟨rfl, hu⟩)]
    · by_cases c2 : C.1 = 2
      · have hd := k.dn c2
        simp only [c2, Int.reduceEq, if_true, if_false, or_true, hgo 2 (Or.inr ⟨rfl, hd⟩)]
      · by_cases hp : p = 0
        · simp only [c3, c1, c2, hp, if_false, or_self, ne_eq, not_true_eq_false]
          rfl
        · have hg := hgo p (by rcases k.p with x | x | x <;> omega)
          simp only [c3, c1, c2, hp, if_false, or_self, ne_eq, not_false_eq_true, if_true, hg]
theorem ob_eq (h : 0 ≤ s.1.2 ∧ s.1.2 ≤ 7) : (IntKind.i64.wrap ((BitVec.ofInt IntKind.i64.bits s.1.2 ||| BitVec.ofInt IntKind.i64.bits (1 : Int)).toNat : Int)) = mark1 s.1.2 := by
  obtain ⟨o, e⟩ := Int.eq_ofNat_of_zero_le h.1
  rw [e]
  exact or_one o (by omega)
theorem flr_eq (hB : IsB b) (hn : b.1 = n) (hf : f < n) (ef : fb.1 = f) (hl : fb.2.1 = true) (h : NS n s) (hz : s.2.1 = zd) (hm : s.2.2.1 = zm) (k : CNP n f (nC b s f hall) (nN b s f hall) (nP b car s f)) :
    actTail hall (b, car, s, fb, cmd) = (b, car, (nflr (cD_ (cfgOf b car)) (cH_ (cfgOf b car)) (nC b s f hall) (nN b s f hall) (nP b car s f) fb s).1, fb, (nflr (cD_ (cfgOf b car)) (cH_ (cfgOf b car)) (nC b s f hall) (nN b s f hall) (nP b car s f) fb s).2) := by
  have hst : (s.2.1.1 == (0 : Int)) = true := by rw [hz]; rfl
  unfold actTail nflr
  simp only [hst, Bool.true_and, cond_eq_ite, bne_iff_ne, ne_eq]
  by_cases hd : fb.2.2.1 = 2
  · have hst' : s.2.1.1 = 0 := by rw [hz]
    simp only [hd, hst', not_true_eq_false, if_false, ef]
    exact dec_eq hB hn hf ef hl h hz hm k
  · simp only [hd, not_false_eq_true, if_true, ob_eq h.so]
    rw [cyc_eq (s := ((s.1.1, mark1 s.1.2), ((1 : Int), (0 : Int), (0 : Int), false, (0 : Int)), s.2.2.1, s.2.2.2.1, (0 : Int), s.2.2.2.2.2)) DOk.one (by show (1 : Int) ≠ 0; decide)]
    rw [hm]
theorem press_eq (p : Int) : (F44 (p, b, car, s, fb, cmd)).2 = (b, car, npress b.1 fb.1 s p, fb, cmd) := by
  unfold F44 npress
  simp only [cond_eq_ite, bne_iff_ne, ne_eq]
  by_cases h0 : s.2.1.1 = 0
  · rw [if_neg (by simpa using h0), if_pos h0]
  · rw [if_pos h0, if_neg h0]
theorem core_eq (hB : IsB b) (hn : b.1 = n) (hf : f < n) (ef : fb.1 = f) (h : NS n s) (k : CNP n f (nC b s f hall) (nN b s f hall) (nP b car s f)) :
    (bif (s.2.1.1 == (0 : Int)) then (bif !(F45 (b, car, s, fb, 0)).1 then (F45 (b, car, s, fb, 0)).2 else actTail hall (F45 (b, car, s, fb, 0)).2) else actTail hall (b, car, s, fb, 0))
      = (b, car, (ncore (cD_ (cfgOf b car)) (cH_ (cfgOf b car)) (nC b s f hall) (nN b s f hall) (nP b car s f) fb s).1, fb, (ncore (cD_ (cfgOf b car)) (cH_ (cfgOf b car)) (nC b s f hall) (nN b s f hall) (nP b car s f) fb s).2) := by
  have hfl := hB.fl
  have hmt := mtick_eq b.1 s.2.2.1 fb hfl (by rw [hn]; exact h.mo) (by omega)
  by_cases h0 : s.2.1.1 = 0
  · have hz := h.dz (by simpa using h0)
    have e0 : (s.2.1.1 == (0 : Int)) = true := by simpa using h0
    rw [e0, cond_true]
    have hfa : fb.2.1 = true → actTail hall (b, car, (s.1, s.2.1, zm, s.2.2.2), fb, 0) = (b, car, (nflr (cD_ (cfgOf b car)) (cH_ (cfgOf b car)) (nC b s f hall) (nN b s f hall) (nP b car s f) fb (s.1, s.2.1, zm, s.2.2.2)).1, fb, (nflr (cD_ (cfgOf b car)) (cH_ (cfgOf b car)) (nC b s f hall) (nN b s f hall) (nP b car s f) fb (s.1, s.2.1, zm, s.2.2.2)).2) :=
      fun hlv => flr_eq (cmd := 0) (s := (s.1, s.2.1, zm, s.2.2.2)) (hall := hall) (car := car) hB hn hf ef (fb := fb) hlv h.moz hz rfl k
    unfold F45 F68 ncore
    rw [if_neg (by simpa using h0)]
    simp only
    rw [hmt, z3_iff]
    unfold mtick
    by_cases hc : s.2.2.1.1 = 0
    · have hnm : (!(s.2.2.1.1 != (0 : Int))) = true := by simp [hc]
      rw [hnm]
      have hc' : ¬ (s.2.2.1.1 ≠ 0) := by simpa using hc
      simp only [hc', if_false]
      cases hlv : fb.2.1 with
      | true =>
        have hfa' := hfa hlv
        by_cases hmz : s.2.2.1 = zm
        · have e1 : decide (s.2.2.1 = zm) = true := by simpa using hmz
          have es : (s.1, s.2.1, zm, s.2.2.2) = s := by rw [← hmz]
          rw [e1]
          rw [es] at hfa' ⊢
          simp only [Bool.and_true, cond_true, Bool.not_true, cond_false, if_true]
          exact hfa'
        · have e1 : decide (s.2.2.1 = zm) = false := by simpa using hmz
          rw [e1]
          simp only [Bool.false_and, Bool.true_and, Bool.or_true, if_true, cond_true, Bool.not_true, cond_false]
          exact hfa'
      | false =>
        simp only [Bool.and_false, cond_false, Bool.or_false, Bool.false_eq_true, if_false, cond_true, Bool.not_false, hc, Bool.true_or]
    · have hnm : (!(s.2.2.1.1 != (0 : Int))) = false := by simp [hc]
      have hnz : decide (s.2.2.1 = zm) = false := by
        rw [decide_eq_false_iff_not]
        intro e; exact hc (congrArg Prod.fst e)
      rw [hnm, hnz]
      have hc' : s.2.2.1.1 ≠ 0 := hc
      simp only [hc', ne_eq, not_false_eq_true, if_true, Bool.false_and, cond_false, Bool.or_false, Bool.false_or]
      by_cases hq : fb.2.1 = true ∧ fb.1 = tgt s.2.2.1
      · simp only [hq, and_self, if_true, cond_true, Bool.not_true, cond_false]
        exact hfa hq.1
      · rw [if_neg hq, if_neg hq]
        simp only [cond_false]
        by_cases hd : s.1.1 = 0
        · have e1 : (s.1.1 != (0 : Int)) = false := by simpa using hd
          rw [e1]
          simp only [cond_false, Bool.not_false, cond_true, hd, not_true_eq_false, if_false]
        · have e1 : (s.1.1 != (0 : Int)) = true := by simpa using hd
          rw [e1]
          simp only [cond_true, Bool.not_false, hd, not_false_eq_true, if_true]
  · have e0 : (s.2.1.1 == (0 : Int)) = false := by simpa using h0
    have e1 : (s.2.1.1 != (0 : Int)) = true := by simpa using h0
    rw [e0, cond_false]
    unfold ncore actTail
    rw [if_pos h0]
    simp only [e0, e1, Bool.false_and, cond_false, cond_true]
    exact cyc_eq h.dr h0
theorem watch_eq (c : CarT) (q : CarS × Int) : F28 (c, q.1, q.2) = nwatch (cT_ c) (cS_ c) q := by
  unfold F28 F48 F49 nwatch nlate
  simp only [cond_eq_ite, Bool.or_eq_true, Bool.and_eq_true, beq_iff_eq, decide_eq_true_eq]
def ntick (b : BldT) (car : Int) (s : CarS) (fb : FbT) (press : Int) (hall : Int × Int) : CarS × Int :=
  nwatch (cT_ (cfgOf b car)) (cS_ (cfgOf b car)) (ncore (cD_ (cfgOf b car)) (cH_ (cfgOf b car)) (nC b (npress b.1 fb.1 s press) fb.1 hall) (nN b (npress b.1 fb.1 s press) fb.1 hall) (nP b car (npress b.1 fb.1 s press) fb.1) fb (npress b.1 fb.1 s press))
theorem isfb_iff : (F26 (b, fb) = true) ↔ (0 ≤ fb.1 ∧ fb.1 < b.1 ∧ 0 ≤ fb.2.2.1 ∧ fb.2.2.1 ≤ 2) := by
  unfold F26
  simp only [Bool.and_eq_true, decide_eq_true_eq]
  omega
theorem tick_eq {press : Int} (hB : IsB b) (hl : b.cars.length ≤ maxLen) (hn : b.1 = n) (hc : 0 ≤ car ∧ car < (b.2.2.2.2.2.2.2.length : Int)) (h : NS n s) (his : F30 (b, s) = true) (hfb : F26 (b, fb) = true) (wp : W press) (wu : W hall.1) (wd : W hall.2) :
    F13 (b, car, s, fb, press, hall) = ((ntick b car s fb press hall).1, (ntick b car s fb press hall).2, 0) := by
  have hfl := hB.fl
  have hf := isfb_iff.1 hfb
  obtain ⟨f, ef⟩ := Int.eq_ofNat_of_zero_le hf.1
  have hic : F25 (b, car, s) = true := by
    unfold F25
    simp only [his, Bool.true_and, Bool.and_eq_true, decide_eq_true_eq]
    exact hc
  unfold F13 K13_1
  simp only [hic, hfb, Bool.not_true, Bool.or_self, cond_false, h.fa]
  rw [act_eq]
  simp only
  rw [press_eq]
  have hp := npress_NS (n := n) (f := fb.1) (p := press) (s := s) (by omega) wp h
  rw [← hn] at hp
  have hk := (cnp_of (f := f) (s := npress b.1 fb.1 s press) hB hl hn hc (by omega) hp wu wd).1
  have e := core_eq (hall := hall) (car := car) hB hn (by omega) ef hp hk
  simp only
  rw [e]
  unfold F29 ntick
  simp only
  rw [ef] at e ⊢
  rw [watch_eq]
theorem ntick_NS {press : Int} (hB : IsB b) (hl : b.cars.length ≤ maxLen) (hn : b.1 = n) (hc : 0 ≤ car ∧ car < (b.2.2.2.2.2.2.2.length : Int)) (h : NS n s) (hf : 0 ≤ fb.1 ∧ fb.1 < b.1) (wp : W press) (wu : W hall.1) (wd : W hall.2) :
    (ntick b car s fb press hall = (zf, 0)) ∨ (NS n (ntick b car s fb press hall).1 ∧ ¬ nlate (cT_ (cfgOf b car)) (cS_ (cfgOf b car)) (ntick b car s fb press hall).1) := by
  have hfl := hB.fl
  obtain ⟨f, ef⟩ := Int.eq_ofNat_of_zero_le hf.1
  have hp := npress_NS (n := n) (f := fb.1) (p := press) (s := s) (by omega) wp h
  rw [← hn] at hp
  have hk := (cnp_of (f := f) (s := npress b.1 fb.1 s press) hB hl hn hc (by omega) hp wu wd).1
  have hcore := ncore_NS (dw := cD_ (cfgOf b car)) (ho := cH_ (cfgOf b car)) (by omega) (by omega) ef hk hp
  unfold ntick nwatch
  split
  · exact Or.inl rfl
  · rename_i hnl
    right
    rw [ef] at hnl ⊢
    rw [ef] at hcore
    exact ⟨hcore, hnl⟩
end
end Go.Proofs.YtpbljgpdhllklaaGreatDoor.Sp
end

section
/- The states of a modernised car (own work). -/
namespace Go.Proofs.YtpbljgpdhllklaaGreatDoor.Sp
open Go Sy
set_option linter.unusedVariables false
set_option linter.unusedSimpArgs false
set_option maxRecDepth 10000
theorem shr0_iff {c : Int} (hc : W c) (n : Nat) : (shr32 c (n : Int) = 0) ↔ ∀ i, bit c i = true → i < n := by
  constructor
  · intro h i hi
    rcases Nat.lt_or_ge i n with x | x
    · exact x
    · have := bit_shr hc n (i - n)
      rw [h, bit_zero, show n + (i - n) = i by omega, hi] at this
      cases this
  · intro h
    refine W.ext (W_shr hc _ (by omega)) W.zero fun i hi => ?_
    rw [bit_shr hc, bit_zero]
    cases hb : bit c (n + i) with
    | false => rfl
    | true => have := h _ hb; omega
abbrev zz (s : CarS) : Bool := (((s.1.1 == (0 : Int)) && (s.1.2 == (0 : Int))) && (((s.2.1.1 == (0 : Int)) && ((s.2.1.2.1 == (0 : Int)) && ((s.2.1.2.2.1 == (0 : Int)) && ((s.2.1.2.2.2.1 == false) && (s.2.1.2.2.2.2 == (0 : Int)))))) && (((s.2.2.1.1 == (0 : Int)) && ((s.2.2.1.2.1 == (0 : Int)) && (s.2.2.1.2.2 == (0 : Int)))) && ((s.2.2.2.1 == (0 : Int)) && ((s.2.2.2.2.1 == (0 : Int)) && ((s.2.2.2.2.2.1 == (0 : Int)) && (s.2.2.2.2.2.2 == true)))))))
theorem zz_iff (s : CarS) : zz s = true ↔ s = zf := by
  obtain ⟨⟨d, o⟩, ⟨a, b, c, e, f⟩, ⟨g, h, i⟩, j, k, l, m⟩ := s
  simp only [zz, Bool.and_eq_true, beq_iff_eq, zf, zd, zm, Prod.mk.injEq]
theorem NS.iff {n : Nat} {s : CarS} (wc : W s.2.2.2.1) : NS n s ↔ ((0 ≤ s.1.1 ∧ s.1.1 ≤ 2) ∧ 0 ≤ s.1.2 ∧ s.1.2 ≤ 7) ∧ DOk s.2.1 ∧ MOk n s.2.2.1 ∧ (s.2.1 = zd ∨ s.2.2.1 = zm) ∧ (shr32 s.2.2.2.1 (n : Int) = 0) ∧ (0 ≤ s.2.2.2.2.1 ∧ s.2.2.2.2.1 ≤ 2) ∧ (0 ≤ s.2.2.2.2.2.1 ∧ s.2.2.2.2.2.1 ≤ 1000000) ∧ s.2.2.2.2.2.2 = false :=
  ⟨fun h => ⟨⟨h.sd, h.so⟩, h.dr, h.mo, h.ex, (shr0_iff wc n).2 h.cb, h.sh, h.id, h.fa⟩, fun h => ⟨h.1.1, h.1.2, h.2.1, h.2.2.1, h.2.2.2.1, wc, (shr0_iff wc n).1 h.2.2.2.2.1, h.2.2.2.2.2.1, h.2.2.2.2.2.2.1, h.2.2.2.2.2.2.2⟩⟩
def isB2 (n : Int) (s : CarS) : Bool :=
  bif ((((!(F51 s.1)) || (!(decide (DOk s.2.1)))) || (!(decide (MOk n s.2.2.1)))) || ((!(decide (s.2.1 = zd))) && (!(decide (s.2.2.1 = zm))))) then false
  else ((((((shr32 s.2.2.2.1 n) == (0 : Int)) && (decide (s.2.2.2.2.1 ≥ (0 : Int)))) && (decide (s.2.2.2.2.1 ≤ (2 : Int)))) && (decide (s.2.2.2.2.2.1 ≥ (0 : Int)))) && (decide (s.2.2.2.2.2.1 ≤ (1000000 : Int))))
theorem isB2_iff (n : Int) (s : CarS) : isB2 n s = true ↔ ((0 ≤ s.1.1 ∧ s.1.1 ≤ 2) ∧ 0 ≤ s.1.2 ∧ s.1.2 ≤ 7) ∧ DOk s.2.1 ∧ MOk n s.2.2.1 ∧ (s.2.1 = zd ∨ s.2.2.1 = zm) ∧ (shr32 s.2.2.2.1 n = 0) ∧ (0 ≤ s.2.2.2.2.1 ∧ s.2.2.2.2.1 ≤ 2) ∧ (0 ≤ s.2.2.2.2.2.1 ∧ s.2.2.2.2.2.1 ≤ 1000000) := by
  have hs : F51 s.1 = decide ((0 ≤ s.1.1 ∧ s.1.1 ≤ 2) ∧ 0 ≤ s.1.2 ∧ s.1.2 ≤ 7) := by
    rw [Bool.eq_iff_iff]
    unfold F51
    simp only [Bool.and_eq_true, decide_eq_true_eq]
    omega
  unfold isB2
  rw [hs]
  by_cases h1 : ((0 ≤ s.1.1 ∧ s.1.1 ≤ 2) ∧ 0 ≤ s.1.2 ∧ s.1.2 ≤ 7)
  · by_cases h2 : DOk s.2.1
    · by_cases h3 : MOk n s.2.2.1
      · by_cases h4 : s.2.1 = zd ∨ s.2.2.1 = zm
        · have e : ((!(decide (s.2.1 = zd))) && (!(decide (s.2.2.1 = zm)))) = false := by
            rcases h4 with h | h <;> simp [h]
          simp only [h1, h2, h3, h4, e, decide_true, Bool.not_true, Bool.or_self, cond_false, Bool.and_eq_true, decide_eq_true_eq, beq_iff_eq, true_and, and_self]
          generalize shr32 s.2.2.2.1 n = z
          omega
        · have e : ((!(decide (s.2.1 = zd))) && (!(decide (s.2.2.1 = zm)))) = true := by
            have a1 : ¬ s.2.1 = zd := fun x => h4 (Or.inl x)
            have a2 : ¬ s.2.2.1 = zm := fun x => h4 (Or.inr x)
            simp [a1, a2]
          rw [e, Bool.or_true, cond_true]
          exact ⟨fun x => absurd x (by simp), fun x => absurd x.2.2.2.1 h4⟩
      · have e : decide (MOk n s.2.2.1) = false := by simpa using h3
        rw [e]
        simp only [Bool.not_false, Bool.or_true, Bool.true_or, cond_true]
        exact ⟨fun x => absurd x (by simp), fun x => absurd x.2.2.1 h3⟩
    · have e : decide (DOk s.2.1) = false := by simpa using h2
      rw [e]
      simp only [Bool.not_false, Bool.or_true, Bool.true_or, cond_true]
      exact ⟨fun x => absurd x (by simp), fun x => absurd x.2.1 h2⟩
  · have e : decide ((0 ≤ s.1.1 ∧ s.1.1 ≤ 2) ∧ 0 ≤ s.1.2 ∧ s.1.2 ≤ 7) = false := by simpa using h1
    rw [e]
    simp only [Bool.not_false, Bool.true_or, cond_true]
    exact ⟨fun x => absurd x (by simp), fun x => absurd x.1 h1⟩
theorem isB2_zf (n : Nat) : isB2 n zf = true := by
  rw [isB2_iff]
  refine ⟨by decide, Or.inl rfl, MOk.z n, Or.inl rfl, (shr0_iff W.zero n).2 (fun i h => by rw [bit_zero] at h; cases h), by decide, by decide⟩
theorem isst_iff {b : BldT} {n : Nat} {s : CarS} (hl : b.cars.length ≤ maxLen) (hn : b.1 = n) (wc : W s.2.2.2.1) : (F30 (b, s) = true) ↔ IsB b ∧ (s = zf ∨ NS n s) := by
  unfold F30
  by_cases hB : IsB b
  · have hfl := hB.fl
    have e : F30 (b, s) = bif (s.2.2.2.2.2.2 && !(zz s)) then false else isB2 n s := by
      unfold F30
      simp only
      rw [valid_of hB hl, door_is, mot_is _ _ hfl, hn]
      unfold isB2
      rw [← z5_iff, ← z3_iff]
      rfl
    have e2 : F30 (b, s) = true ↔ IsB b ∧ (s = zf ∨ NS n s) := by
      rw [e]
      simp only [hB, true_and]
      rw [NS.iff wc]
      cases hfa : s.2.2.2.2.2.2 with
      | true =>
        cases hz : zz s with
        | true =>
          have := (zz_iff s).1 hz
          simp only [Bool.not_true, Bool.and_false, cond_false]
          exact ⟨fun _ => Or.inl this, fun _ => by rw [this]; exact isB2_zf n⟩
        | false =>
          simp only [Bool.not_false, Bool.and_true, cond_true]
          refine ⟨fun x => absurd x (by simp), fun x => ?_⟩
          rcases x with x | x
          · rw [(zz_iff s).2 x] at hz; cases hz
          · exact absurd x.2.2.2.2.2.2.2 (by simp)
      | false =>
        have hz : s ≠ zf := fun e => by rw [e] at hfa; cases hfa
        simp only [Bool.false_and, cond_false]
        rw [isB2_iff]
        simp only [and_true]
        exact ⟨fun x => Or.inr x, fun x => x.resolve_left hz⟩
    unfold F30 at e2
    exact e2
  · have hv : F50 b ≠ 0 := fun e => hB (valid_b hl e)
    have e1 : (F50 b != 0) = true := by rw [bne_iff_ne]; exact hv
    simp only
    rw [e1, Bool.true_or, cond_true]
    simp [hB]
end Go.Proofs.YtpbljgpdhllklaaGreatDoor.Sp
end

section
/- The plain tick of a drive (own work). -/
namespace Go.Proofs.YtpbljgpdhllklaaGreatDoor.Sp
open Go Sy
set_option linter.unusedVariables false
set_option linter.unusedSimpArgs false
def IsSt (fl : Int) (s : RigT) : Prop :=
  (2 ≤ fl ∧ fl ≤ 32) ∧ (0 ≤ s.1 ∧ s.1 ≤ fl - 1) ∧ (0 ≤ s.2.1 ∧ s.2.1 ≤ fl - 1) ∧ (-1 ≤ s.2.1 - s.1 ∧ s.2.1 - s.1 ≤ 1) ∧
  ((s.1 = s.2.1 ∧ s.2.2.1 = 0) ∨ (s.1 ≠ s.2.1 ∧ 1 ≤ s.2.2.1 ∧ s.2.2.1 ≤ 10000 ∧ s.2.2.2.1 = 2)) ∧
  ((s.2.2.2.1 = 0 ∧ (s.2.2.2.2.1 = 1 ∨ s.2.2.2.2.1 = 2) ∧ 1 ≤ s.2.2.2.2.2 ∧ s.2.2.2.2.2 ≤ 10000) ∨ ((s.2.2.2.1 = 1 ∨ s.2.2.2.1 = 2) ∧ s.2.2.2.2.1 = 0 ∧ s.2.2.2.2.2 = 0))
instance (fl : Int) (s : RigT) : Decidable (IsSt fl s) := by unfold IsSt; infer_instance
def moved (s : RigT) : RigT := if s.2.2.1 = 0 then (s.2.1, s.2) else s
def aimOf (s : RigT) (cmd : Int) : Int := if cmd = 3 then 1 else if cmd = 4 ∨ cmd = 5 then 2 else s.2.2.2.2.1
def doorOf (s : RigT) (to time : Int) : RigT :=
  if to = 0 ∨ s.2.2.2.1 = to then s
  else
    let n := if s.2.2.2.1 = 0 ∧ s.2.2.2.2.1 = to then s.2.2.2.2.2 - 1 else time - 1
    if n = 0 then (s.1, s.2.1, s.2.2.1, to, 0, 0) else (s.1, s.2.1, s.2.2.1, 0, to, n)
def nextOf (s : RigT) (cmd : Int) : Int := if cmd = 1 then s.1 + 1 else if cmd = 2 then s.1 - 1 else s.1
def clampT (t : Int) : Int := min (max t 1) 10000
def stp (fl : Int) (s : RigT) (cmd time : Int) : RigT :=
  if ¬ IsSt fl s then (0, 0, 0, 2, 0, 0)
  else if s.2.2.1 ≠ 0 then moved (s.1, s.2.1, s.2.2.1 - 1, s.2.2.2)
  else if nextOf s cmd ≠ s.1 ∧ 0 ≤ nextOf s cmd ∧ nextOf s cmd ≤ fl - 1 ∧ s.2.2.2.1 = 2 then moved (s.1, nextOf s cmd, clampT time - 1, s.2.2.2)
  else doorOf s (aimOf s cmd) (clampT time)
def RO (f tk : Int) (r : RigT) : Prop := (r = (f, f, 0, 1, 0, 0) ∧ tk = 0) ∨ (r = (f, f, 0, 0, 1, tk) ∧ 1 ≤ tk ∧ tk ≤ 10000)
def RC (f tk : Int) (r : RigT) : Prop := (r = (f, f, 0, 2, 0, 0) ∧ tk = 0) ∨ (r = (f, f, 0, 0, 2, tk) ∧ 1 ≤ tk ∧ tk ≤ 10000)
section
variable {n f tk t c : Int} {r : RigT}
theorem isSt_stand (hn : 2 ≤ n ∧ n ≤ 32) (hf : 0 ≤ f ∧ f < n) {d a k : Int} (h : (d = 0 ∧ (a = 1 ∨ a = 2) ∧ 1 ≤ k ∧ k ≤ 10000) ∨ ((d = 1 ∨ d = 2) ∧ a = 0 ∧ k = 0)) : IsSt n (f, f, 0, d, a, k) := by
  simp only [IsSt, and_true, true_and, or_true, true_or, or_false, false_or, not_true_eq_false, and_false, false_and, not_false_eq_true, ne_eq, if_true, if_false, Bool.false_eq_true, Int.reduceEq, Int.reduceNeg, Int.reduceLE, Int.reduceLT]
  omega
theorem stp_stand (hn : 2 ≤ n ∧ n ≤ 32) (hf : 0 ≤ f ∧ f < n) {d a k : Int} (h : (d = 0 ∧ (a = 1 ∨ a = 2) ∧ 1 ≤ k ∧ k ≤ 10000) ∨ ((d = 1 ∨ d = 2) ∧ a = 0 ∧ k = 0)) (hc : c ≠ 1 ∧ c ≠ 2) (ht : 1 ≤ t ∧ t ≤ 10000) :
    stp n (f, f, 0, d, a, k) c t = doorOf (f, f, 0, d, a, k) (aimOf (f, f, 0, d, a, k) c) t := by
  have hi := isSt_stand hn hf h
  have e1 : nextOf (f, f, 0, d, a, k) c = f := by unfold nextOf; rw [if_neg hc.1, if_neg hc.2]
  have e2 : clampT t = t := by unfold clampT; omega
  unfold stp
  rw [if_neg (by simpa using hi), if_neg (by simp), e1, if_neg (by simp), e2]
theorem ro_open (hn : 2 ≤ n ∧ n ≤ 32) (hf : 0 ≤ f ∧ f < n) (h : RO f tk r) (ht : 1 ≤ t ∧ t ≤ 10000) : RO f (max (tk - 1) 0) (stp n r 3 t) := by
  rcases h with ⟨rfl, rfl⟩ | ⟨rfl, h1, h2⟩
  · rw [stp_stand hn hf (by omega) (by omega) ht]
    exact Or.inl ⟨rfl, rfl⟩
  · rw [stp_stand hn hf (by omega) (by omega) ht]
    show RO f _ (doorOf (f, f, 0, 0, 1, tk) 1 t)
    unfold doorOf
    simp only [Int.reduceEq, or_self, if_false, and_self, if_true]
    split
    · exact Or.inl ⟨rfl, by omega⟩
    · exact Or.inr ⟨by rw [show max (tk - 1) 0 = tk - 1 by omega], by omega, by omega⟩
theorem rc_close (hn : 2 ≤ n ∧ n ≤ 32) (hf : 0 ≤ f ∧ f < n) (h : RC f tk r) (hc : c = 4 ∨ c = 5) (ht : 1 ≤ t ∧ t ≤ 10000) : RC f (max (tk - 1) 0) (stp n r c t) := by
  have ha : ∀ z : RigT, aimOf z c = 2 := fun z => by unfold aimOf; rw [if_neg (by omega), if_pos hc]
  rcases h with ⟨rfl, rfl⟩ | ⟨rfl, h1, h2⟩
  · rw [stp_stand hn hf (by omega) (by omega) ht, ha]
    exact Or.inl ⟨rfl, rfl⟩
  · rw [stp_stand hn hf (by omega) (by omega) ht, ha]
    unfold doorOf
    simp only [Int.reduceEq, or_self, if_false, and_self, if_true]
    split
    · exact Or.inl ⟨rfl, by omega⟩
    · exact Or.inr ⟨by rw [show max (tk - 1) 0 = tk - 1 by omega], by omega, by omega⟩
theorem ro_close (hn : 2 ≤ n ∧ n ≤ 32) (hf : 0 ≤ f ∧ f < n) (h : RO f tk r) (hc : c = 4 ∨ c = 5) (ht : 1 ≤ t ∧ t ≤ 10000) : RC f (t - 1) (stp n r c t) := by
  have ha : ∀ z : RigT, aimOf z c = 2 := fun z => by unfold aimOf; rw [if_neg (by omega), if_pos hc]
  rcases h with ⟨rfl, rfl⟩ | ⟨rfl, h1, h2⟩
  all_goals
    rw [stp_stand hn hf (by omega) (by omega) ht, ha]
    unfold doorOf
    simp only [Int.reduceEq, or_self, if_false, and_self, and_false, false_and]
    split
    · exact Or.inl ⟨rfl, by omega⟩
    · exact Or.inr ⟨rfl, by omega, by omega⟩
theorem rc_open (hn : 2 ≤ n ∧ n ≤ 32) (hf : 0 ≤ f ∧ f < n) (h : RC f tk r) (ht : 1 ≤ t ∧ t ≤ 10000) : RO f (t - 1) (stp n r 3 t) := by
  have ha : ∀ z : RigT, aimOf z 3 = 1 := fun z => rfl
  rcases h with ⟨rfl, rfl⟩ | ⟨rfl, h1, h2⟩
  all_goals
    rw [stp_stand hn hf (by omega) (by omega) ht, ha]
    unfold doorOf
    simp only [Int.reduceEq, or_self, if_false, and_self, and_false, false_and]
    split
    · exact Or.inl ⟨rfl, by omega⟩
    · exact Or.inr ⟨rfl, by omega, by omega⟩
theorem stp_none (hn : 2 ≤ n ∧ n ≤ 32) (hf : 0 ≤ f ∧ f < n) {d : Int} (hd : d = 1 ∨ d = 2) (ht : 1 ≤ t ∧ t ≤ 10000) : stp n (f, f, 0, d, 0, 0) 0 t = (f, f, 0, d, 0, 0) := by
  rw [stp_stand hn hf (by omega) (by omega) ht]
  show doorOf _ 0 t = _
  unfold doorOf
  simp
theorem RO.door (h : RO f tk r) : (r.2.2.2.1 = 1 ∧ tk = 0) ∨ (r.2.2.2.1 = 0 ∧ 1 ≤ tk) := by
  rcases h with ⟨rfl, rfl⟩ | ⟨rfl, h1, h2⟩
  · exact Or.inl ⟨rfl, rfl⟩
  · exact Or.inr ⟨rfl, h1⟩
theorem RC.door (h : RC f tk r) : (r.2.2.2.1 = 2 ∧ tk = 0) ∨ (r.2.2.2.1 = 0 ∧ 1 ≤ tk) := by
  rcases h with ⟨rfl, rfl⟩ | ⟨rfl, h1, h2⟩
  · exact Or.inl ⟨rfl, rfl⟩
  · exact Or.inr ⟨rfl, h1⟩
theorem RO.at (h : RO f tk r) : r.1 = f ∧ r.2.2.1 = 0 := by
  rcases h with ⟨rfl, rfl⟩ | ⟨rfl, h1, h2⟩ <;> exact ⟨rfl, rfl⟩
theorem RC.at (h : RC f tk r) : r.1 = f ∧ r.2.2.1 = 0 := by
  rcases h with ⟨rfl, rfl⟩ | ⟨rfl, h1, h2⟩ <;> exact ⟨rfl, rfl⟩
theorem stp_go (hn : 2 ≤ n ∧ n ≤ 32) (hf : 0 ≤ f ∧ f < n) {g : Int} (hg : (c = 1 ∧ g = f + 1 ∧ g < n) ∨ (c = 2 ∧ g = f - 1 ∧ 0 ≤ g)) (ht : 1 ≤ t ∧ t ≤ 10000) :
    stp n (f, f, 0, 2, 0, 0) c t = if t = 1 then (g, g, 0, 2, 0, 0) else (f, g, t - 1, 2, 0, 0) := by
  have hi := isSt_stand hn hf (d := 2) (a := 0) (k := 0) (by omega)
  have e1 : nextOf (f, f, 0, 2, 0, 0) c = g := by unfold nextOf; simp only; split <;> (try split) <;> omega
  have e2 : clampT t = t := by unfold clampT; omega
  unfold stp
  rw [if_neg (by simpa using hi), if_neg (by simp), e1, if_pos (by simp only [and_true, true_and, or_true, true_or, or_false, false_or, not_true_eq_false, and_false, false_and, not_false_eq_true, ne_eq, if_true, if_false, Bool.false_eq_true, Int.reduceEq, Int.reduceNeg, Int.reduceLE, Int.reduceLT]; omega), e2]
  unfold moved
  simp only
  by_cases h1 : t = 1
  · subst h1; simp
  · rw [if_neg (by omega), if_neg h1]
theorem stp_on (hn : 2 ≤ n ∧ n ≤ 32) (hf : 0 ≤ f ∧ f < n) {g L : Int} (hg : (g = f + 1 ∧ g < n) ∨ (g = f - 1 ∧ 0 ≤ g)) (hL : 1 ≤ L ∧ L ≤ 10000) :
    stp n (f, g, L, 2, 0, 0) c t = if L = 1 then (g, g, 0, 2, 0, 0) else (f, g, L - 1, 2, 0, 0) := by
  have hi : IsSt n (f, g, L, 2, 0, 0) := by simp only [IsSt, and_true, true_and, or_true, true_or, or_false, false_or, not_true_eq_false, and_false, false_and, not_false_eq_true, ne_eq, if_true, if_false, Bool.false_eq_true, Int.reduceEq, Int.reduceNeg, Int.reduceLE, Int.reduceLT]; omega
  unfold stp
  rw [if_neg (by simpa using hi), if_pos (by simp only; omega)]
  unfold moved
  simp only
  by_cases h1 : L = 1
  · subst h1; simp
  · rw [if_neg (by omega), if_neg h1]
end
end Go.Proofs.YtpbljgpdhllklaaGreatDoor.Sp
end

section
/- A modernised car and its drive, played (own work). -/
namespace Go.Proofs.YtpbljgpdhllklaaGreatDoor.Sp
open Go Sy
set_option linter.unusedVariables false
set_option linter.unusedSimpArgs false
def Shp (n T S ho f w : Int) (d : DoorT) (m : MotT) (r : RigT) : Prop :=
  (d = zd ∧ m = zm ∧ r = (f, f, 0, 2, 0, 0) ∧ 0 ≤ w) ∨
  (∃ mc mt mf L, d = zd ∧ m = (mc, mt, mf) ∧ (0 ≤ mf ∧ mf < n) ∧ ((mc = 1 ∧ f = mf + 1) ∨ (mc = 2 ∧ f = mf - 1)) ∧ 0 ≤ mt ∧ 0 ≤ L ∧ mt + L ≤ S - 1 ∧ L ≤ w ∧ ((L = 0 ∧ r = (f, f, 0, 2, 0, 0)) ∨ (1 ≤ L ∧ r = (mf, f, L, 2, 0, 0)))) ∨
  (∃ tm si cy tk, d = (1, tm, si, false, cy) ∧ m = zm ∧ RO f tk r ∧ 0 ≤ tk ∧ 0 ≤ tm ∧ tm + tk ≤ T - 1 ∧ ((si = 0 ∧ tk + ho + T + 2 ≤ w) ∨ (1 ≤ si ∧ si ≤ ho ∧ ho + 2 - si + T ≤ w))) ∨
  (∃ tm si cy, d = (2, tm, si, false, cy) ∧ m = zm ∧ r = (f, f, 0, 1, 0, 0) ∧ 0 ≤ tm ∧ 1 ≤ si ∧ si ≤ ho + 1 ∧ ho + 2 - si + T ≤ w) ∨
  (∃ tm si nu cy tk, d = (3, tm, si, nu, cy) ∧ m = zm ∧ RC f tk r ∧ 0 ≤ tk ∧ 0 ≤ tm ∧ tm + tk ≤ T - 1 ∧ ((nu = false ∧ 1 ≤ si ∧ si ≤ ho ∧ ho + 2 - si + T ≤ w) ∨ (nu = true ∧ ho + 1 ≤ si ∧ si ≤ 1000000 ∧ tk + 1 ≤ w)))
theorem Shp.mono {n T S ho f w w' : Int} {d : DoorT} {m : MotT} {r : RigT} (h : Shp n T S ho f w d m r) (hw : w ≤ w') : Shp n T S ho f w' d m r := by
  rcases h with ⟨a, b, c, e⟩ | ⟨mc, mt, mf, L, a, b, c, e, g, i, j, k, l⟩ | ⟨tm, si, cy, tk, a, b, c, e, g, i, j⟩ | ⟨tm, si, cy, a, b, c, e, g, i, j⟩ | ⟨tm, si, nu, cy, tk, a, b, c, e, g, i, j⟩
  · exact Or.inl ⟨a, b, c, by omega⟩
  · exact Or.inr (Or.inl ⟨mc, mt, mf, L, a, b, c, e, g, i, j, by omega, l⟩)
  · exact Or.inr (Or.inr (Or.inl ⟨tm, si, cy, tk, a, b, c, e, g, i, by omega⟩))
  · exact Or.inr (Or.inr (Or.inr (Or.inl ⟨tm, si, cy, a, b, c, e, g, i, by omega⟩)))
  · refine Or.inr (Or.inr (Or.inr (Or.inr ⟨tm, si, nu, cy, tk, a, b, c, e, g, i, ?_⟩)))
    rcases j with ⟨j1, j2, j3, j4⟩ | ⟨j1, j2, j3, j4⟩
    · exact Or.inl ⟨j1, j2, j3, by omega⟩
    · exact Or.inr ⟨j1, j2, j3, by omega⟩
theorem Shp.nn {n T S ho f w : Int} {d : DoorT} {m : MotT} {r : RigT} (h : Shp n T S ho f w d m r) (hT : 1 ≤ T) (hH : 1 ≤ ho) : 0 ≤ w := by
  rcases h with ⟨a, b, c, e⟩ | ⟨mc, mt, mf, L, a, b, c, e, g, i, j, k, l⟩ | ⟨tm, si, cy, tk, a, b, c, e, g, i, j⟩ | ⟨tm, si, cy, a, b, c, e, g, i, j⟩ | ⟨tm, si, nu, cy, tk, a, b, c, e, g, i, j⟩ <;> omega
def AtF (f : Int) (d : DoorT) (m : MotT) (r : RigT) : Prop := d = zd ∧ r = (f, f, 0, 2, 0, 0) ∧ (m = zm ∨ ((m.1 = 1 ∨ m.1 = 2) ∧ tgt m = f))
def Hit (T f x : Int) (d : DoorT) (r : RigT) : Prop := ∃ tm cy tk, d = (1, tm, 0, false, cy) ∧ RO f tk r ∧ 0 ≤ tk ∧ tk + 1 ≤ x
theorem dtick_cmd (dw ho : Int) (d : DoorT) (door : Int) (blk : Bool) : (dtick dw ho d door blk).2 ≠ 1 ∧ (dtick dw ho d door blk).2 ≠ 2 := by
  unfold dtick
  repeat' split
  all_goals simp
section
variable {n T S ho dw f w t : Int} {d : DoorT} {m : MotT} {r : RigT} {blk : Bool}
theorem dt1 (tm si cy door : Int) (blk : Bool) : dtick dw ho (1, tm, si, false, cy) door blk = if door = 1 then ((2, 0, max (dcnt si) 1, false, cy), 0) else if dcnt si > ho then ((3, 0, dcnt si, true, cy), 5) else ((1, mor tm, dcnt si, false, cy), 3) := by
  unfold dtick; simp
theorem dt2 (tm si cy door : Int) (blk : Bool) : dtick dw ho (2, tm, si, false, cy) door blk = if dcnt si > ho then ((3, 0, dcnt si, true, cy), 5) else if tm + 1 ≥ dw ∧ blk = false then ((3, 0, dcnt si, false, cy), 4) else ((2, mor tm, dcnt si, false, cy), 0) := by
  unfold dtick; simp
theorem dt3 (tm si cy door : Int) (blk : Bool) : dtick dw ho (3, tm, si, false, cy) door blk = if door = 2 then (zd, 0) else if dcnt si > ho then ((3, 0, dcnt si, true, cy), 5) else if blk = true then ((1, 0, dcnt si, false, mor cy), 3) else ((3, mor tm, dcnt si, false, cy), 4) := by
  unfold dtick; simp
theorem dt4 (tm si cy door : Int) (blk : Bool) (h : dcnt si > ho) : dtick dw ho (3, tm, si, true, cy) door blk = if door = 2 then (zd, 0) else ((3, mor tm, dcnt si, true, cy), 5) := by
  unfold dtick; simp [h]
theorem dcnt_pos {si : Int} (h : 1 ≤ si ∧ si ≤ 1000000) : dcnt si = mor si := by unfold dcnt; rw [if_neg (by omega)]
theorem mor_lt {x : Int} (h : x < 1000000) : mor x = x + 1 := by unfold mor; omega
theorem shp_cyc (hn : 2 ≤ n ∧ n ≤ 32) (hf : 0 ≤ f ∧ f < n) (hT : 1 ≤ T ∧ T ≤ 10000) (hH : 1 ≤ ho ∧ ho ≤ 10000) (h : Shp n T S ho f w d m r) (h0 : d.1 ≠ 0) (ht : 1 ≤ t ∧ t ≤ T) :
    Shp n T S ho f (w - 1) (dtick dw ho d r.2.2.2.1 blk).1 m (stp n r (dtick dw ho d r.2.2.2.1 blk).2 t) ∧
    ¬ (((dtick dw ho d r.2.2.2.1 blk).1.1 = 1 ∨ (dtick dw ho d r.2.2.2.1 blk).1.1 = 3) ∧ (dtick dw ho d r.2.2.2.1 blk).1.2.1 > T) ∧ m = zm ∧ r.2.2.1 = 0 ∧ r.1 = f ∧
    (dtick dw ho d r.2.2.2.1 blk).2 ≠ 1 ∧ (dtick dw ho d r.2.2.2.1 blk).2 ≠ 2 := by
  have ht' : 1 ≤ t ∧ t ≤ 10000 := by omega
  rcases h with ⟨a, b, c, e⟩ | ⟨mc, mt, mf, L, a, b, c, e, g, i, j, k, l⟩ | ⟨tm, si, cy, tk, rfl, b, c, e, g, i, j⟩ | ⟨tm, si, cy, rfl, b, c, e, g, i, j⟩ | ⟨tm, si, nu, cy, tk, rfl, b, c, e, g, i, j⟩
  · subst a; exact absurd rfl h0
  · subst a; exact absurd rfl h0
  · refine ⟨?_, ?_, b, c.at.2, c.at.1, dtick_cmd _ _ _ _ _⟩
    all_goals rw [dt1]
    · have hd := c.door
      split
      · rename_i h1
        have hk : tk = 0 := by omega
        subst hk
        have hr : r = (f, f, 0, 1, 0, 0) := by
          rcases c with ⟨c, _⟩ | ⟨_, c, _⟩
          · exact c
          · omega
        refine Or.inr (Or.inr (Or.inr (Or.inl ⟨0, max (dcnt si) 1, cy, rfl, b, ?_, by omega, by omega, ?_, ?_⟩)))
        · show stp n r 0 t = _
          rw [hr]
          exact stp_none hn hf (Or.inl rfl) ht'
        · rcases j with ⟨rfl, j⟩ | ⟨j1, j2, j3⟩
          · show max (dcnt 0) 1 ≤ ho + 1
            have : dcnt 0 = 0 := rfl
            omega
          · rw [dcnt_pos (by omega), mor_lt (by omega)]; omega
        · rcases j with ⟨rfl, j⟩ | ⟨j1, j2, j3⟩
          · have : dcnt 0 = 0 := rfl
            rw [this]; omega
          · rw [dcnt_pos (by omega), mor_lt (by omega)]; omega
      · rename_i h1
        have hk : 1 ≤ tk := by omega
        split
        · rename_i h2
          refine Or.inr (Or.inr (Or.inr (Or.inr ⟨0, dcnt si, true, cy, t - 1, rfl, b, ro_close hn hf c (Or.inr rfl) ht', by omega, by omega, by omega, Or.inr ⟨rfl, by omega, ?_, ?_⟩⟩)))
          · rcases j with ⟨rfl, j⟩ | ⟨j1, j2, j3⟩
            · have : dcnt 0 = 0 := rfl
              omega
            · rw [dcnt_pos (by omega), mor_lt (by omega)]; omega
          · omega
        · rename_i h2
          refine Or.inr (Or.inr (Or.inl ⟨mor tm, dcnt si, cy, max (tk - 1) 0, rfl, b, ro_open hn hf c ht', by omega, ?_, ?_, ?_⟩))
          · rw [mor_lt (by omega)]; omega
          · rw [mor_lt (by omega)]; omega
          · rcases j with ⟨rfl, j⟩ | ⟨j1, j2, j3⟩
            · exact Or.inl ⟨rfl, by omega⟩
            · rw [dcnt_pos (by omega), mor_lt (by omega)] at h2 ⊢
              exact Or.inr ⟨by omega, by omega, by omega⟩
    · split
      · simp
      · split
        · simp only; omega
        · simp only; rw [mor_lt (by omega)]; omega
  · subst c
    refine ⟨?_, ?_, b, rfl, rfl, dtick_cmd _ _ _ _ _⟩
    all_goals rw [dt2]
    · rw [dcnt_pos (by omega), mor_lt (by omega)]
      have hro : RO f 0 (f, f, 0, 1, 0, 0) := Or.inl ⟨rfl, rfl⟩
      split
      · refine Or.inr (Or.inr (Or.inr (Or.inr ⟨0, si + 1, true, cy, t - 1, rfl, b, ro_close hn hf hro (Or.inr rfl) ht', by omega, by omega, by omega, Or.inr ⟨rfl, by omega, by omega, by omega⟩⟩)))
      · rename_i h1
        split
        · refine Or.inr (Or.inr (Or.inr (Or.inr ⟨0, si + 1, false, cy, t - 1, rfl, b, ro_close hn hf hro (Or.inl rfl) ht', by omega, by omega, by omega, Or.inl ⟨rfl, by omega, by omega, by omega⟩⟩)))
        · exact Or.inr (Or.inr (Or.inr (Or.inl ⟨mor tm, si + 1, cy, rfl, b, stp_none hn hf (Or.inl rfl) ht', (mor_bd e).1, by omega, by omega, by omega⟩)))
    · split
      · simp only; omega
      · split
        · simp only; omega
        · simp
  · refine ⟨?_, ?_, b, c.at.2, c.at.1, dtick_cmd _ _ _ _ _⟩
    · have hd := c.door
      rcases j with ⟨rfl, j1, j2, j3⟩ | ⟨rfl, j1, j2, j3⟩
      · rw [dt3]
        split
        · rename_i h1
          have hr : r = (f, f, 0, 2, 0, 0) := by
            rcases c with ⟨c, _⟩ | ⟨c, _, _⟩
            · exact c
            · rw [c] at h1; simp at h1
          refine Or.inl ⟨rfl, b, ?_, by omega⟩
          show stp n r 0 t = _
          rw [hr]
          exact stp_none hn hf (Or.inr rfl) ht'
        · have hk : 1 ≤ tk := by omega
          rw [dcnt_pos (by omega), mor_lt (by omega : si < 1000000)]
          split
          · refine Or.inr (Or.inr (Or.inr (Or.inr ⟨0, si + 1, true, cy, max (tk - 1) 0, rfl, b, rc_close hn hf c (Or.inr rfl) ht', by omega, by omega, by omega, Or.inr ⟨rfl, by omega, by omega, by omega⟩⟩)))
          · split
            · exact Or.inr (Or.inr (Or.inl ⟨0, si + 1, mor cy, t - 1, rfl, b, rc_open hn hf c ht', by omega, by omega, by omega, Or.inr ⟨by omega, by omega, by omega⟩⟩))
            · refine Or.inr (Or.inr (Or.inr (Or.inr ⟨mor tm, si + 1, false, cy, max (tk - 1) 0, rfl, b, rc_close hn hf c (Or.inl rfl) ht', by omega, (mor_bd g).1, ?_, Or.inl ⟨rfl, by omega, by omega, by omega⟩⟩)))
              rw [mor_lt (by omega)]; omega
      · have hdc : dcnt si > ho := by rw [dcnt_pos (by omega)]; unfold mor; omega
        rw [dt4 _ _ _ _ _ hdc]
        split
        · rename_i h1
          have hr : r = (f, f, 0, 2, 0, 0) := by
            rcases c with ⟨c, _⟩ | ⟨c, _, _⟩
            · exact c
            · rw [c] at h1; simp at h1
          refine Or.inl ⟨rfl, b, ?_, by omega⟩
          show stp n r 0 t = _
          rw [hr]
          exact stp_none hn hf (Or.inr rfl) ht'
        · have hk : 1 ≤ tk := by omega
          refine Or.inr (Or.inr (Or.inr (Or.inr ⟨mor tm, dcnt si, true, cy, max (tk - 1) 0, rfl, b, rc_close hn hf c (Or.inr rfl) ht', by omega, (mor_bd g).1, ?_, Or.inr ⟨rfl, by omega, ?_, by omega⟩⟩)))
          · rw [mor_lt (by omega)]; omega
          · rw [dcnt_pos (by omega)]; unfold mor; omega
    · have hm := mor_lt (x := tm) (by omega)
      have hd := c.door
      rcases j with ⟨rfl, j1, j2, j3⟩ | ⟨rfl, j1, j2, j3⟩
      · rw [dt3]
        split
        · simp
        · split
          · simp only; omega
          · split
            · simp only; omega
            · simp only; omega
      · have hdc : dcnt si > ho := by rw [dcnt_pos (by omega)]; unfold mor; omega
        rw [dt4 _ _ _ _ _ hdc]
        split
        · simp
        · simp only; omega
theorem hit_cyc {x : Int} (hn : 2 ≤ n ∧ n ≤ 32) (hf : 0 ≤ f ∧ f < n) (hH : 1 ≤ ho ∧ ho ≤ 10000) (h : Hit T f x d r) (ht : 1 ≤ t ∧ t ≤ 10000) :
    ((dtick dw ho d r.2.2.2.1 blk).1.1 = 2 ∧ r.2.2.2.1 = 1) ∨ Hit T f (x - 1) (dtick dw ho d r.2.2.2.1 blk).1 (stp n r (dtick dw ho d r.2.2.2.1 blk).2 t) := by
  obtain ⟨tm, cy, tk, rfl, h1, h2, h3⟩ := h
  rw [dt1]
  have hd := h1.door
  split
  · rename_i e; exact Or.inl ⟨rfl, e⟩
  · rename_i e
    have e0 : dcnt 0 = 0 := rfl
    rw [e0, if_neg (by omega)]
    exact Or.inr ⟨mor tm, cy, max (tk - 1) 0, rfl, ro_open hn hf h1 ht, by omega, by omega⟩
end
end Go.Proofs.YtpbljgpdhllklaaGreatDoor.Sp
end

section
/- A modernised car: what a tick never does; ticks without feedback (own work). -/
namespace Go.Proofs.YtpbljgpdhllklaaGreatDoor.Sp
open Go Sy
set_option linter.unusedVariables false
set_option linter.unusedSimpArgs false
set_option maxRecDepth 10000
def Saf (n f : Nat) (s : CarS) (fb : FbT) (q : CarS × Int) : Prop :=
  (q.1.2.2.1.1 ≠ 0 → q.1.2.2.1.2.1 = 0 → fb.2.2.1 = 2 ∧ fb.2.1 = true ∧ q.2 = q.1.2.2.1.1 ∧ (q.2 = 1 → f + 1 < n) ∧ (q.2 = 2 → 0 < f)) ∧
  (q.2 = 1 ∨ q.2 = 2 → q.1.2.2.1.1 = q.2) ∧ (s.2.1.1 = 0 → q.1.2.1.1 ≠ 0 → fb.2.1 = true)
section
variable {n f : Nat} {dw ho T S : Int} {C : Int × Int × Int} {N : Int × Int} {p : Int} {fb : FbT} {s : CarS}
theorem ncyc_saf (h : NS n s) (h0 : s.2.1.1 ≠ 0) (s0 : CarS) (hl : s0.2.1.1 = 0 → fb.2.1 = true) : Saf n f s0 fb (ncyc dw ho fb s) := by
  have hm : s.2.2.1 = zm := by
    rcases h.ex with x | x
    · rw [x] at h0; exact absurd rfl h0
    · exact x
  have hc := dtick_cmd dw ho s.2.1 fb.2.2.1 fb.2.2.2
  refine ⟨fun a _ => ?_, fun a => ?_, fun a _ => hl a⟩
  · have a : s.2.2.1.1 ≠ 0 := a
    rw [hm] at a; exact absurd rfl a
  · rcases a with a | a
    · exact absurd a hc.1
    · exact absurd a hc.2
theorem ndec_saf (hd : fb.2.2.1 = 2) (hl : fb.2.1 = true) (k : CNP n f C N p) (hz : s.2.1 = zd) (s0 : CarS) : Saf n f s0 fb (ndec C N p f s) := by
  refine ⟨?_, ?_, fun _ _ => hl⟩
  · unfold ndec
    (repeat' split)
    · intro a; exact absurd rfl a
    · intro _ _
      exact ⟨hd, hl, rfl, k.up, k.dn⟩
    · intro _ _
      refine ⟨hd, hl, rfl, fun e => ?_, fun e => ?_⟩
      · have e : p = 1 := e
        have := k.p; omega
      · have e : p = 2 := e
        have := k.p; omega
    · intro a; exact absurd rfl a
  · unfold ndec
    (repeat' split)
    · intro a; simp at a
    · intro _; rfl
    · intro _; rfl
    · intro a; simp at a
theorem nflr_saf (hl : fb.2.1 = true) (ef : fb.1 = f) (k : CNP n f C N p) (h : NS n s) (hz : s.2.1 = zd) (s0 : CarS) : Saf n f s0 fb (nflr dw ho C N p fb s) := by
  unfold nflr
  split
  · refine ncyc_saf (n := n) (s := ((s.1.1, mark1 s.1.2), (1, 0, 0, false, 0), zm, s.2.2.2.1, 0, s.2.2.2.2.2)) ⟨h.sd, ?_, DOk.one, MOk.z n, Or.inr rfl, h.wc, h.cb, le02, h.id, h.fa⟩ (by show (1 : Int) ≠ 0; decide) s0 (fun _ => hl)
    have := h.so
    show 0 ≤ mark1 s.1.2 ∧ mark1 s.1.2 ≤ 7
    unfold mark1; omega
  · rename_i hd
    rw [ef]
    exact ndec_saf (by simpa using hd) hl k hz s0
theorem ncore_saf (ef : fb.1 = f) (k : CNP n f C N p) (h : NS n s) : Saf n f s fb (ncore dw ho C N p fb s) := by
  have hmt := h.mo.1
  have b1 : mor s.2.2.1.2.1 ≠ 0 := by unfold mor; omega
  unfold ncore
  split
  · rename_i h0
    exact ncyc_saf h h0 s (fun e => absurd e h0)
  · rename_i h0
    have hz := h.dz h0
    split
    · split
      · rename_i hq
        exact nflr_saf hq.1 ef k h.moz hz s
      · refine ⟨fun _ a => absurd a b1, fun _ => rfl, fun a b => absurd a b⟩
    · split
      · rename_i hq
        exact nflr_saf hq ef k h.moz hz s
      · refine ⟨fun _ a => absurd a b1, fun a => ?_, fun a b => absurd a b⟩
        rcases a with a | a <;> simp at a
theorem nwatch_saf {q : CarS × Int} (h : Saf n f s fb q) : Saf n f s fb (nwatch T S q) := by
  unfold nwatch
  split
  · exact ⟨fun a => absurd rfl a, fun a => by rcases a with a | a <;> simp at a, fun _ a => absurd rfl a⟩
  · exact h
def dskip (s : DoorT) : DoorT := if s.1 = 0 then s else (s.1, mor s.2.1, dcnt s.2.2.1, s.2.2.2)
def mskip (s : MotT) : MotT := if s.1 ≠ 0 ∨ s.2.1 ≠ 0 then (s.1, mor s.2.1, s.2.2) else s
theorem dskip_eq {s : DoorT} (h : DOk s) : F55 s = dskip s := by
  have hS : F52 s = true := by rw [door_is, decide_eq_true_eq]; exact h
  unfold F55 dskip
  rw [hS]
  simp only [Bool.not_true, Bool.false_or, cond_eq_ite, beq_iff_eq]
  by_cases h0 : s.1 = 0
  · rw [if_pos h0, if_pos h0]
  · rw [if_neg h0, if_neg h0]
    rcases h with h | h
    · rw [h] at h0; exact absurd rfl h0
    · rw [dcounted_eq h.2.2.1]
      simp only
      rw [dmore_eq h.2.1]
theorem mskip_eq {s : MotT} {n : Int} (h : MOk n s) : F56 s = mskip s := by
  have ht := h.1
  obtain ⟨c, t, f⟩ := s
  simp only at ht
  unfold F56 mskip mor
  simp only [cond_eq_ite, Bool.and_eq_true, Bool.or_eq_true, bne_iff_ne, ne_eq, decide_eq_true_eq]
  rw [wrap_i64_of (x := t + 1) (by omega) (by omega)]
  by_cases h1 : ¬ c = 0 ∨ ¬ t = 0
  · rw [if_pos h1]
    by_cases h2 : t < 1000000
    · rw [if_pos (by omega), show min (t + 1) 1000000 = t + 1 by omega]
    · rw [if_neg (by omega), show min (t + 1) 1000000 = t by omega]
  · rw [if_neg h1, if_neg (by omega)]
def nskip (s : CarS) : CarS := (s.1, dskip s.2.1, mskip s.2.2.1, s.2.2.2)
theorem nskip_NS (h : NS n s) : NS n (nskip s) := by
  refine ⟨h.sd, h.so, ?_, ?_, ?_, h.wc, h.cb, h.sh, h.id, h.fa⟩
  · show DOk (dskip s.2.1)
    unfold dskip
    split
    · exact h.dr
    · rename_i h0
      rcases h.dr with x | x
      · rw [x] at h0; exact absurd rfl h0
      · exact Or.inr ⟨x.1, mor_bd x.2.1.1, dcnt_bd x.2.2.1, x.2.2.2⟩
  · show MOk n (mskip s.2.2.1)
    unfold mskip
    split
    · exact ⟨mor_bd h.mo.1.1, h.mo.2⟩
    · exact h.mo
  · rcases h.ex with x | x
    · left; show dskip s.2.1 = zd; rw [x]; rfl
    · right; show mskip s.2.2.1 = zm; rw [x]; rfl
theorem blind_eq {b : BldT} {car : Int} (hc : 0 ≤ car ∧ car < (b.2.2.2.2.2.2.2.length : Int)) (h : NS n s) (his : F30 (b, s) = true) :
    F32 (b, car, s) = ((nwatch (cT_ (cfgOf b car)) (cS_ (cfgOf b car)) (nskip s, 0)).1, (nwatch (cT_ (cfgOf b car)) (cS_ (cfgOf b car)) (nskip s, 0)).2, 0) := by
  have hic : F25 (b, car, s) = true := by
    unfold F25
    simp only [his, Bool.true_and, Bool.and_eq_true, decide_eq_true_eq]
    exact hc
  unfold F32
  simp only [hic, Bool.not_true, cond_false, h.fa]
  rw [dskip_eq h.dr, mskip_eq h.mo]
  have := watch_eq (cfgOf b car) (nskip s, 0)
  unfold nskip at this ⊢
  rw [← this]
end
end Go.Proofs.YtpbljgpdhllklaaGreatDoor.Sp
end

section
/- The control of a modernised car: the reference's tick is the plain one (own work). -/
namespace Go.Proofs.YtpbljgpdhllklaaGreatDoor.Sp
open Go Sy
set_option linter.unusedVariables false
set_option linter.unusedSimpArgs false
set_option maxRecDepth 10000
theorem rdoor_is (s : DoorT) : F19 s = decide (DOk s) := by
  rw [← door_is]
  unfold F19 F52 F41 F76
  by_cases h : s.1 = 0
  · have e : (s.1 == 0) = true := by simpa using h
    rw [e]; rfl
  · have e : (s.1 == 0) = false := by simpa using h
    rw [e]
    simp only [cond_false]
    have e2 : decide (s.1 > 0) = decide (s.1 ≥ 0) := by
      rw [Bool.eq_iff_iff, decide_eq_true_eq, decide_eq_true_eq]; omega
    rw [e2]
theorem rmore_eq {n : Int} (h : 0 ≤ n ∧ n ≤ 1000000) : F90 n = mor n := by
  unfold F90 mor
  rw [wrap_i64_of (by omega) (by omega)]
theorem rtarget_eq (c t f : Int) (h : 0 ≤ f ∧ f ≤ 100) : F82 (c, t, f) = tgt (c, t, f) := by
  unfold F82 tgt
  simp only [cond_eq_ite, beq_iff_eq]
  rw [wrap_i64_of (x := f + 1) (by omega) (by omega), wrap_i64_of (x := f - 1) (by omega) (by omega)]
theorem rmot_is (n : Int) (s : MotT) (hn : 2 ≤ n ∧ n ≤ 32) : F66 (n, s) = decide (MOk n s) := by
  rw [Bool.eq_iff_iff, decide_eq_true_eq]
  obtain ⟨c, t, f⟩ := s
  unfold F66 F81 MOk
  simp only [cond_eq_ite, beq_iff_eq, Bool.or_eq_true, decide_eq_true_eq]
  by_cases hf : 0 ≤ f ∧ f < n
  · rw [rtarget_eq c t f (by omega)]
    unfold tgt
    simp only
    (repeat' split) <;> simp only [Bool.and_eq_true, decide_eq_true_eq, Bool.false_eq_true, false_iff, beq_iff_eq, ge_iff_le] <;> omega
  · have e1 : (decide (f ≥ 0) && decide (f < n)) = false := by
      rw [Bool.and_eq_false_iff]; simp only [decide_eq_false_iff_not]; omega
    rw [e1]
    (repeat' split) <;> simp only [Bool.false_and, Bool.false_eq_true, false_iff, beq_iff_eq] <;> omega
set_option maxHeartbeats 1000000 in
theorem rdtick_eq (c : CarT) (s : DoorT) (door : Int) (block : Bool) (hs : 1 ≤ s.1 ∧ s.1 ≤ 3) (ht : 0 ≤ s.2.1 ∧ s.2.1 ≤ 1000000) (hi : 0 ≤ s.2.2.1 ∧ s.2.2.1 ≤ 1000000) (hc : 0 ≤ s.2.2.2.2 ∧ s.2.2.2.2 ≤ 1000000) :
    F62 (c, s, door, block, false) = dtick c.2.2.2.2.2.2.1 c.2.2.2.2.2.2.2.1 s door block := by
  have hS : F19 s = true := by
    rw [rdoor_is, decide_eq_true_eq]
    exact Or.inr ⟨hs, ht, hi, hc⟩
  obtain ⟨st, tm, si, nu, cy⟩ := s
  simp only [] at hs ht hi hc hS
  have e : (st == 0) = false := by simp; omega
  have key : ∀ sj, sj = dcnt si → F62 (c, (st, tm, si, nu, cy), door, block, false) =
      bif ((st == (1 : Int)) && (door == (1 : Int))) then ((2, 0, max 1 sj, nu, cy), 0)
      else bif ((st == (3 : Int)) && (door == (2 : Int))) then ((0, 0, 0, false, 0), 0)
      else bif (decide (sj > c.2.2.2.2.2.2.2.1)) then F91 (st, tm, sj, nu, cy)
      else bif (((st == (2 : Int)) && (decide (tm + 1 ≥ c.2.2.2.2.2.2.1))) && (!block)) then ((3, 0, sj, nu, cy), 4)
      else bif ((st == (3 : Int)) && block) then ((1, 0, sj, nu, mor cy), 3)
      else ((st, mor tm, sj, nu, cy), nthT [(0 : Int), 3, 0, 4] st) := by
    intro sj hj
    unfold F62
    simp only [hS, Bool.not_true, cond_false, e, F89, rmore_eq ht, rmore_eq hc, rmore_eq hi, wrap_i64_of (x := tm + 1) (by omega) (by omega)]
    by_cases h0 : si = 0
    · have e0 : decide (si > 0) = false := by simp; omega
      have : sj = si := by rw [hj, h0]; rfl
      rw [e0, this]; rfl
    · have e0 : decide (si > 0) = true := by simp; omega
      have : sj = mor si := by rw [hj]; unfold dcnt; rw [if_neg h0]
      rw [e0, this]; rfl
  rw [key _ rfl]
  unfold dtick
  simp only []
  have hsj := dcnt_bd hi
  generalize dcnt si = sj at hsj
  have hst : st = 1 ∨ st = 2 ∨ st = 3 := by omega
  have n1 : nthT [(0 : Int), 3, 0, 4] 1 = 3 := rfl
  have n2 : nthT [(0 : Int), 3, 0, 4] 2 = 0 := rfl
  have n3 : nthT [(0 : Int), 3, 0, 4] 3 = 4 := rfl
  have mx : max 1 sj = max sj 1 := by omega
  unfold F91 F89
  rw [rmore_eq ht, mx]
  rcases hst with rfl | rfl | rfl
  all_goals simp only [n1, n2, n3, cond_eq_ite, Bool.and_eq_true, beq_iff_eq, decide_eq_true_eq, Bool.not_eq_true', Int.reduceEq, true_and, false_and, if_false, if_true]
  all_goals (cases nu <;> (repeat' split) <;> first | rfl | (exfalso; omega) | (exfalso; simp_all; done))
theorem rdopen_eq (c : CarT) (door : Int) (block : Bool) : F62 (c, zd, door, block, true) = ((1, 0, 0, false, 0), 3) := by
  have hS : F19 zd = true := by rw [rdoor_is]; decide
  unfold F62
  simp only [hS, Bool.not_true, cond_false]
  rfl
theorem later_eq {s : MotT} (h : 0 ≤ s.2.1 ∧ s.2.1 ≤ 1000000) : F83 s = (s.1, mor s.2.1, s.2.2) := by
  obtain ⟨c, t, f⟩ := s
  simp only at h
  unfold F83 mor
  simp only [cond_eq_ite, Bool.and_eq_true, decide_eq_true_eq]
  rw [wrap_i64_of (x := t + 1) (by omega) (by omega)]
  by_cases h2 : t < 1000000
  · rw [if_pos (by omega), show min (t + 1) 1000000 = t + 1 by omega]
  · rw [if_neg (by omega), show min (t + 1) 1000000 = t by omega]
theorem rmtick_eq (n : Int) (s : MotT) (fb : FbT) (hn : 2 ≤ n ∧ n ≤ 32) (hs : MOk n s) (hf : 0 ≤ fb.1 ∧ fb.1 < n) : F59 (n, s, fb, 0) = mtick fb s := by
  have hS : F66 (n, s) = true := by rw [rmot_is n s hn, decide_eq_true_eq]; exact hs
  unfold F59 F81 mtick
  have e1 : (decide (fb.1 ≥ 0) && decide (fb.1 < n)) = true := by simp; omega
  simp only [hS, e1, Bool.not_true, Bool.or_self, cond_false]
  rw [later_eq hs.1]
  have ht := rtarget_eq s.2.2 s.2.2 s.2.2
  by_cases hc : s.1 = 0
  · have e2 : (s.1 != 0) = false := by simpa using hc
    rw [e2, if_neg (by simpa using hc)]
    simp only [cond_false]
    cases fb.2.1 <;> simp [hc]
  · have e2 : (s.1 != 0) = true := by simpa using hc
    have htg : F82 s = tgt s := by
      obtain ⟨c, t, f⟩ := s
      exact rtarget_eq c t f (by have := hs.2; simp only at this hc; omega)
    rw [e2, if_pos hc, htg]
    simp only [cond_true, cond_eq_ite, Bool.and_eq_true, beq_iff_eq, if_true]
theorem rmgo_eq (n w : Int) (fb : FbT) (hn : 2 ≤ n ∧ n ≤ 32) (hf : 0 ≤ fb.1 ∧ fb.1 < n) (hl : fb.2.1 = true) (hw : (w = 1 ∧ fb.1 + 1 < n) ∨ (w = 2 ∧ 0 < fb.1)) : F59 (n, zm, fb, w) = ((w, 0, fb.1), w, false) := by
  have hS : F66 (n, zm) = true := by rw [rmot_is n zm hn, decide_eq_true_eq]; exact ⟨by decide, Or.inl ⟨rfl, rfl⟩⟩
  have hS2 : F66 (n, w, 0, fb.1) = true := by
    rw [rmot_is n (w, 0, fb.1) hn, decide_eq_true_eq]; exact ⟨by show (0 : Int) ≤ 0 ∧ (0 : Int) ≤ 1000000; decide, by simp only; omega⟩
  unfold F59 F81
  have e1 : (decide (fb.1 ≥ 0) && decide (fb.1 < n)) = true := by simp; omega
  have e2 : (w != 0) = true := by rw [bne_iff_ne]; omega
  simp only [hS, hS2, e1, e2, hl, Bool.not_true, Bool.or_self, cond_false, Bool.and_self, cond_true]
  rfl
theorem rpmove_eq (b : BldT) (hl : b.cars.length ≤ maxLen) (z : Int × Int × Int) : F88 (b, z) = F72 (b, z) := by
  unfold F88 F72
  simp only [valid_eq b hl, rvalid_eq b hl]
theorem rend_eq (b : BldT) (car : Int) (q : CarS × Int) : F60 (b, car, q.1, q.2) = ((nwatch (cT_ (cfgOf b car)) (cS_ (cfgOf b car)) q).1, (nwatch (cT_ (cfgOf b car)) (cS_ (cfgOf b car)) q).2, 0) := by
  unfold F60 F84 F85 nwatch
  simp only [cond_eq_ite, Bool.or_eq_true, Bool.and_eq_true, beq_iff_eq, decide_eq_true_eq]
  by_cases h : nlate (cT_ (cfgOf b car)) (cS_ (cfgOf b car)) q.1
  · have h' : ((q.1.2.1.1 = 1 ∨ q.1.2.1.1 = 3) ∧ q.1.2.1.2.1 > (nthT b.2.2.2.2.2.2.2 car).2.2.2.2.2.1) ∨ q.1.2.2.1.2.1 > (nthT b.2.2.2.2.2.2.2 car).2.2.2.2.1 := h
    rw [if_pos h', if_pos h]
  · have h' : ¬ (((q.1.2.1.1 = 1 ∨ q.1.2.1.1 = 3) ∧ q.1.2.1.2.1 > (nthT b.2.2.2.2.2.2.2 car).2.2.2.2.2.1) ∨ q.1.2.2.1.2.1 > (nthT b.2.2.2.2.2.2.2 car).2.2.2.2.1) := h
    rw [if_neg h', if_neg h]
theorem fin_of {T S : Int} {q q' : CarS × Int} (h : q = q') : ((nwatch T S q).1, (nwatch T S q).2, (0 : Int)) = ((nwatch T S q').1, (nwatch T S q').2, (0 : Int)) := by rw [h]
section
variable {b : BldT} {car : Int} {n f : Nat} {s : CarS} {fb : FbT} {hall : Int × Int}
theorem rdec_eq (hB : IsB b) (hlen : b.cars.length ≤ maxLen) (hn : b.1 = n) (hf : f < n) (ef : fb.1 = f) (hl : fb.2.1 = true) (h : NS n s) (hz : s.2.1 = zd) (hm : s.2.2.1 = zm) (wu : W hall.1) (wd : W hall.2) (k : CNP n f (nC b s f hall) (nN b s f hall) (nP b car s f)) :
    F61 (b, car, s, fb, hall) = ((nwatch (cT_ (cfgOf b car)) (cS_ (cfgOf b car)) (ndec (nC b s f hall) (nN b s f hall) (nP b car s f) f s)).1, (nwatch (cT_ (cfgOf b car)) (cS_ (cfgOf b car)) (ndec (nC b s f hall) (nN b s f hall) (nP b car s f) f s)).2, 0) := by
  have hfl := hB.fl
  obtain ⟨sw, dr, mo, c, sh, id, fa⟩ := s
  have hid := h.id
  have wc := h.wc
  simp only at hz hm hid wc
  subst hz hm
  have hgo : ∀ w : Int, (w = 1 ∧ f + 1 < n) ∨ (w = 2 ∧ 0 < f) → F59 (b.1, zm, fb, w) = ((w, 0, (f : Int)), w, false) := fun w hw => by
    rw [rmgo_eq b.1 w fb hfl (by omega) hl (by omega), ef]
  have hch := both_all b.1 sw.1 sw.2 (f : Int) c hall.1 hall.2 wc wu wd
  have h1 : F86 (b.1, sw, (f : Int), c, hall) = nC b (sw, zd, zm, c, sh, id, fa) f hall := hch.1.symm
  have h2 : F87 (b.1, sw, (f : Int), c, hall) = nN b (sw, zd, zm, c, sh, id, fa) f hall := hch.2.symm
  have h3 : F88 (b, car, id, (f : Int)) = nP b car (sw, zd, zm, c, sh, id, fa) f := rpmove_eq b hlen (car, id, (f : Int))
  unfold F61 K61_1 K61_2 K61_3 K61_4
  simp only [ef]
  rw [h1, h2, h3, rdopen_eq, wrap_i64_of (x := id + 1) (by omega) (by omega)]
  generalize nC b (sw, zd, zm, c, sh, id, fa) f hall = C at k ⊢
  generalize nN b (sw, zd, zm, c, sh, id, fa) f hall = N at k ⊢
  generalize nP b car (sw, zd, zm, c, sh, id, fa) f = p at k ⊢
  simp only [cond_eq_ite, beq_iff_eq, bne_iff_ne]
  by_cases c3 : C.1 = 3
  · rw [if_pos c3]
    refine (rend_eq b car (_, _)).trans (fin_of ?_)
    unfold ndec
    rw [if_pos c3]
  · rw [if_neg c3]
    by_cases c1 : C.1 = 1
    · rw [if_pos c1, if_pos c1, c1, hgo 1 (Or.inl ⟨rfl, k.up c1⟩)]
      refine (rend_eq b car (_, _)).trans (fin_of ?_)
      unfold ndec
      rw [if_neg c3, if_pos (Or.inl c1), c1]
    · rw [if_neg c1]
      by_cases c2 : C.1 = 2
      · rw [if_pos c2, c2, hgo 2 (Or.inr ⟨rfl, k.dn c2⟩)]
        refine (rend_eq b car (_, _)).trans (fin_of ?_)
        unfold ndec
        rw [if_neg c3, if_pos (Or.inr c2), c2]
      · rw [if_neg c2]
        by_cases hp : p = 0
        · rw [if_neg (by simpa using hp)]
          refine (rend_eq b car (_, _)).trans (fin_of ?_)
          unfold ndec
          rw [if_neg c3, if_neg (by omega), if_neg (by simpa using hp)]
          rfl
        · rw [if_pos hp, hgo p (by rcases k.p with x | x | x <;> omega)]
          refine (rend_eq b car (_, _)).trans (fin_of ?_)
          unfold ndec
          rw [if_neg c3, if_neg (by omega), if_pos hp]
end
end Go.Proofs.YtpbljgpdhllklaaGreatDoor.Sp
end

section
/- The control of a modernised car: the reference is the program (own work). -/
namespace Go.Proofs.YtpbljgpdhllklaaGreatDoor.Sp
open Go Sy
set_option linter.unusedVariables false
set_option linter.unusedSimpArgs false
set_option maxRecDepth 10000
theorem u64_id {x : Int} (h : 0 ≤ x ∧ x ≤ 4294967296) : IntKind.u64.wrap x = x := wrap_u64_of (by omega) (by omega)
theorem risst_eq (b : BldT) (s : CarS) (hl : b.cars.length ≤ maxLen) (wc : W s.2.2.2.1) : F38 (b, s) = F30 (b, s) := by
  by_cases hB : IsB b
  · have hfl := hB.fl
    obtain ⟨n, hn⟩ := Int.eq_ofNat_of_zero_le (show 0 ≤ b.1 by omega)
    have e : F30 (b, s) = bif (s.2.2.2.2.2.2 && !(zz s)) then false else isB2 n s := by
      unfold F30
      simp only
      rw [valid_of hB hl, door_is, mot_is _ _ hfl, hn]
      unfold isB2
      rw [← z5_iff, ← z3_iff]
      rfl
    have wc' : 0 ≤ s.2.2.2.1 ∧ s.2.2.2.1 < 4294967296 := wc
    have e2 : F38 (b, s) = bif s.2.2.2.2.2.2 then zz s else isB2 n s := by
      unfold F38
      simp only
      rw [rvalid_of hB hl, rdoor_is, rmot_is _ _ hfl, u64_id (x := b.1) (by omega), u64_id (x := s.2.2.2.1) (by omega), hn]
      have hmin : min ((n : Int)).toNat IntKind.u64.bits = min ((n : Int)).toNat IntKind.u32.bits := by
        show min ((n : Int)).toNat 64 = min ((n : Int)).toNat 32
        omega
      rw [hmin]
      unfold isB2
      rw [← z5_iff, ← z3_iff]
      rfl
    rw [e, e2]
    cases hfa : s.2.2.2.2.2.2 with
    | false => rfl
    | true =>
      cases hz : zz s with
      | true =>
        rw [(zz_iff s).1 hz]
        exact (isB2_zf n).symm
      | false => rfl
  · have hv : F50 b ≠ 0 := fun e => hB (valid_b hl e)
    have e1 : (F50 b != 0) = true := by rw [bne_iff_ne]; exact hv
    have e2 : (F23 b != 0) = true := by rw [rvalid_eq b hl, ← valid_eq b hl]; exact e1
    unfold F38 F30
    simp only
    rw [e1, e2]
    rfl
theorem rknown_eq (b : BldT) (car : Int) (s : CarS) (hl : b.cars.length ≤ maxLen) (wc : W s.2.2.2.1) : F57 (b, car, s) = F25 (b, car, s) := by
  unfold F57 F25
  simp only
  rw [risst_eq b s hl wc]
section
variable {b : BldT} {car : Int} {n : Nat} {s : CarS} {fb : FbT} {hall : Int × Int} {press : Int}
theorem rstep_ok (hB : IsB b) (hl : b.cars.length ≤ maxLen) (hn : b.1 = n) (hc : 0 ≤ car ∧ car < (b.2.2.2.2.2.2.2.length : Int)) (h : NS n s) (his : F30 (b, s) = true) (hfb : F26 (b, fb) = true) (wp : W press) (wu : W hall.1) (wd : W hall.2) :
    F36 (b, car, s, fb, press, hall) = ((ntick b car s fb press hall).1, (ntick b car s fb press hall).2, 0) := by
  have hfl := hB.fl
  have hf := isfb_iff.1 hfb
  obtain ⟨f, ef⟩ := Int.eq_ofNat_of_zero_le hf.1
  have hfn : f < n := by omega
  have hic : F57 (b, car, s) = true := by
    rw [rknown_eq b car s hl h.wc]
    unfold F25
    simp only [his, Bool.true_and, Bool.and_eq_true, decide_eq_true_eq]
    exact hc
  have hfb' : F58 (b, fb) = true := hfb
  have hp := npress_NS (n := n) (f := fb.1) (p := press) (s := s) (by omega) wp h
  rw [← hn] at hp
  have hk := (cnp_of (f := f) (s := npress b.1 fb.1 s press) hB hl hn hc hfn hp wu wd).1
  have hmt := rmtick_eq b.1 s.2.2.1 fb hfl (by rw [hn]; exact h.mo) (by omega)
  have u1 := u64_id (x := b.1) (by omega)
  have u2 := u64_id (x := fb.1) (by omega)
  unfold F36
  simp only [hic, hfb', Bool.not_true, Bool.or_self, cond_false, h.fa]
  have hnt : ∀ q, ncore (cD_ (cfgOf b car)) (cH_ (cfgOf b car)) (nC b (npress b.1 fb.1 s press) fb.1 hall) (nN b (npress b.1 fb.1 s press) fb.1 hall) (nP b car (npress b.1 fb.1 s press) fb.1) fb (npress b.1 fb.1 s press) = q →
      ((nwatch (cT_ (cfgOf b car)) (cS_ (cfgOf b car)) q).1, (nwatch (cT_ (cfgOf b car)) (cS_ (cfgOf b car)) q).2, (0 : Int)) = ((ntick b car s fb press hall).1, (ntick b car s fb press hall).2, 0) := by
    intro q hq
    unfold ntick
    rw [hq]
  by_cases h0 : s.2.1.1 = 0
  · have hz : s.2.1 = zd := h.dz (by simpa using h0)
    have e0 : (s.2.1.1 == (0 : Int)) = true := by simpa using h0
    have e1 : (s.2.1.1 != (0 : Int)) = false := by simpa using h0
    have hpz : (npress b.1 fb.1 s press).2.1 = zd := hz
    have hcz : npress b.1 fb.1 s press = (s.1, s.2.1, s.2.2.1, or32 s.2.2.2.1 (and32 press (allm b.1)), s.2.2.2.2) := by
      unfold npress; rw [if_pos h0]
    have hcore0 : ¬ (npress b.1 fb.1 s press).2.1.1 ≠ 0 := by rw [hpz]; simp
    simp only [e0, e1, Bool.true_and, cond_false, cond_true]
    rw [z3_iff]
    unfold K36_19 K36_20 K36_22 K36_23 K36_24 K36_30 K36_31 K36_32
    rw [u1, u2, hmt]
    have hdt := rdtick_eq (cfgOf b car) (1, 0, 0, false, 0) fb.2.2.1 fb.2.2.2 (by decide) (by decide) (by decide) (by decide)
    rw [hdt]
    have hpm : NS n (s.1, s.2.1, zm, or32 s.2.2.2.1 (and32 press (allm b.1)), s.2.2.2.2) := by
      have := hp.moz
      rw [hcz] at this
      exact this
    have hk' : CNP n f (nC b (s.1, s.2.1, zm, or32 s.2.2.2.1 (and32 press (allm b.1)), s.2.2.2.2) f hall) (nN b (s.1, s.2.1, zm, or32 s.2.2.2.1 (and32 press (allm b.1)), s.2.2.2.2) f hall) (nP b car (s.1, s.2.1, zm, or32 s.2.2.2.1 (and32 press (allm b.1)), s.2.2.2.2) f) := by
      have := hk
      rw [hcz] at this
      exact this
    have hcn : ¬ s.2.1.1 ≠ 0 := by simpa using h0
    by_cases hc1 : s.2.2.1 = zm ∧ fb.2.1 = true
    · have hlv := hc1.2
      have z0 : ((!decide (s.2.2.1 = zm)) || !fb.2.1) = false := by simp [hc1]
      rw [z0, cond_false]
      have hflr : ncore (cD_ (cfgOf b car)) (cH_ (cfgOf b car)) (nC b (npress b.1 fb.1 s press) fb.1 hall) (nN b (npress b.1 fb.1 s press) fb.1 hall) (nP b car (npress b.1 fb.1 s press) fb.1) fb (npress b.1 fb.1 s press) = nflr (cD_ (cfgOf b car)) (cH_ (cfgOf b car)) (nC b (npress b.1 fb.1 s press) fb.1 hall) (nN b (npress b.1 fb.1 s press) fb.1 hall) (nP b car (npress b.1 fb.1 s press) fb.1) fb (s.1, s.2.1, zm, or32 s.2.2.2.1 (and32 press (allm b.1)), s.2.2.2.2) := by
        rw [hcz]
        unfold ncore
        rw [if_neg hcn, if_neg (by simp only [hc1.1]; decide), if_pos hlv]
      rw [hc1.1]
      by_cases hd : fb.2.2.1 = 2
      · have z1 : (fb.2.2.1 != (2 : Int)) = false := by simpa using hd
        rw [z1, cond_false]
        refine (rdec_eq (s := (s.1, s.2.1, zm, or32 s.2.2.2.1 (and32 press (allm b.1)), s.2.2.2.2)) hB hl hn hfn ef hlv hpm hz rfl wu wd hk').trans (hnt _ ?_)
        rw [hflr]
        unfold nflr
        rw [if_neg (by simpa using hd), ← ef, hcz]
      · have z1 : (fb.2.2.1 != (2 : Int)) = true := by simpa using hd
        rw [z1, cond_true, show ((1 : Int) == 0) = false from rfl, cond_false]
        have hq : nflr (cD_ (cfgOf b car)) (cH_ (cfgOf b car)) (nC b (npress b.1 fb.1 s press) fb.1 hall) (nN b (npress b.1 fb.1 s press) fb.1 hall) (nP b car (npress b.1 fb.1 s press) fb.1) fb (s.1, s.2.1, zm, or32 s.2.2.2.1 (and32 press (allm b.1)), s.2.2.2.2) = ncyc (cD_ (cfgOf b car)) (cH_ (cfgOf b car)) fb ((s.1.1, mark1 s.1.2), (1, 0, 0, false, 0), zm, or32 s.2.2.2.1 (and32 press (allm b.1)), 0, s.2.2.2.2.2) := by
          unfold nflr
          rw [if_pos hd]
        rw [hq] at hflr
        unfold ncyc at hflr
        simp only at hflr
        rw [ob_eq h.so]
        generalize dtick (cD_ (cfgOf b car)) (cH_ (cfgOf b car)) (1, 0, 0, false, 0) fb.2.2.1 fb.2.2.2 = q at hflr ⊢
        by_cases h2 : q.1.1 = 2
        · have z2 : (q.1.1 == (2 : Int)) = true := by simpa using h2
          have z3 : (q.1.1 == (0 : Int)) = false := by rw [h2]; rfl
          rw [z2, z3, cond_true, cond_false]
          refine (rend_eq b car (_, _)).trans (hnt _ ?_)
          rw [hflr, if_pos h2, if_neg (by omega)]
          rfl
        · have z2 : (q.1.1 == (2 : Int)) = false := by simpa using h2
          rw [z2, cond_false]
          by_cases h3 : q.1.1 = 0
          · have z3 : (q.1.1 == (0 : Int)) = true := by simpa using h3
            rw [z3, cond_true]
            refine (rend_eq b car (_, _)).trans (hnt _ ?_)
            rw [hflr, if_neg h2, if_pos h3]
          · have z3 : (q.1.1 == (0 : Int)) = false := by simpa using h3
            rw [z3, cond_false]
            refine (rend_eq b car (_, _)).trans (hnt _ ?_)
            rw [hflr, if_neg h2, if_neg h3]
    · have z0 : ((!decide (s.2.2.1 = zm)) || !fb.2.1) = true := by
        rw [Bool.or_eq_true, Bool.not_eq_true', Bool.not_eq_true', decide_eq_false_iff_not]
        by_cases z : s.2.2.1 = zm
        · right
          cases hlv : fb.2.1 with
          | true => exact absurd ⟨z, hlv⟩ hc1
          | false => rfl
        · exact Or.inl z
      rw [z0, cond_true]
      by_cases harr : fb.2.1 = true ∧ (s.2.2.1.1 = 0 ∨ fb.1 = tgt s.2.2.1)
      · have hlv := harr.1
        have hmv : (mtick fb s.2.2.1).1 = zm ∧ ((!(mtick fb s.2.2.1).2.2) && (!((s.2.2.1.1 == (0 : Int)) && fb.2.1))) = false := by
          unfold mtick
          by_cases hc0 : s.2.2.1.1 = 0
          · rw [if_neg (by simpa using hc0), if_pos hlv]
            refine ⟨rfl, ?_⟩
            simp [hc0, hlv]
          · rw [if_pos hc0, if_pos ⟨hlv, harr.2.resolve_left hc0⟩]
            exact ⟨rfl, rfl⟩
        rw [hmv.1, hmv.2, cond_false]
        have hflr : ncore (cD_ (cfgOf b car)) (cH_ (cfgOf b car)) (nC b (npress b.1 fb.1 s press) fb.1 hall) (nN b (npress b.1 fb.1 s press) fb.1 hall) (nP b car (npress b.1 fb.1 s press) fb.1) fb (npress b.1 fb.1 s press) = nflr (cD_ (cfgOf b car)) (cH_ (cfgOf b car)) (nC b (npress b.1 fb.1 s press) fb.1 hall) (nN b (npress b.1 fb.1 s press) fb.1 hall) (nP b car (npress b.1 fb.1 s press) fb.1) fb (s.1, s.2.1, zm, or32 s.2.2.2.1 (and32 press (allm b.1)), s.2.2.2.2) := by
          rw [hcz]
          unfold ncore
          rw [if_neg hcn]
          by_cases hc0 : s.2.2.1.1 = 0
          · rw [if_neg (by simpa using hc0), if_pos hlv]
          · rw [if_pos hc0, if_pos ⟨hlv, harr.2.resolve_left hc0⟩]
        by_cases hd : fb.2.2.1 = 2
        · have z1 : (fb.2.2.1 != (2 : Int)) = false := by simpa using hd
          rw [z1, cond_false]
          refine (rdec_eq (s := (s.1, s.2.1, zm, or32 s.2.2.2.1 (and32 press (allm b.1)), s.2.2.2.2)) hB hl hn hfn ef hlv hpm hz rfl wu wd hk').trans (hnt _ ?_)
          rw [hflr]
          unfold nflr
          rw [if_neg (by simpa using hd), ← ef, hcz]
        · have z1 : (fb.2.2.1 != (2 : Int)) = true := by simpa using hd
          rw [z1, cond_true, show ((1 : Int) == 0) = false from rfl, cond_false]
          have hq : nflr (cD_ (cfgOf b car)) (cH_ (cfgOf b car)) (nC b (npress b.1 fb.1 s press) fb.1 hall) (nN b (npress b.1 fb.1 s press) fb.1 hall) (nP b car (npress b.1 fb.1 s press) fb.1) fb (s.1, s.2.1, zm, or32 s.2.2.2.1 (and32 press (allm b.1)), s.2.2.2.2) = ncyc (cD_ (cfgOf b car)) (cH_ (cfgOf b car)) fb ((s.1.1, mark1 s.1.2), (1, 0, 0, false, 0), zm, or32 s.2.2.2.1 (and32 press (allm b.1)), 0, s.2.2.2.2.2) := by
            unfold nflr
            rw [if_pos hd]
          rw [hq] at hflr
          unfold ncyc at hflr
          simp only at hflr
          rw [ob_eq h.so]
          generalize dtick (cD_ (cfgOf b car)) (cH_ (cfgOf b car)) (1, 0, 0, false, 0) fb.2.2.1 fb.2.2.2 = q at hflr ⊢
          by_cases h2 : q.1.1 = 2
          · have z2 : (q.1.1 == (2 : Int)) = true := by simpa using h2
            have z3 : (q.1.1 == (0 : Int)) = false := by rw [h2]; rfl
            rw [z2, z3, cond_true, cond_false]
            refine (rend_eq b car (_, _)).trans (hnt _ ?_)
            rw [hflr, if_pos h2, if_neg (by omega)]
            rfl
          · have z2 : (q.1.1 == (2 : Int)) = false := by simpa using h2
            rw [z2, cond_false]
            by_cases h3 : q.1.1 = 0
            · have z3 : (q.1.1 == (0 : Int)) = true := by simpa using h3
              rw [z3, cond_true]
              refine (rend_eq b car (_, _)).trans (hnt _ ?_)
              rw [hflr, if_neg h2, if_pos h3]
            · have z3 : (q.1.1 == (0 : Int)) = false := by simpa using h3
              rw [z3, cond_false]
              refine (rend_eq b car (_, _)).trans (hnt _ ?_)
              rw [hflr, if_neg h2, if_neg h3]
      · have hmv : ((!(mtick fb s.2.2.1).2.2) && (!((s.2.2.1.1 == (0 : Int)) && fb.2.1))) = true ∧ (mtick fb s.2.2.1).1 = (s.2.2.1.1, mor s.2.2.1.2.1, s.2.2.1.2.2) ∧ (mtick fb s.2.2.1).2.1 = s.2.2.1.1 := by
          unfold mtick
          by_cases hc0 : s.2.2.1.1 = 0
          · have hlv : fb.2.1 = false := by
              cases hlv : fb.2.1 with
              | true => exact absurd ⟨hlv, Or.inl hc0⟩ harr
              | false => rfl
            rw [if_neg (by simpa using hc0), if_neg (by rw [hlv]; simp), hlv]
            exact ⟨by simp, rfl, rfl⟩
          · have hng : ¬ (fb.2.1 = true ∧ fb.1 = tgt s.2.2.1) := fun z => harr ⟨z.1, Or.inr z.2⟩
            have z4 : (s.2.2.1.1 == (0 : Int)) = false := by simpa using hc0
            rw [if_pos hc0, if_neg hng, z4]
            exact ⟨rfl, rfl, rfl⟩
        rw [hmv.1, cond_true, hmv.2.1, hmv.2.2]
        have hcore : ncore (cD_ (cfgOf b car)) (cH_ (cfgOf b car)) (nC b (npress b.1 fb.1 s press) fb.1 hall) (nN b (npress b.1 fb.1 s press) fb.1 hall) (nP b car (npress b.1 fb.1 s press) fb.1) fb (npress b.1 fb.1 s press) = ((s.1, s.2.1, (s.2.2.1.1, mor s.2.2.1.2.1, s.2.2.1.2.2), or32 s.2.2.2.1 (and32 press (allm b.1)), s.2.2.2.2.1, (if s.2.2.1.1 = 0 ∨ s.1.1 ≠ 0 then 0 else s.2.2.2.2.2.1), s.2.2.2.2.2.2), s.2.2.1.1) := by
          rw [hcz]
          unfold ncore
          rw [if_neg hcn]
          by_cases hc0 : s.2.2.1.1 = 0
          · have hlv : ¬ fb.2.1 = true := fun z => harr ⟨z, Or.inl hc0⟩
            rw [if_neg (by simpa using hc0), if_neg hlv, if_pos (Or.inl hc0)]
            simp only [hc0]
          · have hng : ¬ (fb.2.1 = true ∧ fb.1 = tgt s.2.2.1) := fun z => harr ⟨z.1, Or.inr z.2⟩
            rw [if_pos hc0, if_neg hng]
            simp only [hc0, false_or]
        by_cases hi : s.2.2.1.1 = 0 ∨ s.1.1 ≠ 0
        · have z5 : ((s.2.2.1.1 == (0 : Int)) || (s.1.1 != (0 : Int))) = true := by simpa using hi
          rw [z5, cond_true]
          refine (rend_eq b car (_, _)).trans (hnt _ ?_)
          rw [hcore, if_pos hi]
        · have z5 : ((s.2.2.1.1 == (0 : Int)) || (s.1.1 != (0 : Int))) = false := by
            rw [Bool.or_eq_false_iff]; simp; omega
          rw [z5, cond_false]
          refine (rend_eq b car (_, _)).trans (hnt _ ?_)
          rw [hcore, if_neg hi]
  · have e0 : (s.2.1.1 == (0 : Int)) = false := by simpa using h0
    have e1 : (s.2.1.1 != (0 : Int)) = true := by simpa using h0
    have hd := dok_of h.dr h0
    have hdt := rdtick_eq (cfgOf b car) s.2.1 fb.2.2.1 fb.2.2.2 hd.1 hd.2.1 hd.2.2.1 hd.2.2.2
    have hcz : npress b.1 fb.1 s press = (s.1, s.2.1, s.2.2.1, or32 s.2.2.2.1 (nand32 (and32 press (allm b.1)) (shl32 1 fb.1)), s.2.2.2.2) := by
      unfold npress; rw [if_neg h0]
    simp only [e0, e1, Bool.false_and, cond_false, cond_true]
    unfold K36_15 K36_16 K36_17 K36_18
    rw [u1, u2, hdt]
    have hq : ncore (cD_ (cfgOf b car)) (cH_ (cfgOf b car)) (nC b (npress b.1 fb.1 s press) fb.1 hall) (nN b (npress b.1 fb.1 s press) fb.1 hall) (nP b car (npress b.1 fb.1 s press) fb.1) fb (npress b.1 fb.1 s press) = ncyc (cD_ (cfgOf b car)) (cH_ (cfgOf b car)) fb (npress b.1 fb.1 s press) := by
      unfold ncore
      rw [if_pos (by rw [hcz]; exact h0)]
    unfold ncyc at hq
    rw [hcz] at hq
    simp only at hq
    rw [hcz] at hnt
    generalize dtick (cD_ (cfgOf b car)) (cH_ (cfgOf b car)) s.2.1 fb.2.2.1 fb.2.2.2 = q at hq ⊢
    by_cases h2 : q.1.1 = 2
    · have z2 : (q.1.1 == (2 : Int)) = true := by simpa using h2
      have z3 : (q.1.1 == (0 : Int)) = false := by rw [h2]; rfl
      rw [z2, z3, cond_true, cond_false]
      refine (rend_eq b car (_, _)).trans (hnt _ ?_)
      rw [hq, if_pos h2, if_neg (by omega)]
      rfl
    · have z2 : (q.1.1 == (2 : Int)) = false := by simpa using h2
      by_cases h3 : q.1.1 = 0
      · have z3 : (q.1.1 == (0 : Int)) = true := by simpa using h3
        rw [z2, z3, cond_true, cond_false]
        refine (rend_eq b car (_, _)).trans (hnt _ ?_)
        rw [hq, if_neg h2, if_pos h3]
      · have z3 : (q.1.1 == (0 : Int)) = false := by simpa using h3
        rw [z2, z3, cond_false]
        refine (rend_eq b car (_, _)).trans (hnt _ ?_)
        rw [hq, if_neg h2, if_neg h3]
end
end Go.Proofs.YtpbljgpdhllklaaGreatDoor.Sp
end

section
/- The played drive is the plain one (own work). -/
namespace Go.Proofs.YtpbljgpdhllklaaGreatDoor.Sp
open Go Sy
set_option linter.unusedVariables false
set_option linter.unusedSimpArgs false
theorem risstate_eq (fl : Int) (s : RigT) : F33 (fl, s) = decide (IsSt fl s) := by
  rw [Bool.eq_iff_iff, decide_eq_true_iff]
  simp only [F33, F35, IsSt, IntKind.wrap_i64, Bool.cond_eq_ite]
  split <;> (try split) <;> (try split) <;> simp only [Bool.or_eq_true, Bool.and_eq_true, Bool.not_eq_true', Bool.and_eq_false_iff, decide_eq_true_eq, decide_eq_false_iff_not, beq_iff_eq, bne_iff_ne, ne_eq, Bool.false_eq_true, false_iff] at * <;> omega
theorem tup6 {a b c d e f a' b' c' d' e' f' : Int} (h1 : a = a') (h2 : b = b') (h3 : c = c') (h4 : d = d') (h5 : e = e') (h6 : f = f') : (a, b, c, d, e, f) = (a', b', c', d', e', f') := by subst h1 h2 h3 h4 h5 h6; rfl
theorem rarrive_eq (s : RigT) : F34 s = moved s := by
  simp only [F34, moved, Bool.cond_eq_ite, beq_iff_eq]
set_option maxHeartbeats 2000000 in
theorem rstep_eq (fl : Int) (s : RigT) (cmd time : Int) : F16 (fl, s, cmd, time) = stp fl s cmd time := by
  unfold F16 stp
  simp only [risstate_eq]
  by_cases h : IsSt fl s
  · obtain ⟨f, t, l, d, a, n⟩ := s
    have h' := h
    simp only [IsSt] at h'
    simp only [h, decide_true, not_true, if_false, Bool.not_true, cond_false]
    have ct : max 1 (min time 10000) = clampT time := by unfold clampT; omega
    have ct2 : 1 ≤ clampT time ∧ clampT time ≤ 10000 := by unfold clampT; omega
    simp only [ct]
    generalize clampT time = tm at ct2
    simp (disch := omega) only [wrap_i64_of, rarrive_eq, F35]
    by_cases c1 : cmd = 1
    · subst c1
      simp only [Int.reduceBEq, false_or, or_false, not_true_eq_false, and_false, false_and, Bool.false_eq_true, and_true, true_and, cond_true, cond_false, Bool.or_false, Bool.false_or, nextOf, aimOf, doorOf, Bool.cond_eq_ite, Int.reduceEq, if_true, if_false, or_self, Bool.or_eq_true, Bool.and_eq_true, Bool.not_eq_true', Bool.and_eq_false_iff, decide_eq_true_eq, decide_eq_false_iff_not, beq_iff_eq, bne_iff_ne, ne_eq]
      (repeat' split) <;> first | rfl | omega | exact tup6 (by omega) (by omega) (by omega) (by omega) (by omega) (by omega) | exact congrArg moved (tup6 (by omega) (by omega) (by omega) (by omega) (by omega) (by omega))
    by_cases c2 : cmd = 2
    · subst c2
      simp only [Int.reduceBEq, false_or, or_false, not_true_eq_false, and_false, false_and, Bool.false_eq_true, and_true, true_and, cond_true, cond_false, Bool.or_false, Bool.false_or, nextOf, aimOf, doorOf, Bool.cond_eq_ite, Int.reduceEq, if_true, if_false, or_self, Bool.or_eq_true, Bool.and_eq_true, Bool.not_eq_true', Bool.and_eq_false_iff, decide_eq_true_eq, decide_eq_false_iff_not, beq_iff_eq, bne_iff_ne, ne_eq]
      (repeat' split) <;> first | rfl | omega | exact tup6 (by omega) (by omega) (by omega) (by omega) (by omega) (by omega) | exact congrArg moved (tup6 (by omega) (by omega) (by omega) (by omega) (by omega) (by omega))
    by_cases c3 : cmd = 3
    · subst c3
      simp only [Int.reduceBEq, false_or, or_false, not_true_eq_false, and_false, false_and, Bool.false_eq_true, and_true, true_and, cond_true, cond_false, Bool.or_false, Bool.false_or, nextOf, aimOf, doorOf, Bool.cond_eq_ite, Int.reduceEq, if_true, if_false, or_self, Bool.or_eq_true, Bool.and_eq_true, Bool.not_eq_true', Bool.and_eq_false_iff, decide_eq_true_eq, decide_eq_false_iff_not, beq_iff_eq, bne_iff_ne, ne_eq]
      (repeat' split) <;> first | rfl | omega | exact tup6 (by omega) (by omega) (by omega) (by omega) (by omega) (by omega) | exact congrArg moved (tup6 (by omega) (by omega) (by omega) (by omega) (by omega) (by omega))
    by_cases c4 : cmd = 4 ∨ cmd = 5
    · have e1 : (cmd == 1) = false := by simp; omega
      have e2 : (cmd == 2) = false := by simp; omega
      have e3 : (cmd == 3) = false := by simp; omega
      have e4 : ((cmd == 4) || (cmd == 5)) = true := by simp; omega
      simp only [e1, e2, e3, e4, c1, c2, c3, c4, Int.reduceBEq, false_or, or_false, not_true_eq_false, and_false, false_and, Bool.false_eq_true, and_true, true_and, cond_true, cond_false, Bool.or_false, Bool.false_or, nextOf, aimOf, doorOf, Bool.cond_eq_ite, Int.reduceEq, if_true, if_false, or_self, Bool.or_eq_true, Bool.and_eq_true, Bool.not_eq_true', Bool.and_eq_false_iff, decide_eq_true_eq, decide_eq_false_iff_not, beq_iff_eq, bne_iff_ne, ne_eq]
      (repeat' split) <;> first | rfl | omega | exact tup6 (by omega) (by omega) (by omega) (by omega) (by omega) (by omega) | exact congrArg moved (tup6 (by omega) (by omega) (by omega) (by omega) (by omega) (by omega))
    · have e1 : (cmd == 1) = false := by simp; omega
      have e2 : (cmd == 2) = false := by simp; omega
      have e3 : (cmd == 3) = false := by simp; omega
      have e4 : ((cmd == 4) || (cmd == 5)) = false := by simp; omega
      simp only [e1, e2, e3, e4, c1, c2, c3, c4, Int.reduceBEq, false_or, or_false, not_true_eq_false, and_false, false_and, Bool.false_eq_true, and_true, true_and, cond_true, cond_false, Bool.or_false, Bool.false_or, nextOf, aimOf, doorOf, Bool.cond_eq_ite, Int.reduceEq, if_true, if_false, or_self, Bool.or_eq_true, Bool.and_eq_true, Bool.not_eq_true', Bool.and_eq_false_iff, decide_eq_true_eq, decide_eq_false_iff_not, beq_iff_eq, bne_iff_ne, ne_eq]
      (repeat' split) <;> first | rfl | omega | exact tup6 (by omega) (by omega) (by omega) (by omega) (by omega) (by omega) | exact congrArg moved (tup6 (by omega) (by omega) (by omega) (by omega) (by omega) (by omega))
  · simp [h]; rfl
end Go.Proofs.YtpbljgpdhllklaaGreatDoor.Sp
end

section
/- How often a car still turns until it shows a call (own work). -/
namespace Go.Proofs.YtpbljgpdhllklaaGreatDoor.Sp
open Go Sy
set_option linter.unusedVariables false
set_option linter.unusedSimpArgs false
set_option maxRecDepth 10000
def tn (l x t : Int) : Int := if l = x then t + 1 else t
def TIu (n g f dir o : Nat) (last turns : Int) : Prop :=
  0 ≤ last ∧ last ≤ 2 ∧ 0 ≤ turns ∧ turns ≤ 2 ∧
  (((dir = 0 ∨ (f = g ∧ 2 ≤ o % 4)) ∧ last = 0 ∧ turns = 0) ∨
   (¬ (f = g ∧ 2 ≤ o % 4) ∧ dir = 1 ∧ f ≤ g ∧ (turns ≤ 1 ∨ last ≠ 2)) ∨
   (dir = 1 ∧ g < f ∧ turns = 0 ∧ last ≠ 2) ∨
   (¬ (f = g ∧ 2 ≤ o % 4) ∧ dir = 2 ∧ (turns = 0 ∨ (turns = 1 ∧ last ≠ 1))))
def TId (n g f dir o : Nat) (last turns : Int) : Prop :=
  0 ≤ last ∧ last ≤ 2 ∧ 0 ≤ turns ∧ turns ≤ 2 ∧
  (((dir = 0 ∨ (f = g ∧ 4 ≤ o)) ∧ last = 0 ∧ turns = 0) ∨
   (¬ (f = g ∧ 4 ≤ o) ∧ dir = 2 ∧ g ≤ f ∧ (turns ≤ 1 ∨ last ≠ 1)) ∨
   (dir = 2 ∧ f < g ∧ turns = 0 ∧ last ≠ 1) ∨
   (¬ (f = g ∧ 4 ≤ o) ∧ dir = 1 ∧ (turns = 0 ∨ (turns = 1 ∧ last ≠ 2))))
def Trn (hit : Nat → Nat → Prop) (ti : Nat → Nat → Nat → Int → Int → Prop) (f dir o : Nat) (C : Int × Int × Int) (N : Int × Int) : Prop :=
  (C.1 = 3 ∧ ∃ d' o' : Nat, N = ((d' : Int), (o' : Int)) ∧ (hit f d' ∨ ∀ l t, ti f dir o l t → ti f d' o' l t)) ∨
  (C.1 = 1 ∧ ∀ l t, ti f dir o l t → ti (f + 1) 1 0 1 (tn l 2 t)) ∨
  (C.1 = 2 ∧ ∀ l t, ti f dir o l t → ti (f - 1) 2 0 2 (tn l 1 t))
theorem trn_up {n g f dir o : Nat} (hn : 2 ≤ n) (hf : f < n) (hg : g + 1 < n) (hd : dir < 3) (ho : o < 8) (A U D a b l : Bool) (hU : f = g → U = true) (ha : f < g → a = true) (hb : g < f → b = true)
    (ra : a = true → f + 1 < n) (rb : b = true → 0 < f) : Trn (fun f' d' => f' = g ∧ d' = 1) (TIu n g) f dir o (ch dir o A U D a b l) (chN dir o A U D a b l) := by
  unfold Trn
  by_cases hfg : f = g
  · subst hfg
    rw [hU rfl]
    rcases S2u dir hd o ho A D a b l with e | ⟨h1, e, h2, eN⟩ | ⟨h1, h2, e, eN⟩ | ⟨h1, e, h2, eN⟩ | ⟨h1, e, h2, eN⟩
    · left
      have t := T1 dir hd o ho A true D a b l
      rw [e] at t ⊢
      simp only at t
      refine ⟨rfl, ?_⟩
      rcases t with ⟨_, t2, t3, t4⟩ | ⟨t1, _⟩ | ⟨t1, _⟩ | ⟨t1, _⟩
      · exact ⟨1, (chN dir o A true D a b l).2.toNat, Prod.ext t2 (by simp only; omega), Or.inl ⟨rfl, rfl⟩⟩
      · omega
      · omega
      · omega
    · left
      rw [e, eN]
      refine ⟨rfl, 2, o + 4, by simp, Or.inr fun l t h => ?_⟩
      unfold TIu at *; omega
    · left
      rw [e, eN]
      refine ⟨rfl, 2, 4, rfl, Or.inr fun l t h => ?_⟩
      unfold TIu at *; omega
    · right; right
      rw [e]
      have := rb h2
      refine ⟨rfl, fun l t h => ?_⟩
      unfold TIu tn at *; split <;> omega
    · right; left
      rw [e]
      have := ra h2
      refine ⟨rfl, fun l t h => ?_⟩
      unfold TIu tn at *; split <;> omega
  · have hab : (a || b) = true := by
      rcases Nat.lt_or_ge f g with h | h
      · rw [ha h]; rfl
      · rw [hb (by omega), Bool.or_true]
    rcases S1 dir hd o ho A U D a b l hab with ⟨e, h1, h2, eN⟩ | ⟨e, h1, h2, eN⟩ | ⟨e, h1, h2, eN⟩ | ⟨e, h1, h2, eN⟩
    · right; left
      rw [e]
      have := ra h1
      have hb' : ¬ (dir = 2 ∧ g < f) := fun ⟨x, y⟩ => h2 ⟨x, hb y⟩
      refine ⟨rfl, fun l t h => ?_⟩
      unfold TIu tn at *; split <;> omega
    · right; right
      rw [e]
      have := rb h1
      have hb' : ¬ (dir = 1 ∧ f < g) := fun ⟨x, y⟩ => h2 ⟨x, ha y⟩
      refine ⟨rfl, fun l t h => ?_⟩
      unfold TIu tn at *; split <;> omega
    · left
      rw [e, eN]
      have hb' : ¬ (dir = 2 ∧ g < f) := fun ⟨x, y⟩ => h2 ⟨x, hb y⟩
      refine ⟨rfl, 1, o + 2, by simp, Or.inr fun l t h => ?_⟩
      unfold TIu at *; omega
    · left
      rw [e, eN]
      have hb' : ¬ (dir = 1 ∧ f < g) := fun ⟨x, y⟩ => h2 ⟨x, ha y⟩
      refine ⟨rfl, 2, o + 4, by simp, Or.inr fun l t h => ?_⟩
      unfold TIu at *; omega
theorem trn_dn {n g f dir o : Nat} (hn : 2 ≤ n) (hf : f < n) (hg : 0 < g ∧ g < n) (hd : dir < 3) (ho : o < 8) (A U D a b l : Bool) (hD : f = g → D = true) (ha : f < g → a = true) (hb : g < f → b = true)
    (ra : a = true → f + 1 < n) (rb : b = true → 0 < f) : Trn (fun f' d' => f' = g ∧ d' = 2) (TId n g) f dir o (ch dir o A U D a b l) (chN dir o A U D a b l) := by
  unfold Trn
  by_cases hfg : f = g
  · subst hfg
    rw [hD rfl]
    rcases S2d dir hd o ho A U a b l with e | ⟨h1, e, h2, eN⟩ | ⟨h1, h2, e, eN⟩ | ⟨h1, e, h2, eN⟩ | ⟨h1, e, h2, eN⟩
    · left
      have t := T1 dir hd o ho A U true a b l
      rw [e] at t ⊢
      simp only at t
      refine ⟨rfl, ?_⟩
      rcases t with ⟨_, t2, t3, t4⟩ | ⟨t1, _⟩ | ⟨t1, _⟩ | ⟨t1, _⟩
      · exact ⟨2, (chN dir o A U true a b l).2.toNat, Prod.ext t2 (by simp only; omega), Or.inl ⟨rfl, rfl⟩⟩
      · omega
      · omega
      · omega
    · left
      rw [e, eN]
      refine ⟨rfl, 1, o + 2, by simp, Or.inr fun l t h => ?_⟩
      unfold TId at *; omega
    · left
      rw [e, eN]
      refine ⟨rfl, 1, 2, rfl, Or.inr fun l t h => ?_⟩
      unfold TId at *; omega
    · right; left
      rw [e]
      have := ra h2
      refine ⟨rfl, fun l t h => ?_⟩
      unfold TId tn at *; split <;> omega
    · right; right
      rw [e]
      have := rb h2
      refine ⟨rfl, fun l t h => ?_⟩
      unfold TId tn at *; split <;> omega
  · have hab : (a || b) = true := by
      rcases Nat.lt_or_ge f g with h | h
      · rw [ha h]; rfl
      · rw [hb (by omega), Bool.or_true]
    rcases S1 dir hd o ho A U D a b l hab with ⟨e, h1, h2, eN⟩ | ⟨e, h1, h2, eN⟩ | ⟨e, h1, h2, eN⟩ | ⟨e, h1, h2, eN⟩
    · right; left
      rw [e]
      have := ra h1
      have hb' : ¬ (dir = 2 ∧ g < f) := fun ⟨x, y⟩ => h2 ⟨x, hb y⟩
      refine ⟨rfl, fun l t h => ?_⟩
      unfold TId tn at *; split <;> omega
    · right; right
      rw [e]
      have := rb h1
      have hb' : ¬ (dir = 1 ∧ f < g) := fun ⟨x, y⟩ => h2 ⟨x, ha y⟩
      refine ⟨rfl, fun l t h => ?_⟩
      unfold TId tn at *; split <;> omega
    · left
      rw [e, eN]
      have hb' : ¬ (dir = 2 ∧ g < f) := fun ⟨x, y⟩ => h2 ⟨x, hb y⟩
      refine ⟨rfl, 1, o + 2, by simp, Or.inr fun l t h => ?_⟩
      unfold TId at *; omega
    · left
      rw [e, eN]
      have hb' : ¬ (dir = 1 ∧ f < g) := fun ⟨x, y⟩ => h2 ⟨x, ha y⟩
      refine ⟨rfl, 2, o + 4, by simp, Or.inr fun l t h => ?_⟩
      unfold TId at *; omega
end Go.Proofs.YtpbljgpdhllklaaGreatDoor.Sp
end

section
/- A modernised car and its drive: a tick (own work). -/
namespace Go.Proofs.YtpbljgpdhllklaaGreatDoor.Sp
open Go Sy
set_option linter.unusedVariables false
set_option linter.unusedSimpArgs false
abbrev rep (r : RigT) (blk : Bool) : FbT := (r.1, decide (r.2.2.1 = 0), r.2.2.2.1, blk)
def TimOk (T S c t : Int) : Prop := 1 ≤ t ∧ (c = 1 ∨ c = 2 → t ≤ S) ∧ (c ≠ 1 ∧ c ≠ 2 → t ≤ T)
section
variable {n : Nat} {T S ho dw f w t : Int} {s : CarS} {r : RigT} {blk : Bool} {C : Int × Int × Int} {N : Int × Int} {p : Int}
theorem tick_go (hn : 2 ≤ (n : Int) ∧ (n : Int) ≤ 32) (hf : 0 ≤ f ∧ f < n) (hT : 1 ≤ T ∧ T ≤ 10000) (hS : 1 ≤ S ∧ S ≤ 10000) (hH : 1 ≤ ho ∧ ho ≤ 10000) (h : NS n s) (hv : Shp n T S ho f w s.2.1 s.2.2.1 r) (ha : ¬ AtF f s.2.1 s.2.2.1 r)
    (ht : TimOk T S (nwatch T S (ncore dw ho C N p (rep r blk) s)).2 t) :
    Shp n T S ho f (w - 1) (nwatch T S (ncore dw ho C N p (rep r blk) s)).1.2.1 (nwatch T S (ncore dw ho C N p (rep r blk) s)).1.2.2.1 (stp n r (nwatch T S (ncore dw ho C N p (rep r blk) s)).2 t) ∧
    (nwatch T S (ncore dw ho C N p (rep r blk) s)).1.1 = s.1 ∧
    nwatch T S (ncore dw ho C N p (rep r blk) s) = ncore dw ho C N p (rep r blk) s ∧
    ((nwatch T S (ncore dw ho C N p (rep r blk) s)).1.2.2.1.1 = 0 ∨ (nwatch T S (ncore dw ho C N p (rep r blk) s)).1.2.2.1.2.1 ≠ 0) ∧
    (s.2.1.1 ≠ 0 → nwatch T S (ncore dw ho C N p (rep r blk) s) = ncyc dw ho (rep r blk) s ∧ r.1 = f ∧ r.2.2.1 = 0 ∧ 1 ≤ t ∧ t ≤ T) ∧
    (s.2.1.1 = 0 → (nwatch T S (ncore dw ho C N p (rep r blk) s)).1.2.2.2.1 = s.2.2.2.1 ∧ (nwatch T S (ncore dw ho C N p (rep r blk) s)).1.2.1 = zd) := by
  obtain ⟨⟨dir, op⟩, ⟨st, tm, si, nu, cy⟩, ⟨mc, mt, mf⟩, c, sh, id, fa⟩ := s
  have hfa := h.fa
  simp only at hfa hv ha
  subst hfa
  by_cases h0 : st ≠ 0
  · have e : ncore dw ho C N p (rep r blk) ((dir, op), (st, tm, si, nu, cy), (mc, mt, mf), c, sh, id, false) = ncyc dw ho (rep r blk) ((dir, op), (st, tm, si, nu, cy), (mc, mt, mf), c, sh, id, false) := by unfold ncore; rw [if_pos h0]
    have hcm := dtick_cmd dw ho (st, tm, si, nu, cy) r.2.2.2.1 blk
    have hm : (mc, mt, mf) = zm := by
      rcases h.ex with x | x
      · exact absurd (congrArg Prod.fst x) h0
      · exact x
    rw [e] at ht ⊢
    have hnl : ∀ x : 1 ≤ t ∧ t ≤ T, ¬ nlate T S (ncyc dw ho (rep r blk) ((dir, op), (st, tm, si, nu, cy), (mc, mt, mf), c, sh, id, false)).1 := fun x => by
      have k := (shp_cyc (dw := dw) (blk := blk) hn hf hT hH hv h0 x).2.1
      unfold nlate
      intro hh
      rcases hh with hh | hh
      · exact k hh
      · have hh : mt > S := hh
        have : mt = 0 := congrArg (fun z => z.2.1) hm
        omega
    have ht2 : 1 ≤ t ∧ t ≤ T := by
      refine ⟨ht.1, ht.2.2 ?_⟩
      unfold nwatch
      split
      · decide
      · exact hcm
    have k := shp_cyc (dw := dw) (blk := blk) hn hf hT hH hv h0 ht2
    have ew : nwatch T S (ncyc dw ho (rep r blk) ((dir, op), (st, tm, si, nu, cy), (mc, mt, mf), c, sh, id, false)) = ncyc dw ho (rep r blk) ((dir, op), (st, tm, si, nu, cy), (mc, mt, mf), c, sh, id, false) := by
      unfold nwatch; rw [if_neg (hnl ht2)]
    rw [ew]
    exact ⟨k.1, rfl, rfl, Or.inl (congrArg Prod.fst hm), fun _ => ⟨rfl, k.2.2.2.2.1, k.2.2.2.1, ht2⟩, fun x => absurd x h0⟩
  · rcases hv with ⟨a, b, c', e⟩ | ⟨mc', mt', mf', L, a, b, c', e, g, i, j, k, l⟩ | ⟨tm', si', cy', tk, a, b, c', e, g, i, j⟩ | ⟨tm', si', cy', a, b, c', e, g, i, j⟩ | ⟨tm', si', nu', cy', tk, a, b, c', e, g, i, j⟩
    · exact absurd ⟨a, c', Or.inl b⟩ ha
    · have m1 : mc = mc' := congrArg Prod.fst b
      have m2 : mt = mt' := congrArg (fun z => z.2.1) b
      have m3 : mf = mf' := congrArg (fun z => z.2.2) b
      subst m1 m2 m3
      have htg : tgt (mc, mt, mf) = f := by unfold tgt; simp only; split <;> omega
      rcases l with ⟨l1, l2⟩ | ⟨l1, rfl⟩
      · exact absurd ⟨a, l2, Or.inr ⟨by simp only; omega, htg⟩⟩ ha
      · have hmc : mc ≠ 0 := by omega
        have hst : ¬ ((st, tm, si, nu, cy) : DoorT).1 ≠ 0 := h0
        have e1 : ncore dw ho C N p (rep (mf, f, L, 2, 0, 0) blk) ((dir, op), (st, tm, si, nu, cy), (mc, mt, mf), c, sh, id, false)
            = (((dir, op), (st, tm, si, nu, cy), (mc, mor mt, mf), c, sh, (if dir ≠ 0 then 0 else id), false), mc) := by
          unfold ncore
          rw [if_neg hst, if_pos hmc, if_neg]
          intro hh
          have h1 := hh.1
          simp only [decide_eq_true_eq] at h1
          omega
        rw [e1]
        have hz1 : st = 0 := congrArg Prod.fst a
        have ew : nwatch T S (((dir, op), (st, tm, si, nu, cy), (mc, mor mt, mf), c, sh, (if dir ≠ 0 then 0 else id), false), mc) = (((dir, op), (st, tm, si, nu, cy), (mc, mor mt, mf), c, sh, (if dir ≠ 0 then 0 else id), false), mc) := by
          unfold nwatch
          rw [if_neg]
          unfold nlate
          simp only
          rw [mor_lt (by omega)]
          omega
        rw [ew]
        refine ⟨?_, rfl, rfl, Or.inr ?_, fun x => absurd hz1 x, fun _ => ⟨rfl, a⟩⟩
        · refine Or.inr (Or.inl ⟨mc, mor mt, mf, L - 1, a, rfl, c', e, (mor_bd g).1, by omega, by rw [mor_lt (by omega)]; omega, by omega, ?_⟩)
          show (L - 1 = 0 ∧ stp n (mf, f, L, 2, 0, 0) mc t = _) ∨ (1 ≤ L - 1 ∧ stp n (mf, f, L, 2, 0, 0) mc t = _)
          rw [stp_on hn c' (by omega) (by omega)]
          by_cases hL : L = 1
          · rw [if_pos hL]; exact Or.inl ⟨by omega, rfl⟩
          · rw [if_neg hL]; exact Or.inr ⟨by omega, rfl⟩
        · show mor mt ≠ 0
          rw [mor_lt (by omega)]; omega
    · exact absurd (congrArg Prod.fst a) (by show ¬ st = 1; omega)
    · exact absurd (congrArg Prod.fst a) (by show ¬ st = 2; omega)
    · exact absurd (congrArg Prod.fst a) (by show ¬ st = 3; omega)
theorem tick_at (hT : 1 ≤ T) (hS : 1 ≤ S) (h : NS n s) (ha : AtF f s.2.1 s.2.2.1 r) : nwatch T S (ncore dw ho C N p (rep r blk) s) = ndec C N p f (s.1, zd, zm, s.2.2.2) ∧ ncore dw ho C N p (rep r blk) s = ndec C N p f (s.1, zd, zm, s.2.2.2) := by
  obtain ⟨⟨dir, op⟩, ⟨st, tm, si, nu, cy⟩, ⟨mc, mt, mf⟩, c, sh, id, fa⟩ := s
  obtain ⟨a1, rfl, a3⟩ := ha
  simp only at a1 a3
  have a1' : (st, tm, si, nu, cy) = zd := a1
  have hst : ¬ ((st, tm, si, nu, cy) : DoorT).1 ≠ 0 := by rw [a1']; simp
  have e1 : ncore dw ho C N p (rep (f, f, 0, 2, 0, 0) blk) ((dir, op), (st, tm, si, nu, cy), (mc, mt, mf), c, sh, id, fa) = ndec C N p f ((dir, op), zd, zm, c, sh, id, fa) := by
    unfold ncore
    rw [if_neg hst]
    have hfl : nflr dw ho C N p (rep (f, f, 0, 2, 0, 0) blk) ((dir, op), (st, tm, si, nu, cy), zm, c, sh, id, fa) = ndec C N p f ((dir, op), zd, zm, c, sh, id, fa) := by
      unfold nflr
      rw [if_neg (by simp), a1']
    rcases a3 with a3 | ⟨a3, a4⟩
    · have hmc : ¬ ((mc, mt, mf) : MotT).1 ≠ 0 := by
        have : mc = 0 := congrArg Prod.fst a3
        simpa using this
      rw [if_neg hmc, if_pos (by simp)]
      exact hfl
    · have hmc : ((mc, mt, mf) : MotT).1 ≠ 0 := by simp only at a3 ⊢; omega
      rw [if_pos hmc, if_pos ⟨by simp, a4.symm⟩]
      exact hfl
  refine ⟨?_, e1⟩
  rw [e1]
  unfold nwatch
  rw [if_neg]
  unfold nlate ndec
  (repeat' split) <;> simp only <;> omega
theorem at_open (hn : 2 ≤ (n : Int) ∧ (n : Int) ≤ 32) (hf : 0 ≤ f ∧ f < n) (hT : 1 ≤ T ∧ T ≤ 10000) (hH : 1 ≤ ho ∧ ho ≤ 10000) (ht : 1 ≤ t ∧ t ≤ T) :
    Shp n T S ho f (2 * T + ho + 1) (1, 0, 0, false, 0) zm (stp n (f, f, 0, 2, 0, 0) 3 t) ∧ Hit T f T (1, 0, 0, false, 0) (stp n (f, f, 0, 2, 0, 0) 3 t) := by
  have h := rc_open (n := n) (t := t) hn hf (show RC f 0 (f, f, 0, 2, 0, 0) from Or.inl ⟨rfl, rfl⟩) (by omega)
  exact ⟨Or.inr (Or.inr (Or.inl ⟨0, 0, 0, t - 1, rfl, rfl, h, by omega, by omega, by omega, Or.inl ⟨rfl, by omega⟩⟩)), ⟨0, 0, t - 1, rfl, h, by omega, by omega⟩⟩
theorem at_go (hn : 2 ≤ (n : Int) ∧ (n : Int) ≤ 32) (hf : 0 ≤ f ∧ f < n) (hS : 1 ≤ S ∧ S ≤ 10000) {c g : Int} (hg : (c = 1 ∧ g = f + 1 ∧ g < n) ∨ (c = 2 ∧ g = f - 1 ∧ 0 ≤ g)) (ht : 1 ≤ t ∧ t ≤ S) :
    Shp n T S ho g (t - 1) zd (c, 0, f) (stp n (f, f, 0, 2, 0, 0) c t) := by
  rw [stp_go hn hf hg (by omega)]
  refine Or.inr (Or.inl ⟨c, 0, f, t - 1, rfl, rfl, hf, by omega, by omega, by omega, by omega, by omega, ?_⟩)
  by_cases h1 : t = 1
  · rw [if_pos h1]; exact Or.inl ⟨by omega, rfl⟩
  · rw [if_neg h1]; exact Or.inr ⟨by omega, rfl⟩
end
end Go.Proofs.YtpbljgpdhllklaaGreatDoor.Sp
end

section
/- A modernised car, played: a call is served in time, with few turns (own work). -/
namespace Go.Proofs.YtpbljgpdhllklaaGreatDoor.Sp
open Go Sy
set_option linter.unusedVariables false
set_option linter.unusedSimpArgs false
structure KindN (n : Nat) where
  ph : Nat → Nat → Nat → Int
  hit : Nat → Nat → Prop
  ti : Nat → Nat → Nat → Int → Int → Prop
  pres : Int → Int → Int → Prop
  p0 : ∀ f d o, f < n → d < 3 → 0 ≤ ph f d o
  p3 : ∀ f d o, f < n → d < 3 → ph f d o ≤ 3 * n
  tb : Int → Prop
  t2 : ∀ f d o l t, ti f d o l t → tb t
  dec : ∀ (f d o : Nat) (u d' c ab be : Int), Ok n f d o c u d' → Sc n f o c u d' ab be → pres u d' c →
    Dec n ph hit f d o (ch d o (bit (cA n c) f) (bit (cU n u) f) (bit (cD n d') f) (decide (0 < ab)) (decide (0 < be)) (decide (be ≥ ab))) (chN d o (bit (cA n c) f) (bit (cU n u) f) (bit (cD n d') f) (decide (0 < ab)) (decide (0 < be)) (decide (be ≥ ab))) ∧
    Trn hit ti f d o (ch d o (bit (cA n c) f) (bit (cU n u) f) (bit (cD n d') f) (decide (0 < ab)) (decide (0 < be)) (decide (be ≥ ab))) (chN d o (bit (cA n c) f) (bit (cU n u) f) (bit (cD n d') f) (decide (0 < ab)) (decide (0 < be)) (decide (be ≥ ab)))
def Qn (ph : Nat → Nat → Nat → Int) (T S ho : Int) (f d o : Nat) : Int := ph f d o * (3 * (2 * T + ho + 3) + S + 2) + opn o * (2 * T + ho + 3)
theorem Qn_nn {n : Nat} (k : KindN n) {T S ho : Int} (hT : 1 ≤ T) (hS : 1 ≤ S) (hH : 1 ≤ ho) {f d o : Nat} (hf : f < n) (hd : d < 3) : 0 ≤ Qn k.ph T S ho f d o :=
  Int.add_nonneg (Int.mul_nonneg (k.p0 f d o hf hd) (by omega)) (Int.mul_nonneg (opn_bd o).1 (by omega))
theorem Qn_max {n : Nat} (k : KindN n) {T S ho : Int} (hT : 1 ≤ T) (hS : 1 ≤ S) (hH : 1 ≤ ho) {f d o : Nat} (hf : f < n) (hd : d < 3) : Qn k.ph T S ho f d o ≤ 3 * (n : Int) * (3 * (2 * T + ho + 3) + S + 2) + 2 * (2 * T + ho + 3) := by
  have h1 := Int.mul_le_mul_of_nonneg_right (k.p3 f d o hf hd) (show 0 ≤ 3 * (2 * T + ho + 3) + S + 2 by omega)
  have h2 := Int.mul_le_mul_of_nonneg_right (opn_bd o).2 (show 0 ≤ 2 * T + ho + 3 by omega)
  unfold Qn
  omega
def trn1 (m : MotT) (l t : Int) : Int × Int := if m.1 ≠ 0 ∧ m.2.1 = 0 then (m.1, if l ≠ 0 ∧ l ≠ m.1 then t + 1 else t) else (l, t)
def VN {n : Nat} (k : KindN n) (T S ho : Int) (s : CarS) (r : RigT) (v : Int) (lt : Int × Int) : Prop :=
  ∃ f d o : Nat, f < n ∧ s.1 = ((d : Int), (o : Int)) ∧ d < 3 ∧ o < 8 ∧ (0 ≤ lt.1 ∧ lt.1 ≤ 2) ∧ k.tb lt.2 ∧
    ((∃ w, Shp n T S ho f w s.2.1 s.2.2.1 r ∧ k.ti f d o lt.1 lt.2 ∧ w + Qn k.ph T S ho f d o ≤ v) ∨
     (∃ w d' : Nat, Shp n T S ho f w s.2.1 s.2.2.1 r ∧ k.hit f d' ∧ s.2.2.2.2.1 = (d' : Int) ∧ Hit T f v s.2.1 r))
theorem VN.pos {n : Nat} {k : KindN n} {T S ho : Int} {s : CarS} {r : RigT} {v : Int} {lt : Int × Int} (h : VN k T S ho s r v lt) (hT : 1 ≤ T) (hS : 1 ≤ S) (hH : 1 ≤ ho) : 0 ≤ v := by
  obtain ⟨f, d, o, h1, h2, h3, h4, h5, h6, h | h⟩ := h
  · obtain ⟨w, a, b, c⟩ := h
    have := a.nn hT hH
    have := Qn_nn k (o := o) hT hS hH h1 h3
    omega
  · obtain ⟨w, d', a, b, c, e⟩ := h
    obtain ⟨tm, cy, tk, x, y, z, u⟩ := e
    omega
theorem AtF.z {f : Int} {d : DoorT} {m : MotT} {r : RigT} (h : AtF f d m r) : d = zd := h.1
theorem tn_eq {l t : Int} {x y : Int} (hl : 0 ≤ l ∧ l ≤ 2) (hxy : (x = 1 ∧ y = 2) ∨ (x = 2 ∧ y = 1)) : (if l ≠ 0 ∧ l ≠ x then t + 1 else t) = tn l y t := by
  unfold tn
  split <;> split <;> omega
section
variable {n : Nat} {T S ho dw t v : Int} {s : CarS} {r : RigT} {blk : Bool} {C : Int × Int × Int} {N : Int × Int} {p : Int} {lt : Int × Int}
theorem vn_tick (k : KindN n) (hn : 2 ≤ (n : Int) ∧ (n : Int) ≤ 32) (hT : 1 ≤ T ∧ T ≤ 10000) (hS : 1 ≤ S ∧ S ≤ 10000) (hH : 1 ≤ ho ∧ ho ≤ 10000) (h : NS n s) (hv : VN k T S ho s r v lt)
    (hD : ∀ f d o : Nat, f < n → s.1 = ((d : Int), (o : Int)) → AtF f s.2.1 s.2.2.1 r → Dec n k.ph k.hit f d o C N ∧ Trn k.hit k.ti f d o C N ∧ (C.1 = 3 → N.1 = C.2.2))
    (ht : TimOk T S (nwatch T S (ncore dw ho C N p (rep r blk) s)).2 t) :
    (VN k T S ho (nwatch T S (ncore dw ho C N p (rep r blk) s)).1 (stp n r (nwatch T S (ncore dw ho C N p (rep r blk) s)).2 t) (v - 1) (trn1 (nwatch T S (ncore dw ho C N p (rep r blk) s)).1.2.2.1 lt.1 lt.2) ∨
     ((nwatch T S (ncore dw ho C N p (rep r blk) s)).1.2.1.1 = 2 ∧ r.2.2.2.1 = 1 ∧ r.2.2.1 = 0 ∧ (∃ f d' : Nat, f < n ∧ r.1 = f ∧ (nwatch T S (ncore dw ho C N p (rep r blk) s)).1.2.2.2.2.1 = (d' : Int) ∧ k.hit f d') ∧ trn1 (nwatch T S (ncore dw ho C N p (rep r blk) s)).1.2.2.1 lt.1 lt.2 = lt)) ∧
    k.tb (trn1 (nwatch T S (ncore dw ho C N p (rep r blk) s)).1.2.2.1 lt.1 lt.2).2 ∧ (nwatch T S (ncore dw ho C N p (rep r blk) s)) = ncore dw ho C N p (rep r blk) s := by
  obtain ⟨f, d, o, h1, h2, h3, h4, h5, h6, hv⟩ := hv
  have hf : 0 ≤ (f : Int) ∧ (f : Int) < n := by omega
  by_cases ha : AtF f s.2.1 s.2.2.1 r
  · have hat := tick_at (dw := dw) (T := T) (ho := ho) (blk := blk) (C := C) (N := N) (p := p) hT.1 hS.1 h ha
    obtain ⟨D, Tr, hN⟩ := hD f d o h1 h2 ha
    rw [hat.1] at ht ⊢
    rw [hat.2]
    obtain ⟨hz, rfl, _⟩ := ha
    obtain ⟨w, hw, hti, hq⟩ : ∃ w, Shp n T S ho f w s.2.1 s.2.2.1 (f, f, 0, 2, 0, 0) ∧ k.ti f d o lt.1 lt.2 ∧ w + Qn k.ph T S ho f d o ≤ v := by
      rcases hv with hv | ⟨w, d', a, b, c, tm, cy, tk, x, y, z, u⟩
      · exact hv
      · rw [hz] at x
        exact absurd (congrArg Prod.fst x) (by simp)
    have hw0 := hw.nn hT.1 hH.1
    have hQ : Qn k.ph T S ho f d o ≤ v := by omega
    have ob := opn_bd o
    have pp := k.p0 f d o h1 h3
    have e3 : C.1 = 3 → ndec C N p f (s.1, zd, zm, s.2.2.2) = ((N, (1, 0, 0, false, 0), zm, s.2.2.2.1, C.2.2, 0, s.2.2.2.2.2.2), 3) := fun e => by unfold ndec; rw [if_pos e]
    have e1 : C.1 = 1 ∨ C.1 = 2 → ndec C N p f (s.1, zd, zm, s.2.2.2) = ((N, zd, (C.1, 0, (f : Int)), s.2.2.2.1, s.2.2.2.2.1, 0, s.2.2.2.2.2.2), C.1) := fun e => by unfold ndec; rw [if_neg (by omega), if_pos e]
    have tz : trn1 zm lt.1 lt.2 = lt := by unfold trn1; simp
    rcases D with ⟨c1, ⟨d1, o1, eN, hd1, ho1, hh⟩, q2⟩ | ⟨c1, d1, o1, eN, hd1, ho1, hh⟩ | ⟨c1, eN, hr, hh⟩ | ⟨c1, eN, hr, hh⟩
    · rw [e3 c1] at ht ⊢
      have hsh : C.2.2 = (d1 : Int) := by rw [← hN c1, eN]
      have ht2 : 1 ≤ t ∧ t ≤ T := ⟨ht.1, ht.2.2 (by simp)⟩
      have ho' := at_open (n := n) (S := S) (ho := ho) hn hf hT hH ht2
      have hq' := q_hit (K := 3 * (2 * T + ho + 3) + S + 2) (C := 2 * T + ho + 3) pp ob.1 (by omega) (by omega) q2
      unfold Qn at hQ
      refine ⟨Or.inl ?_, by rw [tz]; exact h6, rfl⟩
      rw [tz]
      refine ⟨f, d1, o1, h1, eN, by omega, ho1, h5, h6, Or.inr ⟨(2 * T + ho + 1).toNat, d1, ho'.1.mono (by omega), hh, hsh, ?_⟩⟩
      obtain ⟨tm, cy, tk, x, y, z, u⟩ := ho'.2
      exact ⟨tm, cy, tk, x, y, z, by omega⟩
    · rw [e3 c1] at ht ⊢
      have hsh : C.2.2 = (d1 : Int) := by rw [← hN c1, eN]
      have ht2 : 1 ≤ t ∧ t ≤ T := ⟨ht.1, ht.2.2 (by simp)⟩
      have ho' := at_open (n := n) (S := S) (ho := ho) hn hf hT hH ht2
      have hq' := q_open (K := 3 * (2 * T + ho + 3) + S + 2) (C := 2 * T + ho + 3) ob.1 (opn_bd o1).2 (by omega) (by omega) hh
      have hQ1 := Qn_nn k (o := o1) hT.1 hS.1 hH.1 h1 (show d1 < 3 by omega)
      unfold Qn at hQ hQ1
      refine ⟨Or.inl ?_, by rw [tz]; exact h6, rfl⟩
      rw [tz]
      refine ⟨f, d1, o1, h1, eN, by omega, ho1, h5, h6, ?_⟩
      rcases Tr with ⟨_, d2, o2, eN2, hx⟩ | ⟨c2, _⟩ | ⟨c2, _⟩
      · have hdo : d2 = d1 ∧ o2 = o1 := by
          rw [eN] at eN2
          have e1 := congrArg Prod.fst eN2
          have e2 := congrArg Prod.snd eN2
          simp only at e1 e2
          omega
        obtain ⟨rfl, rfl⟩ := hdo
        rcases hx with hx | hx
        · refine Or.inr ⟨(2 * T + ho + 1).toNat, d2, ho'.1.mono (by omega), hx, hsh, ?_⟩
          obtain ⟨tm, cy, tk, x, y, z, u⟩ := ho'.2
          exact ⟨tm, cy, tk, x, y, z, by omega⟩
        · refine Or.inl ⟨2 * T + ho + 1, ho'.1, hx _ _ hti, ?_⟩
          unfold Qn
          omega
      · omega
      · omega
    · rw [e1 (Or.inl c1), c1] at ht ⊢
      have ht2 : 1 ≤ t ∧ t ≤ S := ⟨ht.1, ht.2.1 (by simp)⟩
      have hg := at_go (n := n) (T := T) (ho := ho) (t := t) (c := 1) (g := ((f + 1 : Nat) : Int)) hn hf hS (by omega) ht2
      have et : trn1 (1, 0, (f : Int)) lt.1 lt.2 = (1, tn lt.1 2 lt.2) := by
        unfold trn1
        rw [if_pos ⟨by simp, rfl⟩, tn_eq h5 (Or.inl ⟨rfl, rfl⟩)]
      have hq' := q_move (K := 3 * (2 * T + ho + 3) + S + 2) (C := 2 * T + ho + 3) (S := S) ob.1 (by omega) (by omega) (by omega) hh
      rcases Tr with ⟨c2, _⟩ | ⟨_, hx⟩ | ⟨c2, _⟩
      · omega
      · have hti' := hx _ _ hti
        refine ⟨Or.inl ?_, by rw [et]; exact k.t2 _ _ _ _ _ hti', rfl⟩
        rw [et]
        refine ⟨f + 1, 1, 0, hr, eN, by omega, by omega, by simp, k.t2 _ _ _ _ _ hti', Or.inl ⟨t - 1, hg, hti', ?_⟩⟩
        unfold Qn at hQ ⊢
        have o0 : opn 0 = 2 := rfl
        rw [o0]; omega
      · omega
    · rw [e1 (Or.inr c1), c1] at ht ⊢
      have ht2 : 1 ≤ t ∧ t ≤ S := ⟨ht.1, ht.2.1 (by simp)⟩
      have hg := at_go (n := n) (T := T) (ho := ho) (t := t) (c := 2) (g := ((f - 1 : Nat) : Int)) hn hf hS (by omega) ht2
      have et : trn1 (2, 0, (f : Int)) lt.1 lt.2 = (2, tn lt.1 1 lt.2) := by
        unfold trn1
        rw [if_pos ⟨by simp, rfl⟩, tn_eq h5 (Or.inr ⟨rfl, rfl⟩)]
      have hq' := q_move (K := 3 * (2 * T + ho + 3) + S + 2) (C := 2 * T + ho + 3) (S := S) ob.1 (by omega) (by omega) (by omega) hh
      rcases Tr with ⟨c2, _⟩ | ⟨c2, _⟩ | ⟨_, hx⟩
      · omega
      · omega
      · have hti' := hx _ _ hti
        refine ⟨Or.inl ?_, by rw [et]; exact k.t2 _ _ _ _ _ hti', rfl⟩
        rw [et]
        refine ⟨f - 1, 2, 0, by omega, eN, by omega, by omega, by simp, k.t2 _ _ _ _ _ hti', Or.inl ⟨t - 1, hg, hti', ?_⟩⟩
        unfold Qn at hQ ⊢
        have o0 : opn 0 = 2 := rfl
        rw [o0]; omega
  · have hsh : ∃ w, Shp n T S ho f w s.2.1 s.2.2.1 r := by
      rcases hv with ⟨w, a, _⟩ | ⟨w, _, a, _⟩
      · exact ⟨w, a⟩
      · exact ⟨_, a⟩
    have ez := fun w (hw : Shp n T S ho f w s.2.1 s.2.2.1 r) => tick_go (dw := dw) (C := C) (N := N) (p := p) (blk := blk) hn hf hT hS hH h hw ha ht
    have et : trn1 (nwatch T S (ncore dw ho C N p (rep r blk) s)).1.2.2.1 lt.1 lt.2 = lt := by
      obtain ⟨w, hw⟩ := hsh
      have := (ez w hw).2.2.2.1
      unfold trn1
      rw [if_neg (by omega)]
    rw [et]
    have ew : nwatch T S (ncore dw ho C N p (rep r blk) s) = ncore dw ho C N p (rep r blk) s := by
      obtain ⟨w, hw⟩ := hsh
      exact (ez w hw).2.2.1
    refine ⟨?_, h6, ew⟩
    rcases hv with ⟨w, a, b, c⟩ | ⟨w, d', a, b, c, e⟩
    · left
      have z := ez w a
      refine ⟨f, d, o, h1, z.2.1.trans h2, h3, h4, h5, h6, Or.inl ⟨w - 1, z.1, b, by omega⟩⟩
    · have z := ez w a
      obtain ⟨tm, cy, tk, x, y, zz, u⟩ := e
      have h0 : s.2.1.1 ≠ 0 := by rw [x]; simp
      obtain ⟨zc, zf, zl, ht2⟩ := z.2.2.2.2.1 h0
      have hh := hit_cyc (dw := dw) (blk := blk) hn hf hH (show Hit T f v s.2.1 r from ⟨tm, cy, tk, x, y, zz, u⟩) (t := t) (by omega)
      have hst : (dtick dw ho s.2.1 r.2.2.2.1 blk).1.1 ≠ 0 := by
        rcases hh with ⟨hh, _⟩ | ⟨_, _, _, hh, _⟩ <;> rw [hh] <;> simp
      have es : (ncyc dw ho (rep r blk) s).1.2.2.2.2.1 = s.2.2.2.2.1 := by
        unfold ncyc
        simp only
        rw [if_neg hst]
      rcases hh with ⟨hh, hd⟩ | hh
      · right
        refine ⟨?_, hd, zl, ⟨f, d', h1, zf, ?_, b⟩, rfl⟩
        · rw [zc]; exact hh
        · rw [zc, es]; exact c
      · left
        have z1 := z.1
        refine ⟨f, d, o, h1, z.2.1.trans h2, h3, h4, h5, h6, Or.inr ⟨w, d', z1.mono (by omega), b, ?_, ?_⟩⟩
        · rw [zc, es]; exact c
        · rw [zc]; exact hh
end
end Go.Proofs.YtpbljgpdhllklaaGreatDoor.Sp
end

section
/- A modernised car and its drive, played: what always holds (own work). -/
namespace Go.Proofs.YtpbljgpdhllklaaGreatDoor.Sp
open Go Sy
set_option linter.unusedVariables false
set_option linter.unusedSimpArgs false
set_option maxRecDepth 10000
def wmax (T S ho : Int) : Int := 2 * T + ho + 1 + S
def SI (n : Nat) (T S ho : Int) (s : CarS) (r : RigT) : Prop := NS n s ∧ ∃ f : Nat, ∃ w : Int, f < n ∧ Shp n T S ho f w s.2.1 s.2.2.1 r ∧ w ≤ wmax T S ho
section
variable {n f : Nat} {T S ho dw t w : Int} {s : CarS} {r : RigT} {blk : Bool} {C : Int × Int × Int} {N : Int × Int} {p : Int}
theorem shp_fb (hf : f < n) (h : Shp n T S ho f w s.2.1 s.2.2.1 r) : (0 ≤ r.1 ∧ r.1 < n) ∧ 0 ≤ r.2.2.2.1 ∧ r.2.2.2.1 ≤ 2 := by
  rcases h with ⟨a, b, rfl, e⟩ | ⟨mc, mt, mf, L, a, b, c, e, g, i, j, k, ⟨l, rfl⟩ | ⟨l, rfl⟩⟩ | ⟨tm, si, cy, tk, a, b, c, e, g, i, j⟩ | ⟨tm, si, cy, a, b, rfl, e, g, i, j⟩ | ⟨tm, si, nu, cy, tk, a, b, c, e, g, i, j⟩
  · simp only; omega
  · simp only; omega
  · simp only; omega
  · have := c.at; have := c.door; omega
  · simp only; omega
  · have := c.at; have := c.door; omega
theorem at_all (hn : 2 ≤ (n : Int) ∧ (n : Int) ≤ 32) (hf : f < n) (hT : 1 ≤ T ∧ T ≤ 10000) (hS : 1 ≤ S ∧ S ≤ 10000) (hH : 1 ≤ ho ∧ ho ≤ 10000) (k : CNP n f C N p) (ht : TimOk T S (ndec C N p f s).2 t) (hz : s.2.1 = zd) (hm : s.2.2.1 = zm) :
    ∃ f' : Nat, ∃ w' : Int, f' < n ∧ Shp n T S ho f' w' (ndec C N p f s).1.2.1 (ndec C N p f s).1.2.2.1 (stp n ((f : Int), (f : Int), 0, 2, 0, 0) (ndec C N p f s).2 t) ∧ w' ≤ wmax T S ho := by
  have hf' : 0 ≤ (f : Int) ∧ (f : Int) < n := by omega
  unfold wmax
  unfold ndec at ht ⊢
  by_cases c3 : C.1 = 3
  · rw [if_pos c3] at ht ⊢
    exact ⟨f, _, hf, (at_open (n := n) (S := S) (ho := ho) hn hf' hT hH ⟨ht.1, ht.2.2 (by simp)⟩).1, by omega⟩
  · rw [if_neg c3] at ht ⊢
    have go : ∀ c : Int, (c = 1 ∧ f + 1 < n) ∨ (c = 2 ∧ 0 < f) → t ≤ S → ∃ f' : Nat, ∃ w' : Int, f' < n ∧ Shp n T S ho f' w' zd (c, 0, (f : Int)) (stp n ((f : Int), (f : Int), 0, 2, 0, 0) c t) ∧ w' ≤ 2 * T + ho + 1 + S := by
      intro c hc hts
      rcases hc with ⟨rfl, hc⟩ | ⟨rfl, hc⟩
      · exact ⟨f + 1, t - 1, hc, at_go (g := ((f + 1 : Nat) : Int)) hn hf' hS (by omega) ⟨ht.1, hts⟩, by omega⟩
      · exact ⟨f - 1, t - 1, by omega, at_go (g := ((f - 1 : Nat) : Int)) hn hf' hS (by omega) ⟨ht.1, hts⟩, by omega⟩
    by_cases c1 : C.1 = 1 ∨ C.1 = 2
    · rw [if_pos c1] at ht ⊢
      simp only
      rw [hz]
      exact go C.1 (c1.imp (fun z => ⟨z, k.up z⟩) (fun z => ⟨z, k.dn z⟩)) (ht.2.1 c1)
    · rw [if_neg c1] at ht ⊢
      by_cases hp : p ≠ 0
      · rw [if_pos hp] at ht ⊢
        simp only
        rw [hz]
        exact go p (by rcases k.p with x | x | x <;> omega) (ht.2.1 (by show p = 1 ∨ p = 2; rcases k.p with x | x | x <;> omega))
      · rw [if_neg hp] at ht ⊢
        have t1 : t ≤ T := ht.2.2 (by simp)
        have ht0 := ht.1
        refine ⟨f, 0, hf, Or.inl ⟨hz, rfl, ?_, Int.le_refl _⟩, by omega⟩
        exact stp_none hn hf' (Or.inr rfl) ⟨ht.1, by omega⟩
theorem si_step {b : BldT} {car : Int} {press : Int} {hall : Int × Int} (hB : IsB b) (hl : b.cars.length ≤ maxLen) (hn : b.1 = n) (hc : 0 ≤ car ∧ car < (b.2.2.2.2.2.2.2.length : Int)) (wp : W press) (wu : W hall.1) (wd : W hall.2)
    (h : SI n (cT_ (cfgOf b car)) (cS_ (cfgOf b car)) (cH_ (cfgOf b car)) s r) (ht : TimOk (cT_ (cfgOf b car)) (cS_ (cfgOf b car)) (ntick b car s (rep r blk) press hall).2 t) :
    SI n (cT_ (cfgOf b car)) (cS_ (cfgOf b car)) (cH_ (cfgOf b car)) (ntick b car s (rep r blk) press hall).1 (stp n r (ntick b car s (rep r blk) press hall).2 t) := by
  have hfl := hB.fl
  have htm := car_times hB hc.1 hc.2
  obtain ⟨hN, f, w, hf, hv, hw⟩ := h
  have hfb := shp_fb hf hv
  have hN' := ntick_NS (fb := rep r blk) (press := press) (hall := hall) hB hl hn hc hN (by show 0 ≤ r.1 ∧ r.1 < b.1; omega) wp wu wd
  have hp := npress_NS (n := n) (f := r.1) (p := press) (s := s) (by omega) wp hN
  rw [← hn] at hp
  have key : (∃ f' : Nat, ∃ w' : Int, f' < n ∧ Shp n (cT_ (cfgOf b car)) (cS_ (cfgOf b car)) (cH_ (cfgOf b car)) f' w' (ntick b car s (rep r blk) press hall).1.2.1 (ntick b car s (rep r blk) press hall).1.2.2.1 (stp n r (ntick b car s (rep r blk) press hall).2 t) ∧ w' ≤ wmax (cT_ (cfgOf b car)) (cS_ (cfgOf b car)) (cH_ (cfgOf b car))) ∧ (ntick b car s (rep r blk) press hall).1.2.2.2.2.2.2 = false := by
    by_cases ha : AtF f s.2.1 s.2.2.1 r
    · have e := (tick_at (dw := cD_ (cfgOf b car)) (T := cT_ (cfgOf b car)) (S := cS_ (cfgOf b car)) (ho := cH_ (cfgOf b car)) (blk := blk) (s := npress b.1 r.1 s press) (C := nC b (npress b.1 r.1 s press) r.1 hall) (N := nN b (npress b.1 r.1 s press) r.1 hall) (p := nP b car (npress b.1 r.1 s press) r.1) htm.2.1.1 htm.1.1 hp ha).1
      have hk := (cnp_of (f := f) (s := npress b.1 r.1 s press) hB hl hn hc hf hp wu wd).1
      have er : r.1 = (f : Int) := by rw [ha.2.1]
      have et : ntick b car s (rep r blk) press hall = ndec (nC b (npress b.1 r.1 s press) r.1 hall) (nN b (npress b.1 r.1 s press) r.1 hall) (nP b car (npress b.1 r.1 s press) r.1) f ((npress b.1 r.1 s press).1, zd, zm, (npress b.1 r.1 s press).2.2.2) := e
      rw [et] at ht ⊢
      rw [er] at ht ⊢
      rw [er] at hk
      have hr := ha.2.1
      rw [hr]
      refine ⟨at_all (by omega) hf htm.2.1 htm.1 htm.2.2.2 hk ht rfl rfl, ?_⟩
      have hfa : ((npress b.1 (f : Int) s press).1, zd, zm, (npress b.1 (f : Int) s press).2.2.2).2.2.2.2.2.2 = false := hN.fa
      unfold ndec
      repeat' split
      all_goals exact hN.fa
    · have z := tick_go (dw := cD_ (cfgOf b car)) (T := cT_ (cfgOf b car)) (S := cS_ (cfgOf b car)) (ho := cH_ (cfgOf b car)) (blk := blk) (s := npress b.1 r.1 s press) (C := nC b (npress b.1 r.1 s press) r.1 hall) (N := nN b (npress b.1 r.1 s press) r.1 hall) (p := nP b car (npress b.1 r.1 s press) r.1) (t := t) (f := (f : Int)) (w := w) (by omega) (by omega) htm.2.1 htm.1 htm.2.2.2 hp hv ha ht
      refine ⟨⟨f, w - 1, hf, z.1, by omega⟩, ?_⟩
      have hfc := (ncore_NS (dw := cD_ (cfgOf b car)) (ho := cH_ (cfgOf b car)) (f := r.1.toNat) (fb := rep r blk) (s := npress b.1 r.1 s press) (by omega) (by omega) (by show r.1 = _; omega) (cnp_of (f := r.1.toNat) (s := npress b.1 r.1 s press) (hall := hall) hB hl hn hc (by omega) hp wu wd).1 hp).fa
      have er : (r.1.toNat : Int) = r.1 := by omega
      rw [er] at hfc
      have e3 := z.2.2.1
      show (nwatch _ _ _).1.2.2.2.2.2.2 = false
      rw [e3]
      exact hfc
  refine ⟨?_, key.1⟩
  rcases hN' with x | x
  · rw [x] at key
    exact absurd key.2 (by simp)
  · exact x.1
end
end Go.Proofs.YtpbljgpdhllklaaGreatDoor.Sp
end

section
/- NewcarSteps and NewcarRaw: the program is the reference, for arbitrary states (own work). -/
namespace Go.Proofs.YtpbljgpdhllklaaGreatDoor.Sp
open Go Sy
set_option linter.unusedVariables false
set_option linter.unusedSimpArgs false
set_option maxRecDepth 10000
theorem nat_of {b : BldT} (hB : IsB b) : ∃ n : Nat, b.1 = n := ⟨b.1.toNat, by have := hB.fl; omega⟩
theorem iscar_iff {b : BldT} {car : Int} {s : CarS} : F25 (b, car, s) = true ↔ F30 (b, s) = true ∧ 0 ≤ car ∧ car < (b.2.2.2.2.2.2.2.length : Int) := by
  unfold F25
  simp only [Bool.and_eq_true, decide_eq_true_eq, ge_iff_le, and_assoc]
theorem istB {b : BldT} {s : CarS} (hl : b.cars.length ≤ maxLen) (wc : W s.2.2.2.1) (h : F30 (b, s) = true) : IsB b ∧ True := by
  by_cases hB : IsB b
  · exact ⟨hB, trivial⟩
  · have hv : F50 b ≠ 0 := fun e => hB (valid_b hl e)
    have e1 : (F50 b != 0) = true := by rw [bne_iff_ne]; exact hv
    unfold F30 at h
    simp only at h
    rw [e1, Bool.true_or, cond_true] at h
    cases h
theorem step_all (b : BldT) (hl : b.cars.length ≤ maxLen) (car : Int) (s : CarS) (fb : FbT) (press : Int) (hall : Int × Int) (wc : W s.2.2.2.1) (wp : W press) (wu : W hall.1) (wd : W hall.2) :
    F36 (b, car, s, fb, press, hall) = F13 (b, car, s, fb, press, hall) ∧ ((F13 (b, car, s, fb, press, hall)).2.2 = 0 → F30 (b, (F13 (b, car, s, fb, press, hall)).1) = true ∧ W (F13 (b, car, s, fb, press, hall)).1.2.2.2.1) := by
  have hk := rknown_eq b car s hl wc
  have hfe : F58 (b, fb) = F26 (b, fb) := rfl
  cases h1 : F25 (b, car, s) with
  | false =>
    unfold F36 F13
    simp only [hk, h1, Bool.not_false, Bool.true_or, cond_true]
    refine ⟨trivial, fun e => ?_⟩
    exact absurd e (by decide)
  | true =>
    obtain ⟨his, hc⟩ := iscar_iff.1 h1
    cases h2 : F26 (b, fb) with
    | false =>
      unfold F36 F13
      simp only [hk, hfe, h1, h2, Bool.not_false, Bool.or_true, cond_true]
      refine ⟨trivial, fun e => ?_⟩
      exact absurd e (by decide)
    | true =>
      cases hfa : s.2.2.2.2.2.2 with
      | true =>
        unfold F36 F13
        simp only [hk, hfe, h1, h2, hfa, Bool.not_true, Bool.or_self, cond_false, cond_true]
        exact ⟨trivial, fun _ => ⟨his, wc⟩⟩
      | false =>
        have hv := istB hl wc his
        obtain ⟨hB, hs⟩ := hv
        obtain ⟨n, hn⟩ := nat_of hB
        have hs := ((isst_iff hl hn wc).1 his).2
        have hN : NS n s := hs.resolve_left (fun e => by rw [e] at hfa; cases hfa)
        have hf := isfb_iff.1 h2
        rw [rstep_ok hB hl hn hc hN his h2 wp wu wd, tick_eq hB hl hn hc hN his h2 wp wu wd]
        refine ⟨rfl, fun _ => ?_⟩
        have hq := ntick_NS (fb := fb) hB hl hn hc hN ⟨hf.1, hf.2.1⟩ wp wu wd
        rcases hq with hq | hq
        · rw [hq]
          exact ⟨(isst_iff hl hn W.zero).2 ⟨hB, Or.inl rfl⟩, W.zero⟩
        · exact ⟨(isst_iff hl hn hq.1.wc).2 ⟨hB, Or.inr hq.1⟩, hq.1.wc⟩
theorem lskip_eq {s : MotT} {n : Int} (h : MOk n s) : F64 s = mskip s := by
  unfold F64 mskip
  rw [later_eq h.1]
  simp only [cond_eq_ite, Bool.or_eq_true, bne_iff_ne, ne_eq]
theorem rdskip_eq {s : DoorT} (h : DOk s) : F63 s = dskip s := by
  have hS : F19 s = true := by rw [rdoor_is, decide_eq_true_eq]; exact h
  unfold F63 dskip
  rw [hS]
  simp only [Bool.not_true, Bool.false_or, cond_eq_ite, beq_iff_eq, decide_eq_true_eq]
  by_cases h0 : s.1 = 0
  · rw [if_pos h0, if_pos h0]
  · rw [if_neg h0, if_neg h0]
    rcases h with h | h
    · rw [h] at h0; exact absurd rfl h0
    · rw [rmore_eq h.2.1, rmore_eq h.2.2.1]
      unfold dcnt
      by_cases h1 : s.2.2.1 = 0
      · rw [if_neg (by omega), if_pos h1, ← h1]
      · rw [if_pos (by omega), if_neg h1]
theorem blind_all (b : BldT) (hl : b.cars.length ≤ maxLen) (car : Int) (s : CarS) (wc : W s.2.2.2.1) :
    F37 (b, car, s) = F32 (b, car, s) ∧ ((F32 (b, car, s)).2.2 = 0 → F30 (b, (F32 (b, car, s)).1) = true ∧ W (F32 (b, car, s)).1.2.2.2.1) := by
  have hk := rknown_eq b car s hl wc
  cases h1 : F25 (b, car, s) with
  | false =>
    unfold F37 F32
    simp only [hk, h1, Bool.not_false, cond_true]
    refine ⟨trivial, fun e => ?_⟩
    exact absurd e (by decide)
  | true =>
    obtain ⟨his, hc⟩ := iscar_iff.1 h1
    cases hfa : s.2.2.2.2.2.2 with
    | true =>
      unfold F37 F32
      simp only [hk, h1, hfa, Bool.not_true, cond_false, cond_true]
      exact ⟨trivial, fun _ => ⟨his, wc⟩⟩
    | false =>
      obtain ⟨hB, _⟩ := istB hl wc his
      obtain ⟨n, hn⟩ := nat_of hB
      have hs := ((isst_iff hl hn wc).1 his).2
      have hN : NS n s := hs.resolve_left (fun e => by rw [e] at hfa; cases hfa)
      rw [blind_eq hc hN his]
      constructor
      · unfold F37
        simp only [hk, h1, hfa, Bool.not_true, cond_false]
        rw [rdskip_eq hN.dr, lskip_eq hN.mo]
        exact rend_eq b car (nskip s, 0)
      · intro _
        have hq := nskip_NS hN
        unfold nwatch
        split
        · exact ⟨(isst_iff hl hn W.zero).2 ⟨hB, Or.inl rfl⟩, W.zero⟩
        · exact ⟨(isst_iff hl hn hq.wc).2 ⟨hB, Or.inr hq⟩, hq.wc⟩
theorem shows_all (b : BldT) (hl : b.cars.length ≤ maxLen) (s : CarS) (fb : FbT) (wc : W s.2.2.2.1) : F39 (b, s, fb) = F14 (b, s, fb) := by
  unfold F39 F14
  simp only
  rw [risst_eq b s hl wc]
  cases his : F30 (b, s) with
  | false => simp only [Bool.not_false, Bool.true_or, cond_true]
  | true =>
    obtain ⟨hB, _⟩ := istB hl wc his
    obtain ⟨n, hn⟩ := nat_of hB
    have hfl := hB.fl
    have hs := ((isst_iff hl hn wc).1 his).2
    simp only [Bool.not_true, Bool.false_or]
    cases hg : (((s.2.1.1 != (2 : Int)) || (!fb.2.1)) || (fb.2.2.1 != (1 : Int))) with
    | true => simp only [Bool.true_or, cond_true]
    | false =>
      simp only [Bool.false_or, cond_false]
      have hN : NS n s := hs.resolve_left (fun e => by
        rw [e] at hg
        simp at hg)
      have hsh := hN.sh
      generalize s.2.2.2.2.1 = d at hsh ⊢
      generalize fb.1 = fl
      unfold F67 F42 F31 F54 F78 F9
      simp only
      rw [rvalid_of hB hl, hn, wrap_i64_of (x := (n : Int) - 1) (by omega) (by omega), wrap_i64_of (x := (n : Int) - 2) (by omega) (by omega)]
      have hd : d = 0 ∨ d = 1 ∨ d = 2 := by omega
      by_cases hfl2 : 0 ≤ fl ∧ fl < n
      · rw [u64_id (x := fl) (by omega)]
        rcases hd with rfl | rfl | rfl
        all_goals
          simp only [cond_eq_ite, Bool.and_eq_true, Bool.or_eq_true, Bool.not_eq_true', Bool.or_eq_false_iff, Bool.and_eq_false_iff, decide_eq_true_eq, decide_eq_false_iff_not, beq_iff_eq, bne_iff_ne, beq_eq_false_iff_ne, ne_eq, Int.reduceEq, not_true_eq_false, not_false_eq_true, true_and, false_and, true_or, or_true, false_or, or_false, and_true, and_false, if_false, if_true]
          (repeat' split) <;> first | rfl | (exfalso; omega)
      · rcases hd with rfl | rfl | rfl
        all_goals
          simp only [cond_eq_ite, Bool.and_eq_true, Bool.or_eq_true, Bool.not_eq_true', Bool.or_eq_false_iff, Bool.and_eq_false_iff, decide_eq_true_eq, decide_eq_false_iff_not, beq_iff_eq, bne_iff_ne, beq_eq_false_iff_ne, ne_eq, Int.reduceEq, not_true_eq_false, not_false_eq_true, true_and, false_and, true_or, or_true, false_or, or_false, and_true, and_false, if_false, if_true]
          (repeat' split) <;> first | rfl | (exfalso; omega)
theorem still_all (b : BldT) (hl : b.cars.length ≤ maxLen) (s : CarS) (fb : FbT) (wc : W s.2.2.2.1) : F40 (b, s, fb) = F18 (b, s, fb) := by
  unfold F40 F18
  simp only
  rw [risst_eq b s hl wc]
theorem same_true (b : BldT) (hl : b.cars.length ≤ maxLen) (car : Int) (s : CarS) (fb : FbT) (press : Int) (hall : Int × Int) (wc : W s.2.2.2.1) (wp : W press) (wu : W hall.1) (wd : W hall.2) : F17 (b, car, s, fb, press, hall) = true := by
  have h1 := step_all b hl car s fb press hall wc wp wu wd
  have h2 := blind_all b hl car s wc
  have w1 : ((F13 (b, car, s, fb, press, hall)).2.2 = 0 → F38 (b, (F13 (b, car, s, fb, press, hall)).1) = true) := fun e => by
    rw [risst_eq b _ hl (h1.2 e).2]; exact (h1.2 e).1
  have w2 : ((F32 (b, car, s)).2.2 = 0 → F38 (b, (F32 (b, car, s)).1) = true) := fun e => by
    rw [risst_eq b _ hl (h2.2 e).2]; exact (h2.2 e).1
  unfold F17
  simp only
  rw [h1.1, h2.1, risst_eq b s hl wc, shows_all b hl s fb wc, still_all b hl s fb wc]
  generalize F13 (b, car, s, fb, press, hall) = q at w1 ⊢
  generalize F32 (b, car, s) = r at w2 ⊢
  have e1 : ((q.2.2 == (0 : Int)) && (!(F38 (b, q.1)))) = false := by
    by_cases z : q.2.2 = 0
    · rw [w1 z]; simp
    · simp [z]
  have e2 : ((r.2.2 == (0 : Int)) && (!(F38 (b, r.1)))) = false := by
    by_cases z : r.2.2 = 0
    · rw [w2 z]; simp
    · simp [z]
  rw [e1, e2]
  simp only [beq_self_eq_true, bne_self_eq_false, Bool.and_self, Bool.not_true, Bool.or_self, cond_false]
theorem u8_of {x : Int} (h : (Lit.int .u8 x).wf = true) : 0 ≤ x ∧ x ≤ 255 := by
  simp only [Lit.wf, Bool.and_eq_true, decide_eq_true_eq] at h
  exact h
theorem law_b {m : Int × Int} (h : (0 ≤ m.1 ∧ m.1 ≤ 255) ∧ 0 ≤ m.2 ∧ m.2 ≤ 255) : ∃ n : Nat, (F7 m).1 = n ∧ 2 ≤ n ∧ n ≤ 6 ∧ IsB (F7 m) ∧ (F7 m).2.2.2.2.2.2.2.length ≤ maxLen ∧ 0 < ((F7 m).2.2.2.2.2.2.2.length : Int) := by
  have hB := b15 h
  have hf := hB.1.fl
  have hc := hB.1.cn
  have hl := b15_len h
  exact ⟨(F7 m).1.toNat, by omega, by omega, by omega, hB.1, Nat.le_trans hl (by decide), by have : 1 ≤ (F7 m).2.2.2.2.2.2.2.length := hc.1; omega⟩
theorem nsane : F15 () = true := by kernel_rfl
theorem law_raw (x : ct5.p.den) (h : InR ct5.p x) : ct5.F x = true := by
  obtain ⟨m, s, t⟩ := x
  have hm : (0 ≤ m.1 ∧ m.1 ≤ 255) ∧ 0 ≤ m.2 ∧ m.2 ≤ 255 := ⟨u8_of h.1.1, u8_of h.1.2⟩
  obtain ⟨n, hn, hn2, hn6, hB, hl, hp⟩ := law_b (m := m) hm
  have wc : W s.2.2.2.1 := W_of h.2.1.2.2.2.1
  have wp : W t.2.1 := W_of h.2.2.2.1
  have wu : W t.2.2.1 := W_of h.2.2.2.2.1
  have wd : W t.2.2.2 := W_of h.2.2.2.2.2
  have key : ∀ (b : BldT) (hl : b.cars.length ≤ maxLen) (s : CarS) (wc : W s.2.2.2.1) (fb : FbT), F17 (b, 0, s, fb, t.2) = true := fun b hl s wc fb => same_true b hl 0 s fb t.2.1 t.2.2 wc wp wu wd
  show F5 (m, s, t) = true
  have k1 : K5_1 (m, s, t) = true := key _ hl _ (W_and s.2.2.2.1 (allm (IntKind.u64.wrap (F7 m).1))) _
  have k2 : K5_2 (m, s, t) = true := key _ hl _ (W_and s.2.2.2.1 (allm (IntKind.u64.wrap (F7 m).1))) _
  have k5 : K5_5 (m, s, t) = true := key _ hl _ (W_and s.2.2.2.1 (allm (IntKind.u64.wrap (F7 m).1))) _
  have k3 : K5_3 (m, s, t) = true := key _ hl _ W.zero _
  have k4 : K5_4 (m, s, t) = true := key (0, 0, 0, 0, 0, 0, 0, []) (Nat.zero_le _) _ W.zero _
  unfold F5
  have k0 : F17 (F7 m, 0, s, t) = true := key _ hl s wc t.1
  simp only
  rw [nsane, k1, k2, k3, k4, k5, k0, key _ hl s wc]
  simp
end Go.Proofs.YtpbljgpdhllklaaGreatDoor.Sp
end

section
/- The states that a law makes of numbers, with their drives; NewcarSteps (own work). -/
namespace Go.Proofs.YtpbljgpdhllklaaGreatDoor.Sp
open Go Sy
set_option linter.unusedVariables false
set_option linter.unusedSimpArgs false
set_option maxRecDepth 10000
theorem zero_NS (n : Nat) : NS n ((0, 0), zd, zm, 0, 0, 0, false) := ⟨by show (0 : Int) ≤ 0 ∧ (0 : Int) ≤ 2; decide, by show (0 : Int) ≤ 0 ∧ (0 : Int) ≤ 7; decide, Or.inl rfl, MOk.z n, Or.inl rfl, W.zero, (fun i h => by rw [bit_zero] at h; cases h), by show (0 : Int) ≤ 0 ∧ (0 : Int) ≤ 2; decide, by show (0 : Int) ≤ 0 ∧ (0 : Int) ≤ 1000000; decide, rfl⟩
theorem report_eq (r : RigT) (blk : Bool) : F12 (r, blk) = rep r blk := rfl
theorem rep_fb {b : BldT} {n : Nat} {T S ho : Int} {s : CarS} {r : RigT} (hn : b.1 = n) (h : SI n T S ho s r) (blk : Bool) : F26 (b, rep r blk) = true := by
  obtain ⟨_, f, w, hf, hv, _⟩ := h
  have := shp_fb hf hv
  refine isfb_iff.2 ?_
  show 0 ≤ r.1 ∧ r.1 < b.1 ∧ 0 ≤ r.2.2.2.1 ∧ r.2.2.2.1 ≤ 2
  omega
theorem si_tick {b : BldT} {n : Nat} {s : CarS} {r : RigT} {car press : Int} {hall : Int × Int} {T S ho : Int} (hB : IsB b) (hl : b.cars.length ≤ maxLen) (hn : b.1 = n) (hc : 0 ≤ car ∧ car < (b.2.2.2.2.2.2.2.length : Int)) (wp : W press) (wu : W hall.1) (wd : W hall.2)
    (h : SI n T S ho s r) (blk : Bool) : F13 (b, car, s, rep r blk, press, hall) = ((ntick b car s (rep r blk) press hall).1, (ntick b car s (rep r blk) press hall).2, 0) :=
  tick_eq hB hl hn hc h.1 ((isst_iff hl hn h.1.wc).2 ⟨hB, Or.inr h.1⟩) (rep_fb hn h blk) wp wu wd
theorem new_SI {n : Nat} {T S ho f : Int} (hT : 1 ≤ T) (hS : 1 ≤ S) (hH : 1 ≤ ho) (hf : 0 ≤ f ∧ f < n) : SI n T S ho ((0, 0), zd, zm, 0, 0, 0, false) (f, f, 0, 2, 0, 0) := by
  obtain ⟨g, rfl⟩ := Int.eq_ofNat_of_zero_le hf.1
  refine ⟨zero_NS n, g, 0, by omega, Or.inl ⟨rfl, rfl, rfl, Int.le_refl _⟩, ?_⟩
  unfold wmax; omega
theorem state_SI {b : BldT} {n : Nat} (l : List Int) (h8 : ∀ y ∈ l, 0 ≤ y ∧ y ≤ 255) (hB : IsB b) (hl : b.cars.length ≤ maxLen) (hn : b.1 = n) (hp : 0 < (b.2.2.2.2.2.2.2.length : Int)) :
    SI n (cT_ (cfgOf b 0)) (cS_ (cfgOf b 0)) (cH_ (cfgOf b 0)) (F8 (b, 0, l)).1 (F8 (b, 0, l)).2 := by
  have hfl := hB.fl
  have htm := car_times hB (i := 0) (by decide) hp
  have hc : (0 : Int) ≤ 0 ∧ (0 : Int) < (b.2.2.2.2.2.2.2.length : Int) := ⟨Int.le_refl _, hp⟩
  have key : ∀ r0 : RigT, SI n (cT_ (cfgOf b 0)) (cS_ (cfgOf b 0)) (cH_ (cfgOf b 0)) ((0, 0), zd, zm, 0, 0, 0, false) r0 →
      SI n (cT_ (cfgOf b 0)) (cS_ (cfgOf b 0)) (cH_ (cfgOf b 0)) (G8_6 (0, l, min (cS_ (cfgOf b 0)) (cT_ (cfgOf b 0)), b) (0, ((0, 0), zd, zm, 0, 0, 0, false), r0)).2.1 (G8_6 (0, l, min (cS_ (cfgOf b 0)) (cT_ (cfgOf b 0)), b) (0, ((0, 0), zd, zm, 0, 0, 0, false), r0)).2.2 := by
    intro r0 h0
    unfold G8_6
    refine loop_spec (ρ := CarS × RigT) (step := st8_6) (k := (0, l, min (cS_ (cfgOf b 0)) (cT_ (cfgOf b 0)), b)) (fun y => 0 ≤ y.1 ∧ SI n (cT_ (cfgOf b 0)) (cS_ (cfgOf b 0)) (cH_ (cfgOf b 0)) y.2.1 y.2.2) (mu8_6 (0, l, min (cS_ (cfgOf b 0)) (cT_ (cfgOf b 0)), b)) (fun _ y => SI n (cT_ (cfgOf b 0)) (cS_ (cfgOf b 0)) (cH_ (cfgOf b 0)) y.2.1 y.2.2) (fun y hy => ?_) _ _ ⟨Int.le_refl _, h0⟩ (Nat.lt_succ_self _)
    unfold st8_6
    cases hcnd : (decide (y.1 < (l.length : Int))) && (decide (y.1 < (120 : Int))) with
    | false => rw [cond_false]; exact hy.2
    | true =>
      rw [cond_true]
      simp only [Bool.and_eq_true, decide_eq_true_eq] at hcnd
      have hy1 := hy.1
      rw [wrap_i64_of (x := y.1 + 1) (by omega) (by omega)]
      have hmu : mu8_6 (0, l, min (cS_ (cfgOf b 0)) (cT_ (cfgOf b 0)), b) (y.1 + 1, y.2) < mu8_6 (0, l, min (cS_ (cfgOf b 0)) (cT_ (cfgOf b 0)), b) y := by
        unfold mu8_6; simp only; omega
      have he := h8 (nthT l y.1) (by rw [nthT_of l y.1 hy1 hcnd.1]; exact List.getElem_mem _)
      obtain ⟨p, u, d, t, bk, w1, w2, w3, ht, e⟩ : ∃ (p u d t : Int) (bk : Bool), W p ∧ W u ∧ W d ∧ (1 ≤ t ∧ t ≤ min (cS_ (cfgOf b 0)) (cT_ (cfgOf b 0))) ∧ K8_6_1 (0, l, min (cS_ (cfgOf b 0)) (cT_ (cfgOf b 0)), b) y = F22 (b, 0, y.2.1, y.2.2, p, (u, d), t, bk) := by
        refine ⟨_, _, _, _, _, W_wrap _, W_wrap _, W_wrap _, ?_, rfl⟩
        have a1 : 0 ≤ Int.tmod (nthT l y.1) 3 ∧ Int.tmod (nthT l y.1) 3 < 3 := ⟨Int.tmod_nonneg _ he.1, Int.tmod_lt_of_pos _ (by omega)⟩
        have hm1 : 1 ≤ min (cS_ (cfgOf b 0)) (cT_ (cfgOf b 0)) ∧ min (cS_ (cfgOf b 0)) (cT_ (cfgOf b 0)) ≤ 10000 := by
          have := htm.1; have := htm.2.1
          show 1 ≤ min (nthT b.2.2.2.2.2.2.2 0).2.2.2.2.1 (nthT b.2.2.2.2.2.2.2 0).2.2.2.2.2.1 ∧ min (nthT b.2.2.2.2.2.2.2 0).2.2.2.2.1 (nthT b.2.2.2.2.2.2.2 0).2.2.2.2.2.1 ≤ 10000
          omega
        simp only
        generalize min (cS_ (cfgOf b 0)) (cT_ (cfgOf b 0)) = mo at hm1
        rw [wrap_i64_of (x := Int.tmod (nthT l y.1) 3) (by omega) (by omega)]
        have a2 : 0 ≤ Int.tmod (Int.tmod (nthT l y.1) 3) mo ∧ Int.tmod (Int.tmod (nthT l y.1) 3) mo < mo := ⟨Int.tmod_nonneg _ a1.1, Int.tmod_lt_of_pos _ (by omega)⟩
        rw [wrap_i64_of (by omega) (by omega)]
        omega
      rw [e]
      have hst := si_tick (car := 0) (press := p) (hall := (u, d)) hB hl hn hc w1 w2 w3 hy.2 bk
      have hr := (step_all b hl 0 y.2.1 (rep y.2.2 bk) p (u, d) hy.2.1.wc w1 w2 w3).1
      unfold F22
      simp only [report_eq]
      rw [hr, hst]
      have hns := si_step (car := 0) (press := p) (hall := (u, d)) (t := t) (blk := bk) hB hl hn hc w1 w2 w3 hy.2 ⟨ht.1, fun _ => by omega, fun _ => by omega⟩
      rw [rstep_eq b.1, hn]
      cases F33 ((n : Int), y.2.2) with
      | false =>
        exact ⟨⟨by omega, hy.2⟩, hmu⟩
      | true =>
        exact ⟨⟨by omega, hns⟩, hmu⟩
  unfold F8 K8_1 K8_2
  simp only
  cases hlen : decide ((l.length : Int) > 0) with
  | false =>
    rw [cond_false]
    exact key _ (new_SI htm.2.1.1 htm.1.1 htm.2.2.2.1 (by omega))
  | true =>
    rw [cond_true]
    rw [decide_eq_true_eq] at hlen
    have he := h8 (nthT l 0) (by rw [nthT_of l 0 (Int.le_refl _) hlen]; exact List.getElem_mem _)
    refine key _ (new_SI htm.2.1.1 htm.1.1 htm.2.2.2.1 ?_)
    rw [wrap_i64_of (x := nthT l 0) (by omega) (by omega), hn]
    exact ⟨Int.tmod_nonneg _ he.1, Int.tmod_lt_of_pos _ (by omega)⟩
theorem law_steps (x : ct4.p.den) (h : InR ct4.p x) : ct4.F x = true := by
  obtain ⟨m, l, t⟩ := x
  have hm : (0 ≤ m.1 ∧ m.1 ≤ 255) ∧ 0 ≤ m.2 ∧ m.2 ≤ 255 := ⟨u8_of h.1.1, u8_of h.1.2⟩
  obtain ⟨n, hn, hn2, hn6, hB, hl, hp⟩ := law_b (m := m) hm
  have wp : W t.2.1 := W_of h.2.2.2.1
  have wu : W t.2.2.1 := W_of h.2.2.2.2.1
  have wd : W t.2.2.2 := W_of h.2.2.2.2.2
  have hs := state_SI l (fun y hy => u8_of (h.2.1.2 y hy)) hB hl hn hp
  show F4 (m, l, t) = true
  unfold F4
  simp only
  generalize F7 m = b at *
  have key : ∀ (s : CarS) (f1 f2 f3 : FbT), W s.2.2.2.1 → R4_8 ((f1, t.2), b, s, (f2, t.2), (f3, t.2)) (-1) = none := fun s f1 f2 f3 wc => ret_none (fun _ => True) (fun x _ => by
    unfold st4_8
    simp only
    have hsm : ∀ q : FbT, F17 (b, x, s, q, t.2) = true := fun q => same_true b hl x s q t.2.1 t.2.2 wc wp wu wd
    rw [hsm f1, hsm f2, hsm f3]
    cases decide (x ≤ (b.2.2.2.2.2.2.2.length : Int)) <;> trivial) _ _ trivial
  rw [key _ _ _ _ hs.1.wc, nsane]
  rfl
end Go.Proofs.YtpbljgpdhllklaaGreatDoor.Sp
end

section
/- NewcarServes: the plain law (own work). -/
namespace Go.Proofs.YtpbljgpdhllklaaGreatDoor.Sp
open Go Sy
set_option linter.unusedVariables false
set_option linter.unusedSimpArgs false
set_option maxRecDepth 10000
theorem cS_of {n : Nat} {c u d : Int} {i : Nat} (hi : i < 32) (h : bit (cA n c) i = true ∨ bit (cU n u) i = true ∨ bit (cD n d) i = true) : bit (cS (cA n c) (cU n u) (cD n d)) i = true := by
  rw [bit_cS (W_and _ _) (W_and _ _) (W_and _ _) i hi]
  rcases h with h | h | h <;> simp [h]
def upN (n g : Nat) (hn : n ≤ 32) (hn2 : 2 ≤ n) (hg : g + 1 < n) : KindN n where
  ph := phU n g
  hit := fun f' d' => f' = g ∧ d' = 1
  ti := TIu n g
  pres := fun u _ _ => bit u g = true
  p0 := fun f d o hf hd => by unfold phU; split <;> (try split) <;> (try split) <;> omega
  p3 := fun f d o hf hd => by unfold phU; split <;> (try split) <;> (try split) <;> omega
  tb := fun t => t ≤ 2
  t2 := fun f d o l t h => h.2.2.2.1
  dec := fun f d o u d' c ab be h s hp => by
    have hb : bit (cU n u) g = true := by rw [bit_cU hn h.u, hp]; simpa using hg
    exact ⟨dec_up hn2 h.f hg (by have := h.dir; omega) (by have := h.o; omega) _ _ _ _ _ _ (fun e => e ▸ hb) (fun e => s.up_iff.2 ⟨g, e, cS_of (by omega) (Or.inr (Or.inl hb))⟩) (fun e => s.down_iff.2 ⟨g, e, cS_of (by omega) (Or.inr (Or.inl hb))⟩) (up_room h s) (down_room s),
      trn_up hn2 h.f hg (by have := h.dir; omega) (by have := h.o; omega) _ _ _ _ _ _ (fun e => e ▸ hb) (fun e => s.up_iff.2 ⟨g, e, cS_of (by omega) (Or.inr (Or.inl hb))⟩) (fun e => s.down_iff.2 ⟨g, e, cS_of (by omega) (Or.inr (Or.inl hb))⟩) (up_room h s) (down_room s)⟩
def dnN (n g : Nat) (hn : n ≤ 32) (hn2 : 2 ≤ n) (hg : 0 < g ∧ g < n) : KindN n where
  ph := phD n g
  hit := fun f' d' => f' = g ∧ d' = 2
  ti := TId n g
  pres := fun _ d _ => bit d g = true
  p0 := fun f d o hf hd => by unfold phD; split <;> (try split) <;> (try split) <;> omega
  p3 := fun f d o hf hd => by unfold phD; split <;> (try split) <;> (try split) <;> omega
  tb := fun t => t ≤ 2
  t2 := fun f d o l t h => h.2.2.2.1
  dec := fun f d o u d' c ab be h s hp => by
    have hb : bit (cD n d') g = true := by rw [bit_cD hn h.d, hp]; simpa using hg
    exact ⟨dec_dn hn2 h.f hg (by have := h.dir; omega) (by have := h.o; omega) _ _ _ _ _ _ (fun e => e ▸ hb) (fun e => s.up_iff.2 ⟨g, e, cS_of (by omega) (Or.inr (Or.inr hb))⟩) (fun e => s.down_iff.2 ⟨g, e, cS_of (by omega) (Or.inr (Or.inr hb))⟩) (up_room h s) (down_room s),
      trn_dn hn2 h.f hg (by have := h.dir; omega) (by have := h.o; omega) _ _ _ _ _ _ (fun e => e ▸ hb) (fun e => s.up_iff.2 ⟨g, e, cS_of (by omega) (Or.inr (Or.inr hb))⟩) (fun e => s.down_iff.2 ⟨g, e, cS_of (by omega) (Or.inr (Or.inr hb))⟩) (up_room h s) (down_room s)⟩
theorem hD_of {n : Nat} (k : KindN n) {b : BldT} {car : Int} {s : CarS} {r : RigT} {hall : Int × Int} (hB : IsB b) (hl : b.cars.length ≤ maxLen) (hn : b.1 = n) (hc : 0 ≤ car ∧ car < (b.2.2.2.2.2.2.2.length : Int)) (h : NS n s) (wu : W hall.1) (wd : W hall.2) (hp : k.pres hall.1 hall.2 s.2.2.2.1) :
    ∀ f d o : Nat, f < n → s.1 = ((d : Int), (o : Int)) → AtF f s.2.1 s.2.2.1 r → Dec n k.ph k.hit f d o (nC b s r.1 hall) (nN b s r.1 hall) ∧ Trn k.hit k.ti f d o (nC b s r.1 hall) (nN b s r.1 hall) ∧ ((nC b s r.1 hall).1 = 3 → (nN b s r.1 hall).1 = (nC b s r.1 hall).2.2) := by
  intro f d o hf hs ha
  have hfl := hB.fl
  have er : r.1 = (f : Int) := by rw [ha.2.1]
  have hcp := (cnp_of (f := f) hB hl hn hc hf h wu wd).2
  rw [er]
  refine ⟨?_, ?_, hcp⟩
  all_goals
    have a1 := h.sd
    have a2 := h.so
    rw [hs] at a1 a2
    simp only at a1 a2
    have ok : Ok n f (d : Int) (o : Int) s.2.2.2.1 hall.1 hall.2 := ⟨by omega, by omega, hf, a1, a2, h.wc, wu, wd⟩
    obtain ⟨ab, be, sc, e1, e2⟩ := Choose_ch ok
    have hd := k.dec f d o hall.1 hall.2 s.2.2.2.1 ab be ok sc hp
    unfold nC nN
    rw [hn, hs]
    rw [show (((n : Int), ((d : Int), (o : Int)), (f : Int), s.2.2.2.1, hall) : Int × (Int × Int) × Int × Int × Int × Int) = ((n : Int), ((d : Int), (o : Int)), (f : Int), s.2.2.2.1, hall.1, hall.2) from rfl, e1, e2]
  · exact hd.1
  · exact hd.2
theorem shows_val {b : BldT} {n f : Nat} {t : CarS} {r : RigT} {blk : Bool} (hB : IsB b) (hl : b.cars.length ≤ maxLen) (hn : b.1 = n) (h : NS n t) (hf : f < n) (h2 : t.2.1.1 = 2) (hd : r.2.2.2.1 = 1) (hv : r.2.2.1 = 0) (er : r.1 = (f : Int)) :
    F14 (b, t, rep r blk) = if t.2.2.2.2.1 = 1 ∧ f + 1 < n then (shl32 1 (f : Int), 0) else if t.2.2.2.2.1 = 2 ∧ 0 < f then (0, shl32 1 (f : Int)) else (0, 0) := by
  have hfl := hB.fl
  have his : F30 (b, t) = true := (isst_iff hl hn h.wc).2 ⟨hB, Or.inr h⟩
  have hsh := h.sh
  unfold F14
  simp only [his, h2, hd, hv, er]
  unfold F31 F54 F78
  simp only
  rw [hn, wrap_i64_of (x := (n : Int) - 1) (by omega) (by omega)]
  generalize t.2.2.2.2.1 = dd at hsh ⊢
  simp only [bne_self_eq_false, decide_true, Bool.not_true, Bool.or_self, cond_false, cond_eq_ite, Bool.and_eq_true, Bool.or_eq_true, Bool.not_eq_true', Bool.or_eq_false_iff, Bool.and_eq_false_iff, decide_eq_true_eq, decide_eq_false_iff_not, beq_iff_eq, bne_iff_ne, beq_eq_false_iff_ne, ne_eq, Int.reduceEq, not_true_eq_false, not_false_eq_true, true_and, false_and, true_or, or_true, false_or, or_false, and_true, and_false, Bool.false_eq_true, if_false, if_true]
  (repeat' split) <;> first | rfl | (exfalso; omega)
theorem init_VN {n : Nat} (k : KindN n) (hk : ∀ f d o : Nat, d < 3 → k.ti f d o 0 0) {T S ho : Int} {s : CarS} {r : RigT} (hT : 1 ≤ T) (hS : 1 ≤ S) (hH : 1 ≤ ho) (h : SI n T S ho s r) : VN k T S ho s r (wmax T S ho + (3 * (n : Int) * (3 * (2 * T + ho + 3) + S + 2) + 2 * (2 * T + ho + 3))) (0, 0) := by
  obtain ⟨hN, f, w, hf, hv, hw⟩ := h
  have a1 := hN.sd
  have a2 := hN.so
  obtain ⟨d, hd⟩ := Int.eq_ofNat_of_zero_le a1.1
  obtain ⟨o, ho'⟩ := Int.eq_ofNat_of_zero_le a2.1
  have q := Qn_max k (o := o) hT hS hH hf (show d < 3 by omega)
  have ti := hk f d o (by omega)
  exact ⟨f, d, o, hf, Prod.ext hd ho', by omega, by omega, by simp, k.t2 _ _ _ _ _ ti, Or.inl ⟨w, hv, ti, by omega⟩⟩
end Go.Proofs.YtpbljgpdhllklaaGreatDoor.Sp
end

section
/- A modernised car without calls, played (own work). -/
namespace Go.Proofs.YtpbljgpdhllklaaGreatDoor.Sp
open Go Sy
set_option linter.unusedVariables false
set_option linter.unusedSimpArgs false
def pmv (park home id f : Int) : Int := if id < park then 0 else if home > f then 1 else if home < f then 2 else 0
def Fin (home park : Int) (s : CarS) (r : RigT) : Prop := s.2.1 = zd ∧ s.2.2.1 = zm ∧ r = (home, home, 0, 2, 0, 0) ∧ park ≤ s.2.2.2.2.2.1
def dist (f home : Int) : Int := max (f - home) (home - f)
def RB (n : Nat) (T S ho home park : Int) (s : CarS) (r : RigT) (e : Int) : Prop :=
  Fin home park s r ∨ ∃ f : Nat, f < n ∧ ((AtF f s.2.1 s.2.2.1 r ∧ max (park - s.2.2.2.2.2.1) 0 + dist f home + 1 ≤ e) ∨ (∃ w, Shp n T S ho f w s.2.1 s.2.2.1 r ∧ w + park + dist f home + 2 ≤ e))
section
variable {n : Nat} {T S ho dw home park e : Int} {s : CarS} {r : RigT} {blk : Bool} {C : Int × Int × Int} {N : Int × Int} {p : Int}
theorem RB.pos (hT : 1 ≤ T) (hH : 1 ≤ ho) (hp : 1 ≤ park) (h : RB n T S ho home park s r e) (he : e ≤ 0) : Fin home park s r := by
  rcases h with h | ⟨f, hf, ⟨a, b⟩ | ⟨w, a, b⟩⟩
  · exact h
  · unfold dist at b; omega
  · have := a.nn hT hH
    unfold dist at b; omega
theorem rb_tick (hn : 2 ≤ (n : Int) ∧ (n : Int) ≤ 32) (hT : 1 ≤ T ∧ T ≤ 10000) (hS : 1 ≤ S ∧ S ≤ 10000) (hH : 1 ≤ ho ∧ ho ≤ 10000) (hh : 0 ≤ home ∧ home < n) (hp : 1 ≤ park ∧ park ≤ 10000) (h : NS n s)
    (hv : RB n T S ho home park s r e) (hC : ∀ f : Nat, f < n → AtF f s.2.1 s.2.2.1 r → C.1 = 0 ∧ N = (0, 0) ∧ p = pmv park home s.2.2.2.2.2.1 f) :
    RB n T S ho home park (nwatch T S (ncore dw ho C N p (rep r blk) s)).1 (stp n r (nwatch T S (ncore dw ho C N p (rep r blk) s)).2 1) (e - 1) := by
  have hid := h.id
  have at_ : ∀ f : Nat, f < n → AtF f s.2.1 s.2.2.1 r → max (park - s.2.2.2.2.2.1) 0 + dist f home + 1 ≤ e ∨ ((f : Int) = home ∧ park ≤ s.2.2.2.2.2.1) →
      RB n T S ho home park (nwatch T S (ncore dw ho C N p (rep r blk) s)).1 (stp n r (nwatch T S (ncore dw ho C N p (rep r blk) s)).2 1) (e - 1) := by
    intro f hf ha hb
    have hf' : 0 ≤ (f : Int) ∧ (f : Int) < n := by omega
    rw [(tick_at (dw := dw) (T := T) (ho := ho) (blk := blk) (C := C) (N := N) (p := p) hT.1 hS.1 h ha).1]
    obtain ⟨c0, c1, c2⟩ := hC f hf ha
    obtain ⟨_, rfl, _⟩ := ha
    unfold ndec
    rw [if_neg (by omega), if_neg (by omega)]
    by_cases hp0 : p ≠ 0
    · rw [if_pos hp0]
      have hpm : park ≤ s.2.2.2.2.2.1 ∧ ((p = 1 ∧ (f : Int) < home) ∨ (p = 2 ∧ home < (f : Int))) := by
        unfold pmv at c2
        split at c2
        · omega
        · split at c2
          · omega
          · split at c2
            · omega
            · omega
      have hb' : dist f home + 1 ≤ e := by omega
      right
      rcases hpm.2 with ⟨q1, q2⟩ | ⟨q1, q2⟩
      · refine ⟨f + 1, by omega, Or.inl ⟨⟨rfl, ?_, Or.inr ⟨Or.inl q1, ?_⟩⟩, ?_⟩⟩
        · show stp n (f, f, 0, 2, 0, 0) p 1 = _
          rw [stp_go hn hf' (g := (f : Int) + 1) (by omega) (by omega), if_pos rfl]; rfl
        · show tgt (p, 0, (f : Int)) = _
          unfold tgt; simp only; rw [if_pos q1]; omega
        · unfold dist at *; simp only; omega
      · refine ⟨f - 1, by omega, Or.inl ⟨⟨rfl, ?_, Or.inr ⟨Or.inr q1, ?_⟩⟩, ?_⟩⟩
        · show stp n (f, f, 0, 2, 0, 0) p 1 = _
          rw [stp_go hn hf' (g := (f : Int) - 1) (by omega) (by omega), if_pos rfl]
          have : ((f - 1 : Nat) : Int) = (f : Int) - 1 := by omega
          rw [this]
        · show tgt (p, 0, (f : Int)) = _
          unfold tgt; simp only; rw [if_neg (by omega)]; omega
        · unfold dist at *; simp only; omega
    · rw [if_neg hp0]
      have hst : stp n ((f : Int), (f : Int), 0, 2, 0, 0) 0 1 = ((f : Int), (f : Int), 0, 2, 0, 0) := stp_none hn hf' (Or.inr rfl) (by decide)
      have hmor : mor s.2.2.2.2.2.1 = min (s.2.2.2.2.2.1 + 1) 1000000 := rfl
      by_cases hi : park ≤ s.2.2.2.2.2.1
      · have hfh : (f : Int) = home := by
          unfold pmv at c2
          rw [if_neg (by omega)] at c2
          split at c2
          · omega
          · split at c2
            · omega
            · omega
        left
        refine ⟨rfl, rfl, ?_, ?_⟩
        · show stp n (f, f, 0, 2, 0, 0) 0 1 = _
          rw [hst, hfh]
        · show park ≤ mor s.2.2.2.2.2.1
          omega
      · right
        refine ⟨f, hf, Or.inl ⟨⟨rfl, hst, Or.inl rfl⟩, ?_⟩⟩
        show max (park - mor s.2.2.2.2.2.1) 0 + dist f home + 1 ≤ e - 1
        omega
  rcases hv with ⟨a, b, c, d⟩ | ⟨f, hf, ⟨a, b⟩ | ⟨w, a, b⟩⟩
  · obtain ⟨g, rfl⟩ := Int.eq_ofNat_of_zero_le hh.1
    exact at_ g (by omega) ⟨a, c, Or.inl b⟩ (Or.inr ⟨rfl, d⟩)
  · exact at_ f hf a (Or.inl b)
  · by_cases ha : AtF f s.2.1 s.2.2.1 r
    · have := a.nn hT.1 hH.1
      exact at_ f hf ha (Or.inl (by omega))
    · have z := tick_go (dw := dw) (C := C) (N := N) (p := p) (blk := blk) (t := 1) hn (by omega) hT hS hH h a ha ⟨by omega, fun _ => by omega, fun _ => by omega⟩
      exact Or.inr ⟨f, hf, Or.inr ⟨w - 1, z.1, by omega⟩⟩
theorem ncyc_calls (dw ho : Int) (fb : FbT) (s : CarS) : (ncyc dw ho fb s).1.2.2.2.1 = if (ncyc dw ho fb s).1.2.1.1 = 2 then nclr fb.1 s.2.2.2.1 else s.2.2.2.1 := rfl
theorem ndec_calls (C : Int × Int × Int) (N : Int × Int) (p f : Int) (s : CarS) : (ndec C N p f s).1.2.2.2.1 = s.2.2.2.1 := by
  unfold ndec
  repeat' split
  all_goals rfl
theorem ndec_stage (C : Int × Int × Int) (N : Int × Int) (p f : Int) (s : CarS) (h : s.2.1 = zd) : (ndec C N p f s).1.2.1.1 ≠ 2 := by
  unfold ndec
  repeat' split
  all_goals first | (simp; done) | (rw [h]; simp)
theorem ncore_calls (dw ho : Int) (C : Int × Int × Int) (N : Int × Int) (p : Int) (fb : FbT) (s : CarS) (h : NS n s) : (ncore dw ho C N p fb s).1.2.2.2.1 = if (ncore dw ho C N p fb s).1.2.1.1 = 2 then nclr fb.1 s.2.2.2.1 else s.2.2.2.1 := by
  have hfl : ∀ s' : CarS, s'.2.1 = zd → s'.2.2.2.1 = s.2.2.2.1 → (nflr dw ho C N p fb s').1.2.2.2.1 = if (nflr dw ho C N p fb s').1.2.1.1 = 2 then nclr fb.1 s.2.2.2.1 else s.2.2.2.1 := by
    intro s' hz hc
    unfold nflr
    split
    · rw [ncyc_calls, ← hc]
    · rw [ndec_calls, if_neg (ndec_stage _ _ _ _ _ hz), hc]
  unfold ncore
  split
  · exact ncyc_calls _ _ _ _
  · rename_i h0
    have hz := h.dz h0
    have h2 : ¬ s.2.1.1 = 2 := by rw [hz]; decide
    split
    · split
      · exact hfl _ hz rfl
      · rfl
    · split
      · exact hfl _ hz rfl
      · rfl
end
end Go.Proofs.YtpbljgpdhllklaaGreatDoor.Sp
end
