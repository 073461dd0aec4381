/- Own texts joined by pk.py. -/
import Derived.Test.YtpbljgpdhllklaaGreatDoorJbab044e3
import Derived.Test.YtpbljgpdhllklaaGreatDoorJ79d8b98f
import Derived.Test.YtpbljgpdhllklaaGreatDoorJ6aed71cc
import Derived.Test.YtpbljgpdhllklaaGreatDoorTie
import Derived.Test.YtpbljgpdhllklaaGreatDoorCards
import Derived.Lib.LaidTab
import Derived.ProofKit
import Derived.LaidMore
import Derived.OpenShut
import Derived.Stop.Joined
import Derived.SevenTiedAt
import Derived.Test.YtpbljgpdhllklaaGreatDoorRows
section
/- NewcarRests: the plain law (own work). -/
namespace Go.Proofs.YtpbljgpdhllklaaGreatDoor.Sp
open Go Sy
set_option linter.unusedVariables false
set_option linter.unusedSimpArgs false
set_option maxRecDepth 10000
theorem trn_true {n : Nat} {ph : Nat → Nat → Nat → Int} {hit : Nat → Nat → Prop} {f d o : Nat} {C : Int × Int × Int} {N : Int × Int} (h : Dec n ph hit f d o C N) : Trn hit (fun _ _ _ _ _ => True) f d o C N := by
  rcases h with ⟨c1, ⟨d1, o1, eN, _, _, hh⟩, _⟩ | ⟨c1, d1, o1, eN, _, _, hh⟩ | ⟨c1, eN, hr, hh⟩ | ⟨c1, eN, hr, hh⟩
  · exact Or.inl ⟨c1, d1, o1, eN, Or.inl hh⟩
  · exact Or.inl ⟨c1, d1, o1, eN, Or.inr fun _ _ _ => trivial⟩
  · exact Or.inr (Or.inl ⟨c1, fun _ _ _ => trivial⟩)
  · exact Or.inr (Or.inr ⟨c1, fun _ _ _ => trivial⟩)
def carN (n g : Nat) (hn : n ≤ 32) (hn2 : 2 ≤ n) (hg : g < n) : KindN n where
  ph := phC n g
  hit := fun f' _ => f' = g
  ti := fun _ _ _ _ _ => True
  pres := fun _ _ c => bit c g = true
  p0 := fun f d o hf hd => by unfold phC; split <;> (try split) <;> (try split) <;> omega
  p3 := fun f d o hf hd => by unfold phC; split <;> (try split) <;> (try split) <;> omega
  tb := fun _ => True
  t2 := fun _ _ _ _ _ _ => trivial
  dec := fun f d o u d' c ab be h s hp => by
    have hb : bit (cA n c) g = true := by rw [bit_cA hn h.c, hp]; simpa using hg
    have hd := dec_car (dir := d) (o := o) hn2 h.f hg (by have := h.dir; omega) (by have := h.o; omega) (bit (cA n c) f) (bit (cU n u) f) (bit (cD n d') f) (decide (0 < ab)) (decide (0 < be)) (decide (be ≥ ab)) (fun e => e ▸ hb) (fun e => s.up_iff.2 ⟨g, e, cS_of (by omega) (Or.inl hb)⟩) (fun e => s.down_iff.2 ⟨g, e, cS_of (by omega) (Or.inl hb)⟩) (up_room h s) (down_room s)
    exact ⟨hd, trn_true hd⟩
theorem and0 (m : Int) : and32 0 m = 0 := by
  show IntKind.u32.wrap ((BitVec.ofInt 32 0 &&& BitVec.ofInt 32 m).toNat : Int) = 0
  rw [show (BitVec.ofInt 32 0) = 0#32 from rfl, BitVec.zero_and]; rfl
theorem or_id {c z : Int} (wc : W c) (wz : W z) (h : ∀ i, i < 32 → bit z i = false) : or32 c z = c :=
  W.ext (W_or _ _) wc fun i hi => by rw [bit_or wc.1 wz.1 i hi, h i hi, Bool.or_false]
theorem npress0 {s : CarS} (n f : Int) (wc : W s.2.2.2.1) : npress n f s 0 = s := by
  have e : or32 s.2.2.2.1 (if s.2.1.1 = 0 then and32 0 (allm n) else nand32 (and32 0 (allm n)) (shl32 1 f)) = s.2.2.2.1 := by
    rw [and0]
    split
    · exact or_id wc W.zero (fun i _ => bit_zero i)
    · refine or_id wc (W_nand _ _) (fun i hi => ?_)
      rw [bit_nand (Int.le_refl _) (W_shl _ _).1 i hi, bit_zero, Bool.false_and]
  unfold npress
  rw [e]
theorem S7 : ∀ dir, dir < 3 → ∀ o, o < 8 → ∀ l : Bool, ch ((dir : Nat) : Int) ((o : Nat) : Int) false false false false false l = (0, 0, 0) ∧ chN dir o false false false false false l = (0, 0) := by decide +kernel
theorem zero_dec {b : BldT} {n f : Nat} {s : CarS} (hB : IsB b) (hn : b.1 = n) (hf : f < n) (h : NS n s) (hz : s.2.2.2.1 = 0) : nC b s f (0, 0) = (0, 0, 0) ∧ nN b s f (0, 0) = (0, 0) := by
  have hfl := hB.fl
  obtain ⟨⟨dir, op⟩, dr, mo, c, sh, id, fa⟩ := s
  have a1 := h.sd; have a2 := h.so
  simp only at a1 a2 hz
  subst hz
  obtain ⟨dir, rfl⟩ := Int.eq_ofNat_of_zero_le a1.1
  obtain ⟨op, rfl⟩ := Int.eq_ofNat_of_zero_le a2.1
  have ok : Ok n f (dir : Int) (op : Int) 0 0 0 := ⟨by omega, by omega, hf, a1, a2, W.zero, W.zero, W.zero⟩
  have hn32 : n ≤ 32 := by omega
  obtain ⟨ab, be, sc, e1, e2⟩ := Choose_ch ok
  have z1 : bit (cA n 0) f = false := by rw [bit_cA hn32 W.zero, bit_zero]; rfl
  have z2 : bit (cU n 0) f = false := by rw [bit_cU hn32 W.zero, bit_zero]; rfl
  have z3 : bit (cD n 0) f = false := by rw [bit_cD hn32 W.zero, bit_zero]; rfl
  have zs : ∀ i, bit (cS (cA n 0) (cU n 0) (cD n 0)) i = false := by
    intro i
    cases hb : bit (cS (cA n 0) (cU n 0) (cD n 0)) i with
    | false => rfl
    | true =>
      have hi := bit_lt (W_cS _ _ _) hb
      rw [bit_cS (W_and _ _) (W_and _ _) (W_and _ _) i hi, bit_cA hn32 W.zero, bit_cU hn32 W.zero, bit_cD hn32 W.zero, bit_zero] at hb
      simp at hb
  have z4 : decide (0 < ab) = false := by
    cases hb : decide (0 < ab) with
    | false => rfl
    | true => obtain ⟨i, _, hi⟩ := sc.up_iff.1 hb; rw [zs i] at hi; cases hi
  have z5 : decide (0 < be) = false := by
    cases hb : decide (0 < be) with
    | false => rfl
    | true => obtain ⟨i, _, hi⟩ := sc.down_iff.1 hb; rw [zs i] at hi; cases hi
  rw [z1, z2, z3, z4, z5] at e1 e2
  have s7 := S7 dir (by omega) op (by omega) (decide (be ≥ ab))
  unfold nC nN
  rw [hn]
  exact ⟨e1.trans s7.1, e2.trans s7.2⟩
section
variable {b : BldT} {n : Nat} {s : CarS} {r : RigT}
def vlim (n : Nat) (T S ho : Int) : Int := wmax T S ho + (3 * (n : Int) * (3 * (2 * T + ho + 3) + S + 2) + 2 * (2 * T + ho + 3))
structure Rst (n : Nat) (hn : n ≤ 32) (hn2 : 2 ≤ n) (T S ho home park : Int) (i : Int) (s : CarS) (r : RigT) : Prop where
  i0 : 0 ≤ i ∧ i ≤ 2000
  si : SI n T S ho s r
  lo : ∀ g, ∀ hg : g < n, bit s.2.2.2.1 g = false ∨ ∃ lt, VN (carN n g hn hn2 hg) T S ho s r (vlim n T S ho - i) lt
  fin : vlim n T S ho + 1 ≤ i → RB n T S ho home park s r (wmax T S ho + park + n + 2 - (i - (vlim n T S ho + 1)))
theorem Rst.zero {hn : n ≤ 32} {hn2 : 2 ≤ n} {T S ho home park i : Int} (h : Rst n hn hn2 T S ho home park i s r) (hT : 1 ≤ T) (hS : 1 ≤ S) (hH : 1 ≤ ho) (hi : vlim n T S ho + 1 ≤ i) : s.2.2.2.1 = 0 := by
  refine W.ext h.si.1.wc W.zero fun g hg => ?_
  rw [bit_zero]
  cases hb : bit s.2.2.2.1 g with
  | false => rfl
  | true =>
    have hgn := h.si.1.cb g hb
    rcases h.lo g hgn with x | ⟨lt, x⟩
    · rw [hb] at x; cases x
    · have := x.pos hT hS hH
      omega
theorem rest_tick {hn32 : n ≤ 32} {hn2 : 2 ≤ n} (hB : IsB b) (hl : b.cars.length ≤ maxLen) (hn : b.1 = n) (hp : 0 < (b.2.2.2.2.2.2.2.length : Int)) {i : Int} (hi : i < 2000)
    (h : Rst n hn32 hn2 (cT_ (cfgOf b 0)) (cS_ (cfgOf b 0)) (cH_ (cfgOf b 0)) (cfgOf b 0).2.2.2.2.2.2.2.2 b.2.2.2.1 i s r) :
    Rst n hn32 hn2 (cT_ (cfgOf b 0)) (cS_ (cfgOf b 0)) (cH_ (cfgOf b 0)) (cfgOf b 0).2.2.2.2.2.2.2.2 b.2.2.2.1 (i + 1) (ntick b 0 s (rep r false) 0 (0, 0)).1 (stp n r (ntick b 0 s (rep r false) 0 (0, 0)).2 1) := by
  have hfl := hB.fl
  have htm := car_times hB (i := 0) (by decide) hp
  have hc : (0 : Int) ≤ 0 ∧ (0 : Int) < (b.2.2.2.2.2.2.2.length : Int) := ⟨Int.le_refl _, hp⟩
  have hT : 1 ≤ cT_ (cfgOf b 0) ∧ cT_ (cfgOf b 0) ≤ 10000 := htm.2.1
  have hS : 1 ≤ cS_ (cfgOf b 0) ∧ cS_ (cfgOf b 0) ≤ 10000 := htm.1
  have hH : 1 ≤ cH_ (cfgOf b 0) ∧ cH_ (cfgOf b 0) ≤ 10000 := htm.2.2.2
  have hpk := hB.park
  have hhome := car_home hB hc
  have hi0 := h.i0
  have htime : ∀ c, TimOk (cT_ (cfgOf b 0)) (cS_ (cfgOf b 0)) c 1 := fun c => ⟨Int.le_refl _, fun _ => hS.1, fun _ => hT.1⟩
  have hnx := si_step (car := 0) (press := 0) (hall := (0, 0)) (t := 1) (blk := false) hB hl hn hc W.zero W.zero W.zero h.si (htime _)
  have hnp := npress0 (s := s) b.1 r.1 h.si.1.wc
  have hk : ntick b 0 s (rep r false) 0 (0, 0) = nwatch (cT_ (cfgOf b 0)) (cS_ (cfgOf b 0)) (ncore (cD_ (cfgOf b 0)) (cH_ (cfgOf b 0)) (nC b s r.1 (0, 0)) (nN b s r.1 (0, 0)) (nP b 0 s r.1) (rep r false) s) := by
    unfold ntick
    rw [show (rep r false).1 = r.1 from rfl, hnp]
  have hnf : ntick b 0 s (rep r false) 0 (0, 0) = ncore (cD_ (cfgOf b 0)) (cH_ (cfgOf b 0)) (nC b s r.1 (0, 0)) (nN b s r.1 (0, 0)) (nP b 0 s r.1) (rep r false) s := by
    have hfa := hnx.1.fa
    rw [hk] at hfa ⊢
    unfold nwatch at hfa ⊢
    split
    · rename_i hl'
      rw [if_pos hl'] at hfa; cases hfa
    · rfl
  have hcl : (ntick b 0 s (rep r false) 0 (0, 0)).1.2.2.2.1 = if (ntick b 0 s (rep r false) 0 (0, 0)).1.2.1.1 = 2 then nclr r.1 s.2.2.2.1 else s.2.2.2.1 := by
    rw [hnf]
    exact ncore_calls _ _ _ _ _ _ _ h.si.1
  have hsub : ∀ g, g < 32 → bit s.2.2.2.1 g = false → bit (ntick b 0 s (rep r false) 0 (0, 0)).1.2.2.2.1 g = false := by
    intro g hg hb
    rw [hcl]
    split
    · unfold nclr
      rw [bit_nand h.si.1.wc.1 (W_shl _ _).1 g hg, hb, Bool.false_and]
    · exact hb
  have hlo : ∀ g, ∀ hg : g < n, bit (ntick b 0 s (rep r false) 0 (0, 0)).1.2.2.2.1 g = false ∨ ∃ lt, VN (carN n g hn32 hn2 hg) (cT_ (cfgOf b 0)) (cS_ (cfgOf b 0)) (cH_ (cfgOf b 0)) (ntick b 0 s (rep r false) 0 (0, 0)).1 (stp n r (ntick b 0 s (rep r false) 0 (0, 0)).2 1) (vlim n (cT_ (cfgOf b 0)) (cS_ (cfgOf b 0)) (cH_ (cfgOf b 0)) - (i + 1)) lt := by
    intro g hg
    cases hb : bit s.2.2.2.1 g with
    | false => exact Or.inl (hsub g (by omega) hb)
    | true =>
      rcases h.lo g hg with x | ⟨lt, x⟩
      · rw [hb] at x; cases x
      · have vt := vn_tick (dw := cD_ (cfgOf b 0)) (t := 1) (blk := false) (C := nC b s r.1 (0, 0)) (N := nN b s r.1 (0, 0)) (p := nP b 0 s r.1) (carN n g hn32 hn2 hg) (by omega) hT hS hH h.si.1 x (hD_of (carN n g hn32 hn2 hg) hB hl hn hc h.si.1 W.zero W.zero hb) (htime _)
        rw [← hk] at vt
        rcases vt.1 with y | ⟨y1, y2, y3, ⟨f, d', y4, y5, y6, y7⟩, _⟩
        · right
          exact ⟨_, by rw [show vlim n (cT_ (cfgOf b 0)) (cS_ (cfgOf b 0)) (cH_ (cfgOf b 0)) - (i + 1) = vlim n (cT_ (cfgOf b 0)) (cS_ (cfgOf b 0)) (cH_ (cfgOf b 0)) - i - 1 by omega]; exact y⟩
        · left
          have y7 : f = g := y7
          subst y7
          rw [hcl, if_pos y1, y5]
          unfold nclr
          rw [bit_nand h.si.1.wc.1 (W_shl _ _).1 f (by omega), bit_one f f (by omega)]
          simp
  refine ⟨by omega, hnx, hlo, fun hi1 => ?_⟩
  by_cases hi2 : vlim n (cT_ (cfgOf b 0)) (cS_ (cfgOf b 0)) (cH_ (cfgOf b 0)) + 1 ≤ i
  · have hz := h.zero hT.1 hS.1 hH.1 hi2
    have hrb := rb_tick (dw := cD_ (cfgOf b 0)) (blk := false) (C := nC b s r.1 (0, 0)) (N := nN b s r.1 (0, 0)) (p := nP b 0 s r.1) (by omega) hT hS hH (by rw [← hn]; exact hhome) hpk h.si.1 (h.fin hi2) (fun f hf ha => by
      have er : r.1 = (f : Int) := by rw [ha.2.1]
      have zd := zero_dec hB hn hf h.si.1 hz
      rw [er]
      refine ⟨by rw [zd.1], zd.2, ?_⟩
      unfold nP
      rw [pmove_val hB hl hc (by omega)]
      rfl)
    rw [← hk] at hrb
    rw [show wmax (cT_ (cfgOf b 0)) (cS_ (cfgOf b 0)) (cH_ (cfgOf b 0)) + b.2.2.2.1 + n + 2 - (i + 1 - (vlim n (cT_ (cfgOf b 0)) (cS_ (cfgOf b 0)) (cH_ (cfgOf b 0)) + 1)) = wmax (cT_ (cfgOf b 0)) (cS_ (cfgOf b 0)) (cH_ (cfgOf b 0)) + b.2.2.2.1 + n + 2 - (i - (vlim n (cT_ (cfgOf b 0)) (cS_ (cfgOf b 0)) (cH_ (cfgOf b 0)) + 1)) - 1 by omega]
    exact hrb
  · obtain ⟨_, f, w, hf, hv, hw⟩ := hnx
    refine Or.inr ⟨f, hf, Or.inr ⟨w, hv, ?_⟩⟩
    have hh : 0 ≤ (cfgOf b 0).2.2.2.2.2.2.2.2 ∧ (cfgOf b 0).2.2.2.2.2.2.2.2 < b.1 := hhome
    unfold dist
    omega
end
theorem law_small {m : Int × Int} (h : (0 ≤ m.1 ∧ m.1 ≤ 255) ∧ 0 ≤ m.2 ∧ m.2 ≤ 255) : cS_ (cfgOf (F7 m) 0) ≤ 3 ∧ cT_ (cfgOf (F7 m) 0) ≤ 3 ∧ cH_ (cfgOf (F7 m) 0) ≤ 7 ∧ (F7 m).2.2.2.1 ≤ 7 := by
  rw [small_eq h]
  have hl : 0 < ((List.range (1 + m.1 / 5 % 3).toNat).map (smallCar (2 + m.1 % 5) m.2)).length := by rw [List.length_map, List.length_range]; omega
  have e : nthT (smallB (2 + m.1 % 5) m.2 (1 + m.1 / 5 % 3).toNat).2.2.2.2.2.2.2 0 = smallCar (2 + m.1 % 5) m.2 0 := by
    show nthT ((List.range (1 + m.1 / 5 % 3).toNat).map (smallCar (2 + m.1 % 5) m.2)) ((0 : Nat) : Int) = _
    rw [nthT_nat _ _ hl, List.getElem_map, List.getElem_range]
  unfold cfgOf
  rw [e]
  show 1 + m.2 % 3 ≤ 3 ∧ 1 + m.2 / 3 % 3 ≤ 3 ∧ 1 + m.2 / 9 % 3 + m.2 / 27 % 5 ≤ 7 ∧ 1 + m.2 % 7 ≤ 7
  omega
theorem vlim_small {n : Nat} {T S ho : Int} (hn : n ≤ 6) (hT : 1 ≤ T ∧ T ≤ 3) (hS : 1 ≤ S ∧ S ≤ 3) (hH : 1 ≤ ho ∧ ho ≤ 7) : 0 ≤ vlim n T S ho ∧ vlim n T S ho ≤ 1100 ∧ wmax T S ho ≤ 20 := by
  unfold vlim wmax
  have m1 : 0 ≤ 3 * (n : Int) * (3 * (2 * T + ho + 3) + S + 2) := Int.mul_nonneg (by omega) (by omega)
  have m2 : 3 * (n : Int) * (3 * (2 * T + ho + 3) + S + 2) ≤ 18 * 53 := Int.mul_le_mul (by omega) (by omega) (by omega) (by decide)
  omega
theorem rests_true (m : Int × Int) (l : List Int) (hm : (0 ≤ m.1 ∧ m.1 ≤ 255) ∧ 0 ≤ m.2 ∧ m.2 ≤ 255) (h8 : ∀ y ∈ l, 0 ≤ y ∧ y ≤ 255) : F6 (m, l) = true := by
  obtain ⟨n, hn, hn2, hn6, hB, hl, hp⟩ := law_b (m := m) hm
  have hsm := law_small hm
  have hs := state_SI l h8 hB hl hn hp
  have hn32 : n ≤ 32 := by omega
  generalize hbb : F7 m = b at *
  have hfl := hB.fl
  have htm := car_times hB (i := 0) (by decide) hp
  have hc : (0 : Int) ≤ 0 ∧ (0 : Int) < (b.2.2.2.2.2.2.2.length : Int) := ⟨Int.le_refl _, hp⟩
  have hT : 1 ≤ cT_ (cfgOf b 0) ∧ cT_ (cfgOf b 0) ≤ 3 := ⟨htm.2.1.1, hsm.2.1⟩
  have hS : 1 ≤ cS_ (cfgOf b 0) ∧ cS_ (cfgOf b 0) ≤ 3 := ⟨htm.1.1, hsm.1⟩
  have hH : 1 ≤ cH_ (cfgOf b 0) ∧ cH_ (cfgOf b 0) ≤ 7 := ⟨htm.2.2.2.1, hsm.2.2.1⟩
  have hpk := hB.park
  have hvl := vlim_small hn6 hT hS hH
  have key : R6_4 b (0, F8 (b, 0, l)) = none ∧ Rst n hn32 hn2 (cT_ (cfgOf b 0)) (cS_ (cfgOf b 0)) (cH_ (cfgOf b 0)) (cfgOf b 0).2.2.2.2.2.2.2.2 b.2.2.2.1 2000 (G6_4 b (0, F8 (b, 0, l))).2.1 (G6_4 b (0, F8 (b, 0, l))).2.2 := by
    unfold R6_4 G6_4
    refine loop_spec (step := st6_4) (k := b) (fun x => Rst n hn32 hn2 (cT_ (cfgOf b 0)) (cS_ (cfgOf b 0)) (cH_ (cfgOf b 0)) (cfgOf b 0).2.2.2.2.2.2.2.2 b.2.2.2.1 x.1 x.2.1 x.2.2) (mu6_4 b) (fun o y => o = none ∧ Rst n hn32 hn2 (cT_ (cfgOf b 0)) (cS_ (cfgOf b 0)) (cH_ (cfgOf b 0)) (cfgOf b 0).2.2.2.2.2.2.2.2 b.2.2.2.1 2000 y.2.1 y.2.2) (fun x hx => ?_) _ _ ?_ (Nat.lt_succ_self _)
    · obtain ⟨i, s, r⟩ := x
      have hi0 := hx.i0
      simp only at hx hi0
      unfold st6_4
      simp only [report_eq]
      cases hcd : decide (i < (2000 : Int)) with
      | false =>
        rw [cond_false]
        rw [decide_eq_false_iff_not] at hcd
        refine ⟨trivial, ?_⟩
        have : i = 2000 := by omega
        subst this
        exact hx
      | true =>
        rw [cond_true]
        rw [decide_eq_true_eq] at hcd
        have hst := si_tick (car := 0) (press := 0) (hall := (0, 0)) hB hl hn hc W.zero W.zero W.zero hx.si false
        rw [hst, rstep_eq, hn, wrap_i64_of (x := i + 1) (by omega) (by omega)]
        simp only [bne_self_eq_false, cond_false]
        refine ⟨rest_tick hB hl hn hp hcd hx, ?_⟩
        unfold mu6_4
        simp only; omega
    · refine ⟨by show (0 : Int) ≤ 0 ∧ (0 : Int) ≤ 2000; decide, hs, fun g hg => Or.inr ⟨(0, 0), ?_⟩, fun z => ?_⟩
      · have := init_VN (carN n g hn32 hn2 hg) (fun _ _ _ _ => trivial) hT.1 hS.1 hH.1 hs
        show VN _ _ _ _ _ _ (vlim n _ _ _ - 0) _
        rw [Int.sub_zero]
        exact this
      · have z : vlim n (cT_ (cfgOf b 0)) (cS_ (cfgOf b 0)) (cH_ (cfgOf b 0)) + 1 ≤ 0 := z
        omega
  have hz := key.2.zero hT.1 hS.1 hH.1 (by omega)
  have hfin := (key.2.fin (by omega)).pos hT.1 hH.1 hpk.1 (by omega)
  have hNS := key.2.si.1
  have hR := key.1
  have fin : ∀ (R : Option Bool) (G : Int × CarS × RigT), R = none → G.2.1.2.2.2.1 = 0 → Fin (cfgOf b 0).2.2.2.2.2.2.2.2 b.2.2.2.1 G.2.1 G.2.2 → NS n G.2.1 →
      optR R (fun y => y) ((((((G.2.2.1 == (nthT b.2.2.2.2.2.2.2 (0 : Int)).2.2.2.2.2.2.2.2) && (G.2.2.2.2.1 == (0 : Int))) && (G.2.2.2.2.2.1 == (2 : Int))) && (F18 (b, G.2.1, F12 (G.2.2, true)))) && (F19 G.2.1.2.1)) && (F15 ())) = true := by
    intro R G e1 e2 e3 e4
    obtain ⟨f1, f2, f3, f4⟩ := e3
    have his : F30 (b, G.2.1) = true := (isst_iff hl hn e4.wc).2 ⟨hB, Or.inr e4⟩
    have hst : F18 (b, G.2.1, F12 (G.2.2, true)) = true := by
      unfold F18
      simp only
      rw [report_eq, his, e4.fa, z5_iff, z3_iff, f1, f2, e2, f3]
      rfl
    rw [e1, hst, rdoor_is, f1, f3, nsane]
    have hz : decide (DOk zd) = true := by decide
    rw [hz]
    simp [optR]
  show F6 (m, l) = true
  unfold F6
  simp only
  rw [hbb]
  exact fin _ _ hR hz hfin hNS
theorem law_rests (x : ct6.p.den) (h : InR ct6.p x) : ct6.F x = true :=
  have k : F6 x = true := rests_true x.1 x.2 ⟨u8_of h.1.1, u8_of h.1.2⟩ (fun y hy => u8_of (h.2.2 y hy))
  k
end Go.Proofs.YtpbljgpdhllklaaGreatDoor.Sp
end

section
/- NewcarRests: the call of the law returns true (written by own program mkwalk.py, out of the contract and the plain law). -/
namespace Go.Proofs.YtpbljgpdhllklaaGreatDoor.Sy
open Go Go.RowKit
set_option linter.unusedVariables false
set_option linter.unusedSimpArgs false
set_option maxRecDepth 100000
theorem tr_T5 {w : World} (cs : List Value) (h : E_T5 cs) : ∃ x : ty5.den, TR w (fun _ _ => False) ty5 x cs ∧ InR ty5 x := by
  obtain ⟨a0, rfl, w0⟩ := h
  exact ⟨a0, tr_of ⟨rfl, trivial⟩, w0⟩
theorem pre_law (x : ct6.p.den) (h : InR ct6.p x) : ∀ q, ct6.pre = some q → q x := by
  intro q hq
  cases hq
  simp only [ct6, InR, Lit.wf, Bool.and_eq_true, decide_eq_true_eq] at h
  simp only [Sp.pre6]
  try simp only [show IntKind.u8.min = 0 from rfl, show IntKind.u8.max = 255 from rfl, show IntKind.u16.min = 0 from rfl, show IntKind.u16.max = 65535 from rfl, show IntKind.u32.min = 0 from rfl, show IntKind.u32.max = 4294967295 from rfl, show IntKind.u64.min = 0 from rfl, show IntKind.u64.max = 18446744073709551615 from rfl, show IntKind.i64.min = -9223372036854775808 from rfl, show IntKind.i64.max = 9223372036854775807 from rfl] at h
  repeat' (first | exact trivial | apply And.intro)
  all_goals first | omega | (intro v hv; first | exact h.2.2.2 v hv | exact h.2.2 v hv | exact h.2 v hv | exact h.1.2 v hv | exact h.2.1.2 v hv | exact h.2.2.1.2 v hv | exact h.2.2.2.2 v hv)
theorem walk_NewcarRests (a0_0 : Int) (a0_1 : Int) (a1_0 : Value) (w : World) (w0_0 : (Lit.int .u8 a0_0).wf = true) (w0_1 : (Lit.int .u8 a0_1).wf = true) (w1_0 : IsSlice w 1 E_T5 a1_0) (hT : gdS.H w) :
    Calls Tryz.prog 6 #[.agg #[.int .u8 a0_0, .int .u8 a0_1], a1_0] w fun e w' => e = .returned (.bool true) ∧ Below w.heap.size w w' := by
  obtain ⟨l1_0, t1_0, r1_0⟩ := slice_tr (e := ty5) rfl tr_T5 w1_0
  exact call_true ok6 ((a0_0, a0_1), l1_0) w _ [.int .u8 a0_0, .int .u8 a0_1, a1_0] hT (pre_law _ ⟨⟨w0_0, w0_1⟩, r1_0⟩) ⟨[.int .u8 a0_0, .int .u8 a0_1], _, rfl, rfl, rfl, ⟨_, rfl, rfl⟩⟩ (tr_of ⟨rfl, rfl, ⟨t1_0, trivial⟩, trivial⟩) (Sp.law_rests _ ⟨⟨w0_0, w0_1⟩, r1_0⟩)
end Go.Proofs.YtpbljgpdhllklaaGreatDoor.Sy
end

section
/- NewcarRests: for every input the call of the law returns true, and the arguments read behind the call as before. The walk stands in YtpbljgpdhllklaaGreatDoorNewcarRestsWalk. -/
namespace Go.Proofs.YtpbljgpdhllklaaGreatDoor.newcarRests
open Go.ChangeShapes Go.WideShapes Go.ChangeAt Go.RowKit
set_option linter.unusedVariables false
theorem own : ownKnob Tryz.prog.godebug = none := by kernel_rfl
theorem laidOut : laidOutB Tryz.prog = true := by kernel_rfl
theorem gTab : Tryz.prog.globalNamed "math/bits.deBruijn32tab" = some 0 := by kernel_rfl
theorem door_met (os : Os) (args : Array Value) : laidMetH Tryz.prog Rows.newcarRestsRow.laid ((World.doorLaid Tryz.prog 400 os).forCall (fun _ _ => 0) ⟨#[], args, []⟩).memory :=
  laidMetH_of_parts3 (fuel := 8) (laidMet_of_run' 8 (by kernel_rfl) (by kernel_rfl)) (by kernel_rfl) (by kernel_rfl)
theorem of_laid {W : World} (h : laidMetH Tryz.prog Rows.newcarRestsRow.laid W) : Sy.gdS.H W := by
  have h : laidMet Tryz.prog [("math/bits.deBruijn32tab", Lib.tabData .u8 Sy.tabB)] W := h
  obtain ⟨t, ht⟩ : ∃ t, (Tryz.prog.globals[0]?).map (·.type) = some t := ⟨_, rfl⟩
  have hT := Lib.tabIs_of_head (n := 32) (t := 161) (e := 5) gTab (by kernel_rfl) Tryz.underlying161 Tryz.underlying5 (by kernel_rfl) (by kernel_rfl) h
  exact fun k hk => hT.cell gTab k hk
set_option maxRecDepth 100000 in
theorem lifted (os : Os) (started : os.Started) (H : Type) (enc : TypeId × Value → H) :
    ReturnsInHanded {} Tryz.checked os 6 .any (fun w args => (Rows.newcarRestsSpec.pre enc Tryz.prog Tryz.f6 [] false w args ∧ laidMetH Tryz.prog Rows.newcarRestsRow.laid w) ∧ sizedMet enc Tryz.prog Tryz.f6 (OpenSpec.ofChange Rows.newcarRestsSpec) false w args)
      (Rows.newcarRestsSpec.post enc Tryz.prog Tryz.f6 false true false false) := by
  refine returnsInHanded_of_change_and (C := Tryz.checked) (X := fun w _ => laidMetH Tryz.prog Rows.newcarRestsRow.laid w) (fun _ _ _ hh h => h.of_heap hh) own started (by kernel_rfl) Tryz.func6
    (ChangeSpec.witness_shaped (enc := enc) (C := Tryz.checked) (os := os) (X := fun w _ => laidMetH Tryz.prog Rows.newcarRestsRow.laid w) false (World.doorLaid Tryz.prog 400 os) #[.agg #[.int .u8 0, .int .u8 0], .slice none 0 0] 8 rfl (World.shaped_of_RefB (by kernel_rfl) (by kernel_rfl)) (by kernel_rfl) (by kernel_rfl) (by kernel_rfl) (door_met os _)) ?_
  intro W base args ds gs before hval0 hW hcnd _ hL _
  have hH := of_laid hL
  have hval : ∀ (j : Nat) t v, Tryz.f6.params[j]? = some t → args[j]? = some v → Value.okWide Tryz.prog W .any base t v := hval0
  have hW' := hW
  obtain ⟨p, q, hA0, hV, rfl, hfz, hnd⟩ := hW
  have hA : DataW.TrodAll enc Tryz.prog W 0 (fun _ => true) true Tryz.f6.params.toList args.toList ds p := hA0
  rw [Tryz.params6] at hA hval
  obtain ⟨v0, vs0, d0, ds0, p0, q0, hargs, rfl, rfl, h0, r0⟩ := trodAll_cons hA
  obtain ⟨v1, vs1, d1, ds1, p1, q1, rfl, rfl, rfl, h1, r1⟩ := trodAll_cons r0
  obtain ⟨rfl, rfl, rfl⟩ := trodAll_nil r1
  obtain rfl : args = #[v0, v1] := by cases args; simp_all
  obtain ⟨rfl, rfl⟩ := trodVars_none hV
  have k0 := h0
  have lt0 : ∀ x ∈ p0, x.block < W.heap.size := by obtain ⟨m, hm⟩ := k0; exact DataW.trod_lt m _ _ _ hm
  obtain ⟨c0, rfl, hsz0⟩ := okWide_array Tryz.underlying61 (hval 0 61 v0 rfl rfl)
  obtain ⟨fuel0, hf0⟩ := h0
  obtain ⟨a0_0, a0_1, e0, w0_0, w0_1⟩ := open_T61 hf0
  have e0' : c0 = #[.int .u8 a0_0, .int .u8 a0_1] := by rw [← Array.toList_inj]; exact e0
  subst e0'
  have k1 := h1
  have lt1 : ∀ x ∈ p1, x.block < W.heap.size := by obtain ⟨m, hm⟩ := k1; exact DataW.trod_lt m _ _ _ hm
  obtain ⟨b1, l1, cp1, rfl⟩ := okWide_slice Tryz.underlying23 (hval 1 23 v1 rfl rfl)
  obtain ⟨fuel1, hf1⟩ := h1
  obtain ⟨a1_0, e1, w1_0⟩ := open_T23 hf1
  simp only [Value.cells, List.cons.injEq, and_true] at e1
  subst e1
  clear hA0 hval0
  refine (Sy.walk_NewcarRests a0_0 a0_1 (.slice b1 l1 cp1) W w0_0 w0_1 w1_0 hH).mono fun e W' ⟨he, bel⟩ => ?_
  subst he
  exact ⟨_, rfl, _, _, _, [], _, [], hW', trodAll_mk1 (shut_bool Tryz.underlying4 _), (trodAll_cons_mk (Below.trod laidOut (by kernel_rfl) (of_decide_eq_true (by kernel_rfl)) k0 bel lt0) (trodAll_cons_mk (Below.trod laidOut (by kernel_rfl) (of_decide_eq_true (by kernel_rfl)) k1 bel lt1) trodAll_mk0)), rfl, bel.frame _, fun h => by cases h⟩
theorem over : Rows.newcarRestsRow.holds Tryz.pinned (OpenSpec.ofChange Rows.newcarRestsSpec) :=
  OpenClaim.holds_of_wide 6 Tryz.f6 rfl rfl rfl rfl rfl rfl rfl ⟨rfl, rfl, rfl, rfl, rfl⟩ rfl rfl rfl rfl rfl (by kernel_rfl) Tryz.func6 (by kernel_rfl)
    (of_decide_eq_true (by kernel_rfl)) (by unfold Func.isWrapper; first | (rw [if_pos (by decide +kernel)]; kernel_rfl) | (rw [if_neg (by decide +kernel)]; exact ⟨rfl, rfl⟩))
    (fun os started H enc _ => lifted os started H enc)
theorem proved : Rows.NewcarRestsCardSaid :=
  Claim7.holds_tied_plain_at .later [] [.data] true (true, "d69dd28ed30ce8425af044c7ea17a0c1c31d9d14070bd9dcefe8f8e4de0fef6d") false
    over (fun _ h => by cases h) (by kernel_rfl) (fun _ h => by cases h) newcarRests_row_tie rfl ⟨rfl, rfl⟩ (by kernel_rfl) rfl
    (fun f fn hf hfn => by
      obtain rfl : f = 6 := Option.some.inj ((show Tryz.prog.funcNamed "overlay/overlaylaw15.NewcarRests" = some 6 by kernel_rfl).symm.trans hf) |>.symm
      obtain rfl : fn = Tryz.f6 := (Option.some.inj (Tryz.func6.symm.trans hfn)).symm
      exact ⟨by kernel_rfl, fun j t ht => by
        rw [Tryz.params6] at ht
        have h3 : t ∈ ([61, 23] : List TypeId) := List.mem_of_getElem? (by simpa using ht)
        simp only [List.mem_cons, List.not_mem_nil, or_false] at h3
        rcases h3 with rfl | rfl
        · exact (show Tryz.prog.wantsStandIn 61 = false by kernel_rfl)
        · exact (show Tryz.prog.wantsStandIn 23 = false by kernel_rfl)⟩)
    (by kernel_rfl)
#print axioms proved
end Go.Proofs.YtpbljgpdhllklaaGreatDoor.newcarRests
end
