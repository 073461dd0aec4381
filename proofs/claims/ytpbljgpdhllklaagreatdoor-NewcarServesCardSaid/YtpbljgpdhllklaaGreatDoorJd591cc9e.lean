/- Own texts joined by pk.py. -/
import Derived.Test.YtpbljgpdhllklaaGreatDoorJb26fc9ce
import Derived.Test.YtpbljgpdhllklaaGreatDoorJ79d8b98f
import Derived.Test.YtpbljgpdhllklaaGreatDoorJ6aed71cc
import Derived.Test.YtpbljgpdhllklaaGreatDoorTie
import Derived.Test.YtpbljgpdhllklaaGreatDoorCards
import Derived.Lib.LaidTab
import Derived.ProofKit
import Derived.LaidMore
import Derived.OpenShut
import Derived.Stop.Joined
import Derived.SevenTiedAt
import Derived.Test.YtpbljgpdhllklaaGreatDoorRows
section
/- NewcarServes: the loop, and the plain law (own work). -/
namespace Go.Proofs.YtpbljgpdhllklaaGreatDoor.Sp
open Go Sy
set_option linter.unusedVariables false
set_option linter.unusedSimpArgs false
set_option maxRecDepth 10000
abbrev SvK := List Int × BldT × Int × Int
abbrev SvX := Int × Int × Int × CarS × RigT
def svB (k : SvK) (x : SvX) : Bool := (Int.tmod ((G3_13 (k.1, x.2.2.1) ((0 : Int), (0 : Int), (0 : Int), (0 : Int), (0 : Int))).2.2.2.2) (3 : Int)) != (0 : Int)
def svW (k : SvK) (x : SvX) : Int × Int :=
  bif (((K3_9_2 k x).1.2.2.1.1 != (0 : Int)) && ((K3_9_2 k x).1.2.2.1.2.1 == (0 : Int))) then
    ((K3_9_2 k x).1.2.2.1.1, bif ((x.1 != (0 : Int)) && (x.1 != (K3_9_2 k x).1.2.2.1.1)) then IntKind.i64.wrap (x.2.1 + 1) else x.2.1)
  else (x.1, x.2.1)
def svS (k : SvK) (x : SvX) : Bool := ((F14 (k.2.1, (K3_9_2 k x).1, rep x.2.2.2.2 (svB k x))).1 == k.2.2.1) && ((F14 (k.2.1, (K3_9_2 k x).1, rep x.2.2.2.2 (svB k x))).2 == k.2.2.2)
def svN (k : SvK) (x : SvX) : RigT := bif (((K3_9_2 k x).2.1 == (1 : Int)) || ((K3_9_2 k x).2.1 == (2 : Int))) then K3_9_3 k x else K3_9_4 k x
theorem st_serves (k : SvK) (x : SvX) : st3_9 k x =
    bif decide (x.2.2.1 ≤ F10 (k.2.1, 0)) then
      (bif ((K3_9_2 k x).2.2 != (0 : Int)) || (K3_9_2 k x).1.2.2.2.2.2.2 then BOut.ret false
       else bif decide ((svW k x).2 > 2) then BOut.ret false
       else bif svS k x then BOut.ret (F15 ())
       else BOut.next k ((svW k x).1, (svW k x).2, IntKind.i64.wrap (x.2.2.1 + 1), (K3_9_2 k x).1, svN k x))
    else BOut.brk k x := by
  unfold st3_9 svW svN
  have hS : (((F14 (k.2.1, (K3_9_2 k x).1, F12 (x.2.2.2.2, ((Int.tmod ((G3_13 (k.1, x.2.2.1) ((0 : Int), (0 : Int), (0 : Int), (0 : Int), (0 : Int))).2.2.2.2) (3 : Int)) != (0 : Int))))).1 == k.2.2.1) && ((F14 (k.2.1, (K3_9_2 k x).1, F12 (x.2.2.2.2, ((Int.tmod ((G3_13 (k.1, x.2.2.1) ((0 : Int), (0 : Int), (0 : Int), (0 : Int), (0 : Int))).2.2.2.2) (3 : Int)) != (0 : Int))))).2 == k.2.2.2)) = svS k x := rfl
  rw [hS]
  generalize K3_9_2 k x = q
  generalize svS k x = sh
  cases decide (x.2.2.1 ≤ F10 (k.2.1, 0)) with
  | false => rfl
  | true =>
    simp only [cond_true]
    cases ((q.2.2 != (0 : Int)) || q.1.2.2.2.2.2.2) with
    | true => rfl
    | false =>
      simp only [cond_false]
      cases ((q.1.2.2.1.1 != (0 : Int)) && (q.1.2.2.1.2.1 == (0 : Int))) with
      | true =>
        simp only [cond_true]
        cases ((x.1 != (0 : Int)) && (x.1 != q.1.2.2.1.1)) <;> cases sh <;> cases ((q.2.1 == (1 : Int)) || (q.2.1 == (2 : Int))) <;> rfl
      | false =>
        simp only [cond_false]
        cases sh <;> cases ((q.2.1 == (1 : Int)) || (q.2.1 == (2 : Int))) <;> rfl
theorem serve_loop {n : Nat} (k : KindN n) (hk : ∀ f d o : Nat, d < 3 → k.ti f d o 0 0) (htb : ∀ t, k.tb t → t ≤ 2) {b : BldT} (hB : IsB b) (hl : b.cars.length ≤ maxLen) (hn : b.1 = n) (hp : 0 < (b.2.2.2.2.2.2.2.length : Int)) (call : Int × Int)
    (hpres : ∀ (oth : Int × Int) (c : Int), W oth.1 → W oth.2 → k.pres (F11 (call, oth)).1 (F11 (call, oth)).2 c)
    (hshow : ∀ (t : CarS) (r : RigT) (blk : Bool) (f d' : Nat), NS n t → f < n → t.2.1.1 = 2 → r.2.2.2.1 = 1 → r.2.2.1 = 0 → r.1 = (f : Int) → t.2.2.2.2.1 = (d' : Int) → k.hit f d' → F14 (b, t, rep r blk) = call)
    (m : List Int) (s0 : CarS) (r0 : RigT) (h0 : SI n (cT_ (cfgOf b 0)) (cS_ (cfgOf b 0)) (cH_ (cfgOf b 0)) s0 r0) : R3_9 (m, b, call) (0, 0, 0, s0, r0) = some true := by
  have hfl := hB.fl
  have htm := car_times hB (i := 0) (by decide) hp
  have hc : (0 : Int) ≤ 0 ∧ (0 : Int) < (b.2.2.2.2.2.2.2.length : Int) := ⟨Int.le_refl _, hp⟩
  have hT : 1 ≤ cT_ (cfgOf b 0) ∧ cT_ (cfgOf b 0) ≤ 10000 := htm.2.1
  have hS : 1 ≤ cS_ (cfgOf b 0) ∧ cS_ (cfgOf b 0) ≤ 10000 := htm.1
  have hH : 1 ≤ cH_ (cfgOf b 0) ∧ cH_ (cfgOf b 0) ≤ 10000 := htm.2.2.2
  have hsv := service_eq hB hl (i := 0) (by decide) hp
  have hsv1 : F10 (b, 0) = (3 * (n : Int) + 1) * (3 * (2 * cT_ (cfgOf b 0) + cH_ (cfgOf b 0) + 3) + cS_ (cfgOf b 0) + 2) := by rw [hsv.1, hn]
  have hsv2 := hsv.2
  have hv0 : wmax (cT_ (cfgOf b 0)) (cS_ (cfgOf b 0)) (cH_ (cfgOf b 0)) + (3 * (n : Int) * (3 * (2 * cT_ (cfgOf b 0) + cH_ (cfgOf b 0) + 3) + cS_ (cfgOf b 0) + 2) + 2 * (2 * cT_ (cfgOf b 0) + cH_ (cfgOf b 0) + 3)) ≤ F10 (b, 0) := by
    rw [hsv1, Int.add_mul]
    unfold wmax
    omega
  have h1 := (init_VN k hk hT.1 hS.1 hH.1 h0)
  unfold R3_9
  refine loop_spec (step := st3_9) (k := (m, b, call)) (fun x => 0 ≤ x.2.2.1 ∧ 0 ≤ x.2.1 ∧ SI n (cT_ (cfgOf b 0)) (cS_ (cfgOf b 0)) (cH_ (cfgOf b 0)) x.2.2.2.1 x.2.2.2.2 ∧ ∃ v, VN k (cT_ (cfgOf b 0)) (cS_ (cfgOf b 0)) (cH_ (cfgOf b 0)) x.2.2.2.1 x.2.2.2.2 v (x.1, x.2.1) ∧ v + x.2.2.1 ≤ F10 (b, 0)) (mu3_9 (m, b, call)) (fun o _ => o = some true) (fun x hx => ?_) _ _ ⟨Int.le_refl _, Int.le_refl _, h0, _, h1, by show _ + (0 : Int) ≤ _; omega⟩ (Nat.lt_succ_self _)
  obtain ⟨la, tu, i, s, r⟩ := x
  obtain ⟨hi0, htu0, hSI, v, hV, hvi⟩ := hx
  simp only at hi0 htu0 hSI hV hvi
  have hvp := hV.pos hT.1 hS.1 hH.1
  rw [st_serves]
  have ei : decide (i ≤ F10 (b, 0)) = true := by simp; omega
  have htu2 : tu ≤ 2 := by
    obtain ⟨_, _, _, _, _, _, _, _, h6, _⟩ := hV
    exact htb _ h6
  dsimp only
  rw [ei, cond_true]
  obtain ⟨p, oth, t1, t2, wp, wo1, wo2, ht1, ht2, e2, e3, e4⟩ : ∃ (p : Int) (oth : Int × Int) (t1 t2 : Int), W p ∧ W oth.1 ∧ W oth.2 ∧ (1 ≤ t1 ∧ t1 ≤ cS_ (cfgOf b 0)) ∧ (1 ≤ t2 ∧ t2 ≤ cT_ (cfgOf b 0)) ∧
      K3_9_2 (m, b, call) (la, tu, i, s, r) = F13 (b, 0, s, rep r (svB (m, b, call) (la, tu, i, s, r)), p, F11 (call, oth)) ∧
      K3_9_3 (m, b, call) (la, tu, i, s, r) = F16 (b.1, r, (K3_9_2 (m, b, call) (la, tu, i, s, r)).2.1, t1) ∧
      K3_9_4 (m, b, call) (la, tu, i, s, r) = F16 (b.1, r, (K3_9_2 (m, b, call) (la, tu, i, s, r)).2.1, t2) := by
    have tb : ∀ z y : Int, 1 ≤ y ∧ y ≤ 10000 → 1 ≤ IntKind.i64.wrap ((1 : Int) + (Int.tmod (IntKind.i64.wrap (IntKind.u8.wrap z)) y)) ∧ IntKind.i64.wrap ((1 : Int) + (Int.tmod (IntKind.i64.wrap (IntKind.u8.wrap z)) y)) ≤ y := by
      intro z y hy
      have a0 : 0 ≤ IntKind.u8.wrap z ∧ IntKind.u8.wrap z ≤ 255 := by rw [IntKind.wrap_u8]; omega
      rw [wrap_i64_of (x := IntKind.u8.wrap z) (by omega) (by omega)]
      have a1 : 0 ≤ Int.tmod (IntKind.u8.wrap z) y ∧ Int.tmod (IntKind.u8.wrap z) y < y := ⟨Int.tmod_nonneg _ a0.1, Int.tmod_lt_of_pos _ (by omega)⟩
      rw [wrap_i64_of (by omega) (by omega)]
      omega
    exact ⟨_, (_, _), _, _, W_wrap _, W_wrap _, W_wrap _, tb _ _ hS, tb _ _ hT, rfl, rfl, rfl⟩
  generalize hblk : svB (m, b, call) (la, tu, i, s, r) = blk at e2
  have wu : W (F11 (call, oth)).1 := W_or _ _
  have wd : W (F11 (call, oth)).2 := W_or _ _
  have hpr := fun c => hpres oth c wo1 wo2
  generalize F11 (call, oth) = hall at e2 wu wd hpr
  have hst := si_tick (car := 0) (press := p) (hall := hall) hB hl hn hc wp wu wd hSI blk
  rw [hst] at e2
  -- the drive
  have hrig : svN (m, b, call) (la, tu, i, s, r) = stp n r (ntick b 0 s (rep r blk) p hall).2 (if (ntick b 0 s (rep r blk) p hall).2 = 1 ∨ (ntick b 0 s (rep r blk) p hall).2 = 2 then t1 else t2) := by
    unfold svN
    rw [e3, e4, e2, rstep_eq, rstep_eq, hn]
    simp only
    by_cases hcm : (ntick b 0 s (rep r blk) p hall).2 = 1 ∨ (ntick b 0 s (rep r blk) p hall).2 = 2
    · have : (((ntick b 0 s (rep r blk) p hall).2 == (1 : Int)) || ((ntick b 0 s (rep r blk) p hall).2 == (2 : Int))) = true := by simpa using hcm
      rw [this, if_pos hcm, cond_true]
    · have : (((ntick b 0 s (rep r blk) p hall).2 == (1 : Int)) || ((ntick b 0 s (rep r blk) p hall).2 == (2 : Int))) = false := by rw [Bool.or_eq_false_iff]; simp; omega
      rw [this, if_neg hcm, cond_false]
  have htime : TimOk (cT_ (cfgOf b 0)) (cS_ (cfgOf b 0)) (ntick b 0 s (rep r blk) p hall).2 (if (ntick b 0 s (rep r blk) p hall).2 = 1 ∨ (ntick b 0 s (rep r blk) p hall).2 = 2 then t1 else t2) := by
    by_cases hcm : (ntick b 0 s (rep r blk) p hall).2 = 1 ∨ (ntick b 0 s (rep r blk) p hall).2 = 2
    · rw [if_pos hcm]; exact ⟨ht1.1, fun _ => ht1.2, fun z => by omega⟩
    · rw [if_neg hcm]; exact ⟨ht2.1, fun z => absurd z hcm, fun _ => ht2.2⟩
  rw [hrig]
  generalize (if (ntick b 0 s (rep r blk) p hall).2 = 1 ∨ (ntick b 0 s (rep r blk) p hall).2 = 2 then t1 else t2) = t at htime ⊢
  have hnx := si_step (car := 0) (press := p) (hall := hall) (t := t) (blk := blk) hB hl hn hc wp wu wd hSI htime
  have hpN := npress_NS (n := n) (f := r.1) (p := p) (s := s) (by omega) wp hSI.1
  rw [← hn] at hpN
  have hVp : VN k (cT_ (cfgOf b 0)) (cS_ (cfgOf b 0)) (cH_ (cfgOf b 0)) (npress b.1 r.1 s p) r v (la, tu) := hV
  have vt := vn_tick (dw := cD_ (cfgOf b 0)) (t := t) (blk := blk) (C := nC b (npress b.1 r.1 s p) r.1 hall) (N := nN b (npress b.1 r.1 s p) r.1 hall) (p := nP b 0 (npress b.1 r.1 s p) r.1) k (by omega) hT hS hH hpN hVp (hD_of k hB hl hn hc hpN wu wd (hpr _)) htime
  have vt1 : (VN k (cT_ (cfgOf b 0)) (cS_ (cfgOf b 0)) (cH_ (cfgOf b 0)) (ntick b 0 s (rep r blk) p hall).1 (stp n r (ntick b 0 s (rep r blk) p hall).2 t) (v - 1) (trn1 (ntick b 0 s (rep r blk) p hall).1.2.2.1 la tu) ∨
     ((ntick b 0 s (rep r blk) p hall).1.2.1.1 = 2 ∧ r.2.2.2.1 = 1 ∧ r.2.2.1 = 0 ∧ (∃ f d' : Nat, f < n ∧ r.1 = f ∧ (ntick b 0 s (rep r blk) p hall).1.2.2.2.2.1 = (d' : Int) ∧ k.hit f d') ∧ trn1 (ntick b 0 s (rep r blk) p hall).1.2.2.1 la tu = (la, tu))) ∧
    k.tb (trn1 (ntick b 0 s (rep r blk) p hall).1.2.2.1 la tu).2 ∧ ntick b 0 s (rep r blk) p hall = ncore (cD_ (cfgOf b 0)) (cH_ (cfgOf b 0)) (nC b (npress b.1 r.1 s p) r.1 hall) (nN b (npress b.1 r.1 s p) r.1 hall) (nP b 0 (npress b.1 r.1 s p) r.1) (rep r blk) (npress b.1 r.1 s p) := vt
  clear vt
  generalize ntick b 0 s (rep r blk) p hall = q at *
  have hW : svW (m, b, call) (la, tu, i, s, r) = trn1 q.1.2.2.1 la tu := by
    unfold svW trn1
    rw [e2]
    simp only
    rw [wrap_i64_of (x := tu + 1) (by omega) (by omega)]
    simp only [cond_eq_ite, Bool.and_eq_true, bne_iff_ne, ne_eq, beq_iff_eq]
  have hfa : q.1.2.2.2.2.2.2 = false := hnx.1.fa
  have hshv : svS (m, b, call) (la, tu, i, s, r) = ((F14 (b, q.1, rep r blk)).1 == call.1 && (F14 (b, q.1, rep r blk)).2 == call.2) := by
    unfold svS
    rw [e2, hblk]
  rw [hW, hshv, e2]
  have h2 := htb _ vt1.2.1
  have ed : decide ((trn1 q.1.2.2.1 la tu).2 > 2) = false := by simp; omega
  simp only [hfa, ed, bne_self_eq_false, Bool.or_self, cond_false]
  have htu' : 0 ≤ (trn1 q.1.2.2.1 la tu).2 := by
    unfold trn1
    split
    · simp only; split <;> omega
    · exact htu0
  rcases vt1.1 with hv' | ⟨g1, g2, g3, ⟨f, d', g4, g5, g6, g7⟩, _⟩
  · cases hsc : ((F14 (b, q.1, rep r blk)).1 == call.1 && (F14 (b, q.1, rep r blk)).2 == call.2) with
    | true => rw [cond_true, nsane]
    | false =>
      rw [cond_false, wrap_i64_of (x := i + 1) (by omega) (by omega)]
      refine ⟨⟨by show 0 ≤ i + 1; omega, htu', hnx, v - 1, hv', by show v - 1 + (i + 1) ≤ _; omega⟩, ?_⟩
      unfold mu3_9
      simp only
      omega
  · have hcl := hshow q.1 r blk f d' hnx.1 g4 g1 g2 g3 g5 g6 g7
    rw [hcl]
    simp only [beq_self_eq_true, Bool.and_self, cond_true, nsane]
theorem rone_up (g : Nat) (hg : g < 32) : F9 ((g : Int), 1) = (shl32 1 (g : Int), 0) := by
  unfold F9
  have e : (decide ((g : Int) < 0) || decide ((g : Int) > 31)) = false := by rw [Bool.or_eq_false_iff]; exact ⟨decide_eq_false (by omega), decide_eq_false (by omega)⟩
  simp only
  rw [e, u64_id (x := (g : Int)) (by omega)]
  rfl
theorem rone_dn (g : Nat) (hg : g < 32) : F9 ((g : Int), 2) = (0, shl32 1 (g : Int)) := by
  unfold F9
  have e : (decide ((g : Int) < 0) || decide ((g : Int) > 31)) = false := by rw [Bool.or_eq_false_iff]; exact ⟨decide_eq_false (by omega), decide_eq_false (by omega)⟩
  simp only
  rw [e, u64_id (x := (g : Int)) (by omega)]
  rfl
theorem serves_true (n0 n1 n2 : Int) (l m : List Int) (u0 : 0 ≤ n0 ∧ n0 ≤ 255) (u1 : 0 ≤ n1 ∧ n1 ≤ 255) (u2 : 0 ≤ n2 ∧ n2 ≤ 255) (h8 : ∀ y ∈ l, 0 ≤ y ∧ y ≤ 255) : F3 ((n0, n1, n2), l, m) = true := by
  have hm : (0 ≤ (n0, n1).1 ∧ (n0, n1).1 ≤ 255) ∧ 0 ≤ (n0, n1).2 ∧ (n0, n1).2 ≤ 255 := ⟨u0, u1⟩
  obtain ⟨n, hn, hn2, hn6, hB, hl, hp⟩ := law_b (m := (n0, n1)) hm
  have hs := state_SI l h8 hB hl hn hp
  have hn32 : n ≤ 32 := by omega
  unfold F3
  simp only
  generalize F7 (n0, n1) = b at *
  rw [wrap_i64_of (x := n2) (by omega) (by omega), wrap_i64_of (x := b.1 - 1) (by omega) (by omega), hn]
  obtain ⟨g, eg, hg⟩ : ∃ g : Nat, Int.tmod n2 ((n : Int) - 1) = (g : Int) ∧ g + 1 < n := by
    rw [Int.tmod_eq_emod_of_nonneg u2.1]
    have a1 := Int.emod_nonneg n2 (show (n : Int) - 1 ≠ 0 by omega)
    have a2 := Int.emod_lt_of_pos n2 (show 0 < (n : Int) - 1 by omega)
    exact ⟨(n2 % ((n : Int) - 1)).toNat, by omega, by omega⟩
  rw [eg, wrap_i64_of (x := (g : Int) + 1) (by omega) (by omega), show ((g : Int) + 1) = ((g + 1 : Nat) : Int) by omega, rone_up g (by omega), rone_dn (g + 1) (by omega)]
  have hu := serve_loop (upN n g hn32 hn2 hg) (fun f d o hd => by
      show TIu n g f d o 0 0
      unfold TIu; omega) (fun t h => h) hB hl hn hp (shl32 1 (g : Int), 0) (fun oth c w1 w2 => by
      show bit (or32 (shl32 1 (g : Int)) oth.1) g = true
      rw [bit_or (W_shl _ _).1 w1.1 g (by omega), bit_one g g (by omega)]
      simp) (fun t r blk f d' hN hf h2 hd hv er es hh => by
      obtain ⟨e1, e2⟩ : f = g ∧ d' = 1 := hh
      subst e1 e2
      rw [shows_val hB hl hn hN hf h2 hd hv er, if_pos ⟨by rw [es]; rfl, hg⟩]) m _ _ hs
  have hd := serve_loop (dnN n (g + 1) hn32 hn2 ⟨by omega, hg⟩) (fun f d o hd => by
      show TId n (g + 1) f d o 0 0
      unfold TId; omega) (fun t h => h) hB hl hn hp (0, shl32 1 ((g + 1 : Nat) : Int)) (fun oth c w1 w2 => by
      show bit (or32 (shl32 1 ((g + 1 : Nat) : Int)) oth.2) (g + 1) = true
      rw [bit_or (W_shl _ _).1 w2.1 (g + 1) (by omega), bit_one (g + 1) (g + 1) (by omega)]
      simp) (fun t r blk f d' hN hf h2 hd hv er es hh => by
      obtain ⟨e1, e2⟩ : f = g + 1 ∧ d' = 2 := hh
      subst e1 e2
      rw [shows_val hB hl hn hN hf h2 hd hv er, if_neg (by rw [es]; simp), if_pos ⟨by rw [es]; rfl, by omega⟩]) m _ _ hs
  have hu' : R3_9 (m, b, (shl32 1 (g : Int), 0)) (0, 0, 0, F8 (b, 0, l)) = some true := hu
  have hd' : R3_9 (m, b, (0, shl32 1 ((g + 1 : Nat) : Int))) (0, 0, 0, F8 (b, 0, l)) = some true := hd
  rw [hu', hd']
  cases decide (n2 > 127) <;> rfl
theorem law_serves (x : ct3.p.den) (h : InR ct3.p x) : ct3.F x = true :=
  have k : F3 x = true := serves_true x.1.1 x.1.2.1 x.1.2.2 x.2.1 x.2.2 (u8_of h.1.1) (u8_of h.1.2.1) (u8_of h.1.2.2) (fun y hy => u8_of (h.2.1.2 y hy))
  k
end Go.Proofs.YtpbljgpdhllklaaGreatDoor.Sp
end

section
/- NewcarServes: the call of the law returns true (written by own program mkwalk.py, out of the contract and the plain law). -/
namespace Go.Proofs.YtpbljgpdhllklaaGreatDoor.Sy
open Go Go.RowKit
set_option linter.unusedVariables false
set_option linter.unusedSimpArgs false
set_option maxRecDepth 100000
theorem tr_T5 {w : World} (cs : List Value) (h : E_T5 cs) : ∃ x : ty5.den, TR w (fun _ _ => False) ty5 x cs ∧ InR ty5 x := by
  obtain ⟨a0, rfl, w0⟩ := h
  exact ⟨a0, tr_of ⟨rfl, trivial⟩, w0⟩
theorem pre_law (x : ct3.p.den) (h : InR ct3.p x) : ∀ q, ct3.pre = some q → q x := by
  intro q hq
  cases hq
  simp only [ct3, InR, Lit.wf, Bool.and_eq_true, decide_eq_true_eq] at h
  simp only [Sp.pre3]
  try simp only [show IntKind.u8.min = 0 from rfl, show IntKind.u8.max = 255 from rfl, show IntKind.u16.min = 0 from rfl, show IntKind.u16.max = 65535 from rfl, show IntKind.u32.min = 0 from rfl, show IntKind.u32.max = 4294967295 from rfl, show IntKind.u64.min = 0 from rfl, show IntKind.u64.max = 18446744073709551615 from rfl, show IntKind.i64.min = -9223372036854775808 from rfl, show IntKind.i64.max = 9223372036854775807 from rfl] at h
  repeat' (first | exact trivial | apply And.intro)
  all_goals first | omega | (intro v hv; first | exact h.2.2.2 v hv | exact h.2.2 v hv | exact h.2 v hv | exact h.1.2 v hv | exact h.2.1.2 v hv | exact h.2.2.1.2 v hv | exact h.2.2.2.2 v hv)
theorem walk_NewcarServes (a0_0 : Int) (a0_1 : Int) (a0_2 : Int) (a1_0 : Value) (a2_0 : Value) (w : World) (w0_0 : (Lit.int .u8 a0_0).wf = true) (w0_1 : (Lit.int .u8 a0_1).wf = true) (w0_2 : (Lit.int .u8 a0_2).wf = true) (w1_0 : IsSlice w 1 E_T5 a1_0) (w2_0 : IsSlice w 1 E_T5 a2_0) (hT : gdS.H w) :
    Calls Tryz.prog 3 #[.agg #[.int .u8 a0_0, .int .u8 a0_1, .int .u8 a0_2], a1_0, a2_0] w fun e w' => e = .returned (.bool true) ∧ Below w.heap.size w w' := by
  obtain ⟨l1_0, t1_0, r1_0⟩ := slice_tr (e := ty5) rfl tr_T5 w1_0
  obtain ⟨l2_0, t2_0, r2_0⟩ := slice_tr (e := ty5) rfl tr_T5 w2_0
  exact call_true ok3 ((a0_0, a0_1, a0_2), l1_0, l2_0) w _ [.int .u8 a0_0, .int .u8 a0_1, .int .u8 a0_2, a1_0, a2_0] hT (pre_law _ ⟨⟨w0_0, w0_1, w0_2⟩, r1_0, r2_0⟩) ⟨[.int .u8 a0_0, .int .u8 a0_1, .int .u8 a0_2], _, rfl, rfl, rfl, ⟨_, rfl, ⟨_, rfl, rfl⟩⟩⟩ (tr_of ⟨rfl, rfl, rfl, ⟨t1_0, trivial⟩, ⟨t2_0, trivial⟩, trivial⟩) (Sp.law_serves _ ⟨⟨w0_0, w0_1, w0_2⟩, r1_0, r2_0⟩)
end Go.Proofs.YtpbljgpdhllklaaGreatDoor.Sy
end

section
/- NewcarServes: for every input the call of the law returns true, and the arguments read behind the call as before. The walk stands in YtpbljgpdhllklaaGreatDoorNewcarServesWalk. -/
namespace Go.Proofs.YtpbljgpdhllklaaGreatDoor.newcarServes
open Go.ChangeShapes Go.WideShapes Go.ChangeAt Go.RowKit
set_option linter.unusedVariables false
theorem own : ownKnob Tryz.prog.godebug = none := by kernel_rfl
theorem laidOut : laidOutB Tryz.prog = true := by kernel_rfl
theorem gTab : Tryz.prog.globalNamed "math/bits.deBruijn32tab" = some 0 := by kernel_rfl
theorem door_met (os : Os) (args : Array Value) : laidMetH Tryz.prog Rows.newcarServesRow.laid ((World.doorLaid Tryz.prog 400 os).forCall (fun _ _ => 0) ⟨#[], args, []⟩).memory :=
  laidMetH_of_parts3 (fuel := 8) (laidMet_of_run' 8 (by kernel_rfl) (by kernel_rfl)) (by kernel_rfl) (by kernel_rfl)
theorem of_laid {W : World} (h : laidMetH Tryz.prog Rows.newcarServesRow.laid W) : Sy.gdS.H W := by
  have h : laidMet Tryz.prog [("math/bits.deBruijn32tab", Lib.tabData .u8 Sy.tabB)] W := h
  obtain ⟨t, ht⟩ : ∃ t, (Tryz.prog.globals[0]?).map (·.type) = some t := ⟨_, rfl⟩
  have hT := Lib.tabIs_of_head (n := 32) (t := 161) (e := 5) gTab (by kernel_rfl) Tryz.underlying161 Tryz.underlying5 (by kernel_rfl) (by kernel_rfl) h
  exact fun k hk => hT.cell gTab k hk
set_option maxRecDepth 100000 in
theorem lifted (os : Os) (started : os.Started) (H : Type) (enc : TypeId × Value → H) :
    ReturnsInHanded {} Tryz.checked os 3 .any (fun w args => (Rows.newcarServesSpec.pre enc Tryz.prog Tryz.f3 [] false w args ∧ laidMetH Tryz.prog Rows.newcarServesRow.laid w) ∧ sizedMet enc Tryz.prog Tryz.f3 (OpenSpec.ofChange Rows.newcarServesSpec) false w args)
      (Rows.newcarServesSpec.post enc Tryz.prog Tryz.f3 false true false false) := by
  refine returnsInHanded_of_change_and (C := Tryz.checked) (X := fun w _ => laidMetH Tryz.prog Rows.newcarServesRow.laid w) (fun _ _ _ hh h => h.of_heap hh) own started (by kernel_rfl) Tryz.func3
    (ChangeSpec.witness_shaped (enc := enc) (C := Tryz.checked) (os := os) (X := fun w _ => laidMetH Tryz.prog Rows.newcarServesRow.laid w) false (World.doorLaid Tryz.prog 400 os) #[.agg #[.int .u8 0, .int .u8 0, .int .u8 0], .slice none 0 0, .slice none 0 0] 8 rfl (World.shaped_of_RefB (by kernel_rfl) (by kernel_rfl)) (by kernel_rfl) (by kernel_rfl) (by kernel_rfl) (door_met os _)) ?_
  intro W base args ds gs before hval0 hW hcnd _ hL _
  have hH := of_laid hL
  have hval : ∀ (j : Nat) t v, Tryz.f3.params[j]? = some t → args[j]? = some v → Value.okWide Tryz.prog W .any base t v := hval0
  have hW' := hW
  obtain ⟨p, q, hA0, hV, rfl, hfz, hnd⟩ := hW
  have hA : DataW.TrodAll enc Tryz.prog W 0 (fun _ => true) true Tryz.f3.params.toList args.toList ds p := hA0
  rw [Tryz.params3] at hA hval
  obtain ⟨v0, vs0, d0, ds0, p0, q0, hargs, rfl, rfl, h0, r0⟩ := trodAll_cons hA
  obtain ⟨v1, vs1, d1, ds1, p1, q1, rfl, rfl, rfl, h1, r1⟩ := trodAll_cons r0
  obtain ⟨v2, vs2, d2, ds2, p2, q2, rfl, rfl, rfl, h2, r2⟩ := trodAll_cons r1
  obtain ⟨rfl, rfl, rfl⟩ := trodAll_nil r2
  obtain rfl : args = #[v0, v1, v2] := by cases args; simp_all
  obtain ⟨rfl, rfl⟩ := trodVars_none hV
  have k0 := h0
  have lt0 : ∀ x ∈ p0, x.block < W.heap.size := by obtain ⟨m, hm⟩ := k0; exact DataW.trod_lt m _ _ _ hm
  obtain ⟨c0, rfl, hsz0⟩ := okWide_array Tryz.underlying22 (hval 0 22 v0 rfl rfl)
  obtain ⟨fuel0, hf0⟩ := h0
  obtain ⟨a0_0, a0_1, a0_2, e0, w0_0, w0_1, w0_2⟩ := open_T22 hf0
  have e0' : c0 = #[.int .u8 a0_0, .int .u8 a0_1, .int .u8 a0_2] := by rw [← Array.toList_inj]; exact e0
  subst e0'
  have k1 := h1
  have lt1 : ∀ x ∈ p1, x.block < W.heap.size := by obtain ⟨m, hm⟩ := k1; exact DataW.trod_lt m _ _ _ hm
  obtain ⟨b1, l1, cp1, rfl⟩ := okWide_slice Tryz.underlying23 (hval 1 23 v1 rfl rfl)
  obtain ⟨fuel1, hf1⟩ := h1
  obtain ⟨a1_0, e1, w1_0⟩ := open_T23 hf1
  simp only [Value.cells, List.cons.injEq, and_true] at e1
  subst e1
  have k2 := h2
  have lt2 : ∀ x ∈ p2, x.block < W.heap.size := by obtain ⟨m, hm⟩ := k2; exact DataW.trod_lt m _ _ _ hm
  obtain ⟨b2, l2, cp2, rfl⟩ := okWide_slice Tryz.underlying23 (hval 2 23 v2 rfl rfl)
  obtain ⟨fuel2, hf2⟩ := h2
  obtain ⟨a2_0, e2, w2_0⟩ := open_T23 hf2
  simp only [Value.cells, List.cons.injEq, and_true] at e2
  subst e2
  clear hA0 hval0
  refine (Sy.walk_NewcarServes a0_0 a0_1 a0_2 (.slice b1 l1 cp1) (.slice b2 l2 cp2) W w0_0 w0_1 w0_2 w1_0 w2_0 hH).mono fun e W' ⟨he, bel⟩ => ?_
  subst he
  exact ⟨_, rfl, _, _, _, [], _, [], hW', trodAll_mk1 (shut_bool Tryz.underlying4 _), (trodAll_cons_mk (Below.trod laidOut (by kernel_rfl) (of_decide_eq_true (by kernel_rfl)) k0 bel lt0) (trodAll_cons_mk (Below.trod laidOut (by kernel_rfl) (of_decide_eq_true (by kernel_rfl)) k1 bel lt1) (trodAll_cons_mk (Below.trod laidOut (by kernel_rfl) (of_decide_eq_true (by kernel_rfl)) k2 bel lt2) trodAll_mk0))), rfl, bel.frame _, fun h => by cases h⟩
theorem over : Rows.newcarServesRow.holds Tryz.pinned (OpenSpec.ofChange Rows.newcarServesSpec) :=
  OpenClaim.holds_of_wide 3 Tryz.f3 rfl rfl rfl rfl rfl rfl rfl ⟨rfl, rfl, rfl, rfl, rfl⟩ rfl rfl rfl rfl rfl (by kernel_rfl) Tryz.func3 (by kernel_rfl)
    (of_decide_eq_true (by kernel_rfl)) (by unfold Func.isWrapper; first | (rw [if_pos (by decide +kernel)]; kernel_rfl) | (rw [if_neg (by decide +kernel)]; exact ⟨rfl, rfl⟩))
    (fun os started H enc _ => lifted os started H enc)
theorem proved : Rows.NewcarServesCardSaid :=
  Claim7.holds_tied_plain_at .later [] [.data] true (true, "d69dd28ed30ce8425af044c7ea17a0c1c31d9d14070bd9dcefe8f8e4de0fef6d") false
    over (fun _ h => by cases h) (by kernel_rfl) (fun _ h => by cases h) newcarServes_row_tie rfl ⟨rfl, rfl⟩ (by kernel_rfl) rfl
    (fun f fn hf hfn => by
      obtain rfl : f = 3 := Option.some.inj ((show Tryz.prog.funcNamed "overlay/overlaylaw15.NewcarServes" = some 3 by kernel_rfl).symm.trans hf) |>.symm
      obtain rfl : fn = Tryz.f3 := (Option.some.inj (Tryz.func3.symm.trans hfn)).symm
      exact ⟨by kernel_rfl, fun j t ht => by
        rw [Tryz.params3] at ht
        have h3 : t ∈ ([22, 23, 23] : List TypeId) := List.mem_of_getElem? (by simpa using ht)
        simp only [List.mem_cons, List.not_mem_nil, or_false] at h3
        rcases h3 with rfl | rfl | rfl
        · exact (show Tryz.prog.wantsStandIn 22 = false by kernel_rfl)
        · exact (show Tryz.prog.wantsStandIn 23 = false by kernel_rfl)
        · exact (show Tryz.prog.wantsStandIn 23 = false by kernel_rfl)⟩)
    (by kernel_rfl)
#print axioms proved
end Go.Proofs.YtpbljgpdhllklaaGreatDoor.newcarServes
end
