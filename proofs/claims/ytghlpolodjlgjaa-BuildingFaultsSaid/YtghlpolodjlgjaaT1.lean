/- Contracts of functions, by the evaluator (own program gen.py): building.times, overlayref01.times. -/
import Derived.Test.YtghlpolodjlgjaaT0
set_option linter.unusedVariables false
set_option linter.unusedSimpArgs false
set_option maxRecDepth 100000
namespace Go.Proofs.Ytghlpolodjlgjaa.Sy
open Go Go.RowKit Sp
/-! building.times -/
end Go.Proofs.Ytghlpolodjlgjaa.Sy
namespace Go.Proofs.Ytghlpolodjlgjaa.Sp
open Go Go.RowKit Sy
def F18 (x : (Int × Int × Int × Int × Int × Int × Int × Int × Int) × Int) : Bool :=
  ((((Sp.F17 ((1 : Int), (10000 : Int), [x.1.1, x.1.2.1, x.1.2.2.1, x.1.2.2.2.2.1, x.1.2.2.2.2.2.1, x.1.2.2.2.2.2.2.1, x.1.2.2.2.2.2.2.2.1])) && (Sp.F17 ((0 : Int), (10000 : Int), [x.1.2.2.2.1]))) && (decide (x.1.2.2.2.2.2.2.2.1 ≥ x.1.2.2.2.2.2.2.1))) && (Sp.F17 ((0 : Int), (IntKind.i64.wrap (x.2 - (1 : Int))), [x.1.2.2.2.2.2.2.2.2])))
end Go.Proofs.Ytghlpolodjlgjaa.Sp
namespace Go.Proofs.Ytghlpolodjlgjaa.Sy
def ct18 : Ct := { p := (Ty.pair ty30 ty3), psh := [some 9, none], r := ty4, rsh := (Rsh.one (none)), pre := none, fresh := none, F := Sp.F18 }
theorem va18 (x : (Ty.pair ty30 ty3).den) : ((evFn (ctxG GmT0) Try.f18 (Ty.pair ty30 ty3) [some 9, none] (Rsh.one (none)) none ty4 noL x)).val (fun y => y) (Ty.dflt ty4) = Sp.F18 x := by kernel_rfl
theorem se18 (x : (Ty.pair ty30 ty3).den) : ((evFn (ctxG GmT0) Try.f18 (Ty.pair ty30 ty3) [some 9, none] (Rsh.one (none)) none ty4 noL x)).safe = (True) := by kernel_rfl
theorem sa18 (x : (Ty.pair ty30 ty3).den) (fx : Fit (Ty.pair ty30 ty3) x) : SafeW ((evFn (ctxG GmT0) Try.f18 (Ty.pair ty30 ty3) [some 9, none] (Rsh.one (none)) none ty4 noL x)) := by
  refine ⟨?_⟩
  rw [se18]
  trivial
theorem ok18 : CtOk Try.prog gdS 18 ct18 :=
  fn_okU (ctxOkF gokGmT0 []) rfl Try.func18 (p := (Ty.pair ty30 ty3)) (psh := [some 9, none]) (r := ty4) (rsh := (Rsh.one (none))) (pre := none) (fresh := none) (F := Sp.F18) (L := noL) (c := bodyOf Try.f18) (dflt := Ty.dflt ty4) rfl (no_loops)
    (safe_no @sa18) va18
/-! overlayref01.times -/
end Go.Proofs.Ytghlpolodjlgjaa.Sy
namespace Go.Proofs.Ytghlpolodjlgjaa.Sp
open Go Go.RowKit Sy
def in21_5 (k : (List Int)) (x : (Int)) : Prop := (0 : Int) ≤ x ∧ k.length = 8
def mu21_5 (k : (List Int)) (x : (Int)) : Nat := ((7 : Int) - x).toNat
def st21_5 (k : (List Int)) (x : (Int)) : BOut (List Int) (Int) (Bool) :=
  bif (decide (x < (7 : Int))) then
    (bif (!(Sp.F20 ((Sp.nthT k x), (1 : Int), (10000 : Int)))) then
      BOut.ret false
    else
      BOut.next k (IntKind.i64.wrap (x + (1 : Int))))
  else
    BOut.brk k x
def G21_5 (k : (List Int)) (x : (Int)) : (Int) := endOf st21_5 k (Nat.succ (mu21_5 k x)) x
def R21_5 (k : (List Int)) (x : (Int)) : Option (Bool) := retOf st21_5 k (Nat.succ (mu21_5 k x)) x
end Go.Proofs.Ytghlpolodjlgjaa.Sp
namespace Go.Proofs.Ytghlpolodjlgjaa.Sy
def LS21_5 : LS ty4.den := mkLS ty57 ty3  [(5, none)] [] [(6, none)] [] [] [] [] 0 true Sp.in21_5 Sp.st21_5 Sp.mu21_5
theorem va21_5 (k : ty57.den) (x : ty3.den) : ((evCode (ctxG GmT0) (lookL []) (bodyAt (bodyOf Try.f21) [0]) (tmpl LS21_5 (enc ty57 k) (enc ty3 x)) (evRound LS21_5 (evRet (ctxG GmT0) Try.f21 (Rsh.one (none)) none ty4 .ret)))).val BOut.ret (BOut.brk (Ty.dflt ty57) (Ty.dflt ty3)) = Sp.st21_5 k x := by kernel_rfl
theorem se21_5 (k : ty57.den) (x : ty3.den) : ((evCode (ctxG GmT0) (lookL []) (bodyAt (bodyOf Try.f21) [0]) (tmpl LS21_5 (enc ty57 k) (enc ty3 x)) (evRound LS21_5 (evRet (ctxG GmT0) Try.f21 (Rsh.one (none)) none ty4 .ret)))).safe = ((((decide (x < (7 : Int))) = true → ((0 ≤ x ∧ x < ((k).length : Int)) ∧ (((!(Sp.F20 ((Sp.nthT k x), (1 : Int), (10000 : Int)))) = true → True) ∧ ((!(Sp.F20 ((Sp.nthT k x), (1 : Int), (10000 : Int)))) = false → True)))) ∧ ((decide (x < (7 : Int))) = false → True))) := by kernel_rfl
set_option maxHeartbeats 4000000 in
theorem sa21_5 (k : ty57.den) (x : ty3.den) (fk : Fit ty57 k) (fx : Fit ty3 x) (h : Sp.in21_5 k x) : SafeW ((evCode (ctxG GmT0) (lookL []) (bodyAt (bodyOf Try.f21) [0]) (tmpl LS21_5 (enc ty57 k) (enc ty3 x)) (evRound LS21_5 (evRet (ctxG GmT0) Try.f21 (Rsh.one (none)) none ty4 .ret)))) := by
  refine ⟨?_⟩
  rw [se21_5]
  try dsimp only [Ty.den] at *
  simp only [Sp.in21_5, Fit, maxLen] at h fk fx
  simp only [IntKind.wrap_i64, IntKind.wrap_u8, IntKind.wrap_u32, IntKind.wrap_u64, Sp.tmod_lit, Sp.tdiv_lit, bne_eq_false_iff_eq, Int.natCast_inj, setE, copyL, sliceL, zrow, List.length_append, List.length_cons, List.length_nil, List.length_set, List.length_replicate, List.length_take, List.length_drop, decide_eq_true_eq, decide_eq_false_iff_not, Bool.or_eq_true, Bool.and_eq_true, Bool.or_eq_false_iff, Bool.and_eq_false_iff, Bool.not_eq_true', Bool.not_eq_false', Bool.not_eq_true, Bool.not_eq_false, beq_iff_eq, beq_eq_false_iff_ne, bne_iff_ne, ne_eq, implies_true, and_true, true_and] at *
  all_goals ((repeat' (first | exact trivial | apply And.intro | intro _)) <;> first | trivial | omega | exact Sp.tmod_nn (by omega) | exact Sp.tmod_lt (by omega) (by omega))
set_option maxHeartbeats 4000000 in
theorem so21_5 (k : ty57.den) (x : ty3.den) (fk : Fit ty57 k) (h : Sp.in21_5 k x) : StepOk true Sp.in21_5 Sp.mu21_5 k x (Sp.st21_5 k x) := by
  try dsimp only [Ty.den] at *
  simp only [Sp.in21_5, Fit, maxLen] at h fk
  unfold Sp.st21_5
  (repeat' (first | exact rfl | (refine StepOk.cnd (fun hc => ?_) (fun hc => ?_) <;> (try simp only [IntKind.wrap_i64, IntKind.wrap_u8, IntKind.wrap_u32, IntKind.wrap_u64, bne_eq_false_iff_eq, Int.natCast_inj, setE, copyL, sliceL, zrow, List.length_append, List.length_cons, List.length_nil, List.length_set, List.length_replicate, List.length_take, List.length_drop, decide_eq_true_eq, decide_eq_false_iff_not, Bool.or_eq_true, Bool.and_eq_true, Bool.or_eq_false_iff, Bool.and_eq_false_iff, Bool.not_eq_true', Bool.not_eq_false', Bool.not_eq_true, Bool.not_eq_false, beq_iff_eq, beq_eq_false_iff_ne, bne_iff_ne, ne_eq] at hc)) | refine StepOk.opt (fun _ => ?_))) <;> (first | exact rfl | (refine ⟨rfl, ?_, ?_⟩ <;> simp only [Sp.in21_5, Sp.mu21_5, IntKind.wrap_i64, IntKind.wrap_u8, IntKind.wrap_u32, IntKind.wrap_u64, Sp.tmod_lit, Sp.tdiv_lit, bne_eq_false_iff_eq, Int.natCast_inj, setE, copyL, sliceL, zrow, List.length_append, List.length_cons, List.length_nil, List.length_set, List.length_replicate, List.length_take, List.length_drop, decide_eq_true_eq, decide_eq_false_iff_not, Bool.or_eq_true, Bool.and_eq_true, Bool.or_eq_false_iff, Bool.and_eq_false_iff, Bool.not_eq_true', Bool.not_eq_false', Bool.not_eq_true, Bool.not_eq_false, beq_iff_eq, beq_eq_false_iff_ne, bne_iff_ne, ne_eq] <;> first | omega | (and_intros <;> first | omega | exact h.1 | exact h.2 | exact h.2.1 | exact h.2.2 | exact h.2.2.1 | exact h.2.2.2 | exact h.2.2.2.1 | exact h.2.2.2.2 | exact h.2.2.2.2.1 | exact h.2.2.2.2.2 | exact h.2.2.2.2.2.1 | exact h.2.2.2.2.2.2)))
theorem lo21_5 : LoopOk Try.prog gdS (RetAt Try.prog Try.f21 (Rsh.one (none)) none ty4) (bodyAt (bodyOf Try.f21) [0]) LS21_5 :=
  loop_run (ctxOkF gokGmT0 []) (L := lookL []) (loops_of (l := []) (by kernel_rfl) (loops_nil)) sa21_5 va21_5 so21_5
end Go.Proofs.Ytghlpolodjlgjaa.Sy
namespace Go.Proofs.Ytghlpolodjlgjaa.Sp
open Go Go.RowKit Sy
def F21 (x : (Int × Int × Int × Int × Nat × Nat × Nat × List (Int × Int × Int × Int × Int × Int × Int × Int × Int)) × Int × Int × Int × Int × Int × Int × Int × Int × Int) : Bool :=
  bif ((decide (x.2.2.2.2.1 < (0 : Int))) || (decide (x.2.2.2.2.1 > (10000 : Int)))) then
    false
  else
    Sp.optR (Sp.R21_5 [x.2.1, x.2.2.1, x.2.2.2.1, x.2.2.2.2.2.1, x.2.2.2.2.2.2.1, x.2.2.2.2.2.2.2.1, x.2.2.2.2.2.2.2.2.1, (IntKind.i64.wrap (x.2.2.2.2.1 + (1 : Int)))] (0 : Int)) (fun y => y)
    (((decide (x.2.2.2.2.2.2.2.2.1 ≥ x.2.2.2.2.2.2.2.1)) && (Sp.F20 (x.2.2.2.2.2.2.2.2.2, (0 : Int), (IntKind.i64.wrap (x.1.1 - (1 : Int)))))))
end Go.Proofs.Ytghlpolodjlgjaa.Sp
namespace Go.Proofs.Ytghlpolodjlgjaa.Sy
def ct21 : Ct := { p := (Ty.pair ty26 ty30), psh := [some 8, some 9], r := ty4, rsh := (Rsh.one (none)), pre := none, fresh := none, F := Sp.F21 }
theorem va21 (x : (Ty.pair ty26 ty30).den) : ((evFn (ctxG GmT0) Try.f21 (Ty.pair ty26 ty30) [some 8, some 9] (Rsh.one (none)) none ty4 (lookL [(5, LS21_5)]) x)).val (fun y => y) (Ty.dflt ty4) = Sp.F21 x := by kernel_rfl
theorem se21 (x : (Ty.pair ty26 ty30).den) : ((evFn (ctxG GmT0) Try.f21 (Ty.pair ty26 ty30) [some 8, some 9] (Rsh.one (none)) none ty4 (lookL [(5, LS21_5)]) x)).safe = (((((decide (x.2.2.2.2.1 < (0 : Int))) || (decide (x.2.2.2.2.1 > (10000 : Int)))) = true → True) ∧ (((decide (x.2.2.2.2.1 < (0 : Int))) || (decide (x.2.2.2.2.1 > (10000 : Int)))) = false → ((Sp.in21_5 [x.2.1, x.2.2.1, x.2.2.2.1, x.2.2.2.2.2.1, x.2.2.2.2.2.2.1, x.2.2.2.2.2.2.2.1, x.2.2.2.2.2.2.2.2.1, (IntKind.i64.wrap (x.2.2.2.2.1 + (1 : Int)))] (0 : Int)) ∧ ((Sp.R21_5 [x.2.1, x.2.2.1, x.2.2.2.1, x.2.2.2.2.2.1, x.2.2.2.2.2.2.1, x.2.2.2.2.2.2.2.1, x.2.2.2.2.2.2.2.2.1, (IntKind.i64.wrap (x.2.2.2.2.1 + (1 : Int)))] (0 : Int)) = none → True))))) := by kernel_rfl
theorem sa21 (x : (Ty.pair ty26 ty30).den) (fx : Fit (Ty.pair ty26 ty30) x) : SafeW ((evFn (ctxG GmT0) Try.f21 (Ty.pair ty26 ty30) [some 8, some 9] (Rsh.one (none)) none ty4 (lookL [(5, LS21_5)]) x)) := by
  refine ⟨?_⟩
  rw [se21]
  try dsimp only [Ty.den] at *
  simp only [Fit, maxLen] at fx
  simp only [Sp.in21_5, IntKind.wrap_i64, IntKind.wrap_u8, IntKind.wrap_u32, IntKind.wrap_u64, Sp.tmod_lit, Sp.tdiv_lit, bne_eq_false_iff_eq, Int.natCast_inj, setE, copyL, sliceL, zrow, List.length_append, List.length_cons, List.length_nil, List.length_set, List.length_replicate, List.length_take, List.length_drop, decide_eq_true_eq, decide_eq_false_iff_not, Bool.or_eq_true, Bool.and_eq_true, Bool.or_eq_false_iff, Bool.and_eq_false_iff, Bool.not_eq_true', Bool.not_eq_false', Bool.not_eq_true, Bool.not_eq_false, beq_iff_eq, beq_eq_false_iff_ne, bne_iff_ne, ne_eq, implies_true, and_true, true_and] at *
  all_goals ((repeat' (first | exact trivial | apply And.intro | intro _)) <;> first | trivial | omega | exact Sp.tmod_nn (by omega) | exact Sp.tmod_lt (by omega) (by omega))
theorem ok21 : CtOk Try.prog gdS 21 ct21 :=
  fn_okU (ctxOkF gokGmT0 []) rfl Try.func21 (p := (Ty.pair ty26 ty30)) (psh := [some 8, some 9]) (r := ty4) (rsh := (Rsh.one (none))) (pre := none) (fresh := none) (F := Sp.F21) (L := (lookL [(5, LS21_5)])) (c := bodyOf Try.f21) (dflt := Ty.dflt ty4) rfl (loops_of (l := [bodyAt (bodyOf Try.f21) [0]]) (by kernel_rfl) (loops_cons (s0 := LS21_5) (by kernel_rfl) lo21_5 (loops_nil)))
    (safe_no @sa21) va21
def GmT1 : List (Nat × Ct) := (18, ct18) :: (21, ct21) :: GmT0
theorem gokGmT1 : GOk GmT1 := gok_cons ok18 ⟨_, Try.func18, by kernel_rfl, by kernel_rfl⟩ (gok_cons ok21 ⟨_, Try.func21, by kernel_rfl, by kernel_rfl⟩ (gokGmT0))
end Go.Proofs.Ytghlpolodjlgjaa.Sy
