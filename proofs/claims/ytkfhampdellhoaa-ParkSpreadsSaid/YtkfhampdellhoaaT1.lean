/- Contracts of functions, by the evaluator (own program gen.py): building.times, overlayref01.times, overlaylaw03.Building. -/
import Derived.Test.YtkfhampdellhoaaT0
set_option linter.unusedVariables false
set_option linter.unusedSimpArgs false
set_option maxRecDepth 100000
namespace Go.Proofs.Ytkfhampdellhoaa.Sy
open Go Go.RowKit Sp
/-! building.times -/
end Go.Proofs.Ytkfhampdellhoaa.Sy
namespace Go.Proofs.Ytkfhampdellhoaa.Sp
open Go Go.RowKit Sy
def F34 (x : (Int × Int × Int × Int × Int × Int × Int × Int × Int) × Int) : Bool :=
  ((((Sp.F33 ((1 : Int), (10000 : Int), [x.1.1, x.1.2.1, x.1.2.2.1, x.1.2.2.2.2.1, x.1.2.2.2.2.2.1, x.1.2.2.2.2.2.2.1, x.1.2.2.2.2.2.2.2.1])) && (Sp.F33 ((0 : Int), (10000 : Int), [x.1.2.2.2.1]))) && (decide (x.1.2.2.2.2.2.2.2.1 ≥ x.1.2.2.2.2.2.2.1))) && (Sp.F33 ((0 : Int), (IntKind.i64.wrap (x.2 - (1 : Int))), [x.1.2.2.2.2.2.2.2.2])))
end Go.Proofs.Ytkfhampdellhoaa.Sp
namespace Go.Proofs.Ytkfhampdellhoaa.Sy
def ct34 : Ct := { p := (Ty.pair ty25 ty3), psh := [some 9, none], r := ty4, rsh := (Rsh.one (none)), pre := none, fresh := none, F := Sp.F34 }
theorem va34 (x : (Ty.pair ty25 ty3).den) : ((evFn (ctxG GmT0) Try.f34 (Ty.pair ty25 ty3) [some 9, none] (Rsh.one (none)) none ty4 noL x)).val (fun y => y) (Ty.dflt ty4) = Sp.F34 x := by kernel_rfl
theorem se34 (x : (Ty.pair ty25 ty3).den) : ((evFn (ctxG GmT0) Try.f34 (Ty.pair ty25 ty3) [some 9, none] (Rsh.one (none)) none ty4 noL x)).safe = (True) := by kernel_rfl
theorem sa34 (x : (Ty.pair ty25 ty3).den) (fx : Fit (Ty.pair ty25 ty3) x) : SafeW ((evFn (ctxG GmT0) Try.f34 (Ty.pair ty25 ty3) [some 9, none] (Rsh.one (none)) none ty4 noL x)) := by
  refine ⟨?_⟩
  rw [se34]
  trivial
theorem ok34 : CtOk Try.prog gdS 34 ct34 :=
  fn_okU (ctxOkF gokGmT0 []) rfl Try.func34 (p := (Ty.pair ty25 ty3)) (psh := [some 9, none]) (r := ty4) (rsh := (Rsh.one (none))) (pre := none) (fresh := none) (F := Sp.F34) (L := noL) (c := bodyOf Try.f34) (dflt := Ty.dflt ty4) rfl (no_loops)
    (safe_no @sa34) va34
/-! overlayref01.times -/
end Go.Proofs.Ytkfhampdellhoaa.Sy
namespace Go.Proofs.Ytkfhampdellhoaa.Sp
open Go Go.RowKit Sy
def in37_5 (k : (List Int)) (x : (Int)) : Prop := (0 : Int) ≤ x ∧ k.length = 8
def mu37_5 (k : (List Int)) (x : (Int)) : Nat := ((7 : Int) - x).toNat
def st37_5 (k : (List Int)) (x : (Int)) : BOut (List Int) (Int) (Bool) :=
  bif (decide (x < (7 : Int))) then
    (bif (!(Sp.F36 ((Sp.nthT k x), (1 : Int), (10000 : Int)))) then
      BOut.ret false
    else
      BOut.next k (IntKind.i64.wrap (x + (1 : Int))))
  else
    BOut.brk k x
def G37_5 (k : (List Int)) (x : (Int)) : (Int) := endOf st37_5 k (Nat.succ (mu37_5 k x)) x
def R37_5 (k : (List Int)) (x : (Int)) : Option (Bool) := retOf st37_5 k (Nat.succ (mu37_5 k x)) x
end Go.Proofs.Ytkfhampdellhoaa.Sp
namespace Go.Proofs.Ytkfhampdellhoaa.Sy
def LS37_5 : LS ty4.den := mkLS ty49 ty3  [(5, none)] [] [(6, none)] [] [] [] [] 0 true Sp.in37_5 Sp.st37_5 Sp.mu37_5
theorem va37_5 (k : ty49.den) (x : ty3.den) : ((evCode (ctxG GmT0) (lookL []) (bodyAt (bodyOf Try.f37) [0]) (tmpl LS37_5 (enc ty49 k) (enc ty3 x)) (evRound LS37_5 (evRet (ctxG GmT0) Try.f37 (Rsh.one (none)) none ty4 .ret)))).val BOut.ret (BOut.brk (Ty.dflt ty49) (Ty.dflt ty3)) = Sp.st37_5 k x := by kernel_rfl
theorem se37_5 (k : ty49.den) (x : ty3.den) : ((evCode (ctxG GmT0) (lookL []) (bodyAt (bodyOf Try.f37) [0]) (tmpl LS37_5 (enc ty49 k) (enc ty3 x)) (evRound LS37_5 (evRet (ctxG GmT0) Try.f37 (Rsh.one (none)) none ty4 .ret)))).safe = ((((decide (x < (7 : Int))) = true → ((0 ≤ x ∧ x < ((k).length : Int)) ∧ (((!(Sp.F36 ((Sp.nthT k x), (1 : Int), (10000 : Int)))) = true → True) ∧ ((!(Sp.F36 ((Sp.nthT k x), (1 : Int), (10000 : Int)))) = false → True)))) ∧ ((decide (x < (7 : Int))) = false → True))) := by kernel_rfl
theorem sa37_5 (k : ty49.den) (x : ty3.den) (fk : Fit ty49 k) (fx : Fit ty3 x) (h : Sp.in37_5 k x) : SafeW ((evCode (ctxG GmT0) (lookL []) (bodyAt (bodyOf Try.f37) [0]) (tmpl LS37_5 (enc ty49 k) (enc ty3 x)) (evRound LS37_5 (evRet (ctxG GmT0) Try.f37 (Rsh.one (none)) none ty4 .ret)))) := by
  refine ⟨?_⟩
  rw [se37_5]
  try dsimp only [Ty.den] at *
  simp only [Sp.in37_5, Fit, maxLen] at h fk fx
  simp only [IntKind.wrap_i64, IntKind.wrap_u8, IntKind.wrap_u32, IntKind.wrap_u64, Sp.tmod_ite, Sp.tdiv_ite, setE, copyL, sliceL, zrow, List.length_append, List.length_cons, List.length_nil, List.length_set, List.length_replicate, List.length_take, List.length_drop, decide_eq_true_eq, decide_eq_false_iff_not, Bool.or_eq_true, Bool.and_eq_true, Bool.or_eq_false_iff, Bool.and_eq_false_iff, Bool.not_eq_true', Bool.not_eq_false', Bool.not_eq_true, Bool.not_eq_false, beq_iff_eq, beq_eq_false_iff_ne, bne_iff_ne, ne_eq, implies_true, and_true, true_and] at *
  all_goals ((repeat' (first | exact trivial | apply And.intro | intro _)) <;> first | trivial | omega)
theorem so37_5 (k : ty49.den) (x : ty3.den) (fk : Fit ty49 k) (h : Sp.in37_5 k x) : StepOk true Sp.in37_5 Sp.mu37_5 k x (Sp.st37_5 k x) := by
  try dsimp only [Ty.den] at *
  simp only [Sp.in37_5, Fit, maxLen] at h fk
  simp only [Sp.st37_5, Sp.optR, Bool.cond_eq_ite]
  (repeat' split) <;> (first | exact rfl | (refine ⟨rfl, ?_, ?_⟩ <;> simp only [Sp.in37_5, Sp.mu37_5, IntKind.wrap_i64, IntKind.wrap_u8, IntKind.wrap_u32, IntKind.wrap_u64, Sp.tmod_ite, Sp.tdiv_ite, setE, copyL, sliceL, zrow, List.length_append, List.length_cons, List.length_nil, List.length_set, List.length_replicate, List.length_take, List.length_drop, decide_eq_true_eq, decide_eq_false_iff_not, Bool.or_eq_true, Bool.and_eq_true, Bool.or_eq_false_iff, Bool.and_eq_false_iff, Bool.not_eq_true', Bool.not_eq_false', Bool.not_eq_true, Bool.not_eq_false, beq_iff_eq, beq_eq_false_iff_ne, bne_iff_ne, ne_eq] at * <;> omega))
theorem lo37_5 : LoopOk Try.prog gdS (RetAt Try.prog Try.f37 (Rsh.one (none)) none ty4) (bodyAt (bodyOf Try.f37) [0]) LS37_5 :=
  loop_run (ctxOkF gokGmT0 []) (L := lookL []) (loops_of (l := []) (by kernel_rfl) (loops_nil)) sa37_5 va37_5 so37_5
end Go.Proofs.Ytkfhampdellhoaa.Sy
namespace Go.Proofs.Ytkfhampdellhoaa.Sp
open Go Go.RowKit Sy
def F37 (x : (Int × Int × Int × Int × Nat × Nat × Nat × List (Int × Int × Int × Int × Int × Int × Int × Int × Int)) × Int × Int × Int × Int × Int × Int × Int × Int × Int) : Bool :=
  bif ((decide (x.2.2.2.2.1 < (0 : Int))) || (decide (x.2.2.2.2.1 > (10000 : Int)))) then
    false
  else
    Sp.optR (Sp.R37_5 [x.2.1, x.2.2.1, x.2.2.2.1, x.2.2.2.2.2.1, x.2.2.2.2.2.2.1, x.2.2.2.2.2.2.2.1, x.2.2.2.2.2.2.2.2.1, (IntKind.i64.wrap (x.2.2.2.2.1 + (1 : Int)))] (0 : Int)) (fun y => y)
    (((decide (x.2.2.2.2.2.2.2.2.1 ≥ x.2.2.2.2.2.2.2.1)) && (Sp.F36 (x.2.2.2.2.2.2.2.2.2, (0 : Int), (IntKind.i64.wrap (x.1.1 - (1 : Int)))))))
end Go.Proofs.Ytkfhampdellhoaa.Sp
namespace Go.Proofs.Ytkfhampdellhoaa.Sy
def ct37 : Ct := { p := (Ty.pair ty46 ty25), psh := [some 8, some 9], r := ty4, rsh := (Rsh.one (none)), pre := none, fresh := none, F := Sp.F37 }
theorem va37 (x : (Ty.pair ty46 ty25).den) : ((evFn (ctxG GmT0) Try.f37 (Ty.pair ty46 ty25) [some 8, some 9] (Rsh.one (none)) none ty4 (lookL [(5, LS37_5)]) x)).val (fun y => y) (Ty.dflt ty4) = Sp.F37 x := by kernel_rfl
theorem se37 (x : (Ty.pair ty46 ty25).den) : ((evFn (ctxG GmT0) Try.f37 (Ty.pair ty46 ty25) [some 8, some 9] (Rsh.one (none)) none ty4 (lookL [(5, LS37_5)]) x)).safe = (((((decide (x.2.2.2.2.1 < (0 : Int))) || (decide (x.2.2.2.2.1 > (10000 : Int)))) = true → True) ∧ (((decide (x.2.2.2.2.1 < (0 : Int))) || (decide (x.2.2.2.2.1 > (10000 : Int)))) = false → ((Sp.in37_5 [x.2.1, x.2.2.1, x.2.2.2.1, x.2.2.2.2.2.1, x.2.2.2.2.2.2.1, x.2.2.2.2.2.2.2.1, x.2.2.2.2.2.2.2.2.1, (IntKind.i64.wrap (x.2.2.2.2.1 + (1 : Int)))] (0 : Int)) ∧ ((Sp.R37_5 [x.2.1, x.2.2.1, x.2.2.2.1, x.2.2.2.2.2.1, x.2.2.2.2.2.2.1, x.2.2.2.2.2.2.2.1, x.2.2.2.2.2.2.2.2.1, (IntKind.i64.wrap (x.2.2.2.2.1 + (1 : Int)))] (0 : Int)) = none → True))))) := by kernel_rfl
theorem sa37 (x : (Ty.pair ty46 ty25).den) (fx : Fit (Ty.pair ty46 ty25) x) : SafeW ((evFn (ctxG GmT0) Try.f37 (Ty.pair ty46 ty25) [some 8, some 9] (Rsh.one (none)) none ty4 (lookL [(5, LS37_5)]) x)) := by
  refine ⟨?_⟩
  rw [se37]
  try dsimp only [Ty.den] at *
  simp only [Fit, maxLen] at fx
  simp only [Sp.in37_5, IntKind.wrap_i64, IntKind.wrap_u8, IntKind.wrap_u32, IntKind.wrap_u64, Sp.tmod_ite, Sp.tdiv_ite, setE, copyL, sliceL, zrow, List.length_append, List.length_cons, List.length_nil, List.length_set, List.length_replicate, List.length_take, List.length_drop, decide_eq_true_eq, decide_eq_false_iff_not, Bool.or_eq_true, Bool.and_eq_true, Bool.or_eq_false_iff, Bool.and_eq_false_iff, Bool.not_eq_true', Bool.not_eq_false', Bool.not_eq_true, Bool.not_eq_false, beq_iff_eq, beq_eq_false_iff_ne, bne_iff_ne, ne_eq, implies_true, and_true, true_and] at *
  all_goals ((repeat' (first | exact trivial | apply And.intro | intro _)) <;> first | trivial | omega)
theorem ok37 : CtOk Try.prog gdS 37 ct37 :=
  fn_okU (ctxOkF gokGmT0 []) rfl Try.func37 (p := (Ty.pair ty46 ty25)) (psh := [some 8, some 9]) (r := ty4) (rsh := (Rsh.one (none))) (pre := none) (fresh := none) (F := Sp.F37) (L := (lookL [(5, LS37_5)])) (c := bodyOf Try.f37) (dflt := Ty.dflt ty4) rfl (loops_of (l := [bodyAt (bodyOf Try.f37) [0]]) (by kernel_rfl) (loops_cons (s0 := LS37_5) (by kernel_rfl) lo37_5 (loops_nil)))
    (safe_no @sa37) va37
/-! overlaylaw03.Building -/
end Go.Proofs.Ytkfhampdellhoaa.Sy
namespace Go.Proofs.Ytkfhampdellhoaa.Sp
open Go Go.RowKit Sy
def F16 (x : Int) : Int × Int × Int × Int × Nat × Nat × Nat × List (Int × Int × Int × Int × Int × Int × Int × Int × Int) :=
  (Sp.F27 ((IntKind.i64.wrap ((2 : Int) + (IntKind.i64.wrap (Int.tmod x (31 : Int))))), (IntKind.i64.wrap ((1 : Int) + (IntKind.i64.wrap (Int.tmod (IntKind.u8.wrap (Int.tdiv x (31 : Int))) (8 : Int)))))))
def pre16 (x : Int) : Prop := 0 ≤ x ∧ x ≤ 255
end Go.Proofs.Ytkfhampdellhoaa.Sp
namespace Go.Proofs.Ytkfhampdellhoaa.Sy
def ct16 : Ct := { p := ty5, psh := [none], r := ty46, rsh := (Rsh.one (some 8)), pre := some Sp.pre16, fresh := (some 25), F := Sp.F16 }
theorem va16 (x : ty5.den) : ((evFn (ctxG GmT0) Try.f16 ty5 [none] (Rsh.one (some 8)) (some 25) ty46 noL x)).val (fun y => y) (Ty.dflt ty46) = Sp.F16 x := by kernel_rfl
theorem se16 (x : ty5.den) : ((evFn (ctxG GmT0) Try.f16 ty5 [none] (Rsh.one (some 8)) (some 25) ty46 noL x)).safe = ((((31 : Int) ≠ 0) ∧ (((31 : Int) ≠ 0) ∧ (((8 : Int) ≠ 0) ∧ ((Sp.pre27 ((IntKind.i64.wrap ((2 : Int) + (IntKind.i64.wrap (Int.tmod x (31 : Int))))), (IntKind.i64.wrap ((1 : Int) + (IntKind.i64.wrap (Int.tmod (IntKind.u8.wrap (Int.tdiv x (31 : Int))) (8 : Int))))))) ∧ True))))) := by kernel_rfl
theorem sa16 (x : ty5.den) (fx : Fit ty5 x) (h : Sp.pre16 x) : SafeW ((evFn (ctxG GmT0) Try.f16 ty5 [none] (Rsh.one (some 8)) (some 25) ty46 noL x)) := by
  refine ⟨?_⟩
  rw [se16]
  try dsimp only [Ty.den] at *
  simp only [Fit, maxLen] at fx
  simp only [Sp.pre16, Sp.pre27, IntKind.wrap_i64, IntKind.wrap_u8, IntKind.wrap_u32, IntKind.wrap_u64, Sp.tmod_ite, Sp.tdiv_ite, setE, copyL, sliceL, zrow, List.length_append, List.length_cons, List.length_nil, List.length_set, List.length_replicate, List.length_take, List.length_drop, decide_eq_true_eq, decide_eq_false_iff_not, Bool.or_eq_true, Bool.and_eq_true, Bool.or_eq_false_iff, Bool.and_eq_false_iff, Bool.not_eq_true', Bool.not_eq_false', Bool.not_eq_true, Bool.not_eq_false, beq_iff_eq, beq_eq_false_iff_ne, bne_iff_ne, ne_eq, implies_true, and_true, true_and] at *
  all_goals ((repeat' (first | exact trivial | apply And.intro | intro _)) <;> first | trivial | omega)
theorem ok16 : CtOk Try.prog gdS 16 ct16 :=
  fn_okU (ctxOkF gokGmT0 []) rfl Try.func16 (p := ty5) (psh := [none]) (r := ty46) (rsh := (Rsh.one (some 8))) (pre := some Sp.pre16) (fresh := (some 25)) (F := Sp.F16) (L := noL) (c := bodyOf Try.f16) (dflt := Ty.dflt ty46) rfl (no_loops)
    (safe_pre @sa16) va16
def GmT1 : List (Nat × Ct) := (34, ct34) :: (37, ct37) :: (16, ct16) :: GmT0
theorem gokGmT1 : GOk GmT1 := gok_cons ok34 ⟨_, Try.func34, by kernel_rfl, by kernel_rfl⟩ (gok_cons ok37 ⟨_, Try.func37, by kernel_rfl, by kernel_rfl⟩ (gok_cons ok16 ⟨_, Try.func16, by kernel_rfl, by kernel_rfl⟩ (gokGmT0)))
end Go.Proofs.Ytkfhampdellhoaa.Sy
