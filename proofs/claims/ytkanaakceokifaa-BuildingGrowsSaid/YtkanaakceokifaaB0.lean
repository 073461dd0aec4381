/- Contracts of functions, by the evaluator (own program gen.py): overlaylaw01.small, overlayref01.Cycle, building.isCall, overlayref01.IsCall. -/
import Derived.Test.YtkanaakceokifaaBuD
set_option linter.unusedVariables false
set_option linter.unusedSimpArgs false
set_option maxRecDepth 100000
namespace Go.Proofs.Ytkanaakceokifaa.Sy
open Go Go.RowKit Sp
/-! overlaylaw01.small -/
end Go.Proofs.Ytkanaakceokifaa.Sy
namespace Go.Proofs.Ytkanaakceokifaa.Sp
open Go Go.RowKit Sy
def in15_2 (k : (Int × Int × Int × Int × Nat × Nat × Nat × List (Int × Int × Int × Int × Int × Int × Int × Int × Int))) (x : (Int)) : Prop := (0 : Int) ≤ x
def mu15_2 (k : (Int × Int × Int × Int × Nat × Nat × Nat × List (Int × Int × Int × Int × Int × Int × Int × Int × Int))) (x : (Int)) : Nat := (((k.2.2.2.2.2.2.2).length : Int) - x).toNat
def st15_2 (k : (Int × Int × Int × Int × Nat × Nat × Nat × List (Int × Int × Int × Int × Int × Int × Int × Int × Int))) (x : (Int)) : BOut (Int × Int × Int × Int × Nat × Nat × Nat × List (Int × Int × Int × Int × Int × Int × Int × Int × Int)) (Int) (Bool) :=
  bif ((decide (x < ((k.2.2.2.2.2.2.2).length : Int))) && (decide (x < (20 : Int)))) then
    (bif ((((decide ((Sp.nthT k.2.2.2.2.2.2.2 x).2.2.2.2.2.1 < (-1000000 : Int))) || (decide ((Sp.nthT k.2.2.2.2.2.2.2 x).2.2.2.2.2.1 > (1000000 : Int)))) || (decide ((Sp.nthT k.2.2.2.2.2.2.2 x).2.2.2.2.2.2.2.1 < (-1000000 : Int)))) || (decide ((Sp.nthT k.2.2.2.2.2.2.2 x).2.2.2.2.2.2.2.1 > (1000000 : Int)))) then
      BOut.ret false
    else
      BOut.next k (IntKind.i64.wrap (x + (1 : Int))))
  else
    BOut.brk k x
def G15_2 (k : (Int × Int × Int × Int × Nat × Nat × Nat × List (Int × Int × Int × Int × Int × Int × Int × Int × Int))) (x : (Int)) : (Int) := endOf st15_2 k (Nat.succ (mu15_2 k x)) x
def R15_2 (k : (Int × Int × Int × Int × Nat × Nat × Nat × List (Int × Int × Int × Int × Int × Int × Int × Int × Int))) (x : (Int)) : Option (Bool) := retOf st15_2 k (Nat.succ (mu15_2 k x)) x
end Go.Proofs.Ytkanaakceokifaa.Sp
namespace Go.Proofs.Ytkanaakceokifaa.Sy
def LS15_2 : LS ty4.den := mkLS ty25 ty3  [] [(1, 8)] [(3, none)] [] [] [] [(1, 1)] 0 true Sp.in15_2 Sp.st15_2 Sp.mu15_2
theorem va15_2 (k : ty25.den) (x : ty3.den) : ((evCode (ctxG GmT5) (lookL []) (bodyAt (bodyOf Try.f15) [0]) (tmpl LS15_2 (enc ty25 k) (enc ty3 x)) (evRound LS15_2 (evRet (ctxG GmT5) Try.f15 (Rsh.one (none)) none ty4 .ret)))).val BOut.ret (BOut.brk (Ty.dflt ty25) (Ty.dflt ty3)) = Sp.st15_2 k x := by kernel_rfl
theorem se15_2 (k : ty25.den) (x : ty3.den) : ((evCode (ctxG GmT5) (lookL []) (bodyAt (bodyOf Try.f15) [0]) (tmpl LS15_2 (enc ty25 k) (enc ty3 x)) (evRound LS15_2 (evRet (ctxG GmT5) Try.f15 (Rsh.one (none)) none ty4 .ret)))).safe = (((((decide (x < ((k.2.2.2.2.2.2.2).length : Int))) && (decide (x < (20 : Int)))) = true → ((0 ≤ x ∧ x < ((k.2.2.2.2.2.2.2).length : Int)) ∧ ((((((decide ((Sp.nthT k.2.2.2.2.2.2.2 x).2.2.2.2.2.1 < (-1000000 : Int))) || (decide ((Sp.nthT k.2.2.2.2.2.2.2 x).2.2.2.2.2.1 > (1000000 : Int)))) || (decide ((Sp.nthT k.2.2.2.2.2.2.2 x).2.2.2.2.2.2.2.1 < (-1000000 : Int)))) || (decide ((Sp.nthT k.2.2.2.2.2.2.2 x).2.2.2.2.2.2.2.1 > (1000000 : Int)))) = true → True) ∧ (((((decide ((Sp.nthT k.2.2.2.2.2.2.2 x).2.2.2.2.2.1 < (-1000000 : Int))) || (decide ((Sp.nthT k.2.2.2.2.2.2.2 x).2.2.2.2.2.1 > (1000000 : Int)))) || (decide ((Sp.nthT k.2.2.2.2.2.2.2 x).2.2.2.2.2.2.2.1 < (-1000000 : Int)))) || (decide ((Sp.nthT k.2.2.2.2.2.2.2 x).2.2.2.2.2.2.2.1 > (1000000 : Int)))) = false → True)))) ∧ (((decide (x < ((k.2.2.2.2.2.2.2).length : Int))) && (decide (x < (20 : Int)))) = false → True))) := by kernel_rfl
theorem sa15_2 (k : ty25.den) (x : ty3.den) (fk : Fit ty25 k) (fx : Fit ty3 x) (h : Sp.in15_2 k x) : SafeW ((evCode (ctxG GmT5) (lookL []) (bodyAt (bodyOf Try.f15) [0]) (tmpl LS15_2 (enc ty25 k) (enc ty3 x)) (evRound LS15_2 (evRet (ctxG GmT5) Try.f15 (Rsh.one (none)) none ty4 .ret)))) := by
  refine ⟨?_⟩
  rw [se15_2]
  try dsimp only [Ty.den] at *
  simp only [Sp.in15_2, Fit, maxLen] at h fk fx
  simp only [IntKind.wrap_i64, IntKind.wrap_u8, IntKind.wrap_u32, IntKind.wrap_u64, Sp.tmod_ite, Sp.tdiv_ite, setE, copyL, sliceL, zrow, List.length_append, List.length_cons, List.length_nil, List.length_set, List.length_replicate, List.length_take, List.length_drop, decide_eq_true_eq, decide_eq_false_iff_not, Bool.or_eq_true, Bool.and_eq_true, Bool.or_eq_false_iff, Bool.and_eq_false_iff, Bool.not_eq_true', Bool.not_eq_false', Bool.not_eq_true, Bool.not_eq_false, beq_iff_eq, beq_eq_false_iff_ne, bne_iff_ne, ne_eq, implies_true, and_true, true_and] at *
  all_goals ((repeat' (first | exact trivial | apply And.intro | intro _)) <;> first | trivial | omega)
theorem so15_2 (k : ty25.den) (x : ty3.den) (fk : Fit ty25 k) (h : Sp.in15_2 k x) : StepOk true Sp.in15_2 Sp.mu15_2 k x (Sp.st15_2 k x) := by
  try dsimp only [Ty.den] at *
  simp only [Sp.in15_2, Fit, maxLen] at h fk
  simp only [Sp.st15_2, Sp.optR, Bool.cond_eq_ite]
  (repeat' split) <;> (first | exact rfl | (refine ⟨rfl, ?_, ?_⟩ <;> simp only [Sp.in15_2, Sp.mu15_2, IntKind.wrap_i64, IntKind.wrap_u8, IntKind.wrap_u32, IntKind.wrap_u64, Sp.tmod_ite, Sp.tdiv_ite, setE, copyL, sliceL, zrow, List.length_append, List.length_cons, List.length_nil, List.length_set, List.length_replicate, List.length_take, List.length_drop, decide_eq_true_eq, decide_eq_false_iff_not, Bool.or_eq_true, Bool.and_eq_true, Bool.or_eq_false_iff, Bool.and_eq_false_iff, Bool.not_eq_true', Bool.not_eq_false', Bool.not_eq_true, Bool.not_eq_false, beq_iff_eq, beq_eq_false_iff_ne, bne_iff_ne, ne_eq] at * <;> omega))
theorem lo15_2 : LoopOk Try.prog gdS (RetAt Try.prog Try.f15 (Rsh.one (none)) none ty4) (bodyAt (bodyOf Try.f15) [0]) LS15_2 :=
  loop_run (ctxOkF gokGmT5 []) (L := lookL []) (loops_of (l := []) (by kernel_rfl) (loops_nil)) sa15_2 va15_2 so15_2
end Go.Proofs.Ytkanaakceokifaa.Sy
namespace Go.Proofs.Ytkanaakceokifaa.Sp
open Go Go.RowKit Sy
def F15 (x : Int × Int × Int × Int × Nat × Nat × Nat × List (Int × Int × Int × Int × Int × Int × Int × Int × Int)) : Bool :=
  Sp.optR (Sp.R15_2 x (0 : Int)) (fun y => y)
  ((decide (((x.2.2.2.2.2.2.2).length : Int) ≤ (20 : Int))))
end Go.Proofs.Ytkanaakceokifaa.Sp
namespace Go.Proofs.Ytkanaakceokifaa.Sy
def ct15 : Ct := { p := ty25, psh := [some 8], r := ty4, rsh := (Rsh.one (none)), pre := none, fresh := none, F := Sp.F15 }
theorem va15 (x : ty25.den) : ((evFn (ctxG GmT5) Try.f15 ty25 [some 8] (Rsh.one (none)) none ty4 (lookL [(2, LS15_2)]) x)).val (fun y => y) (Ty.dflt ty4) = Sp.F15 x := by kernel_rfl
theorem se15 (x : ty25.den) : ((evFn (ctxG GmT5) Try.f15 ty25 [some 8] (Rsh.one (none)) none ty4 (lookL [(2, LS15_2)]) x)).safe = (((Sp.in15_2 x (0 : Int)) ∧ ((Sp.R15_2 x (0 : Int)) = none → True))) := by kernel_rfl
theorem sa15 (x : ty25.den) (fx : Fit ty25 x) : SafeW ((evFn (ctxG GmT5) Try.f15 ty25 [some 8] (Rsh.one (none)) none ty4 (lookL [(2, LS15_2)]) x)) := by
  refine ⟨?_⟩
  rw [se15]
  try dsimp only [Ty.den] at *
  simp only [Fit, maxLen] at fx
  simp only [Sp.in15_2, IntKind.wrap_i64, IntKind.wrap_u8, IntKind.wrap_u32, IntKind.wrap_u64, Sp.tmod_ite, Sp.tdiv_ite, setE, copyL, sliceL, zrow, List.length_append, List.length_cons, List.length_nil, List.length_set, List.length_replicate, List.length_take, List.length_drop, decide_eq_true_eq, decide_eq_false_iff_not, Bool.or_eq_true, Bool.and_eq_true, Bool.or_eq_false_iff, Bool.and_eq_false_iff, Bool.not_eq_true', Bool.not_eq_false', Bool.not_eq_true, Bool.not_eq_false, beq_iff_eq, beq_eq_false_iff_ne, bne_iff_ne, ne_eq, implies_true, and_true, true_and] at *
  all_goals ((repeat' (first | exact trivial | apply And.intro | intro _)) <;> first | trivial | omega)
theorem ok15 : CtOk Try.prog gdS 15 ct15 :=
  fn_okU (ctxOkF gokGmT5 []) rfl Try.func15 (p := ty25) (psh := [some 8]) (r := ty4) (rsh := (Rsh.one (none))) (pre := none) (fresh := none) (F := Sp.F15) (L := (lookL [(2, LS15_2)])) (c := bodyOf Try.f15) (dflt := Ty.dflt ty4) rfl (loops_of (l := [bodyAt (bodyOf Try.f15) [0]]) (by kernel_rfl) (loops_cons (s0 := LS15_2) (by kernel_rfl) lo15_2 (loops_nil)))
    (safe_no @sa15) va15
/-! overlayref01.Cycle -/
end Go.Proofs.Ytkanaakceokifaa.Sy
namespace Go.Proofs.Ytkanaakceokifaa.Sp
open Go Go.RowKit Sy
def F19 (x : Int × Int × Int × Int × Int × Int × Int × Int × Int) : Int :=
  (IntKind.i64.wrap ((IntKind.i64.wrap ((IntKind.i64.wrap ((2 : Int) * x.2.2.2.2.2.1)) + x.2.2.2.2.2.2.2.1)) + (3 : Int)))
end Go.Proofs.Ytkanaakceokifaa.Sp
namespace Go.Proofs.Ytkanaakceokifaa.Sy
def ct19 : Ct := { p := ty33, psh := [some 9], r := ty3, rsh := (Rsh.one (none)), pre := none, fresh := none, F := Sp.F19 }
theorem va19 (x : ty33.den) : ((evFn (ctxG GmT5) Try.f19 ty33 [some 9] (Rsh.one (none)) none ty3 noL x)).val (fun y => y) (Ty.dflt ty3) = Sp.F19 x := by kernel_rfl
theorem se19 (x : ty33.den) : ((evFn (ctxG GmT5) Try.f19 ty33 [some 9] (Rsh.one (none)) none ty3 noL x)).safe = (True) := by kernel_rfl
theorem sa19 (x : ty33.den) (fx : Fit ty33 x) : SafeW ((evFn (ctxG GmT5) Try.f19 ty33 [some 9] (Rsh.one (none)) none ty3 noL x)) := by
  refine ⟨?_⟩
  rw [se19]
  trivial
theorem ok19 : CtOk Try.prog gdS 19 ct19 :=
  fn_okU (ctxOkF gokGmT5 []) rfl Try.func19 (p := ty33) (psh := [some 9]) (r := ty3) (rsh := (Rsh.one (none))) (pre := none) (fresh := none) (F := Sp.F19) (L := noL) (c := bodyOf Try.f19) (dflt := Ty.dflt ty3) rfl (no_loops)
    (safe_no @sa19) va19
/-! building.isCall -/
end Go.Proofs.Ytkanaakceokifaa.Sy
namespace Go.Proofs.Ytkanaakceokifaa.Sp
open Go Go.RowKit Sy
def F53 (x : Int × Int × Int) : Bool :=
  (((x.2.2 == (1 : Int)) && (Sp.F39 ((0 : Int), (IntKind.i64.wrap (x.1 - (2 : Int))), [x.2.1]))) || ((x.2.2 == (2 : Int)) && (Sp.F39 ((1 : Int), (IntKind.i64.wrap (x.1 - (1 : Int))), [x.2.1]))))
end Go.Proofs.Ytkanaakceokifaa.Sp
namespace Go.Proofs.Ytkanaakceokifaa.Sy
def ct53 : Ct := { p := (Ty.pair ty3 (Ty.pair ty3 ty3)), psh := [none, none, none], r := ty4, rsh := (Rsh.one (none)), pre := none, fresh := none, F := Sp.F53 }
theorem va53 (x : (Ty.pair ty3 (Ty.pair ty3 ty3)).den) : ((evFn (ctxG GmT5) Try.f53 (Ty.pair ty3 (Ty.pair ty3 ty3)) [none, none, none] (Rsh.one (none)) none ty4 noL x)).val (fun y => y) (Ty.dflt ty4) = Sp.F53 x := by kernel_rfl
theorem se53 (x : (Ty.pair ty3 (Ty.pair ty3 ty3)).den) : ((evFn (ctxG GmT5) Try.f53 (Ty.pair ty3 (Ty.pair ty3 ty3)) [none, none, none] (Rsh.one (none)) none ty4 noL x)).safe = (True) := by kernel_rfl
theorem sa53 (x : (Ty.pair ty3 (Ty.pair ty3 ty3)).den) (fx : Fit (Ty.pair ty3 (Ty.pair ty3 ty3)) x) : SafeW ((evFn (ctxG GmT5) Try.f53 (Ty.pair ty3 (Ty.pair ty3 ty3)) [none, none, none] (Rsh.one (none)) none ty4 noL x)) := by
  refine ⟨?_⟩
  rw [se53]
  trivial
theorem ok53 : CtOk Try.prog gdS 53 ct53 :=
  fn_okU (ctxOkF gokGmT5 []) rfl Try.func53 (p := (Ty.pair ty3 (Ty.pair ty3 ty3))) (psh := [none, none, none]) (r := ty4) (rsh := (Rsh.one (none))) (pre := none) (fresh := none) (F := Sp.F53) (L := noL) (c := bodyOf Try.f53) (dflt := Ty.dflt ty4) rfl (no_loops)
    (safe_no @sa53) va53
/-! overlayref01.IsCall -/
end Go.Proofs.Ytkanaakceokifaa.Sy
namespace Go.Proofs.Ytkanaakceokifaa.Sp
open Go Go.RowKit Sy
def F29 (x : (Int × Int × Int × Int × Nat × Nat × Nat × List (Int × Int × Int × Int × Int × Int × Int × Int × Int)) × Int × Int) : Bool :=
  bif ((Sp.F13 x.1) != (0 : Int)) then
    false
  else
    (((x.2.2 == (1 : Int)) && (Sp.F42 (x.2.1, (0 : Int), (IntKind.i64.wrap (x.1.1 - (2 : Int)))))) || ((x.2.2 == (2 : Int)) && (Sp.F42 (x.2.1, (1 : Int), (IntKind.i64.wrap (x.1.1 - (1 : Int)))))))
end Go.Proofs.Ytkanaakceokifaa.Sp
namespace Go.Proofs.Ytkanaakceokifaa.Sy
def ct29 : Ct := { p := (Ty.pair ty25 (Ty.pair ty3 ty3)), psh := [some 8, none, none], r := ty4, rsh := (Rsh.one (none)), pre := none, fresh := none, F := Sp.F29 }
theorem va29 (x : (Ty.pair ty25 (Ty.pair ty3 ty3)).den) : ((evFn (ctxG GmT5) Try.f29 (Ty.pair ty25 (Ty.pair ty3 ty3)) [some 8, none, none] (Rsh.one (none)) none ty4 noL x)).val (fun y => y) (Ty.dflt ty4) = Sp.F29 x := by kernel_rfl
theorem se29 (x : (Ty.pair ty25 (Ty.pair ty3 ty3)).den) : ((evFn (ctxG GmT5) Try.f29 (Ty.pair ty25 (Ty.pair ty3 ty3)) [some 8, none, none] (Rsh.one (none)) none ty4 noL x)).safe = (((((Sp.F13 x.1) != (0 : Int)) = true → True) ∧ (((Sp.F13 x.1) != (0 : Int)) = false → True))) := by kernel_rfl
theorem sa29 (x : (Ty.pair ty25 (Ty.pair ty3 ty3)).den) (fx : Fit (Ty.pair ty25 (Ty.pair ty3 ty3)) x) : SafeW ((evFn (ctxG GmT5) Try.f29 (Ty.pair ty25 (Ty.pair ty3 ty3)) [some 8, none, none] (Rsh.one (none)) none ty4 noL x)) := by
  refine ⟨?_⟩
  rw [se29]
  try dsimp only [Ty.den] at *
  simp only [Fit, maxLen] at fx
  simp only [true_and, IntKind.wrap_i64, IntKind.wrap_u8, IntKind.wrap_u32, IntKind.wrap_u64, Sp.tmod_ite, Sp.tdiv_ite, setE, copyL, sliceL, zrow, List.length_append, List.length_cons, List.length_nil, List.length_set, List.length_replicate, List.length_take, List.length_drop, decide_eq_true_eq, decide_eq_false_iff_not, Bool.or_eq_true, Bool.and_eq_true, Bool.or_eq_false_iff, Bool.and_eq_false_iff, Bool.not_eq_true', Bool.not_eq_false', Bool.not_eq_true, Bool.not_eq_false, beq_iff_eq, beq_eq_false_iff_ne, bne_iff_ne, ne_eq, implies_true, and_true, true_and] at *
  all_goals ((repeat' (first | exact trivial | apply And.intro | intro _)) <;> first | trivial | omega)
theorem ok29 : CtOk Try.prog gdS 29 ct29 :=
  fn_okU (ctxOkF gokGmT5 []) rfl Try.func29 (p := (Ty.pair ty25 (Ty.pair ty3 ty3))) (psh := [some 8, none, none]) (r := ty4) (rsh := (Rsh.one (none))) (pre := none) (fresh := none) (F := Sp.F29) (L := noL) (c := bodyOf Try.f29) (dflt := Ty.dflt ty4) rfl (no_loops)
    (safe_no @sa29) va29
def GmB0 : List (Nat × Ct) := (15, ct15) :: (19, ct19) :: (53, ct53) :: (29, ct29) :: GmT5
theorem gokGmB0 : GOk GmB0 := gok_cons ok15 ⟨_, Try.func15, by kernel_rfl, by kernel_rfl⟩ (gok_cons ok19 ⟨_, Try.func19, by kernel_rfl, by kernel_rfl⟩ (gok_cons ok53 ⟨_, Try.func53, by kernel_rfl, by kernel_rfl⟩ (gok_cons ok29 ⟨_, Try.func29, by kernel_rfl, by kernel_rfl⟩ (gokGmT5))))
end Go.Proofs.Ytkanaakceokifaa.Sy
