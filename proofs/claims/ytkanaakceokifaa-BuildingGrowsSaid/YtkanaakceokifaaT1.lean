/- Contracts of functions, by the evaluator (own program gen.py): building.times, overlayref01.times, building.service. -/
import Derived.Test.YtkanaakceokifaaT0
set_option linter.unusedVariables false
set_option linter.unusedSimpArgs false
set_option maxRecDepth 100000
namespace Go.Proofs.Ytkanaakceokifaa.Sy
open Go Go.RowKit Sp
/-! building.times -/
end Go.Proofs.Ytkanaakceokifaa.Sy
namespace Go.Proofs.Ytkanaakceokifaa.Sp
open Go Go.RowKit Sy
def F40 (x : (Int × Int × Int × Int × Int × Int × Int × Int × Int) × Int) : Bool :=
  ((((Sp.F39 ((1 : Int), (10000 : Int), [x.1.1, x.1.2.1, x.1.2.2.1, x.1.2.2.2.2.1, x.1.2.2.2.2.2.1, x.1.2.2.2.2.2.2.1, x.1.2.2.2.2.2.2.2.1])) && (Sp.F39 ((0 : Int), (10000 : Int), [x.1.2.2.2.1]))) && (decide (x.1.2.2.2.2.2.2.2.1 ≥ x.1.2.2.2.2.2.2.1))) && (Sp.F39 ((0 : Int), (IntKind.i64.wrap (x.2 - (1 : Int))), [x.1.2.2.2.2.2.2.2.2])))
end Go.Proofs.Ytkanaakceokifaa.Sp
namespace Go.Proofs.Ytkanaakceokifaa.Sy
def ct40 : Ct := { p := (Ty.pair ty33 ty3), psh := [some 9, none], r := ty4, rsh := (Rsh.one (none)), pre := none, fresh := none, F := Sp.F40 }
theorem va40 (x : (Ty.pair ty33 ty3).den) : ((evFn (ctxG GmT0) Try.f40 (Ty.pair ty33 ty3) [some 9, none] (Rsh.one (none)) none ty4 noL x)).val (fun y => y) (Ty.dflt ty4) = Sp.F40 x := by kernel_rfl
theorem se40 (x : (Ty.pair ty33 ty3).den) : ((evFn (ctxG GmT0) Try.f40 (Ty.pair ty33 ty3) [some 9, none] (Rsh.one (none)) none ty4 noL x)).safe = (True) := by kernel_rfl
theorem sa40 (x : (Ty.pair ty33 ty3).den) (fx : Fit (Ty.pair ty33 ty3) x) : SafeW ((evFn (ctxG GmT0) Try.f40 (Ty.pair ty33 ty3) [some 9, none] (Rsh.one (none)) none ty4 noL x)) := by
  refine ⟨?_⟩
  rw [se40]
  trivial
theorem ok40 : CtOk Try.prog gdS 40 ct40 :=
  fn_okU (ctxOkF gokGmT0 []) rfl Try.func40 (p := (Ty.pair ty33 ty3)) (psh := [some 9, none]) (r := ty4) (rsh := (Rsh.one (none))) (pre := none) (fresh := none) (F := Sp.F40) (L := noL) (c := bodyOf Try.f40) (dflt := Ty.dflt ty4) rfl (no_loops)
    (safe_no @sa40) va40
/-! overlayref01.times -/
end Go.Proofs.Ytkanaakceokifaa.Sy
namespace Go.Proofs.Ytkanaakceokifaa.Sp
open Go Go.RowKit Sy
def in43_5 (k : (List Int)) (x : (Int)) : Prop := (0 : Int) ≤ x ∧ k.length = 8
def mu43_5 (k : (List Int)) (x : (Int)) : Nat := ((7 : Int) - x).toNat
def st43_5 (k : (List Int)) (x : (Int)) : BOut (List Int) (Int) (Bool) :=
  bif (decide (x < (7 : Int))) then
    (bif (!(Sp.F42 ((Sp.nthT k x), (1 : Int), (10000 : Int)))) then
      BOut.ret false
    else
      BOut.next k (IntKind.i64.wrap (x + (1 : Int))))
  else
    BOut.brk k x
def G43_5 (k : (List Int)) (x : (Int)) : (Int) := endOf st43_5 k (Nat.succ (mu43_5 k x)) x
def R43_5 (k : (List Int)) (x : (Int)) : Option (Bool) := retOf st43_5 k (Nat.succ (mu43_5 k x)) x
end Go.Proofs.Ytkanaakceokifaa.Sp
namespace Go.Proofs.Ytkanaakceokifaa.Sy
def LS43_5 : LS ty4.den := mkLS ty51 ty3  [(5, none)] [] [(6, none)] [] [] [] [] 0 true Sp.in43_5 Sp.st43_5 Sp.mu43_5
theorem va43_5 (k : ty51.den) (x : ty3.den) : ((evCode (ctxG GmT0) (lookL []) (bodyAt (bodyOf Try.f43) [0]) (tmpl LS43_5 (enc ty51 k) (enc ty3 x)) (evRound LS43_5 (evRet (ctxG GmT0) Try.f43 (Rsh.one (none)) none ty4 .ret)))).val BOut.ret (BOut.brk (Ty.dflt ty51) (Ty.dflt ty3)) = Sp.st43_5 k x := by kernel_rfl
theorem se43_5 (k : ty51.den) (x : ty3.den) : ((evCode (ctxG GmT0) (lookL []) (bodyAt (bodyOf Try.f43) [0]) (tmpl LS43_5 (enc ty51 k) (enc ty3 x)) (evRound LS43_5 (evRet (ctxG GmT0) Try.f43 (Rsh.one (none)) none ty4 .ret)))).safe = ((((decide (x < (7 : Int))) = true → ((0 ≤ x ∧ x < ((k).length : Int)) ∧ (((!(Sp.F42 ((Sp.nthT k x), (1 : Int), (10000 : Int)))) = true → True) ∧ ((!(Sp.F42 ((Sp.nthT k x), (1 : Int), (10000 : Int)))) = false → True)))) ∧ ((decide (x < (7 : Int))) = false → True))) := by kernel_rfl
theorem sa43_5 (k : ty51.den) (x : ty3.den) (fk : Fit ty51 k) (fx : Fit ty3 x) (h : Sp.in43_5 k x) : SafeW ((evCode (ctxG GmT0) (lookL []) (bodyAt (bodyOf Try.f43) [0]) (tmpl LS43_5 (enc ty51 k) (enc ty3 x)) (evRound LS43_5 (evRet (ctxG GmT0) Try.f43 (Rsh.one (none)) none ty4 .ret)))) := by
  refine ⟨?_⟩
  rw [se43_5]
  try dsimp only [Ty.den] at *
  simp only [Sp.in43_5, Fit, maxLen] at h fk fx
  simp only [IntKind.wrap_i64, IntKind.wrap_u8, IntKind.wrap_u32, IntKind.wrap_u64, Sp.tmod_ite, Sp.tdiv_ite, setE, copyL, sliceL, zrow, List.length_append, List.length_cons, List.length_nil, List.length_set, List.length_replicate, List.length_take, List.length_drop, decide_eq_true_eq, decide_eq_false_iff_not, Bool.or_eq_true, Bool.and_eq_true, Bool.or_eq_false_iff, Bool.and_eq_false_iff, Bool.not_eq_true', Bool.not_eq_false', Bool.not_eq_true, Bool.not_eq_false, beq_iff_eq, beq_eq_false_iff_ne, bne_iff_ne, ne_eq, implies_true, and_true, true_and] at *
  all_goals ((repeat' (first | exact trivial | apply And.intro | intro _)) <;> first | trivial | omega)
theorem so43_5 (k : ty51.den) (x : ty3.den) (fk : Fit ty51 k) (h : Sp.in43_5 k x) : StepOk true Sp.in43_5 Sp.mu43_5 k x (Sp.st43_5 k x) := by
  try dsimp only [Ty.den] at *
  simp only [Sp.in43_5, Fit, maxLen] at h fk
  simp only [Sp.st43_5, Sp.optR, Bool.cond_eq_ite]
  (repeat' split) <;> (first | exact rfl | (refine ⟨rfl, ?_, ?_⟩ <;> simp only [Sp.in43_5, Sp.mu43_5, IntKind.wrap_i64, IntKind.wrap_u8, IntKind.wrap_u32, IntKind.wrap_u64, Sp.tmod_ite, Sp.tdiv_ite, setE, copyL, sliceL, zrow, List.length_append, List.length_cons, List.length_nil, List.length_set, List.length_replicate, List.length_take, List.length_drop, decide_eq_true_eq, decide_eq_false_iff_not, Bool.or_eq_true, Bool.and_eq_true, Bool.or_eq_false_iff, Bool.and_eq_false_iff, Bool.not_eq_true', Bool.not_eq_false', Bool.not_eq_true, Bool.not_eq_false, beq_iff_eq, beq_eq_false_iff_ne, bne_iff_ne, ne_eq] at * <;> omega))
theorem lo43_5 : LoopOk Try.prog gdS (RetAt Try.prog Try.f43 (Rsh.one (none)) none ty4) (bodyAt (bodyOf Try.f43) [0]) LS43_5 :=
  loop_run (ctxOkF gokGmT0 []) (L := lookL []) (loops_of (l := []) (by kernel_rfl) (loops_nil)) sa43_5 va43_5 so43_5
end Go.Proofs.Ytkanaakceokifaa.Sy
namespace Go.Proofs.Ytkanaakceokifaa.Sp
open Go Go.RowKit Sy
def F43 (x : (Int × Int × Int × Int × Nat × Nat × Nat × List (Int × Int × Int × Int × Int × Int × Int × Int × Int)) × Int × Int × Int × Int × Int × Int × Int × Int × Int) : Bool :=
  bif ((decide (x.2.2.2.2.1 < (0 : Int))) || (decide (x.2.2.2.2.1 > (10000 : Int)))) then
    false
  else
    Sp.optR (Sp.R43_5 [x.2.1, x.2.2.1, x.2.2.2.1, x.2.2.2.2.2.1, x.2.2.2.2.2.2.1, x.2.2.2.2.2.2.2.1, x.2.2.2.2.2.2.2.2.1, (IntKind.i64.wrap (x.2.2.2.2.1 + (1 : Int)))] (0 : Int)) (fun y => y)
    (((decide (x.2.2.2.2.2.2.2.2.1 ≥ x.2.2.2.2.2.2.2.1)) && (Sp.F42 (x.2.2.2.2.2.2.2.2.2, (0 : Int), (IntKind.i64.wrap (x.1.1 - (1 : Int)))))))
end Go.Proofs.Ytkanaakceokifaa.Sp
namespace Go.Proofs.Ytkanaakceokifaa.Sy
def ct43 : Ct := { p := (Ty.pair ty25 ty33), psh := [some 8, some 9], r := ty4, rsh := (Rsh.one (none)), pre := none, fresh := none, F := Sp.F43 }
theorem va43 (x : (Ty.pair ty25 ty33).den) : ((evFn (ctxG GmT0) Try.f43 (Ty.pair ty25 ty33) [some 8, some 9] (Rsh.one (none)) none ty4 (lookL [(5, LS43_5)]) x)).val (fun y => y) (Ty.dflt ty4) = Sp.F43 x := by kernel_rfl
theorem se43 (x : (Ty.pair ty25 ty33).den) : ((evFn (ctxG GmT0) Try.f43 (Ty.pair ty25 ty33) [some 8, some 9] (Rsh.one (none)) none ty4 (lookL [(5, LS43_5)]) x)).safe = (((((decide (x.2.2.2.2.1 < (0 : Int))) || (decide (x.2.2.2.2.1 > (10000 : Int)))) = true → True) ∧ (((decide (x.2.2.2.2.1 < (0 : Int))) || (decide (x.2.2.2.2.1 > (10000 : Int)))) = false → ((Sp.in43_5 [x.2.1, x.2.2.1, x.2.2.2.1, x.2.2.2.2.2.1, x.2.2.2.2.2.2.1, x.2.2.2.2.2.2.2.1, x.2.2.2.2.2.2.2.2.1, (IntKind.i64.wrap (x.2.2.2.2.1 + (1 : Int)))] (0 : Int)) ∧ ((Sp.R43_5 [x.2.1, x.2.2.1, x.2.2.2.1, x.2.2.2.2.2.1, x.2.2.2.2.2.2.1, x.2.2.2.2.2.2.2.1, x.2.2.2.2.2.2.2.2.1, (IntKind.i64.wrap (x.2.2.2.2.1 + (1 : Int)))] (0 : Int)) = none → True))))) := by kernel_rfl
theorem sa43 (x : (Ty.pair ty25 ty33).den) (fx : Fit (Ty.pair ty25 ty33) x) : SafeW ((evFn (ctxG GmT0) Try.f43 (Ty.pair ty25 ty33) [some 8, some 9] (Rsh.one (none)) none ty4 (lookL [(5, LS43_5)]) x)) := by
  refine ⟨?_⟩
  rw [se43]
  try dsimp only [Ty.den] at *
  simp only [Fit, maxLen] at fx
  simp only [Sp.in43_5, IntKind.wrap_i64, IntKind.wrap_u8, IntKind.wrap_u32, IntKind.wrap_u64, Sp.tmod_ite, Sp.tdiv_ite, setE, copyL, sliceL, zrow, List.length_append, List.length_cons, List.length_nil, List.length_set, List.length_replicate, List.length_take, List.length_drop, decide_eq_true_eq, decide_eq_false_iff_not, Bool.or_eq_true, Bool.and_eq_true, Bool.or_eq_false_iff, Bool.and_eq_false_iff, Bool.not_eq_true', Bool.not_eq_false', Bool.not_eq_true, Bool.not_eq_false, beq_iff_eq, beq_eq_false_iff_ne, bne_iff_ne, ne_eq, implies_true, and_true, true_and] at *
  all_goals ((repeat' (first | exact trivial | apply And.intro | intro _)) <;> first | trivial | omega)
theorem ok43 : CtOk Try.prog gdS 43 ct43 :=
  fn_okU (ctxOkF gokGmT0 []) rfl Try.func43 (p := (Ty.pair ty25 ty33)) (psh := [some 8, some 9]) (r := ty4) (rsh := (Rsh.one (none))) (pre := none) (fresh := none) (F := Sp.F43) (L := (lookL [(5, LS43_5)])) (c := bodyOf Try.f43) (dflt := Ty.dflt ty4) rfl (loops_of (l := [bodyAt (bodyOf Try.f43) [0]]) (by kernel_rfl) (loops_cons (s0 := LS43_5) (by kernel_rfl) lo43_5 (loops_nil)))
    (safe_no @sa43) va43
/-! building.service -/
end Go.Proofs.Ytkanaakceokifaa.Sy
namespace Go.Proofs.Ytkanaakceokifaa.Sp
open Go Go.RowKit Sy
def F44 (x : Int × Int × Int × Int × Int × Int × Int × Int × Int × Int) : Int :=
  (IntKind.i64.wrap ((IntKind.i64.wrap ((IntKind.i64.wrap ((3 : Int) * x.1)) + (1 : Int))) * (IntKind.i64.wrap ((IntKind.i64.wrap ((IntKind.i64.wrap ((3 : Int) * (Sp.F18 x.2))) + x.2.2.2.2.2.1)) + (2 : Int)))))
end Go.Proofs.Ytkanaakceokifaa.Sp
namespace Go.Proofs.Ytkanaakceokifaa.Sy
def ct44 : Ct := { p := (Ty.pair ty3 ty33), psh := [none, some 9], r := ty3, rsh := (Rsh.one (none)), pre := none, fresh := none, F := Sp.F44 }
theorem va44 (x : (Ty.pair ty3 ty33).den) : ((evFn (ctxG GmT0) Try.f44 (Ty.pair ty3 ty33) [none, some 9] (Rsh.one (none)) none ty3 noL x)).val (fun y => y) (Ty.dflt ty3) = Sp.F44 x := by kernel_rfl
theorem se44 (x : (Ty.pair ty3 ty33).den) : ((evFn (ctxG GmT0) Try.f44 (Ty.pair ty3 ty33) [none, some 9] (Rsh.one (none)) none ty3 noL x)).safe = (True) := by kernel_rfl
theorem sa44 (x : (Ty.pair ty3 ty33).den) (fx : Fit (Ty.pair ty3 ty33) x) : SafeW ((evFn (ctxG GmT0) Try.f44 (Ty.pair ty3 ty33) [none, some 9] (Rsh.one (none)) none ty3 noL x)) := by
  refine ⟨?_⟩
  rw [se44]
  trivial
theorem ok44 : CtOk Try.prog gdS 44 ct44 :=
  fn_okU (ctxOkF gokGmT0 []) rfl Try.func44 (p := (Ty.pair ty3 ty33)) (psh := [none, some 9]) (r := ty3) (rsh := (Rsh.one (none))) (pre := none) (fresh := none) (F := Sp.F44) (L := noL) (c := bodyOf Try.f44) (dflt := Ty.dflt ty3) rfl (no_loops)
    (safe_no @sa44) va44
def GmT1 : List (Nat × Ct) := (40, ct40) :: (43, ct43) :: (44, ct44) :: GmT0
theorem gokGmT1 : GOk GmT1 := gok_cons ok40 ⟨_, Try.func40, by kernel_rfl, by kernel_rfl⟩ (gok_cons ok43 ⟨_, Try.func43, by kernel_rfl, by kernel_rfl⟩ (gok_cons ok44 ⟨_, Try.func44, by kernel_rfl, by kernel_rfl⟩ (gokGmT0)))
end Go.Proofs.Ytkanaakceokifaa.Sy
