/- Contracts of functions, by the evaluator (own program gen.py): door.IsState, door.counted, door.stay, door.nudge. -/
import Derived.Test.YtkanaakceokifaaD0
set_option linter.unusedVariables false
set_option linter.unusedSimpArgs false
set_option maxRecDepth 100000
namespace Go.Proofs.Ytkanaakceokifaa.Sy
open Go Go.RowKit Sp
/-! door.IsState -/
end Go.Proofs.Ytkanaakceokifaa.Sy
namespace Go.Proofs.Ytkanaakceokifaa.Sp
open Go Go.RowKit Sy
def F31 (x : Int × Int × Int × Bool × Int) : Bool :=
  bif (x.1 == (0 : Int)) then
    ((x.1 == (0 : Int)) && ((x.2.1 == (0 : Int)) && ((x.2.2.1 == (0 : Int)) && ((x.2.2.2.1 == false) && (x.2.2.2.2 == (0 : Int))))))
  else
    (((((decide (x.1 ≥ (0 : Int))) && (decide (x.1 ≤ (3 : Int)))) && (Sp.F54 x.2.1)) && (Sp.F54 x.2.2.1)) && (Sp.F54 x.2.2.2.2))
end Go.Proofs.Ytkanaakceokifaa.Sp
namespace Go.Proofs.Ytkanaakceokifaa.Sy
def ct31 : Ct := { p := ty42, psh := [some 5], r := ty4, rsh := (Rsh.one (none)), pre := none, fresh := none, F := Sp.F31 }
theorem va31 (x : ty42.den) : ((evFn (ctxG GmD0) Try.f31 ty42 [some 5] (Rsh.one (none)) none ty4 noL x)).val (fun y => y) (Ty.dflt ty4) = Sp.F31 x := by kernel_rfl
theorem se31 (x : ty42.den) : ((evFn (ctxG GmD0) Try.f31 ty42 [some 5] (Rsh.one (none)) none ty4 noL x)).safe = ((((x.1 == (0 : Int)) = true → True) ∧ ((x.1 == (0 : Int)) = false → True))) := by kernel_rfl
theorem sa31 (x : ty42.den) (fx : Fit ty42 x) : SafeW ((evFn (ctxG GmD0) Try.f31 ty42 [some 5] (Rsh.one (none)) none ty4 noL x)) := by
  refine ⟨?_⟩
  rw [se31]
  try dsimp only [Ty.den] at *
  simp only [Fit, maxLen] at fx
  simp only [true_and, IntKind.wrap_i64, IntKind.wrap_u8, IntKind.wrap_u32, IntKind.wrap_u64, Sp.tmod_lit, Sp.tdiv_lit, setE, copyL, sliceL, zrow, List.length_append, List.length_cons, List.length_nil, List.length_set, List.length_replicate, List.length_take, List.length_drop, decide_eq_true_eq, decide_eq_false_iff_not, Bool.or_eq_true, Bool.and_eq_true, Bool.or_eq_false_iff, Bool.and_eq_false_iff, Bool.not_eq_true', Bool.not_eq_false', Bool.not_eq_true, Bool.not_eq_false, beq_iff_eq, beq_eq_false_iff_ne, bne_iff_ne, ne_eq, implies_true, and_true, true_and] at *
  all_goals ((repeat' (first | exact trivial | apply And.intro | intro _)) <;> first | trivial | omega | exact Sp.tmod_nn (by omega) | exact Sp.tmod_lt (by omega) (by omega))
theorem ok31 : CtOk Try.prog gdS 31 ct31 :=
  fn_okU (ctxOkF gokGmD0 []) rfl Try.func31 (p := ty42) (psh := [some 5]) (r := ty4) (rsh := (Rsh.one (none))) (pre := none) (fresh := none) (F := Sp.F31) (L := noL) (c := bodyOf Try.f31) (dflt := Ty.dflt ty4) rfl (no_loops)
    (safe_no @sa31) va31
/-! door.counted -/
end Go.Proofs.Ytkanaakceokifaa.Sy
namespace Go.Proofs.Ytkanaakceokifaa.Sp
open Go Go.RowKit Sy
def F45 (x : Int × Int × Int × Bool × Int) : Int × Int × Int × Bool × Int :=
  bif (x.2.2.1 != (0 : Int)) then
    (x.1, x.2.1, (Sp.F49 x.2.2.1), x.2.2.2)
  else
    x
end Go.Proofs.Ytkanaakceokifaa.Sp
namespace Go.Proofs.Ytkanaakceokifaa.Sy
def ct45 : Ct := { p := ty42, psh := [some 5], r := ty42, rsh := (Rsh.one (some 5)), pre := none, fresh := none, F := Sp.F45 }
theorem va45 (x : ty42.den) : ((evFn (ctxG GmD0) Try.f45 ty42 [some 5] (Rsh.one (some 5)) none ty42 noL x)).val (fun y => y) (Ty.dflt ty42) = Sp.F45 x := by kernel_rfl
theorem se45 (x : ty42.den) : ((evFn (ctxG GmD0) Try.f45 ty42 [some 5] (Rsh.one (some 5)) none ty42 noL x)).safe = ((((x.2.2.1 != (0 : Int)) = true → True) ∧ ((x.2.2.1 != (0 : Int)) = false → True))) := by kernel_rfl
theorem sa45 (x : ty42.den) (fx : Fit ty42 x) : SafeW ((evFn (ctxG GmD0) Try.f45 ty42 [some 5] (Rsh.one (some 5)) none ty42 noL x)) := by
  refine ⟨?_⟩
  rw [se45]
  try dsimp only [Ty.den] at *
  simp only [Fit, maxLen] at fx
  simp only [true_and, IntKind.wrap_i64, IntKind.wrap_u8, IntKind.wrap_u32, IntKind.wrap_u64, Sp.tmod_lit, Sp.tdiv_lit, setE, copyL, sliceL, zrow, List.length_append, List.length_cons, List.length_nil, List.length_set, List.length_replicate, List.length_take, List.length_drop, decide_eq_true_eq, decide_eq_false_iff_not, Bool.or_eq_true, Bool.and_eq_true, Bool.or_eq_false_iff, Bool.and_eq_false_iff, Bool.not_eq_true', Bool.not_eq_false', Bool.not_eq_true, Bool.not_eq_false, beq_iff_eq, beq_eq_false_iff_ne, bne_iff_ne, ne_eq, implies_true, and_true, true_and] at *
  all_goals ((repeat' (first | exact trivial | apply And.intro | intro _)) <;> first | trivial | omega | exact Sp.tmod_nn (by omega) | exact Sp.tmod_lt (by omega) (by omega))
theorem ok45 : CtOk Try.prog gdS 45 ct45 :=
  fn_okU (ctxOkF gokGmD0 []) rfl Try.func45 (p := ty42) (psh := [some 5]) (r := ty42) (rsh := (Rsh.one (some 5))) (pre := none) (fresh := none) (F := Sp.F45) (L := noL) (c := bodyOf Try.f45) (dflt := Ty.dflt ty42) rfl (no_loops)
    (safe_no @sa45) va45
/-! door.stay -/
end Go.Proofs.Ytkanaakceokifaa.Sy
namespace Go.Proofs.Ytkanaakceokifaa.Sp
open Go Go.RowKit Sy
def F47 (x : (Int × Int × Int × Bool × Int) × Int) : (Int × Int × Int × Bool × Int) × Int :=
  ((x.1.1, (Sp.F49 x.1.2.1), x.1.2.2), x.2)
end Go.Proofs.Ytkanaakceokifaa.Sp
namespace Go.Proofs.Ytkanaakceokifaa.Sy
def ct47 : Ct := { p := (Ty.pair ty42 ty3), psh := [some 5, none], r := (Ty.pair ty42 ty3), rsh := (Rsh.tup [some 5, none]), pre := none, fresh := none, F := Sp.F47 }
theorem va47 (x : (Ty.pair ty42 ty3).den) : ((evFn (ctxG GmD0) Try.f47 (Ty.pair ty42 ty3) [some 5, none] (Rsh.tup [some 5, none]) none (Ty.pair ty42 ty3) noL x)).val (fun y => y) (Ty.dflt (Ty.pair ty42 ty3)) = Sp.F47 x := by kernel_rfl
theorem se47 (x : (Ty.pair ty42 ty3).den) : ((evFn (ctxG GmD0) Try.f47 (Ty.pair ty42 ty3) [some 5, none] (Rsh.tup [some 5, none]) none (Ty.pair ty42 ty3) noL x)).safe = (True) := by kernel_rfl
theorem sa47 (x : (Ty.pair ty42 ty3).den) (fx : Fit (Ty.pair ty42 ty3) x) : SafeW ((evFn (ctxG GmD0) Try.f47 (Ty.pair ty42 ty3) [some 5, none] (Rsh.tup [some 5, none]) none (Ty.pair ty42 ty3) noL x)) := by
  refine ⟨?_⟩
  rw [se47]
  trivial
theorem ok47 : CtOk Try.prog gdS 47 ct47 :=
  fn_okU (ctxOkF gokGmD0 []) rfl Try.func47 (p := (Ty.pair ty42 ty3)) (psh := [some 5, none]) (r := (Ty.pair ty42 ty3)) (rsh := (Rsh.tup [some 5, none])) (pre := none) (fresh := none) (F := Sp.F47) (L := noL) (c := bodyOf Try.f47) (dflt := Ty.dflt (Ty.pair ty42 ty3)) rfl (no_loops)
    (safe_no @sa47) va47
/-! door.nudge -/
end Go.Proofs.Ytkanaakceokifaa.Sy
namespace Go.Proofs.Ytkanaakceokifaa.Sp
open Go Go.RowKit Sy
def F48 (x : Int × Int × Int × Bool × Int) : (Int × Int × Int × Bool × Int) × Int :=
  (((Sp.F46 (x, (3 : Int))).1, (Sp.F46 (x, (3 : Int))).2.1, (Sp.F46 (x, (3 : Int))).2.2.1, true, (Sp.F46 (x, (3 : Int))).2.2.2.2), (5 : Int))
end Go.Proofs.Ytkanaakceokifaa.Sp
namespace Go.Proofs.Ytkanaakceokifaa.Sy
def ct48 : Ct := { p := ty42, psh := [some 5], r := (Ty.pair ty42 ty3), rsh := (Rsh.tup [some 5, none]), pre := none, fresh := none, F := Sp.F48 }
theorem va48 (x : ty42.den) : ((evFn (ctxG GmD0) Try.f48 ty42 [some 5] (Rsh.tup [some 5, none]) none (Ty.pair ty42 ty3) noL x)).val (fun y => y) (Ty.dflt (Ty.pair ty42 ty3)) = Sp.F48 x := by kernel_rfl
theorem se48 (x : ty42.den) : ((evFn (ctxG GmD0) Try.f48 ty42 [some 5] (Rsh.tup [some 5, none]) none (Ty.pair ty42 ty3) noL x)).safe = (True) := by kernel_rfl
theorem sa48 (x : ty42.den) (fx : Fit ty42 x) : SafeW ((evFn (ctxG GmD0) Try.f48 ty42 [some 5] (Rsh.tup [some 5, none]) none (Ty.pair ty42 ty3) noL x)) := by
  refine ⟨?_⟩
  rw [se48]
  trivial
theorem ok48 : CtOk Try.prog gdS 48 ct48 :=
  fn_okU (ctxOkF gokGmD0 []) rfl Try.func48 (p := ty42) (psh := [some 5]) (r := (Ty.pair ty42 ty3)) (rsh := (Rsh.tup [some 5, none])) (pre := none) (fresh := none) (F := Sp.F48) (L := noL) (c := bodyOf Try.f48) (dflt := Ty.dflt (Ty.pair ty42 ty3)) rfl (no_loops)
    (safe_no @sa48) va48
def GmD1 : List (Nat × Ct) := (31, ct31) :: (45, ct45) :: (47, ct47) :: (48, ct48) :: GmD0
theorem gokGmD1 : GOk GmD1 := gok_cons ok31 ⟨_, Try.func31, by kernel_rfl, by kernel_rfl⟩ (gok_cons ok45 ⟨_, Try.func45, by kernel_rfl, by kernel_rfl⟩ (gok_cons ok47 ⟨_, Try.func47, by kernel_rfl, by kernel_rfl⟩ (gok_cons ok48 ⟨_, Try.func48, by kernel_rfl, by kernel_rfl⟩ (gokGmD0))))
end Go.Proofs.Ytkanaakceokifaa.Sy
