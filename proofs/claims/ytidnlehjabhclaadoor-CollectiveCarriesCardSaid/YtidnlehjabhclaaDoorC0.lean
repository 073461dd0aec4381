/- Contracts of functions, by the evaluator (own program gen.py): collective.IsSweep, calls.Both, calls.One, <collective.here>.without, <collective.here>.nearer, collective.open, collective.shown. -/
import Derived.Test.YtidnlehjabhclaaDoorBl
set_option linter.unusedVariables false
set_option linter.unusedSimpArgs false
set_option maxRecDepth 100000
namespace Go.Proofs.YtidnlehjabhclaaDoor.Sy
open Go Go.RowKit Sp
/-! collective.IsSweep -/
end Go.Proofs.YtidnlehjabhclaaDoor.Sy
namespace Go.Proofs.YtidnlehjabhclaaDoor.Sp
open Go Go.RowKit Sy
def F24 (x : Int × Int) : Bool :=
  ((((decide (x.1 ≥ (0 : Int))) && (decide (x.1 ≤ (2 : Int)))) && (decide (x.2 ≥ (0 : Int)))) && (decide (x.2 ≤ (7 : Int))))
end Go.Proofs.YtidnlehjabhclaaDoor.Sp
namespace Go.Proofs.YtidnlehjabhclaaDoor.Sy
def ct24 : Ct := { p := ty23, psh := [some 2], r := ty4, rsh := (Rsh.one (none)), pre := none, fresh := none, F := Sp.F24 }
theorem va24 (x : ty23.den) : ((evFn (ctxG GmM0) Tryd.f24 ty23 [some 2] (Rsh.one (none)) none ty4 noL x)).val (fun y => y) (Ty.dflt ty4) = Sp.F24 x := by kernel_rfl
theorem se24 (x : ty23.den) : ((evFn (ctxG GmM0) Tryd.f24 ty23 [some 2] (Rsh.one (none)) none ty4 noL x)).safe = (True) := by kernel_rfl
theorem sa24 (x : ty23.den) (fx : Fit ty23 x) : SafeW ((evFn (ctxG GmM0) Tryd.f24 ty23 [some 2] (Rsh.one (none)) none ty4 noL x)) := by
  refine ⟨?_⟩
  rw [se24]
  trivial
theorem ok24 : CtOk Tryd.prog gdS 24 ct24 :=
  fn_okU (ctxOkF gokGmM0 []) rfl Tryd.func24 (p := ty23) (psh := [some 2]) (r := ty4) (rsh := (Rsh.one (none))) (pre := none) (fresh := none) (F := Sp.F24) (L := noL) (c := bodyOf Tryd.f24) (dflt := Ty.dflt ty4) rfl (no_loops)
    (safe_no @sa24) va24
/-! calls.Both -/
end Go.Proofs.YtidnlehjabhclaaDoor.Sy
namespace Go.Proofs.YtidnlehjabhclaaDoor.Sp
open Go Go.RowKit Sy
def F39 (x : (Int × Int) × Int × Int) : Int × Int :=
  ((IntKind.u32.wrap ((BitVec.ofInt IntKind.u32.bits x.1.1 &&& BitVec.ofInt IntKind.u32.bits x.2.1).toNat : Int)), (IntKind.u32.wrap ((BitVec.ofInt IntKind.u32.bits x.1.2 &&& BitVec.ofInt IntKind.u32.bits x.2.2).toNat : Int)))
end Go.Proofs.YtidnlehjabhclaaDoor.Sp
namespace Go.Proofs.YtidnlehjabhclaaDoor.Sy
def ct39 : Ct := { p := (Ty.pair ty28 ty28), psh := [some 2, some 2], r := ty28, rsh := (Rsh.one (some 2)), pre := none, fresh := none, F := Sp.F39 }
theorem va39 (x : (Ty.pair ty28 ty28).den) : ((evFn (ctxG GmM0) Tryd.f39 (Ty.pair ty28 ty28) [some 2, some 2] (Rsh.one (some 2)) none ty28 noL x)).val (fun y => y) (Ty.dflt ty28) = Sp.F39 x := by kernel_rfl
theorem se39 (x : (Ty.pair ty28 ty28).den) : ((evFn (ctxG GmM0) Tryd.f39 (Ty.pair ty28 ty28) [some 2, some 2] (Rsh.one (some 2)) none ty28 noL x)).safe = (True) := by kernel_rfl
theorem sa39 (x : (Ty.pair ty28 ty28).den) (fx : Fit (Ty.pair ty28 ty28) x) : SafeW ((evFn (ctxG GmM0) Tryd.f39 (Ty.pair ty28 ty28) [some 2, some 2] (Rsh.one (some 2)) none ty28 noL x)) := by
  refine ⟨?_⟩
  rw [se39]
  trivial
theorem ok39 : CtOk Tryd.prog gdS 39 ct39 :=
  fn_okU (ctxOkF gokGmM0 []) rfl Tryd.func39 (p := (Ty.pair ty28 ty28)) (psh := [some 2, some 2]) (r := ty28) (rsh := (Rsh.one (some 2))) (pre := none) (fresh := none) (F := Sp.F39) (L := noL) (c := bodyOf Tryd.f39) (dflt := Ty.dflt ty28) rfl (no_loops)
    (safe_no @sa39) va39
/-! calls.One -/
end Go.Proofs.YtidnlehjabhclaaDoor.Sy
namespace Go.Proofs.YtidnlehjabhclaaDoor.Sp
open Go Go.RowKit Sy
def F48 (x : Int × Int) : Int × Int :=
  bif ((decide (x.1 ≥ (0 : Int))) && (decide (x.1 < (32 : Int)))) then
    (bif (x.2 == (1 : Int)) then
      ((IntKind.u32.wrap ((1 : Int) * 2 ^ (min (x.1).toNat IntKind.u32.bits))), (0 : Int))
    else
      bif (x.2 == (2 : Int)) then
        ((0 : Int), (IntKind.u32.wrap ((1 : Int) * 2 ^ (min (x.1).toNat IntKind.u32.bits))))
      else
        ((0 : Int), (0 : Int)))
  else
    ((0 : Int), (0 : Int))
end Go.Proofs.YtidnlehjabhclaaDoor.Sp
namespace Go.Proofs.YtidnlehjabhclaaDoor.Sy
def ct48 : Ct := { p := (Ty.pair ty3 ty3), psh := [none, none], r := ty28, rsh := (Rsh.one (some 2)), pre := none, fresh := none, F := Sp.F48 }
theorem va48 (x : (Ty.pair ty3 ty3).den) : ((evFn (ctxG GmM0) Tryd.f48 (Ty.pair ty3 ty3) [none, none] (Rsh.one (some 2)) none ty28 noL x)).val (fun y => y) (Ty.dflt ty28) = Sp.F48 x := by kernel_rfl
theorem se48 (x : (Ty.pair ty3 ty3).den) : ((evFn (ctxG GmM0) Tryd.f48 (Ty.pair ty3 ty3) [none, none] (Rsh.one (some 2)) none ty28 noL x)).safe = (((((decide (x.1 ≥ (0 : Int))) && (decide (x.1 < (32 : Int)))) = true → (((x.2 == (1 : Int)) = true → ((0 ≤ x.1) ∧ True)) ∧ ((x.2 == (1 : Int)) = false → (((x.2 == (2 : Int)) = true → ((0 ≤ x.1) ∧ True)) ∧ ((x.2 == (2 : Int)) = false → True))))) ∧ (((decide (x.1 ≥ (0 : Int))) && (decide (x.1 < (32 : Int)))) = false → True))) := by kernel_rfl
theorem sa48 (x : (Ty.pair ty3 ty3).den) (fx : Fit (Ty.pair ty3 ty3) x) : SafeW ((evFn (ctxG GmM0) Tryd.f48 (Ty.pair ty3 ty3) [none, none] (Rsh.one (some 2)) none ty28 noL x)) := by
  refine ⟨?_⟩
  rw [se48]
  try dsimp only [Ty.den] at *
  simp only [Fit, maxLen] at fx
  simp only [true_and, IntKind.wrap_i64, IntKind.wrap_u8, IntKind.wrap_u32, IntKind.wrap_u64, Sp.tmod_lit, Sp.tdiv_lit, bne_eq_false_iff_eq, Int.natCast_inj, setE, copyL, sliceL, zrow, List.length_append, List.length_cons, List.length_nil, List.length_set, List.length_replicate, List.length_take, List.length_drop, decide_eq_true_eq, decide_eq_false_iff_not, Bool.or_eq_true, Bool.and_eq_true, Bool.or_eq_false_iff, Bool.and_eq_false_iff, Bool.not_eq_true', Bool.not_eq_false', Bool.not_eq_true, Bool.not_eq_false, beq_iff_eq, beq_eq_false_iff_ne, bne_iff_ne, ne_eq, implies_true, and_true, true_and] at *
  all_goals ((repeat' (first | exact trivial | apply And.intro | intro _)) <;> first | trivial | omega | exact Sp.tmod_nn (by omega) | exact Sp.tmod_lt (by omega) (by omega))
theorem ok48 : CtOk Tryd.prog gdS 48 ct48 :=
  fn_okU (ctxOkF gokGmM0 []) rfl Tryd.func48 (p := (Ty.pair ty3 ty3)) (psh := [none, none]) (r := ty28) (rsh := (Rsh.one (some 2))) (pre := none) (fresh := none) (F := Sp.F48) (L := noL) (c := bodyOf Tryd.f48) (dflt := Ty.dflt ty28) rfl (no_loops)
    (safe_no @sa48) va48
/-! <collective.here>.without -/
end Go.Proofs.YtidnlehjabhclaaDoor.Sy
namespace Go.Proofs.YtidnlehjabhclaaDoor.Sp
open Go Go.RowKit Sy
def F27 (x : Bool × Bool × Bool × Int × Int × Int) : (Bool × Bool × Bool × Int × Int × Int) × Bool × Bool × Bool × Int × Int × Int :=
  bif (((((x.1 && (!(x.1 && (x.2.2.2.2.2 != (0 : Int))))) || (x.2.1 && (!(x.2.1 && ((IntKind.i64.wrap ((BitVec.ofInt IntKind.i64.bits (Int.fdiv x.2.2.2.2.2 (2 ^ (min ((1 : Int)).toNat IntKind.i64.bits))) &&& BitVec.ofInt IntKind.i64.bits (1 : Int)).toNat : Int)) == (1 : Int)))))) || (x.2.2.1 && (!(x.2.2.1 && ((IntKind.i64.wrap ((BitVec.ofInt IntKind.i64.bits (Int.fdiv x.2.2.2.2.2 (2 ^ (min ((2 : Int)).toNat IntKind.i64.bits))) &&& BitVec.ofInt IntKind.i64.bits (1 : Int)).toNat : Int)) == (1 : Int)))))) || (decide (x.2.2.2.1 > (0 : Int)))) || (decide (x.2.2.2.2.1 > (0 : Int)))) then
    (((x.1 && (!(x.1 && (x.2.2.2.2.2 != (0 : Int))))), (x.2.1 && (!(x.2.1 && ((IntKind.i64.wrap ((BitVec.ofInt IntKind.i64.bits (Int.fdiv x.2.2.2.2.2 (2 ^ (min ((1 : Int)).toNat IntKind.i64.bits))) &&& BitVec.ofInt IntKind.i64.bits (1 : Int)).toNat : Int)) == (1 : Int))))), (x.2.2.1 && (!(x.2.2.1 && ((IntKind.i64.wrap ((BitVec.ofInt IntKind.i64.bits (Int.fdiv x.2.2.2.2.2 (2 ^ (min ((2 : Int)).toNat IntKind.i64.bits))) &&& BitVec.ofInt IntKind.i64.bits (1 : Int)).toNat : Int)) == (1 : Int))))), x.2.2.2), (x.1 && (x.2.2.2.2.2 != (0 : Int))), (x.2.1 && ((IntKind.i64.wrap ((BitVec.ofInt IntKind.i64.bits (Int.fdiv x.2.2.2.2.2 (2 ^ (min ((1 : Int)).toNat IntKind.i64.bits))) &&& BitVec.ofInt IntKind.i64.bits (1 : Int)).toNat : Int)) == (1 : Int))), (x.2.2.1 && ((IntKind.i64.wrap ((BitVec.ofInt IntKind.i64.bits (Int.fdiv x.2.2.2.2.2 (2 ^ (min ((2 : Int)).toNat IntKind.i64.bits))) &&& BitVec.ofInt IntKind.i64.bits (1 : Int)).toNat : Int)) == (1 : Int))), (0 : Int), (0 : Int), (0 : Int))
  else
    ((x.1, x.2.1, x.2.2.1, x.2.2.2.1, x.2.2.2.2.1, (0 : Int)), false, false, false, (0 : Int), (0 : Int), (0 : Int))
end Go.Proofs.YtidnlehjabhclaaDoor.Sp
namespace Go.Proofs.YtidnlehjabhclaaDoor.Sy
def ct27 : Ct := { p := ty57, psh := [some 6], r := (Ty.pair ty57 ty57), rsh := (Rsh.tup [some 6, some 6]), pre := none, fresh := none, F := Sp.F27 }
theorem va27 (x : ty57.den) : ((evFn (ctxG GmM0) Tryd.f27 ty57 [some 6] (Rsh.tup [some 6, some 6]) none (Ty.pair ty57 ty57) noL x)).val (fun y => y) (Ty.dflt (Ty.pair ty57 ty57)) = Sp.F27 x := by kernel_rfl
theorem se27 (x : ty57.den) : ((evFn (ctxG GmM0) Tryd.f27 ty57 [some 6] (Rsh.tup [some 6, some 6]) none (Ty.pair ty57 ty57) noL x)).safe = ((((x.2.1 = true → 0 ≤ (1 : Int))) ∧ (((x.2.2.1 = true → 0 ≤ (2 : Int))) ∧ (((((((x.1 && (!(x.1 && (x.2.2.2.2.2 != (0 : Int))))) || (x.2.1 && (!(x.2.1 && ((IntKind.i64.wrap ((BitVec.ofInt IntKind.i64.bits (Int.fdiv x.2.2.2.2.2 (2 ^ (min ((1 : Int)).toNat IntKind.i64.bits))) &&& BitVec.ofInt IntKind.i64.bits (1 : Int)).toNat : Int)) == (1 : Int)))))) || (x.2.2.1 && (!(x.2.2.1 && ((IntKind.i64.wrap ((BitVec.ofInt IntKind.i64.bits (Int.fdiv x.2.2.2.2.2 (2 ^ (min ((2 : Int)).toNat IntKind.i64.bits))) &&& BitVec.ofInt IntKind.i64.bits (1 : Int)).toNat : Int)) == (1 : Int)))))) || (decide (x.2.2.2.1 > (0 : Int)))) || (decide (x.2.2.2.2.1 > (0 : Int)))) = true → True) ∧ ((((((x.1 && (!(x.1 && (x.2.2.2.2.2 != (0 : Int))))) || (x.2.1 && (!(x.2.1 && ((IntKind.i64.wrap ((BitVec.ofInt IntKind.i64.bits (Int.fdiv x.2.2.2.2.2 (2 ^ (min ((1 : Int)).toNat IntKind.i64.bits))) &&& BitVec.ofInt IntKind.i64.bits (1 : Int)).toNat : Int)) == (1 : Int)))))) || (x.2.2.1 && (!(x.2.2.1 && ((IntKind.i64.wrap ((BitVec.ofInt IntKind.i64.bits (Int.fdiv x.2.2.2.2.2 (2 ^ (min ((2 : Int)).toNat IntKind.i64.bits))) &&& BitVec.ofInt IntKind.i64.bits (1 : Int)).toNat : Int)) == (1 : Int)))))) || (decide (x.2.2.2.1 > (0 : Int)))) || (decide (x.2.2.2.2.1 > (0 : Int)))) = false → True))))) := by kernel_rfl
theorem sa27 (x : ty57.den) (fx : Fit ty57 x) : SafeW ((evFn (ctxG GmM0) Tryd.f27 ty57 [some 6] (Rsh.tup [some 6, some 6]) none (Ty.pair ty57 ty57) noL x)) := by
  refine ⟨?_⟩
  rw [se27]
  try dsimp only [Ty.den] at *
  simp only [Fit, maxLen] at fx
  simp only [true_and, IntKind.wrap_i64, IntKind.wrap_u8, IntKind.wrap_u32, IntKind.wrap_u64, Sp.tmod_lit, Sp.tdiv_lit, bne_eq_false_iff_eq, Int.natCast_inj, setE, copyL, sliceL, zrow, List.length_append, List.length_cons, List.length_nil, List.length_set, List.length_replicate, List.length_take, List.length_drop, decide_eq_true_eq, decide_eq_false_iff_not, Bool.or_eq_true, Bool.and_eq_true, Bool.or_eq_false_iff, Bool.and_eq_false_iff, Bool.not_eq_true', Bool.not_eq_false', Bool.not_eq_true, Bool.not_eq_false, beq_iff_eq, beq_eq_false_iff_ne, bne_iff_ne, ne_eq, implies_true, and_true, true_and] at *
  all_goals ((repeat' (first | exact trivial | apply And.intro | intro _)) <;> first | trivial | omega | exact Sp.tmod_nn (by omega) | exact Sp.tmod_lt (by omega) (by omega))
theorem ok27 : CtOk Tryd.prog gdS 27 ct27 :=
  fn_okU (ctxOkF gokGmM0 []) rfl Tryd.func27 (p := ty57) (psh := [some 6]) (r := (Ty.pair ty57 ty57)) (rsh := (Rsh.tup [some 6, some 6])) (pre := none) (fresh := none) (F := Sp.F27) (L := noL) (c := bodyOf Tryd.f27) (dflt := Ty.dflt (Ty.pair ty57 ty57)) rfl (no_loops)
    (safe_no @sa27) va27
/-! <collective.here>.nearer -/
end Go.Proofs.YtidnlehjabhclaaDoor.Sy
namespace Go.Proofs.YtidnlehjabhclaaDoor.Sp
open Go Go.RowKit Sy
def F43 (x : Bool × Bool × Bool × Int × Int × Int) : Int :=
  bif ((decide (x.2.2.2.1 > (0 : Int))) && ((x.2.2.2.2.1 == (0 : Int)) || (decide (x.2.2.2.2.1 ≥ x.2.2.2.1)))) then
    (1 : Int)
  else
    bif (decide (x.2.2.2.2.1 > (0 : Int))) then
      (2 : Int)
    else
      (0 : Int)
end Go.Proofs.YtidnlehjabhclaaDoor.Sp
namespace Go.Proofs.YtidnlehjabhclaaDoor.Sy
def ct43 : Ct := { p := ty57, psh := [some 6], r := ty3, rsh := (Rsh.one (none)), pre := none, fresh := none, F := Sp.F43 }
theorem va43 (x : ty57.den) : ((evFn (ctxG GmM0) Tryd.f43 ty57 [some 6] (Rsh.one (none)) none ty3 noL x)).val (fun y => y) (Ty.dflt ty3) = Sp.F43 x := by kernel_rfl
theorem se43 (x : ty57.den) : ((evFn (ctxG GmM0) Tryd.f43 ty57 [some 6] (Rsh.one (none)) none ty3 noL x)).safe = (((((decide (x.2.2.2.1 > (0 : Int))) && ((x.2.2.2.2.1 == (0 : Int)) || (decide (x.2.2.2.2.1 ≥ x.2.2.2.1)))) = true → True) ∧ (((decide (x.2.2.2.1 > (0 : Int))) && ((x.2.2.2.2.1 == (0 : Int)) || (decide (x.2.2.2.2.1 ≥ x.2.2.2.1)))) = false → (((decide (x.2.2.2.2.1 > (0 : Int))) = true → True) ∧ ((decide (x.2.2.2.2.1 > (0 : Int))) = false → True))))) := by kernel_rfl
theorem sa43 (x : ty57.den) (fx : Fit ty57 x) : SafeW ((evFn (ctxG GmM0) Tryd.f43 ty57 [some 6] (Rsh.one (none)) none ty3 noL x)) := by
  refine ⟨?_⟩
  rw [se43]
  try dsimp only [Ty.den] at *
  simp only [Fit, maxLen] at fx
  simp only [true_and, IntKind.wrap_i64, IntKind.wrap_u8, IntKind.wrap_u32, IntKind.wrap_u64, Sp.tmod_lit, Sp.tdiv_lit, bne_eq_false_iff_eq, Int.natCast_inj, setE, copyL, sliceL, zrow, List.length_append, List.length_cons, List.length_nil, List.length_set, List.length_replicate, List.length_take, List.length_drop, decide_eq_true_eq, decide_eq_false_iff_not, Bool.or_eq_true, Bool.and_eq_true, Bool.or_eq_false_iff, Bool.and_eq_false_iff, Bool.not_eq_true', Bool.not_eq_false', Bool.not_eq_true, Bool.not_eq_false, beq_iff_eq, beq_eq_false_iff_ne, bne_iff_ne, ne_eq, implies_true, and_true, true_and] at *
  all_goals ((repeat' (first | exact trivial | apply And.intro | intro _)) <;> first | trivial | omega | exact Sp.tmod_nn (by omega) | exact Sp.tmod_lt (by omega) (by omega))
theorem ok43 : CtOk Tryd.prog gdS 43 ct43 :=
  fn_okU (ctxOkF gokGmM0 []) rfl Tryd.func43 (p := ty57) (psh := [some 6]) (r := ty3) (rsh := (Rsh.one (none))) (pre := none) (fresh := none) (F := Sp.F43) (L := noL) (c := bodyOf Tryd.f43) (dflt := Ty.dflt ty3) rfl (no_loops)
    (safe_no @sa43) va43
/-! collective.open -/
end Go.Proofs.YtidnlehjabhclaaDoor.Sy
namespace Go.Proofs.YtidnlehjabhclaaDoor.Sp
open Go Go.RowKit Sy
def F44 (x : Int) : Int × Int × Int :=
  ((3 : Int), x, x)
end Go.Proofs.YtidnlehjabhclaaDoor.Sp
namespace Go.Proofs.YtidnlehjabhclaaDoor.Sy
def ct44 : Ct := { p := ty3, psh := [none], r := ty35, rsh := (Rsh.one (some 3)), pre := none, fresh := none, F := Sp.F44 }
theorem va44 (x : ty3.den) : ((evFn (ctxG GmM0) Tryd.f44 ty3 [none] (Rsh.one (some 3)) none ty35 noL x)).val (fun y => y) (Ty.dflt ty35) = Sp.F44 x := by kernel_rfl
theorem se44 (x : ty3.den) : ((evFn (ctxG GmM0) Tryd.f44 ty3 [none] (Rsh.one (some 3)) none ty35 noL x)).safe = (True) := by kernel_rfl
theorem sa44 (x : ty3.den) (fx : Fit ty3 x) : SafeW ((evFn (ctxG GmM0) Tryd.f44 ty3 [none] (Rsh.one (some 3)) none ty35 noL x)) := by
  refine ⟨?_⟩
  rw [se44]
  trivial
theorem ok44 : CtOk Tryd.prog gdS 44 ct44 :=
  fn_okU (ctxOkF gokGmM0 []) rfl Tryd.func44 (p := ty3) (psh := [none]) (r := ty35) (rsh := (Rsh.one (some 3))) (pre := none) (fresh := none) (F := Sp.F44) (L := noL) (c := bodyOf Tryd.f44) (dflt := Ty.dflt ty35) rfl (no_loops)
    (safe_no @sa44) va44
/-! collective.shown -/
end Go.Proofs.YtidnlehjabhclaaDoor.Sy
namespace Go.Proofs.YtidnlehjabhclaaDoor.Sp
open Go Go.RowKit Sy
def F45 (x : Int × Bool × Int × Int × Bool × Int) : Int :=
  bif (x.2.1 || (decide (x.2.2.1 > (0 : Int)))) then
    x.1
  else
    bif (x.2.2.2.2.1 || (decide (x.2.2.2.2.2 > (0 : Int)))) then
      x.2.2.2.1
    else
      (0 : Int)
end Go.Proofs.YtidnlehjabhclaaDoor.Sp
namespace Go.Proofs.YtidnlehjabhclaaDoor.Sy
def ct45 : Ct := { p := (Ty.pair ty3 (Ty.pair ty4 (Ty.pair ty3 (Ty.pair ty3 (Ty.pair ty4 ty3))))), psh := [none, none, none, none, none, none], r := ty3, rsh := (Rsh.one (none)), pre := none, fresh := none, F := Sp.F45 }
theorem va45 (x : (Ty.pair ty3 (Ty.pair ty4 (Ty.pair ty3 (Ty.pair ty3 (Ty.pair ty4 ty3))))).den) : ((evFn (ctxG GmM0) Tryd.f45 (Ty.pair ty3 (Ty.pair ty4 (Ty.pair ty3 (Ty.pair ty3 (Ty.pair ty4 ty3))))) [none, none, none, none, none, none] (Rsh.one (none)) none ty3 noL x)).val (fun y => y) (Ty.dflt ty3) = Sp.F45 x := by kernel_rfl
theorem se45 (x : (Ty.pair ty3 (Ty.pair ty4 (Ty.pair ty3 (Ty.pair ty3 (Ty.pair ty4 ty3))))).den) : ((evFn (ctxG GmM0) Tryd.f45 (Ty.pair ty3 (Ty.pair ty4 (Ty.pair ty3 (Ty.pair ty3 (Ty.pair ty4 ty3))))) [none, none, none, none, none, none] (Rsh.one (none)) none ty3 noL x)).safe = ((((x.2.1 || (decide (x.2.2.1 > (0 : Int)))) = true → True) ∧ ((x.2.1 || (decide (x.2.2.1 > (0 : Int)))) = false → (((x.2.2.2.2.1 || (decide (x.2.2.2.2.2 > (0 : Int)))) = true → True) ∧ ((x.2.2.2.2.1 || (decide (x.2.2.2.2.2 > (0 : Int)))) = false → True))))) := by kernel_rfl
theorem sa45 (x : (Ty.pair ty3 (Ty.pair ty4 (Ty.pair ty3 (Ty.pair ty3 (Ty.pair ty4 ty3))))).den) (fx : Fit (Ty.pair ty3 (Ty.pair ty4 (Ty.pair ty3 (Ty.pair ty3 (Ty.pair ty4 ty3))))) x) : SafeW ((evFn (ctxG GmM0) Tryd.f45 (Ty.pair ty3 (Ty.pair ty4 (Ty.pair ty3 (Ty.pair ty3 (Ty.pair ty4 ty3))))) [none, none, none, none, none, none] (Rsh.one (none)) none ty3 noL x)) := by
  refine ⟨?_⟩
  rw [se45]
  try dsimp only [Ty.den] at *
  simp only [Fit, maxLen] at fx
  simp only [true_and, IntKind.wrap_i64, IntKind.wrap_u8, IntKind.wrap_u32, IntKind.wrap_u64, Sp.tmod_lit, Sp.tdiv_lit, bne_eq_false_iff_eq, Int.natCast_inj, setE, copyL, sliceL, zrow, List.length_append, List.length_cons, List.length_nil, List.length_set, List.length_replicate, List.length_take, List.length_drop, decide_eq_true_eq, decide_eq_false_iff_not, Bool.or_eq_true, Bool.and_eq_true, Bool.or_eq_false_iff, Bool.and_eq_false_iff, Bool.not_eq_true', Bool.not_eq_false', Bool.not_eq_true, Bool.not_eq_false, beq_iff_eq, beq_eq_false_iff_ne, bne_iff_ne, ne_eq, implies_true, and_true, true_and] at *
  all_goals ((repeat' (first | exact trivial | apply And.intro | intro _)) <;> first | trivial | omega | exact Sp.tmod_nn (by omega) | exact Sp.tmod_lt (by omega) (by omega))
theorem ok45 : CtOk Tryd.prog gdS 45 ct45 :=
  fn_okU (ctxOkF gokGmM0 []) rfl Tryd.func45 (p := (Ty.pair ty3 (Ty.pair ty4 (Ty.pair ty3 (Ty.pair ty3 (Ty.pair ty4 ty3)))))) (psh := [none, none, none, none, none, none]) (r := ty3) (rsh := (Rsh.one (none))) (pre := none) (fresh := none) (F := Sp.F45) (L := noL) (c := bodyOf Tryd.f45) (dflt := Ty.dflt ty3) rfl (no_loops)
    (safe_no @sa45) va45
def GmC0 : List (Nat × Ct) := (24, ct24) :: (39, ct39) :: (48, ct48) :: (27, ct27) :: (43, ct43) :: (44, ct44) :: (45, ct45) :: GmM0
theorem gokGmC0 : GOk GmC0 := gok_cons ok24 ⟨_, Tryd.func24, by kernel_rfl, by kernel_rfl⟩ (gok_cons ok39 ⟨_, Tryd.func39, by kernel_rfl, by kernel_rfl⟩ (gok_cons ok48 ⟨_, Tryd.func48, by kernel_rfl, by kernel_rfl⟩ (gok_cons ok27 ⟨_, Tryd.func27, by kernel_rfl, by kernel_rfl⟩ (gok_cons ok43 ⟨_, Tryd.func43, by kernel_rfl, by kernel_rfl⟩ (gok_cons ok44 ⟨_, Tryd.func44, by kernel_rfl, by kernel_rfl⟩ (gok_cons ok45 ⟨_, Tryd.func45, by kernel_rfl, by kernel_rfl⟩ (gokGmM0)))))))
end Go.Proofs.YtidnlehjabhclaaDoor.Sy
