/- Contracts of functions, by the evaluator (own program gen.py): indicator.isFloors, indicator.pair. -/
import Derived.Test.YtmaobgibcehhmaaDoorBp
set_option linter.unusedVariables false
set_option linter.unusedSimpArgs false
set_option maxRecDepth 100000
namespace Go.Proofs.YtmaobgibcehhmaaDoor.Sy
open Go Go.RowKit Sp
/-! indicator.isFloors -/
end Go.Proofs.YtmaobgibcehhmaaDoor.Sy
namespace Go.Proofs.YtmaobgibcehhmaaDoor.Sp
open Go Go.RowKit Sy
def F10 (x : Int) : Bool :=
  ((decide (x ≥ (2 : Int))) && (decide (x ≤ (32 : Int))))
end Go.Proofs.YtmaobgibcehhmaaDoor.Sp
namespace Go.Proofs.YtmaobgibcehhmaaDoor.Sy
def ct10 : Ct := { p := ty3, psh := [none], r := ty4, rsh := (Rsh.one (none)), pre := none, fresh := none, F := Sp.F10 }
theorem va10 (x : ty3.den) : ((evFn (ctxG GmM0) Tryd.f10 ty3 [none] (Rsh.one (none)) none ty4 noL x)).val (fun y => y) (Ty.dflt ty4) = Sp.F10 x := by kernel_rfl
theorem se10 (x : ty3.den) : ((evFn (ctxG GmM0) Tryd.f10 ty3 [none] (Rsh.one (none)) none ty4 noL x)).safe = (True) := by kernel_rfl
theorem sa10 (x : ty3.den) (fx : Fit ty3 x) : SafeW ((evFn (ctxG GmM0) Tryd.f10 ty3 [none] (Rsh.one (none)) none ty4 noL x)) := by
  refine ⟨?_⟩
  rw [se10]
  trivial
theorem ok10 : CtOk Tryd.prog gdS 10 ct10 :=
  fn_okU (ctxOkF gokGmM0 []) rfl Tryd.func10 (p := ty3) (psh := [none]) (r := ty4) (rsh := (Rsh.one (none))) (pre := none) (fresh := none) (F := Sp.F10) (L := noL) (c := bodyOf Tryd.f10) (dflt := Ty.dflt ty4) rfl (no_loops)
    (safe_no @sa10) va10
/-! indicator.pair -/
end Go.Proofs.YtmaobgibcehhmaaDoor.Sy
namespace Go.Proofs.YtmaobgibcehhmaaDoor.Sp
open Go Go.RowKit Sy
def F9 (x : Bool × Bool × Int × Int × Int × Int) : Int :=
  bif x.1 then
    (bif x.2.1 then
      (Sp.nthT [x.2.2.1, x.2.2.2.1, x.2.2.2.2.1, x.2.2.2.2.2] (IntKind.i64.wrap ((IntKind.i64.wrap ((0 : Int) + (1 : Int))) + (2 : Int))))
    else
      (Sp.nthT [x.2.2.1, x.2.2.2.1, x.2.2.2.2.1, x.2.2.2.2.2] (IntKind.i64.wrap ((0 : Int) + (1 : Int)))))
  else
    bif x.2.1 then
      (Sp.nthT [x.2.2.1, x.2.2.2.1, x.2.2.2.2.1, x.2.2.2.2.2] (IntKind.i64.wrap ((0 : Int) + (2 : Int))))
    else
      (Sp.nthT [x.2.2.1, x.2.2.2.1, x.2.2.2.2.1, x.2.2.2.2.2] (0 : Int))
end Go.Proofs.YtmaobgibcehhmaaDoor.Sp
namespace Go.Proofs.YtmaobgibcehhmaaDoor.Sy
def ct9 : Ct := { p := (Ty.pair ty4 (Ty.pair ty4 ty39)), psh := [none, none, some 4], r := ty3, rsh := (Rsh.one (none)), pre := none, fresh := none, F := Sp.F9 }
theorem va9 (x : (Ty.pair ty4 (Ty.pair ty4 ty39)).den) : ((evFn (ctxG GmM0) Tryd.f9 (Ty.pair ty4 (Ty.pair ty4 ty39)) [none, none, some 4] (Rsh.one (none)) none ty3 noL x)).val (fun y => y) (Ty.dflt ty3) = Sp.F9 x := by kernel_rfl
theorem se9 (x : (Ty.pair ty4 (Ty.pair ty4 ty39)).den) : ((evFn (ctxG GmM0) Tryd.f9 (Ty.pair ty4 (Ty.pair ty4 ty39)) [none, none, some 4] (Rsh.one (none)) none ty3 noL x)).safe = (((x.1 = true → ((x.2.1 = true → ((0 ≤ (IntKind.i64.wrap ((IntKind.i64.wrap ((0 : Int) + (1 : Int))) + (2 : Int))) ∧ (IntKind.i64.wrap ((IntKind.i64.wrap ((0 : Int) + (1 : Int))) + (2 : Int))) < (4 : Int)) ∧ True)) ∧ (x.2.1 = false → ((0 ≤ (IntKind.i64.wrap ((0 : Int) + (1 : Int))) ∧ (IntKind.i64.wrap ((0 : Int) + (1 : Int))) < (4 : Int)) ∧ True)))) ∧ (x.1 = false → ((x.2.1 = true → ((0 ≤ (IntKind.i64.wrap ((0 : Int) + (2 : Int))) ∧ (IntKind.i64.wrap ((0 : Int) + (2 : Int))) < (4 : Int)) ∧ True)) ∧ (x.2.1 = false → ((0 ≤ (0 : Int) ∧ (0 : Int) < (4 : Int)) ∧ True)))))) := by kernel_rfl
theorem sa9 (x : (Ty.pair ty4 (Ty.pair ty4 ty39)).den) (fx : Fit (Ty.pair ty4 (Ty.pair ty4 ty39)) x) : SafeW ((evFn (ctxG GmM0) Tryd.f9 (Ty.pair ty4 (Ty.pair ty4 ty39)) [none, none, some 4] (Rsh.one (none)) none ty3 noL x)) := by
  refine ⟨?_⟩
  rw [se9]
  try dsimp only [Ty.den] at *
  simp only [Fit, maxLen] at fx
  simp only [true_and, IntKind.wrap_i64, IntKind.wrap_u8, IntKind.wrap_u32, IntKind.wrap_u64, Sp.tmod_lit, Sp.tdiv_lit, bne_eq_false_iff_eq, Int.natCast_inj, setE, copyL, sliceL, zrow, List.length_append, List.length_cons, List.length_nil, List.length_set, List.length_replicate, List.length_take, List.length_drop, decide_eq_true_eq, decide_eq_false_iff_not, Bool.or_eq_true, Bool.and_eq_true, Bool.or_eq_false_iff, Bool.and_eq_false_iff, Bool.not_eq_true', Bool.not_eq_false', Bool.not_eq_true, Bool.not_eq_false, beq_iff_eq, beq_eq_false_iff_ne, bne_iff_ne, ne_eq, implies_true, and_true, true_and] at *
  all_goals ((repeat' (first | exact trivial | apply And.intro | intro _)) <;> first | trivial | omega | exact Sp.tmod_nn (by omega) | exact Sp.tmod_lt (by omega) (by omega))
theorem ok9 : CtOk Tryd.prog gdS 9 ct9 :=
  fn_okU (ctxOkF gokGmM0 []) rfl Tryd.func9 (p := (Ty.pair ty4 (Ty.pair ty4 ty39))) (psh := [none, none, some 4]) (r := ty3) (rsh := (Rsh.one (none))) (pre := none) (fresh := none) (F := Sp.F9) (L := noL) (c := bodyOf Tryd.f9) (dflt := Ty.dflt ty3) rfl (no_loops)
    (safe_no @sa9) va9
def GmI0 : List (Nat × Ct) := (10, ct10) :: (9, ct9) :: GmM0
theorem gokGmI0 : GOk GmI0 := gok_cons ok10 ⟨_, Tryd.func10, by kernel_rfl, by kernel_rfl⟩ (gok_cons ok9 ⟨_, Tryd.func9, by kernel_rfl, by kernel_rfl⟩ (gokGmM0))
end Go.Proofs.YtmaobgibcehhmaaDoor.Sy
