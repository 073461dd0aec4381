/- Contracts of functions, by the evaluator (own program gen.py): overlaylaw01.BuildingValid. -/
import Derived.Test.YtkanaakceokifaaT4
set_option linter.unusedVariables false
set_option linter.unusedSimpArgs false
set_option maxRecDepth 100000
namespace Go.Proofs.Ytkanaakceokifaa.Sy
open Go Go.RowKit Sp
/-! overlaylaw01.BuildingValid -/
end Go.Proofs.Ytkanaakceokifaa.Sy
namespace Go.Proofs.Ytkanaakceokifaa.Sp
open Go Go.RowKit Sy
def F3 (x : Int × Int × Int × Int × Nat × Nat × Nat × List (Int × Int × Int × Int × Int × Int × Int × Int × Int)) : Bool :=
  ((decide (((x.2.2.2.2.2.2.2).length : Int) > (100 : Int))) || (((Sp.F12 x) == (Sp.F13 x)) && (Sp.F14 ())))
end Go.Proofs.Ytkanaakceokifaa.Sp
namespace Go.Proofs.Ytkanaakceokifaa.Sy
def ct3 : Ct := { p := ty25, psh := [some 8], r := ty4, rsh := (Rsh.one (none)), pre := none, fresh := none, F := Sp.F3 }
theorem va3 (x : ty25.den) : ((evFn (ctxG GmT4) Try.f3 ty25 [some 8] (Rsh.one (none)) none ty4 noL x)).val (fun y => y) (Ty.dflt ty4) = Sp.F3 x := by kernel_rfl
theorem se3 (x : ty25.den) : ((evFn (ctxG GmT4) Try.f3 ty25 [some 8] (Rsh.one (none)) none ty4 noL x)).safe = (True) := by kernel_rfl
theorem sa3 (x : ty25.den) (fx : Fit ty25 x) : SafeW ((evFn (ctxG GmT4) Try.f3 ty25 [some 8] (Rsh.one (none)) none ty4 noL x)) := by
  refine ⟨?_⟩
  rw [se3]
  trivial
theorem ok3 : CtOk Try.prog gdS 3 ct3 :=
  fn_okU (ctxOkF gokGmT4 []) rfl Try.func3 (p := ty25) (psh := [some 8]) (r := ty4) (rsh := (Rsh.one (none))) (pre := none) (fresh := none) (F := Sp.F3) (L := noL) (c := bodyOf Try.f3) (dflt := Ty.dflt ty4) rfl (no_loops)
    (safe_no @sa3) va3
def GmT5 : List (Nat × Ct) := (3, ct3) :: GmT4
theorem gokGmT5 : GOk GmT5 := gok_cons ok3 ⟨_, Try.func3, by kernel_rfl, by kernel_rfl⟩ (gokGmT4)
end Go.Proofs.Ytkanaakceokifaa.Sy
