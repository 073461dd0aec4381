/- Contracts of functions, by the evaluator (own program gen.py): overlaylaw11.same. -/
import Derived.Test.YtidnlehjabhclaaDoorE5
set_option linter.unusedVariables false
set_option linter.unusedSimpArgs false
set_option maxRecDepth 100000
namespace Go.Proofs.YtidnlehjabhclaaDoor.Sy
open Go Go.RowKit Sp
/-! overlaylaw11.same -/
end Go.Proofs.YtidnlehjabhclaaDoor.Sy
namespace Go.Proofs.YtidnlehjabhclaaDoor.Sp
open Go Go.RowKit Sy
def F16 (x : Int × ((Int × Int) × Int) × Int × Int × Int) : Bool :=
  ((((((Sp.F9 (x.1, x.2.1.1, x.2.1.2, x.2.2)).1 == (Sp.F20 (x.1, x.2.1.1, x.2.1.2, x.2.2)).1) && (((Sp.F9 (x.1, x.2.1.1, x.2.1.2, x.2.2)).2.1 == (Sp.F20 (x.1, x.2.1.1, x.2.1.2, x.2.2)).2.1) && ((Sp.F9 (x.1, x.2.1.1, x.2.1.2, x.2.2)).2.2 == (Sp.F20 (x.1, x.2.1.1, x.2.1.2, x.2.2)).2.2))) && (((Sp.F14 (x.1, x.2.1.1, x.2.1.2, x.2.2)).1 == (Sp.F21 (x.1, x.2.1.1, x.2.1.2, x.2.2)).1) && ((Sp.F14 (x.1, x.2.1.1, x.2.1.2, x.2.2)).2 == (Sp.F21 (x.1, x.2.1.1, x.2.1.2, x.2.2)).2))) && (((Sp.F22 (x.1, x.2.1.1, x.2.1.2, x.2.2)).1 == (Sp.F23 (x.1, x.2.1.1, x.2.1.2, x.2.2)).1) && (((Sp.F22 (x.1, x.2.1.1, x.2.1.2, x.2.2)).2.1 == (Sp.F23 (x.1, x.2.1.1, x.2.1.2, x.2.2)).2.1) && ((Sp.F22 (x.1, x.2.1.1, x.2.1.2, x.2.2)).2.2 == (Sp.F23 (x.1, x.2.1.1, x.2.1.2, x.2.2)).2.2)))) && ((Sp.F24 x.2.1.1) == (Sp.F25 x.2.1.1)))
end Go.Proofs.YtidnlehjabhclaaDoor.Sp
namespace Go.Proofs.YtidnlehjabhclaaDoor.Sy
def ct16 : Ct := { p := (Ty.pair ty3 (Ty.pair ty25 ty30)), psh := [none, some 3, some 3], r := ty4, rsh := (Rsh.one (none)), pre := none, fresh := none, F := Sp.F16 }
theorem va16 (x : (Ty.pair ty3 (Ty.pair ty25 ty30)).den) : ((evFn (ctxG GmE5) Tryd.f16 (Ty.pair ty3 (Ty.pair ty25 ty30)) [none, some 3, some 3] (Rsh.one (none)) none ty4 noL x)).val (fun y => y) (Ty.dflt ty4) = Sp.F16 x := by kernel_rfl
theorem se16 (x : (Ty.pair ty3 (Ty.pair ty25 ty30)).den) : ((evFn (ctxG GmE5) Tryd.f16 (Ty.pair ty3 (Ty.pair ty25 ty30)) [none, some 3, some 3] (Rsh.one (none)) none ty4 noL x)).safe = (True) := by kernel_rfl
theorem sa16 (x : (Ty.pair ty3 (Ty.pair ty25 ty30)).den) (fx : Fit (Ty.pair ty3 (Ty.pair ty25 ty30)) x) : SafeW ((evFn (ctxG GmE5) Tryd.f16 (Ty.pair ty3 (Ty.pair ty25 ty30)) [none, some 3, some 3] (Rsh.one (none)) none ty4 noL x)) := by
  refine ⟨?_⟩
  rw [se16]
  trivial
theorem ok16 : CtOk Tryd.prog gdS 16 ct16 :=
  fn_okU (ctxOkF gokGmE5 []) rfl Tryd.func16 (p := (Ty.pair ty3 (Ty.pair ty25 ty30))) (psh := [none, some 3, some 3]) (r := ty4) (rsh := (Rsh.one (none))) (pre := none) (fresh := none) (F := Sp.F16) (L := noL) (c := bodyOf Tryd.f16) (dflt := Ty.dflt ty4) rfl (no_loops)
    (safe_no @sa16) va16
def GmE6 : List (Nat × Ct) := (16, ct16) :: GmE5
theorem gokGmE6 : GOk GmE6 := gok_cons ok16 ⟨_, Tryd.func16, by kernel_rfl, by kernel_rfl⟩ (gokGmE5)
end Go.Proofs.YtidnlehjabhclaaDoor.Sy
