/- Contracts of functions, by the evaluator (own program gen.py): overlaylaw06.sane. -/
import Derived.Test.YtabifaikklcghaaLg
set_option linter.unusedVariables false
set_option linter.unusedSimpArgs false
set_option maxRecDepth 100000
namespace Go.Proofs.Ytabifaikklcghaa.Sy
open Go Go.RowKit Sp
/-! overlaylaw06.sane -/
end Go.Proofs.Ytabifaikklcghaa.Sy
namespace Go.Proofs.Ytabifaikklcghaa.Sp
open Go Go.RowKit Sy
def K27_1 (x : Unit) :=
  (Sp.F24 ((Sp.F23 ((4593671619917905920 : Nat), (4604930618986332160 : Nat), (4607182418800017408 : Nat))), (0 : Int), [(4604930618986332160 : Nat), (4604480259023595110 : Nat), (4604367669032910848 : Nat), (4603579539098121011 : Nat), (Sp.F43 ()), (Sp.F44 (1 : Int)), (Sp.F45 ((0 : Nat), (13830554455654793216 : Nat)))]))
def F27 (x : Unit) : Bool :=
  ((Sp.F25 ((Sp.K27_1 x), [(3 : Int), (3 : Int), (3 : Int), (2 : Int), (0 : Int), (4 : Int), (1 : Int)])) && ((Sp.F28 ((Sp.F23 ((4593671619917905920 : Nat), (4604930618986332160 : Nat), (4607182418800017408 : Nat))), (13830554455654793216 : Nat))) == (0 : Int)))
end Go.Proofs.Ytabifaikklcghaa.Sp
namespace Go.Proofs.Ytabifaikklcghaa.Sy
def ct27 : Ct := { p := Ty.unit, psh := [], r := ty4, rsh := (Rsh.one (none)), pre := none, fresh := none, F := Sp.F27 }
theorem va27 (x : Ty.unit.den) : ((evFn (ctxG GmK2) Try.f27 Ty.unit [] (Rsh.one (none)) none ty4 noL x)).val (fun y => y) (Ty.dflt ty4) = Sp.F27 x := by kernel_rfl
theorem se27 (x : Ty.unit.den) : ((evFn (ctxG GmK2) Try.f27 Ty.unit [] (Rsh.one (none)) none ty4 noL x)).safe = (True) := by kernel_rfl
theorem sa27 (x : Ty.unit.den) (fx : Fit Ty.unit x) : SafeW ((evFn (ctxG GmK2) Try.f27 Ty.unit [] (Rsh.one (none)) none ty4 noL x)) := by
  refine ⟨?_⟩
  rw [se27]
  trivial
theorem ok27 : CtOk Try.prog gdS 27 ct27 :=
  fn_okU (ctxOkF gokGmK2 []) rfl Try.func27 (p := Ty.unit) (psh := []) (r := ty4) (rsh := (Rsh.one (none))) (pre := none) (fresh := none) (F := Sp.F27) (L := noL) (c := bodyOf Try.f27) (dflt := Ty.dflt ty4) rfl (no_loops)
    (safe_no @sa27) va27
def GmK3 : List (Nat × Ct) := (27, ct27) :: GmK2
theorem gokGmK3 : GOk GmK3 := gok_cons ok27 ⟨_, Try.func27, by kernel_rfl, by kernel_rfl⟩ (gokGmK2)
end Go.Proofs.Ytabifaikklcghaa.Sy
