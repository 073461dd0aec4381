/- Contracts of functions, by the evaluator (own program gen.py): overlaylaw16.sane, overlayref16.Step. -/
import Derived.Test.YtjdaplmlmmnokaaR2
set_option linter.unusedVariables false
set_option linter.unusedSimpArgs false
set_option maxRecDepth 100000
namespace Go.Proofs.Ytjdaplmlmmnokaa.Sy
open Go Go.RowKit Sp
/-! overlaylaw16.sane -/
end Go.Proofs.Ytjdaplmlmmnokaa.Sy
namespace Go.Proofs.Ytjdaplmlmmnokaa.Sp
open Go Go.RowKit Sy
def F7 (x : Unit) : Bool :=
  (((((((Sp.F10 ((5 : Int), (Sp.F8 (2 : Int)), (1 : Int), (3 : Int))).2.2.1 == (2 : Int)) && (((Sp.F12 ((Sp.F10 ((5 : Int), (Sp.F8 (2 : Int)), (1 : Int), (3 : Int))), true)).1 == (2 : Int)) && (((Sp.F12 ((Sp.F10 ((5 : Int), (Sp.F8 (2 : Int)), (1 : Int), (3 : Int))), true)).2.1 == false) && (((Sp.F12 ((Sp.F10 ((5 : Int), (Sp.F8 (2 : Int)), (1 : Int), (3 : Int))), true)).2.2.1 == (2 : Int)) && ((Sp.F12 ((Sp.F10 ((5 : Int), (Sp.F8 (2 : Int)), (1 : Int), (3 : Int))), true)).2.2.2 == true))))) && ((Sp.F10 ((5 : Int), (Sp.F10 ((5 : Int), (Sp.F8 (2 : Int)), (1 : Int), (3 : Int))), (0 : Int), (1 : Int))).1 == (2 : Int))) && ((Sp.F10 ((5 : Int), (Sp.F10 ((5 : Int), (Sp.F10 ((5 : Int), (Sp.F8 (2 : Int)), (1 : Int), (3 : Int))), (0 : Int), (1 : Int))), (0 : Int), (1 : Int))).1 == (3 : Int))) && (Sp.F12 ((Sp.F10 ((5 : Int), (Sp.F10 ((5 : Int), (Sp.F10 ((5 : Int), (Sp.F8 (2 : Int)), (1 : Int), (3 : Int))), (0 : Int), (1 : Int))), (0 : Int), (1 : Int))), false)).2.1) && (!(Sp.F14 ((5 : Int), (0 : Int), (2 : Int), (0 : Int), (0 : Int), (0 : Int), (0 : Int)))))
end Go.Proofs.Ytjdaplmlmmnokaa.Sp
namespace Go.Proofs.Ytjdaplmlmmnokaa.Sy
def ct7 : Ct := { p := Ty.unit, psh := [], r := ty4, rsh := (Rsh.one (none)), pre := none, fresh := none, F := Sp.F7 }
theorem va7 (x : Ty.unit.den) : ((evFn (ctxG GmR2) Try.f7 Ty.unit [] (Rsh.one (none)) none ty4 noL x)).val (fun y => y) (Ty.dflt ty4) = Sp.F7 x := by kernel_rfl
theorem se7 (x : Ty.unit.den) : ((evFn (ctxG GmR2) Try.f7 Ty.unit [] (Rsh.one (none)) none ty4 noL x)).safe = (True) := by kernel_rfl
theorem sa7 (x : Ty.unit.den) (fx : Fit Ty.unit x) : SafeW ((evFn (ctxG GmR2) Try.f7 Ty.unit [] (Rsh.one (none)) none ty4 noL x)) := by
  refine ⟨?_⟩
  rw [se7]
  trivial
theorem ok7 : CtOk Try.prog gdS 7 ct7 :=
  fn_okU (ctxOkF gokGmR2 []) rfl Try.func7 (p := Ty.unit) (psh := []) (r := ty4) (rsh := (Rsh.one (none))) (pre := none) (fresh := none) (F := Sp.F7) (L := noL) (c := bodyOf Try.f7) (dflt := Ty.dflt ty4) rfl (no_loops)
    (safe_no @sa7) va7
/-! overlayref16.Step -/
end Go.Proofs.Ytjdaplmlmmnokaa.Sy
namespace Go.Proofs.Ytjdaplmlmmnokaa.Sp
open Go Go.RowKit Sy
def F11 (x : Int × (Int × Int × Int × Int × Int × Int) × Int × Int) : Int × Int × Int × Int × Int × Int :=
  (Sp.F22 x)
end Go.Proofs.Ytjdaplmlmmnokaa.Sp
namespace Go.Proofs.Ytjdaplmlmmnokaa.Sy
def ct11 : Ct := { p := (Ty.pair ty3 (Ty.pair ty23 (Ty.pair ty3 ty3))), psh := [none, some 6, none, none], r := ty23, rsh := (Rsh.one (some 6)), pre := none, fresh := none, F := Sp.F11 }
theorem va11 (x : (Ty.pair ty3 (Ty.pair ty23 (Ty.pair ty3 ty3))).den) : ((evFn (ctxG GmR2) Try.f11 (Ty.pair ty3 (Ty.pair ty23 (Ty.pair ty3 ty3))) [none, some 6, none, none] (Rsh.one (some 6)) none ty23 noL x)).val (fun y => y) (Ty.dflt ty23) = Sp.F11 x := by kernel_rfl
theorem se11 (x : (Ty.pair ty3 (Ty.pair ty23 (Ty.pair ty3 ty3))).den) : ((evFn (ctxG GmR2) Try.f11 (Ty.pair ty3 (Ty.pair ty23 (Ty.pair ty3 ty3))) [none, some 6, none, none] (Rsh.one (some 6)) none ty23 noL x)).safe = (True) := by kernel_rfl
theorem sa11 (x : (Ty.pair ty3 (Ty.pair ty23 (Ty.pair ty3 ty3))).den) (fx : Fit (Ty.pair ty3 (Ty.pair ty23 (Ty.pair ty3 ty3))) x) : SafeW ((evFn (ctxG GmR2) Try.f11 (Ty.pair ty3 (Ty.pair ty23 (Ty.pair ty3 ty3))) [none, some 6, none, none] (Rsh.one (some 6)) none ty23 noL x)) := by
  refine ⟨?_⟩
  rw [se11]
  trivial
theorem ok11 : CtOk Try.prog gdS 11 ct11 :=
  fn_okU (ctxOkF gokGmR2 []) rfl Try.func11 (p := (Ty.pair ty3 (Ty.pair ty23 (Ty.pair ty3 ty3)))) (psh := [none, some 6, none, none]) (r := ty23) (rsh := (Rsh.one (some 6))) (pre := none) (fresh := none) (F := Sp.F11) (L := noL) (c := bodyOf Try.f11) (dflt := Ty.dflt ty23) rfl (no_loops)
    (safe_no @sa11) va11
def GmR3 : List (Nat × Ct) := (7, ct7) :: (11, ct11) :: GmR2
theorem gokGmR3 : GOk GmR3 := gok_cons ok7 ⟨_, Try.func7, by kernel_rfl, by kernel_rfl⟩ (gok_cons ok11 ⟨_, Try.func11, by kernel_rfl, by kernel_rfl⟩ (gokGmR2))
end Go.Proofs.Ytjdaplmlmmnokaa.Sy
