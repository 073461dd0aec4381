/- Contracts of functions, by the evaluator (own program gen.py): overlaylaw05.sane. -/
import Derived.Test.YtmaobgibcehhmaaDoorI2
set_option linter.unusedVariables false
set_option linter.unusedSimpArgs false
set_option maxRecDepth 100000
namespace Go.Proofs.YtmaobgibcehhmaaDoor.Sy
open Go Go.RowKit Sp
/-! overlaylaw05.sane -/
end Go.Proofs.YtmaobgibcehhmaaDoor.Sy
namespace Go.Proofs.YtmaobgibcehhmaaDoor.Sp
open Go Go.RowKit Sy
def F6 (x : Unit) : Bool :=
  ((((((Sp.F8 ((4 : Int), (4 : Int))) == (2 : Int)) && ((Sp.F8 ((4 : Int), (6 : Int))) == (-1 : Int))) && ((Sp.F8 ((4 : Int), (16 : Int))) == (-1 : Int))) && (((Sp.F5 ((4 : Int), (4 : Int), true, false, true, false)).1 == (2 : Int)) && (((Sp.F5 ((4 : Int), (4 : Int), true, false, true, false)).2.1 == (1 : Int)) && ((Sp.F5 ((4 : Int), (4 : Int), true, false, true, false)).2.2 == (1 : Int))))) && (((Sp.F4 ((4 : Int), (Sp.F5 ((4 : Int), (4 : Int), true, false, true, false)))).1 == (4 : Int)) && ((Sp.F4 ((4 : Int), (Sp.F5 ((4 : Int), (4 : Int), true, false, true, false)))).2 == (0 : Int))))
end Go.Proofs.YtmaobgibcehhmaaDoor.Sp
namespace Go.Proofs.YtmaobgibcehhmaaDoor.Sy
def ct6 : Ct := { p := Ty.unit, psh := [], r := ty4, rsh := (Rsh.one (none)), pre := none, fresh := none, F := Sp.F6 }
theorem va6 (x : Ty.unit.den) : ((evFn (ctxG GmI2) Tryd.f6 Ty.unit [] (Rsh.one (none)) none ty4 noL x)).val (fun y => y) (Ty.dflt ty4) = Sp.F6 x := by kernel_rfl
theorem se6 (x : Ty.unit.den) : ((evFn (ctxG GmI2) Tryd.f6 Ty.unit [] (Rsh.one (none)) none ty4 noL x)).safe = (((Sp.pre5 ((4 : Int), (4 : Int), true, false, true, false)) ∧ ((Sp.pre8 ((4 : Int), (4 : Int))) ∧ (((((Sp.F8 ((4 : Int), (4 : Int))) == (2 : Int)) = true → Sp.pre8 ((4 : Int), (6 : Int)))) ∧ ((((((Sp.F8 ((4 : Int), (4 : Int))) == (2 : Int)) && ((Sp.F8 ((4 : Int), (6 : Int))) == (-1 : Int))) = true → Sp.pre8 ((4 : Int), (16 : Int)))) ∧ True))))) := by kernel_rfl
theorem sa6 (x : Ty.unit.den) (fx : Fit Ty.unit x) : SafeW ((evFn (ctxG GmI2) Tryd.f6 Ty.unit [] (Rsh.one (none)) none ty4 noL x)) := by
  refine ⟨?_⟩
  rw [se6]
  try dsimp only [Ty.den] at *
  simp only [Fit, maxLen] at fx
  simp only [Sp.pre5, Sp.pre8, IntKind.wrap_i64, IntKind.wrap_u8, IntKind.wrap_u32, IntKind.wrap_u64, Sp.tmod_lit, Sp.tdiv_lit, bne_eq_false_iff_eq, Int.natCast_inj, setE, copyL, sliceL, zrow, List.length_append, List.length_cons, List.length_nil, List.length_set, List.length_replicate, List.length_take, List.length_drop, decide_eq_true_eq, decide_eq_false_iff_not, Bool.or_eq_true, Bool.and_eq_true, Bool.or_eq_false_iff, Bool.and_eq_false_iff, Bool.not_eq_true', Bool.not_eq_false', Bool.not_eq_true, Bool.not_eq_false, beq_iff_eq, beq_eq_false_iff_ne, bne_iff_ne, ne_eq, implies_true, and_true, true_and] at *
  all_goals ((repeat' (first | exact trivial | apply And.intro | intro _)) <;> first | trivial | omega | exact Sp.tmod_nn (by omega) | exact Sp.tmod_lt (by omega) (by omega))
theorem ok6 : CtOk Tryd.prog gdS 6 ct6 :=
  fn_okU (ctxOkF gokGmI2 []) rfl Tryd.func6 (p := Ty.unit) (psh := []) (r := ty4) (rsh := (Rsh.one (none))) (pre := none) (fresh := none) (F := Sp.F6) (L := noL) (c := bodyOf Tryd.f6) (dflt := Ty.dflt ty4) rfl (no_loops)
    (safe_no @sa6) va6
def GmI3 : List (Nat × Ct) := (6, ct6) :: GmI2
theorem gokGmI3 : GOk GmI3 := gok_cons ok6 ⟨_, Tryd.func6, by kernel_rfl, by kernel_rfl⟩ (gokGmI2)
end Go.Proofs.YtmaobgibcehhmaaDoor.Sy
