/- Contracts of functions, by the evaluator (own program gen.py): overlaylaw14.sane. -/
import Derived.Test.YtkfhampdellhoaaP0
set_option linter.unusedVariables false
set_option linter.unusedSimpArgs false
set_option maxRecDepth 100000
namespace Go.Proofs.Ytkfhampdellhoaa.Sy
open Go Go.RowKit Sp
/-! overlaylaw14.sane -/
end Go.Proofs.Ytkfhampdellhoaa.Sy
namespace Go.Proofs.Ytkfhampdellhoaa.Sp
open Go Go.RowKit Sy
def F15 (x : Unit) : Bool :=
  ((((((Sp.F17 ((Sp.F16 (38 : Int)), (1 : Int), (Sp.F16 (38 : Int)).2.2.2.1, (5 : Int))) == (2 : Int)) && ((Sp.F17 ((Sp.F16 (38 : Int)), (1 : Int), (IntKind.i64.wrap ((Sp.F16 (38 : Int)).2.2.2.1 - (1 : Int))), (5 : Int))) == (0 : Int))) && ((((Sp.F19 (Sp.F16 (38 : Int)))).length : Int) == (2 : Int))) && ((Sp.nthT (Sp.F19 (Sp.F16 (38 : Int))) (0 : Int)) == (2 : Int))) && ((Sp.nthT (Sp.F19 (Sp.F16 (38 : Int))) (1 : Int)) == (6 : Int)))
end Go.Proofs.Ytkfhampdellhoaa.Sp
namespace Go.Proofs.Ytkfhampdellhoaa.Sy
def ct15 : Ct := { p := Ty.unit, psh := [], r := ty4, rsh := (Rsh.one (none)), pre := none, fresh := none, F := Sp.F15 }
theorem va15 (x : Ty.unit.den) : ((evFn (ctxG GmP0) Try.f15 Ty.unit [] (Rsh.one (none)) none ty4 noL x)).val (fun y => y) (Ty.dflt ty4) = Sp.F15 x := by kernel_rfl
theorem se15 (x : Ty.unit.den) : ((evFn (ctxG GmP0) Try.f15 Ty.unit [] (Rsh.one (none)) none ty4 noL x)).safe = (((Sp.pre16 (38 : Int)) ∧ (((((((Sp.F17 ((Sp.F16 (38 : Int)), (1 : Int), (Sp.F16 (38 : Int)).2.2.2.1, (5 : Int))) == (2 : Int)) && ((Sp.F17 ((Sp.F16 (38 : Int)), (1 : Int), (IntKind.i64.wrap ((Sp.F16 (38 : Int)).2.2.2.1 - (1 : Int))), (5 : Int))) == (0 : Int))) && ((((Sp.F19 (Sp.F16 (38 : Int)))).length : Int) == (2 : Int))) = true → 0 ≤ (0 : Int) ∧ (0 : Int) < (((Sp.F19 (Sp.F16 (38 : Int)))).length : Int))) ∧ ((((((((Sp.F17 ((Sp.F16 (38 : Int)), (1 : Int), (Sp.F16 (38 : Int)).2.2.2.1, (5 : Int))) == (2 : Int)) && ((Sp.F17 ((Sp.F16 (38 : Int)), (1 : Int), (IntKind.i64.wrap ((Sp.F16 (38 : Int)).2.2.2.1 - (1 : Int))), (5 : Int))) == (0 : Int))) && ((((Sp.F19 (Sp.F16 (38 : Int)))).length : Int) == (2 : Int))) && ((Sp.nthT (Sp.F19 (Sp.F16 (38 : Int))) (0 : Int)) == (2 : Int))) = true → 0 ≤ (1 : Int) ∧ (1 : Int) < (((Sp.F19 (Sp.F16 (38 : Int)))).length : Int))) ∧ True)))) := by kernel_rfl
theorem sa15 (x : Ty.unit.den) (fx : Fit Ty.unit x) : SafeW ((evFn (ctxG GmP0) Try.f15 Ty.unit [] (Rsh.one (none)) none ty4 noL x)) := by
  refine ⟨?_⟩
  rw [se15]
  try dsimp only [Ty.den] at *
  simp only [Fit, maxLen] at fx
  simp only [Sp.pre16, IntKind.wrap_i64, IntKind.wrap_u8, IntKind.wrap_u32, IntKind.wrap_u64, Sp.tmod_ite, Sp.tdiv_ite, setE, copyL, sliceL, zrow, List.length_append, List.length_cons, List.length_nil, List.length_set, List.length_replicate, List.length_take, List.length_drop, decide_eq_true_eq, decide_eq_false_iff_not, Bool.or_eq_true, Bool.and_eq_true, Bool.or_eq_false_iff, Bool.and_eq_false_iff, Bool.not_eq_true', Bool.not_eq_false', Bool.not_eq_true, Bool.not_eq_false, beq_iff_eq, beq_eq_false_iff_ne, bne_iff_ne, ne_eq, implies_true, and_true, true_and] at *
  all_goals ((repeat' (first | exact trivial | apply And.intro | intro _)) <;> first | trivial | omega)
theorem ok15 : CtOk Try.prog gdS 15 ct15 :=
  fn_okU (ctxOkF gokGmP0 []) rfl Try.func15 (p := Ty.unit) (psh := []) (r := ty4) (rsh := (Rsh.one (none))) (pre := none) (fresh := none) (F := Sp.F15) (L := noL) (c := bodyOf Try.f15) (dflt := Ty.dflt ty4) rfl (no_loops)
    (safe_no @sa15) va15
def GmP1 : List (Nat × Ct) := (15, ct15) :: GmP0
theorem gokGmP1 : GOk GmP1 := gok_cons ok15 ⟨_, Try.func15, by kernel_rfl, by kernel_rfl⟩ (gokGmP0)
end Go.Proofs.Ytkfhampdellhoaa.Sy
