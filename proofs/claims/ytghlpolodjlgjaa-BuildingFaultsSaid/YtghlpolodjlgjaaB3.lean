/- Contracts of functions, by the evaluator (own program gen.py): overlaylaw01.sane. -/
import Derived.Test.YtghlpolodjlgjaaB2
set_option linter.unusedVariables false
set_option linter.unusedSimpArgs false
set_option maxRecDepth 100000
namespace Go.Proofs.Ytghlpolodjlgjaa.Sy
open Go Go.RowKit Sp
/-! overlaylaw01.sane -/
end Go.Proofs.Ytghlpolodjlgjaa.Sy
namespace Go.Proofs.Ytghlpolodjlgjaa.Sp
open Go Go.RowKit Sy
def F14 (x : Unit) : Bool :=
  (((((((Sp.F8 (Sp.F4 ((3 : Int), (1 : Int)))) == (0 : Int)) && ((Sp.F25 (Sp.nthT ((Sp.F4 ((3 : Int), (1 : Int))).2.2.2.2.2.2.2) (0 : Int))) == (17 : Int))) && ((Sp.F26 ((Sp.F4 ((3 : Int), (1 : Int))), (0 : Int))) == (570 : Int))) && ((Sp.F12 (Sp.F4 ((3 : Int), (1 : Int)))) == (1716 : Int))) && (((Sp.F10 (Sp.F4 ((3 : Int), (1 : Int)))).1 == (3 : Int)) && ((Sp.F10 (Sp.F4 ((3 : Int), (1 : Int)))).2 == (6 : Int)))) && ((Sp.F8 ((0 : Int), (0 : Int), (0 : Int), (0 : Int), (0 : Nat), (0 : Nat), (0 : Nat), [])) == (10 : Int)))
end Go.Proofs.Ytghlpolodjlgjaa.Sp
namespace Go.Proofs.Ytghlpolodjlgjaa.Sy
def ct14 : Ct := { p := Ty.unit, psh := [], r := ty4, rsh := (Rsh.one (none)), pre := none, fresh := none, F := Sp.F14 }
theorem va14 (x : Ty.unit.den) : ((evFn (ctxG GmB2) Try.f14 Ty.unit [] (Rsh.one (none)) none ty4 noL x)).val (fun y => y) (Ty.dflt ty4) = Sp.F14 x := by kernel_rfl
theorem se14 (x : Ty.unit.den) : ((evFn (ctxG GmB2) Try.f14 Ty.unit [] (Rsh.one (none)) none ty4 noL x)).safe = (((Sp.pre4 ((3 : Int), (1 : Int))) ∧ (((((Sp.F8 (Sp.F4 ((3 : Int), (1 : Int)))) == (0 : Int)) = true → 0 ≤ (0 : Int) ∧ (0 : Int) < (((Sp.F4 ((3 : Int), (1 : Int))).2.2.2.2.2.2.2).length : Int))) ∧ True))) := by kernel_rfl
theorem sa14 (x : Ty.unit.den) (fx : Fit Ty.unit x) : SafeW ((evFn (ctxG GmB2) Try.f14 Ty.unit [] (Rsh.one (none)) none ty4 noL x)) := by
  refine ⟨?_⟩
  rw [se14]
  try dsimp only [Ty.den] at *
  simp only [Fit, maxLen] at fx
  simp only [Sp.pre4, IntKind.wrap_i64, IntKind.wrap_u8, IntKind.wrap_u32, IntKind.wrap_u64, Sp.tmod_lit, Sp.tdiv_lit, bne_eq_false_iff_eq, Int.natCast_inj, setE, copyL, sliceL, zrow, List.length_append, List.length_cons, List.length_nil, List.length_set, List.length_replicate, List.length_take, List.length_drop, decide_eq_true_eq, decide_eq_false_iff_not, Bool.or_eq_true, Bool.and_eq_true, Bool.or_eq_false_iff, Bool.and_eq_false_iff, Bool.not_eq_true', Bool.not_eq_false', Bool.not_eq_true, Bool.not_eq_false, beq_iff_eq, beq_eq_false_iff_ne, bne_iff_ne, ne_eq, implies_true, and_true, true_and] at *
  all_goals ((repeat' (first | exact trivial | apply And.intro | intro _)) <;> first | trivial | omega | exact Sp.tmod_nn (by omega) | exact Sp.tmod_lt (by omega) (by omega))
theorem ok14 : CtOk Try.prog gdS 14 ct14 :=
  fn_okU (ctxOkF gokGmB2 []) rfl Try.func14 (p := Ty.unit) (psh := []) (r := ty4) (rsh := (Rsh.one (none))) (pre := none) (fresh := none) (F := Sp.F14) (L := noL) (c := bodyOf Try.f14) (dflt := Ty.dflt ty4) rfl (no_loops)
    (safe_no @sa14) va14
def GmB3 : List (Nat × Ct) := (14, ct14) :: GmB2
theorem gokGmB3 : GOk GmB3 := gok_cons ok14 ⟨_, Try.func14, by kernel_rfl, by kernel_rfl⟩ (gokGmB2)
end Go.Proofs.Ytghlpolodjlgjaa.Sy
