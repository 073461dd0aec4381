/- Contracts of functions, by the evaluator (own program gen.py): overlayref11.Choose. -/
import Derived.Test.YtidnlehjabhclaaDoorE3
set_option linter.unusedVariables false
set_option linter.unusedSimpArgs false
set_option maxRecDepth 100000
namespace Go.Proofs.YtidnlehjabhclaaDoor.Sy
open Go Go.RowKit Sp
/-! overlayref11.Choose -/
end Go.Proofs.YtidnlehjabhclaaDoor.Sy
namespace Go.Proofs.YtidnlehjabhclaaDoor.Sp
open Go Go.RowKit Sy
def K20_1 (x : Int × (Int × Int) × Int × Int × Int × Int) :=
  (Sp.F33 ((1 : Int), (2 : Int), (Sp.F31 (x.1, x.2.1, x.2.2.1, (Sp.F32 (x.1, x.2.2.2)))).2.2.1, (Sp.F31 (x.1, x.2.1, x.2.2.1, (Sp.F32 (x.1, x.2.2.2)))).1, (Sp.F31 (x.1, x.2.1, x.2.2.1, (Sp.F32 (x.1, x.2.2.2)))).2.1, (Sp.F31 (x.1, x.2.1, x.2.2.1, (Sp.F32 (x.1, x.2.2.2)))).2.2.2.1, (Sp.F31 (x.1, x.2.1, x.2.2.1, (Sp.F32 (x.1, x.2.2.2)))).2.2.2.2.1))
def K20_2 (x : Int × (Int × Int) × Int × Int × Int × Int) :=
  (Sp.F33 ((2 : Int), (1 : Int), (Sp.F31 (x.1, x.2.1, x.2.2.1, (Sp.F32 (x.1, x.2.2.2)))).2.2.1, (Sp.F31 (x.1, x.2.1, x.2.2.1, (Sp.F32 (x.1, x.2.2.2)))).2.1, (Sp.F31 (x.1, x.2.1, x.2.2.1, (Sp.F32 (x.1, x.2.2.2)))).1, (Sp.F31 (x.1, x.2.1, x.2.2.1, (Sp.F32 (x.1, x.2.2.2)))).2.2.2.2.1, (Sp.F31 (x.1, x.2.1, x.2.2.1, (Sp.F32 (x.1, x.2.2.2)))).2.2.2.1))
def F20 (x : Int × (Int × Int) × Int × Int × Int × Int) : Int × Int × Int :=
  bif (((((decide (x.1 < (2 : Int))) || (decide (x.1 > (32 : Int)))) || (decide (x.2.2.1 < (0 : Int)))) || (decide (x.2.2.1 ≥ x.1))) || (!(Sp.F25 x.2.1))) then
    ((0 : Int), (0 : Int), (0 : Int))
  else
    bif (x.2.1.1 == (1 : Int)) then
      (bif (Sp.K20_1 x).2 then
        (Sp.K20_1 x).1
      else
        (Sp.F34 ((2 : Int), (Sp.F31 (x.1, x.2.1, x.2.2.1, (Sp.F32 (x.1, x.2.2.2)))).2.1, (Sp.F31 (x.1, x.2.1, x.2.2.1, (Sp.F32 (x.1, x.2.2.2)))).2.2.2.2.1)))
    else
      bif (x.2.1.1 == (2 : Int)) then
        (bif (Sp.K20_2 x).2 then
          (Sp.K20_2 x).1
        else
          (Sp.F34 ((1 : Int), (Sp.F31 (x.1, x.2.1, x.2.2.1, (Sp.F32 (x.1, x.2.2.2)))).1, (Sp.F31 (x.1, x.2.1, x.2.2.1, (Sp.F32 (x.1, x.2.2.2)))).2.2.2.1)))
      else
        bif (Sp.F31 (x.1, x.2.1, x.2.2.1, (Sp.F32 (x.1, x.2.2.2)))).1 then
          (Sp.F35 (1 : Int))
        else
          bif (Sp.F31 (x.1, x.2.1, x.2.2.1, (Sp.F32 (x.1, x.2.2.2)))).2.1 then
            (Sp.F35 (2 : Int))
          else
            bif (Sp.F31 (x.1, x.2.1, x.2.2.1, (Sp.F32 (x.1, x.2.2.2)))).2.2.1 then
              (Sp.F35 ((Sp.F31 (x.1, x.2.1, x.2.2.1, (Sp.F32 (x.1, x.2.2.2)))).2.2.2.2.2))
            else
              (Sp.F36 ((Sp.F31 (x.1, x.2.1, x.2.2.1, (Sp.F32 (x.1, x.2.2.2)))).2.2.2.2.2))
end Go.Proofs.YtidnlehjabhclaaDoor.Sp
namespace Go.Proofs.YtidnlehjabhclaaDoor.Sy
def ct20 : Ct := { p := (Ty.pair ty3 (Ty.pair ty23 (Ty.pair ty3 ty30))), psh := [none, some 2, none, some 3], r := ty35, rsh := (Rsh.one (some 3)), pre := none, fresh := none, F := Sp.F20 }
theorem va20 (x : (Ty.pair ty3 (Ty.pair ty23 (Ty.pair ty3 ty30))).den) : ((evFn (ctxG GmE3) Tryd.f20 (Ty.pair ty3 (Ty.pair ty23 (Ty.pair ty3 ty30))) [none, some 2, none, some 3] (Rsh.one (some 3)) none ty35 noL x)).val (fun y => y) (Ty.dflt ty35) = Sp.F20 x := by kernel_rfl
theorem se20 (x : (Ty.pair ty3 (Ty.pair ty23 (Ty.pair ty3 ty30))).den) : ((evFn (ctxG GmE3) Tryd.f20 (Ty.pair ty3 (Ty.pair ty23 (Ty.pair ty3 ty30))) [none, some 2, none, some 3] (Rsh.one (some 3)) none ty35 noL x)).safe = ((((((((decide (x.1 < (2 : Int))) || (decide (x.1 > (32 : Int)))) || (decide (x.2.2.1 < (0 : Int)))) || (decide (x.2.2.1 ≥ x.1))) || (!(Sp.F25 x.2.1))) = true → True) ∧ ((((((decide (x.1 < (2 : Int))) || (decide (x.1 > (32 : Int)))) || (decide (x.2.2.1 < (0 : Int)))) || (decide (x.2.2.1 ≥ x.1))) || (!(Sp.F25 x.2.1))) = false → (((x.2.1.1 == (1 : Int)) = true → (((Sp.K20_1 x).2 = true → True) ∧ ((Sp.K20_1 x).2 = false → True))) ∧ ((x.2.1.1 == (1 : Int)) = false → (((x.2.1.1 == (2 : Int)) = true → (((Sp.K20_2 x).2 = true → True) ∧ ((Sp.K20_2 x).2 = false → True))) ∧ ((x.2.1.1 == (2 : Int)) = false → (((Sp.F31 (x.1, x.2.1, x.2.2.1, (Sp.F32 (x.1, x.2.2.2)))).1 = true → True) ∧ ((Sp.F31 (x.1, x.2.1, x.2.2.1, (Sp.F32 (x.1, x.2.2.2)))).1 = false → (((Sp.F31 (x.1, x.2.1, x.2.2.1, (Sp.F32 (x.1, x.2.2.2)))).2.1 = true → True) ∧ ((Sp.F31 (x.1, x.2.1, x.2.2.1, (Sp.F32 (x.1, x.2.2.2)))).2.1 = false → (((Sp.F31 (x.1, x.2.1, x.2.2.1, (Sp.F32 (x.1, x.2.2.2)))).2.2.1 = true → True) ∧ ((Sp.F31 (x.1, x.2.1, x.2.2.1, (Sp.F32 (x.1, x.2.2.2)))).2.2.1 = false → True))))))))))))) := by kernel_rfl
theorem sa20 (x : (Ty.pair ty3 (Ty.pair ty23 (Ty.pair ty3 ty30))).den) (fx : Fit (Ty.pair ty3 (Ty.pair ty23 (Ty.pair ty3 ty30))) x) : SafeW ((evFn (ctxG GmE3) Tryd.f20 (Ty.pair ty3 (Ty.pair ty23 (Ty.pair ty3 ty30))) [none, some 2, none, some 3] (Rsh.one (some 3)) none ty35 noL x)) := by
  refine ⟨?_⟩
  rw [se20]
  try dsimp only [Ty.den] at *
  simp only [Fit, maxLen] at fx
  simp only [true_and, IntKind.wrap_i64, IntKind.wrap_u8, IntKind.wrap_u32, IntKind.wrap_u64, Sp.tmod_lit, Sp.tdiv_lit, bne_eq_false_iff_eq, Int.natCast_inj, setE, copyL, sliceL, zrow, List.length_append, List.length_cons, List.length_nil, List.length_set, List.length_replicate, List.length_take, List.length_drop, decide_eq_true_eq, decide_eq_false_iff_not, Bool.or_eq_true, Bool.and_eq_true, Bool.or_eq_false_iff, Bool.and_eq_false_iff, Bool.not_eq_true', Bool.not_eq_false', Bool.not_eq_true, Bool.not_eq_false, beq_iff_eq, beq_eq_false_iff_ne, bne_iff_ne, ne_eq, implies_true, and_true, true_and] at *
  all_goals ((repeat' (first | exact trivial | apply And.intro | intro _)) <;> first | trivial | omega | exact Sp.tmod_nn (by omega) | exact Sp.tmod_lt (by omega) (by omega))
theorem ok20 : CtOk Tryd.prog gdS 20 ct20 :=
  fn_okU (ctxOkF gokGmE3 []) rfl Tryd.func20 (p := (Ty.pair ty3 (Ty.pair ty23 (Ty.pair ty3 ty30)))) (psh := [none, some 2, none, some 3]) (r := ty35) (rsh := (Rsh.one (some 3))) (pre := none) (fresh := none) (F := Sp.F20) (L := noL) (c := bodyOf Tryd.f20) (dflt := Ty.dflt ty35) rfl (no_loops)
    (safe_no @sa20) va20
def GmE4 : List (Nat × Ct) := (20, ct20) :: GmE3
theorem gokGmE4 : GOk GmE4 := gok_cons ok20 ⟨_, Tryd.func20, by kernel_rfl, by kernel_rfl⟩ (gokGmE3)
end Go.Proofs.YtidnlehjabhclaaDoor.Sy
