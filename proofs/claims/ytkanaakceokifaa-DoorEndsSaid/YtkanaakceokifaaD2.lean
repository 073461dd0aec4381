/- Contracts of functions, by the evaluator (own program gen.py): door.Step. -/
import Derived.Test.YtkanaakceokifaaD1
set_option linter.unusedVariables false
set_option linter.unusedSimpArgs false
set_option maxRecDepth 100000
namespace Go.Proofs.Ytkanaakceokifaa.Sy
open Go Go.RowKit Sp
/-! door.Step -/
end Go.Proofs.Ytkanaakceokifaa.Sy
namespace Go.Proofs.Ytkanaakceokifaa.Sp
open Go Go.RowKit Sy
def K24_1 (x : (Int × Int × Int × Int × Int × Int × Int × Int × Int) × (Int × Int × Int × Bool × Int) × Int × Bool × Bool) :=
  (Sp.F46 (((Sp.F45 ((0 : Int), (0 : Int), (0 : Int), false, (0 : Int))).1, (Sp.F45 ((0 : Int), (0 : Int), (0 : Int), false, (0 : Int))).2.1, (max ((Sp.F45 ((0 : Int), (0 : Int), (0 : Int), false, (0 : Int))).2.2.1) (1 : Int)), (Sp.F45 ((0 : Int), (0 : Int), (0 : Int), false, (0 : Int))).2.2.2), (2 : Int)))
def K24_2 (x : (Int × Int × Int × Int × Int × Int × Int × Int × Int) × (Int × Int × Int × Bool × Int) × Int × Bool × Bool) :=
  (Sp.F46 (((Sp.F45 ((0 : Int), (0 : Int), (0 : Int), false, (0 : Int))).1, (Sp.F45 ((0 : Int), (0 : Int), (0 : Int), false, (0 : Int))).2.1, (Sp.F45 ((0 : Int), (0 : Int), (0 : Int), false, (0 : Int))).2.2.1, (Sp.F45 ((0 : Int), (0 : Int), (0 : Int), false, (0 : Int))).2.2.2.1, (Sp.F49 ((Sp.F45 ((0 : Int), (0 : Int), (0 : Int), false, (0 : Int))).2.2.2.2))), (1 : Int)))
def F24 (x : (Int × Int × Int × Int × Int × Int × Int × Int × Int) × (Int × Int × Int × Bool × Int) × Int × Bool × Bool) : (Int × Int × Int × Bool × Int) × Int :=
  bif (!(Sp.F31 x.2.1)) then
    (bif ((0 : Int) == (0 : Int)) then
      (bif x.2.2.2.2 then
        (((1 : Int), (0 : Int), (0 : Int), false, (0 : Int)), (3 : Int))
      else
        (((0 : Int), (0 : Int), (0 : Int), false, (0 : Int)), (0 : Int)))
    else
      bif (((Sp.F45 ((0 : Int), (0 : Int), (0 : Int), false, (0 : Int))).1 == (1 : Int)) && (x.2.2.1 == (1 : Int))) then
        ((Sp.K24_1 x), (0 : Int))
      else
        bif (((Sp.F45 ((0 : Int), (0 : Int), (0 : Int), false, (0 : Int))).1 == (3 : Int)) && (x.2.2.1 == (2 : Int))) then
          (((0 : Int), (0 : Int), (0 : Int), false, (0 : Int)), (0 : Int))
        else
          bif ((((Sp.F45 ((0 : Int), (0 : Int), (0 : Int), false, (0 : Int))).1 == (3 : Int)) && (decide ((Sp.F45 ((0 : Int), (0 : Int), (0 : Int), false, (0 : Int))).2.2.1 > x.1.2.2.2.2.2.2.2.1))) && (Sp.F45 ((0 : Int), (0 : Int), (0 : Int), false, (0 : Int))).2.2.2.1) then
            (Sp.F47 ((Sp.F45 ((0 : Int), (0 : Int), (0 : Int), false, (0 : Int))), (5 : Int)))
          else
            bif (decide ((Sp.F45 ((0 : Int), (0 : Int), (0 : Int), false, (0 : Int))).2.2.1 > x.1.2.2.2.2.2.2.2.1)) then
              (Sp.F48 (Sp.F45 ((0 : Int), (0 : Int), (0 : Int), false, (0 : Int))))
            else
              bif ((Sp.F45 ((0 : Int), (0 : Int), (0 : Int), false, (0 : Int))).1 == (1 : Int)) then
                (Sp.F47 ((Sp.F45 ((0 : Int), (0 : Int), (0 : Int), false, (0 : Int))), (3 : Int)))
              else
                bif ((Sp.F45 ((0 : Int), (0 : Int), (0 : Int), false, (0 : Int))).1 == (2 : Int)) then
                  (bif ((decide ((IntKind.i64.wrap ((Sp.F45 ((0 : Int), (0 : Int), (0 : Int), false, (0 : Int))).2.1 + (1 : Int))) ≥ x.1.2.2.2.2.2.2.1)) && (!x.2.2.2.1)) then
                    ((Sp.F46 ((Sp.F45 ((0 : Int), (0 : Int), (0 : Int), false, (0 : Int))), (3 : Int))), (4 : Int))
                  else
                    (Sp.F47 ((Sp.F45 ((0 : Int), (0 : Int), (0 : Int), false, (0 : Int))), (0 : Int))))
                else
                  bif x.2.2.2.1 then
                    ((Sp.K24_2 x), (3 : Int))
                  else
                    (Sp.F47 ((Sp.F45 ((0 : Int), (0 : Int), (0 : Int), false, (0 : Int))), (4 : Int))))
  else
    bif (x.2.1.1 == (0 : Int)) then
      (bif x.2.2.2.2 then
        (((1 : Int), (0 : Int), (0 : Int), false, (0 : Int)), (3 : Int))
      else
        (x.2.1, (0 : Int)))
    else
      bif (((Sp.F45 x.2.1).1 == (1 : Int)) && (x.2.2.1 == (1 : Int))) then
        ((Sp.F46 (((Sp.F45 x.2.1).1, (Sp.F45 x.2.1).2.1, (max ((Sp.F45 x.2.1).2.2.1) (1 : Int)), (Sp.F45 x.2.1).2.2.2), (2 : Int))), (0 : Int))
      else
        bif (((Sp.F45 x.2.1).1 == (3 : Int)) && (x.2.2.1 == (2 : Int))) then
          (((0 : Int), (0 : Int), (0 : Int), false, (0 : Int)), (0 : Int))
        else
          bif ((((Sp.F45 x.2.1).1 == (3 : Int)) && (decide ((Sp.F45 x.2.1).2.2.1 > x.1.2.2.2.2.2.2.2.1))) && (Sp.F45 x.2.1).2.2.2.1) then
            (Sp.F47 ((Sp.F45 x.2.1), (5 : Int)))
          else
            bif (decide ((Sp.F45 x.2.1).2.2.1 > x.1.2.2.2.2.2.2.2.1)) then
              (Sp.F48 (Sp.F45 x.2.1))
            else
              bif ((Sp.F45 x.2.1).1 == (1 : Int)) then
                (Sp.F47 ((Sp.F45 x.2.1), (3 : Int)))
              else
                bif ((Sp.F45 x.2.1).1 == (2 : Int)) then
                  (bif ((decide ((IntKind.i64.wrap ((Sp.F45 x.2.1).2.1 + (1 : Int))) ≥ x.1.2.2.2.2.2.2.1)) && (!x.2.2.2.1)) then
                    ((Sp.F46 ((Sp.F45 x.2.1), (3 : Int))), (4 : Int))
                  else
                    (Sp.F47 ((Sp.F45 x.2.1), (0 : Int))))
                else
                  bif x.2.2.2.1 then
                    ((Sp.F46 (((Sp.F45 x.2.1).1, (Sp.F45 x.2.1).2.1, (Sp.F45 x.2.1).2.2.1, (Sp.F45 x.2.1).2.2.2.1, (Sp.F49 ((Sp.F45 x.2.1).2.2.2.2))), (1 : Int))), (3 : Int))
                  else
                    (Sp.F47 ((Sp.F45 x.2.1), (4 : Int)))
end Go.Proofs.Ytkanaakceokifaa.Sp
namespace Go.Proofs.Ytkanaakceokifaa.Sy
def ct24 : Ct := { p := (Ty.pair ty33 (Ty.pair ty42 (Ty.pair ty3 (Ty.pair ty4 ty4)))), psh := [some 9, some 5, none, none, none], r := (Ty.pair ty42 ty3), rsh := (Rsh.tup [some 5, none]), pre := none, fresh := none, F := Sp.F24 }
theorem va24 (x : (Ty.pair ty33 (Ty.pair ty42 (Ty.pair ty3 (Ty.pair ty4 ty4)))).den) : ((evFn (ctxG GmD1) Try.f24 (Ty.pair ty33 (Ty.pair ty42 (Ty.pair ty3 (Ty.pair ty4 ty4)))) [some 9, some 5, none, none, none] (Rsh.tup [some 5, none]) none (Ty.pair ty42 ty3) noL x)).val (fun y => y) (Ty.dflt (Ty.pair ty42 ty3)) = Sp.F24 x := by kernel_rfl
theorem se24 (x : (Ty.pair ty33 (Ty.pair ty42 (Ty.pair ty3 (Ty.pair ty4 ty4)))).den) : ((evFn (ctxG GmD1) Try.f24 (Ty.pair ty33 (Ty.pair ty42 (Ty.pair ty3 (Ty.pair ty4 ty4)))) [some 9, some 5, none, none, none] (Rsh.tup [some 5, none]) none (Ty.pair ty42 ty3) noL x)).safe = ((((!(Sp.F31 x.2.1)) = true → ((((0 : Int) == (0 : Int)) = true → ((x.2.2.2.2 = true → True) ∧ (x.2.2.2.2 = false → True))) ∧ (((0 : Int) == (0 : Int)) = false → (((((Sp.F45 ((0 : Int), (0 : Int), (0 : Int), false, (0 : Int))).1 == (1 : Int)) && (x.2.2.1 == (1 : Int))) = true → True) ∧ ((((Sp.F45 ((0 : Int), (0 : Int), (0 : Int), false, (0 : Int))).1 == (1 : Int)) && (x.2.2.1 == (1 : Int))) = false → (((((Sp.F45 ((0 : Int), (0 : Int), (0 : Int), false, (0 : Int))).1 == (3 : Int)) && (x.2.2.1 == (2 : Int))) = true → True) ∧ ((((Sp.F45 ((0 : Int), (0 : Int), (0 : Int), false, (0 : Int))).1 == (3 : Int)) && (x.2.2.1 == (2 : Int))) = false → ((((((Sp.F45 ((0 : Int), (0 : Int), (0 : Int), false, (0 : Int))).1 == (3 : Int)) && (decide ((Sp.F45 ((0 : Int), (0 : Int), (0 : Int), false, (0 : Int))).2.2.1 > x.1.2.2.2.2.2.2.2.1))) && (Sp.F45 ((0 : Int), (0 : Int), (0 : Int), false, (0 : Int))).2.2.2.1) = true → True) ∧ (((((Sp.F45 ((0 : Int), (0 : Int), (0 : Int), false, (0 : Int))).1 == (3 : Int)) && (decide ((Sp.F45 ((0 : Int), (0 : Int), (0 : Int), false, (0 : Int))).2.2.1 > x.1.2.2.2.2.2.2.2.1))) && (Sp.F45 ((0 : Int), (0 : Int), (0 : Int), false, (0 : Int))).2.2.2.1) = false → (((decide ((Sp.F45 ((0 : Int), (0 : Int), (0 : Int), false, (0 : Int))).2.2.1 > x.1.2.2.2.2.2.2.2.1)) = true → True) ∧ ((decide ((Sp.F45 ((0 : Int), (0 : Int), (0 : Int), false, (0 : Int))).2.2.1 > x.1.2.2.2.2.2.2.2.1)) = false → ((((Sp.F45 ((0 : Int), (0 : Int), (0 : Int), false, (0 : Int))).1 == (1 : Int)) = true → True) ∧ (((Sp.F45 ((0 : Int), (0 : Int), (0 : Int), false, (0 : Int))).1 == (1 : Int)) = false → ((((Sp.F45 ((0 : Int), (0 : Int), (0 : Int), false, (0 : Int))).1 == (2 : Int)) = true → ((((decide ((IntKind.i64.wrap ((Sp.F45 ((0 : Int), (0 : Int), (0 : Int), false, (0 : Int))).2.1 + (1 : Int))) ≥ x.1.2.2.2.2.2.2.1)) && (!x.2.2.2.1)) = true → True) ∧ (((decide ((IntKind.i64.wrap ((Sp.F45 ((0 : Int), (0 : Int), (0 : Int), false, (0 : Int))).2.1 + (1 : Int))) ≥ x.1.2.2.2.2.2.2.1)) && (!x.2.2.2.1)) = false → True))) ∧ (((Sp.F45 ((0 : Int), (0 : Int), (0 : Int), false, (0 : Int))).1 == (2 : Int)) = false → ((x.2.2.2.1 = true → True) ∧ (x.2.2.2.1 = false → True))))))))))))))))) ∧ ((!(Sp.F31 x.2.1)) = false → (((x.2.1.1 == (0 : Int)) = true → ((x.2.2.2.2 = true → True) ∧ (x.2.2.2.2 = false → True))) ∧ ((x.2.1.1 == (0 : Int)) = false → (((((Sp.F45 x.2.1).1 == (1 : Int)) && (x.2.2.1 == (1 : Int))) = true → True) ∧ ((((Sp.F45 x.2.1).1 == (1 : Int)) && (x.2.2.1 == (1 : Int))) = false → (((((Sp.F45 x.2.1).1 == (3 : Int)) && (x.2.2.1 == (2 : Int))) = true → True) ∧ ((((Sp.F45 x.2.1).1 == (3 : Int)) && (x.2.2.1 == (2 : Int))) = false → ((((((Sp.F45 x.2.1).1 == (3 : Int)) && (decide ((Sp.F45 x.2.1).2.2.1 > x.1.2.2.2.2.2.2.2.1))) && (Sp.F45 x.2.1).2.2.2.1) = true → True) ∧ (((((Sp.F45 x.2.1).1 == (3 : Int)) && (decide ((Sp.F45 x.2.1).2.2.1 > x.1.2.2.2.2.2.2.2.1))) && (Sp.F45 x.2.1).2.2.2.1) = false → (((decide ((Sp.F45 x.2.1).2.2.1 > x.1.2.2.2.2.2.2.2.1)) = true → True) ∧ ((decide ((Sp.F45 x.2.1).2.2.1 > x.1.2.2.2.2.2.2.2.1)) = false → ((((Sp.F45 x.2.1).1 == (1 : Int)) = true → True) ∧ (((Sp.F45 x.2.1).1 == (1 : Int)) = false → ((((Sp.F45 x.2.1).1 == (2 : Int)) = true → ((((decide ((IntKind.i64.wrap ((Sp.F45 x.2.1).2.1 + (1 : Int))) ≥ x.1.2.2.2.2.2.2.1)) && (!x.2.2.2.1)) = true → True) ∧ (((decide ((IntKind.i64.wrap ((Sp.F45 x.2.1).2.1 + (1 : Int))) ≥ x.1.2.2.2.2.2.2.1)) && (!x.2.2.2.1)) = false → True))) ∧ (((Sp.F45 x.2.1).1 == (2 : Int)) = false → ((x.2.2.2.1 = true → True) ∧ (x.2.2.2.1 = false → True))))))))))))))))))) := by kernel_rfl
theorem sa24 (x : (Ty.pair ty33 (Ty.pair ty42 (Ty.pair ty3 (Ty.pair ty4 ty4)))).den) (fx : Fit (Ty.pair ty33 (Ty.pair ty42 (Ty.pair ty3 (Ty.pair ty4 ty4)))) x) : SafeW ((evFn (ctxG GmD1) Try.f24 (Ty.pair ty33 (Ty.pair ty42 (Ty.pair ty3 (Ty.pair ty4 ty4)))) [some 9, some 5, none, none, none] (Rsh.tup [some 5, none]) none (Ty.pair ty42 ty3) noL x)) := by
  refine ⟨?_⟩
  rw [se24]
  try dsimp only [Ty.den] at *
  simp only [Fit, maxLen] at fx
  simp only [true_and, IntKind.wrap_i64, IntKind.wrap_u8, IntKind.wrap_u32, IntKind.wrap_u64, Sp.tmod_lit, Sp.tdiv_lit, setE, copyL, sliceL, zrow, List.length_append, List.length_cons, List.length_nil, List.length_set, List.length_replicate, List.length_take, List.length_drop, decide_eq_true_eq, decide_eq_false_iff_not, Bool.or_eq_true, Bool.and_eq_true, Bool.or_eq_false_iff, Bool.and_eq_false_iff, Bool.not_eq_true', Bool.not_eq_false', Bool.not_eq_true, Bool.not_eq_false, beq_iff_eq, beq_eq_false_iff_ne, bne_iff_ne, ne_eq, implies_true, and_true, true_and] at *
  all_goals ((repeat' (first | exact trivial | apply And.intro | intro _)) <;> first | trivial | omega | exact Sp.tmod_nn (by omega) | exact Sp.tmod_lt (by omega) (by omega))
theorem ok24 : CtOk Try.prog gdS 24 ct24 :=
  fn_okU (ctxOkF gokGmD1 []) rfl Try.func24 (p := (Ty.pair ty33 (Ty.pair ty42 (Ty.pair ty3 (Ty.pair ty4 ty4))))) (psh := [some 9, some 5, none, none, none]) (r := (Ty.pair ty42 ty3)) (rsh := (Rsh.tup [some 5, none])) (pre := none) (fresh := none) (F := Sp.F24) (L := noL) (c := bodyOf Try.f24) (dflt := Ty.dflt (Ty.pair ty42 ty3)) rfl (no_loops)
    (safe_no @sa24) va24
def GmD2 : List (Nat × Ct) := (24, ct24) :: GmD1
theorem gokGmD2 : GOk GmD2 := gok_cons ok24 ⟨_, Try.func24, by kernel_rfl, by kernel_rfl⟩ (gokGmD1)
end Go.Proofs.Ytkanaakceokifaa.Sy
