/- Contracts of functions, by the evaluator (own program gen.py): rig.Step, overlayplay.Step, overlayref16.IsState. -/
import Derived.Test.YtjdaplmlmmnokaaR1
set_option linter.unusedVariables false
set_option linter.unusedSimpArgs false
set_option maxRecDepth 100000
namespace Go.Proofs.Ytjdaplmlmmnokaa.Sy
open Go Go.RowKit Sp
/-! rig.Step -/
end Go.Proofs.Ytjdaplmlmmnokaa.Sy
namespace Go.Proofs.Ytjdaplmlmmnokaa.Sp
open Go Go.RowKit Sy
def F10 (x : Int × (Int × Int × Int × Int × Int × Int) × Int × Int) : Int × Int × Int × Int × Int × Int :=
  bif (!(Sp.F14 (x.1, x.2.1))) then
    (Sp.F8 (0 : Int))
  else
    bif (x.2.1.2.2.1 != (0 : Int)) then
      (Sp.F18 (x.2.1.1, x.2.1.2.1, (IntKind.i64.wrap (x.2.1.2.2.1 - (1 : Int))), x.2.1.2.2.2))
    else
      bif ((((Sp.F17 (x.2.1, x.2.2.1)) != x.2.1.1) && (Sp.F19 ((Sp.F17 (x.2.1, x.2.2.1)), (0 : Int), (IntKind.i64.wrap (x.1 - (1 : Int)))))) && (x.2.1.2.2.2.1 == (2 : Int))) then
        (Sp.F18 (x.2.1.1, (Sp.F17 (x.2.1, x.2.2.1)), (IntKind.i64.wrap ((min (max x.2.2.2 (1 : Int)) (10000 : Int)) - (1 : Int))), x.2.1.2.2.2))
      else
        (Sp.F20 (x.2.1, (Sp.F21 (x.2.1, x.2.2.1)), (min (max x.2.2.2 (1 : Int)) (10000 : Int))))
end Go.Proofs.Ytjdaplmlmmnokaa.Sp
namespace Go.Proofs.Ytjdaplmlmmnokaa.Sy
def ct10 : Ct := { p := (Ty.pair ty3 (Ty.pair ty23 (Ty.pair ty3 ty3))), psh := [none, some 6, none, none], r := ty23, rsh := (Rsh.one (some 6)), pre := none, fresh := none, F := Sp.F10 }
theorem va10 (x : (Ty.pair ty3 (Ty.pair ty23 (Ty.pair ty3 ty3))).den) : ((evFn (ctxG GmR1) Try.f10 (Ty.pair ty3 (Ty.pair ty23 (Ty.pair ty3 ty3))) [none, some 6, none, none] (Rsh.one (some 6)) none ty23 noL x)).val (fun y => y) (Ty.dflt ty23) = Sp.F10 x := by kernel_rfl
theorem se10 (x : (Ty.pair ty3 (Ty.pair ty23 (Ty.pair ty3 ty3))).den) : ((evFn (ctxG GmR1) Try.f10 (Ty.pair ty3 (Ty.pair ty23 (Ty.pair ty3 ty3))) [none, some 6, none, none] (Rsh.one (some 6)) none ty23 noL x)).safe = ((((!(Sp.F14 (x.1, x.2.1))) = true → True) ∧ ((!(Sp.F14 (x.1, x.2.1))) = false → (((x.2.1.2.2.1 != (0 : Int)) = true → True) ∧ ((x.2.1.2.2.1 != (0 : Int)) = false → ((((((Sp.F17 (x.2.1, x.2.2.1)) != x.2.1.1) && (Sp.F19 ((Sp.F17 (x.2.1, x.2.2.1)), (0 : Int), (IntKind.i64.wrap (x.1 - (1 : Int)))))) && (x.2.1.2.2.2.1 == (2 : Int))) = true → True) ∧ (((((Sp.F17 (x.2.1, x.2.2.1)) != x.2.1.1) && (Sp.F19 ((Sp.F17 (x.2.1, x.2.2.1)), (0 : Int), (IntKind.i64.wrap (x.1 - (1 : Int)))))) && (x.2.1.2.2.2.1 == (2 : Int))) = false → True))))))) := by kernel_rfl
theorem sa10 (x : (Ty.pair ty3 (Ty.pair ty23 (Ty.pair ty3 ty3))).den) (fx : Fit (Ty.pair ty3 (Ty.pair ty23 (Ty.pair ty3 ty3))) x) : SafeW ((evFn (ctxG GmR1) Try.f10 (Ty.pair ty3 (Ty.pair ty23 (Ty.pair ty3 ty3))) [none, some 6, none, none] (Rsh.one (some 6)) none ty23 noL x)) := by
  refine ⟨?_⟩
  rw [se10]
  try dsimp only [Ty.den] at *
  simp only [Fit, maxLen] at fx
  simp only [true_and, IntKind.wrap_i64, IntKind.wrap_u8, IntKind.wrap_u32, IntKind.wrap_u64, Sp.tmod_ite, Sp.tdiv_ite, setE, copyL, sliceL, zrow, List.length_append, List.length_cons, List.length_nil, List.length_set, List.length_replicate, List.length_take, List.length_drop, decide_eq_true_eq, decide_eq_false_iff_not, Bool.or_eq_true, Bool.and_eq_true, Bool.or_eq_false_iff, Bool.and_eq_false_iff, Bool.not_eq_true', Bool.not_eq_false', Bool.not_eq_true, Bool.not_eq_false, beq_iff_eq, beq_eq_false_iff_ne, bne_iff_ne, ne_eq, implies_true, and_true, true_and] at *
  all_goals ((repeat' (first | exact trivial | apply And.intro | intro _)) <;> first | trivial | omega)
theorem ok10 : CtOk Try.prog gdS 10 ct10 :=
  fn_okU (ctxOkF gokGmR1 []) rfl Try.func10 (p := (Ty.pair ty3 (Ty.pair ty23 (Ty.pair ty3 ty3)))) (psh := [none, some 6, none, none]) (r := ty23) (rsh := (Rsh.one (some 6))) (pre := none) (fresh := none) (F := Sp.F10) (L := noL) (c := bodyOf Try.f10) (dflt := Ty.dflt ty23) rfl (no_loops)
    (safe_no @sa10) va10
/-! overlayplay.Step -/
end Go.Proofs.Ytjdaplmlmmnokaa.Sy
namespace Go.Proofs.Ytjdaplmlmmnokaa.Sp
open Go Go.RowKit Sy
def F22 (x : Int × (Int × Int × Int × Int × Int × Int) × Int × Int) : Int × Int × Int × Int × Int × Int :=
  bif (!(Sp.F24 (x.1, x.2.1))) then
    (Sp.F16 (0 : Int))
  else
    bif (decide (x.2.1.2.2.1 > (0 : Int))) then
      (Sp.F25 (x.2.1.1, x.2.1.2.1, (IntKind.i64.wrap (x.2.1.2.2.1 - (1 : Int))), x.2.1.2.2.2))
    else
      bif (x.2.2.1 == (1 : Int)) then
        (bif (x.2.2.1 == (2 : Int)) then
          (bif (((x.2.1.2.2.2.1 == (2 : Int)) && ((IntKind.i64.wrap ((IntKind.i64.wrap (x.2.1.1 + (1 : Int))) - (1 : Int))) != x.2.1.1)) && (Sp.F26 ((IntKind.i64.wrap ((IntKind.i64.wrap (x.2.1.1 + (1 : Int))) - (1 : Int))), (0 : Int), (IntKind.i64.wrap (x.1 - (1 : Int)))))) then
            (Sp.F25 (x.2.1.1, (IntKind.i64.wrap ((IntKind.i64.wrap (x.2.1.1 + (1 : Int))) - (1 : Int))), (IntKind.i64.wrap ((max (1 : Int) (min x.2.2.2 (10000 : Int))) - (1 : Int))), x.2.1.2.2.2))
          else
            bif (x.2.2.1 == (3 : Int)) then
              (bif ((x.2.2.1 == (4 : Int)) || (x.2.2.1 == (5 : Int))) then
                (bif (((2 : Int) == (0 : Int)) || ((2 : Int) == x.2.1.2.2.2.1)) then
                  x.2.1
                else
                  bif ((x.2.1.2.2.2.1 == (0 : Int)) && ((2 : Int) == x.2.1.2.2.2.2.1)) then
                    (bif ((IntKind.i64.wrap (x.2.1.2.2.2.2.2 - (1 : Int))) == (0 : Int)) then
                      (x.2.1.1, x.2.1.2.1, x.2.1.2.2.1, (2 : Int), (0 : Int), (IntKind.i64.wrap (x.2.1.2.2.2.2.2 - (1 : Int))))
                    else
                      (x.2.1.1, x.2.1.2.1, x.2.1.2.2.1, x.2.1.2.2.2.1, x.2.1.2.2.2.2.1, (IntKind.i64.wrap (x.2.1.2.2.2.2.2 - (1 : Int)))))
                  else
                    bif ((IntKind.i64.wrap ((max (1 : Int) (min x.2.2.2 (10000 : Int))) - (1 : Int))) == (0 : Int)) then
                      (x.2.1.1, x.2.1.2.1, x.2.1.2.2.1, (2 : Int), (0 : Int), (IntKind.i64.wrap ((max (1 : Int) (min x.2.2.2 (10000 : Int))) - (1 : Int))))
                    else
                      (x.2.1.1, x.2.1.2.1, x.2.1.2.2.1, (0 : Int), (2 : Int), (IntKind.i64.wrap ((max (1 : Int) (min x.2.2.2 (10000 : Int))) - (1 : Int)))))
              else
                bif (((1 : Int) == (0 : Int)) || ((1 : Int) == x.2.1.2.2.2.1)) then
                  x.2.1
                else
                  bif ((x.2.1.2.2.2.1 == (0 : Int)) && ((1 : Int) == x.2.1.2.2.2.2.1)) then
                    (bif ((IntKind.i64.wrap (x.2.1.2.2.2.2.2 - (1 : Int))) == (0 : Int)) then
                      (x.2.1.1, x.2.1.2.1, x.2.1.2.2.1, (1 : Int), (0 : Int), (IntKind.i64.wrap (x.2.1.2.2.2.2.2 - (1 : Int))))
                    else
                      (x.2.1.1, x.2.1.2.1, x.2.1.2.2.1, x.2.1.2.2.2.1, x.2.1.2.2.2.2.1, (IntKind.i64.wrap (x.2.1.2.2.2.2.2 - (1 : Int)))))
                  else
                    bif ((IntKind.i64.wrap ((max (1 : Int) (min x.2.2.2 (10000 : Int))) - (1 : Int))) == (0 : Int)) then
                      (x.2.1.1, x.2.1.2.1, x.2.1.2.2.1, (1 : Int), (0 : Int), (IntKind.i64.wrap ((max (1 : Int) (min x.2.2.2 (10000 : Int))) - (1 : Int))))
                    else
                      (x.2.1.1, x.2.1.2.1, x.2.1.2.2.1, (0 : Int), (1 : Int), (IntKind.i64.wrap ((max (1 : Int) (min x.2.2.2 (10000 : Int))) - (1 : Int)))))
            else
              bif ((x.2.2.1 == (4 : Int)) || (x.2.2.1 == (5 : Int))) then
                (bif (((2 : Int) == (0 : Int)) || ((2 : Int) == x.2.1.2.2.2.1)) then
                  x.2.1
                else
                  bif ((x.2.1.2.2.2.1 == (0 : Int)) && ((2 : Int) == x.2.1.2.2.2.2.1)) then
                    (bif ((IntKind.i64.wrap (x.2.1.2.2.2.2.2 - (1 : Int))) == (0 : Int)) then
                      (x.2.1.1, x.2.1.2.1, x.2.1.2.2.1, (2 : Int), (0 : Int), (IntKind.i64.wrap (x.2.1.2.2.2.2.2 - (1 : Int))))
                    else
                      (x.2.1.1, x.2.1.2.1, x.2.1.2.2.1, x.2.1.2.2.2.1, x.2.1.2.2.2.2.1, (IntKind.i64.wrap (x.2.1.2.2.2.2.2 - (1 : Int)))))
                  else
                    bif ((IntKind.i64.wrap ((max (1 : Int) (min x.2.2.2 (10000 : Int))) - (1 : Int))) == (0 : Int)) then
                      (x.2.1.1, x.2.1.2.1, x.2.1.2.2.1, (2 : Int), (0 : Int), (IntKind.i64.wrap ((max (1 : Int) (min x.2.2.2 (10000 : Int))) - (1 : Int))))
                    else
                      (x.2.1.1, x.2.1.2.1, x.2.1.2.2.1, (0 : Int), (2 : Int), (IntKind.i64.wrap ((max (1 : Int) (min x.2.2.2 (10000 : Int))) - (1 : Int)))))
              else
                bif ((x.2.1.2.2.2.2.1 == (0 : Int)) || (x.2.1.2.2.2.2.1 == x.2.1.2.2.2.1)) then
                  x.2.1
                else
                  bif ((x.2.1.2.2.2.1 == (0 : Int)) && (x.2.1.2.2.2.2.1 == x.2.1.2.2.2.2.1)) then
                    (bif ((IntKind.i64.wrap (x.2.1.2.2.2.2.2 - (1 : Int))) == (0 : Int)) then
                      (x.2.1.1, x.2.1.2.1, x.2.1.2.2.1, x.2.1.2.2.2.2.1, (0 : Int), (IntKind.i64.wrap (x.2.1.2.2.2.2.2 - (1 : Int))))
                    else
                      (x.2.1.1, x.2.1.2.1, x.2.1.2.2.1, x.2.1.2.2.2.1, x.2.1.2.2.2.2.1, (IntKind.i64.wrap (x.2.1.2.2.2.2.2 - (1 : Int)))))
                  else
                    bif ((IntKind.i64.wrap ((max (1 : Int) (min x.2.2.2 (10000 : Int))) - (1 : Int))) == (0 : Int)) then
                      (x.2.1.1, x.2.1.2.1, x.2.1.2.2.1, x.2.1.2.2.2.2.1, (0 : Int), (IntKind.i64.wrap ((max (1 : Int) (min x.2.2.2 (10000 : Int))) - (1 : Int))))
                    else
                      (x.2.1.1, x.2.1.2.1, x.2.1.2.2.1, (0 : Int), x.2.1.2.2.2.2.1, (IntKind.i64.wrap ((max (1 : Int) (min x.2.2.2 (10000 : Int))) - (1 : Int)))))
        else
          bif (((x.2.1.2.2.2.1 == (2 : Int)) && ((IntKind.i64.wrap (x.2.1.1 + (1 : Int))) != x.2.1.1)) && (Sp.F26 ((IntKind.i64.wrap (x.2.1.1 + (1 : Int))), (0 : Int), (IntKind.i64.wrap (x.1 - (1 : Int)))))) then
            (Sp.F25 (x.2.1.1, (IntKind.i64.wrap (x.2.1.1 + (1 : Int))), (IntKind.i64.wrap ((max (1 : Int) (min x.2.2.2 (10000 : Int))) - (1 : Int))), x.2.1.2.2.2))
          else
            bif (x.2.2.1 == (3 : Int)) then
              (bif ((x.2.2.1 == (4 : Int)) || (x.2.2.1 == (5 : Int))) then
                (bif (((2 : Int) == (0 : Int)) || ((2 : Int) == x.2.1.2.2.2.1)) then
                  x.2.1
                else
                  bif ((x.2.1.2.2.2.1 == (0 : Int)) && ((2 : Int) == x.2.1.2.2.2.2.1)) then
                    (bif ((IntKind.i64.wrap (x.2.1.2.2.2.2.2 - (1 : Int))) == (0 : Int)) then
                      (x.2.1.1, x.2.1.2.1, x.2.1.2.2.1, (2 : Int), (0 : Int), (IntKind.i64.wrap (x.2.1.2.2.2.2.2 - (1 : Int))))
                    else
                      (x.2.1.1, x.2.1.2.1, x.2.1.2.2.1, x.2.1.2.2.2.1, x.2.1.2.2.2.2.1, (IntKind.i64.wrap (x.2.1.2.2.2.2.2 - (1 : Int)))))
                  else
                    bif ((IntKind.i64.wrap ((max (1 : Int) (min x.2.2.2 (10000 : Int))) - (1 : Int))) == (0 : Int)) then
                      (x.2.1.1, x.2.1.2.1, x.2.1.2.2.1, (2 : Int), (0 : Int), (IntKind.i64.wrap ((max (1 : Int) (min x.2.2.2 (10000 : Int))) - (1 : Int))))
                    else
                      (x.2.1.1, x.2.1.2.1, x.2.1.2.2.1, (0 : Int), (2 : Int), (IntKind.i64.wrap ((max (1 : Int) (min x.2.2.2 (10000 : Int))) - (1 : Int)))))
              else
                bif (((1 : Int) == (0 : Int)) || ((1 : Int) == x.2.1.2.2.2.1)) then
                  x.2.1
                else
                  bif ((x.2.1.2.2.2.1 == (0 : Int)) && ((1 : Int) == x.2.1.2.2.2.2.1)) then
                    (bif ((IntKind.i64.wrap (x.2.1.2.2.2.2.2 - (1 : Int))) == (0 : Int)) then
                      (x.2.1.1, x.2.1.2.1, x.2.1.2.2.1, (1 : Int), (0 : Int), (IntKind.i64.wrap (x.2.1.2.2.2.2.2 - (1 : Int))))
                    else
                      (x.2.1.1, x.2.1.2.1, x.2.1.2.2.1, x.2.1.2.2.2.1, x.2.1.2.2.2.2.1, (IntKind.i64.wrap (x.2.1.2.2.2.2.2 - (1 : Int)))))
                  else
                    bif ((IntKind.i64.wrap ((max (1 : Int) (min x.2.2.2 (10000 : Int))) - (1 : Int))) == (0 : Int)) then
                      (x.2.1.1, x.2.1.2.1, x.2.1.2.2.1, (1 : Int), (0 : Int), (IntKind.i64.wrap ((max (1 : Int) (min x.2.2.2 (10000 : Int))) - (1 : Int))))
                    else
                      (x.2.1.1, x.2.1.2.1, x.2.1.2.2.1, (0 : Int), (1 : Int), (IntKind.i64.wrap ((max (1 : Int) (min x.2.2.2 (10000 : Int))) - (1 : Int)))))
            else
              bif ((x.2.2.1 == (4 : Int)) || (x.2.2.1 == (5 : Int))) then
                (bif (((2 : Int) == (0 : Int)) || ((2 : Int) == x.2.1.2.2.2.1)) then
                  x.2.1
                else
                  bif ((x.2.1.2.2.2.1 == (0 : Int)) && ((2 : Int) == x.2.1.2.2.2.2.1)) then
                    (bif ((IntKind.i64.wrap (x.2.1.2.2.2.2.2 - (1 : Int))) == (0 : Int)) then
                      (x.2.1.1, x.2.1.2.1, x.2.1.2.2.1, (2 : Int), (0 : Int), (IntKind.i64.wrap (x.2.1.2.2.2.2.2 - (1 : Int))))
                    else
                      (x.2.1.1, x.2.1.2.1, x.2.1.2.2.1, x.2.1.2.2.2.1, x.2.1.2.2.2.2.1, (IntKind.i64.wrap (x.2.1.2.2.2.2.2 - (1 : Int)))))
                  else
                    bif ((IntKind.i64.wrap ((max (1 : Int) (min x.2.2.2 (10000 : Int))) - (1 : Int))) == (0 : Int)) then
                      (x.2.1.1, x.2.1.2.1, x.2.1.2.2.1, (2 : Int), (0 : Int), (IntKind.i64.wrap ((max (1 : Int) (min x.2.2.2 (10000 : Int))) - (1 : Int))))
                    else
                      (x.2.1.1, x.2.1.2.1, x.2.1.2.2.1, (0 : Int), (2 : Int), (IntKind.i64.wrap ((max (1 : Int) (min x.2.2.2 (10000 : Int))) - (1 : Int)))))
              else
                bif ((x.2.1.2.2.2.2.1 == (0 : Int)) || (x.2.1.2.2.2.2.1 == x.2.1.2.2.2.1)) then
                  x.2.1
                else
                  bif ((x.2.1.2.2.2.1 == (0 : Int)) && (x.2.1.2.2.2.2.1 == x.2.1.2.2.2.2.1)) then
                    (bif ((IntKind.i64.wrap (x.2.1.2.2.2.2.2 - (1 : Int))) == (0 : Int)) then
                      (x.2.1.1, x.2.1.2.1, x.2.1.2.2.1, x.2.1.2.2.2.2.1, (0 : Int), (IntKind.i64.wrap (x.2.1.2.2.2.2.2 - (1 : Int))))
                    else
                      (x.2.1.1, x.2.1.2.1, x.2.1.2.2.1, x.2.1.2.2.2.1, x.2.1.2.2.2.2.1, (IntKind.i64.wrap (x.2.1.2.2.2.2.2 - (1 : Int)))))
                  else
                    bif ((IntKind.i64.wrap ((max (1 : Int) (min x.2.2.2 (10000 : Int))) - (1 : Int))) == (0 : Int)) then
                      (x.2.1.1, x.2.1.2.1, x.2.1.2.2.1, x.2.1.2.2.2.2.1, (0 : Int), (IntKind.i64.wrap ((max (1 : Int) (min x.2.2.2 (10000 : Int))) - (1 : Int))))
                    else
                      (x.2.1.1, x.2.1.2.1, x.2.1.2.2.1, (0 : Int), x.2.1.2.2.2.2.1, (IntKind.i64.wrap ((max (1 : Int) (min x.2.2.2 (10000 : Int))) - (1 : Int)))))
      else
        bif (x.2.2.1 == (2 : Int)) then
          (bif (((x.2.1.2.2.2.1 == (2 : Int)) && ((IntKind.i64.wrap (x.2.1.1 - (1 : Int))) != x.2.1.1)) && (Sp.F26 ((IntKind.i64.wrap (x.2.1.1 - (1 : Int))), (0 : Int), (IntKind.i64.wrap (x.1 - (1 : Int)))))) then
            (Sp.F25 (x.2.1.1, (IntKind.i64.wrap (x.2.1.1 - (1 : Int))), (IntKind.i64.wrap ((max (1 : Int) (min x.2.2.2 (10000 : Int))) - (1 : Int))), x.2.1.2.2.2))
          else
            bif (x.2.2.1 == (3 : Int)) then
              (bif ((x.2.2.1 == (4 : Int)) || (x.2.2.1 == (5 : Int))) then
                (bif (((2 : Int) == (0 : Int)) || ((2 : Int) == x.2.1.2.2.2.1)) then
                  x.2.1
                else
                  bif ((x.2.1.2.2.2.1 == (0 : Int)) && ((2 : Int) == x.2.1.2.2.2.2.1)) then
                    (bif ((IntKind.i64.wrap (x.2.1.2.2.2.2.2 - (1 : Int))) == (0 : Int)) then
                      (x.2.1.1, x.2.1.2.1, x.2.1.2.2.1, (2 : Int), (0 : Int), (IntKind.i64.wrap (x.2.1.2.2.2.2.2 - (1 : Int))))
                    else
                      (x.2.1.1, x.2.1.2.1, x.2.1.2.2.1, x.2.1.2.2.2.1, x.2.1.2.2.2.2.1, (IntKind.i64.wrap (x.2.1.2.2.2.2.2 - (1 : Int)))))
                  else
                    bif ((IntKind.i64.wrap ((max (1 : Int) (min x.2.2.2 (10000 : Int))) - (1 : Int))) == (0 : Int)) then
                      (x.2.1.1, x.2.1.2.1, x.2.1.2.2.1, (2 : Int), (0 : Int), (IntKind.i64.wrap ((max (1 : Int) (min x.2.2.2 (10000 : Int))) - (1 : Int))))
                    else
                      (x.2.1.1, x.2.1.2.1, x.2.1.2.2.1, (0 : Int), (2 : Int), (IntKind.i64.wrap ((max (1 : Int) (min x.2.2.2 (10000 : Int))) - (1 : Int)))))
              else
                bif (((1 : Int) == (0 : Int)) || ((1 : Int) == x.2.1.2.2.2.1)) then
                  x.2.1
                else
                  bif ((x.2.1.2.2.2.1 == (0 : Int)) && ((1 : Int) == x.2.1.2.2.2.2.1)) then
                    (bif ((IntKind.i64.wrap (x.2.1.2.2.2.2.2 - (1 : Int))) == (0 : Int)) then
                      (x.2.1.1, x.2.1.2.1, x.2.1.2.2.1, (1 : Int), (0 : Int), (IntKind.i64.wrap (x.2.1.2.2.2.2.2 - (1 : Int))))
                    else
                      (x.2.1.1, x.2.1.2.1, x.2.1.2.2.1, x.2.1.2.2.2.1, x.2.1.2.2.2.2.1, (IntKind.i64.wrap (x.2.1.2.2.2.2.2 - (1 : Int)))))
                  else
                    bif ((IntKind.i64.wrap ((max (1 : Int) (min x.2.2.2 (10000 : Int))) - (1 : Int))) == (0 : Int)) then
                      (x.2.1.1, x.2.1.2.1, x.2.1.2.2.1, (1 : Int), (0 : Int), (IntKind.i64.wrap ((max (1 : Int) (min x.2.2.2 (10000 : Int))) - (1 : Int))))
                    else
                      (x.2.1.1, x.2.1.2.1, x.2.1.2.2.1, (0 : Int), (1 : Int), (IntKind.i64.wrap ((max (1 : Int) (min x.2.2.2 (10000 : Int))) - (1 : Int)))))
            else
              bif ((x.2.2.1 == (4 : Int)) || (x.2.2.1 == (5 : Int))) then
                (bif (((2 : Int) == (0 : Int)) || ((2 : Int) == x.2.1.2.2.2.1)) then
                  x.2.1
                else
                  bif ((x.2.1.2.2.2.1 == (0 : Int)) && ((2 : Int) == x.2.1.2.2.2.2.1)) then
                    (bif ((IntKind.i64.wrap (x.2.1.2.2.2.2.2 - (1 : Int))) == (0 : Int)) then
                      (x.2.1.1, x.2.1.2.1, x.2.1.2.2.1, (2 : Int), (0 : Int), (IntKind.i64.wrap (x.2.1.2.2.2.2.2 - (1 : Int))))
                    else
                      (x.2.1.1, x.2.1.2.1, x.2.1.2.2.1, x.2.1.2.2.2.1, x.2.1.2.2.2.2.1, (IntKind.i64.wrap (x.2.1.2.2.2.2.2 - (1 : Int)))))
                  else
                    bif ((IntKind.i64.wrap ((max (1 : Int) (min x.2.2.2 (10000 : Int))) - (1 : Int))) == (0 : Int)) then
                      (x.2.1.1, x.2.1.2.1, x.2.1.2.2.1, (2 : Int), (0 : Int), (IntKind.i64.wrap ((max (1 : Int) (min x.2.2.2 (10000 : Int))) - (1 : Int))))
                    else
                      (x.2.1.1, x.2.1.2.1, x.2.1.2.2.1, (0 : Int), (2 : Int), (IntKind.i64.wrap ((max (1 : Int) (min x.2.2.2 (10000 : Int))) - (1 : Int)))))
              else
                bif ((x.2.1.2.2.2.2.1 == (0 : Int)) || (x.2.1.2.2.2.2.1 == x.2.1.2.2.2.1)) then
                  x.2.1
                else
                  bif ((x.2.1.2.2.2.1 == (0 : Int)) && (x.2.1.2.2.2.2.1 == x.2.1.2.2.2.2.1)) then
                    (bif ((IntKind.i64.wrap (x.2.1.2.2.2.2.2 - (1 : Int))) == (0 : Int)) then
                      (x.2.1.1, x.2.1.2.1, x.2.1.2.2.1, x.2.1.2.2.2.2.1, (0 : Int), (IntKind.i64.wrap (x.2.1.2.2.2.2.2 - (1 : Int))))
                    else
                      (x.2.1.1, x.2.1.2.1, x.2.1.2.2.1, x.2.1.2.2.2.1, x.2.1.2.2.2.2.1, (IntKind.i64.wrap (x.2.1.2.2.2.2.2 - (1 : Int)))))
                  else
                    bif ((IntKind.i64.wrap ((max (1 : Int) (min x.2.2.2 (10000 : Int))) - (1 : Int))) == (0 : Int)) then
                      (x.2.1.1, x.2.1.2.1, x.2.1.2.2.1, x.2.1.2.2.2.2.1, (0 : Int), (IntKind.i64.wrap ((max (1 : Int) (min x.2.2.2 (10000 : Int))) - (1 : Int))))
                    else
                      (x.2.1.1, x.2.1.2.1, x.2.1.2.2.1, (0 : Int), x.2.1.2.2.2.2.1, (IntKind.i64.wrap ((max (1 : Int) (min x.2.2.2 (10000 : Int))) - (1 : Int)))))
        else
          bif (((x.2.1.2.2.2.1 == (2 : Int)) && (x.2.1.1 != x.2.1.1)) && (Sp.F26 (x.2.1.1, (0 : Int), (IntKind.i64.wrap (x.1 - (1 : Int)))))) then
            (Sp.F25 (x.2.1.1, x.2.1.1, (IntKind.i64.wrap ((max (1 : Int) (min x.2.2.2 (10000 : Int))) - (1 : Int))), x.2.1.2.2.2))
          else
            bif (x.2.2.1 == (3 : Int)) then
              (bif ((x.2.2.1 == (4 : Int)) || (x.2.2.1 == (5 : Int))) then
                (bif (((2 : Int) == (0 : Int)) || ((2 : Int) == x.2.1.2.2.2.1)) then
                  x.2.1
                else
                  bif ((x.2.1.2.2.2.1 == (0 : Int)) && ((2 : Int) == x.2.1.2.2.2.2.1)) then
                    (bif ((IntKind.i64.wrap (x.2.1.2.2.2.2.2 - (1 : Int))) == (0 : Int)) then
                      (x.2.1.1, x.2.1.2.1, x.2.1.2.2.1, (2 : Int), (0 : Int), (IntKind.i64.wrap (x.2.1.2.2.2.2.2 - (1 : Int))))
                    else
                      (x.2.1.1, x.2.1.2.1, x.2.1.2.2.1, x.2.1.2.2.2.1, x.2.1.2.2.2.2.1, (IntKind.i64.wrap (x.2.1.2.2.2.2.2 - (1 : Int)))))
                  else
                    bif ((IntKind.i64.wrap ((max (1 : Int) (min x.2.2.2 (10000 : Int))) - (1 : Int))) == (0 : Int)) then
                      (x.2.1.1, x.2.1.2.1, x.2.1.2.2.1, (2 : Int), (0 : Int), (IntKind.i64.wrap ((max (1 : Int) (min x.2.2.2 (10000 : Int))) - (1 : Int))))
                    else
                      (x.2.1.1, x.2.1.2.1, x.2.1.2.2.1, (0 : Int), (2 : Int), (IntKind.i64.wrap ((max (1 : Int) (min x.2.2.2 (10000 : Int))) - (1 : Int)))))
              else
                bif (((1 : Int) == (0 : Int)) || ((1 : Int) == x.2.1.2.2.2.1)) then
                  x.2.1
                else
                  bif ((x.2.1.2.2.2.1 == (0 : Int)) && ((1 : Int) == x.2.1.2.2.2.2.1)) then
                    (bif ((IntKind.i64.wrap (x.2.1.2.2.2.2.2 - (1 : Int))) == (0 : Int)) then
                      (x.2.1.1, x.2.1.2.1, x.2.1.2.2.1, (1 : Int), (0 : Int), (IntKind.i64.wrap (x.2.1.2.2.2.2.2 - (1 : Int))))
                    else
                      (x.2.1.1, x.2.1.2.1, x.2.1.2.2.1, x.2.1.2.2.2.1, x.2.1.2.2.2.2.1, (IntKind.i64.wrap (x.2.1.2.2.2.2.2 - (1 : Int)))))
                  else
                    bif ((IntKind.i64.wrap ((max (1 : Int) (min x.2.2.2 (10000 : Int))) - (1 : Int))) == (0 : Int)) then
                      (x.2.1.1, x.2.1.2.1, x.2.1.2.2.1, (1 : Int), (0 : Int), (IntKind.i64.wrap ((max (1 : Int) (min x.2.2.2 (10000 : Int))) - (1 : Int))))
                    else
                      (x.2.1.1, x.2.1.2.1, x.2.1.2.2.1, (0 : Int), (1 : Int), (IntKind.i64.wrap ((max (1 : Int) (min x.2.2.2 (10000 : Int))) - (1 : Int)))))
            else
              bif ((x.2.2.1 == (4 : Int)) || (x.2.2.1 == (5 : Int))) then
                (bif (((2 : Int) == (0 : Int)) || ((2 : Int) == x.2.1.2.2.2.1)) then
                  x.2.1
                else
                  bif ((x.2.1.2.2.2.1 == (0 : Int)) && ((2 : Int) == x.2.1.2.2.2.2.1)) then
                    (bif ((IntKind.i64.wrap (x.2.1.2.2.2.2.2 - (1 : Int))) == (0 : Int)) then
                      (x.2.1.1, x.2.1.2.1, x.2.1.2.2.1, (2 : Int), (0 : Int), (IntKind.i64.wrap (x.2.1.2.2.2.2.2 - (1 : Int))))
                    else
                      (x.2.1.1, x.2.1.2.1, x.2.1.2.2.1, x.2.1.2.2.2.1, x.2.1.2.2.2.2.1, (IntKind.i64.wrap (x.2.1.2.2.2.2.2 - (1 : Int)))))
                  else
                    bif ((IntKind.i64.wrap ((max (1 : Int) (min x.2.2.2 (10000 : Int))) - (1 : Int))) == (0 : Int)) then
                      (x.2.1.1, x.2.1.2.1, x.2.1.2.2.1, (2 : Int), (0 : Int), (IntKind.i64.wrap ((max (1 : Int) (min x.2.2.2 (10000 : Int))) - (1 : Int))))
                    else
                      (x.2.1.1, x.2.1.2.1, x.2.1.2.2.1, (0 : Int), (2 : Int), (IntKind.i64.wrap ((max (1 : Int) (min x.2.2.2 (10000 : Int))) - (1 : Int)))))
              else
                bif ((x.2.1.2.2.2.2.1 == (0 : Int)) || (x.2.1.2.2.2.2.1 == x.2.1.2.2.2.1)) then
                  x.2.1
                else
                  bif ((x.2.1.2.2.2.1 == (0 : Int)) && (x.2.1.2.2.2.2.1 == x.2.1.2.2.2.2.1)) then
                    (bif ((IntKind.i64.wrap (x.2.1.2.2.2.2.2 - (1 : Int))) == (0 : Int)) then
                      (x.2.1.1, x.2.1.2.1, x.2.1.2.2.1, x.2.1.2.2.2.2.1, (0 : Int), (IntKind.i64.wrap (x.2.1.2.2.2.2.2 - (1 : Int))))
                    else
                      (x.2.1.1, x.2.1.2.1, x.2.1.2.2.1, x.2.1.2.2.2.1, x.2.1.2.2.2.2.1, (IntKind.i64.wrap (x.2.1.2.2.2.2.2 - (1 : Int)))))
                  else
                    bif ((IntKind.i64.wrap ((max (1 : Int) (min x.2.2.2 (10000 : Int))) - (1 : Int))) == (0 : Int)) then
                      (x.2.1.1, x.2.1.2.1, x.2.1.2.2.1, x.2.1.2.2.2.2.1, (0 : Int), (IntKind.i64.wrap ((max (1 : Int) (min x.2.2.2 (10000 : Int))) - (1 : Int))))
                    else
                      (x.2.1.1, x.2.1.2.1, x.2.1.2.2.1, (0 : Int), x.2.1.2.2.2.2.1, (IntKind.i64.wrap ((max (1 : Int) (min x.2.2.2 (10000 : Int))) - (1 : Int))))
end Go.Proofs.Ytjdaplmlmmnokaa.Sp
namespace Go.Proofs.Ytjdaplmlmmnokaa.Sy
def ct22 : Ct := { p := (Ty.pair ty3 (Ty.pair ty23 (Ty.pair ty3 ty3))), psh := [none, some 6, none, none], r := ty23, rsh := (Rsh.one (some 6)), pre := none, fresh := none, F := Sp.F22 }
theorem va22 (x : (Ty.pair ty3 (Ty.pair ty23 (Ty.pair ty3 ty3))).den) : ((evFn (ctxG GmR1) Try.f22 (Ty.pair ty3 (Ty.pair ty23 (Ty.pair ty3 ty3))) [none, some 6, none, none] (Rsh.one (some 6)) none ty23 noL x)).val (fun y => y) (Ty.dflt ty23) = Sp.F22 x := by kernel_rfl
theorem se22 (x : (Ty.pair ty3 (Ty.pair ty23 (Ty.pair ty3 ty3))).den) : ((evFn (ctxG GmR1) Try.f22 (Ty.pair ty3 (Ty.pair ty23 (Ty.pair ty3 ty3))) [none, some 6, none, none] (Rsh.one (some 6)) none ty23 noL x)).safe = ((((!(Sp.F24 (x.1, x.2.1))) = true → True) ∧ ((!(Sp.F24 (x.1, x.2.1))) = false → (((decide (x.2.1.2.2.1 > (0 : Int))) = true → True) ∧ ((decide (x.2.1.2.2.1 > (0 : Int))) = false → (((x.2.2.1 == (1 : Int)) = true → (((x.2.2.1 == (2 : Int)) = true → (((((x.2.1.2.2.2.1 == (2 : Int)) && ((IntKind.i64.wrap ((IntKind.i64.wrap (x.2.1.1 + (1 : Int))) - (1 : Int))) != x.2.1.1)) && (Sp.F26 ((IntKind.i64.wrap ((IntKind.i64.wrap (x.2.1.1 + (1 : Int))) - (1 : Int))), (0 : Int), (IntKind.i64.wrap (x.1 - (1 : Int)))))) = true → True) ∧ ((((x.2.1.2.2.2.1 == (2 : Int)) && ((IntKind.i64.wrap ((IntKind.i64.wrap (x.2.1.1 + (1 : Int))) - (1 : Int))) != x.2.1.1)) && (Sp.F26 ((IntKind.i64.wrap ((IntKind.i64.wrap (x.2.1.1 + (1 : Int))) - (1 : Int))), (0 : Int), (IntKind.i64.wrap (x.1 - (1 : Int)))))) = false → (((x.2.2.1 == (3 : Int)) = true → ((((x.2.2.1 == (4 : Int)) || (x.2.2.1 == (5 : Int))) = true → (((((2 : Int) == (0 : Int)) || ((2 : Int) == x.2.1.2.2.2.1)) = true → True) ∧ ((((2 : Int) == (0 : Int)) || ((2 : Int) == x.2.1.2.2.2.1)) = false → ((((x.2.1.2.2.2.1 == (0 : Int)) && ((2 : Int) == x.2.1.2.2.2.2.1)) = true → ((((IntKind.i64.wrap (x.2.1.2.2.2.2.2 - (1 : Int))) == (0 : Int)) = true → True) ∧ (((IntKind.i64.wrap (x.2.1.2.2.2.2.2 - (1 : Int))) == (0 : Int)) = false → True))) ∧ (((x.2.1.2.2.2.1 == (0 : Int)) && ((2 : Int) == x.2.1.2.2.2.2.1)) = false → ((((IntKind.i64.wrap ((max (1 : Int) (min x.2.2.2 (10000 : Int))) - (1 : Int))) == (0 : Int)) = true → True) ∧ (((IntKind.i64.wrap ((max (1 : Int) (min x.2.2.2 (10000 : Int))) - (1 : Int))) == (0 : Int)) = false → True))))))) ∧ (((x.2.2.1 == (4 : Int)) || (x.2.2.1 == (5 : Int))) = false → (((((1 : Int) == (0 : Int)) || ((1 : Int) == x.2.1.2.2.2.1)) = true → True) ∧ ((((1 : Int) == (0 : Int)) || ((1 : Int) == x.2.1.2.2.2.1)) = false → ((((x.2.1.2.2.2.1 == (0 : Int)) && ((1 : Int) == x.2.1.2.2.2.2.1)) = true → ((((IntKind.i64.wrap (x.2.1.2.2.2.2.2 - (1 : Int))) == (0 : Int)) = true → True) ∧ (((IntKind.i64.wrap (x.2.1.2.2.2.2.2 - (1 : Int))) == (0 : Int)) = false → True))) ∧ (((x.2.1.2.2.2.1 == (0 : Int)) && ((1 : Int) == x.2.1.2.2.2.2.1)) = false → ((((IntKind.i64.wrap ((max (1 : Int) (min x.2.2.2 (10000 : Int))) - (1 : Int))) == (0 : Int)) = true → True) ∧ (((IntKind.i64.wrap ((max (1 : Int) (min x.2.2.2 (10000 : Int))) - (1 : Int))) == (0 : Int)) = false → True))))))))) ∧ ((x.2.2.1 == (3 : Int)) = false → ((((x.2.2.1 == (4 : Int)) || (x.2.2.1 == (5 : Int))) = true → (((((2 : Int) == (0 : Int)) || ((2 : Int) == x.2.1.2.2.2.1)) = true → True) ∧ ((((2 : Int) == (0 : Int)) || ((2 : Int) == x.2.1.2.2.2.1)) = false → ((((x.2.1.2.2.2.1 == (0 : Int)) && ((2 : Int) == x.2.1.2.2.2.2.1)) = true → ((((IntKind.i64.wrap (x.2.1.2.2.2.2.2 - (1 : Int))) == (0 : Int)) = true → True) ∧ (((IntKind.i64.wrap (x.2.1.2.2.2.2.2 - (1 : Int))) == (0 : Int)) = false → True))) ∧ (((x.2.1.2.2.2.1 == (0 : Int)) && ((2 : Int) == x.2.1.2.2.2.2.1)) = false → ((((IntKind.i64.wrap ((max (1 : Int) (min x.2.2.2 (10000 : Int))) - (1 : Int))) == (0 : Int)) = true → True) ∧ (((IntKind.i64.wrap ((max (1 : Int) (min x.2.2.2 (10000 : Int))) - (1 : Int))) == (0 : Int)) = false → True))))))) ∧ (((x.2.2.1 == (4 : Int)) || (x.2.2.1 == (5 : Int))) = false → ((((x.2.1.2.2.2.2.1 == (0 : Int)) || (x.2.1.2.2.2.2.1 == x.2.1.2.2.2.1)) = true → True) ∧ (((x.2.1.2.2.2.2.1 == (0 : Int)) || (x.2.1.2.2.2.2.1 == x.2.1.2.2.2.1)) = false → ((((x.2.1.2.2.2.1 == (0 : Int)) && (x.2.1.2.2.2.2.1 == x.2.1.2.2.2.2.1)) = true → ((((IntKind.i64.wrap (x.2.1.2.2.2.2.2 - (1 : Int))) == (0 : Int)) = true → True) ∧ (((IntKind.i64.wrap (x.2.1.2.2.2.2.2 - (1 : Int))) == (0 : Int)) = false → True))) ∧ (((x.2.1.2.2.2.1 == (0 : Int)) && (x.2.1.2.2.2.2.1 == x.2.1.2.2.2.2.1)) = false → ((((IntKind.i64.wrap ((max (1 : Int) (min x.2.2.2 (10000 : Int))) - (1 : Int))) == (0 : Int)) = true → True) ∧ (((IntKind.i64.wrap ((max (1 : Int) (min x.2.2.2 (10000 : Int))) - (1 : Int))) == (0 : Int)) = false → True))))))))))))) ∧ ((x.2.2.1 == (2 : Int)) = false → (((((x.2.1.2.2.2.1 == (2 : Int)) && ((IntKind.i64.wrap (x.2.1.1 + (1 : Int))) != x.2.1.1)) && (Sp.F26 ((IntKind.i64.wrap (x.2.1.1 + (1 : Int))), (0 : Int), (IntKind.i64.wrap (x.1 - (1 : Int)))))) = true → True) ∧ ((((x.2.1.2.2.2.1 == (2 : Int)) && ((IntKind.i64.wrap (x.2.1.1 + (1 : Int))) != x.2.1.1)) && (Sp.F26 ((IntKind.i64.wrap (x.2.1.1 + (1 : Int))), (0 : Int), (IntKind.i64.wrap (x.1 - (1 : Int)))))) = false → (((x.2.2.1 == (3 : Int)) = true → ((((x.2.2.1 == (4 : Int)) || (x.2.2.1 == (5 : Int))) = true → (((((2 : Int) == (0 : Int)) || ((2 : Int) == x.2.1.2.2.2.1)) = true → True) ∧ ((((2 : Int) == (0 : Int)) || ((2 : Int) == x.2.1.2.2.2.1)) = false → ((((x.2.1.2.2.2.1 == (0 : Int)) && ((2 : Int) == x.2.1.2.2.2.2.1)) = true → ((((IntKind.i64.wrap (x.2.1.2.2.2.2.2 - (1 : Int))) == (0 : Int)) = true → True) ∧ (((IntKind.i64.wrap (x.2.1.2.2.2.2.2 - (1 : Int))) == (0 : Int)) = false → True))) ∧ (((x.2.1.2.2.2.1 == (0 : Int)) && ((2 : Int) == x.2.1.2.2.2.2.1)) = false → ((((IntKind.i64.wrap ((max (1 : Int) (min x.2.2.2 (10000 : Int))) - (1 : Int))) == (0 : Int)) = true → True) ∧ (((IntKind.i64.wrap ((max (1 : Int) (min x.2.2.2 (10000 : Int))) - (1 : Int))) == (0 : Int)) = false → True))))))) ∧ (((x.2.2.1 == (4 : Int)) || (x.2.2.1 == (5 : Int))) = false → (((((1 : Int) == (0 : Int)) || ((1 : Int) == x.2.1.2.2.2.1)) = true → True) ∧ ((((1 : Int) == (0 : Int)) || ((1 : Int) == x.2.1.2.2.2.1)) = false → ((((x.2.1.2.2.2.1 == (0 : Int)) && ((1 : Int) == x.2.1.2.2.2.2.1)) = true → ((((IntKind.i64.wrap (x.2.1.2.2.2.2.2 - (1 : Int))) == (0 : Int)) = true → True) ∧ (((IntKind.i64.wrap (x.2.1.2.2.2.2.2 - (1 : Int))) == (0 : Int)) = false → True))) ∧ (((x.2.1.2.2.2.1 == (0 : Int)) && ((1 : Int) == x.2.1.2.2.2.2.1)) = false → ((((IntKind.i64.wrap ((max (1 : Int) (min x.2.2.2 (10000 : Int))) - (1 : Int))) == (0 : Int)) = true → True) ∧ (((IntKind.i64.wrap ((max (1 : Int) (min x.2.2.2 (10000 : Int))) - (1 : Int))) == (0 : Int)) = false → True))))))))) ∧ ((x.2.2.1 == (3 : Int)) = false → ((((x.2.2.1 == (4 : Int)) || (x.2.2.1 == (5 : Int))) = true → (((((2 : Int) == (0 : Int)) || ((2 : Int) == x.2.1.2.2.2.1)) = true → True) ∧ ((((2 : Int) == (0 : Int)) || ((2 : Int) == x.2.1.2.2.2.1)) = false → ((((x.2.1.2.2.2.1 == (0 : Int)) && ((2 : Int) == x.2.1.2.2.2.2.1)) = true → ((((IntKind.i64.wrap (x.2.1.2.2.2.2.2 - (1 : Int))) == (0 : Int)) = true → True) ∧ (((IntKind.i64.wrap (x.2.1.2.2.2.2.2 - (1 : Int))) == (0 : Int)) = false → True))) ∧ (((x.2.1.2.2.2.1 == (0 : Int)) && ((2 : Int) == x.2.1.2.2.2.2.1)) = false → ((((IntKind.i64.wrap ((max (1 : Int) (min x.2.2.2 (10000 : Int))) - (1 : Int))) == (0 : Int)) = true → True) ∧ (((IntKind.i64.wrap ((max (1 : Int) (min x.2.2.2 (10000 : Int))) - (1 : Int))) == (0 : Int)) = false → True))))))) ∧ (((x.2.2.1 == (4 : Int)) || (x.2.2.1 == (5 : Int))) = false → ((((x.2.1.2.2.2.2.1 == (0 : Int)) || (x.2.1.2.2.2.2.1 == x.2.1.2.2.2.1)) = true → True) ∧ (((x.2.1.2.2.2.2.1 == (0 : Int)) || (x.2.1.2.2.2.2.1 == x.2.1.2.2.2.1)) = false → ((((x.2.1.2.2.2.1 == (0 : Int)) && (x.2.1.2.2.2.2.1 == x.2.1.2.2.2.2.1)) = true → ((((IntKind.i64.wrap (x.2.1.2.2.2.2.2 - (1 : Int))) == (0 : Int)) = true → True) ∧ (((IntKind.i64.wrap (x.2.1.2.2.2.2.2 - (1 : Int))) == (0 : Int)) = false → True))) ∧ (((x.2.1.2.2.2.1 == (0 : Int)) && (x.2.1.2.2.2.2.1 == x.2.1.2.2.2.2.1)) = false → ((((IntKind.i64.wrap ((max (1 : Int) (min x.2.2.2 (10000 : Int))) - (1 : Int))) == (0 : Int)) = true → True) ∧ (((IntKind.i64.wrap ((max (1 : Int) (min x.2.2.2 (10000 : Int))) - (1 : Int))) == (0 : Int)) = false → True))))))))))))))) ∧ ((x.2.2.1 == (1 : Int)) = false → (((x.2.2.1 == (2 : Int)) = true → (((((x.2.1.2.2.2.1 == (2 : Int)) && ((IntKind.i64.wrap (x.2.1.1 - (1 : Int))) != x.2.1.1)) && (Sp.F26 ((IntKind.i64.wrap (x.2.1.1 - (1 : Int))), (0 : Int), (IntKind.i64.wrap (x.1 - (1 : Int)))))) = true → True) ∧ ((((x.2.1.2.2.2.1 == (2 : Int)) && ((IntKind.i64.wrap (x.2.1.1 - (1 : Int))) != x.2.1.1)) && (Sp.F26 ((IntKind.i64.wrap (x.2.1.1 - (1 : Int))), (0 : Int), (IntKind.i64.wrap (x.1 - (1 : Int)))))) = false → (((x.2.2.1 == (3 : Int)) = true → ((((x.2.2.1 == (4 : Int)) || (x.2.2.1 == (5 : Int))) = true → (((((2 : Int) == (0 : Int)) || ((2 : Int) == x.2.1.2.2.2.1)) = true → True) ∧ ((((2 : Int) == (0 : Int)) || ((2 : Int) == x.2.1.2.2.2.1)) = false → ((((x.2.1.2.2.2.1 == (0 : Int)) && ((2 : Int) == x.2.1.2.2.2.2.1)) = true → ((((IntKind.i64.wrap (x.2.1.2.2.2.2.2 - (1 : Int))) == (0 : Int)) = true → True) ∧ (((IntKind.i64.wrap (x.2.1.2.2.2.2.2 - (1 : Int))) == (0 : Int)) = false → True))) ∧ (((x.2.1.2.2.2.1 == (0 : Int)) && ((2 : Int) == x.2.1.2.2.2.2.1)) = false → ((((IntKind.i64.wrap ((max (1 : Int) (min x.2.2.2 (10000 : Int))) - (1 : Int))) == (0 : Int)) = true → True) ∧ (((IntKind.i64.wrap ((max (1 : Int) (min x.2.2.2 (10000 : Int))) - (1 : Int))) == (0 : Int)) = false → True))))))) ∧ (((x.2.2.1 == (4 : Int)) || (x.2.2.1 == (5 : Int))) = false → (((((1 : Int) == (0 : Int)) || ((1 : Int) == x.2.1.2.2.2.1)) = true → True) ∧ ((((1 : Int) == (0 : Int)) || ((1 : Int) == x.2.1.2.2.2.1)) = false → ((((x.2.1.2.2.2.1 == (0 : Int)) && ((1 : Int) == x.2.1.2.2.2.2.1)) = true → ((((IntKind.i64.wrap (x.2.1.2.2.2.2.2 - (1 : Int))) == (0 : Int)) = true → True) ∧ (((IntKind.i64.wrap (x.2.1.2.2.2.2.2 - (1 : Int))) == (0 : Int)) = false → True))) ∧ (((x.2.1.2.2.2.1 == (0 : Int)) && ((1 : Int) == x.2.1.2.2.2.2.1)) = false → ((((IntKind.i64.wrap ((max (1 : Int) (min x.2.2.2 (10000 : Int))) - (1 : Int))) == (0 : Int)) = true → True) ∧ (((IntKind.i64.wrap ((max (1 : Int) (min x.2.2.2 (10000 : Int))) - (1 : Int))) == (0 : Int)) = false → True))))))))) ∧ ((x.2.2.1 == (3 : Int)) = false → ((((x.2.2.1 == (4 : Int)) || (x.2.2.1 == (5 : Int))) = true → (((((2 : Int) == (0 : Int)) || ((2 : Int) == x.2.1.2.2.2.1)) = true → True) ∧ ((((2 : Int) == (0 : Int)) || ((2 : Int) == x.2.1.2.2.2.1)) = false → ((((x.2.1.2.2.2.1 == (0 : Int)) && ((2 : Int) == x.2.1.2.2.2.2.1)) = true → ((((IntKind.i64.wrap (x.2.1.2.2.2.2.2 - (1 : Int))) == (0 : Int)) = true → True) ∧ (((IntKind.i64.wrap (x.2.1.2.2.2.2.2 - (1 : Int))) == (0 : Int)) = false → True))) ∧ (((x.2.1.2.2.2.1 == (0 : Int)) && ((2 : Int) == x.2.1.2.2.2.2.1)) = false → ((((IntKind.i64.wrap ((max (1 : Int) (min x.2.2.2 (10000 : Int))) - (1 : Int))) == (0 : Int)) = true → True) ∧ (((IntKind.i64.wrap ((max (1 : Int) (min x.2.2.2 (10000 : Int))) - (1 : Int))) == (0 : Int)) = false → True))))))) ∧ (((x.2.2.1 == (4 : Int)) || (x.2.2.1 == (5 : Int))) = false → ((((x.2.1.2.2.2.2.1 == (0 : Int)) || (x.2.1.2.2.2.2.1 == x.2.1.2.2.2.1)) = true → True) ∧ (((x.2.1.2.2.2.2.1 == (0 : Int)) || (x.2.1.2.2.2.2.1 == x.2.1.2.2.2.1)) = false → ((((x.2.1.2.2.2.1 == (0 : Int)) && (x.2.1.2.2.2.2.1 == x.2.1.2.2.2.2.1)) = true → ((((IntKind.i64.wrap (x.2.1.2.2.2.2.2 - (1 : Int))) == (0 : Int)) = true → True) ∧ (((IntKind.i64.wrap (x.2.1.2.2.2.2.2 - (1 : Int))) == (0 : Int)) = false → True))) ∧ (((x.2.1.2.2.2.1 == (0 : Int)) && (x.2.1.2.2.2.2.1 == x.2.1.2.2.2.2.1)) = false → ((((IntKind.i64.wrap ((max (1 : Int) (min x.2.2.2 (10000 : Int))) - (1 : Int))) == (0 : Int)) = true → True) ∧ (((IntKind.i64.wrap ((max (1 : Int) (min x.2.2.2 (10000 : Int))) - (1 : Int))) == (0 : Int)) = false → True))))))))))))) ∧ ((x.2.2.1 == (2 : Int)) = false → (((((x.2.1.2.2.2.1 == (2 : Int)) && (x.2.1.1 != x.2.1.1)) && (Sp.F26 (x.2.1.1, (0 : Int), (IntKind.i64.wrap (x.1 - (1 : Int)))))) = true → True) ∧ ((((x.2.1.2.2.2.1 == (2 : Int)) && (x.2.1.1 != x.2.1.1)) && (Sp.F26 (x.2.1.1, (0 : Int), (IntKind.i64.wrap (x.1 - (1 : Int)))))) = false → (((x.2.2.1 == (3 : Int)) = true → ((((x.2.2.1 == (4 : Int)) || (x.2.2.1 == (5 : Int))) = true → (((((2 : Int) == (0 : Int)) || ((2 : Int) == x.2.1.2.2.2.1)) = true → True) ∧ ((((2 : Int) == (0 : Int)) || ((2 : Int) == x.2.1.2.2.2.1)) = false → ((((x.2.1.2.2.2.1 == (0 : Int)) && ((2 : Int) == x.2.1.2.2.2.2.1)) = true → ((((IntKind.i64.wrap (x.2.1.2.2.2.2.2 - (1 : Int))) == (0 : Int)) = true → True) ∧ (((IntKind.i64.wrap (x.2.1.2.2.2.2.2 - (1 : Int))) == (0 : Int)) = false → True))) ∧ (((x.2.1.2.2.2.1 == (0 : Int)) && ((2 : Int) == x.2.1.2.2.2.2.1)) = false → ((((IntKind.i64.wrap ((max (1 : Int) (min x.2.2.2 (10000 : Int))) - (1 : Int))) == (0 : Int)) = true → True) ∧ (((IntKind.i64.wrap ((max (1 : Int) (min x.2.2.2 (10000 : Int))) - (1 : Int))) == (0 : Int)) = false → True))))))) ∧ (((x.2.2.1 == (4 : Int)) || (x.2.2.1 == (5 : Int))) = false → (((((1 : Int) == (0 : Int)) || ((1 : Int) == x.2.1.2.2.2.1)) = true → True) ∧ ((((1 : Int) == (0 : Int)) || ((1 : Int) == x.2.1.2.2.2.1)) = false → ((((x.2.1.2.2.2.1 == (0 : Int)) && ((1 : Int) == x.2.1.2.2.2.2.1)) = true → ((((IntKind.i64.wrap (x.2.1.2.2.2.2.2 - (1 : Int))) == (0 : Int)) = true → True) ∧ (((IntKind.i64.wrap (x.2.1.2.2.2.2.2 - (1 : Int))) == (0 : Int)) = false → True))) ∧ (((x.2.1.2.2.2.1 == (0 : Int)) && ((1 : Int) == x.2.1.2.2.2.2.1)) = false → ((((IntKind.i64.wrap ((max (1 : Int) (min x.2.2.2 (10000 : Int))) - (1 : Int))) == (0 : Int)) = true → True) ∧ (((IntKind.i64.wrap ((max (1 : Int) (min x.2.2.2 (10000 : Int))) - (1 : Int))) == (0 : Int)) = false → True))))))))) ∧ ((x.2.2.1 == (3 : Int)) = false → ((((x.2.2.1 == (4 : Int)) || (x.2.2.1 == (5 : Int))) = true → (((((2 : Int) == (0 : Int)) || ((2 : Int) == x.2.1.2.2.2.1)) = true → True) ∧ ((((2 : Int) == (0 : Int)) || ((2 : Int) == x.2.1.2.2.2.1)) = false → ((((x.2.1.2.2.2.1 == (0 : Int)) && ((2 : Int) == x.2.1.2.2.2.2.1)) = true → ((((IntKind.i64.wrap (x.2.1.2.2.2.2.2 - (1 : Int))) == (0 : Int)) = true → True) ∧ (((IntKind.i64.wrap (x.2.1.2.2.2.2.2 - (1 : Int))) == (0 : Int)) = false → True))) ∧ (((x.2.1.2.2.2.1 == (0 : Int)) && ((2 : Int) == x.2.1.2.2.2.2.1)) = false → ((((IntKind.i64.wrap ((max (1 : Int) (min x.2.2.2 (10000 : Int))) - (1 : Int))) == (0 : Int)) = true → True) ∧ (((IntKind.i64.wrap ((max (1 : Int) (min x.2.2.2 (10000 : Int))) - (1 : Int))) == (0 : Int)) = false → True))))))) ∧ (((x.2.2.1 == (4 : Int)) || (x.2.2.1 == (5 : Int))) = false → ((((x.2.1.2.2.2.2.1 == (0 : Int)) || (x.2.1.2.2.2.2.1 == x.2.1.2.2.2.1)) = true → True) ∧ (((x.2.1.2.2.2.2.1 == (0 : Int)) || (x.2.1.2.2.2.2.1 == x.2.1.2.2.2.1)) = false → ((((x.2.1.2.2.2.1 == (0 : Int)) && (x.2.1.2.2.2.2.1 == x.2.1.2.2.2.2.1)) = true → ((((IntKind.i64.wrap (x.2.1.2.2.2.2.2 - (1 : Int))) == (0 : Int)) = true → True) ∧ (((IntKind.i64.wrap (x.2.1.2.2.2.2.2 - (1 : Int))) == (0 : Int)) = false → True))) ∧ (((x.2.1.2.2.2.1 == (0 : Int)) && (x.2.1.2.2.2.2.1 == x.2.1.2.2.2.2.1)) = false → ((((IntKind.i64.wrap ((max (1 : Int) (min x.2.2.2 (10000 : Int))) - (1 : Int))) == (0 : Int)) = true → True) ∧ (((IntKind.i64.wrap ((max (1 : Int) (min x.2.2.2 (10000 : Int))) - (1 : Int))) == (0 : Int)) = false → True))))))))))))))))))))) := by kernel_rfl
theorem sa22 (x : (Ty.pair ty3 (Ty.pair ty23 (Ty.pair ty3 ty3))).den) (fx : Fit (Ty.pair ty3 (Ty.pair ty23 (Ty.pair ty3 ty3))) x) : SafeW ((evFn (ctxG GmR1) Try.f22 (Ty.pair ty3 (Ty.pair ty23 (Ty.pair ty3 ty3))) [none, some 6, none, none] (Rsh.one (some 6)) none ty23 noL x)) := by
  refine ⟨?_⟩
  rw [se22]
  try dsimp only [Ty.den] at *
  simp only [Fit, maxLen] at fx
  simp only [true_and, IntKind.wrap_i64, IntKind.wrap_u8, IntKind.wrap_u32, IntKind.wrap_u64, Sp.tmod_ite, Sp.tdiv_ite, setE, copyL, sliceL, zrow, List.length_append, List.length_cons, List.length_nil, List.length_set, List.length_replicate, List.length_take, List.length_drop, decide_eq_true_eq, decide_eq_false_iff_not, Bool.or_eq_true, Bool.and_eq_true, Bool.or_eq_false_iff, Bool.and_eq_false_iff, Bool.not_eq_true', Bool.not_eq_false', Bool.not_eq_true, Bool.not_eq_false, beq_iff_eq, beq_eq_false_iff_ne, bne_iff_ne, ne_eq, implies_true, and_true, true_and] at *
  all_goals ((repeat' (first | exact trivial | apply And.intro | intro _)) <;> first | trivial | omega)
theorem ok22 : CtOk Try.prog gdS 22 ct22 :=
  fn_okU (ctxOkF gokGmR1 []) rfl Try.func22 (p := (Ty.pair ty3 (Ty.pair ty23 (Ty.pair ty3 ty3)))) (psh := [none, some 6, none, none]) (r := ty23) (rsh := (Rsh.one (some 6))) (pre := none) (fresh := none) (F := Sp.F22) (L := noL) (c := bodyOf Try.f22) (dflt := Ty.dflt ty23) rfl (no_loops)
    (safe_no @sa22) va22
/-! overlayref16.IsState -/
end Go.Proofs.Ytjdaplmlmmnokaa.Sy
namespace Go.Proofs.Ytjdaplmlmmnokaa.Sp
open Go Go.RowKit Sy
def F15 (x : Int × Int × Int × Int × Int × Int × Int) : Bool :=
  (Sp.F24 x)
end Go.Proofs.Ytjdaplmlmmnokaa.Sp
namespace Go.Proofs.Ytjdaplmlmmnokaa.Sy
def ct15 : Ct := { p := (Ty.pair ty3 ty23), psh := [none, some 6], r := ty4, rsh := (Rsh.one (none)), pre := none, fresh := none, F := Sp.F15 }
theorem va15 (x : (Ty.pair ty3 ty23).den) : ((evFn (ctxG GmR1) Try.f15 (Ty.pair ty3 ty23) [none, some 6] (Rsh.one (none)) none ty4 noL x)).val (fun y => y) (Ty.dflt ty4) = Sp.F15 x := by kernel_rfl
theorem se15 (x : (Ty.pair ty3 ty23).den) : ((evFn (ctxG GmR1) Try.f15 (Ty.pair ty3 ty23) [none, some 6] (Rsh.one (none)) none ty4 noL x)).safe = (True) := by kernel_rfl
theorem sa15 (x : (Ty.pair ty3 ty23).den) (fx : Fit (Ty.pair ty3 ty23) x) : SafeW ((evFn (ctxG GmR1) Try.f15 (Ty.pair ty3 ty23) [none, some 6] (Rsh.one (none)) none ty4 noL x)) := by
  refine ⟨?_⟩
  rw [se15]
  trivial
theorem ok15 : CtOk Try.prog gdS 15 ct15 :=
  fn_okU (ctxOkF gokGmR1 []) rfl Try.func15 (p := (Ty.pair ty3 ty23)) (psh := [none, some 6]) (r := ty4) (rsh := (Rsh.one (none))) (pre := none) (fresh := none) (F := Sp.F15) (L := noL) (c := bodyOf Try.f15) (dflt := Ty.dflt ty4) rfl (no_loops)
    (safe_no @sa15) va15
def GmR2 : List (Nat × Ct) := (10, ct10) :: (22, ct22) :: (15, ct15) :: GmR1
theorem gokGmR2 : GOk GmR2 := gok_cons ok10 ⟨_, Try.func10, by kernel_rfl, by kernel_rfl⟩ (gok_cons ok22 ⟨_, Try.func22, by kernel_rfl, by kernel_rfl⟩ (gok_cons ok15 ⟨_, Try.func15, by kernel_rfl, by kernel_rfl⟩ (gokGmR1)))
end Go.Proofs.Ytjdaplmlmmnokaa.Sy
