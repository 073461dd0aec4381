/- Contracts of functions, by the evaluator (own program gen.py): overlaylaw01.BuildingFaults. -/
import Derived.Test.YtghlpolodjlgjaaB3
set_option linter.unusedVariables false
set_option linter.unusedSimpArgs false
set_option maxRecDepth 100000
namespace Go.Proofs.Ytghlpolodjlgjaa.Sy
open Go Go.RowKit Sp
/-! overlaylaw01.BuildingFaults -/
end Go.Proofs.Ytghlpolodjlgjaa.Sy
namespace Go.Proofs.Ytghlpolodjlgjaa.Sp
open Go Go.RowKit Sy
def in3_3 (k : (Int × Int)) (x : (Int × Int × Int × Int × Int × Nat × Nat × Nat × List (Int × Int × Int × Int × Int × Int × Int × Int × Int))) : Prop := (0 : Int) ≤ x.1 ∧ 0 ≤ k.1 ∧ k.1 ≤ 255 ∧ 0 ≤ k.2 ∧ k.2 ≤ 255 ∧ 1 ≤ x.2.2.2.2.2.2.2.2.length ∧ (x.2.2.2.2.2.2.2.2.length : Int) ≤ 8 + 8 * x.1
def mu3_3 (k : (Int × Int)) (x : (Int × Int × Int × Int × Int × Nat × Nat × Nat × List (Int × Int × Int × Int × Int × Int × Int × Int × Int))) : Nat := ((2 : Int) - x.1).toNat
def K3_3_1 (k : (Int × Int)) (x : (Int × Int × Int × Int × Int × Nat × Nat × Nat × List (Int × Int × Int × Int × Int × Int × Int × Int × Int))) :=
  (setE ty30 x.2.2.2.2.2.2.2.2 (Int.tmod (IntKind.i64.wrap (Sp.nthT [k.1, k.2] (IntKind.i64.wrap ((1 : Int) - x.1)))) ((x.2.2.2.2.2.2.2.2).length : Int)) ((IntKind.i64.wrap ((10000 : Int) + (IntKind.i64.wrap (Int.tmod (Sp.nthT [k.1, k.2] (IntKind.i64.wrap ((1 : Int) - x.1))) (2 : Int))))), (Sp.nthT x.2.2.2.2.2.2.2.2 (Int.tmod (IntKind.i64.wrap (Sp.nthT [k.1, k.2] (IntKind.i64.wrap ((1 : Int) - x.1)))) ((x.2.2.2.2.2.2.2.2).length : Int))).2))
def K3_3_2 (k : (Int × Int)) (x : (Int × Int × Int × Int × Int × Nat × Nat × Nat × List (Int × Int × Int × Int × Int × Int × Int × Int × Int))) :=
  (setE ty30 x.2.2.2.2.2.2.2.2 (Int.tmod (IntKind.i64.wrap (Sp.nthT [k.1, k.2] (IntKind.i64.wrap ((1 : Int) - x.1)))) ((x.2.2.2.2.2.2.2.2).length : Int)) ((Sp.nthT x.2.2.2.2.2.2.2.2 (Int.tmod (IntKind.i64.wrap (Sp.nthT [k.1, k.2] (IntKind.i64.wrap ((1 : Int) - x.1)))) ((x.2.2.2.2.2.2.2.2).length : Int))).1, (IntKind.i64.wrap (Int.tmod (Sp.nthT [k.1, k.2] (IntKind.i64.wrap ((1 : Int) - x.1))) (2 : Int))), (Sp.nthT x.2.2.2.2.2.2.2.2 (Int.tmod (IntKind.i64.wrap (Sp.nthT [k.1, k.2] (IntKind.i64.wrap ((1 : Int) - x.1)))) ((x.2.2.2.2.2.2.2.2).length : Int))).2.2))
def K3_3_3 (k : (Int × Int)) (x : (Int × Int × Int × Int × Int × Nat × Nat × Nat × List (Int × Int × Int × Int × Int × Int × Int × Int × Int))) :=
  (setE ty30 x.2.2.2.2.2.2.2.2 (Int.tmod (IntKind.i64.wrap (Sp.nthT [k.1, k.2] (IntKind.i64.wrap ((1 : Int) - x.1)))) ((x.2.2.2.2.2.2.2.2).length : Int)) ((Sp.nthT x.2.2.2.2.2.2.2.2 (Int.tmod (IntKind.i64.wrap (Sp.nthT [k.1, k.2] (IntKind.i64.wrap ((1 : Int) - x.1)))) ((x.2.2.2.2.2.2.2.2).length : Int))).1, (Sp.nthT x.2.2.2.2.2.2.2.2 (Int.tmod (IntKind.i64.wrap (Sp.nthT [k.1, k.2] (IntKind.i64.wrap ((1 : Int) - x.1)))) ((x.2.2.2.2.2.2.2.2).length : Int))).2.1, (0 : Int), (Sp.nthT x.2.2.2.2.2.2.2.2 (Int.tmod (IntKind.i64.wrap (Sp.nthT [k.1, k.2] (IntKind.i64.wrap ((1 : Int) - x.1)))) ((x.2.2.2.2.2.2.2.2).length : Int))).2.2.2))
def K3_3_4 (k : (Int × Int)) (x : (Int × Int × Int × Int × Int × Nat × Nat × Nat × List (Int × Int × Int × Int × Int × Int × Int × Int × Int))) :=
  (setE ty30 x.2.2.2.2.2.2.2.2 (Int.tmod (IntKind.i64.wrap (Sp.nthT [k.1, k.2] (IntKind.i64.wrap ((1 : Int) - x.1)))) ((x.2.2.2.2.2.2.2.2).length : Int)) ((Sp.nthT x.2.2.2.2.2.2.2.2 (Int.tmod (IntKind.i64.wrap (Sp.nthT [k.1, k.2] (IntKind.i64.wrap ((1 : Int) - x.1)))) ((x.2.2.2.2.2.2.2.2).length : Int))).1, (Sp.nthT x.2.2.2.2.2.2.2.2 (Int.tmod (IntKind.i64.wrap (Sp.nthT [k.1, k.2] (IntKind.i64.wrap ((1 : Int) - x.1)))) ((x.2.2.2.2.2.2.2.2).length : Int))).2.1, (Sp.nthT x.2.2.2.2.2.2.2.2 (Int.tmod (IntKind.i64.wrap (Sp.nthT [k.1, k.2] (IntKind.i64.wrap ((1 : Int) - x.1)))) ((x.2.2.2.2.2.2.2.2).length : Int))).2.2.1, (IntKind.i64.wrap ((IntKind.i64.wrap (Int.tmod (Sp.nthT [k.1, k.2] (IntKind.i64.wrap ((1 : Int) - x.1))) (3 : Int))) - (1 : Int))), (Sp.nthT x.2.2.2.2.2.2.2.2 (Int.tmod (IntKind.i64.wrap (Sp.nthT [k.1, k.2] (IntKind.i64.wrap ((1 : Int) - x.1)))) ((x.2.2.2.2.2.2.2.2).length : Int))).2.2.2.2))
def K3_3_5 (k : (Int × Int)) (x : (Int × Int × Int × Int × Int × Nat × Nat × Nat × List (Int × Int × Int × Int × Int × Int × Int × Int × Int))) :=
  (setE ty30 x.2.2.2.2.2.2.2.2 (Int.tmod (IntKind.i64.wrap (Sp.nthT [k.1, k.2] (IntKind.i64.wrap ((1 : Int) - x.1)))) ((x.2.2.2.2.2.2.2.2).length : Int)) ((Sp.nthT x.2.2.2.2.2.2.2.2 (Int.tmod (IntKind.i64.wrap (Sp.nthT [k.1, k.2] (IntKind.i64.wrap ((1 : Int) - x.1)))) ((x.2.2.2.2.2.2.2.2).length : Int))).1, (Sp.nthT x.2.2.2.2.2.2.2.2 (Int.tmod (IntKind.i64.wrap (Sp.nthT [k.1, k.2] (IntKind.i64.wrap ((1 : Int) - x.1)))) ((x.2.2.2.2.2.2.2.2).length : Int))).2.1, (Sp.nthT x.2.2.2.2.2.2.2.2 (Int.tmod (IntKind.i64.wrap (Sp.nthT [k.1, k.2] (IntKind.i64.wrap ((1 : Int) - x.1)))) ((x.2.2.2.2.2.2.2.2).length : Int))).2.2.1, (Sp.nthT x.2.2.2.2.2.2.2.2 (Int.tmod (IntKind.i64.wrap (Sp.nthT [k.1, k.2] (IntKind.i64.wrap ((1 : Int) - x.1)))) ((x.2.2.2.2.2.2.2.2).length : Int))).2.2.2.1, (-1 : Int), (Sp.nthT x.2.2.2.2.2.2.2.2 (Int.tmod (IntKind.i64.wrap (Sp.nthT [k.1, k.2] (IntKind.i64.wrap ((1 : Int) - x.1)))) ((x.2.2.2.2.2.2.2.2).length : Int))).2.2.2.2.2))
def K3_3_6 (k : (Int × Int)) (x : (Int × Int × Int × Int × Int × Nat × Nat × Nat × List (Int × Int × Int × Int × Int × Int × Int × Int × Int))) :=
  (setE ty30 x.2.2.2.2.2.2.2.2 (Int.tmod (IntKind.i64.wrap (Sp.nthT [k.1, k.2] (IntKind.i64.wrap ((1 : Int) - x.1)))) ((x.2.2.2.2.2.2.2.2).length : Int)) ((Sp.nthT x.2.2.2.2.2.2.2.2 (Int.tmod (IntKind.i64.wrap (Sp.nthT [k.1, k.2] (IntKind.i64.wrap ((1 : Int) - x.1)))) ((x.2.2.2.2.2.2.2.2).length : Int))).1, (Sp.nthT x.2.2.2.2.2.2.2.2 (Int.tmod (IntKind.i64.wrap (Sp.nthT [k.1, k.2] (IntKind.i64.wrap ((1 : Int) - x.1)))) ((x.2.2.2.2.2.2.2.2).length : Int))).2.1, (Sp.nthT x.2.2.2.2.2.2.2.2 (Int.tmod (IntKind.i64.wrap (Sp.nthT [k.1, k.2] (IntKind.i64.wrap ((1 : Int) - x.1)))) ((x.2.2.2.2.2.2.2.2).length : Int))).2.2.1, (Sp.nthT x.2.2.2.2.2.2.2.2 (Int.tmod (IntKind.i64.wrap (Sp.nthT [k.1, k.2] (IntKind.i64.wrap ((1 : Int) - x.1)))) ((x.2.2.2.2.2.2.2.2).length : Int))).2.2.2.1, (Sp.nthT x.2.2.2.2.2.2.2.2 (Int.tmod (IntKind.i64.wrap (Sp.nthT [k.1, k.2] (IntKind.i64.wrap ((1 : Int) - x.1)))) ((x.2.2.2.2.2.2.2.2).length : Int))).2.2.2.2.1, (0 : Int), (Sp.nthT x.2.2.2.2.2.2.2.2 (Int.tmod (IntKind.i64.wrap (Sp.nthT [k.1, k.2] (IntKind.i64.wrap ((1 : Int) - x.1)))) ((x.2.2.2.2.2.2.2.2).length : Int))).2.2.2.2.2.2))
def K3_3_7 (k : (Int × Int)) (x : (Int × Int × Int × Int × Int × Nat × Nat × Nat × List (Int × Int × Int × Int × Int × Int × Int × Int × Int))) :=
  (setE ty30 x.2.2.2.2.2.2.2.2 (Int.tmod (IntKind.i64.wrap (Sp.nthT [k.1, k.2] (IntKind.i64.wrap ((1 : Int) - x.1)))) ((x.2.2.2.2.2.2.2.2).length : Int)) ((Sp.nthT x.2.2.2.2.2.2.2.2 (Int.tmod (IntKind.i64.wrap (Sp.nthT [k.1, k.2] (IntKind.i64.wrap ((1 : Int) - x.1)))) ((x.2.2.2.2.2.2.2.2).length : Int))).1, (Sp.nthT x.2.2.2.2.2.2.2.2 (Int.tmod (IntKind.i64.wrap (Sp.nthT [k.1, k.2] (IntKind.i64.wrap ((1 : Int) - x.1)))) ((x.2.2.2.2.2.2.2.2).length : Int))).2.1, (Sp.nthT x.2.2.2.2.2.2.2.2 (Int.tmod (IntKind.i64.wrap (Sp.nthT [k.1, k.2] (IntKind.i64.wrap ((1 : Int) - x.1)))) ((x.2.2.2.2.2.2.2.2).length : Int))).2.2.1, (Sp.nthT x.2.2.2.2.2.2.2.2 (Int.tmod (IntKind.i64.wrap (Sp.nthT [k.1, k.2] (IntKind.i64.wrap ((1 : Int) - x.1)))) ((x.2.2.2.2.2.2.2.2).length : Int))).2.2.2.1, (Sp.nthT x.2.2.2.2.2.2.2.2 (Int.tmod (IntKind.i64.wrap (Sp.nthT [k.1, k.2] (IntKind.i64.wrap ((1 : Int) - x.1)))) ((x.2.2.2.2.2.2.2.2).length : Int))).2.2.2.2.1, (Sp.nthT x.2.2.2.2.2.2.2.2 (Int.tmod (IntKind.i64.wrap (Sp.nthT [k.1, k.2] (IntKind.i64.wrap ((1 : Int) - x.1)))) ((x.2.2.2.2.2.2.2.2).length : Int))).2.2.2.2.2.1, (IntKind.i64.wrap (Int.tmod (Sp.nthT [k.1, k.2] (IntKind.i64.wrap ((1 : Int) - x.1))) (15 : Int))), (Sp.nthT x.2.2.2.2.2.2.2.2 (Int.tmod (IntKind.i64.wrap (Sp.nthT [k.1, k.2] (IntKind.i64.wrap ((1 : Int) - x.1)))) ((x.2.2.2.2.2.2.2.2).length : Int))).2.2.2.2.2.2.2))
def K3_3_8 (k : (Int × Int)) (x : (Int × Int × Int × Int × Int × Nat × Nat × Nat × List (Int × Int × Int × Int × Int × Int × Int × Int × Int))) :=
  (setE ty30 x.2.2.2.2.2.2.2.2 (Int.tmod (IntKind.i64.wrap (Sp.nthT [k.1, k.2] (IntKind.i64.wrap ((1 : Int) - x.1)))) ((x.2.2.2.2.2.2.2.2).length : Int)) ((Sp.nthT x.2.2.2.2.2.2.2.2 (Int.tmod (IntKind.i64.wrap (Sp.nthT [k.1, k.2] (IntKind.i64.wrap ((1 : Int) - x.1)))) ((x.2.2.2.2.2.2.2.2).length : Int))).1, (Sp.nthT x.2.2.2.2.2.2.2.2 (Int.tmod (IntKind.i64.wrap (Sp.nthT [k.1, k.2] (IntKind.i64.wrap ((1 : Int) - x.1)))) ((x.2.2.2.2.2.2.2.2).length : Int))).2.1, (Sp.nthT x.2.2.2.2.2.2.2.2 (Int.tmod (IntKind.i64.wrap (Sp.nthT [k.1, k.2] (IntKind.i64.wrap ((1 : Int) - x.1)))) ((x.2.2.2.2.2.2.2.2).length : Int))).2.2.1, (Sp.nthT x.2.2.2.2.2.2.2.2 (Int.tmod (IntKind.i64.wrap (Sp.nthT [k.1, k.2] (IntKind.i64.wrap ((1 : Int) - x.1)))) ((x.2.2.2.2.2.2.2.2).length : Int))).2.2.2.1, (Sp.nthT x.2.2.2.2.2.2.2.2 (Int.tmod (IntKind.i64.wrap (Sp.nthT [k.1, k.2] (IntKind.i64.wrap ((1 : Int) - x.1)))) ((x.2.2.2.2.2.2.2.2).length : Int))).2.2.2.2.1, (Sp.nthT x.2.2.2.2.2.2.2.2 (Int.tmod (IntKind.i64.wrap (Sp.nthT [k.1, k.2] (IntKind.i64.wrap ((1 : Int) - x.1)))) ((x.2.2.2.2.2.2.2.2).length : Int))).2.2.2.2.2.1, (Sp.nthT x.2.2.2.2.2.2.2.2 (Int.tmod (IntKind.i64.wrap (Sp.nthT [k.1, k.2] (IntKind.i64.wrap ((1 : Int) - x.1)))) ((x.2.2.2.2.2.2.2.2).length : Int))).2.2.2.2.2.2.1, (IntKind.i64.wrap (Int.tmod (Sp.nthT [k.1, k.2] (IntKind.i64.wrap ((1 : Int) - x.1))) (5 : Int))), (Sp.nthT x.2.2.2.2.2.2.2.2 (Int.tmod (IntKind.i64.wrap (Sp.nthT [k.1, k.2] (IntKind.i64.wrap ((1 : Int) - x.1)))) ((x.2.2.2.2.2.2.2.2).length : Int))).2.2.2.2.2.2.2.2))
def K3_3_9 (k : (Int × Int)) (x : (Int × Int × Int × Int × Int × Nat × Nat × Nat × List (Int × Int × Int × Int × Int × Int × Int × Int × Int))) :=
  (setE ty30 x.2.2.2.2.2.2.2.2 (Int.tmod (IntKind.i64.wrap (Sp.nthT [k.1, k.2] (IntKind.i64.wrap ((1 : Int) - x.1)))) ((x.2.2.2.2.2.2.2.2).length : Int)) ((Sp.nthT x.2.2.2.2.2.2.2.2 (Int.tmod (IntKind.i64.wrap (Sp.nthT [k.1, k.2] (IntKind.i64.wrap ((1 : Int) - x.1)))) ((x.2.2.2.2.2.2.2.2).length : Int))).1, (Sp.nthT x.2.2.2.2.2.2.2.2 (Int.tmod (IntKind.i64.wrap (Sp.nthT [k.1, k.2] (IntKind.i64.wrap ((1 : Int) - x.1)))) ((x.2.2.2.2.2.2.2.2).length : Int))).2.1, (Sp.nthT x.2.2.2.2.2.2.2.2 (Int.tmod (IntKind.i64.wrap (Sp.nthT [k.1, k.2] (IntKind.i64.wrap ((1 : Int) - x.1)))) ((x.2.2.2.2.2.2.2.2).length : Int))).2.2.1, (Sp.nthT x.2.2.2.2.2.2.2.2 (Int.tmod (IntKind.i64.wrap (Sp.nthT [k.1, k.2] (IntKind.i64.wrap ((1 : Int) - x.1)))) ((x.2.2.2.2.2.2.2.2).length : Int))).2.2.2.1, (Sp.nthT x.2.2.2.2.2.2.2.2 (Int.tmod (IntKind.i64.wrap (Sp.nthT [k.1, k.2] (IntKind.i64.wrap ((1 : Int) - x.1)))) ((x.2.2.2.2.2.2.2.2).length : Int))).2.2.2.2.1, (Sp.nthT x.2.2.2.2.2.2.2.2 (Int.tmod (IntKind.i64.wrap (Sp.nthT [k.1, k.2] (IntKind.i64.wrap ((1 : Int) - x.1)))) ((x.2.2.2.2.2.2.2.2).length : Int))).2.2.2.2.2.1, (Sp.nthT x.2.2.2.2.2.2.2.2 (Int.tmod (IntKind.i64.wrap (Sp.nthT [k.1, k.2] (IntKind.i64.wrap ((1 : Int) - x.1)))) ((x.2.2.2.2.2.2.2.2).length : Int))).2.2.2.2.2.2.1, (Sp.nthT x.2.2.2.2.2.2.2.2 (Int.tmod (IntKind.i64.wrap (Sp.nthT [k.1, k.2] (IntKind.i64.wrap ((1 : Int) - x.1)))) ((x.2.2.2.2.2.2.2.2).length : Int))).2.2.2.2.2.2.2.1, (IntKind.i64.wrap ((IntKind.i64.wrap (Int.tmod (Sp.nthT [k.1, k.2] (IntKind.i64.wrap ((1 : Int) - x.1))) (40 : Int))) - (1 : Int)))))
def st3_3 (k : (Int × Int)) (x : (Int × Int × Int × Int × Int × Nat × Nat × Nat × List (Int × Int × Int × Int × Int × Int × Int × Int × Int))) : BOut (Int × Int) (Int × Int × Int × Int × Int × Nat × Nat × Nat × List (Int × Int × Int × Int × Int × Int × Int × Int × Int)) (Bool) :=
  bif (decide (x.1 < (2 : Int))) then
    (bif ((Int.tmod (Sp.nthT [k.1, k.2] x.1) (24 : Int)) == (1 : Int)) then
      BOut.next k ((IntKind.i64.wrap (x.1 + (1 : Int))), (IntKind.i64.wrap (Int.tmod (Sp.nthT [k.1, k.2] (IntKind.i64.wrap ((1 : Int) - x.1))) (40 : Int))), x.2.2)
    else
      bif ((Int.tmod (Sp.nthT [k.1, k.2] x.1) (24 : Int)) == (2 : Int)) then
        BOut.next k ((IntKind.i64.wrap (x.1 + (1 : Int))), x.2.1, (IntKind.i64.wrap ((IntKind.i64.wrap (Int.tmod (Sp.nthT [k.1, k.2] (IntKind.i64.wrap ((1 : Int) - x.1))) (20 : Int))) - (1 : Int))), x.2.2.2)
      else
        bif ((Int.tmod (Sp.nthT [k.1, k.2] x.1) (24 : Int)) == (3 : Int)) then
          BOut.next k ((IntKind.i64.wrap (x.1 + (1 : Int))), x.2.1, x.2.2.1, x.2.2.2.1, (0 : Int), x.2.2.2.2.2)
        else
          bif ((Int.tmod (Sp.nthT [k.1, k.2] x.1) (24 : Int)) == (4 : Int)) then
            BOut.next k ((IntKind.i64.wrap (x.1 + (1 : Int))), x.2.1, x.2.2.1, x.2.2.2.1, x.2.2.2.2.1, x.2.2.2.2.2.1, x.2.2.2.2.2.2.1, x.2.2.2.2.2.2.2.1, (Sp.K3_3_1 k x))
          else
            bif ((Int.tmod (Sp.nthT [k.1, k.2] x.1) (24 : Int)) == (5 : Int)) then
              BOut.next k ((IntKind.i64.wrap (x.1 + (1 : Int))), x.2.1, x.2.2.1, x.2.2.2.1, x.2.2.2.2.1, x.2.2.2.2.2.1, x.2.2.2.2.2.2.1, x.2.2.2.2.2.2.2.1, (Sp.K3_3_2 k x))
            else
              bif ((Int.tmod (Sp.nthT [k.1, k.2] x.1) (24 : Int)) == (6 : Int)) then
                BOut.next k ((IntKind.i64.wrap (x.1 + (1 : Int))), x.2.1, x.2.2.1, x.2.2.2.1, x.2.2.2.2.1, x.2.2.2.2.2.1, x.2.2.2.2.2.2.1, x.2.2.2.2.2.2.2.1, (Sp.K3_3_3 k x))
              else
                bif ((Int.tmod (Sp.nthT [k.1, k.2] x.1) (24 : Int)) == (7 : Int)) then
                  BOut.next k ((IntKind.i64.wrap (x.1 + (1 : Int))), x.2.1, x.2.2.1, x.2.2.2.1, x.2.2.2.2.1, x.2.2.2.2.2.1, x.2.2.2.2.2.2.1, x.2.2.2.2.2.2.2.1, (Sp.K3_3_4 k x))
                else
                  bif ((Int.tmod (Sp.nthT [k.1, k.2] x.1) (24 : Int)) == (8 : Int)) then
                    BOut.next k ((IntKind.i64.wrap (x.1 + (1 : Int))), x.2.1, x.2.2.1, x.2.2.2.1, x.2.2.2.2.1, x.2.2.2.2.2.1, x.2.2.2.2.2.2.1, x.2.2.2.2.2.2.2.1, (Sp.K3_3_5 k x))
                  else
                    bif ((Int.tmod (Sp.nthT [k.1, k.2] x.1) (24 : Int)) == (9 : Int)) then
                      BOut.next k ((IntKind.i64.wrap (x.1 + (1 : Int))), x.2.1, x.2.2.1, x.2.2.2.1, x.2.2.2.2.1, x.2.2.2.2.2.1, x.2.2.2.2.2.2.1, x.2.2.2.2.2.2.2.1, (Sp.K3_3_6 k x))
                    else
                      bif ((Int.tmod (Sp.nthT [k.1, k.2] x.1) (24 : Int)) == (10 : Int)) then
                        BOut.next k ((IntKind.i64.wrap (x.1 + (1 : Int))), x.2.1, x.2.2.1, x.2.2.2.1, x.2.2.2.2.1, x.2.2.2.2.2.1, x.2.2.2.2.2.2.1, x.2.2.2.2.2.2.2.1, (Sp.K3_3_7 k x))
                      else
                        bif ((Int.tmod (Sp.nthT [k.1, k.2] x.1) (24 : Int)) == (11 : Int)) then
                          BOut.next k ((IntKind.i64.wrap (x.1 + (1 : Int))), x.2.1, x.2.2.1, x.2.2.2.1, x.2.2.2.2.1, x.2.2.2.2.2.1, x.2.2.2.2.2.2.1, x.2.2.2.2.2.2.2.1, (Sp.K3_3_8 k x))
                        else
                          bif ((Int.tmod (Sp.nthT [k.1, k.2] x.1) (24 : Int)) == (12 : Int)) then
                            BOut.next k ((IntKind.i64.wrap (x.1 + (1 : Int))), x.2.1, x.2.2.1, x.2.2.2.1, x.2.2.2.2.1, x.2.2.2.2.2.1, x.2.2.2.2.2.2.1, x.2.2.2.2.2.2.2.1, (Sp.K3_3_9 k x))
                          else
                            bif ((Int.tmod (Sp.nthT [k.1, k.2] x.1) (24 : Int)) == (13 : Int)) then
                              BOut.next k ((IntKind.i64.wrap (x.1 + (1 : Int))), x.2.1, x.2.2.1, x.2.2.2.1, x.2.2.2.2.1, (Sp.nthT [(0 : Nat), (13830554455654793216 : Nat), (Sp.F5 ()), (Sp.F6 (1 : Int)), (4605380978949069210 : Nat), (Sp.F7 ((0 : Nat), (13830554455654793216 : Nat))), (2024 : Nat)] (Int.tmod (Sp.nthT [k.1, k.2] (IntKind.i64.wrap ((1 : Int) - x.1))) (7 : Int))), x.2.2.2.2.2.2)
                            else
                              bif ((Int.tmod (Sp.nthT [k.1, k.2] x.1) (24 : Int)) == (14 : Int)) then
                                BOut.next k ((IntKind.i64.wrap (x.1 + (1 : Int))), x.2.1, x.2.2.1, x.2.2.2.1, x.2.2.2.2.1, x.2.2.2.2.2.1, (Sp.nthT [(4591870180066957722 : Nat), (4607632778762754458 : Nat), (Sp.F5 ()), (Sp.F6 (-1 : Int)), (4611686018427387904 : Nat)] (Int.tmod (Sp.nthT [k.1, k.2] (IntKind.i64.wrap ((1 : Int) - x.1))) (5 : Int))), x.2.2.2.2.2.2.2)
                              else
                                bif ((Int.tmod (Sp.nthT [k.1, k.2] x.1) (24 : Int)) == (15 : Int)) then
                                  BOut.next k ((IntKind.i64.wrap (x.1 + (1 : Int))), x.2.1, x.2.2.1, x.2.2.2.1, x.2.2.2.2.1, x.2.2.2.2.2.1, x.2.2.2.2.2.2.1, (Sp.nthT [(4605380978949069210 : Nat), (Sp.F6 (1 : Int)), (Sp.F5 ()), (9218868437227405311 : Nat), (0 : Nat)] (Int.tmod (Sp.nthT [k.1, k.2] (IntKind.i64.wrap ((1 : Int) - x.1))) (5 : Int))), x.2.2.2.2.2.2.2.2)
                                else
                                  bif ((Int.tmod (Sp.nthT [k.1, k.2] x.1) (24 : Int)) == (16 : Int)) then
                                    BOut.next k ((IntKind.i64.wrap (x.1 + (1 : Int))), x.2.1, x.2.2.1, (IntKind.i64.wrap ((IntKind.i64.wrap ((IntKind.i64.wrap ((18 : Int) * ((x.2.2.2.2.2.2.2.2).length : Int))) + (24 : Int))) - (IntKind.i64.wrap (Int.tmod (Sp.nthT [k.1, k.2] (IntKind.i64.wrap ((1 : Int) - x.1))) (2 : Int))))), x.2.2.2.2)
                                  else
                                    bif ((Int.tmod (Sp.nthT [k.1, k.2] x.1) (24 : Int)) == (17 : Int)) then
                                      BOut.next k ((IntKind.i64.wrap (x.1 + (1 : Int))), x.2.1, x.2.2.1, (IntKind.i64.wrap ((65536 : Int) + (IntKind.i64.wrap (Int.tmod (Sp.nthT [k.1, k.2] (IntKind.i64.wrap ((1 : Int) - x.1))) (2 : Int))))), x.2.2.2.2)
                                    else
                                      bif ((Int.tmod (Sp.nthT [k.1, k.2] x.1) (24 : Int)) == (18 : Int)) then
                                        BOut.next k ((IntKind.i64.wrap (x.1 + (1 : Int))), x.2.1, x.2.2.1, x.2.2.2.1, x.2.2.2.2.1, x.2.2.2.2.2.1, x.2.2.2.2.2.2.1, x.2.2.2.2.2.2.2.1, (x.2.2.2.2.2.2.2.2 ++ (zrow ty30 (IntKind.i64.wrap (Int.tmod (Sp.nthT [k.1, k.2] (IntKind.i64.wrap ((1 : Int) - x.1))) (9 : Int))))))
                                      else
                                        bif ((Int.tmod (Sp.nthT [k.1, k.2] x.1) (24 : Int)) == (19 : Int)) then
                                          BOut.next k ((IntKind.i64.wrap (x.1 + (1 : Int))), x.2.1, x.2.2.1, x.2.2.2.1, x.2.2.2.2.1, x.2.2.2.2.2.1, x.2.2.2.2.2.2.1, x.2.2.2.2.2.2.2.1, (List.take (Int.toNat (1 : Int)) x.2.2.2.2.2.2.2.2))
                                        else
                                          BOut.next k ((IntKind.i64.wrap (x.1 + (1 : Int))), x.2))
  else
    BOut.brk k x
def G3_3 (k : (Int × Int)) (x : (Int × Int × Int × Int × Int × Nat × Nat × Nat × List (Int × Int × Int × Int × Int × Int × Int × Int × Int))) : (Int × Int × Int × Int × Int × Nat × Nat × Nat × List (Int × Int × Int × Int × Int × Int × Int × Int × Int)) := endOf st3_3 k (Nat.succ (mu3_3 k x)) x
end Go.Proofs.Ytghlpolodjlgjaa.Sp
namespace Go.Proofs.Ytghlpolodjlgjaa.Sy
def LS3_3 : LS ty4.den := mkLS ty22 (Ty.pair ty3 ty26)  [] [(5, 2)] [(8, none)] [(7, 8)] [(8, 100308, true, 30)] [] [(5, 5), (7, 7)] 0 false Sp.in3_3 Sp.st3_3 Sp.mu3_3
theorem va3_3 (k : ty22.den) (x : (Ty.pair ty3 ty26).den) : ((evCode (ctxG GmB3) (lookL []) (bodyAt (bodyOf Try.f3) [0]) (tmpl LS3_3 (enc ty22 k) (enc (Ty.pair ty3 ty26) x)) (evRound LS3_3 (evRet (ctxG GmB3) Try.f3 (Rsh.one (none)) none ty4 .ret)))).val BOut.ret (BOut.brk (Ty.dflt ty22) (Ty.dflt (Ty.pair ty3 ty26))) = Sp.st3_3 k x := by kernel_rfl
theorem se3_3 (k : ty22.den) (x : (Ty.pair ty3 ty26).den) : ((evCode (ctxG GmB3) (lookL []) (bodyAt (bodyOf Try.f3) [0]) (tmpl LS3_3 (enc ty22 k) (enc (Ty.pair ty3 ty26) x)) (evRound LS3_3 (evRet (ctxG GmB3) Try.f3 (Rsh.one (none)) none ty4 .ret)))).safe = ((((decide (x.1 < (2 : Int))) = true → ((0 ≤ (IntKind.i64.wrap ((1 : Int) - x.1)) ∧ (IntKind.i64.wrap ((1 : Int) - x.1)) < (2 : Int)) ∧ ((((x.2.2.2.2.2.2.2.2).length : Int) ≠ 0) ∧ ((0 ≤ (Int.tmod (IntKind.i64.wrap (Sp.nthT [k.1, k.2] (IntKind.i64.wrap ((1 : Int) - x.1)))) ((x.2.2.2.2.2.2.2.2).length : Int)) ∧ (Int.tmod (IntKind.i64.wrap (Sp.nthT [k.1, k.2] (IntKind.i64.wrap ((1 : Int) - x.1)))) ((x.2.2.2.2.2.2.2.2).length : Int)) < ((x.2.2.2.2.2.2.2.2).length : Int)) ∧ ((0 ≤ x.1 ∧ x.1 < (2 : Int)) ∧ (((24 : Int) ≠ 0) ∧ ((((Int.tmod (Sp.nthT [k.1, k.2] x.1) (24 : Int)) == (1 : Int)) = true → ((0 ≤ (IntKind.i64.wrap ((1 : Int) - x.1)) ∧ (IntKind.i64.wrap ((1 : Int) - x.1)) < (2 : Int)) ∧ (((40 : Int) ≠ 0) ∧ True))) ∧ (((Int.tmod (Sp.nthT [k.1, k.2] x.1) (24 : Int)) == (1 : Int)) = false → ((((Int.tmod (Sp.nthT [k.1, k.2] x.1) (24 : Int)) == (2 : Int)) = true → ((0 ≤ (IntKind.i64.wrap ((1 : Int) - x.1)) ∧ (IntKind.i64.wrap ((1 : Int) - x.1)) < (2 : Int)) ∧ (((20 : Int) ≠ 0) ∧ True))) ∧ (((Int.tmod (Sp.nthT [k.1, k.2] x.1) (24 : Int)) == (2 : Int)) = false → ((((Int.tmod (Sp.nthT [k.1, k.2] x.1) (24 : Int)) == (3 : Int)) = true → True) ∧ (((Int.tmod (Sp.nthT [k.1, k.2] x.1) (24 : Int)) == (3 : Int)) = false → ((((Int.tmod (Sp.nthT [k.1, k.2] x.1) (24 : Int)) == (4 : Int)) = true → ((0 ≤ (IntKind.i64.wrap ((1 : Int) - x.1)) ∧ (IntKind.i64.wrap ((1 : Int) - x.1)) < (2 : Int)) ∧ (((2 : Int) ≠ 0) ∧ True))) ∧ (((Int.tmod (Sp.nthT [k.1, k.2] x.1) (24 : Int)) == (4 : Int)) = false → ((((Int.tmod (Sp.nthT [k.1, k.2] x.1) (24 : Int)) == (5 : Int)) = true → ((0 ≤ (IntKind.i64.wrap ((1 : Int) - x.1)) ∧ (IntKind.i64.wrap ((1 : Int) - x.1)) < (2 : Int)) ∧ (((2 : Int) ≠ 0) ∧ True))) ∧ (((Int.tmod (Sp.nthT [k.1, k.2] x.1) (24 : Int)) == (5 : Int)) = false → ((((Int.tmod (Sp.nthT [k.1, k.2] x.1) (24 : Int)) == (6 : Int)) = true → True) ∧ (((Int.tmod (Sp.nthT [k.1, k.2] x.1) (24 : Int)) == (6 : Int)) = false → ((((Int.tmod (Sp.nthT [k.1, k.2] x.1) (24 : Int)) == (7 : Int)) = true → ((0 ≤ (IntKind.i64.wrap ((1 : Int) - x.1)) ∧ (IntKind.i64.wrap ((1 : Int) - x.1)) < (2 : Int)) ∧ (((3 : Int) ≠ 0) ∧ True))) ∧ (((Int.tmod (Sp.nthT [k.1, k.2] x.1) (24 : Int)) == (7 : Int)) = false → ((((Int.tmod (Sp.nthT [k.1, k.2] x.1) (24 : Int)) == (8 : Int)) = true → True) ∧ (((Int.tmod (Sp.nthT [k.1, k.2] x.1) (24 : Int)) == (8 : Int)) = false → ((((Int.tmod (Sp.nthT [k.1, k.2] x.1) (24 : Int)) == (9 : Int)) = true → True) ∧ (((Int.tmod (Sp.nthT [k.1, k.2] x.1) (24 : Int)) == (9 : Int)) = false → ((((Int.tmod (Sp.nthT [k.1, k.2] x.1) (24 : Int)) == (10 : Int)) = true → ((0 ≤ (IntKind.i64.wrap ((1 : Int) - x.1)) ∧ (IntKind.i64.wrap ((1 : Int) - x.1)) < (2 : Int)) ∧ (((15 : Int) ≠ 0) ∧ True))) ∧ (((Int.tmod (Sp.nthT [k.1, k.2] x.1) (24 : Int)) == (10 : Int)) = false → ((((Int.tmod (Sp.nthT [k.1, k.2] x.1) (24 : Int)) == (11 : Int)) = true → ((0 ≤ (IntKind.i64.wrap ((1 : Int) - x.1)) ∧ (IntKind.i64.wrap ((1 : Int) - x.1)) < (2 : Int)) ∧ (((5 : Int) ≠ 0) ∧ True))) ∧ (((Int.tmod (Sp.nthT [k.1, k.2] x.1) (24 : Int)) == (11 : Int)) = false → ((((Int.tmod (Sp.nthT [k.1, k.2] x.1) (24 : Int)) == (12 : Int)) = true → ((0 ≤ (IntKind.i64.wrap ((1 : Int) - x.1)) ∧ (IntKind.i64.wrap ((1 : Int) - x.1)) < (2 : Int)) ∧ (((40 : Int) ≠ 0) ∧ True))) ∧ (((Int.tmod (Sp.nthT [k.1, k.2] x.1) (24 : Int)) == (12 : Int)) = false → ((((Int.tmod (Sp.nthT [k.1, k.2] x.1) (24 : Int)) == (13 : Int)) = true → ((0 ≤ (IntKind.i64.wrap ((1 : Int) - x.1)) ∧ (IntKind.i64.wrap ((1 : Int) - x.1)) < (2 : Int)) ∧ (((7 : Int) ≠ 0) ∧ ((0 ≤ (Int.tmod (Sp.nthT [k.1, k.2] (IntKind.i64.wrap ((1 : Int) - x.1))) (7 : Int)) ∧ (Int.tmod (Sp.nthT [k.1, k.2] (IntKind.i64.wrap ((1 : Int) - x.1))) (7 : Int)) < (([(0 : Nat), (13830554455654793216 : Nat), (Sp.F5 ()), (Sp.F6 (1 : Int)), (4605380978949069210 : Nat), (Sp.F7 ((0 : Nat), (13830554455654793216 : Nat))), (2024 : Nat)]).length : Int)) ∧ True)))) ∧ (((Int.tmod (Sp.nthT [k.1, k.2] x.1) (24 : Int)) == (13 : Int)) = false → ((((Int.tmod (Sp.nthT [k.1, k.2] x.1) (24 : Int)) == (14 : Int)) = true → ((0 ≤ (IntKind.i64.wrap ((1 : Int) - x.1)) ∧ (IntKind.i64.wrap ((1 : Int) - x.1)) < (2 : Int)) ∧ (((5 : Int) ≠ 0) ∧ ((0 ≤ (Int.tmod (Sp.nthT [k.1, k.2] (IntKind.i64.wrap ((1 : Int) - x.1))) (5 : Int)) ∧ (Int.tmod (Sp.nthT [k.1, k.2] (IntKind.i64.wrap ((1 : Int) - x.1))) (5 : Int)) < (([(4591870180066957722 : Nat), (4607632778762754458 : Nat), (Sp.F5 ()), (Sp.F6 (-1 : Int)), (4611686018427387904 : Nat)]).length : Int)) ∧ True)))) ∧ (((Int.tmod (Sp.nthT [k.1, k.2] x.1) (24 : Int)) == (14 : Int)) = false → ((((Int.tmod (Sp.nthT [k.1, k.2] x.1) (24 : Int)) == (15 : Int)) = true → ((0 ≤ (IntKind.i64.wrap ((1 : Int) - x.1)) ∧ (IntKind.i64.wrap ((1 : Int) - x.1)) < (2 : Int)) ∧ (((5 : Int) ≠ 0) ∧ ((0 ≤ (Int.tmod (Sp.nthT [k.1, k.2] (IntKind.i64.wrap ((1 : Int) - x.1))) (5 : Int)) ∧ (Int.tmod (Sp.nthT [k.1, k.2] (IntKind.i64.wrap ((1 : Int) - x.1))) (5 : Int)) < (([(4605380978949069210 : Nat), (Sp.F6 (1 : Int)), (Sp.F5 ()), (9218868437227405311 : Nat), (0 : Nat)]).length : Int)) ∧ True)))) ∧ (((Int.tmod (Sp.nthT [k.1, k.2] x.1) (24 : Int)) == (15 : Int)) = false → ((((Int.tmod (Sp.nthT [k.1, k.2] x.1) (24 : Int)) == (16 : Int)) = true → ((0 ≤ (IntKind.i64.wrap ((1 : Int) - x.1)) ∧ (IntKind.i64.wrap ((1 : Int) - x.1)) < (2 : Int)) ∧ (((2 : Int) ≠ 0) ∧ True))) ∧ (((Int.tmod (Sp.nthT [k.1, k.2] x.1) (24 : Int)) == (16 : Int)) = false → ((((Int.tmod (Sp.nthT [k.1, k.2] x.1) (24 : Int)) == (17 : Int)) = true → ((0 ≤ (IntKind.i64.wrap ((1 : Int) - x.1)) ∧ (IntKind.i64.wrap ((1 : Int) - x.1)) < (2 : Int)) ∧ (((2 : Int) ≠ 0) ∧ True))) ∧ (((Int.tmod (Sp.nthT [k.1, k.2] x.1) (24 : Int)) == (17 : Int)) = false → ((((Int.tmod (Sp.nthT [k.1, k.2] x.1) (24 : Int)) == (18 : Int)) = true → ((0 ≤ (IntKind.i64.wrap ((1 : Int) - x.1)) ∧ (IntKind.i64.wrap ((1 : Int) - x.1)) < (2 : Int)) ∧ (((9 : Int) ≠ 0) ∧ ((0 ≤ (IntKind.i64.wrap (Int.tmod (Sp.nthT [k.1, k.2] (IntKind.i64.wrap ((1 : Int) - x.1))) (9 : Int))) ∧ (List.length (x.2.2.2.2.2.2.2.2 : List (Int × Int × Int × Int × Int × Int × Int × Int × Int)) + List.length ((zrow ty30 (IntKind.i64.wrap (Int.tmod (Sp.nthT [k.1, k.2] (IntKind.i64.wrap ((1 : Int) - x.1))) (9 : Int)))) : List (Int × Int × Int × Int × Int × Int × Int × Int × Int))) * 72 ≤ 140737488355328 ∧ List.length (x.2.2.2.2.2.2.2.2 : List (Int × Int × Int × Int × Int × Int × Int × Int × Int)) + List.length ((zrow ty30 (IntKind.i64.wrap (Int.tmod (Sp.nthT [k.1, k.2] (IntKind.i64.wrap ((1 : Int) - x.1))) (9 : Int)))) : List (Int × Int × Int × Int × Int × Int × Int × Int × Int)) ≤ 4611686018427387903) ∧ True)))) ∧ (((Int.tmod (Sp.nthT [k.1, k.2] x.1) (24 : Int)) == (18 : Int)) = false → ((((Int.tmod (Sp.nthT [k.1, k.2] x.1) (24 : Int)) == (19 : Int)) = true → ((0 ≤ (1 : Int) ∧ (1 : Int) ≤ ((x.2.2.2.2.2.2.2.2).length : Int)) ∧ True)) ∧ (((Int.tmod (Sp.nthT [k.1, k.2] x.1) (24 : Int)) == (19 : Int)) = false → True)))))))))))))))))))))))))))))))))))))))))))) ∧ ((decide (x.1 < (2 : Int))) = false → True))) := by kernel_rfl
set_option maxHeartbeats 4000000 in
theorem sa3_3 (k : ty22.den) (x : (Ty.pair ty3 ty26).den) (fk : Fit ty22 k) (fx : Fit (Ty.pair ty3 ty26) x) (h : Sp.in3_3 k x) : SafeW ((evCode (ctxG GmB3) (lookL []) (bodyAt (bodyOf Try.f3) [0]) (tmpl LS3_3 (enc ty22 k) (enc (Ty.pair ty3 ty26) x)) (evRound LS3_3 (evRet (ctxG GmB3) Try.f3 (Rsh.one (none)) none ty4 .ret)))) := by
  refine ⟨?_⟩
  rw [se3_3]
  try dsimp only [Ty.den] at *
  simp only [Sp.in3_3] at h
  obtain ⟨h0, k1, k2, k3, k4, l1, l2⟩ := h
  refine ⟨fun hc => ?_, fun _ => trivial⟩
  rw [decide_eq_true_eq] at hc
  have hw : IntKind.i64.wrap ((1 : Int) - x.1) = 1 - x.1 := Sp.wrap_i64_of (by omega) (by omega)
  have hv : ∀ i : Int, 0 ≤ i → i < 2 → 0 ≤ Sp.nthT [k.1, k.2] i ∧ Sp.nthT [k.1, k.2] i ≤ 255 := by
    intro i h0 h2
    have : i = 0 ∨ i = 1 := by omega
    rcases this with rfl | rfl
    · exact ⟨k1, k2⟩
    · exact ⟨k3, k4⟩
  rw [hw]
  obtain ⟨y, hg⟩ : ∃ y : Int, Sp.nthT [k.1, k.2] (1 - x.1) = y := ⟨_, rfl⟩
  have hy : (0 : Int) ≤ y ∧ y ≤ (255 : Int) := by rw [← hg]; exact hv _ (by omega) (by omega)
  rw [hg]
  have hyw : IntKind.i64.wrap y = y := Sp.wrap_i64_of (by omega) (by omega)
  rw [hyw]
  have hi : (0 : Int) ≤ (1 : Int) - x.1 ∧ (1 : Int) - x.1 < (2 : Int) := by rw [← hw]; have e : IntKind.i64.wrap ((1 : Int) - x.1) = 1 - x.1 := hw; rw [e]; exact ⟨Int.sub_nonneg_of_le (Int.le_of_lt_add_one hc), by have : (0 : Int) ≤ x.1 := h0; omega⟩
  have hx : 0 ≤ x.1 ∧ x.1 < (2 : Int) := ⟨h0, hc⟩
  have tm : ∀ n : Int, 0 < n → 0 ≤ Int.tmod y n ∧ Int.tmod y n < n := fun n hn => ⟨Int.tmod_nonneg _ hy.1, Int.tmod_lt_of_pos _ hn⟩
  have t9 := tm 9 (by decide)
  have w9 : IntKind.i64.wrap (Int.tmod y 9) = Int.tmod y 9 := Sp.wrap_i64_of (by omega) (by omega)
  rw [w9]
  have hL : (x.2.2.2.2.2.2.2.2.length : Int) ≠ 0 := by omega
  have tL := tm (x.2.2.2.2.2.2.2.2.length : Int) (by omega)
  have t7 : 0 ≤ Int.tmod y 7 ∧ Int.tmod y 7 < ((7 : Nat) : Int) := tm 7 (by decide)
  have t5 : 0 ≤ Int.tmod y 5 ∧ Int.tmod y 5 < ((5 : Nat) : Int) := tm 5 (by decide)
  have hz : ∀ e : Ty, (zrow e (Int.tmod y 9)).length ≤ 8 := fun e => by simp only [zrow, List.length_replicate]; omega
  repeat' (first | exact trivial | exact hi | exact hx | exact hL | exact tL | exact t7 | exact t5 | apply And.intro | intro _)
  all_goals first | decide | omega | (have := hz ty4; simp only [zrow, List.length_replicate] at *; omega) | trace_state
set_option maxHeartbeats 4000000 in
theorem so3_3 (k : ty22.den) (x : (Ty.pair ty3 ty26).den) (fk : Fit ty22 k) (h : Sp.in3_3 k x) : StepOk false Sp.in3_3 Sp.mu3_3 k x (Sp.st3_3 k x) := by
  try dsimp only [Ty.den] at *
  simp only [Sp.in3_3] at h
  obtain ⟨h0, k1, k2, k3, k4, l1, l2⟩ := h
  unfold Sp.st3_3
  refine StepOk.cnd (fun hc => ?_) (fun _ => rfl)
  rw [decide_eq_true_eq] at hc
  have hw : IntKind.i64.wrap ((1 : Int) - x.1) = 1 - x.1 := Sp.wrap_i64_of (by omega) (by omega)
  have hv : ∀ i : Int, 0 ≤ i → i < 2 → 0 ≤ Sp.nthT [k.1, k.2] i ∧ Sp.nthT [k.1, k.2] i ≤ 255 := by
    intro i h0 h2
    have : i = 0 ∨ i = 1 := by omega
    rcases this with rfl | rfl
    · exact ⟨k1, k2⟩
    · exact ⟨k3, k4⟩
  obtain ⟨y, hg⟩ : ∃ y : Int, Sp.nthT [k.1, k.2] (1 - x.1) = y := ⟨_, rfl⟩
  have hy : (0 : Int) ≤ y ∧ y ≤ (255 : Int) := by rw [← hg]; exact hv _ (by omega) (by omega)
  have t9 : 0 ≤ Int.tmod y 9 ∧ Int.tmod y 9 < 9 := ⟨Int.tmod_nonneg _ hy.1, Int.tmod_lt_of_pos _ (by decide)⟩
  have w9 : IntKind.i64.wrap (Int.tmod y 9) = Int.tmod y 9 := Sp.wrap_i64_of (by omega) (by omega)
  have hs : IntKind.i64.wrap (x.1 + 1) = x.1 + 1 := Sp.wrap_i64_of (by omega) (by omega)
  have key : ∀ s : Sp.BldT, 1 ≤ s.2.2.2.2.2.2.2.length → (s.2.2.2.2.2.2.2.length : Int) ≤ (x.2.2.2.2.2.2.2.2.length : Int) + 8 → StepOk (ρ := Bool) false Sp.in3_3 Sp.mu3_3 k x (BOut.next k (IntKind.i64.wrap (x.1 + 1), s)) := by
    intro s a1 a2
    refine ⟨rfl, ?_, ?_⟩
    · unfold Sp.in3_3
      simp only
      rw [hs]
      omega
    · unfold Sp.mu3_3
      simp only
      rw [hs]
      omega
  have ks : ∀ (a b c d : Int) (e f g : Nat) (l : List Sp.CarT), 1 ≤ l.length → (l.length : Int) ≤ (x.2.2.2.2.2.2.2.2.length : Int) + 8 → StepOk (ρ := Bool) false Sp.in3_3 Sp.mu3_3 k x (BOut.next k (IntKind.i64.wrap (x.1 + 1), a, b, c, d, e, f, g, l)) := fun a b c d e f g l a1 a2 => key (a, b, c, d, e, f, g, l) a1 a2
  repeat' (refine StepOk.cnd (fun _ => ?_) (fun _ => ?_))
  all_goals first
    | exact key _ (by show 1 ≤ x.2.2.2.2.2.2.2.2.length; omega) (by show (x.2.2.2.2.2.2.2.2.length : Int) ≤ _; omega)
    | (refine ks _ _ _ _ _ _ _ _ ?_ ?_ <;> (first | omega | (simp only [Sp.K3_3_1, Sp.K3_3_2, Sp.K3_3_3, Sp.K3_3_4, Sp.K3_3_5, Sp.K3_3_6, Sp.K3_3_7, Sp.K3_3_8, Sp.K3_3_9, hw, hg, w9, setE, zrow, List.length_set, List.length_append, List.length_take, List.length_replicate]; omega)))
theorem lo3_3 : LoopOk Try.prog gdS (RetAt Try.prog Try.f3 (Rsh.one (none)) none ty4) (bodyAt (bodyOf Try.f3) [0]) LS3_3 :=
  loop_run (ctxOkF gokGmB3 []) (L := lookL []) (loops_of (l := []) (by kernel_rfl) (loops_nil)) sa3_3 va3_3 so3_3
end Go.Proofs.Ytghlpolodjlgjaa.Sy
namespace Go.Proofs.Ytghlpolodjlgjaa.Sp
open Go Go.RowKit Sy
def F3 (x : Int × Int × Int × Int) : Bool :=
  (((((Sp.F8 ((Sp.G3_3 x.2.2 ((0 : Int), (Sp.F4 ((IntKind.i64.wrap ((IntKind.i64.wrap (Int.tmod x.1 (31 : Int))) + (2 : Int))), (IntKind.i64.wrap ((IntKind.i64.wrap (Int.tmod x.2.1 (8 : Int))) + (1 : Int))))))).2)) == (Sp.F9 ((Sp.G3_3 x.2.2 ((0 : Int), (Sp.F4 ((IntKind.i64.wrap ((IntKind.i64.wrap (Int.tmod x.1 (31 : Int))) + (2 : Int))), (IntKind.i64.wrap ((IntKind.i64.wrap (Int.tmod x.2.1 (8 : Int))) + (1 : Int))))))).2))) && (((Sp.F10 ((Sp.G3_3 x.2.2 ((0 : Int), (Sp.F4 ((IntKind.i64.wrap ((IntKind.i64.wrap (Int.tmod x.1 (31 : Int))) + (2 : Int))), (IntKind.i64.wrap ((IntKind.i64.wrap (Int.tmod x.2.1 (8 : Int))) + (1 : Int))))))).2)).1 == (Sp.F11 ((Sp.G3_3 x.2.2 ((0 : Int), (Sp.F4 ((IntKind.i64.wrap ((IntKind.i64.wrap (Int.tmod x.1 (31 : Int))) + (2 : Int))), (IntKind.i64.wrap ((IntKind.i64.wrap (Int.tmod x.2.1 (8 : Int))) + (1 : Int))))))).2)).1) && ((Sp.F10 ((Sp.G3_3 x.2.2 ((0 : Int), (Sp.F4 ((IntKind.i64.wrap ((IntKind.i64.wrap (Int.tmod x.1 (31 : Int))) + (2 : Int))), (IntKind.i64.wrap ((IntKind.i64.wrap (Int.tmod x.2.1 (8 : Int))) + (1 : Int))))))).2)).2 == (Sp.F11 ((Sp.G3_3 x.2.2 ((0 : Int), (Sp.F4 ((IntKind.i64.wrap ((IntKind.i64.wrap (Int.tmod x.1 (31 : Int))) + (2 : Int))), (IntKind.i64.wrap ((IntKind.i64.wrap (Int.tmod x.2.1 (8 : Int))) + (1 : Int))))))).2)).2))) && ((Sp.F12 ((Sp.G3_3 x.2.2 ((0 : Int), (Sp.F4 ((IntKind.i64.wrap ((IntKind.i64.wrap (Int.tmod x.1 (31 : Int))) + (2 : Int))), (IntKind.i64.wrap ((IntKind.i64.wrap (Int.tmod x.2.1 (8 : Int))) + (1 : Int))))))).2)) == (Sp.F13 ((Sp.G3_3 x.2.2 ((0 : Int), (Sp.F4 ((IntKind.i64.wrap ((IntKind.i64.wrap (Int.tmod x.1 (31 : Int))) + (2 : Int))), (IntKind.i64.wrap ((IntKind.i64.wrap (Int.tmod x.2.1 (8 : Int))) + (1 : Int))))))).2)))) && (Sp.F14 ()))
def pre3 (x : Int × Int × Int × Int) : Prop := 0 ≤ x.1 ∧ x.1 ≤ 255 ∧ 0 ≤ x.2.1 ∧ x.2.1 ≤ 255 ∧ 0 ≤ x.2.2.1 ∧ x.2.2.1 ≤ 255 ∧ 0 ≤ x.2.2.2 ∧ x.2.2.2 ≤ 255
end Go.Proofs.Ytghlpolodjlgjaa.Sp
namespace Go.Proofs.Ytghlpolodjlgjaa.Sy
def ct3 : Ct := { p := (Ty.pair ty5 (Ty.pair ty5 ty22)), psh := [none, none, some 2], r := ty4, rsh := (Rsh.one (none)), pre := some Sp.pre3, fresh := none, F := Sp.F3 }
theorem va3 (x : (Ty.pair ty5 (Ty.pair ty5 ty22)).den) : ((evFn (ctxG GmB3) Try.f3 (Ty.pair ty5 (Ty.pair ty5 ty22)) [none, none, some 2] (Rsh.one (none)) none ty4 (lookL [(3, LS3_3)]) x)).val (fun y => y) (Ty.dflt ty4) = Sp.F3 x := by kernel_rfl
theorem se3 (x : (Ty.pair ty5 (Ty.pair ty5 ty22)).den) : ((evFn (ctxG GmB3) Try.f3 (Ty.pair ty5 (Ty.pair ty5 ty22)) [none, none, some 2] (Rsh.one (none)) none ty4 (lookL [(3, LS3_3)]) x)).safe = ((((31 : Int) ≠ 0) ∧ (((8 : Int) ≠ 0) ∧ ((Sp.pre4 ((IntKind.i64.wrap ((IntKind.i64.wrap (Int.tmod x.1 (31 : Int))) + (2 : Int))), (IntKind.i64.wrap ((IntKind.i64.wrap (Int.tmod x.2.1 (8 : Int))) + (1 : Int))))) ∧ ((Sp.in3_3 x.2.2 ((0 : Int), (Sp.F4 ((IntKind.i64.wrap ((IntKind.i64.wrap (Int.tmod x.1 (31 : Int))) + (2 : Int))), (IntKind.i64.wrap ((IntKind.i64.wrap (Int.tmod x.2.1 (8 : Int))) + (1 : Int))))))) ∧ True))))) := by kernel_rfl
theorem sa3 (x : (Ty.pair ty5 (Ty.pair ty5 ty22)).den) (fx : Fit (Ty.pair ty5 (Ty.pair ty5 ty22)) x) (h : Sp.pre3 x) : SafeW ((evFn (ctxG GmB3) Try.f3 (Ty.pair ty5 (Ty.pair ty5 ty22)) [none, none, some 2] (Rsh.one (none)) none ty4 (lookL [(3, LS3_3)]) x)) := by
  refine ⟨?_⟩
  rw [se3]
  try dsimp only [Ty.den] at *
  simp only [Sp.pre3] at h
  have t31 : 0 ≤ Int.tmod x.1 31 ∧ Int.tmod x.1 31 < 31 := ⟨Int.tmod_nonneg _ (by omega), Int.tmod_lt_of_pos _ (by decide)⟩
  have t8 : 0 ≤ Int.tmod x.2.1 8 ∧ Int.tmod x.2.1 8 < 8 := ⟨Int.tmod_nonneg _ (by omega), Int.tmod_lt_of_pos _ (by decide)⟩
  rw [Sp.wrap_i64_of (x := Int.tmod x.1 31) (by omega) (by omega), Sp.wrap_i64_of (x := Int.tmod x.2.1 8) (by omega) (by omega), Sp.wrap_i64_of (x := Int.tmod x.1 31 + 2) (by omega) (by omega), Sp.wrap_i64_of (x := Int.tmod x.2.1 8 + 1) (by omega) (by omega)]
  obtain ⟨n, hn⟩ : ∃ n : Nat, Int.tmod x.2.1 8 + 1 = (n : Int) := ⟨(Int.tmod x.2.1 8 + 1).toNat, by omega⟩
  rw [hn]
  have hs : Sp.F4 (Int.tmod x.1 31 + 2, (n : Int)) = Sp.sampleB (Int.tmod x.1 31 + 2) n := Sp.sample_eq _ n (by omega) (by omega)
  rw [hs]
  have hlen : (Sp.sampleB (Int.tmod x.1 31 + 2) n).2.2.2.2.2.2.2.length = n := Sp.sample_len _ n
  generalize Sp.sampleB (Int.tmod x.1 31 + 2) n = sb at hlen ⊢
  refine ⟨by decide, by decide, ?_, ?_, trivial⟩
  · show _ ∧ _ ∧ _; simp only; omega
  · show _ ∧ _ ∧ _ ∧ _ ∧ _ ∧ _ ∧ _
    simp only [hlen]
    omega
theorem ok3 : CtOk Try.prog gdS 3 ct3 :=
  fn_okU (ctxOkF gokGmB3 []) rfl Try.func3 (p := (Ty.pair ty5 (Ty.pair ty5 ty22))) (psh := [none, none, some 2]) (r := ty4) (rsh := (Rsh.one (none))) (pre := some Sp.pre3) (fresh := none) (F := Sp.F3) (L := (lookL [(3, LS3_3)])) (c := bodyOf Try.f3) (dflt := Ty.dflt ty4) rfl (loops_of (l := [bodyAt (bodyOf Try.f3) [0]]) (by kernel_rfl) (loops_cons (s0 := LS3_3) (by kernel_rfl) lo3_3 (loops_nil)))
    (safe_pre @sa3) va3
def GmB4 : List (Nat × Ct) := (3, ct3) :: GmB3
theorem gokGmB4 : GOk GmB4 := gok_cons ok3 ⟨_, Try.func3, by kernel_rfl, by kernel_rfl⟩ (gokGmB3)
end Go.Proofs.Ytghlpolodjlgjaa.Sy
