/- A door that is played ends: its rounds (own work). -/
import Derived.Test.YtkanaakceokifaaDe
namespace Go.Proofs.Ytkanaakceokifaa.Sp
open Go Sy
set_option linter.unusedVariables false
set_option linter.unusedSimpArgs false
def dirB (cmd : Int) : Int := bif ((cmd == 4) || (cmd == 5)) then 2 else bif cmd == 3 then 1 else 0
def nOf (l : List Int) (i : Int) : Int := bif decide ((l.length : Int) > 0) then nthT l (Int.tmod i (l.length : Int)) else 0
def row0B (d last row : Int) : Int := bif d != last then 0 else row
def rowB (d last row : Int) : Int := bif d != 0 then IntKind.i64.wrap (row0B d last row + 1) else row0B d last row
def placeB (d r place T n : Int) : Int :=
  bif d != 0 then (bif place != nthT [(0 : Int), 1, 2] d then (bif (decide (r ≥ T) || (Int.tmod n 4 == 0)) then nthT [(0 : Int), 1, 2] d else 0) else place) else place
abbrev KD := List Int × CarD
abbrev XD := Int × Int × Int × Int × Int × DsT
def coreB (k : KD) (i pl row d : Int) (q : DsT × Int) : BOut KD XD Bool :=
  bif F26 (k.2, q.1) then BOut.ret false
  else bif q.1.1 == 0 then
    BOut.ret (((q.1.1 == (0 : Int)) && ((q.1.2.1 == (0 : Int)) && ((q.1.2.2.1 == (0 : Int)) && ((q.1.2.2.2.1 == false) && (q.1.2.2.2.2 == (0 : Int)))))) && (q.2 == (0 : Int)) && F23 ())
  else BOut.next k (q.2, pl, row, d, IntKind.i64.wrap (i + 1), q.1)
def bndB (k : KD) : Int := IntKind.i64.wrap (IntKind.i64.wrap (IntKind.i64.wrap (2 * k.2.2.2.2.2.2.1) + k.2.2.2.2.2.2.2.2.1) + 2)
def finB (k : KD) (x : XD) (n d pl row : Int) : BOut KD XD Bool :=
  coreB k x.2.2.2.2.1 pl row d (F24 (k.2, x.2.2.2.2.2, pl, (Int.tmod n 3 == 1), false))
def cpsB (k : KD) (x : XD) (n d row0 : Int) : BOut KD XD Bool :=
  bif d != 0 then
    (bif x.2.1 != nthT [(0 : Int), 1, 2] d then
      (bif (decide (IntKind.i64.wrap (row0 + 1) ≥ k.2.2.2.2.2.2.1) || (Int.tmod n 4 == 0)) then finB k x n d (nthT [(0 : Int), 1, 2] d) (IntKind.i64.wrap (row0 + 1))
      else finB k x n d 0 (IntKind.i64.wrap (row0 + 1)))
    else finB k x n d x.2.1 (IntKind.i64.wrap (row0 + 1)))
  else finB k x n d x.2.1 row0
def est2 (k : KD) (x : XD) (n d : Int) : BOut KD XD Bool :=
  bif d != x.2.2.2.1 then cpsB k x n d 0 else cpsB k x n d x.2.2.1
theorem st_est (k : KD) (x : XD) : st8_8 k x = bif decide (x.2.2.2.2.1 ≤ bndB k) then est2 k x (nOf k.1 x.2.2.2.2.1) (dirB x.1) else BOut.brk k x := by
  unfold st8_8
  show (bif decide (x.2.2.2.2.1 ≤ bndB k) then _ else _) = _
  cases decide (x.2.2.2.2.1 ≤ bndB k) with
  | false => rfl
  | true =>
    simp only [cond_true, dirB, nOf]
    cases decide ((k.1.length : Int) > 0) <;> cases x.1 == 3 <;> cases ((x.1 == 4) || (x.1 == 5)) <;> rfl
theorem est2_eq (k : KD) (x : XD) (n d : Int) : est2 k x n d = finB k x n d (placeB d (rowB d x.2.2.2.1 x.2.2.1) x.2.1 k.2.2.2.2.2.2.1 n) (rowB d x.2.2.2.1 x.2.2.1) := by
  unfold est2 cpsB placeB rowB row0B
  cases d != x.2.2.2.1 <;> cases d != 0 <;> simp only [cond_true, cond_false] <;> cases x.2.1 != nthT [(0 : Int), 1, 2] d <;> simp only [cond_true, cond_false]
  · cases (decide (IntKind.i64.wrap (x.2.2.1 + 1) ≥ k.2.2.2.2.2.2.1) || (Int.tmod n 4 == 0)) <;> rfl
  · cases (decide (IntKind.i64.wrap (0 + 1) ≥ k.2.2.2.2.2.2.1) || (Int.tmod n 4 == 0)) <;> rfl
end Go.Proofs.Ytkanaakceokifaa.Sp
