/- Own texts joined by pk.py. -/
import Derived.Test.YtbnihoioblmgkaaJ664240cf
section
/- Contracts of functions, by the evaluator (own program gen.py): overlayref03.Size, overlayref02.Sum16, overlayref03.value, overlayref03.bit, overlayref01.IsCall, overlayref03.in, overlayref03.floors, overlayref03.num, math.Inf, overlayref03.SameIn, overlaylaw03.Fitted, overlaylaw03.outputs, overlayref03.SameOut. -/
set_option linter.unusedVariables false
set_option linter.unusedSimpArgs false
set_option maxRecDepth 100000
namespace Go.Proofs.Ytbnihoioblmgkaa.Sp
open Go Go.RowKit Sy
def F15 (x : BldT) : Int × Int :=
  bif ((Sp.F40 x) != (0 : Int)) then
    ((0 : Int), (0 : Int))
  else
    ((IntKind.i64.wrap ((14 : Int) + (IntKind.i64.wrap ((19 : Int) * ((x.2.2.2.2.2.2.2).length : Int))))), (IntKind.i64.wrap ((23 : Int) + (IntKind.i64.wrap ((19 : Int) * ((x.2.2.2.2.2.2.2).length : Int))))))
def in41_7 (k : (Unit)) (x : (Int × Int)) : Prop := (0 : Int) ≤ x.2
def mu41_7 (k : (Unit)) (x : (Int × Int)) : Nat := ((8 : Int) - x.2).toNat
def st41_7 (k : (Unit)) (x : (Int × Int)) : BOut (Unit) (Int × Int) (Int) :=
  bif (decide (x.2 < (8 : Int))) then
    (bif (decide (x.1 ≥ (32768 : Int))) then
      BOut.next () ((IntKind.i64.wrap ((BitVec.ofInt IntKind.i64.bits (Int.tmod (IntKind.i64.wrap (x.1 * (2 : Int))) (65536 : Int)) ^^^ BitVec.ofInt IntKind.i64.bits (4129 : Int)).toNat : Int)), (IntKind.i64.wrap (x.2 + (1 : Int))))
    else
      BOut.next () ((Int.tmod (IntKind.i64.wrap (x.1 * (2 : Int))) (65536 : Int)), (IntKind.i64.wrap (x.2 + (1 : Int)))))
  else
    BOut.brk () x
def G41_7 (k : (Unit)) (x : (Int × Int)) : (Int × Int) := endOf st41_7 k (Nat.succ (mu41_7 k x)) x
def in41_3 (k : (ByteArray)) (x : (Int × Int)) : Prop := (0 : Int) ≤ x.2 ∧ k.size ≤ 100000
def mu41_3 (k : (ByteArray)) (x : (Int × Int)) : Nat := (((k).size : Int) - x.2).toNat
def st41_3 (k : (ByteArray)) (x : (Int × Int)) : BOut (ByteArray) (Int × Int) (Int) :=
  bif (decide (x.2 < ((k).size : Int))) then
    BOut.next k ((Sp.G41_7 () ((IntKind.i64.wrap ((BitVec.ofInt IntKind.i64.bits x.1 ^^^ BitVec.ofInt IntKind.i64.bits (IntKind.i64.wrap ((IntKind.i64.wrap (strAt k x.2)) * (256 : Int)))).toNat : Int)), (0 : Int))).1, (IntKind.i64.wrap (x.2 + (1 : Int))))
  else
    BOut.brk k x
def G41_3 (k : (ByteArray)) (x : (Int × Int)) : (Int × Int) := endOf st41_3 k (Nat.succ (mu41_3 k x)) x
def F41 (x : ByteArray) : Int :=
  (IntKind.u16.wrap ((Sp.G41_3 x ((65535 : Int), (0 : Int))).1))
def pre41 (x : ByteArray) : Prop := x.size ≤ 100000
def in45_3 (k : (ByteArray × Int × Int)) (x : (Int × Int)) : Prop := (0 : Int) ≤ x.2 ∧ 0 ≤ k.2.1 ∧ 0 ≤ k.2.2 ∧ k.2.2 ≤ 8 ∧ k.2.1 + k.2.2 ≤ (k.1.size : Int) ∧ k.1.size ≤ 99000
def mu45_3 (k : (ByteArray × Int × Int)) (x : (Int × Int)) : Nat := (k.2.2 - x.2).toNat
def st45_3 (k : (ByteArray × Int × Int)) (x : (Int × Int)) : BOut (ByteArray × Int × Int) (Int × Int) (Int) :=
  bif (decide (x.2 < k.2.2)) then
    BOut.next k ((IntKind.u64.wrap ((BitVec.ofInt IntKind.u64.bits x.1 ||| BitVec.ofInt IntKind.u64.bits (IntKind.u64.wrap ((IntKind.u64.wrap (strAt k.1 (IntKind.i64.wrap (k.2.1 + x.2)))) * 2 ^ (min ((IntKind.u64.wrap (IntKind.i64.wrap ((8 : Int) * x.2)))).toNat IntKind.u64.bits)))).toNat : Int)), (IntKind.i64.wrap (x.2 + (1 : Int))))
  else
    BOut.brk k x
def G45_3 (k : (ByteArray × Int × Int)) (x : (Int × Int)) : (Int × Int) := endOf st45_3 k (Nat.succ (mu45_3 k x)) x
def F45 (x : ByteArray × Int × Int) : Int :=
  (Sp.G45_3 x ((0 : Int), (0 : Int))).1
def pre45 (x : ByteArray × Int × Int) : Prop := 0 ≤ x.2.1 ∧ 0 ≤ x.2.2 ∧ x.2.2 ≤ 8 ∧ x.2.1 + x.2.2 ≤ (x.1.size : Int) ∧ x.1.size ≤ 99000
def F46 (x : ByteArray × Int × Int) : Bool :=
  ((IntKind.u8.wrap ((BitVec.ofInt IntKind.u8.bits (Int.fdiv (strAt x.1 x.2.1) (2 ^ (min ((IntKind.u64.wrap x.2.2)).toNat IntKind.u8.bits))) &&& BitVec.ofInt IntKind.u8.bits (1 : Int)).toNat : Int)) == (1 : Int))
def pre46 (x : ByteArray × Int × Int) : Prop := 0 ≤ x.2.1 ∧ x.2.1 < (x.1.size : Int) ∧ 0 ≤ x.2.2
def F73 (x : (BldT) × Int × Int) : Bool :=
  bif ((Sp.F40 x.1) != (0 : Int)) then
    false
  else
    (((x.2.2 == (1 : Int)) && (Sp.F68 (x.2.1, (0 : Int), (IntKind.i64.wrap (x.1.1 - (2 : Int)))))) || ((x.2.2 == (2 : Int)) && (Sp.F68 (x.2.1, (1 : Int), (IntKind.i64.wrap (x.1.1 - (1 : Int)))))))
def F58 (x : Int × Int × Int) : Bool :=
  ((decide (x.1 ≥ x.2.1)) && (decide (x.1 ≤ x.2.2)))
def F59 (x : (BldT) × Int) : Bool :=
  ((Int.fdiv (IntKind.u64.wrap x.2) (2 ^ (min ((IntKind.u64.wrap x.1.1)).toNat IntKind.u64.bits))) == (0 : Int))
def in35_3 (k : (Int × Int)) (x : ((List Int) × Int)) : Prop := (0 : Int) ≤ x.2 ∧ (x.1.length : Int) = k.2 ∧ k.2 ≤ 8
def mu35_3 (k : (Int × Int)) (x : ((List Int) × Int)) : Nat := (k.2 - x.2).toNat
def st35_3 (k : (Int × Int)) (x : ((List Int) × Int)) : BOut (Int × Int) ((List Int) × Int) (ByteArray) :=
  bif (decide (x.2 < k.2)) then
    BOut.next k ((setE ty5 x.1 x.2 (IntKind.u8.wrap (Int.fdiv k.1 (2 ^ (min ((IntKind.u64.wrap (IntKind.i64.wrap ((8 : Int) * x.2)))).toNat IntKind.u64.bits))))), (IntKind.i64.wrap (x.2 + (1 : Int))))
  else
    BOut.brk k x
def G35_3 (k : (Int × Int)) (x : ((List Int) × Int)) : ((List Int) × Int) := endOf st35_3 k (Nat.succ (mu35_3 k x)) x
def F35 (x : Int × Int) : ByteArray :=
  (bts ((Sp.G35_3 x ((zrow ty5 x.2), (0 : Int))).1))
def pre35 (x : Int × Int) : Prop := 0 ≤ x.2 ∧ x.2 ≤ 8
def F26 (x : Int) : Nat :=
  bif (decide (x ≥ (0 : Int))) then
    (Int.toNat (9218868437227405312 : Int))
  else
    (Int.toNat (18442240474082181120 : Int))
def in14_4 (k : ((InT) × InT)) (x : (Int)) : Prop := (0 : Int) ≤ x ∧ k.1.2.2.length = k.2.2.2.length
def mu14_4 (k : ((InT) × InT)) (x : (Int)) : Nat := (((k.1.2.2).length : Int) - x).toNat
def st14_4 (k : ((InT) × InT)) (x : (Int)) : BOut ((InT) × InT) (Int) (Bool) :=
  bif (decide (x < ((k.1.2.2).length : Int))) then
    (bif ((((!(((Sp.nthT k.1.2.2 x).1.1 == (Sp.nthT k.2.2.2 x).1.1) && (((Sp.nthT k.1.2.2 x).1.2.1 == (Sp.nthT k.2.2.2 x).1.2.1) && (((Sp.nthT k.1.2.2 x).1.2.2.1 == (Sp.nthT k.2.2.2 x).1.2.2.1) && (((Sp.nthT k.1.2.2 x).1.2.2.2.1 == (Sp.nthT k.2.2.2 x).1.2.2.2.1) && ((Sp.nthT k.1.2.2 x).1.2.2.2.2 == (Sp.nthT k.2.2.2 x).1.2.2.2.2)))))) || (!(((Sp.nthT k.1.2.2 x).2.1.1 == (Sp.nthT k.2.2.2 x).2.1.1) && (((Sp.nthT k.1.2.2 x).2.1.2.1 == (Sp.nthT k.2.2.2 x).2.1.2.1) && (((Sp.nthT k.1.2.2 x).2.1.2.2.1 == (Sp.nthT k.2.2.2 x).2.1.2.2.1) && ((Sp.nthT k.1.2.2 x).2.1.2.2.2 == (Sp.nthT k.2.2.2 x).2.1.2.2.2)))))) || ((Sp.nthT k.1.2.2 x).2.2.1 != (Sp.nthT k.2.2.2 x).2.2.1)) || ((((Sp.nthT k.1.2.2 x).2.2.2 : Nat) : Int) != (((Sp.nthT k.2.2.2 x).2.2.2 : Nat) : Int))) then
      BOut.ret false
    else
      BOut.next k (IntKind.i64.wrap (x + (1 : Int))))
  else
    BOut.brk k x
def G14_4 (k : ((InT) × InT)) (x : (Int)) : (Int) := endOf st14_4 k (Nat.succ (mu14_4 k x)) x
def R14_4 (k : ((InT) × InT)) (x : (Int)) : Option (Bool) := retOf st14_4 k (Nat.succ (mu14_4 k x)) x
def F14 (x : (InT) × InT) : Bool :=
  bif (((!((x.1.1.1 == x.2.1.1) && (x.1.1.2 == x.2.1.2))) || (!((x.1.2.1.1 == x.2.2.1.1) && (x.1.2.1.2 == x.2.2.1.2)))) || (((x.1.2.2).length : Int) != ((x.2.2.2).length : Int))) then
    false
  else
    Sp.optR (Sp.R14_4 x (0 : Int)) (fun y => y)
    (true)
def in10_9 (k : (Int × BldT)) (x : ((List (CarIn)) × Int)) : Prop := (0 : Int) ≤ x.2 ∧ x.1.length ≤ 8 ∧ 2 ≤ k.2.1 ∧ k.2.1 ≤ 32
def mu10_9 (k : (Int × BldT)) (x : ((List (CarIn)) × Int)) : Nat := (((x.1).length : Int) - x.2).toNat
def K10_9_1 (k : (Int × BldT)) (x : ((List (CarIn)) × Int)) :=
  (setE ty71 (setE ty71 x.1 x.2 (((IntKind.u32.wrap ((BitVec.ofInt IntKind.u32.bits ((Sp.nthT x.1 x.2).1.1) &&& BitVec.ofInt IntKind.u32.bits k.1).toNat : Int)), (Sp.nthT x.1 x.2).1.2), (Sp.nthT x.1 x.2).2)) x.2 ((Sp.nthT (setE ty71 x.1 x.2 (((IntKind.u32.wrap ((BitVec.ofInt IntKind.u32.bits ((Sp.nthT x.1 x.2).1.1) &&& BitVec.ofInt IntKind.u32.bits k.1).toNat : Int)), (Sp.nthT x.1 x.2).1.2), (Sp.nthT x.1 x.2).2)) x.2).1, (Sp.nthT (setE ty71 x.1 x.2 (((IntKind.u32.wrap ((BitVec.ofInt IntKind.u32.bits ((Sp.nthT x.1 x.2).1.1) &&& BitVec.ofInt IntKind.u32.bits k.1).toNat : Int)), (Sp.nthT x.1 x.2).1.2), (Sp.nthT x.1 x.2).2)) x.2).2.1, (IntKind.u32.wrap ((BitVec.ofInt IntKind.u32.bits ((Sp.nthT x.1 x.2).2.2.1) &&& BitVec.ofInt IntKind.u32.bits k.1).toNat : Int)), (Sp.nthT (setE ty71 x.1 x.2 (((IntKind.u32.wrap ((BitVec.ofInt IntKind.u32.bits ((Sp.nthT x.1 x.2).1.1) &&& BitVec.ofInt IntKind.u32.bits k.1).toNat : Int)), (Sp.nthT x.1 x.2).1.2), (Sp.nthT x.1 x.2).2)) x.2).2.2.2))
def K10_9_2 (k : (Int × BldT)) (x : ((List (CarIn)) × Int)) :=
  (setE ty71 (Sp.K10_9_1 k x) x.2 ((Sp.nthT (Sp.K10_9_1 k x) x.2).1, ((IntKind.i64.wrap (Int.tmod (IntKind.u64.wrap ((Sp.nthT (Sp.K10_9_1 k x) x.2).2.1.1)) (IntKind.u64.wrap k.2.1))), (Sp.nthT (Sp.K10_9_1 k x) x.2).2.1.2), (Sp.nthT (Sp.K10_9_1 k x) x.2).2.2))
def K10_9_3 (k : (Int × BldT)) (x : ((List (CarIn)) × Int)) :=
  (setE ty71 (Sp.K10_9_2 k x) x.2 ((Sp.nthT (Sp.K10_9_2 k x) x.2).1, ((Sp.nthT (Sp.K10_9_2 k x) x.2).2.1.1, (Sp.nthT (Sp.K10_9_2 k x) x.2).2.1.2.1, (IntKind.i64.wrap (Int.tmod (IntKind.u64.wrap ((Sp.nthT (Sp.K10_9_1 k x) x.2).2.1.2.2.1)) (3 : Int))), (Sp.nthT (Sp.K10_9_2 k x) x.2).2.1.2.2.2), (Sp.nthT (Sp.K10_9_2 k x) x.2).2.2))
def st10_9 (k : (Int × BldT)) (x : ((List (CarIn)) × Int)) : BOut (Int × BldT) ((List (CarIn)) × Int) (InT) :=
  bif (decide (x.2 < ((x.1).length : Int))) then
    BOut.next k ((Sp.K10_9_3 k x), (IntKind.i64.wrap (x.2 + (1 : Int))))
  else
    BOut.brk k x
def G10_9 (k : (Int × BldT)) (x : ((List (CarIn)) × Int)) : ((List (CarIn)) × Int) := endOf st10_9 k (Nat.succ (mu10_9 k x)) x
def F10 (x : (BldT) × InT) : InT :=
  bif ((IntKind.i64.wrap (Int.tmod (IntKind.u64.wrap x.2.2.1.1) (9 : Int))) == (0 : Int)) then
    (((IntKind.u32.wrap ((BitVec.ofInt IntKind.u32.bits (IntKind.u32.wrap ((BitVec.ofInt IntKind.u32.bits x.2.1.1 &&& BitVec.ofInt IntKind.u32.bits (IntKind.u32.wrap ((IntKind.u32.wrap ((1 : Int) * 2 ^ (min ((IntKind.u64.wrap x.1.1)).toNat IntKind.u32.bits))) - (1 : Int)))).toNat : Int)) &&& BitVec.ofInt IntKind.u32.bits (Int.fdiv (IntKind.u32.wrap ((IntKind.u32.wrap ((1 : Int) * 2 ^ (min ((IntKind.u64.wrap x.1.1)).toNat IntKind.u32.bits))) - (1 : Int))) (2 ^ (min ((1 : Int)).toNat IntKind.u32.bits)))).toNat : Int)), (IntKind.u32.wrap ((BitVec.ofInt IntKind.u32.bits (IntKind.u32.wrap ((BitVec.ofInt IntKind.u32.bits x.2.1.2 &&& BitVec.ofInt IntKind.u32.bits (IntKind.u32.wrap ((IntKind.u32.wrap ((1 : Int) * 2 ^ (min ((IntKind.u64.wrap x.1.1)).toNat IntKind.u32.bits))) - (1 : Int)))).toNat : Int)) &&& ~~~ BitVec.ofInt IntKind.u32.bits (1 : Int)).toNat : Int))), ((IntKind.i64.wrap (Int.tmod (IntKind.u64.wrap x.2.2.1.1) (9 : Int))), (0 : Int)), (Sp.G10_9 ((IntKind.u32.wrap ((IntKind.u32.wrap ((1 : Int) * 2 ^ (min ((IntKind.u64.wrap x.1.1)).toNat IntKind.u32.bits))) - (1 : Int))), x.1) ((copyL (zrow ty71 ((x.1.2.2.2.2.2.2.2).length : Int)) x.2.2.2), (0 : Int))).1)
  else
    (((IntKind.u32.wrap ((BitVec.ofInt IntKind.u32.bits (IntKind.u32.wrap ((BitVec.ofInt IntKind.u32.bits x.2.1.1 &&& BitVec.ofInt IntKind.u32.bits (IntKind.u32.wrap ((IntKind.u32.wrap ((1 : Int) * 2 ^ (min ((IntKind.u64.wrap x.1.1)).toNat IntKind.u32.bits))) - (1 : Int)))).toNat : Int)) &&& BitVec.ofInt IntKind.u32.bits (Int.fdiv (IntKind.u32.wrap ((IntKind.u32.wrap ((1 : Int) * 2 ^ (min ((IntKind.u64.wrap x.1.1)).toNat IntKind.u32.bits))) - (1 : Int))) (2 ^ (min ((1 : Int)).toNat IntKind.u32.bits)))).toNat : Int)), (IntKind.u32.wrap ((BitVec.ofInt IntKind.u32.bits (IntKind.u32.wrap ((BitVec.ofInt IntKind.u32.bits x.2.1.2 &&& BitVec.ofInt IntKind.u32.bits (IntKind.u32.wrap ((IntKind.u32.wrap ((1 : Int) * 2 ^ (min ((IntKind.u64.wrap x.1.1)).toNat IntKind.u32.bits))) - (1 : Int)))).toNat : Int)) &&& ~~~ BitVec.ofInt IntKind.u32.bits (1 : Int)).toNat : Int))), ((IntKind.i64.wrap (Int.tmod (IntKind.u64.wrap x.2.2.1.1) (9 : Int))), (IntKind.i64.wrap (Int.tmod (IntKind.u64.wrap x.2.2.1.2) (IntKind.u64.wrap ((x.1.2.2.2.2.2.2.2).length : Int))))), (Sp.G10_9 ((IntKind.u32.wrap ((IntKind.u32.wrap ((1 : Int) * 2 ^ (min ((IntKind.u64.wrap x.1.1)).toNat IntKind.u32.bits))) - (1 : Int))), x.1) ((copyL (zrow ty71 ((x.1.2.2.2.2.2.2.2).length : Int)) x.2.2.2), (0 : Int))).1)
def pre10 (x : (BldT) × InT) : Prop := 2 ≤ x.1.1 ∧ x.1.1 ≤ 32 ∧ 1 ≤ x.1.2.2.2.2.2.2.2.length ∧ x.1.2.2.2.2.2.2.2.length ≤ 8
def in18_8 (k : (Int × Int)) (x : ((List (CarOut)) × Int)) : Prop := (0 : Int) ≤ x.2 ∧ x.1.length ≤ 8
def mu18_8 (k : (Int × Int)) (x : ((List (CarOut)) × Int)) : Nat := (((x.1).length : Int) - x.2).toNat
def K18_8_1 (k : (Int × Int)) (x : ((List (CarOut)) × Int)) :=
  (setE ty95 x.1 x.2 ((((IntKind.u32.wrap ((BitVec.ofInt IntKind.u32.bits ((Sp.nthT x.1 x.2).1.1.1) &&& BitVec.ofInt IntKind.u32.bits k.1).toNat : Int)), (IntKind.u32.wrap ((BitVec.ofInt IntKind.u32.bits ((Sp.nthT x.1 x.2).1.1.2) &&& BitVec.ofInt IntKind.u32.bits k.2).toNat : Int))), (Sp.nthT x.1 x.2).1.2), (Sp.nthT x.1 x.2).2))
def K18_8_2 (k : (Int × Int)) (x : ((List (CarOut)) × Int)) :=
  (setE ty95 (Sp.K18_8_1 k x) x.2 ((Sp.nthT (Sp.K18_8_1 k x) x.2).1, ((IntKind.u32.wrap ((BitVec.ofInt IntKind.u32.bits ((Sp.nthT (Sp.K18_8_1 k x) x.2).2.1.1) &&& BitVec.ofInt IntKind.u32.bits k.1).toNat : Int)), (IntKind.u32.wrap ((BitVec.ofInt IntKind.u32.bits ((Sp.nthT (Sp.K18_8_1 k x) x.2).2.1.2) &&& BitVec.ofInt IntKind.u32.bits k.2).toNat : Int))), (Sp.nthT (Sp.K18_8_1 k x) x.2).2.2))
def K18_8_3 (k : (Int × Int)) (x : ((List (CarOut)) × Int)) :=
  (setE ty95 (Sp.K18_8_2 k x) x.2 ((Sp.nthT (Sp.K18_8_2 k x) x.2).1, (Sp.nthT (Sp.K18_8_2 k x) x.2).2.1, (Sp.nthT (Sp.K18_8_2 k x) x.2).2.2.1, (IntKind.i64.wrap (Int.tmod (IntKind.u64.wrap ((Sp.nthT (Sp.K18_8_2 k x) x.2).2.2.2.1)) (6 : Int))), (Sp.nthT (Sp.K18_8_2 k x) x.2).2.2.2.2))
def K18_8_4 (k : (Int × Int)) (x : ((List (CarOut)) × Int)) :=
  (setE ty95 (Sp.K18_8_3 k x) x.2 ((Sp.nthT (Sp.K18_8_3 k x) x.2).1, (Sp.nthT (Sp.K18_8_3 k x) x.2).2.1, (Sp.nthT (Sp.K18_8_3 k x) x.2).2.2.1, (Sp.nthT (Sp.K18_8_3 k x) x.2).2.2.2.1, (IntKind.i64.wrap (Int.tmod (IntKind.u64.wrap ((Sp.nthT (Sp.K18_8_2 k x) x.2).2.2.2.2.1)) (5 : Int))), (Sp.nthT (Sp.K18_8_3 k x) x.2).2.2.2.2.2))
def st18_8 (k : (Int × Int)) (x : ((List (CarOut)) × Int)) : BOut (Int × Int) ((List (CarOut)) × Int) (OutT) :=
  bif (decide (x.2 < ((x.1).length : Int))) then
    BOut.next k ((Sp.K18_8_4 k x), (IntKind.i64.wrap (x.2 + (1 : Int))))
  else
    BOut.brk k x
def G18_8 (k : (Int × Int)) (x : ((List (CarOut)) × Int)) : ((List (CarOut)) × Int) := endOf st18_8 k (Nat.succ (mu18_8 k x)) x
def K18_1 (x : (BldT) × OutT) :=
  (Sp.G18_8 ((Int.fdiv (IntKind.u32.wrap ((IntKind.u32.wrap ((1 : Int) * 2 ^ (min ((IntKind.u64.wrap x.1.1)).toNat IntKind.u32.bits))) - (1 : Int))) (2 ^ (min ((1 : Int)).toNat IntKind.u32.bits))), (IntKind.u32.wrap ((BitVec.ofInt IntKind.u32.bits (IntKind.u32.wrap ((IntKind.u32.wrap ((1 : Int) * 2 ^ (min ((IntKind.u64.wrap x.1.1)).toNat IntKind.u32.bits))) - (1 : Int))) &&& ~~~ BitVec.ofInt IntKind.u32.bits (1 : Int)).toNat : Int))) ((copyL (zrow ty95 ((x.1.2.2.2.2.2.2.2).length : Int)) x.2.2.2.2.2.2), (0 : Int)))
def F18 (x : (BldT) × OutT) : OutT :=
  (((IntKind.u32.wrap ((BitVec.ofInt IntKind.u32.bits x.2.1.1 &&& BitVec.ofInt IntKind.u32.bits (Int.fdiv (IntKind.u32.wrap ((IntKind.u32.wrap ((1 : Int) * 2 ^ (min ((IntKind.u64.wrap x.1.1)).toNat IntKind.u32.bits))) - (1 : Int))) (2 ^ (min ((1 : Int)).toNat IntKind.u32.bits)))).toNat : Int)), (IntKind.u32.wrap ((BitVec.ofInt IntKind.u32.bits x.2.1.2 &&& BitVec.ofInt IntKind.u32.bits (IntKind.u32.wrap ((BitVec.ofInt IntKind.u32.bits (IntKind.u32.wrap ((IntKind.u32.wrap ((1 : Int) * 2 ^ (min ((IntKind.u64.wrap x.1.1)).toNat IntKind.u32.bits))) - (1 : Int))) &&& ~~~ BitVec.ofInt IntKind.u32.bits (1 : Int)).toNat : Int))).toNat : Int))), ((IntKind.u32.wrap ((BitVec.ofInt IntKind.u32.bits x.2.2.1.1 &&& BitVec.ofInt IntKind.u32.bits (Int.fdiv (IntKind.u32.wrap ((IntKind.u32.wrap ((1 : Int) * 2 ^ (min ((IntKind.u64.wrap x.1.1)).toNat IntKind.u32.bits))) - (1 : Int))) (2 ^ (min ((1 : Int)).toNat IntKind.u32.bits)))).toNat : Int)), (IntKind.u32.wrap ((BitVec.ofInt IntKind.u32.bits x.2.2.1.2 &&& BitVec.ofInt IntKind.u32.bits (IntKind.u32.wrap ((BitVec.ofInt IntKind.u32.bits (IntKind.u32.wrap ((IntKind.u32.wrap ((1 : Int) * 2 ^ (min ((IntKind.u64.wrap x.1.1)).toNat IntKind.u32.bits))) - (1 : Int))) &&& ~~~ BitVec.ofInt IntKind.u32.bits (1 : Int)).toNat : Int))).toNat : Int))), x.2.2.2.1, x.2.2.2.2.1, (IntKind.i64.wrap (Int.tmod (IntKind.u64.wrap x.2.2.2.2.2.1) (65536 : Int))), (Sp.K18_1 x).1)
def pre18 (x : (BldT) × OutT) : Prop := 2 ≤ x.1.1 ∧ x.1.1 ≤ 32 ∧ 1 ≤ x.1.2.2.2.2.2.2.2.length ∧ x.1.2.2.2.2.2.2.2.length ≤ 8
def in22_4 (k : ((OutT) × OutT)) (x : (Int)) : Prop := (0 : Int) ≤ x ∧ k.1.2.2.2.2.2.length = k.2.2.2.2.2.2.length
def mu22_4 (k : ((OutT) × OutT)) (x : (Int)) : Nat := (((k.1.2.2.2.2.2).length : Int) - x).toNat
def st22_4 (k : ((OutT) × OutT)) (x : (Int)) : BOut ((OutT) × OutT) (Int) (Bool) :=
  bif (decide (x < ((k.1.2.2.2.2.2).length : Int))) then
    (bif (!(((((Sp.nthT k.1.2.2.2.2.2 x).1.1.1 == (Sp.nthT k.2.2.2.2.2.2 x).1.1.1) && ((Sp.nthT k.1.2.2.2.2.2 x).1.1.2 == (Sp.nthT k.2.2.2.2.2.2 x).1.1.2)) && ((Sp.nthT k.1.2.2.2.2.2 x).1.2 == (Sp.nthT k.2.2.2.2.2.2 x).1.2)) && ((((Sp.nthT k.1.2.2.2.2.2 x).2.1.1 == (Sp.nthT k.2.2.2.2.2.2 x).2.1.1) && ((Sp.nthT k.1.2.2.2.2.2 x).2.1.2 == (Sp.nthT k.2.2.2.2.2.2 x).2.1.2)) && (((Sp.nthT k.1.2.2.2.2.2 x).2.2.1 == (Sp.nthT k.2.2.2.2.2.2 x).2.2.1) && (((Sp.nthT k.1.2.2.2.2.2 x).2.2.2.1 == (Sp.nthT k.2.2.2.2.2.2 x).2.2.2.1) && (((Sp.nthT k.1.2.2.2.2.2 x).2.2.2.2.1 == (Sp.nthT k.2.2.2.2.2.2 x).2.2.2.2.1) && ((Sp.nthT k.1.2.2.2.2.2 x).2.2.2.2.2 == (Sp.nthT k.2.2.2.2.2.2 x).2.2.2.2.2))))))) then
      BOut.ret false
    else
      BOut.next k (IntKind.i64.wrap (x + (1 : Int))))
  else
    BOut.brk k x
def G22_4 (k : ((OutT) × OutT)) (x : (Int)) : (Int) := endOf st22_4 k (Nat.succ (mu22_4 k x)) x
def R22_4 (k : ((OutT) × OutT)) (x : (Int)) : Option (Bool) := retOf st22_4 k (Nat.succ (mu22_4 k x)) x
def F22 (x : (OutT) × OutT) : Bool :=
  bif ((((((!((x.1.1.1 == x.2.1.1) && (x.1.1.2 == x.2.1.2))) || (!((x.1.2.1.1 == x.2.2.1.1) && (x.1.2.1.2 == x.2.2.1.2)))) || (x.1.2.2.1 != x.2.2.2.1)) || (x.1.2.2.2.1 != x.2.2.2.2.1)) || (x.1.2.2.2.2.1 != x.2.2.2.2.2.1)) || (((x.1.2.2.2.2.2).length : Int) != ((x.2.2.2.2.2.2).length : Int))) then
    false
  else
    Sp.optR (Sp.R22_4 x (0 : Int)) (fun y => y)
    (true)
end Go.Proofs.Ytbnihoioblmgkaa.Sp
namespace Go.Proofs.Ytbnihoioblmgkaa.Sy
open Go Go.RowKit Sp
def ct15 : Ct := { p := ty25, psh := [some 8], r := (Ty.pair ty3 ty3), rsh := (Rsh.tup [none, none]), pre := none, fresh := none, F := Sp.F15 }
theorem ok15 : CtOk Try.prog gdS 15 ct15 :=
  fn_okU (ctxOkZ (zkokZmH3 true) pgokPmG0 fvok_none gokGmHj []) rfl Try.func15 (p := ty25) (psh := [some 8]) (r := (Ty.pair ty3 ty3)) (rsh := (Rsh.tup [none, none])) (pre := none) (fresh := none) (F := Sp.F15) (L := noL) (c := bodyOf Try.f15) (dflt := Ty.dflt (Ty.pair ty3 ty3)) rfl (no_loops)
    (fun x fx _ => triv_of (by kernel_rfl)) (fun x => by kernel_rfl)
def LS41_7 : LS ty59.den := mkLS Ty.unit (Ty.pair ty3 ty3)  [] [] [(3, none), (5, none)] [] [] [] [] 2 false Sp.in41_7 Sp.st41_7 Sp.mu41_7
def LS41_3 : LS ty59.den := mkLS ty9 (Ty.pair ty3 ty3)  [(0, none)] [] [(3, none), (4, none)] [] [] [] [] 0 false Sp.in41_3 Sp.st41_3 Sp.mu41_3
set_option maxHeartbeats 4000000 in
theorem so41_7 (k : Ty.unit.den) (x : (Ty.pair ty3 ty3).den) (fk : Fit Ty.unit k) (h : Sp.in41_7 k x) : StepOk false Sp.in41_7 Sp.mu41_7 k x (Sp.st41_7 k x) := by
  try dsimp only [Ty.den] at *
  simp only [Sp.in41_7, Fit, maxLen] at h fk
  unfold Sp.st41_7
  (repeat' (first | exact rfl | (refine StepOk.cnd (fun hc => ?_) (fun hc => ?_) <;> (try simp only [IntKind.wrap_i64, IntKind.wrap_u8, IntKind.wrap_u32, IntKind.wrap_u64, bne_eq_false_iff_eq, Int.natCast_inj, setE, copyL, sliceL, zrow, List.length_append, List.length_cons, List.length_nil, List.length_set, List.length_replicate, List.length_take, List.length_drop, decide_eq_true_eq, decide_eq_false_iff_not, Bool.or_eq_true, Bool.and_eq_true, Bool.or_eq_false_iff, Bool.and_eq_false_iff, Bool.not_eq_true', Bool.not_eq_false', Bool.not_eq_true, Bool.not_eq_false, beq_iff_eq, beq_eq_false_iff_ne, bne_iff_ne, ne_eq] at hc)) | refine StepOk.opt (fun _ => ?_))) <;> (first | exact rfl | (refine ⟨rfl, ?_, ?_⟩ <;> simp only [Sp.in41_7, Sp.mu41_7, Sp.bts_size, Sp.strCat_size, Sp.extract_size, Sp.stb_len, Sp.mk_size, IntKind.wrap_i64, IntKind.wrap_u8, IntKind.wrap_u32, IntKind.wrap_u64, Sp.tmod_lit, Sp.tdiv_lit, bne_eq_false_iff_eq, Int.natCast_inj, setE, copyL, sliceL, zrow, List.length_append, List.length_cons, List.length_nil, List.length_set, List.length_replicate, List.length_take, List.length_drop, decide_eq_true_eq, decide_eq_false_iff_not, Bool.or_eq_true, Bool.and_eq_true, Bool.or_eq_false_iff, Bool.and_eq_false_iff, Bool.not_eq_true', Bool.not_eq_false', Bool.not_eq_true, Bool.not_eq_false, beq_iff_eq, beq_eq_false_iff_ne, bne_iff_ne, ne_eq] <;> first | omega | (and_intros <;> first | omega | exact h.1 | exact h.2 | exact h.2.1 | exact h.2.2 | exact h.2.2.1 | exact h.2.2.2 | exact h.2.2.2.1 | exact h.2.2.2.2 | exact h.2.2.2.2.1 | exact h.2.2.2.2.2 | exact h.2.2.2.2.2.1 | exact h.2.2.2.2.2.2)))
set_option maxHeartbeats 4000000 in
theorem lo41_7 : LoopOk Try.prog gdS (RetAt Try.prog Try.f41 (Rsh.one (none)) none ty59) (bodyAt (bodyOf Try.f41) [0, 0]) LS41_7 :=
  loop_run (ctxOkZ (zkokZmH3 true) pgokPmG0 fvok_none gokGmHj []) (L := lookL []) (d := BOut.brk (Ty.dflt Ty.unit) (Ty.dflt (Ty.pair ty3 ty3))) (loops_of (l := []) (by kernel_rfl) (loops_nil)) (fun k x fk fx h => slim_of (S := (((decide (x.2 < (8 : Int))) = true → ((65536 : Int) ≠ 0)))) (by kernel_rfl) (by
  try dsimp only [Ty.den] at *
  simp only [Sp.in41_7, Fit, maxLen] at h fk fx
  simp only [Sp.bts_size, Sp.strCat_size, Sp.extract_size, Sp.stb_len, Sp.mk_size, IntKind.wrap_i64, IntKind.wrap_u8, IntKind.wrap_u32, IntKind.wrap_u64, Sp.tmod_lit, Sp.tdiv_lit, bne_eq_false_iff_eq, Int.natCast_inj, setE, copyL, sliceL, zrow, List.length_append, List.length_cons, List.length_nil, List.length_set, List.length_replicate, List.length_take, List.length_drop, decide_eq_true_eq, decide_eq_false_iff_not, Bool.or_eq_true, Bool.and_eq_true, Bool.or_eq_false_iff, Bool.and_eq_false_iff, Bool.not_eq_true', Bool.not_eq_false', Bool.not_eq_true, Bool.not_eq_false, beq_iff_eq, beq_eq_false_iff_ne, bne_iff_ne, ne_eq, implies_true, and_true, true_and] at *
  all_goals ((repeat' (first | exact trivial | apply And.intro | intro _)) <;> first | trivial | omega | exact Sp.tmod_nn (by omega) | exact Sp.tmod_lt (by omega) (by omega)))) (fun k x => by kernel_rfl) so41_7
set_option maxHeartbeats 4000000 in
theorem so41_3 (k : ty9.den) (x : (Ty.pair ty3 ty3).den) (fk : Fit ty9 k) (h : Sp.in41_3 k x) : StepOk false Sp.in41_3 Sp.mu41_3 k x (Sp.st41_3 k x) := by
  try dsimp only [Ty.den] at *
  simp only [Sp.in41_3, Fit, maxLen] at h fk
  unfold Sp.st41_3
  (repeat' (first | exact rfl | (refine StepOk.cnd (fun hc => ?_) (fun hc => ?_) <;> (try simp only [IntKind.wrap_i64, IntKind.wrap_u8, IntKind.wrap_u32, IntKind.wrap_u64, bne_eq_false_iff_eq, Int.natCast_inj, setE, copyL, sliceL, zrow, List.length_append, List.length_cons, List.length_nil, List.length_set, List.length_replicate, List.length_take, List.length_drop, decide_eq_true_eq, decide_eq_false_iff_not, Bool.or_eq_true, Bool.and_eq_true, Bool.or_eq_false_iff, Bool.and_eq_false_iff, Bool.not_eq_true', Bool.not_eq_false', Bool.not_eq_true, Bool.not_eq_false, beq_iff_eq, beq_eq_false_iff_ne, bne_iff_ne, ne_eq] at hc)) | refine StepOk.opt (fun _ => ?_))) <;> (first | exact rfl | (refine ⟨rfl, ?_, ?_⟩ <;> simp only [Sp.in41_3, Sp.mu41_3, Sp.bts_size, Sp.strCat_size, Sp.extract_size, Sp.stb_len, Sp.mk_size, IntKind.wrap_i64, IntKind.wrap_u8, IntKind.wrap_u32, IntKind.wrap_u64, Sp.tmod_lit, Sp.tdiv_lit, bne_eq_false_iff_eq, Int.natCast_inj, setE, copyL, sliceL, zrow, List.length_append, List.length_cons, List.length_nil, List.length_set, List.length_replicate, List.length_take, List.length_drop, decide_eq_true_eq, decide_eq_false_iff_not, Bool.or_eq_true, Bool.and_eq_true, Bool.or_eq_false_iff, Bool.and_eq_false_iff, Bool.not_eq_true', Bool.not_eq_false', Bool.not_eq_true, Bool.not_eq_false, beq_iff_eq, beq_eq_false_iff_ne, bne_iff_ne, ne_eq] <;> first | omega | (and_intros <;> first | omega | exact h.1 | exact h.2 | exact h.2.1 | exact h.2.2 | exact h.2.2.1 | exact h.2.2.2 | exact h.2.2.2.1 | exact h.2.2.2.2 | exact h.2.2.2.2.1 | exact h.2.2.2.2.2 | exact h.2.2.2.2.2.1 | exact h.2.2.2.2.2.2)))
set_option maxHeartbeats 4000000 in
theorem lo41_3 : LoopOk Try.prog gdS (RetAt Try.prog Try.f41 (Rsh.one (none)) none ty59) (bodyAt (bodyOf Try.f41) [0]) LS41_3 :=
  loop_run (ctxOkZ (zkokZmH3 true) pgokPmG0 fvok_none gokGmHj []) (L := lookL [(7, LS41_7)]) (d := BOut.brk (Ty.dflt ty9) (Ty.dflt (Ty.pair ty3 ty3))) (loops_of (l := [bodyAt (bodyOf Try.f41) [0, 0]]) (by kernel_rfl) (loops_cons (s0 := LS41_7) (by kernel_rfl) lo41_7 (loops_nil))) (fun k x fk fx h => slim_of (S := (((decide (x.2 < ((k).size : Int))) = true → ((0 ≤ x.2 ∧ x.2 < ((k).size : Int)) ∧ (Sp.in41_7 () ((IntKind.i64.wrap ((BitVec.ofInt IntKind.i64.bits x.1 ^^^ BitVec.ofInt IntKind.i64.bits (IntKind.i64.wrap ((IntKind.i64.wrap (strAt k x.2)) * (256 : Int)))).toNat : Int)), (0 : Int))))))) (by kernel_rfl) (by
  try dsimp only [Ty.den] at *
  simp only [Sp.in41_3, Fit, maxLen] at h fk fx
  simp only [Sp.in41_7, Sp.bts_size, Sp.strCat_size, Sp.extract_size, Sp.stb_len, Sp.mk_size, IntKind.wrap_i64, IntKind.wrap_u8, IntKind.wrap_u32, IntKind.wrap_u64, Sp.tmod_lit, Sp.tdiv_lit, bne_eq_false_iff_eq, Int.natCast_inj, setE, copyL, sliceL, zrow, List.length_append, List.length_cons, List.length_nil, List.length_set, List.length_replicate, List.length_take, List.length_drop, decide_eq_true_eq, decide_eq_false_iff_not, Bool.or_eq_true, Bool.and_eq_true, Bool.or_eq_false_iff, Bool.and_eq_false_iff, Bool.not_eq_true', Bool.not_eq_false', Bool.not_eq_true, Bool.not_eq_false, beq_iff_eq, beq_eq_false_iff_ne, bne_iff_ne, ne_eq, implies_true, and_true, true_and] at *
  all_goals ((repeat' (first | exact trivial | apply And.intro | intro _)) <;> first | trivial | omega | exact Sp.tmod_nn (by omega) | exact Sp.tmod_lt (by omega) (by omega)))) (fun k x => by kernel_rfl) so41_3
def ct41 : Ct := { p := ty9, psh := [none], r := ty59, rsh := (Rsh.one (none)), pre := some Sp.pre41, fresh := none, F := Sp.F41 }
theorem ok41 : CtOk Try.prog gdS 41 ct41 :=
  fn_okU (ctxOkZ (zkokZmH3 true) pgokPmG0 fvok_none gokGmHj []) rfl Try.func41 (p := ty9) (psh := [none]) (r := ty59) (rsh := (Rsh.one (none))) (pre := some Sp.pre41) (fresh := none) (F := Sp.F41) (L := (lookL [(7, LS41_7), (3, LS41_3)])) (c := bodyOf Try.f41) (dflt := Ty.dflt ty59) rfl (loops_of (l := [bodyAt (bodyOf Try.f41) [0]]) (by kernel_rfl) (loops_cons (s0 := LS41_3) (by kernel_rfl) lo41_3 (loops_nil)))
    (fun x fx hq => have h := hq _ rfl; slim_of (S := ((Sp.in41_3 x ((65535 : Int), (0 : Int))))) (by kernel_rfl) (by
  try dsimp only [Ty.den] at *
  simp only [Fit, maxLen] at fx
  simp only [Sp.in41_7, Sp.in41_3, Sp.pre41, Sp.bts_size, Sp.strCat_size, Sp.extract_size, Sp.stb_len, Sp.mk_size, IntKind.wrap_i64, IntKind.wrap_u8, IntKind.wrap_u32, IntKind.wrap_u64, Sp.tmod_lit, Sp.tdiv_lit, bne_eq_false_iff_eq, Int.natCast_inj, setE, copyL, sliceL, zrow, List.length_append, List.length_cons, List.length_nil, List.length_set, List.length_replicate, List.length_take, List.length_drop, decide_eq_true_eq, decide_eq_false_iff_not, Bool.or_eq_true, Bool.and_eq_true, Bool.or_eq_false_iff, Bool.and_eq_false_iff, Bool.not_eq_true', Bool.not_eq_false', Bool.not_eq_true, Bool.not_eq_false, beq_iff_eq, beq_eq_false_iff_ne, bne_iff_ne, ne_eq, implies_true, and_true, true_and] at *
  all_goals ((repeat' (first | exact trivial | apply And.intro | intro _)) <;> first | trivial | omega | exact Sp.tmod_nn (by omega) | exact Sp.tmod_lt (by omega) (by omega)))) (fun x => by kernel_rfl)
def LS45_3 : LS ty80.den := mkLS (Ty.pair ty9 (Ty.pair ty3 ty3)) (Ty.pair ty80 ty3)  [(0, none), (1, none), (2, none)] [] [(7, none), (8, none)] [] [] [] [] 0 false Sp.in45_3 Sp.st45_3 Sp.mu45_3
set_option maxHeartbeats 4000000 in
theorem so45_3 (k : (Ty.pair ty9 (Ty.pair ty3 ty3)).den) (x : (Ty.pair ty80 ty3).den) (fk : Fit (Ty.pair ty9 (Ty.pair ty3 ty3)) k) (h : Sp.in45_3 k x) : StepOk false Sp.in45_3 Sp.mu45_3 k x (Sp.st45_3 k x) := by
  try dsimp only [Ty.den] at *
  simp only [Sp.in45_3, Fit, maxLen] at h fk
  unfold Sp.st45_3
  (repeat' (first | exact rfl | (refine StepOk.cnd (fun hc => ?_) (fun hc => ?_) <;> (try simp only [IntKind.wrap_i64, IntKind.wrap_u8, IntKind.wrap_u32, IntKind.wrap_u64, bne_eq_false_iff_eq, Int.natCast_inj, setE, copyL, sliceL, zrow, List.length_append, List.length_cons, List.length_nil, List.length_set, List.length_replicate, List.length_take, List.length_drop, decide_eq_true_eq, decide_eq_false_iff_not, Bool.or_eq_true, Bool.and_eq_true, Bool.or_eq_false_iff, Bool.and_eq_false_iff, Bool.not_eq_true', Bool.not_eq_false', Bool.not_eq_true, Bool.not_eq_false, beq_iff_eq, beq_eq_false_iff_ne, bne_iff_ne, ne_eq] at hc)) | refine StepOk.opt (fun _ => ?_))) <;> (first | exact rfl | (refine ⟨rfl, ?_, ?_⟩ <;> simp only [Sp.in45_3, Sp.mu45_3, Sp.bts_size, Sp.strCat_size, Sp.extract_size, Sp.stb_len, Sp.mk_size, IntKind.wrap_i64, IntKind.wrap_u8, IntKind.wrap_u32, IntKind.wrap_u64, Sp.tmod_lit, Sp.tdiv_lit, bne_eq_false_iff_eq, Int.natCast_inj, setE, copyL, sliceL, zrow, List.length_append, List.length_cons, List.length_nil, List.length_set, List.length_replicate, List.length_take, List.length_drop, decide_eq_true_eq, decide_eq_false_iff_not, Bool.or_eq_true, Bool.and_eq_true, Bool.or_eq_false_iff, Bool.and_eq_false_iff, Bool.not_eq_true', Bool.not_eq_false', Bool.not_eq_true, Bool.not_eq_false, beq_iff_eq, beq_eq_false_iff_ne, bne_iff_ne, ne_eq] <;> first | omega | (and_intros <;> first | omega | exact h.1 | exact h.2 | exact h.2.1 | exact h.2.2 | exact h.2.2.1 | exact h.2.2.2 | exact h.2.2.2.1 | exact h.2.2.2.2 | exact h.2.2.2.2.1 | exact h.2.2.2.2.2 | exact h.2.2.2.2.2.1 | exact h.2.2.2.2.2.2)))
set_option maxHeartbeats 4000000 in
theorem lo45_3 : LoopOk Try.prog gdS (RetAt Try.prog Try.f45 (Rsh.one (none)) none ty80) (bodyAt (bodyOf Try.f45) [0]) LS45_3 :=
  loop_run (ctxOkZ (zkokZmH3 true) pgokPmG0 fvok_none gokGmHj []) (L := lookL []) (d := BOut.brk (Ty.dflt (Ty.pair ty9 (Ty.pair ty3 ty3))) (Ty.dflt (Ty.pair ty80 ty3))) (loops_of (l := []) (by kernel_rfl) (loops_nil)) (fun k x fk fx h => slim_of (S := (((decide (x.2 < k.2.2)) = true → ((0 ≤ (IntKind.i64.wrap (k.2.1 + x.2)) ∧ (IntKind.i64.wrap (k.2.1 + x.2)) < ((k.1).size : Int)) ∧ (0 ≤ (IntKind.u64.wrap (IntKind.i64.wrap ((8 : Int) * x.2)))))))) (by kernel_rfl) (by
  try dsimp only [Ty.den] at *
  simp only [Sp.in45_3, Fit, maxLen] at h fk fx
  simp only [Sp.bts_size, Sp.strCat_size, Sp.extract_size, Sp.stb_len, Sp.mk_size, IntKind.wrap_i64, IntKind.wrap_u8, IntKind.wrap_u32, IntKind.wrap_u64, Sp.tmod_lit, Sp.tdiv_lit, bne_eq_false_iff_eq, Int.natCast_inj, setE, copyL, sliceL, zrow, List.length_append, List.length_cons, List.length_nil, List.length_set, List.length_replicate, List.length_take, List.length_drop, decide_eq_true_eq, decide_eq_false_iff_not, Bool.or_eq_true, Bool.and_eq_true, Bool.or_eq_false_iff, Bool.and_eq_false_iff, Bool.not_eq_true', Bool.not_eq_false', Bool.not_eq_true, Bool.not_eq_false, beq_iff_eq, beq_eq_false_iff_ne, bne_iff_ne, ne_eq, implies_true, and_true, true_and] at *
  all_goals ((repeat' (first | exact trivial | apply And.intro | intro _)) <;> first | trivial | omega | exact Sp.tmod_nn (by omega) | exact Sp.tmod_lt (by omega) (by omega)))) (fun k x => by kernel_rfl) so45_3
def ct45 : Ct := { p := (Ty.pair ty9 (Ty.pair ty3 ty3)), psh := [none, none, none], r := ty80, rsh := (Rsh.one (none)), pre := some Sp.pre45, fresh := none, F := Sp.F45 }
theorem ok45 : CtOk Try.prog gdS 45 ct45 :=
  fn_okU (ctxOkZ (zkokZmH3 true) pgokPmG0 fvok_none gokGmHj []) rfl Try.func45 (p := (Ty.pair ty9 (Ty.pair ty3 ty3))) (psh := [none, none, none]) (r := ty80) (rsh := (Rsh.one (none))) (pre := some Sp.pre45) (fresh := none) (F := Sp.F45) (L := (lookL [(3, LS45_3)])) (c := bodyOf Try.f45) (dflt := Ty.dflt ty80) rfl (loops_of (l := [bodyAt (bodyOf Try.f45) [0]]) (by kernel_rfl) (loops_cons (s0 := LS45_3) (by kernel_rfl) lo45_3 (loops_nil)))
    (fun x fx hq => have h := hq _ rfl; slim_of (S := ((Sp.in45_3 x ((0 : Int), (0 : Int))))) (by kernel_rfl) (by
  try dsimp only [Ty.den] at *
  simp only [Fit, maxLen] at fx
  simp only [Sp.in45_3, Sp.pre45, Sp.bts_size, Sp.strCat_size, Sp.extract_size, Sp.stb_len, Sp.mk_size, IntKind.wrap_i64, IntKind.wrap_u8, IntKind.wrap_u32, IntKind.wrap_u64, Sp.tmod_lit, Sp.tdiv_lit, bne_eq_false_iff_eq, Int.natCast_inj, setE, copyL, sliceL, zrow, List.length_append, List.length_cons, List.length_nil, List.length_set, List.length_replicate, List.length_take, List.length_drop, decide_eq_true_eq, decide_eq_false_iff_not, Bool.or_eq_true, Bool.and_eq_true, Bool.or_eq_false_iff, Bool.and_eq_false_iff, Bool.not_eq_true', Bool.not_eq_false', Bool.not_eq_true, Bool.not_eq_false, beq_iff_eq, beq_eq_false_iff_ne, bne_iff_ne, ne_eq, implies_true, and_true, true_and] at *
  all_goals ((repeat' (first | exact trivial | apply And.intro | intro _)) <;> first | trivial | omega | exact Sp.tmod_nn (by omega) | exact Sp.tmod_lt (by omega) (by omega)))) (fun x => by kernel_rfl)
def ct46 : Ct := { p := (Ty.pair ty9 (Ty.pair ty3 ty3)), psh := [none, none, none], r := ty4, rsh := (Rsh.one (none)), pre := some Sp.pre46, fresh := none, F := Sp.F46 }
theorem ok46 : CtOk Try.prog gdS 46 ct46 :=
  fn_okU (ctxOkZ (zkokZmH3 true) pgokPmG0 fvok_none gokGmHj []) rfl Try.func46 (p := (Ty.pair ty9 (Ty.pair ty3 ty3))) (psh := [none, none, none]) (r := ty4) (rsh := (Rsh.one (none))) (pre := some Sp.pre46) (fresh := none) (F := Sp.F46) (L := noL) (c := bodyOf Try.f46) (dflt := Ty.dflt ty4) rfl (no_loops)
    (fun x fx hq => have h := hq _ rfl; slim_of (S := (((0 ≤ x.2.1 ∧ x.2.1 < ((x.1).size : Int)) ∧ (0 ≤ (IntKind.u64.wrap x.2.2))))) (by kernel_rfl) (by
  try dsimp only [Ty.den] at *
  simp only [Fit, maxLen] at fx
  simp only [Sp.pre46, Sp.bts_size, Sp.strCat_size, Sp.extract_size, Sp.stb_len, Sp.mk_size, IntKind.wrap_i64, IntKind.wrap_u8, IntKind.wrap_u32, IntKind.wrap_u64, Sp.tmod_lit, Sp.tdiv_lit, bne_eq_false_iff_eq, Int.natCast_inj, setE, copyL, sliceL, zrow, List.length_append, List.length_cons, List.length_nil, List.length_set, List.length_replicate, List.length_take, List.length_drop, decide_eq_true_eq, decide_eq_false_iff_not, Bool.or_eq_true, Bool.and_eq_true, Bool.or_eq_false_iff, Bool.and_eq_false_iff, Bool.not_eq_true', Bool.not_eq_false', Bool.not_eq_true, Bool.not_eq_false, beq_iff_eq, beq_eq_false_iff_ne, bne_iff_ne, ne_eq, implies_true, and_true, true_and] at *
  all_goals ((repeat' (first | exact trivial | apply And.intro | intro _)) <;> first | trivial | omega | exact Sp.tmod_nn (by omega) | exact Sp.tmod_lt (by omega) (by omega)))) (fun x => by kernel_rfl)
def ct73 : Ct := { p := (Ty.pair ty25 (Ty.pair ty3 ty3)), psh := [some 8, none, none], r := ty4, rsh := (Rsh.one (none)), pre := none, fresh := none, F := Sp.F73 }
theorem ok73 : CtOk Try.prog gdS 73 ct73 :=
  fn_okU (ctxOkZ (zkokZmH3 true) pgokPmG0 fvok_none gokGmHj []) rfl Try.func73 (p := (Ty.pair ty25 (Ty.pair ty3 ty3))) (psh := [some 8, none, none]) (r := ty4) (rsh := (Rsh.one (none))) (pre := none) (fresh := none) (F := Sp.F73) (L := noL) (c := bodyOf Try.f73) (dflt := Ty.dflt ty4) rfl (no_loops)
    (fun x fx _ => triv_of (by kernel_rfl)) (fun x => by kernel_rfl)
def ct58 : Ct := { p := (Ty.pair ty3 (Ty.pair ty3 ty3)), psh := [none, none, none], r := ty4, rsh := (Rsh.one (none)), pre := none, fresh := none, F := Sp.F58 }
theorem ok58 : CtOk Try.prog gdS 58 ct58 :=
  fn_okU (ctxOkZ (zkokZmH3 true) pgokPmG0 fvok_none gokGmHj []) rfl Try.func58 (p := (Ty.pair ty3 (Ty.pair ty3 ty3))) (psh := [none, none, none]) (r := ty4) (rsh := (Rsh.one (none))) (pre := none) (fresh := none) (F := Sp.F58) (L := noL) (c := bodyOf Try.f58) (dflt := Ty.dflt ty4) rfl (no_loops)
    (fun x fx _ => triv_of (by kernel_rfl)) (fun x => by kernel_rfl)
def ct59 : Ct := { p := (Ty.pair ty25 ty26), psh := [some 8, none], r := ty4, rsh := (Rsh.one (none)), pre := none, fresh := none, F := Sp.F59 }
theorem ok59 : CtOk Try.prog gdS 59 ct59 :=
  fn_okU (ctxOkZ (zkokZmH3 true) pgokPmG0 fvok_none gokGmHj []) rfl Try.func59 (p := (Ty.pair ty25 ty26)) (psh := [some 8, none]) (r := ty4) (rsh := (Rsh.one (none))) (pre := none) (fresh := none) (F := Sp.F59) (L := noL) (c := bodyOf Try.f59) (dflt := Ty.dflt ty4) rfl (no_loops)
    (fun x fx _ => slim_of (S := ((0 ≤ (IntKind.u64.wrap x.1.1)))) (by kernel_rfl) (by
  try dsimp only [Ty.den] at *
  simp only [Fit, maxLen] at fx
  simp only [Sp.bts_size, Sp.strCat_size, Sp.extract_size, Sp.stb_len, Sp.mk_size, IntKind.wrap_i64, IntKind.wrap_u8, IntKind.wrap_u32, IntKind.wrap_u64, Sp.tmod_lit, Sp.tdiv_lit, bne_eq_false_iff_eq, Int.natCast_inj, setE, copyL, sliceL, zrow, List.length_append, List.length_cons, List.length_nil, List.length_set, List.length_replicate, List.length_take, List.length_drop, decide_eq_true_eq, decide_eq_false_iff_not, Bool.or_eq_true, Bool.and_eq_true, Bool.or_eq_false_iff, Bool.and_eq_false_iff, Bool.not_eq_true', Bool.not_eq_false', Bool.not_eq_true, Bool.not_eq_false, beq_iff_eq, beq_eq_false_iff_ne, bne_iff_ne, ne_eq, implies_true, and_true, true_and] at *
  all_goals ((repeat' (first | exact trivial | apply And.intro | intro _)) <;> first | trivial | omega | exact Sp.tmod_nn (by omega) | exact Sp.tmod_lt (by omega) (by omega)))) (fun x => by kernel_rfl)
def LS35_3 : LS ty9.den := mkLS (Ty.pair ty80 ty3) (Ty.pair ty44 ty3)  [(0, none), (1, none)] [] [(5, none), (6, none)] [] [(0, 100300, true, 5)] [] [] 0 false Sp.in35_3 Sp.st35_3 Sp.mu35_3
set_option maxHeartbeats 4000000 in
theorem so35_3 (k : (Ty.pair ty80 ty3).den) (x : (Ty.pair ty44 ty3).den) (fk : Fit (Ty.pair ty80 ty3) k) (h : Sp.in35_3 k x) : StepOk false Sp.in35_3 Sp.mu35_3 k x (Sp.st35_3 k x) := by
  try dsimp only [Ty.den] at *
  simp only [Sp.in35_3, Fit, maxLen] at h fk
  unfold Sp.st35_3
  (repeat' (first | exact rfl | (refine StepOk.cnd (fun hc => ?_) (fun hc => ?_) <;> (try simp only [IntKind.wrap_i64, IntKind.wrap_u8, IntKind.wrap_u32, IntKind.wrap_u64, bne_eq_false_iff_eq, Int.natCast_inj, setE, copyL, sliceL, zrow, List.length_append, List.length_cons, List.length_nil, List.length_set, List.length_replicate, List.length_take, List.length_drop, decide_eq_true_eq, decide_eq_false_iff_not, Bool.or_eq_true, Bool.and_eq_true, Bool.or_eq_false_iff, Bool.and_eq_false_iff, Bool.not_eq_true', Bool.not_eq_false', Bool.not_eq_true, Bool.not_eq_false, beq_iff_eq, beq_eq_false_iff_ne, bne_iff_ne, ne_eq] at hc)) | refine StepOk.opt (fun _ => ?_))) <;> (first | exact rfl | (refine ⟨rfl, ?_, ?_⟩ <;> simp only [Sp.in35_3, Sp.mu35_3, Sp.bts_size, Sp.strCat_size, Sp.extract_size, Sp.stb_len, Sp.mk_size, IntKind.wrap_i64, IntKind.wrap_u8, IntKind.wrap_u32, IntKind.wrap_u64, Sp.tmod_lit, Sp.tdiv_lit, bne_eq_false_iff_eq, Int.natCast_inj, setE, copyL, sliceL, zrow, List.length_append, List.length_cons, List.length_nil, List.length_set, List.length_replicate, List.length_take, List.length_drop, decide_eq_true_eq, decide_eq_false_iff_not, Bool.or_eq_true, Bool.and_eq_true, Bool.or_eq_false_iff, Bool.and_eq_false_iff, Bool.not_eq_true', Bool.not_eq_false', Bool.not_eq_true, Bool.not_eq_false, beq_iff_eq, beq_eq_false_iff_ne, bne_iff_ne, ne_eq] <;> first | omega | (and_intros <;> first | omega | exact h.1 | exact h.2 | exact h.2.1 | exact h.2.2 | exact h.2.2.1 | exact h.2.2.2 | exact h.2.2.2.1 | exact h.2.2.2.2 | exact h.2.2.2.2.1 | exact h.2.2.2.2.2 | exact h.2.2.2.2.2.1 | exact h.2.2.2.2.2.2)))
set_option maxHeartbeats 4000000 in
theorem lo35_3 : LoopOk Try.prog gdS (RetAt Try.prog Try.f35 (Rsh.one (none)) none ty9) (bodyAt (bodyOf Try.f35) [0]) LS35_3 :=
  loop_run (ctxOkZ (zkokZmH3 true) pgokPmG0 fvok_none gokGmHj []) (L := lookL []) (d := BOut.brk (Ty.dflt (Ty.pair ty80 ty3)) (Ty.dflt (Ty.pair ty44 ty3))) (loops_of (l := []) (by kernel_rfl) (loops_nil)) (fun k x fk fx h => slim_of (S := (((decide (x.2 < k.2)) = true → ((0 ≤ (IntKind.u64.wrap (IntKind.i64.wrap ((8 : Int) * x.2)))) ∧ (0 ≤ x.2 ∧ x.2 < ((x.1).length : Int)))))) (by kernel_rfl) (by
  try dsimp only [Ty.den] at *
  simp only [Sp.in35_3, Fit, maxLen] at h fk fx
  simp only [Sp.bts_size, Sp.strCat_size, Sp.extract_size, Sp.stb_len, Sp.mk_size, IntKind.wrap_i64, IntKind.wrap_u8, IntKind.wrap_u32, IntKind.wrap_u64, Sp.tmod_lit, Sp.tdiv_lit, bne_eq_false_iff_eq, Int.natCast_inj, setE, copyL, sliceL, zrow, List.length_append, List.length_cons, List.length_nil, List.length_set, List.length_replicate, List.length_take, List.length_drop, decide_eq_true_eq, decide_eq_false_iff_not, Bool.or_eq_true, Bool.and_eq_true, Bool.or_eq_false_iff, Bool.and_eq_false_iff, Bool.not_eq_true', Bool.not_eq_false', Bool.not_eq_true, Bool.not_eq_false, beq_iff_eq, beq_eq_false_iff_ne, bne_iff_ne, ne_eq, implies_true, and_true, true_and] at *
  all_goals ((repeat' (first | exact trivial | apply And.intro | intro _)) <;> first | trivial | omega | exact Sp.tmod_nn (by omega) | exact Sp.tmod_lt (by omega) (by omega)))) (fun k x => by kernel_rfl) so35_3
def ct35 : Ct := { p := (Ty.pair ty80 ty3), psh := [none, none], r := ty9, rsh := (Rsh.one (none)), pre := some Sp.pre35, fresh := none, F := Sp.F35 }
theorem ok35 : CtOk Try.prog gdS 35 ct35 :=
  fn_okU (ctxOkZ (zkokZmH3 true) pgokPmG0 fvok_none gokGmHj []) rfl Try.func35 (p := (Ty.pair ty80 ty3)) (psh := [none, none]) (r := ty9) (rsh := (Rsh.one (none))) (pre := some Sp.pre35) (fresh := none) (F := Sp.F35) (L := (lookL [(3, LS35_3)])) (c := bodyOf Try.f35) (dflt := Ty.dflt ty9) rfl (loops_of (l := [bodyAt (bodyOf Try.f35) [0]]) (by kernel_rfl) (loops_cons (s0 := LS35_3) (by kernel_rfl) lo35_3 (loops_nil)))
    (fun x fx hq => have h := hq _ rfl; slim_of (S := (((0 ≤ x.2 ∧ x.2 = x.2 ∧ x.2 * (1 : Int) ≤ 140737488355328 ∧ x.2 ≤ 4611686018427387903) ∧ (Sp.in35_3 x ((zrow ty5 x.2), (0 : Int)))))) (by kernel_rfl) (by
  try dsimp only [Ty.den] at *
  simp only [Fit, maxLen] at fx
  simp only [Sp.in35_3, Sp.pre35, Sp.bts_size, Sp.strCat_size, Sp.extract_size, Sp.stb_len, Sp.mk_size, IntKind.wrap_i64, IntKind.wrap_u8, IntKind.wrap_u32, IntKind.wrap_u64, Sp.tmod_lit, Sp.tdiv_lit, bne_eq_false_iff_eq, Int.natCast_inj, setE, copyL, sliceL, zrow, List.length_append, List.length_cons, List.length_nil, List.length_set, List.length_replicate, List.length_take, List.length_drop, decide_eq_true_eq, decide_eq_false_iff_not, Bool.or_eq_true, Bool.and_eq_true, Bool.or_eq_false_iff, Bool.and_eq_false_iff, Bool.not_eq_true', Bool.not_eq_false', Bool.not_eq_true, Bool.not_eq_false, beq_iff_eq, beq_eq_false_iff_ne, bne_iff_ne, ne_eq, implies_true, and_true, true_and] at *
  all_goals ((repeat' (first | exact trivial | apply And.intro | intro _)) <;> first | trivial | omega | exact Sp.tmod_nn (by omega) | exact Sp.tmod_lt (by omega) (by omega)))) (fun x => by kernel_rfl)
def ct26 : Ct := { p := ty3, psh := [none], r := ty22, rsh := (Rsh.one (none)), pre := none, fresh := none, F := Sp.F26 }
theorem ok26 : CtOk Try.prog gdS 26 ct26 :=
  fn_okU (ctxOkZ (zkokZmH3 true) pgokPmG0 fvok_none gokGmHj []) rfl Try.func26 (p := ty3) (psh := [none]) (r := ty22) (rsh := (Rsh.one (none))) (pre := none) (fresh := none) (F := Sp.F26) (L := noL) (c := bodyOf Try.f26) (dflt := Ty.dflt ty22) rfl (no_loops)
    (fun x fx _ => triv_of (by kernel_rfl)) (fun x => by kernel_rfl)
def LS14_4 : LS ty4.den := mkLS (Ty.pair ty33 ty33) ty3  [] [(2, 5), (3, 5)] [(5, none)] [] [] [] [(2, 2), (3, 3)] 0 true Sp.in14_4 Sp.st14_4 Sp.mu14_4
set_option maxHeartbeats 4000000 in
theorem so14_4 (k : (Ty.pair ty33 ty33).den) (x : ty3.den) (fk : Fit (Ty.pair ty33 ty33) k) (h : Sp.in14_4 k x) : StepOk true Sp.in14_4 Sp.mu14_4 k x (Sp.st14_4 k x) := by
  try dsimp only [Ty.den] at *
  simp only [Sp.in14_4, Fit, maxLen] at h fk
  unfold Sp.st14_4
  (repeat' (first | exact rfl | (refine StepOk.cnd (fun hc => ?_) (fun hc => ?_) <;> (try simp only [IntKind.wrap_i64, IntKind.wrap_u8, IntKind.wrap_u32, IntKind.wrap_u64, bne_eq_false_iff_eq, Int.natCast_inj, setE, copyL, sliceL, zrow, List.length_append, List.length_cons, List.length_nil, List.length_set, List.length_replicate, List.length_take, List.length_drop, decide_eq_true_eq, decide_eq_false_iff_not, Bool.or_eq_true, Bool.and_eq_true, Bool.or_eq_false_iff, Bool.and_eq_false_iff, Bool.not_eq_true', Bool.not_eq_false', Bool.not_eq_true, Bool.not_eq_false, beq_iff_eq, beq_eq_false_iff_ne, bne_iff_ne, ne_eq] at hc)) | refine StepOk.opt (fun _ => ?_))) <;> (first | exact rfl | (refine ⟨rfl, ?_, ?_⟩ <;> simp only [Sp.in14_4, Sp.mu14_4, Sp.bts_size, Sp.strCat_size, Sp.extract_size, Sp.stb_len, Sp.mk_size, IntKind.wrap_i64, IntKind.wrap_u8, IntKind.wrap_u32, IntKind.wrap_u64, Sp.tmod_lit, Sp.tdiv_lit, bne_eq_false_iff_eq, Int.natCast_inj, setE, copyL, sliceL, zrow, List.length_append, List.length_cons, List.length_nil, List.length_set, List.length_replicate, List.length_take, List.length_drop, decide_eq_true_eq, decide_eq_false_iff_not, Bool.or_eq_true, Bool.and_eq_true, Bool.or_eq_false_iff, Bool.and_eq_false_iff, Bool.not_eq_true', Bool.not_eq_false', Bool.not_eq_true, Bool.not_eq_false, beq_iff_eq, beq_eq_false_iff_ne, bne_iff_ne, ne_eq] <;> first | omega | (and_intros <;> first | omega | exact h.1 | exact h.2 | exact h.2.1 | exact h.2.2 | exact h.2.2.1 | exact h.2.2.2 | exact h.2.2.2.1 | exact h.2.2.2.2 | exact h.2.2.2.2.1 | exact h.2.2.2.2.2 | exact h.2.2.2.2.2.1 | exact h.2.2.2.2.2.2)))
set_option maxHeartbeats 4000000 in
theorem lo14_4 : LoopOk Try.prog gdS (RetAt Try.prog Try.f14 (Rsh.one (none)) none ty4) (bodyAt (bodyOf Try.f14) [0]) LS14_4 :=
  loop_run (ctxOkZ (zkokZmH3 true) pgokPmG0 fvok_none gokGmHj []) (L := lookL []) (d := BOut.brk (Ty.dflt (Ty.pair ty33 ty33)) (Ty.dflt ty3)) (loops_of (l := []) (by kernel_rfl) (loops_nil)) (fun k x fk fx h => slim_of (S := (((decide (x < ((k.1.2.2).length : Int))) = true → ((0 ≤ x ∧ x < ((k.1.2.2).length : Int)) ∧ (0 ≤ x ∧ x < ((k.2.2.2).length : Int)))))) (by kernel_rfl) (by
  try dsimp only [Ty.den] at *
  simp only [Sp.in14_4, Fit, maxLen] at h fk fx
  simp only [Sp.bts_size, Sp.strCat_size, Sp.extract_size, Sp.stb_len, Sp.mk_size, IntKind.wrap_i64, IntKind.wrap_u8, IntKind.wrap_u32, IntKind.wrap_u64, Sp.tmod_lit, Sp.tdiv_lit, bne_eq_false_iff_eq, Int.natCast_inj, setE, copyL, sliceL, zrow, List.length_append, List.length_cons, List.length_nil, List.length_set, List.length_replicate, List.length_take, List.length_drop, decide_eq_true_eq, decide_eq_false_iff_not, Bool.or_eq_true, Bool.and_eq_true, Bool.or_eq_false_iff, Bool.and_eq_false_iff, Bool.not_eq_true', Bool.not_eq_false', Bool.not_eq_true, Bool.not_eq_false, beq_iff_eq, beq_eq_false_iff_ne, bne_iff_ne, ne_eq, implies_true, and_true, true_and] at *
  all_goals ((repeat' (first | exact trivial | apply And.intro | intro _)) <;> first | trivial | omega | exact Sp.tmod_nn (by omega) | exact Sp.tmod_lt (by omega) (by omega)))) (fun k x => by kernel_rfl) so14_4
def ct14 : Ct := { p := (Ty.pair ty33 ty33), psh := [some 5, some 5], r := ty4, rsh := (Rsh.one (none)), pre := none, fresh := none, F := Sp.F14 }
theorem ok14 : CtOk Try.prog gdS 14 ct14 :=
  fn_okU (ctxOkZ (zkokZmH3 true) pgokPmG0 fvok_none gokGmHj []) rfl Try.func14 (p := (Ty.pair ty33 ty33)) (psh := [some 5, some 5]) (r := ty4) (rsh := (Rsh.one (none))) (pre := none) (fresh := none) (F := Sp.F14) (L := (lookL [(4, LS14_4)])) (c := bodyOf Try.f14) (dflt := Ty.dflt ty4) rfl (loops_of (l := [bodyAt (bodyOf Try.f14) [0]]) (by kernel_rfl) (loops_cons (s0 := LS14_4) (by kernel_rfl) lo14_4 (loops_nil)))
    (fun x fx _ => slim_of (S := (((((!((x.1.1.1 == x.2.1.1) && (x.1.1.2 == x.2.1.2))) || (!((x.1.2.1.1 == x.2.2.1.1) && (x.1.2.1.2 == x.2.2.1.2)))) || (((x.1.2.2).length : Int) != ((x.2.2.2).length : Int))) = false → (Sp.in14_4 x (0 : Int))))) (by kernel_rfl) (by
  try dsimp only [Ty.den] at *
  simp only [Fit, maxLen] at fx
  simp only [Sp.in14_4, Sp.bts_size, Sp.strCat_size, Sp.extract_size, Sp.stb_len, Sp.mk_size, IntKind.wrap_i64, IntKind.wrap_u8, IntKind.wrap_u32, IntKind.wrap_u64, Sp.tmod_lit, Sp.tdiv_lit, bne_eq_false_iff_eq, Int.natCast_inj, setE, copyL, sliceL, zrow, List.length_append, List.length_cons, List.length_nil, List.length_set, List.length_replicate, List.length_take, List.length_drop, decide_eq_true_eq, decide_eq_false_iff_not, Bool.or_eq_true, Bool.and_eq_true, Bool.or_eq_false_iff, Bool.and_eq_false_iff, Bool.not_eq_true', Bool.not_eq_false', Bool.not_eq_true, Bool.not_eq_false, beq_iff_eq, beq_eq_false_iff_ne, bne_iff_ne, ne_eq, implies_true, and_true, true_and] at *
  all_goals ((repeat' (first | exact trivial | apply And.intro | intro _)) <;> first | trivial | omega | exact Sp.tmod_nn (by omega) | exact Sp.tmod_lt (by omega) (by omega)))) (fun x => by kernel_rfl)
def LS10_9 : LS ty33.den := mkLS (Ty.pair ty26 ty25) (Ty.pair ty31 ty3)  [(5, none)] [(2, 8)] [(6, none), (7, none)] [] [(0, 100900, true, 71)] [] [(2, 2)] 0 false Sp.in10_9 Sp.st10_9 Sp.mu10_9
set_option maxHeartbeats 4000000 in
theorem so10_9 (k : (Ty.pair ty26 ty25).den) (x : (Ty.pair ty31 ty3).den) (fk : Fit (Ty.pair ty26 ty25) k) (h : Sp.in10_9 k x) : StepOk false Sp.in10_9 Sp.mu10_9 k x (Sp.st10_9 k x) := by
  try dsimp only [Ty.den] at *
  simp only [Sp.in10_9, Fit, maxLen] at h fk
  unfold Sp.st10_9
  (repeat' (first | exact rfl | (refine StepOk.cnd (fun hc => ?_) (fun hc => ?_) <;> (try simp only [IntKind.wrap_i64, IntKind.wrap_u8, IntKind.wrap_u32, IntKind.wrap_u64, bne_eq_false_iff_eq, Int.natCast_inj, setE, copyL, sliceL, zrow, List.length_append, List.length_cons, List.length_nil, List.length_set, List.length_replicate, List.length_take, List.length_drop, decide_eq_true_eq, decide_eq_false_iff_not, Bool.or_eq_true, Bool.and_eq_true, Bool.or_eq_false_iff, Bool.and_eq_false_iff, Bool.not_eq_true', Bool.not_eq_false', Bool.not_eq_true, Bool.not_eq_false, beq_iff_eq, beq_eq_false_iff_ne, bne_iff_ne, ne_eq] at hc)) | refine StepOk.opt (fun _ => ?_))) <;> (first | exact rfl | (refine ⟨rfl, ?_, ?_⟩ <;> simp only [Sp.in10_9, Sp.mu10_9, Sp.K10_9_1, Sp.K10_9_2, Sp.K10_9_3, Sp.bts_size, Sp.strCat_size, Sp.extract_size, Sp.stb_len, Sp.mk_size, IntKind.wrap_i64, IntKind.wrap_u8, IntKind.wrap_u32, IntKind.wrap_u64, Sp.tmod_lit, Sp.tdiv_lit, bne_eq_false_iff_eq, Int.natCast_inj, setE, copyL, sliceL, zrow, List.length_append, List.length_cons, List.length_nil, List.length_set, List.length_replicate, List.length_take, List.length_drop, decide_eq_true_eq, decide_eq_false_iff_not, Bool.or_eq_true, Bool.and_eq_true, Bool.or_eq_false_iff, Bool.and_eq_false_iff, Bool.not_eq_true', Bool.not_eq_false', Bool.not_eq_true, Bool.not_eq_false, beq_iff_eq, beq_eq_false_iff_ne, bne_iff_ne, ne_eq] <;> first | omega | (and_intros <;> first | omega | exact h.1 | exact h.2 | exact h.2.1 | exact h.2.2 | exact h.2.2.1 | exact h.2.2.2 | exact h.2.2.2.1 | exact h.2.2.2.2 | exact h.2.2.2.2.1 | exact h.2.2.2.2.2 | exact h.2.2.2.2.2.1 | exact h.2.2.2.2.2.2)))
set_option maxHeartbeats 4000000 in
theorem lo10_9 : LoopOk Try.prog gdS (RetAt Try.prog Try.f10 (Rsh.one (some 5)) (some 71) ty33) (bodyAt (bodyOf Try.f10) [0]) LS10_9 :=
  loop_run (ctxOkZ (zkokZmH3 true) pgokPmG0 fvok_none gokGmHj []) (L := lookL []) (d := BOut.brk (Ty.dflt (Ty.pair ty26 ty25)) (Ty.dflt (Ty.pair ty31 ty3))) (loops_of (l := []) (by kernel_rfl) (loops_nil)) (fun k x fk fx h => slim_of (S := (((decide (x.2 < ((x.1).length : Int))) = true → ((0 ≤ x.2 ∧ x.2 < ((x.1).length : Int)) ∧ (((IntKind.u64.wrap k.2.1) ≠ 0) ∧ ((3 : Int) ≠ 0)))))) (by kernel_rfl) (by
  try dsimp only [Ty.den] at *
  simp only [Sp.in10_9, Fit, maxLen] at h fk fx
  simp only [Sp.bts_size, Sp.strCat_size, Sp.extract_size, Sp.stb_len, Sp.mk_size, IntKind.wrap_i64, IntKind.wrap_u8, IntKind.wrap_u32, IntKind.wrap_u64, Sp.tmod_lit, Sp.tdiv_lit, bne_eq_false_iff_eq, Int.natCast_inj, setE, copyL, sliceL, zrow, List.length_append, List.length_cons, List.length_nil, List.length_set, List.length_replicate, List.length_take, List.length_drop, decide_eq_true_eq, decide_eq_false_iff_not, Bool.or_eq_true, Bool.and_eq_true, Bool.or_eq_false_iff, Bool.and_eq_false_iff, Bool.not_eq_true', Bool.not_eq_false', Bool.not_eq_true, Bool.not_eq_false, beq_iff_eq, beq_eq_false_iff_ne, bne_iff_ne, ne_eq, implies_true, and_true, true_and] at *
  all_goals ((repeat' (first | exact trivial | apply And.intro | intro _)) <;> first | trivial | omega | exact Sp.tmod_nn (by omega) | exact Sp.tmod_lt (by omega) (by omega)))) (fun k x => by kernel_rfl) so10_9
def ct10 : Ct := { p := (Ty.pair ty25 ty33), psh := [some 8, some 5], r := ty33, rsh := (Rsh.one (some 5)), pre := some Sp.pre10, fresh := (some 71), F := Sp.F10 }
theorem ok10 : CtOk Try.prog gdS 10 ct10 :=
  fn_okU (ctxOkZ (zkokZmH3 true) pgokPmG0 fvok_none gokGmHj []) rfl Try.func10 (p := (Ty.pair ty25 ty33)) (psh := [some 8, some 5]) (r := ty33) (rsh := (Rsh.one (some 5))) (pre := some Sp.pre10) (fresh := (some 71)) (F := Sp.F10) (L := (lookL [(9, LS10_9)])) (c := bodyOf Try.f10) (dflt := Ty.dflt ty33) rfl (loops_of (l := [bodyAt (bodyOf Try.f10) [0]]) (by kernel_rfl) (loops_cons (s0 := LS10_9) (by kernel_rfl) lo10_9 (loops_nil)))
    (fun x fx hq => have h := hq _ rfl; slim_of (S := (((0 ≤ (IntKind.u64.wrap x.1.1)) ∧ ((0 ≤ (1 : Int)) ∧ (((9 : Int) ≠ 0) ∧ (((IntKind.u64.wrap ((x.1.2.2.2.2.2.2.2).length : Int)) ≠ 0) ∧ ((((IntKind.i64.wrap (Int.tmod (IntKind.u64.wrap x.2.2.1.1) (9 : Int))) == (0 : Int)) = true → ((0 ≤ ((x.1.2.2.2.2.2.2.2).length : Int) ∧ ((x.1.2.2.2.2.2.2.2).length : Int) = ((x.1.2.2.2.2.2.2.2).length : Int) ∧ ((x.1.2.2.2.2.2.2.2).length : Int) * (56 : Int) ≤ 140737488355328 ∧ ((x.1.2.2.2.2.2.2.2).length : Int) ≤ 4611686018427387903) ∧ (Sp.in10_9 ((IntKind.u32.wrap ((IntKind.u32.wrap ((1 : Int) * 2 ^ (min ((IntKind.u64.wrap x.1.1)).toNat IntKind.u32.bits))) - (1 : Int))), x.1) ((copyL (zrow ty71 ((x.1.2.2.2.2.2.2.2).length : Int)) x.2.2.2), (0 : Int))))) ∧ (((IntKind.i64.wrap (Int.tmod (IntKind.u64.wrap x.2.2.1.1) (9 : Int))) == (0 : Int)) = false → ((0 ≤ ((x.1.2.2.2.2.2.2.2).length : Int) ∧ ((x.1.2.2.2.2.2.2.2).length : Int) = ((x.1.2.2.2.2.2.2.2).length : Int) ∧ ((x.1.2.2.2.2.2.2.2).length : Int) * (56 : Int) ≤ 140737488355328 ∧ ((x.1.2.2.2.2.2.2.2).length : Int) ≤ 4611686018427387903) ∧ (Sp.in10_9 ((IntKind.u32.wrap ((IntKind.u32.wrap ((1 : Int) * 2 ^ (min ((IntKind.u64.wrap x.1.1)).toNat IntKind.u32.bits))) - (1 : Int))), x.1) ((copyL (zrow ty71 ((x.1.2.2.2.2.2.2.2).length : Int)) x.2.2.2), (0 : Int)))))))))))) (by kernel_rfl) (by
  try dsimp only [Ty.den] at *
  simp only [Fit, maxLen] at fx
  simp only [Sp.in10_9, Sp.pre10, Sp.bts_size, Sp.strCat_size, Sp.extract_size, Sp.stb_len, Sp.mk_size, IntKind.wrap_i64, IntKind.wrap_u8, IntKind.wrap_u32, IntKind.wrap_u64, Sp.tmod_lit, Sp.tdiv_lit, bne_eq_false_iff_eq, Int.natCast_inj, setE, copyL, sliceL, zrow, List.length_append, List.length_cons, List.length_nil, List.length_set, List.length_replicate, List.length_take, List.length_drop, decide_eq_true_eq, decide_eq_false_iff_not, Bool.or_eq_true, Bool.and_eq_true, Bool.or_eq_false_iff, Bool.and_eq_false_iff, Bool.not_eq_true', Bool.not_eq_false', Bool.not_eq_true, Bool.not_eq_false, beq_iff_eq, beq_eq_false_iff_ne, bne_iff_ne, ne_eq, implies_true, and_true, true_and] at *
  all_goals ((repeat' (first | exact trivial | apply And.intro | intro _)) <;> first | trivial | omega | exact Sp.tmod_nn (by omega) | exact Sp.tmod_lt (by omega) (by omega)))) (fun x => by kernel_rfl)
def LS18_8 : LS ty52.den := mkLS (Ty.pair ty26 ty26) (Ty.pair ty50 ty3)  [(6, none), (7, none)] [] [(8, none), (9, none)] [] [(0, 100800, true, 95)] [] [] 0 false Sp.in18_8 Sp.st18_8 Sp.mu18_8
set_option maxHeartbeats 4000000 in
theorem so18_8 (k : (Ty.pair ty26 ty26).den) (x : (Ty.pair ty50 ty3).den) (fk : Fit (Ty.pair ty26 ty26) k) (h : Sp.in18_8 k x) : StepOk false Sp.in18_8 Sp.mu18_8 k x (Sp.st18_8 k x) := by
  try dsimp only [Ty.den] at *
  simp only [Sp.in18_8, Fit, maxLen] at h fk
  unfold Sp.st18_8
  (repeat' (first | exact rfl | (refine StepOk.cnd (fun hc => ?_) (fun hc => ?_) <;> (try simp only [IntKind.wrap_i64, IntKind.wrap_u8, IntKind.wrap_u32, IntKind.wrap_u64, bne_eq_false_iff_eq, Int.natCast_inj, setE, copyL, sliceL, zrow, List.length_append, List.length_cons, List.length_nil, List.length_set, List.length_replicate, List.length_take, List.length_drop, decide_eq_true_eq, decide_eq_false_iff_not, Bool.or_eq_true, Bool.and_eq_true, Bool.or_eq_false_iff, Bool.and_eq_false_iff, Bool.not_eq_true', Bool.not_eq_false', Bool.not_eq_true, Bool.not_eq_false, beq_iff_eq, beq_eq_false_iff_ne, bne_iff_ne, ne_eq] at hc)) | refine StepOk.opt (fun _ => ?_))) <;> (first | exact rfl | (refine ⟨rfl, ?_, ?_⟩ <;> simp only [Sp.in18_8, Sp.mu18_8, Sp.K18_8_1, Sp.K18_8_2, Sp.K18_8_3, Sp.K18_8_4, Sp.bts_size, Sp.strCat_size, Sp.extract_size, Sp.stb_len, Sp.mk_size, IntKind.wrap_i64, IntKind.wrap_u8, IntKind.wrap_u32, IntKind.wrap_u64, Sp.tmod_lit, Sp.tdiv_lit, bne_eq_false_iff_eq, Int.natCast_inj, setE, copyL, sliceL, zrow, List.length_append, List.length_cons, List.length_nil, List.length_set, List.length_replicate, List.length_take, List.length_drop, decide_eq_true_eq, decide_eq_false_iff_not, Bool.or_eq_true, Bool.and_eq_true, Bool.or_eq_false_iff, Bool.and_eq_false_iff, Bool.not_eq_true', Bool.not_eq_false', Bool.not_eq_true, Bool.not_eq_false, beq_iff_eq, beq_eq_false_iff_ne, bne_iff_ne, ne_eq] <;> first | omega | (and_intros <;> first | omega | exact h.1 | exact h.2 | exact h.2.1 | exact h.2.2 | exact h.2.2.1 | exact h.2.2.2 | exact h.2.2.2.1 | exact h.2.2.2.2 | exact h.2.2.2.2.1 | exact h.2.2.2.2.2 | exact h.2.2.2.2.2.1 | exact h.2.2.2.2.2.2)))
set_option maxHeartbeats 4000000 in
theorem lo18_8 : LoopOk Try.prog gdS (RetAt Try.prog Try.f18 (Rsh.one (some 8)) (some 95) ty52) (bodyAt (bodyOf Try.f18) [0]) LS18_8 :=
  loop_run (ctxOkZ (zkokZmH3 true) pgokPmG0 fvok_none gokGmHj []) (L := lookL []) (d := BOut.brk (Ty.dflt (Ty.pair ty26 ty26)) (Ty.dflt (Ty.pair ty50 ty3))) (loops_of (l := []) (by kernel_rfl) (loops_nil)) (fun k x fk fx h => slim_of (S := (((decide (x.2 < ((x.1).length : Int))) = true → ((0 ≤ x.2 ∧ x.2 < ((x.1).length : Int)) ∧ (((6 : Int) ≠ 0) ∧ ((5 : Int) ≠ 0)))))) (by kernel_rfl) (by
  try dsimp only [Ty.den] at *
  simp only [Sp.in18_8, Fit, maxLen] at h fk fx
  simp only [Sp.bts_size, Sp.strCat_size, Sp.extract_size, Sp.stb_len, Sp.mk_size, IntKind.wrap_i64, IntKind.wrap_u8, IntKind.wrap_u32, IntKind.wrap_u64, Sp.tmod_lit, Sp.tdiv_lit, bne_eq_false_iff_eq, Int.natCast_inj, setE, copyL, sliceL, zrow, List.length_append, List.length_cons, List.length_nil, List.length_set, List.length_replicate, List.length_take, List.length_drop, decide_eq_true_eq, decide_eq_false_iff_not, Bool.or_eq_true, Bool.and_eq_true, Bool.or_eq_false_iff, Bool.and_eq_false_iff, Bool.not_eq_true', Bool.not_eq_false', Bool.not_eq_true, Bool.not_eq_false, beq_iff_eq, beq_eq_false_iff_ne, bne_iff_ne, ne_eq, implies_true, and_true, true_and] at *
  all_goals ((repeat' (first | exact trivial | apply And.intro | intro _)) <;> first | trivial | omega | exact Sp.tmod_nn (by omega) | exact Sp.tmod_lt (by omega) (by omega)))) (fun k x => by kernel_rfl) so18_8
def ct18 : Ct := { p := (Ty.pair ty25 ty52), psh := [some 8, some 8], r := ty52, rsh := (Rsh.one (some 8)), pre := some Sp.pre18, fresh := (some 95), F := Sp.F18 }
theorem ok18 : CtOk Try.prog gdS 18 ct18 :=
  fn_okU (ctxOkZ (zkokZmH3 true) pgokPmG0 fvok_none gokGmHj []) rfl Try.func18 (p := (Ty.pair ty25 ty52)) (psh := [some 8, some 8]) (r := ty52) (rsh := (Rsh.one (some 8))) (pre := some Sp.pre18) (fresh := (some 95)) (F := Sp.F18) (L := (lookL [(8, LS18_8)])) (c := bodyOf Try.f18) (dflt := Ty.dflt ty52) rfl (loops_of (l := [bodyAt (bodyOf Try.f18) [0]]) (by kernel_rfl) (loops_cons (s0 := LS18_8) (by kernel_rfl) lo18_8 (loops_nil)))
    (fun x fx hq => have h := hq _ rfl; slim_of (S := (((0 ≤ (IntKind.u64.wrap x.1.1)) ∧ ((0 ≤ (1 : Int)) ∧ (((65536 : Int) ≠ 0) ∧ ((0 ≤ ((x.1.2.2.2.2.2.2.2).length : Int) ∧ ((x.1.2.2.2.2.2.2.2).length : Int) = ((x.1.2.2.2.2.2.2.2).length : Int) ∧ ((x.1.2.2.2.2.2.2.2).length : Int) * (48 : Int) ≤ 140737488355328 ∧ ((x.1.2.2.2.2.2.2.2).length : Int) ≤ 4611686018427387903) ∧ (Sp.in18_8 ((Int.fdiv (IntKind.u32.wrap ((IntKind.u32.wrap ((1 : Int) * 2 ^ (min ((IntKind.u64.wrap x.1.1)).toNat IntKind.u32.bits))) - (1 : Int))) (2 ^ (min ((1 : Int)).toNat IntKind.u32.bits))), (IntKind.u32.wrap ((BitVec.ofInt IntKind.u32.bits (IntKind.u32.wrap ((IntKind.u32.wrap ((1 : Int) * 2 ^ (min ((IntKind.u64.wrap x.1.1)).toNat IntKind.u32.bits))) - (1 : Int))) &&& ~~~ BitVec.ofInt IntKind.u32.bits (1 : Int)).toNat : Int))) ((copyL (zrow ty95 ((x.1.2.2.2.2.2.2.2).length : Int)) x.2.2.2.2.2.2), (0 : Int))))))))) (by kernel_rfl) (by
  try dsimp only [Ty.den] at *
  simp only [Fit, maxLen] at fx
  simp only [Sp.in18_8, Sp.pre18, Sp.bts_size, Sp.strCat_size, Sp.extract_size, Sp.stb_len, Sp.mk_size, IntKind.wrap_i64, IntKind.wrap_u8, IntKind.wrap_u32, IntKind.wrap_u64, Sp.tmod_lit, Sp.tdiv_lit, bne_eq_false_iff_eq, Int.natCast_inj, setE, copyL, sliceL, zrow, List.length_append, List.length_cons, List.length_nil, List.length_set, List.length_replicate, List.length_take, List.length_drop, decide_eq_true_eq, decide_eq_false_iff_not, Bool.or_eq_true, Bool.and_eq_true, Bool.or_eq_false_iff, Bool.and_eq_false_iff, Bool.not_eq_true', Bool.not_eq_false', Bool.not_eq_true, Bool.not_eq_false, beq_iff_eq, beq_eq_false_iff_ne, bne_iff_ne, ne_eq, implies_true, and_true, true_and] at *
  all_goals ((repeat' (first | exact trivial | apply And.intro | intro _)) <;> first | trivial | omega | exact Sp.tmod_nn (by omega) | exact Sp.tmod_lt (by omega) (by omega)))) (fun x => by kernel_rfl)
def LS22_4 : LS ty4.den := mkLS (Ty.pair ty52 ty52) ty3  [] [(2, 8), (3, 8)] [(5, none)] [] [] [] [(2, 2), (3, 3)] 0 true Sp.in22_4 Sp.st22_4 Sp.mu22_4
set_option maxHeartbeats 4000000 in
theorem so22_4 (k : (Ty.pair ty52 ty52).den) (x : ty3.den) (fk : Fit (Ty.pair ty52 ty52) k) (h : Sp.in22_4 k x) : StepOk true Sp.in22_4 Sp.mu22_4 k x (Sp.st22_4 k x) := by
  try dsimp only [Ty.den] at *
  simp only [Sp.in22_4, Fit, maxLen] at h fk
  unfold Sp.st22_4
  (repeat' (first | exact rfl | (refine StepOk.cnd (fun hc => ?_) (fun hc => ?_) <;> (try simp only [IntKind.wrap_i64, IntKind.wrap_u8, IntKind.wrap_u32, IntKind.wrap_u64, bne_eq_false_iff_eq, Int.natCast_inj, setE, copyL, sliceL, zrow, List.length_append, List.length_cons, List.length_nil, List.length_set, List.length_replicate, List.length_take, List.length_drop, decide_eq_true_eq, decide_eq_false_iff_not, Bool.or_eq_true, Bool.and_eq_true, Bool.or_eq_false_iff, Bool.and_eq_false_iff, Bool.not_eq_true', Bool.not_eq_false', Bool.not_eq_true, Bool.not_eq_false, beq_iff_eq, beq_eq_false_iff_ne, bne_iff_ne, ne_eq] at hc)) | refine StepOk.opt (fun _ => ?_))) <;> (first | exact rfl | (refine ⟨rfl, ?_, ?_⟩ <;> simp only [Sp.in22_4, Sp.mu22_4, Sp.bts_size, Sp.strCat_size, Sp.extract_size, Sp.stb_len, Sp.mk_size, IntKind.wrap_i64, IntKind.wrap_u8, IntKind.wrap_u32, IntKind.wrap_u64, Sp.tmod_lit, Sp.tdiv_lit, bne_eq_false_iff_eq, Int.natCast_inj, setE, copyL, sliceL, zrow, List.length_append, List.length_cons, List.length_nil, List.length_set, List.length_replicate, List.length_take, List.length_drop, decide_eq_true_eq, decide_eq_false_iff_not, Bool.or_eq_true, Bool.and_eq_true, Bool.or_eq_false_iff, Bool.and_eq_false_iff, Bool.not_eq_true', Bool.not_eq_false', Bool.not_eq_true, Bool.not_eq_false, beq_iff_eq, beq_eq_false_iff_ne, bne_iff_ne, ne_eq] <;> first | omega | (and_intros <;> first | omega | exact h.1 | exact h.2 | exact h.2.1 | exact h.2.2 | exact h.2.2.1 | exact h.2.2.2 | exact h.2.2.2.1 | exact h.2.2.2.2 | exact h.2.2.2.2.1 | exact h.2.2.2.2.2 | exact h.2.2.2.2.2.1 | exact h.2.2.2.2.2.2)))
set_option maxHeartbeats 4000000 in
theorem lo22_4 : LoopOk Try.prog gdS (RetAt Try.prog Try.f22 (Rsh.one (none)) none ty4) (bodyAt (bodyOf Try.f22) [0]) LS22_4 :=
  loop_run (ctxOkZ (zkokZmH3 true) pgokPmG0 fvok_none gokGmHj []) (L := lookL []) (d := BOut.brk (Ty.dflt (Ty.pair ty52 ty52)) (Ty.dflt ty3)) (loops_of (l := []) (by kernel_rfl) (loops_nil)) (fun k x fk fx h => slim_of (S := (((decide (x < ((k.1.2.2.2.2.2).length : Int))) = true → ((0 ≤ x ∧ x < ((k.1.2.2.2.2.2).length : Int)) ∧ (0 ≤ x ∧ x < ((k.2.2.2.2.2.2).length : Int)))))) (by kernel_rfl) (by
  try dsimp only [Ty.den] at *
  simp only [Sp.in22_4, Fit, maxLen] at h fk fx
  simp only [Sp.bts_size, Sp.strCat_size, Sp.extract_size, Sp.stb_len, Sp.mk_size, IntKind.wrap_i64, IntKind.wrap_u8, IntKind.wrap_u32, IntKind.wrap_u64, Sp.tmod_lit, Sp.tdiv_lit, bne_eq_false_iff_eq, Int.natCast_inj, setE, copyL, sliceL, zrow, List.length_append, List.length_cons, List.length_nil, List.length_set, List.length_replicate, List.length_take, List.length_drop, decide_eq_true_eq, decide_eq_false_iff_not, Bool.or_eq_true, Bool.and_eq_true, Bool.or_eq_false_iff, Bool.and_eq_false_iff, Bool.not_eq_true', Bool.not_eq_false', Bool.not_eq_true, Bool.not_eq_false, beq_iff_eq, beq_eq_false_iff_ne, bne_iff_ne, ne_eq, implies_true, and_true, true_and] at *
  all_goals ((repeat' (first | exact trivial | apply And.intro | intro _)) <;> first | trivial | omega | exact Sp.tmod_nn (by omega) | exact Sp.tmod_lt (by omega) (by omega)))) (fun k x => by kernel_rfl) so22_4
def ct22 : Ct := { p := (Ty.pair ty52 ty52), psh := [some 8, some 8], r := ty4, rsh := (Rsh.one (none)), pre := none, fresh := none, F := Sp.F22 }
theorem ok22 : CtOk Try.prog gdS 22 ct22 :=
  fn_okU (ctxOkZ (zkokZmH3 true) pgokPmG0 fvok_none gokGmHj []) rfl Try.func22 (p := (Ty.pair ty52 ty52)) (psh := [some 8, some 8]) (r := ty4) (rsh := (Rsh.one (none))) (pre := none) (fresh := none) (F := Sp.F22) (L := (lookL [(4, LS22_4)])) (c := bodyOf Try.f22) (dflt := Ty.dflt ty4) rfl (loops_of (l := [bodyAt (bodyOf Try.f22) [0]]) (by kernel_rfl) (loops_cons (s0 := LS22_4) (by kernel_rfl) lo22_4 (loops_nil)))
    (fun x fx _ => slim_of (S := ((((((((!((x.1.1.1 == x.2.1.1) && (x.1.1.2 == x.2.1.2))) || (!((x.1.2.1.1 == x.2.2.1.1) && (x.1.2.1.2 == x.2.2.1.2)))) || (x.1.2.2.1 != x.2.2.2.1)) || (x.1.2.2.2.1 != x.2.2.2.2.1)) || (x.1.2.2.2.2.1 != x.2.2.2.2.2.1)) || (((x.1.2.2.2.2.2).length : Int) != ((x.2.2.2.2.2.2).length : Int))) = false → (Sp.in22_4 x (0 : Int))))) (by kernel_rfl) (by
  try dsimp only [Ty.den] at *
  simp only [Fit, maxLen] at fx
  simp only [Sp.in22_4, Sp.bts_size, Sp.strCat_size, Sp.extract_size, Sp.stb_len, Sp.mk_size, IntKind.wrap_i64, IntKind.wrap_u8, IntKind.wrap_u32, IntKind.wrap_u64, Sp.tmod_lit, Sp.tdiv_lit, bne_eq_false_iff_eq, Int.natCast_inj, setE, copyL, sliceL, zrow, List.length_append, List.length_cons, List.length_nil, List.length_set, List.length_replicate, List.length_take, List.length_drop, decide_eq_true_eq, decide_eq_false_iff_not, Bool.or_eq_true, Bool.and_eq_true, Bool.or_eq_false_iff, Bool.and_eq_false_iff, Bool.not_eq_true', Bool.not_eq_false', Bool.not_eq_true, Bool.not_eq_false, beq_iff_eq, beq_eq_false_iff_ne, bne_iff_ne, ne_eq, implies_true, and_true, true_and] at *
  all_goals ((repeat' (first | exact trivial | apply And.intro | intro _)) <;> first | trivial | omega | exact Sp.tmod_nn (by omega) | exact Sp.tmod_lt (by omega) (by omega)))) (fun x => by kernel_rfl)
def GmL0 : List (Nat × Ct) := (15, ct15) :: (41, ct41) :: (45, ct45) :: (46, ct46) :: (73, ct73) :: (58, ct58) :: (59, ct59) :: (35, ct35) :: (26, ct26) :: (14, ct14) :: (10, ct10) :: (18, ct18) :: (22, ct22) :: GmHj
theorem gokGmL0 : GOk GmL0 := gok_cons ok15 ⟨_, Try.func15, by kernel_rfl, by kernel_rfl⟩ (gok_cons ok41 ⟨_, Try.func41, by kernel_rfl, by kernel_rfl⟩ (gok_cons ok45 ⟨_, Try.func45, by kernel_rfl, by kernel_rfl⟩ (gok_cons ok46 ⟨_, Try.func46, by kernel_rfl, by kernel_rfl⟩ (gok_cons ok73 ⟨_, Try.func73, by kernel_rfl, by kernel_rfl⟩ (gok_cons ok58 ⟨_, Try.func58, by kernel_rfl, by kernel_rfl⟩ (gok_cons ok59 ⟨_, Try.func59, by kernel_rfl, by kernel_rfl⟩ (gok_cons ok35 ⟨_, Try.func35, by kernel_rfl, by kernel_rfl⟩ (gok_cons ok26 ⟨_, Try.func26, by kernel_rfl, by kernel_rfl⟩ (gok_cons ok14 ⟨_, Try.func14, by kernel_rfl, by kernel_rfl⟩ (gok_cons ok10 ⟨_, Try.func10, by kernel_rfl, by kernel_rfl⟩ (gok_cons ok18 ⟨_, Try.func18, by kernel_rfl, by kernel_rfl⟩ (gok_cons ok22 ⟨_, Try.func22, by kernel_rfl, by kernel_rfl⟩ (gokGmHj)))))))))))))
end Go.Proofs.Ytbnihoioblmgkaa.Sy
end

section
/- Numbers of bytes (own work). -/
namespace Go.Proofs.Ytbnihoioblmgkaa.Sp
open Go Sy
set_option linter.unusedVariables false
set_option linter.unusedSimpArgs false
def vle : List Int → Int
  | [] => 0 | b :: l => b + 256 * vle l
def Byt (l : List Int) : Prop := ∀ x ∈ l, 0 ≤ x ∧ x ≤ 255
theorem Byt.tl {b : Int} {l : List Int} (h : Byt (b :: l)) : Byt l := fun x hx => h x (by simp [hx])
theorem vle_rng : ∀ (l : List Int), Byt l → 0 ≤ vle l ∧ vle l < 256 ^ l.length
  | [], _ => by simp [vle]
  | b :: l, h => by
    obtain ⟨h1, h2⟩ := vle_rng l h.tl
    have hb := h b (by simp)
    simp only [vle, List.length_cons, Int.pow_succ]
    omega
theorem u8_eq (n : Int) : IntKind.u8.wrap n = n % 256 := IntKind.wrap_u8 n
theorem le_byt : ∀ (k : Nat) (n : Int), Byt (le n k)
  | 0, _ => fun x hx => by cases hx
  | k + 1, n => fun x hx => by
    simp only [le, List.mem_cons] at hx
    rcases hx with rfl | hx
    · rw [u8_eq]; omega
    · exact le_byt k _ x hx
theorem fdiv_eq (n : Int) : n.fdiv 256 = n / 256 := Int.fdiv_eq_ediv_of_nonneg _ (by omega)
theorem le_vle : ∀ (l : List Int), Byt l → le (vle l) l.length = l
  | [], _ => rfl
  | b :: l, h => by
    have hb := h b (by simp)
    simp only [vle, List.length_cons, le]
    rw [u8_eq, fdiv_eq, show (b + 256 * vle l) % 256 = b by omega, show (b + 256 * vle l) / 256 = vle l by omega, le_vle l h.tl]
theorem vle_le : ∀ (k : Nat) (n : Int), 0 ≤ n → n < 256 ^ k → vle (le n k) = n
  | 0, n, h0, h => by simp at h; simp [le, vle]; omega
  | k + 1, n, h0, h => by
    simp only [le, vle]
    rw [u8_eq, fdiv_eq, vle_le k (n / 256) (by omega) (by rw [Int.pow_succ] at h; omega)]
    omega
theorem vle_app : ∀ (l m : List Int), vle (l ++ m) = vle l + 256 ^ l.length * vle m
  | [], m => by simp [vle]
  | b :: l, m => by
    simp only [List.cons_append, vle, List.length_cons, vle_app l m, Int.pow_succ]
    have : (256 : Int) * (256 ^ l.length * vle m) = 256 ^ l.length * 256 * vle m := by rw [Int.mul_comm (256 ^ l.length) 256, Int.mul_assoc]
    omega
theorem ofInt_nat (n : Nat) (h : n < 2 ^ 64) : (BitVec.ofInt 64 (n : Int)).toNat = n := by
  simp only [BitVec.toNat_ofInt]
  omega
theorem or_step {a b : Int} {i : Nat} (hi : i ≤ 7) (ha : 0 ≤ a ∧ a < 256 ^ i) (hb : 0 ≤ b ∧ b ≤ 255) :
    IntKind.u64.wrap ((BitVec.ofInt IntKind.u64.bits a ||| BitVec.ofInt IntKind.u64.bits (IntKind.u64.wrap (IntKind.u64.wrap b * 2 ^ (min ((IntKind.u64.wrap (IntKind.i64.wrap ((8 : Int) * (i : Int)))).toNat) IntKind.u64.bits)))).toNat : Int) = a + b * 256 ^ i := by
  obtain ⟨m, rfl⟩ := Int.eq_ofNat_of_zero_le ha.1
  obtain ⟨c, rfl⟩ := Int.eq_ofNat_of_zero_le hb.1
  have e0 : IntKind.u64.wrap (IntKind.i64.wrap ((8 : Int) * (i : Int))) = 8 * (i : Int) := by
    rw [wrap_i64_of (by omega) (by omega), IntKind.wrap_u64]; omega
  have e1 : min ((8 * (i : Int)).toNat) IntKind.u64.bits = 8 * i := by
    show min ((8 * (i : Int)).toNat) 64 = 8 * i
    omega
  rw [e0, e1]
  have hc : c ≤ 255 := by omega
  have hm : m < 2 ^ (8 * i) := by
    have h := ha.2
    have : ((256 : Int) ^ i) = ((2 ^ (8 * i) : Nat) : Int) := by
      rw [show (256 : Int) = ((256 : Nat) : Int) from rfl, ← Int.natCast_pow, show (256 : Nat) = 2 ^ 8 from rfl, ← Nat.pow_mul]
    rw [this] at h
    omega
  have hp : (256 : Int) ^ i = ((2 ^ (8 * i) : Nat) : Int) := by
    rw [show (256 : Int) = ((256 : Nat) : Int) from rfl, ← Int.natCast_pow, show (256 : Nat) = 2 ^ 8 from rfl, ← Nat.pow_mul]
  have hp2 : (2 : Int) ^ (8 * i) = ((2 ^ (8 * i) : Nat) : Int) := by rw [Int.natCast_pow]; rfl
  have h56 : 2 ^ (8 * i) ≤ 2 ^ 56 := Nat.pow_le_pow_right (by omega) (by omega)
  have hcb : c * 2 ^ (8 * i) + m < 2 ^ 64 := by
    have : c * 2 ^ (8 * i) ≤ 255 * 2 ^ (8 * i) := Nat.mul_le_mul_right _ hc
    have h3 : (2 : Nat) ^ 64 = 256 * 2 ^ 56 := by decide
    omega
  have e2 : IntKind.u64.wrap (IntKind.u64.wrap (c : Int) * 2 ^ (8 * i)) = ((c * 2 ^ (8 * i) : Nat) : Int) := by
    rw [IntKind.wrap_u64 (c : Int), show (c : Int) % 18446744073709551616 = (c : Int) by omega, hp2, ← Int.natCast_mul, IntKind.wrap_u64]
    omega
  rw [e2, hp, ← Int.natCast_mul, ← Int.natCast_add]
  show IntKind.u64.wrap (((BitVec.ofInt 64 (m : Int) ||| BitVec.ofInt 64 ((c * 2 ^ (8 * i) : Nat) : Int)).toNat : Nat) : Int) = _
  rw [BitVec.toNat_or, ofInt_nat _ (by omega), ofInt_nat _ (by omega), Nat.or_comm, Nat.mul_comm c, ← Nat.two_pow_add_eq_or_of_lt hm, IntKind.wrap_u64]
  rw [Nat.mul_comm c] at hcb
  omega
theorem or_step' {a b : Int} {i : Nat} (hi : i ≤ 7) (ha : 0 ≤ a ∧ a < 256 ^ i) (hb : 0 ≤ b ∧ b ≤ 255) :
    IntKind.u64.wrap ((BitVec.ofInt IntKind.u64.bits a ||| BitVec.ofInt IntKind.u64.bits (IntKind.u64.wrap (IntKind.u64.wrap b * 2 ^ (min ((IntKind.i64.wrap ((8 : Int) * (i : Int))).toNat) IntKind.u64.bits)))).toNat : Int) = a + b * 256 ^ i := by
  have := or_step hi ha hb
  have e0 : IntKind.u64.wrap (IntKind.i64.wrap ((8 : Int) * (i : Int))) = IntKind.i64.wrap ((8 : Int) * (i : Int)) := by
    rw [wrap_i64_of (by omega) (by omega), IntKind.wrap_u64]; omega
  rwa [e0] at this
theorem vle_end {K ρ : Type} {st : K → Int × Int → BOut K (Int × Int) ρ} {k : K} (bs : List Int) (hb : Byt bs) (hl : bs.length ≤ 8) (hn : ∀ (i : Nat) (n : Int), i < bs.length → 0 ≤ n ∧ n < 256 ^ i → st k (n, (i : Int)) = .next k (n + bs.getD i 0 * 256 ^ i, (i : Int) + 1))
    (hbr : ∀ n, st k (n, (bs.length : Int)) = .brk k (n, (bs.length : Int))) : ∀ (f i : Nat) (n : Int), i ≤ bs.length → bs.length - i < f → (0 ≤ n ∧ n < 256 ^ i) → (endOf st k f (n, (i : Int))).1 = n + 256 ^ i * vle (bs.drop i)
  | 0, i, n, _, h, _ => by omega
  | f + 1, i, n, hi, hf, hr => by
    unfold endOf
    rcases Nat.lt_or_ge i bs.length with h | h
    · have hbi : 0 ≤ bs.getD i 0 ∧ bs.getD i 0 ≤ 255 := by
        rw [List.getD_eq_getElem?_getD, List.getElem?_eq_getElem h]
        exact hb _ (List.getElem_mem h)
      rw [hn i n h hr]
      have e : (i : Int) + 1 = ((i + 1 : Nat) : Int) := by omega
      simp only [e]
      have hp : (256 : Int) ^ (i + 1) = 256 * 256 ^ i := by rw [Int.pow_succ, Int.mul_comm]
      have hp0 : 0 ≤ bs.getD i 0 * 256 ^ i := Int.mul_nonneg hbi.1 (Int.pow_nonneg (by omega))
      have hp1 : bs.getD i 0 * 256 ^ i ≤ 255 * 256 ^ i := Int.mul_le_mul_of_nonneg_right hbi.2 (Int.pow_nonneg (by omega))
      rw [vle_end bs hb hl hn hbr f (i + 1) _ h (by omega) (by rw [hp]; omega), List.drop_eq_getElem_cons h]
      simp only [vle]
      have e2 : bs.getD i 0 = bs[i] := by rw [List.getD_eq_getElem?_getD, List.getElem?_eq_getElem h]; rfl
      rw [e2, hp, Int.mul_add, Int.mul_comm bs[i], Int.add_assoc]
      congr 2
      rw [← Int.mul_assoc, Int.mul_comm 256]
    · have : i = bs.length := by omega
      subst this
      rw [hbr n]
      simp only
      rw [List.drop_eq_nil_of_le (Nat.le_refl _)]
      simp [vle]
theorem vle_end0 {K ρ : Type} {st : K → Int × Int → BOut K (Int × Int) ρ} {k : K} (bs : List Int) (hb : Byt bs) (hl : bs.length ≤ 8) (hn : ∀ (i : Nat) (n : Int), i < bs.length → 0 ≤ n ∧ n < 256 ^ i → st k (n, (i : Int)) = .next k (n + bs.getD i 0 * 256 ^ i, (i : Int) + 1))
    (hbr : ∀ n, st k (n, (bs.length : Int)) = .brk k (n, (bs.length : Int))) (f : Nat) (hf : bs.length < f) : (endOf st k f ((0 : Int), (0 : Int))).1 = vle bs := by
  have := vle_end bs hb hl hn hbr f 0 0 (Nat.zero_le _) (by omega) (by simp)
  simpa using this
theorem get_val (k : Nat) (r : Rdr) (hk : k ≤ 8) (hs : k ≤ r.1.size) : (F67 ((k : Int), r)).1 = vle ((stb r.1).take k) := by
  have hl : ((stb r.1).take k).length = k := by simp; omega
  unfold F67 G67_3
  refine vle_end0 ((stb r.1).take k) (fun x hx => stb_rng _ x (List.mem_of_mem_take hx)) (by omega) (fun i n hi hn => ?_) (fun n => ?_) _ (by unfold mu67_3; simp only; omega)
  · rw [hl] at hi
    unfold st67_3
    have h1 : decide ((i : Int) < (k : Int)) = true := by simp; omega
    simp only [h1, cond_true]
    have e : strAt r.1 (i : Int) = ((stb r.1).take k).getD i 0 := by
      rw [strAt_eq]
      simp [List.getD_eq_getElem?_getD, List.getElem?_take, hi]
    rw [wrap_i64_of (x := (i : Int) + 1) (by omega) (by omega), or_step' (by omega) hn (strAt_rng _ _), e]
  · rw [hl]
    unfold st67_3
    simp
theorem value_val (s : ByteArray) (a k : Nat) (hk : k ≤ 8) (hs : a + k ≤ s.size) (hs2 : s.size ≤ 99000) : F45 (s, (a : Int), (k : Int)) = vle (((stb s).drop a).take k) := by
  have hl : (((stb s).drop a).take k).length = k := by simp; omega
  unfold F45 G45_3
  refine vle_end0 (((stb s).drop a).take k) (fun x hx => stb_rng _ x (List.mem_of_mem_drop (List.mem_of_mem_take hx))) (by omega) (fun i n hi hn => ?_) (fun n => ?_) _ (by unfold mu45_3; simp only; omega)
  · rw [hl] at hi
    unfold st45_3
    have h1 : decide ((i : Int) < (k : Int)) = true := by simp; omega
    simp only [h1, cond_true]
    have e : strAt s ((a : Int) + (i : Int)) = (((stb s).drop a).take k).getD i 0 := by
      rw [strAt_eq, show ((a : Int) + (i : Int)).toNat = a + i by omega]
      simp [List.getD_eq_getElem?_getD, List.getElem?_take, hi]
    rw [wrap_i64_of (x := (i : Int) + 1) (by omega) (by omega), wrap_i64_of (x := (a : Int) + (i : Int)) (by omega) (by omega), or_step (by omega) hn (strAt_rng _ _), e]
  · rw [hl]
    unfold st45_3
    simp
def leAt (n : Int) (i : Nat) : Int := IntKind.u8.wrap (n / 256 ^ i)
theorem le_map : ∀ (k : Nat) (n : Int), le n k = (List.range k).map (leAt n)
  | 0, _ => rfl
  | k + 1, n => by
    rw [List.range_succ_eq_map, List.map_cons, List.map_map]
    simp only [le]
    rw [le_map k]
    have h0 : leAt n 0 = IntKind.u8.wrap n := by unfold leAt; simp
    rw [h0]
    congr 1
    apply List.map_congr_left
    intro i _
    simp only [Function.comp, leAt]
    rw [fdiv_eq, Int.pow_succ, Int.mul_comm, ← Int.ediv_ediv_of_nonneg (by omega)]
theorem num_end (n : Int) (k : Nat) (hk : k ≤ 8) : ∀ (f i : Nat) (l : List Int), l.length = k → i ≤ k → k - i < f → (endOf st35_3 (n, (k : Int)) f (l, (i : Int))).1 = l.take i ++ ((List.range k).drop i).map (leAt n)
  | 0, i, l, _, _, h => by omega
  | f + 1, i, l, hl, hi, hf => by
    unfold endOf
    rcases Nat.lt_or_ge i k with h | h
    · have hst : st35_3 (n, (k : Int)) (l, (i : Int)) = .next (n, (k : Int)) (l.set i (leAt n i), ((i + 1 : Nat) : Int)) := by
        unfold st35_3
        have h1 : decide ((i : Int) < (k : Int)) = true := by simp; omega
        simp only [h1, cond_true]
        have e0 : IntKind.u64.wrap (IntKind.i64.wrap ((8 : Int) * (i : Int))) = 8 * (i : Int) := by
          rw [wrap_i64_of (by omega) (by omega), IntKind.wrap_u64]; omega
        have e1 : min ((8 * (i : Int)).toNat) IntKind.u64.bits = 8 * i := by
          show min ((8 * (i : Int)).toNat) 64 = 8 * i
          omega
        have hp : (2 : Int) ^ (8 * i) = 256 ^ i := by rw [Int.pow_mul]; rfl
        rw [e0, e1, wrap_i64_of (x := (i : Int) + 1) (by omega) (by omega), hp, Int.fdiv_eq_ediv_of_nonneg _ (Int.pow_nonneg (by omega))]
        simp [setE, leAt]
      rw [hst]
      simp only
      rw [num_end n k hk f (i + 1) _ (by simpa using hl) h (by omega)]
      have hd : (List.range k).drop i = i :: (List.range k).drop (i + 1) := by
        rw [List.drop_eq_getElem_cons (by simpa using h)]
        simp
      rw [hd, List.map_cons, List.take_add_one, List.getElem?_set_self (by omega), List.take_set, List.set_eq_of_length_le (by simp; omega)]
      simp
    · have : i = k := by omega
      subst this
      have hst : st35_3 (n, (i : Int)) (l, (i : Int)) = .brk (n, (i : Int)) (l, (i : Int)) := by
        unfold st35_3
        simp
      rw [hst]
      simp only
      rw [List.take_of_length_le (by omega), List.drop_eq_nil_of_le (by simp)]
      simp
theorem num_eq (n : Int) (k : Nat) (hk : k ≤ 8) : F35 (n, (k : Int)) = bts (le n k) := by
  unfold F35 G35_3
  have := num_end n k hk (Nat.succ (mu35_3 (n, (k : Int)) ((zrow ty5 (k : Int)), (0 : Int)))) 0 (zrow ty5 (k : Int)) (by simp [zrow]) (Nat.zero_le _) (by unfold mu35_3; simp only; omega)
  rw [show ((0 : Nat) : Int) = 0 from rfl] at this
  rw [this, le_map]
  simp
theorem num1 (n : Int) : F35 (n, 1) = bts (le n 1) := num_eq n 1 (by omega)
theorem num2 (n : Int) : F35 (n, 2) = bts (le n 2) := num_eq n 2 (by omega)
theorem num4 (n : Int) : F35 (n, 4) = bts (le n 4) := num_eq n 4 (by omega)
theorem num8 (n : Int) : F35 (n, 8) = bts (le n 8) := num_eq n 8 (by omega)
theorem bts_cat (l m : List Int) : strCat (bts l) (bts m) = bts (l ++ m) := by
  apply ba_ext
  rw [strCat_data, bts_data, bts_data, bts_data, List.map_append]
end Go.Proofs.Ytbnihoioblmgkaa.Sp
end

section
/- Contracts of functions, by the evaluator (own program gen.py): overlayref02.Seal, overlayref03.sets, overlayref01.Hall, overlayref03.calls, overlayref03.bits, overlaylaw03.sane. -/
set_option linter.unusedVariables false
set_option linter.unusedSimpArgs false
set_option maxRecDepth 100000
namespace Go.Proofs.Ytbnihoioblmgkaa.Sp
open Go Go.RowKit Sy
def F16 (x : ByteArray) : ByteArray :=
  (strCat x (bts [(IntKind.u8.wrap (IntKind.u16.wrap (Int.tdiv (Sp.F41 x) (256 : Int)))), (IntKind.u8.wrap (Int.tmod (Sp.F41 x) (256 : Int)))]))
def pre16 (x : ByteArray) : Prop := x.size ≤ 99990
def F44 (x : ByteArray × Int) : Int × Int :=
  ((IntKind.u32.wrap (Sp.F45 (x.1, x.2, (4 : Int)))), (IntKind.u32.wrap (Sp.F45 (x.1, (IntKind.i64.wrap (x.2 + (4 : Int))), (4 : Int)))))
def pre44 (x : ByteArray × Int) : Prop := 0 ≤ x.2 ∧ x.2 + 8 ≤ (x.1.size : Int) ∧ x.1.size ≤ 99000
def in72_3 (k : (BldT)) (x : (Int × Int × Int)) : Prop := (0 : Int) ≤ x.1
def mu72_3 (k : (BldT)) (x : (Int × Int × Int)) : Nat := ((32 : Int) - x.1).toNat
def st72_3 (k : (BldT)) (x : (Int × Int × Int)) : BOut (BldT) (Int × Int × Int) (Int × Int) :=
  bif (decide (x.1 < (32 : Int))) then
    (bif (Sp.F73 (k, x.1, (1 : Int))) then
      (bif (Sp.F73 (k, x.1, (2 : Int))) then
        BOut.next k ((IntKind.i64.wrap (x.1 + (1 : Int))), (IntKind.u32.wrap ((BitVec.ofInt IntKind.u32.bits x.2.1 ||| BitVec.ofInt IntKind.u32.bits (IntKind.u32.wrap ((1 : Int) * 2 ^ (min ((IntKind.u64.wrap x.1)).toNat IntKind.u32.bits)))).toNat : Int)), (IntKind.u32.wrap ((BitVec.ofInt IntKind.u32.bits x.2.2 ||| BitVec.ofInt IntKind.u32.bits (IntKind.u32.wrap ((1 : Int) * 2 ^ (min ((IntKind.u64.wrap x.1)).toNat IntKind.u32.bits)))).toNat : Int)))
      else
        BOut.next k ((IntKind.i64.wrap (x.1 + (1 : Int))), (IntKind.u32.wrap ((BitVec.ofInt IntKind.u32.bits x.2.1 ||| BitVec.ofInt IntKind.u32.bits (IntKind.u32.wrap ((1 : Int) * 2 ^ (min ((IntKind.u64.wrap x.1)).toNat IntKind.u32.bits)))).toNat : Int)), x.2.2))
    else
      bif (Sp.F73 (k, x.1, (2 : Int))) then
        BOut.next k ((IntKind.i64.wrap (x.1 + (1 : Int))), x.2.1, (IntKind.u32.wrap ((BitVec.ofInt IntKind.u32.bits x.2.2 ||| BitVec.ofInt IntKind.u32.bits (IntKind.u32.wrap ((1 : Int) * 2 ^ (min ((IntKind.u64.wrap x.1)).toNat IntKind.u32.bits)))).toNat : Int)))
      else
        BOut.next k ((IntKind.i64.wrap (x.1 + (1 : Int))), x.2))
  else
    BOut.brk k x
def G72_3 (k : (BldT)) (x : (Int × Int × Int)) : (Int × Int × Int) := endOf st72_3 k (Nat.succ (mu72_3 k x)) x
def F72 (x : BldT) : Int × Int :=
  (Sp.G72_3 x ((0 : Int), (0 : Int), (0 : Int))).2
def F36 (x : Int × Int) : ByteArray :=
  (strCat (Sp.F35 ((IntKind.u64.wrap x.1), (4 : Int))) (Sp.F35 ((IntKind.u64.wrap x.2), (4 : Int))))
def in37_3 (k : (List Bool)) (x : (Int × Int)) : Prop := (0 : Int) ≤ x.2
def mu37_3 (k : (List Bool)) (x : (Int × Int)) : Nat := (((k).length : Int) - x.2).toNat
def st37_3 (k : (List Bool)) (x : (Int × Int)) : BOut (List Bool) (Int × Int) (ByteArray) :=
  bif (decide (x.2 < ((k).length : Int))) then
    (bif (Sp.nthT k x.2) then
      BOut.next k ((IntKind.u64.wrap ((BitVec.ofInt IntKind.u64.bits x.1 ||| BitVec.ofInt IntKind.u64.bits (IntKind.u64.wrap ((1 : Int) * 2 ^ (min ((IntKind.u64.wrap x.2)).toNat IntKind.u64.bits)))).toNat : Int)), (IntKind.i64.wrap (x.2 + (1 : Int))))
    else
      BOut.next k (x.1, (IntKind.i64.wrap (x.2 + (1 : Int)))))
  else
    BOut.brk k x
def G37_3 (k : (List Bool)) (x : (Int × Int)) : (Int × Int) := endOf st37_3 k (Nat.succ (mu37_3 k x)) x
def F37 (x : List Bool) : ByteArray :=
  (Sp.F35 ((Sp.G37_3 x ((0 : Int), (0 : Int))).1, (1 : Int)))
def pre37 (x : List Bool) : Prop := x.length ≤ 8
def K8_1 (x : Unit) :=
  (Sp.F13 ((Sp.F25 ((3 : Int), (1 : Int))), (Sp.F11 ((Sp.F25 ((3 : Int), (1 : Int))), ((1 : Int), (0 : Int)), ((0 : Int), (0 : Int)), [(((0 : Int), false, false, false, false), ((0 : Int), false, (0 : Int), false), (0 : Int), (Sp.F26 (1 : Int)))])).1))
def F8 (x : Unit) : Bool :=
  ((((((((Sp.F11 ((Sp.F25 ((3 : Int), (1 : Int))), ((1 : Int), (0 : Int)), ((0 : Int), (0 : Int)), [(((0 : Int), false, false, false, false), ((0 : Int), false, (0 : Int), false), (0 : Int), (Sp.F26 (1 : Int)))])).2 == (0 : Int)) && ((((Sp.F11 ((Sp.F25 ((3 : Int), (1 : Int))), ((1 : Int), (0 : Int)), ((0 : Int), (0 : Int)), [(((0 : Int), false, false, false, false), ((0 : Int), false, (0 : Int), false), (0 : Int), (Sp.F26 (1 : Int)))])).1).size : Int) == (33 : Int))) && ((strAt ((Sp.F11 ((Sp.F25 ((3 : Int), (1 : Int))), ((1 : Int), (0 : Int)), ((0 : Int), (0 : Int)), [(((0 : Int), false, false, false, false), ((0 : Int), false, (0 : Int), false), (0 : Int), (Sp.F26 (1 : Int)))])).1) (0 : Int)) == (165 : Int))) && ((strAt ((Sp.F11 ((Sp.F25 ((3 : Int), (1 : Int))), ((1 : Int), (0 : Int)), ((0 : Int), (0 : Int)), [(((0 : Int), false, false, false, false), ((0 : Int), false, (0 : Int), false), (0 : Int), (Sp.F26 (1 : Int)))])).1) (1 : Int)) == (1 : Int))) && ((Sp.K8_1 x).2 == (0 : Int))) && (Sp.F14 ((((1 : Int), (0 : Int)), ((0 : Int), (0 : Int)), [(((0 : Int), false, false, false, false), ((0 : Int), false, (0 : Int), false), (0 : Int), (Sp.F26 (1 : Int)))]), (Sp.K8_1 x).1))) && ((Sp.F13 ((Sp.F25 ((3 : Int), (1 : Int))), (ByteArray.mk #[]))).2 == (4 : Int)))
end Go.Proofs.Ytbnihoioblmgkaa.Sp
namespace Go.Proofs.Ytbnihoioblmgkaa.Sy
open Go Go.RowKit Sp
def ct16 : Ct := { p := ty9, psh := [none], r := ty9, rsh := (Rsh.one (none)), pre := some Sp.pre16, fresh := none, F := Sp.F16 }
theorem ok16 : CtOk Try.prog gdS 16 ct16 :=
  fn_okU (ctxOkZ (zkokZmH3 true) pgokPmG0 fvok_none gokGmL0 []) rfl Try.func16 (p := ty9) (psh := [none]) (r := ty9) (rsh := (Rsh.one (none))) (pre := some Sp.pre16) (fresh := none) (F := Sp.F16) (L := noL) (c := bodyOf Try.f16) (dflt := Ty.dflt ty9) rfl (no_loops)
    (fun x fx hq => have h := hq _ rfl; safe_of (S := (((Sp.pre41 x) ∧ (((256 : Int) ≠ 0) ∧ (((256 : Int) ≠ 0) ∧ ((((ByteArray.size x : Nat) : Int) + ((ByteArray.size (bts [(IntKind.u8.wrap (IntKind.u16.wrap (Int.tdiv (Sp.F41 x) (256 : Int)))), (IntKind.u8.wrap (Int.tmod (Sp.F41 x) (256 : Int)))]) : Nat) : Int) ≤ 9223372036854775807) ∧ True)))))) (by kernel_rfl) (by
  try dsimp only [Ty.den] at *
  have h : x.size ≤ 99990 := h
  refine ⟨show x.size ≤ 100000 by omega, by omega, by omega, ?_, trivial⟩
  rw [Sp.bts_size]
  simp only [List.length_cons, List.length_nil]
  omega)) (fun x => by kernel_rfl)
def ct44 : Ct := { p := (Ty.pair ty9 ty3), psh := [none, none], r := ty28, rsh := (Rsh.one (some 2)), pre := some Sp.pre44, fresh := none, F := Sp.F44 }
theorem ok44 : CtOk Try.prog gdS 44 ct44 :=
  fn_okU (ctxOkZ (zkokZmH3 true) pgokPmG0 fvok_none gokGmL0 []) rfl Try.func44 (p := (Ty.pair ty9 ty3)) (psh := [none, none]) (r := ty28) (rsh := (Rsh.one (some 2))) (pre := some Sp.pre44) (fresh := none) (F := Sp.F44) (L := noL) (c := bodyOf Try.f44) (dflt := Ty.dflt ty28) rfl (no_loops)
    (fun x fx hq => have h := hq _ rfl; slim_of (S := (((Sp.pre45 (x.1, x.2, (4 : Int))) ∧ (Sp.pre45 (x.1, (IntKind.i64.wrap (x.2 + (4 : Int))), (4 : Int)))))) (by kernel_rfl) (by
  try dsimp only [Ty.den] at *
  simp only [Fit, maxLen] at fx
  simp only [Sp.pre44, Sp.pre45, Sp.num1, Sp.num2, Sp.num4, Sp.num8, Sp.le_len, Sp.bts_size, Sp.strCat_size, Sp.extract_size, Sp.stb_len, Sp.mk_size, List.length_cons, List.length_nil, IntKind.wrap_i64, IntKind.wrap_u8, IntKind.wrap_u32, IntKind.wrap_u64, Sp.tmod_lit, Sp.tdiv_lit, bne_eq_false_iff_eq, Int.natCast_inj, setE, copyL, sliceL, zrow, List.length_append, List.length_cons, List.length_nil, List.length_set, List.length_replicate, List.length_take, List.length_drop, decide_eq_true_eq, decide_eq_false_iff_not, Bool.or_eq_true, Bool.and_eq_true, Bool.or_eq_false_iff, Bool.and_eq_false_iff, Bool.not_eq_true', Bool.not_eq_false', Bool.not_eq_true, Bool.not_eq_false, beq_iff_eq, beq_eq_false_iff_ne, bne_iff_ne, ne_eq, implies_true, and_true, true_and] at *
  all_goals ((repeat' (first | exact trivial | apply And.intro | intro _)) <;> first | trivial | omega | exact Sp.tmod_nn (by omega) | exact Sp.tmod_lt (by omega) (by omega)))) (fun x => by kernel_rfl)
def LS72_3 : LS ty28.den := mkLS ty25 (Ty.pair ty3 ty28)  [] [(1, 8)] [(4, none)] [(3, 2)] [] [] [(1, 1), (3, 3)] 0 false Sp.in72_3 Sp.st72_3 Sp.mu72_3
set_option maxHeartbeats 4000000 in
theorem so72_3 (k : ty25.den) (x : (Ty.pair ty3 ty28).den) (fk : Fit ty25 k) (h : Sp.in72_3 k x) : StepOk false Sp.in72_3 Sp.mu72_3 k x (Sp.st72_3 k x) := by
  try dsimp only [Ty.den] at *
  simp only [Sp.in72_3, Fit, maxLen] at h fk
  unfold Sp.st72_3
  (repeat' (first | exact rfl | (refine StepOk.cnd (fun hc => ?_) (fun hc => ?_) <;> (try simp only [IntKind.wrap_i64, IntKind.wrap_u8, IntKind.wrap_u32, IntKind.wrap_u64, bne_eq_false_iff_eq, Int.natCast_inj, setE, copyL, sliceL, zrow, List.length_append, List.length_cons, List.length_nil, List.length_set, List.length_replicate, List.length_take, List.length_drop, decide_eq_true_eq, decide_eq_false_iff_not, Bool.or_eq_true, Bool.and_eq_true, Bool.or_eq_false_iff, Bool.and_eq_false_iff, Bool.not_eq_true', Bool.not_eq_false', Bool.not_eq_true, Bool.not_eq_false, beq_iff_eq, beq_eq_false_iff_ne, bne_iff_ne, ne_eq] at hc)) | refine StepOk.opt (fun _ => ?_))) <;> (first | exact rfl | (refine ⟨rfl, ?_, ?_⟩ <;> simp only [Sp.in72_3, Sp.mu72_3, Sp.num1, Sp.num2, Sp.num4, Sp.num8, Sp.le_len, Sp.bts_size, Sp.strCat_size, Sp.extract_size, Sp.stb_len, Sp.mk_size, List.length_cons, List.length_nil, IntKind.wrap_i64, IntKind.wrap_u8, IntKind.wrap_u32, IntKind.wrap_u64, Sp.tmod_lit, Sp.tdiv_lit, bne_eq_false_iff_eq, Int.natCast_inj, setE, copyL, sliceL, zrow, List.length_append, List.length_cons, List.length_nil, List.length_set, List.length_replicate, List.length_take, List.length_drop, decide_eq_true_eq, decide_eq_false_iff_not, Bool.or_eq_true, Bool.and_eq_true, Bool.or_eq_false_iff, Bool.and_eq_false_iff, Bool.not_eq_true', Bool.not_eq_false', Bool.not_eq_true, Bool.not_eq_false, beq_iff_eq, beq_eq_false_iff_ne, bne_iff_ne, ne_eq] <;> first | omega | (and_intros <;> first | omega | exact h.1 | exact h.2 | exact h.2.1 | exact h.2.2 | exact h.2.2.1 | exact h.2.2.2 | exact h.2.2.2.1 | exact h.2.2.2.2 | exact h.2.2.2.2.1 | exact h.2.2.2.2.2 | exact h.2.2.2.2.2.1 | exact h.2.2.2.2.2.2)))
set_option maxHeartbeats 4000000 in
theorem lo72_3 : LoopOk Try.prog gdS (RetAt Try.prog Try.f72 (Rsh.one (some 2)) none ty28) (bodyAt (bodyOf Try.f72) [0]) LS72_3 :=
  loop_run (ctxOkZ (zkokZmH3 true) pgokPmG0 fvok_none gokGmL0 []) (L := lookL []) (d := BOut.brk (Ty.dflt ty25) (Ty.dflt (Ty.pair ty3 ty28))) (loops_of (l := []) (by kernel_rfl) (loops_nil)) (fun k x fk fx h => slim_of (S := (((decide (x.1 < (32 : Int))) = true → (((Sp.F73 (k, x.1, (1 : Int))) = true → ((0 ≤ (IntKind.u64.wrap x.1)) ∧ ((Sp.F73 (k, x.1, (2 : Int))) = true → (0 ≤ (IntKind.u64.wrap x.1))))) ∧ ((Sp.F73 (k, x.1, (1 : Int))) = false → ((Sp.F73 (k, x.1, (2 : Int))) = true → (0 ≤ (IntKind.u64.wrap x.1)))))))) (by kernel_rfl) (by
  try dsimp only [Ty.den] at *
  simp only [Sp.in72_3, Fit, maxLen] at h fk fx
  simp only [Sp.num1, Sp.num2, Sp.num4, Sp.num8, Sp.le_len, Sp.bts_size, Sp.strCat_size, Sp.extract_size, Sp.stb_len, Sp.mk_size, List.length_cons, List.length_nil, IntKind.wrap_i64, IntKind.wrap_u8, IntKind.wrap_u32, IntKind.wrap_u64, Sp.tmod_lit, Sp.tdiv_lit, bne_eq_false_iff_eq, Int.natCast_inj, setE, copyL, sliceL, zrow, List.length_append, List.length_cons, List.length_nil, List.length_set, List.length_replicate, List.length_take, List.length_drop, decide_eq_true_eq, decide_eq_false_iff_not, Bool.or_eq_true, Bool.and_eq_true, Bool.or_eq_false_iff, Bool.and_eq_false_iff, Bool.not_eq_true', Bool.not_eq_false', Bool.not_eq_true, Bool.not_eq_false, beq_iff_eq, beq_eq_false_iff_ne, bne_iff_ne, ne_eq, implies_true, and_true, true_and] at *
  all_goals ((repeat' (first | exact trivial | apply And.intro | intro _)) <;> first | trivial | omega | exact Sp.tmod_nn (by omega) | exact Sp.tmod_lt (by omega) (by omega)))) (fun k x => by kernel_rfl) so72_3
def ct72 : Ct := { p := ty25, psh := [some 8], r := ty28, rsh := (Rsh.one (some 2)), pre := none, fresh := none, F := Sp.F72 }
theorem ok72 : CtOk Try.prog gdS 72 ct72 :=
  fn_okU (ctxOkZ (zkokZmH3 true) pgokPmG0 fvok_none gokGmL0 []) rfl Try.func72 (p := ty25) (psh := [some 8]) (r := ty28) (rsh := (Rsh.one (some 2))) (pre := none) (fresh := none) (F := Sp.F72) (L := (lookL [(3, LS72_3)])) (c := bodyOf Try.f72) (dflt := Ty.dflt ty28) rfl (loops_of (l := [bodyAt (bodyOf Try.f72) [0]]) (by kernel_rfl) (loops_cons (s0 := LS72_3) (by kernel_rfl) lo72_3 (loops_nil)))
    (fun x fx _ => slim_of (S := ((Sp.in72_3 x ((0 : Int), (0 : Int), (0 : Int))))) (by kernel_rfl) (by
  try dsimp only [Ty.den] at *
  simp only [Fit, maxLen] at fx
  simp only [Sp.in72_3, Sp.num1, Sp.num2, Sp.num4, Sp.num8, Sp.le_len, Sp.bts_size, Sp.strCat_size, Sp.extract_size, Sp.stb_len, Sp.mk_size, List.length_cons, List.length_nil, IntKind.wrap_i64, IntKind.wrap_u8, IntKind.wrap_u32, IntKind.wrap_u64, Sp.tmod_lit, Sp.tdiv_lit, bne_eq_false_iff_eq, Int.natCast_inj, setE, copyL, sliceL, zrow, List.length_append, List.length_cons, List.length_nil, List.length_set, List.length_replicate, List.length_take, List.length_drop, decide_eq_true_eq, decide_eq_false_iff_not, Bool.or_eq_true, Bool.and_eq_true, Bool.or_eq_false_iff, Bool.and_eq_false_iff, Bool.not_eq_true', Bool.not_eq_false', Bool.not_eq_true, Bool.not_eq_false, beq_iff_eq, beq_eq_false_iff_ne, bne_iff_ne, ne_eq, implies_true, and_true, true_and] at *
  all_goals ((repeat' (first | exact trivial | apply And.intro | intro _)) <;> first | trivial | omega | exact Sp.tmod_nn (by omega) | exact Sp.tmod_lt (by omega) (by omega)))) (fun x => by kernel_rfl)
def ct36 : Ct := { p := ty28, psh := [some 2], r := ty9, rsh := (Rsh.one (none)), pre := none, fresh := none, F := Sp.F36 }
theorem ok36 : CtOk Try.prog gdS 36 ct36 :=
  fn_okU (ctxOkZ (zkokZmH3 true) pgokPmG0 fvok_none gokGmL0 []) rfl Try.func36 (p := ty28) (psh := [some 2]) (r := ty9) (rsh := (Rsh.one (none))) (pre := none) (fresh := none) (F := Sp.F36) (L := noL) (c := bodyOf Try.f36) (dflt := Ty.dflt ty9) rfl (no_loops)
    (fun x fx _ => slim_of (S := (((Sp.pre35 ((IntKind.u64.wrap x.1), (4 : Int))) ∧ ((Sp.pre35 ((IntKind.u64.wrap x.2), (4 : Int))) ∧ (((ByteArray.size (Sp.F35 ((IntKind.u64.wrap x.1), (4 : Int))) : Nat) : Int) + ((ByteArray.size (Sp.F35 ((IntKind.u64.wrap x.2), (4 : Int))) : Nat) : Int) ≤ 9223372036854775807))))) (by kernel_rfl) (by
  try dsimp only [Ty.den] at *
  simp only [Fit, maxLen] at fx
  simp only [Sp.pre35, Sp.num1, Sp.num2, Sp.num4, Sp.num8, Sp.le_len, Sp.bts_size, Sp.strCat_size, Sp.extract_size, Sp.stb_len, Sp.mk_size, List.length_cons, List.length_nil, IntKind.wrap_i64, IntKind.wrap_u8, IntKind.wrap_u32, IntKind.wrap_u64, Sp.tmod_lit, Sp.tdiv_lit, bne_eq_false_iff_eq, Int.natCast_inj, setE, copyL, sliceL, zrow, List.length_append, List.length_cons, List.length_nil, List.length_set, List.length_replicate, List.length_take, List.length_drop, decide_eq_true_eq, decide_eq_false_iff_not, Bool.or_eq_true, Bool.and_eq_true, Bool.or_eq_false_iff, Bool.and_eq_false_iff, Bool.not_eq_true', Bool.not_eq_false', Bool.not_eq_true, Bool.not_eq_false, beq_iff_eq, beq_eq_false_iff_ne, bne_iff_ne, ne_eq, implies_true, and_true, true_and] at *
  all_goals ((repeat' (first | exact trivial | apply And.intro | intro _)) <;> first | trivial | omega | exact Sp.tmod_nn (by omega) | exact Sp.tmod_lt (by omega) (by omega)))) (fun x => by kernel_rfl)
def LS37_3 : LS ty9.den := mkLS ty112 (Ty.pair ty80 ty3)  [(0, none)] [] [(3, none), (4, none)] [] [] [] [] 0 false Sp.in37_3 Sp.st37_3 Sp.mu37_3
set_option maxHeartbeats 4000000 in
theorem so37_3 (k : ty112.den) (x : (Ty.pair ty80 ty3).den) (fk : Fit ty112 k) (h : Sp.in37_3 k x) : StepOk false Sp.in37_3 Sp.mu37_3 k x (Sp.st37_3 k x) := by
  try dsimp only [Ty.den] at *
  simp only [Sp.in37_3, Fit, maxLen] at h fk
  unfold Sp.st37_3
  (repeat' (first | exact rfl | (refine StepOk.cnd (fun hc => ?_) (fun hc => ?_) <;> (try simp only [IntKind.wrap_i64, IntKind.wrap_u8, IntKind.wrap_u32, IntKind.wrap_u64, bne_eq_false_iff_eq, Int.natCast_inj, setE, copyL, sliceL, zrow, List.length_append, List.length_cons, List.length_nil, List.length_set, List.length_replicate, List.length_take, List.length_drop, decide_eq_true_eq, decide_eq_false_iff_not, Bool.or_eq_true, Bool.and_eq_true, Bool.or_eq_false_iff, Bool.and_eq_false_iff, Bool.not_eq_true', Bool.not_eq_false', Bool.not_eq_true, Bool.not_eq_false, beq_iff_eq, beq_eq_false_iff_ne, bne_iff_ne, ne_eq] at hc)) | refine StepOk.opt (fun _ => ?_))) <;> (first | exact rfl | (refine ⟨rfl, ?_, ?_⟩ <;> simp only [Sp.in37_3, Sp.mu37_3, Sp.num1, Sp.num2, Sp.num4, Sp.num8, Sp.le_len, Sp.bts_size, Sp.strCat_size, Sp.extract_size, Sp.stb_len, Sp.mk_size, List.length_cons, List.length_nil, IntKind.wrap_i64, IntKind.wrap_u8, IntKind.wrap_u32, IntKind.wrap_u64, Sp.tmod_lit, Sp.tdiv_lit, bne_eq_false_iff_eq, Int.natCast_inj, setE, copyL, sliceL, zrow, List.length_append, List.length_cons, List.length_nil, List.length_set, List.length_replicate, List.length_take, List.length_drop, decide_eq_true_eq, decide_eq_false_iff_not, Bool.or_eq_true, Bool.and_eq_true, Bool.or_eq_false_iff, Bool.and_eq_false_iff, Bool.not_eq_true', Bool.not_eq_false', Bool.not_eq_true, Bool.not_eq_false, beq_iff_eq, beq_eq_false_iff_ne, bne_iff_ne, ne_eq] <;> first | omega | (and_intros <;> first | omega | exact h.1 | exact h.2 | exact h.2.1 | exact h.2.2 | exact h.2.2.1 | exact h.2.2.2 | exact h.2.2.2.1 | exact h.2.2.2.2 | exact h.2.2.2.2.1 | exact h.2.2.2.2.2 | exact h.2.2.2.2.2.1 | exact h.2.2.2.2.2.2)))
set_option maxHeartbeats 4000000 in
theorem lo37_3 : LoopOk Try.prog gdS (RetAt Try.prog Try.f37 (Rsh.one (none)) none ty9) (bodyAt (bodyOf Try.f37) [0]) LS37_3 :=
  loop_run (ctxOkZ (zkokZmH3 true) pgokPmG0 fvok_none gokGmL0 []) (L := lookL []) (d := BOut.brk (Ty.dflt ty112) (Ty.dflt (Ty.pair ty80 ty3))) (loops_of (l := []) (by kernel_rfl) (loops_nil)) (fun k x fk fx h => slim_of (S := (((decide (x.2 < ((k).length : Int))) = true → ((0 ≤ x.2 ∧ x.2 < ((k).length : Int)) ∧ ((Sp.nthT k x.2) = true → (0 ≤ (IntKind.u64.wrap x.2))))))) (by kernel_rfl) (by
  try dsimp only [Ty.den] at *
  simp only [Sp.in37_3, Fit, maxLen] at h fk fx
  simp only [Sp.num1, Sp.num2, Sp.num4, Sp.num8, Sp.le_len, Sp.bts_size, Sp.strCat_size, Sp.extract_size, Sp.stb_len, Sp.mk_size, List.length_cons, List.length_nil, IntKind.wrap_i64, IntKind.wrap_u8, IntKind.wrap_u32, IntKind.wrap_u64, Sp.tmod_lit, Sp.tdiv_lit, bne_eq_false_iff_eq, Int.natCast_inj, setE, copyL, sliceL, zrow, List.length_append, List.length_cons, List.length_nil, List.length_set, List.length_replicate, List.length_take, List.length_drop, decide_eq_true_eq, decide_eq_false_iff_not, Bool.or_eq_true, Bool.and_eq_true, Bool.or_eq_false_iff, Bool.and_eq_false_iff, Bool.not_eq_true', Bool.not_eq_false', Bool.not_eq_true, Bool.not_eq_false, beq_iff_eq, beq_eq_false_iff_ne, bne_iff_ne, ne_eq, implies_true, and_true, true_and] at *
  all_goals ((repeat' (first | exact trivial | apply And.intro | intro _)) <;> first | trivial | omega | exact Sp.tmod_nn (by omega) | exact Sp.tmod_lt (by omega) (by omega)))) (fun k x => by kernel_rfl) so37_3
def ct37 : Ct := { p := ty112, psh := [none], r := ty9, rsh := (Rsh.one (none)), pre := some Sp.pre37, fresh := none, F := Sp.F37 }
theorem ok37 : CtOk Try.prog gdS 37 ct37 :=
  fn_okU (ctxOkZ (zkokZmH3 true) pgokPmG0 fvok_none gokGmL0 []) rfl Try.func37 (p := ty112) (psh := [none]) (r := ty9) (rsh := (Rsh.one (none))) (pre := some Sp.pre37) (fresh := none) (F := Sp.F37) (L := (lookL [(3, LS37_3)])) (c := bodyOf Try.f37) (dflt := Ty.dflt ty9) rfl (loops_of (l := [bodyAt (bodyOf Try.f37) [0]]) (by kernel_rfl) (loops_cons (s0 := LS37_3) (by kernel_rfl) lo37_3 (loops_nil)))
    (fun x fx hq => have h := hq _ rfl; slim_of (S := (((Sp.in37_3 x ((0 : Int), (0 : Int))) ∧ (Sp.pre35 ((Sp.G37_3 x ((0 : Int), (0 : Int))).1, (1 : Int)))))) (by kernel_rfl) (by
  try dsimp only [Ty.den] at *
  simp only [Fit, maxLen] at fx
  simp only [Sp.in37_3, Sp.pre37, Sp.pre35, Sp.num1, Sp.num2, Sp.num4, Sp.num8, Sp.le_len, Sp.bts_size, Sp.strCat_size, Sp.extract_size, Sp.stb_len, Sp.mk_size, List.length_cons, List.length_nil, IntKind.wrap_i64, IntKind.wrap_u8, IntKind.wrap_u32, IntKind.wrap_u64, Sp.tmod_lit, Sp.tdiv_lit, bne_eq_false_iff_eq, Int.natCast_inj, setE, copyL, sliceL, zrow, List.length_append, List.length_cons, List.length_nil, List.length_set, List.length_replicate, List.length_take, List.length_drop, decide_eq_true_eq, decide_eq_false_iff_not, Bool.or_eq_true, Bool.and_eq_true, Bool.or_eq_false_iff, Bool.and_eq_false_iff, Bool.not_eq_true', Bool.not_eq_false', Bool.not_eq_true, Bool.not_eq_false, beq_iff_eq, beq_eq_false_iff_ne, bne_iff_ne, ne_eq, implies_true, and_true, true_and] at *
  all_goals ((repeat' (first | exact trivial | apply And.intro | intro _)) <;> first | trivial | omega | exact Sp.tmod_nn (by omega) | exact Sp.tmod_lt (by omega) (by omega)))) (fun x => by kernel_rfl)
def ct8 : Ct := { p := Ty.unit, psh := [], r := ty4, rsh := (Rsh.one (none)), pre := none, fresh := none, F := Sp.F8 }
theorem ok8 : CtOk Try.prog gdS 8 ct8 :=
  fn_okU (ctxOkZ (zkokZmH3 true) pgokPmG0 fvok_none gokGmL0 [(4, [9])]) rfl Try.func8 (p := Ty.unit) (psh := []) (r := ty4) (rsh := (Rsh.one (none))) (pre := none) (fresh := none) (F := Sp.F8) (L := noL) (c := bodyOf Try.f8) (dflt := Ty.dflt ty4) rfl (no_loops)
    (fun x fx _ => safe_of (S := (((Sp.pre25 ((3 : Int), (1 : Int))) ∧ ((Sp.pre11 ((Sp.F25 ((3 : Int), (1 : Int))), ((1 : Int), (0 : Int)), ((0 : Int), (0 : Int)), [(((0 : Int), false, false, false, false), ((0 : Int), false, (0 : Int), false), (0 : Int), (Sp.F26 (1 : Int)))])) ∧ ((Sp.pre13 ((Sp.F25 ((3 : Int), (1 : Int))), (Sp.F11 ((Sp.F25 ((3 : Int), (1 : Int))), ((1 : Int), (0 : Int)), ((0 : Int), (0 : Int)), [(((0 : Int), false, false, false, false), ((0 : Int), false, (0 : Int), false), (0 : Int), (Sp.F26 (1 : Int)))])).1)) ∧ ((Sp.pre13 ((Sp.F25 ((3 : Int), (1 : Int))), (ByteArray.mk #[]))) ∧ ((((((Sp.F11 ((Sp.F25 ((3 : Int), (1 : Int))), ((1 : Int), (0 : Int)), ((0 : Int), (0 : Int)), [(((0 : Int), false, false, false, false), ((0 : Int), false, (0 : Int), false), (0 : Int), (Sp.F26 (1 : Int)))])).2 == (0 : Int)) && ((((Sp.F11 ((Sp.F25 ((3 : Int), (1 : Int))), ((1 : Int), (0 : Int)), ((0 : Int), (0 : Int)), [(((0 : Int), false, false, false, false), ((0 : Int), false, (0 : Int), false), (0 : Int), (Sp.F26 (1 : Int)))])).1).size : Int) == (33 : Int))) = true → 0 ≤ (0 : Int) ∧ (0 : Int) < (((Sp.F11 ((Sp.F25 ((3 : Int), (1 : Int))), ((1 : Int), (0 : Int)), ((0 : Int), (0 : Int)), [(((0 : Int), false, false, false, false), ((0 : Int), false, (0 : Int), false), (0 : Int), (Sp.F26 (1 : Int)))])).1).size : Int))) ∧ (((((((Sp.F11 ((Sp.F25 ((3 : Int), (1 : Int))), ((1 : Int), (0 : Int)), ((0 : Int), (0 : Int)), [(((0 : Int), false, false, false, false), ((0 : Int), false, (0 : Int), false), (0 : Int), (Sp.F26 (1 : Int)))])).2 == (0 : Int)) && ((((Sp.F11 ((Sp.F25 ((3 : Int), (1 : Int))), ((1 : Int), (0 : Int)), ((0 : Int), (0 : Int)), [(((0 : Int), false, false, false, false), ((0 : Int), false, (0 : Int), false), (0 : Int), (Sp.F26 (1 : Int)))])).1).size : Int) == (33 : Int))) && ((strAt ((Sp.F11 ((Sp.F25 ((3 : Int), (1 : Int))), ((1 : Int), (0 : Int)), ((0 : Int), (0 : Int)), [(((0 : Int), false, false, false, false), ((0 : Int), false, (0 : Int), false), (0 : Int), (Sp.F26 (1 : Int)))])).1) (0 : Int)) == (165 : Int))) = true → 0 ≤ (1 : Int) ∧ (1 : Int) < (((Sp.F11 ((Sp.F25 ((3 : Int), (1 : Int))), ((1 : Int), (0 : Int)), ((0 : Int), (0 : Int)), [(((0 : Int), false, false, false, false), ((0 : Int), false, (0 : Int), false), (0 : Int), (Sp.F26 (1 : Int)))])).1).size : Int))) ∧ True)))))))) (by kernel_rfl) (by
  have h1 := Sp.In_size (Sp.F25 ((3 : Int), (1 : Int))) (((1 : Int), (0 : Int)), ((0 : Int), (0 : Int)), [(((0 : Int), false, false, false, false), ((0 : Int), false, (0 : Int), false), (0 : Int), (Sp.F26 (1 : Int)))]) (by simp)
  have h2 : (Sp.F25 ((3 : Int), (1 : Int))).2.2.2.2.2.2.2.length ≤ 30 := by
    have e := Sp.sample_eq 3 1 (by omega) (by omega)
    have e2 := Sp.sample_len 3 1
    rw [show ((1 : Nat) : Int) = 1 from rfl] at e
    rw [e]
    show (Sp.sampleB 3 1).cars.length ≤ 30
    rw [e2]
    omega
  refine ⟨by simp [Sp.pre25], ⟨by simp, h2⟩, trivial, trivial, fun h => ⟨Int.le_refl _, ?_⟩, fun h => ⟨by omega, ?_⟩, trivial⟩
  · rw [Bool.and_eq_true] at h
    rw [beq_iff_eq.1 h.2]; omega
  · rw [Bool.and_eq_true, Bool.and_eq_true] at h
    rw [beq_iff_eq.1 h.1.2]; omega)) (fun x => by kernel_rfl)
def GmL1 : List (Nat × Ct) := (16, ct16) :: (44, ct44) :: (72, ct72) :: (36, ct36) :: (37, ct37) :: (8, ct8) :: GmL0
theorem gokGmL1 : GOk GmL1 := gok_cons ok16 ⟨_, Try.func16, by kernel_rfl, by kernel_rfl⟩ (gok_cons ok44 ⟨_, Try.func44, by kernel_rfl, by kernel_rfl⟩ (gok_cons ok72 ⟨_, Try.func72, by kernel_rfl, by kernel_rfl⟩ (gok_cons ok36 ⟨_, Try.func36, by kernel_rfl, by kernel_rfl⟩ (gok_cons ok37 ⟨_, Try.func37, by kernel_rfl, by kernel_rfl⟩ (gok_cons ok8 ⟨_, Try.func8, by kernel_rfl, by kernel_rfl⟩ (gokGmL0))))))
end Go.Proofs.Ytbnihoioblmgkaa.Sy
end

section
/- Contracts of functions, by the evaluator (own program gen.py): overlayref02.Open, overlayref03.within. -/
set_option linter.unusedVariables false
set_option linter.unusedSimpArgs false
set_option maxRecDepth 100000
namespace Go.Proofs.Ytbnihoioblmgkaa.Sp
open Go Go.RowKit Sy
def F70 (x : ByteArray) : ByteArray × Int :=
  bif (decide (((x).size : Int) < (2 : Int))) then
    ((ByteArray.mk #[]), (4 : Int))
  else
    bif (strEq (Sp.F16 (ByteArray.extract x (Int.toNat (0 : Int)) (Int.toNat (IntKind.i64.wrap (((x).size : Int) - (2 : Int)))))) x) then
      ((ByteArray.extract x (Int.toNat (0 : Int)) (Int.toNat (IntKind.i64.wrap (((x).size : Int) - (2 : Int))))), (0 : Int))
    else
      ((ByteArray.mk #[]), (5 : Int))
def pre70 (x : ByteArray) : Prop := x.size ≤ 99990
def F57 (x : (BldT) × Int × Int) : Bool :=
  (((IntKind.u32.wrap ((BitVec.ofInt IntKind.u32.bits x.2.1 &&& ~~~ BitVec.ofInt IntKind.u32.bits ((Sp.F72 x.1).1)).toNat : Int)) == (0 : Int)) && ((IntKind.u32.wrap ((BitVec.ofInt IntKind.u32.bits x.2.2 &&& ~~~ BitVec.ofInt IntKind.u32.bits ((Sp.F72 x.1).2)).toNat : Int)) == (0 : Int)))
end Go.Proofs.Ytbnihoioblmgkaa.Sp
namespace Go.Proofs.Ytbnihoioblmgkaa.Sy
open Go Go.RowKit Sp
def ct70 : Ct := { p := ty9, psh := [none], r := (Ty.pair ty9 ty37), rsh := (Rsh.tup [none, none]), pre := some Sp.pre70, fresh := none, F := Sp.F70 }
theorem ok70 : CtOk Try.prog gdS 70 ct70 :=
  fn_okU (ctxOkZ (zkokZmH3 true) pgokPmG0 fvok_none gokGmL1 []) rfl Try.func70 (p := ty9) (psh := [none]) (r := (Ty.pair ty9 ty37)) (rsh := (Rsh.tup [none, none])) (pre := some Sp.pre70) (fresh := none) (F := Sp.F70) (L := noL) (c := bodyOf Try.f70) (dflt := Ty.dflt (Ty.pair ty9 ty37)) rfl (no_loops)
    (fun x fx hq => have h := hq _ rfl; slim_of (S := (((decide (((x).size : Int) < (2 : Int))) = false → ((0 ≤ (0 : Int) ∧ (0 : Int) ≤ (IntKind.i64.wrap (((x).size : Int) - (2 : Int))) ∧ (IntKind.i64.wrap (((x).size : Int) - (2 : Int))) ≤ ((x).size : Int)) ∧ (Sp.pre16 (ByteArray.extract x (Int.toNat (0 : Int)) (Int.toNat (IntKind.i64.wrap (((x).size : Int) - (2 : Int)))))))))) (by kernel_rfl) (by
  try dsimp only [Ty.den] at *
  simp only [Fit, maxLen] at fx
  simp only [Sp.pre70, Sp.pre16, Sp.num1, Sp.num2, Sp.num4, Sp.num8, Sp.le_len, Sp.bts_size, Sp.strCat_size, Sp.extract_size, Sp.stb_len, Sp.mk_size, List.length_cons, List.length_nil, IntKind.wrap_i64, IntKind.wrap_u8, IntKind.wrap_u32, IntKind.wrap_u64, Sp.tmod_lit, Sp.tdiv_lit, bne_eq_false_iff_eq, Int.natCast_inj, setE, copyL, sliceL, zrow, List.length_append, List.length_cons, List.length_nil, List.length_set, List.length_replicate, List.length_take, List.length_drop, decide_eq_true_eq, decide_eq_false_iff_not, Bool.or_eq_true, Bool.and_eq_true, Bool.or_eq_false_iff, Bool.and_eq_false_iff, Bool.not_eq_true', Bool.not_eq_false', Bool.not_eq_true, Bool.not_eq_false, beq_iff_eq, beq_eq_false_iff_ne, bne_iff_ne, ne_eq, implies_true, and_true, true_and] at *
  all_goals ((repeat' (first | exact trivial | apply And.intro | intro _)) <;> first | trivial | omega | exact Sp.tmod_nn (by omega) | exact Sp.tmod_lt (by omega) (by omega)))) (fun x => by kernel_rfl)
def ct57 : Ct := { p := (Ty.pair ty25 ty28), psh := [some 8, some 2], r := ty4, rsh := (Rsh.one (none)), pre := none, fresh := none, F := Sp.F57 }
theorem ok57 : CtOk Try.prog gdS 57 ct57 :=
  fn_okU (ctxOkZ (zkokZmH3 true) pgokPmG0 fvok_none gokGmL1 []) rfl Try.func57 (p := (Ty.pair ty25 ty28)) (psh := [some 8, some 2]) (r := ty4) (rsh := (Rsh.one (none))) (pre := none) (fresh := none) (F := Sp.F57) (L := noL) (c := bodyOf Try.f57) (dflt := Ty.dflt ty4) rfl (no_loops)
    (fun x fx _ => triv_of (by kernel_rfl)) (fun x => by kernel_rfl)
def GmL2 : List (Nat × Ct) := (70, ct70) :: (57, ct57) :: GmL1
theorem gokGmL2 : GOk GmL2 := gok_cons ok70 ⟨_, Try.func70, by kernel_rfl, by kernel_rfl⟩ (gok_cons ok57 ⟨_, Try.func57, by kernel_rfl, by kernel_rfl⟩ (gokGmL1))
end Go.Proofs.Ytbnihoioblmgkaa.Sy
end

section
/- Contracts of functions, by the evaluator (own program gen.py): overlayref03.open, overlayref03.IsIn, overlayref03.IsOut. -/
set_option linter.unusedVariables false
set_option linter.unusedSimpArgs false
set_option maxRecDepth 100000
namespace Go.Proofs.Ytbnihoioblmgkaa.Sp
open Go Go.RowKit Sy
def F43 (x : (BldT) × ByteArray × Int × Int) : Int :=
  bif ((Sp.F40 x.1) != (0 : Int)) then
    (1 : Int)
  else
    bif (((x.2.1).size : Int) != x.2.2.1) then
      (4 : Int)
    else
      bif (((IntKind.i64.wrap (strAt x.2.1 (0 : Int))) != x.2.2.2) || ((IntKind.i64.wrap (strAt x.2.1 (1 : Int))) != ((x.1.2.2.2.2.2.2.2).length : Int))) then
        (30 : Int)
      else
        (Sp.F70 x.2.1).2
def pre43 (x : (BldT) × ByteArray × Int × Int) : Prop := Sp.F40 x.1 = 0 → 14 ≤ x.2.2.1 ∧ x.2.2.1 ≤ 99000
def in34_4 (k : ((BldT) × InT)) (x : (Int)) : Prop := (0 : Int) ≤ x
def mu34_4 (k : ((BldT) × InT)) (x : (Int)) : Nat := (((k.2.2.2).length : Int) - x).toNat
def st34_4 (k : ((BldT) × InT)) (x : (Int)) : BOut ((BldT) × InT) (Int) (Bool) :=
  bif (decide (x < ((k.2.2.2).length : Int))) then
    (bif ((((!(Sp.F59 (k.1, (Sp.nthT k.2.2.2 x).1.1))) || (!(Sp.F59 (k.1, (Sp.nthT k.2.2.2 x).2.2.1)))) || (!(Sp.F58 ((Sp.nthT k.2.2.2 x).2.1.1, (0 : Int), (IntKind.i64.wrap (k.1.1 - (1 : Int))))))) || (!(Sp.F58 ((Sp.nthT k.2.2.2 x).2.1.2.2.1, (0 : Int), (2 : Int))))) then
      BOut.ret false
    else
      BOut.next k (IntKind.i64.wrap (x + (1 : Int))))
  else
    BOut.brk k x
def G34_4 (k : ((BldT) × InT)) (x : (Int)) : (Int) := endOf st34_4 k (Nat.succ (mu34_4 k x)) x
def R34_4 (k : ((BldT) × InT)) (x : (Int)) : Option (Bool) := retOf st34_4 k (Nat.succ (mu34_4 k x)) x
def F34 (x : (BldT) × InT) : Bool :=
  bif (((((((Sp.F40 x.1) != (0 : Int)) || (!(Sp.F57 (x.1, x.2.1)))) || (!(Sp.F58 (x.2.2.1.1, (0 : Int), (8 : Int))))) || (!(Sp.F58 (x.2.2.1.2, (0 : Int), (IntKind.i64.wrap (((x.1.2.2.2.2.2.2.2).length : Int) - (1 : Int))))))) || ((x.2.2.1.1 == (0 : Int)) && (x.2.2.1.2 != (0 : Int)))) || (((x.2.2.2).length : Int) != ((x.1.2.2.2.2.2.2.2).length : Int))) then
    false
  else
    Sp.optR (Sp.R34_4 x (0 : Int)) (fun y => y)
    (true)
def in42_4 (k : ((BldT) × OutT)) (x : (Int)) : Prop := (0 : Int) ≤ x
def mu42_4 (k : ((BldT) × OutT)) (x : (Int)) : Nat := (((k.2.2.2.2.2.2).length : Int) - x).toNat
def st42_4 (k : ((BldT) × OutT)) (x : (Int)) : BOut ((BldT) × OutT) (Int) (Bool) :=
  bif (decide (x < ((k.2.2.2.2.2.2).length : Int))) then
    (bif ((((!(Sp.F57 (k.1, (Sp.nthT k.2.2.2.2.2.2 x).1.1))) || (!(Sp.F57 (k.1, (Sp.nthT k.2.2.2.2.2.2 x).2.1)))) || (!(Sp.F58 ((Sp.nthT k.2.2.2.2.2.2 x).2.2.2.1, (0 : Int), (5 : Int))))) || (!(Sp.F58 ((Sp.nthT k.2.2.2.2.2.2 x).2.2.2.2.1, (0 : Int), (4 : Int))))) then
      BOut.ret false
    else
      BOut.next k (IntKind.i64.wrap (x + (1 : Int))))
  else
    BOut.brk k x
def G42_4 (k : ((BldT) × OutT)) (x : (Int)) : (Int) := endOf st42_4 k (Nat.succ (mu42_4 k x)) x
def R42_4 (k : ((BldT) × OutT)) (x : (Int)) : Option (Bool) := retOf st42_4 k (Nat.succ (mu42_4 k x)) x
def F42 (x : (BldT) × OutT) : Bool :=
  bif ((((((Sp.F40 x.1) != (0 : Int)) || (!(Sp.F57 (x.1, x.2.1)))) || (!(Sp.F57 (x.1, x.2.2.1)))) || (!(Sp.F58 (x.2.2.2.2.2.1, (0 : Int), (65535 : Int))))) || (((x.2.2.2.2.2.2).length : Int) != ((x.1.2.2.2.2.2.2.2).length : Int))) then
    false
  else
    Sp.optR (Sp.R42_4 x (0 : Int)) (fun y => y)
    (true)
end Go.Proofs.Ytbnihoioblmgkaa.Sp
namespace Go.Proofs.Ytbnihoioblmgkaa.Sy
open Go Go.RowKit Sp
def ct43 : Ct := { p := (Ty.pair ty25 (Ty.pair ty9 (Ty.pair ty3 ty3))), psh := [some 8, none, none, none], r := ty37, rsh := (Rsh.one (none)), pre := some Sp.pre43, fresh := none, F := Sp.F43 }
theorem ok43 : CtOk Try.prog gdS 43 ct43 :=
  fn_okU (ctxOkZ (zkokZmH3 true) pgokPmG0 fvok_none gokGmL2 []) rfl Try.func43 (p := (Ty.pair ty25 (Ty.pair ty9 (Ty.pair ty3 ty3)))) (psh := [some 8, none, none, none]) (r := ty37) (rsh := (Rsh.one (none))) (pre := some Sp.pre43) (fresh := none) (F := Sp.F43) (L := noL) (c := bodyOf Try.f43) (dflt := Ty.dflt ty37) rfl (no_loops)
    (fun x fx hq => have h := hq _ rfl; safe_of (S := (((((Sp.F40 x.1) != (0 : Int)) = true → True) ∧ (((Sp.F40 x.1) != (0 : Int)) = false → (((((x.2.1).size : Int) != x.2.2.1) = true → True) ∧ ((((x.2.1).size : Int) != x.2.2.1) = false → ((0 ≤ (0 : Int) ∧ (0 : Int) < ((x.2.1).size : Int)) ∧ (((((IntKind.i64.wrap (strAt x.2.1 (0 : Int))) != x.2.2.2) = false → 0 ≤ (1 : Int) ∧ (1 : Int) < ((x.2.1).size : Int))) ∧ (((((IntKind.i64.wrap (strAt x.2.1 (0 : Int))) != x.2.2.2) || ((IntKind.i64.wrap (strAt x.2.1 (1 : Int))) != ((x.1.2.2.2.2.2.2.2).length : Int))) = true → True) ∧ ((((IntKind.i64.wrap (strAt x.2.1 (0 : Int))) != x.2.2.2) || ((IntKind.i64.wrap (strAt x.2.1 (1 : Int))) != ((x.1.2.2.2.2.2.2.2).length : Int))) = false → ((Sp.pre70 x.2.1) ∧ True))))))))))) (by kernel_rfl) (by
  try dsimp only [Ty.den] at *
  refine ⟨fun _ => trivial, fun h1 => ⟨fun _ => trivial, fun h2 => ?_⟩⟩
  rw [bne_eq_false_iff_eq] at h1 h2
  obtain ⟨h3, h3'⟩ := h h1
  refine ⟨⟨Int.le_refl _, by omega⟩, fun _ => ⟨by omega, by omega⟩, fun _ => trivial, fun h4 => ⟨?_, trivial⟩⟩
  show x.2.1.size ≤ 99990
  omega)) (fun x => by kernel_rfl)
def LS34_4 : LS ty4.den := mkLS (Ty.pair ty25 ty33) ty3  [] [(2, 8), (3, 5)] [(5, none)] [] [] [] [(2, 2), (3, 3)] 0 true Sp.in34_4 Sp.st34_4 Sp.mu34_4
set_option maxHeartbeats 4000000 in
theorem so34_4 (k : (Ty.pair ty25 ty33).den) (x : ty3.den) (fk : Fit (Ty.pair ty25 ty33) k) (h : Sp.in34_4 k x) : StepOk true Sp.in34_4 Sp.mu34_4 k x (Sp.st34_4 k x) := by
  try dsimp only [Ty.den] at *
  simp only [Sp.in34_4, Fit, maxLen] at h fk
  unfold Sp.st34_4
  (repeat' (first | exact rfl | (refine StepOk.cnd (fun hc => ?_) (fun hc => ?_) <;> (try simp only [IntKind.wrap_i64, IntKind.wrap_u8, IntKind.wrap_u32, IntKind.wrap_u64, bne_eq_false_iff_eq, Int.natCast_inj, setE, copyL, sliceL, zrow, List.length_append, List.length_cons, List.length_nil, List.length_set, List.length_replicate, List.length_take, List.length_drop, decide_eq_true_eq, decide_eq_false_iff_not, Bool.or_eq_true, Bool.and_eq_true, Bool.or_eq_false_iff, Bool.and_eq_false_iff, Bool.not_eq_true', Bool.not_eq_false', Bool.not_eq_true, Bool.not_eq_false, beq_iff_eq, beq_eq_false_iff_ne, bne_iff_ne, ne_eq] at hc)) | refine StepOk.opt (fun _ => ?_))) <;> (first | exact rfl | (refine ⟨rfl, ?_, ?_⟩ <;> simp only [Sp.in34_4, Sp.mu34_4, Sp.num1, Sp.num2, Sp.num4, Sp.num8, Sp.le_len, Sp.bts_size, Sp.strCat_size, Sp.extract_size, Sp.stb_len, Sp.mk_size, List.length_cons, List.length_nil, IntKind.wrap_i64, IntKind.wrap_u8, IntKind.wrap_u32, IntKind.wrap_u64, Sp.tmod_lit, Sp.tdiv_lit, bne_eq_false_iff_eq, Int.natCast_inj, setE, copyL, sliceL, zrow, List.length_append, List.length_cons, List.length_nil, List.length_set, List.length_replicate, List.length_take, List.length_drop, decide_eq_true_eq, decide_eq_false_iff_not, Bool.or_eq_true, Bool.and_eq_true, Bool.or_eq_false_iff, Bool.and_eq_false_iff, Bool.not_eq_true', Bool.not_eq_false', Bool.not_eq_true, Bool.not_eq_false, beq_iff_eq, beq_eq_false_iff_ne, bne_iff_ne, ne_eq] <;> first | omega | (and_intros <;> first | omega | exact h.1 | exact h.2 | exact h.2.1 | exact h.2.2 | exact h.2.2.1 | exact h.2.2.2 | exact h.2.2.2.1 | exact h.2.2.2.2 | exact h.2.2.2.2.1 | exact h.2.2.2.2.2 | exact h.2.2.2.2.2.1 | exact h.2.2.2.2.2.2)))
set_option maxHeartbeats 4000000 in
theorem lo34_4 : LoopOk Try.prog gdS (RetAt Try.prog Try.f34 (Rsh.one (none)) none ty4) (bodyAt (bodyOf Try.f34) [0]) LS34_4 :=
  loop_run (ctxOkZ (zkokZmH3 true) pgokPmG0 fvok_none gokGmL2 []) (L := lookL []) (d := BOut.brk (Ty.dflt (Ty.pair ty25 ty33)) (Ty.dflt ty3)) (loops_of (l := []) (by kernel_rfl) (loops_nil)) (fun k x fk fx h => slim_of (S := (((decide (x < ((k.2.2.2).length : Int))) = true → (0 ≤ x ∧ x < ((k.2.2.2).length : Int))))) (by kernel_rfl) (by
  try dsimp only [Ty.den] at *
  simp only [Sp.in34_4, Fit, maxLen] at h fk fx
  simp only [Sp.num1, Sp.num2, Sp.num4, Sp.num8, Sp.le_len, Sp.bts_size, Sp.strCat_size, Sp.extract_size, Sp.stb_len, Sp.mk_size, List.length_cons, List.length_nil, IntKind.wrap_i64, IntKind.wrap_u8, IntKind.wrap_u32, IntKind.wrap_u64, Sp.tmod_lit, Sp.tdiv_lit, bne_eq_false_iff_eq, Int.natCast_inj, setE, copyL, sliceL, zrow, List.length_append, List.length_cons, List.length_nil, List.length_set, List.length_replicate, List.length_take, List.length_drop, decide_eq_true_eq, decide_eq_false_iff_not, Bool.or_eq_true, Bool.and_eq_true, Bool.or_eq_false_iff, Bool.and_eq_false_iff, Bool.not_eq_true', Bool.not_eq_false', Bool.not_eq_true, Bool.not_eq_false, beq_iff_eq, beq_eq_false_iff_ne, bne_iff_ne, ne_eq, implies_true, and_true, true_and] at *
  all_goals ((repeat' (first | exact trivial | apply And.intro | intro _)) <;> first | trivial | omega | exact Sp.tmod_nn (by omega) | exact Sp.tmod_lt (by omega) (by omega)))) (fun k x => by kernel_rfl) so34_4
def ct34 : Ct := { p := (Ty.pair ty25 ty33), psh := [some 8, some 5], r := ty4, rsh := (Rsh.one (none)), pre := none, fresh := none, F := Sp.F34 }
theorem ok34 : CtOk Try.prog gdS 34 ct34 :=
  fn_okU (ctxOkZ (zkokZmH3 true) pgokPmG0 fvok_none gokGmL2 []) rfl Try.func34 (p := (Ty.pair ty25 ty33)) (psh := [some 8, some 5]) (r := ty4) (rsh := (Rsh.one (none))) (pre := none) (fresh := none) (F := Sp.F34) (L := (lookL [(4, LS34_4)])) (c := bodyOf Try.f34) (dflt := Ty.dflt ty4) rfl (loops_of (l := [bodyAt (bodyOf Try.f34) [0]]) (by kernel_rfl) (loops_cons (s0 := LS34_4) (by kernel_rfl) lo34_4 (loops_nil)))
    (fun x fx _ => slim_of (S := (((((((((Sp.F40 x.1) != (0 : Int)) || (!(Sp.F57 (x.1, x.2.1)))) || (!(Sp.F58 (x.2.2.1.1, (0 : Int), (8 : Int))))) || (!(Sp.F58 (x.2.2.1.2, (0 : Int), (IntKind.i64.wrap (((x.1.2.2.2.2.2.2.2).length : Int) - (1 : Int))))))) || ((x.2.2.1.1 == (0 : Int)) && (x.2.2.1.2 != (0 : Int)))) || (((x.2.2.2).length : Int) != ((x.1.2.2.2.2.2.2.2).length : Int))) = false → (Sp.in34_4 x (0 : Int))))) (by kernel_rfl) (by
  try dsimp only [Ty.den] at *
  simp only [Fit, maxLen] at fx
  simp only [Sp.in34_4, Sp.num1, Sp.num2, Sp.num4, Sp.num8, Sp.le_len, Sp.bts_size, Sp.strCat_size, Sp.extract_size, Sp.stb_len, Sp.mk_size, List.length_cons, List.length_nil, IntKind.wrap_i64, IntKind.wrap_u8, IntKind.wrap_u32, IntKind.wrap_u64, Sp.tmod_lit, Sp.tdiv_lit, bne_eq_false_iff_eq, Int.natCast_inj, setE, copyL, sliceL, zrow, List.length_append, List.length_cons, List.length_nil, List.length_set, List.length_replicate, List.length_take, List.length_drop, decide_eq_true_eq, decide_eq_false_iff_not, Bool.or_eq_true, Bool.and_eq_true, Bool.or_eq_false_iff, Bool.and_eq_false_iff, Bool.not_eq_true', Bool.not_eq_false', Bool.not_eq_true, Bool.not_eq_false, beq_iff_eq, beq_eq_false_iff_ne, bne_iff_ne, ne_eq, implies_true, and_true, true_and] at *
  all_goals ((repeat' (first | exact trivial | apply And.intro | intro _)) <;> first | trivial | omega | exact Sp.tmod_nn (by omega) | exact Sp.tmod_lt (by omega) (by omega)))) (fun x => by kernel_rfl)
def LS42_4 : LS ty4.den := mkLS (Ty.pair ty25 ty52) ty3  [] [(2, 8), (3, 8)] [(5, none)] [] [] [] [(2, 2), (3, 3)] 0 true Sp.in42_4 Sp.st42_4 Sp.mu42_4
set_option maxHeartbeats 4000000 in
theorem so42_4 (k : (Ty.pair ty25 ty52).den) (x : ty3.den) (fk : Fit (Ty.pair ty25 ty52) k) (h : Sp.in42_4 k x) : StepOk true Sp.in42_4 Sp.mu42_4 k x (Sp.st42_4 k x) := by
  try dsimp only [Ty.den] at *
  simp only [Sp.in42_4, Fit, maxLen] at h fk
  unfold Sp.st42_4
  (repeat' (first | exact rfl | (refine StepOk.cnd (fun hc => ?_) (fun hc => ?_) <;> (try simp only [IntKind.wrap_i64, IntKind.wrap_u8, IntKind.wrap_u32, IntKind.wrap_u64, bne_eq_false_iff_eq, Int.natCast_inj, setE, copyL, sliceL, zrow, List.length_append, List.length_cons, List.length_nil, List.length_set, List.length_replicate, List.length_take, List.length_drop, decide_eq_true_eq, decide_eq_false_iff_not, Bool.or_eq_true, Bool.and_eq_true, Bool.or_eq_false_iff, Bool.and_eq_false_iff, Bool.not_eq_true', Bool.not_eq_false', Bool.not_eq_true, Bool.not_eq_false, beq_iff_eq, beq_eq_false_iff_ne, bne_iff_ne, ne_eq] at hc)) | refine StepOk.opt (fun _ => ?_))) <;> (first | exact rfl | (refine ⟨rfl, ?_, ?_⟩ <;> simp only [Sp.in42_4, Sp.mu42_4, Sp.num1, Sp.num2, Sp.num4, Sp.num8, Sp.le_len, Sp.bts_size, Sp.strCat_size, Sp.extract_size, Sp.stb_len, Sp.mk_size, List.length_cons, List.length_nil, IntKind.wrap_i64, IntKind.wrap_u8, IntKind.wrap_u32, IntKind.wrap_u64, Sp.tmod_lit, Sp.tdiv_lit, bne_eq_false_iff_eq, Int.natCast_inj, setE, copyL, sliceL, zrow, List.length_append, List.length_cons, List.length_nil, List.length_set, List.length_replicate, List.length_take, List.length_drop, decide_eq_true_eq, decide_eq_false_iff_not, Bool.or_eq_true, Bool.and_eq_true, Bool.or_eq_false_iff, Bool.and_eq_false_iff, Bool.not_eq_true', Bool.not_eq_false', Bool.not_eq_true, Bool.not_eq_false, beq_iff_eq, beq_eq_false_iff_ne, bne_iff_ne, ne_eq] <;> first | omega | (and_intros <;> first | omega | exact h.1 | exact h.2 | exact h.2.1 | exact h.2.2 | exact h.2.2.1 | exact h.2.2.2 | exact h.2.2.2.1 | exact h.2.2.2.2 | exact h.2.2.2.2.1 | exact h.2.2.2.2.2 | exact h.2.2.2.2.2.1 | exact h.2.2.2.2.2.2)))
set_option maxHeartbeats 4000000 in
theorem lo42_4 : LoopOk Try.prog gdS (RetAt Try.prog Try.f42 (Rsh.one (none)) none ty4) (bodyAt (bodyOf Try.f42) [0]) LS42_4 :=
  loop_run (ctxOkZ (zkokZmH3 true) pgokPmG0 fvok_none gokGmL2 []) (L := lookL []) (d := BOut.brk (Ty.dflt (Ty.pair ty25 ty52)) (Ty.dflt ty3)) (loops_of (l := []) (by kernel_rfl) (loops_nil)) (fun k x fk fx h => slim_of (S := (((decide (x < ((k.2.2.2.2.2.2).length : Int))) = true → (0 ≤ x ∧ x < ((k.2.2.2.2.2.2).length : Int))))) (by kernel_rfl) (by
  try dsimp only [Ty.den] at *
  simp only [Sp.in42_4, Fit, maxLen] at h fk fx
  simp only [Sp.num1, Sp.num2, Sp.num4, Sp.num8, Sp.le_len, Sp.bts_size, Sp.strCat_size, Sp.extract_size, Sp.stb_len, Sp.mk_size, List.length_cons, List.length_nil, IntKind.wrap_i64, IntKind.wrap_u8, IntKind.wrap_u32, IntKind.wrap_u64, Sp.tmod_lit, Sp.tdiv_lit, bne_eq_false_iff_eq, Int.natCast_inj, setE, copyL, sliceL, zrow, List.length_append, List.length_cons, List.length_nil, List.length_set, List.length_replicate, List.length_take, List.length_drop, decide_eq_true_eq, decide_eq_false_iff_not, Bool.or_eq_true, Bool.and_eq_true, Bool.or_eq_false_iff, Bool.and_eq_false_iff, Bool.not_eq_true', Bool.not_eq_false', Bool.not_eq_true, Bool.not_eq_false, beq_iff_eq, beq_eq_false_iff_ne, bne_iff_ne, ne_eq, implies_true, and_true, true_and] at *
  all_goals ((repeat' (first | exact trivial | apply And.intro | intro _)) <;> first | trivial | omega | exact Sp.tmod_nn (by omega) | exact Sp.tmod_lt (by omega) (by omega)))) (fun k x => by kernel_rfl) so42_4
def ct42 : Ct := { p := (Ty.pair ty25 ty52), psh := [some 8, some 8], r := ty4, rsh := (Rsh.one (none)), pre := none, fresh := none, F := Sp.F42 }
theorem ok42 : CtOk Try.prog gdS 42 ct42 :=
  fn_okU (ctxOkZ (zkokZmH3 true) pgokPmG0 fvok_none gokGmL2 []) rfl Try.func42 (p := (Ty.pair ty25 ty52)) (psh := [some 8, some 8]) (r := ty4) (rsh := (Rsh.one (none))) (pre := none) (fresh := none) (F := Sp.F42) (L := (lookL [(4, LS42_4)])) (c := bodyOf Try.f42) (dflt := Ty.dflt ty4) rfl (loops_of (l := [bodyAt (bodyOf Try.f42) [0]]) (by kernel_rfl) (loops_cons (s0 := LS42_4) (by kernel_rfl) lo42_4 (loops_nil)))
    (fun x fx _ => slim_of (S := ((((((((Sp.F40 x.1) != (0 : Int)) || (!(Sp.F57 (x.1, x.2.1)))) || (!(Sp.F57 (x.1, x.2.2.1)))) || (!(Sp.F58 (x.2.2.2.2.2.1, (0 : Int), (65535 : Int))))) || (((x.2.2.2.2.2.2).length : Int) != ((x.1.2.2.2.2.2.2.2).length : Int))) = false → (Sp.in42_4 x (0 : Int))))) (by kernel_rfl) (by
  try dsimp only [Ty.den] at *
  simp only [Fit, maxLen] at fx
  simp only [Sp.in42_4, Sp.num1, Sp.num2, Sp.num4, Sp.num8, Sp.le_len, Sp.bts_size, Sp.strCat_size, Sp.extract_size, Sp.stb_len, Sp.mk_size, List.length_cons, List.length_nil, IntKind.wrap_i64, IntKind.wrap_u8, IntKind.wrap_u32, IntKind.wrap_u64, Sp.tmod_lit, Sp.tdiv_lit, bne_eq_false_iff_eq, Int.natCast_inj, setE, copyL, sliceL, zrow, List.length_append, List.length_cons, List.length_nil, List.length_set, List.length_replicate, List.length_take, List.length_drop, decide_eq_true_eq, decide_eq_false_iff_not, Bool.or_eq_true, Bool.and_eq_true, Bool.or_eq_false_iff, Bool.and_eq_false_iff, Bool.not_eq_true', Bool.not_eq_false', Bool.not_eq_true, Bool.not_eq_false, beq_iff_eq, beq_eq_false_iff_ne, bne_iff_ne, ne_eq, implies_true, and_true, true_and] at *
  all_goals ((repeat' (first | exact trivial | apply And.intro | intro _)) <;> first | trivial | omega | exact Sp.tmod_nn (by omega) | exact Sp.tmod_lt (by omega) (by omega)))) (fun x => by kernel_rfl)
def GmL3 : List (Nat × Ct) := (43, ct43) :: (34, ct34) :: (42, ct42) :: GmL2
theorem gokGmL3 : GOk GmL3 := gok_cons ok43 ⟨_, Try.func43, by kernel_rfl, by kernel_rfl⟩ (gok_cons ok34 ⟨_, Try.func34, by kernel_rfl, by kernel_rfl⟩ (gok_cons ok42 ⟨_, Try.func42, by kernel_rfl, by kernel_rfl⟩ (gokGmL2)))
end Go.Proofs.Ytbnihoioblmgkaa.Sy
end

section
/- The reference's parts of a frame (own work). -/
namespace Go.Proofs.Ytbnihoioblmgkaa.Sp
open Go Sy
set_option linter.unusedVariables false
set_option linter.unusedSimpArgs false
theorem flg_same (l : List Bool) (hl : l.length ≤ 1000) : ∀ (f : Nat) (n i : Int), 0 ≤ i → i ≤ (l.length : Int) → (endOf st31_2 (l, (l.length : Int)) f (n, i)).1 = (endOf st37_3 l f (n, i)).1
  | 0, n, i, _, _ => rfl
  | f + 1, n, i, h0, h1 => by
    unfold endOf
    by_cases h : i < (l.length : Int)
    · have e : IntKind.u64.wrap i = i := by rw [IntKind.wrap_u64]; omega
      have e2 : IntKind.i64.wrap (i + 1) = i + 1 := wrap_i64_of (by omega) (by omega)
      have hp : st31_2 (l, (l.length : Int)) (n, i) = bif nthT l i then BOut.next (l, (l.length : Int)) (IntKind.u64.wrap ((BitVec.ofInt IntKind.u64.bits n ||| BitVec.ofInt IntKind.u64.bits (IntKind.u64.wrap ((1 : Int) * 2 ^ (min i.toNat IntKind.u64.bits)))).toNat : Int), i + 1) else BOut.next (l, (l.length : Int)) (n, i + 1) := by
        unfold st31_2
        simp only [h, decide_true, cond_true, e2]
      have hq : st37_3 l (n, i) = bif nthT l i then BOut.next l (IntKind.u64.wrap ((BitVec.ofInt IntKind.u64.bits n ||| BitVec.ofInt IntKind.u64.bits (IntKind.u64.wrap ((1 : Int) * 2 ^ (min i.toNat IntKind.u64.bits)))).toNat : Int), i + 1) else BOut.next l (n, i + 1) := by
        unfold st37_3
        simp only [h, decide_true, cond_true, e2, e]
      rw [hp, hq]
      cases nthT l i with
      | true => exact flg_same l hl f _ _ (by omega) (by omega)
      | false => exact flg_same l hl f _ _ (by omega) (by omega)
    · have hp : st31_2 (l, (l.length : Int)) (n, i) = BOut.brk (l, (l.length : Int)) (n, i) := by
        unfold st31_2
        simp only [h, decide_false, cond_false]
      have hq : st37_3 l (n, i) = BOut.brk l (n, i) := by
        unfold st37_3
        simp only [h, decide_false, cond_false]
      rw [hp, hq]
theorem rbits_eq (l : List Bool) (hl : l.length ≤ 1000) : F37 l = bts (le (flg l) 1) := by
  unfold F37
  rw [num1]
  congr 2
  unfold flg G37_3 G31_2
  exact (flg_same l hl _ 0 0 (Int.le_refl _) (by omega)).symm
theorem rbits2 (a b : Bool) : F37 [a, b] = bts (le (flg [a, b]) 1) := rbits_eq _ (by simp)
theorem rbits3 (a b c : Bool) : F37 [a, b, c] = bts (le (flg [a, b, c]) 1) := rbits_eq _ (by simp)
theorem rbits6 (a b c d e f : Bool) : F37 [a, b, c, d, e, f] = bts (le (flg [a, b, c, d, e, f]) 1) := rbits_eq _ (by simp)
theorem rcalls_eq (c : Int × Int) : F36 c = bts (ce c) := by
  unfold F36
  rw [num4, num4, bts_cat]
  rfl
end Go.Proofs.Ytbnihoioblmgkaa.Sp
end

section
/- Contracts of functions, by the evaluator (own program gen.py): overlayref03.In, overlayref03.Out. -/
set_option linter.unusedVariables false
set_option linter.unusedSimpArgs false
set_option maxRecDepth 100000
namespace Go.Proofs.Ytbnihoioblmgkaa.Sp
open Go Go.RowKit Sy
def in12_5 (k : (InT)) (x : (ByteArray × Int)) : Prop := (0 : Int) ≤ x.2 ∧ x.2 ≤ (k.2.2.length : Int) ∧ (k.2.2.length : Int) ≤ 30 ∧ (x.1.size : Int) = 12 + 19 * x.2
def mu12_5 (k : (InT)) (x : (ByteArray × Int)) : Nat := ((k.2.2.length : Int) - x.2).toNat
def st12_5 (k : (InT)) (x : (ByteArray × Int)) : BOut (InT) (ByteArray × Int) (ByteArray × Int) :=
  bif (decide (x.2 < ((k.2.2).length : Int))) then
    BOut.next k ((strCat (strCat (strCat (strCat (strCat (strCat x.1 (Sp.F35 ((IntKind.u64.wrap ((Sp.nthT k.2.2 x.2).1.1)), (4 : Int)))) (Sp.F37 [(Sp.nthT k.2.2 x.2).1.2.1, (Sp.nthT k.2.2 x.2).1.2.2.1, (Sp.nthT k.2.2 x.2).1.2.2.2.1, (Sp.nthT k.2.2 x.2).1.2.2.2.2, (Sp.nthT k.2.2 x.2).2.1.2.1, (Sp.nthT k.2.2 x.2).2.1.2.2.2])) (Sp.F35 ((IntKind.u64.wrap ((Sp.nthT k.2.2 x.2).2.1.1)), (1 : Int)))) (Sp.F35 ((IntKind.u64.wrap ((Sp.nthT k.2.2 x.2).2.1.2.2.1)), (1 : Int)))) (Sp.F35 ((IntKind.u64.wrap ((Sp.nthT k.2.2 x.2).2.2.1)), (4 : Int)))) (Sp.F35 ((((Sp.nthT k.2.2 x.2).2.2.2 : Nat) : Int), (8 : Int)))), (IntKind.i64.wrap (x.2 + (1 : Int))))
  else
    BOut.brk k x
def G12_5 (k : (InT)) (x : (ByteArray × Int)) : (ByteArray × Int) := endOf st12_5 k (Nat.succ (mu12_5 k x)) x
def K12_1 (x : (BldT) × InT) :=
  (Sp.G12_5 x.2 ((strCat (strCat (strCat (strCat (Sp.F35 ((165 : Int), (1 : Int))) (Sp.F35 ((IntKind.u64.wrap ((x.1.2.2.2.2.2.2.2).length : Int)), (1 : Int)))) (Sp.F36 x.2.1)) (Sp.F35 ((IntKind.u64.wrap x.2.2.1.1), (1 : Int)))) (Sp.F35 ((IntKind.u64.wrap x.2.2.1.2), (1 : Int)))), (0 : Int)))
def F12 (x : (BldT) × InT) : ByteArray × Int :=
  bif (!(Sp.F34 x)) then
    ((ByteArray.mk #[]), (1 : Int))
  else
    ((Sp.F16 ((Sp.K12_1 x).1)), (0 : Int))
def pre12 (x : (BldT) × InT) : Prop := x.2.2.2.length ≤ 30
def in17_5 (k : (OutT)) (x : (ByteArray × Int)) : Prop := (0 : Int) ≤ x.2 ∧ x.2 ≤ (k.2.2.2.2.2.length : Int) ∧ (k.2.2.2.2.2.length : Int) ≤ 30 ∧ (x.1.size : Int) = 21 + 19 * x.2
def mu17_5 (k : (OutT)) (x : (ByteArray × Int)) : Nat := ((k.2.2.2.2.2.length : Int) - x.2).toNat
def st17_5 (k : (OutT)) (x : (ByteArray × Int)) : BOut (OutT) (ByteArray × Int) (ByteArray × Int) :=
  bif (decide (x.2 < ((k.2.2.2.2.2).length : Int))) then
    BOut.next k ((strCat (strCat (strCat (strCat (strCat x.1 (Sp.F36 ((Sp.nthT k.2.2.2.2.2 x.2).1.1))) (Sp.F36 ((Sp.nthT k.2.2.2.2.2 x.2).2.1))) (Sp.F37 [(Sp.nthT k.2.2.2.2.2 x.2).1.2, (Sp.nthT k.2.2.2.2.2 x.2).2.2.1, (Sp.nthT k.2.2.2.2.2 x.2).2.2.2.2.2])) (Sp.F35 ((IntKind.u64.wrap ((Sp.nthT k.2.2.2.2.2 x.2).2.2.2.1)), (1 : Int)))) (Sp.F35 ((IntKind.u64.wrap ((Sp.nthT k.2.2.2.2.2 x.2).2.2.2.2.1)), (1 : Int)))), (IntKind.i64.wrap (x.2 + (1 : Int))))
  else
    BOut.brk k x
def G17_5 (k : (OutT)) (x : (ByteArray × Int)) : (ByteArray × Int) := endOf st17_5 k (Nat.succ (mu17_5 k x)) x
def K17_1 (x : (BldT) × OutT) :=
  (Sp.G17_5 x.2 ((strCat (strCat (strCat (strCat (strCat (Sp.F35 ((90 : Int), (1 : Int))) (Sp.F35 ((IntKind.u64.wrap ((x.1.2.2.2.2.2.2.2).length : Int)), (1 : Int)))) (Sp.F36 x.2.1)) (Sp.F36 x.2.2.1)) (Sp.F37 [x.2.2.2.1, x.2.2.2.2.1])) (Sp.F35 ((IntKind.u64.wrap x.2.2.2.2.2.1), (2 : Int)))), (0 : Int)))
def F17 (x : (BldT) × OutT) : ByteArray × Int :=
  bif (!(Sp.F42 x)) then
    ((ByteArray.mk #[]), (1 : Int))
  else
    ((Sp.F16 ((Sp.K17_1 x).1)), (0 : Int))
def pre17 (x : (BldT) × OutT) : Prop := x.2.2.2.2.2.2.length ≤ 30
end Go.Proofs.Ytbnihoioblmgkaa.Sp
namespace Go.Proofs.Ytbnihoioblmgkaa.Sy
open Go Go.RowKit Sp
def LS12_5 : LS (Ty.pair ty9 ty37).den := mkLS ty33 (Ty.pair ty9 ty3)  [] [(3, 5)] [(6, none), (7, none)] [] [] [] [(3, 3)] 0 false Sp.in12_5 Sp.st12_5 Sp.mu12_5
set_option maxHeartbeats 4000000 in
theorem so12_5 (k : ty33.den) (x : (Ty.pair ty9 ty3).den) (fk : Fit ty33 k) (h : Sp.in12_5 k x) : StepOk false Sp.in12_5 Sp.mu12_5 k x (Sp.st12_5 k x) := by
  try dsimp only [Ty.den] at *
  unfold Sp.in12_5 at h
  unfold Sp.st12_5
  refine StepOk.cnd (fun hc => ?_) (fun _ => rfl)
  rw [decide_eq_true_eq] at hc
  have e : IntKind.i64.wrap (x.2 + 1) = x.2 + 1 := Sp.wrap_i64_of (by omega) (by omega)
  rw [e]
  refine ⟨rfl, ?_, ?_⟩
  · simp only [Sp.in12_5, Sp.num1, Sp.num2, Sp.num4, Sp.num8, Sp.rcalls_eq, Sp.rbits2, Sp.rbits3, Sp.rbits6, Sp.bts_size, Sp.strCat_size, Sp.le_len, Sp.ce_len, List.length_cons, List.length_nil, Sp.pre35, Sp.pre37]
    omega
  · simp only [Sp.mu12_5]
    omega
set_option maxHeartbeats 4000000 in
theorem lo12_5 : LoopOk Try.prog gdS (RetAt Try.prog Try.f12 (Rsh.tup [none, none]) none (Ty.pair ty9 ty37)) (bodyAt (bodyOf Try.f12) [0]) LS12_5 :=
  loop_run (ctxOkZ (zkokZmH3 true) pgokPmG0 fvok_none gokGmL3 []) (L := lookL []) (d := BOut.brk (Ty.dflt ty33) (Ty.dflt (Ty.pair ty9 ty3))) (loops_of (l := []) (by kernel_rfl) (loops_nil)) (fun k x fk fx h => safe_of (S := ((((decide (x.2 < ((k.2.2).length : Int))) = true → ((0 ≤ x.2 ∧ x.2 < ((k.2.2).length : Int)) ∧ ((Sp.pre35 ((IntKind.u64.wrap ((Sp.nthT k.2.2 x.2).1.1)), (4 : Int))) ∧ ((((ByteArray.size x.1 : Nat) : Int) + ((ByteArray.size (Sp.F35 ((IntKind.u64.wrap ((Sp.nthT k.2.2 x.2).1.1)), (4 : Int))) : Nat) : Int) ≤ 9223372036854775807) ∧ ((Sp.pre37 [(Sp.nthT k.2.2 x.2).1.2.1, (Sp.nthT k.2.2 x.2).1.2.2.1, (Sp.nthT k.2.2 x.2).1.2.2.2.1, (Sp.nthT k.2.2 x.2).1.2.2.2.2, (Sp.nthT k.2.2 x.2).2.1.2.1, (Sp.nthT k.2.2 x.2).2.1.2.2.2]) ∧ ((((ByteArray.size (strCat x.1 (Sp.F35 ((IntKind.u64.wrap ((Sp.nthT k.2.2 x.2).1.1)), (4 : Int)))) : Nat) : Int) + ((ByteArray.size (Sp.F37 [(Sp.nthT k.2.2 x.2).1.2.1, (Sp.nthT k.2.2 x.2).1.2.2.1, (Sp.nthT k.2.2 x.2).1.2.2.2.1, (Sp.nthT k.2.2 x.2).1.2.2.2.2, (Sp.nthT k.2.2 x.2).2.1.2.1, (Sp.nthT k.2.2 x.2).2.1.2.2.2]) : Nat) : Int) ≤ 9223372036854775807) ∧ ((Sp.pre35 ((IntKind.u64.wrap ((Sp.nthT k.2.2 x.2).2.1.1)), (1 : Int))) ∧ ((((ByteArray.size (strCat (strCat x.1 (Sp.F35 ((IntKind.u64.wrap ((Sp.nthT k.2.2 x.2).1.1)), (4 : Int)))) (Sp.F37 [(Sp.nthT k.2.2 x.2).1.2.1, (Sp.nthT k.2.2 x.2).1.2.2.1, (Sp.nthT k.2.2 x.2).1.2.2.2.1, (Sp.nthT k.2.2 x.2).1.2.2.2.2, (Sp.nthT k.2.2 x.2).2.1.2.1, (Sp.nthT k.2.2 x.2).2.1.2.2.2])) : Nat) : Int) + ((ByteArray.size (Sp.F35 ((IntKind.u64.wrap ((Sp.nthT k.2.2 x.2).2.1.1)), (1 : Int))) : Nat) : Int) ≤ 9223372036854775807) ∧ ((Sp.pre35 ((IntKind.u64.wrap ((Sp.nthT k.2.2 x.2).2.1.2.2.1)), (1 : Int))) ∧ ((((ByteArray.size (strCat (strCat (strCat x.1 (Sp.F35 ((IntKind.u64.wrap ((Sp.nthT k.2.2 x.2).1.1)), (4 : Int)))) (Sp.F37 [(Sp.nthT k.2.2 x.2).1.2.1, (Sp.nthT k.2.2 x.2).1.2.2.1, (Sp.nthT k.2.2 x.2).1.2.2.2.1, (Sp.nthT k.2.2 x.2).1.2.2.2.2, (Sp.nthT k.2.2 x.2).2.1.2.1, (Sp.nthT k.2.2 x.2).2.1.2.2.2])) (Sp.F35 ((IntKind.u64.wrap ((Sp.nthT k.2.2 x.2).2.1.1)), (1 : Int)))) : Nat) : Int) + ((ByteArray.size (Sp.F35 ((IntKind.u64.wrap ((Sp.nthT k.2.2 x.2).2.1.2.2.1)), (1 : Int))) : Nat) : Int) ≤ 9223372036854775807) ∧ ((Sp.pre35 ((IntKind.u64.wrap ((Sp.nthT k.2.2 x.2).2.2.1)), (4 : Int))) ∧ ((((ByteArray.size (strCat (strCat (strCat (strCat x.1 (Sp.F35 ((IntKind.u64.wrap ((Sp.nthT k.2.2 x.2).1.1)), (4 : Int)))) (Sp.F37 [(Sp.nthT k.2.2 x.2).1.2.1, (Sp.nthT k.2.2 x.2).1.2.2.1, (Sp.nthT k.2.2 x.2).1.2.2.2.1, (Sp.nthT k.2.2 x.2).1.2.2.2.2, (Sp.nthT k.2.2 x.2).2.1.2.1, (Sp.nthT k.2.2 x.2).2.1.2.2.2])) (Sp.F35 ((IntKind.u64.wrap ((Sp.nthT k.2.2 x.2).2.1.1)), (1 : Int)))) (Sp.F35 ((IntKind.u64.wrap ((Sp.nthT k.2.2 x.2).2.1.2.2.1)), (1 : Int)))) : Nat) : Int) + ((ByteArray.size (Sp.F35 ((IntKind.u64.wrap ((Sp.nthT k.2.2 x.2).2.2.1)), (4 : Int))) : Nat) : Int) ≤ 9223372036854775807) ∧ ((Sp.pre35 ((((Sp.nthT k.2.2 x.2).2.2.2 : Nat) : Int), (8 : Int))) ∧ ((((ByteArray.size (strCat (strCat (strCat (strCat (strCat x.1 (Sp.F35 ((IntKind.u64.wrap ((Sp.nthT k.2.2 x.2).1.1)), (4 : Int)))) (Sp.F37 [(Sp.nthT k.2.2 x.2).1.2.1, (Sp.nthT k.2.2 x.2).1.2.2.1, (Sp.nthT k.2.2 x.2).1.2.2.2.1, (Sp.nthT k.2.2 x.2).1.2.2.2.2, (Sp.nthT k.2.2 x.2).2.1.2.1, (Sp.nthT k.2.2 x.2).2.1.2.2.2])) (Sp.F35 ((IntKind.u64.wrap ((Sp.nthT k.2.2 x.2).2.1.1)), (1 : Int)))) (Sp.F35 ((IntKind.u64.wrap ((Sp.nthT k.2.2 x.2).2.1.2.2.1)), (1 : Int)))) (Sp.F35 ((IntKind.u64.wrap ((Sp.nthT k.2.2 x.2).2.2.1)), (4 : Int)))) : Nat) : Int) + ((ByteArray.size (Sp.F35 ((((Sp.nthT k.2.2 x.2).2.2.2 : Nat) : Int), (8 : Int))) : Nat) : Int) ≤ 9223372036854775807) ∧ True)))))))))))))) ∧ ((decide (x.2 < ((k.2.2).length : Int))) = false → True)))) (by kernel_rfl) (by
  try dsimp only [Ty.den] at *
  unfold Sp.in12_5 at h
  simp only [Sp.num1, Sp.num2, Sp.num4, Sp.num8, Sp.rcalls_eq, Sp.rbits2, Sp.rbits3, Sp.rbits6, Sp.bts_size, Sp.strCat_size, Sp.le_len, Sp.ce_len, List.length_cons, List.length_nil, Sp.pre35, Sp.pre37, decide_eq_true_eq, decide_eq_false_iff_not] at *
  (repeat' (first | apply And.intro | intro _)) <;> first | omega | exact trivial)) (fun k x => by kernel_rfl) so12_5
def ct12 : Ct := { p := (Ty.pair ty25 ty33), psh := [some 8, some 5], r := (Ty.pair ty9 ty37), rsh := (Rsh.tup [none, none]), pre := some Sp.pre12, fresh := none, F := Sp.F12 }
theorem ok12 : CtOk Try.prog gdS 12 ct12 :=
  fn_okU (ctxOkZ (zkokZmH3 true) pgokPmG0 fvok_none gokGmL3 []) rfl Try.func12 (p := (Ty.pair ty25 ty33)) (psh := [some 8, some 5]) (r := (Ty.pair ty9 ty37)) (rsh := (Rsh.tup [none, none])) (pre := some Sp.pre12) (fresh := none) (F := Sp.F12) (L := (lookL [(5, LS12_5)])) (c := bodyOf Try.f12) (dflt := Ty.dflt (Ty.pair ty9 ty37)) rfl (loops_of (l := [bodyAt (bodyOf Try.f12) [0]]) (by kernel_rfl) (loops_cons (s0 := LS12_5) (by kernel_rfl) lo12_5 (loops_nil)))
    (fun x fx hq => have h := hq _ rfl; safe_of (S := ((((!(Sp.F34 x)) = true → True) ∧ ((!(Sp.F34 x)) = false → ((Sp.pre35 ((165 : Int), (1 : Int))) ∧ ((Sp.pre35 ((IntKind.u64.wrap ((x.1.2.2.2.2.2.2.2).length : Int)), (1 : Int))) ∧ ((((ByteArray.size (Sp.F35 ((165 : Int), (1 : Int))) : Nat) : Int) + ((ByteArray.size (Sp.F35 ((IntKind.u64.wrap ((x.1.2.2.2.2.2.2.2).length : Int)), (1 : Int))) : Nat) : Int) ≤ 9223372036854775807) ∧ ((((ByteArray.size (strCat (Sp.F35 ((165 : Int), (1 : Int))) (Sp.F35 ((IntKind.u64.wrap ((x.1.2.2.2.2.2.2.2).length : Int)), (1 : Int)))) : Nat) : Int) + ((ByteArray.size (Sp.F36 x.2.1) : Nat) : Int) ≤ 9223372036854775807) ∧ ((Sp.pre35 ((IntKind.u64.wrap x.2.2.1.1), (1 : Int))) ∧ ((((ByteArray.size (strCat (strCat (Sp.F35 ((165 : Int), (1 : Int))) (Sp.F35 ((IntKind.u64.wrap ((x.1.2.2.2.2.2.2.2).length : Int)), (1 : Int)))) (Sp.F36 x.2.1)) : Nat) : Int) + ((ByteArray.size (Sp.F35 ((IntKind.u64.wrap x.2.2.1.1), (1 : Int))) : Nat) : Int) ≤ 9223372036854775807) ∧ ((Sp.pre35 ((IntKind.u64.wrap x.2.2.1.2), (1 : Int))) ∧ ((((ByteArray.size (strCat (strCat (strCat (Sp.F35 ((165 : Int), (1 : Int))) (Sp.F35 ((IntKind.u64.wrap ((x.1.2.2.2.2.2.2.2).length : Int)), (1 : Int)))) (Sp.F36 x.2.1)) (Sp.F35 ((IntKind.u64.wrap x.2.2.1.1), (1 : Int)))) : Nat) : Int) + ((ByteArray.size (Sp.F35 ((IntKind.u64.wrap x.2.2.1.2), (1 : Int))) : Nat) : Int) ≤ 9223372036854775807) ∧ ((Sp.in12_5 x.2 ((strCat (strCat (strCat (strCat (Sp.F35 ((165 : Int), (1 : Int))) (Sp.F35 ((IntKind.u64.wrap ((x.1.2.2.2.2.2.2.2).length : Int)), (1 : Int)))) (Sp.F36 x.2.1)) (Sp.F35 ((IntKind.u64.wrap x.2.2.1.1), (1 : Int)))) (Sp.F35 ((IntKind.u64.wrap x.2.2.1.2), (1 : Int)))), (0 : Int))) ∧ ((Sp.pre16 ((Sp.K12_1 x).1)) ∧ True)))))))))))))) (by kernel_rfl) (by
  try dsimp only [Ty.den] at *
  unfold Sp.pre12 at h
  refine ⟨fun _ => trivial, fun hc => ?_⟩
  have hin : ∀ r : ByteArray, r.size = 12 → Sp.in12_5 x.2 (r, (0 : Int)) := fun r hr => by
    simp only [Sp.in12_5, hr]
    omega
  have hI := fun (r : ByteArray) (hr : r.size = 12) => Sp.end_inv (step := Sp.st12_5) (k := x.2) (I := Sp.in12_5 x.2) (fun y k' z hy hz => by
      have h0 := so12_5 x.2 y fx.2 hy
      rw [hz] at h0
      exact h0.2.1) (fun y k' z hy hz => by
      unfold Sp.st12_5 at hz
      cases hd : decide (y.2 < (x.2.2.2.length : Int)) with
      | true => rw [hd] at hz; cases hz
      | false => rw [hd] at hz; cases hz; exact hy) (Nat.succ (Sp.mu12_5 x.2 (r, (0 : Int)))) _ (hin r hr)
  have hlen : ∀ (r : ByteArray) (hr : r.size = 12), (Sp.G12_5 x.2 (r, (0 : Int))).1.size ≤ 1000 := fun r hr => by
    obtain ⟨_, h2, h4, h5⟩ := hI r hr
    have h2 : (Sp.G12_5 x.2 (r, (0 : Int))).2 ≤ (x.2.2.2.length : Int) := h2
    have h4 : (x.2.2.2.length : Int) ≤ 30 := h4
    have h5 : ((Sp.G12_5 x.2 (r, (0 : Int))).1.size : Int) = 12 + 19 * (Sp.G12_5 x.2 (r, (0 : Int))).2 := h5
    omega
  (repeat' (first | apply And.intro)) <;> first | omega | (simp only [Sp.num1, Sp.num2, Sp.num4, Sp.num8, Sp.rcalls_eq, Sp.rbits2, Sp.rbits3, Sp.rbits6, Sp.bts_size, Sp.strCat_size, Sp.le_len, Sp.ce_len, List.length_cons, List.length_nil, Sp.pre35, Sp.pre37]; omega) | exact hin _ (by simp only [Sp.num1, Sp.num2, Sp.num4, Sp.num8, Sp.rcalls_eq, Sp.rbits2, Sp.rbits3, Sp.rbits6, Sp.bts_size, Sp.strCat_size, Sp.le_len, Sp.ce_len, List.length_cons, List.length_nil, Sp.pre35, Sp.pre37]) | exact trivial | (show (Sp.K12_1 x).1.size ≤ 99990; exact Nat.le_trans (hlen _ (by simp only [Sp.num1, Sp.num2, Sp.num4, Sp.num8, Sp.rcalls_eq, Sp.rbits2, Sp.rbits3, Sp.rbits6, Sp.bts_size, Sp.strCat_size, Sp.le_len, Sp.ce_len, List.length_cons, List.length_nil, Sp.pre35, Sp.pre37])) (by omega)))) (fun x => by kernel_rfl)
def LS17_5 : LS (Ty.pair ty9 ty37).den := mkLS ty52 (Ty.pair ty9 ty3)  [] [(3, 8)] [(6, none), (7, none)] [] [] [] [(3, 3)] 0 false Sp.in17_5 Sp.st17_5 Sp.mu17_5
set_option maxHeartbeats 4000000 in
theorem so17_5 (k : ty52.den) (x : (Ty.pair ty9 ty3).den) (fk : Fit ty52 k) (h : Sp.in17_5 k x) : StepOk false Sp.in17_5 Sp.mu17_5 k x (Sp.st17_5 k x) := by
  try dsimp only [Ty.den] at *
  unfold Sp.in17_5 at h
  unfold Sp.st17_5
  refine StepOk.cnd (fun hc => ?_) (fun _ => rfl)
  rw [decide_eq_true_eq] at hc
  have e : IntKind.i64.wrap (x.2 + 1) = x.2 + 1 := Sp.wrap_i64_of (by omega) (by omega)
  rw [e]
  refine ⟨rfl, ?_, ?_⟩
  · simp only [Sp.in17_5, Sp.num1, Sp.num2, Sp.num4, Sp.num8, Sp.rcalls_eq, Sp.rbits2, Sp.rbits3, Sp.rbits6, Sp.bts_size, Sp.strCat_size, Sp.le_len, Sp.ce_len, List.length_cons, List.length_nil, Sp.pre35, Sp.pre37]
    omega
  · simp only [Sp.mu17_5]
    omega
set_option maxHeartbeats 4000000 in
theorem lo17_5 : LoopOk Try.prog gdS (RetAt Try.prog Try.f17 (Rsh.tup [none, none]) none (Ty.pair ty9 ty37)) (bodyAt (bodyOf Try.f17) [0]) LS17_5 :=
  loop_run (ctxOkZ (zkokZmH3 true) pgokPmG0 fvok_none gokGmL3 []) (L := lookL []) (d := BOut.brk (Ty.dflt ty52) (Ty.dflt (Ty.pair ty9 ty3))) (loops_of (l := []) (by kernel_rfl) (loops_nil)) (fun k x fk fx h => safe_of (S := ((((decide (x.2 < ((k.2.2.2.2.2).length : Int))) = true → ((0 ≤ x.2 ∧ x.2 < ((k.2.2.2.2.2).length : Int)) ∧ ((((ByteArray.size x.1 : Nat) : Int) + ((ByteArray.size (Sp.F36 ((Sp.nthT k.2.2.2.2.2 x.2).1.1)) : Nat) : Int) ≤ 9223372036854775807) ∧ ((((ByteArray.size (strCat x.1 (Sp.F36 ((Sp.nthT k.2.2.2.2.2 x.2).1.1))) : Nat) : Int) + ((ByteArray.size (Sp.F36 ((Sp.nthT k.2.2.2.2.2 x.2).2.1)) : Nat) : Int) ≤ 9223372036854775807) ∧ ((Sp.pre37 [(Sp.nthT k.2.2.2.2.2 x.2).1.2, (Sp.nthT k.2.2.2.2.2 x.2).2.2.1, (Sp.nthT k.2.2.2.2.2 x.2).2.2.2.2.2]) ∧ ((((ByteArray.size (strCat (strCat x.1 (Sp.F36 ((Sp.nthT k.2.2.2.2.2 x.2).1.1))) (Sp.F36 ((Sp.nthT k.2.2.2.2.2 x.2).2.1))) : Nat) : Int) + ((ByteArray.size (Sp.F37 [(Sp.nthT k.2.2.2.2.2 x.2).1.2, (Sp.nthT k.2.2.2.2.2 x.2).2.2.1, (Sp.nthT k.2.2.2.2.2 x.2).2.2.2.2.2]) : Nat) : Int) ≤ 9223372036854775807) ∧ ((Sp.pre35 ((IntKind.u64.wrap ((Sp.nthT k.2.2.2.2.2 x.2).2.2.2.1)), (1 : Int))) ∧ ((((ByteArray.size (strCat (strCat (strCat x.1 (Sp.F36 ((Sp.nthT k.2.2.2.2.2 x.2).1.1))) (Sp.F36 ((Sp.nthT k.2.2.2.2.2 x.2).2.1))) (Sp.F37 [(Sp.nthT k.2.2.2.2.2 x.2).1.2, (Sp.nthT k.2.2.2.2.2 x.2).2.2.1, (Sp.nthT k.2.2.2.2.2 x.2).2.2.2.2.2])) : Nat) : Int) + ((ByteArray.size (Sp.F35 ((IntKind.u64.wrap ((Sp.nthT k.2.2.2.2.2 x.2).2.2.2.1)), (1 : Int))) : Nat) : Int) ≤ 9223372036854775807) ∧ ((Sp.pre35 ((IntKind.u64.wrap ((Sp.nthT k.2.2.2.2.2 x.2).2.2.2.2.1)), (1 : Int))) ∧ ((((ByteArray.size (strCat (strCat (strCat (strCat x.1 (Sp.F36 ((Sp.nthT k.2.2.2.2.2 x.2).1.1))) (Sp.F36 ((Sp.nthT k.2.2.2.2.2 x.2).2.1))) (Sp.F37 [(Sp.nthT k.2.2.2.2.2 x.2).1.2, (Sp.nthT k.2.2.2.2.2 x.2).2.2.1, (Sp.nthT k.2.2.2.2.2 x.2).2.2.2.2.2])) (Sp.F35 ((IntKind.u64.wrap ((Sp.nthT k.2.2.2.2.2 x.2).2.2.2.1)), (1 : Int)))) : Nat) : Int) + ((ByteArray.size (Sp.F35 ((IntKind.u64.wrap ((Sp.nthT k.2.2.2.2.2 x.2).2.2.2.2.1)), (1 : Int))) : Nat) : Int) ≤ 9223372036854775807) ∧ True)))))))))) ∧ ((decide (x.2 < ((k.2.2.2.2.2).length : Int))) = false → True)))) (by kernel_rfl) (by
  try dsimp only [Ty.den] at *
  unfold Sp.in17_5 at h
  simp only [Sp.num1, Sp.num2, Sp.num4, Sp.num8, Sp.rcalls_eq, Sp.rbits2, Sp.rbits3, Sp.rbits6, Sp.bts_size, Sp.strCat_size, Sp.le_len, Sp.ce_len, List.length_cons, List.length_nil, Sp.pre35, Sp.pre37, decide_eq_true_eq, decide_eq_false_iff_not] at *
  (repeat' (first | apply And.intro | intro _)) <;> first | omega | exact trivial)) (fun k x => by kernel_rfl) so17_5
def ct17 : Ct := { p := (Ty.pair ty25 ty52), psh := [some 8, some 8], r := (Ty.pair ty9 ty37), rsh := (Rsh.tup [none, none]), pre := some Sp.pre17, fresh := none, F := Sp.F17 }
theorem ok17 : CtOk Try.prog gdS 17 ct17 :=
  fn_okU (ctxOkZ (zkokZmH3 true) pgokPmG0 fvok_none gokGmL3 []) rfl Try.func17 (p := (Ty.pair ty25 ty52)) (psh := [some 8, some 8]) (r := (Ty.pair ty9 ty37)) (rsh := (Rsh.tup [none, none])) (pre := some Sp.pre17) (fresh := none) (F := Sp.F17) (L := (lookL [(5, LS17_5)])) (c := bodyOf Try.f17) (dflt := Ty.dflt (Ty.pair ty9 ty37)) rfl (loops_of (l := [bodyAt (bodyOf Try.f17) [0]]) (by kernel_rfl) (loops_cons (s0 := LS17_5) (by kernel_rfl) lo17_5 (loops_nil)))
    (fun x fx hq => have h := hq _ rfl; safe_of (S := ((((!(Sp.F42 x)) = true → True) ∧ ((!(Sp.F42 x)) = false → ((Sp.pre35 ((90 : Int), (1 : Int))) ∧ ((Sp.pre35 ((IntKind.u64.wrap ((x.1.2.2.2.2.2.2.2).length : Int)), (1 : Int))) ∧ ((((ByteArray.size (Sp.F35 ((90 : Int), (1 : Int))) : Nat) : Int) + ((ByteArray.size (Sp.F35 ((IntKind.u64.wrap ((x.1.2.2.2.2.2.2.2).length : Int)), (1 : Int))) : Nat) : Int) ≤ 9223372036854775807) ∧ ((((ByteArray.size (strCat (Sp.F35 ((90 : Int), (1 : Int))) (Sp.F35 ((IntKind.u64.wrap ((x.1.2.2.2.2.2.2.2).length : Int)), (1 : Int)))) : Nat) : Int) + ((ByteArray.size (Sp.F36 x.2.1) : Nat) : Int) ≤ 9223372036854775807) ∧ ((((ByteArray.size (strCat (strCat (Sp.F35 ((90 : Int), (1 : Int))) (Sp.F35 ((IntKind.u64.wrap ((x.1.2.2.2.2.2.2.2).length : Int)), (1 : Int)))) (Sp.F36 x.2.1)) : Nat) : Int) + ((ByteArray.size (Sp.F36 x.2.2.1) : Nat) : Int) ≤ 9223372036854775807) ∧ ((Sp.pre37 [x.2.2.2.1, x.2.2.2.2.1]) ∧ ((((ByteArray.size (strCat (strCat (strCat (Sp.F35 ((90 : Int), (1 : Int))) (Sp.F35 ((IntKind.u64.wrap ((x.1.2.2.2.2.2.2.2).length : Int)), (1 : Int)))) (Sp.F36 x.2.1)) (Sp.F36 x.2.2.1)) : Nat) : Int) + ((ByteArray.size (Sp.F37 [x.2.2.2.1, x.2.2.2.2.1]) : Nat) : Int) ≤ 9223372036854775807) ∧ ((Sp.pre35 ((IntKind.u64.wrap x.2.2.2.2.2.1), (2 : Int))) ∧ ((((ByteArray.size (strCat (strCat (strCat (strCat (Sp.F35 ((90 : Int), (1 : Int))) (Sp.F35 ((IntKind.u64.wrap ((x.1.2.2.2.2.2.2.2).length : Int)), (1 : Int)))) (Sp.F36 x.2.1)) (Sp.F36 x.2.2.1)) (Sp.F37 [x.2.2.2.1, x.2.2.2.2.1])) : Nat) : Int) + ((ByteArray.size (Sp.F35 ((IntKind.u64.wrap x.2.2.2.2.2.1), (2 : Int))) : Nat) : Int) ≤ 9223372036854775807) ∧ ((Sp.in17_5 x.2 ((strCat (strCat (strCat (strCat (strCat (Sp.F35 ((90 : Int), (1 : Int))) (Sp.F35 ((IntKind.u64.wrap ((x.1.2.2.2.2.2.2.2).length : Int)), (1 : Int)))) (Sp.F36 x.2.1)) (Sp.F36 x.2.2.1)) (Sp.F37 [x.2.2.2.1, x.2.2.2.2.1])) (Sp.F35 ((IntKind.u64.wrap x.2.2.2.2.2.1), (2 : Int)))), (0 : Int))) ∧ ((Sp.pre16 ((Sp.K17_1 x).1)) ∧ True))))))))))))))) (by kernel_rfl) (by
  try dsimp only [Ty.den] at *
  unfold Sp.pre17 at h
  refine ⟨fun _ => trivial, fun hc => ?_⟩
  have hin : ∀ r : ByteArray, r.size = 21 → Sp.in17_5 x.2 (r, (0 : Int)) := fun r hr => by
    simp only [Sp.in17_5, hr]
    omega
  have hI := fun (r : ByteArray) (hr : r.size = 21) => Sp.end_inv (step := Sp.st17_5) (k := x.2) (I := Sp.in17_5 x.2) (fun y k' z hy hz => by
      have h0 := so17_5 x.2 y fx.2 hy
      rw [hz] at h0
      exact h0.2.1) (fun y k' z hy hz => by
      unfold Sp.st17_5 at hz
      cases hd : decide (y.2 < (x.2.2.2.2.2.2.length : Int)) with
      | true => rw [hd] at hz; cases hz
      | false => rw [hd] at hz; cases hz; exact hy) (Nat.succ (Sp.mu17_5 x.2 (r, (0 : Int)))) _ (hin r hr)
  have hlen : ∀ (r : ByteArray) (hr : r.size = 21), (Sp.G17_5 x.2 (r, (0 : Int))).1.size ≤ 1000 := fun r hr => by
    obtain ⟨_, h2, h4, h5⟩ := hI r hr
    have h2 : (Sp.G17_5 x.2 (r, (0 : Int))).2 ≤ (x.2.2.2.2.2.2.length : Int) := h2
    have h4 : (x.2.2.2.2.2.2.length : Int) ≤ 30 := h4
    have h5 : ((Sp.G17_5 x.2 (r, (0 : Int))).1.size : Int) = 21 + 19 * (Sp.G17_5 x.2 (r, (0 : Int))).2 := h5
    omega
  (repeat' (first | apply And.intro)) <;> first | omega | (simp only [Sp.num1, Sp.num2, Sp.num4, Sp.num8, Sp.rcalls_eq, Sp.rbits2, Sp.rbits3, Sp.rbits6, Sp.bts_size, Sp.strCat_size, Sp.le_len, Sp.ce_len, List.length_cons, List.length_nil, Sp.pre35, Sp.pre37]; omega) | exact hin _ (by simp only [Sp.num1, Sp.num2, Sp.num4, Sp.num8, Sp.rcalls_eq, Sp.rbits2, Sp.rbits3, Sp.rbits6, Sp.bts_size, Sp.strCat_size, Sp.le_len, Sp.ce_len, List.length_cons, List.length_nil, Sp.pre35, Sp.pre37]) | exact trivial | (show (Sp.K17_1 x).1.size ≤ 99990; exact Nat.le_trans (hlen _ (by simp only [Sp.num1, Sp.num2, Sp.num4, Sp.num8, Sp.rcalls_eq, Sp.rbits2, Sp.rbits3, Sp.rbits6, Sp.bts_size, Sp.strCat_size, Sp.le_len, Sp.ce_len, List.length_cons, List.length_nil, Sp.pre35, Sp.pre37])) (by omega)))) (fun x => by kernel_rfl)
def GmL4 : List (Nat × Ct) := (12, ct12) :: (17, ct17) :: GmL3
theorem gokGmL4 : GOk GmL4 := gok_cons ok12 ⟨_, Try.func12, by kernel_rfl, by kernel_rfl⟩ (gok_cons ok17 ⟨_, Try.func17, by kernel_rfl, by kernel_rfl⟩ (gokGmL3))
end Go.Proofs.Ytbnihoioblmgkaa.Sy
end

section
/- What the reference's open says (own work). -/
namespace Go.Proofs.Ytbnihoioblmgkaa.Sp
open Go Sy
set_option linter.unusedVariables false
set_option linter.unusedSimpArgs false
theorem rsize_ok {b : BldT} (hB : IsB b) (hv : F40 b = 0) : F15 b = (14 + 19 * (b.2.2.2.2.2.2.2.length : Int), 23 + 19 * (b.2.2.2.2.2.2.2.length : Int)) := by
  have h1 := hB.cn
  have h1 : b.2.2.2.2.2.2.2.length ≤ 8 := h1.2
  unfold F15
  rw [hv]
  show ((IntKind.i64.wrap (14 + IntKind.i64.wrap (19 * (b.2.2.2.2.2.2.2.length : Int)))), (IntKind.i64.wrap (23 + IntKind.i64.wrap (19 * (b.2.2.2.2.2.2.2.length : Int))))) = _
  rw [wrap_i64_of (x := 19 * (b.2.2.2.2.2.2.2.length : Int)) (by omega) (by omega), wrap_i64_of (by omega) (by omega), wrap_i64_of (by omega) (by omega)]
theorem rsize_pre {b : BldT} (hl : b.cars.length ≤ maxLen) : F40 b = 0 → (14 ≤ (F15 b).1 ∧ (F15 b).1 ≤ 99000) ∧ (14 ≤ (F15 b).2 ∧ (F15 b).2 ≤ 99000) := fun hv => by
  have hc := (rvalid_b hl hv).cn
  have hc : b.2.2.2.2.2.2.2.length ≤ 8 := hc.2
  rw [rsize_ok (rvalid_b hl hv) hv]
  show (14 ≤ 14 + 19 * (b.2.2.2.2.2.2.2.length : Int) ∧ 14 + 19 * (b.2.2.2.2.2.2.2.length : Int) ≤ 99000) ∧ (14 ≤ 23 + 19 * (b.2.2.2.2.2.2.2.length : Int) ∧ 23 + 19 * (b.2.2.2.2.2.2.2.length : Int) ≤ 99000)
  omega
theorem ropen_ok {b : BldT} {s : ByteArray} {z hd : Int} (hl : b.cars.length ≤ maxLen) (h : F43 (b, s, z, hd) = 0) :
    F40 b = 0 ∧ IsB b ∧ (s.size : Int) = z ∧ strAt s 0 = hd ∧ strAt s 1 = (b.2.2.2.2.2.2.2.length : Int) ∧ (F70 s).2 = 0 := by
  unfold F43 at h
  simp only at h
  cases h1 : (F40 b != 0) with
  | true => rw [h1] at h; cases h
  | false =>
    rw [h1] at h
    simp only [cond_false] at h
    cases h2 : ((s.size : Int) != z) with
    | true => rw [h2] at h; cases h
    | false =>
      rw [h2] at h
      simp only [cond_false] at h
      cases h3 : ((IntKind.i64.wrap (strAt s 0) != hd) || (IntKind.i64.wrap (strAt s 1) != (b.2.2.2.2.2.2.2.length : Int))) with
      | true => rw [h3] at h; cases h
      | false =>
        rw [h3] at h
        rw [bne_eq_false_iff_eq] at h1 h2
        rw [Bool.or_eq_false_iff, bne_eq_false_iff_eq, bne_eq_false_iff_eq] at h3
        have r0 := strAt_rng s 0
        have r1 := strAt_rng s 1
        rw [wrap_i64_of (by omega) (by omega), wrap_i64_of (by omega) (by omega)] at h3
        exact ⟨h1, rvalid_b hl h1, h2, h3.1, h3.2, h⟩
end Go.Proofs.Ytbnihoioblmgkaa.Sp
end

section
/- Contracts of functions, by the evaluator (own program gen.py): overlayref03.ReadIn, overlayref03.ReadOut. -/
set_option linter.unusedVariables false
set_option linter.unusedSimpArgs false
set_option maxRecDepth 100000
namespace Go.Proofs.Ytbnihoioblmgkaa.Sp
open Go Go.RowKit Sy
def in19_7 (k : (ByteArray × BldT)) (x : (Int × InT)) : Prop := (0 : Int) ≤ x.1 ∧ x.1 ≤ (k.2.2.2.2.2.2.2.2.length : Int) ∧ (k.2.2.2.2.2.2.2.2.length : Int) ≤ 8 ∧ (k.1.size : Int) = 14 + 19 * (k.2.2.2.2.2.2.2.2.length : Int) ∧ (x.2.2.2.length : Int) = x.1
def mu19_7 (k : (ByteArray × BldT)) (x : (Int × InT)) : Nat := ((k.2.2.2.2.2.2.2.2.length : Int) - x.1).toNat
def K19_7_1 (k : (ByteArray × BldT)) (x : (Int × InT)) :=
  (x.2.2.2 ++ [(((IntKind.u32.wrap (Sp.F45 (k.1, (IntKind.i64.wrap ((12 : Int) + (IntKind.i64.wrap ((19 : Int) * x.1)))), (4 : Int)))), (Sp.F46 (k.1, (IntKind.i64.wrap ((IntKind.i64.wrap ((12 : Int) + (IntKind.i64.wrap ((19 : Int) * x.1)))) + (4 : Int))), (0 : Int))), (Sp.F46 (k.1, (IntKind.i64.wrap ((IntKind.i64.wrap ((12 : Int) + (IntKind.i64.wrap ((19 : Int) * x.1)))) + (4 : Int))), (1 : Int))), (Sp.F46 (k.1, (IntKind.i64.wrap ((IntKind.i64.wrap ((12 : Int) + (IntKind.i64.wrap ((19 : Int) * x.1)))) + (4 : Int))), (2 : Int))), (Sp.F46 (k.1, (IntKind.i64.wrap ((IntKind.i64.wrap ((12 : Int) + (IntKind.i64.wrap ((19 : Int) * x.1)))) + (4 : Int))), (3 : Int)))), ((IntKind.i64.wrap (strAt k.1 (IntKind.i64.wrap ((IntKind.i64.wrap ((12 : Int) + (IntKind.i64.wrap ((19 : Int) * x.1)))) + (5 : Int))))), (Sp.F46 (k.1, (IntKind.i64.wrap ((IntKind.i64.wrap ((12 : Int) + (IntKind.i64.wrap ((19 : Int) * x.1)))) + (4 : Int))), (4 : Int))), (IntKind.i64.wrap (strAt k.1 (IntKind.i64.wrap ((IntKind.i64.wrap ((12 : Int) + (IntKind.i64.wrap ((19 : Int) * x.1)))) + (6 : Int))))), (Sp.F46 (k.1, (IntKind.i64.wrap ((IntKind.i64.wrap ((12 : Int) + (IntKind.i64.wrap ((19 : Int) * x.1)))) + (4 : Int))), (5 : Int)))), (IntKind.u32.wrap (Sp.F45 (k.1, (IntKind.i64.wrap ((IntKind.i64.wrap ((12 : Int) + (IntKind.i64.wrap ((19 : Int) * x.1)))) + (7 : Int))), (4 : Int)))), (Int.toNat (Sp.F45 (k.1, (IntKind.i64.wrap ((IntKind.i64.wrap ((12 : Int) + (IntKind.i64.wrap ((19 : Int) * x.1)))) + (11 : Int))), (8 : Int)))))])
def st19_7 (k : (ByteArray × BldT)) (x : (Int × InT)) : BOut (ByteArray × BldT) (Int × InT) ((InT) × Int) :=
  bif (decide (x.1 < ((k.2.2.2.2.2.2.2.2).length : Int))) then
    BOut.next k ((IntKind.i64.wrap (x.1 + (1 : Int))), x.2.1, x.2.2.1, (Sp.K19_7_1 k x))
  else
    BOut.brk k x
def G19_7 (k : (ByteArray × BldT)) (x : (Int × InT)) : (Int × InT) := endOf st19_7 k (Nat.succ (mu19_7 k x)) x
def F19 (x : (BldT) × ByteArray) : (InT) × Int :=
  bif ((Sp.F43 (x.1, x.2, (Sp.F15 x.1).1, (165 : Int))) != (0 : Int)) then
    ((((0 : Int), (0 : Int)), ((0 : Int), (0 : Int)), []), (Sp.F43 (x.1, x.2, (Sp.F15 x.1).1, (165 : Int))))
  else
    bif (((Sp.F12 (x.1, (Sp.G19_7 (x.2, x.1) ((0 : Int), (Sp.F44 (x.2, (2 : Int))), ((IntKind.i64.wrap (strAt x.2 (10 : Int))), (IntKind.i64.wrap (strAt x.2 (11 : Int)))), [])).2)).2 != (0 : Int)) || (!strEq ((Sp.F12 (x.1, (Sp.G19_7 (x.2, x.1) ((0 : Int), (Sp.F44 (x.2, (2 : Int))), ((IntKind.i64.wrap (strAt x.2 (10 : Int))), (IntKind.i64.wrap (strAt x.2 (11 : Int)))), [])).2)).1) x.2)) then
      ((((0 : Int), (0 : Int)), ((0 : Int), (0 : Int)), []), (31 : Int))
    else
      ((Sp.G19_7 (x.2, x.1) ((0 : Int), (Sp.F44 (x.2, (2 : Int))), ((IntKind.i64.wrap (strAt x.2 (10 : Int))), (IntKind.i64.wrap (strAt x.2 (11 : Int)))), [])).2, (0 : Int))
def in21_7 (k : (ByteArray × BldT)) (x : (Int × OutT)) : Prop := (0 : Int) ≤ x.1 ∧ x.1 ≤ (k.2.2.2.2.2.2.2.2.length : Int) ∧ (k.2.2.2.2.2.2.2.2.length : Int) ≤ 8 ∧ (k.1.size : Int) = 23 + 19 * (k.2.2.2.2.2.2.2.2.length : Int) ∧ (x.2.2.2.2.2.2.length : Int) = x.1
def mu21_7 (k : (ByteArray × BldT)) (x : (Int × OutT)) : Nat := ((k.2.2.2.2.2.2.2.2.length : Int) - x.1).toNat
def K21_7_1 (k : (ByteArray × BldT)) (x : (Int × OutT)) :=
  (x.2.2.2.2.2.2 ++ [(((Sp.F44 (k.1, (IntKind.i64.wrap ((21 : Int) + (IntKind.i64.wrap ((19 : Int) * x.1)))))), (Sp.F46 (k.1, (IntKind.i64.wrap ((IntKind.i64.wrap ((21 : Int) + (IntKind.i64.wrap ((19 : Int) * x.1)))) + (16 : Int))), (0 : Int)))), (Sp.F44 (k.1, (IntKind.i64.wrap ((IntKind.i64.wrap ((21 : Int) + (IntKind.i64.wrap ((19 : Int) * x.1)))) + (8 : Int))))), (Sp.F46 (k.1, (IntKind.i64.wrap ((IntKind.i64.wrap ((21 : Int) + (IntKind.i64.wrap ((19 : Int) * x.1)))) + (16 : Int))), (1 : Int))), (IntKind.i64.wrap (strAt k.1 (IntKind.i64.wrap ((IntKind.i64.wrap ((21 : Int) + (IntKind.i64.wrap ((19 : Int) * x.1)))) + (17 : Int))))), (IntKind.i64.wrap (strAt k.1 (IntKind.i64.wrap ((IntKind.i64.wrap ((21 : Int) + (IntKind.i64.wrap ((19 : Int) * x.1)))) + (18 : Int))))), (Sp.F46 (k.1, (IntKind.i64.wrap ((IntKind.i64.wrap ((21 : Int) + (IntKind.i64.wrap ((19 : Int) * x.1)))) + (16 : Int))), (2 : Int))))])
def st21_7 (k : (ByteArray × BldT)) (x : (Int × OutT)) : BOut (ByteArray × BldT) (Int × OutT) ((OutT) × Int) :=
  bif (decide (x.1 < ((k.2.2.2.2.2.2.2.2).length : Int))) then
    BOut.next k ((IntKind.i64.wrap (x.1 + (1 : Int))), x.2.1, x.2.2.1, x.2.2.2.1, x.2.2.2.2.1, x.2.2.2.2.2.1, (Sp.K21_7_1 k x))
  else
    BOut.brk k x
def G21_7 (k : (ByteArray × BldT)) (x : (Int × OutT)) : (Int × OutT) := endOf st21_7 k (Nat.succ (mu21_7 k x)) x
def F21 (x : (BldT) × ByteArray) : (OutT) × Int :=
  bif ((Sp.F43 (x.1, x.2, (Sp.F15 x.1).2, (90 : Int))) != (0 : Int)) then
    ((((0 : Int), (0 : Int)), ((0 : Int), (0 : Int)), false, false, (0 : Int), []), (Sp.F43 (x.1, x.2, (Sp.F15 x.1).2, (90 : Int))))
  else
    bif (((Sp.F17 (x.1, (Sp.G21_7 (x.2, x.1) ((0 : Int), (Sp.F44 (x.2, (2 : Int))), (Sp.F44 (x.2, (10 : Int))), (Sp.F46 (x.2, (18 : Int), (0 : Int))), (Sp.F46 (x.2, (18 : Int), (1 : Int))), (IntKind.i64.wrap (Sp.F45 (x.2, (19 : Int), (2 : Int)))), [])).2)).2 != (0 : Int)) || (!strEq ((Sp.F17 (x.1, (Sp.G21_7 (x.2, x.1) ((0 : Int), (Sp.F44 (x.2, (2 : Int))), (Sp.F44 (x.2, (10 : Int))), (Sp.F46 (x.2, (18 : Int), (0 : Int))), (Sp.F46 (x.2, (18 : Int), (1 : Int))), (IntKind.i64.wrap (Sp.F45 (x.2, (19 : Int), (2 : Int)))), [])).2)).1) x.2)) then
      ((((0 : Int), (0 : Int)), ((0 : Int), (0 : Int)), false, false, (0 : Int), []), (31 : Int))
    else
      ((Sp.G21_7 (x.2, x.1) ((0 : Int), (Sp.F44 (x.2, (2 : Int))), (Sp.F44 (x.2, (10 : Int))), (Sp.F46 (x.2, (18 : Int), (0 : Int))), (Sp.F46 (x.2, (18 : Int), (1 : Int))), (IntKind.i64.wrap (Sp.F45 (x.2, (19 : Int), (2 : Int)))), [])).2, (0 : Int))
end Go.Proofs.Ytbnihoioblmgkaa.Sp
namespace Go.Proofs.Ytbnihoioblmgkaa.Sy
open Go Go.RowKit Sp
def LS19_7 : LS (Ty.pair ty33 ty37).den := mkLS (Ty.pair ty9 ty25) (Ty.pair ty3 ty33)  [(1, none)] [(2, 8)] [(10, none)] [(9, 5)] [(5, 100705, true, 71)] [] [(2, 2), (9, 9)] 0 false Sp.in19_7 Sp.st19_7 Sp.mu19_7
set_option maxHeartbeats 4000000 in
theorem so19_7 (k : (Ty.pair ty9 ty25).den) (x : (Ty.pair ty3 ty33).den) (fk : Fit (Ty.pair ty9 ty25) k) (h : Sp.in19_7 k x) : StepOk false Sp.in19_7 Sp.mu19_7 k x (Sp.st19_7 k x) := by
  try dsimp only [Ty.den] at *
  unfold Sp.in19_7 at h
  unfold Sp.st19_7
  refine StepOk.cnd (fun hc => ?_) (fun _ => rfl)
  rw [decide_eq_true_eq] at hc
  have e : IntKind.i64.wrap (x.1 + 1) = x.1 + 1 := Sp.wrap_i64_of (by omega) (by omega)
  rw [e]
  refine ⟨rfl, ?_, ?_⟩
  · simp only [Sp.in19_7, Sp.K19_7_1, List.length_append, List.length_cons, List.length_nil]
    omega
  · simp only [Sp.mu19_7]
    omega
set_option maxHeartbeats 4000000 in
theorem lo19_7 : LoopOk Try.prog gdS (RetAt Try.prog Try.f19 (Rsh.tup [some 5, none]) (some 71) (Ty.pair ty33 ty37)) (bodyAt (bodyOf Try.f19) [0]) LS19_7 :=
  loop_run (ctxOkZ (zkokZmH3 true) pgokPmG0 fvok_none gokGmL4 []) (L := lookL []) (d := BOut.brk (Ty.dflt (Ty.pair ty9 ty25)) (Ty.dflt (Ty.pair ty3 ty33))) (loops_of (l := []) (by kernel_rfl) (loops_nil)) (fun k x fk fx h => safe_of (S := ((((decide (x.1 < ((k.2.2.2.2.2.2.2.2).length : Int))) = true → ((Sp.pre45 (k.1, (IntKind.i64.wrap ((12 : Int) + (IntKind.i64.wrap ((19 : Int) * x.1)))), (4 : Int))) ∧ ((Sp.pre46 (k.1, (IntKind.i64.wrap ((IntKind.i64.wrap ((12 : Int) + (IntKind.i64.wrap ((19 : Int) * x.1)))) + (4 : Int))), (0 : Int))) ∧ ((Sp.pre46 (k.1, (IntKind.i64.wrap ((IntKind.i64.wrap ((12 : Int) + (IntKind.i64.wrap ((19 : Int) * x.1)))) + (4 : Int))), (1 : Int))) ∧ ((Sp.pre46 (k.1, (IntKind.i64.wrap ((IntKind.i64.wrap ((12 : Int) + (IntKind.i64.wrap ((19 : Int) * x.1)))) + (4 : Int))), (2 : Int))) ∧ ((Sp.pre46 (k.1, (IntKind.i64.wrap ((IntKind.i64.wrap ((12 : Int) + (IntKind.i64.wrap ((19 : Int) * x.1)))) + (4 : Int))), (3 : Int))) ∧ ((0 ≤ (IntKind.i64.wrap ((IntKind.i64.wrap ((12 : Int) + (IntKind.i64.wrap ((19 : Int) * x.1)))) + (5 : Int))) ∧ (IntKind.i64.wrap ((IntKind.i64.wrap ((12 : Int) + (IntKind.i64.wrap ((19 : Int) * x.1)))) + (5 : Int))) < ((k.1).size : Int)) ∧ ((Sp.pre46 (k.1, (IntKind.i64.wrap ((IntKind.i64.wrap ((12 : Int) + (IntKind.i64.wrap ((19 : Int) * x.1)))) + (4 : Int))), (4 : Int))) ∧ ((0 ≤ (IntKind.i64.wrap ((IntKind.i64.wrap ((12 : Int) + (IntKind.i64.wrap ((19 : Int) * x.1)))) + (6 : Int))) ∧ (IntKind.i64.wrap ((IntKind.i64.wrap ((12 : Int) + (IntKind.i64.wrap ((19 : Int) * x.1)))) + (6 : Int))) < ((k.1).size : Int)) ∧ ((Sp.pre46 (k.1, (IntKind.i64.wrap ((IntKind.i64.wrap ((12 : Int) + (IntKind.i64.wrap ((19 : Int) * x.1)))) + (4 : Int))), (5 : Int))) ∧ ((Sp.pre45 (k.1, (IntKind.i64.wrap ((IntKind.i64.wrap ((12 : Int) + (IntKind.i64.wrap ((19 : Int) * x.1)))) + (7 : Int))), (4 : Int))) ∧ ((Sp.pre45 (k.1, (IntKind.i64.wrap ((IntKind.i64.wrap ((12 : Int) + (IntKind.i64.wrap ((19 : Int) * x.1)))) + (11 : Int))), (8 : Int))) ∧ (((List.length (x.2.2.2 : List (CarIn)) + List.length ([(((IntKind.u32.wrap (Sp.F45 (k.1, (IntKind.i64.wrap ((12 : Int) + (IntKind.i64.wrap ((19 : Int) * x.1)))), (4 : Int)))), (Sp.F46 (k.1, (IntKind.i64.wrap ((IntKind.i64.wrap ((12 : Int) + (IntKind.i64.wrap ((19 : Int) * x.1)))) + (4 : Int))), (0 : Int))), (Sp.F46 (k.1, (IntKind.i64.wrap ((IntKind.i64.wrap ((12 : Int) + (IntKind.i64.wrap ((19 : Int) * x.1)))) + (4 : Int))), (1 : Int))), (Sp.F46 (k.1, (IntKind.i64.wrap ((IntKind.i64.wrap ((12 : Int) + (IntKind.i64.wrap ((19 : Int) * x.1)))) + (4 : Int))), (2 : Int))), (Sp.F46 (k.1, (IntKind.i64.wrap ((IntKind.i64.wrap ((12 : Int) + (IntKind.i64.wrap ((19 : Int) * x.1)))) + (4 : Int))), (3 : Int)))), ((IntKind.i64.wrap (strAt k.1 (IntKind.i64.wrap ((IntKind.i64.wrap ((12 : Int) + (IntKind.i64.wrap ((19 : Int) * x.1)))) + (5 : Int))))), (Sp.F46 (k.1, (IntKind.i64.wrap ((IntKind.i64.wrap ((12 : Int) + (IntKind.i64.wrap ((19 : Int) * x.1)))) + (4 : Int))), (4 : Int))), (IntKind.i64.wrap (strAt k.1 (IntKind.i64.wrap ((IntKind.i64.wrap ((12 : Int) + (IntKind.i64.wrap ((19 : Int) * x.1)))) + (6 : Int))))), (Sp.F46 (k.1, (IntKind.i64.wrap ((IntKind.i64.wrap ((12 : Int) + (IntKind.i64.wrap ((19 : Int) * x.1)))) + (4 : Int))), (5 : Int)))), (IntKind.u32.wrap (Sp.F45 (k.1, (IntKind.i64.wrap ((IntKind.i64.wrap ((12 : Int) + (IntKind.i64.wrap ((19 : Int) * x.1)))) + (7 : Int))), (4 : Int)))), (Int.toNat (Sp.F45 (k.1, (IntKind.i64.wrap ((IntKind.i64.wrap ((12 : Int) + (IntKind.i64.wrap ((19 : Int) * x.1)))) + (11 : Int))), (8 : Int)))))] : List (CarIn))) * 56 ≤ 140737488355328 ∧ List.length (x.2.2.2 : List (CarIn)) + List.length ([(((IntKind.u32.wrap (Sp.F45 (k.1, (IntKind.i64.wrap ((12 : Int) + (IntKind.i64.wrap ((19 : Int) * x.1)))), (4 : Int)))), (Sp.F46 (k.1, (IntKind.i64.wrap ((IntKind.i64.wrap ((12 : Int) + (IntKind.i64.wrap ((19 : Int) * x.1)))) + (4 : Int))), (0 : Int))), (Sp.F46 (k.1, (IntKind.i64.wrap ((IntKind.i64.wrap ((12 : Int) + (IntKind.i64.wrap ((19 : Int) * x.1)))) + (4 : Int))), (1 : Int))), (Sp.F46 (k.1, (IntKind.i64.wrap ((IntKind.i64.wrap ((12 : Int) + (IntKind.i64.wrap ((19 : Int) * x.1)))) + (4 : Int))), (2 : Int))), (Sp.F46 (k.1, (IntKind.i64.wrap ((IntKind.i64.wrap ((12 : Int) + (IntKind.i64.wrap ((19 : Int) * x.1)))) + (4 : Int))), (3 : Int)))), ((IntKind.i64.wrap (strAt k.1 (IntKind.i64.wrap ((IntKind.i64.wrap ((12 : Int) + (IntKind.i64.wrap ((19 : Int) * x.1)))) + (5 : Int))))), (Sp.F46 (k.1, (IntKind.i64.wrap ((IntKind.i64.wrap ((12 : Int) + (IntKind.i64.wrap ((19 : Int) * x.1)))) + (4 : Int))), (4 : Int))), (IntKind.i64.wrap (strAt k.1 (IntKind.i64.wrap ((IntKind.i64.wrap ((12 : Int) + (IntKind.i64.wrap ((19 : Int) * x.1)))) + (6 : Int))))), (Sp.F46 (k.1, (IntKind.i64.wrap ((IntKind.i64.wrap ((12 : Int) + (IntKind.i64.wrap ((19 : Int) * x.1)))) + (4 : Int))), (5 : Int)))), (IntKind.u32.wrap (Sp.F45 (k.1, (IntKind.i64.wrap ((IntKind.i64.wrap ((12 : Int) + (IntKind.i64.wrap ((19 : Int) * x.1)))) + (7 : Int))), (4 : Int)))), (Int.toNat (Sp.F45 (k.1, (IntKind.i64.wrap ((IntKind.i64.wrap ((12 : Int) + (IntKind.i64.wrap ((19 : Int) * x.1)))) + (11 : Int))), (8 : Int)))))] : List (CarIn)) ≤ 4611686018427387903) ∧ True))))))))))))) ∧ ((decide (x.1 < ((k.2.2.2.2.2.2.2.2).length : Int))) = false → True)))) (by kernel_rfl) (by
  try dsimp only [Ty.den] at *
  unfold Sp.in19_7 at h
  refine ⟨fun hc => ?_, fun _ => trivial⟩
  rw [decide_eq_true_eq] at hc
  have e0 : IntKind.i64.wrap (19 * x.1) = 19 * x.1 := Sp.wrap_i64_of (by omega) (by omega)
  have e1 : IntKind.i64.wrap (12 + 19 * x.1) = 12 + 19 * x.1 := Sp.wrap_i64_of (by omega) (by omega)
  have f4 : IntKind.i64.wrap (12 + 19 * x.1 + 4) = 12 + 19 * x.1 + 4 := Sp.wrap_i64_of (by omega) (by omega)
  have f5 : IntKind.i64.wrap (12 + 19 * x.1 + 5) = 12 + 19 * x.1 + 5 := Sp.wrap_i64_of (by omega) (by omega)
  have f6 : IntKind.i64.wrap (12 + 19 * x.1 + 6) = 12 + 19 * x.1 + 6 := Sp.wrap_i64_of (by omega) (by omega)
  have f7 : IntKind.i64.wrap (12 + 19 * x.1 + 7) = 12 + 19 * x.1 + 7 := Sp.wrap_i64_of (by omega) (by omega)
  have f11 : IntKind.i64.wrap (12 + 19 * x.1 + 11) = 12 + 19 * x.1 + 11 := Sp.wrap_i64_of (by omega) (by omega)
  simp only [e0, e1, f4, f5, f6, f7, f11, Sp.pre45, Sp.pre46, Sp.pre44, List.length_cons, List.length_nil]
  (repeat' apply And.intro) <;> first | omega | exact trivial)) (fun k x => by kernel_rfl) so19_7
def ct19 : Ct := { p := (Ty.pair ty25 ty9), psh := [some 8, none], r := (Ty.pair ty33 ty37), rsh := (Rsh.tup [some 5, none]), pre := none, fresh := (some 71), F := Sp.F19 }
theorem ok19 : CtOk Try.prog gdS 19 ct19 :=
  fn_okU (ctxOkZ (zkokZmH3 true) pgokPmG0 fvok_none gokGmL4 []) rfl Try.func19 (p := (Ty.pair ty25 ty9)) (psh := [some 8, none]) (r := (Ty.pair ty33 ty37)) (rsh := (Rsh.tup [some 5, none])) (pre := none) (fresh := (some 71)) (F := Sp.F19) (L := (lookL [(7, LS19_7)])) (c := bodyOf Try.f19) (dflt := Ty.dflt (Ty.pair ty33 ty37)) rfl (loops_of (l := [bodyAt (bodyOf Try.f19) [0]]) (by kernel_rfl) (loops_cons (s0 := LS19_7) (by kernel_rfl) lo19_7 (loops_nil)))
    (fun x fx _ => safe_of (S := (((Sp.pre43 (x.1, x.2, (Sp.F15 x.1).1, (165 : Int))) ∧ ((((Sp.F43 (x.1, x.2, (Sp.F15 x.1).1, (165 : Int))) != (0 : Int)) = true → True) ∧ (((Sp.F43 (x.1, x.2, (Sp.F15 x.1).1, (165 : Int))) != (0 : Int)) = false → ((Sp.pre44 (x.2, (2 : Int))) ∧ ((0 ≤ (10 : Int) ∧ (10 : Int) < ((x.2).size : Int)) ∧ ((0 ≤ (11 : Int) ∧ (11 : Int) < ((x.2).size : Int)) ∧ ((Sp.in19_7 (x.2, x.1) ((0 : Int), (Sp.F44 (x.2, (2 : Int))), ((IntKind.i64.wrap (strAt x.2 (10 : Int))), (IntKind.i64.wrap (strAt x.2 (11 : Int)))), [])) ∧ ((Sp.pre12 (x.1, (Sp.G19_7 (x.2, x.1) ((0 : Int), (Sp.F44 (x.2, (2 : Int))), ((IntKind.i64.wrap (strAt x.2 (10 : Int))), (IntKind.i64.wrap (strAt x.2 (11 : Int)))), [])).2)) ∧ (((((Sp.F12 (x.1, (Sp.G19_7 (x.2, x.1) ((0 : Int), (Sp.F44 (x.2, (2 : Int))), ((IntKind.i64.wrap (strAt x.2 (10 : Int))), (IntKind.i64.wrap (strAt x.2 (11 : Int)))), [])).2)).2 != (0 : Int)) || (!strEq ((Sp.F12 (x.1, (Sp.G19_7 (x.2, x.1) ((0 : Int), (Sp.F44 (x.2, (2 : Int))), ((IntKind.i64.wrap (strAt x.2 (10 : Int))), (IntKind.i64.wrap (strAt x.2 (11 : Int)))), [])).2)).1) x.2)) = true → True) ∧ ((((Sp.F12 (x.1, (Sp.G19_7 (x.2, x.1) ((0 : Int), (Sp.F44 (x.2, (2 : Int))), ((IntKind.i64.wrap (strAt x.2 (10 : Int))), (IntKind.i64.wrap (strAt x.2 (11 : Int)))), [])).2)).2 != (0 : Int)) || (!strEq ((Sp.F12 (x.1, (Sp.G19_7 (x.2, x.1) ((0 : Int), (Sp.F44 (x.2, (2 : Int))), ((IntKind.i64.wrap (strAt x.2 (10 : Int))), (IntKind.i64.wrap (strAt x.2 (11 : Int)))), [])).2)).1) x.2)) = false → True)))))))))))) (by kernel_rfl) (by
  try dsimp only [Ty.den] at *
  have hl := fx.1.2.2.2.2.2.2.2.1
  refine ⟨fun h => (Sp.rsize_pre hl h).1, fun _ => trivial, fun hc => ?_⟩
  rw [bne_eq_false_iff_eq] at hc
  obtain ⟨hv, hB, hz, _, _, _⟩ := Sp.ropen_ok hl hc
  rw [Sp.rsize_ok hB hv] at hz
  have hz : (x.2.size : Int) = 14 + 19 * (x.1.2.2.2.2.2.2.2.length : Int) := hz
  have hcn : 1 ≤ x.1.2.2.2.2.2.2.2.length ∧ x.1.2.2.2.2.2.2.2.length ≤ 8 := hB.cn
  have hs : x.2.size ≤ 99000 := by omega
  have hin : ∀ y, y.2.2.length = 0 → Sp.in19_7 (x.2, x.1) ((0 : Int), y) := fun y hy => by
    refine ⟨Int.le_refl _, ?_, ?_, hz, ?_⟩
    · show (0 : Int) ≤ (x.1.2.2.2.2.2.2.2.length : Int)
      omega
    · show (x.1.2.2.2.2.2.2.2.length : Int) ≤ 8
      omega
    · show (y.2.2.length : Int) = 0
      omega
  have hlen : ∀ y, y.2.2.length = 0 → (Sp.G19_7 (x.2, x.1) ((0 : Int), y)).2.2.2.length ≤ 30 := fun y hy => by
    have hI := Sp.end_inv (step := Sp.st19_7) (k := (x.2, x.1)) (I := Sp.in19_7 (x.2, x.1)) (fun y k' z hy hz => by
      have h0 := so19_7 (x.2, x.1) y ⟨fx.2, fx.1⟩ hy
      rw [hz] at h0
      exact h0.2.1) (fun y k' z hy hz => by
      unfold Sp.st19_7 at hz
      cases hd : decide (y.1 < (x.1.2.2.2.2.2.2.2.length : Int)) with
      | true => rw [hd] at hz; cases hz
      | false => rw [hd] at hz; cases hz; exact hy) (Nat.succ (Sp.mu19_7 (x.2, x.1) ((0 : Int), y))) _ (hin y hy)
    obtain ⟨_, h2, _, _, h5⟩ := hI
    have h2 : (Sp.G19_7 (x.2, x.1) ((0 : Int), y)).1 ≤ (x.1.2.2.2.2.2.2.2.length : Int) := h2
    have h5 : ((Sp.G19_7 (x.2, x.1) ((0 : Int), y)).2.2.2.length : Int) = (Sp.G19_7 (x.2, x.1) ((0 : Int), y)).1 := h5
    omega
  refine ⟨⟨by simp, (by show (2 : Int) + 8 ≤ (x.2.size : Int); omega), hs⟩, ⟨by omega, by omega⟩, ⟨by omega, by omega⟩, hin _ rfl, hlen _ rfl, fun _ => trivial, fun _ => trivial⟩)) (fun x => by kernel_rfl)
def LS21_7 : LS (Ty.pair ty52 ty37).den := mkLS (Ty.pair ty9 ty25) (Ty.pair ty3 ty52)  [(1, none)] [(2, 8)] [(10, none)] [(9, 8)] [(8, 100708, true, 95)] [] [(2, 2), (9, 9)] 0 false Sp.in21_7 Sp.st21_7 Sp.mu21_7
set_option maxHeartbeats 4000000 in
theorem so21_7 (k : (Ty.pair ty9 ty25).den) (x : (Ty.pair ty3 ty52).den) (fk : Fit (Ty.pair ty9 ty25) k) (h : Sp.in21_7 k x) : StepOk false Sp.in21_7 Sp.mu21_7 k x (Sp.st21_7 k x) := by
  try dsimp only [Ty.den] at *
  unfold Sp.in21_7 at h
  unfold Sp.st21_7
  refine StepOk.cnd (fun hc => ?_) (fun _ => rfl)
  rw [decide_eq_true_eq] at hc
  have e : IntKind.i64.wrap (x.1 + 1) = x.1 + 1 := Sp.wrap_i64_of (by omega) (by omega)
  rw [e]
  refine ⟨rfl, ?_, ?_⟩
  · simp only [Sp.in21_7, Sp.K21_7_1, List.length_append, List.length_cons, List.length_nil]
    omega
  · simp only [Sp.mu21_7]
    omega
set_option maxHeartbeats 4000000 in
theorem lo21_7 : LoopOk Try.prog gdS (RetAt Try.prog Try.f21 (Rsh.tup [some 8, none]) (some 95) (Ty.pair ty52 ty37)) (bodyAt (bodyOf Try.f21) [0]) LS21_7 :=
  loop_run (ctxOkZ (zkokZmH3 true) pgokPmG0 fvok_none gokGmL4 []) (L := lookL []) (d := BOut.brk (Ty.dflt (Ty.pair ty9 ty25)) (Ty.dflt (Ty.pair ty3 ty52))) (loops_of (l := []) (by kernel_rfl) (loops_nil)) (fun k x fk fx h => safe_of (S := ((((decide (x.1 < ((k.2.2.2.2.2.2.2.2).length : Int))) = true → ((Sp.pre44 (k.1, (IntKind.i64.wrap ((21 : Int) + (IntKind.i64.wrap ((19 : Int) * x.1)))))) ∧ ((Sp.pre46 (k.1, (IntKind.i64.wrap ((IntKind.i64.wrap ((21 : Int) + (IntKind.i64.wrap ((19 : Int) * x.1)))) + (16 : Int))), (0 : Int))) ∧ ((Sp.pre44 (k.1, (IntKind.i64.wrap ((IntKind.i64.wrap ((21 : Int) + (IntKind.i64.wrap ((19 : Int) * x.1)))) + (8 : Int))))) ∧ ((Sp.pre46 (k.1, (IntKind.i64.wrap ((IntKind.i64.wrap ((21 : Int) + (IntKind.i64.wrap ((19 : Int) * x.1)))) + (16 : Int))), (1 : Int))) ∧ ((Sp.pre46 (k.1, (IntKind.i64.wrap ((IntKind.i64.wrap ((21 : Int) + (IntKind.i64.wrap ((19 : Int) * x.1)))) + (16 : Int))), (2 : Int))) ∧ ((0 ≤ (IntKind.i64.wrap ((IntKind.i64.wrap ((21 : Int) + (IntKind.i64.wrap ((19 : Int) * x.1)))) + (17 : Int))) ∧ (IntKind.i64.wrap ((IntKind.i64.wrap ((21 : Int) + (IntKind.i64.wrap ((19 : Int) * x.1)))) + (17 : Int))) < ((k.1).size : Int)) ∧ ((0 ≤ (IntKind.i64.wrap ((IntKind.i64.wrap ((21 : Int) + (IntKind.i64.wrap ((19 : Int) * x.1)))) + (18 : Int))) ∧ (IntKind.i64.wrap ((IntKind.i64.wrap ((21 : Int) + (IntKind.i64.wrap ((19 : Int) * x.1)))) + (18 : Int))) < ((k.1).size : Int)) ∧ (((List.length (x.2.2.2.2.2.2 : List (CarOut)) + List.length ([(((Sp.F44 (k.1, (IntKind.i64.wrap ((21 : Int) + (IntKind.i64.wrap ((19 : Int) * x.1)))))), (Sp.F46 (k.1, (IntKind.i64.wrap ((IntKind.i64.wrap ((21 : Int) + (IntKind.i64.wrap ((19 : Int) * x.1)))) + (16 : Int))), (0 : Int)))), (Sp.F44 (k.1, (IntKind.i64.wrap ((IntKind.i64.wrap ((21 : Int) + (IntKind.i64.wrap ((19 : Int) * x.1)))) + (8 : Int))))), (Sp.F46 (k.1, (IntKind.i64.wrap ((IntKind.i64.wrap ((21 : Int) + (IntKind.i64.wrap ((19 : Int) * x.1)))) + (16 : Int))), (1 : Int))), (IntKind.i64.wrap (strAt k.1 (IntKind.i64.wrap ((IntKind.i64.wrap ((21 : Int) + (IntKind.i64.wrap ((19 : Int) * x.1)))) + (17 : Int))))), (IntKind.i64.wrap (strAt k.1 (IntKind.i64.wrap ((IntKind.i64.wrap ((21 : Int) + (IntKind.i64.wrap ((19 : Int) * x.1)))) + (18 : Int))))), (Sp.F46 (k.1, (IntKind.i64.wrap ((IntKind.i64.wrap ((21 : Int) + (IntKind.i64.wrap ((19 : Int) * x.1)))) + (16 : Int))), (2 : Int))))] : List (CarOut))) * 48 ≤ 140737488355328 ∧ List.length (x.2.2.2.2.2.2 : List (CarOut)) + List.length ([(((Sp.F44 (k.1, (IntKind.i64.wrap ((21 : Int) + (IntKind.i64.wrap ((19 : Int) * x.1)))))), (Sp.F46 (k.1, (IntKind.i64.wrap ((IntKind.i64.wrap ((21 : Int) + (IntKind.i64.wrap ((19 : Int) * x.1)))) + (16 : Int))), (0 : Int)))), (Sp.F44 (k.1, (IntKind.i64.wrap ((IntKind.i64.wrap ((21 : Int) + (IntKind.i64.wrap ((19 : Int) * x.1)))) + (8 : Int))))), (Sp.F46 (k.1, (IntKind.i64.wrap ((IntKind.i64.wrap ((21 : Int) + (IntKind.i64.wrap ((19 : Int) * x.1)))) + (16 : Int))), (1 : Int))), (IntKind.i64.wrap (strAt k.1 (IntKind.i64.wrap ((IntKind.i64.wrap ((21 : Int) + (IntKind.i64.wrap ((19 : Int) * x.1)))) + (17 : Int))))), (IntKind.i64.wrap (strAt k.1 (IntKind.i64.wrap ((IntKind.i64.wrap ((21 : Int) + (IntKind.i64.wrap ((19 : Int) * x.1)))) + (18 : Int))))), (Sp.F46 (k.1, (IntKind.i64.wrap ((IntKind.i64.wrap ((21 : Int) + (IntKind.i64.wrap ((19 : Int) * x.1)))) + (16 : Int))), (2 : Int))))] : List (CarOut)) ≤ 4611686018427387903) ∧ True))))))))) ∧ ((decide (x.1 < ((k.2.2.2.2.2.2.2.2).length : Int))) = false → True)))) (by kernel_rfl) (by
  try dsimp only [Ty.den] at *
  unfold Sp.in21_7 at h
  refine ⟨fun hc => ?_, fun _ => trivial⟩
  rw [decide_eq_true_eq] at hc
  have e0 : IntKind.i64.wrap (19 * x.1) = 19 * x.1 := Sp.wrap_i64_of (by omega) (by omega)
  have e1 : IntKind.i64.wrap (21 + 19 * x.1) = 21 + 19 * x.1 := Sp.wrap_i64_of (by omega) (by omega)
  have f8 : IntKind.i64.wrap (21 + 19 * x.1 + 8) = 21 + 19 * x.1 + 8 := Sp.wrap_i64_of (by omega) (by omega)
  have f16 : IntKind.i64.wrap (21 + 19 * x.1 + 16) = 21 + 19 * x.1 + 16 := Sp.wrap_i64_of (by omega) (by omega)
  have f17 : IntKind.i64.wrap (21 + 19 * x.1 + 17) = 21 + 19 * x.1 + 17 := Sp.wrap_i64_of (by omega) (by omega)
  have f18 : IntKind.i64.wrap (21 + 19 * x.1 + 18) = 21 + 19 * x.1 + 18 := Sp.wrap_i64_of (by omega) (by omega)
  simp only [e0, e1, f8, f16, f17, f18, Sp.pre45, Sp.pre46, Sp.pre44, List.length_cons, List.length_nil]
  (repeat' apply And.intro) <;> first | omega | exact trivial)) (fun k x => by kernel_rfl) so21_7
def ct21 : Ct := { p := (Ty.pair ty25 ty9), psh := [some 8, none], r := (Ty.pair ty52 ty37), rsh := (Rsh.tup [some 8, none]), pre := none, fresh := (some 95), F := Sp.F21 }
theorem ok21 : CtOk Try.prog gdS 21 ct21 :=
  fn_okU (ctxOkZ (zkokZmH3 true) pgokPmG0 fvok_none gokGmL4 []) rfl Try.func21 (p := (Ty.pair ty25 ty9)) (psh := [some 8, none]) (r := (Ty.pair ty52 ty37)) (rsh := (Rsh.tup [some 8, none])) (pre := none) (fresh := (some 95)) (F := Sp.F21) (L := (lookL [(7, LS21_7)])) (c := bodyOf Try.f21) (dflt := Ty.dflt (Ty.pair ty52 ty37)) rfl (loops_of (l := [bodyAt (bodyOf Try.f21) [0]]) (by kernel_rfl) (loops_cons (s0 := LS21_7) (by kernel_rfl) lo21_7 (loops_nil)))
    (fun x fx _ => safe_of (S := (((Sp.pre43 (x.1, x.2, (Sp.F15 x.1).2, (90 : Int))) ∧ ((((Sp.F43 (x.1, x.2, (Sp.F15 x.1).2, (90 : Int))) != (0 : Int)) = true → True) ∧ (((Sp.F43 (x.1, x.2, (Sp.F15 x.1).2, (90 : Int))) != (0 : Int)) = false → ((Sp.pre44 (x.2, (2 : Int))) ∧ ((Sp.pre44 (x.2, (10 : Int))) ∧ ((Sp.pre46 (x.2, (18 : Int), (0 : Int))) ∧ ((Sp.pre46 (x.2, (18 : Int), (1 : Int))) ∧ ((Sp.pre45 (x.2, (19 : Int), (2 : Int))) ∧ ((Sp.in21_7 (x.2, x.1) ((0 : Int), (Sp.F44 (x.2, (2 : Int))), (Sp.F44 (x.2, (10 : Int))), (Sp.F46 (x.2, (18 : Int), (0 : Int))), (Sp.F46 (x.2, (18 : Int), (1 : Int))), (IntKind.i64.wrap (Sp.F45 (x.2, (19 : Int), (2 : Int)))), [])) ∧ ((Sp.pre17 (x.1, (Sp.G21_7 (x.2, x.1) ((0 : Int), (Sp.F44 (x.2, (2 : Int))), (Sp.F44 (x.2, (10 : Int))), (Sp.F46 (x.2, (18 : Int), (0 : Int))), (Sp.F46 (x.2, (18 : Int), (1 : Int))), (IntKind.i64.wrap (Sp.F45 (x.2, (19 : Int), (2 : Int)))), [])).2)) ∧ (((((Sp.F17 (x.1, (Sp.G21_7 (x.2, x.1) ((0 : Int), (Sp.F44 (x.2, (2 : Int))), (Sp.F44 (x.2, (10 : Int))), (Sp.F46 (x.2, (18 : Int), (0 : Int))), (Sp.F46 (x.2, (18 : Int), (1 : Int))), (IntKind.i64.wrap (Sp.F45 (x.2, (19 : Int), (2 : Int)))), [])).2)).2 != (0 : Int)) || (!strEq ((Sp.F17 (x.1, (Sp.G21_7 (x.2, x.1) ((0 : Int), (Sp.F44 (x.2, (2 : Int))), (Sp.F44 (x.2, (10 : Int))), (Sp.F46 (x.2, (18 : Int), (0 : Int))), (Sp.F46 (x.2, (18 : Int), (1 : Int))), (IntKind.i64.wrap (Sp.F45 (x.2, (19 : Int), (2 : Int)))), [])).2)).1) x.2)) = true → True) ∧ ((((Sp.F17 (x.1, (Sp.G21_7 (x.2, x.1) ((0 : Int), (Sp.F44 (x.2, (2 : Int))), (Sp.F44 (x.2, (10 : Int))), (Sp.F46 (x.2, (18 : Int), (0 : Int))), (Sp.F46 (x.2, (18 : Int), (1 : Int))), (IntKind.i64.wrap (Sp.F45 (x.2, (19 : Int), (2 : Int)))), [])).2)).2 != (0 : Int)) || (!strEq ((Sp.F17 (x.1, (Sp.G21_7 (x.2, x.1) ((0 : Int), (Sp.F44 (x.2, (2 : Int))), (Sp.F44 (x.2, (10 : Int))), (Sp.F46 (x.2, (18 : Int), (0 : Int))), (Sp.F46 (x.2, (18 : Int), (1 : Int))), (IntKind.i64.wrap (Sp.F45 (x.2, (19 : Int), (2 : Int)))), [])).2)).1) x.2)) = false → True)))))))))))))) (by kernel_rfl) (by
  try dsimp only [Ty.den] at *
  have hl := fx.1.2.2.2.2.2.2.2.1
  refine ⟨fun h => (Sp.rsize_pre hl h).2, fun _ => trivial, fun hc => ?_⟩
  rw [bne_eq_false_iff_eq] at hc
  obtain ⟨hv, hB, hz, _, _, _⟩ := Sp.ropen_ok hl hc
  rw [Sp.rsize_ok hB hv] at hz
  have hz : (x.2.size : Int) = 23 + 19 * (x.1.2.2.2.2.2.2.2.length : Int) := hz
  have hcn : 1 ≤ x.1.2.2.2.2.2.2.2.length ∧ x.1.2.2.2.2.2.2.2.length ≤ 8 := hB.cn
  have hs : x.2.size ≤ 99000 := by omega
  have hin : ∀ y, y.2.2.2.2.2.length = 0 → Sp.in21_7 (x.2, x.1) ((0 : Int), y) := fun y hy => by
    refine ⟨Int.le_refl _, ?_, ?_, hz, ?_⟩
    · show (0 : Int) ≤ (x.1.2.2.2.2.2.2.2.length : Int)
      omega
    · show (x.1.2.2.2.2.2.2.2.length : Int) ≤ 8
      omega
    · show (y.2.2.2.2.2.length : Int) = 0
      omega
  have hlen : ∀ y, y.2.2.2.2.2.length = 0 → (Sp.G21_7 (x.2, x.1) ((0 : Int), y)).2.2.2.2.2.2.length ≤ 30 := fun y hy => by
    have hI := Sp.end_inv (step := Sp.st21_7) (k := (x.2, x.1)) (I := Sp.in21_7 (x.2, x.1)) (fun y k' z hy hz => by
      have h0 := so21_7 (x.2, x.1) y ⟨fx.2, fx.1⟩ hy
      rw [hz] at h0
      exact h0.2.1) (fun y k' z hy hz => by
      unfold Sp.st21_7 at hz
      cases hd : decide (y.1 < (x.1.2.2.2.2.2.2.2.length : Int)) with
      | true => rw [hd] at hz; cases hz
      | false => rw [hd] at hz; cases hz; exact hy) (Nat.succ (Sp.mu21_7 (x.2, x.1) ((0 : Int), y))) _ (hin y hy)
    obtain ⟨_, h2, _, _, h5⟩ := hI
    have h2 : (Sp.G21_7 (x.2, x.1) ((0 : Int), y)).1 ≤ (x.1.2.2.2.2.2.2.2.length : Int) := h2
    have h5 : ((Sp.G21_7 (x.2, x.1) ((0 : Int), y)).2.2.2.2.2.2.length : Int) = (Sp.G21_7 (x.2, x.1) ((0 : Int), y)).1 := h5
    omega
  (repeat' (first | apply And.intro | intro _)) <;> first | omega | exact trivial | exact hin _ rfl | exact hlen _ rfl | (simp only [Sp.pre45, Sp.pre46, Sp.pre44]; omega) | (simp; done) | (simp; omega))) (fun x => by kernel_rfl)
def GmL5 : List (Nat × Ct) := (19, ct19) :: (21, ct21) :: GmL4
theorem gokGmL5 : GOk GmL5 := gok_cons ok19 ⟨_, Try.func19, by kernel_rfl, by kernel_rfl⟩ (gok_cons ok21 ⟨_, Try.func21, by kernel_rfl, by kernel_rfl⟩ (gokGmL4))
end Go.Proofs.Ytbnihoioblmgkaa.Sy
end

section
/- Sums of 16 bits, in plain words (own work). -/
namespace Go.Proofs.Ytbnihoioblmgkaa.Crc
set_option linter.unusedVariables false
set_option linter.unusedSimpArgs false
def stp (r : BitVec 16) : BitVec 16 := (r <<< 1) ^^^ (if r.msb then 0x1021#16 else 0#16)
theorem stp_xor (a b : BitVec 16) : stp (a ^^^ b) = stp a ^^^ stp b := by
  unfold stp
  rw [BitVec.shiftLeft_xor_distrib, BitVec.msb_xor]
  cases a.msb <;> cases b.msb <;> simp only [Bool.false_bne, Bool.true_bne, Bool.not_true, Bool.not_false, Bool.xor_true, Bool.xor_false, Bool.false_xor, Bool.true_xor, if_true, if_false, Bool.false_eq_true, BitVec.xor_zero]
  · rw [BitVec.xor_assoc]
  · rw [BitVec.xor_assoc, BitVec.xor_assoc, BitVec.xor_comm (b <<< 1)]
  · rw [BitVec.xor_assoc, BitVec.xor_comm (b <<< 1), ← BitVec.xor_assoc 0x1021#16, BitVec.xor_self, BitVec.zero_xor]
theorem stp_zero : stp 0#16 = 0#16 := by decide
theorem stp_ne {r : BitVec 16} (h : stp r = 0#16) : r = 0#16 := by
  unfold stp at h
  cases hm : r.msb with
  | true =>
    rw [hm] at h
    exfalso
    have := congrArg (fun x => x.getLsbD 0) h
    simp at this
  | false =>
    rw [hm] at h
    simp only [Bool.false_eq_true, if_false, BitVec.xor_zero] at h
    apply BitVec.eq_of_getLsbD_eq
    intro i hi
    rcases Nat.lt_or_ge i 15 with h1 | h1
    · have := congrArg (fun x => x.getLsbD (i + 1)) h
      simp only [BitVec.getLsbD_shiftLeft] at this
      have h2 : i + 1 < 16 := by omega
      simp [h2] at this
      simpa using this
    · have : i = 15 := by omega
      subst this
      rw [BitVec.msb_eq_getLsbD_last] at hm
      simpa using hm
def it : Nat → BitVec 16 → BitVec 16
  | 0, r => r | n + 1, r => it n (stp r)
theorem it_xor : ∀ (n : Nat) (a b : BitVec 16), it n (a ^^^ b) = it n a ^^^ it n b
  | 0, _, _ => rfl
  | n + 1, a, b => by simp only [it]; rw [stp_xor, it_xor n]
theorem it_zero : ∀ n, it n 0#16 = 0#16
  | 0 => rfl
  | n + 1 => by simp only [it]; rw [stp_zero, it_zero n]
theorem it_ne : ∀ (n : Nat) {r : BitVec 16}, it n r = 0#16 → r = 0#16
  | 0, _, h => h
  | n + 1, r, h => stp_ne (it_ne n h)
theorem it_add : ∀ (m n : Nat) (r : BitVec 16), it (m + n) r = it n (it m r)
  | 0, n, r => by rw [Nat.zero_add]; rfl
  | m + 1, n, r => by rw [Nat.add_right_comm]; simp only [it]; exact it_add m n (stp r)
theorem it_inj {n : Nat} {a b : BitVec 16} (h : it n a = it n b) : a = b := by
  have : it n (a ^^^ b) = 0#16 := by rw [it_xor, h, BitVec.xor_self]
  have := it_ne n this
  have h2 : a ^^^ b ^^^ b = 0#16 ^^^ b := by rw [this]
  rw [BitVec.xor_assoc, BitVec.xor_self, BitVec.xor_zero] at h2
  rw [h2]; simp
def hi (b : BitVec 8) : BitVec 16 := b.setWidth 16 <<< 8
def lo (b : BitVec 8) : BitVec 16 := b.setWidth 16
theorem hi_xor (a b : BitVec 8) : hi (a ^^^ b) = hi a ^^^ hi b := by unfold hi; rw [BitVec.setWidth_xor, BitVec.shiftLeft_xor_distrib]
theorem lo_hi : ∀ b : BitVec 8, it 8 (lo b) = hi b := by decide
def byt (r : BitVec 16) (b : BitVec 8) : BitVec 16 := it 8 (r ^^^ hi b)
def crc : BitVec 16 → List (BitVec 8) → BitVec 16
  | r, [] => r | r, b :: l => crc (byt r b) l
theorem crc_app : ∀ (l m : List (BitVec 8)) (r : BitVec 16), crc r (l ++ m) = crc (crc r l) m
  | [], m, r => rfl
  | b :: l, m, r => crc_app l m (byt r b)
theorem byt_xor (r s : BitVec 16) (a b : BitVec 8) : byt (r ^^^ s) (a ^^^ b) = byt r a ^^^ byt s b := by
  unfold byt
  rw [hi_xor, ← it_xor]
  congr 1
  rw [BitVec.xor_assoc, BitVec.xor_assoc]
  congr 1
  rw [← BitVec.xor_assoc, ← BitVec.xor_assoc, BitVec.xor_comm s]
theorem byt_zero (r : BitVec 16) : byt r 0#8 = it 8 r := by unfold byt; congr 1; show r ^^^ hi 0#8 = r; rw [show hi 0#8 = 0#16 by decide]; simp
theorem crc_start : ∀ (l : List (BitVec 8)) (r s : BitVec 16), crc (r ^^^ s) l = crc r l ^^^ it (8 * l.length) s
  | [], r, s => rfl
  | b :: l, r, s => by
    simp only [crc, List.length_cons]
    have : byt (r ^^^ s) b = byt r b ^^^ it 8 s := by
      have := byt_xor r s b 0#8
      rw [byt_zero, BitVec.xor_zero] at this
      exact this
    rw [this, crc_start l, show 8 * (l.length + 1) = 8 + 8 * l.length by omega, it_add]
theorem crc_seal (r : BitVec 16) (h l : BitVec 8) : crc r [h, l] = 0#16 ↔ r = hi h ^^^ lo l := by
  have e : crc r [h, l] = it 16 (r ^^^ (hi h ^^^ lo l)) := by
    simp only [crc]
    unfold byt
    rw [← lo_hi l, ← it_xor, ← it_add, BitVec.xor_assoc]
  rw [e]
  constructor
  · intro h1
    have h2 := it_ne _ h1
    have h3 : r ^^^ (hi h ^^^ lo l) ^^^ (hi h ^^^ lo l) = 0#16 ^^^ (hi h ^^^ lo l) := by rw [h2]
    rw [BitVec.xor_assoc, BitVec.xor_self, BitVec.xor_zero] at h3
    rw [h3]; simp
  · intro h1
    rw [h1, BitVec.xor_self, it_zero]
theorem it_bit : ∀ i : Fin 16, it i.val (0x8000#16 >>> i.val) = 0x8000#16 := by decide
theorem hi_bit : ∀ i : Fin 8, hi (1#8 <<< (7 - i.val)) = 0x8000#16 >>> i.val := by decide
theorem crc_flip (l : List (BitVec 8)) (r : BitVec 16) (j : Nat) (h : j < 8 * l.length) : crc r (l.set (j / 8) (l.getD (j / 8) 0#8 ^^^ 1#8 <<< (7 - j % 8))) = crc r l ^^^ it (8 * l.length - j) 0x8000#16 := by
  induction l generalizing r j with
  | nil => simp at h
  | cons b l ih =>
    rcases Nat.lt_or_ge j 8 with h1 | h1
    · have hj : j / 8 = 0 := by omega
      rw [hj]
      simp only [List.set_cons_zero, List.getD_cons_zero, crc, List.length_cons]
      have e : byt r (b ^^^ 1#8 <<< (7 - j % 8)) = byt r b ^^^ it (8 - j) 0x8000#16 := by
        have := byt_xor r 0#16 b (1#8 <<< (7 - j % 8))
        rw [BitVec.xor_zero] at this
        rw [this]
        congr 1
        unfold byt
        rw [BitVec.zero_xor]
        have hb := hi_bit ⟨j % 8, by omega⟩
        simp only at hb
        rw [hb, Nat.mod_eq_of_lt h1]
        have hi := it_bit ⟨j, by omega⟩
        simp only at hi
        conv => rhs; rw [← hi]
        rw [← it_add]
        congr 1
        omega
      rw [e, crc_start, ← it_add]
      congr 2
      omega
    · obtain ⟨k, rfl⟩ : ∃ k, j = k + 8 := ⟨j - 8, by omega⟩
      have hk : (k + 8) / 8 = k / 8 + 1 := by omega
      have hk2 : (k + 8) % 8 = k % 8 := by omega
      rw [hk, hk2]
      simp only [List.set_cons_succ, List.getD_cons_succ, crc, List.length_cons] at *
      rw [ih _ k (by omega)]
      congr 2
      omega
theorem it_first (M i : Nat) (h : i < M) (hi : i < 16) : it (M - i) 0x8000#16 = it M (0x8000#16 >>> i) := by
  have := it_bit ⟨i, hi⟩
  simp only at this
  rw [show M = i + (M - i) by omega, it_add, this]
  congr 1
  omega
end Go.Proofs.Ytbnihoioblmgkaa.Crc
end

section
/- Both sums in plain words, and both openings (own work). -/
namespace Go.Proofs.Ytbnihoioblmgkaa.Sp
open Go Sy
set_option linter.unusedVariables false
set_option linter.unusedSimpArgs false
open Crc
def bvs (l : List Int) : List (BitVec 8) := l.map (BitVec.ofInt 8)
theorem bvs_len (l : List Int) : (bvs l).length = l.length := List.length_map ..
theorem bvs_app (l m : List Int) : bvs (l ++ m) = bvs l ++ bvs m := List.map_append
theorem wrap16 (a : BitVec 16) : IntKind.u16.wrap (a.toNat : Int) = (a.toNat : Int) := by rw [IntKind.wrap_u16]; have := a.isLt; omega
theorem of16 (n : Int) : BitVec.ofInt 16 (IntKind.u16.wrap n) = BitVec.ofInt 16 n := by
  rw [IntKind.wrap_u16]
  apply BitVec.eq_of_toNat_eq
  simp only [BitVec.toNat_ofInt]
  omega
theorem of16_nat (r : BitVec 16) : BitVec.ofInt 16 (r.toNat : Int) = r := by
  apply BitVec.eq_of_toNat_eq
  simp only [BitVec.toNat_ofInt]
  have := r.isLt
  omega
theorem shl1 (r : BitVec 16) : BitVec.ofInt 16 ((r.toNat : Int) * 2 ^ 1) = r <<< 1 := by
  apply BitVec.eq_of_toNat_eq
  simp only [BitVec.toNat_ofInt, BitVec.toNat_shiftLeft, Nat.shiftLeft_eq]
  omega
theorem top1 (r : BitVec 16) : BitVec.ofInt 16 (Int.fdiv (r.toNat : Int) (2 ^ 15) * 4129) = if r.msb then 0x1021#16 else 0#16 := by
  rw [Int.fdiv_eq_ediv_of_nonneg _ (by omega), BitVec.msb_eq_decide]
  have := r.isLt
  by_cases h : 2 ^ (16 - 1) ≤ r.toNat
  · simp only [h, decide_true, if_true]
    have e : (r.toNat : Int) / 2 ^ 15 = 1 := by omega
    rw [e]
    decide
  · simp only [h, decide_false]
    have e : (r.toNat : Int) / 2 ^ 15 = 0 := by omega
    rw [e]
    decide
theorem p_step (r : BitVec 16) (i : Int) (h : i < 8) (h0 : 0 ≤ i) : st56_7 () ((r.toNat : Int), i) = .next () (((stp r).toNat : Int), i + 1) := by
  unfold st56_7
  have h1 : decide (i < 8) = true := by simpa using h
  have e1 : min ((1 : Int)).toNat IntKind.u16.bits = 1 := rfl
  have e2 : min ((15 : Int)).toNat IntKind.u16.bits = 15 := rfl
  simp only [h1, cond_true, e1, e2]
  rw [wrap_i64_of (by omega) (by omega)]
  have : IntKind.u16.wrap ((BitVec.ofInt IntKind.u16.bits (IntKind.u16.wrap ((r.toNat : Int) * 2 ^ 1)) ^^^ BitVec.ofInt IntKind.u16.bits (IntKind.u16.wrap (Int.fdiv (r.toNat : Int) (2 ^ 15) * 4129))).toNat : Int) = ((stp r).toNat : Int) := by
    show IntKind.u16.wrap (((BitVec.ofInt 16 (IntKind.u16.wrap ((r.toNat : Int) * 2 ^ 1)) ^^^ BitVec.ofInt 16 (IntKind.u16.wrap (Int.fdiv (r.toNat : Int) (2 ^ 15) * 4129))).toNat : Nat) : Int) = _
    rw [of16, of16, shl1, top1]
    exact wrap16 (stp r)
  rw [this]
theorem it_succ (i : Nat) (r : BitVec 16) : it (i + 1) r = stp (it i r) := it_add i 1 r
theorem p_in (r : BitVec 16) : (G56_7 () ((r.toNat : Int), (0 : Int))).1 = ((it 8 r).toNat : Int) := by
  unfold G56_7
  have := (end_row_brk (step := st56_7) (k := ()) (fun i => (((it i r).toNat : Int), (i : Int))) 8 (fun i hi => ⟨(), by
    try simp only
    rw [p_step _ _ (by omega) (by omega), it_succ]
    rfl⟩) (k' := ()) (y := (((it 8 r).toNat : Int), (8 : Int))) (by
    unfold st56_7
    rfl) (fuel := Nat.succ (mu56_7 () ((r.toNat : Int), (0 : Int)))) (by unfold mu56_7; simp only; omega)).1
  exact congrArg Prod.fst this
theorem of8 (b : Int) (h : 0 ≤ b ∧ b ≤ 255) : ((BitVec.ofInt 8 b).toNat : Int) = b := by simp only [BitVec.toNat_ofInt]; omega
theorem hi_nat (b : BitVec 8) : (hi b).toNat = b.toNat * 256 := by
  unfold hi
  rw [BitVec.toNat_shiftLeft, BitVec.toNat_setWidth, Nat.shiftLeft_eq]
  have := b.isLt
  omega
theorem p_byte (s : ByteArray) (n : Int) (r : BitVec 16) (i : Nat) (h : (i : Int) < n) (hs : n ≤ 1000000) : st56_3 (s, n) ((r.toNat : Int), (i : Int)) = .next (s, n) (((byt r (BitVec.ofInt 8 (strAt s i))).toNat : Int), ((i + 1 : Nat) : Int)) := by
  unfold st56_3
  have h1 : decide ((i : Int) < n) = true := by simpa using h
  have e1 : min ((8 : Int)).toNat IntKind.u16.bits = 8 := rfl
  simp only [h1, cond_true, e1]
  rw [wrap_i64_of (by omega) (by omega)]
  have hb := strAt_rng s i
  have e0 : BitVec.ofInt 16 (IntKind.u16.wrap (strAt s i) * 2 ^ 8) = hi (BitVec.ofInt 8 (strAt s i)) := by
    apply BitVec.eq_of_toNat_eq
    have := of8 _ hb
    rw [hi_nat, BitVec.toNat_ofInt, IntKind.wrap_u16]
    omega
  have : IntKind.u16.wrap ((BitVec.ofInt IntKind.u16.bits (r.toNat : Int) ^^^ BitVec.ofInt IntKind.u16.bits (IntKind.u16.wrap (IntKind.u16.wrap (strAt s i) * 2 ^ 8))).toNat : Int) = ((r ^^^ hi (BitVec.ofInt 8 (strAt s i))).toNat : Int) := by
    show IntKind.u16.wrap (((BitVec.ofInt 16 (r.toNat : Int) ^^^ BitVec.ofInt 16 (IntKind.u16.wrap (IntKind.u16.wrap (strAt s i) * 2 ^ 8))).toNat : Nat) : Int) = _
    rw [of16_nat, of16, e0]
    exact wrap16 _
  rw [this, p_in]
  rfl
theorem stb_take_succ (s : ByteArray) (i : Nat) (h : i < s.size) : (stb s).take (i + 1) = (stb s).take i ++ [strAt s i] := by
  have hl : i < (stb s).length := by simpa using h
  rw [List.take_add_one, List.getElem?_eq_getElem hl, strAt_nat s i h]
  rfl
def sum (s : ByteArray) : BitVec 16 := crc 0xFFFF#16 (bvs (stb s))
theorem p_sum (s : ByteArray) (h : s.size ≤ 1000000) : F56 s = ((sum s).toNat : Int) := by
  unfold F56 G56_3
  have := (end_row_brk (step := st56_3) (k := (s, (s.size : Int))) (fun i => (((crc 0xFFFF#16 (bvs ((stb s).take i))).toNat : Int), (i : Int))) s.size (fun i hi => ⟨_, by
    try simp only
    rw [p_byte s _ _ _ (by omega) (by omega), stb_take_succ s i hi, bvs_app, crc_app]
    rfl⟩) (k' := (s, (s.size : Int))) (y := (((sum s).toNat : Int), (s.size : Int))) (by
    try simp only
    rw [List.take_of_length_le (by simp)]
    unfold st56_3
    simp [sum]) (fuel := Nat.succ (mu56_3 (s, (s.size : Int)) ((65535 : Int), (0 : Int)))) (by unfold mu56_3; simp only; omega)).1
  exact congrArg Prod.fst this
theorem xor64 (m n : Nat) (hm : m < 2 ^ 16) (hn : n < 2 ^ 16) : IntKind.i64.wrap ((BitVec.ofInt IntKind.i64.bits (m : Int) ^^^ BitVec.ofInt IntKind.i64.bits (n : Int)).toNat : Int) = ((m ^^^ n : Nat) : Int) := by
  show IntKind.i64.wrap (((BitVec.ofInt 64 (m : Int) ^^^ BitVec.ofInt 64 (n : Int)).toNat : Nat) : Int) = _
  rw [BitVec.toNat_xor, ofInt_nat _ (by omega), ofInt_nat _ (by omega)]
  have := Nat.xor_lt_two_pow hm hn
  exact wrap_i64_of (by omega) (by omega)
theorem stp_nat (r : BitVec 16) : (stp r).toNat = if 32768 ≤ r.toNat then (r.toNat * 2 % 65536) ^^^ 4129 else r.toNat * 2 % 65536 := by
  unfold stp
  rw [BitVec.toNat_xor, BitVec.toNat_shiftLeft, Nat.shiftLeft_eq, BitVec.msb_eq_decide]
  by_cases h : 2 ^ (16 - 1) ≤ r.toNat
  · have h2 : 32768 ≤ r.toNat := h
    simp only [h, decide_true, if_true, h2]
    rfl
  · have h2 : ¬ 32768 ≤ r.toNat := h
    simp only [h, decide_false, h2, if_false, Bool.false_eq_true]
    show _ ^^^ 0 = _
    rw [Nat.xor_zero]
theorem r_step (r : BitVec 16) (i : Int) (h : i < 8) (h0 : 0 ≤ i) : st41_7 () ((r.toNat : Int), i) = .next () (((stp r).toNat : Int), i + 1) := by
  unfold st41_7
  have h1 : decide (i < 8) = true := by simpa using h
  have hr := r.isLt
  simp only [h1, cond_true]
  rw [wrap_i64_of (x := i + 1) (by omega) (by omega), wrap_i64_of (x := (r.toNat : Int) * 2) (by omega) (by omega), Int.tmod_eq_emod_of_nonneg (by omega), stp_nat]
  have e : (r.toNat : Int) * 2 % 65536 = ((r.toNat * 2 % 65536 : Nat) : Int) := by omega
  by_cases h2 : 32768 ≤ r.toNat
  · have h3 : decide ((r.toNat : Int) ≥ 32768) = true := by simp; omega
    rw [h3, if_pos h2, e]
    simp only [cond_true]
    rw [show (4129 : Int) = ((4129 : Nat) : Int) from rfl, xor64 _ _ (by omega) (by omega)]
  · have h3 : decide ((r.toNat : Int) ≥ 32768) = false := by simp; omega
    rw [h3, if_neg h2, e]
    rfl
theorem r_in (r : BitVec 16) : (G41_7 () ((r.toNat : Int), (0 : Int))).1 = ((it 8 r).toNat : Int) := by
  unfold G41_7
  have := (end_row_brk (step := st41_7) (k := ()) (fun i => (((it i r).toNat : Int), (i : Int))) 8 (fun i hi => ⟨(), by
    try simp only
    rw [r_step _ _ (by omega) (by omega), it_succ]
    rfl⟩) (k' := ()) (y := (((it 8 r).toNat : Int), (8 : Int))) (by
    unfold st41_7
    rfl) (fuel := Nat.succ (mu41_7 () ((r.toNat : Int), (0 : Int)))) (by unfold mu41_7; simp only; omega)).1
  exact congrArg Prod.fst this
theorem r_byte (s : ByteArray) (r : BitVec 16) (i : Nat) (h : i < s.size) (hs : s.size ≤ 1000000) : st41_3 s ((r.toNat : Int), (i : Int)) = .next s (((byt r (BitVec.ofInt 8 (strAt s i))).toNat : Int), ((i + 1 : Nat) : Int)) := by
  unfold st41_3
  have h1 : decide ((i : Int) < (s.size : Int)) = true := by simp; omega
  simp only [h1, cond_true]
  have hb := strAt_rng s i
  have hr := r.isLt
  rw [wrap_i64_of (x := (i : Int) + 1) (by omega) (by omega), wrap_i64_of (x := strAt s i) (by omega) (by omega), wrap_i64_of (x := strAt s i * 256) (by omega) (by omega)]
  obtain ⟨c, hc⟩ := Int.eq_ofNat_of_zero_le hb.1
  have e : strAt s i * 256 = ((c * 256 : Nat) : Int) := by omega
  have e2 : (hi (BitVec.ofInt 8 (strAt s i))).toNat = c * 256 := by
    have := of8 _ hb
    rw [hi_nat]
    omega
  rw [e, xor64 _ _ hr (by omega), ← e2, ← BitVec.toNat_xor, r_in]
  rfl
theorem r_sum (s : ByteArray) (h : s.size ≤ 1000000) : F41 s = ((sum s).toNat : Int) := by
  unfold F41 G41_3
  have := (end_row_brk (step := st41_3) (k := s) (fun i => (((crc 0xFFFF#16 (bvs ((stb s).take i))).toNat : Int), (i : Int))) s.size (fun i hi => ⟨_, by
    try simp only
    rw [r_byte s _ _ hi (by omega), stb_take_succ s i hi, bvs_app, crc_app]
    rfl⟩) (k' := s) (y := (((sum s).toNat : Int), (s.size : Int))) (by
    try simp only
    rw [List.take_of_length_le (by simp)]
    unfold st41_3
    simp [sum]) (fuel := Nat.succ (mu41_3 s ((65535 : Int), (0 : Int)))) (by unfold mu41_3; simp only; omega)).1
  show IntKind.u16.wrap (endOf st41_3 s (Nat.succ (mu41_3 s ((65535 : Int), (0 : Int)))) ((65535 : Int), (0 : Int))).1 = _
  rw [show (endOf st41_3 s (Nat.succ (mu41_3 s ((65535 : Int), (0 : Int)))) ((65535 : Int), (0 : Int))) = (((sum s).toNat : Int), (s.size : Int)) from this, wrap16]
def sealT (s : ByteArray) : ByteArray := strCat s (bts [((sum s).toNat : Int) / 256, ((sum s).toNat : Int) % 256])
theorem p_seal (s : ByteArray) (h : s.size ≤ 1000000) : F33 s = sealT s := by
  unfold F33 sealT
  rw [p_sum s h]
  have hr := (sum s).isLt
  have e1 : min ((8 : Int)).toNat IntKind.u16.bits = 8 := rfl
  rw [e1, Int.fdiv_eq_ediv_of_nonneg _ (by omega), IntKind.wrap_u8, IntKind.wrap_u8]
  congr 3
  omega
theorem r_seal (s : ByteArray) (h : s.size ≤ 1000000) : F16 s = sealT s := by
  unfold F16 sealT
  rw [r_sum s h]
  have hr := (sum s).isLt
  rw [Int.tdiv_eq_ediv_of_nonneg (by omega), Int.tmod_eq_emod_of_nonneg (by omega), IntKind.wrap_u16, IntKind.wrap_u8, IntKind.wrap_u8]
  congr 3
  · omega
  · congr 1
    omega
theorem stb_seal (s : ByteArray) : stb (sealT s) = stb s ++ [((sum s).toNat : Int) / 256, ((sum s).toNat : Int) % 256] := by
  unfold sealT
  have hr := (sum s).isLt
  rw [stb_cat, stb_bts _ (fun x hx => by
    simp only [List.mem_cons, List.not_mem_nil, or_false] at hx
    rcases hx with rfl | rfl <;> omega)]
theorem sealT_size (s : ByteArray) : (sealT s).size = s.size + 2 := by unfold sealT; rw [strCat_size, bts_size]; rfl
theorem hilo (r : BitVec 16) : r = hi (BitVec.ofInt 8 ((r.toNat : Int) / 256)) ^^^ lo (BitVec.ofInt 8 ((r.toNat : Int) % 256)) := by
  have hr := r.isLt
  apply BitVec.eq_of_toNat_eq
  have h1 := of8 ((r.toNat : Int) / 256) (by omega)
  have h2 := of8 ((r.toNat : Int) % 256) (by omega)
  have h3 : (lo (BitVec.ofInt 8 ((r.toNat : Int) % 256))).toNat = (BitVec.ofInt 8 ((r.toNat : Int) % 256)).toNat := by
    unfold lo
    rw [BitVec.toNat_setWidth]
    exact Nat.mod_eq_of_lt (by omega)
  rw [BitVec.toNat_xor, hi_nat, h3]
  generalize (BitVec.ofInt 8 ((r.toNat : Int) / 256)).toNat = a at h1
  generalize (BitVec.ofInt 8 ((r.toNat : Int) % 256)).toNat = b at h2
  have hb : b < 2 ^ 8 := by omega
  have : a * 256 ^^^ b = a * 256 + b := by
    have h := Nat.two_pow_add_eq_or_of_lt hb a
    rw [Nat.mul_comm] at h
    have hx : a * 2 ^ 8 ^^^ b = a * 2 ^ 8 ||| b := by
      apply Nat.eq_of_testBit_eq
      intro i
      rw [Nat.testBit_xor, Nat.testBit_or, Nat.testBit_mul_two_pow]
      rcases Nat.lt_or_ge i 8 with hi | hi
      · simp [show ¬ 8 ≤ i by omega]
      · rw [Nat.testBit_lt_two_pow (Nat.lt_of_lt_of_le hb (Nat.pow_le_pow_right (by omega) hi))]
        simp
    rw [hx]
    exact h.symm
  rw [this]
  omega
theorem sum_seal (s : ByteArray) : sum (sealT s) = 0#16 := by
  unfold sum
  rw [stb_seal, bvs_app, crc_app]
  exact (crc_seal _ _ _).2 (hilo (sum s))
theorem take_two (l : List Int) (h : 2 ≤ l.length) : ∃ a b, l = l.take (l.length - 2) ++ [a, b] := by
  refine ⟨l[l.length - 2], l[l.length - 1], ?_⟩
  conv => lhs; rw [← List.take_append_drop (l.length - 2) l]
  congr 1
  rw [List.drop_eq_getElem_cons (by omega), List.drop_eq_getElem_cons (by omega), List.drop_eq_nil_of_le (by omega)]
  congr 2
  congr 1
  omega
theorem seal_iff (s : ByteArray) (h : 2 ≤ s.size) : sealT (s.extract 0 (s.size - 2)) = s ↔ sum s = 0#16 := by
  constructor
  · intro h1
    rw [← h1]
    exact sum_seal _
  · intro h1
    apply stb_inj
    rw [stb_seal]
    obtain ⟨a, b, e⟩ := take_two (stb s) (by simpa using h)
    have hx : stb (s.extract 0 (s.size - 2)) = (stb s).take ((stb s).length - 2) := by rw [stb_extract, stb_len]; simp
    have hm : ∀ x ∈ [a, b], 0 ≤ x ∧ x ≤ 255 := fun x hx => stb_rng s x (by rw [e]; simp only [List.mem_append]; exact Or.inr hx)
    have ha := hm a (by simp)
    have hb := hm b (by simp)
    unfold sum at h1
    rw [e, bvs_app, crc_app] at h1
    have h2 := (crc_seal _ _ _).1 h1
    have h3 := hilo (crc 0xFFFF#16 (bvs ((stb s).take ((stb s).length - 2))))
    have h4 : sum (s.extract 0 (s.size - 2)) = crc 0xFFFF#16 (bvs ((stb s).take ((stb s).length - 2))) := by unfold sum; rw [hx]
    rw [hx, h4]
    conv => rhs; rw [e]
    congr 1
    have h5 : (crc 0xFFFF#16 (bvs ((stb s).take ((stb s).length - 2)))).toNat = (BitVec.ofInt 8 a).toNat * 256 + (BitVec.ofInt 8 b).toNat := by
      have hn : ∀ (x y : BitVec 8), (hi x ^^^ lo y).toNat = x.toNat * 256 + y.toNat := by
        intro x y
        have h3 : (lo y).toNat = y.toNat := by
          unfold lo
          rw [BitVec.toNat_setWidth]
          exact Nat.mod_eq_of_lt (by have := y.isLt; omega)
        rw [BitVec.toNat_xor, hi_nat, h3]
        have hb : y.toNat < 2 ^ 8 := y.isLt
        have h := Nat.two_pow_add_eq_or_of_lt hb x.toNat
        rw [Nat.mul_comm] at h
        have hx : x.toNat * 2 ^ 8 ^^^ y.toNat = x.toNat * 2 ^ 8 ||| y.toNat := by
          apply Nat.eq_of_testBit_eq
          intro i
          rw [Nat.testBit_xor, Nat.testBit_or, Nat.testBit_mul_two_pow]
          rcases Nat.lt_or_ge i 8 with hi | hi
          · simp [show ¬ 8 ≤ i by omega]
          · rw [Nat.testBit_lt_two_pow (Nat.lt_of_lt_of_le hb (Nat.pow_le_pow_right (by omega) hi))]
            simp
        have hx : x.toNat * 256 ^^^ y.toNat = x.toNat * 256 ||| y.toNat := hx
        rw [hx]
        exact h.symm
      have h2 : crc 0xFFFF#16 (bvs ((stb s).take ((stb s).length - 2))) = hi (BitVec.ofInt 8 a) ^^^ lo (BitVec.ofInt 8 b) := h2
      rw [h2, hn]
    have h6 := of8 a ha
    have h7 := of8 b hb
    rw [h5]
    have hq : ((((BitVec.ofInt 8 a).toNat * 256 + (BitVec.ofInt 8 b).toNat : Nat) : Int)) = a * 256 + b := by omega
    rw [hq, show (a * 256 + b) / 256 = a by omega, show (a * 256 + b) % 256 = b by omega]
theorem ropen_eq (s : ByteArray) (h : s.size ≤ 1000000) : F70 s = if s.size < 2 then (ByteArray.empty, 4) else if sum s = 0#16 then (s.extract 0 (s.size - 2), 0) else (ByteArray.empty, 5) := by
  unfold F70
  have e : IntKind.i64.wrap ((s.size : Int) - 2) = (s.size : Int) - 2 := wrap_i64_of (by omega) (by omega)
  by_cases h1 : s.size < 2
  · rw [if_pos h1]
    have : decide ((s.size : Int) < 2) = true := by simp; omega
    rw [this]
    rfl
  · rw [if_neg h1]
    have : decide ((s.size : Int) < 2) = false := by simp; omega
    rw [this]
    have e2 : Int.toNat ((s.size : Int) - 2) = s.size - 2 := by omega
    simp only [cond_false, e, e2, Int.toNat_zero]
    rw [r_seal _ (by rw [extract_size]; omega)]
    by_cases h2 : sum s = 0#16
    · rw [if_pos h2, (seal_iff s (by omega)).2 h2, strEq_self]; rfl
    · rw [if_neg h2]
      have : strEq (sealT (s.extract 0 (s.size - 2))) s = false := by
        cases h3 : strEq (sealT (s.extract 0 (s.size - 2))) s with
        | false => rfl
        | true => exact absurd ((seal_iff s (by omega)).1 ((strEq_iff _ _).1 h3)) h2
      rw [this]; rfl
theorem popen_eq (s : ByteArray) (h : s.size ≤ 1000000) : F60 s = F70 s := by
  rw [copen_eq s h, ropen_eq s h]
  by_cases h1 : s.size < 2
  · rw [if_pos h1, if_pos h1]
  · rw [if_neg h1, if_neg h1, p_seal _ (by rw [extract_size]; omega)]
    by_cases h2 : sum s = 0#16
    · rw [if_pos h2, if_pos ((seal_iff s (by omega)).2 h2)]
    · rw [if_neg h2, if_neg (fun h3 => h2 ((seal_iff s (by omega)).1 h3))]
end Go.Proofs.Ytbnihoioblmgkaa.Sp
end

section
/- Both frames are the same (own work). -/
namespace Go.Proofs.Ytbnihoioblmgkaa.Sp
open Go Sy
set_option linter.unusedVariables false
set_option linter.unusedSimpArgs false
instance (b : BldT) : Decidable (IsB b) := decidable_of_iff (vld b = 0) (vld_zero b)
theorem valid_cond (b : BldT) (hl : b.cars.length ≤ maxLen) : (F27 b != 0) = decide (¬ IsB b) := by
  rw [valid_eq b hl]
  by_cases h : IsB b
  · rw [(vld_zero b).2 h]; simp [h]
  · have : vld b ≠ 0 := fun h2 => h ((vld_zero b).1 h2)
    simp [h, this]
theorem rvalid_cond (b : BldT) (hl : b.cars.length ≤ maxLen) : (F40 b != 0) = decide (¬ IsB b) := by
  rw [rvalid_eq b hl, ← valid_eq b hl]; exact valid_cond b hl
def callOk (fl f d : Int) : Bool := ((d == 1) && (decide (0 ≤ f) && decide (f ≤ fl - 2))) || ((d == 2) && (decide (1 ≤ f) && decide (f ≤ fl - 1)))
theorem riscall_eq (b : BldT) (f d : Int) (hl : b.cars.length ≤ maxLen) : F73 (b, f, d) = (decide (IsB b) && callOk b.1 f d) := by
  unfold F73
  simp only [rvalid_cond b hl]
  by_cases hB : IsB b
  · have h1 := hB.fl
    simp only [hB, decide_true, not_true, decide_false, Bool.true_and, cond_false]
    unfold callOk
    simp only [in_eq]
    rw [wrap_i64_of (x := b.1 - 2) (by omega) (by omega), wrap_i64_of (x := b.1 - 1) (by omega) (by omega)]
  · simp [hB]
def hallT (fl : Int) : Int × Int :=
  ((IntKind.u32.wrap ((IntKind.u32.wrap ((1 : Int) * 2 ^ (min ((IntKind.i64.wrap (fl - (1 : Int)))).toNat IntKind.u32.bits))) - (1 : Int))), (IntKind.u32.wrap ((IntKind.u32.wrap ((IntKind.u32.wrap ((1 : Int) * 2 ^ (min ((IntKind.i64.wrap (fl - (1 : Int)))).toNat IntKind.u32.bits))) - (1 : Int))) * 2 ^ (min ((1 : Int)).toNat IntKind.u32.bits))))
theorem hall_eq (b : BldT) (hl : b.cars.length ≤ maxLen) : F71 b = if IsB b then hallT b.1 else (0, 0) := by
  unfold F71
  simp only [valid_cond b hl]
  by_cases hB : IsB b <;> simp [hB, hallT]
def hstep (fl : Int) (x : Int × Int × Int) : BOut Unit (Int × Int × Int) (Int × Int) :=
  bif (decide (x.1 < (32 : Int))) then
    (bif callOk fl x.1 1 then
      (bif callOk fl x.1 2 then
        BOut.next () ((IntKind.i64.wrap (x.1 + (1 : Int))), (IntKind.u32.wrap ((BitVec.ofInt IntKind.u32.bits x.2.1 ||| BitVec.ofInt IntKind.u32.bits (IntKind.u32.wrap ((1 : Int) * 2 ^ (min ((IntKind.u64.wrap x.1)).toNat IntKind.u32.bits)))).toNat : Int)), (IntKind.u32.wrap ((BitVec.ofInt IntKind.u32.bits x.2.2 ||| BitVec.ofInt IntKind.u32.bits (IntKind.u32.wrap ((1 : Int) * 2 ^ (min ((IntKind.u64.wrap x.1)).toNat IntKind.u32.bits)))).toNat : Int)))
      else
        BOut.next () ((IntKind.i64.wrap (x.1 + (1 : Int))), (IntKind.u32.wrap ((BitVec.ofInt IntKind.u32.bits x.2.1 ||| BitVec.ofInt IntKind.u32.bits (IntKind.u32.wrap ((1 : Int) * 2 ^ (min ((IntKind.u64.wrap x.1)).toNat IntKind.u32.bits)))).toNat : Int)), x.2.2))
    else
      bif callOk fl x.1 2 then
        BOut.next () ((IntKind.i64.wrap (x.1 + (1 : Int))), x.2.1, (IntKind.u32.wrap ((BitVec.ofInt IntKind.u32.bits x.2.2 ||| BitVec.ofInt IntKind.u32.bits (IntKind.u32.wrap ((1 : Int) * 2 ^ (min ((IntKind.u64.wrap x.1)).toNat IntKind.u32.bits)))).toNat : Int)))
      else
        BOut.next () ((IntKind.i64.wrap (x.1 + (1 : Int))), x.2))
  else
    BOut.brk () x
theorem hall_all : (List.range 31).all (fun n => (endOf (fun (_ : Unit) => hstep (n + 2)) () 33 ((0 : Int), (0 : Int), (0 : Int))).2 == hallT (n + 2)) = true := by kernel_rfl
theorem hall_one {fl : Int} (h : 2 ≤ fl ∧ fl ≤ 32) : (endOf (fun (_ : Unit) => hstep fl) () 33 ((0 : Int), (0 : Int), (0 : Int))).2 = hallT fl := by
  have := List.all_eq_true.1 hall_all (fl - 2).toNat (by simp; omega)
  simp only [beq_iff_eq] at this
  rwa [show (((fl - 2).toNat : Int) + 2) = fl by omega] at this
theorem rhall_eq (b : BldT) (hl : b.cars.length ≤ maxLen) : F72 b = if IsB b then hallT b.1 else (0, 0) := by
  unfold F72 G72_3
  by_cases hB : IsB b
  · rw [if_pos hB, ← hall_one hB.fl]
    have h1 : Nat.succ (mu72_3 b ((0 : Int), (0 : Int), (0 : Int))) = 33 := by simp [mu72_3]
    rw [h1]
    refine congrArg Prod.snd (loop_sim (fun x y => x = y) (fun x y h => ?_) 33 _ _ rfl).1
    subst h
    simp only [st72_3, hstep, riscall_eq _ _ _ hl, hB, decide_true, Bool.true_and]
    cases decide (x.1 < 32) <;> cases callOk b.1 x.1 1 <;> cases callOk b.1 x.1 2 <;> rfl
  · rw [if_neg hB]
    have := loop_spec (step := st72_3) (k := b) (fun x => 0 ≤ x.1 ∧ x.2 = (0, 0)) (mu72_3 b) (fun o y => y.2 = (0, 0)) (fun x hx => ?_) _ (0, 0, 0) ⟨by simp, rfl⟩ (Nat.lt_succ_self _)
    · exact this
    · simp only [st72_3, riscall_eq _ _ _ hl, hB, decide_false, Bool.false_and, cond_false]
      by_cases h1 : x.1 < 32
      · simp only [h1, decide_true, cond_true]
        rw [wrap_i64_of (by omega) (by omega)]
        refine ⟨⟨by omega, hx.2⟩, ?_⟩
        simp only [mu72_3]; omega
      · simp only [h1, decide_false, cond_false]; exact hx.2
def inHall (b : BldT) (c : Int × Int) : Bool := F57 (b, c)
theorem iscalls_eq (b : BldT) (c : Int × Int) (hl : b.cars.length ≤ maxLen) : F53 (b, c) = inHall b c := by
  unfold F53 inHall F57
  rw [hall_eq b hl, rhall_eq b hl]
def inR (n lo hi : Int) : Bool := decide (lo ≤ n) && decide (n ≤ hi)
theorem rin_eq (n lo hi : Int) : F58 (n, lo, hi) = inR n lo hi := rfl
theorem pin_eq (n hi : Int) : F54 (n, hi) = inR n 0 hi := rfl
def flo (b : BldT) (n : Int) : Bool := n / 2 ^ b.1.toNat == 0
def u32r (n : Int) : Prop := 0 ≤ n ∧ n ≤ 4294967295
theorem rflo_eq {b : BldT} (hB : IsB b) {n : Int} (hn : u32r n) : F59 (b, n) = flo b n := by
  have h := hB.fl
  unfold F59 flo u32r at *
  have e1 : IntKind.u64.wrap n = n := by rw [IntKind.wrap_u64]; omega
  have e2 : IntKind.u64.wrap b.1 = b.1 := by rw [IntKind.wrap_u64]; omega
  have e3 : min (b.1.toNat) IntKind.u64.bits = b.1.toNat := by show min (b.1.toNat) 64 = b.1.toNat; omega
  simp only [e1, e2, e3]
  rw [Int.fdiv_eq_ediv_of_nonneg _ (Int.pow_nonneg (by omega))]
theorem pflo_eq {b : BldT} (hB : IsB b) (n : Int) : (Int.fdiv n (2 ^ (min (b.1).toNat IntKind.u32.bits)) == (0 : Int)) = flo b n := by
  have h := hB.fl
  unfold flo
  have e3 : min (b.1.toNat) IntKind.u32.bits = b.1.toNat := by show min (b.1.toNat) 32 = b.1.toNat; omega
  rw [e3, Int.fdiv_eq_ediv_of_nonneg _ (Int.pow_nonneg (by omega))]
def carInOk (b : BldT) (c : CarIn) : Bool := flo b c.1.1 && flo b c.2.2.1 && inR c.2.1.1 0 (b.1 - 1) && inR c.2.1.2.2.1 0 2
def carOutOk (b : BldT) (c : CarOut) : Bool := inHall b c.1.1 && inHall b c.2.1 && inR c.2.2.2.1 0 5 && inR c.2.2.2.2.1 0 4
def carU (c : CarIn) : Prop := u32r c.1.1 ∧ u32r c.2.2.1
def inOk (b : BldT) (x : InT) : Bool := inHall b x.1 && inR x.2.1.1 0 8 && inR x.2.1.2 0 ((b.2.2.2.2.2.2.2.length : Int) - 1) && !((x.2.1.1 == 0) && (x.2.1.2 != 0)) && ((x.2.2.length : Int) == (b.2.2.2.2.2.2.2.length : Int)) && x.2.2.all (carInOk b)
def outOk (b : BldT) (x : OutT) : Bool := inHall b x.1 && inHall b x.2.1 && inR x.2.2.2.2.1 0 65535 && ((x.2.2.2.2.2.length : Int) == (b.2.2.2.2.2.2.2.length : Int)) && x.2.2.2.2.2.all (carOutOk b)
theorem all_loop {K α : Type} [Inhabited α] {st : K → Int → BOut K Int Bool} {k : K} (l : List α) (p : α → Bool) (hl : l.length ≤ maxLen)
    (hn : ∀ i : Nat, i < l.length → st k (i : Int) = bif p (nthT l i) then .next k (IntKind.i64.wrap ((i : Int) + 1)) else .ret false) (hb : st k (l.length : Int) = .brk k (l.length : Int)) {fuel : Nat} (hf : l.length < fuel) :
    optR (retOf st k fuel 0) (fun y => y) true = l.all p := by
  rw [← findSome_all, ← findSome_range l]
  have := ret_row (step := st) (k := k) (fun i => (i : Int)) (fun i => (fun c => if p c = true then none else some false) (nthT l (i : Int))) l.length (fun i hi => ?_) hb hf
  · exact congrArg (fun o => optR o (fun y => y) true) this
  · rw [hn i hi]
    by_cases hp : p (nthT l (i : Int)) = true
    · simp only [hp, if_true, cond_true]
      exact ⟨k, by rw [wrap_succ hi hl]⟩
    · simp only [hp, if_false, Bool.false_eq_true, cond_false]
theorem not4 (a b c d : Bool) : (bif (((!a || !b) || !c) || !d) then (true : Bool) else false) = !(a && b && c && d) := by cases a <;> cases b <;> cases c <;> cases d <;> rfl
theorem door_eq (n : Int) : ((n == 0 || n == 1) || n == 2) = inR n 0 2 := by
  unfold inR
  rw [Bool.eq_iff_iff]
  simp only [Bool.or_eq_true, beq_iff_eq, Bool.and_eq_true, decide_eq_true_eq]
  omega
theorem pIn_all {b : BldT} (hB : IsB b) (l : List CarIn) (hl : l.length ≤ maxLen) : optR (R28_5 (l, (l.length : Int), b) (0 : Int)) (fun y => y) true = l.all (carInOk b) := by
  have hf := hB.fl
  unfold R28_5
  refine all_loop l _ hl (fun i hi => ?_) ?_ (by unfold mu28_5; simp only; omega)
  · unfold st28_5
    have h1 : decide ((i : Int) < (l.length : Int)) = true := by simp; omega
    simp only [h1, cond_true]
    have : F55 (b, nthT l (i : Int)) = carInOk b (nthT l (i : Int)) := by
      unfold F55 carInOk
      simp only [pflo_eq hB, pin_eq, door_eq]
      rw [wrap_i64_of (x := b.1 - 1) (by omega) (by omega)]
    rw [this]
    cases carInOk b (nthT l (i : Int)) <;> rfl
  · unfold st28_5
    simp
theorem rIn_all {b : BldT} (hB : IsB b) (x : InT) (hl : x.2.2.length ≤ maxLen) (hu : ∀ c ∈ x.2.2, carU c) : optR (R34_4 (b, x) (0 : Int)) (fun y => y) true = x.2.2.all (carInOk b) := by
  have hf := hB.fl
  unfold R34_4
  refine all_loop x.2.2 _ hl (fun i hi => ?_) ?_ (by unfold mu34_4; simp only; omega)
  · unfold st34_4
    have h1 : decide ((i : Int) < (x.2.2.length : Int)) = true := by simp; omega
    have hc := hu (nthT x.2.2 (i : Int)) (by rw [nthT_nat _ i hi]; exact List.getElem_mem _)
    simp only [h1, cond_true, rflo_eq hB hc.1, rflo_eq hB hc.2, rin_eq]
    rw [wrap_i64_of (x := b.1 - 1) (by omega) (by omega)]
    unfold carInOk
    cases flo b (nthT x.2.2 (i : Int)).1.1 <;> cases flo b (nthT x.2.2 (i : Int)).2.2.1 <;> cases inR (nthT x.2.2 (i : Int)).2.1.1 0 (b.1 - 1) <;> cases inR (nthT x.2.2 (i : Int)).2.1.2.2.1 0 2 <;> rfl
  · unfold st34_4
    simp
theorem pOut_all (b : BldT) (hl0 : b.cars.length ≤ maxLen) (l : List CarOut) (hl : l.length ≤ maxLen) : optR (R49_4 (l, (l.length : Int), b) (0 : Int)) (fun y => y) true = l.all (carOutOk b) := by
  unfold R49_4
  refine all_loop l _ hl (fun i hi => ?_) ?_ (by unfold mu49_4; simp only; omega)
  · unfold st49_4
    have h1 : decide ((i : Int) < (l.length : Int)) = true := by simp; omega
    simp only [h1, cond_true, iscalls_eq b _ hl0, pin_eq]
    unfold carOutOk
    cases inHall b (nthT l (i : Int)).1.1 <;> cases inHall b (nthT l (i : Int)).2.1 <;> cases inR (nthT l (i : Int)).2.2.2.1 0 5 <;> cases inR (nthT l (i : Int)).2.2.2.2.1 0 4 <;> rfl
  · unfold st49_4
    simp
theorem rOut_all (b : BldT) (x : OutT) (hl : x.2.2.2.2.2.length ≤ maxLen) : optR (R42_4 (b, x) (0 : Int)) (fun y => y) true = x.2.2.2.2.2.all (carOutOk b) := by
  unfold R42_4
  refine all_loop x.2.2.2.2.2 _ hl (fun i hi => ?_) ?_ (by unfold mu42_4; simp only; omega)
  · unfold st42_4
    have h1 : decide ((i : Int) < (x.2.2.2.2.2.length : Int)) = true := by simp; omega
    simp only [h1, cond_true, rin_eq]
    unfold carOutOk inHall
    cases F57 (b, (nthT x.2.2.2.2.2 (i : Int)).1.1) <;> cases F57 (b, (nthT x.2.2.2.2.2 (i : Int)).2.1) <;> cases inR (nthT x.2.2.2.2.2 (i : Int)).2.2.2.1 0 5 <;> cases inR (nthT x.2.2.2.2.2 (i : Int)).2.2.2.2.1 0 4 <;> rfl
  · unfold st42_4
    simp
theorem isin_eq {b : BldT} (hB : IsB b) (hl0 : b.cars.length ≤ maxLen) (x : InT) (hl : x.2.2.length ≤ maxLen) : F28 (b, x) = inOk b x := by
  have hc := hB.cn
  have hc : 1 ≤ b.2.2.2.2.2.2.2.length ∧ b.2.2.2.2.2.2.2.length ≤ 8 := hc
  unfold F28 inOk
  simp only [iscalls_eq b _ hl0, pin_eq]
  rw [pIn_all hB _ hl, wrap_i64_of (x := (b.2.2.2.2.2.2.2.length : Int) - 1) (by omega) (by omega), show ((x.2.2.length : Int) != (b.2.2.2.2.2.2.2.length : Int)) = !((x.2.2.length : Int) == (b.2.2.2.2.2.2.2.length : Int)) from rfl]
  generalize inHall b x.1 = a1
  generalize inR x.2.1.1 0 8 = a2
  generalize inR x.2.1.2 0 ((b.2.2.2.2.2.2.2.length : Int) - 1) = a3
  generalize ((x.2.1.1 == 0) && (x.2.1.2 != 0)) = a4
  generalize ((x.2.2.length : Int) == (b.2.2.2.2.2.2.2.length : Int)) = a5
  generalize x.2.2.all (carInOk b) = a6
  revert a1 a2 a3 a4 a5 a6
  decide
theorem risin_eq {b : BldT} (hB : IsB b) (hl0 : b.cars.length ≤ maxLen) (x : InT) (hl : x.2.2.length ≤ maxLen) (hu : ∀ c ∈ x.2.2, carU c) : F34 (b, x) = inOk b x := by
  have hc := hB.cn
  have hc : 1 ≤ b.2.2.2.2.2.2.2.length ∧ b.2.2.2.2.2.2.2.length ≤ 8 := hc
  unfold F34 inOk
  simp only [rvalid_cond b hl0, hB, not_true, decide_false, Bool.false_or, rin_eq]
  rw [rIn_all hB _ hl hu, wrap_i64_of (x := (b.2.2.2.2.2.2.2.length : Int) - 1) (by omega) (by omega), show ((x.2.2.length : Int) != (b.2.2.2.2.2.2.2.length : Int)) = !((x.2.2.length : Int) == (b.2.2.2.2.2.2.2.length : Int)) from rfl]
  unfold inHall
  generalize F57 (b, x.1) = a1
  generalize inR x.2.1.1 0 8 = a2
  generalize inR x.2.1.2 0 ((b.2.2.2.2.2.2.2.length : Int) - 1) = a3
  generalize ((x.2.1.1 == 0) && (x.2.1.2 != 0)) = a4
  generalize ((x.2.2.length : Int) == (b.2.2.2.2.2.2.2.length : Int)) = a5
  generalize x.2.2.all (carInOk b) = a6
  revert a1 a2 a3 a4 a5 a6
  decide
theorem isout_eq (b : BldT) (hl0 : b.cars.length ≤ maxLen) (x : OutT) (hl : x.2.2.2.2.2.length ≤ maxLen) : F49 (b, x) = outOk b x := by
  unfold F49 outOk
  simp only [iscalls_eq b _ hl0, pin_eq]
  rw [pOut_all b hl0 _ hl, show ((x.2.2.2.2.2.length : Int) != (b.2.2.2.2.2.2.2.length : Int)) = !((x.2.2.2.2.2.length : Int) == (b.2.2.2.2.2.2.2.length : Int)) from rfl]
  generalize inHall b x.1 = a1
  generalize inHall b x.2.1 = a2
  generalize inR x.2.2.2.2.1 0 65535 = a3
  generalize ((x.2.2.2.2.2.length : Int) == (b.2.2.2.2.2.2.2.length : Int)) = a5
  generalize x.2.2.2.2.2.all (carOutOk b) = a6
  revert a1 a2 a3 a5 a6
  decide
theorem risout_eq {b : BldT} (hB : IsB b) (hl0 : b.cars.length ≤ maxLen) (x : OutT) (hl : x.2.2.2.2.2.length ≤ maxLen) : F42 (b, x) = outOk b x := by
  unfold F42 outOk
  simp only [rvalid_cond b hl0, hB, not_true, decide_false, Bool.false_or, rin_eq]
  rw [rOut_all b _ hl, show ((x.2.2.2.2.2.length : Int) != (b.2.2.2.2.2.2.2.length : Int)) = !((x.2.2.2.2.2.length : Int) == (b.2.2.2.2.2.2.2.length : Int)) from rfl]
  unfold inHall
  generalize F57 (b, x.1) = a1
  generalize F57 (b, x.2.1) = a2
  generalize inR x.2.2.2.2.1 0 65535 = a3
  generalize ((x.2.2.2.2.2.length : Int) == (b.2.2.2.2.2.2.2.length : Int)) = a5
  generalize x.2.2.2.2.2.all (carOutOk b) = a6
  revert a1 a2 a3 a5 a6
  decide
theorem risin_no {b : BldT} (hB : ¬ IsB b) (hl0 : b.cars.length ≤ maxLen) (x : InT) : F34 (b, x) = false := by
  unfold F34
  simp only [rvalid_cond b hl0, hB, not_false_eq_true, decide_true, Bool.true_or, cond_true]
theorem risout_no {b : BldT} (hB : ¬ IsB b) (hl0 : b.cars.length ≤ maxLen) (x : OutT) : F42 (b, x) = false := by
  unfold F42
  simp only [rvalid_cond b hl0, hB, not_false_eq_true, decide_true, Bool.true_or, cond_true]
end Go.Proofs.Ytbnihoioblmgkaa.Sp
end
