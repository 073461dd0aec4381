/- Contracts of functions, by the evaluator (own program gen.py): overlayref01.Bound, overlaylaw01.BuildingCalls. -/
import Derived.Test.YtkanaakceokifaaB1
set_option linter.unusedVariables false
set_option linter.unusedSimpArgs false
set_option maxRecDepth 100000
namespace Go.Proofs.Ytkanaakceokifaa.Sy
open Go Go.RowKit Sp
/-! overlayref01.Bound -/
end Go.Proofs.Ytkanaakceokifaa.Sy
namespace Go.Proofs.Ytkanaakceokifaa.Sp
open Go Go.RowKit Sy
def in21_5 (k : (Int × Int × Int × Int × Nat × Nat × Nat × List (Int × Int × Int × Int × Int × Int × Int × Int × Int))) (x : (Int × Int)) : Prop := (0 : Int) ≤ x.2
def mu21_5 (k : (Int × Int × Int × Int × Nat × Nat × Nat × List (Int × Int × Int × Int × Int × Int × Int × Int × Int))) (x : (Int × Int)) : Nat := (((k.2.2.2.2.2.2.2).length : Int) - x.2).toNat
def st21_5 (k : (Int × Int × Int × Int × Nat × Nat × Nat × List (Int × Int × Int × Int × Int × Int × Int × Int × Int))) (x : (Int × Int)) : BOut (Int × Int × Int × Int × Nat × Nat × Nat × List (Int × Int × Int × Int × Int × Int × Int × Int × Int)) (Int × Int) (Int) :=
  bif (decide (x.2 < ((k.2.2.2.2.2.2.2).length : Int))) then
    BOut.next k ((max x.1 (max ((Sp.nthT k.2.2.2.2.2.2.2 x.2).1) (Sp.F17 (k, x.2)))), (IntKind.i64.wrap (x.2 + (1 : Int))))
  else
    BOut.brk k x
def G21_5 (k : (Int × Int × Int × Int × Nat × Nat × Nat × List (Int × Int × Int × Int × Int × Int × Int × Int × Int))) (x : (Int × Int)) : (Int × Int) := endOf st21_5 k (Nat.succ (mu21_5 k x)) x
end Go.Proofs.Ytkanaakceokifaa.Sp
namespace Go.Proofs.Ytkanaakceokifaa.Sy
def LS21_5 : LS ty3.den := mkLS ty25 (Ty.pair ty3 ty3)  [] [(1, 8)] [(3, none), (4, none)] [] [] [] [(1, 1)] 0 false Sp.in21_5 Sp.st21_5 Sp.mu21_5
theorem va21_5 (k : ty25.den) (x : (Ty.pair ty3 ty3).den) : ((evCode (ctxG GmB1) (lookL []) (bodyAt (bodyOf Try.f21) [0]) (tmpl LS21_5 (enc ty25 k) (enc (Ty.pair ty3 ty3) x)) (evRound LS21_5 (evRet (ctxG GmB1) Try.f21 (Rsh.one (none)) none ty3 .ret)))).val BOut.ret (BOut.brk (Ty.dflt ty25) (Ty.dflt (Ty.pair ty3 ty3))) = Sp.st21_5 k x := by kernel_rfl
theorem se21_5 (k : ty25.den) (x : (Ty.pair ty3 ty3).den) : ((evCode (ctxG GmB1) (lookL []) (bodyAt (bodyOf Try.f21) [0]) (tmpl LS21_5 (enc ty25 k) (enc (Ty.pair ty3 ty3) x)) (evRound LS21_5 (evRet (ctxG GmB1) Try.f21 (Rsh.one (none)) none ty3 .ret)))).safe = ((((decide (x.2 < ((k.2.2.2.2.2.2.2).length : Int))) = true → ((0 ≤ x.2 ∧ x.2 < ((k.2.2.2.2.2.2.2).length : Int)) ∧ True)) ∧ ((decide (x.2 < ((k.2.2.2.2.2.2.2).length : Int))) = false → True))) := by kernel_rfl
theorem sa21_5 (k : ty25.den) (x : (Ty.pair ty3 ty3).den) (fk : Fit ty25 k) (fx : Fit (Ty.pair ty3 ty3) x) (h : Sp.in21_5 k x) : SafeW ((evCode (ctxG GmB1) (lookL []) (bodyAt (bodyOf Try.f21) [0]) (tmpl LS21_5 (enc ty25 k) (enc (Ty.pair ty3 ty3) x)) (evRound LS21_5 (evRet (ctxG GmB1) Try.f21 (Rsh.one (none)) none ty3 .ret)))) := by
  refine ⟨?_⟩
  rw [se21_5]
  try dsimp only [Ty.den] at *
  simp only [Sp.in21_5, Fit, maxLen] at h fk fx
  simp only [IntKind.wrap_i64, IntKind.wrap_u8, IntKind.wrap_u32, IntKind.wrap_u64, Sp.tmod_ite, Sp.tdiv_ite, setE, copyL, sliceL, zrow, List.length_append, List.length_cons, List.length_nil, List.length_set, List.length_replicate, List.length_take, List.length_drop, decide_eq_true_eq, decide_eq_false_iff_not, Bool.or_eq_true, Bool.and_eq_true, Bool.or_eq_false_iff, Bool.and_eq_false_iff, Bool.not_eq_true', Bool.not_eq_false', Bool.not_eq_true, Bool.not_eq_false, beq_iff_eq, beq_eq_false_iff_ne, bne_iff_ne, ne_eq, implies_true, and_true, true_and] at *
  all_goals ((repeat' (first | exact trivial | apply And.intro | intro _)) <;> first | trivial | omega)
theorem so21_5 (k : ty25.den) (x : (Ty.pair ty3 ty3).den) (fk : Fit ty25 k) (h : Sp.in21_5 k x) : StepOk false Sp.in21_5 Sp.mu21_5 k x (Sp.st21_5 k x) := by
  try dsimp only [Ty.den] at *
  simp only [Sp.in21_5, Fit, maxLen] at h fk
  simp only [Sp.st21_5, Sp.optR, Bool.cond_eq_ite]
  (repeat' split) <;> (first | exact rfl | (refine ⟨rfl, ?_, ?_⟩ <;> simp only [Sp.in21_5, Sp.mu21_5, IntKind.wrap_i64, IntKind.wrap_u8, IntKind.wrap_u32, IntKind.wrap_u64, Sp.tmod_ite, Sp.tdiv_ite, setE, copyL, sliceL, zrow, List.length_append, List.length_cons, List.length_nil, List.length_set, List.length_replicate, List.length_take, List.length_drop, decide_eq_true_eq, decide_eq_false_iff_not, Bool.or_eq_true, Bool.and_eq_true, Bool.or_eq_false_iff, Bool.and_eq_false_iff, Bool.not_eq_true', Bool.not_eq_false', Bool.not_eq_true, Bool.not_eq_false, beq_iff_eq, beq_eq_false_iff_ne, bne_iff_ne, ne_eq] at * <;> omega))
theorem lo21_5 : LoopOk Try.prog gdS (RetAt Try.prog Try.f21 (Rsh.one (none)) none ty3) (bodyAt (bodyOf Try.f21) [0]) LS21_5 :=
  loop_run (ctxOkF gokGmB1 []) (L := lookL []) (loops_of (l := []) (by kernel_rfl) (loops_nil)) sa21_5 va21_5 so21_5
end Go.Proofs.Ytkanaakceokifaa.Sy
namespace Go.Proofs.Ytkanaakceokifaa.Sp
open Go Go.RowKit Sy
def F21 (x : Int × Int × Int × Int × Nat × Nat × Nat × List (Int × Int × Int × Int × Int × Int × Int × Int × Int)) : Int :=
  bif ((Sp.F13 x) != (0 : Int)) then
    (0 : Int)
  else
    (IntKind.i64.wrap ((IntKind.i64.wrap (((x.2.2.2.2.2.2.2).length : Int) + (2 : Int))) * (IntKind.i64.wrap ((Sp.G21_5 x ((0 : Int), (0 : Int))).1 + (2 : Int)))))
end Go.Proofs.Ytkanaakceokifaa.Sp
namespace Go.Proofs.Ytkanaakceokifaa.Sy
def ct21 : Ct := { p := ty25, psh := [some 8], r := ty3, rsh := (Rsh.one (none)), pre := none, fresh := none, F := Sp.F21 }
theorem va21 (x : ty25.den) : ((evFn (ctxG GmB1) Try.f21 ty25 [some 8] (Rsh.one (none)) none ty3 (lookL [(5, LS21_5)]) x)).val (fun y => y) (Ty.dflt ty3) = Sp.F21 x := by kernel_rfl
theorem se21 (x : ty25.den) : ((evFn (ctxG GmB1) Try.f21 ty25 [some 8] (Rsh.one (none)) none ty3 (lookL [(5, LS21_5)]) x)).safe = (((((Sp.F13 x) != (0 : Int)) = true → True) ∧ (((Sp.F13 x) != (0 : Int)) = false → ((Sp.in21_5 x ((0 : Int), (0 : Int))) ∧ True)))) := by kernel_rfl
theorem sa21 (x : ty25.den) (fx : Fit ty25 x) : SafeW ((evFn (ctxG GmB1) Try.f21 ty25 [some 8] (Rsh.one (none)) none ty3 (lookL [(5, LS21_5)]) x)) := by
  refine ⟨?_⟩
  rw [se21]
  try dsimp only [Ty.den] at *
  simp only [Fit, maxLen] at fx
  simp only [Sp.in21_5, IntKind.wrap_i64, IntKind.wrap_u8, IntKind.wrap_u32, IntKind.wrap_u64, Sp.tmod_ite, Sp.tdiv_ite, setE, copyL, sliceL, zrow, List.length_append, List.length_cons, List.length_nil, List.length_set, List.length_replicate, List.length_take, List.length_drop, decide_eq_true_eq, decide_eq_false_iff_not, Bool.or_eq_true, Bool.and_eq_true, Bool.or_eq_false_iff, Bool.and_eq_false_iff, Bool.not_eq_true', Bool.not_eq_false', Bool.not_eq_true, Bool.not_eq_false, beq_iff_eq, beq_eq_false_iff_ne, bne_iff_ne, ne_eq, implies_true, and_true, true_and] at *
  all_goals ((repeat' (first | exact trivial | apply And.intro | intro _)) <;> first | trivial | omega)
theorem ok21 : CtOk Try.prog gdS 21 ct21 :=
  fn_okU (ctxOkF gokGmB1 []) rfl Try.func21 (p := ty25) (psh := [some 8]) (r := ty3) (rsh := (Rsh.one (none))) (pre := none) (fresh := none) (F := Sp.F21) (L := (lookL [(5, LS21_5)])) (c := bodyOf Try.f21) (dflt := Ty.dflt ty3) rfl (loops_of (l := [bodyAt (bodyOf Try.f21) [0]]) (by kernel_rfl) (loops_cons (s0 := LS21_5) (by kernel_rfl) lo21_5 (loops_nil)))
    (safe_no @sa21) va21
/-! overlaylaw01.BuildingCalls -/
end Go.Proofs.Ytkanaakceokifaa.Sy
namespace Go.Proofs.Ytkanaakceokifaa.Sp
open Go Go.RowKit Sy
def in9_9 (k : (Int × (Int × Int × Int × Int × Nat × Nat × Nat × List (Int × Int × Int × Int × Int × Int × Int × Int × Int)) × Int × Int)) (x : (Int)) : Prop := (-1 : Int) ≤ x
def mu9_9 (k : (Int × (Int × Int × Int × Int × Nat × Nat × Nat × List (Int × Int × Int × Int × Int × Int × Int × Int × Int)) × Int × Int)) (x : (Int)) : Nat := ((5 : Int) - x).toNat
def st9_9 (k : (Int × (Int × Int × Int × Int × Nat × Nat × Nat × List (Int × Int × Int × Int × Int × Int × Int × Int × Int)) × Int × Int)) (x : (Int)) : BOut (Int × (Int × Int × Int × Int × Nat × Nat × Nat × List (Int × Int × Int × Int × Int × Int × Int × Int × Int)) × Int × Int) (Int) (Bool) :=
  bif (decide (x < (5 : Int))) then
    (bif ((((Sp.F28 (k.2.1, k.1, x)) != (Sp.F29 (k.2.1, k.1, x))) || (((Sp.F28 (k.2.1, k.1, x)) && (x == (1 : Int))) && ((IntKind.u32.wrap ((BitVec.ofInt IntKind.u32.bits (Int.fdiv k.2.2.1 (2 ^ (min ((IntKind.u64.wrap k.1)).toNat IntKind.u32.bits))) &&& BitVec.ofInt IntKind.u32.bits (1 : Int)).toNat : Int)) == (0 : Int)))) || (((Sp.F28 (k.2.1, k.1, x)) && (x == (2 : Int))) && ((IntKind.u32.wrap ((BitVec.ofInt IntKind.u32.bits (Int.fdiv k.2.2.2 (2 ^ (min ((IntKind.u64.wrap k.1)).toNat IntKind.u32.bits))) &&& BitVec.ofInt IntKind.u32.bits (1 : Int)).toNat : Int)) == (0 : Int)))) then
      BOut.ret false
    else
      BOut.next k (IntKind.i64.wrap (x + (1 : Int))))
  else
    BOut.brk k x
def G9_9 (k : (Int × (Int × Int × Int × Int × Nat × Nat × Nat × List (Int × Int × Int × Int × Int × Int × Int × Int × Int)) × Int × Int)) (x : (Int)) : (Int) := endOf st9_9 k (Nat.succ (mu9_9 k x)) x
def R9_9 (k : (Int × (Int × Int × Int × Int × Nat × Nat × Nat × List (Int × Int × Int × Int × Int × Int × Int × Int × Int)) × Int × Int)) (x : (Int)) : Option (Bool) := retOf st9_9 k (Nat.succ (mu9_9 k x)) x
end Go.Proofs.Ytkanaakceokifaa.Sp
namespace Go.Proofs.Ytkanaakceokifaa.Sy
def LS9_9 : LS ty4.den := mkLS (Ty.pair ty3 (Ty.pair ty25 ty57)) ty3  [(9, none)] [(7, 8), (8, 2)] [(10, none)] [] [] [] [(7, 7), (8, 8)] 2 true Sp.in9_9 Sp.st9_9 Sp.mu9_9
end Go.Proofs.Ytkanaakceokifaa.Sy
namespace Go.Proofs.Ytkanaakceokifaa.Sp
open Go Go.RowKit Sy
def in9_6 (k : ((Int × Int × Int × Int × Nat × Nat × Nat × List (Int × Int × Int × Int × Int × Int × Int × Int × Int)) × Int × Int)) (x : (Int)) : Prop := (-1 : Int) ≤ x
def mu9_6 (k : ((Int × Int × Int × Int × Nat × Nat × Nat × List (Int × Int × Int × Int × Int × Int × Int × Int × Int)) × Int × Int)) (x : (Int)) : Nat := ((33 : Int) - x).toNat
def st9_6 (k : ((Int × Int × Int × Int × Nat × Nat × Nat × List (Int × Int × Int × Int × Int × Int × Int × Int × Int)) × Int × Int)) (x : (Int)) : BOut ((Int × Int × Int × Int × Nat × Nat × Nat × List (Int × Int × Int × Int × Int × Int × Int × Int × Int)) × Int × Int) (Int) (Bool) :=
  bif (decide (x < (33 : Int))) then
    (Sp.optR (Sp.R9_9 (x, k) (-1 : Int)) BOut.ret
    (BOut.next k (IntKind.i64.wrap (x + (1 : Int)))))
  else
    BOut.brk k x
def G9_6 (k : ((Int × Int × Int × Int × Nat × Nat × Nat × List (Int × Int × Int × Int × Int × Int × Int × Int × Int)) × Int × Int)) (x : (Int)) : (Int) := endOf st9_6 k (Nat.succ (mu9_6 k x)) x
def R9_6 (k : ((Int × Int × Int × Int × Nat × Nat × Nat × List (Int × Int × Int × Int × Int × Int × Int × Int × Int)) × Int × Int)) (x : (Int)) : Option (Bool) := retOf st9_6 k (Nat.succ (mu9_6 k x)) x
end Go.Proofs.Ytkanaakceokifaa.Sp
namespace Go.Proofs.Ytkanaakceokifaa.Sy
def LS9_6 : LS ty4.den := mkLS (Ty.pair ty25 ty57) ty3  [] [(7, 8), (8, 2)] [(9, none)] [] [] [21] [(7, 7), (8, 8)] 0 true Sp.in9_6 Sp.st9_6 Sp.mu9_6
theorem va9_9 (k : (Ty.pair ty3 (Ty.pair ty25 ty57)).den) (x : ty3.den) : ((evCode (ctxG GmB1) (lookL []) (bodyAt (bodyOf Try.f9) [0, 0]) (tmpl LS9_9 (enc (Ty.pair ty3 (Ty.pair ty25 ty57)) k) (enc ty3 x)) (evRound LS9_9 (evRet (ctxG GmB1) Try.f9 (Rsh.one (none)) none ty4 .ret)))).val BOut.ret (BOut.brk (Ty.dflt (Ty.pair ty3 (Ty.pair ty25 ty57))) (Ty.dflt ty3)) = Sp.st9_9 k x := by kernel_rfl
theorem se9_9 (k : (Ty.pair ty3 (Ty.pair ty25 ty57)).den) (x : ty3.den) : ((evCode (ctxG GmB1) (lookL []) (bodyAt (bodyOf Try.f9) [0, 0]) (tmpl LS9_9 (enc (Ty.pair ty3 (Ty.pair ty25 ty57)) k) (enc ty3 x)) (evRound LS9_9 (evRet (ctxG GmB1) Try.f9 (Rsh.one (none)) none ty4 .ret)))).safe = ((((decide (x < (5 : Int))) = true → (((((Sp.F28 (k.2.1, k.1, x)) != (Sp.F29 (k.2.1, k.1, x))) = false → (((Sp.F28 (k.2.1, k.1, x)) && (x == (1 : Int))) = true → 0 ≤ (IntKind.u64.wrap k.1)))) ∧ ((((((Sp.F28 (k.2.1, k.1, x)) != (Sp.F29 (k.2.1, k.1, x))) || (((Sp.F28 (k.2.1, k.1, x)) && (x == (1 : Int))) && ((IntKind.u32.wrap ((BitVec.ofInt IntKind.u32.bits (Int.fdiv k.2.2.1 (2 ^ (min ((IntKind.u64.wrap k.1)).toNat IntKind.u32.bits))) &&& BitVec.ofInt IntKind.u32.bits (1 : Int)).toNat : Int)) == (0 : Int)))) = false → (((Sp.F28 (k.2.1, k.1, x)) && (x == (2 : Int))) = true → 0 ≤ (IntKind.u64.wrap k.1)))) ∧ ((((((Sp.F28 (k.2.1, k.1, x)) != (Sp.F29 (k.2.1, k.1, x))) || (((Sp.F28 (k.2.1, k.1, x)) && (x == (1 : Int))) && ((IntKind.u32.wrap ((BitVec.ofInt IntKind.u32.bits (Int.fdiv k.2.2.1 (2 ^ (min ((IntKind.u64.wrap k.1)).toNat IntKind.u32.bits))) &&& BitVec.ofInt IntKind.u32.bits (1 : Int)).toNat : Int)) == (0 : Int)))) || (((Sp.F28 (k.2.1, k.1, x)) && (x == (2 : Int))) && ((IntKind.u32.wrap ((BitVec.ofInt IntKind.u32.bits (Int.fdiv k.2.2.2 (2 ^ (min ((IntKind.u64.wrap k.1)).toNat IntKind.u32.bits))) &&& BitVec.ofInt IntKind.u32.bits (1 : Int)).toNat : Int)) == (0 : Int)))) = true → True) ∧ (((((Sp.F28 (k.2.1, k.1, x)) != (Sp.F29 (k.2.1, k.1, x))) || (((Sp.F28 (k.2.1, k.1, x)) && (x == (1 : Int))) && ((IntKind.u32.wrap ((BitVec.ofInt IntKind.u32.bits (Int.fdiv k.2.2.1 (2 ^ (min ((IntKind.u64.wrap k.1)).toNat IntKind.u32.bits))) &&& BitVec.ofInt IntKind.u32.bits (1 : Int)).toNat : Int)) == (0 : Int)))) || (((Sp.F28 (k.2.1, k.1, x)) && (x == (2 : Int))) && ((IntKind.u32.wrap ((BitVec.ofInt IntKind.u32.bits (Int.fdiv k.2.2.2 (2 ^ (min ((IntKind.u64.wrap k.1)).toNat IntKind.u32.bits))) &&& BitVec.ofInt IntKind.u32.bits (1 : Int)).toNat : Int)) == (0 : Int)))) = false → True))))) ∧ ((decide (x < (5 : Int))) = false → True))) := by kernel_rfl
theorem sa9_9 (k : (Ty.pair ty3 (Ty.pair ty25 ty57)).den) (x : ty3.den) (fk : Fit (Ty.pair ty3 (Ty.pair ty25 ty57)) k) (fx : Fit ty3 x) (h : Sp.in9_9 k x) : SafeW ((evCode (ctxG GmB1) (lookL []) (bodyAt (bodyOf Try.f9) [0, 0]) (tmpl LS9_9 (enc (Ty.pair ty3 (Ty.pair ty25 ty57)) k) (enc ty3 x)) (evRound LS9_9 (evRet (ctxG GmB1) Try.f9 (Rsh.one (none)) none ty4 .ret)))) := by
  refine ⟨?_⟩
  rw [se9_9]
  try dsimp only [Ty.den] at *
  simp only [Sp.in9_9, Fit, maxLen] at h fk fx
  simp only [IntKind.wrap_i64, IntKind.wrap_u8, IntKind.wrap_u32, IntKind.wrap_u64, Sp.tmod_ite, Sp.tdiv_ite, setE, copyL, sliceL, zrow, List.length_append, List.length_cons, List.length_nil, List.length_set, List.length_replicate, List.length_take, List.length_drop, decide_eq_true_eq, decide_eq_false_iff_not, Bool.or_eq_true, Bool.and_eq_true, Bool.or_eq_false_iff, Bool.and_eq_false_iff, Bool.not_eq_true', Bool.not_eq_false', Bool.not_eq_true, Bool.not_eq_false, beq_iff_eq, beq_eq_false_iff_ne, bne_iff_ne, ne_eq, implies_true, and_true, true_and] at *
  all_goals ((repeat' (first | exact trivial | apply And.intro | intro _)) <;> first | trivial | omega)
theorem so9_9 (k : (Ty.pair ty3 (Ty.pair ty25 ty57)).den) (x : ty3.den) (fk : Fit (Ty.pair ty3 (Ty.pair ty25 ty57)) k) (h : Sp.in9_9 k x) : StepOk true Sp.in9_9 Sp.mu9_9 k x (Sp.st9_9 k x) := by
  try dsimp only [Ty.den] at *
  simp only [Sp.in9_9, Fit, maxLen] at h fk
  simp only [Sp.st9_9, Sp.optR, Bool.cond_eq_ite]
  (repeat' split) <;> (first | exact rfl | (refine ⟨rfl, ?_, ?_⟩ <;> simp only [Sp.in9_9, Sp.mu9_9, IntKind.wrap_i64, IntKind.wrap_u8, IntKind.wrap_u32, IntKind.wrap_u64, Sp.tmod_ite, Sp.tdiv_ite, setE, copyL, sliceL, zrow, List.length_append, List.length_cons, List.length_nil, List.length_set, List.length_replicate, List.length_take, List.length_drop, decide_eq_true_eq, decide_eq_false_iff_not, Bool.or_eq_true, Bool.and_eq_true, Bool.or_eq_false_iff, Bool.and_eq_false_iff, Bool.not_eq_true', Bool.not_eq_false', Bool.not_eq_true, Bool.not_eq_false, beq_iff_eq, beq_eq_false_iff_ne, bne_iff_ne, ne_eq] at * <;> omega))
theorem lo9_9 : LoopOk Try.prog gdS (RetAt Try.prog Try.f9 (Rsh.one (none)) none ty4) (bodyAt (bodyOf Try.f9) [0, 0]) LS9_9 :=
  loop_run (ctxOkF gokGmB1 []) (L := lookL []) (loops_of (l := []) (by kernel_rfl) (loops_nil)) sa9_9 va9_9 so9_9
theorem va9_6 (k : (Ty.pair ty25 ty57).den) (x : ty3.den) : ((evCode (ctxG GmB1) (lookL [(9, LS9_9)]) (bodyAt (bodyOf Try.f9) [0]) (tmpl LS9_6 (enc (Ty.pair ty25 ty57) k) (enc ty3 x)) (evRound LS9_6 (evRet (ctxG GmB1) Try.f9 (Rsh.one (none)) none ty4 .ret)))).val BOut.ret (BOut.brk (Ty.dflt (Ty.pair ty25 ty57)) (Ty.dflt ty3)) = Sp.st9_6 k x := by kernel_rfl
theorem se9_6 (k : (Ty.pair ty25 ty57).den) (x : ty3.den) : ((evCode (ctxG GmB1) (lookL [(9, LS9_9)]) (bodyAt (bodyOf Try.f9) [0]) (tmpl LS9_6 (enc (Ty.pair ty25 ty57) k) (enc ty3 x)) (evRound LS9_6 (evRet (ctxG GmB1) Try.f9 (Rsh.one (none)) none ty4 .ret)))).safe = ((((decide (x < (33 : Int))) = true → ((Sp.in9_9 (x, k) (-1 : Int)) ∧ ((Sp.R9_9 (x, k) (-1 : Int)) = none → True))) ∧ ((decide (x < (33 : Int))) = false → True))) := by kernel_rfl
theorem sa9_6 (k : (Ty.pair ty25 ty57).den) (x : ty3.den) (fk : Fit (Ty.pair ty25 ty57) k) (fx : Fit ty3 x) (h : Sp.in9_6 k x) : SafeW ((evCode (ctxG GmB1) (lookL [(9, LS9_9)]) (bodyAt (bodyOf Try.f9) [0]) (tmpl LS9_6 (enc (Ty.pair ty25 ty57) k) (enc ty3 x)) (evRound LS9_6 (evRet (ctxG GmB1) Try.f9 (Rsh.one (none)) none ty4 .ret)))) := by
  refine ⟨?_⟩
  rw [se9_6]
  try dsimp only [Ty.den] at *
  simp only [Sp.in9_6, Fit, maxLen] at h fk fx
  simp only [Sp.in9_9, IntKind.wrap_i64, IntKind.wrap_u8, IntKind.wrap_u32, IntKind.wrap_u64, Sp.tmod_ite, Sp.tdiv_ite, setE, copyL, sliceL, zrow, List.length_append, List.length_cons, List.length_nil, List.length_set, List.length_replicate, List.length_take, List.length_drop, decide_eq_true_eq, decide_eq_false_iff_not, Bool.or_eq_true, Bool.and_eq_true, Bool.or_eq_false_iff, Bool.and_eq_false_iff, Bool.not_eq_true', Bool.not_eq_false', Bool.not_eq_true, Bool.not_eq_false, beq_iff_eq, beq_eq_false_iff_ne, bne_iff_ne, ne_eq, implies_true, and_true, true_and] at *
  all_goals ((repeat' (first | exact trivial | apply And.intro | intro _)) <;> first | trivial | omega)
theorem so9_6 (k : (Ty.pair ty25 ty57).den) (x : ty3.den) (fk : Fit (Ty.pair ty25 ty57) k) (h : Sp.in9_6 k x) : StepOk true Sp.in9_6 Sp.mu9_6 k x (Sp.st9_6 k x) := by
  try dsimp only [Ty.den] at *
  simp only [Sp.in9_6, Fit, maxLen] at h fk
  simp only [Sp.st9_6, Sp.optR, Bool.cond_eq_ite]
  (repeat' split) <;> (first | exact rfl | (refine ⟨rfl, ?_, ?_⟩ <;> simp only [Sp.in9_6, Sp.mu9_6, IntKind.wrap_i64, IntKind.wrap_u8, IntKind.wrap_u32, IntKind.wrap_u64, Sp.tmod_ite, Sp.tdiv_ite, setE, copyL, sliceL, zrow, List.length_append, List.length_cons, List.length_nil, List.length_set, List.length_replicate, List.length_take, List.length_drop, decide_eq_true_eq, decide_eq_false_iff_not, Bool.or_eq_true, Bool.and_eq_true, Bool.or_eq_false_iff, Bool.and_eq_false_iff, Bool.not_eq_true', Bool.not_eq_false', Bool.not_eq_true, Bool.not_eq_false, beq_iff_eq, beq_eq_false_iff_ne, bne_iff_ne, ne_eq] at * <;> omega))
theorem lo9_6 : LoopOk Try.prog gdS (RetAt Try.prog Try.f9 (Rsh.one (none)) none ty4) (bodyAt (bodyOf Try.f9) [0]) LS9_6 :=
  loop_run (ctxOkF gokGmB1 []) (L := lookL [(9, LS9_9)]) (loops_of (l := [bodyAt (bodyOf Try.f9) [0, 0]]) (by kernel_rfl) (loops_cons (s0 := LS9_9) (by kernel_rfl) lo9_9 (loops_nil))) sa9_6 va9_6 so9_6
end Go.Proofs.Ytkanaakceokifaa.Sy
namespace Go.Proofs.Ytkanaakceokifaa.Sp
open Go Go.RowKit Sy
def K9_1 (x : (Int × Int × Int × Int × Nat × Nat × Nat × List (Int × Int × Int × Int × Int × Int × Int × Int × Int)) × Int × Int) :=
  (Sp.G9_6 ((Sp.F22 ((IntKind.i64.wrap ((2 : Int) + (IntKind.i64.wrap (Int.tmod (IntKind.u64.wrap x.2.1) (31 : Int))))), (1 : Int))), (Sp.F27 (Sp.F22 ((IntKind.i64.wrap ((2 : Int) + (IntKind.i64.wrap (Int.tmod (IntKind.u64.wrap x.2.1) (31 : Int))))), (1 : Int))))) (-1 : Int))
def F9 (x : (Int × Int × Int × Int × Nat × Nat × Nat × List (Int × Int × Int × Int × Int × Int × Int × Int × Int)) × Int × Int) : Bool :=
  bif (!(Sp.F15 x.1)) then
    (Sp.F14 ())
  else
    Sp.optR (Sp.R9_6 ((Sp.F22 ((IntKind.i64.wrap ((2 : Int) + (IntKind.i64.wrap (Int.tmod (IntKind.u64.wrap x.2.1) (31 : Int))))), (1 : Int))), (Sp.F27 (Sp.F22 ((IntKind.i64.wrap ((2 : Int) + (IntKind.i64.wrap (Int.tmod (IntKind.u64.wrap x.2.1) (31 : Int))))), (1 : Int))))) (-1 : Int)) (fun y => y)
    ((((((Sp.F28 x) == (Sp.F29 x)) && (((Sp.F27 x.1).1 == (Sp.F30 x.1).1) && ((Sp.F27 x.1).2 == (Sp.F30 x.1).2))) && ((Sp.F28 ((Sp.F22 ((IntKind.i64.wrap ((2 : Int) + (IntKind.i64.wrap (Int.tmod (IntKind.u64.wrap x.2.1) (31 : Int))))), (1 : Int))), x.2)) == (Sp.F29 ((Sp.F22 ((IntKind.i64.wrap ((2 : Int) + (IntKind.i64.wrap (Int.tmod (IntKind.u64.wrap x.2.1) (31 : Int))))), (1 : Int))), x.2)))) && (Sp.F14 ())))
end Go.Proofs.Ytkanaakceokifaa.Sp
namespace Go.Proofs.Ytkanaakceokifaa.Sy
def ct9 : Ct := { p := (Ty.pair ty25 (Ty.pair ty3 ty3)), psh := [some 8, none, none], r := ty4, rsh := (Rsh.one (none)), pre := none, fresh := none, F := Sp.F9 }
theorem va9 (x : (Ty.pair ty25 (Ty.pair ty3 ty3)).den) : ((evFn (ctxG GmB1) Try.f9 (Ty.pair ty25 (Ty.pair ty3 ty3)) [some 8, none, none] (Rsh.one (none)) none ty4 (lookL [(9, LS9_9), (6, LS9_6)]) x)).val (fun y => y) (Ty.dflt ty4) = Sp.F9 x := by kernel_rfl
theorem se9 (x : (Ty.pair ty25 (Ty.pair ty3 ty3)).den) : ((evFn (ctxG GmB1) Try.f9 (Ty.pair ty25 (Ty.pair ty3 ty3)) [some 8, none, none] (Rsh.one (none)) none ty4 (lookL [(9, LS9_9), (6, LS9_6)]) x)).safe = ((((!(Sp.F15 x.1)) = true → True) ∧ ((!(Sp.F15 x.1)) = false → (((31 : Int) ≠ 0) ∧ ((Sp.pre22 ((IntKind.i64.wrap ((2 : Int) + (IntKind.i64.wrap (Int.tmod (IntKind.u64.wrap x.2.1) (31 : Int))))), (1 : Int))) ∧ ((Sp.in9_6 ((Sp.F22 ((IntKind.i64.wrap ((2 : Int) + (IntKind.i64.wrap (Int.tmod (IntKind.u64.wrap x.2.1) (31 : Int))))), (1 : Int))), (Sp.F27 (Sp.F22 ((IntKind.i64.wrap ((2 : Int) + (IntKind.i64.wrap (Int.tmod (IntKind.u64.wrap x.2.1) (31 : Int))))), (1 : Int))))) (-1 : Int)) ∧ ((Sp.R9_6 ((Sp.F22 ((IntKind.i64.wrap ((2 : Int) + (IntKind.i64.wrap (Int.tmod (IntKind.u64.wrap x.2.1) (31 : Int))))), (1 : Int))), (Sp.F27 (Sp.F22 ((IntKind.i64.wrap ((2 : Int) + (IntKind.i64.wrap (Int.tmod (IntKind.u64.wrap x.2.1) (31 : Int))))), (1 : Int))))) (-1 : Int)) = none → True))))))) := by kernel_rfl
theorem sa9 (x : (Ty.pair ty25 (Ty.pair ty3 ty3)).den) (fx : Fit (Ty.pair ty25 (Ty.pair ty3 ty3)) x) : SafeW ((evFn (ctxG GmB1) Try.f9 (Ty.pair ty25 (Ty.pair ty3 ty3)) [some 8, none, none] (Rsh.one (none)) none ty4 (lookL [(9, LS9_9), (6, LS9_6)]) x)) := by
  refine ⟨?_⟩
  rw [se9]
  try dsimp only [Ty.den] at *
  simp only [Fit, maxLen] at fx
  simp only [Sp.in9_9, Sp.in9_6, Sp.pre22, IntKind.wrap_i64, IntKind.wrap_u8, IntKind.wrap_u32, IntKind.wrap_u64, Sp.tmod_ite, Sp.tdiv_ite, setE, copyL, sliceL, zrow, List.length_append, List.length_cons, List.length_nil, List.length_set, List.length_replicate, List.length_take, List.length_drop, decide_eq_true_eq, decide_eq_false_iff_not, Bool.or_eq_true, Bool.and_eq_true, Bool.or_eq_false_iff, Bool.and_eq_false_iff, Bool.not_eq_true', Bool.not_eq_false', Bool.not_eq_true, Bool.not_eq_false, beq_iff_eq, beq_eq_false_iff_ne, bne_iff_ne, ne_eq, implies_true, and_true, true_and] at *
  all_goals ((repeat' (first | exact trivial | apply And.intro | intro _)) <;> first | trivial | omega)
theorem ok9 : CtOk Try.prog gdS 9 ct9 :=
  fn_okU (ctxOkF gokGmB1 []) rfl Try.func9 (p := (Ty.pair ty25 (Ty.pair ty3 ty3))) (psh := [some 8, none, none]) (r := ty4) (rsh := (Rsh.one (none))) (pre := none) (fresh := none) (F := Sp.F9) (L := (lookL [(9, LS9_9), (6, LS9_6)])) (c := bodyOf Try.f9) (dflt := Ty.dflt ty4) rfl (loops_of (l := [bodyAt (bodyOf Try.f9) [0]]) (by kernel_rfl) (loops_cons (s0 := LS9_6) (by kernel_rfl) lo9_6 (loops_nil)))
    (safe_no @sa9) va9
def GmB2 : List (Nat × Ct) := (21, ct21) :: (9, ct9) :: GmB1
theorem gokGmB2 : GOk GmB2 := gok_cons ok21 ⟨_, Try.func21, by kernel_rfl, by kernel_rfl⟩ (gok_cons ok9 ⟨_, Try.func9, by kernel_rfl, by kernel_rfl⟩ (gokGmB1))
end Go.Proofs.Ytkanaakceokifaa.Sy
