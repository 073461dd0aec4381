/- Contracts of functions, by the evaluator (own program gen.py): overlayref01.Service, building.IsCall, overlayref01.Hall. -/
import Derived.Test.YtkanaakceokifaaBuE
set_option linter.unusedVariables false
set_option linter.unusedSimpArgs false
set_option maxRecDepth 100000
namespace Go.Proofs.Ytkanaakceokifaa.Sy
open Go Go.RowKit Sp
/-! overlayref01.Service -/
end Go.Proofs.Ytkanaakceokifaa.Sy
namespace Go.Proofs.Ytkanaakceokifaa.Sp
open Go Go.RowKit Sy
def F17 (x : (Int × Int × Int × Int × Nat × Nat × Nat × List (Int × Int × Int × Int × Int × Int × Int × Int × Int)) × Int) : Int :=
  bif ((((Sp.F13 x.1) != (0 : Int)) || (decide (x.2 < (0 : Int)))) || (decide (x.2 ≥ ((x.1.2.2.2.2.2.2.2).length : Int)))) then
    (0 : Int)
  else
    (IntKind.i64.wrap ((IntKind.i64.wrap ((IntKind.i64.wrap ((3 : Int) * x.1.1)) + (1 : Int))) * (IntKind.i64.wrap ((IntKind.i64.wrap ((IntKind.i64.wrap ((3 : Int) * (Sp.F19 (Sp.nthT x.1.2.2.2.2.2.2.2 x.2)))) + (Sp.nthT x.1.2.2.2.2.2.2.2 x.2).2.2.2.2.1)) + (2 : Int)))))
end Go.Proofs.Ytkanaakceokifaa.Sp
namespace Go.Proofs.Ytkanaakceokifaa.Sy
def ct17 : Ct := { p := (Ty.pair ty25 ty3), psh := [some 8, none], r := ty3, rsh := (Rsh.one (none)), pre := none, fresh := none, F := Sp.F17 }
theorem va17 (x : (Ty.pair ty25 ty3).den) : ((evFn (ctxG GmB0) Try.f17 (Ty.pair ty25 ty3) [some 8, none] (Rsh.one (none)) none ty3 noL x)).val (fun y => y) (Ty.dflt ty3) = Sp.F17 x := by kernel_rfl
theorem se17 (x : (Ty.pair ty25 ty3).den) : ((evFn (ctxG GmB0) Try.f17 (Ty.pair ty25 ty3) [some 8, none] (Rsh.one (none)) none ty3 noL x)).safe = (((((((Sp.F13 x.1) != (0 : Int)) || (decide (x.2 < (0 : Int)))) || (decide (x.2 ≥ ((x.1.2.2.2.2.2.2.2).length : Int)))) = true → True) ∧ (((((Sp.F13 x.1) != (0 : Int)) || (decide (x.2 < (0 : Int)))) || (decide (x.2 ≥ ((x.1.2.2.2.2.2.2.2).length : Int)))) = false → ((0 ≤ x.2 ∧ x.2 < ((x.1.2.2.2.2.2.2.2).length : Int)) ∧ True)))) := by kernel_rfl
theorem sa17 (x : (Ty.pair ty25 ty3).den) (fx : Fit (Ty.pair ty25 ty3) x) : SafeW ((evFn (ctxG GmB0) Try.f17 (Ty.pair ty25 ty3) [some 8, none] (Rsh.one (none)) none ty3 noL x)) := by
  refine ⟨?_⟩
  rw [se17]
  try dsimp only [Ty.den] at *
  simp only [Fit, maxLen] at fx
  simp only [true_and, IntKind.wrap_i64, IntKind.wrap_u8, IntKind.wrap_u32, IntKind.wrap_u64, Sp.tmod_ite, Sp.tdiv_ite, setE, copyL, sliceL, zrow, List.length_append, List.length_cons, List.length_nil, List.length_set, List.length_replicate, List.length_take, List.length_drop, decide_eq_true_eq, decide_eq_false_iff_not, Bool.or_eq_true, Bool.and_eq_true, Bool.or_eq_false_iff, Bool.and_eq_false_iff, Bool.not_eq_true', Bool.not_eq_false', Bool.not_eq_true, Bool.not_eq_false, beq_iff_eq, beq_eq_false_iff_ne, bne_iff_ne, ne_eq, implies_true, and_true, true_and] at *
  all_goals ((repeat' (first | exact trivial | apply And.intro | intro _)) <;> first | trivial | omega)
theorem ok17 : CtOk Try.prog gdS 17 ct17 :=
  fn_okU (ctxOkF gokGmB0 []) rfl Try.func17 (p := (Ty.pair ty25 ty3)) (psh := [some 8, none]) (r := ty3) (rsh := (Rsh.one (none))) (pre := none) (fresh := none) (F := Sp.F17) (L := noL) (c := bodyOf Try.f17) (dflt := Ty.dflt ty3) rfl (no_loops)
    (safe_no @sa17) va17
/-! building.IsCall -/
end Go.Proofs.Ytkanaakceokifaa.Sy
namespace Go.Proofs.Ytkanaakceokifaa.Sp
open Go Go.RowKit Sy
def F28 (x : (Int × Int × Int × Int × Nat × Nat × Nat × List (Int × Int × Int × Int × Int × Int × Int × Int × Int)) × Int × Int) : Bool :=
  (((Sp.F12 x.1) == (0 : Int)) && (Sp.F53 (x.1.1, x.2)))
end Go.Proofs.Ytkanaakceokifaa.Sp
namespace Go.Proofs.Ytkanaakceokifaa.Sy
def ct28 : Ct := { p := (Ty.pair ty25 (Ty.pair ty3 ty3)), psh := [some 8, none, none], r := ty4, rsh := (Rsh.one (none)), pre := none, fresh := none, F := Sp.F28 }
theorem va28 (x : (Ty.pair ty25 (Ty.pair ty3 ty3)).den) : ((evFn (ctxG GmB0) Try.f28 (Ty.pair ty25 (Ty.pair ty3 ty3)) [some 8, none, none] (Rsh.one (none)) none ty4 noL x)).val (fun y => y) (Ty.dflt ty4) = Sp.F28 x := by kernel_rfl
theorem se28 (x : (Ty.pair ty25 (Ty.pair ty3 ty3)).den) : ((evFn (ctxG GmB0) Try.f28 (Ty.pair ty25 (Ty.pair ty3 ty3)) [some 8, none, none] (Rsh.one (none)) none ty4 noL x)).safe = (True) := by kernel_rfl
theorem sa28 (x : (Ty.pair ty25 (Ty.pair ty3 ty3)).den) (fx : Fit (Ty.pair ty25 (Ty.pair ty3 ty3)) x) : SafeW ((evFn (ctxG GmB0) Try.f28 (Ty.pair ty25 (Ty.pair ty3 ty3)) [some 8, none, none] (Rsh.one (none)) none ty4 noL x)) := by
  refine ⟨?_⟩
  rw [se28]
  trivial
theorem ok28 : CtOk Try.prog gdS 28 ct28 :=
  fn_okU (ctxOkF gokGmB0 []) rfl Try.func28 (p := (Ty.pair ty25 (Ty.pair ty3 ty3))) (psh := [some 8, none, none]) (r := ty4) (rsh := (Rsh.one (none))) (pre := none) (fresh := none) (F := Sp.F28) (L := noL) (c := bodyOf Try.f28) (dflt := Ty.dflt ty4) rfl (no_loops)
    (safe_no @sa28) va28
/-! overlayref01.Hall -/
end Go.Proofs.Ytkanaakceokifaa.Sy
namespace Go.Proofs.Ytkanaakceokifaa.Sp
open Go Go.RowKit Sy
def in30_3 (k : (Int × Int × Int × Int × Nat × Nat × Nat × List (Int × Int × Int × Int × Int × Int × Int × Int × Int))) (x : (Int × Int × Int)) : Prop := (0 : Int) ≤ x.1
def mu30_3 (k : (Int × Int × Int × Int × Nat × Nat × Nat × List (Int × Int × Int × Int × Int × Int × Int × Int × Int))) (x : (Int × Int × Int)) : Nat := ((32 : Int) - x.1).toNat
def st30_3 (k : (Int × Int × Int × Int × Nat × Nat × Nat × List (Int × Int × Int × Int × Int × Int × Int × Int × Int))) (x : (Int × Int × Int)) : BOut (Int × Int × Int × Int × Nat × Nat × Nat × List (Int × Int × Int × Int × Int × Int × Int × Int × Int)) (Int × Int × Int) (Int × Int) :=
  bif (decide (x.1 < (32 : Int))) then
    (bif (Sp.F29 (k, x.1, (1 : Int))) then
      (bif (Sp.F29 (k, x.1, (2 : Int))) then
        BOut.next k ((IntKind.i64.wrap (x.1 + (1 : Int))), (IntKind.u32.wrap ((BitVec.ofInt IntKind.u32.bits x.2.1 ||| BitVec.ofInt IntKind.u32.bits (IntKind.u32.wrap ((1 : Int) * 2 ^ (min ((IntKind.u64.wrap x.1)).toNat IntKind.u32.bits)))).toNat : Int)), (IntKind.u32.wrap ((BitVec.ofInt IntKind.u32.bits x.2.2 ||| BitVec.ofInt IntKind.u32.bits (IntKind.u32.wrap ((1 : Int) * 2 ^ (min ((IntKind.u64.wrap x.1)).toNat IntKind.u32.bits)))).toNat : Int)))
      else
        BOut.next k ((IntKind.i64.wrap (x.1 + (1 : Int))), (IntKind.u32.wrap ((BitVec.ofInt IntKind.u32.bits x.2.1 ||| BitVec.ofInt IntKind.u32.bits (IntKind.u32.wrap ((1 : Int) * 2 ^ (min ((IntKind.u64.wrap x.1)).toNat IntKind.u32.bits)))).toNat : Int)), x.2.2))
    else
      bif (Sp.F29 (k, x.1, (2 : Int))) then
        BOut.next k ((IntKind.i64.wrap (x.1 + (1 : Int))), x.2.1, (IntKind.u32.wrap ((BitVec.ofInt IntKind.u32.bits x.2.2 ||| BitVec.ofInt IntKind.u32.bits (IntKind.u32.wrap ((1 : Int) * 2 ^ (min ((IntKind.u64.wrap x.1)).toNat IntKind.u32.bits)))).toNat : Int)))
      else
        BOut.next k ((IntKind.i64.wrap (x.1 + (1 : Int))), x.2))
  else
    BOut.brk k x
def G30_3 (k : (Int × Int × Int × Int × Nat × Nat × Nat × List (Int × Int × Int × Int × Int × Int × Int × Int × Int))) (x : (Int × Int × Int)) : (Int × Int × Int) := endOf st30_3 k (Nat.succ (mu30_3 k x)) x
end Go.Proofs.Ytkanaakceokifaa.Sp
namespace Go.Proofs.Ytkanaakceokifaa.Sy
def LS30_3 : LS ty57.den := mkLS ty25 (Ty.pair ty3 ty57)  [] [(1, 8)] [(4, none)] [(3, 2)] [] [] [(1, 1), (3, 3)] 0 false Sp.in30_3 Sp.st30_3 Sp.mu30_3
theorem va30_3 (k : ty25.den) (x : (Ty.pair ty3 ty57).den) : ((evCode (ctxG GmB0) (lookL []) (bodyAt (bodyOf Try.f30) [0]) (tmpl LS30_3 (enc ty25 k) (enc (Ty.pair ty3 ty57) x)) (evRound LS30_3 (evRet (ctxG GmB0) Try.f30 (Rsh.one (some 2)) none ty57 .ret)))).val BOut.ret (BOut.brk (Ty.dflt ty25) (Ty.dflt (Ty.pair ty3 ty57))) = Sp.st30_3 k x := by kernel_rfl
theorem se30_3 (k : ty25.den) (x : (Ty.pair ty3 ty57).den) : ((evCode (ctxG GmB0) (lookL []) (bodyAt (bodyOf Try.f30) [0]) (tmpl LS30_3 (enc ty25 k) (enc (Ty.pair ty3 ty57) x)) (evRound LS30_3 (evRet (ctxG GmB0) Try.f30 (Rsh.one (some 2)) none ty57 .ret)))).safe = ((((decide (x.1 < (32 : Int))) = true → (((Sp.F29 (k, x.1, (1 : Int))) = true → ((0 ≤ (IntKind.u64.wrap x.1)) ∧ (((Sp.F29 (k, x.1, (2 : Int))) = true → ((0 ≤ (IntKind.u64.wrap x.1)) ∧ True)) ∧ ((Sp.F29 (k, x.1, (2 : Int))) = false → True)))) ∧ ((Sp.F29 (k, x.1, (1 : Int))) = false → (((Sp.F29 (k, x.1, (2 : Int))) = true → ((0 ≤ (IntKind.u64.wrap x.1)) ∧ True)) ∧ ((Sp.F29 (k, x.1, (2 : Int))) = false → True))))) ∧ ((decide (x.1 < (32 : Int))) = false → True))) := by kernel_rfl
theorem sa30_3 (k : ty25.den) (x : (Ty.pair ty3 ty57).den) (fk : Fit ty25 k) (fx : Fit (Ty.pair ty3 ty57) x) (h : Sp.in30_3 k x) : SafeW ((evCode (ctxG GmB0) (lookL []) (bodyAt (bodyOf Try.f30) [0]) (tmpl LS30_3 (enc ty25 k) (enc (Ty.pair ty3 ty57) x)) (evRound LS30_3 (evRet (ctxG GmB0) Try.f30 (Rsh.one (some 2)) none ty57 .ret)))) := by
  refine ⟨?_⟩
  rw [se30_3]
  try dsimp only [Ty.den] at *
  simp only [Sp.in30_3, Fit, maxLen] at h fk fx
  simp only [IntKind.wrap_i64, IntKind.wrap_u8, IntKind.wrap_u32, IntKind.wrap_u64, Sp.tmod_ite, Sp.tdiv_ite, setE, copyL, sliceL, zrow, List.length_append, List.length_cons, List.length_nil, List.length_set, List.length_replicate, List.length_take, List.length_drop, decide_eq_true_eq, decide_eq_false_iff_not, Bool.or_eq_true, Bool.and_eq_true, Bool.or_eq_false_iff, Bool.and_eq_false_iff, Bool.not_eq_true', Bool.not_eq_false', Bool.not_eq_true, Bool.not_eq_false, beq_iff_eq, beq_eq_false_iff_ne, bne_iff_ne, ne_eq, implies_true, and_true, true_and] at *
  all_goals ((repeat' (first | exact trivial | apply And.intro | intro _)) <;> first | trivial | omega)
theorem so30_3 (k : ty25.den) (x : (Ty.pair ty3 ty57).den) (fk : Fit ty25 k) (h : Sp.in30_3 k x) : StepOk false Sp.in30_3 Sp.mu30_3 k x (Sp.st30_3 k x) := by
  try dsimp only [Ty.den] at *
  simp only [Sp.in30_3, Fit, maxLen] at h fk
  simp only [Sp.st30_3, Sp.optR, Bool.cond_eq_ite]
  (repeat' split) <;> (first | exact rfl | (refine ⟨rfl, ?_, ?_⟩ <;> simp only [Sp.in30_3, Sp.mu30_3, IntKind.wrap_i64, IntKind.wrap_u8, IntKind.wrap_u32, IntKind.wrap_u64, Sp.tmod_ite, Sp.tdiv_ite, setE, copyL, sliceL, zrow, List.length_append, List.length_cons, List.length_nil, List.length_set, List.length_replicate, List.length_take, List.length_drop, decide_eq_true_eq, decide_eq_false_iff_not, Bool.or_eq_true, Bool.and_eq_true, Bool.or_eq_false_iff, Bool.and_eq_false_iff, Bool.not_eq_true', Bool.not_eq_false', Bool.not_eq_true, Bool.not_eq_false, beq_iff_eq, beq_eq_false_iff_ne, bne_iff_ne, ne_eq] at * <;> omega))
theorem lo30_3 : LoopOk Try.prog gdS (RetAt Try.prog Try.f30 (Rsh.one (some 2)) none ty57) (bodyAt (bodyOf Try.f30) [0]) LS30_3 :=
  loop_run (ctxOkF gokGmB0 []) (L := lookL []) (loops_of (l := []) (by kernel_rfl) (loops_nil)) sa30_3 va30_3 so30_3
end Go.Proofs.Ytkanaakceokifaa.Sy
namespace Go.Proofs.Ytkanaakceokifaa.Sp
open Go Go.RowKit Sy
def F30 (x : Int × Int × Int × Int × Nat × Nat × Nat × List (Int × Int × Int × Int × Int × Int × Int × Int × Int)) : Int × Int :=
  (Sp.G30_3 x ((0 : Int), (0 : Int), (0 : Int))).2
end Go.Proofs.Ytkanaakceokifaa.Sp
namespace Go.Proofs.Ytkanaakceokifaa.Sy
def ct30 : Ct := { p := ty25, psh := [some 8], r := ty57, rsh := (Rsh.one (some 2)), pre := none, fresh := none, F := Sp.F30 }
theorem va30 (x : ty25.den) : ((evFn (ctxG GmB0) Try.f30 ty25 [some 8] (Rsh.one (some 2)) none ty57 (lookL [(3, LS30_3)]) x)).val (fun y => y) (Ty.dflt ty57) = Sp.F30 x := by kernel_rfl
theorem se30 (x : ty25.den) : ((evFn (ctxG GmB0) Try.f30 ty25 [some 8] (Rsh.one (some 2)) none ty57 (lookL [(3, LS30_3)]) x)).safe = (((Sp.in30_3 x ((0 : Int), (0 : Int), (0 : Int))) ∧ True)) := by kernel_rfl
theorem sa30 (x : ty25.den) (fx : Fit ty25 x) : SafeW ((evFn (ctxG GmB0) Try.f30 ty25 [some 8] (Rsh.one (some 2)) none ty57 (lookL [(3, LS30_3)]) x)) := by
  refine ⟨?_⟩
  rw [se30]
  try dsimp only [Ty.den] at *
  simp only [Fit, maxLen] at fx
  simp only [Sp.in30_3, IntKind.wrap_i64, IntKind.wrap_u8, IntKind.wrap_u32, IntKind.wrap_u64, Sp.tmod_ite, Sp.tdiv_ite, setE, copyL, sliceL, zrow, List.length_append, List.length_cons, List.length_nil, List.length_set, List.length_replicate, List.length_take, List.length_drop, decide_eq_true_eq, decide_eq_false_iff_not, Bool.or_eq_true, Bool.and_eq_true, Bool.or_eq_false_iff, Bool.and_eq_false_iff, Bool.not_eq_true', Bool.not_eq_false', Bool.not_eq_true, Bool.not_eq_false, beq_iff_eq, beq_eq_false_iff_ne, bne_iff_ne, ne_eq, implies_true, and_true, true_and] at *
  all_goals ((repeat' (first | exact trivial | apply And.intro | intro _)) <;> first | trivial | omega)
theorem ok30 : CtOk Try.prog gdS 30 ct30 :=
  fn_okU (ctxOkF gokGmB0 []) rfl Try.func30 (p := ty25) (psh := [some 8]) (r := ty57) (rsh := (Rsh.one (some 2))) (pre := none) (fresh := none) (F := Sp.F30) (L := (lookL [(3, LS30_3)])) (c := bodyOf Try.f30) (dflt := Ty.dflt ty57) rfl (loops_of (l := [bodyAt (bodyOf Try.f30) [0]]) (by kernel_rfl) (loops_cons (s0 := LS30_3) (by kernel_rfl) lo30_3 (loops_nil)))
    (safe_no @sa30) va30
def GmB1 : List (Nat × Ct) := (17, ct17) :: (28, ct28) :: (30, ct30) :: GmB0
theorem gokGmB1 : GOk GmB1 := gok_cons ok17 ⟨_, Try.func17, by kernel_rfl, by kernel_rfl⟩ (gok_cons ok28 ⟨_, Try.func28, by kernel_rfl, by kernel_rfl⟩ (gok_cons ok30 ⟨_, Try.func30, by kernel_rfl, by kernel_rfl⟩ (gokGmB0)))
end Go.Proofs.Ytkanaakceokifaa.Sy
