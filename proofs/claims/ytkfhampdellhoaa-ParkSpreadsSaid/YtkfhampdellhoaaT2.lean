/- Contracts of functions, by the evaluator (own program gen.py): building.Valid, overlayref01.Valid. -/
import Derived.Test.YtkfhampdellhoaaT1
set_option linter.unusedVariables false
set_option linter.unusedSimpArgs false
set_option maxRecDepth 100000
namespace Go.Proofs.Ytkfhampdellhoaa.Sy
open Go Go.RowKit Sp
/-! building.Valid -/
end Go.Proofs.Ytkfhampdellhoaa.Sy
namespace Go.Proofs.Ytkfhampdellhoaa.Sp
open Go Go.RowKit Sy
def in28_7 (k : ((List (Int × Int × Int × Int × Int × Int × Int × Int × Int)) × Int × Int × Int × Int × Int × Nat × Nat × Nat × List (Int × Int × Int × Int × Int × Int × Int × Int × Int))) (x : (Bool × Int)) : Prop := (0 : Int) ≤ x.2 ∧ k.2.1 = ((k.1).length : Int)
def mu28_7 (k : ((List (Int × Int × Int × Int × Int × Int × Int × Int × Int)) × Int × Int × Int × Int × Int × Nat × Nat × Nat × List (Int × Int × Int × Int × Int × Int × Int × Int × Int))) (x : (Bool × Int)) : Nat := (k.2.1 - x.2).toNat
def st28_7 (k : ((List (Int × Int × Int × Int × Int × Int × Int × Int × Int)) × Int × Int × Int × Int × Int × Nat × Nat × Nat × List (Int × Int × Int × Int × Int × Int × Int × Int × Int))) (x : (Bool × Int)) : BOut ((List (Int × Int × Int × Int × Int × Int × Int × Int × Int)) × Int × Int × Int × Int × Int × Nat × Nat × Nat × List (Int × Int × Int × Int × Int × Int × Int × Int × Int)) (Bool × Int) (Int) :=
  bif (decide (x.2 < k.2.1)) then
    BOut.next k ((x.1 && (Sp.F34 ((Sp.nthT k.1 x.2), k.2.2.1))), (IntKind.i64.wrap (x.2 + (1 : Int))))
  else
    BOut.brk k x
def G28_7 (k : ((List (Int × Int × Int × Int × Int × Int × Int × Int × Int)) × Int × Int × Int × Int × Int × Nat × Nat × Nat × List (Int × Int × Int × Int × Int × Int × Int × Int × Int))) (x : (Bool × Int)) : (Bool × Int) := endOf st28_7 k (Nat.succ (mu28_7 k x)) x
end Go.Proofs.Ytkfhampdellhoaa.Sp
namespace Go.Proofs.Ytkfhampdellhoaa.Sy
def LS28_7 : LS ty60.den := mkLS (Ty.pair ty44 (Ty.pair ty3 ty46)) (Ty.pair ty4 ty3)  [(28, none), (29, none)] [(1, 8)] [(3, none), (30, none)] [] [] [] [(1, 1)] 0 false Sp.in28_7 Sp.st28_7 Sp.mu28_7
theorem va28_7 (k : (Ty.pair ty44 (Ty.pair ty3 ty46)).den) (x : (Ty.pair ty4 ty3).den) : ((evCode (ctxG GmT1) (lookL []) (bodyAt (bodyOf Try.f28) [0]) (tmpl LS28_7 (enc (Ty.pair ty44 (Ty.pair ty3 ty46)) k) (enc (Ty.pair ty4 ty3) x)) (evRound LS28_7 (evRet (ctxG GmT1) Try.f28 (Rsh.one (none)) none ty60 .ret)))).val BOut.ret (BOut.brk (Ty.dflt (Ty.pair ty44 (Ty.pair ty3 ty46))) (Ty.dflt (Ty.pair ty4 ty3))) = Sp.st28_7 k x := by kernel_rfl
theorem se28_7 (k : (Ty.pair ty44 (Ty.pair ty3 ty46)).den) (x : (Ty.pair ty4 ty3).den) : ((evCode (ctxG GmT1) (lookL []) (bodyAt (bodyOf Try.f28) [0]) (tmpl LS28_7 (enc (Ty.pair ty44 (Ty.pair ty3 ty46)) k) (enc (Ty.pair ty4 ty3) x)) (evRound LS28_7 (evRet (ctxG GmT1) Try.f28 (Rsh.one (none)) none ty60 .ret)))).safe = ((((decide (x.2 < k.2.1)) = true → ((0 ≤ x.2 ∧ x.2 < ((k.1).length : Int)) ∧ True)) ∧ ((decide (x.2 < k.2.1)) = false → True))) := by kernel_rfl
theorem sa28_7 (k : (Ty.pair ty44 (Ty.pair ty3 ty46)).den) (x : (Ty.pair ty4 ty3).den) (fk : Fit (Ty.pair ty44 (Ty.pair ty3 ty46)) k) (fx : Fit (Ty.pair ty4 ty3) x) (h : Sp.in28_7 k x) : SafeW ((evCode (ctxG GmT1) (lookL []) (bodyAt (bodyOf Try.f28) [0]) (tmpl LS28_7 (enc (Ty.pair ty44 (Ty.pair ty3 ty46)) k) (enc (Ty.pair ty4 ty3) x)) (evRound LS28_7 (evRet (ctxG GmT1) Try.f28 (Rsh.one (none)) none ty60 .ret)))) := by
  refine ⟨?_⟩
  rw [se28_7]
  try dsimp only [Ty.den] at *
  simp only [Sp.in28_7, Fit, maxLen] at h fk fx
  simp only [IntKind.wrap_i64, IntKind.wrap_u8, IntKind.wrap_u32, IntKind.wrap_u64, Sp.tmod_ite, Sp.tdiv_ite, setE, copyL, sliceL, zrow, List.length_append, List.length_cons, List.length_nil, List.length_set, List.length_replicate, List.length_take, List.length_drop, decide_eq_true_eq, decide_eq_false_iff_not, Bool.or_eq_true, Bool.and_eq_true, Bool.or_eq_false_iff, Bool.and_eq_false_iff, Bool.not_eq_true', Bool.not_eq_false', Bool.not_eq_true, Bool.not_eq_false, beq_iff_eq, beq_eq_false_iff_ne, bne_iff_ne, ne_eq, implies_true, and_true, true_and] at *
  all_goals ((repeat' (first | exact trivial | apply And.intro | intro _)) <;> first | trivial | omega)
theorem so28_7 (k : (Ty.pair ty44 (Ty.pair ty3 ty46)).den) (x : (Ty.pair ty4 ty3).den) (fk : Fit (Ty.pair ty44 (Ty.pair ty3 ty46)) k) (h : Sp.in28_7 k x) : StepOk false Sp.in28_7 Sp.mu28_7 k x (Sp.st28_7 k x) := by
  try dsimp only [Ty.den] at *
  simp only [Sp.in28_7, Fit, maxLen] at h fk
  simp only [Sp.st28_7, Sp.optR, Bool.cond_eq_ite]
  (repeat' split) <;> (first | exact rfl | (refine ⟨rfl, ?_, ?_⟩ <;> simp only [Sp.in28_7, Sp.mu28_7, IntKind.wrap_i64, IntKind.wrap_u8, IntKind.wrap_u32, IntKind.wrap_u64, Sp.tmod_ite, Sp.tdiv_ite, setE, copyL, sliceL, zrow, List.length_append, List.length_cons, List.length_nil, List.length_set, List.length_replicate, List.length_take, List.length_drop, decide_eq_true_eq, decide_eq_false_iff_not, Bool.or_eq_true, Bool.and_eq_true, Bool.or_eq_false_iff, Bool.and_eq_false_iff, Bool.not_eq_true', Bool.not_eq_false', Bool.not_eq_true, Bool.not_eq_false, beq_iff_eq, beq_eq_false_iff_ne, bne_iff_ne, ne_eq] at * <;> omega))
theorem lo28_7 : LoopOk Try.prog gdS (RetAt Try.prog Try.f28 (Rsh.one (none)) none ty60) (bodyAt (bodyOf Try.f28) [0]) LS28_7 :=
  loop_run (ctxOkF gokGmT1 []) (L := lookL []) (loops_of (l := []) (by kernel_rfl) (loops_nil)) sa28_7 va28_7 so28_7
end Go.Proofs.Ytkfhampdellhoaa.Sy
namespace Go.Proofs.Ytkfhampdellhoaa.Sp
open Go Go.RowKit Sy
def F28 (x : Int × Int × Int × Int × Nat × Nat × Nat × List (Int × Int × Int × Int × Int × Int × Int × Int × Int)) : Int :=
  bif (!(Sp.F33 ((2 : Int), (32 : Int), [x.1]))) then
    (10 : Int)
  else
    bif (!(Sp.F33 ((1 : Int), (8 : Int), [((x.2.2.2.2.2.2.2).length : Int)]))) then
      (11 : Int)
    else
      bif (!((Sp.G28_7 (x.2.2.2.2.2.2.2, ((x.2.2.2.2.2.2.2).length : Int), x) (((Sp.F33 ((1 : Int), (16 : Int), [x.2.1])) && (Sp.F33 ((1 : Int), (10000 : Int), [x.2.2.2.1]))), (0 : Int))).1)) then
        (12 : Int)
      else
        bif (!(Sp.F35 x)) then
          (13 : Int)
        else
          bif (!(Sp.F33 ((IntKind.i64.wrap ((IntKind.i64.wrap ((18 : Int) * ((x.2.2.2.2.2.2.2).length : Int))) + (24 : Int))), (65536 : Int), [x.2.2.1]))) then
            (14 : Int)
          else
            (0 : Int)
end Go.Proofs.Ytkfhampdellhoaa.Sp
namespace Go.Proofs.Ytkfhampdellhoaa.Sy
def ct28 : Ct := { p := ty46, psh := [some 8], r := ty60, rsh := (Rsh.one (none)), pre := none, fresh := none, F := Sp.F28 }
theorem va28 (x : ty46.den) : ((evFn (ctxG GmT1) Try.f28 ty46 [some 8] (Rsh.one (none)) none ty60 (lookL [(7, LS28_7)]) x)).val (fun y => y) (Ty.dflt ty60) = Sp.F28 x := by kernel_rfl
theorem se28 (x : ty46.den) : ((evFn (ctxG GmT1) Try.f28 ty46 [some 8] (Rsh.one (none)) none ty60 (lookL [(7, LS28_7)]) x)).safe = ((((!(Sp.F33 ((2 : Int), (32 : Int), [x.1]))) = true → True) ∧ ((!(Sp.F33 ((2 : Int), (32 : Int), [x.1]))) = false → (((!(Sp.F33 ((1 : Int), (8 : Int), [((x.2.2.2.2.2.2.2).length : Int)]))) = true → True) ∧ ((!(Sp.F33 ((1 : Int), (8 : Int), [((x.2.2.2.2.2.2.2).length : Int)]))) = false → ((Sp.in28_7 (x.2.2.2.2.2.2.2, ((x.2.2.2.2.2.2.2).length : Int), x) (((Sp.F33 ((1 : Int), (16 : Int), [x.2.1])) && (Sp.F33 ((1 : Int), (10000 : Int), [x.2.2.2.1]))), (0 : Int))) ∧ (((!((Sp.G28_7 (x.2.2.2.2.2.2.2, ((x.2.2.2.2.2.2.2).length : Int), x) (((Sp.F33 ((1 : Int), (16 : Int), [x.2.1])) && (Sp.F33 ((1 : Int), (10000 : Int), [x.2.2.2.1]))), (0 : Int))).1)) = true → True) ∧ ((!((Sp.G28_7 (x.2.2.2.2.2.2.2, ((x.2.2.2.2.2.2.2).length : Int), x) (((Sp.F33 ((1 : Int), (16 : Int), [x.2.1])) && (Sp.F33 ((1 : Int), (10000 : Int), [x.2.2.2.1]))), (0 : Int))).1)) = false → (((!(Sp.F35 x)) = true → True) ∧ ((!(Sp.F35 x)) = false → (((!(Sp.F33 ((IntKind.i64.wrap ((IntKind.i64.wrap ((18 : Int) * ((x.2.2.2.2.2.2.2).length : Int))) + (24 : Int))), (65536 : Int), [x.2.2.1]))) = true → True) ∧ ((!(Sp.F33 ((IntKind.i64.wrap ((IntKind.i64.wrap ((18 : Int) * ((x.2.2.2.2.2.2.2).length : Int))) + (24 : Int))), (65536 : Int), [x.2.2.1]))) = false → True)))))))))))) := by kernel_rfl
theorem sa28 (x : ty46.den) (fx : Fit ty46 x) : SafeW ((evFn (ctxG GmT1) Try.f28 ty46 [some 8] (Rsh.one (none)) none ty60 (lookL [(7, LS28_7)]) x)) := by
  refine ⟨?_⟩
  rw [se28]
  try dsimp only [Ty.den] at *
  simp only [Fit, maxLen] at fx
  simp only [Sp.in28_7, IntKind.wrap_i64, IntKind.wrap_u8, IntKind.wrap_u32, IntKind.wrap_u64, Sp.tmod_ite, Sp.tdiv_ite, setE, copyL, sliceL, zrow, List.length_append, List.length_cons, List.length_nil, List.length_set, List.length_replicate, List.length_take, List.length_drop, decide_eq_true_eq, decide_eq_false_iff_not, Bool.or_eq_true, Bool.and_eq_true, Bool.or_eq_false_iff, Bool.and_eq_false_iff, Bool.not_eq_true', Bool.not_eq_false', Bool.not_eq_true, Bool.not_eq_false, beq_iff_eq, beq_eq_false_iff_ne, bne_iff_ne, ne_eq, implies_true, and_true, true_and] at *
  all_goals ((repeat' (first | exact trivial | apply And.intro | intro _)) <;> first | trivial | omega)
theorem ok28 : CtOk Try.prog gdS 28 ct28 :=
  fn_okU (ctxOkF gokGmT1 []) rfl Try.func28 (p := ty46) (psh := [some 8]) (r := ty60) (rsh := (Rsh.one (none))) (pre := none) (fresh := none) (F := Sp.F28) (L := (lookL [(7, LS28_7)])) (c := bodyOf Try.f28) (dflt := Ty.dflt ty60) rfl (loops_of (l := [bodyAt (bodyOf Try.f28) [0]]) (by kernel_rfl) (loops_cons (s0 := LS28_7) (by kernel_rfl) lo28_7 (loops_nil)))
    (safe_no @sa28) va28
/-! overlayref01.Valid -/
end Go.Proofs.Ytkfhampdellhoaa.Sy
namespace Go.Proofs.Ytkfhampdellhoaa.Sp
open Go Go.RowKit Sy
def in29_7 (k : (Int × Int × Int × Int × Nat × Nat × Nat × List (Int × Int × Int × Int × Int × Int × Int × Int × Int))) (x : (Bool × Int)) : Prop := (0 : Int) ≤ x.2
def mu29_7 (k : (Int × Int × Int × Int × Nat × Nat × Nat × List (Int × Int × Int × Int × Int × Int × Int × Int × Int))) (x : (Bool × Int)) : Nat := (((k.2.2.2.2.2.2.2).length : Int) - x.2).toNat
def st29_7 (k : (Int × Int × Int × Int × Nat × Nat × Nat × List (Int × Int × Int × Int × Int × Int × Int × Int × Int))) (x : (Bool × Int)) : BOut (Int × Int × Int × Int × Nat × Nat × Nat × List (Int × Int × Int × Int × Int × Int × Int × Int × Int)) (Bool × Int) (Int) :=
  bif (decide (x.2 < ((k.2.2.2.2.2.2.2).length : Int))) then
    BOut.next k ((x.1 && (Sp.F37 (k, (Sp.nthT k.2.2.2.2.2.2.2 x.2)))), (IntKind.i64.wrap (x.2 + (1 : Int))))
  else
    BOut.brk k x
def G29_7 (k : (Int × Int × Int × Int × Nat × Nat × Nat × List (Int × Int × Int × Int × Int × Int × Int × Int × Int))) (x : (Bool × Int)) : (Bool × Int) := endOf st29_7 k (Nat.succ (mu29_7 k x)) x
end Go.Proofs.Ytkfhampdellhoaa.Sp
namespace Go.Proofs.Ytkfhampdellhoaa.Sy
def LS29_7 : LS ty60.den := mkLS ty46 (Ty.pair ty4 ty3)  [] [(1, 8)] [(3, none), (4, none)] [] [] [] [(1, 1)] 0 false Sp.in29_7 Sp.st29_7 Sp.mu29_7
theorem va29_7 (k : ty46.den) (x : (Ty.pair ty4 ty3).den) : ((evCode (ctxG GmT1) (lookL []) (bodyAt (bodyOf Try.f29) [0]) (tmpl LS29_7 (enc ty46 k) (enc (Ty.pair ty4 ty3) x)) (evRound LS29_7 (evRet (ctxG GmT1) Try.f29 (Rsh.one (none)) none ty60 .ret)))).val BOut.ret (BOut.brk (Ty.dflt ty46) (Ty.dflt (Ty.pair ty4 ty3))) = Sp.st29_7 k x := by kernel_rfl
theorem se29_7 (k : ty46.den) (x : (Ty.pair ty4 ty3).den) : ((evCode (ctxG GmT1) (lookL []) (bodyAt (bodyOf Try.f29) [0]) (tmpl LS29_7 (enc ty46 k) (enc (Ty.pair ty4 ty3) x)) (evRound LS29_7 (evRet (ctxG GmT1) Try.f29 (Rsh.one (none)) none ty60 .ret)))).safe = ((((decide (x.2 < ((k.2.2.2.2.2.2.2).length : Int))) = true → (((x.1 = true → 0 ≤ x.2 ∧ x.2 < ((k.2.2.2.2.2.2.2).length : Int))) ∧ True)) ∧ ((decide (x.2 < ((k.2.2.2.2.2.2.2).length : Int))) = false → True))) := by kernel_rfl
theorem sa29_7 (k : ty46.den) (x : (Ty.pair ty4 ty3).den) (fk : Fit ty46 k) (fx : Fit (Ty.pair ty4 ty3) x) (h : Sp.in29_7 k x) : SafeW ((evCode (ctxG GmT1) (lookL []) (bodyAt (bodyOf Try.f29) [0]) (tmpl LS29_7 (enc ty46 k) (enc (Ty.pair ty4 ty3) x)) (evRound LS29_7 (evRet (ctxG GmT1) Try.f29 (Rsh.one (none)) none ty60 .ret)))) := by
  refine ⟨?_⟩
  rw [se29_7]
  try dsimp only [Ty.den] at *
  simp only [Sp.in29_7, Fit, maxLen] at h fk fx
  simp only [IntKind.wrap_i64, IntKind.wrap_u8, IntKind.wrap_u32, IntKind.wrap_u64, Sp.tmod_ite, Sp.tdiv_ite, setE, copyL, sliceL, zrow, List.length_append, List.length_cons, List.length_nil, List.length_set, List.length_replicate, List.length_take, List.length_drop, decide_eq_true_eq, decide_eq_false_iff_not, Bool.or_eq_true, Bool.and_eq_true, Bool.or_eq_false_iff, Bool.and_eq_false_iff, Bool.not_eq_true', Bool.not_eq_false', Bool.not_eq_true, Bool.not_eq_false, beq_iff_eq, beq_eq_false_iff_ne, bne_iff_ne, ne_eq, implies_true, and_true, true_and] at *
  all_goals ((repeat' (first | exact trivial | apply And.intro | intro _)) <;> first | trivial | omega)
theorem so29_7 (k : ty46.den) (x : (Ty.pair ty4 ty3).den) (fk : Fit ty46 k) (h : Sp.in29_7 k x) : StepOk false Sp.in29_7 Sp.mu29_7 k x (Sp.st29_7 k x) := by
  try dsimp only [Ty.den] at *
  simp only [Sp.in29_7, Fit, maxLen] at h fk
  simp only [Sp.st29_7, Sp.optR, Bool.cond_eq_ite]
  (repeat' split) <;> (first | exact rfl | (refine ⟨rfl, ?_, ?_⟩ <;> simp only [Sp.in29_7, Sp.mu29_7, IntKind.wrap_i64, IntKind.wrap_u8, IntKind.wrap_u32, IntKind.wrap_u64, Sp.tmod_ite, Sp.tdiv_ite, setE, copyL, sliceL, zrow, List.length_append, List.length_cons, List.length_nil, List.length_set, List.length_replicate, List.length_take, List.length_drop, decide_eq_true_eq, decide_eq_false_iff_not, Bool.or_eq_true, Bool.and_eq_true, Bool.or_eq_false_iff, Bool.and_eq_false_iff, Bool.not_eq_true', Bool.not_eq_false', Bool.not_eq_true, Bool.not_eq_false, beq_iff_eq, beq_eq_false_iff_ne, bne_iff_ne, ne_eq] at * <;> omega))
theorem lo29_7 : LoopOk Try.prog gdS (RetAt Try.prog Try.f29 (Rsh.one (none)) none ty60) (bodyAt (bodyOf Try.f29) [0]) LS29_7 :=
  loop_run (ctxOkF gokGmT1 []) (L := lookL []) (loops_of (l := []) (by kernel_rfl) (loops_nil)) sa29_7 va29_7 so29_7
end Go.Proofs.Ytkfhampdellhoaa.Sy
namespace Go.Proofs.Ytkfhampdellhoaa.Sp
open Go Go.RowKit Sy
def F29 (x : Int × Int × Int × Int × Nat × Nat × Nat × List (Int × Int × Int × Int × Int × Int × Int × Int × Int)) : Int :=
  bif (!(Sp.F36 (x.1, (2 : Int), (32 : Int)))) then
    (10 : Int)
  else
    bif (!(Sp.F36 (((x.2.2.2.2.2.2.2).length : Int), (1 : Int), (8 : Int)))) then
      (11 : Int)
    else
      bif (!((Sp.G29_7 x (((Sp.F36 (x.2.1, (1 : Int), (16 : Int))) && (Sp.F36 (x.2.2.2.1, (1 : Int), (10000 : Int)))), (0 : Int))).1)) then
        (12 : Int)
      else
        bif (!(((((FloatKind.f64.format.order (0 : Nat) x.2.2.2.2.1) == some Ordering.lt) && ((FloatKind.f64.format.order x.2.2.2.2.1 x.2.2.2.2.2.1) == some Ordering.lt)) && ((FloatKind.f64.format.order x.2.2.2.2.2.1 x.2.2.2.2.2.2.1) == some Ordering.lt)) && ((FloatKind.f64.format.order x.2.2.2.2.2.2.1 (9218868437227405311 : Nat)) == some Ordering.lt || (FloatKind.f64.format.order x.2.2.2.2.2.2.1 (9218868437227405311 : Nat)) == some Ordering.eq))) then
          (13 : Int)
        else
          bif (!(Sp.F36 (x.2.2.1, (IntKind.i64.wrap ((IntKind.i64.wrap ((18 : Int) * ((x.2.2.2.2.2.2.2).length : Int))) + (24 : Int))), (65536 : Int)))) then
            (14 : Int)
          else
            (0 : Int)
end Go.Proofs.Ytkfhampdellhoaa.Sp
namespace Go.Proofs.Ytkfhampdellhoaa.Sy
def ct29 : Ct := { p := ty46, psh := [some 8], r := ty60, rsh := (Rsh.one (none)), pre := none, fresh := none, F := Sp.F29 }
theorem va29 (x : ty46.den) : ((evFn (ctxG GmT1) Try.f29 ty46 [some 8] (Rsh.one (none)) none ty60 (lookL [(7, LS29_7)]) x)).val (fun y => y) (Ty.dflt ty60) = Sp.F29 x := by kernel_rfl
theorem se29 (x : ty46.den) : ((evFn (ctxG GmT1) Try.f29 ty46 [some 8] (Rsh.one (none)) none ty60 (lookL [(7, LS29_7)]) x)).safe = ((((!(Sp.F36 (x.1, (2 : Int), (32 : Int)))) = true → True) ∧ ((!(Sp.F36 (x.1, (2 : Int), (32 : Int)))) = false → (((!(Sp.F36 (((x.2.2.2.2.2.2.2).length : Int), (1 : Int), (8 : Int)))) = true → True) ∧ ((!(Sp.F36 (((x.2.2.2.2.2.2.2).length : Int), (1 : Int), (8 : Int)))) = false → ((Sp.in29_7 x (((Sp.F36 (x.2.1, (1 : Int), (16 : Int))) && (Sp.F36 (x.2.2.2.1, (1 : Int), (10000 : Int)))), (0 : Int))) ∧ (((!((Sp.G29_7 x (((Sp.F36 (x.2.1, (1 : Int), (16 : Int))) && (Sp.F36 (x.2.2.2.1, (1 : Int), (10000 : Int)))), (0 : Int))).1)) = true → True) ∧ ((!((Sp.G29_7 x (((Sp.F36 (x.2.1, (1 : Int), (16 : Int))) && (Sp.F36 (x.2.2.2.1, (1 : Int), (10000 : Int)))), (0 : Int))).1)) = false → (((!(((((FloatKind.f64.format.order (0 : Nat) x.2.2.2.2.1) == some Ordering.lt) && ((FloatKind.f64.format.order x.2.2.2.2.1 x.2.2.2.2.2.1) == some Ordering.lt)) && ((FloatKind.f64.format.order x.2.2.2.2.2.1 x.2.2.2.2.2.2.1) == some Ordering.lt)) && ((FloatKind.f64.format.order x.2.2.2.2.2.2.1 (9218868437227405311 : Nat)) == some Ordering.lt || (FloatKind.f64.format.order x.2.2.2.2.2.2.1 (9218868437227405311 : Nat)) == some Ordering.eq))) = true → True) ∧ ((!(((((FloatKind.f64.format.order (0 : Nat) x.2.2.2.2.1) == some Ordering.lt) && ((FloatKind.f64.format.order x.2.2.2.2.1 x.2.2.2.2.2.1) == some Ordering.lt)) && ((FloatKind.f64.format.order x.2.2.2.2.2.1 x.2.2.2.2.2.2.1) == some Ordering.lt)) && ((FloatKind.f64.format.order x.2.2.2.2.2.2.1 (9218868437227405311 : Nat)) == some Ordering.lt || (FloatKind.f64.format.order x.2.2.2.2.2.2.1 (9218868437227405311 : Nat)) == some Ordering.eq))) = false → (((!(Sp.F36 (x.2.2.1, (IntKind.i64.wrap ((IntKind.i64.wrap ((18 : Int) * ((x.2.2.2.2.2.2.2).length : Int))) + (24 : Int))), (65536 : Int)))) = true → True) ∧ ((!(Sp.F36 (x.2.2.1, (IntKind.i64.wrap ((IntKind.i64.wrap ((18 : Int) * ((x.2.2.2.2.2.2.2).length : Int))) + (24 : Int))), (65536 : Int)))) = false → True)))))))))))) := by kernel_rfl
theorem sa29 (x : ty46.den) (fx : Fit ty46 x) : SafeW ((evFn (ctxG GmT1) Try.f29 ty46 [some 8] (Rsh.one (none)) none ty60 (lookL [(7, LS29_7)]) x)) := by
  refine ⟨?_⟩
  rw [se29]
  try dsimp only [Ty.den] at *
  simp only [Fit, maxLen] at fx
  simp only [Sp.in29_7, IntKind.wrap_i64, IntKind.wrap_u8, IntKind.wrap_u32, IntKind.wrap_u64, Sp.tmod_ite, Sp.tdiv_ite, setE, copyL, sliceL, zrow, List.length_append, List.length_cons, List.length_nil, List.length_set, List.length_replicate, List.length_take, List.length_drop, decide_eq_true_eq, decide_eq_false_iff_not, Bool.or_eq_true, Bool.and_eq_true, Bool.or_eq_false_iff, Bool.and_eq_false_iff, Bool.not_eq_true', Bool.not_eq_false', Bool.not_eq_true, Bool.not_eq_false, beq_iff_eq, beq_eq_false_iff_ne, bne_iff_ne, ne_eq, implies_true, and_true, true_and] at *
  all_goals ((repeat' (first | exact trivial | apply And.intro | intro _)) <;> first | trivial | omega)
theorem ok29 : CtOk Try.prog gdS 29 ct29 :=
  fn_okU (ctxOkF gokGmT1 []) rfl Try.func29 (p := ty46) (psh := [some 8]) (r := ty60) (rsh := (Rsh.one (none))) (pre := none) (fresh := none) (F := Sp.F29) (L := (lookL [(7, LS29_7)])) (c := bodyOf Try.f29) (dflt := Ty.dflt ty60) rfl (loops_of (l := [bodyAt (bodyOf Try.f29) [0]]) (by kernel_rfl) (loops_cons (s0 := LS29_7) (by kernel_rfl) lo29_7 (loops_nil)))
    (safe_no @sa29) va29
def GmT2 : List (Nat × Ct) := (28, ct28) :: (29, ct29) :: GmT1
theorem gokGmT2 : GOk GmT2 := gok_cons ok28 ⟨_, Try.func28, by kernel_rfl, by kernel_rfl⟩ (gok_cons ok29 ⟨_, Try.func29, by kernel_rfl, by kernel_rfl⟩ (gokGmT1))
end Go.Proofs.Ytkfhampdellhoaa.Sy
