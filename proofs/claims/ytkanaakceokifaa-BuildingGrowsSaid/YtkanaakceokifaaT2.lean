/- Contracts of functions, by the evaluator (own program gen.py): building.Valid, overlayref01.Valid. -/
import Derived.Test.YtkanaakceokifaaT1
set_option linter.unusedVariables false
set_option linter.unusedSimpArgs false
set_option maxRecDepth 100000
namespace Go.Proofs.Ytkanaakceokifaa.Sy
open Go Go.RowKit Sp
/-! building.Valid -/
end Go.Proofs.Ytkanaakceokifaa.Sy
namespace Go.Proofs.Ytkanaakceokifaa.Sp
open Go Go.RowKit Sy
def in12_7 (k : ((List (Int × Int × Int × Int × Int × Int × Int × Int × Int)) × Int × Int × Int × Int × Int × Nat × Nat × Nat × List (Int × Int × Int × Int × Int × Int × Int × Int × Int))) (x : (Bool × Int)) : Prop := (0 : Int) ≤ x.2 ∧ k.2.1 = ((k.1).length : Int)
def mu12_7 (k : ((List (Int × Int × Int × Int × Int × Int × Int × Int × Int)) × Int × Int × Int × Int × Int × Nat × Nat × Nat × List (Int × Int × Int × Int × Int × Int × Int × Int × Int))) (x : (Bool × Int)) : Nat := (k.2.1 - x.2).toNat
def st12_7 (k : ((List (Int × Int × Int × Int × Int × Int × Int × Int × Int)) × Int × Int × Int × Int × Int × Nat × Nat × Nat × List (Int × Int × Int × Int × Int × Int × Int × Int × Int))) (x : (Bool × Int)) : BOut ((List (Int × Int × Int × Int × Int × Int × Int × Int × Int)) × Int × Int × Int × Int × Int × Nat × Nat × Nat × List (Int × Int × Int × Int × Int × Int × Int × Int × Int)) (Bool × Int) (Int) :=
  bif (decide (x.2 < k.2.1)) then
    BOut.next k ((x.1 && (Sp.F40 ((Sp.nthT k.1 x.2), k.2.2.1))), (IntKind.i64.wrap (x.2 + (1 : Int))))
  else
    BOut.brk k x
def G12_7 (k : ((List (Int × Int × Int × Int × Int × Int × Int × Int × Int)) × Int × Int × Int × Int × Int × Nat × Nat × Nat × List (Int × Int × Int × Int × Int × Int × Int × Int × Int))) (x : (Bool × Int)) : (Bool × Int) := endOf st12_7 k (Nat.succ (mu12_7 k x)) x
end Go.Proofs.Ytkanaakceokifaa.Sp
namespace Go.Proofs.Ytkanaakceokifaa.Sy
def LS12_7 : LS ty26.den := mkLS (Ty.pair ty23 (Ty.pair ty3 ty25)) (Ty.pair ty4 ty3)  [(28, none), (29, none)] [(1, 8)] [(3, none), (30, none)] [] [] [] [(1, 1)] 0 false Sp.in12_7 Sp.st12_7 Sp.mu12_7
theorem va12_7 (k : (Ty.pair ty23 (Ty.pair ty3 ty25)).den) (x : (Ty.pair ty4 ty3).den) : ((evCode (ctxG GmT1) (lookL []) (bodyAt (bodyOf Try.f12) [0]) (tmpl LS12_7 (enc (Ty.pair ty23 (Ty.pair ty3 ty25)) k) (enc (Ty.pair ty4 ty3) x)) (evRound LS12_7 (evRet (ctxG GmT1) Try.f12 (Rsh.one (none)) none ty26 .ret)))).val BOut.ret (BOut.brk (Ty.dflt (Ty.pair ty23 (Ty.pair ty3 ty25))) (Ty.dflt (Ty.pair ty4 ty3))) = Sp.st12_7 k x := by kernel_rfl
theorem se12_7 (k : (Ty.pair ty23 (Ty.pair ty3 ty25)).den) (x : (Ty.pair ty4 ty3).den) : ((evCode (ctxG GmT1) (lookL []) (bodyAt (bodyOf Try.f12) [0]) (tmpl LS12_7 (enc (Ty.pair ty23 (Ty.pair ty3 ty25)) k) (enc (Ty.pair ty4 ty3) x)) (evRound LS12_7 (evRet (ctxG GmT1) Try.f12 (Rsh.one (none)) none ty26 .ret)))).safe = ((((decide (x.2 < k.2.1)) = true → ((0 ≤ x.2 ∧ x.2 < ((k.1).length : Int)) ∧ True)) ∧ ((decide (x.2 < k.2.1)) = false → True))) := by kernel_rfl
theorem sa12_7 (k : (Ty.pair ty23 (Ty.pair ty3 ty25)).den) (x : (Ty.pair ty4 ty3).den) (fk : Fit (Ty.pair ty23 (Ty.pair ty3 ty25)) k) (fx : Fit (Ty.pair ty4 ty3) x) (h : Sp.in12_7 k x) : SafeW ((evCode (ctxG GmT1) (lookL []) (bodyAt (bodyOf Try.f12) [0]) (tmpl LS12_7 (enc (Ty.pair ty23 (Ty.pair ty3 ty25)) k) (enc (Ty.pair ty4 ty3) x)) (evRound LS12_7 (evRet (ctxG GmT1) Try.f12 (Rsh.one (none)) none ty26 .ret)))) := by
  refine ⟨?_⟩
  rw [se12_7]
  try dsimp only [Ty.den] at *
  simp only [Sp.in12_7, Fit, maxLen] at h fk fx
  simp only [IntKind.wrap_i64, IntKind.wrap_u8, IntKind.wrap_u32, IntKind.wrap_u64, Sp.tmod_ite, Sp.tdiv_ite, setE, copyL, sliceL, zrow, List.length_append, List.length_cons, List.length_nil, List.length_set, List.length_replicate, List.length_take, List.length_drop, decide_eq_true_eq, decide_eq_false_iff_not, Bool.or_eq_true, Bool.and_eq_true, Bool.or_eq_false_iff, Bool.and_eq_false_iff, Bool.not_eq_true', Bool.not_eq_false', Bool.not_eq_true, Bool.not_eq_false, beq_iff_eq, beq_eq_false_iff_ne, bne_iff_ne, ne_eq, implies_true, and_true, true_and] at *
  all_goals ((repeat' (first | exact trivial | apply And.intro | intro _)) <;> first | trivial | omega)
theorem so12_7 (k : (Ty.pair ty23 (Ty.pair ty3 ty25)).den) (x : (Ty.pair ty4 ty3).den) (fk : Fit (Ty.pair ty23 (Ty.pair ty3 ty25)) k) (h : Sp.in12_7 k x) : StepOk false Sp.in12_7 Sp.mu12_7 k x (Sp.st12_7 k x) := by
  try dsimp only [Ty.den] at *
  simp only [Sp.in12_7, Fit, maxLen] at h fk
  simp only [Sp.st12_7, Sp.optR, Bool.cond_eq_ite]
  (repeat' split) <;> (first | exact rfl | (refine ⟨rfl, ?_, ?_⟩ <;> simp only [Sp.in12_7, Sp.mu12_7, IntKind.wrap_i64, IntKind.wrap_u8, IntKind.wrap_u32, IntKind.wrap_u64, Sp.tmod_ite, Sp.tdiv_ite, setE, copyL, sliceL, zrow, List.length_append, List.length_cons, List.length_nil, List.length_set, List.length_replicate, List.length_take, List.length_drop, decide_eq_true_eq, decide_eq_false_iff_not, Bool.or_eq_true, Bool.and_eq_true, Bool.or_eq_false_iff, Bool.and_eq_false_iff, Bool.not_eq_true', Bool.not_eq_false', Bool.not_eq_true, Bool.not_eq_false, beq_iff_eq, beq_eq_false_iff_ne, bne_iff_ne, ne_eq] at * <;> omega))
theorem lo12_7 : LoopOk Try.prog gdS (RetAt Try.prog Try.f12 (Rsh.one (none)) none ty26) (bodyAt (bodyOf Try.f12) [0]) LS12_7 :=
  loop_run (ctxOkF gokGmT1 []) (L := lookL []) (loops_of (l := []) (by kernel_rfl) (loops_nil)) sa12_7 va12_7 so12_7
end Go.Proofs.Ytkanaakceokifaa.Sy
namespace Go.Proofs.Ytkanaakceokifaa.Sp
open Go Go.RowKit Sy
def F12 (x : Int × Int × Int × Int × Nat × Nat × Nat × List (Int × Int × Int × Int × Int × Int × Int × Int × Int)) : Int :=
  bif (!(Sp.F39 ((2 : Int), (32 : Int), [x.1]))) then
    (10 : Int)
  else
    bif (!(Sp.F39 ((1 : Int), (8 : Int), [((x.2.2.2.2.2.2.2).length : Int)]))) then
      (11 : Int)
    else
      bif (!((Sp.G12_7 (x.2.2.2.2.2.2.2, ((x.2.2.2.2.2.2.2).length : Int), x) (((Sp.F39 ((1 : Int), (16 : Int), [x.2.1])) && (Sp.F39 ((1 : Int), (10000 : Int), [x.2.2.2.1]))), (0 : Int))).1)) then
        (12 : Int)
      else
        bif (!(Sp.F41 x)) then
          (13 : Int)
        else
          bif (!(Sp.F39 ((IntKind.i64.wrap ((IntKind.i64.wrap ((18 : Int) * ((x.2.2.2.2.2.2.2).length : Int))) + (24 : Int))), (65536 : Int), [x.2.2.1]))) then
            (14 : Int)
          else
            (0 : Int)
end Go.Proofs.Ytkanaakceokifaa.Sp
namespace Go.Proofs.Ytkanaakceokifaa.Sy
def ct12 : Ct := { p := ty25, psh := [some 8], r := ty26, rsh := (Rsh.one (none)), pre := none, fresh := none, F := Sp.F12 }
theorem va12 (x : ty25.den) : ((evFn (ctxG GmT1) Try.f12 ty25 [some 8] (Rsh.one (none)) none ty26 (lookL [(7, LS12_7)]) x)).val (fun y => y) (Ty.dflt ty26) = Sp.F12 x := by kernel_rfl
theorem se12 (x : ty25.den) : ((evFn (ctxG GmT1) Try.f12 ty25 [some 8] (Rsh.one (none)) none ty26 (lookL [(7, LS12_7)]) x)).safe = ((((!(Sp.F39 ((2 : Int), (32 : Int), [x.1]))) = true → True) ∧ ((!(Sp.F39 ((2 : Int), (32 : Int), [x.1]))) = false → (((!(Sp.F39 ((1 : Int), (8 : Int), [((x.2.2.2.2.2.2.2).length : Int)]))) = true → True) ∧ ((!(Sp.F39 ((1 : Int), (8 : Int), [((x.2.2.2.2.2.2.2).length : Int)]))) = false → ((Sp.in12_7 (x.2.2.2.2.2.2.2, ((x.2.2.2.2.2.2.2).length : Int), x) (((Sp.F39 ((1 : Int), (16 : Int), [x.2.1])) && (Sp.F39 ((1 : Int), (10000 : Int), [x.2.2.2.1]))), (0 : Int))) ∧ (((!((Sp.G12_7 (x.2.2.2.2.2.2.2, ((x.2.2.2.2.2.2.2).length : Int), x) (((Sp.F39 ((1 : Int), (16 : Int), [x.2.1])) && (Sp.F39 ((1 : Int), (10000 : Int), [x.2.2.2.1]))), (0 : Int))).1)) = true → True) ∧ ((!((Sp.G12_7 (x.2.2.2.2.2.2.2, ((x.2.2.2.2.2.2.2).length : Int), x) (((Sp.F39 ((1 : Int), (16 : Int), [x.2.1])) && (Sp.F39 ((1 : Int), (10000 : Int), [x.2.2.2.1]))), (0 : Int))).1)) = false → (((!(Sp.F41 x)) = true → True) ∧ ((!(Sp.F41 x)) = false → (((!(Sp.F39 ((IntKind.i64.wrap ((IntKind.i64.wrap ((18 : Int) * ((x.2.2.2.2.2.2.2).length : Int))) + (24 : Int))), (65536 : Int), [x.2.2.1]))) = true → True) ∧ ((!(Sp.F39 ((IntKind.i64.wrap ((IntKind.i64.wrap ((18 : Int) * ((x.2.2.2.2.2.2.2).length : Int))) + (24 : Int))), (65536 : Int), [x.2.2.1]))) = false → True)))))))))))) := by kernel_rfl
theorem sa12 (x : ty25.den) (fx : Fit ty25 x) : SafeW ((evFn (ctxG GmT1) Try.f12 ty25 [some 8] (Rsh.one (none)) none ty26 (lookL [(7, LS12_7)]) x)) := by
  refine ⟨?_⟩
  rw [se12]
  try dsimp only [Ty.den] at *
  simp only [Fit, maxLen] at fx
  simp only [Sp.in12_7, IntKind.wrap_i64, IntKind.wrap_u8, IntKind.wrap_u32, IntKind.wrap_u64, Sp.tmod_ite, Sp.tdiv_ite, setE, copyL, sliceL, zrow, List.length_append, List.length_cons, List.length_nil, List.length_set, List.length_replicate, List.length_take, List.length_drop, decide_eq_true_eq, decide_eq_false_iff_not, Bool.or_eq_true, Bool.and_eq_true, Bool.or_eq_false_iff, Bool.and_eq_false_iff, Bool.not_eq_true', Bool.not_eq_false', Bool.not_eq_true, Bool.not_eq_false, beq_iff_eq, beq_eq_false_iff_ne, bne_iff_ne, ne_eq, implies_true, and_true, true_and] at *
  all_goals ((repeat' (first | exact trivial | apply And.intro | intro _)) <;> first | trivial | omega)
theorem ok12 : CtOk Try.prog gdS 12 ct12 :=
  fn_okU (ctxOkF gokGmT1 []) rfl Try.func12 (p := ty25) (psh := [some 8]) (r := ty26) (rsh := (Rsh.one (none))) (pre := none) (fresh := none) (F := Sp.F12) (L := (lookL [(7, LS12_7)])) (c := bodyOf Try.f12) (dflt := Ty.dflt ty26) rfl (loops_of (l := [bodyAt (bodyOf Try.f12) [0]]) (by kernel_rfl) (loops_cons (s0 := LS12_7) (by kernel_rfl) lo12_7 (loops_nil)))
    (safe_no @sa12) va12
/-! overlayref01.Valid -/
end Go.Proofs.Ytkanaakceokifaa.Sy
namespace Go.Proofs.Ytkanaakceokifaa.Sp
open Go Go.RowKit Sy
def in13_7 (k : (Int × Int × Int × Int × Nat × Nat × Nat × List (Int × Int × Int × Int × Int × Int × Int × Int × Int))) (x : (Bool × Int)) : Prop := (0 : Int) ≤ x.2
def mu13_7 (k : (Int × Int × Int × Int × Nat × Nat × Nat × List (Int × Int × Int × Int × Int × Int × Int × Int × Int))) (x : (Bool × Int)) : Nat := (((k.2.2.2.2.2.2.2).length : Int) - x.2).toNat
def st13_7 (k : (Int × Int × Int × Int × Nat × Nat × Nat × List (Int × Int × Int × Int × Int × Int × Int × Int × Int))) (x : (Bool × Int)) : BOut (Int × Int × Int × Int × Nat × Nat × Nat × List (Int × Int × Int × Int × Int × Int × Int × Int × Int)) (Bool × Int) (Int) :=
  bif (decide (x.2 < ((k.2.2.2.2.2.2.2).length : Int))) then
    BOut.next k ((x.1 && (Sp.F43 (k, (Sp.nthT k.2.2.2.2.2.2.2 x.2)))), (IntKind.i64.wrap (x.2 + (1 : Int))))
  else
    BOut.brk k x
def G13_7 (k : (Int × Int × Int × Int × Nat × Nat × Nat × List (Int × Int × Int × Int × Int × Int × Int × Int × Int))) (x : (Bool × Int)) : (Bool × Int) := endOf st13_7 k (Nat.succ (mu13_7 k x)) x
end Go.Proofs.Ytkanaakceokifaa.Sp
namespace Go.Proofs.Ytkanaakceokifaa.Sy
def LS13_7 : LS ty26.den := mkLS ty25 (Ty.pair ty4 ty3)  [] [(1, 8)] [(3, none), (4, none)] [] [] [] [(1, 1)] 0 false Sp.in13_7 Sp.st13_7 Sp.mu13_7
theorem va13_7 (k : ty25.den) (x : (Ty.pair ty4 ty3).den) : ((evCode (ctxG GmT1) (lookL []) (bodyAt (bodyOf Try.f13) [0]) (tmpl LS13_7 (enc ty25 k) (enc (Ty.pair ty4 ty3) x)) (evRound LS13_7 (evRet (ctxG GmT1) Try.f13 (Rsh.one (none)) none ty26 .ret)))).val BOut.ret (BOut.brk (Ty.dflt ty25) (Ty.dflt (Ty.pair ty4 ty3))) = Sp.st13_7 k x := by kernel_rfl
theorem se13_7 (k : ty25.den) (x : (Ty.pair ty4 ty3).den) : ((evCode (ctxG GmT1) (lookL []) (bodyAt (bodyOf Try.f13) [0]) (tmpl LS13_7 (enc ty25 k) (enc (Ty.pair ty4 ty3) x)) (evRound LS13_7 (evRet (ctxG GmT1) Try.f13 (Rsh.one (none)) none ty26 .ret)))).safe = ((((decide (x.2 < ((k.2.2.2.2.2.2.2).length : Int))) = true → (((x.1 = true → 0 ≤ x.2 ∧ x.2 < ((k.2.2.2.2.2.2.2).length : Int))) ∧ True)) ∧ ((decide (x.2 < ((k.2.2.2.2.2.2.2).length : Int))) = false → True))) := by kernel_rfl
theorem sa13_7 (k : ty25.den) (x : (Ty.pair ty4 ty3).den) (fk : Fit ty25 k) (fx : Fit (Ty.pair ty4 ty3) x) (h : Sp.in13_7 k x) : SafeW ((evCode (ctxG GmT1) (lookL []) (bodyAt (bodyOf Try.f13) [0]) (tmpl LS13_7 (enc ty25 k) (enc (Ty.pair ty4 ty3) x)) (evRound LS13_7 (evRet (ctxG GmT1) Try.f13 (Rsh.one (none)) none ty26 .ret)))) := by
  refine ⟨?_⟩
  rw [se13_7]
  try dsimp only [Ty.den] at *
  simp only [Sp.in13_7, Fit, maxLen] at h fk fx
  simp only [IntKind.wrap_i64, IntKind.wrap_u8, IntKind.wrap_u32, IntKind.wrap_u64, Sp.tmod_ite, Sp.tdiv_ite, setE, copyL, sliceL, zrow, List.length_append, List.length_cons, List.length_nil, List.length_set, List.length_replicate, List.length_take, List.length_drop, decide_eq_true_eq, decide_eq_false_iff_not, Bool.or_eq_true, Bool.and_eq_true, Bool.or_eq_false_iff, Bool.and_eq_false_iff, Bool.not_eq_true', Bool.not_eq_false', Bool.not_eq_true, Bool.not_eq_false, beq_iff_eq, beq_eq_false_iff_ne, bne_iff_ne, ne_eq, implies_true, and_true, true_and] at *
  all_goals ((repeat' (first | exact trivial | apply And.intro | intro _)) <;> first | trivial | omega)
theorem so13_7 (k : ty25.den) (x : (Ty.pair ty4 ty3).den) (fk : Fit ty25 k) (h : Sp.in13_7 k x) : StepOk false Sp.in13_7 Sp.mu13_7 k x (Sp.st13_7 k x) := by
  try dsimp only [Ty.den] at *
  simp only [Sp.in13_7, Fit, maxLen] at h fk
  simp only [Sp.st13_7, Sp.optR, Bool.cond_eq_ite]
  (repeat' split) <;> (first | exact rfl | (refine ⟨rfl, ?_, ?_⟩ <;> simp only [Sp.in13_7, Sp.mu13_7, IntKind.wrap_i64, IntKind.wrap_u8, IntKind.wrap_u32, IntKind.wrap_u64, Sp.tmod_ite, Sp.tdiv_ite, setE, copyL, sliceL, zrow, List.length_append, List.length_cons, List.length_nil, List.length_set, List.length_replicate, List.length_take, List.length_drop, decide_eq_true_eq, decide_eq_false_iff_not, Bool.or_eq_true, Bool.and_eq_true, Bool.or_eq_false_iff, Bool.and_eq_false_iff, Bool.not_eq_true', Bool.not_eq_false', Bool.not_eq_true, Bool.not_eq_false, beq_iff_eq, beq_eq_false_iff_ne, bne_iff_ne, ne_eq] at * <;> omega))
theorem lo13_7 : LoopOk Try.prog gdS (RetAt Try.prog Try.f13 (Rsh.one (none)) none ty26) (bodyAt (bodyOf Try.f13) [0]) LS13_7 :=
  loop_run (ctxOkF gokGmT1 []) (L := lookL []) (loops_of (l := []) (by kernel_rfl) (loops_nil)) sa13_7 va13_7 so13_7
end Go.Proofs.Ytkanaakceokifaa.Sy
namespace Go.Proofs.Ytkanaakceokifaa.Sp
open Go Go.RowKit Sy
def F13 (x : Int × Int × Int × Int × Nat × Nat × Nat × List (Int × Int × Int × Int × Int × Int × Int × Int × Int)) : Int :=
  bif (!(Sp.F42 (x.1, (2 : Int), (32 : Int)))) then
    (10 : Int)
  else
    bif (!(Sp.F42 (((x.2.2.2.2.2.2.2).length : Int), (1 : Int), (8 : Int)))) then
      (11 : Int)
    else
      bif (!((Sp.G13_7 x (((Sp.F42 (x.2.1, (1 : Int), (16 : Int))) && (Sp.F42 (x.2.2.2.1, (1 : Int), (10000 : Int)))), (0 : Int))).1)) then
        (12 : Int)
      else
        bif (!(((((FloatKind.f64.format.order (0 : Nat) x.2.2.2.2.1) == some Ordering.lt) && ((FloatKind.f64.format.order x.2.2.2.2.1 x.2.2.2.2.2.1) == some Ordering.lt)) && ((FloatKind.f64.format.order x.2.2.2.2.2.1 x.2.2.2.2.2.2.1) == some Ordering.lt)) && ((FloatKind.f64.format.order x.2.2.2.2.2.2.1 (9218868437227405311 : Nat)) == some Ordering.lt || (FloatKind.f64.format.order x.2.2.2.2.2.2.1 (9218868437227405311 : Nat)) == some Ordering.eq))) then
          (13 : Int)
        else
          bif (!(Sp.F42 (x.2.2.1, (IntKind.i64.wrap ((IntKind.i64.wrap ((18 : Int) * ((x.2.2.2.2.2.2.2).length : Int))) + (24 : Int))), (65536 : Int)))) then
            (14 : Int)
          else
            (0 : Int)
end Go.Proofs.Ytkanaakceokifaa.Sp
namespace Go.Proofs.Ytkanaakceokifaa.Sy
def ct13 : Ct := { p := ty25, psh := [some 8], r := ty26, rsh := (Rsh.one (none)), pre := none, fresh := none, F := Sp.F13 }
theorem va13 (x : ty25.den) : ((evFn (ctxG GmT1) Try.f13 ty25 [some 8] (Rsh.one (none)) none ty26 (lookL [(7, LS13_7)]) x)).val (fun y => y) (Ty.dflt ty26) = Sp.F13 x := by kernel_rfl
theorem se13 (x : ty25.den) : ((evFn (ctxG GmT1) Try.f13 ty25 [some 8] (Rsh.one (none)) none ty26 (lookL [(7, LS13_7)]) x)).safe = ((((!(Sp.F42 (x.1, (2 : Int), (32 : Int)))) = true → True) ∧ ((!(Sp.F42 (x.1, (2 : Int), (32 : Int)))) = false → (((!(Sp.F42 (((x.2.2.2.2.2.2.2).length : Int), (1 : Int), (8 : Int)))) = true → True) ∧ ((!(Sp.F42 (((x.2.2.2.2.2.2.2).length : Int), (1 : Int), (8 : Int)))) = false → ((Sp.in13_7 x (((Sp.F42 (x.2.1, (1 : Int), (16 : Int))) && (Sp.F42 (x.2.2.2.1, (1 : Int), (10000 : Int)))), (0 : Int))) ∧ (((!((Sp.G13_7 x (((Sp.F42 (x.2.1, (1 : Int), (16 : Int))) && (Sp.F42 (x.2.2.2.1, (1 : Int), (10000 : Int)))), (0 : Int))).1)) = true → True) ∧ ((!((Sp.G13_7 x (((Sp.F42 (x.2.1, (1 : Int), (16 : Int))) && (Sp.F42 (x.2.2.2.1, (1 : Int), (10000 : Int)))), (0 : Int))).1)) = false → (((!(((((FloatKind.f64.format.order (0 : Nat) x.2.2.2.2.1) == some Ordering.lt) && ((FloatKind.f64.format.order x.2.2.2.2.1 x.2.2.2.2.2.1) == some Ordering.lt)) && ((FloatKind.f64.format.order x.2.2.2.2.2.1 x.2.2.2.2.2.2.1) == some Ordering.lt)) && ((FloatKind.f64.format.order x.2.2.2.2.2.2.1 (9218868437227405311 : Nat)) == some Ordering.lt || (FloatKind.f64.format.order x.2.2.2.2.2.2.1 (9218868437227405311 : Nat)) == some Ordering.eq))) = true → True) ∧ ((!(((((FloatKind.f64.format.order (0 : Nat) x.2.2.2.2.1) == some Ordering.lt) && ((FloatKind.f64.format.order x.2.2.2.2.1 x.2.2.2.2.2.1) == some Ordering.lt)) && ((FloatKind.f64.format.order x.2.2.2.2.2.1 x.2.2.2.2.2.2.1) == some Ordering.lt)) && ((FloatKind.f64.format.order x.2.2.2.2.2.2.1 (9218868437227405311 : Nat)) == some Ordering.lt || (FloatKind.f64.format.order x.2.2.2.2.2.2.1 (9218868437227405311 : Nat)) == some Ordering.eq))) = false → (((!(Sp.F42 (x.2.2.1, (IntKind.i64.wrap ((IntKind.i64.wrap ((18 : Int) * ((x.2.2.2.2.2.2.2).length : Int))) + (24 : Int))), (65536 : Int)))) = true → True) ∧ ((!(Sp.F42 (x.2.2.1, (IntKind.i64.wrap ((IntKind.i64.wrap ((18 : Int) * ((x.2.2.2.2.2.2.2).length : Int))) + (24 : Int))), (65536 : Int)))) = false → True)))))))))))) := by kernel_rfl
theorem sa13 (x : ty25.den) (fx : Fit ty25 x) : SafeW ((evFn (ctxG GmT1) Try.f13 ty25 [some 8] (Rsh.one (none)) none ty26 (lookL [(7, LS13_7)]) x)) := by
  refine ⟨?_⟩
  rw [se13]
  try dsimp only [Ty.den] at *
  simp only [Fit, maxLen] at fx
  simp only [Sp.in13_7, IntKind.wrap_i64, IntKind.wrap_u8, IntKind.wrap_u32, IntKind.wrap_u64, Sp.tmod_ite, Sp.tdiv_ite, setE, copyL, sliceL, zrow, List.length_append, List.length_cons, List.length_nil, List.length_set, List.length_replicate, List.length_take, List.length_drop, decide_eq_true_eq, decide_eq_false_iff_not, Bool.or_eq_true, Bool.and_eq_true, Bool.or_eq_false_iff, Bool.and_eq_false_iff, Bool.not_eq_true', Bool.not_eq_false', Bool.not_eq_true, Bool.not_eq_false, beq_iff_eq, beq_eq_false_iff_ne, bne_iff_ne, ne_eq, implies_true, and_true, true_and] at *
  all_goals ((repeat' (first | exact trivial | apply And.intro | intro _)) <;> first | trivial | omega)
theorem ok13 : CtOk Try.prog gdS 13 ct13 :=
  fn_okU (ctxOkF gokGmT1 []) rfl Try.func13 (p := ty25) (psh := [some 8]) (r := ty26) (rsh := (Rsh.one (none))) (pre := none) (fresh := none) (F := Sp.F13) (L := (lookL [(7, LS13_7)])) (c := bodyOf Try.f13) (dflt := Ty.dflt ty26) rfl (loops_of (l := [bodyAt (bodyOf Try.f13) [0]]) (by kernel_rfl) (loops_cons (s0 := LS13_7) (by kernel_rfl) lo13_7 (loops_nil)))
    (safe_no @sa13) va13
def GmT2 : List (Nat × Ct) := (12, ct12) :: (13, ct13) :: GmT1
theorem gokGmT2 : GOk GmT2 := gok_cons ok12 ⟨_, Try.func12, by kernel_rfl, by kernel_rfl⟩ (gok_cons ok13 ⟨_, Try.func13, by kernel_rfl, by kernel_rfl⟩ (gokGmT1))
end Go.Proofs.Ytkanaakceokifaa.Sy
