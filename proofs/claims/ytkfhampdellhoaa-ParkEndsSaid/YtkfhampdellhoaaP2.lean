/- Contracts of functions, by the evaluator (own program gen.py): overlaylaw14.ParkMoves, overlaylaw14.ParkEnds. -/
import Derived.Test.YtkfhampdellhoaaP1
set_option linter.unusedVariables false
set_option linter.unusedSimpArgs false
set_option maxRecDepth 100000
namespace Go.Proofs.Ytkfhampdellhoaa.Sy
open Go Go.RowKit Sp
/-! overlaylaw14.ParkMoves -/
end Go.Proofs.Ytkfhampdellhoaa.Sy
namespace Go.Proofs.Ytkfhampdellhoaa.Sp
open Go Go.RowKit Sy
def in7_11 (k : (Int × Int × (List Int) × Int × Int × Int × Int × Int × Nat × Nat × Nat × List (Int × Int × Int × Int × Int × Int × Int × Int × Int))) (x : (Int)) : Prop := (0 : Int) ≤ x ∧ k.2.2.2.1 = ((k.2.2.1).length : Int)
def mu7_11 (k : (Int × Int × (List Int) × Int × Int × Int × Int × Int × Nat × Nat × Nat × List (Int × Int × Int × Int × Int × Int × Int × Int × Int))) (x : (Int)) : Nat := (k.2.2.2.1 - x).toNat
def st7_11 (k : (Int × Int × (List Int) × Int × Int × Int × Int × Int × Nat × Nat × Nat × List (Int × Int × Int × Int × Int × Int × Int × Int × Int))) (x : (Int)) : BOut (Int × Int × (List Int) × Int × Int × Int × Int × Int × Nat × Nat × Nat × List (Int × Int × Int × Int × Int × Int × Int × Int × Int)) (Int) (Bool) :=
  bif (decide (x < k.2.2.2.1)) then
    (bif ((Sp.F17 (k.2.2.2.2, k.1, (Sp.nthT k.2.2.1 x), k.2.1)) != (Sp.F18 (k.2.2.2.2, k.1, (Sp.nthT k.2.2.1 x), k.2.1))) then
      BOut.ret false
    else
      BOut.next k (IntKind.i64.wrap (x + (1 : Int))))
  else
    BOut.brk k x
def G7_11 (k : (Int × Int × (List Int) × Int × Int × Int × Int × Int × Nat × Nat × Nat × List (Int × Int × Int × Int × Int × Int × Int × Int × Int))) (x : (Int)) : (Int) := endOf st7_11 k (Nat.succ (mu7_11 k x)) x
def R7_11 (k : (Int × Int × (List Int) × Int × Int × Int × Int × Int × Nat × Nat × Nat × List (Int × Int × Int × Int × Int × Int × Int × Int × Int))) (x : (Int)) : Option (Bool) := retOf st7_11 k (Nat.succ (mu7_11 k x)) x
end Go.Proofs.Ytkfhampdellhoaa.Sp
namespace Go.Proofs.Ytkfhampdellhoaa.Sy
def LS7_11 : LS ty4.den := mkLS (Ty.pair ty3 (Ty.pair ty3 (Ty.pair ty49 (Ty.pair ty3 ty46)))) ty3  [(8, none), (9, none), (39, none), (40, none)] [(7, 8)] [(41, none)] [] [] [] [(7, 7)] 4 true Sp.in7_11 Sp.st7_11 Sp.mu7_11
end Go.Proofs.Ytkfhampdellhoaa.Sy
namespace Go.Proofs.Ytkfhampdellhoaa.Sp
open Go Go.RowKit Sy
def in7_8 (k : (Int × (Int × Int × Int) × Int × Int × Int × Int × Nat × Nat × Nat × List (Int × Int × Int × Int × Int × Int × Int × Int × Int))) (x : (Int)) : Prop := (-1 : Int) ≤ x ∧ k.2.2.1 ≤ 32
def mu7_8 (k : (Int × (Int × Int × Int) × Int × Int × Int × Int × Nat × Nat × Nat × List (Int × Int × Int × Int × Int × Int × Int × Int × Int))) (x : (Int)) : Nat := (k.2.2.1 - x + 1).toNat
def st7_8 (k : (Int × (Int × Int × Int) × Int × Int × Int × Int × Nat × Nat × Nat × List (Int × Int × Int × Int × Int × Int × Int × Int × Int))) (x : (Int)) : BOut (Int × (Int × Int × Int) × Int × Int × Int × Int × Nat × Nat × Nat × List (Int × Int × Int × Int × Int × Int × Int × Int × Int)) (Int) (Bool) :=
  bif (decide (x ≤ k.2.2.1)) then
    (Sp.optR (Sp.R7_11 (k.1, x, [(0 : Int), (IntKind.i64.wrap (k.2.2.2.2.2.1 - (1 : Int))), k.2.2.2.2.2.1, k.2.1.2.1], (([(0 : Int), (IntKind.i64.wrap (k.2.2.2.2.2.1 - (1 : Int))), k.2.2.2.2.2.1, k.2.1.2.1]).length : Int), k.2.2) (0 : Int)) BOut.ret
    (BOut.next k (IntKind.i64.wrap (x + (1 : Int)))))
  else
    BOut.brk k x
def G7_8 (k : (Int × (Int × Int × Int) × Int × Int × Int × Int × Nat × Nat × Nat × List (Int × Int × Int × Int × Int × Int × Int × Int × Int))) (x : (Int)) : (Int) := endOf st7_8 k (Nat.succ (mu7_8 k x)) x
def R7_8 (k : (Int × (Int × Int × Int) × Int × Int × Int × Int × Nat × Nat × Nat × List (Int × Int × Int × Int × Int × Int × Int × Int × Int))) (x : (Int)) : Option (Bool) := retOf st7_8 k (Nat.succ (mu7_8 k x)) x
end Go.Proofs.Ytkfhampdellhoaa.Sp
namespace Go.Proofs.Ytkfhampdellhoaa.Sy
def LS7_8 : LS ty4.den := mkLS (Ty.pair ty3 (Ty.pair ty47 ty46)) ty3  [(8, none)] [(5, 3), (7, 8)] [(9, none)] [] [] [] [(5, 5), (7, 7)] 2 true Sp.in7_8 Sp.st7_8 Sp.mu7_8
end Go.Proofs.Ytkfhampdellhoaa.Sy
namespace Go.Proofs.Ytkfhampdellhoaa.Sp
open Go Go.RowKit Sy
def in7_5 (k : ((Int × Int × Int) × Int × Int × Int × Int × Nat × Nat × Nat × List (Int × Int × Int × Int × Int × Int × Int × Int × Int))) (x : (Int)) : Prop := (-1 : Int) ≤ x ∧ (k.2.2.2.2.2.2.2.2.length : Int) ≤ 8 ∧ k.2.1 ≤ 32
def mu7_5 (k : ((Int × Int × Int) × Int × Int × Int × Int × Nat × Nat × Nat × List (Int × Int × Int × Int × Int × Int × Int × Int × Int))) (x : (Int)) : Nat := (((k.2.2.2.2.2.2.2.2).length : Int) - x + 1).toNat
def st7_5 (k : ((Int × Int × Int) × Int × Int × Int × Int × Nat × Nat × Nat × List (Int × Int × Int × Int × Int × Int × Int × Int × Int))) (x : (Int)) : BOut ((Int × Int × Int) × Int × Int × Int × Int × Nat × Nat × Nat × List (Int × Int × Int × Int × Int × Int × Int × Int × Int)) (Int) (Bool) :=
  bif (decide (x ≤ ((k.2.2.2.2.2.2.2.2).length : Int))) then
    (Sp.optR (Sp.R7_8 (x, k) (-1 : Int)) BOut.ret
    (BOut.next k (IntKind.i64.wrap (x + (1 : Int)))))
  else
    BOut.brk k x
def G7_5 (k : ((Int × Int × Int) × Int × Int × Int × Int × Nat × Nat × Nat × List (Int × Int × Int × Int × Int × Int × Int × Int × Int))) (x : (Int)) : (Int) := endOf st7_5 k (Nat.succ (mu7_5 k x)) x
def R7_5 (k : ((Int × Int × Int) × Int × Int × Int × Int × Nat × Nat × Nat × List (Int × Int × Int × Int × Int × Int × Int × Int × Int))) (x : (Int)) : Option (Bool) := retOf st7_5 k (Nat.succ (mu7_5 k x)) x
end Go.Proofs.Ytkfhampdellhoaa.Sp
namespace Go.Proofs.Ytkfhampdellhoaa.Sy
def LS7_5 : LS ty4.den := mkLS (Ty.pair ty47 ty46) ty3  [] [(5, 3), (7, 8)] [(8, none)] [] [] [18] [(5, 5), (7, 7)] 0 true Sp.in7_5 Sp.st7_5 Sp.mu7_5
theorem va7_11 (k : (Ty.pair ty3 (Ty.pair ty3 (Ty.pair ty49 (Ty.pair ty3 ty46)))).den) (x : ty3.den) : ((evCode (ctxG GmP1) (lookL []) (bodyAt (bodyOf Try.f7) [0, 0, 0]) (tmpl LS7_11 (enc (Ty.pair ty3 (Ty.pair ty3 (Ty.pair ty49 (Ty.pair ty3 ty46)))) k) (enc ty3 x)) (evRound LS7_11 (evRet (ctxG GmP1) Try.f7 (Rsh.one (none)) none ty4 .ret)))).val BOut.ret (BOut.brk (Ty.dflt (Ty.pair ty3 (Ty.pair ty3 (Ty.pair ty49 (Ty.pair ty3 ty46))))) (Ty.dflt ty3)) = Sp.st7_11 k x := by kernel_rfl
theorem se7_11 (k : (Ty.pair ty3 (Ty.pair ty3 (Ty.pair ty49 (Ty.pair ty3 ty46)))).den) (x : ty3.den) : ((evCode (ctxG GmP1) (lookL []) (bodyAt (bodyOf Try.f7) [0, 0, 0]) (tmpl LS7_11 (enc (Ty.pair ty3 (Ty.pair ty3 (Ty.pair ty49 (Ty.pair ty3 ty46)))) k) (enc ty3 x)) (evRound LS7_11 (evRet (ctxG GmP1) Try.f7 (Rsh.one (none)) none ty4 .ret)))).safe = ((((decide (x < k.2.2.2.1)) = true → ((0 ≤ x ∧ x < ((k.2.2.1).length : Int)) ∧ ((((Sp.F17 (k.2.2.2.2, k.1, (Sp.nthT k.2.2.1 x), k.2.1)) != (Sp.F18 (k.2.2.2.2, k.1, (Sp.nthT k.2.2.1 x), k.2.1))) = true → True) ∧ (((Sp.F17 (k.2.2.2.2, k.1, (Sp.nthT k.2.2.1 x), k.2.1)) != (Sp.F18 (k.2.2.2.2, k.1, (Sp.nthT k.2.2.1 x), k.2.1))) = false → True)))) ∧ ((decide (x < k.2.2.2.1)) = false → True))) := by kernel_rfl
theorem sa7_11 (k : (Ty.pair ty3 (Ty.pair ty3 (Ty.pair ty49 (Ty.pair ty3 ty46)))).den) (x : ty3.den) (fk : Fit (Ty.pair ty3 (Ty.pair ty3 (Ty.pair ty49 (Ty.pair ty3 ty46)))) k) (fx : Fit ty3 x) (h : Sp.in7_11 k x) : SafeW ((evCode (ctxG GmP1) (lookL []) (bodyAt (bodyOf Try.f7) [0, 0, 0]) (tmpl LS7_11 (enc (Ty.pair ty3 (Ty.pair ty3 (Ty.pair ty49 (Ty.pair ty3 ty46)))) k) (enc ty3 x)) (evRound LS7_11 (evRet (ctxG GmP1) Try.f7 (Rsh.one (none)) none ty4 .ret)))) := by
  refine ⟨?_⟩
  rw [se7_11]
  try dsimp only [Ty.den] at *
  simp only [Sp.in7_11, Fit, maxLen] at h fk fx
  simp only [IntKind.wrap_i64, IntKind.wrap_u8, IntKind.wrap_u32, IntKind.wrap_u64, Sp.tmod_ite, Sp.tdiv_ite, setE, copyL, sliceL, zrow, List.length_append, List.length_cons, List.length_nil, List.length_set, List.length_replicate, List.length_take, List.length_drop, decide_eq_true_eq, decide_eq_false_iff_not, Bool.or_eq_true, Bool.and_eq_true, Bool.or_eq_false_iff, Bool.and_eq_false_iff, Bool.not_eq_true', Bool.not_eq_false', Bool.not_eq_true, Bool.not_eq_false, beq_iff_eq, beq_eq_false_iff_ne, bne_iff_ne, ne_eq, implies_true, and_true, true_and] at *
  all_goals ((repeat' (first | exact trivial | apply And.intro | intro _)) <;> first | trivial | omega)
theorem so7_11 (k : (Ty.pair ty3 (Ty.pair ty3 (Ty.pair ty49 (Ty.pair ty3 ty46)))).den) (x : ty3.den) (fk : Fit (Ty.pair ty3 (Ty.pair ty3 (Ty.pair ty49 (Ty.pair ty3 ty46)))) k) (h : Sp.in7_11 k x) : StepOk true Sp.in7_11 Sp.mu7_11 k x (Sp.st7_11 k x) := by
  try dsimp only [Ty.den] at *
  simp only [Sp.in7_11, Fit, maxLen] at h fk
  simp only [Sp.st7_11, Sp.optR, Bool.cond_eq_ite]
  (repeat' split) <;> (first | exact rfl | (refine ⟨rfl, ?_, ?_⟩ <;> simp only [Sp.in7_11, Sp.mu7_11, IntKind.wrap_i64, IntKind.wrap_u8, IntKind.wrap_u32, IntKind.wrap_u64, Sp.tmod_ite, Sp.tdiv_ite, setE, copyL, sliceL, zrow, List.length_append, List.length_cons, List.length_nil, List.length_set, List.length_replicate, List.length_take, List.length_drop, decide_eq_true_eq, decide_eq_false_iff_not, Bool.or_eq_true, Bool.and_eq_true, Bool.or_eq_false_iff, Bool.and_eq_false_iff, Bool.not_eq_true', Bool.not_eq_false', Bool.not_eq_true, Bool.not_eq_false, beq_iff_eq, beq_eq_false_iff_ne, bne_iff_ne, ne_eq] at * <;> omega))
theorem lo7_11 : LoopOk Try.prog gdS (RetAt Try.prog Try.f7 (Rsh.one (none)) none ty4) (bodyAt (bodyOf Try.f7) [0, 0, 0]) LS7_11 :=
  loop_run (ctxOkF gokGmP1 []) (L := lookL []) (loops_of (l := []) (by kernel_rfl) (loops_nil)) sa7_11 va7_11 so7_11
theorem va7_8 (k : (Ty.pair ty3 (Ty.pair ty47 ty46)).den) (x : ty3.den) : ((evCode (ctxG GmP1) (lookL [(11, LS7_11)]) (bodyAt (bodyOf Try.f7) [0, 0]) (tmpl LS7_8 (enc (Ty.pair ty3 (Ty.pair ty47 ty46)) k) (enc ty3 x)) (evRound LS7_8 (evRet (ctxG GmP1) Try.f7 (Rsh.one (none)) none ty4 .ret)))).val BOut.ret (BOut.brk (Ty.dflt (Ty.pair ty3 (Ty.pair ty47 ty46))) (Ty.dflt ty3)) = Sp.st7_8 k x := by kernel_rfl
theorem se7_8 (k : (Ty.pair ty3 (Ty.pair ty47 ty46)).den) (x : ty3.den) : ((evCode (ctxG GmP1) (lookL [(11, LS7_11)]) (bodyAt (bodyOf Try.f7) [0, 0]) (tmpl LS7_8 (enc (Ty.pair ty3 (Ty.pair ty47 ty46)) k) (enc ty3 x)) (evRound LS7_8 (evRet (ctxG GmP1) Try.f7 (Rsh.one (none)) none ty4 .ret)))).safe = ((((decide (x ≤ k.2.2.1)) = true → ((Sp.in7_11 (k.1, x, [(0 : Int), (IntKind.i64.wrap (k.2.2.2.2.2.1 - (1 : Int))), k.2.2.2.2.2.1, k.2.1.2.1], (([(0 : Int), (IntKind.i64.wrap (k.2.2.2.2.2.1 - (1 : Int))), k.2.2.2.2.2.1, k.2.1.2.1]).length : Int), k.2.2) (0 : Int)) ∧ ((Sp.R7_11 (k.1, x, [(0 : Int), (IntKind.i64.wrap (k.2.2.2.2.2.1 - (1 : Int))), k.2.2.2.2.2.1, k.2.1.2.1], (([(0 : Int), (IntKind.i64.wrap (k.2.2.2.2.2.1 - (1 : Int))), k.2.2.2.2.2.1, k.2.1.2.1]).length : Int), k.2.2) (0 : Int)) = none → True))) ∧ ((decide (x ≤ k.2.2.1)) = false → True))) := by kernel_rfl
theorem sa7_8 (k : (Ty.pair ty3 (Ty.pair ty47 ty46)).den) (x : ty3.den) (fk : Fit (Ty.pair ty3 (Ty.pair ty47 ty46)) k) (fx : Fit ty3 x) (h : Sp.in7_8 k x) : SafeW ((evCode (ctxG GmP1) (lookL [(11, LS7_11)]) (bodyAt (bodyOf Try.f7) [0, 0]) (tmpl LS7_8 (enc (Ty.pair ty3 (Ty.pair ty47 ty46)) k) (enc ty3 x)) (evRound LS7_8 (evRet (ctxG GmP1) Try.f7 (Rsh.one (none)) none ty4 .ret)))) := by
  refine ⟨?_⟩
  rw [se7_8]
  try dsimp only [Ty.den] at *
  simp only [Sp.in7_8, Fit, maxLen] at h fk fx
  simp only [Sp.in7_11, IntKind.wrap_i64, IntKind.wrap_u8, IntKind.wrap_u32, IntKind.wrap_u64, Sp.tmod_ite, Sp.tdiv_ite, setE, copyL, sliceL, zrow, List.length_append, List.length_cons, List.length_nil, List.length_set, List.length_replicate, List.length_take, List.length_drop, decide_eq_true_eq, decide_eq_false_iff_not, Bool.or_eq_true, Bool.and_eq_true, Bool.or_eq_false_iff, Bool.and_eq_false_iff, Bool.not_eq_true', Bool.not_eq_false', Bool.not_eq_true, Bool.not_eq_false, beq_iff_eq, beq_eq_false_iff_ne, bne_iff_ne, ne_eq, implies_true, and_true, true_and] at *
  all_goals ((repeat' (first | exact trivial | apply And.intro | intro _)) <;> first | trivial | omega)
theorem so7_8 (k : (Ty.pair ty3 (Ty.pair ty47 ty46)).den) (x : ty3.den) (fk : Fit (Ty.pair ty3 (Ty.pair ty47 ty46)) k) (h : Sp.in7_8 k x) : StepOk true Sp.in7_8 Sp.mu7_8 k x (Sp.st7_8 k x) := by
  try dsimp only [Ty.den] at *
  simp only [Sp.in7_8, Fit, maxLen] at h fk
  simp only [Sp.st7_8, Sp.optR, Bool.cond_eq_ite]
  (repeat' split) <;> (first | exact rfl | (refine ⟨rfl, ?_, ?_⟩ <;> simp only [Sp.in7_8, Sp.mu7_8, IntKind.wrap_i64, IntKind.wrap_u8, IntKind.wrap_u32, IntKind.wrap_u64, Sp.tmod_ite, Sp.tdiv_ite, setE, copyL, sliceL, zrow, List.length_append, List.length_cons, List.length_nil, List.length_set, List.length_replicate, List.length_take, List.length_drop, decide_eq_true_eq, decide_eq_false_iff_not, Bool.or_eq_true, Bool.and_eq_true, Bool.or_eq_false_iff, Bool.and_eq_false_iff, Bool.not_eq_true', Bool.not_eq_false', Bool.not_eq_true, Bool.not_eq_false, beq_iff_eq, beq_eq_false_iff_ne, bne_iff_ne, ne_eq] at * <;> omega))
theorem lo7_8 : LoopOk Try.prog gdS (RetAt Try.prog Try.f7 (Rsh.one (none)) none ty4) (bodyAt (bodyOf Try.f7) [0, 0]) LS7_8 :=
  loop_run (ctxOkF gokGmP1 []) (L := lookL [(11, LS7_11)]) (loops_of (l := [bodyAt (bodyOf Try.f7) [0, 0, 0]]) (by kernel_rfl) (loops_cons (s0 := LS7_11) (by kernel_rfl) lo7_11 (loops_nil))) sa7_8 va7_8 so7_8
theorem va7_5 (k : (Ty.pair ty47 ty46).den) (x : ty3.den) : ((evCode (ctxG GmP1) (lookL [(11, LS7_11), (8, LS7_8)]) (bodyAt (bodyOf Try.f7) [0]) (tmpl LS7_5 (enc (Ty.pair ty47 ty46) k) (enc ty3 x)) (evRound LS7_5 (evRet (ctxG GmP1) Try.f7 (Rsh.one (none)) none ty4 .ret)))).val BOut.ret (BOut.brk (Ty.dflt (Ty.pair ty47 ty46)) (Ty.dflt ty3)) = Sp.st7_5 k x := by kernel_rfl
theorem se7_5 (k : (Ty.pair ty47 ty46).den) (x : ty3.den) : ((evCode (ctxG GmP1) (lookL [(11, LS7_11), (8, LS7_8)]) (bodyAt (bodyOf Try.f7) [0]) (tmpl LS7_5 (enc (Ty.pair ty47 ty46) k) (enc ty3 x)) (evRound LS7_5 (evRet (ctxG GmP1) Try.f7 (Rsh.one (none)) none ty4 .ret)))).safe = ((((decide (x ≤ ((k.2.2.2.2.2.2.2.2).length : Int))) = true → ((Sp.in7_8 (x, k) (-1 : Int)) ∧ ((Sp.R7_8 (x, k) (-1 : Int)) = none → True))) ∧ ((decide (x ≤ ((k.2.2.2.2.2.2.2.2).length : Int))) = false → True))) := by kernel_rfl
theorem sa7_5 (k : (Ty.pair ty47 ty46).den) (x : ty3.den) (fk : Fit (Ty.pair ty47 ty46) k) (fx : Fit ty3 x) (h : Sp.in7_5 k x) : SafeW ((evCode (ctxG GmP1) (lookL [(11, LS7_11), (8, LS7_8)]) (bodyAt (bodyOf Try.f7) [0]) (tmpl LS7_5 (enc (Ty.pair ty47 ty46) k) (enc ty3 x)) (evRound LS7_5 (evRet (ctxG GmP1) Try.f7 (Rsh.one (none)) none ty4 .ret)))) := by
  refine ⟨?_⟩
  rw [se7_5]
  try dsimp only [Ty.den] at *
  simp only [Sp.in7_5, Fit, maxLen] at h fk fx
  simp only [Sp.in7_8, IntKind.wrap_i64, IntKind.wrap_u8, IntKind.wrap_u32, IntKind.wrap_u64, Sp.tmod_ite, Sp.tdiv_ite, setE, copyL, sliceL, zrow, List.length_append, List.length_cons, List.length_nil, List.length_set, List.length_replicate, List.length_take, List.length_drop, decide_eq_true_eq, decide_eq_false_iff_not, Bool.or_eq_true, Bool.and_eq_true, Bool.or_eq_false_iff, Bool.and_eq_false_iff, Bool.not_eq_true', Bool.not_eq_false', Bool.not_eq_true, Bool.not_eq_false, beq_iff_eq, beq_eq_false_iff_ne, bne_iff_ne, ne_eq, implies_true, and_true, true_and] at *
  all_goals ((repeat' (first | exact trivial | apply And.intro | intro _)) <;> first | trivial | omega)
theorem so7_5 (k : (Ty.pair ty47 ty46).den) (x : ty3.den) (fk : Fit (Ty.pair ty47 ty46) k) (h : Sp.in7_5 k x) : StepOk true Sp.in7_5 Sp.mu7_5 k x (Sp.st7_5 k x) := by
  try dsimp only [Ty.den] at *
  simp only [Sp.in7_5, Fit, maxLen] at h fk
  simp only [Sp.st7_5, Sp.optR, Bool.cond_eq_ite]
  (repeat' split) <;> (first | exact rfl | (refine ⟨rfl, ?_, ?_⟩ <;> simp only [Sp.in7_5, Sp.mu7_5, IntKind.wrap_i64, IntKind.wrap_u8, IntKind.wrap_u32, IntKind.wrap_u64, Sp.tmod_ite, Sp.tdiv_ite, setE, copyL, sliceL, zrow, List.length_append, List.length_cons, List.length_nil, List.length_set, List.length_replicate, List.length_take, List.length_drop, decide_eq_true_eq, decide_eq_false_iff_not, Bool.or_eq_true, Bool.and_eq_true, Bool.or_eq_false_iff, Bool.and_eq_false_iff, Bool.not_eq_true', Bool.not_eq_false', Bool.not_eq_true, Bool.not_eq_false, beq_iff_eq, beq_eq_false_iff_ne, bne_iff_ne, ne_eq] at * <;> omega))
theorem lo7_5 : LoopOk Try.prog gdS (RetAt Try.prog Try.f7 (Rsh.one (none)) none ty4) (bodyAt (bodyOf Try.f7) [0]) LS7_5 :=
  loop_run (ctxOkF gokGmP1 []) (L := lookL [(11, LS7_11), (8, LS7_8)]) (loops_of (l := [bodyAt (bodyOf Try.f7) [0, 0]]) (by kernel_rfl) (loops_cons (s0 := LS7_8) (by kernel_rfl) lo7_8 (loops_nil))) sa7_5 va7_5 so7_5
end Go.Proofs.Ytkfhampdellhoaa.Sy
namespace Go.Proofs.Ytkfhampdellhoaa.Sp
open Go Go.RowKit Sy
def F7 (x : Int × (Int × Int × Int × Int × Nat × Nat × Nat × List (Int × Int × Int × Int × Int × Int × Int × Int × Int)) × Int × Int × Int) : Bool :=
  bif (decide (((x.2.1.2.2.2.2.2.2.2).length : Int) > (20 : Int))) then
    (Sp.F15 ())
  else
    Sp.optR (Sp.R7_5 (x.2.2, (Sp.F16 x.1)) (-1 : Int)) (fun y => y)
    (((((Sp.F17 x.2) == (Sp.F18 x.2)) && ((Sp.F17 ((Sp.F16 x.1), x.2.2)) == (Sp.F18 ((Sp.F16 x.1), x.2.2)))) && (Sp.F15 ())))
def pre7 (x : Int × (Int × Int × Int × Int × Nat × Nat × Nat × List (Int × Int × Int × Int × Int × Int × Int × Int × Int)) × Int × Int × Int) : Prop := 0 ≤ x.1 ∧ x.1 ≤ 255
end Go.Proofs.Ytkfhampdellhoaa.Sp
namespace Go.Proofs.Ytkfhampdellhoaa.Sy
def ct7 : Ct := { p := (Ty.pair ty5 (Ty.pair ty46 ty47)), psh := [none, some 8, some 3], r := ty4, rsh := (Rsh.one (none)), pre := some Sp.pre7, fresh := none, F := Sp.F7 }
theorem va7 (x : (Ty.pair ty5 (Ty.pair ty46 ty47)).den) : ((evFn (ctxG GmP1) Try.f7 (Ty.pair ty5 (Ty.pair ty46 ty47)) [none, some 8, some 3] (Rsh.one (none)) none ty4 (lookL [(11, LS7_11), (8, LS7_8), (5, LS7_5)]) x)).val (fun y => y) (Ty.dflt ty4) = Sp.F7 x := by kernel_rfl
theorem se7 (x : (Ty.pair ty5 (Ty.pair ty46 ty47)).den) : ((evFn (ctxG GmP1) Try.f7 (Ty.pair ty5 (Ty.pair ty46 ty47)) [none, some 8, some 3] (Rsh.one (none)) none ty4 (lookL [(11, LS7_11), (8, LS7_8), (5, LS7_5)]) x)).safe = ((((decide (((x.2.1.2.2.2.2.2.2.2).length : Int) > (20 : Int))) = true → True) ∧ ((decide (((x.2.1.2.2.2.2.2.2.2).length : Int) > (20 : Int))) = false → ((Sp.pre16 x.1) ∧ ((Sp.in7_5 (x.2.2, (Sp.F16 x.1)) (-1 : Int)) ∧ ((Sp.R7_5 (x.2.2, (Sp.F16 x.1)) (-1 : Int)) = none → True)))))) := by kernel_rfl
theorem sa7 (x : (Ty.pair ty5 (Ty.pair ty46 ty47)).den) (fx : Fit (Ty.pair ty5 (Ty.pair ty46 ty47)) x) (h : Sp.pre7 x) : SafeW ((evFn (ctxG GmP1) Try.f7 (Ty.pair ty5 (Ty.pair ty46 ty47)) [none, some 8, some 3] (Rsh.one (none)) none ty4 (lookL [(11, LS7_11), (8, LS7_8), (5, LS7_5)]) x)) := by
  refine ⟨?_⟩
  rw [se7]
  try dsimp only [Ty.den] at *
  simp only [Sp.pre7] at h
  have hb := Sp.build_isB h
  have h1 := hb.cn
  have h2 := hb.fl
  simp only [Sp.BldT.cars] at h1
  refine ⟨fun _ => trivial, fun _ => ⟨h, ?_, fun _ => trivial⟩⟩
  refine ⟨by omega, ?_, ?_⟩ <;> (try dsimp only) <;> omega
theorem ok7 : CtOk Try.prog gdS 7 ct7 :=
  fn_okU (ctxOkF gokGmP1 []) rfl Try.func7 (p := (Ty.pair ty5 (Ty.pair ty46 ty47))) (psh := [none, some 8, some 3]) (r := ty4) (rsh := (Rsh.one (none))) (pre := some Sp.pre7) (fresh := none) (F := Sp.F7) (L := (lookL [(11, LS7_11), (8, LS7_8), (5, LS7_5)])) (c := bodyOf Try.f7) (dflt := Ty.dflt ty4) rfl (loops_of (l := [bodyAt (bodyOf Try.f7) [0]]) (by kernel_rfl) (loops_cons (s0 := LS7_5) (by kernel_rfl) lo7_5 (loops_nil)))
    (safe_pre @sa7) va7
/-! overlaylaw14.ParkEnds -/
end Go.Proofs.Ytkfhampdellhoaa.Sy
namespace Go.Proofs.Ytkfhampdellhoaa.Sp
open Go Go.RowKit Sy
def in8_5 (k : (Int × Int × Int × Int × Int × Int × Nat × Nat × Nat × List (Int × Int × Int × Int × Int × Int × Int × Int × Int))) (x : (Int × Int)) : Prop := (0 : Int) ≤ x.2 ∧ k.2.1 ≤ 100 ∧ -100 - x.2 ≤ x.1 ∧ x.1 ≤ 100 + x.2
def mu8_5 (k : (Int × Int × Int × Int × Int × Int × Nat × Nat × Nat × List (Int × Int × Int × Int × Int × Int × Int × Int × Int))) (x : (Int × Int)) : Nat := (k.2.1 - x.2 + 1).toNat
def st8_5 (k : (Int × Int × Int × Int × Int × Int × Nat × Nat × Nat × List (Int × Int × Int × Int × Int × Int × Int × Int × Int))) (x : (Int × Int)) : BOut (Int × Int × Int × Int × Int × Int × Nat × Nat × Nat × List (Int × Int × Int × Int × Int × Int × Int × Int × Int)) (Int × Int) (Bool) :=
  bif (decide (x.2 ≤ k.2.1)) then
    (bif (((Sp.F17 (k.2.2, k.1, k.2.2.2.2.2.1, x.1)) == (0 : Int)) != (x.2 == k.2.1)) then
      BOut.ret false
    else
      bif ((Sp.F17 (k.2.2, k.1, k.2.2.2.2.2.1, x.1)) == (1 : Int)) then
        BOut.next k ((IntKind.i64.wrap (x.1 + (1 : Int))), (IntKind.i64.wrap (x.2 + (1 : Int))))
      else
        bif ((Sp.F17 (k.2.2, k.1, k.2.2.2.2.2.1, x.1)) == (2 : Int)) then
          BOut.next k ((IntKind.i64.wrap (x.1 - (1 : Int))), (IntKind.i64.wrap (x.2 + (1 : Int))))
        else
          BOut.next k (x.1, (IntKind.i64.wrap (x.2 + (1 : Int)))))
  else
    BOut.brk k x
def G8_5 (k : (Int × Int × Int × Int × Int × Int × Nat × Nat × Nat × List (Int × Int × Int × Int × Int × Int × Int × Int × Int))) (x : (Int × Int)) : (Int × Int) := endOf st8_5 k (Nat.succ (mu8_5 k x)) x
def R8_5 (k : (Int × Int × Int × Int × Int × Int × Nat × Nat × Nat × List (Int × Int × Int × Int × Int × Int × Int × Int × Int))) (x : (Int × Int)) : Option (Bool) := retOf st8_5 k (Nat.succ (mu8_5 k x)) x
end Go.Proofs.Ytkfhampdellhoaa.Sp
namespace Go.Proofs.Ytkfhampdellhoaa.Sy
def LS8_5 : LS ty4.den := mkLS (Ty.pair ty3 (Ty.pair ty3 ty46)) (Ty.pair ty3 ty3)  [(8, none), (10, none)] [(7, 8)] [(9, none), (11, none)] [] [] [14] [(7, 7)] 0 true Sp.in8_5 Sp.st8_5 Sp.mu8_5
theorem va8_5 (k : (Ty.pair ty3 (Ty.pair ty3 ty46)).den) (x : (Ty.pair ty3 ty3).den) : ((evCode (ctxG GmP1) (lookL []) (bodyAt (bodyOf Try.f8) [0]) (tmpl LS8_5 (enc (Ty.pair ty3 (Ty.pair ty3 ty46)) k) (enc (Ty.pair ty3 ty3) x)) (evRound LS8_5 (evRet (ctxG GmP1) Try.f8 (Rsh.one (none)) none ty4 .ret)))).val BOut.ret (BOut.brk (Ty.dflt (Ty.pair ty3 (Ty.pair ty3 ty46))) (Ty.dflt (Ty.pair ty3 ty3))) = Sp.st8_5 k x := by kernel_rfl
theorem se8_5 (k : (Ty.pair ty3 (Ty.pair ty3 ty46)).den) (x : (Ty.pair ty3 ty3).den) : ((evCode (ctxG GmP1) (lookL []) (bodyAt (bodyOf Try.f8) [0]) (tmpl LS8_5 (enc (Ty.pair ty3 (Ty.pair ty3 ty46)) k) (enc (Ty.pair ty3 ty3) x)) (evRound LS8_5 (evRet (ctxG GmP1) Try.f8 (Rsh.one (none)) none ty4 .ret)))).safe = ((((decide (x.2 ≤ k.2.1)) = true → (((((Sp.F17 (k.2.2, k.1, k.2.2.2.2.2.1, x.1)) == (0 : Int)) != (x.2 == k.2.1)) = true → True) ∧ ((((Sp.F17 (k.2.2, k.1, k.2.2.2.2.2.1, x.1)) == (0 : Int)) != (x.2 == k.2.1)) = false → ((((Sp.F17 (k.2.2, k.1, k.2.2.2.2.2.1, x.1)) == (1 : Int)) = true → True) ∧ (((Sp.F17 (k.2.2, k.1, k.2.2.2.2.2.1, x.1)) == (1 : Int)) = false → ((((Sp.F17 (k.2.2, k.1, k.2.2.2.2.2.1, x.1)) == (2 : Int)) = true → True) ∧ (((Sp.F17 (k.2.2, k.1, k.2.2.2.2.2.1, x.1)) == (2 : Int)) = false → True))))))) ∧ ((decide (x.2 ≤ k.2.1)) = false → True))) := by kernel_rfl
theorem sa8_5 (k : (Ty.pair ty3 (Ty.pair ty3 ty46)).den) (x : (Ty.pair ty3 ty3).den) (fk : Fit (Ty.pair ty3 (Ty.pair ty3 ty46)) k) (fx : Fit (Ty.pair ty3 ty3) x) (h : Sp.in8_5 k x) : SafeW ((evCode (ctxG GmP1) (lookL []) (bodyAt (bodyOf Try.f8) [0]) (tmpl LS8_5 (enc (Ty.pair ty3 (Ty.pair ty3 ty46)) k) (enc (Ty.pair ty3 ty3) x)) (evRound LS8_5 (evRet (ctxG GmP1) Try.f8 (Rsh.one (none)) none ty4 .ret)))) := by
  refine ⟨?_⟩
  rw [se8_5]
  try dsimp only [Ty.den] at *
  simp only [Sp.in8_5, Fit, maxLen] at h fk fx
  simp only [IntKind.wrap_i64, IntKind.wrap_u8, IntKind.wrap_u32, IntKind.wrap_u64, Sp.tmod_ite, Sp.tdiv_ite, setE, copyL, sliceL, zrow, List.length_append, List.length_cons, List.length_nil, List.length_set, List.length_replicate, List.length_take, List.length_drop, decide_eq_true_eq, decide_eq_false_iff_not, Bool.or_eq_true, Bool.and_eq_true, Bool.or_eq_false_iff, Bool.and_eq_false_iff, Bool.not_eq_true', Bool.not_eq_false', Bool.not_eq_true, Bool.not_eq_false, beq_iff_eq, beq_eq_false_iff_ne, bne_iff_ne, ne_eq, implies_true, and_true, true_and] at *
  all_goals ((repeat' (first | exact trivial | apply And.intro | intro _)) <;> first | trivial | omega)
theorem so8_5 (k : (Ty.pair ty3 (Ty.pair ty3 ty46)).den) (x : (Ty.pair ty3 ty3).den) (fk : Fit (Ty.pair ty3 (Ty.pair ty3 ty46)) k) (h : Sp.in8_5 k x) : StepOk true Sp.in8_5 Sp.mu8_5 k x (Sp.st8_5 k x) := by
  try dsimp only [Ty.den] at *
  simp only [Sp.in8_5, Fit, maxLen] at h fk
  simp only [Sp.st8_5, Sp.optR, Bool.cond_eq_ite]
  (repeat' split) <;> (first | exact rfl | (refine ⟨rfl, ?_, ?_⟩ <;> simp only [Sp.in8_5, Sp.mu8_5, IntKind.wrap_i64, IntKind.wrap_u8, IntKind.wrap_u32, IntKind.wrap_u64, Sp.tmod_ite, Sp.tdiv_ite, setE, copyL, sliceL, zrow, List.length_append, List.length_cons, List.length_nil, List.length_set, List.length_replicate, List.length_take, List.length_drop, decide_eq_true_eq, decide_eq_false_iff_not, Bool.or_eq_true, Bool.and_eq_true, Bool.or_eq_false_iff, Bool.and_eq_false_iff, Bool.not_eq_true', Bool.not_eq_false', Bool.not_eq_true, Bool.not_eq_false, beq_iff_eq, beq_eq_false_iff_ne, bne_iff_ne, ne_eq] at * <;> omega))
theorem lo8_5 : LoopOk Try.prog gdS (RetAt Try.prog Try.f8 (Rsh.one (none)) none ty4) (bodyAt (bodyOf Try.f8) [0]) LS8_5 :=
  loop_run (ctxOkF gokGmP1 []) (L := lookL []) (loops_of (l := []) (by kernel_rfl) (loops_nil)) sa8_5 va8_5 so8_5
end Go.Proofs.Ytkfhampdellhoaa.Sy
namespace Go.Proofs.Ytkfhampdellhoaa.Sp
open Go Go.RowKit Sy
def K8_1 (x : Int × Int × Int) :=
  (Sp.G8_5 ((Int.tmod (IntKind.i64.wrap x.2.1) (((Sp.F16 x.1).2.2.2.2.2.2.2).length : Int)), (max (IntKind.i64.wrap ((Int.tmod (IntKind.i64.wrap x.2.2) ((Sp.F16 x.1).1)) - ((Sp.nthT ((Sp.F16 x.1).2.2.2.2.2.2.2) (Int.tmod (IntKind.i64.wrap x.2.1) (((Sp.F16 x.1).2.2.2.2.2.2.2).length : Int))).2.2.2.2.2.2.2.2))) (IntKind.i64.wrap ((Sp.nthT ((Sp.F16 x.1).2.2.2.2.2.2.2) (Int.tmod (IntKind.i64.wrap x.2.1) (((Sp.F16 x.1).2.2.2.2.2.2.2).length : Int))).2.2.2.2.2.2.2.2 - (Int.tmod (IntKind.i64.wrap x.2.2) ((Sp.F16 x.1).1))))), (Sp.F16 x.1)) ((Int.tmod (IntKind.i64.wrap x.2.2) ((Sp.F16 x.1).1)), (0 : Int)))
def F8 (x : Int × Int × Int) : Bool :=
  Sp.optR (Sp.R8_5 ((Int.tmod (IntKind.i64.wrap x.2.1) (((Sp.F16 x.1).2.2.2.2.2.2.2).length : Int)), (max (IntKind.i64.wrap ((Int.tmod (IntKind.i64.wrap x.2.2) ((Sp.F16 x.1).1)) - ((Sp.nthT ((Sp.F16 x.1).2.2.2.2.2.2.2) (Int.tmod (IntKind.i64.wrap x.2.1) (((Sp.F16 x.1).2.2.2.2.2.2.2).length : Int))).2.2.2.2.2.2.2.2))) (IntKind.i64.wrap ((Sp.nthT ((Sp.F16 x.1).2.2.2.2.2.2.2) (Int.tmod (IntKind.i64.wrap x.2.1) (((Sp.F16 x.1).2.2.2.2.2.2.2).length : Int))).2.2.2.2.2.2.2.2 - (Int.tmod (IntKind.i64.wrap x.2.2) ((Sp.F16 x.1).1))))), (Sp.F16 x.1)) ((Int.tmod (IntKind.i64.wrap x.2.2) ((Sp.F16 x.1).1)), (0 : Int))) (fun y => y)
  ((((Sp.K8_1 x).1 == (Sp.nthT ((Sp.F16 x.1).2.2.2.2.2.2.2) (Int.tmod (IntKind.i64.wrap x.2.1) (((Sp.F16 x.1).2.2.2.2.2.2.2).length : Int))).2.2.2.2.2.2.2.2) && (Sp.F15 ())))
def pre8 (x : Int × Int × Int) : Prop := 0 ≤ x.1 ∧ x.1 ≤ 255 ∧ 0 ≤ x.2.1 ∧ x.2.1 ≤ 255 ∧ 0 ≤ x.2.2 ∧ x.2.2 ≤ 255
end Go.Proofs.Ytkfhampdellhoaa.Sp
namespace Go.Proofs.Ytkfhampdellhoaa.Sy
def ct8 : Ct := { p := (Ty.pair ty5 (Ty.pair ty5 ty5)), psh := [none, none, none], r := ty4, rsh := (Rsh.one (none)), pre := some Sp.pre8, fresh := none, F := Sp.F8 }
theorem va8 (x : (Ty.pair ty5 (Ty.pair ty5 ty5)).den) : ((evFn (ctxG GmP1) Try.f8 (Ty.pair ty5 (Ty.pair ty5 ty5)) [none, none, none] (Rsh.one (none)) none ty4 (lookL [(5, LS8_5)]) x)).val (fun y => y) (Ty.dflt ty4) = Sp.F8 x := by kernel_rfl
theorem se8 (x : (Ty.pair ty5 (Ty.pair ty5 ty5)).den) : ((evFn (ctxG GmP1) Try.f8 (Ty.pair ty5 (Ty.pair ty5 ty5)) [none, none, none] (Rsh.one (none)) none ty4 (lookL [(5, LS8_5)]) x)).safe = (((Sp.pre16 x.1) ∧ (((((Sp.F16 x.1).2.2.2.2.2.2.2).length : Int) ≠ 0) ∧ (((Sp.F16 x.1).1 ≠ 0) ∧ ((0 ≤ (Int.tmod (IntKind.i64.wrap x.2.1) (((Sp.F16 x.1).2.2.2.2.2.2.2).length : Int)) ∧ (Int.tmod (IntKind.i64.wrap x.2.1) (((Sp.F16 x.1).2.2.2.2.2.2.2).length : Int)) < (((Sp.F16 x.1).2.2.2.2.2.2.2).length : Int)) ∧ ((0 ≤ (Int.tmod (IntKind.i64.wrap x.2.1) (((Sp.F16 x.1).2.2.2.2.2.2.2).length : Int)) ∧ (Int.tmod (IntKind.i64.wrap x.2.1) (((Sp.F16 x.1).2.2.2.2.2.2.2).length : Int)) < (((Sp.F16 x.1).2.2.2.2.2.2.2).length : Int)) ∧ ((Sp.in8_5 ((Int.tmod (IntKind.i64.wrap x.2.1) (((Sp.F16 x.1).2.2.2.2.2.2.2).length : Int)), (max (IntKind.i64.wrap ((Int.tmod (IntKind.i64.wrap x.2.2) ((Sp.F16 x.1).1)) - ((Sp.nthT ((Sp.F16 x.1).2.2.2.2.2.2.2) (Int.tmod (IntKind.i64.wrap x.2.1) (((Sp.F16 x.1).2.2.2.2.2.2.2).length : Int))).2.2.2.2.2.2.2.2))) (IntKind.i64.wrap ((Sp.nthT ((Sp.F16 x.1).2.2.2.2.2.2.2) (Int.tmod (IntKind.i64.wrap x.2.1) (((Sp.F16 x.1).2.2.2.2.2.2.2).length : Int))).2.2.2.2.2.2.2.2 - (Int.tmod (IntKind.i64.wrap x.2.2) ((Sp.F16 x.1).1))))), (Sp.F16 x.1)) ((Int.tmod (IntKind.i64.wrap x.2.2) ((Sp.F16 x.1).1)), (0 : Int))) ∧ ((Sp.R8_5 ((Int.tmod (IntKind.i64.wrap x.2.1) (((Sp.F16 x.1).2.2.2.2.2.2.2).length : Int)), (max (IntKind.i64.wrap ((Int.tmod (IntKind.i64.wrap x.2.2) ((Sp.F16 x.1).1)) - ((Sp.nthT ((Sp.F16 x.1).2.2.2.2.2.2.2) (Int.tmod (IntKind.i64.wrap x.2.1) (((Sp.F16 x.1).2.2.2.2.2.2.2).length : Int))).2.2.2.2.2.2.2.2))) (IntKind.i64.wrap ((Sp.nthT ((Sp.F16 x.1).2.2.2.2.2.2.2) (Int.tmod (IntKind.i64.wrap x.2.1) (((Sp.F16 x.1).2.2.2.2.2.2.2).length : Int))).2.2.2.2.2.2.2.2 - (Int.tmod (IntKind.i64.wrap x.2.2) ((Sp.F16 x.1).1))))), (Sp.F16 x.1)) ((Int.tmod (IntKind.i64.wrap x.2.2) ((Sp.F16 x.1).1)), (0 : Int))) = none → ((0 ≤ (Int.tmod (IntKind.i64.wrap x.2.1) (((Sp.F16 x.1).2.2.2.2.2.2.2).length : Int)) ∧ (Int.tmod (IntKind.i64.wrap x.2.1) (((Sp.F16 x.1).2.2.2.2.2.2.2).length : Int)) < (((Sp.F16 x.1).2.2.2.2.2.2.2).length : Int)) ∧ True))))))))) := by kernel_rfl
theorem sa8 (x : (Ty.pair ty5 (Ty.pair ty5 ty5)).den) (fx : Fit (Ty.pair ty5 (Ty.pair ty5 ty5)) x) (h : Sp.pre8 x) : SafeW ((evFn (ctxG GmP1) Try.f8 (Ty.pair ty5 (Ty.pair ty5 ty5)) [none, none, none] (Rsh.one (none)) none ty4 (lookL [(5, LS8_5)]) x)) := by
  refine ⟨?_⟩
  rw [se8]
  try dsimp only [Ty.den] at *
  simp only [Sp.pre8] at h
  obtain ⟨ha1, ha2, hb1, hb2, hc1, hc2⟩ := h
  have hb := Sp.build_isB ⟨ha1, ha2⟩
  have h1 := hb.cn
  have h2 := hb.fl
  simp only [Sp.BldT.cars] at h1
  rw [Sp.wrap_i64_of (x := x.2.1) (by omega) (by omega), Sp.wrap_i64_of (x := x.2.2) (by omega) (by omega), Int.tmod_eq_emod_of_nonneg (a := x.2.1) hb1, Int.tmod_eq_emod_of_nonneg (a := x.2.2) hc1]
  have i1 := Int.emod_nonneg x.2.1 (b := ((Sp.F16 x.1).2.2.2.2.2.2.2.length : Int)) (by omega)
  have i2 := Int.emod_lt_of_pos x.2.1 (b := ((Sp.F16 x.1).2.2.2.2.2.2.2.length : Int)) (by omega)
  have i3 := Int.emod_nonneg x.2.2 (b := (Sp.F16 x.1).1) (by omega)
  have i4 := Int.emod_lt_of_pos x.2.2 (b := (Sp.F16 x.1).1) (by omega)
  have h3 := hb.home (i := x.2.1 % ((Sp.F16 x.1).2.2.2.2.2.2.2.length : Int)) i1 i2
  rw [Sp.wrap_i64_of (by omega) (by omega), Sp.wrap_i64_of (by omega) (by omega)]
  simp only [Sp.pre16, Sp.in8_5, implies_true, and_true]
  refine ⟨⟨by omega, by omega⟩, by omega, by omega, by omega, by omega, ?_⟩
  omega
theorem ok8 : CtOk Try.prog gdS 8 ct8 :=
  fn_okU (ctxOkF gokGmP1 []) rfl Try.func8 (p := (Ty.pair ty5 (Ty.pair ty5 ty5))) (psh := [none, none, none]) (r := ty4) (rsh := (Rsh.one (none))) (pre := some Sp.pre8) (fresh := none) (F := Sp.F8) (L := (lookL [(5, LS8_5)])) (c := bodyOf Try.f8) (dflt := Ty.dflt ty4) rfl (loops_of (l := [bodyAt (bodyOf Try.f8) [0]]) (by kernel_rfl) (loops_cons (s0 := LS8_5) (by kernel_rfl) lo8_5 (loops_nil)))
    (safe_pre @sa8) va8
def GmP2 : List (Nat × Ct) := (7, ct7) :: (8, ct8) :: GmP1
theorem gokGmP2 : GOk GmP2 := gok_cons ok7 ⟨_, Try.func7, by kernel_rfl, by kernel_rfl⟩ (gok_cons ok8 ⟨_, Try.func8, by kernel_rfl, by kernel_rfl⟩ (gokGmP1))
end Go.Proofs.Ytkfhampdellhoaa.Sy
