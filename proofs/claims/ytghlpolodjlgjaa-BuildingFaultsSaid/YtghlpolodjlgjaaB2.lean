/- Contracts of functions, by the evaluator (own program gen.py): building.Bound, overlayref01.Bound, building.Service. -/
import Derived.Test.YtghlpolodjlgjaaB1
set_option linter.unusedVariables false
set_option linter.unusedSimpArgs false
set_option maxRecDepth 100000
namespace Go.Proofs.Ytghlpolodjlgjaa.Sy
open Go Go.RowKit Sp
/-! building.Bound -/
end Go.Proofs.Ytghlpolodjlgjaa.Sy
namespace Go.Proofs.Ytghlpolodjlgjaa.Sp
open Go Go.RowKit Sy
def in12_5 (k : ((List (Int × Int × Int × Int × Int × Int × Int × Int × Int)) × Int × Int × Int × Int × Int × Nat × Nat × Nat × List (Int × Int × Int × Int × Int × Int × Int × Int × Int))) (x : (Int × Int)) : Prop := (0 : Int) ≤ x.2 ∧ k.2.1 = ((k.1).length : Int)
def mu12_5 (k : ((List (Int × Int × Int × Int × Int × Int × Int × Int × Int)) × Int × Int × Int × Int × Int × Nat × Nat × Nat × List (Int × Int × Int × Int × Int × Int × Int × Int × Int))) (x : (Int × Int)) : Nat := (k.2.1 - x.2).toNat
def st12_5 (k : ((List (Int × Int × Int × Int × Int × Int × Int × Int × Int)) × Int × Int × Int × Int × Int × Nat × Nat × Nat × List (Int × Int × Int × Int × Int × Int × Int × Int × Int))) (x : (Int × Int)) : BOut ((List (Int × Int × Int × Int × Int × Int × Int × Int × Int)) × Int × Int × Int × Int × Int × Nat × Nat × Nat × List (Int × Int × Int × Int × Int × Int × Int × Int × Int)) (Int × Int) (Int) :=
  bif (decide (x.2 < k.2.1)) then
    BOut.next k ((max (max x.1 ((Sp.nthT k.1 x.2).1)) (Sp.F23 (k.2.2.1, (Sp.nthT k.1 x.2)))), (IntKind.i64.wrap (x.2 + (1 : Int))))
  else
    BOut.brk k x
def G12_5 (k : ((List (Int × Int × Int × Int × Int × Int × Int × Int × Int)) × Int × Int × Int × Int × Int × Nat × Nat × Nat × List (Int × Int × Int × Int × Int × Int × Int × Int × Int))) (x : (Int × Int)) : (Int × Int) := endOf st12_5 k (Nat.succ (mu12_5 k x)) x
end Go.Proofs.Ytghlpolodjlgjaa.Sp
namespace Go.Proofs.Ytghlpolodjlgjaa.Sy
def LS12_5 : LS ty3.den := mkLS (Ty.pair ty24 (Ty.pair ty3 ty26)) (Ty.pair ty3 ty3)  [(10, none), (11, none)] [(1, 8)] [(3, none), (12, none)] [] [] [] [(1, 1)] 0 false Sp.in12_5 Sp.st12_5 Sp.mu12_5
theorem va12_5 (k : (Ty.pair ty24 (Ty.pair ty3 ty26)).den) (x : (Ty.pair ty3 ty3).den) : ((evCode (ctxG GmB1) (lookL []) (bodyAt (bodyOf Try.f12) [0]) (tmpl LS12_5 (enc (Ty.pair ty24 (Ty.pair ty3 ty26)) k) (enc (Ty.pair ty3 ty3) x)) (evRound LS12_5 (evRet (ctxG GmB1) Try.f12 (Rsh.one (none)) none ty3 .ret)))).val BOut.ret (BOut.brk (Ty.dflt (Ty.pair ty24 (Ty.pair ty3 ty26))) (Ty.dflt (Ty.pair ty3 ty3))) = Sp.st12_5 k x := by kernel_rfl
theorem se12_5 (k : (Ty.pair ty24 (Ty.pair ty3 ty26)).den) (x : (Ty.pair ty3 ty3).den) : ((evCode (ctxG GmB1) (lookL []) (bodyAt (bodyOf Try.f12) [0]) (tmpl LS12_5 (enc (Ty.pair ty24 (Ty.pair ty3 ty26)) k) (enc (Ty.pair ty3 ty3) x)) (evRound LS12_5 (evRet (ctxG GmB1) Try.f12 (Rsh.one (none)) none ty3 .ret)))).safe = ((((decide (x.2 < k.2.1)) = true → ((0 ≤ x.2 ∧ x.2 < ((k.1).length : Int)) ∧ True)) ∧ ((decide (x.2 < k.2.1)) = false → True))) := by kernel_rfl
set_option maxHeartbeats 4000000 in
theorem sa12_5 (k : (Ty.pair ty24 (Ty.pair ty3 ty26)).den) (x : (Ty.pair ty3 ty3).den) (fk : Fit (Ty.pair ty24 (Ty.pair ty3 ty26)) k) (fx : Fit (Ty.pair ty3 ty3) x) (h : Sp.in12_5 k x) : SafeW ((evCode (ctxG GmB1) (lookL []) (bodyAt (bodyOf Try.f12) [0]) (tmpl LS12_5 (enc (Ty.pair ty24 (Ty.pair ty3 ty26)) k) (enc (Ty.pair ty3 ty3) x)) (evRound LS12_5 (evRet (ctxG GmB1) Try.f12 (Rsh.one (none)) none ty3 .ret)))) := by
  refine ⟨?_⟩
  rw [se12_5]
  try dsimp only [Ty.den] at *
  simp only [Sp.in12_5, Fit, maxLen] at h fk fx
  simp only [IntKind.wrap_i64, IntKind.wrap_u8, IntKind.wrap_u32, IntKind.wrap_u64, Sp.tmod_lit, Sp.tdiv_lit, bne_eq_false_iff_eq, Int.natCast_inj, setE, copyL, sliceL, zrow, List.length_append, List.length_cons, List.length_nil, List.length_set, List.length_replicate, List.length_take, List.length_drop, decide_eq_true_eq, decide_eq_false_iff_not, Bool.or_eq_true, Bool.and_eq_true, Bool.or_eq_false_iff, Bool.and_eq_false_iff, Bool.not_eq_true', Bool.not_eq_false', Bool.not_eq_true, Bool.not_eq_false, beq_iff_eq, beq_eq_false_iff_ne, bne_iff_ne, ne_eq, implies_true, and_true, true_and] at *
  all_goals ((repeat' (first | exact trivial | apply And.intro | intro _)) <;> first | trivial | omega | exact Sp.tmod_nn (by omega) | exact Sp.tmod_lt (by omega) (by omega))
set_option maxHeartbeats 4000000 in
theorem so12_5 (k : (Ty.pair ty24 (Ty.pair ty3 ty26)).den) (x : (Ty.pair ty3 ty3).den) (fk : Fit (Ty.pair ty24 (Ty.pair ty3 ty26)) k) (h : Sp.in12_5 k x) : StepOk false Sp.in12_5 Sp.mu12_5 k x (Sp.st12_5 k x) := by
  try dsimp only [Ty.den] at *
  simp only [Sp.in12_5, Fit, maxLen] at h fk
  unfold Sp.st12_5
  (repeat' (first | exact rfl | (refine StepOk.cnd (fun hc => ?_) (fun hc => ?_) <;> (try simp only [IntKind.wrap_i64, IntKind.wrap_u8, IntKind.wrap_u32, IntKind.wrap_u64, bne_eq_false_iff_eq, Int.natCast_inj, setE, copyL, sliceL, zrow, List.length_append, List.length_cons, List.length_nil, List.length_set, List.length_replicate, List.length_take, List.length_drop, decide_eq_true_eq, decide_eq_false_iff_not, Bool.or_eq_true, Bool.and_eq_true, Bool.or_eq_false_iff, Bool.and_eq_false_iff, Bool.not_eq_true', Bool.not_eq_false', Bool.not_eq_true, Bool.not_eq_false, beq_iff_eq, beq_eq_false_iff_ne, bne_iff_ne, ne_eq] at hc)) | refine StepOk.opt (fun _ => ?_))) <;> (first | exact rfl | (refine ⟨rfl, ?_, ?_⟩ <;> simp only [Sp.in12_5, Sp.mu12_5, IntKind.wrap_i64, IntKind.wrap_u8, IntKind.wrap_u32, IntKind.wrap_u64, Sp.tmod_lit, Sp.tdiv_lit, bne_eq_false_iff_eq, Int.natCast_inj, setE, copyL, sliceL, zrow, List.length_append, List.length_cons, List.length_nil, List.length_set, List.length_replicate, List.length_take, List.length_drop, decide_eq_true_eq, decide_eq_false_iff_not, Bool.or_eq_true, Bool.and_eq_true, Bool.or_eq_false_iff, Bool.and_eq_false_iff, Bool.not_eq_true', Bool.not_eq_false', Bool.not_eq_true, Bool.not_eq_false, beq_iff_eq, beq_eq_false_iff_ne, bne_iff_ne, ne_eq] <;> first | omega | (and_intros <;> first | omega | exact h.1 | exact h.2 | exact h.2.1 | exact h.2.2 | exact h.2.2.1 | exact h.2.2.2 | exact h.2.2.2.1 | exact h.2.2.2.2 | exact h.2.2.2.2.1 | exact h.2.2.2.2.2 | exact h.2.2.2.2.2.1 | exact h.2.2.2.2.2.2)))
theorem lo12_5 : LoopOk Try.prog gdS (RetAt Try.prog Try.f12 (Rsh.one (none)) none ty3) (bodyAt (bodyOf Try.f12) [0]) LS12_5 :=
  loop_run (ctxOkF gokGmB1 []) (L := lookL []) (loops_of (l := []) (by kernel_rfl) (loops_nil)) sa12_5 va12_5 so12_5
end Go.Proofs.Ytghlpolodjlgjaa.Sy
namespace Go.Proofs.Ytghlpolodjlgjaa.Sp
open Go Go.RowKit Sy
def F12 (x : Int × Int × Int × Int × Nat × Nat × Nat × List (Int × Int × Int × Int × Int × Int × Int × Int × Int)) : Int :=
  bif ((Sp.F8 x) != (0 : Int)) then
    (0 : Int)
  else
    (IntKind.i64.wrap ((IntKind.i64.wrap (((x.2.2.2.2.2.2.2).length : Int) + (2 : Int))) * (IntKind.i64.wrap ((Sp.G12_5 (x.2.2.2.2.2.2.2, ((x.2.2.2.2.2.2.2).length : Int), x) ((0 : Int), (0 : Int))).1 + (2 : Int)))))
end Go.Proofs.Ytghlpolodjlgjaa.Sp
namespace Go.Proofs.Ytghlpolodjlgjaa.Sy
def ct12 : Ct := { p := ty26, psh := [some 8], r := ty3, rsh := (Rsh.one (none)), pre := none, fresh := none, F := Sp.F12 }
theorem va12 (x : ty26.den) : ((evFn (ctxG GmB1) Try.f12 ty26 [some 8] (Rsh.one (none)) none ty3 (lookL [(5, LS12_5)]) x)).val (fun y => y) (Ty.dflt ty3) = Sp.F12 x := by kernel_rfl
theorem se12 (x : ty26.den) : ((evFn (ctxG GmB1) Try.f12 ty26 [some 8] (Rsh.one (none)) none ty3 (lookL [(5, LS12_5)]) x)).safe = (((((Sp.F8 x) != (0 : Int)) = true → True) ∧ (((Sp.F8 x) != (0 : Int)) = false → ((Sp.in12_5 (x.2.2.2.2.2.2.2, ((x.2.2.2.2.2.2.2).length : Int), x) ((0 : Int), (0 : Int))) ∧ True)))) := by kernel_rfl
theorem sa12 (x : ty26.den) (fx : Fit ty26 x) : SafeW ((evFn (ctxG GmB1) Try.f12 ty26 [some 8] (Rsh.one (none)) none ty3 (lookL [(5, LS12_5)]) x)) := by
  refine ⟨?_⟩
  rw [se12]
  try dsimp only [Ty.den] at *
  simp only [Fit, maxLen] at fx
  simp only [Sp.in12_5, IntKind.wrap_i64, IntKind.wrap_u8, IntKind.wrap_u32, IntKind.wrap_u64, Sp.tmod_lit, Sp.tdiv_lit, bne_eq_false_iff_eq, Int.natCast_inj, setE, copyL, sliceL, zrow, List.length_append, List.length_cons, List.length_nil, List.length_set, List.length_replicate, List.length_take, List.length_drop, decide_eq_true_eq, decide_eq_false_iff_not, Bool.or_eq_true, Bool.and_eq_true, Bool.or_eq_false_iff, Bool.and_eq_false_iff, Bool.not_eq_true', Bool.not_eq_false', Bool.not_eq_true, Bool.not_eq_false, beq_iff_eq, beq_eq_false_iff_ne, bne_iff_ne, ne_eq, implies_true, and_true, true_and] at *
  all_goals ((repeat' (first | exact trivial | apply And.intro | intro _)) <;> first | trivial | omega | exact Sp.tmod_nn (by omega) | exact Sp.tmod_lt (by omega) (by omega))
theorem ok12 : CtOk Try.prog gdS 12 ct12 :=
  fn_okU (ctxOkF gokGmB1 []) rfl Try.func12 (p := ty26) (psh := [some 8]) (r := ty3) (rsh := (Rsh.one (none))) (pre := none) (fresh := none) (F := Sp.F12) (L := (lookL [(5, LS12_5)])) (c := bodyOf Try.f12) (dflt := Ty.dflt ty3) rfl (loops_of (l := [bodyAt (bodyOf Try.f12) [0]]) (by kernel_rfl) (loops_cons (s0 := LS12_5) (by kernel_rfl) lo12_5 (loops_nil)))
    (safe_no @sa12) va12
/-! overlayref01.Bound -/
end Go.Proofs.Ytghlpolodjlgjaa.Sy
namespace Go.Proofs.Ytghlpolodjlgjaa.Sp
open Go Go.RowKit Sy
def in13_5 (k : (Int × Int × Int × Int × Nat × Nat × Nat × List (Int × Int × Int × Int × Int × Int × Int × Int × Int))) (x : (Int × Int)) : Prop := (0 : Int) ≤ x.2
def mu13_5 (k : (Int × Int × Int × Int × Nat × Nat × Nat × List (Int × Int × Int × Int × Int × Int × Int × Int × Int))) (x : (Int × Int)) : Nat := (((k.2.2.2.2.2.2.2).length : Int) - x.2).toNat
def st13_5 (k : (Int × Int × Int × Int × Nat × Nat × Nat × List (Int × Int × Int × Int × Int × Int × Int × Int × Int))) (x : (Int × Int)) : BOut (Int × Int × Int × Int × Nat × Nat × Nat × List (Int × Int × Int × Int × Int × Int × Int × Int × Int)) (Int × Int) (Int) :=
  bif (decide (x.2 < ((k.2.2.2.2.2.2.2).length : Int))) then
    BOut.next k ((max x.1 (max ((Sp.nthT k.2.2.2.2.2.2.2 x.2).1) (Sp.F24 (k, x.2)))), (IntKind.i64.wrap (x.2 + (1 : Int))))
  else
    BOut.brk k x
def G13_5 (k : (Int × Int × Int × Int × Nat × Nat × Nat × List (Int × Int × Int × Int × Int × Int × Int × Int × Int))) (x : (Int × Int)) : (Int × Int) := endOf st13_5 k (Nat.succ (mu13_5 k x)) x
end Go.Proofs.Ytghlpolodjlgjaa.Sp
namespace Go.Proofs.Ytghlpolodjlgjaa.Sy
def LS13_5 : LS ty3.den := mkLS ty26 (Ty.pair ty3 ty3)  [] [(1, 8)] [(3, none), (4, none)] [] [] [] [(1, 1)] 0 false Sp.in13_5 Sp.st13_5 Sp.mu13_5
theorem va13_5 (k : ty26.den) (x : (Ty.pair ty3 ty3).den) : ((evCode (ctxG GmB1) (lookL []) (bodyAt (bodyOf Try.f13) [0]) (tmpl LS13_5 (enc ty26 k) (enc (Ty.pair ty3 ty3) x)) (evRound LS13_5 (evRet (ctxG GmB1) Try.f13 (Rsh.one (none)) none ty3 .ret)))).val BOut.ret (BOut.brk (Ty.dflt ty26) (Ty.dflt (Ty.pair ty3 ty3))) = Sp.st13_5 k x := by kernel_rfl
theorem se13_5 (k : ty26.den) (x : (Ty.pair ty3 ty3).den) : ((evCode (ctxG GmB1) (lookL []) (bodyAt (bodyOf Try.f13) [0]) (tmpl LS13_5 (enc ty26 k) (enc (Ty.pair ty3 ty3) x)) (evRound LS13_5 (evRet (ctxG GmB1) Try.f13 (Rsh.one (none)) none ty3 .ret)))).safe = ((((decide (x.2 < ((k.2.2.2.2.2.2.2).length : Int))) = true → ((0 ≤ x.2 ∧ x.2 < ((k.2.2.2.2.2.2.2).length : Int)) ∧ True)) ∧ ((decide (x.2 < ((k.2.2.2.2.2.2.2).length : Int))) = false → True))) := by kernel_rfl
set_option maxHeartbeats 4000000 in
theorem sa13_5 (k : ty26.den) (x : (Ty.pair ty3 ty3).den) (fk : Fit ty26 k) (fx : Fit (Ty.pair ty3 ty3) x) (h : Sp.in13_5 k x) : SafeW ((evCode (ctxG GmB1) (lookL []) (bodyAt (bodyOf Try.f13) [0]) (tmpl LS13_5 (enc ty26 k) (enc (Ty.pair ty3 ty3) x)) (evRound LS13_5 (evRet (ctxG GmB1) Try.f13 (Rsh.one (none)) none ty3 .ret)))) := by
  refine ⟨?_⟩
  rw [se13_5]
  try dsimp only [Ty.den] at *
  simp only [Sp.in13_5, Fit, maxLen] at h fk fx
  simp only [IntKind.wrap_i64, IntKind.wrap_u8, IntKind.wrap_u32, IntKind.wrap_u64, Sp.tmod_lit, Sp.tdiv_lit, bne_eq_false_iff_eq, Int.natCast_inj, setE, copyL, sliceL, zrow, List.length_append, List.length_cons, List.length_nil, List.length_set, List.length_replicate, List.length_take, List.length_drop, decide_eq_true_eq, decide_eq_false_iff_not, Bool.or_eq_true, Bool.and_eq_true, Bool.or_eq_false_iff, Bool.and_eq_false_iff, Bool.not_eq_true', Bool.not_eq_false', Bool.not_eq_true, Bool.not_eq_false, beq_iff_eq, beq_eq_false_iff_ne, bne_iff_ne, ne_eq, implies_true, and_true, true_and] at *
  all_goals ((repeat' (first | exact trivial | apply And.intro | intro _)) <;> first | trivial | omega | exact Sp.tmod_nn (by omega) | exact Sp.tmod_lt (by omega) (by omega))
set_option maxHeartbeats 4000000 in
theorem so13_5 (k : ty26.den) (x : (Ty.pair ty3 ty3).den) (fk : Fit ty26 k) (h : Sp.in13_5 k x) : StepOk false Sp.in13_5 Sp.mu13_5 k x (Sp.st13_5 k x) := by
  try dsimp only [Ty.den] at *
  simp only [Sp.in13_5, Fit, maxLen] at h fk
  unfold Sp.st13_5
  (repeat' (first | exact rfl | (refine StepOk.cnd (fun hc => ?_) (fun hc => ?_) <;> (try simp only [IntKind.wrap_i64, IntKind.wrap_u8, IntKind.wrap_u32, IntKind.wrap_u64, bne_eq_false_iff_eq, Int.natCast_inj, setE, copyL, sliceL, zrow, List.length_append, List.length_cons, List.length_nil, List.length_set, List.length_replicate, List.length_take, List.length_drop, decide_eq_true_eq, decide_eq_false_iff_not, Bool.or_eq_true, Bool.and_eq_true, Bool.or_eq_false_iff, Bool.and_eq_false_iff, Bool.not_eq_true', Bool.not_eq_false', Bool.not_eq_true, Bool.not_eq_false, beq_iff_eq, beq_eq_false_iff_ne, bne_iff_ne, ne_eq] at hc)) | refine StepOk.opt (fun _ => ?_))) <;> (first | exact rfl | (refine ⟨rfl, ?_, ?_⟩ <;> simp only [Sp.in13_5, Sp.mu13_5, IntKind.wrap_i64, IntKind.wrap_u8, IntKind.wrap_u32, IntKind.wrap_u64, Sp.tmod_lit, Sp.tdiv_lit, bne_eq_false_iff_eq, Int.natCast_inj, setE, copyL, sliceL, zrow, List.length_append, List.length_cons, List.length_nil, List.length_set, List.length_replicate, List.length_take, List.length_drop, decide_eq_true_eq, decide_eq_false_iff_not, Bool.or_eq_true, Bool.and_eq_true, Bool.or_eq_false_iff, Bool.and_eq_false_iff, Bool.not_eq_true', Bool.not_eq_false', Bool.not_eq_true, Bool.not_eq_false, beq_iff_eq, beq_eq_false_iff_ne, bne_iff_ne, ne_eq] <;> first | omega | (and_intros <;> first | omega | exact h.1 | exact h.2 | exact h.2.1 | exact h.2.2 | exact h.2.2.1 | exact h.2.2.2 | exact h.2.2.2.1 | exact h.2.2.2.2 | exact h.2.2.2.2.1 | exact h.2.2.2.2.2 | exact h.2.2.2.2.2.1 | exact h.2.2.2.2.2.2)))
theorem lo13_5 : LoopOk Try.prog gdS (RetAt Try.prog Try.f13 (Rsh.one (none)) none ty3) (bodyAt (bodyOf Try.f13) [0]) LS13_5 :=
  loop_run (ctxOkF gokGmB1 []) (L := lookL []) (loops_of (l := []) (by kernel_rfl) (loops_nil)) sa13_5 va13_5 so13_5
end Go.Proofs.Ytghlpolodjlgjaa.Sy
namespace Go.Proofs.Ytghlpolodjlgjaa.Sp
open Go Go.RowKit Sy
def F13 (x : Int × Int × Int × Int × Nat × Nat × Nat × List (Int × Int × Int × Int × Int × Int × Int × Int × Int)) : Int :=
  bif ((Sp.F9 x) != (0 : Int)) then
    (0 : Int)
  else
    (IntKind.i64.wrap ((IntKind.i64.wrap (((x.2.2.2.2.2.2.2).length : Int) + (2 : Int))) * (IntKind.i64.wrap ((Sp.G13_5 x ((0 : Int), (0 : Int))).1 + (2 : Int)))))
end Go.Proofs.Ytghlpolodjlgjaa.Sp
namespace Go.Proofs.Ytghlpolodjlgjaa.Sy
def ct13 : Ct := { p := ty26, psh := [some 8], r := ty3, rsh := (Rsh.one (none)), pre := none, fresh := none, F := Sp.F13 }
theorem va13 (x : ty26.den) : ((evFn (ctxG GmB1) Try.f13 ty26 [some 8] (Rsh.one (none)) none ty3 (lookL [(5, LS13_5)]) x)).val (fun y => y) (Ty.dflt ty3) = Sp.F13 x := by kernel_rfl
theorem se13 (x : ty26.den) : ((evFn (ctxG GmB1) Try.f13 ty26 [some 8] (Rsh.one (none)) none ty3 (lookL [(5, LS13_5)]) x)).safe = (((((Sp.F9 x) != (0 : Int)) = true → True) ∧ (((Sp.F9 x) != (0 : Int)) = false → ((Sp.in13_5 x ((0 : Int), (0 : Int))) ∧ True)))) := by kernel_rfl
theorem sa13 (x : ty26.den) (fx : Fit ty26 x) : SafeW ((evFn (ctxG GmB1) Try.f13 ty26 [some 8] (Rsh.one (none)) none ty3 (lookL [(5, LS13_5)]) x)) := by
  refine ⟨?_⟩
  rw [se13]
  try dsimp only [Ty.den] at *
  simp only [Fit, maxLen] at fx
  simp only [Sp.in13_5, IntKind.wrap_i64, IntKind.wrap_u8, IntKind.wrap_u32, IntKind.wrap_u64, Sp.tmod_lit, Sp.tdiv_lit, bne_eq_false_iff_eq, Int.natCast_inj, setE, copyL, sliceL, zrow, List.length_append, List.length_cons, List.length_nil, List.length_set, List.length_replicate, List.length_take, List.length_drop, decide_eq_true_eq, decide_eq_false_iff_not, Bool.or_eq_true, Bool.and_eq_true, Bool.or_eq_false_iff, Bool.and_eq_false_iff, Bool.not_eq_true', Bool.not_eq_false', Bool.not_eq_true, Bool.not_eq_false, beq_iff_eq, beq_eq_false_iff_ne, bne_iff_ne, ne_eq, implies_true, and_true, true_and] at *
  all_goals ((repeat' (first | exact trivial | apply And.intro | intro _)) <;> first | trivial | omega | exact Sp.tmod_nn (by omega) | exact Sp.tmod_lt (by omega) (by omega))
theorem ok13 : CtOk Try.prog gdS 13 ct13 :=
  fn_okU (ctxOkF gokGmB1 []) rfl Try.func13 (p := ty26) (psh := [some 8]) (r := ty3) (rsh := (Rsh.one (none))) (pre := none) (fresh := none) (F := Sp.F13) (L := (lookL [(5, LS13_5)])) (c := bodyOf Try.f13) (dflt := Ty.dflt ty3) rfl (loops_of (l := [bodyAt (bodyOf Try.f13) [0]]) (by kernel_rfl) (loops_cons (s0 := LS13_5) (by kernel_rfl) lo13_5 (loops_nil)))
    (safe_no @sa13) va13
/-! building.Service -/
end Go.Proofs.Ytghlpolodjlgjaa.Sy
namespace Go.Proofs.Ytghlpolodjlgjaa.Sp
open Go Go.RowKit Sy
def F26 (x : (Int × Int × Int × Int × Nat × Nat × Nat × List (Int × Int × Int × Int × Int × Int × Int × Int × Int)) × Int) : Int :=
  bif (((Sp.F8 x.1) != (0 : Int)) || (!(Sp.F17 ((0 : Int), (IntKind.i64.wrap (((x.1.2.2.2.2.2.2.2).length : Int) - (1 : Int))), [x.2])))) then
    (0 : Int)
  else
    (Sp.F23 (x.1.1, (Sp.nthT x.1.2.2.2.2.2.2.2 x.2)))
end Go.Proofs.Ytghlpolodjlgjaa.Sp
namespace Go.Proofs.Ytghlpolodjlgjaa.Sy
def ct26 : Ct := { p := (Ty.pair ty26 ty3), psh := [some 8, none], r := ty3, rsh := (Rsh.one (none)), pre := none, fresh := none, F := Sp.F26 }
theorem va26 (x : (Ty.pair ty26 ty3).den) : ((evFn (ctxG GmB1) Try.f26 (Ty.pair ty26 ty3) [some 8, none] (Rsh.one (none)) none ty3 noL x)).val (fun y => y) (Ty.dflt ty3) = Sp.F26 x := by kernel_rfl
theorem se26 (x : (Ty.pair ty26 ty3).den) : ((evFn (ctxG GmB1) Try.f26 (Ty.pair ty26 ty3) [some 8, none] (Rsh.one (none)) none ty3 noL x)).safe = ((((((Sp.F8 x.1) != (0 : Int)) || (!(Sp.F17 ((0 : Int), (IntKind.i64.wrap (((x.1.2.2.2.2.2.2.2).length : Int) - (1 : Int))), [x.2])))) = true → True) ∧ ((((Sp.F8 x.1) != (0 : Int)) || (!(Sp.F17 ((0 : Int), (IntKind.i64.wrap (((x.1.2.2.2.2.2.2.2).length : Int) - (1 : Int))), [x.2])))) = false → ((0 ≤ x.2 ∧ x.2 < ((x.1.2.2.2.2.2.2.2).length : Int)) ∧ True)))) := by kernel_rfl
theorem sa26 (x : (Ty.pair ty26 ty3).den) (fx : Fit (Ty.pair ty26 ty3) x) : SafeW ((evFn (ctxG GmB1) Try.f26 (Ty.pair ty26 ty3) [some 8, none] (Rsh.one (none)) none ty3 noL x)) := by
  refine ⟨?_⟩
  rw [se26]
  try dsimp only [Ty.den] at *
  refine ⟨fun _ => trivial, fun h => ?_⟩
  have hl : x.1.2.2.2.2.2.2.2.length ≤ maxLen := Sp.fit_cars fx.1
  simp only [Bool.or_eq_false_iff, Bool.not_eq_false', Sp.within_one, Bool.and_eq_true, decide_eq_true_eq] at h
  have h2 := h.2
  rw [Sp.wrap_i64_of (by omega) (by simp only [maxLen] at hl; omega)] at h2
  exact ⟨⟨by omega, by omega⟩, trivial⟩
theorem ok26 : CtOk Try.prog gdS 26 ct26 :=
  fn_okU (ctxOkF gokGmB1 []) rfl Try.func26 (p := (Ty.pair ty26 ty3)) (psh := [some 8, none]) (r := ty3) (rsh := (Rsh.one (none))) (pre := none) (fresh := none) (F := Sp.F26) (L := noL) (c := bodyOf Try.f26) (dflt := Ty.dflt ty3) rfl (no_loops)
    (safe_no @sa26) va26
def GmB2 : List (Nat × Ct) := (12, ct12) :: (13, ct13) :: (26, ct26) :: GmB1
theorem gokGmB2 : GOk GmB2 := gok_cons ok12 ⟨_, Try.func12, by kernel_rfl, by kernel_rfl⟩ (gok_cons ok13 ⟨_, Try.func13, by kernel_rfl, by kernel_rfl⟩ (gok_cons ok26 ⟨_, Try.func26, by kernel_rfl, by kernel_rfl⟩ (gokGmB1)))
end Go.Proofs.Ytghlpolodjlgjaa.Sy
