/- Contracts of functions, by the evaluator (own program gen.py): building.Valid, overlayref01.Valid. -/
import Derived.Test.YtghlpolodjlgjaaT1
set_option linter.unusedVariables false
set_option linter.unusedSimpArgs false
set_option maxRecDepth 100000
namespace Go.Proofs.Ytghlpolodjlgjaa.Sy
open Go Go.RowKit Sp
/-! building.Valid -/
end Go.Proofs.Ytghlpolodjlgjaa.Sy
namespace Go.Proofs.Ytghlpolodjlgjaa.Sp
open Go Go.RowKit Sy
def in8_7 (k : ((List (Int × Int × Int × Int × Int × Int × Int × Int × Int)) × Int × Int × Int × Int × Int × Nat × Nat × Nat × List (Int × Int × Int × Int × Int × Int × Int × Int × Int))) (x : (Bool × Int)) : Prop := (0 : Int) ≤ x.2 ∧ k.2.1 = ((k.1).length : Int)
def mu8_7 (k : ((List (Int × Int × Int × Int × Int × Int × Int × Int × Int)) × Int × Int × Int × Int × Int × Nat × Nat × Nat × List (Int × Int × Int × Int × Int × Int × Int × Int × Int))) (x : (Bool × Int)) : Nat := (k.2.1 - x.2).toNat
def st8_7 (k : ((List (Int × Int × Int × Int × Int × Int × Int × Int × Int)) × Int × Int × Int × Int × Int × Nat × Nat × Nat × List (Int × Int × Int × Int × Int × Int × Int × Int × Int))) (x : (Bool × Int)) : BOut ((List (Int × Int × Int × Int × Int × Int × Int × Int × Int)) × Int × Int × Int × Int × Int × Nat × Nat × Nat × List (Int × Int × Int × Int × Int × Int × Int × Int × Int)) (Bool × Int) (Int) :=
  bif (decide (x.2 < k.2.1)) then
    BOut.next k ((x.1 && (Sp.F18 ((Sp.nthT k.1 x.2), k.2.2.1))), (IntKind.i64.wrap (x.2 + (1 : Int))))
  else
    BOut.brk k x
def G8_7 (k : ((List (Int × Int × Int × Int × Int × Int × Int × Int × Int)) × Int × Int × Int × Int × Int × Nat × Nat × Nat × List (Int × Int × Int × Int × Int × Int × Int × Int × Int))) (x : (Bool × Int)) : (Bool × Int) := endOf st8_7 k (Nat.succ (mu8_7 k x)) x
end Go.Proofs.Ytghlpolodjlgjaa.Sp
namespace Go.Proofs.Ytghlpolodjlgjaa.Sy
def LS8_7 : LS ty35.den := mkLS (Ty.pair ty24 (Ty.pair ty3 ty26)) (Ty.pair ty4 ty3)  [(28, none), (29, none)] [(1, 8)] [(3, none), (30, none)] [] [] [] [(1, 1)] 0 false Sp.in8_7 Sp.st8_7 Sp.mu8_7
theorem va8_7 (k : (Ty.pair ty24 (Ty.pair ty3 ty26)).den) (x : (Ty.pair ty4 ty3).den) : ((evCode (ctxG GmT1) (lookL []) (bodyAt (bodyOf Try.f8) [0]) (tmpl LS8_7 (enc (Ty.pair ty24 (Ty.pair ty3 ty26)) k) (enc (Ty.pair ty4 ty3) x)) (evRound LS8_7 (evRet (ctxG GmT1) Try.f8 (Rsh.one (none)) none ty35 .ret)))).val BOut.ret (BOut.brk (Ty.dflt (Ty.pair ty24 (Ty.pair ty3 ty26))) (Ty.dflt (Ty.pair ty4 ty3))) = Sp.st8_7 k x := by kernel_rfl
theorem se8_7 (k : (Ty.pair ty24 (Ty.pair ty3 ty26)).den) (x : (Ty.pair ty4 ty3).den) : ((evCode (ctxG GmT1) (lookL []) (bodyAt (bodyOf Try.f8) [0]) (tmpl LS8_7 (enc (Ty.pair ty24 (Ty.pair ty3 ty26)) k) (enc (Ty.pair ty4 ty3) x)) (evRound LS8_7 (evRet (ctxG GmT1) Try.f8 (Rsh.one (none)) none ty35 .ret)))).safe = ((((decide (x.2 < k.2.1)) = true → ((0 ≤ x.2 ∧ x.2 < ((k.1).length : Int)) ∧ True)) ∧ ((decide (x.2 < k.2.1)) = false → True))) := by kernel_rfl
set_option maxHeartbeats 4000000 in
theorem sa8_7 (k : (Ty.pair ty24 (Ty.pair ty3 ty26)).den) (x : (Ty.pair ty4 ty3).den) (fk : Fit (Ty.pair ty24 (Ty.pair ty3 ty26)) k) (fx : Fit (Ty.pair ty4 ty3) x) (h : Sp.in8_7 k x) : SafeW ((evCode (ctxG GmT1) (lookL []) (bodyAt (bodyOf Try.f8) [0]) (tmpl LS8_7 (enc (Ty.pair ty24 (Ty.pair ty3 ty26)) k) (enc (Ty.pair ty4 ty3) x)) (evRound LS8_7 (evRet (ctxG GmT1) Try.f8 (Rsh.one (none)) none ty35 .ret)))) := by
  refine ⟨?_⟩
  rw [se8_7]
  try dsimp only [Ty.den] at *
  simp only [Sp.in8_7, Fit, maxLen] at h fk fx
  simp only [IntKind.wrap_i64, IntKind.wrap_u8, IntKind.wrap_u32, IntKind.wrap_u64, Sp.tmod_lit, Sp.tdiv_lit, bne_eq_false_iff_eq, Int.natCast_inj, setE, copyL, sliceL, zrow, List.length_append, List.length_cons, List.length_nil, List.length_set, List.length_replicate, List.length_take, List.length_drop, decide_eq_true_eq, decide_eq_false_iff_not, Bool.or_eq_true, Bool.and_eq_true, Bool.or_eq_false_iff, Bool.and_eq_false_iff, Bool.not_eq_true', Bool.not_eq_false', Bool.not_eq_true, Bool.not_eq_false, beq_iff_eq, beq_eq_false_iff_ne, bne_iff_ne, ne_eq, implies_true, and_true, true_and] at *
  all_goals ((repeat' (first | exact trivial | apply And.intro | intro _)) <;> first | trivial | omega | exact Sp.tmod_nn (by omega) | exact Sp.tmod_lt (by omega) (by omega))
set_option maxHeartbeats 4000000 in
theorem so8_7 (k : (Ty.pair ty24 (Ty.pair ty3 ty26)).den) (x : (Ty.pair ty4 ty3).den) (fk : Fit (Ty.pair ty24 (Ty.pair ty3 ty26)) k) (h : Sp.in8_7 k x) : StepOk false Sp.in8_7 Sp.mu8_7 k x (Sp.st8_7 k x) := by
  try dsimp only [Ty.den] at *
  simp only [Sp.in8_7, Fit, maxLen] at h fk
  unfold Sp.st8_7
  (repeat' (first | exact rfl | (refine StepOk.cnd (fun hc => ?_) (fun hc => ?_) <;> (try simp only [IntKind.wrap_i64, IntKind.wrap_u8, IntKind.wrap_u32, IntKind.wrap_u64, bne_eq_false_iff_eq, Int.natCast_inj, setE, copyL, sliceL, zrow, List.length_append, List.length_cons, List.length_nil, List.length_set, List.length_replicate, List.length_take, List.length_drop, decide_eq_true_eq, decide_eq_false_iff_not, Bool.or_eq_true, Bool.and_eq_true, Bool.or_eq_false_iff, Bool.and_eq_false_iff, Bool.not_eq_true', Bool.not_eq_false', Bool.not_eq_true, Bool.not_eq_false, beq_iff_eq, beq_eq_false_iff_ne, bne_iff_ne, ne_eq] at hc)) | refine StepOk.opt (fun _ => ?_))) <;> (first | exact rfl | (refine ⟨rfl, ?_, ?_⟩ <;> simp only [Sp.in8_7, Sp.mu8_7, IntKind.wrap_i64, IntKind.wrap_u8, IntKind.wrap_u32, IntKind.wrap_u64, Sp.tmod_lit, Sp.tdiv_lit, bne_eq_false_iff_eq, Int.natCast_inj, setE, copyL, sliceL, zrow, List.length_append, List.length_cons, List.length_nil, List.length_set, List.length_replicate, List.length_take, List.length_drop, decide_eq_true_eq, decide_eq_false_iff_not, Bool.or_eq_true, Bool.and_eq_true, Bool.or_eq_false_iff, Bool.and_eq_false_iff, Bool.not_eq_true', Bool.not_eq_false', Bool.not_eq_true, Bool.not_eq_false, beq_iff_eq, beq_eq_false_iff_ne, bne_iff_ne, ne_eq] <;> first | omega | (and_intros <;> first | omega | exact h.1 | exact h.2 | exact h.2.1 | exact h.2.2 | exact h.2.2.1 | exact h.2.2.2 | exact h.2.2.2.1 | exact h.2.2.2.2 | exact h.2.2.2.2.1 | exact h.2.2.2.2.2 | exact h.2.2.2.2.2.1 | exact h.2.2.2.2.2.2)))
theorem lo8_7 : LoopOk Try.prog gdS (RetAt Try.prog Try.f8 (Rsh.one (none)) none ty35) (bodyAt (bodyOf Try.f8) [0]) LS8_7 :=
  loop_run (ctxOkF gokGmT1 []) (L := lookL []) (loops_of (l := []) (by kernel_rfl) (loops_nil)) sa8_7 va8_7 so8_7
end Go.Proofs.Ytghlpolodjlgjaa.Sy
namespace Go.Proofs.Ytghlpolodjlgjaa.Sp
open Go Go.RowKit Sy
def F8 (x : Int × Int × Int × Int × Nat × Nat × Nat × List (Int × Int × Int × Int × Int × Int × Int × Int × Int)) : Int :=
  bif (!(Sp.F17 ((2 : Int), (32 : Int), [x.1]))) then
    (10 : Int)
  else
    bif (!(Sp.F17 ((1 : Int), (8 : Int), [((x.2.2.2.2.2.2.2).length : Int)]))) then
      (11 : Int)
    else
      bif (!((Sp.G8_7 (x.2.2.2.2.2.2.2, ((x.2.2.2.2.2.2.2).length : Int), x) (((Sp.F17 ((1 : Int), (16 : Int), [x.2.1])) && (Sp.F17 ((1 : Int), (10000 : Int), [x.2.2.2.1]))), (0 : Int))).1)) then
        (12 : Int)
      else
        bif (!(Sp.F19 x)) then
          (13 : Int)
        else
          bif (!(Sp.F17 ((IntKind.i64.wrap ((IntKind.i64.wrap ((18 : Int) * ((x.2.2.2.2.2.2.2).length : Int))) + (24 : Int))), (65536 : Int), [x.2.2.1]))) then
            (14 : Int)
          else
            (0 : Int)
end Go.Proofs.Ytghlpolodjlgjaa.Sp
namespace Go.Proofs.Ytghlpolodjlgjaa.Sy
def ct8 : Ct := { p := ty26, psh := [some 8], r := ty35, rsh := (Rsh.one (none)), pre := none, fresh := none, F := Sp.F8 }
theorem va8 (x : ty26.den) : ((evFn (ctxG GmT1) Try.f8 ty26 [some 8] (Rsh.one (none)) none ty35 (lookL [(7, LS8_7)]) x)).val (fun y => y) (Ty.dflt ty35) = Sp.F8 x := by kernel_rfl
theorem se8 (x : ty26.den) : ((evFn (ctxG GmT1) Try.f8 ty26 [some 8] (Rsh.one (none)) none ty35 (lookL [(7, LS8_7)]) x)).safe = ((((!(Sp.F17 ((2 : Int), (32 : Int), [x.1]))) = true → True) ∧ ((!(Sp.F17 ((2 : Int), (32 : Int), [x.1]))) = false → (((!(Sp.F17 ((1 : Int), (8 : Int), [((x.2.2.2.2.2.2.2).length : Int)]))) = true → True) ∧ ((!(Sp.F17 ((1 : Int), (8 : Int), [((x.2.2.2.2.2.2.2).length : Int)]))) = false → ((Sp.in8_7 (x.2.2.2.2.2.2.2, ((x.2.2.2.2.2.2.2).length : Int), x) (((Sp.F17 ((1 : Int), (16 : Int), [x.2.1])) && (Sp.F17 ((1 : Int), (10000 : Int), [x.2.2.2.1]))), (0 : Int))) ∧ (((!((Sp.G8_7 (x.2.2.2.2.2.2.2, ((x.2.2.2.2.2.2.2).length : Int), x) (((Sp.F17 ((1 : Int), (16 : Int), [x.2.1])) && (Sp.F17 ((1 : Int), (10000 : Int), [x.2.2.2.1]))), (0 : Int))).1)) = true → True) ∧ ((!((Sp.G8_7 (x.2.2.2.2.2.2.2, ((x.2.2.2.2.2.2.2).length : Int), x) (((Sp.F17 ((1 : Int), (16 : Int), [x.2.1])) && (Sp.F17 ((1 : Int), (10000 : Int), [x.2.2.2.1]))), (0 : Int))).1)) = false → (((!(Sp.F19 x)) = true → True) ∧ ((!(Sp.F19 x)) = false → (((!(Sp.F17 ((IntKind.i64.wrap ((IntKind.i64.wrap ((18 : Int) * ((x.2.2.2.2.2.2.2).length : Int))) + (24 : Int))), (65536 : Int), [x.2.2.1]))) = true → True) ∧ ((!(Sp.F17 ((IntKind.i64.wrap ((IntKind.i64.wrap ((18 : Int) * ((x.2.2.2.2.2.2.2).length : Int))) + (24 : Int))), (65536 : Int), [x.2.2.1]))) = false → True)))))))))))) := by kernel_rfl
theorem sa8 (x : ty26.den) (fx : Fit ty26 x) : SafeW ((evFn (ctxG GmT1) Try.f8 ty26 [some 8] (Rsh.one (none)) none ty35 (lookL [(7, LS8_7)]) x)) := by
  refine ⟨?_⟩
  rw [se8]
  try dsimp only [Ty.den] at *
  simp only [Fit, maxLen] at fx
  simp only [Sp.in8_7, IntKind.wrap_i64, IntKind.wrap_u8, IntKind.wrap_u32, IntKind.wrap_u64, Sp.tmod_lit, Sp.tdiv_lit, bne_eq_false_iff_eq, Int.natCast_inj, setE, copyL, sliceL, zrow, List.length_append, List.length_cons, List.length_nil, List.length_set, List.length_replicate, List.length_take, List.length_drop, decide_eq_true_eq, decide_eq_false_iff_not, Bool.or_eq_true, Bool.and_eq_true, Bool.or_eq_false_iff, Bool.and_eq_false_iff, Bool.not_eq_true', Bool.not_eq_false', Bool.not_eq_true, Bool.not_eq_false, beq_iff_eq, beq_eq_false_iff_ne, bne_iff_ne, ne_eq, implies_true, and_true, true_and] at *
  all_goals ((repeat' (first | exact trivial | apply And.intro | intro _)) <;> first | trivial | omega | exact Sp.tmod_nn (by omega) | exact Sp.tmod_lt (by omega) (by omega))
theorem ok8 : CtOk Try.prog gdS 8 ct8 :=
  fn_okU (ctxOkF gokGmT1 []) rfl Try.func8 (p := ty26) (psh := [some 8]) (r := ty35) (rsh := (Rsh.one (none))) (pre := none) (fresh := none) (F := Sp.F8) (L := (lookL [(7, LS8_7)])) (c := bodyOf Try.f8) (dflt := Ty.dflt ty35) rfl (loops_of (l := [bodyAt (bodyOf Try.f8) [0]]) (by kernel_rfl) (loops_cons (s0 := LS8_7) (by kernel_rfl) lo8_7 (loops_nil)))
    (safe_no @sa8) va8
/-! overlayref01.Valid -/
end Go.Proofs.Ytghlpolodjlgjaa.Sy
namespace Go.Proofs.Ytghlpolodjlgjaa.Sp
open Go Go.RowKit Sy
def in9_7 (k : (Int × Int × Int × Int × Nat × Nat × Nat × List (Int × Int × Int × Int × Int × Int × Int × Int × Int))) (x : (Bool × Int)) : Prop := (0 : Int) ≤ x.2
def mu9_7 (k : (Int × Int × Int × Int × Nat × Nat × Nat × List (Int × Int × Int × Int × Int × Int × Int × Int × Int))) (x : (Bool × Int)) : Nat := (((k.2.2.2.2.2.2.2).length : Int) - x.2).toNat
def st9_7 (k : (Int × Int × Int × Int × Nat × Nat × Nat × List (Int × Int × Int × Int × Int × Int × Int × Int × Int))) (x : (Bool × Int)) : BOut (Int × Int × Int × Int × Nat × Nat × Nat × List (Int × Int × Int × Int × Int × Int × Int × Int × Int)) (Bool × Int) (Int) :=
  bif (decide (x.2 < ((k.2.2.2.2.2.2.2).length : Int))) then
    BOut.next k ((x.1 && (Sp.F21 (k, (Sp.nthT k.2.2.2.2.2.2.2 x.2)))), (IntKind.i64.wrap (x.2 + (1 : Int))))
  else
    BOut.brk k x
def G9_7 (k : (Int × Int × Int × Int × Nat × Nat × Nat × List (Int × Int × Int × Int × Int × Int × Int × Int × Int))) (x : (Bool × Int)) : (Bool × Int) := endOf st9_7 k (Nat.succ (mu9_7 k x)) x
end Go.Proofs.Ytghlpolodjlgjaa.Sp
namespace Go.Proofs.Ytghlpolodjlgjaa.Sy
def LS9_7 : LS ty35.den := mkLS ty26 (Ty.pair ty4 ty3)  [] [(1, 8)] [(3, none), (4, none)] [] [] [] [(1, 1)] 0 false Sp.in9_7 Sp.st9_7 Sp.mu9_7
theorem va9_7 (k : ty26.den) (x : (Ty.pair ty4 ty3).den) : ((evCode (ctxG GmT1) (lookL []) (bodyAt (bodyOf Try.f9) [0]) (tmpl LS9_7 (enc ty26 k) (enc (Ty.pair ty4 ty3) x)) (evRound LS9_7 (evRet (ctxG GmT1) Try.f9 (Rsh.one (none)) none ty35 .ret)))).val BOut.ret (BOut.brk (Ty.dflt ty26) (Ty.dflt (Ty.pair ty4 ty3))) = Sp.st9_7 k x := by kernel_rfl
theorem se9_7 (k : ty26.den) (x : (Ty.pair ty4 ty3).den) : ((evCode (ctxG GmT1) (lookL []) (bodyAt (bodyOf Try.f9) [0]) (tmpl LS9_7 (enc ty26 k) (enc (Ty.pair ty4 ty3) x)) (evRound LS9_7 (evRet (ctxG GmT1) Try.f9 (Rsh.one (none)) none ty35 .ret)))).safe = ((((decide (x.2 < ((k.2.2.2.2.2.2.2).length : Int))) = true → (((x.1 = true → 0 ≤ x.2 ∧ x.2 < ((k.2.2.2.2.2.2.2).length : Int))) ∧ True)) ∧ ((decide (x.2 < ((k.2.2.2.2.2.2.2).length : Int))) = false → True))) := by kernel_rfl
set_option maxHeartbeats 4000000 in
theorem sa9_7 (k : ty26.den) (x : (Ty.pair ty4 ty3).den) (fk : Fit ty26 k) (fx : Fit (Ty.pair ty4 ty3) x) (h : Sp.in9_7 k x) : SafeW ((evCode (ctxG GmT1) (lookL []) (bodyAt (bodyOf Try.f9) [0]) (tmpl LS9_7 (enc ty26 k) (enc (Ty.pair ty4 ty3) x)) (evRound LS9_7 (evRet (ctxG GmT1) Try.f9 (Rsh.one (none)) none ty35 .ret)))) := by
  refine ⟨?_⟩
  rw [se9_7]
  try dsimp only [Ty.den] at *
  simp only [Sp.in9_7, Fit, maxLen] at h fk fx
  simp only [IntKind.wrap_i64, IntKind.wrap_u8, IntKind.wrap_u32, IntKind.wrap_u64, Sp.tmod_lit, Sp.tdiv_lit, bne_eq_false_iff_eq, Int.natCast_inj, setE, copyL, sliceL, zrow, List.length_append, List.length_cons, List.length_nil, List.length_set, List.length_replicate, List.length_take, List.length_drop, decide_eq_true_eq, decide_eq_false_iff_not, Bool.or_eq_true, Bool.and_eq_true, Bool.or_eq_false_iff, Bool.and_eq_false_iff, Bool.not_eq_true', Bool.not_eq_false', Bool.not_eq_true, Bool.not_eq_false, beq_iff_eq, beq_eq_false_iff_ne, bne_iff_ne, ne_eq, implies_true, and_true, true_and] at *
  all_goals ((repeat' (first | exact trivial | apply And.intro | intro _)) <;> first | trivial | omega | exact Sp.tmod_nn (by omega) | exact Sp.tmod_lt (by omega) (by omega))
set_option maxHeartbeats 4000000 in
theorem so9_7 (k : ty26.den) (x : (Ty.pair ty4 ty3).den) (fk : Fit ty26 k) (h : Sp.in9_7 k x) : StepOk false Sp.in9_7 Sp.mu9_7 k x (Sp.st9_7 k x) := by
  try dsimp only [Ty.den] at *
  simp only [Sp.in9_7, Fit, maxLen] at h fk
  unfold Sp.st9_7
  (repeat' (first | exact rfl | (refine StepOk.cnd (fun hc => ?_) (fun hc => ?_) <;> (try simp only [IntKind.wrap_i64, IntKind.wrap_u8, IntKind.wrap_u32, IntKind.wrap_u64, bne_eq_false_iff_eq, Int.natCast_inj, setE, copyL, sliceL, zrow, List.length_append, List.length_cons, List.length_nil, List.length_set, List.length_replicate, List.length_take, List.length_drop, decide_eq_true_eq, decide_eq_false_iff_not, Bool.or_eq_true, Bool.and_eq_true, Bool.or_eq_false_iff, Bool.and_eq_false_iff, Bool.not_eq_true', Bool.not_eq_false', Bool.not_eq_true, Bool.not_eq_false, beq_iff_eq, beq_eq_false_iff_ne, bne_iff_ne, ne_eq] at hc)) | refine StepOk.opt (fun _ => ?_))) <;> (first | exact rfl | (refine ⟨rfl, ?_, ?_⟩ <;> simp only [Sp.in9_7, Sp.mu9_7, IntKind.wrap_i64, IntKind.wrap_u8, IntKind.wrap_u32, IntKind.wrap_u64, Sp.tmod_lit, Sp.tdiv_lit, bne_eq_false_iff_eq, Int.natCast_inj, setE, copyL, sliceL, zrow, List.length_append, List.length_cons, List.length_nil, List.length_set, List.length_replicate, List.length_take, List.length_drop, decide_eq_true_eq, decide_eq_false_iff_not, Bool.or_eq_true, Bool.and_eq_true, Bool.or_eq_false_iff, Bool.and_eq_false_iff, Bool.not_eq_true', Bool.not_eq_false', Bool.not_eq_true, Bool.not_eq_false, beq_iff_eq, beq_eq_false_iff_ne, bne_iff_ne, ne_eq] <;> first | omega | (and_intros <;> first | omega | exact h.1 | exact h.2 | exact h.2.1 | exact h.2.2 | exact h.2.2.1 | exact h.2.2.2 | exact h.2.2.2.1 | exact h.2.2.2.2 | exact h.2.2.2.2.1 | exact h.2.2.2.2.2 | exact h.2.2.2.2.2.1 | exact h.2.2.2.2.2.2)))
theorem lo9_7 : LoopOk Try.prog gdS (RetAt Try.prog Try.f9 (Rsh.one (none)) none ty35) (bodyAt (bodyOf Try.f9) [0]) LS9_7 :=
  loop_run (ctxOkF gokGmT1 []) (L := lookL []) (loops_of (l := []) (by kernel_rfl) (loops_nil)) sa9_7 va9_7 so9_7
end Go.Proofs.Ytghlpolodjlgjaa.Sy
namespace Go.Proofs.Ytghlpolodjlgjaa.Sp
open Go Go.RowKit Sy
def F9 (x : Int × Int × Int × Int × Nat × Nat × Nat × List (Int × Int × Int × Int × Int × Int × Int × Int × Int)) : Int :=
  bif (!(Sp.F20 (x.1, (2 : Int), (32 : Int)))) then
    (10 : Int)
  else
    bif (!(Sp.F20 (((x.2.2.2.2.2.2.2).length : Int), (1 : Int), (8 : Int)))) then
      (11 : Int)
    else
      bif (!((Sp.G9_7 x (((Sp.F20 (x.2.1, (1 : Int), (16 : Int))) && (Sp.F20 (x.2.2.2.1, (1 : Int), (10000 : Int)))), (0 : Int))).1)) then
        (12 : Int)
      else
        bif (!(((((FloatKind.f64.format.order (0 : Nat) x.2.2.2.2.1) == some Ordering.lt) && ((FloatKind.f64.format.order x.2.2.2.2.1 x.2.2.2.2.2.1) == some Ordering.lt)) && ((FloatKind.f64.format.order x.2.2.2.2.2.1 x.2.2.2.2.2.2.1) == some Ordering.lt)) && ((FloatKind.f64.format.order x.2.2.2.2.2.2.1 (9218868437227405311 : Nat)) == some Ordering.lt || (FloatKind.f64.format.order x.2.2.2.2.2.2.1 (9218868437227405311 : Nat)) == some Ordering.eq))) then
          (13 : Int)
        else
          bif (!(Sp.F20 (x.2.2.1, (IntKind.i64.wrap ((IntKind.i64.wrap ((18 : Int) * ((x.2.2.2.2.2.2.2).length : Int))) + (24 : Int))), (65536 : Int)))) then
            (14 : Int)
          else
            (0 : Int)
end Go.Proofs.Ytghlpolodjlgjaa.Sp
namespace Go.Proofs.Ytghlpolodjlgjaa.Sy
def ct9 : Ct := { p := ty26, psh := [some 8], r := ty35, rsh := (Rsh.one (none)), pre := none, fresh := none, F := Sp.F9 }
theorem va9 (x : ty26.den) : ((evFn (ctxG GmT1) Try.f9 ty26 [some 8] (Rsh.one (none)) none ty35 (lookL [(7, LS9_7)]) x)).val (fun y => y) (Ty.dflt ty35) = Sp.F9 x := by kernel_rfl
theorem se9 (x : ty26.den) : ((evFn (ctxG GmT1) Try.f9 ty26 [some 8] (Rsh.one (none)) none ty35 (lookL [(7, LS9_7)]) x)).safe = ((((!(Sp.F20 (x.1, (2 : Int), (32 : Int)))) = true → True) ∧ ((!(Sp.F20 (x.1, (2 : Int), (32 : Int)))) = false → (((!(Sp.F20 (((x.2.2.2.2.2.2.2).length : Int), (1 : Int), (8 : Int)))) = true → True) ∧ ((!(Sp.F20 (((x.2.2.2.2.2.2.2).length : Int), (1 : Int), (8 : Int)))) = false → ((Sp.in9_7 x (((Sp.F20 (x.2.1, (1 : Int), (16 : Int))) && (Sp.F20 (x.2.2.2.1, (1 : Int), (10000 : Int)))), (0 : Int))) ∧ (((!((Sp.G9_7 x (((Sp.F20 (x.2.1, (1 : Int), (16 : Int))) && (Sp.F20 (x.2.2.2.1, (1 : Int), (10000 : Int)))), (0 : Int))).1)) = true → True) ∧ ((!((Sp.G9_7 x (((Sp.F20 (x.2.1, (1 : Int), (16 : Int))) && (Sp.F20 (x.2.2.2.1, (1 : Int), (10000 : Int)))), (0 : Int))).1)) = false → (((!(((((FloatKind.f64.format.order (0 : Nat) x.2.2.2.2.1) == some Ordering.lt) && ((FloatKind.f64.format.order x.2.2.2.2.1 x.2.2.2.2.2.1) == some Ordering.lt)) && ((FloatKind.f64.format.order x.2.2.2.2.2.1 x.2.2.2.2.2.2.1) == some Ordering.lt)) && ((FloatKind.f64.format.order x.2.2.2.2.2.2.1 (9218868437227405311 : Nat)) == some Ordering.lt || (FloatKind.f64.format.order x.2.2.2.2.2.2.1 (9218868437227405311 : Nat)) == some Ordering.eq))) = true → True) ∧ ((!(((((FloatKind.f64.format.order (0 : Nat) x.2.2.2.2.1) == some Ordering.lt) && ((FloatKind.f64.format.order x.2.2.2.2.1 x.2.2.2.2.2.1) == some Ordering.lt)) && ((FloatKind.f64.format.order x.2.2.2.2.2.1 x.2.2.2.2.2.2.1) == some Ordering.lt)) && ((FloatKind.f64.format.order x.2.2.2.2.2.2.1 (9218868437227405311 : Nat)) == some Ordering.lt || (FloatKind.f64.format.order x.2.2.2.2.2.2.1 (9218868437227405311 : Nat)) == some Ordering.eq))) = false → (((!(Sp.F20 (x.2.2.1, (IntKind.i64.wrap ((IntKind.i64.wrap ((18 : Int) * ((x.2.2.2.2.2.2.2).length : Int))) + (24 : Int))), (65536 : Int)))) = true → True) ∧ ((!(Sp.F20 (x.2.2.1, (IntKind.i64.wrap ((IntKind.i64.wrap ((18 : Int) * ((x.2.2.2.2.2.2.2).length : Int))) + (24 : Int))), (65536 : Int)))) = false → True)))))))))))) := by kernel_rfl
theorem sa9 (x : ty26.den) (fx : Fit ty26 x) : SafeW ((evFn (ctxG GmT1) Try.f9 ty26 [some 8] (Rsh.one (none)) none ty35 (lookL [(7, LS9_7)]) x)) := by
  refine ⟨?_⟩
  rw [se9]
  try dsimp only [Ty.den] at *
  simp only [Fit, maxLen] at fx
  simp only [Sp.in9_7, IntKind.wrap_i64, IntKind.wrap_u8, IntKind.wrap_u32, IntKind.wrap_u64, Sp.tmod_lit, Sp.tdiv_lit, bne_eq_false_iff_eq, Int.natCast_inj, setE, copyL, sliceL, zrow, List.length_append, List.length_cons, List.length_nil, List.length_set, List.length_replicate, List.length_take, List.length_drop, decide_eq_true_eq, decide_eq_false_iff_not, Bool.or_eq_true, Bool.and_eq_true, Bool.or_eq_false_iff, Bool.and_eq_false_iff, Bool.not_eq_true', Bool.not_eq_false', Bool.not_eq_true, Bool.not_eq_false, beq_iff_eq, beq_eq_false_iff_ne, bne_iff_ne, ne_eq, implies_true, and_true, true_and] at *
  all_goals ((repeat' (first | exact trivial | apply And.intro | intro _)) <;> first | trivial | omega | exact Sp.tmod_nn (by omega) | exact Sp.tmod_lt (by omega) (by omega))
theorem ok9 : CtOk Try.prog gdS 9 ct9 :=
  fn_okU (ctxOkF gokGmT1 []) rfl Try.func9 (p := ty26) (psh := [some 8]) (r := ty35) (rsh := (Rsh.one (none))) (pre := none) (fresh := none) (F := Sp.F9) (L := (lookL [(7, LS9_7)])) (c := bodyOf Try.f9) (dflt := Ty.dflt ty35) rfl (loops_of (l := [bodyAt (bodyOf Try.f9) [0]]) (by kernel_rfl) (loops_cons (s0 := LS9_7) (by kernel_rfl) lo9_7 (loops_nil)))
    (safe_no @sa9) va9
def GmT2 : List (Nat × Ct) := (8, ct8) :: (9, ct9) :: GmT1
theorem gokGmT2 : GOk GmT2 := gok_cons ok8 ⟨_, Try.func8, by kernel_rfl, by kernel_rfl⟩ (gok_cons ok9 ⟨_, Try.func9, by kernel_rfl, by kernel_rfl⟩ (gokGmT1))
end Go.Proofs.Ytghlpolodjlgjaa.Sy
