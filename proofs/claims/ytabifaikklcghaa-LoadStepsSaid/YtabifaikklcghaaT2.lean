/- Contracts of functions, by the evaluator (own program gen.py): building.Valid, overlayref01.Valid. -/
import Derived.Test.YtabifaikklcghaaT1
set_option linter.unusedVariables false
set_option linter.unusedSimpArgs false
set_option maxRecDepth 100000
namespace Go.Proofs.Ytabifaikklcghaa.Sy
open Go Go.RowKit Sp
/-! building.Valid -/
end Go.Proofs.Ytabifaikklcghaa.Sy
namespace Go.Proofs.Ytabifaikklcghaa.Sp
open Go Go.RowKit Sy
def in37_7 (k : ((List (Int × Int × Int × Int × Int × Int × Int × Int × Int)) × Int × Int × Int × Int × Int × Nat × Nat × Nat × List (Int × Int × Int × Int × Int × Int × Int × Int × Int))) (x : (Bool × Int)) : Prop := (0 : Int) ≤ x.2 ∧ k.2.1 = ((k.1).length : Int)
def mu37_7 (k : ((List (Int × Int × Int × Int × Int × Int × Int × Int × Int)) × Int × Int × Int × Int × Int × Nat × Nat × Nat × List (Int × Int × Int × Int × Int × Int × Int × Int × Int))) (x : (Bool × Int)) : Nat := (k.2.1 - x.2).toNat
def st37_7 (k : ((List (Int × Int × Int × Int × Int × Int × Int × Int × Int)) × Int × Int × Int × Int × Int × Nat × Nat × Nat × List (Int × Int × Int × Int × Int × Int × Int × Int × Int))) (x : (Bool × Int)) : BOut ((List (Int × Int × Int × Int × Int × Int × Int × Int × Int)) × Int × Int × Int × Int × Int × Nat × Nat × Nat × List (Int × Int × Int × Int × Int × Int × Int × Int × Int)) (Bool × Int) (Int) :=
  bif (decide (x.2 < k.2.1)) then
    BOut.next k ((x.1 && (Sp.F49 ((Sp.nthT k.1 x.2), k.2.2.1))), (IntKind.i64.wrap (x.2 + (1 : Int))))
  else
    BOut.brk k x
def G37_7 (k : ((List (Int × Int × Int × Int × Int × Int × Int × Int × Int)) × Int × Int × Int × Int × Int × Nat × Nat × Nat × List (Int × Int × Int × Int × Int × Int × Int × Int × Int))) (x : (Bool × Int)) : (Bool × Int) := endOf st37_7 k (Nat.succ (mu37_7 k x)) x
end Go.Proofs.Ytabifaikklcghaa.Sp
namespace Go.Proofs.Ytabifaikklcghaa.Sy
def LS37_7 : LS ty30.den := mkLS (Ty.pair ty26 (Ty.pair ty3 ty28)) (Ty.pair ty4 ty3)  [(28, none), (29, none)] [(1, 8)] [(3, none), (30, none)] [] [] [] [(1, 1)] 0 false Sp.in37_7 Sp.st37_7 Sp.mu37_7
theorem va37_7 (k : (Ty.pair ty26 (Ty.pair ty3 ty28)).den) (x : (Ty.pair ty4 ty3).den) : ((evCode (ctxG GmT1) (lookL []) (bodyAt (bodyOf Try.f37) [0]) (tmpl LS37_7 (enc (Ty.pair ty26 (Ty.pair ty3 ty28)) k) (enc (Ty.pair ty4 ty3) x)) (evRound LS37_7 (evRet (ctxG GmT1) Try.f37 (Rsh.one (none)) none ty30 .ret)))).val BOut.ret (BOut.brk (Ty.dflt (Ty.pair ty26 (Ty.pair ty3 ty28))) (Ty.dflt (Ty.pair ty4 ty3))) = Sp.st37_7 k x := by kernel_rfl
theorem se37_7 (k : (Ty.pair ty26 (Ty.pair ty3 ty28)).den) (x : (Ty.pair ty4 ty3).den) : ((evCode (ctxG GmT1) (lookL []) (bodyAt (bodyOf Try.f37) [0]) (tmpl LS37_7 (enc (Ty.pair ty26 (Ty.pair ty3 ty28)) k) (enc (Ty.pair ty4 ty3) x)) (evRound LS37_7 (evRet (ctxG GmT1) Try.f37 (Rsh.one (none)) none ty30 .ret)))).safe = ((((decide (x.2 < k.2.1)) = true → ((0 ≤ x.2 ∧ x.2 < ((k.1).length : Int)) ∧ True)) ∧ ((decide (x.2 < k.2.1)) = false → True))) := by kernel_rfl
set_option maxHeartbeats 4000000 in
theorem sa37_7 (k : (Ty.pair ty26 (Ty.pair ty3 ty28)).den) (x : (Ty.pair ty4 ty3).den) (fk : Fit (Ty.pair ty26 (Ty.pair ty3 ty28)) k) (fx : Fit (Ty.pair ty4 ty3) x) (h : Sp.in37_7 k x) : SafeW ((evCode (ctxG GmT1) (lookL []) (bodyAt (bodyOf Try.f37) [0]) (tmpl LS37_7 (enc (Ty.pair ty26 (Ty.pair ty3 ty28)) k) (enc (Ty.pair ty4 ty3) x)) (evRound LS37_7 (evRet (ctxG GmT1) Try.f37 (Rsh.one (none)) none ty30 .ret)))) := by
  refine ⟨?_⟩
  rw [se37_7]
  try dsimp only [Ty.den] at *
  simp only [Sp.in37_7, Fit, maxLen] at h fk fx
  simp only [IntKind.wrap_i64, IntKind.wrap_u8, IntKind.wrap_u32, IntKind.wrap_u64, Sp.tmod_lit, Sp.tdiv_lit, bne_eq_false_iff_eq, Int.natCast_inj, setE, copyL, sliceL, zrow, List.length_append, List.length_cons, List.length_nil, List.length_set, List.length_replicate, List.length_take, List.length_drop, decide_eq_true_eq, decide_eq_false_iff_not, Bool.or_eq_true, Bool.and_eq_true, Bool.or_eq_false_iff, Bool.and_eq_false_iff, Bool.not_eq_true', Bool.not_eq_false', Bool.not_eq_true, Bool.not_eq_false, beq_iff_eq, beq_eq_false_iff_ne, bne_iff_ne, ne_eq, implies_true, and_true, true_and] at *
  all_goals ((repeat' (first | exact trivial | apply And.intro | intro _)) <;> first | trivial | omega | exact Sp.tmod_nn (by omega) | exact Sp.tmod_lt (by omega) (by omega))
set_option maxHeartbeats 4000000 in
theorem so37_7 (k : (Ty.pair ty26 (Ty.pair ty3 ty28)).den) (x : (Ty.pair ty4 ty3).den) (fk : Fit (Ty.pair ty26 (Ty.pair ty3 ty28)) k) (h : Sp.in37_7 k x) : StepOk false Sp.in37_7 Sp.mu37_7 k x (Sp.st37_7 k x) := by
  try dsimp only [Ty.den] at *
  simp only [Sp.in37_7, Fit, maxLen] at h fk
  unfold Sp.st37_7
  (repeat' (first | exact rfl | (refine StepOk.cnd (fun hc => ?_) (fun hc => ?_) <;> (try simp only [IntKind.wrap_i64, IntKind.wrap_u8, IntKind.wrap_u32, IntKind.wrap_u64, bne_eq_false_iff_eq, Int.natCast_inj, setE, copyL, sliceL, zrow, List.length_append, List.length_cons, List.length_nil, List.length_set, List.length_replicate, List.length_take, List.length_drop, decide_eq_true_eq, decide_eq_false_iff_not, Bool.or_eq_true, Bool.and_eq_true, Bool.or_eq_false_iff, Bool.and_eq_false_iff, Bool.not_eq_true', Bool.not_eq_false', Bool.not_eq_true, Bool.not_eq_false, beq_iff_eq, beq_eq_false_iff_ne, bne_iff_ne, ne_eq] at hc)) | refine StepOk.opt (fun _ => ?_))) <;> (first | exact rfl | (refine ⟨rfl, ?_, ?_⟩ <;> simp only [Sp.in37_7, Sp.mu37_7, IntKind.wrap_i64, IntKind.wrap_u8, IntKind.wrap_u32, IntKind.wrap_u64, Sp.tmod_lit, Sp.tdiv_lit, bne_eq_false_iff_eq, Int.natCast_inj, setE, copyL, sliceL, zrow, List.length_append, List.length_cons, List.length_nil, List.length_set, List.length_replicate, List.length_take, List.length_drop, decide_eq_true_eq, decide_eq_false_iff_not, Bool.or_eq_true, Bool.and_eq_true, Bool.or_eq_false_iff, Bool.and_eq_false_iff, Bool.not_eq_true', Bool.not_eq_false', Bool.not_eq_true, Bool.not_eq_false, beq_iff_eq, beq_eq_false_iff_ne, bne_iff_ne, ne_eq] <;> first | omega | (and_intros <;> first | omega | exact h.1 | exact h.2 | exact h.2.1 | exact h.2.2 | exact h.2.2.1 | exact h.2.2.2 | exact h.2.2.2.1 | exact h.2.2.2.2 | exact h.2.2.2.2.1 | exact h.2.2.2.2.2 | exact h.2.2.2.2.2.1 | exact h.2.2.2.2.2.2)))
theorem lo37_7 : LoopOk Try.prog gdS (RetAt Try.prog Try.f37 (Rsh.one (none)) none ty30) (bodyAt (bodyOf Try.f37) [0]) LS37_7 :=
  loop_run (ctxOkF gokGmT1 []) (L := lookL []) (loops_of (l := []) (by kernel_rfl) (loops_nil)) sa37_7 va37_7 so37_7
end Go.Proofs.Ytabifaikklcghaa.Sy
namespace Go.Proofs.Ytabifaikklcghaa.Sp
open Go Go.RowKit Sy
def F37 (x : Int × Int × Int × Int × Nat × Nat × Nat × List (Int × Int × Int × Int × Int × Int × Int × Int × Int)) : Int :=
  bif (!(Sp.F48 ((2 : Int), (32 : Int), [x.1]))) then
    (10 : Int)
  else
    bif (!(Sp.F48 ((1 : Int), (8 : Int), [((x.2.2.2.2.2.2.2).length : Int)]))) then
      (11 : Int)
    else
      bif (!((Sp.G37_7 (x.2.2.2.2.2.2.2, ((x.2.2.2.2.2.2.2).length : Int), x) (((Sp.F48 ((1 : Int), (16 : Int), [x.2.1])) && (Sp.F48 ((1 : Int), (10000 : Int), [x.2.2.2.1]))), (0 : Int))).1)) then
        (12 : Int)
      else
        bif (!(Sp.F50 x)) then
          (13 : Int)
        else
          bif (!(Sp.F48 ((IntKind.i64.wrap ((IntKind.i64.wrap ((18 : Int) * ((x.2.2.2.2.2.2.2).length : Int))) + (24 : Int))), (65536 : Int), [x.2.2.1]))) then
            (14 : Int)
          else
            (0 : Int)
end Go.Proofs.Ytabifaikklcghaa.Sp
namespace Go.Proofs.Ytabifaikklcghaa.Sy
def ct37 : Ct := { p := ty28, psh := [some 8], r := ty30, rsh := (Rsh.one (none)), pre := none, fresh := none, F := Sp.F37 }
theorem va37 (x : ty28.den) : ((evFn (ctxG GmT1) Try.f37 ty28 [some 8] (Rsh.one (none)) none ty30 (lookL [(7, LS37_7)]) x)).val (fun y => y) (Ty.dflt ty30) = Sp.F37 x := by kernel_rfl
theorem se37 (x : ty28.den) : ((evFn (ctxG GmT1) Try.f37 ty28 [some 8] (Rsh.one (none)) none ty30 (lookL [(7, LS37_7)]) x)).safe = ((((!(Sp.F48 ((2 : Int), (32 : Int), [x.1]))) = true → True) ∧ ((!(Sp.F48 ((2 : Int), (32 : Int), [x.1]))) = false → (((!(Sp.F48 ((1 : Int), (8 : Int), [((x.2.2.2.2.2.2.2).length : Int)]))) = true → True) ∧ ((!(Sp.F48 ((1 : Int), (8 : Int), [((x.2.2.2.2.2.2.2).length : Int)]))) = false → ((Sp.in37_7 (x.2.2.2.2.2.2.2, ((x.2.2.2.2.2.2.2).length : Int), x) (((Sp.F48 ((1 : Int), (16 : Int), [x.2.1])) && (Sp.F48 ((1 : Int), (10000 : Int), [x.2.2.2.1]))), (0 : Int))) ∧ (((!((Sp.G37_7 (x.2.2.2.2.2.2.2, ((x.2.2.2.2.2.2.2).length : Int), x) (((Sp.F48 ((1 : Int), (16 : Int), [x.2.1])) && (Sp.F48 ((1 : Int), (10000 : Int), [x.2.2.2.1]))), (0 : Int))).1)) = true → True) ∧ ((!((Sp.G37_7 (x.2.2.2.2.2.2.2, ((x.2.2.2.2.2.2.2).length : Int), x) (((Sp.F48 ((1 : Int), (16 : Int), [x.2.1])) && (Sp.F48 ((1 : Int), (10000 : Int), [x.2.2.2.1]))), (0 : Int))).1)) = false → (((!(Sp.F50 x)) = true → True) ∧ ((!(Sp.F50 x)) = false → (((!(Sp.F48 ((IntKind.i64.wrap ((IntKind.i64.wrap ((18 : Int) * ((x.2.2.2.2.2.2.2).length : Int))) + (24 : Int))), (65536 : Int), [x.2.2.1]))) = true → True) ∧ ((!(Sp.F48 ((IntKind.i64.wrap ((IntKind.i64.wrap ((18 : Int) * ((x.2.2.2.2.2.2.2).length : Int))) + (24 : Int))), (65536 : Int), [x.2.2.1]))) = false → True)))))))))))) := by kernel_rfl
theorem sa37 (x : ty28.den) (fx : Fit ty28 x) : SafeW ((evFn (ctxG GmT1) Try.f37 ty28 [some 8] (Rsh.one (none)) none ty30 (lookL [(7, LS37_7)]) x)) := by
  refine ⟨?_⟩
  rw [se37]
  try dsimp only [Ty.den] at *
  simp only [Fit, maxLen] at fx
  simp only [Sp.in37_7, IntKind.wrap_i64, IntKind.wrap_u8, IntKind.wrap_u32, IntKind.wrap_u64, Sp.tmod_lit, Sp.tdiv_lit, bne_eq_false_iff_eq, Int.natCast_inj, setE, copyL, sliceL, zrow, List.length_append, List.length_cons, List.length_nil, List.length_set, List.length_replicate, List.length_take, List.length_drop, decide_eq_true_eq, decide_eq_false_iff_not, Bool.or_eq_true, Bool.and_eq_true, Bool.or_eq_false_iff, Bool.and_eq_false_iff, Bool.not_eq_true', Bool.not_eq_false', Bool.not_eq_true, Bool.not_eq_false, beq_iff_eq, beq_eq_false_iff_ne, bne_iff_ne, ne_eq, implies_true, and_true, true_and] at *
  all_goals ((repeat' (first | exact trivial | apply And.intro | intro _)) <;> first | trivial | omega | exact Sp.tmod_nn (by omega) | exact Sp.tmod_lt (by omega) (by omega))
theorem ok37 : CtOk Try.prog gdS 37 ct37 :=
  fn_okU (ctxOkF gokGmT1 []) rfl Try.func37 (p := ty28) (psh := [some 8]) (r := ty30) (rsh := (Rsh.one (none))) (pre := none) (fresh := none) (F := Sp.F37) (L := (lookL [(7, LS37_7)])) (c := bodyOf Try.f37) (dflt := Ty.dflt ty30) rfl (loops_of (l := [bodyAt (bodyOf Try.f37) [0]]) (by kernel_rfl) (loops_cons (s0 := LS37_7) (by kernel_rfl) lo37_7 (loops_nil)))
    (safe_no @sa37) va37
/-! overlayref01.Valid -/
end Go.Proofs.Ytabifaikklcghaa.Sy
namespace Go.Proofs.Ytabifaikklcghaa.Sp
open Go Go.RowKit Sy
def in40_7 (k : (Int × Int × Int × Int × Nat × Nat × Nat × List (Int × Int × Int × Int × Int × Int × Int × Int × Int))) (x : (Bool × Int)) : Prop := (0 : Int) ≤ x.2
def mu40_7 (k : (Int × Int × Int × Int × Nat × Nat × Nat × List (Int × Int × Int × Int × Int × Int × Int × Int × Int))) (x : (Bool × Int)) : Nat := (((k.2.2.2.2.2.2.2).length : Int) - x.2).toNat
def st40_7 (k : (Int × Int × Int × Int × Nat × Nat × Nat × List (Int × Int × Int × Int × Int × Int × Int × Int × Int))) (x : (Bool × Int)) : BOut (Int × Int × Int × Int × Nat × Nat × Nat × List (Int × Int × Int × Int × Int × Int × Int × Int × Int)) (Bool × Int) (Int) :=
  bif (decide (x.2 < ((k.2.2.2.2.2.2.2).length : Int))) then
    BOut.next k ((x.1 && (Sp.F53 (k, (Sp.nthT k.2.2.2.2.2.2.2 x.2)))), (IntKind.i64.wrap (x.2 + (1 : Int))))
  else
    BOut.brk k x
def G40_7 (k : (Int × Int × Int × Int × Nat × Nat × Nat × List (Int × Int × Int × Int × Int × Int × Int × Int × Int))) (x : (Bool × Int)) : (Bool × Int) := endOf st40_7 k (Nat.succ (mu40_7 k x)) x
end Go.Proofs.Ytabifaikklcghaa.Sp
namespace Go.Proofs.Ytabifaikklcghaa.Sy
def LS40_7 : LS ty30.den := mkLS ty28 (Ty.pair ty4 ty3)  [] [(1, 8)] [(3, none), (4, none)] [] [] [] [(1, 1)] 0 false Sp.in40_7 Sp.st40_7 Sp.mu40_7
theorem va40_7 (k : ty28.den) (x : (Ty.pair ty4 ty3).den) : ((evCode (ctxG GmT1) (lookL []) (bodyAt (bodyOf Try.f40) [0]) (tmpl LS40_7 (enc ty28 k) (enc (Ty.pair ty4 ty3) x)) (evRound LS40_7 (evRet (ctxG GmT1) Try.f40 (Rsh.one (none)) none ty30 .ret)))).val BOut.ret (BOut.brk (Ty.dflt ty28) (Ty.dflt (Ty.pair ty4 ty3))) = Sp.st40_7 k x := by kernel_rfl
theorem se40_7 (k : ty28.den) (x : (Ty.pair ty4 ty3).den) : ((evCode (ctxG GmT1) (lookL []) (bodyAt (bodyOf Try.f40) [0]) (tmpl LS40_7 (enc ty28 k) (enc (Ty.pair ty4 ty3) x)) (evRound LS40_7 (evRet (ctxG GmT1) Try.f40 (Rsh.one (none)) none ty30 .ret)))).safe = ((((decide (x.2 < ((k.2.2.2.2.2.2.2).length : Int))) = true → (((x.1 = true → 0 ≤ x.2 ∧ x.2 < ((k.2.2.2.2.2.2.2).length : Int))) ∧ True)) ∧ ((decide (x.2 < ((k.2.2.2.2.2.2.2).length : Int))) = false → True))) := by kernel_rfl
set_option maxHeartbeats 4000000 in
theorem sa40_7 (k : ty28.den) (x : (Ty.pair ty4 ty3).den) (fk : Fit ty28 k) (fx : Fit (Ty.pair ty4 ty3) x) (h : Sp.in40_7 k x) : SafeW ((evCode (ctxG GmT1) (lookL []) (bodyAt (bodyOf Try.f40) [0]) (tmpl LS40_7 (enc ty28 k) (enc (Ty.pair ty4 ty3) x)) (evRound LS40_7 (evRet (ctxG GmT1) Try.f40 (Rsh.one (none)) none ty30 .ret)))) := by
  refine ⟨?_⟩
  rw [se40_7]
  try dsimp only [Ty.den] at *
  simp only [Sp.in40_7, Fit, maxLen] at h fk fx
  simp only [IntKind.wrap_i64, IntKind.wrap_u8, IntKind.wrap_u32, IntKind.wrap_u64, Sp.tmod_lit, Sp.tdiv_lit, bne_eq_false_iff_eq, Int.natCast_inj, setE, copyL, sliceL, zrow, List.length_append, List.length_cons, List.length_nil, List.length_set, List.length_replicate, List.length_take, List.length_drop, decide_eq_true_eq, decide_eq_false_iff_not, Bool.or_eq_true, Bool.and_eq_true, Bool.or_eq_false_iff, Bool.and_eq_false_iff, Bool.not_eq_true', Bool.not_eq_false', Bool.not_eq_true, Bool.not_eq_false, beq_iff_eq, beq_eq_false_iff_ne, bne_iff_ne, ne_eq, implies_true, and_true, true_and] at *
  all_goals ((repeat' (first | exact trivial | apply And.intro | intro _)) <;> first | trivial | omega | exact Sp.tmod_nn (by omega) | exact Sp.tmod_lt (by omega) (by omega))
set_option maxHeartbeats 4000000 in
theorem so40_7 (k : ty28.den) (x : (Ty.pair ty4 ty3).den) (fk : Fit ty28 k) (h : Sp.in40_7 k x) : StepOk false Sp.in40_7 Sp.mu40_7 k x (Sp.st40_7 k x) := by
  try dsimp only [Ty.den] at *
  simp only [Sp.in40_7, Fit, maxLen] at h fk
  unfold Sp.st40_7
  (repeat' (first | exact rfl | (refine StepOk.cnd (fun hc => ?_) (fun hc => ?_) <;> (try simp only [IntKind.wrap_i64, IntKind.wrap_u8, IntKind.wrap_u32, IntKind.wrap_u64, bne_eq_false_iff_eq, Int.natCast_inj, setE, copyL, sliceL, zrow, List.length_append, List.length_cons, List.length_nil, List.length_set, List.length_replicate, List.length_take, List.length_drop, decide_eq_true_eq, decide_eq_false_iff_not, Bool.or_eq_true, Bool.and_eq_true, Bool.or_eq_false_iff, Bool.and_eq_false_iff, Bool.not_eq_true', Bool.not_eq_false', Bool.not_eq_true, Bool.not_eq_false, beq_iff_eq, beq_eq_false_iff_ne, bne_iff_ne, ne_eq] at hc)) | refine StepOk.opt (fun _ => ?_))) <;> (first | exact rfl | (refine ⟨rfl, ?_, ?_⟩ <;> simp only [Sp.in40_7, Sp.mu40_7, IntKind.wrap_i64, IntKind.wrap_u8, IntKind.wrap_u32, IntKind.wrap_u64, Sp.tmod_lit, Sp.tdiv_lit, bne_eq_false_iff_eq, Int.natCast_inj, setE, copyL, sliceL, zrow, List.length_append, List.length_cons, List.length_nil, List.length_set, List.length_replicate, List.length_take, List.length_drop, decide_eq_true_eq, decide_eq_false_iff_not, Bool.or_eq_true, Bool.and_eq_true, Bool.or_eq_false_iff, Bool.and_eq_false_iff, Bool.not_eq_true', Bool.not_eq_false', Bool.not_eq_true, Bool.not_eq_false, beq_iff_eq, beq_eq_false_iff_ne, bne_iff_ne, ne_eq] <;> first | omega | (and_intros <;> first | omega | exact h.1 | exact h.2 | exact h.2.1 | exact h.2.2 | exact h.2.2.1 | exact h.2.2.2 | exact h.2.2.2.1 | exact h.2.2.2.2 | exact h.2.2.2.2.1 | exact h.2.2.2.2.2 | exact h.2.2.2.2.2.1 | exact h.2.2.2.2.2.2)))
theorem lo40_7 : LoopOk Try.prog gdS (RetAt Try.prog Try.f40 (Rsh.one (none)) none ty30) (bodyAt (bodyOf Try.f40) [0]) LS40_7 :=
  loop_run (ctxOkF gokGmT1 []) (L := lookL []) (loops_of (l := []) (by kernel_rfl) (loops_nil)) sa40_7 va40_7 so40_7
end Go.Proofs.Ytabifaikklcghaa.Sy
namespace Go.Proofs.Ytabifaikklcghaa.Sp
open Go Go.RowKit Sy
def F40 (x : Int × Int × Int × Int × Nat × Nat × Nat × List (Int × Int × Int × Int × Int × Int × Int × Int × Int)) : Int :=
  bif (!(Sp.F52 (x.1, (2 : Int), (32 : Int)))) then
    (10 : Int)
  else
    bif (!(Sp.F52 (((x.2.2.2.2.2.2.2).length : Int), (1 : Int), (8 : Int)))) then
      (11 : Int)
    else
      bif (!((Sp.G40_7 x (((Sp.F52 (x.2.1, (1 : Int), (16 : Int))) && (Sp.F52 (x.2.2.2.1, (1 : Int), (10000 : Int)))), (0 : Int))).1)) then
        (12 : Int)
      else
        bif (!(((((FloatKind.f64.format.order (0 : Nat) x.2.2.2.2.1) == some Ordering.lt) && ((FloatKind.f64.format.order x.2.2.2.2.1 x.2.2.2.2.2.1) == some Ordering.lt)) && ((FloatKind.f64.format.order x.2.2.2.2.2.1 x.2.2.2.2.2.2.1) == some Ordering.lt)) && ((FloatKind.f64.format.order x.2.2.2.2.2.2.1 (9218868437227405311 : Nat)) == some Ordering.lt || (FloatKind.f64.format.order x.2.2.2.2.2.2.1 (9218868437227405311 : Nat)) == some Ordering.eq))) then
          (13 : Int)
        else
          bif (!(Sp.F52 (x.2.2.1, (IntKind.i64.wrap ((IntKind.i64.wrap ((18 : Int) * ((x.2.2.2.2.2.2.2).length : Int))) + (24 : Int))), (65536 : Int)))) then
            (14 : Int)
          else
            (0 : Int)
end Go.Proofs.Ytabifaikklcghaa.Sp
namespace Go.Proofs.Ytabifaikklcghaa.Sy
def ct40 : Ct := { p := ty28, psh := [some 8], r := ty30, rsh := (Rsh.one (none)), pre := none, fresh := none, F := Sp.F40 }
theorem va40 (x : ty28.den) : ((evFn (ctxG GmT1) Try.f40 ty28 [some 8] (Rsh.one (none)) none ty30 (lookL [(7, LS40_7)]) x)).val (fun y => y) (Ty.dflt ty30) = Sp.F40 x := by kernel_rfl
theorem se40 (x : ty28.den) : ((evFn (ctxG GmT1) Try.f40 ty28 [some 8] (Rsh.one (none)) none ty30 (lookL [(7, LS40_7)]) x)).safe = ((((!(Sp.F52 (x.1, (2 : Int), (32 : Int)))) = true → True) ∧ ((!(Sp.F52 (x.1, (2 : Int), (32 : Int)))) = false → (((!(Sp.F52 (((x.2.2.2.2.2.2.2).length : Int), (1 : Int), (8 : Int)))) = true → True) ∧ ((!(Sp.F52 (((x.2.2.2.2.2.2.2).length : Int), (1 : Int), (8 : Int)))) = false → ((Sp.in40_7 x (((Sp.F52 (x.2.1, (1 : Int), (16 : Int))) && (Sp.F52 (x.2.2.2.1, (1 : Int), (10000 : Int)))), (0 : Int))) ∧ (((!((Sp.G40_7 x (((Sp.F52 (x.2.1, (1 : Int), (16 : Int))) && (Sp.F52 (x.2.2.2.1, (1 : Int), (10000 : Int)))), (0 : Int))).1)) = true → True) ∧ ((!((Sp.G40_7 x (((Sp.F52 (x.2.1, (1 : Int), (16 : Int))) && (Sp.F52 (x.2.2.2.1, (1 : Int), (10000 : Int)))), (0 : Int))).1)) = false → (((!(((((FloatKind.f64.format.order (0 : Nat) x.2.2.2.2.1) == some Ordering.lt) && ((FloatKind.f64.format.order x.2.2.2.2.1 x.2.2.2.2.2.1) == some Ordering.lt)) && ((FloatKind.f64.format.order x.2.2.2.2.2.1 x.2.2.2.2.2.2.1) == some Ordering.lt)) && ((FloatKind.f64.format.order x.2.2.2.2.2.2.1 (9218868437227405311 : Nat)) == some Ordering.lt || (FloatKind.f64.format.order x.2.2.2.2.2.2.1 (9218868437227405311 : Nat)) == some Ordering.eq))) = true → True) ∧ ((!(((((FloatKind.f64.format.order (0 : Nat) x.2.2.2.2.1) == some Ordering.lt) && ((FloatKind.f64.format.order x.2.2.2.2.1 x.2.2.2.2.2.1) == some Ordering.lt)) && ((FloatKind.f64.format.order x.2.2.2.2.2.1 x.2.2.2.2.2.2.1) == some Ordering.lt)) && ((FloatKind.f64.format.order x.2.2.2.2.2.2.1 (9218868437227405311 : Nat)) == some Ordering.lt || (FloatKind.f64.format.order x.2.2.2.2.2.2.1 (9218868437227405311 : Nat)) == some Ordering.eq))) = false → (((!(Sp.F52 (x.2.2.1, (IntKind.i64.wrap ((IntKind.i64.wrap ((18 : Int) * ((x.2.2.2.2.2.2.2).length : Int))) + (24 : Int))), (65536 : Int)))) = true → True) ∧ ((!(Sp.F52 (x.2.2.1, (IntKind.i64.wrap ((IntKind.i64.wrap ((18 : Int) * ((x.2.2.2.2.2.2.2).length : Int))) + (24 : Int))), (65536 : Int)))) = false → True)))))))))))) := by kernel_rfl
theorem sa40 (x : ty28.den) (fx : Fit ty28 x) : SafeW ((evFn (ctxG GmT1) Try.f40 ty28 [some 8] (Rsh.one (none)) none ty30 (lookL [(7, LS40_7)]) x)) := by
  refine ⟨?_⟩
  rw [se40]
  try dsimp only [Ty.den] at *
  simp only [Fit, maxLen] at fx
  simp only [Sp.in40_7, IntKind.wrap_i64, IntKind.wrap_u8, IntKind.wrap_u32, IntKind.wrap_u64, Sp.tmod_lit, Sp.tdiv_lit, bne_eq_false_iff_eq, Int.natCast_inj, setE, copyL, sliceL, zrow, List.length_append, List.length_cons, List.length_nil, List.length_set, List.length_replicate, List.length_take, List.length_drop, decide_eq_true_eq, decide_eq_false_iff_not, Bool.or_eq_true, Bool.and_eq_true, Bool.or_eq_false_iff, Bool.and_eq_false_iff, Bool.not_eq_true', Bool.not_eq_false', Bool.not_eq_true, Bool.not_eq_false, beq_iff_eq, beq_eq_false_iff_ne, bne_iff_ne, ne_eq, implies_true, and_true, true_and] at *
  all_goals ((repeat' (first | exact trivial | apply And.intro | intro _)) <;> first | trivial | omega | exact Sp.tmod_nn (by omega) | exact Sp.tmod_lt (by omega) (by omega))
theorem ok40 : CtOk Try.prog gdS 40 ct40 :=
  fn_okU (ctxOkF gokGmT1 []) rfl Try.func40 (p := ty28) (psh := [some 8]) (r := ty30) (rsh := (Rsh.one (none))) (pre := none) (fresh := none) (F := Sp.F40) (L := (lookL [(7, LS40_7)])) (c := bodyOf Try.f40) (dflt := Ty.dflt ty30) rfl (loops_of (l := [bodyAt (bodyOf Try.f40) [0]]) (by kernel_rfl) (loops_cons (s0 := LS40_7) (by kernel_rfl) lo40_7 (loops_nil)))
    (safe_no @sa40) va40
def GmT2 : List (Nat × Ct) := (37, ct37) :: (40, ct40) :: GmT1
theorem gokGmT2 : GOk GmT2 := gok_cons ok37 ⟨_, Try.func37, by kernel_rfl, by kernel_rfl⟩ (gok_cons ok40 ⟨_, Try.func40, by kernel_rfl, by kernel_rfl⟩ (gokGmT1))
end Go.Proofs.Ytabifaikklcghaa.Sy
