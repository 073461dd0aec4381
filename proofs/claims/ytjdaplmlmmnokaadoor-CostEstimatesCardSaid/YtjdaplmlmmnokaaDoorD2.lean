/- Contracts of functions, by the evaluator (own program gen.py): overlaylaw21.CostPaths. -/
import Derived.Test.YtjdaplmlmmnokaaDoorD1
set_option linter.unusedVariables false
set_option linter.unusedSimpArgs false
set_option maxRecDepth 100000
namespace Go.Proofs.YtjdaplmlmmnokaaDoor.Sy
open Go Go.RowKit Sp
/-! overlaylaw21.CostPaths -/
end Go.Proofs.YtjdaplmlmmnokaaDoor.Sy
namespace Go.Proofs.YtjdaplmlmmnokaaDoor.Sp
open Go Go.RowKit Sy
def in3_13 (k : (Int × Int × Int × Int × Int × Int × Int)) (x : (Int)) : Prop := (0 : Int) ≤ x
def mu3_13 (k : (Int × Int × Int × Int × Int × Int × Int)) (x : (Int)) : Nat := ((4 : Int) - x).toNat
def st3_13 (k : (Int × Int × Int × Int × Int × Int × Int)) (x : (Int)) : BOut (Int × Int × Int × Int × Int × Int × Int) (Int) (Bool) :=
  bif (decide (x < (4 : Int))) then
    (bif ((Sp.F7 (k.1, k.2.1, k.2.2.1, k.2.2.2.2, k.2.2.2.1, x)) != (Sp.F8 (k.1, k.2.1, k.2.2.1, k.2.2.2.2, k.2.2.2.1, x))) then
      BOut.ret false
    else
      BOut.next k (IntKind.i64.wrap (x + (1 : Int))))
  else
    BOut.brk k x
def G3_13 (k : (Int × Int × Int × Int × Int × Int × Int)) (x : (Int)) : (Int) := endOf st3_13 k (Nat.succ (mu3_13 k x)) x
def R3_13 (k : (Int × Int × Int × Int × Int × Int × Int)) (x : (Int)) : Option (Bool) := retOf st3_13 k (Nat.succ (mu3_13 k x)) x
end Go.Proofs.YtjdaplmlmmnokaaDoor.Sp
namespace Go.Proofs.YtjdaplmlmmnokaaDoor.Sy
def LS3_13 : LS ty4.den := mkLS (Ty.pair ty3 (Ty.pair ty3 (Ty.pair ty3 (Ty.pair ty3 ty26)))) ty3  [(7, none), (9, none), (10, none), (11, none)] [(8, 3)] [(12, none)] [] [] [] [(8, 8)] 6 true Sp.in3_13 Sp.st3_13 Sp.mu3_13
end Go.Proofs.YtjdaplmlmmnokaaDoor.Sy
namespace Go.Proofs.YtjdaplmlmmnokaaDoor.Sp
open Go Go.RowKit Sy
def in3_10 (k : (Int × Int × Int × Int × Int × Int)) (x : (Int)) : Prop := (-1 : Int) ≤ x ∧ k.1 ≤ 40
def mu3_10 (k : (Int × Int × Int × Int × Int × Int)) (x : (Int)) : Nat := (k.1 - x + 1).toNat
def st3_10 (k : (Int × Int × Int × Int × Int × Int)) (x : (Int)) : BOut (Int × Int × Int × Int × Int × Int) (Int) (Bool) :=
  bif (decide (x ≤ k.1)) then
    (Sp.optR (Sp.R3_13 (k.1, k.2.1, k.2.2.1, x, k.2.2.2) (0 : Int)) BOut.ret
    (BOut.next k (IntKind.i64.wrap (x + (1 : Int)))))
  else
    BOut.brk k x
def G3_10 (k : (Int × Int × Int × Int × Int × Int)) (x : (Int)) : (Int) := endOf st3_10 k (Nat.succ (mu3_10 k x)) x
def R3_10 (k : (Int × Int × Int × Int × Int × Int)) (x : (Int)) : Option (Bool) := retOf st3_10 k (Nat.succ (mu3_10 k x)) x
end Go.Proofs.YtjdaplmlmmnokaaDoor.Sp
namespace Go.Proofs.YtjdaplmlmmnokaaDoor.Sy
def LS3_10 : LS ty4.den := mkLS (Ty.pair ty3 (Ty.pair ty3 (Ty.pair ty3 ty26))) ty3  [(7, none), (9, none), (10, none)] [(8, 3)] [(11, none)] [] [] [] [(8, 8)] 4 true Sp.in3_10 Sp.st3_10 Sp.mu3_10
end Go.Proofs.YtjdaplmlmmnokaaDoor.Sy
namespace Go.Proofs.YtjdaplmlmmnokaaDoor.Sp
open Go Go.RowKit Sy
def in3_7 (k : (Int × Int × Int × Int × Int)) (x : (Int)) : Prop := (-1 : Int) ≤ x ∧ k.1 ≤ 40
def mu3_7 (k : (Int × Int × Int × Int × Int)) (x : (Int)) : Nat := ((4 : Int) - x).toNat
def st3_7 (k : (Int × Int × Int × Int × Int)) (x : (Int)) : BOut (Int × Int × Int × Int × Int) (Int) (Bool) :=
  bif (decide (x < (4 : Int))) then
    (Sp.optR (Sp.R3_10 (k.1, k.2.1, x, k.2.2) (-1 : Int)) BOut.ret
    (BOut.next k (IntKind.i64.wrap (x + (1 : Int)))))
  else
    BOut.brk k x
def G3_7 (k : (Int × Int × Int × Int × Int)) (x : (Int)) : (Int) := endOf st3_7 k (Nat.succ (mu3_7 k x)) x
def R3_7 (k : (Int × Int × Int × Int × Int)) (x : (Int)) : Option (Bool) := retOf st3_7 k (Nat.succ (mu3_7 k x)) x
end Go.Proofs.YtjdaplmlmmnokaaDoor.Sp
namespace Go.Proofs.YtjdaplmlmmnokaaDoor.Sy
def LS3_7 : LS ty4.den := mkLS (Ty.pair ty3 (Ty.pair ty3 ty26)) ty3  [(7, none), (9, none)] [(8, 3)] [(10, none)] [] [] [] [(8, 8)] 2 true Sp.in3_7 Sp.st3_7 Sp.mu3_7
end Go.Proofs.YtjdaplmlmmnokaaDoor.Sy
namespace Go.Proofs.YtjdaplmlmmnokaaDoor.Sp
open Go Go.RowKit Sy
def in3_4 (k : (Int × Int × Int × Int)) (x : (Int)) : Prop := (-1 : Int) ≤ x ∧ k.1 ≤ 40
def mu3_4 (k : (Int × Int × Int × Int)) (x : (Int)) : Nat := (k.1 - x + 1).toNat
def st3_4 (k : (Int × Int × Int × Int)) (x : (Int)) : BOut (Int × Int × Int × Int) (Int) (Bool) :=
  bif (decide (x ≤ k.1)) then
    (Sp.optR (Sp.R3_7 (k.1, x, k.2) (-1 : Int)) BOut.ret
    (BOut.next k (IntKind.i64.wrap (x + (1 : Int)))))
  else
    BOut.brk k x
def G3_4 (k : (Int × Int × Int × Int)) (x : (Int)) : (Int) := endOf st3_4 k (Nat.succ (mu3_4 k x)) x
def R3_4 (k : (Int × Int × Int × Int)) (x : (Int)) : Option (Bool) := retOf st3_4 k (Nat.succ (mu3_4 k x)) x
end Go.Proofs.YtjdaplmlmmnokaaDoor.Sp
namespace Go.Proofs.YtjdaplmlmmnokaaDoor.Sy
def LS3_4 : LS ty4.den := mkLS (Ty.pair ty3 ty26) ty3  [(7, none)] [(8, 3)] [(9, none)] [] [] [] [(8, 8)] 0 true Sp.in3_4 Sp.st3_4 Sp.mu3_4
theorem va3_13 (k : (Ty.pair ty3 (Ty.pair ty3 (Ty.pair ty3 (Ty.pair ty3 ty26)))).den) (x : ty3.den) : ((evCode (ctxP PmC0 none GmD1 []) (lookL []) (bodyAt (bodyOf Tryd.f3) [0, 0, 0, 0]) (tmpl LS3_13 (enc (Ty.pair ty3 (Ty.pair ty3 (Ty.pair ty3 (Ty.pair ty3 ty26)))) k) (enc ty3 x)) (evRound LS3_13 (evRet (ctxP PmC0 none GmD1 []) Tryd.f3 (Rsh.one (none)) none ty4 .ret)))).val BOut.ret (BOut.brk (Ty.dflt (Ty.pair ty3 (Ty.pair ty3 (Ty.pair ty3 (Ty.pair ty3 ty26))))) (Ty.dflt ty3)) = Sp.st3_13 k x := by kernel_rfl
theorem se3_13 (k : (Ty.pair ty3 (Ty.pair ty3 (Ty.pair ty3 (Ty.pair ty3 ty26)))).den) (x : ty3.den) : ((evCode (ctxP PmC0 none GmD1 []) (lookL []) (bodyAt (bodyOf Tryd.f3) [0, 0, 0, 0]) (tmpl LS3_13 (enc (Ty.pair ty3 (Ty.pair ty3 (Ty.pair ty3 (Ty.pair ty3 ty26)))) k) (enc ty3 x)) (evRound LS3_13 (evRet (ctxP PmC0 none GmD1 []) Tryd.f3 (Rsh.one (none)) none ty4 .ret)))).safe = ((((decide (x < (4 : Int))) = true → ((((Sp.F7 (k.1, k.2.1, k.2.2.1, k.2.2.2.2, k.2.2.2.1, x)) != (Sp.F8 (k.1, k.2.1, k.2.2.1, k.2.2.2.2, k.2.2.2.1, x))) = true → True) ∧ (((Sp.F7 (k.1, k.2.1, k.2.2.1, k.2.2.2.2, k.2.2.2.1, x)) != (Sp.F8 (k.1, k.2.1, k.2.2.1, k.2.2.2.2, k.2.2.2.1, x))) = false → True))) ∧ ((decide (x < (4 : Int))) = false → True))) := by kernel_rfl
set_option maxHeartbeats 4000000 in
theorem sa3_13 (k : (Ty.pair ty3 (Ty.pair ty3 (Ty.pair ty3 (Ty.pair ty3 ty26)))).den) (x : ty3.den) (fk : Fit (Ty.pair ty3 (Ty.pair ty3 (Ty.pair ty3 (Ty.pair ty3 ty26)))) k) (fx : Fit ty3 x) (h : Sp.in3_13 k x) : SafeW ((evCode (ctxP PmC0 none GmD1 []) (lookL []) (bodyAt (bodyOf Tryd.f3) [0, 0, 0, 0]) (tmpl LS3_13 (enc (Ty.pair ty3 (Ty.pair ty3 (Ty.pair ty3 (Ty.pair ty3 ty26)))) k) (enc ty3 x)) (evRound LS3_13 (evRet (ctxP PmC0 none GmD1 []) Tryd.f3 (Rsh.one (none)) none ty4 .ret)))) := by
  refine ⟨?_⟩
  rw [se3_13]
  try dsimp only [Ty.den] at *
  simp only [Sp.in3_13, Fit, maxLen] at h fk fx
  simp only [IntKind.wrap_i64, IntKind.wrap_u8, IntKind.wrap_u32, IntKind.wrap_u64, Sp.tmod_lit, Sp.tdiv_lit, bne_eq_false_iff_eq, Int.natCast_inj, setE, copyL, sliceL, zrow, List.length_append, List.length_cons, List.length_nil, List.length_set, List.length_replicate, List.length_take, List.length_drop, decide_eq_true_eq, decide_eq_false_iff_not, Bool.or_eq_true, Bool.and_eq_true, Bool.or_eq_false_iff, Bool.and_eq_false_iff, Bool.not_eq_true', Bool.not_eq_false', Bool.not_eq_true, Bool.not_eq_false, beq_iff_eq, beq_eq_false_iff_ne, bne_iff_ne, ne_eq, implies_true, and_true, true_and] at *
  all_goals ((repeat' (first | exact trivial | apply And.intro | intro _)) <;> first | trivial | omega | exact Sp.tmod_nn (by omega) | exact Sp.tmod_lt (by omega) (by omega))
set_option maxHeartbeats 4000000 in
theorem so3_13 (k : (Ty.pair ty3 (Ty.pair ty3 (Ty.pair ty3 (Ty.pair ty3 ty26)))).den) (x : ty3.den) (fk : Fit (Ty.pair ty3 (Ty.pair ty3 (Ty.pair ty3 (Ty.pair ty3 ty26)))) k) (h : Sp.in3_13 k x) : StepOk true Sp.in3_13 Sp.mu3_13 k x (Sp.st3_13 k x) := by
  try dsimp only [Ty.den] at *
  simp only [Sp.in3_13, Fit, maxLen] at h fk
  unfold Sp.st3_13
  (repeat' (first | exact rfl | (refine StepOk.cnd (fun hc => ?_) (fun hc => ?_) <;> (try simp only [IntKind.wrap_i64, IntKind.wrap_u8, IntKind.wrap_u32, IntKind.wrap_u64, bne_eq_false_iff_eq, Int.natCast_inj, setE, copyL, sliceL, zrow, List.length_append, List.length_cons, List.length_nil, List.length_set, List.length_replicate, List.length_take, List.length_drop, decide_eq_true_eq, decide_eq_false_iff_not, Bool.or_eq_true, Bool.and_eq_true, Bool.or_eq_false_iff, Bool.and_eq_false_iff, Bool.not_eq_true', Bool.not_eq_false', Bool.not_eq_true, Bool.not_eq_false, beq_iff_eq, beq_eq_false_iff_ne, bne_iff_ne, ne_eq] at hc)) | refine StepOk.opt (fun _ => ?_))) <;> (first | exact rfl | (refine ⟨rfl, ?_, ?_⟩ <;> simp only [Sp.in3_13, Sp.mu3_13, IntKind.wrap_i64, IntKind.wrap_u8, IntKind.wrap_u32, IntKind.wrap_u64, Sp.tmod_lit, Sp.tdiv_lit, bne_eq_false_iff_eq, Int.natCast_inj, setE, copyL, sliceL, zrow, List.length_append, List.length_cons, List.length_nil, List.length_set, List.length_replicate, List.length_take, List.length_drop, decide_eq_true_eq, decide_eq_false_iff_not, Bool.or_eq_true, Bool.and_eq_true, Bool.or_eq_false_iff, Bool.and_eq_false_iff, Bool.not_eq_true', Bool.not_eq_false', Bool.not_eq_true, Bool.not_eq_false, beq_iff_eq, beq_eq_false_iff_ne, bne_iff_ne, ne_eq] <;> first | omega | (and_intros <;> first | omega | exact h.1 | exact h.2 | exact h.2.1 | exact h.2.2 | exact h.2.2.1 | exact h.2.2.2 | exact h.2.2.2.1 | exact h.2.2.2.2 | exact h.2.2.2.2.1 | exact h.2.2.2.2.2 | exact h.2.2.2.2.2.1 | exact h.2.2.2.2.2.2)))
theorem lo3_13 : LoopOk Tryd.prog gdS (RetAt Tryd.prog Tryd.f3 (Rsh.one (none)) none ty4) (bodyAt (bodyOf Tryd.f3) [0, 0, 0, 0]) LS3_13 :=
  loop_run (ctxOkP pgokPmC0 fvok_none gokGmD1 []) (L := lookL []) (loops_of (l := []) (by kernel_rfl) (loops_nil)) sa3_13 va3_13 so3_13
theorem va3_10 (k : (Ty.pair ty3 (Ty.pair ty3 (Ty.pair ty3 ty26))).den) (x : ty3.den) : ((evCode (ctxP PmC0 none GmD1 []) (lookL [(13, LS3_13)]) (bodyAt (bodyOf Tryd.f3) [0, 0, 0]) (tmpl LS3_10 (enc (Ty.pair ty3 (Ty.pair ty3 (Ty.pair ty3 ty26))) k) (enc ty3 x)) (evRound LS3_10 (evRet (ctxP PmC0 none GmD1 []) Tryd.f3 (Rsh.one (none)) none ty4 .ret)))).val BOut.ret (BOut.brk (Ty.dflt (Ty.pair ty3 (Ty.pair ty3 (Ty.pair ty3 ty26)))) (Ty.dflt ty3)) = Sp.st3_10 k x := by kernel_rfl
theorem se3_10 (k : (Ty.pair ty3 (Ty.pair ty3 (Ty.pair ty3 ty26))).den) (x : ty3.den) : ((evCode (ctxP PmC0 none GmD1 []) (lookL [(13, LS3_13)]) (bodyAt (bodyOf Tryd.f3) [0, 0, 0]) (tmpl LS3_10 (enc (Ty.pair ty3 (Ty.pair ty3 (Ty.pair ty3 ty26))) k) (enc ty3 x)) (evRound LS3_10 (evRet (ctxP PmC0 none GmD1 []) Tryd.f3 (Rsh.one (none)) none ty4 .ret)))).safe = ((((decide (x ≤ k.1)) = true → ((Sp.in3_13 (k.1, k.2.1, k.2.2.1, x, k.2.2.2) (0 : Int)) ∧ ((Sp.R3_13 (k.1, k.2.1, k.2.2.1, x, k.2.2.2) (0 : Int)) = none → True))) ∧ ((decide (x ≤ k.1)) = false → True))) := by kernel_rfl
set_option maxHeartbeats 4000000 in
theorem sa3_10 (k : (Ty.pair ty3 (Ty.pair ty3 (Ty.pair ty3 ty26))).den) (x : ty3.den) (fk : Fit (Ty.pair ty3 (Ty.pair ty3 (Ty.pair ty3 ty26))) k) (fx : Fit ty3 x) (h : Sp.in3_10 k x) : SafeW ((evCode (ctxP PmC0 none GmD1 []) (lookL [(13, LS3_13)]) (bodyAt (bodyOf Tryd.f3) [0, 0, 0]) (tmpl LS3_10 (enc (Ty.pair ty3 (Ty.pair ty3 (Ty.pair ty3 ty26))) k) (enc ty3 x)) (evRound LS3_10 (evRet (ctxP PmC0 none GmD1 []) Tryd.f3 (Rsh.one (none)) none ty4 .ret)))) := by
  refine ⟨?_⟩
  rw [se3_10]
  try dsimp only [Ty.den] at *
  simp only [Sp.in3_10, Fit, maxLen] at h fk fx
  simp only [Sp.in3_13, IntKind.wrap_i64, IntKind.wrap_u8, IntKind.wrap_u32, IntKind.wrap_u64, Sp.tmod_lit, Sp.tdiv_lit, bne_eq_false_iff_eq, Int.natCast_inj, setE, copyL, sliceL, zrow, List.length_append, List.length_cons, List.length_nil, List.length_set, List.length_replicate, List.length_take, List.length_drop, decide_eq_true_eq, decide_eq_false_iff_not, Bool.or_eq_true, Bool.and_eq_true, Bool.or_eq_false_iff, Bool.and_eq_false_iff, Bool.not_eq_true', Bool.not_eq_false', Bool.not_eq_true, Bool.not_eq_false, beq_iff_eq, beq_eq_false_iff_ne, bne_iff_ne, ne_eq, implies_true, and_true, true_and] at *
  all_goals ((repeat' (first | exact trivial | apply And.intro | intro _)) <;> first | trivial | omega | exact Sp.tmod_nn (by omega) | exact Sp.tmod_lt (by omega) (by omega))
set_option maxHeartbeats 4000000 in
theorem so3_10 (k : (Ty.pair ty3 (Ty.pair ty3 (Ty.pair ty3 ty26))).den) (x : ty3.den) (fk : Fit (Ty.pair ty3 (Ty.pair ty3 (Ty.pair ty3 ty26))) k) (h : Sp.in3_10 k x) : StepOk true Sp.in3_10 Sp.mu3_10 k x (Sp.st3_10 k x) := by
  try dsimp only [Ty.den] at *
  simp only [Sp.in3_10, Fit, maxLen] at h fk
  unfold Sp.st3_10
  (repeat' (first | exact rfl | (refine StepOk.cnd (fun hc => ?_) (fun hc => ?_) <;> (try simp only [IntKind.wrap_i64, IntKind.wrap_u8, IntKind.wrap_u32, IntKind.wrap_u64, bne_eq_false_iff_eq, Int.natCast_inj, setE, copyL, sliceL, zrow, List.length_append, List.length_cons, List.length_nil, List.length_set, List.length_replicate, List.length_take, List.length_drop, decide_eq_true_eq, decide_eq_false_iff_not, Bool.or_eq_true, Bool.and_eq_true, Bool.or_eq_false_iff, Bool.and_eq_false_iff, Bool.not_eq_true', Bool.not_eq_false', Bool.not_eq_true, Bool.not_eq_false, beq_iff_eq, beq_eq_false_iff_ne, bne_iff_ne, ne_eq] at hc)) | refine StepOk.opt (fun _ => ?_))) <;> (first | exact rfl | (refine ⟨rfl, ?_, ?_⟩ <;> simp only [Sp.in3_10, Sp.mu3_10, IntKind.wrap_i64, IntKind.wrap_u8, IntKind.wrap_u32, IntKind.wrap_u64, Sp.tmod_lit, Sp.tdiv_lit, bne_eq_false_iff_eq, Int.natCast_inj, setE, copyL, sliceL, zrow, List.length_append, List.length_cons, List.length_nil, List.length_set, List.length_replicate, List.length_take, List.length_drop, decide_eq_true_eq, decide_eq_false_iff_not, Bool.or_eq_true, Bool.and_eq_true, Bool.or_eq_false_iff, Bool.and_eq_false_iff, Bool.not_eq_true', Bool.not_eq_false', Bool.not_eq_true, Bool.not_eq_false, beq_iff_eq, beq_eq_false_iff_ne, bne_iff_ne, ne_eq] <;> first | omega | (and_intros <;> first | omega | exact h.1 | exact h.2 | exact h.2.1 | exact h.2.2 | exact h.2.2.1 | exact h.2.2.2 | exact h.2.2.2.1 | exact h.2.2.2.2 | exact h.2.2.2.2.1 | exact h.2.2.2.2.2 | exact h.2.2.2.2.2.1 | exact h.2.2.2.2.2.2)))
theorem lo3_10 : LoopOk Tryd.prog gdS (RetAt Tryd.prog Tryd.f3 (Rsh.one (none)) none ty4) (bodyAt (bodyOf Tryd.f3) [0, 0, 0]) LS3_10 :=
  loop_run (ctxOkP pgokPmC0 fvok_none gokGmD1 []) (L := lookL [(13, LS3_13)]) (loops_of (l := [bodyAt (bodyOf Tryd.f3) [0, 0, 0, 0]]) (by kernel_rfl) (loops_cons (s0 := LS3_13) (by kernel_rfl) lo3_13 (loops_nil))) sa3_10 va3_10 so3_10
theorem va3_7 (k : (Ty.pair ty3 (Ty.pair ty3 ty26)).den) (x : ty3.den) : ((evCode (ctxP PmC0 none GmD1 []) (lookL [(13, LS3_13), (10, LS3_10)]) (bodyAt (bodyOf Tryd.f3) [0, 0]) (tmpl LS3_7 (enc (Ty.pair ty3 (Ty.pair ty3 ty26)) k) (enc ty3 x)) (evRound LS3_7 (evRet (ctxP PmC0 none GmD1 []) Tryd.f3 (Rsh.one (none)) none ty4 .ret)))).val BOut.ret (BOut.brk (Ty.dflt (Ty.pair ty3 (Ty.pair ty3 ty26))) (Ty.dflt ty3)) = Sp.st3_7 k x := by kernel_rfl
theorem se3_7 (k : (Ty.pair ty3 (Ty.pair ty3 ty26)).den) (x : ty3.den) : ((evCode (ctxP PmC0 none GmD1 []) (lookL [(13, LS3_13), (10, LS3_10)]) (bodyAt (bodyOf Tryd.f3) [0, 0]) (tmpl LS3_7 (enc (Ty.pair ty3 (Ty.pair ty3 ty26)) k) (enc ty3 x)) (evRound LS3_7 (evRet (ctxP PmC0 none GmD1 []) Tryd.f3 (Rsh.one (none)) none ty4 .ret)))).safe = ((((decide (x < (4 : Int))) = true → ((Sp.in3_10 (k.1, k.2.1, x, k.2.2) (-1 : Int)) ∧ ((Sp.R3_10 (k.1, k.2.1, x, k.2.2) (-1 : Int)) = none → True))) ∧ ((decide (x < (4 : Int))) = false → True))) := by kernel_rfl
set_option maxHeartbeats 4000000 in
theorem sa3_7 (k : (Ty.pair ty3 (Ty.pair ty3 ty26)).den) (x : ty3.den) (fk : Fit (Ty.pair ty3 (Ty.pair ty3 ty26)) k) (fx : Fit ty3 x) (h : Sp.in3_7 k x) : SafeW ((evCode (ctxP PmC0 none GmD1 []) (lookL [(13, LS3_13), (10, LS3_10)]) (bodyAt (bodyOf Tryd.f3) [0, 0]) (tmpl LS3_7 (enc (Ty.pair ty3 (Ty.pair ty3 ty26)) k) (enc ty3 x)) (evRound LS3_7 (evRet (ctxP PmC0 none GmD1 []) Tryd.f3 (Rsh.one (none)) none ty4 .ret)))) := by
  refine ⟨?_⟩
  rw [se3_7]
  try dsimp only [Ty.den] at *
  simp only [Sp.in3_7, Fit, maxLen] at h fk fx
  simp only [Sp.in3_10, IntKind.wrap_i64, IntKind.wrap_u8, IntKind.wrap_u32, IntKind.wrap_u64, Sp.tmod_lit, Sp.tdiv_lit, bne_eq_false_iff_eq, Int.natCast_inj, setE, copyL, sliceL, zrow, List.length_append, List.length_cons, List.length_nil, List.length_set, List.length_replicate, List.length_take, List.length_drop, decide_eq_true_eq, decide_eq_false_iff_not, Bool.or_eq_true, Bool.and_eq_true, Bool.or_eq_false_iff, Bool.and_eq_false_iff, Bool.not_eq_true', Bool.not_eq_false', Bool.not_eq_true, Bool.not_eq_false, beq_iff_eq, beq_eq_false_iff_ne, bne_iff_ne, ne_eq, implies_true, and_true, true_and] at *
  all_goals ((repeat' (first | exact trivial | apply And.intro | intro _)) <;> first | trivial | omega | exact Sp.tmod_nn (by omega) | exact Sp.tmod_lt (by omega) (by omega))
set_option maxHeartbeats 4000000 in
theorem so3_7 (k : (Ty.pair ty3 (Ty.pair ty3 ty26)).den) (x : ty3.den) (fk : Fit (Ty.pair ty3 (Ty.pair ty3 ty26)) k) (h : Sp.in3_7 k x) : StepOk true Sp.in3_7 Sp.mu3_7 k x (Sp.st3_7 k x) := by
  try dsimp only [Ty.den] at *
  simp only [Sp.in3_7, Fit, maxLen] at h fk
  unfold Sp.st3_7
  (repeat' (first | exact rfl | (refine StepOk.cnd (fun hc => ?_) (fun hc => ?_) <;> (try simp only [IntKind.wrap_i64, IntKind.wrap_u8, IntKind.wrap_u32, IntKind.wrap_u64, bne_eq_false_iff_eq, Int.natCast_inj, setE, copyL, sliceL, zrow, List.length_append, List.length_cons, List.length_nil, List.length_set, List.length_replicate, List.length_take, List.length_drop, decide_eq_true_eq, decide_eq_false_iff_not, Bool.or_eq_true, Bool.and_eq_true, Bool.or_eq_false_iff, Bool.and_eq_false_iff, Bool.not_eq_true', Bool.not_eq_false', Bool.not_eq_true, Bool.not_eq_false, beq_iff_eq, beq_eq_false_iff_ne, bne_iff_ne, ne_eq] at hc)) | refine StepOk.opt (fun _ => ?_))) <;> (first | exact rfl | (refine ⟨rfl, ?_, ?_⟩ <;> simp only [Sp.in3_7, Sp.mu3_7, IntKind.wrap_i64, IntKind.wrap_u8, IntKind.wrap_u32, IntKind.wrap_u64, Sp.tmod_lit, Sp.tdiv_lit, bne_eq_false_iff_eq, Int.natCast_inj, setE, copyL, sliceL, zrow, List.length_append, List.length_cons, List.length_nil, List.length_set, List.length_replicate, List.length_take, List.length_drop, decide_eq_true_eq, decide_eq_false_iff_not, Bool.or_eq_true, Bool.and_eq_true, Bool.or_eq_false_iff, Bool.and_eq_false_iff, Bool.not_eq_true', Bool.not_eq_false', Bool.not_eq_true, Bool.not_eq_false, beq_iff_eq, beq_eq_false_iff_ne, bne_iff_ne, ne_eq] <;> first | omega | (and_intros <;> first | omega | exact h.1 | exact h.2 | exact h.2.1 | exact h.2.2 | exact h.2.2.1 | exact h.2.2.2 | exact h.2.2.2.1 | exact h.2.2.2.2 | exact h.2.2.2.2.1 | exact h.2.2.2.2.2 | exact h.2.2.2.2.2.1 | exact h.2.2.2.2.2.2)))
theorem lo3_7 : LoopOk Tryd.prog gdS (RetAt Tryd.prog Tryd.f3 (Rsh.one (none)) none ty4) (bodyAt (bodyOf Tryd.f3) [0, 0]) LS3_7 :=
  loop_run (ctxOkP pgokPmC0 fvok_none gokGmD1 []) (L := lookL [(13, LS3_13), (10, LS3_10)]) (loops_of (l := [bodyAt (bodyOf Tryd.f3) [0, 0, 0]]) (by kernel_rfl) (loops_cons (s0 := LS3_10) (by kernel_rfl) lo3_10 (loops_nil))) sa3_7 va3_7 so3_7
theorem va3_4 (k : (Ty.pair ty3 ty26).den) (x : ty3.den) : ((evCode (ctxP PmC0 none GmD1 []) (lookL [(13, LS3_13), (10, LS3_10), (7, LS3_7)]) (bodyAt (bodyOf Tryd.f3) [0]) (tmpl LS3_4 (enc (Ty.pair ty3 ty26) k) (enc ty3 x)) (evRound LS3_4 (evRet (ctxP PmC0 none GmD1 []) Tryd.f3 (Rsh.one (none)) none ty4 .ret)))).val BOut.ret (BOut.brk (Ty.dflt (Ty.pair ty3 ty26)) (Ty.dflt ty3)) = Sp.st3_4 k x := by kernel_rfl
theorem se3_4 (k : (Ty.pair ty3 ty26).den) (x : ty3.den) : ((evCode (ctxP PmC0 none GmD1 []) (lookL [(13, LS3_13), (10, LS3_10), (7, LS3_7)]) (bodyAt (bodyOf Tryd.f3) [0]) (tmpl LS3_4 (enc (Ty.pair ty3 ty26) k) (enc ty3 x)) (evRound LS3_4 (evRet (ctxP PmC0 none GmD1 []) Tryd.f3 (Rsh.one (none)) none ty4 .ret)))).safe = ((((decide (x ≤ k.1)) = true → ((Sp.in3_7 (k.1, x, k.2) (-1 : Int)) ∧ ((Sp.R3_7 (k.1, x, k.2) (-1 : Int)) = none → True))) ∧ ((decide (x ≤ k.1)) = false → True))) := by kernel_rfl
set_option maxHeartbeats 4000000 in
theorem sa3_4 (k : (Ty.pair ty3 ty26).den) (x : ty3.den) (fk : Fit (Ty.pair ty3 ty26) k) (fx : Fit ty3 x) (h : Sp.in3_4 k x) : SafeW ((evCode (ctxP PmC0 none GmD1 []) (lookL [(13, LS3_13), (10, LS3_10), (7, LS3_7)]) (bodyAt (bodyOf Tryd.f3) [0]) (tmpl LS3_4 (enc (Ty.pair ty3 ty26) k) (enc ty3 x)) (evRound LS3_4 (evRet (ctxP PmC0 none GmD1 []) Tryd.f3 (Rsh.one (none)) none ty4 .ret)))) := by
  refine ⟨?_⟩
  rw [se3_4]
  try dsimp only [Ty.den] at *
  simp only [Sp.in3_4, Fit, maxLen] at h fk fx
  simp only [Sp.in3_7, IntKind.wrap_i64, IntKind.wrap_u8, IntKind.wrap_u32, IntKind.wrap_u64, Sp.tmod_lit, Sp.tdiv_lit, bne_eq_false_iff_eq, Int.natCast_inj, setE, copyL, sliceL, zrow, List.length_append, List.length_cons, List.length_nil, List.length_set, List.length_replicate, List.length_take, List.length_drop, decide_eq_true_eq, decide_eq_false_iff_not, Bool.or_eq_true, Bool.and_eq_true, Bool.or_eq_false_iff, Bool.and_eq_false_iff, Bool.not_eq_true', Bool.not_eq_false', Bool.not_eq_true, Bool.not_eq_false, beq_iff_eq, beq_eq_false_iff_ne, bne_iff_ne, ne_eq, implies_true, and_true, true_and] at *
  all_goals ((repeat' (first | exact trivial | apply And.intro | intro _)) <;> first | trivial | omega | exact Sp.tmod_nn (by omega) | exact Sp.tmod_lt (by omega) (by omega))
set_option maxHeartbeats 4000000 in
theorem so3_4 (k : (Ty.pair ty3 ty26).den) (x : ty3.den) (fk : Fit (Ty.pair ty3 ty26) k) (h : Sp.in3_4 k x) : StepOk true Sp.in3_4 Sp.mu3_4 k x (Sp.st3_4 k x) := by
  try dsimp only [Ty.den] at *
  simp only [Sp.in3_4, Fit, maxLen] at h fk
  unfold Sp.st3_4
  (repeat' (first | exact rfl | (refine StepOk.cnd (fun hc => ?_) (fun hc => ?_) <;> (try simp only [IntKind.wrap_i64, IntKind.wrap_u8, IntKind.wrap_u32, IntKind.wrap_u64, bne_eq_false_iff_eq, Int.natCast_inj, setE, copyL, sliceL, zrow, List.length_append, List.length_cons, List.length_nil, List.length_set, List.length_replicate, List.length_take, List.length_drop, decide_eq_true_eq, decide_eq_false_iff_not, Bool.or_eq_true, Bool.and_eq_true, Bool.or_eq_false_iff, Bool.and_eq_false_iff, Bool.not_eq_true', Bool.not_eq_false', Bool.not_eq_true, Bool.not_eq_false, beq_iff_eq, beq_eq_false_iff_ne, bne_iff_ne, ne_eq] at hc)) | refine StepOk.opt (fun _ => ?_))) <;> (first | exact rfl | (refine ⟨rfl, ?_, ?_⟩ <;> simp only [Sp.in3_4, Sp.mu3_4, IntKind.wrap_i64, IntKind.wrap_u8, IntKind.wrap_u32, IntKind.wrap_u64, Sp.tmod_lit, Sp.tdiv_lit, bne_eq_false_iff_eq, Int.natCast_inj, setE, copyL, sliceL, zrow, List.length_append, List.length_cons, List.length_nil, List.length_set, List.length_replicate, List.length_take, List.length_drop, decide_eq_true_eq, decide_eq_false_iff_not, Bool.or_eq_true, Bool.and_eq_true, Bool.or_eq_false_iff, Bool.and_eq_false_iff, Bool.not_eq_true', Bool.not_eq_false', Bool.not_eq_true, Bool.not_eq_false, beq_iff_eq, beq_eq_false_iff_ne, bne_iff_ne, ne_eq] <;> first | omega | (and_intros <;> first | omega | exact h.1 | exact h.2 | exact h.2.1 | exact h.2.2 | exact h.2.2.1 | exact h.2.2.2 | exact h.2.2.2.1 | exact h.2.2.2.2 | exact h.2.2.2.2.1 | exact h.2.2.2.2.2 | exact h.2.2.2.2.2.1 | exact h.2.2.2.2.2.2)))
theorem lo3_4 : LoopOk Tryd.prog gdS (RetAt Tryd.prog Tryd.f3 (Rsh.one (none)) none ty4) (bodyAt (bodyOf Tryd.f3) [0]) LS3_4 :=
  loop_run (ctxOkP pgokPmC0 fvok_none gokGmD1 []) (L := lookL [(13, LS3_13), (10, LS3_10), (7, LS3_7)]) (loops_of (l := [bodyAt (bodyOf Tryd.f3) [0, 0]]) (by kernel_rfl) (loops_cons (s0 := LS3_7) (by kernel_rfl) lo3_7 (loops_nil))) sa3_4 va3_4 so3_4
end Go.Proofs.YtjdaplmlmmnokaaDoor.Sy
namespace Go.Proofs.YtjdaplmlmmnokaaDoor.Sp
open Go Go.RowKit Sy
def K3_1 (x : Int × (Int × Int × Int) × Int × Int × Int × Int) :=
  (Sp.G3_4 ((IntKind.i64.wrap ((2 : Int) + (IntKind.i64.wrap (Int.tmod x.1 (12 : Int))))), (IntKind.u32.wrap ((BitVec.ofInt IntKind.u32.bits x.2.1.1 &&& BitVec.ofInt IntKind.u32.bits (Int.fdiv x.2.1.1 (2 ^ (min ((5 : Int)).toNat IntKind.u32.bits)))).toNat : Int)), (IntKind.u32.wrap ((BitVec.ofInt IntKind.u32.bits x.2.1.2.1 &&& BitVec.ofInt IntKind.u32.bits x.2.1.1).toNat : Int)), (IntKind.u32.wrap ((BitVec.ofInt IntKind.u32.bits x.2.1.2.2 &&& BitVec.ofInt IntKind.u32.bits x.2.1.2.1).toNat : Int))) (-1 : Int))
def F3 (x : Int × (Int × Int × Int) × Int × Int × Int × Int) : Bool :=
  Sp.optR (Sp.R3_4 ((IntKind.i64.wrap ((2 : Int) + (IntKind.i64.wrap (Int.tmod x.1 (12 : Int))))), (IntKind.u32.wrap ((BitVec.ofInt IntKind.u32.bits x.2.1.1 &&& BitVec.ofInt IntKind.u32.bits (Int.fdiv x.2.1.1 (2 ^ (min ((5 : Int)).toNat IntKind.u32.bits)))).toNat : Int)), (IntKind.u32.wrap ((BitVec.ofInt IntKind.u32.bits x.2.1.2.1 &&& BitVec.ofInt IntKind.u32.bits x.2.1.1).toNat : Int)), (IntKind.u32.wrap ((BitVec.ofInt IntKind.u32.bits x.2.1.2.2 &&& BitVec.ofInt IntKind.u32.bits x.2.1.2.1).toNat : Int))) (-1 : Int)) (fun y => y)
  ((((((Sp.F7 ((IntKind.i64.wrap x.1), x.2.2.1, x.2.2.2.1, x.2.1, x.2.2.2.2)) == (Sp.F8 ((IntKind.i64.wrap x.1), x.2.2.1, x.2.2.2.1, x.2.1, x.2.2.2.2))) && ((Sp.F9 ((IntKind.i64.wrap ((2 : Int) + (IntKind.i64.wrap (Int.tmod x.1 (12 : Int))))), x.2.1)) == (Sp.F10 ((IntKind.i64.wrap ((2 : Int) + (IntKind.i64.wrap (Int.tmod x.1 (12 : Int))))), x.2.1)))) && ((Sp.F9 ((IntKind.i64.wrap x.1), x.2.1)) == (Sp.F10 ((IntKind.i64.wrap x.1), x.2.1)))) && (Sp.F11 ())))
def pre3 (x : Int × (Int × Int × Int) × Int × Int × Int × Int) : Prop := 0 ≤ x.1 ∧ x.1 ≤ 255
end Go.Proofs.YtjdaplmlmmnokaaDoor.Sp
namespace Go.Proofs.YtjdaplmlmmnokaaDoor.Sy
def ct3 : Ct := { p := (Ty.pair ty5 (Ty.pair ty26 ty28)), psh := [none, some 3, some 4], r := ty4, rsh := (Rsh.one (none)), pre := some Sp.pre3, fresh := none, F := Sp.F3 }
theorem va3 (x : (Ty.pair ty5 (Ty.pair ty26 ty28)).den) : ((evFn (ctxP PmC0 none GmD1 []) Tryd.f3 (Ty.pair ty5 (Ty.pair ty26 ty28)) [none, some 3, some 4] (Rsh.one (none)) none ty4 (lookL [(13, LS3_13), (10, LS3_10), (7, LS3_7), (4, LS3_4)]) x)).val (fun y => y) (Ty.dflt ty4) = Sp.F3 x := by kernel_rfl
theorem se3 (x : (Ty.pair ty5 (Ty.pair ty26 ty28)).den) : ((evFn (ctxP PmC0 none GmD1 []) Tryd.f3 (Ty.pair ty5 (Ty.pair ty26 ty28)) [none, some 3, some 4] (Rsh.one (none)) none ty4 (lookL [(13, LS3_13), (10, LS3_10), (7, LS3_7), (4, LS3_4)]) x)).safe = ((((12 : Int) ≠ 0) ∧ ((0 ≤ (5 : Int)) ∧ ((Sp.in3_4 ((IntKind.i64.wrap ((2 : Int) + (IntKind.i64.wrap (Int.tmod x.1 (12 : Int))))), (IntKind.u32.wrap ((BitVec.ofInt IntKind.u32.bits x.2.1.1 &&& BitVec.ofInt IntKind.u32.bits (Int.fdiv x.2.1.1 (2 ^ (min ((5 : Int)).toNat IntKind.u32.bits)))).toNat : Int)), (IntKind.u32.wrap ((BitVec.ofInt IntKind.u32.bits x.2.1.2.1 &&& BitVec.ofInt IntKind.u32.bits x.2.1.1).toNat : Int)), (IntKind.u32.wrap ((BitVec.ofInt IntKind.u32.bits x.2.1.2.2 &&& BitVec.ofInt IntKind.u32.bits x.2.1.2.1).toNat : Int))) (-1 : Int)) ∧ ((Sp.R3_4 ((IntKind.i64.wrap ((2 : Int) + (IntKind.i64.wrap (Int.tmod x.1 (12 : Int))))), (IntKind.u32.wrap ((BitVec.ofInt IntKind.u32.bits x.2.1.1 &&& BitVec.ofInt IntKind.u32.bits (Int.fdiv x.2.1.1 (2 ^ (min ((5 : Int)).toNat IntKind.u32.bits)))).toNat : Int)), (IntKind.u32.wrap ((BitVec.ofInt IntKind.u32.bits x.2.1.2.1 &&& BitVec.ofInt IntKind.u32.bits x.2.1.1).toNat : Int)), (IntKind.u32.wrap ((BitVec.ofInt IntKind.u32.bits x.2.1.2.2 &&& BitVec.ofInt IntKind.u32.bits x.2.1.2.1).toNat : Int))) (-1 : Int)) = none → True))))) := by kernel_rfl
theorem sa3 (x : (Ty.pair ty5 (Ty.pair ty26 ty28)).den) (fx : Fit (Ty.pair ty5 (Ty.pair ty26 ty28)) x) (h : Sp.pre3 x) : SafeW ((evFn (ctxP PmC0 none GmD1 []) Tryd.f3 (Ty.pair ty5 (Ty.pair ty26 ty28)) [none, some 3, some 4] (Rsh.one (none)) none ty4 (lookL [(13, LS3_13), (10, LS3_10), (7, LS3_7), (4, LS3_4)]) x)) := by
  refine ⟨?_⟩
  rw [se3]
  try dsimp only [Ty.den] at *
  simp only [Fit, maxLen] at fx
  simp only [Sp.in3_13, Sp.in3_10, Sp.in3_7, Sp.in3_4, Sp.pre3, IntKind.wrap_i64, IntKind.wrap_u8, IntKind.wrap_u32, IntKind.wrap_u64, Sp.tmod_lit, Sp.tdiv_lit, bne_eq_false_iff_eq, Int.natCast_inj, setE, copyL, sliceL, zrow, List.length_append, List.length_cons, List.length_nil, List.length_set, List.length_replicate, List.length_take, List.length_drop, decide_eq_true_eq, decide_eq_false_iff_not, Bool.or_eq_true, Bool.and_eq_true, Bool.or_eq_false_iff, Bool.and_eq_false_iff, Bool.not_eq_true', Bool.not_eq_false', Bool.not_eq_true, Bool.not_eq_false, beq_iff_eq, beq_eq_false_iff_ne, bne_iff_ne, ne_eq, implies_true, and_true, true_and] at *
  all_goals ((repeat' (first | exact trivial | apply And.intro | intro _)) <;> first | trivial | omega | exact Sp.tmod_nn (by omega) | exact Sp.tmod_lt (by omega) (by omega))
theorem ok3 : CtOk Tryd.prog gdS 3 ct3 :=
  fn_okU (ctxOkP pgokPmC0 fvok_none gokGmD1 []) rfl Tryd.func3 (p := (Ty.pair ty5 (Ty.pair ty26 ty28))) (psh := [none, some 3, some 4]) (r := ty4) (rsh := (Rsh.one (none))) (pre := some Sp.pre3) (fresh := none) (F := Sp.F3) (L := (lookL [(13, LS3_13), (10, LS3_10), (7, LS3_7), (4, LS3_4)])) (c := bodyOf Tryd.f3) (dflt := Ty.dflt ty4) rfl (loops_of (l := [bodyAt (bodyOf Tryd.f3) [0]]) (by kernel_rfl) (loops_cons (s0 := LS3_4) (by kernel_rfl) lo3_4 (loops_nil)))
    (safe_pre @sa3) va3
def GmD2 : List (Nat × Ct) := (3, ct3) :: GmD1
theorem gokGmD2 : GOk GmD2 := gok_cons ok3 ⟨_, Tryd.func3, by kernel_rfl, by kernel_rfl⟩ (gokGmD1)
end Go.Proofs.YtjdaplmlmmnokaaDoor.Sy
