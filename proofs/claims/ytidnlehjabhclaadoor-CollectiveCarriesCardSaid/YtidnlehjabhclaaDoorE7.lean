/- Contracts of functions, by the evaluator (own program gen.py): overlaylaw11.CollectiveChooses. -/
import Derived.Test.YtidnlehjabhclaaDoorE6
set_option linter.unusedVariables false
set_option linter.unusedSimpArgs false
set_option maxRecDepth 100000
namespace Go.Proofs.YtidnlehjabhclaaDoor.Sy
open Go Go.RowKit Sp
/-! overlaylaw11.CollectiveChooses -/
end Go.Proofs.YtidnlehjabhclaaDoor.Sy
namespace Go.Proofs.YtidnlehjabhclaaDoor.Sp
open Go Go.RowKit Sy
def in7_9 (k : (Int × Int × Int × Int × Int × Int)) (x : (Int)) : Prop := (0 : Int) ≤ x
def mu7_9 (k : (Int × Int × Int × Int × Int × Int)) (x : (Int)) : Nat := ((8 : Int) - x).toNat
def K7_9_1 (k : (Int × Int × Int × Int × Int × Int)) (x : (Int)) :=
  (Sp.F16 (k.1, ((k.2.2.1, x), k.2.1), (IntKind.u32.wrap ((BitVec.ofInt IntKind.u32.bits k.2.2.2.1 &&& BitVec.ofInt IntKind.u32.bits (Int.fdiv k.2.2.2.1 (2 ^ (min ((3 : Int)).toNat IntKind.u32.bits)))).toNat : Int)), (IntKind.u32.wrap ((BitVec.ofInt IntKind.u32.bits k.2.2.2.2.1 &&& BitVec.ofInt IntKind.u32.bits k.2.2.2.1).toNat : Int)), (0 : Int)))
def st7_9 (k : (Int × Int × Int × Int × Int × Int)) (x : (Int)) : BOut (Int × Int × Int × Int × Int × Int) (Int) (Bool) :=
  bif (decide (x < (8 : Int))) then
    (bif (((!(Sp.F16 (k.1, ((k.2.2.1, x), k.2.1), k.2.2.2))) || (!(Sp.F16 (k.1, ((k.2.2.1, x), k.2.1), (Sp.F8 (k.2.2.2, (4 : Int))))))) || (!(Sp.K7_9_1 k x))) then
      BOut.ret false
    else
      BOut.next k (IntKind.i64.wrap (x + (1 : Int))))
  else
    BOut.brk k x
def G7_9 (k : (Int × Int × Int × Int × Int × Int)) (x : (Int)) : (Int) := endOf st7_9 k (Nat.succ (mu7_9 k x)) x
def R7_9 (k : (Int × Int × Int × Int × Int × Int)) (x : (Int)) : Option (Bool) := retOf st7_9 k (Nat.succ (mu7_9 k x)) x
end Go.Proofs.YtidnlehjabhclaaDoor.Sp
namespace Go.Proofs.YtidnlehjabhclaaDoor.Sy
def LS7_9 : LS ty4.den := mkLS (Ty.pair ty3 (Ty.pair ty3 (Ty.pair ty3 ty30))) ty3  [(7, none), (8, none), (9, none)] [(5, 3)] [(10, none)] [] [] [] [(5, 5)] 4 true Sp.in7_9 Sp.st7_9 Sp.mu7_9
end Go.Proofs.YtidnlehjabhclaaDoor.Sy
namespace Go.Proofs.YtidnlehjabhclaaDoor.Sp
open Go Go.RowKit Sy
def in7_6 (k : (Int × Int × Int × Int × Int)) (x : (Int)) : Prop := (-1 : Int) ≤ x
def mu7_6 (k : (Int × Int × Int × Int × Int)) (x : (Int)) : Nat := ((4 : Int) - x).toNat
def st7_6 (k : (Int × Int × Int × Int × Int)) (x : (Int)) : BOut (Int × Int × Int × Int × Int) (Int) (Bool) :=
  bif (decide (x < (4 : Int))) then
    (Sp.optR (Sp.R7_9 (k.1, k.2.1, x, k.2.2) (0 : Int)) BOut.ret
    (BOut.next k (IntKind.i64.wrap (x + (1 : Int)))))
  else
    BOut.brk k x
def G7_6 (k : (Int × Int × Int × Int × Int)) (x : (Int)) : (Int) := endOf st7_6 k (Nat.succ (mu7_6 k x)) x
def R7_6 (k : (Int × Int × Int × Int × Int)) (x : (Int)) : Option (Bool) := retOf st7_6 k (Nat.succ (mu7_6 k x)) x
end Go.Proofs.YtidnlehjabhclaaDoor.Sp
namespace Go.Proofs.YtidnlehjabhclaaDoor.Sy
def LS7_6 : LS ty4.den := mkLS (Ty.pair ty3 (Ty.pair ty3 ty30)) ty3  [(7, none), (8, none)] [(5, 3)] [(9, none)] [] [] [] [(5, 5)] 2 true Sp.in7_6 Sp.st7_6 Sp.mu7_6
end Go.Proofs.YtidnlehjabhclaaDoor.Sy
namespace Go.Proofs.YtidnlehjabhclaaDoor.Sp
open Go Go.RowKit Sy
def in7_3 (k : (Int × Int × Int × Int)) (x : (Int)) : Prop := (-1 : Int) ≤ x ∧ k.1 ≤ 40
def mu7_3 (k : (Int × Int × Int × Int)) (x : (Int)) : Nat := (k.1 - x + 1).toNat
def st7_3 (k : (Int × Int × Int × Int)) (x : (Int)) : BOut (Int × Int × Int × Int) (Int) (Bool) :=
  bif (decide (x ≤ k.1)) then
    (Sp.optR (Sp.R7_6 (k.1, x, k.2) (-1 : Int)) BOut.ret
    (BOut.next k (IntKind.i64.wrap (x + (1 : Int)))))
  else
    BOut.brk k x
def G7_3 (k : (Int × Int × Int × Int)) (x : (Int)) : (Int) := endOf st7_3 k (Nat.succ (mu7_3 k x)) x
def R7_3 (k : (Int × Int × Int × Int)) (x : (Int)) : Option (Bool) := retOf st7_3 k (Nat.succ (mu7_3 k x)) x
end Go.Proofs.YtidnlehjabhclaaDoor.Sp
namespace Go.Proofs.YtidnlehjabhclaaDoor.Sy
def LS7_3 : LS ty4.den := mkLS (Ty.pair ty3 ty30) ty3  [(7, none)] [(5, 3)] [(8, none)] [] [] [] [(5, 5)] 0 true Sp.in7_3 Sp.st7_3 Sp.mu7_3
theorem va7_9 (k : (Ty.pair ty3 (Ty.pair ty3 (Ty.pair ty3 ty30))).den) (x : ty3.den) : ((evCode (ctxG GmE6) (lookL []) (bodyAt (bodyOf Tryd.f7) [0, 0, 0]) (tmpl LS7_9 (enc (Ty.pair ty3 (Ty.pair ty3 (Ty.pair ty3 ty30))) k) (enc ty3 x)) (evRound LS7_9 (evRet (ctxG GmE6) Tryd.f7 (Rsh.one (none)) none ty4 .ret)))).val BOut.ret (BOut.brk (Ty.dflt (Ty.pair ty3 (Ty.pair ty3 (Ty.pair ty3 ty30)))) (Ty.dflt ty3)) = Sp.st7_9 k x := by kernel_rfl
theorem se7_9 (k : (Ty.pair ty3 (Ty.pair ty3 (Ty.pair ty3 ty30))).den) (x : ty3.den) : ((evCode (ctxG GmE6) (lookL []) (bodyAt (bodyOf Tryd.f7) [0, 0, 0]) (tmpl LS7_9 (enc (Ty.pair ty3 (Ty.pair ty3 (Ty.pair ty3 ty30))) k) (enc ty3 x)) (evRound LS7_9 (evRet (ctxG GmE6) Tryd.f7 (Rsh.one (none)) none ty4 .ret)))).safe = ((((decide (x < (8 : Int))) = true → (((((!(Sp.F16 (k.1, ((k.2.2.1, x), k.2.1), k.2.2.2))) || (!(Sp.F16 (k.1, ((k.2.2.1, x), k.2.1), (Sp.F8 (k.2.2.2, (4 : Int))))))) = false → 0 ≤ (3 : Int))) ∧ (((((!(Sp.F16 (k.1, ((k.2.2.1, x), k.2.1), k.2.2.2))) || (!(Sp.F16 (k.1, ((k.2.2.1, x), k.2.1), (Sp.F8 (k.2.2.2, (4 : Int))))))) || (!(Sp.K7_9_1 k x))) = true → True) ∧ ((((!(Sp.F16 (k.1, ((k.2.2.1, x), k.2.1), k.2.2.2))) || (!(Sp.F16 (k.1, ((k.2.2.1, x), k.2.1), (Sp.F8 (k.2.2.2, (4 : Int))))))) || (!(Sp.K7_9_1 k x))) = false → True)))) ∧ ((decide (x < (8 : Int))) = false → True))) := by kernel_rfl
set_option maxHeartbeats 4000000 in
theorem sa7_9 (k : (Ty.pair ty3 (Ty.pair ty3 (Ty.pair ty3 ty30))).den) (x : ty3.den) (fk : Fit (Ty.pair ty3 (Ty.pair ty3 (Ty.pair ty3 ty30))) k) (fx : Fit ty3 x) (h : Sp.in7_9 k x) : SafeW ((evCode (ctxG GmE6) (lookL []) (bodyAt (bodyOf Tryd.f7) [0, 0, 0]) (tmpl LS7_9 (enc (Ty.pair ty3 (Ty.pair ty3 (Ty.pair ty3 ty30))) k) (enc ty3 x)) (evRound LS7_9 (evRet (ctxG GmE6) Tryd.f7 (Rsh.one (none)) none ty4 .ret)))) := by
  refine ⟨?_⟩
  rw [se7_9]
  try dsimp only [Ty.den] at *
  simp only [Sp.in7_9, Fit, maxLen] at h fk fx
  simp only [IntKind.wrap_i64, IntKind.wrap_u8, IntKind.wrap_u32, IntKind.wrap_u64, Sp.tmod_lit, Sp.tdiv_lit, bne_eq_false_iff_eq, Int.natCast_inj, setE, copyL, sliceL, zrow, List.length_append, List.length_cons, List.length_nil, List.length_set, List.length_replicate, List.length_take, List.length_drop, decide_eq_true_eq, decide_eq_false_iff_not, Bool.or_eq_true, Bool.and_eq_true, Bool.or_eq_false_iff, Bool.and_eq_false_iff, Bool.not_eq_true', Bool.not_eq_false', Bool.not_eq_true, Bool.not_eq_false, beq_iff_eq, beq_eq_false_iff_ne, bne_iff_ne, ne_eq, implies_true, and_true, true_and] at *
  all_goals ((repeat' (first | exact trivial | apply And.intro | intro _)) <;> first | trivial | omega | exact Sp.tmod_nn (by omega) | exact Sp.tmod_lt (by omega) (by omega))
set_option maxHeartbeats 4000000 in
theorem so7_9 (k : (Ty.pair ty3 (Ty.pair ty3 (Ty.pair ty3 ty30))).den) (x : ty3.den) (fk : Fit (Ty.pair ty3 (Ty.pair ty3 (Ty.pair ty3 ty30))) k) (h : Sp.in7_9 k x) : StepOk true Sp.in7_9 Sp.mu7_9 k x (Sp.st7_9 k x) := by
  try dsimp only [Ty.den] at *
  simp only [Sp.in7_9, Fit, maxLen] at h fk
  unfold Sp.st7_9
  (repeat' (first | exact rfl | (refine StepOk.cnd (fun hc => ?_) (fun hc => ?_) <;> (try simp only [IntKind.wrap_i64, IntKind.wrap_u8, IntKind.wrap_u32, IntKind.wrap_u64, bne_eq_false_iff_eq, Int.natCast_inj, setE, copyL, sliceL, zrow, List.length_append, List.length_cons, List.length_nil, List.length_set, List.length_replicate, List.length_take, List.length_drop, decide_eq_true_eq, decide_eq_false_iff_not, Bool.or_eq_true, Bool.and_eq_true, Bool.or_eq_false_iff, Bool.and_eq_false_iff, Bool.not_eq_true', Bool.not_eq_false', Bool.not_eq_true, Bool.not_eq_false, beq_iff_eq, beq_eq_false_iff_ne, bne_iff_ne, ne_eq] at hc)) | refine StepOk.opt (fun _ => ?_))) <;> (first | exact rfl | (refine ⟨rfl, ?_, ?_⟩ <;> simp only [Sp.in7_9, Sp.mu7_9, IntKind.wrap_i64, IntKind.wrap_u8, IntKind.wrap_u32, IntKind.wrap_u64, Sp.tmod_lit, Sp.tdiv_lit, bne_eq_false_iff_eq, Int.natCast_inj, setE, copyL, sliceL, zrow, List.length_append, List.length_cons, List.length_nil, List.length_set, List.length_replicate, List.length_take, List.length_drop, decide_eq_true_eq, decide_eq_false_iff_not, Bool.or_eq_true, Bool.and_eq_true, Bool.or_eq_false_iff, Bool.and_eq_false_iff, Bool.not_eq_true', Bool.not_eq_false', Bool.not_eq_true, Bool.not_eq_false, beq_iff_eq, beq_eq_false_iff_ne, bne_iff_ne, ne_eq] <;> first | omega | (and_intros <;> first | omega | exact h.1 | exact h.2 | exact h.2.1 | exact h.2.2 | exact h.2.2.1 | exact h.2.2.2 | exact h.2.2.2.1 | exact h.2.2.2.2 | exact h.2.2.2.2.1 | exact h.2.2.2.2.2 | exact h.2.2.2.2.2.1 | exact h.2.2.2.2.2.2)))
theorem lo7_9 : LoopOk Tryd.prog gdS (RetAt Tryd.prog Tryd.f7 (Rsh.one (none)) none ty4) (bodyAt (bodyOf Tryd.f7) [0, 0, 0]) LS7_9 :=
  loop_run (ctxOkF gokGmE6 []) (L := lookL []) (loops_of (l := []) (by kernel_rfl) (loops_nil)) sa7_9 va7_9 so7_9
theorem va7_6 (k : (Ty.pair ty3 (Ty.pair ty3 ty30)).den) (x : ty3.den) : ((evCode (ctxG GmE6) (lookL [(9, LS7_9)]) (bodyAt (bodyOf Tryd.f7) [0, 0]) (tmpl LS7_6 (enc (Ty.pair ty3 (Ty.pair ty3 ty30)) k) (enc ty3 x)) (evRound LS7_6 (evRet (ctxG GmE6) Tryd.f7 (Rsh.one (none)) none ty4 .ret)))).val BOut.ret (BOut.brk (Ty.dflt (Ty.pair ty3 (Ty.pair ty3 ty30))) (Ty.dflt ty3)) = Sp.st7_6 k x := by kernel_rfl
theorem se7_6 (k : (Ty.pair ty3 (Ty.pair ty3 ty30)).den) (x : ty3.den) : ((evCode (ctxG GmE6) (lookL [(9, LS7_9)]) (bodyAt (bodyOf Tryd.f7) [0, 0]) (tmpl LS7_6 (enc (Ty.pair ty3 (Ty.pair ty3 ty30)) k) (enc ty3 x)) (evRound LS7_6 (evRet (ctxG GmE6) Tryd.f7 (Rsh.one (none)) none ty4 .ret)))).safe = ((((decide (x < (4 : Int))) = true → ((Sp.in7_9 (k.1, k.2.1, x, k.2.2) (0 : Int)) ∧ ((Sp.R7_9 (k.1, k.2.1, x, k.2.2) (0 : Int)) = none → True))) ∧ ((decide (x < (4 : Int))) = false → True))) := by kernel_rfl
set_option maxHeartbeats 4000000 in
theorem sa7_6 (k : (Ty.pair ty3 (Ty.pair ty3 ty30)).den) (x : ty3.den) (fk : Fit (Ty.pair ty3 (Ty.pair ty3 ty30)) k) (fx : Fit ty3 x) (h : Sp.in7_6 k x) : SafeW ((evCode (ctxG GmE6) (lookL [(9, LS7_9)]) (bodyAt (bodyOf Tryd.f7) [0, 0]) (tmpl LS7_6 (enc (Ty.pair ty3 (Ty.pair ty3 ty30)) k) (enc ty3 x)) (evRound LS7_6 (evRet (ctxG GmE6) Tryd.f7 (Rsh.one (none)) none ty4 .ret)))) := by
  refine ⟨?_⟩
  rw [se7_6]
  try dsimp only [Ty.den] at *
  simp only [Sp.in7_6, Fit, maxLen] at h fk fx
  simp only [Sp.in7_9, IntKind.wrap_i64, IntKind.wrap_u8, IntKind.wrap_u32, IntKind.wrap_u64, Sp.tmod_lit, Sp.tdiv_lit, bne_eq_false_iff_eq, Int.natCast_inj, setE, copyL, sliceL, zrow, List.length_append, List.length_cons, List.length_nil, List.length_set, List.length_replicate, List.length_take, List.length_drop, decide_eq_true_eq, decide_eq_false_iff_not, Bool.or_eq_true, Bool.and_eq_true, Bool.or_eq_false_iff, Bool.and_eq_false_iff, Bool.not_eq_true', Bool.not_eq_false', Bool.not_eq_true, Bool.not_eq_false, beq_iff_eq, beq_eq_false_iff_ne, bne_iff_ne, ne_eq, implies_true, and_true, true_and] at *
  all_goals ((repeat' (first | exact trivial | apply And.intro | intro _)) <;> first | trivial | omega | exact Sp.tmod_nn (by omega) | exact Sp.tmod_lt (by omega) (by omega))
set_option maxHeartbeats 4000000 in
theorem so7_6 (k : (Ty.pair ty3 (Ty.pair ty3 ty30)).den) (x : ty3.den) (fk : Fit (Ty.pair ty3 (Ty.pair ty3 ty30)) k) (h : Sp.in7_6 k x) : StepOk true Sp.in7_6 Sp.mu7_6 k x (Sp.st7_6 k x) := by
  try dsimp only [Ty.den] at *
  simp only [Sp.in7_6, Fit, maxLen] at h fk
  unfold Sp.st7_6
  (repeat' (first | exact rfl | (refine StepOk.cnd (fun hc => ?_) (fun hc => ?_) <;> (try simp only [IntKind.wrap_i64, IntKind.wrap_u8, IntKind.wrap_u32, IntKind.wrap_u64, bne_eq_false_iff_eq, Int.natCast_inj, setE, copyL, sliceL, zrow, List.length_append, List.length_cons, List.length_nil, List.length_set, List.length_replicate, List.length_take, List.length_drop, decide_eq_true_eq, decide_eq_false_iff_not, Bool.or_eq_true, Bool.and_eq_true, Bool.or_eq_false_iff, Bool.and_eq_false_iff, Bool.not_eq_true', Bool.not_eq_false', Bool.not_eq_true, Bool.not_eq_false, beq_iff_eq, beq_eq_false_iff_ne, bne_iff_ne, ne_eq] at hc)) | refine StepOk.opt (fun _ => ?_))) <;> (first | exact rfl | (refine ⟨rfl, ?_, ?_⟩ <;> simp only [Sp.in7_6, Sp.mu7_6, IntKind.wrap_i64, IntKind.wrap_u8, IntKind.wrap_u32, IntKind.wrap_u64, Sp.tmod_lit, Sp.tdiv_lit, bne_eq_false_iff_eq, Int.natCast_inj, setE, copyL, sliceL, zrow, List.length_append, List.length_cons, List.length_nil, List.length_set, List.length_replicate, List.length_take, List.length_drop, decide_eq_true_eq, decide_eq_false_iff_not, Bool.or_eq_true, Bool.and_eq_true, Bool.or_eq_false_iff, Bool.and_eq_false_iff, Bool.not_eq_true', Bool.not_eq_false', Bool.not_eq_true, Bool.not_eq_false, beq_iff_eq, beq_eq_false_iff_ne, bne_iff_ne, ne_eq] <;> first | omega | (and_intros <;> first | omega | exact h.1 | exact h.2 | exact h.2.1 | exact h.2.2 | exact h.2.2.1 | exact h.2.2.2 | exact h.2.2.2.1 | exact h.2.2.2.2 | exact h.2.2.2.2.1 | exact h.2.2.2.2.2 | exact h.2.2.2.2.2.1 | exact h.2.2.2.2.2.2)))
theorem lo7_6 : LoopOk Tryd.prog gdS (RetAt Tryd.prog Tryd.f7 (Rsh.one (none)) none ty4) (bodyAt (bodyOf Tryd.f7) [0, 0]) LS7_6 :=
  loop_run (ctxOkF gokGmE6 []) (L := lookL [(9, LS7_9)]) (loops_of (l := [bodyAt (bodyOf Tryd.f7) [0, 0, 0]]) (by kernel_rfl) (loops_cons (s0 := LS7_9) (by kernel_rfl) lo7_9 (loops_nil))) sa7_6 va7_6 so7_6
theorem va7_3 (k : (Ty.pair ty3 ty30).den) (x : ty3.den) : ((evCode (ctxG GmE6) (lookL [(9, LS7_9), (6, LS7_6)]) (bodyAt (bodyOf Tryd.f7) [0]) (tmpl LS7_3 (enc (Ty.pair ty3 ty30) k) (enc ty3 x)) (evRound LS7_3 (evRet (ctxG GmE6) Tryd.f7 (Rsh.one (none)) none ty4 .ret)))).val BOut.ret (BOut.brk (Ty.dflt (Ty.pair ty3 ty30)) (Ty.dflt ty3)) = Sp.st7_3 k x := by kernel_rfl
theorem se7_3 (k : (Ty.pair ty3 ty30).den) (x : ty3.den) : ((evCode (ctxG GmE6) (lookL [(9, LS7_9), (6, LS7_6)]) (bodyAt (bodyOf Tryd.f7) [0]) (tmpl LS7_3 (enc (Ty.pair ty3 ty30) k) (enc ty3 x)) (evRound LS7_3 (evRet (ctxG GmE6) Tryd.f7 (Rsh.one (none)) none ty4 .ret)))).safe = ((((decide (x ≤ k.1)) = true → ((Sp.in7_6 (k.1, x, k.2) (-1 : Int)) ∧ ((Sp.R7_6 (k.1, x, k.2) (-1 : Int)) = none → True))) ∧ ((decide (x ≤ k.1)) = false → True))) := by kernel_rfl
set_option maxHeartbeats 4000000 in
theorem sa7_3 (k : (Ty.pair ty3 ty30).den) (x : ty3.den) (fk : Fit (Ty.pair ty3 ty30) k) (fx : Fit ty3 x) (h : Sp.in7_3 k x) : SafeW ((evCode (ctxG GmE6) (lookL [(9, LS7_9), (6, LS7_6)]) (bodyAt (bodyOf Tryd.f7) [0]) (tmpl LS7_3 (enc (Ty.pair ty3 ty30) k) (enc ty3 x)) (evRound LS7_3 (evRet (ctxG GmE6) Tryd.f7 (Rsh.one (none)) none ty4 .ret)))) := by
  refine ⟨?_⟩
  rw [se7_3]
  try dsimp only [Ty.den] at *
  simp only [Sp.in7_3, Fit, maxLen] at h fk fx
  simp only [Sp.in7_6, IntKind.wrap_i64, IntKind.wrap_u8, IntKind.wrap_u32, IntKind.wrap_u64, Sp.tmod_lit, Sp.tdiv_lit, bne_eq_false_iff_eq, Int.natCast_inj, setE, copyL, sliceL, zrow, List.length_append, List.length_cons, List.length_nil, List.length_set, List.length_replicate, List.length_take, List.length_drop, decide_eq_true_eq, decide_eq_false_iff_not, Bool.or_eq_true, Bool.and_eq_true, Bool.or_eq_false_iff, Bool.and_eq_false_iff, Bool.not_eq_true', Bool.not_eq_false', Bool.not_eq_true, Bool.not_eq_false, beq_iff_eq, beq_eq_false_iff_ne, bne_iff_ne, ne_eq, implies_true, and_true, true_and] at *
  all_goals ((repeat' (first | exact trivial | apply And.intro | intro _)) <;> first | trivial | omega | exact Sp.tmod_nn (by omega) | exact Sp.tmod_lt (by omega) (by omega))
set_option maxHeartbeats 4000000 in
theorem so7_3 (k : (Ty.pair ty3 ty30).den) (x : ty3.den) (fk : Fit (Ty.pair ty3 ty30) k) (h : Sp.in7_3 k x) : StepOk true Sp.in7_3 Sp.mu7_3 k x (Sp.st7_3 k x) := by
  try dsimp only [Ty.den] at *
  simp only [Sp.in7_3, Fit, maxLen] at h fk
  unfold Sp.st7_3
  (repeat' (first | exact rfl | (refine StepOk.cnd (fun hc => ?_) (fun hc => ?_) <;> (try simp only [IntKind.wrap_i64, IntKind.wrap_u8, IntKind.wrap_u32, IntKind.wrap_u64, bne_eq_false_iff_eq, Int.natCast_inj, setE, copyL, sliceL, zrow, List.length_append, List.length_cons, List.length_nil, List.length_set, List.length_replicate, List.length_take, List.length_drop, decide_eq_true_eq, decide_eq_false_iff_not, Bool.or_eq_true, Bool.and_eq_true, Bool.or_eq_false_iff, Bool.and_eq_false_iff, Bool.not_eq_true', Bool.not_eq_false', Bool.not_eq_true, Bool.not_eq_false, beq_iff_eq, beq_eq_false_iff_ne, bne_iff_ne, ne_eq] at hc)) | refine StepOk.opt (fun _ => ?_))) <;> (first | exact rfl | (refine ⟨rfl, ?_, ?_⟩ <;> simp only [Sp.in7_3, Sp.mu7_3, IntKind.wrap_i64, IntKind.wrap_u8, IntKind.wrap_u32, IntKind.wrap_u64, Sp.tmod_lit, Sp.tdiv_lit, bne_eq_false_iff_eq, Int.natCast_inj, setE, copyL, sliceL, zrow, List.length_append, List.length_cons, List.length_nil, List.length_set, List.length_replicate, List.length_take, List.length_drop, decide_eq_true_eq, decide_eq_false_iff_not, Bool.or_eq_true, Bool.and_eq_true, Bool.or_eq_false_iff, Bool.and_eq_false_iff, Bool.not_eq_true', Bool.not_eq_false', Bool.not_eq_true, Bool.not_eq_false, beq_iff_eq, beq_eq_false_iff_ne, bne_iff_ne, ne_eq] <;> first | omega | (and_intros <;> first | omega | exact h.1 | exact h.2 | exact h.2.1 | exact h.2.2 | exact h.2.2.1 | exact h.2.2.2 | exact h.2.2.2.1 | exact h.2.2.2.2 | exact h.2.2.2.2.1 | exact h.2.2.2.2.2 | exact h.2.2.2.2.2.1 | exact h.2.2.2.2.2.2)))
theorem lo7_3 : LoopOk Tryd.prog gdS (RetAt Tryd.prog Tryd.f7 (Rsh.one (none)) none ty4) (bodyAt (bodyOf Tryd.f7) [0]) LS7_3 :=
  loop_run (ctxOkF gokGmE6 []) (L := lookL [(9, LS7_9), (6, LS7_6)]) (loops_of (l := [bodyAt (bodyOf Tryd.f7) [0, 0]]) (by kernel_rfl) (loops_cons (s0 := LS7_6) (by kernel_rfl) lo7_6 (loops_nil))) sa7_3 va7_3 so7_3
end Go.Proofs.YtidnlehjabhclaaDoor.Sy
namespace Go.Proofs.YtidnlehjabhclaaDoor.Sp
open Go Go.RowKit Sy
def F7 (x : Int × ((Int × Int) × Int) × Int × Int × Int) : Bool :=
  Sp.optR (Sp.R7_3 ((IntKind.i64.wrap ((2 : Int) + (IntKind.i64.wrap (Int.tmod x.1 (31 : Int))))), x.2.2) (-1 : Int)) (fun y => y)
  ((((Sp.F16 ((IntKind.i64.wrap x.1), x.2)) && (Sp.F16 ((IntKind.i64.wrap ((2 : Int) + (IntKind.i64.wrap (Int.tmod x.1 (31 : Int))))), x.2))) && (Sp.F11 ())))
end Go.Proofs.YtidnlehjabhclaaDoor.Sp
namespace Go.Proofs.YtidnlehjabhclaaDoor.Sy
def ct7 : Ct := { p := (Ty.pair ty5 (Ty.pair ty25 ty30)), psh := [none, some 3, some 3], r := ty4, rsh := (Rsh.one (none)), pre := none, fresh := none, F := Sp.F7 }
theorem va7 (x : (Ty.pair ty5 (Ty.pair ty25 ty30)).den) : ((evFn (ctxG GmE6) Tryd.f7 (Ty.pair ty5 (Ty.pair ty25 ty30)) [none, some 3, some 3] (Rsh.one (none)) none ty4 (lookL [(9, LS7_9), (6, LS7_6), (3, LS7_3)]) x)).val (fun y => y) (Ty.dflt ty4) = Sp.F7 x := by kernel_rfl
theorem se7 (x : (Ty.pair ty5 (Ty.pair ty25 ty30)).den) : ((evFn (ctxG GmE6) Tryd.f7 (Ty.pair ty5 (Ty.pair ty25 ty30)) [none, some 3, some 3] (Rsh.one (none)) none ty4 (lookL [(9, LS7_9), (6, LS7_6), (3, LS7_3)]) x)).safe = ((((31 : Int) ≠ 0) ∧ ((Sp.in7_3 ((IntKind.i64.wrap ((2 : Int) + (IntKind.i64.wrap (Int.tmod x.1 (31 : Int))))), x.2.2) (-1 : Int)) ∧ ((Sp.R7_3 ((IntKind.i64.wrap ((2 : Int) + (IntKind.i64.wrap (Int.tmod x.1 (31 : Int))))), x.2.2) (-1 : Int)) = none → True)))) := by kernel_rfl
theorem sa7 (x : (Ty.pair ty5 (Ty.pair ty25 ty30)).den) (fx : Fit (Ty.pair ty5 (Ty.pair ty25 ty30)) x) : SafeW ((evFn (ctxG GmE6) Tryd.f7 (Ty.pair ty5 (Ty.pair ty25 ty30)) [none, some 3, some 3] (Rsh.one (none)) none ty4 (lookL [(9, LS7_9), (6, LS7_6), (3, LS7_3)]) x)) := by
  refine ⟨?_⟩
  rw [se7]
  try dsimp only [Ty.den] at *
  simp only [Fit, maxLen] at fx
  simp only [Sp.in7_9, Sp.in7_6, Sp.in7_3, IntKind.wrap_i64, IntKind.wrap_u8, IntKind.wrap_u32, IntKind.wrap_u64, Sp.tmod_lit, Sp.tdiv_lit, bne_eq_false_iff_eq, Int.natCast_inj, setE, copyL, sliceL, zrow, List.length_append, List.length_cons, List.length_nil, List.length_set, List.length_replicate, List.length_take, List.length_drop, decide_eq_true_eq, decide_eq_false_iff_not, Bool.or_eq_true, Bool.and_eq_true, Bool.or_eq_false_iff, Bool.and_eq_false_iff, Bool.not_eq_true', Bool.not_eq_false', Bool.not_eq_true, Bool.not_eq_false, beq_iff_eq, beq_eq_false_iff_ne, bne_iff_ne, ne_eq, implies_true, and_true, true_and] at *
  all_goals ((repeat' (first | exact trivial | apply And.intro | intro _)) <;> first | trivial | omega | exact Sp.tmod_nn (by omega) | exact Sp.tmod_lt (by omega) (by omega))
theorem ok7 : CtOk Tryd.prog gdS 7 ct7 :=
  fn_okU (ctxOkF gokGmE6 []) rfl Tryd.func7 (p := (Ty.pair ty5 (Ty.pair ty25 ty30))) (psh := [none, some 3, some 3]) (r := ty4) (rsh := (Rsh.one (none))) (pre := none) (fresh := none) (F := Sp.F7) (L := (lookL [(9, LS7_9), (6, LS7_6), (3, LS7_3)])) (c := bodyOf Tryd.f7) (dflt := Ty.dflt ty4) rfl (loops_of (l := [bodyAt (bodyOf Tryd.f7) [0]]) (by kernel_rfl) (loops_cons (s0 := LS7_3) (by kernel_rfl) lo7_3 (loops_nil)))
    (safe_no @sa7) va7
def GmE7 : List (Nat × Ct) := (7, ct7) :: GmE6
theorem gokGmE7 : GOk GmE7 := gok_cons ok7 ⟨_, Tryd.func7, by kernel_rfl, by kernel_rfl⟩ (gokGmE6)
end Go.Proofs.YtidnlehjabhclaaDoor.Sy
