/- Contracts of functions, by the evaluator (own program gen.py): overlaylaw09.RecordCodes, overlaylaw09.RecordBack, overlaylaw09.RecordReads, overlaylaw09.RecordApart. -/
import Derived.Test.YtabifaikklcghaaRc
set_option linter.unusedVariables false
set_option linter.unusedSimpArgs false
set_option maxRecDepth 100000
namespace Go.Proofs.Ytabifaikklcghaa.Sy
open Go Go.RowKit Sp
/-! overlaylaw09.RecordCodes -/
end Go.Proofs.Ytabifaikklcghaa.Sy
namespace Go.Proofs.Ytabifaikklcghaa.Sp
open Go Go.RowKit Sy
def in3_5 (k : ((Int × Int × Int × Int × Int) × Int × Int × Int × Int × Nat × Nat × Nat × List (Int × Int × Int × Int × Int × Int × Int × Int × Int))) (x : (Int)) : Prop := (0 : Int) ≤ x
def mu3_5 (k : ((Int × Int × Int × Int × Int) × Int × Int × Int × Int × Nat × Nat × Nat × List (Int × Int × Int × Int × Int × Int × Int × Int × Int))) (x : (Int)) : Nat := ((9 : Int) - x).toNat
def st3_5 (k : ((Int × Int × Int × Int × Int) × Int × Int × Int × Int × Nat × Nat × Nat × List (Int × Int × Int × Int × Int × Int × Int × Int × Int))) (x : (Int)) : BOut ((Int × Int × Int × Int × Int) × Int × Int × Int × Int × Nat × Nat × Nat × List (Int × Int × Int × Int × Int × Int × Int × Int × Int)) (Int) (Bool) :=
  bif (decide (x < (9 : Int))) then
    (bif (decide (x > (0 : Int))) then
      (bif (((!strEq ((Sp.F14 (k.2, (IntKind.i64.wrap (x - (1 : Int))), k.1.2)).1) ((Sp.F15 (k.2, (IntKind.i64.wrap (x - (1 : Int))), k.1.2)).1)) || ((Sp.F14 (k.2, (IntKind.i64.wrap (x - (1 : Int))), k.1.2)).2 != (Sp.F15 (k.2, (IntKind.i64.wrap (x - (1 : Int))), k.1.2)).2)) || ((Sp.F16 (k.2, (IntKind.i64.wrap (x - (1 : Int))), k.1.2)) != (Sp.F17 (k.2, (IntKind.i64.wrap (x - (1 : Int))), k.1.2)))) then
        BOut.ret false
      else
        BOut.next k (IntKind.i64.wrap (x + (1 : Int))))
    else
      bif (((!strEq ((Sp.F14 (k.2, k.1)).1) ((Sp.F15 (k.2, k.1)).1)) || ((Sp.F14 (k.2, k.1)).2 != (Sp.F15 (k.2, k.1)).2)) || ((Sp.F16 (k.2, k.1)) != (Sp.F17 (k.2, k.1)))) then
        BOut.ret false
      else
        BOut.next k (IntKind.i64.wrap (x + (1 : Int))))
  else
    BOut.brk k x
def G3_5 (k : ((Int × Int × Int × Int × Int) × Int × Int × Int × Int × Nat × Nat × Nat × List (Int × Int × Int × Int × Int × Int × Int × Int × Int))) (x : (Int)) : (Int) := endOf st3_5 k (Nat.succ (mu3_5 k x)) x
def R3_5 (k : ((Int × Int × Int × Int × Int) × Int × Int × Int × Int × Nat × Nat × Nat × List (Int × Int × Int × Int × Int × Int × Int × Int × Int))) (x : (Int)) : Option (Bool) := retOf st3_5 k (Nat.succ (mu3_5 k x)) x
end Go.Proofs.Ytabifaikklcghaa.Sp
namespace Go.Proofs.Ytabifaikklcghaa.Sy
def LS3_5 : LS ty4.den := mkLS (Ty.pair ty23 ty28) ty3  [] [(4, 5), (7, 8)] [(8, none)] [] [] [26] [(4, 4), (7, 7)] 0 true Sp.in3_5 Sp.st3_5 Sp.mu3_5
end Go.Proofs.Ytabifaikklcghaa.Sy
namespace Go.Proofs.Ytabifaikklcghaa.Sp
open Go Go.RowKit Sy
def in3_16 (k : ((List ByteArray) × Int × Int × Int × Int × Int × Nat × Nat × Nat × List (Int × Int × Int × Int × Int × Int × Int × Int × Int))) (x : (Int)) : Prop := (0 : Int) ≤ x ∧ k.2.1 = ((k.1).length : Int) ∧ k.1.length = 3
def mu3_16 (k : ((List ByteArray) × Int × Int × Int × Int × Int × Nat × Nat × Nat × List (Int × Int × Int × Int × Int × Int × Int × Int × Int))) (x : (Int)) : Nat := (k.2.1 - x).toNat
def st3_16 (k : ((List ByteArray) × Int × Int × Int × Int × Int × Nat × Nat × Nat × List (Int × Int × Int × Int × Int × Int × Int × Int × Int))) (x : (Int)) : BOut ((List ByteArray) × Int × Int × Int × Int × Int × Nat × Nat × Nat × List (Int × Int × Int × Int × Int × Int × Int × Int × Int)) (Int) (Bool) :=
  bif (decide (x < k.2.1)) then
    (bif ((!(((Sp.F19 (k.2.2, (Sp.nthT k.1 x))).1.1 == (Sp.F20 (k.2.2, (Sp.nthT k.1 x))).1.1) && (((Sp.F19 (k.2.2, (Sp.nthT k.1 x))).1.2.1 == (Sp.F20 (k.2.2, (Sp.nthT k.1 x))).1.2.1) && (((Sp.F19 (k.2.2, (Sp.nthT k.1 x))).1.2.2.1 == (Sp.F20 (k.2.2, (Sp.nthT k.1 x))).1.2.2.1) && (((Sp.F19 (k.2.2, (Sp.nthT k.1 x))).1.2.2.2.1 == (Sp.F20 (k.2.2, (Sp.nthT k.1 x))).1.2.2.2.1) && ((Sp.F19 (k.2.2, (Sp.nthT k.1 x))).1.2.2.2.2 == (Sp.F20 (k.2.2, (Sp.nthT k.1 x))).1.2.2.2.2)))))) || ((Sp.F19 (k.2.2, (Sp.nthT k.1 x))).2 != (Sp.F20 (k.2.2, (Sp.nthT k.1 x))).2)) then
      BOut.ret false
    else
      BOut.next k (IntKind.i64.wrap (x + (1 : Int))))
  else
    BOut.brk k x
def G3_16 (k : ((List ByteArray) × Int × Int × Int × Int × Int × Nat × Nat × Nat × List (Int × Int × Int × Int × Int × Int × Int × Int × Int))) (x : (Int)) : (Int) := endOf st3_16 k (Nat.succ (mu3_16 k x)) x
def R3_16 (k : ((List ByteArray) × Int × Int × Int × Int × Int × Nat × Nat × Nat × List (Int × Int × Int × Int × Int × Int × Int × Int × Int))) (x : (Int)) : Option (Bool) := retOf st3_16 k (Nat.succ (mu3_16 k x)) x
end Go.Proofs.Ytabifaikklcghaa.Sp
namespace Go.Proofs.Ytabifaikklcghaa.Sy
def LS3_16 : LS ty4.den := mkLS (Ty.pair ty36 (Ty.pair ty3 ty28)) ty3  [(83, none), (84, none)] [(7, 8)] [(85, none)] [] [] [] [(7, 7)] 2 true Sp.in3_16 Sp.st3_16 Sp.mu3_16
theorem va3_5 (k : (Ty.pair ty23 ty28).den) (x : ty3.den) : ((evCode (ctxG GmY4) (lookL []) (bodyAt (bodyOf Try.f3) [0]) (tmpl LS3_5 (enc (Ty.pair ty23 ty28) k) (enc ty3 x)) (evRound LS3_5 (evRet (ctxG GmY4) Try.f3 (Rsh.one (none)) none ty4 .ret)))).val BOut.ret (BOut.brk (Ty.dflt (Ty.pair ty23 ty28)) (Ty.dflt ty3)) = Sp.st3_5 k x := by kernel_rfl
theorem se3_5 (k : (Ty.pair ty23 ty28).den) (x : ty3.den) : ((evCode (ctxG GmY4) (lookL []) (bodyAt (bodyOf Try.f3) [0]) (tmpl LS3_5 (enc (Ty.pair ty23 ty28) k) (enc ty3 x)) (evRound LS3_5 (evRet (ctxG GmY4) Try.f3 (Rsh.one (none)) none ty4 .ret)))).safe = ((((decide (x < (9 : Int))) = true → (((decide (x > (0 : Int))) = true → (((((!strEq ((Sp.F14 (k.2, (IntKind.i64.wrap (x - (1 : Int))), k.1.2)).1) ((Sp.F15 (k.2, (IntKind.i64.wrap (x - (1 : Int))), k.1.2)).1)) || ((Sp.F14 (k.2, (IntKind.i64.wrap (x - (1 : Int))), k.1.2)).2 != (Sp.F15 (k.2, (IntKind.i64.wrap (x - (1 : Int))), k.1.2)).2)) || ((Sp.F16 (k.2, (IntKind.i64.wrap (x - (1 : Int))), k.1.2)) != (Sp.F17 (k.2, (IntKind.i64.wrap (x - (1 : Int))), k.1.2)))) = true → True) ∧ ((((!strEq ((Sp.F14 (k.2, (IntKind.i64.wrap (x - (1 : Int))), k.1.2)).1) ((Sp.F15 (k.2, (IntKind.i64.wrap (x - (1 : Int))), k.1.2)).1)) || ((Sp.F14 (k.2, (IntKind.i64.wrap (x - (1 : Int))), k.1.2)).2 != (Sp.F15 (k.2, (IntKind.i64.wrap (x - (1 : Int))), k.1.2)).2)) || ((Sp.F16 (k.2, (IntKind.i64.wrap (x - (1 : Int))), k.1.2)) != (Sp.F17 (k.2, (IntKind.i64.wrap (x - (1 : Int))), k.1.2)))) = false → True))) ∧ ((decide (x > (0 : Int))) = false → (((((!strEq ((Sp.F14 (k.2, k.1)).1) ((Sp.F15 (k.2, k.1)).1)) || ((Sp.F14 (k.2, k.1)).2 != (Sp.F15 (k.2, k.1)).2)) || ((Sp.F16 (k.2, k.1)) != (Sp.F17 (k.2, k.1)))) = true → True) ∧ ((((!strEq ((Sp.F14 (k.2, k.1)).1) ((Sp.F15 (k.2, k.1)).1)) || ((Sp.F14 (k.2, k.1)).2 != (Sp.F15 (k.2, k.1)).2)) || ((Sp.F16 (k.2, k.1)) != (Sp.F17 (k.2, k.1)))) = false → True))))) ∧ ((decide (x < (9 : Int))) = false → True))) := by kernel_rfl
set_option maxHeartbeats 4000000 in
theorem sa3_5 (k : (Ty.pair ty23 ty28).den) (x : ty3.den) (fk : Fit (Ty.pair ty23 ty28) k) (fx : Fit ty3 x) (h : Sp.in3_5 k x) : SafeW ((evCode (ctxG GmY4) (lookL []) (bodyAt (bodyOf Try.f3) [0]) (tmpl LS3_5 (enc (Ty.pair ty23 ty28) k) (enc ty3 x)) (evRound LS3_5 (evRet (ctxG GmY4) Try.f3 (Rsh.one (none)) none ty4 .ret)))) := by
  refine ⟨?_⟩
  rw [se3_5]
  try dsimp only [Ty.den] at *
  simp only [Sp.in3_5, Fit, maxLen] at h fk fx
  simp only [Sp.bts_size, Sp.strCat_size, Sp.extract_size, Sp.stb_len, Sp.mk_size, IntKind.wrap_i64, IntKind.wrap_u8, IntKind.wrap_u32, IntKind.wrap_u64, Sp.tmod_lit, Sp.tdiv_lit, bne_eq_false_iff_eq, Int.natCast_inj, setE, copyL, sliceL, zrow, List.length_append, List.length_cons, List.length_nil, List.length_set, List.length_replicate, List.length_take, List.length_drop, decide_eq_true_eq, decide_eq_false_iff_not, Bool.or_eq_true, Bool.and_eq_true, Bool.or_eq_false_iff, Bool.and_eq_false_iff, Bool.not_eq_true', Bool.not_eq_false', Bool.not_eq_true, Bool.not_eq_false, beq_iff_eq, beq_eq_false_iff_ne, bne_iff_ne, ne_eq, implies_true, and_true, true_and] at *
  all_goals ((repeat' (first | exact trivial | apply And.intro | intro _)) <;> first | trivial | omega | exact Sp.tmod_nn (by omega) | exact Sp.tmod_lt (by omega) (by omega))
set_option maxHeartbeats 4000000 in
theorem so3_5 (k : (Ty.pair ty23 ty28).den) (x : ty3.den) (fk : Fit (Ty.pair ty23 ty28) k) (h : Sp.in3_5 k x) : StepOk true Sp.in3_5 Sp.mu3_5 k x (Sp.st3_5 k x) := by
  try dsimp only [Ty.den] at *
  simp only [Sp.in3_5, Fit, maxLen] at h fk
  unfold Sp.st3_5
  (repeat' (first | exact rfl | (refine StepOk.cnd (fun hc => ?_) (fun hc => ?_) <;> (try simp only [IntKind.wrap_i64, IntKind.wrap_u8, IntKind.wrap_u32, IntKind.wrap_u64, bne_eq_false_iff_eq, Int.natCast_inj, setE, copyL, sliceL, zrow, List.length_append, List.length_cons, List.length_nil, List.length_set, List.length_replicate, List.length_take, List.length_drop, decide_eq_true_eq, decide_eq_false_iff_not, Bool.or_eq_true, Bool.and_eq_true, Bool.or_eq_false_iff, Bool.and_eq_false_iff, Bool.not_eq_true', Bool.not_eq_false', Bool.not_eq_true, Bool.not_eq_false, beq_iff_eq, beq_eq_false_iff_ne, bne_iff_ne, ne_eq] at hc)) | refine StepOk.opt (fun _ => ?_))) <;> (first | exact rfl | (refine ⟨rfl, ?_, ?_⟩ <;> simp only [Sp.in3_5, Sp.mu3_5, Sp.bts_size, Sp.strCat_size, Sp.extract_size, Sp.stb_len, Sp.mk_size, IntKind.wrap_i64, IntKind.wrap_u8, IntKind.wrap_u32, IntKind.wrap_u64, Sp.tmod_lit, Sp.tdiv_lit, bne_eq_false_iff_eq, Int.natCast_inj, setE, copyL, sliceL, zrow, List.length_append, List.length_cons, List.length_nil, List.length_set, List.length_replicate, List.length_take, List.length_drop, decide_eq_true_eq, decide_eq_false_iff_not, Bool.or_eq_true, Bool.and_eq_true, Bool.or_eq_false_iff, Bool.and_eq_false_iff, Bool.not_eq_true', Bool.not_eq_false', Bool.not_eq_true, Bool.not_eq_false, beq_iff_eq, beq_eq_false_iff_ne, bne_iff_ne, ne_eq] <;> first | omega | (and_intros <;> first | omega | exact h.1 | exact h.2 | exact h.2.1 | exact h.2.2 | exact h.2.2.1 | exact h.2.2.2 | exact h.2.2.2.1 | exact h.2.2.2.2 | exact h.2.2.2.2.1 | exact h.2.2.2.2.2 | exact h.2.2.2.2.2.1 | exact h.2.2.2.2.2.2)))
theorem lo3_5 : LoopOk Try.prog gdS (RetAt Try.prog Try.f3 (Rsh.one (none)) none ty4) (bodyAt (bodyOf Try.f3) [0]) LS3_5 :=
  loop_run (ctxOkF gokGmY4 []) (L := lookL []) (loops_of (l := []) (by kernel_rfl) (loops_nil)) sa3_5 va3_5 so3_5
theorem va3_16 (k : (Ty.pair ty36 (Ty.pair ty3 ty28)).den) (x : ty3.den) : ((evCode (ctxG GmY4) (lookL [(5, LS3_5)]) (bodyAt (bodyOf Try.f3) [1]) (tmpl LS3_16 (enc (Ty.pair ty36 (Ty.pair ty3 ty28)) k) (enc ty3 x)) (evRound LS3_16 (evRet (ctxG GmY4) Try.f3 (Rsh.one (none)) none ty4 .ret)))).val BOut.ret (BOut.brk (Ty.dflt (Ty.pair ty36 (Ty.pair ty3 ty28))) (Ty.dflt ty3)) = Sp.st3_16 k x := by kernel_rfl
theorem se3_16 (k : (Ty.pair ty36 (Ty.pair ty3 ty28)).den) (x : ty3.den) : ((evCode (ctxG GmY4) (lookL [(5, LS3_5)]) (bodyAt (bodyOf Try.f3) [1]) (tmpl LS3_16 (enc (Ty.pair ty36 (Ty.pair ty3 ty28)) k) (enc ty3 x)) (evRound LS3_16 (evRet (ctxG GmY4) Try.f3 (Rsh.one (none)) none ty4 .ret)))).safe = ((((decide (x < k.2.1)) = true → ((0 ≤ x ∧ x < ((k.1).length : Int)) ∧ ((((!(((Sp.F19 (k.2.2, (Sp.nthT k.1 x))).1.1 == (Sp.F20 (k.2.2, (Sp.nthT k.1 x))).1.1) && (((Sp.F19 (k.2.2, (Sp.nthT k.1 x))).1.2.1 == (Sp.F20 (k.2.2, (Sp.nthT k.1 x))).1.2.1) && (((Sp.F19 (k.2.2, (Sp.nthT k.1 x))).1.2.2.1 == (Sp.F20 (k.2.2, (Sp.nthT k.1 x))).1.2.2.1) && (((Sp.F19 (k.2.2, (Sp.nthT k.1 x))).1.2.2.2.1 == (Sp.F20 (k.2.2, (Sp.nthT k.1 x))).1.2.2.2.1) && ((Sp.F19 (k.2.2, (Sp.nthT k.1 x))).1.2.2.2.2 == (Sp.F20 (k.2.2, (Sp.nthT k.1 x))).1.2.2.2.2)))))) || ((Sp.F19 (k.2.2, (Sp.nthT k.1 x))).2 != (Sp.F20 (k.2.2, (Sp.nthT k.1 x))).2)) = true → True) ∧ (((!(((Sp.F19 (k.2.2, (Sp.nthT k.1 x))).1.1 == (Sp.F20 (k.2.2, (Sp.nthT k.1 x))).1.1) && (((Sp.F19 (k.2.2, (Sp.nthT k.1 x))).1.2.1 == (Sp.F20 (k.2.2, (Sp.nthT k.1 x))).1.2.1) && (((Sp.F19 (k.2.2, (Sp.nthT k.1 x))).1.2.2.1 == (Sp.F20 (k.2.2, (Sp.nthT k.1 x))).1.2.2.1) && (((Sp.F19 (k.2.2, (Sp.nthT k.1 x))).1.2.2.2.1 == (Sp.F20 (k.2.2, (Sp.nthT k.1 x))).1.2.2.2.1) && ((Sp.F19 (k.2.2, (Sp.nthT k.1 x))).1.2.2.2.2 == (Sp.F20 (k.2.2, (Sp.nthT k.1 x))).1.2.2.2.2)))))) || ((Sp.F19 (k.2.2, (Sp.nthT k.1 x))).2 != (Sp.F20 (k.2.2, (Sp.nthT k.1 x))).2)) = false → True)))) ∧ ((decide (x < k.2.1)) = false → True))) := by kernel_rfl
set_option maxHeartbeats 4000000 in
theorem sa3_16 (k : (Ty.pair ty36 (Ty.pair ty3 ty28)).den) (x : ty3.den) (fk : Fit (Ty.pair ty36 (Ty.pair ty3 ty28)) k) (fx : Fit ty3 x) (h : Sp.in3_16 k x) : SafeW ((evCode (ctxG GmY4) (lookL [(5, LS3_5)]) (bodyAt (bodyOf Try.f3) [1]) (tmpl LS3_16 (enc (Ty.pair ty36 (Ty.pair ty3 ty28)) k) (enc ty3 x)) (evRound LS3_16 (evRet (ctxG GmY4) Try.f3 (Rsh.one (none)) none ty4 .ret)))) := by
  refine ⟨?_⟩
  rw [se3_16]
  try dsimp only [Ty.den] at *
  simp only [Sp.in3_16, Fit, maxLen] at h fk fx
  simp only [Sp.bts_size, Sp.strCat_size, Sp.extract_size, Sp.stb_len, Sp.mk_size, IntKind.wrap_i64, IntKind.wrap_u8, IntKind.wrap_u32, IntKind.wrap_u64, Sp.tmod_lit, Sp.tdiv_lit, bne_eq_false_iff_eq, Int.natCast_inj, setE, copyL, sliceL, zrow, List.length_append, List.length_cons, List.length_nil, List.length_set, List.length_replicate, List.length_take, List.length_drop, decide_eq_true_eq, decide_eq_false_iff_not, Bool.or_eq_true, Bool.and_eq_true, Bool.or_eq_false_iff, Bool.and_eq_false_iff, Bool.not_eq_true', Bool.not_eq_false', Bool.not_eq_true, Bool.not_eq_false, beq_iff_eq, beq_eq_false_iff_ne, bne_iff_ne, ne_eq, implies_true, and_true, true_and] at *
  all_goals ((repeat' (first | exact trivial | apply And.intro | intro _)) <;> first | trivial | omega | exact Sp.tmod_nn (by omega) | exact Sp.tmod_lt (by omega) (by omega))
set_option maxHeartbeats 4000000 in
theorem so3_16 (k : (Ty.pair ty36 (Ty.pair ty3 ty28)).den) (x : ty3.den) (fk : Fit (Ty.pair ty36 (Ty.pair ty3 ty28)) k) (h : Sp.in3_16 k x) : StepOk true Sp.in3_16 Sp.mu3_16 k x (Sp.st3_16 k x) := by
  try dsimp only [Ty.den] at *
  simp only [Sp.in3_16, Fit, maxLen] at h fk
  unfold Sp.st3_16
  (repeat' (first | exact rfl | (refine StepOk.cnd (fun hc => ?_) (fun hc => ?_) <;> (try simp only [IntKind.wrap_i64, IntKind.wrap_u8, IntKind.wrap_u32, IntKind.wrap_u64, bne_eq_false_iff_eq, Int.natCast_inj, setE, copyL, sliceL, zrow, List.length_append, List.length_cons, List.length_nil, List.length_set, List.length_replicate, List.length_take, List.length_drop, decide_eq_true_eq, decide_eq_false_iff_not, Bool.or_eq_true, Bool.and_eq_true, Bool.or_eq_false_iff, Bool.and_eq_false_iff, Bool.not_eq_true', Bool.not_eq_false', Bool.not_eq_true, Bool.not_eq_false, beq_iff_eq, beq_eq_false_iff_ne, bne_iff_ne, ne_eq] at hc)) | refine StepOk.opt (fun _ => ?_))) <;> (first | exact rfl | (refine ⟨rfl, ?_, ?_⟩ <;> simp only [Sp.in3_16, Sp.mu3_16, Sp.bts_size, Sp.strCat_size, Sp.extract_size, Sp.stb_len, Sp.mk_size, IntKind.wrap_i64, IntKind.wrap_u8, IntKind.wrap_u32, IntKind.wrap_u64, Sp.tmod_lit, Sp.tdiv_lit, bne_eq_false_iff_eq, Int.natCast_inj, setE, copyL, sliceL, zrow, List.length_append, List.length_cons, List.length_nil, List.length_set, List.length_replicate, List.length_take, List.length_drop, decide_eq_true_eq, decide_eq_false_iff_not, Bool.or_eq_true, Bool.and_eq_true, Bool.or_eq_false_iff, Bool.and_eq_false_iff, Bool.not_eq_true', Bool.not_eq_false', Bool.not_eq_true, Bool.not_eq_false, beq_iff_eq, beq_eq_false_iff_ne, bne_iff_ne, ne_eq] <;> first | omega | (and_intros <;> first | omega | exact h.1 | exact h.2 | exact h.2.1 | exact h.2.2 | exact h.2.2.1 | exact h.2.2.2 | exact h.2.2.2.1 | exact h.2.2.2.2 | exact h.2.2.2.2.1 | exact h.2.2.2.2.2 | exact h.2.2.2.2.2.1 | exact h.2.2.2.2.2.2)))
theorem lo3_16 : LoopOk Try.prog gdS (RetAt Try.prog Try.f3 (Rsh.one (none)) none ty4) (bodyAt (bodyOf Try.f3) [1]) LS3_16 :=
  loop_run (ctxOkF gokGmY4 []) (L := lookL [(5, LS3_5)]) (loops_of (l := []) (by kernel_rfl) (loops_nil)) sa3_16 va3_16 so3_16
end Go.Proofs.Ytabifaikklcghaa.Sy
namespace Go.Proofs.Ytabifaikklcghaa.Sp
open Go Go.RowKit Sy
def K3_1 (x : Int × (Int × Int × Int × Int × Int) × ByteArray) :=
  (Sp.G3_16 ([x.2.2, (ByteArray.extract x.2.2 (Int.toNat (0 : Int)) (Int.toNat (min ((x.2.2).size : Int) (6 : Int)))), (strCat (ByteArray.extract x.2.2 (Int.toNat (0 : Int)) (Int.toNat (min ((x.2.2).size : Int) (5 : Int)))) (bts [(Sp.F18 (ByteArray.extract x.2.2 (Int.toNat (0 : Int)) (Int.toNat (min ((x.2.2).size : Int) (5 : Int)))))]))], (([x.2.2, (ByteArray.extract x.2.2 (Int.toNat (0 : Int)) (Int.toNat (min ((x.2.2).size : Int) (6 : Int)))), (strCat (ByteArray.extract x.2.2 (Int.toNat (0 : Int)) (Int.toNat (min ((x.2.2).size : Int) (5 : Int)))) (bts [(Sp.F18 (ByteArray.extract x.2.2 (Int.toNat (0 : Int)) (Int.toNat (min ((x.2.2).size : Int) (5 : Int)))))]))]).length : Int), (Sp.F13 x.1)) (0 : Int))
def F3 (x : Int × (Int × Int × Int × Int × Int) × ByteArray) : Bool :=
  bif (decide (((x.2.2).size : Int) > (100 : Int))) then
    (Sp.F12 ())
  else
    Sp.optR (Sp.R3_5 (x.2.1, (Sp.F13 x.1)) (0 : Int)) (fun y => y)
    (Sp.optR (Sp.R3_16 ([x.2.2, (ByteArray.extract x.2.2 (Int.toNat (0 : Int)) (Int.toNat (min ((x.2.2).size : Int) (6 : Int)))), (strCat (ByteArray.extract x.2.2 (Int.toNat (0 : Int)) (Int.toNat (min ((x.2.2).size : Int) (5 : Int)))) (bts [(Sp.F18 (ByteArray.extract x.2.2 (Int.toNat (0 : Int)) (Int.toNat (min ((x.2.2).size : Int) (5 : Int)))))]))], (([x.2.2, (ByteArray.extract x.2.2 (Int.toNat (0 : Int)) (Int.toNat (min ((x.2.2).size : Int) (6 : Int)))), (strCat (ByteArray.extract x.2.2 (Int.toNat (0 : Int)) (Int.toNat (min ((x.2.2).size : Int) (5 : Int)))) (bts [(Sp.F18 (ByteArray.extract x.2.2 (Int.toNat (0 : Int)) (Int.toNat (min ((x.2.2).size : Int) (5 : Int)))))]))]).length : Int), (Sp.F13 x.1)) (0 : Int)) (fun y => y)
    ((Sp.F12 ())))
def pre3 (x : Int × (Int × Int × Int × Int × Int) × ByteArray) : Prop := 0 ≤ x.1 ∧ x.1 ≤ 255
end Go.Proofs.Ytabifaikklcghaa.Sp
namespace Go.Proofs.Ytabifaikklcghaa.Sy
def ct3 : Ct := { p := (Ty.pair ty5 (Ty.pair ty23 ty9)), psh := [none, some 5, none], r := ty4, rsh := (Rsh.one (none)), pre := some Sp.pre3, fresh := none, F := Sp.F3 }
theorem va3 (x : (Ty.pair ty5 (Ty.pair ty23 ty9)).den) : ((evFn (ctxG GmY4) Try.f3 (Ty.pair ty5 (Ty.pair ty23 ty9)) [none, some 5, none] (Rsh.one (none)) none ty4 (lookL [(5, LS3_5), (16, LS3_16)]) x)).val (fun y => y) (Ty.dflt ty4) = Sp.F3 x := by kernel_rfl
theorem se3 (x : (Ty.pair ty5 (Ty.pair ty23 ty9)).den) : ((evFn (ctxG GmY4) Try.f3 (Ty.pair ty5 (Ty.pair ty23 ty9)) [none, some 5, none] (Rsh.one (none)) none ty4 (lookL [(5, LS3_5), (16, LS3_16)]) x)).safe = ((((decide (((x.2.2).size : Int) > (100 : Int))) = true → True) ∧ ((decide (((x.2.2).size : Int) > (100 : Int))) = false → ((Sp.pre13 x.1) ∧ ((Sp.in3_5 (x.2.1, (Sp.F13 x.1)) (0 : Int)) ∧ ((Sp.R3_5 (x.2.1, (Sp.F13 x.1)) (0 : Int)) = none → ((0 ≤ (0 : Int) ∧ (0 : Int) ≤ (min ((x.2.2).size : Int) (5 : Int)) ∧ (min ((x.2.2).size : Int) (5 : Int)) ≤ ((x.2.2).size : Int)) ∧ ((0 ≤ (0 : Int) ∧ (0 : Int) ≤ (min ((x.2.2).size : Int) (6 : Int)) ∧ (min ((x.2.2).size : Int) (6 : Int)) ≤ ((x.2.2).size : Int)) ∧ ((Sp.pre18 (ByteArray.extract x.2.2 (Int.toNat (0 : Int)) (Int.toNat (min ((x.2.2).size : Int) (5 : Int))))) ∧ ((((ByteArray.size (ByteArray.extract x.2.2 (Int.toNat (0 : Int)) (Int.toNat (min ((x.2.2).size : Int) (5 : Int)))) : Nat) : Int) + ((ByteArray.size (bts [(Sp.F18 (ByteArray.extract x.2.2 (Int.toNat (0 : Int)) (Int.toNat (min ((x.2.2).size : Int) (5 : Int)))))]) : Nat) : Int) ≤ 9223372036854775807) ∧ ((Sp.in3_16 ([x.2.2, (ByteArray.extract x.2.2 (Int.toNat (0 : Int)) (Int.toNat (min ((x.2.2).size : Int) (6 : Int)))), (strCat (ByteArray.extract x.2.2 (Int.toNat (0 : Int)) (Int.toNat (min ((x.2.2).size : Int) (5 : Int)))) (bts [(Sp.F18 (ByteArray.extract x.2.2 (Int.toNat (0 : Int)) (Int.toNat (min ((x.2.2).size : Int) (5 : Int)))))]))], (([x.2.2, (ByteArray.extract x.2.2 (Int.toNat (0 : Int)) (Int.toNat (min ((x.2.2).size : Int) (6 : Int)))), (strCat (ByteArray.extract x.2.2 (Int.toNat (0 : Int)) (Int.toNat (min ((x.2.2).size : Int) (5 : Int)))) (bts [(Sp.F18 (ByteArray.extract x.2.2 (Int.toNat (0 : Int)) (Int.toNat (min ((x.2.2).size : Int) (5 : Int)))))]))]).length : Int), (Sp.F13 x.1)) (0 : Int)) ∧ ((Sp.R3_16 ([x.2.2, (ByteArray.extract x.2.2 (Int.toNat (0 : Int)) (Int.toNat (min ((x.2.2).size : Int) (6 : Int)))), (strCat (ByteArray.extract x.2.2 (Int.toNat (0 : Int)) (Int.toNat (min ((x.2.2).size : Int) (5 : Int)))) (bts [(Sp.F18 (ByteArray.extract x.2.2 (Int.toNat (0 : Int)) (Int.toNat (min ((x.2.2).size : Int) (5 : Int)))))]))], (([x.2.2, (ByteArray.extract x.2.2 (Int.toNat (0 : Int)) (Int.toNat (min ((x.2.2).size : Int) (6 : Int)))), (strCat (ByteArray.extract x.2.2 (Int.toNat (0 : Int)) (Int.toNat (min ((x.2.2).size : Int) (5 : Int)))) (bts [(Sp.F18 (ByteArray.extract x.2.2 (Int.toNat (0 : Int)) (Int.toNat (min ((x.2.2).size : Int) (5 : Int)))))]))]).length : Int), (Sp.F13 x.1)) (0 : Int)) = none → True)))))))))))) := by kernel_rfl
theorem sa3 (x : (Ty.pair ty5 (Ty.pair ty23 ty9)).den) (fx : Fit (Ty.pair ty5 (Ty.pair ty23 ty9)) x) (h : Sp.pre3 x) : SafeW ((evFn (ctxG GmY4) Try.f3 (Ty.pair ty5 (Ty.pair ty23 ty9)) [none, some 5, none] (Rsh.one (none)) none ty4 (lookL [(5, LS3_5), (16, LS3_16)]) x)) := by
  refine ⟨?_⟩
  rw [se3]
  try dsimp only [Ty.den] at *
  simp only [Sp.pre3] at h
  refine ⟨fun _ => trivial, fun hc => ?_⟩
  rw [decide_eq_false_iff_not] at hc
  refine ⟨h, by unfold Sp.in3_5; omega, fun _ => ⟨⟨by omega, by omega, by omega⟩, ⟨by omega, by omega, by omega⟩, ?_, ?_, ⟨by omega, rfl, rfl⟩, fun _ => trivial⟩⟩
  · unfold Sp.pre18
    rw [Sp.extract_size]
    omega
  · rw [Sp.extract_size, Sp.bts_size]
    simp only [List.length_cons, List.length_nil]
    omega
theorem ok3 : CtOk Try.prog gdS 3 ct3 :=
  fn_okU (ctxOkF gokGmY4 []) rfl Try.func3 (p := (Ty.pair ty5 (Ty.pair ty23 ty9))) (psh := [none, some 5, none]) (r := ty4) (rsh := (Rsh.one (none))) (pre := some Sp.pre3) (fresh := none) (F := Sp.F3) (L := (lookL [(5, LS3_5), (16, LS3_16)])) (c := bodyOf Try.f3) (dflt := Ty.dflt ty4) rfl (loops_of (l := [bodyAt (bodyOf Try.f3) [0], bodyAt (bodyOf Try.f3) [1]]) (by kernel_rfl) (loops_cons (s0 := LS3_5) (by kernel_rfl) lo3_5 (loops_cons (s0 := LS3_16) (by kernel_rfl) lo3_16 (loops_nil))))
    (safe_pre @sa3) va3
/-! overlaylaw09.RecordBack -/
end Go.Proofs.Ytabifaikklcghaa.Sy
namespace Go.Proofs.Ytabifaikklcghaa.Sp
open Go Go.RowKit Sy
def in8_14 (k : (ByteArray × Int × Int × Int × Int × Nat × Nat × Nat × List (Int × Int × Int × Int × Int × Int × Int × Int × Int))) (x : (Int)) : Prop := (0 : Int) ≤ x ∧ k.1.size = 6
def mu8_14 (k : (ByteArray × Int × Int × Int × Int × Nat × Nat × Nat × List (Int × Int × Int × Int × Int × Int × Int × Int × Int))) (x : (Int)) : Nat := ((48 : Int) - x).toNat
def K8_14_1 (k : (ByteArray × Int × Int × Int × Int × Nat × Nat × Nat × List (Int × Int × Int × Int × Int × Int × Int × Int × Int))) (x : (Int)) :=
  (setE ty5 (stb k.1) (IntKind.i64.wrap (Int.tdiv x (8 : Int))) (IntKind.u8.wrap ((BitVec.ofInt IntKind.u8.bits (Sp.nthT (stb k.1) (IntKind.i64.wrap (Int.tdiv x (8 : Int)))) ^^^ BitVec.ofInt IntKind.u8.bits (IntKind.u8.wrap ((1 : Int) * 2 ^ (min ((IntKind.u64.wrap (Int.tmod x (8 : Int)))).toNat IntKind.u8.bits)))).toNat : Int)))
def st8_14 (k : (ByteArray × Int × Int × Int × Int × Nat × Nat × Nat × List (Int × Int × Int × Int × Int × Int × Int × Int × Int))) (x : (Int)) : BOut (ByteArray × Int × Int × Int × Int × Nat × Nat × Nat × List (Int × Int × Int × Int × Int × Int × Int × Int × Int)) (Int) (Bool) :=
  bif (decide (x < (48 : Int))) then
    (bif ((Sp.F19 (k.2, (bts (Sp.K8_14_1 k x)))).2 != (5 : Int)) then
      BOut.ret false
    else
      BOut.next k (IntKind.i64.wrap (x + (1 : Int))))
  else
    BOut.brk k x
def G8_14 (k : (ByteArray × Int × Int × Int × Int × Nat × Nat × Nat × List (Int × Int × Int × Int × Int × Int × Int × Int × Int))) (x : (Int)) : (Int) := endOf st8_14 k (Nat.succ (mu8_14 k x)) x
def R8_14 (k : (ByteArray × Int × Int × Int × Int × Nat × Nat × Nat × List (Int × Int × Int × Int × Int × Int × Int × Int × Int))) (x : (Int)) : Option (Bool) := retOf st8_14 k (Nat.succ (mu8_14 k x)) x
end Go.Proofs.Ytabifaikklcghaa.Sp
namespace Go.Proofs.Ytabifaikklcghaa.Sy
def LS8_14 : LS ty4.den := mkLS (Ty.pair ty9 ty28) ty3  [(11, none)] [(7, 8)] [(15, none)] [] [] [] [(7, 7)] 2 true Sp.in8_14 Sp.st8_14 Sp.mu8_14
end Go.Proofs.Ytabifaikklcghaa.Sy
namespace Go.Proofs.Ytabifaikklcghaa.Sp
open Go Go.RowKit Sy
def in8_7 (k : ((List (Int × Int × Int × Int × Int)) × Int × Int × Int × Int × Nat × Nat × Nat × List (Int × Int × Int × Int × Int × Int × Int × Int × Int))) (x : (ByteArray × Int)) : Prop := (0 : Int) ≤ x.2 ∧ (x.1.size : Int) ≤ 6 * x.2 ∧ k.1.length ≤ 100
def mu8_7 (k : ((List (Int × Int × Int × Int × Int)) × Int × Int × Int × Int × Nat × Nat × Nat × List (Int × Int × Int × Int × Int × Int × Int × Int × Int))) (x : (ByteArray × Int)) : Nat := (((k.1).length : Int) - x.2).toNat
def st8_7 (k : ((List (Int × Int × Int × Int × Int)) × Int × Int × Int × Int × Nat × Nat × Nat × List (Int × Int × Int × Int × Int × Int × Int × Int × Int))) (x : (ByteArray × Int)) : BOut ((List (Int × Int × Int × Int × Int)) × Int × Int × Int × Int × Nat × Nat × Nat × List (Int × Int × Int × Int × Int × Int × Int × Int × Int)) (ByteArray × Int) (Bool) :=
  bif (decide (x.2 < ((k.1).length : Int))) then
    (bif (((((Sp.F14 (k.2, (Sp.nthT k.1 x.2))).2 != (0 : Int)) || ((Sp.F19 (k.2, (Sp.F14 (k.2, (Sp.nthT k.1 x.2))).1)).2 != (0 : Int))) || (!(((Sp.F19 (k.2, (Sp.F14 (k.2, (Sp.nthT k.1 x.2))).1)).1.1 == (Sp.nthT k.1 x.2).1) && (((Sp.F19 (k.2, (Sp.F14 (k.2, (Sp.nthT k.1 x.2))).1)).1.2.1 == (Sp.nthT k.1 x.2).2.1) && (((Sp.F19 (k.2, (Sp.F14 (k.2, (Sp.nthT k.1 x.2))).1)).1.2.2.1 == (Sp.nthT k.1 x.2).2.2.1) && (((Sp.F19 (k.2, (Sp.F14 (k.2, (Sp.nthT k.1 x.2))).1)).1.2.2.2.1 == (Sp.nthT k.1 x.2).2.2.2.1) && ((Sp.F19 (k.2, (Sp.F14 (k.2, (Sp.nthT k.1 x.2))).1)).1.2.2.2.2 == (Sp.nthT k.1 x.2).2.2.2.2))))))) || ((((Sp.F14 (k.2, (Sp.nthT k.1 x.2))).1).size : Int) != (6 : Int))) then
      BOut.ret false
    else
      Sp.optR (Sp.R8_14 ((Sp.F14 (k.2, (Sp.nthT k.1 x.2))).1, k.2) (0 : Int)) BOut.ret
      (BOut.next k ((strCat x.1 ((Sp.F14 (k.2, (Sp.nthT k.1 x.2))).1)), (IntKind.i64.wrap (x.2 + (1 : Int))))))
  else
    BOut.brk k x
def G8_7 (k : ((List (Int × Int × Int × Int × Int)) × Int × Int × Int × Int × Nat × Nat × Nat × List (Int × Int × Int × Int × Int × Int × Int × Int × Int))) (x : (ByteArray × Int)) : (ByteArray × Int) := endOf st8_7 k (Nat.succ (mu8_7 k x)) x
def R8_7 (k : ((List (Int × Int × Int × Int × Int)) × Int × Int × Int × Int × Nat × Nat × Nat × List (Int × Int × Int × Int × Int × Int × Int × Int × Int))) (x : (ByteArray × Int)) : Option (Bool) := retOf st8_7 k (Nat.succ (mu8_7 k x)) x
end Go.Proofs.Ytabifaikklcghaa.Sp
namespace Go.Proofs.Ytabifaikklcghaa.Sy
def LS8_7 : LS ty4.den := mkLS (Ty.pair ty40 ty28) (Ty.pair ty9 ty3)  [(8, none)] [(7, 8)] [(9, none), (10, none)] [] [] [26, 29] [(7, 7)] 0 true Sp.in8_7 Sp.st8_7 Sp.mu8_7
theorem va8_14 (k : (Ty.pair ty9 ty28).den) (x : ty3.den) : ((evCode (ctxF GmY4 [(23, [107])]) (lookL []) (bodyAt (bodyOf Try.f8) [0, 0]) (tmpl LS8_14 (enc (Ty.pair ty9 ty28) k) (enc ty3 x)) (evRound LS8_14 (evRet (ctxF GmY4 [(23, [107])]) Try.f8 (Rsh.one (none)) none ty4 .ret)))).val BOut.ret (BOut.brk (Ty.dflt (Ty.pair ty9 ty28)) (Ty.dflt ty3)) = Sp.st8_14 k x := by kernel_rfl
theorem se8_14 (k : (Ty.pair ty9 ty28).den) (x : ty3.den) : ((evCode (ctxF GmY4 [(23, [107])]) (lookL []) (bodyAt (bodyOf Try.f8) [0, 0]) (tmpl LS8_14 (enc (Ty.pair ty9 ty28) k) (enc ty3 x)) (evRound LS8_14 (evRet (ctxF GmY4 [(23, [107])]) Try.f8 (Rsh.one (none)) none ty4 .ret)))).safe = ((((decide (x < (48 : Int))) = true → ((((ByteArray.size k.1 : Nat) : Int) ≤ 9223372036854775807) ∧ (((8 : Int) ≠ 0) ∧ (((8 : Int) ≠ 0) ∧ ((0 ≤ (IntKind.i64.wrap (Int.tdiv x (8 : Int))) ∧ (IntKind.i64.wrap (Int.tdiv x (8 : Int))) < (((stb k.1)).length : Int)) ∧ (((8 : Int) ≠ 0) ∧ ((0 ≤ (IntKind.u64.wrap (Int.tmod x (8 : Int)))) ∧ ((0 ≤ (IntKind.i64.wrap (Int.tdiv x (8 : Int))) ∧ (IntKind.i64.wrap (Int.tdiv x (8 : Int))) < (((stb k.1)).length : Int)) ∧ ((((Sp.F19 (k.2, (bts (Sp.K8_14_1 k x)))).2 != (5 : Int)) = true → True) ∧ (((Sp.F19 (k.2, (bts (Sp.K8_14_1 k x)))).2 != (5 : Int)) = false → True)))))))))) ∧ ((decide (x < (48 : Int))) = false → True))) := by kernel_rfl
set_option maxHeartbeats 4000000 in
theorem sa8_14 (k : (Ty.pair ty9 ty28).den) (x : ty3.den) (fk : Fit (Ty.pair ty9 ty28) k) (fx : Fit ty3 x) (h : Sp.in8_14 k x) : SafeW ((evCode (ctxF GmY4 [(23, [107])]) (lookL []) (bodyAt (bodyOf Try.f8) [0, 0]) (tmpl LS8_14 (enc (Ty.pair ty9 ty28) k) (enc ty3 x)) (evRound LS8_14 (evRet (ctxF GmY4 [(23, [107])]) Try.f8 (Rsh.one (none)) none ty4 .ret)))) := by
  refine ⟨?_⟩
  rw [se8_14]
  try dsimp only [Ty.den] at *
  simp only [Sp.in8_14] at h
  refine ⟨fun hc => ?_, fun _ => trivial⟩
  rw [decide_eq_true_eq] at hc
  have e8 : Int.tdiv x 8 = x / 8 := Int.tdiv_eq_ediv_of_nonneg (by omega)
  have m8 := Sp.tmod_by (a := x) (n := 8) (by omega) (by omega)
  rw [e8, Sp.wrap_i64_of (x := x / 8) (by omega) (by omega), Sp.stb_len, IntKind.wrap_u64]
  refine ⟨by omega, by omega, by omega, ⟨by omega, by omega⟩, by omega, by omega, ⟨by omega, by omega⟩, fun _ => trivial, fun _ => trivial⟩
set_option maxHeartbeats 4000000 in
theorem so8_14 (k : (Ty.pair ty9 ty28).den) (x : ty3.den) (fk : Fit (Ty.pair ty9 ty28) k) (h : Sp.in8_14 k x) : StepOk true Sp.in8_14 Sp.mu8_14 k x (Sp.st8_14 k x) := by
  try dsimp only [Ty.den] at *
  simp only [Sp.in8_14, Fit, maxLen] at h fk
  unfold Sp.st8_14
  (repeat' (first | exact rfl | (refine StepOk.cnd (fun hc => ?_) (fun hc => ?_) <;> (try simp only [IntKind.wrap_i64, IntKind.wrap_u8, IntKind.wrap_u32, IntKind.wrap_u64, bne_eq_false_iff_eq, Int.natCast_inj, setE, copyL, sliceL, zrow, List.length_append, List.length_cons, List.length_nil, List.length_set, List.length_replicate, List.length_take, List.length_drop, decide_eq_true_eq, decide_eq_false_iff_not, Bool.or_eq_true, Bool.and_eq_true, Bool.or_eq_false_iff, Bool.and_eq_false_iff, Bool.not_eq_true', Bool.not_eq_false', Bool.not_eq_true, Bool.not_eq_false, beq_iff_eq, beq_eq_false_iff_ne, bne_iff_ne, ne_eq] at hc)) | refine StepOk.opt (fun _ => ?_))) <;> (first | exact rfl | (refine ⟨rfl, ?_, ?_⟩ <;> simp only [Sp.in8_14, Sp.mu8_14, Sp.K8_14_1, Sp.bts_size, Sp.strCat_size, Sp.extract_size, Sp.stb_len, Sp.mk_size, IntKind.wrap_i64, IntKind.wrap_u8, IntKind.wrap_u32, IntKind.wrap_u64, Sp.tmod_lit, Sp.tdiv_lit, bne_eq_false_iff_eq, Int.natCast_inj, setE, copyL, sliceL, zrow, List.length_append, List.length_cons, List.length_nil, List.length_set, List.length_replicate, List.length_take, List.length_drop, decide_eq_true_eq, decide_eq_false_iff_not, Bool.or_eq_true, Bool.and_eq_true, Bool.or_eq_false_iff, Bool.and_eq_false_iff, Bool.not_eq_true', Bool.not_eq_false', Bool.not_eq_true, Bool.not_eq_false, beq_iff_eq, beq_eq_false_iff_ne, bne_iff_ne, ne_eq] <;> first | omega | (and_intros <;> first | omega | exact h.1 | exact h.2 | exact h.2.1 | exact h.2.2 | exact h.2.2.1 | exact h.2.2.2 | exact h.2.2.2.1 | exact h.2.2.2.2 | exact h.2.2.2.2.1 | exact h.2.2.2.2.2 | exact h.2.2.2.2.2.1 | exact h.2.2.2.2.2.2)))
theorem lo8_14 : LoopOk Try.prog gdS (RetAt Try.prog Try.f8 (Rsh.one (none)) none ty4) (bodyAt (bodyOf Try.f8) [0, 0]) LS8_14 :=
  loop_run (ctxOkF gokGmY4 [(23, [107])]) (L := lookL []) (loops_of (l := []) (by kernel_rfl) (loops_nil)) sa8_14 va8_14 so8_14
theorem va8_7 (k : (Ty.pair ty40 ty28).den) (x : (Ty.pair ty9 ty3).den) : ((evCode (ctxF GmY4 [(23, [107])]) (lookL [(14, LS8_14)]) (bodyAt (bodyOf Try.f8) [0]) (tmpl LS8_7 (enc (Ty.pair ty40 ty28) k) (enc (Ty.pair ty9 ty3) x)) (evRound LS8_7 (evRet (ctxF GmY4 [(23, [107])]) Try.f8 (Rsh.one (none)) none ty4 .ret)))).val BOut.ret (BOut.brk (Ty.dflt (Ty.pair ty40 ty28)) (Ty.dflt (Ty.pair ty9 ty3))) = Sp.st8_7 k x := by kernel_rfl
theorem se8_7 (k : (Ty.pair ty40 ty28).den) (x : (Ty.pair ty9 ty3).den) : ((evCode (ctxF GmY4 [(23, [107])]) (lookL [(14, LS8_14)]) (bodyAt (bodyOf Try.f8) [0]) (tmpl LS8_7 (enc (Ty.pair ty40 ty28) k) (enc (Ty.pair ty9 ty3) x)) (evRound LS8_7 (evRet (ctxF GmY4 [(23, [107])]) Try.f8 (Rsh.one (none)) none ty4 .ret)))).safe = ((((decide (x.2 < ((k.1).length : Int))) = true → ((0 ≤ x.2 ∧ x.2 < ((k.1).length : Int)) ∧ ((((((Sp.F14 (k.2, (Sp.nthT k.1 x.2))).2 != (0 : Int)) || ((Sp.F19 (k.2, (Sp.F14 (k.2, (Sp.nthT k.1 x.2))).1)).2 != (0 : Int))) = false → 0 ≤ x.2 ∧ x.2 < ((k.1).length : Int))) ∧ (((((((Sp.F14 (k.2, (Sp.nthT k.1 x.2))).2 != (0 : Int)) || ((Sp.F19 (k.2, (Sp.F14 (k.2, (Sp.nthT k.1 x.2))).1)).2 != (0 : Int))) || (!(((Sp.F19 (k.2, (Sp.F14 (k.2, (Sp.nthT k.1 x.2))).1)).1.1 == (Sp.nthT k.1 x.2).1) && (((Sp.F19 (k.2, (Sp.F14 (k.2, (Sp.nthT k.1 x.2))).1)).1.2.1 == (Sp.nthT k.1 x.2).2.1) && (((Sp.F19 (k.2, (Sp.F14 (k.2, (Sp.nthT k.1 x.2))).1)).1.2.2.1 == (Sp.nthT k.1 x.2).2.2.1) && (((Sp.F19 (k.2, (Sp.F14 (k.2, (Sp.nthT k.1 x.2))).1)).1.2.2.2.1 == (Sp.nthT k.1 x.2).2.2.2.1) && ((Sp.F19 (k.2, (Sp.F14 (k.2, (Sp.nthT k.1 x.2))).1)).1.2.2.2.2 == (Sp.nthT k.1 x.2).2.2.2.2))))))) || ((((Sp.F14 (k.2, (Sp.nthT k.1 x.2))).1).size : Int) != (6 : Int))) = true → True) ∧ ((((((Sp.F14 (k.2, (Sp.nthT k.1 x.2))).2 != (0 : Int)) || ((Sp.F19 (k.2, (Sp.F14 (k.2, (Sp.nthT k.1 x.2))).1)).2 != (0 : Int))) || (!(((Sp.F19 (k.2, (Sp.F14 (k.2, (Sp.nthT k.1 x.2))).1)).1.1 == (Sp.nthT k.1 x.2).1) && (((Sp.F19 (k.2, (Sp.F14 (k.2, (Sp.nthT k.1 x.2))).1)).1.2.1 == (Sp.nthT k.1 x.2).2.1) && (((Sp.F19 (k.2, (Sp.F14 (k.2, (Sp.nthT k.1 x.2))).1)).1.2.2.1 == (Sp.nthT k.1 x.2).2.2.1) && (((Sp.F19 (k.2, (Sp.F14 (k.2, (Sp.nthT k.1 x.2))).1)).1.2.2.2.1 == (Sp.nthT k.1 x.2).2.2.2.1) && ((Sp.F19 (k.2, (Sp.F14 (k.2, (Sp.nthT k.1 x.2))).1)).1.2.2.2.2 == (Sp.nthT k.1 x.2).2.2.2.2))))))) || ((((Sp.F14 (k.2, (Sp.nthT k.1 x.2))).1).size : Int) != (6 : Int))) = false → ((Sp.in8_14 ((Sp.F14 (k.2, (Sp.nthT k.1 x.2))).1, k.2) (0 : Int)) ∧ ((Sp.R8_14 ((Sp.F14 (k.2, (Sp.nthT k.1 x.2))).1, k.2) (0 : Int)) = none → ((((ByteArray.size x.1 : Nat) : Int) + ((ByteArray.size ((Sp.F14 (k.2, (Sp.nthT k.1 x.2))).1) : Nat) : Int) ≤ 9223372036854775807) ∧ True)))))))) ∧ ((decide (x.2 < ((k.1).length : Int))) = false → True))) := by kernel_rfl
set_option maxHeartbeats 4000000 in
theorem sa8_7 (k : (Ty.pair ty40 ty28).den) (x : (Ty.pair ty9 ty3).den) (fk : Fit (Ty.pair ty40 ty28) k) (fx : Fit (Ty.pair ty9 ty3) x) (h : Sp.in8_7 k x) : SafeW ((evCode (ctxF GmY4 [(23, [107])]) (lookL [(14, LS8_14)]) (bodyAt (bodyOf Try.f8) [0]) (tmpl LS8_7 (enc (Ty.pair ty40 ty28) k) (enc (Ty.pair ty9 ty3) x)) (evRound LS8_7 (evRet (ctxF GmY4 [(23, [107])]) Try.f8 (Rsh.one (none)) none ty4 .ret)))) := by
  refine ⟨?_⟩
  rw [se8_7]
  try dsimp only [Ty.den] at *
  simp only [Sp.in8_7] at h
  refine ⟨fun hc => ?_, fun _ => trivial⟩
  rw [decide_eq_true_eq] at hc
  have hs := Sp.enc_small k.2 (Sp.nthT k.1 x.2)
  refine ⟨⟨by omega, by omega⟩, fun _ => ⟨by omega, by omega⟩, fun _ => trivial, fun hq => ?_⟩
  rw [Bool.or_eq_false_iff] at hq
  have hq := hq.2
  simp only [bne_eq_false_iff_eq] at hq
  exact ⟨⟨by omega, by simp only; omega⟩, fun _ => ⟨by omega, trivial⟩⟩
set_option maxHeartbeats 4000000 in
theorem so8_7 (k : (Ty.pair ty40 ty28).den) (x : (Ty.pair ty9 ty3).den) (fk : Fit (Ty.pair ty40 ty28) k) (h : Sp.in8_7 k x) : StepOk true Sp.in8_7 Sp.mu8_7 k x (Sp.st8_7 k x) := by
  try dsimp only [Ty.den] at *
  unfold Sp.in8_7 at h
  unfold Sp.st8_7
  refine StepOk.cnd (fun hc => ?_) (fun _ => rfl)
  rw [decide_eq_true_eq] at hc
  have hs := Sp.enc_small k.2 (Sp.nthT k.1 x.2)
  have e : IntKind.i64.wrap (x.2 + 1) = x.2 + 1 := Sp.wrap_i64_of (by omega) (by omega)
  rw [e]
  refine StepOk.cnd (fun _ => rfl) (fun _ => StepOk.opt (fun _ => ⟨rfl, ?_, ?_⟩))
  · unfold Sp.in8_7
    simp only [Sp.strCat_size]
    omega
  · unfold Sp.mu8_7
    simp only
    omega
theorem lo8_7 : LoopOk Try.prog gdS (RetAt Try.prog Try.f8 (Rsh.one (none)) none ty4) (bodyAt (bodyOf Try.f8) [0]) LS8_7 :=
  loop_run (ctxOkF gokGmY4 [(23, [107])]) (L := lookL [(14, LS8_14)]) (loops_of (l := [bodyAt (bodyOf Try.f8) [0, 0]]) (by kernel_rfl) (loops_cons (s0 := LS8_14) (by kernel_rfl) lo8_14 (loops_nil))) sa8_7 va8_7 so8_7
end Go.Proofs.Ytabifaikklcghaa.Sy
namespace Go.Proofs.Ytabifaikklcghaa.Sp
open Go Go.RowKit Sy
def K8_1 (x : Int × (List Int) × ByteArray) :=
  (Sp.F22 ((sliceL ((Sp.F30 ((Sp.F13 x.1), (strCat ((Sp.G8_7 ((Sp.F21 ((Sp.F13 x.1), x.2.1, (40 : Int))), (Sp.F13 x.1)) ((ByteArray.mk #[]), (0 : Int))).1) x.2.2))).1) (0 : Int) (((Sp.F21 ((Sp.F13 x.1), x.2.1, (40 : Int)))).length : Int)), (Sp.F21 ((Sp.F13 x.1), x.2.1, (40 : Int)))))
def F8 (x : Int × (List Int) × ByteArray) : Bool :=
  bif (decide (((x.2.2).size : Int) > (100 : Int))) then
    (Sp.F12 ())
  else
    Sp.optR (Sp.R8_7 ((Sp.F21 ((Sp.F13 x.1), x.2.1, (40 : Int))), (Sp.F13 x.1)) ((ByteArray.mk #[]), (0 : Int))) (fun y => y)
    (((((decide ((((Sp.F30 ((Sp.F13 x.1), (strCat ((Sp.G8_7 ((Sp.F21 ((Sp.F13 x.1), x.2.1, (40 : Int))), (Sp.F13 x.1)) ((ByteArray.mk #[]), (0 : Int))).1) x.2.2))).1).length : Int) ≥ (((Sp.F21 ((Sp.F13 x.1), x.2.1, (40 : Int)))).length : Int))) && (Sp.K8_1 x)) && ((Sp.F30 ((Sp.F13 x.1), (strCat ((Sp.G8_7 ((Sp.F21 ((Sp.F13 x.1), x.2.1, (40 : Int))), (Sp.F13 x.1)) ((ByteArray.mk #[]), (0 : Int))).1) x.2.2))).2 == (IntKind.i64.wrap ((6 : Int) * (((Sp.F30 ((Sp.F13 x.1), (strCat ((Sp.G8_7 ((Sp.F21 ((Sp.F13 x.1), x.2.1, (40 : Int))), (Sp.F13 x.1)) ((ByteArray.mk #[]), (0 : Int))).1) x.2.2))).1).length : Int))))) && (Sp.F12 ())))
def pre8 (x : Int × (List Int) × ByteArray) : Prop := 0 ≤ x.1 ∧ x.1 ≤ 255 ∧ (∀ v ∈ x.2.1, 0 ≤ v ∧ v ≤ 255)
end Go.Proofs.Ytabifaikklcghaa.Sp
namespace Go.Proofs.Ytabifaikklcghaa.Sy
def ct8 : Ct := { p := (Ty.pair ty5 (Ty.pair ty35 ty9)), psh := [none, none, none], r := ty4, rsh := (Rsh.one (none)), pre := some Sp.pre8, fresh := none, F := Sp.F8 }
theorem va8 (x : (Ty.pair ty5 (Ty.pair ty35 ty9)).den) : ((evFn (ctxF GmY4 [(23, [107])]) Try.f8 (Ty.pair ty5 (Ty.pair ty35 ty9)) [none, none, none] (Rsh.one (none)) none ty4 (lookL [(14, LS8_14), (7, LS8_7)]) x)).val (fun y => y) (Ty.dflt ty4) = Sp.F8 x := by kernel_rfl
theorem se8 (x : (Ty.pair ty5 (Ty.pair ty35 ty9)).den) : ((evFn (ctxF GmY4 [(23, [107])]) Try.f8 (Ty.pair ty5 (Ty.pair ty35 ty9)) [none, none, none] (Rsh.one (none)) none ty4 (lookL [(14, LS8_14), (7, LS8_7)]) x)).safe = ((((decide (((x.2.2).size : Int) > (100 : Int))) = true → True) ∧ ((decide (((x.2.2).size : Int) > (100 : Int))) = false → ((Sp.pre13 x.1) ∧ ((Sp.pre21 ((Sp.F13 x.1), x.2.1, (40 : Int))) ∧ ((Sp.in8_7 ((Sp.F21 ((Sp.F13 x.1), x.2.1, (40 : Int))), (Sp.F13 x.1)) ((ByteArray.mk #[]), (0 : Int))) ∧ ((Sp.R8_7 ((Sp.F21 ((Sp.F13 x.1), x.2.1, (40 : Int))), (Sp.F13 x.1)) ((ByteArray.mk #[]), (0 : Int))) = none → ((((ByteArray.size ((Sp.G8_7 ((Sp.F21 ((Sp.F13 x.1), x.2.1, (40 : Int))), (Sp.F13 x.1)) ((ByteArray.mk #[]), (0 : Int))).1) : Nat) : Int) + ((ByteArray.size x.2.2 : Nat) : Int) ≤ 9223372036854775807) ∧ ((Sp.pre30 ((Sp.F13 x.1), (strCat ((Sp.G8_7 ((Sp.F21 ((Sp.F13 x.1), x.2.1, (40 : Int))), (Sp.F13 x.1)) ((ByteArray.mk #[]), (0 : Int))).1) x.2.2))) ∧ ((((decide ((((Sp.F30 ((Sp.F13 x.1), (strCat ((Sp.G8_7 ((Sp.F21 ((Sp.F13 x.1), x.2.1, (40 : Int))), (Sp.F13 x.1)) ((ByteArray.mk #[]), (0 : Int))).1) x.2.2))).1).length : Int) ≥ (((Sp.F21 ((Sp.F13 x.1), x.2.1, (40 : Int)))).length : Int))) = true → 0 ≤ (0 : Int) ∧ (0 : Int) ≤ (((Sp.F21 ((Sp.F13 x.1), x.2.1, (40 : Int)))).length : Int) ∧ (((Sp.F21 ((Sp.F13 x.1), x.2.1, (40 : Int)))).length : Int) ≤ (((Sp.F30 ((Sp.F13 x.1), (strCat ((Sp.G8_7 ((Sp.F21 ((Sp.F13 x.1), x.2.1, (40 : Int))), (Sp.F13 x.1)) ((ByteArray.mk #[]), (0 : Int))).1) x.2.2))).1).length : Int))) ∧ True)))))))))) := by kernel_rfl
theorem sa8 (x : (Ty.pair ty5 (Ty.pair ty35 ty9)).den) (fx : Fit (Ty.pair ty5 (Ty.pair ty35 ty9)) x) (h : Sp.pre8 x) : SafeW ((evFn (ctxF GmY4 [(23, [107])]) Try.f8 (Ty.pair ty5 (Ty.pair ty35 ty9)) [none, none, none] (Rsh.one (none)) none ty4 (lookL [(14, LS8_14), (7, LS8_7)]) x)) := by
  refine ⟨?_⟩
  rw [se8]
  try dsimp only [Ty.den] at *
  simp only [Sp.pre8] at h
  obtain ⟨hn0, hn1, hb⟩ := h
  have hrl := Sp.recs_len (most := 40) ⟨hn0, hn1⟩ hb (by omega)
  have hrp := Sp.recs_pre (most := 40) (l := x.2.1) ⟨hn0, hn1⟩ (by omega)
  generalize Sp.F13 x.1 = b at hrl hrp ⊢
  generalize Sp.F21 (b, x.2.1, 40) = rs at hrl ⊢
  have h7 : (Sp.G8_7 (rs, b) (ByteArray.mk #[], (0 : Int))).1.size ≤ 240 := by
    have := Sp.end_inv (step := Sp.st8_7) (k := (rs, b)) (fun x => 0 ≤ x.2 ∧ (x.1.size : Int) ≤ 6 * x.2 ∧ x.2 ≤ (rs.length : Int)) (fun x hx => by
      have hk : StepOk true (fun _ x => 0 ≤ x.2 ∧ (x.1.size : Int) ≤ 6 * x.2 ∧ x.2 ≤ (rs.length : Int)) (fun _ x => ((rs.length : Int) - x.2).toNat) (rs, b) x (Sp.st8_7 (rs, b) x) := by
        unfold Sp.st8_7
        refine StepOk.cnd (fun hc => ?_) (fun _ => rfl)
        rw [decide_eq_true_eq] at hc
        simp only at hc
        have hs := Sp.enc_small b (Sp.nthT rs x.2)
        rw [Sp.wrap_i64_of (x := x.2 + 1) (by omega) (by omega)]
        refine StepOk.cnd (fun _ => rfl) (fun _ => StepOk.opt (fun _ => ⟨rfl, ?_, ?_⟩))
        · simp only [Sp.strCat_size]; omega
        · simp only; omega
      cases hs : Sp.st8_7 (rs, b) x with
      | next k y => rw [hs] at hk; exact hk.2.1
      | ret r => trivial
      | brk k y =>
        have : y = x := by
          unfold Sp.st8_7 at hs
          cases hd : decide (x.2 < ((rs, b).1.length : Int)) with
          | false => rw [hd, cond_false] at hs; cases hs; rfl
          | true =>
            rw [hd, cond_true] at hs
            revert hs
            refine Sp.no_brk ?_
            exact Sp.NoBrk.cnd (Sp.NoBrk.ret) (Sp.NoBrk.opt Sp.NoBrk.next)
        rw [this]; exact hx) (Nat.succ (Sp.mu8_7 (rs, b) (ByteArray.mk #[], (0 : Int)))) (ByteArray.mk #[], (0 : Int)) ⟨by omega, by simp only [Sp.mk_size]; simp, by omega⟩
    have h6 := this.2.1
    have h7 := this.2.2
    show (Sp.endOf Sp.st8_7 (rs, b) _ _).1.size ≤ 240
    omega
  generalize Sp.G8_7 (rs, b) (ByteArray.mk #[], (0 : Int)) = g7 at h7 ⊢
  refine ⟨fun _ => trivial, fun hc => ?_⟩
  rw [decide_eq_false_iff_not] at hc
  refine ⟨⟨hn0, hn1⟩, hrp, ⟨by simp, by simp only [Sp.mk_size]; simp, by simp only; omega⟩, fun _ => ⟨by omega, ?_, fun hq => ?_, trivial⟩⟩
  · unfold Sp.pre30
    simp only [Sp.strCat_size]
    omega
  · rw [decide_eq_true_eq] at hq
    exact ⟨by omega, by omega, hq⟩
theorem ok8 : CtOk Try.prog gdS 8 ct8 :=
  fn_okU (ctxOkF gokGmY4 [(23, [107])]) rfl Try.func8 (p := (Ty.pair ty5 (Ty.pair ty35 ty9))) (psh := [none, none, none]) (r := ty4) (rsh := (Rsh.one (none))) (pre := some Sp.pre8) (fresh := none) (F := Sp.F8) (L := (lookL [(14, LS8_14), (7, LS8_7)])) (c := bodyOf Try.f8) (dflt := Ty.dflt ty4) rfl (loops_of (l := [bodyAt (bodyOf Try.f8) [0]]) (by kernel_rfl) (loops_cons (s0 := LS8_7) (by kernel_rfl) lo8_7 (loops_nil)))
    (safe_pre @sa8) va8
/-! overlaylaw09.RecordReads -/
end Go.Proofs.Ytabifaikklcghaa.Sy
namespace Go.Proofs.Ytabifaikklcghaa.Sp
open Go Go.RowKit Sy
def in9_5 (k : ((List (Int × Int × Int × Int × Int)) × Int × Int × Int × Int × Nat × Nat × Nat × List (Int × Int × Int × Int × Int × Int × Int × Int × Int))) (x : ((List Int) × Int)) : Prop := (0 : Int) ≤ x.2 ∧ (x.1.length : Int) ≤ 6 * x.2 ∧ k.1.length ≤ 100
def mu9_5 (k : ((List (Int × Int × Int × Int × Int)) × Int × Int × Int × Int × Nat × Nat × Nat × List (Int × Int × Int × Int × Int × Int × Int × Int × Int))) (x : ((List Int) × Int)) : Nat := (((k.1).length : Int) - x.2).toNat
def st9_5 (k : ((List (Int × Int × Int × Int × Int)) × Int × Int × Int × Int × Nat × Nat × Nat × List (Int × Int × Int × Int × Int × Int × Int × Int × Int))) (x : ((List Int) × Int)) : BOut ((List (Int × Int × Int × Int × Int)) × Int × Int × Int × Int × Nat × Nat × Nat × List (Int × Int × Int × Int × Int × Int × Int × Int × Int)) ((List Int) × Int) (Bool) :=
  bif (decide (x.2 < ((k.1).length : Int))) then
    BOut.next k ((x.1 ++ (stb ((Sp.F15 (k.2, (Sp.nthT k.1 x.2))).1))), (IntKind.i64.wrap (x.2 + (1 : Int))))
  else
    BOut.brk k x
def G9_5 (k : ((List (Int × Int × Int × Int × Int)) × Int × Int × Int × Int × Nat × Nat × Nat × List (Int × Int × Int × Int × Int × Int × Int × Int × Int))) (x : ((List Int) × Int)) : ((List Int) × Int) := endOf st9_5 k (Nat.succ (mu9_5 k x)) x
end Go.Proofs.Ytabifaikklcghaa.Sp
namespace Go.Proofs.Ytabifaikklcghaa.Sy
def LS9_5 : LS ty4.den := mkLS (Ty.pair ty40 ty28) (Ty.pair ty35 ty3)  [(8, none)] [(7, 8)] [(9, none), (10, none)] [] [(0, 100500, true, 5)] [23, 26] [(7, 7)] 0 false Sp.in9_5 Sp.st9_5 Sp.mu9_5
end Go.Proofs.Ytabifaikklcghaa.Sy
namespace Go.Proofs.Ytabifaikklcghaa.Sp
open Go Go.RowKit Sy
def in9_10 (k : (List Int)) (x : ((List Int) × Int)) : Prop := 0 ≤ x.2 ∧ x.1.length ≤ 1000 ∧ (∀ v ∈ k, 0 ≤ v ∧ v ≤ 255)
def mu9_10 (k : (List Int)) (x : ((List Int) × Int)) : Nat := (6 - x.2).toNat
def st9_10 (k : (List Int)) (x : ((List Int) × Int)) : BOut (List Int) ((List Int) × Int) (Bool) :=
  bif (((decide ((IntKind.i64.wrap (x.2 + (1 : Int))) < ((k).length : Int))) && (decide (x.2 < (6 : Int)))) && (decide (((x.1).length : Int) > (0 : Int)))) then
    BOut.next k ((setE ty5 x.1 (IntKind.i64.wrap (Int.tdiv (IntKind.i64.wrap ((IntKind.i64.wrap (Sp.nthT k x.2)) * ((x.1).length : Int))) (256 : Int))) (Sp.nthT k (IntKind.i64.wrap (x.2 + (1 : Int))))), (IntKind.i64.wrap (x.2 + (2 : Int))))
  else
    BOut.brk k x
def G9_10 (k : (List Int)) (x : ((List Int) × Int)) : ((List Int) × Int) := endOf st9_10 k (Nat.succ (mu9_10 k x)) x
end Go.Proofs.Ytabifaikklcghaa.Sp
namespace Go.Proofs.Ytabifaikklcghaa.Sy
def LS9_10 : LS ty4.den := mkLS ty35 (Ty.pair ty35 ty3)  [(2, none)] [] [(9, none), (13, none)] [] [(0, 101000, true, 5)] [] [] 2 false Sp.in9_10 Sp.st9_10 Sp.mu9_10
end Go.Proofs.Ytabifaikklcghaa.Sy
namespace Go.Proofs.Ytabifaikklcghaa.Sp
open Go Go.RowKit Sy
def in9_14 (k : ((List ByteArray) × Int × Int × Int × Int × Int × Nat × Nat × Nat × List (Int × Int × Int × Int × Int × Int × Int × Int × Int))) (x : (Int)) : Prop := (0 : Int) ≤ x ∧ k.2.1 = ((k.1).length : Int) ∧ ∀ s ∈ k.1, s.size ≤ 2000000
def mu9_14 (k : ((List ByteArray) × Int × Int × Int × Int × Int × Nat × Nat × Nat × List (Int × Int × Int × Int × Int × Int × Int × Int × Int))) (x : (Int)) : Nat := (k.2.1 - x).toNat
def st9_14 (k : ((List ByteArray) × Int × Int × Int × Int × Int × Nat × Nat × Nat × List (Int × Int × Int × Int × Int × Int × Int × Int × Int))) (x : (Int)) : BOut ((List ByteArray) × Int × Int × Int × Int × Int × Nat × Nat × Nat × List (Int × Int × Int × Int × Int × Int × Int × Int × Int)) (Int) (Bool) :=
  bif (decide (x < k.2.1)) then
    (bif (((Sp.F30 (k.2.2, (Sp.nthT k.1 x))).2 != (Sp.F31 (k.2.2, (Sp.nthT k.1 x))).2) || (!(Sp.F22 ((Sp.F30 (k.2.2, (Sp.nthT k.1 x))).1, (Sp.F31 (k.2.2, (Sp.nthT k.1 x))).1)))) then
      BOut.ret false
    else
      BOut.next k (IntKind.i64.wrap (x + (1 : Int))))
  else
    BOut.brk k x
def G9_14 (k : ((List ByteArray) × Int × Int × Int × Int × Int × Nat × Nat × Nat × List (Int × Int × Int × Int × Int × Int × Int × Int × Int))) (x : (Int)) : (Int) := endOf st9_14 k (Nat.succ (mu9_14 k x)) x
def R9_14 (k : ((List ByteArray) × Int × Int × Int × Int × Int × Nat × Nat × Nat × List (Int × Int × Int × Int × Int × Int × Int × Int × Int))) (x : (Int)) : Option (Bool) := retOf st9_14 k (Nat.succ (mu9_14 k x)) x
end Go.Proofs.Ytabifaikklcghaa.Sp
namespace Go.Proofs.Ytabifaikklcghaa.Sy
def LS9_14 : LS ty4.den := mkLS (Ty.pair ty36 (Ty.pair ty3 ty28)) ty3  [(87, none), (88, none)] [(7, 8)] [(89, none)] [] [] [] [(7, 7)] 4 true Sp.in9_14 Sp.st9_14 Sp.mu9_14
theorem va9_5 (k : (Ty.pair ty40 ty28).den) (x : (Ty.pair ty35 ty3).den) : ((evCode (ctxF GmY4 [(13, [101000])]) (lookL []) (bodyAt (bodyOf Try.f9) [0]) (tmpl LS9_5 (enc (Ty.pair ty40 ty28) k) (enc (Ty.pair ty35 ty3) x)) (evRound LS9_5 (evRet (ctxF GmY4 [(13, [101000])]) Try.f9 (Rsh.one (none)) none ty4 .ret)))).val BOut.ret (BOut.brk (Ty.dflt (Ty.pair ty40 ty28)) (Ty.dflt (Ty.pair ty35 ty3))) = Sp.st9_5 k x := by kernel_rfl
theorem se9_5 (k : (Ty.pair ty40 ty28).den) (x : (Ty.pair ty35 ty3).den) : ((evCode (ctxF GmY4 [(13, [101000])]) (lookL []) (bodyAt (bodyOf Try.f9) [0]) (tmpl LS9_5 (enc (Ty.pair ty40 ty28) k) (enc (Ty.pair ty35 ty3) x)) (evRound LS9_5 (evRet (ctxF GmY4 [(13, [101000])]) Try.f9 (Rsh.one (none)) none ty4 .ret)))).safe = ((((decide (x.2 < ((k.1).length : Int))) = true → ((0 ≤ x.2 ∧ x.2 < ((k.1).length : Int)) ∧ (((List.length (x.1 : List Int) + List.length ((stb ((Sp.F15 (k.2, (Sp.nthT k.1 x.2))).1)) : List Int)) * 1 ≤ 140737488355328 ∧ List.length (x.1 : List Int) + List.length ((stb ((Sp.F15 (k.2, (Sp.nthT k.1 x.2))).1)) : List Int) ≤ 4611686018427387903) ∧ True))) ∧ ((decide (x.2 < ((k.1).length : Int))) = false → True))) := by kernel_rfl
set_option maxHeartbeats 4000000 in
theorem sa9_5 (k : (Ty.pair ty40 ty28).den) (x : (Ty.pair ty35 ty3).den) (fk : Fit (Ty.pair ty40 ty28) k) (fx : Fit (Ty.pair ty35 ty3) x) (h : Sp.in9_5 k x) : SafeW ((evCode (ctxF GmY4 [(13, [101000])]) (lookL []) (bodyAt (bodyOf Try.f9) [0]) (tmpl LS9_5 (enc (Ty.pair ty40 ty28) k) (enc (Ty.pair ty35 ty3) x)) (evRound LS9_5 (evRet (ctxF GmY4 [(13, [101000])]) Try.f9 (Rsh.one (none)) none ty4 .ret)))) := by
  refine ⟨?_⟩
  rw [se9_5]
  try dsimp only [Ty.den] at *
  simp only [Sp.in9_5] at h
  refine ⟨fun hc => ?_, fun _ => trivial⟩
  rw [decide_eq_true_eq] at hc
  have hs := Sp.renc_small k.2 (Sp.nthT k.1 x.2)
  rw [Sp.stb_len]
  exact ⟨by omega, by omega, trivial⟩
set_option maxHeartbeats 4000000 in
theorem so9_5 (k : (Ty.pair ty40 ty28).den) (x : (Ty.pair ty35 ty3).den) (fk : Fit (Ty.pair ty40 ty28) k) (h : Sp.in9_5 k x) : StepOk false Sp.in9_5 Sp.mu9_5 k x (Sp.st9_5 k x) := by
  try dsimp only [Ty.den] at *
  unfold Sp.in9_5 at h
  unfold Sp.st9_5
  refine StepOk.cnd (fun hc => ?_) (fun _ => rfl)
  rw [decide_eq_true_eq] at hc
  have hs := Sp.renc_small k.2 (Sp.nthT k.1 x.2)
  have e : IntKind.i64.wrap (x.2 + 1) = x.2 + 1 := Sp.wrap_i64_of (by omega) (by omega)
  rw [e]
  refine ⟨rfl, ?_, ?_⟩
  · unfold Sp.in9_5
    simp only [List.length_append, Sp.stb_len]
    omega
  · unfold Sp.mu9_5
    simp only
    omega
theorem lo9_5 : LoopOk Try.prog gdS (RetAt Try.prog Try.f9 (Rsh.one (none)) none ty4) (bodyAt (bodyOf Try.f9) [0]) LS9_5 :=
  loop_run (ctxOkF gokGmY4 [(13, [101000])]) (L := lookL []) (loops_of (l := []) (by kernel_rfl) (loops_nil)) sa9_5 va9_5 so9_5
theorem va9_10 (k : ty35.den) (x : (Ty.pair ty35 ty3).den) : ((evCode (ctxF GmY4 [(13, [101000])]) (lookL [(5, LS9_5)]) (bodyAt (bodyOf Try.f9) [1]) (tmpl LS9_10 (enc ty35 k) (enc (Ty.pair ty35 ty3) x)) (evRound LS9_10 (evRet (ctxF GmY4 [(13, [101000])]) Try.f9 (Rsh.one (none)) none ty4 .ret)))).val BOut.ret (BOut.brk (Ty.dflt ty35) (Ty.dflt (Ty.pair ty35 ty3))) = Sp.st9_10 k x := by kernel_rfl
theorem se9_10 (k : ty35.den) (x : (Ty.pair ty35 ty3).den) : ((evCode (ctxF GmY4 [(13, [101000])]) (lookL [(5, LS9_5)]) (bodyAt (bodyOf Try.f9) [1]) (tmpl LS9_10 (enc ty35 k) (enc (Ty.pair ty35 ty3) x)) (evRound LS9_10 (evRet (ctxF GmY4 [(13, [101000])]) Try.f9 (Rsh.one (none)) none ty4 .ret)))).safe = ((((((decide ((IntKind.i64.wrap (x.2 + (1 : Int))) < ((k).length : Int))) && (decide (x.2 < (6 : Int)))) && (decide (((x.1).length : Int) > (0 : Int)))) = true → ((0 ≤ x.2 ∧ x.2 < ((k).length : Int)) ∧ (((256 : Int) ≠ 0) ∧ ((0 ≤ (IntKind.i64.wrap (x.2 + (1 : Int))) ∧ (IntKind.i64.wrap (x.2 + (1 : Int))) < ((k).length : Int)) ∧ ((0 ≤ (IntKind.i64.wrap (Int.tdiv (IntKind.i64.wrap ((IntKind.i64.wrap (Sp.nthT k x.2)) * ((x.1).length : Int))) (256 : Int))) ∧ (IntKind.i64.wrap (Int.tdiv (IntKind.i64.wrap ((IntKind.i64.wrap (Sp.nthT k x.2)) * ((x.1).length : Int))) (256 : Int))) < ((x.1).length : Int)) ∧ True))))) ∧ ((((decide ((IntKind.i64.wrap (x.2 + (1 : Int))) < ((k).length : Int))) && (decide (x.2 < (6 : Int)))) && (decide (((x.1).length : Int) > (0 : Int)))) = false → True))) := by kernel_rfl
set_option maxHeartbeats 4000000 in
theorem sa9_10 (k : ty35.den) (x : (Ty.pair ty35 ty3).den) (fk : Fit ty35 k) (fx : Fit (Ty.pair ty35 ty3) x) (h : Sp.in9_10 k x) : SafeW ((evCode (ctxF GmY4 [(13, [101000])]) (lookL [(5, LS9_5)]) (bodyAt (bodyOf Try.f9) [1]) (tmpl LS9_10 (enc ty35 k) (enc (Ty.pair ty35 ty3) x)) (evRound LS9_10 (evRet (ctxF GmY4 [(13, [101000])]) Try.f9 (Rsh.one (none)) none ty4 .ret)))) := by
  refine ⟨?_⟩
  rw [se9_10]
  try dsimp only [Ty.den] at *
  simp only [Sp.in9_10] at h
  refine ⟨fun hc => ?_, fun _ => trivial⟩
  rw [Bool.and_eq_true, Bool.and_eq_true, decide_eq_true_eq, decide_eq_true_eq, decide_eq_true_eq] at hc
  have e : IntKind.i64.wrap (x.2 + 1) = x.2 + 1 := Sp.wrap_i64_of (by omega) (by omega)
  rw [e] at hc ⊢
  have hv := Sp.nthT_by (l := k) h.2.2 x.2
  exact ⟨⟨by omega, by omega⟩, by omega, ⟨by omega, by omega⟩, Sp.idx_ok hv (by omega) (by omega), trivial⟩
set_option maxHeartbeats 4000000 in
theorem so9_10 (k : ty35.den) (x : (Ty.pair ty35 ty3).den) (fk : Fit ty35 k) (h : Sp.in9_10 k x) : StepOk false Sp.in9_10 Sp.mu9_10 k x (Sp.st9_10 k x) := by
  try dsimp only [Ty.den] at *
  unfold Sp.in9_10 at h
  unfold Sp.st9_10
  refine StepOk.cnd (fun hc => ?_) (fun _ => rfl)
  rw [Bool.and_eq_true, Bool.and_eq_true, decide_eq_true_eq, decide_eq_true_eq, decide_eq_true_eq] at hc
  have e : IntKind.i64.wrap (x.2 + 2) = x.2 + 2 := Sp.wrap_i64_of (by omega) (by omega)
  rw [e]
  refine ⟨rfl, ?_, ?_⟩
  · unfold Sp.in9_10
    simp only [setE, List.length_set]
    exact ⟨by omega, h.2.1, h.2.2⟩
  · unfold Sp.mu9_10
    simp only
    omega
theorem lo9_10 : LoopOk Try.prog gdS (RetAt Try.prog Try.f9 (Rsh.one (none)) none ty4) (bodyAt (bodyOf Try.f9) [1]) LS9_10 :=
  loop_run (ctxOkF gokGmY4 [(13, [101000])]) (L := lookL [(5, LS9_5)]) (loops_of (l := []) (by kernel_rfl) (loops_nil)) sa9_10 va9_10 so9_10
theorem va9_14 (k : (Ty.pair ty36 (Ty.pair ty3 ty28)).den) (x : ty3.den) : ((evCode (ctxF GmY4 [(13, [101000])]) (lookL [(5, LS9_5), (10, LS9_10)]) (bodyAt (bodyOf Try.f9) [2]) (tmpl LS9_14 (enc (Ty.pair ty36 (Ty.pair ty3 ty28)) k) (enc ty3 x)) (evRound LS9_14 (evRet (ctxF GmY4 [(13, [101000])]) Try.f9 (Rsh.one (none)) none ty4 .ret)))).val BOut.ret (BOut.brk (Ty.dflt (Ty.pair ty36 (Ty.pair ty3 ty28))) (Ty.dflt ty3)) = Sp.st9_14 k x := by kernel_rfl
theorem se9_14 (k : (Ty.pair ty36 (Ty.pair ty3 ty28)).den) (x : ty3.den) : ((evCode (ctxF GmY4 [(13, [101000])]) (lookL [(5, LS9_5), (10, LS9_10)]) (bodyAt (bodyOf Try.f9) [2]) (tmpl LS9_14 (enc (Ty.pair ty36 (Ty.pair ty3 ty28)) k) (enc ty3 x)) (evRound LS9_14 (evRet (ctxF GmY4 [(13, [101000])]) Try.f9 (Rsh.one (none)) none ty4 .ret)))).safe = ((((decide (x < k.2.1)) = true → ((0 ≤ x ∧ x < ((k.1).length : Int)) ∧ ((Sp.pre30 (k.2.2, (Sp.nthT k.1 x))) ∧ ((Sp.pre31 (k.2.2, (Sp.nthT k.1 x))) ∧ (((((Sp.F30 (k.2.2, (Sp.nthT k.1 x))).2 != (Sp.F31 (k.2.2, (Sp.nthT k.1 x))).2) || (!(Sp.F22 ((Sp.F30 (k.2.2, (Sp.nthT k.1 x))).1, (Sp.F31 (k.2.2, (Sp.nthT k.1 x))).1)))) = true → True) ∧ ((((Sp.F30 (k.2.2, (Sp.nthT k.1 x))).2 != (Sp.F31 (k.2.2, (Sp.nthT k.1 x))).2) || (!(Sp.F22 ((Sp.F30 (k.2.2, (Sp.nthT k.1 x))).1, (Sp.F31 (k.2.2, (Sp.nthT k.1 x))).1)))) = false → True)))))) ∧ ((decide (x < k.2.1)) = false → True))) := by kernel_rfl
set_option maxHeartbeats 4000000 in
theorem sa9_14 (k : (Ty.pair ty36 (Ty.pair ty3 ty28)).den) (x : ty3.den) (fk : Fit (Ty.pair ty36 (Ty.pair ty3 ty28)) k) (fx : Fit ty3 x) (h : Sp.in9_14 k x) : SafeW ((evCode (ctxF GmY4 [(13, [101000])]) (lookL [(5, LS9_5), (10, LS9_10)]) (bodyAt (bodyOf Try.f9) [2]) (tmpl LS9_14 (enc (Ty.pair ty36 (Ty.pair ty3 ty28)) k) (enc ty3 x)) (evRound LS9_14 (evRet (ctxF GmY4 [(13, [101000])]) Try.f9 (Rsh.one (none)) none ty4 .ret)))) := by
  refine ⟨?_⟩
  rw [se9_14]
  try dsimp only [Ty.den] at *
  simp only [Sp.in9_14] at h
  refine ⟨fun hc => ?_, fun _ => trivial⟩
  rw [decide_eq_true_eq] at hc
  have hz := h.2.2 (Sp.nthT k.1 x) (by rw [Sp.nthT_of k.1 x (by omega) (by omega)]; exact List.getElem_mem _)
  refine ⟨⟨by omega, by omega⟩, by unfold Sp.pre30; simp only; omega, by unfold Sp.pre31; simp only; omega, fun _ => trivial, fun _ => trivial⟩
set_option maxHeartbeats 4000000 in
theorem so9_14 (k : (Ty.pair ty36 (Ty.pair ty3 ty28)).den) (x : ty3.den) (fk : Fit (Ty.pair ty36 (Ty.pair ty3 ty28)) k) (h : Sp.in9_14 k x) : StepOk true Sp.in9_14 Sp.mu9_14 k x (Sp.st9_14 k x) := by
  try dsimp only [Ty.den] at *
  unfold Sp.in9_14 at h
  unfold Sp.st9_14
  refine StepOk.cnd (fun hc => ?_) (fun _ => rfl)
  rw [decide_eq_true_eq] at hc
  have hl : k.1.length ≤ maxLen := fk.1.1
  have e : IntKind.i64.wrap (x + 1) = x + 1 := Sp.wrap_i64_of (by omega) (by simp only [maxLen] at hl; omega)
  refine StepOk.cnd (fun _ => rfl) (fun _ => ⟨rfl, ?_, ?_⟩)
  · rw [e]; unfold Sp.in9_14; exact ⟨by omega, h.2.1, h.2.2⟩
  · rw [e]; unfold Sp.mu9_14; omega
theorem lo9_14 : LoopOk Try.prog gdS (RetAt Try.prog Try.f9 (Rsh.one (none)) none ty4) (bodyAt (bodyOf Try.f9) [2]) LS9_14 :=
  loop_run (ctxOkF gokGmY4 [(13, [101000])]) (L := lookL [(5, LS9_5), (10, LS9_10)]) (loops_of (l := []) (by kernel_rfl) (loops_nil)) sa9_14 va9_14 so9_14
end Go.Proofs.Ytabifaikklcghaa.Sy
namespace Go.Proofs.Ytabifaikklcghaa.Sp
open Go Go.RowKit Sy
def K9_1 (x : Int × (List Int) × List Int) :=
  (Sp.G9_14 ([(bts ((Sp.G9_10 x.2.2 ((Sp.G9_5 ((Sp.F21 ((Sp.F13 x.1), x.2.1, (30 : Int))), (Sp.F13 x.1)) ([], (0 : Int))).1, (0 : Int))).1)), (bts (sliceL ((Sp.G9_10 x.2.2 ((Sp.G9_5 ((Sp.F21 ((Sp.F13 x.1), x.2.1, (30 : Int))), (Sp.F13 x.1)) ([], (0 : Int))).1, (0 : Int))).1) (0 : Int) (IntKind.i64.wrap (Int.tdiv (((Sp.G9_10 x.2.2 ((Sp.G9_5 ((Sp.F21 ((Sp.F13 x.1), x.2.1, (30 : Int))), (Sp.F13 x.1)) ([], (0 : Int))).1, (0 : Int))).1).length : Int) (2 : Int))))), (bts x.2.2)], (([(bts ((Sp.G9_10 x.2.2 ((Sp.G9_5 ((Sp.F21 ((Sp.F13 x.1), x.2.1, (30 : Int))), (Sp.F13 x.1)) ([], (0 : Int))).1, (0 : Int))).1)), (bts (sliceL ((Sp.G9_10 x.2.2 ((Sp.G9_5 ((Sp.F21 ((Sp.F13 x.1), x.2.1, (30 : Int))), (Sp.F13 x.1)) ([], (0 : Int))).1, (0 : Int))).1) (0 : Int) (IntKind.i64.wrap (Int.tdiv (((Sp.G9_10 x.2.2 ((Sp.G9_5 ((Sp.F21 ((Sp.F13 x.1), x.2.1, (30 : Int))), (Sp.F13 x.1)) ([], (0 : Int))).1, (0 : Int))).1).length : Int) (2 : Int))))), (bts x.2.2)]).length : Int), (Sp.F13 x.1)) (0 : Int))
def F9 (x : Int × (List Int) × List Int) : Bool :=
  Sp.optR (Sp.R9_14 ([(bts ((Sp.G9_10 x.2.2 ((Sp.G9_5 ((Sp.F21 ((Sp.F13 x.1), x.2.1, (30 : Int))), (Sp.F13 x.1)) ([], (0 : Int))).1, (0 : Int))).1)), (bts (sliceL ((Sp.G9_10 x.2.2 ((Sp.G9_5 ((Sp.F21 ((Sp.F13 x.1), x.2.1, (30 : Int))), (Sp.F13 x.1)) ([], (0 : Int))).1, (0 : Int))).1) (0 : Int) (IntKind.i64.wrap (Int.tdiv (((Sp.G9_10 x.2.2 ((Sp.G9_5 ((Sp.F21 ((Sp.F13 x.1), x.2.1, (30 : Int))), (Sp.F13 x.1)) ([], (0 : Int))).1, (0 : Int))).1).length : Int) (2 : Int))))), (bts x.2.2)], (([(bts ((Sp.G9_10 x.2.2 ((Sp.G9_5 ((Sp.F21 ((Sp.F13 x.1), x.2.1, (30 : Int))), (Sp.F13 x.1)) ([], (0 : Int))).1, (0 : Int))).1)), (bts (sliceL ((Sp.G9_10 x.2.2 ((Sp.G9_5 ((Sp.F21 ((Sp.F13 x.1), x.2.1, (30 : Int))), (Sp.F13 x.1)) ([], (0 : Int))).1, (0 : Int))).1) (0 : Int) (IntKind.i64.wrap (Int.tdiv (((Sp.G9_10 x.2.2 ((Sp.G9_5 ((Sp.F21 ((Sp.F13 x.1), x.2.1, (30 : Int))), (Sp.F13 x.1)) ([], (0 : Int))).1, (0 : Int))).1).length : Int) (2 : Int))))), (bts x.2.2)]).length : Int), (Sp.F13 x.1)) (0 : Int)) (fun y => y)
  ((((Sp.F30 (((0 : Int), (0 : Int), (0 : Int), (0 : Int), (0 : Nat), (0 : Nat), (0 : Nat), []), (bts ((Sp.G9_10 x.2.2 ((Sp.G9_5 ((Sp.F21 ((Sp.F13 x.1), x.2.1, (30 : Int))), (Sp.F13 x.1)) ([], (0 : Int))).1, (0 : Int))).1)))).2 == (0 : Int)) && (Sp.F12 ())))
def pre9 (x : Int × (List Int) × List Int) : Prop := 0 ≤ x.1 ∧ x.1 ≤ 255 ∧ x.2.2.length ≤ 1048576 ∧ (∀ v ∈ x.2.1, 0 ≤ v ∧ v ≤ 255) ∧ (∀ v ∈ x.2.2, 0 ≤ v ∧ v ≤ 255)
end Go.Proofs.Ytabifaikklcghaa.Sp
namespace Go.Proofs.Ytabifaikklcghaa.Sy
def ct9 : Ct := { p := (Ty.pair ty5 (Ty.pair ty35 ty35)), psh := [none, none, none], r := ty4, rsh := (Rsh.one (none)), pre := some Sp.pre9, fresh := none, F := Sp.F9 }
theorem va9 (x : (Ty.pair ty5 (Ty.pair ty35 ty35)).den) : ((evFn (ctxF GmY4 [(13, [101000])]) Try.f9 (Ty.pair ty5 (Ty.pair ty35 ty35)) [none, none, none] (Rsh.one (none)) none ty4 (lookL [(5, LS9_5), (10, LS9_10), (14, LS9_14)]) x)).val (fun y => y) (Ty.dflt ty4) = Sp.F9 x := by kernel_rfl
theorem se9 (x : (Ty.pair ty5 (Ty.pair ty35 ty35)).den) : ((evFn (ctxF GmY4 [(13, [101000])]) Try.f9 (Ty.pair ty5 (Ty.pair ty35 ty35)) [none, none, none] (Rsh.one (none)) none ty4 (lookL [(5, LS9_5), (10, LS9_10), (14, LS9_14)]) x)).safe = (((Sp.pre13 x.1) ∧ ((Sp.pre21 ((Sp.F13 x.1), x.2.1, (30 : Int))) ∧ ((Sp.in9_5 ((Sp.F21 ((Sp.F13 x.1), x.2.1, (30 : Int))), (Sp.F13 x.1)) ([], (0 : Int))) ∧ ((Sp.in9_10 x.2.2 ((Sp.G9_5 ((Sp.F21 ((Sp.F13 x.1), x.2.1, (30 : Int))), (Sp.F13 x.1)) ([], (0 : Int))).1, (0 : Int))) ∧ (((2 : Int) ≠ 0) ∧ ((0 ≤ (0 : Int) ∧ (0 : Int) ≤ (IntKind.i64.wrap (Int.tdiv (((Sp.G9_10 x.2.2 ((Sp.G9_5 ((Sp.F21 ((Sp.F13 x.1), x.2.1, (30 : Int))), (Sp.F13 x.1)) ([], (0 : Int))).1, (0 : Int))).1).length : Int) (2 : Int))) ∧ (IntKind.i64.wrap (Int.tdiv (((Sp.G9_10 x.2.2 ((Sp.G9_5 ((Sp.F21 ((Sp.F13 x.1), x.2.1, (30 : Int))), (Sp.F13 x.1)) ([], (0 : Int))).1, (0 : Int))).1).length : Int) (2 : Int))) ≤ (((Sp.G9_10 x.2.2 ((Sp.G9_5 ((Sp.F21 ((Sp.F13 x.1), x.2.1, (30 : Int))), (Sp.F13 x.1)) ([], (0 : Int))).1, (0 : Int))).1).length : Int)) ∧ ((Sp.in9_14 ([(bts ((Sp.G9_10 x.2.2 ((Sp.G9_5 ((Sp.F21 ((Sp.F13 x.1), x.2.1, (30 : Int))), (Sp.F13 x.1)) ([], (0 : Int))).1, (0 : Int))).1)), (bts (sliceL ((Sp.G9_10 x.2.2 ((Sp.G9_5 ((Sp.F21 ((Sp.F13 x.1), x.2.1, (30 : Int))), (Sp.F13 x.1)) ([], (0 : Int))).1, (0 : Int))).1) (0 : Int) (IntKind.i64.wrap (Int.tdiv (((Sp.G9_10 x.2.2 ((Sp.G9_5 ((Sp.F21 ((Sp.F13 x.1), x.2.1, (30 : Int))), (Sp.F13 x.1)) ([], (0 : Int))).1, (0 : Int))).1).length : Int) (2 : Int))))), (bts x.2.2)], (([(bts ((Sp.G9_10 x.2.2 ((Sp.G9_5 ((Sp.F21 ((Sp.F13 x.1), x.2.1, (30 : Int))), (Sp.F13 x.1)) ([], (0 : Int))).1, (0 : Int))).1)), (bts (sliceL ((Sp.G9_10 x.2.2 ((Sp.G9_5 ((Sp.F21 ((Sp.F13 x.1), x.2.1, (30 : Int))), (Sp.F13 x.1)) ([], (0 : Int))).1, (0 : Int))).1) (0 : Int) (IntKind.i64.wrap (Int.tdiv (((Sp.G9_10 x.2.2 ((Sp.G9_5 ((Sp.F21 ((Sp.F13 x.1), x.2.1, (30 : Int))), (Sp.F13 x.1)) ([], (0 : Int))).1, (0 : Int))).1).length : Int) (2 : Int))))), (bts x.2.2)]).length : Int), (Sp.F13 x.1)) (0 : Int)) ∧ ((Sp.R9_14 ([(bts ((Sp.G9_10 x.2.2 ((Sp.G9_5 ((Sp.F21 ((Sp.F13 x.1), x.2.1, (30 : Int))), (Sp.F13 x.1)) ([], (0 : Int))).1, (0 : Int))).1)), (bts (sliceL ((Sp.G9_10 x.2.2 ((Sp.G9_5 ((Sp.F21 ((Sp.F13 x.1), x.2.1, (30 : Int))), (Sp.F13 x.1)) ([], (0 : Int))).1, (0 : Int))).1) (0 : Int) (IntKind.i64.wrap (Int.tdiv (((Sp.G9_10 x.2.2 ((Sp.G9_5 ((Sp.F21 ((Sp.F13 x.1), x.2.1, (30 : Int))), (Sp.F13 x.1)) ([], (0 : Int))).1, (0 : Int))).1).length : Int) (2 : Int))))), (bts x.2.2)], (([(bts ((Sp.G9_10 x.2.2 ((Sp.G9_5 ((Sp.F21 ((Sp.F13 x.1), x.2.1, (30 : Int))), (Sp.F13 x.1)) ([], (0 : Int))).1, (0 : Int))).1)), (bts (sliceL ((Sp.G9_10 x.2.2 ((Sp.G9_5 ((Sp.F21 ((Sp.F13 x.1), x.2.1, (30 : Int))), (Sp.F13 x.1)) ([], (0 : Int))).1, (0 : Int))).1) (0 : Int) (IntKind.i64.wrap (Int.tdiv (((Sp.G9_10 x.2.2 ((Sp.G9_5 ((Sp.F21 ((Sp.F13 x.1), x.2.1, (30 : Int))), (Sp.F13 x.1)) ([], (0 : Int))).1, (0 : Int))).1).length : Int) (2 : Int))))), (bts x.2.2)]).length : Int), (Sp.F13 x.1)) (0 : Int)) = none → ((Sp.pre30 (((0 : Int), (0 : Int), (0 : Int), (0 : Int), (0 : Nat), (0 : Nat), (0 : Nat), []), (bts ((Sp.G9_10 x.2.2 ((Sp.G9_5 ((Sp.F21 ((Sp.F13 x.1), x.2.1, (30 : Int))), (Sp.F13 x.1)) ([], (0 : Int))).1, (0 : Int))).1)))) ∧ True)))))))))) := by kernel_rfl
theorem sa9 (x : (Ty.pair ty5 (Ty.pair ty35 ty35)).den) (fx : Fit (Ty.pair ty5 (Ty.pair ty35 ty35)) x) (h : Sp.pre9 x) : SafeW ((evFn (ctxF GmY4 [(13, [101000])]) Try.f9 (Ty.pair ty5 (Ty.pair ty35 ty35)) [none, none, none] (Rsh.one (none)) none ty4 (lookL [(5, LS9_5), (10, LS9_10), (14, LS9_14)]) x)) := by
  refine ⟨?_⟩
  rw [se9]
  try dsimp only [Ty.den] at *
  simp only [Sp.pre9] at h
  obtain ⟨hn0, hn1, hm, hbl, hbm⟩ := h
  have hrl := Sp.recs_len (most := 30) ⟨hn0, hn1⟩ hbl (by omega)
  have hrp := Sp.recs_pre (most := 30) (l := x.2.1) ⟨hn0, hn1⟩ (by omega)
  generalize Sp.F13 x.1 = b at hrl hrp ⊢
  generalize Sp.F21 (b, x.2.1, 30) = rs at hrl ⊢
  have h5 : (Sp.G9_5 (rs, b) ([], (0 : Int))).1.length ≤ 200 := by
    have := Sp.end_inv (step := Sp.st9_5) (k := (rs, b)) (fun x => 0 ≤ x.2 ∧ (x.1.length : Int) ≤ 6 * x.2 ∧ x.2 ≤ (rs.length : Int)) (fun x hx => by
      unfold Sp.st9_5
      simp only
      cases hc : decide (x.2 < (rs.length : Int)) with
      | false => exact hx
      | true =>
        rw [decide_eq_true_eq] at hc
        have hs := Sp.renc_small b (Sp.nthT rs x.2)
        rw [cond_true, Sp.wrap_i64_of (x := x.2 + 1) (by omega) (by omega)]
        simp only [List.length_append, Sp.stb_len]
        omega) (Nat.succ (Sp.mu9_5 (rs, b) ([], (0 : Int)))) ([], (0 : Int)) ⟨by omega, by simp, by omega⟩
    have h6 := this.2.1
    have h7 := this.2.2
    show (Sp.endOf Sp.st9_5 (rs, b) _ _).1.length ≤ 200
    omega
  generalize Sp.G9_5 (rs, b) ([], (0 : Int)) = g5 at h5 ⊢
  have h10 : (Sp.G9_10 x.2.2 (g5.1, (0 : Int))).1.length ≤ 200 := by
    refine Sp.end_inv (step := Sp.st9_10) (k := x.2.2) (fun y => y.1.length ≤ 200) (fun y hy => ?_) _ _ h5
    unfold Sp.st9_10
    cases (((decide ((IntKind.i64.wrap (y.2 + (1 : Int))) < ((x.2.2).length : Int))) && (decide (y.2 < (6 : Int)))) && (decide (((y.1).length : Int) > (0 : Int)))) with
    | false => exact hy
    | true => simp only [cond_true, setE, List.length_set]; exact hy
  generalize Sp.G9_10 x.2.2 (g5.1, (0 : Int)) = g10 at h10 ⊢
  have hd : Int.tdiv (g10.1.length : Int) 2 = (g10.1.length : Int) / 2 := Int.tdiv_eq_ediv_of_nonneg (by omega)
  rw [hd, Sp.wrap_i64_of (x := (g10.1.length : Int) / 2) (by omega) (by omega)]
  refine ⟨⟨hn0, hn1⟩, hrp, ⟨by simp, by simp, by simp only; omega⟩, ⟨by simp, by simp only; omega, hbm⟩, by omega, ⟨by omega, by omega, by omega⟩, ⟨by simp, rfl, ?_⟩, fun _ => ⟨?_, trivial⟩⟩
  · intro s hs
    simp only [List.mem_cons, List.not_mem_nil, or_false] at hs
    rcases hs with rfl | rfl | rfl
    · rw [Sp.bts_size]; omega
    · rw [Sp.bts_size]; simp only [sliceL, List.length_drop, List.length_take]; omega
    · rw [Sp.bts_size]; omega
  · unfold Sp.pre30
    simp only [Sp.bts_size]
    omega
theorem ok9 : CtOk Try.prog gdS 9 ct9 :=
  fn_okU (ctxOkF gokGmY4 [(13, [101000])]) rfl Try.func9 (p := (Ty.pair ty5 (Ty.pair ty35 ty35))) (psh := [none, none, none]) (r := ty4) (rsh := (Rsh.one (none))) (pre := some Sp.pre9) (fresh := none) (F := Sp.F9) (L := (lookL [(5, LS9_5), (10, LS9_10), (14, LS9_14)])) (c := bodyOf Try.f9) (dflt := Ty.dflt ty4) rfl (loops_of (l := [bodyAt (bodyOf Try.f9) [0], bodyAt (bodyOf Try.f9) [1], bodyAt (bodyOf Try.f9) [2]]) (by kernel_rfl) (loops_cons (s0 := LS9_5) (by kernel_rfl) lo9_5 (loops_cons (s0 := LS9_10) (by kernel_rfl) lo9_10 (loops_cons (s0 := LS9_14) (by kernel_rfl) lo9_14 (loops_nil)))))
    (safe_pre @sa9) va9
/-! overlaylaw09.RecordApart -/
end Go.Proofs.Ytabifaikklcghaa.Sy
namespace Go.Proofs.Ytabifaikklcghaa.Sp
open Go Go.RowKit Sy
def in4_11 (k : ((List (Int × Int × Int × Int × Int)) × (List (Int × Int × Int × Int × Int)) × Int × ByteArray × Int × Int × Int × Int × Nat × Nat × Nat × List (Int × Int × Int × Int × Int × Int × Int × Int × Int))) (x : (Int)) : Prop := (0 : Int) ≤ x ∧ 0 ≤ k.2.2.1 ∧ k.2.2.1 < (k.1.length : Int)
def mu4_11 (k : ((List (Int × Int × Int × Int × Int)) × (List (Int × Int × Int × Int × Int)) × Int × ByteArray × Int × Int × Int × Int × Nat × Nat × Nat × List (Int × Int × Int × Int × Int × Int × Int × Int × Int))) (x : (Int)) : Nat := (((k.2.1).length : Int) - x).toNat
def st4_11 (k : ((List (Int × Int × Int × Int × Int)) × (List (Int × Int × Int × Int × Int)) × Int × ByteArray × Int × Int × Int × Int × Nat × Nat × Nat × List (Int × Int × Int × Int × Int × Int × Int × Int × Int))) (x : (Int)) : BOut ((List (Int × Int × Int × Int × Int)) × (List (Int × Int × Int × Int × Int)) × Int × ByteArray × Int × Int × Int × Int × Nat × Nat × Nat × List (Int × Int × Int × Int × Int × Int × Int × Int × Int)) (Int) (Bool) :=
  bif (decide (x < ((k.2.1).length : Int))) then
    (bif (((Sp.F14 (k.2.2.2.2, (Sp.nthT k.2.1 x))).2 != (0 : Int)) || ((strEq k.2.2.2.1 ((Sp.F14 (k.2.2.2.2, (Sp.nthT k.2.1 x))).1)) != (((Sp.nthT k.1 k.2.2.1).1 == (Sp.nthT k.2.1 x).1) && (((Sp.nthT k.1 k.2.2.1).2.1 == (Sp.nthT k.2.1 x).2.1) && (((Sp.nthT k.1 k.2.2.1).2.2.1 == (Sp.nthT k.2.1 x).2.2.1) && (((Sp.nthT k.1 k.2.2.1).2.2.2.1 == (Sp.nthT k.2.1 x).2.2.2.1) && ((Sp.nthT k.1 k.2.2.1).2.2.2.2 == (Sp.nthT k.2.1 x).2.2.2.2))))))) then
      BOut.ret false
    else
      BOut.next k (IntKind.i64.wrap (x + (1 : Int))))
  else
    BOut.brk k x
def G4_11 (k : ((List (Int × Int × Int × Int × Int)) × (List (Int × Int × Int × Int × Int)) × Int × ByteArray × Int × Int × Int × Int × Nat × Nat × Nat × List (Int × Int × Int × Int × Int × Int × Int × Int × Int))) (x : (Int)) : (Int) := endOf st4_11 k (Nat.succ (mu4_11 k x)) x
def R4_11 (k : ((List (Int × Int × Int × Int × Int)) × (List (Int × Int × Int × Int × Int)) × Int × ByteArray × Int × Int × Int × Int × Nat × Nat × Nat × List (Int × Int × Int × Int × Int × Int × Int × Int × Int))) (x : (Int)) : Option (Bool) := retOf st4_11 k (Nat.succ (mu4_11 k x)) x
end Go.Proofs.Ytabifaikklcghaa.Sp
namespace Go.Proofs.Ytabifaikklcghaa.Sy
def LS4_11 : LS ty4.den := mkLS (Ty.pair ty40 (Ty.pair ty40 (Ty.pair ty3 (Ty.pair ty9 ty28)))) ty3  [(8, none), (9, none), (12, none), (13, none)] [(7, 8)] [(15, none)] [] [] [] [(7, 7)] 2 true Sp.in4_11 Sp.st4_11 Sp.mu4_11
end Go.Proofs.Ytabifaikklcghaa.Sy
namespace Go.Proofs.Ytabifaikklcghaa.Sp
open Go Go.RowKit Sy
def in4_5 (k : ((List (Int × Int × Int × Int × Int)) × (List (Int × Int × Int × Int × Int)) × Int × Int × Int × Int × Nat × Nat × Nat × List (Int × Int × Int × Int × Int × Int × Int × Int × Int))) (x : (ByteArray × Int)) : Prop := (0 : Int) ≤ x.2 ∧ (x.1.size : Int) ≤ 6 * x.2 ∧ k.1.length ≤ 100
def mu4_5 (k : ((List (Int × Int × Int × Int × Int)) × (List (Int × Int × Int × Int × Int)) × Int × Int × Int × Int × Nat × Nat × Nat × List (Int × Int × Int × Int × Int × Int × Int × Int × Int))) (x : (ByteArray × Int)) : Nat := (((k.1).length : Int) - x.2).toNat
def st4_5 (k : ((List (Int × Int × Int × Int × Int)) × (List (Int × Int × Int × Int × Int)) × Int × Int × Int × Int × Nat × Nat × Nat × List (Int × Int × Int × Int × Int × Int × Int × Int × Int))) (x : (ByteArray × Int)) : BOut ((List (Int × Int × Int × Int × Int)) × (List (Int × Int × Int × Int × Int)) × Int × Int × Int × Int × Nat × Nat × Nat × List (Int × Int × Int × Int × Int × Int × Int × Int × Int)) (ByteArray × Int) (Bool) :=
  bif (decide (x.2 < ((k.1).length : Int))) then
    (bif ((Sp.F14 (k.2.2, (Sp.nthT k.1 x.2))).2 != (0 : Int)) then
      BOut.ret false
    else
      Sp.optR (Sp.R4_11 (k.1, k.2.1, x.2, (Sp.F14 (k.2.2, (Sp.nthT k.1 x.2))).1, k.2.2) (0 : Int)) BOut.ret
      (BOut.next k ((strCat x.1 ((Sp.F14 (k.2.2, (Sp.nthT k.1 x.2))).1)), (IntKind.i64.wrap (x.2 + (1 : Int))))))
  else
    BOut.brk k x
def G4_5 (k : ((List (Int × Int × Int × Int × Int)) × (List (Int × Int × Int × Int × Int)) × Int × Int × Int × Int × Nat × Nat × Nat × List (Int × Int × Int × Int × Int × Int × Int × Int × Int))) (x : (ByteArray × Int)) : (ByteArray × Int) := endOf st4_5 k (Nat.succ (mu4_5 k x)) x
def R4_5 (k : ((List (Int × Int × Int × Int × Int)) × (List (Int × Int × Int × Int × Int)) × Int × Int × Int × Int × Nat × Nat × Nat × List (Int × Int × Int × Int × Int × Int × Int × Int × Int))) (x : (ByteArray × Int)) : Option (Bool) := retOf st4_5 k (Nat.succ (mu4_5 k x)) x
end Go.Proofs.Ytabifaikklcghaa.Sp
namespace Go.Proofs.Ytabifaikklcghaa.Sy
def LS4_5 : LS ty4.den := mkLS (Ty.pair ty40 (Ty.pair ty40 ty28)) (Ty.pair ty9 ty3)  [(8, none), (9, none)] [(7, 8)] [(10, none), (12, none)] [] [] [22, 25, 28] [(7, 7)] 0 true Sp.in4_5 Sp.st4_5 Sp.mu4_5
end Go.Proofs.Ytabifaikklcghaa.Sy
namespace Go.Proofs.Ytabifaikklcghaa.Sp
open Go Go.RowKit Sy
def in4_18 (k : ((List (Int × Int × Int × Int × Int)) × Int × Int × Int × Int × Nat × Nat × Nat × List (Int × Int × Int × Int × Int × Int × Int × Int × Int))) (x : (ByteArray × Int)) : Prop := (0 : Int) ≤ x.2 ∧ (x.1.size : Int) ≤ 6 * x.2 ∧ k.1.length ≤ 100
def mu4_18 (k : ((List (Int × Int × Int × Int × Int)) × Int × Int × Int × Int × Nat × Nat × Nat × List (Int × Int × Int × Int × Int × Int × Int × Int × Int))) (x : (ByteArray × Int)) : Nat := (((k.1).length : Int) - x.2).toNat
def st4_18 (k : ((List (Int × Int × Int × Int × Int)) × Int × Int × Int × Int × Nat × Nat × Nat × List (Int × Int × Int × Int × Int × Int × Int × Int × Int))) (x : (ByteArray × Int)) : BOut ((List (Int × Int × Int × Int × Int)) × Int × Int × Int × Int × Nat × Nat × Nat × List (Int × Int × Int × Int × Int × Int × Int × Int × Int)) (ByteArray × Int) (Bool) :=
  bif (decide (x.2 < ((k.1).length : Int))) then
    BOut.next k ((strCat x.1 ((Sp.F14 (k.2, (Sp.nthT k.1 x.2))).1)), (IntKind.i64.wrap (x.2 + (1 : Int))))
  else
    BOut.brk k x
def G4_18 (k : ((List (Int × Int × Int × Int × Int)) × Int × Int × Int × Int × Nat × Nat × Nat × List (Int × Int × Int × Int × Int × Int × Int × Int × Int))) (x : (ByteArray × Int)) : (ByteArray × Int) := endOf st4_18 k (Nat.succ (mu4_18 k x)) x
end Go.Proofs.Ytabifaikklcghaa.Sp
namespace Go.Proofs.Ytabifaikklcghaa.Sy
def LS4_18 : LS ty4.den := mkLS (Ty.pair ty40 ty28) (Ty.pair ty9 ty3)  [(9, none)] [(7, 8)] [(11, none), (18, none)] [] [] [] [(7, 7)] 4 false Sp.in4_18 Sp.st4_18 Sp.mu4_18
theorem va4_11 (k : (Ty.pair ty40 (Ty.pair ty40 (Ty.pair ty3 (Ty.pair ty9 ty28)))).den) (x : ty3.den) : ((evCode (ctxG GmY4) (lookL []) (bodyAt (bodyOf Try.f4) [0, 0]) (tmpl LS4_11 (enc (Ty.pair ty40 (Ty.pair ty40 (Ty.pair ty3 (Ty.pair ty9 ty28)))) k) (enc ty3 x)) (evRound LS4_11 (evRet (ctxG GmY4) Try.f4 (Rsh.one (none)) none ty4 .ret)))).val BOut.ret (BOut.brk (Ty.dflt (Ty.pair ty40 (Ty.pair ty40 (Ty.pair ty3 (Ty.pair ty9 ty28))))) (Ty.dflt ty3)) = Sp.st4_11 k x := by kernel_rfl
theorem se4_11 (k : (Ty.pair ty40 (Ty.pair ty40 (Ty.pair ty3 (Ty.pair ty9 ty28)))).den) (x : ty3.den) : ((evCode (ctxG GmY4) (lookL []) (bodyAt (bodyOf Try.f4) [0, 0]) (tmpl LS4_11 (enc (Ty.pair ty40 (Ty.pair ty40 (Ty.pair ty3 (Ty.pair ty9 ty28)))) k) (enc ty3 x)) (evRound LS4_11 (evRet (ctxG GmY4) Try.f4 (Rsh.one (none)) none ty4 .ret)))).safe = ((((decide (x < ((k.2.1).length : Int))) = true → ((0 ≤ x ∧ x < ((k.2.1).length : Int)) ∧ (((((Sp.F14 (k.2.2.2.2, (Sp.nthT k.2.1 x))).2 != (0 : Int)) = false → 0 ≤ k.2.2.1 ∧ k.2.2.1 < ((k.1).length : Int))) ∧ (((((Sp.F14 (k.2.2.2.2, (Sp.nthT k.2.1 x))).2 != (0 : Int)) = false → 0 ≤ x ∧ x < ((k.2.1).length : Int))) ∧ (((((Sp.F14 (k.2.2.2.2, (Sp.nthT k.2.1 x))).2 != (0 : Int)) || ((strEq k.2.2.2.1 ((Sp.F14 (k.2.2.2.2, (Sp.nthT k.2.1 x))).1)) != (((Sp.nthT k.1 k.2.2.1).1 == (Sp.nthT k.2.1 x).1) && (((Sp.nthT k.1 k.2.2.1).2.1 == (Sp.nthT k.2.1 x).2.1) && (((Sp.nthT k.1 k.2.2.1).2.2.1 == (Sp.nthT k.2.1 x).2.2.1) && (((Sp.nthT k.1 k.2.2.1).2.2.2.1 == (Sp.nthT k.2.1 x).2.2.2.1) && ((Sp.nthT k.1 k.2.2.1).2.2.2.2 == (Sp.nthT k.2.1 x).2.2.2.2))))))) = true → True) ∧ ((((Sp.F14 (k.2.2.2.2, (Sp.nthT k.2.1 x))).2 != (0 : Int)) || ((strEq k.2.2.2.1 ((Sp.F14 (k.2.2.2.2, (Sp.nthT k.2.1 x))).1)) != (((Sp.nthT k.1 k.2.2.1).1 == (Sp.nthT k.2.1 x).1) && (((Sp.nthT k.1 k.2.2.1).2.1 == (Sp.nthT k.2.1 x).2.1) && (((Sp.nthT k.1 k.2.2.1).2.2.1 == (Sp.nthT k.2.1 x).2.2.1) && (((Sp.nthT k.1 k.2.2.1).2.2.2.1 == (Sp.nthT k.2.1 x).2.2.2.1) && ((Sp.nthT k.1 k.2.2.1).2.2.2.2 == (Sp.nthT k.2.1 x).2.2.2.2))))))) = false → True)))))) ∧ ((decide (x < ((k.2.1).length : Int))) = false → True))) := by kernel_rfl
set_option maxHeartbeats 4000000 in
theorem sa4_11 (k : (Ty.pair ty40 (Ty.pair ty40 (Ty.pair ty3 (Ty.pair ty9 ty28)))).den) (x : ty3.den) (fk : Fit (Ty.pair ty40 (Ty.pair ty40 (Ty.pair ty3 (Ty.pair ty9 ty28)))) k) (fx : Fit ty3 x) (h : Sp.in4_11 k x) : SafeW ((evCode (ctxG GmY4) (lookL []) (bodyAt (bodyOf Try.f4) [0, 0]) (tmpl LS4_11 (enc (Ty.pair ty40 (Ty.pair ty40 (Ty.pair ty3 (Ty.pair ty9 ty28)))) k) (enc ty3 x)) (evRound LS4_11 (evRet (ctxG GmY4) Try.f4 (Rsh.one (none)) none ty4 .ret)))) := by
  refine ⟨?_⟩
  rw [se4_11]
  try dsimp only [Ty.den] at *
  simp only [Sp.in4_11, Fit, maxLen] at h fk fx
  simp only [Sp.bts_size, Sp.strCat_size, Sp.extract_size, Sp.stb_len, Sp.mk_size, IntKind.wrap_i64, IntKind.wrap_u8, IntKind.wrap_u32, IntKind.wrap_u64, Sp.tmod_lit, Sp.tdiv_lit, bne_eq_false_iff_eq, Int.natCast_inj, setE, copyL, sliceL, zrow, List.length_append, List.length_cons, List.length_nil, List.length_set, List.length_replicate, List.length_take, List.length_drop, decide_eq_true_eq, decide_eq_false_iff_not, Bool.or_eq_true, Bool.and_eq_true, Bool.or_eq_false_iff, Bool.and_eq_false_iff, Bool.not_eq_true', Bool.not_eq_false', Bool.not_eq_true, Bool.not_eq_false, beq_iff_eq, beq_eq_false_iff_ne, bne_iff_ne, ne_eq, implies_true, and_true, true_and] at *
  all_goals ((repeat' (first | exact trivial | apply And.intro | intro _)) <;> first | trivial | omega | exact Sp.tmod_nn (by omega) | exact Sp.tmod_lt (by omega) (by omega))
set_option maxHeartbeats 4000000 in
theorem so4_11 (k : (Ty.pair ty40 (Ty.pair ty40 (Ty.pair ty3 (Ty.pair ty9 ty28)))).den) (x : ty3.den) (fk : Fit (Ty.pair ty40 (Ty.pair ty40 (Ty.pair ty3 (Ty.pair ty9 ty28)))) k) (h : Sp.in4_11 k x) : StepOk true Sp.in4_11 Sp.mu4_11 k x (Sp.st4_11 k x) := by
  try dsimp only [Ty.den] at *
  simp only [Sp.in4_11, Fit, maxLen] at h fk
  unfold Sp.st4_11
  (repeat' (first | exact rfl | (refine StepOk.cnd (fun hc => ?_) (fun hc => ?_) <;> (try simp only [IntKind.wrap_i64, IntKind.wrap_u8, IntKind.wrap_u32, IntKind.wrap_u64, bne_eq_false_iff_eq, Int.natCast_inj, setE, copyL, sliceL, zrow, List.length_append, List.length_cons, List.length_nil, List.length_set, List.length_replicate, List.length_take, List.length_drop, decide_eq_true_eq, decide_eq_false_iff_not, Bool.or_eq_true, Bool.and_eq_true, Bool.or_eq_false_iff, Bool.and_eq_false_iff, Bool.not_eq_true', Bool.not_eq_false', Bool.not_eq_true, Bool.not_eq_false, beq_iff_eq, beq_eq_false_iff_ne, bne_iff_ne, ne_eq] at hc)) | refine StepOk.opt (fun _ => ?_))) <;> (first | exact rfl | (refine ⟨rfl, ?_, ?_⟩ <;> simp only [Sp.in4_11, Sp.mu4_11, Sp.bts_size, Sp.strCat_size, Sp.extract_size, Sp.stb_len, Sp.mk_size, IntKind.wrap_i64, IntKind.wrap_u8, IntKind.wrap_u32, IntKind.wrap_u64, Sp.tmod_lit, Sp.tdiv_lit, bne_eq_false_iff_eq, Int.natCast_inj, setE, copyL, sliceL, zrow, List.length_append, List.length_cons, List.length_nil, List.length_set, List.length_replicate, List.length_take, List.length_drop, decide_eq_true_eq, decide_eq_false_iff_not, Bool.or_eq_true, Bool.and_eq_true, Bool.or_eq_false_iff, Bool.and_eq_false_iff, Bool.not_eq_true', Bool.not_eq_false', Bool.not_eq_true, Bool.not_eq_false, beq_iff_eq, beq_eq_false_iff_ne, bne_iff_ne, ne_eq] <;> first | omega | (and_intros <;> first | omega | exact h.1 | exact h.2 | exact h.2.1 | exact h.2.2 | exact h.2.2.1 | exact h.2.2.2 | exact h.2.2.2.1 | exact h.2.2.2.2 | exact h.2.2.2.2.1 | exact h.2.2.2.2.2 | exact h.2.2.2.2.2.1 | exact h.2.2.2.2.2.2)))
theorem lo4_11 : LoopOk Try.prog gdS (RetAt Try.prog Try.f4 (Rsh.one (none)) none ty4) (bodyAt (bodyOf Try.f4) [0, 0]) LS4_11 :=
  loop_run (ctxOkF gokGmY4 []) (L := lookL []) (loops_of (l := []) (by kernel_rfl) (loops_nil)) sa4_11 va4_11 so4_11
theorem va4_5 (k : (Ty.pair ty40 (Ty.pair ty40 ty28)).den) (x : (Ty.pair ty9 ty3).den) : ((evCode (ctxG GmY4) (lookL [(11, LS4_11)]) (bodyAt (bodyOf Try.f4) [0]) (tmpl LS4_5 (enc (Ty.pair ty40 (Ty.pair ty40 ty28)) k) (enc (Ty.pair ty9 ty3) x)) (evRound LS4_5 (evRet (ctxG GmY4) Try.f4 (Rsh.one (none)) none ty4 .ret)))).val BOut.ret (BOut.brk (Ty.dflt (Ty.pair ty40 (Ty.pair ty40 ty28))) (Ty.dflt (Ty.pair ty9 ty3))) = Sp.st4_5 k x := by kernel_rfl
theorem se4_5 (k : (Ty.pair ty40 (Ty.pair ty40 ty28)).den) (x : (Ty.pair ty9 ty3).den) : ((evCode (ctxG GmY4) (lookL [(11, LS4_11)]) (bodyAt (bodyOf Try.f4) [0]) (tmpl LS4_5 (enc (Ty.pair ty40 (Ty.pair ty40 ty28)) k) (enc (Ty.pair ty9 ty3) x)) (evRound LS4_5 (evRet (ctxG GmY4) Try.f4 (Rsh.one (none)) none ty4 .ret)))).safe = ((((decide (x.2 < ((k.1).length : Int))) = true → ((0 ≤ x.2 ∧ x.2 < ((k.1).length : Int)) ∧ ((((Sp.F14 (k.2.2, (Sp.nthT k.1 x.2))).2 != (0 : Int)) = true → True) ∧ (((Sp.F14 (k.2.2, (Sp.nthT k.1 x.2))).2 != (0 : Int)) = false → ((Sp.in4_11 (k.1, k.2.1, x.2, (Sp.F14 (k.2.2, (Sp.nthT k.1 x.2))).1, k.2.2) (0 : Int)) ∧ ((Sp.R4_11 (k.1, k.2.1, x.2, (Sp.F14 (k.2.2, (Sp.nthT k.1 x.2))).1, k.2.2) (0 : Int)) = none → ((((ByteArray.size x.1 : Nat) : Int) + ((ByteArray.size ((Sp.F14 (k.2.2, (Sp.nthT k.1 x.2))).1) : Nat) : Int) ≤ 9223372036854775807) ∧ True))))))) ∧ ((decide (x.2 < ((k.1).length : Int))) = false → True))) := by kernel_rfl
set_option maxHeartbeats 4000000 in
theorem sa4_5 (k : (Ty.pair ty40 (Ty.pair ty40 ty28)).den) (x : (Ty.pair ty9 ty3).den) (fk : Fit (Ty.pair ty40 (Ty.pair ty40 ty28)) k) (fx : Fit (Ty.pair ty9 ty3) x) (h : Sp.in4_5 k x) : SafeW ((evCode (ctxG GmY4) (lookL [(11, LS4_11)]) (bodyAt (bodyOf Try.f4) [0]) (tmpl LS4_5 (enc (Ty.pair ty40 (Ty.pair ty40 ty28)) k) (enc (Ty.pair ty9 ty3) x)) (evRound LS4_5 (evRet (ctxG GmY4) Try.f4 (Rsh.one (none)) none ty4 .ret)))) := by
  refine ⟨?_⟩
  rw [se4_5]
  try dsimp only [Ty.den] at *
  simp only [Sp.in4_5] at h
  refine ⟨fun hc => ?_, fun _ => trivial⟩
  rw [decide_eq_true_eq] at hc
  have hs := Sp.enc_small k.2.2 (Sp.nthT k.1 x.2)
  exact ⟨⟨by omega, by omega⟩, fun _ => trivial, fun _ => ⟨⟨by omega, by simp only; omega, by simp only; omega⟩, fun _ => ⟨by omega, trivial⟩⟩⟩
set_option maxHeartbeats 4000000 in
theorem so4_5 (k : (Ty.pair ty40 (Ty.pair ty40 ty28)).den) (x : (Ty.pair ty9 ty3).den) (fk : Fit (Ty.pair ty40 (Ty.pair ty40 ty28)) k) (h : Sp.in4_5 k x) : StepOk true Sp.in4_5 Sp.mu4_5 k x (Sp.st4_5 k x) := by
  try dsimp only [Ty.den] at *
  unfold Sp.in4_5 at h
  unfold Sp.st4_5
  refine StepOk.cnd (fun hc => ?_) (fun _ => rfl)
  rw [decide_eq_true_eq] at hc
  have hs := Sp.enc_small k.2.2 (Sp.nthT k.1 x.2)
  have e : IntKind.i64.wrap (x.2 + 1) = x.2 + 1 := Sp.wrap_i64_of (by omega) (by omega)
  rw [e]
  refine StepOk.cnd (fun _ => rfl) (fun _ => StepOk.opt (fun _ => ⟨rfl, ?_, ?_⟩))
  · unfold Sp.in4_5
    simp only [Sp.strCat_size]
    omega
  · unfold Sp.mu4_5
    simp only
    omega
theorem lo4_5 : LoopOk Try.prog gdS (RetAt Try.prog Try.f4 (Rsh.one (none)) none ty4) (bodyAt (bodyOf Try.f4) [0]) LS4_5 :=
  loop_run (ctxOkF gokGmY4 []) (L := lookL [(11, LS4_11)]) (loops_of (l := [bodyAt (bodyOf Try.f4) [0, 0]]) (by kernel_rfl) (loops_cons (s0 := LS4_11) (by kernel_rfl) lo4_11 (loops_nil))) sa4_5 va4_5 so4_5
theorem va4_18 (k : (Ty.pair ty40 ty28).den) (x : (Ty.pair ty9 ty3).den) : ((evCode (ctxG GmY4) (lookL [(11, LS4_11), (5, LS4_5)]) (bodyAt (bodyOf Try.f4) [1]) (tmpl LS4_18 (enc (Ty.pair ty40 ty28) k) (enc (Ty.pair ty9 ty3) x)) (evRound LS4_18 (evRet (ctxG GmY4) Try.f4 (Rsh.one (none)) none ty4 .ret)))).val BOut.ret (BOut.brk (Ty.dflt (Ty.pair ty40 ty28)) (Ty.dflt (Ty.pair ty9 ty3))) = Sp.st4_18 k x := by kernel_rfl
theorem se4_18 (k : (Ty.pair ty40 ty28).den) (x : (Ty.pair ty9 ty3).den) : ((evCode (ctxG GmY4) (lookL [(11, LS4_11), (5, LS4_5)]) (bodyAt (bodyOf Try.f4) [1]) (tmpl LS4_18 (enc (Ty.pair ty40 ty28) k) (enc (Ty.pair ty9 ty3) x)) (evRound LS4_18 (evRet (ctxG GmY4) Try.f4 (Rsh.one (none)) none ty4 .ret)))).safe = ((((decide (x.2 < ((k.1).length : Int))) = true → ((0 ≤ x.2 ∧ x.2 < ((k.1).length : Int)) ∧ ((((ByteArray.size x.1 : Nat) : Int) + ((ByteArray.size ((Sp.F14 (k.2, (Sp.nthT k.1 x.2))).1) : Nat) : Int) ≤ 9223372036854775807) ∧ True))) ∧ ((decide (x.2 < ((k.1).length : Int))) = false → True))) := by kernel_rfl
set_option maxHeartbeats 4000000 in
theorem sa4_18 (k : (Ty.pair ty40 ty28).den) (x : (Ty.pair ty9 ty3).den) (fk : Fit (Ty.pair ty40 ty28) k) (fx : Fit (Ty.pair ty9 ty3) x) (h : Sp.in4_18 k x) : SafeW ((evCode (ctxG GmY4) (lookL [(11, LS4_11), (5, LS4_5)]) (bodyAt (bodyOf Try.f4) [1]) (tmpl LS4_18 (enc (Ty.pair ty40 ty28) k) (enc (Ty.pair ty9 ty3) x)) (evRound LS4_18 (evRet (ctxG GmY4) Try.f4 (Rsh.one (none)) none ty4 .ret)))) := by
  refine ⟨?_⟩
  rw [se4_18]
  try dsimp only [Ty.den] at *
  simp only [Sp.in4_18] at h
  refine ⟨fun hc => ?_, fun _ => trivial⟩
  rw [decide_eq_true_eq] at hc
  have hs := Sp.enc_small k.2 (Sp.nthT k.1 x.2)
  exact ⟨⟨by omega, by omega⟩, by omega, trivial⟩
set_option maxHeartbeats 4000000 in
theorem so4_18 (k : (Ty.pair ty40 ty28).den) (x : (Ty.pair ty9 ty3).den) (fk : Fit (Ty.pair ty40 ty28) k) (h : Sp.in4_18 k x) : StepOk false Sp.in4_18 Sp.mu4_18 k x (Sp.st4_18 k x) := by
  try dsimp only [Ty.den] at *
  unfold Sp.in4_18 at h
  unfold Sp.st4_18
  refine StepOk.cnd (fun hc => ?_) (fun _ => rfl)
  rw [decide_eq_true_eq] at hc
  have hs := Sp.enc_small k.2 (Sp.nthT k.1 x.2)
  have e : IntKind.i64.wrap (x.2 + 1) = x.2 + 1 := Sp.wrap_i64_of (by omega) (by omega)
  rw [e]
  refine ⟨rfl, ?_, ?_⟩
  · unfold Sp.in4_18
    simp only [Sp.strCat_size]
    omega
  · unfold Sp.mu4_18
    simp only
    omega
theorem lo4_18 : LoopOk Try.prog gdS (RetAt Try.prog Try.f4 (Rsh.one (none)) none ty4) (bodyAt (bodyOf Try.f4) [1]) LS4_18 :=
  loop_run (ctxOkF gokGmY4 []) (L := lookL [(11, LS4_11), (5, LS4_5)]) (loops_of (l := []) (by kernel_rfl) (loops_nil)) sa4_18 va4_18 so4_18
end Go.Proofs.Ytabifaikklcghaa.Sy
namespace Go.Proofs.Ytabifaikklcghaa.Sp
open Go Go.RowKit Sy
def F4 (x : Int × (List Int) × List Int) : Bool :=
  Sp.optR (Sp.R4_5 ((Sp.F21 ((Sp.F13 x.1), x.2.1, (20 : Int))), (Sp.F21 ((Sp.F13 x.1), x.2.2, (20 : Int))), (Sp.F13 x.1)) ((ByteArray.mk #[]), (0 : Int))) (fun y => y)
  ((((strEq ((Sp.G4_5 ((Sp.F21 ((Sp.F13 x.1), x.2.1, (20 : Int))), (Sp.F21 ((Sp.F13 x.1), x.2.2, (20 : Int))), (Sp.F13 x.1)) ((ByteArray.mk #[]), (0 : Int))).1) ((Sp.G4_18 ((Sp.F21 ((Sp.F13 x.1), x.2.2, (20 : Int))), (Sp.F13 x.1)) ((ByteArray.mk #[]), (0 : Int))).1)) == (Sp.F22 ((Sp.F21 ((Sp.F13 x.1), x.2.1, (20 : Int))), (Sp.F21 ((Sp.F13 x.1), x.2.2, (20 : Int)))))) && (Sp.F12 ())))
def pre4 (x : Int × (List Int) × List Int) : Prop := 0 ≤ x.1 ∧ x.1 ≤ 255 ∧ (∀ v ∈ x.2.1, 0 ≤ v ∧ v ≤ 255) ∧ (∀ v ∈ x.2.2, 0 ≤ v ∧ v ≤ 255)
end Go.Proofs.Ytabifaikklcghaa.Sp
namespace Go.Proofs.Ytabifaikklcghaa.Sy
def ct4 : Ct := { p := (Ty.pair ty5 (Ty.pair ty35 ty35)), psh := [none, none, none], r := ty4, rsh := (Rsh.one (none)), pre := some Sp.pre4, fresh := none, F := Sp.F4 }
theorem va4 (x : (Ty.pair ty5 (Ty.pair ty35 ty35)).den) : ((evFn (ctxG GmY4) Try.f4 (Ty.pair ty5 (Ty.pair ty35 ty35)) [none, none, none] (Rsh.one (none)) none ty4 (lookL [(11, LS4_11), (5, LS4_5), (18, LS4_18)]) x)).val (fun y => y) (Ty.dflt ty4) = Sp.F4 x := by kernel_rfl
theorem se4 (x : (Ty.pair ty5 (Ty.pair ty35 ty35)).den) : ((evFn (ctxG GmY4) Try.f4 (Ty.pair ty5 (Ty.pair ty35 ty35)) [none, none, none] (Rsh.one (none)) none ty4 (lookL [(11, LS4_11), (5, LS4_5), (18, LS4_18)]) x)).safe = (((Sp.pre13 x.1) ∧ ((Sp.pre21 ((Sp.F13 x.1), x.2.1, (20 : Int))) ∧ ((Sp.pre21 ((Sp.F13 x.1), x.2.2, (20 : Int))) ∧ ((Sp.in4_5 ((Sp.F21 ((Sp.F13 x.1), x.2.1, (20 : Int))), (Sp.F21 ((Sp.F13 x.1), x.2.2, (20 : Int))), (Sp.F13 x.1)) ((ByteArray.mk #[]), (0 : Int))) ∧ ((Sp.R4_5 ((Sp.F21 ((Sp.F13 x.1), x.2.1, (20 : Int))), (Sp.F21 ((Sp.F13 x.1), x.2.2, (20 : Int))), (Sp.F13 x.1)) ((ByteArray.mk #[]), (0 : Int))) = none → ((Sp.in4_18 ((Sp.F21 ((Sp.F13 x.1), x.2.2, (20 : Int))), (Sp.F13 x.1)) ((ByteArray.mk #[]), (0 : Int))) ∧ True))))))) := by kernel_rfl
theorem sa4 (x : (Ty.pair ty5 (Ty.pair ty35 ty35)).den) (fx : Fit (Ty.pair ty5 (Ty.pair ty35 ty35)) x) (h : Sp.pre4 x) : SafeW ((evFn (ctxG GmY4) Try.f4 (Ty.pair ty5 (Ty.pair ty35 ty35)) [none, none, none] (Rsh.one (none)) none ty4 (lookL [(11, LS4_11), (5, LS4_5), (18, LS4_18)]) x)) := by
  refine ⟨?_⟩
  rw [se4]
  try dsimp only [Ty.den] at *
  simp only [Sp.pre4] at h
  obtain ⟨hn0, hn1, hb1, hb2⟩ := h
  have hl1 := Sp.recs_len (most := 20) ⟨hn0, hn1⟩ hb1 (by omega)
  have hl2 := Sp.recs_len (most := 20) ⟨hn0, hn1⟩ hb2 (by omega)
  refine ⟨⟨hn0, hn1⟩, Sp.recs_pre ⟨hn0, hn1⟩ (by omega), Sp.recs_pre ⟨hn0, hn1⟩ (by omega), ⟨by simp, by simp only [Sp.mk_size]; simp, by simp only; omega⟩, fun _ => ⟨⟨by simp, by simp only [Sp.mk_size]; simp, by simp only; omega⟩, trivial⟩⟩
theorem ok4 : CtOk Try.prog gdS 4 ct4 :=
  fn_okU (ctxOkF gokGmY4 []) rfl Try.func4 (p := (Ty.pair ty5 (Ty.pair ty35 ty35))) (psh := [none, none, none]) (r := ty4) (rsh := (Rsh.one (none))) (pre := some Sp.pre4) (fresh := none) (F := Sp.F4) (L := (lookL [(11, LS4_11), (5, LS4_5), (18, LS4_18)])) (c := bodyOf Try.f4) (dflt := Ty.dflt ty4) rfl (loops_of (l := [bodyAt (bodyOf Try.f4) [0], bodyAt (bodyOf Try.f4) [1]]) (by kernel_rfl) (loops_cons (s0 := LS4_5) (by kernel_rfl) lo4_5 (loops_cons (s0 := LS4_18) (by kernel_rfl) lo4_18 (loops_nil))))
    (safe_pre @sa4) va4
def GmY5 : List (Nat × Ct) := (3, ct3) :: (8, ct8) :: (9, ct9) :: (4, ct4) :: GmY4
theorem gokGmY5 : GOk GmY5 := gok_cons ok3 ⟨_, Try.func3, by kernel_rfl, by kernel_rfl⟩ (gok_cons ok8 ⟨_, Try.func8, by kernel_rfl, by kernel_rfl⟩ (gok_cons ok9 ⟨_, Try.func9, by kernel_rfl, by kernel_rfl⟩ (gok_cons ok4 ⟨_, Try.func4, by kernel_rfl, by kernel_rfl⟩ (gokGmY4))))
end Go.Proofs.Ytabifaikklcghaa.Sy
