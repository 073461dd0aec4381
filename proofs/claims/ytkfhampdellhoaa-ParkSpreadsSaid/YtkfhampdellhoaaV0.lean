/- Contracts of functions, by the evaluator (own program gen.py): overlaylaw14.ParkSpreads. -/
import Derived.Test.YtkfhampdellhoaaPaW
set_option linter.unusedVariables false
set_option linter.unusedSimpArgs false
set_option maxRecDepth 100000
namespace Go.Proofs.Ytkfhampdellhoaa.Sy
open Go Go.RowKit Sp
/-! overlaylaw14.ParkSpreads -/
end Go.Proofs.Ytkfhampdellhoaa.Sy
namespace Go.Proofs.Ytkfhampdellhoaa.Sp
open Go Go.RowKit Sy
def in9_11 (k : ((List Int) × (List Int) × Int × Int × Int × Int × Nat × Nat × Nat × List (Int × Int × Int × Int × Int × Int × Int × Int × Int))) (x : (Int)) : Prop := (0 : Int) ≤ x ∧ k.1.length = k.2.1.length
def mu9_11 (k : ((List Int) × (List Int) × Int × Int × Int × Int × Nat × Nat × Nat × List (Int × Int × Int × Int × Int × Int × Int × Int × Int))) (x : (Int)) : Nat := (((k.1).length : Int) - x).toNat
def st9_11 (k : ((List Int) × (List Int) × Int × Int × Int × Int × Nat × Nat × Nat × List (Int × Int × Int × Int × Int × Int × Int × Int × Int))) (x : (Int)) : BOut ((List Int) × (List Int) × Int × Int × Int × Int × Nat × Nat × Nat × List (Int × Int × Int × Int × Int × Int × Int × Int × Int)) (Int) (Bool) :=
  bif (decide (x < ((k.1).length : Int))) then
    (bif (((((Sp.nthT k.1 x) != (Sp.nthT k.2.1 x)) || (decide ((Sp.nthT k.1 x) < (0 : Int)))) || (decide ((Sp.nthT k.1 x) ≥ k.2.2.1))) || ((decide (x > (0 : Int))) && ((decide ((Sp.nthT k.1 x) < (Sp.nthT k.1 (IntKind.i64.wrap (x - (1 : Int)))))) || (((Sp.nthT k.1 x) == (Sp.nthT k.1 (IntKind.i64.wrap (x - (1 : Int))))) && (decide (k.2.2.1 ≥ ((k.2.2.2.2.2.2.2.2.2).length : Int))))))) then
      BOut.ret false
    else
      BOut.next k (IntKind.i64.wrap (x + (1 : Int))))
  else
    BOut.brk k x
def G9_11 (k : ((List Int) × (List Int) × Int × Int × Int × Int × Nat × Nat × Nat × List (Int × Int × Int × Int × Int × Int × Int × Int × Int))) (x : (Int)) : (Int) := endOf st9_11 k (Nat.succ (mu9_11 k x)) x
def R9_11 (k : ((List Int) × (List Int) × Int × Int × Int × Int × Nat × Nat × Nat × List (Int × Int × Int × Int × Int × Int × Int × Int × Int))) (x : (Int)) : Option (Bool) := retOf st9_11 k (Nat.succ (mu9_11 k x)) x
end Go.Proofs.Ytkfhampdellhoaa.Sp
namespace Go.Proofs.Ytkfhampdellhoaa.Sy
def LS9_11 : LS ty4.den := mkLS (Ty.pair ty49 (Ty.pair ty49 ty46)) ty3  [(8, none), (9, none)] [(7, 8)] [(10, none)] [] [] [27, 29] [(7, 7)] 2 true Sp.in9_11 Sp.st9_11 Sp.mu9_11
end Go.Proofs.Ytkfhampdellhoaa.Sy
namespace Go.Proofs.Ytkfhampdellhoaa.Sp
open Go Go.RowKit Sy
def in9_5 (k : ((List (Int × Int × Int × Int × Nat × Nat × Nat × List (Int × Int × Int × Int × Int × Int × Int × Int × Int))) × Int)) (x : (Int)) : Prop := (0 : Int) ≤ x ∧ k.2 = ((k.1).length : Int)
def mu9_5 (k : ((List (Int × Int × Int × Int × Nat × Nat × Nat × List (Int × Int × Int × Int × Int × Int × Int × Int × Int))) × Int)) (x : (Int)) : Nat := (k.2 - x).toNat
def st9_5 (k : ((List (Int × Int × Int × Int × Nat × Nat × Nat × List (Int × Int × Int × Int × Int × Int × Int × Int × Int))) × Int)) (x : (Int)) : BOut ((List (Int × Int × Int × Int × Nat × Nat × Nat × List (Int × Int × Int × Int × Int × Int × Int × Int × Int))) × Int) (Int) (Bool) :=
  bif (decide (x < k.2)) then
    (bif ((((Sp.F19 (Sp.nthT k.1 x))).length : Int) != (((Sp.F20 (Sp.nthT k.1 x))).length : Int)) then
      BOut.ret false
    else
      Sp.optR (Sp.R9_11 ((Sp.F19 (Sp.nthT k.1 x)), (Sp.F20 (Sp.nthT k.1 x)), (Sp.nthT k.1 x)) (0 : Int)) BOut.ret
      (BOut.next k (IntKind.i64.wrap (x + (1 : Int)))))
  else
    BOut.brk k x
def G9_5 (k : ((List (Int × Int × Int × Int × Nat × Nat × Nat × List (Int × Int × Int × Int × Int × Int × Int × Int × Int))) × Int)) (x : (Int)) : (Int) := endOf st9_5 k (Nat.succ (mu9_5 k x)) x
def R9_5 (k : ((List (Int × Int × Int × Int × Nat × Nat × Nat × List (Int × Int × Int × Int × Int × Int × Int × Int × Int))) × Int)) (x : (Int)) : Option (Bool) := retOf st9_5 k (Nat.succ (mu9_5 k x)) x
end Go.Proofs.Ytkfhampdellhoaa.Sp
namespace Go.Proofs.Ytkfhampdellhoaa.Sy
def LS9_5 : LS ty4.den := mkLS (Ty.pair ty53 ty3) ty3  [(20, none), (21, none)] [] [(22, none)] [] [] [] [] 0 true Sp.in9_5 Sp.st9_5 Sp.mu9_5
theorem va9_11 (k : (Ty.pair ty49 (Ty.pair ty49 ty46)).den) (x : ty3.den) : ((evCode (ctxG GmW) (lookL []) (bodyAt (bodyOf Try.f9) [0, 0]) (tmpl LS9_11 (enc (Ty.pair ty49 (Ty.pair ty49 ty46)) k) (enc ty3 x)) (evRound LS9_11 (evRet (ctxG GmW) Try.f9 (Rsh.one (none)) none ty4 .ret)))).val BOut.ret (BOut.brk (Ty.dflt (Ty.pair ty49 (Ty.pair ty49 ty46))) (Ty.dflt ty3)) = Sp.st9_11 k x := by kernel_rfl
theorem se9_11 (k : (Ty.pair ty49 (Ty.pair ty49 ty46)).den) (x : ty3.den) : ((evCode (ctxG GmW) (lookL []) (bodyAt (bodyOf Try.f9) [0, 0]) (tmpl LS9_11 (enc (Ty.pair ty49 (Ty.pair ty49 ty46)) k) (enc ty3 x)) (evRound LS9_11 (evRet (ctxG GmW) Try.f9 (Rsh.one (none)) none ty4 .ret)))).safe = ((((decide (x < ((k.1).length : Int))) = true → ((0 ≤ x ∧ x < ((k.1).length : Int)) ∧ ((0 ≤ x ∧ x < ((k.2.1).length : Int)) ∧ (((((Sp.nthT k.1 x) != (Sp.nthT k.2.1 x)) = false → 0 ≤ x ∧ x < ((k.1).length : Int))) ∧ ((((((Sp.nthT k.1 x) != (Sp.nthT k.2.1 x)) || (decide ((Sp.nthT k.1 x) < (0 : Int)))) = false → 0 ≤ x ∧ x < ((k.1).length : Int))) ∧ (((((((Sp.nthT k.1 x) != (Sp.nthT k.2.1 x)) || (decide ((Sp.nthT k.1 x) < (0 : Int)))) || (decide ((Sp.nthT k.1 x) ≥ k.2.2.1))) = false → ((decide (x > (0 : Int))) = true → 0 ≤ x ∧ x < ((k.1).length : Int)))) ∧ (((((((Sp.nthT k.1 x) != (Sp.nthT k.2.1 x)) || (decide ((Sp.nthT k.1 x) < (0 : Int)))) || (decide ((Sp.nthT k.1 x) ≥ k.2.2.1))) = false → ((decide (x > (0 : Int))) = true → 0 ≤ (IntKind.i64.wrap (x - (1 : Int))) ∧ (IntKind.i64.wrap (x - (1 : Int))) < ((k.1).length : Int)))) ∧ (((((((Sp.nthT k.1 x) != (Sp.nthT k.2.1 x)) || (decide ((Sp.nthT k.1 x) < (0 : Int)))) || (decide ((Sp.nthT k.1 x) ≥ k.2.2.1))) = false → ((decide (x > (0 : Int))) = true → ((decide ((Sp.nthT k.1 x) < (Sp.nthT k.1 (IntKind.i64.wrap (x - (1 : Int)))))) = false → 0 ≤ x ∧ x < ((k.1).length : Int))))) ∧ (((((((Sp.nthT k.1 x) != (Sp.nthT k.2.1 x)) || (decide ((Sp.nthT k.1 x) < (0 : Int)))) || (decide ((Sp.nthT k.1 x) ≥ k.2.2.1))) = false → ((decide (x > (0 : Int))) = true → ((decide ((Sp.nthT k.1 x) < (Sp.nthT k.1 (IntKind.i64.wrap (x - (1 : Int)))))) = false → 0 ≤ (IntKind.i64.wrap (x - (1 : Int))) ∧ (IntKind.i64.wrap (x - (1 : Int))) < ((k.1).length : Int))))) ∧ (((((((Sp.nthT k.1 x) != (Sp.nthT k.2.1 x)) || (decide ((Sp.nthT k.1 x) < (0 : Int)))) || (decide ((Sp.nthT k.1 x) ≥ k.2.2.1))) || ((decide (x > (0 : Int))) && ((decide ((Sp.nthT k.1 x) < (Sp.nthT k.1 (IntKind.i64.wrap (x - (1 : Int)))))) || (((Sp.nthT k.1 x) == (Sp.nthT k.1 (IntKind.i64.wrap (x - (1 : Int))))) && (decide (k.2.2.1 ≥ ((k.2.2.2.2.2.2.2.2.2).length : Int))))))) = true → True) ∧ ((((((Sp.nthT k.1 x) != (Sp.nthT k.2.1 x)) || (decide ((Sp.nthT k.1 x) < (0 : Int)))) || (decide ((Sp.nthT k.1 x) ≥ k.2.2.1))) || ((decide (x > (0 : Int))) && ((decide ((Sp.nthT k.1 x) < (Sp.nthT k.1 (IntKind.i64.wrap (x - (1 : Int)))))) || (((Sp.nthT k.1 x) == (Sp.nthT k.1 (IntKind.i64.wrap (x - (1 : Int))))) && (decide (k.2.2.1 ≥ ((k.2.2.2.2.2.2.2.2.2).length : Int))))))) = false → True))))))))))) ∧ ((decide (x < ((k.1).length : Int))) = false → True))) := by kernel_rfl
set_option maxHeartbeats 4000000 in
theorem sa9_11 (k : (Ty.pair ty49 (Ty.pair ty49 ty46)).den) (x : ty3.den) (fk : Fit (Ty.pair ty49 (Ty.pair ty49 ty46)) k) (fx : Fit ty3 x) (h : Sp.in9_11 k x) : SafeW ((evCode (ctxG GmW) (lookL []) (bodyAt (bodyOf Try.f9) [0, 0]) (tmpl LS9_11 (enc (Ty.pair ty49 (Ty.pair ty49 ty46)) k) (enc ty3 x)) (evRound LS9_11 (evRet (ctxG GmW) Try.f9 (Rsh.one (none)) none ty4 .ret)))) := by
  refine ⟨?_⟩
  rw [se9_11]
  try dsimp only [Ty.den] at *
  simp only [Sp.in9_11, Fit, maxLen] at h fk fx
  simp only [IntKind.wrap_i64, IntKind.wrap_u8, IntKind.wrap_u32, IntKind.wrap_u64, Sp.tmod_lit, Sp.tdiv_lit, bne_eq_false_iff_eq, Int.natCast_inj, setE, copyL, sliceL, zrow, List.length_append, List.length_cons, List.length_nil, List.length_set, List.length_replicate, List.length_take, List.length_drop, decide_eq_true_eq, decide_eq_false_iff_not, Bool.or_eq_true, Bool.and_eq_true, Bool.or_eq_false_iff, Bool.and_eq_false_iff, Bool.not_eq_true', Bool.not_eq_false', Bool.not_eq_true, Bool.not_eq_false, beq_iff_eq, beq_eq_false_iff_ne, bne_iff_ne, ne_eq, implies_true, and_true, true_and] at *
  all_goals ((repeat' (first | exact trivial | apply And.intro | intro _)) <;> first | trivial | omega | exact Sp.tmod_nn (by omega) | exact Sp.tmod_lt (by omega) (by omega))
set_option maxHeartbeats 4000000 in
theorem so9_11 (k : (Ty.pair ty49 (Ty.pair ty49 ty46)).den) (x : ty3.den) (fk : Fit (Ty.pair ty49 (Ty.pair ty49 ty46)) k) (h : Sp.in9_11 k x) : StepOk true Sp.in9_11 Sp.mu9_11 k x (Sp.st9_11 k x) := by
  try dsimp only [Ty.den] at *
  simp only [Sp.in9_11, Fit, maxLen] at h fk
  unfold Sp.st9_11
  (repeat' (first | exact rfl | (refine StepOk.cnd (fun hc => ?_) (fun hc => ?_) <;> (try simp only [IntKind.wrap_i64, IntKind.wrap_u8, IntKind.wrap_u32, IntKind.wrap_u64, bne_eq_false_iff_eq, Int.natCast_inj, setE, copyL, sliceL, zrow, List.length_append, List.length_cons, List.length_nil, List.length_set, List.length_replicate, List.length_take, List.length_drop, decide_eq_true_eq, decide_eq_false_iff_not, Bool.or_eq_true, Bool.and_eq_true, Bool.or_eq_false_iff, Bool.and_eq_false_iff, Bool.not_eq_true', Bool.not_eq_false', Bool.not_eq_true, Bool.not_eq_false, beq_iff_eq, beq_eq_false_iff_ne, bne_iff_ne, ne_eq] at hc)) | refine StepOk.opt (fun _ => ?_))) <;> (first | exact rfl | (refine ⟨rfl, ?_, ?_⟩ <;> simp only [Sp.in9_11, Sp.mu9_11, IntKind.wrap_i64, IntKind.wrap_u8, IntKind.wrap_u32, IntKind.wrap_u64, Sp.tmod_lit, Sp.tdiv_lit, bne_eq_false_iff_eq, Int.natCast_inj, setE, copyL, sliceL, zrow, List.length_append, List.length_cons, List.length_nil, List.length_set, List.length_replicate, List.length_take, List.length_drop, decide_eq_true_eq, decide_eq_false_iff_not, Bool.or_eq_true, Bool.and_eq_true, Bool.or_eq_false_iff, Bool.and_eq_false_iff, Bool.not_eq_true', Bool.not_eq_false', Bool.not_eq_true, Bool.not_eq_false, beq_iff_eq, beq_eq_false_iff_ne, bne_iff_ne, ne_eq] <;> omega))
theorem lo9_11 : LoopOk Try.prog gdS (RetAt Try.prog Try.f9 (Rsh.one (none)) none ty4) (bodyAt (bodyOf Try.f9) [0, 0]) LS9_11 :=
  loop_run (ctxOkF gokGmW []) (L := lookL []) (loops_of (l := []) (by kernel_rfl) (loops_nil)) sa9_11 va9_11 so9_11
theorem va9_5 (k : (Ty.pair ty53 ty3).den) (x : ty3.den) : ((evCode (ctxG GmW) (lookL [(11, LS9_11)]) (bodyAt (bodyOf Try.f9) [0]) (tmpl LS9_5 (enc (Ty.pair ty53 ty3) k) (enc ty3 x)) (evRound LS9_5 (evRet (ctxG GmW) Try.f9 (Rsh.one (none)) none ty4 .ret)))).val BOut.ret (BOut.brk (Ty.dflt (Ty.pair ty53 ty3)) (Ty.dflt ty3)) = Sp.st9_5 k x := by kernel_rfl
theorem se9_5 (k : (Ty.pair ty53 ty3).den) (x : ty3.den) : ((evCode (ctxG GmW) (lookL [(11, LS9_11)]) (bodyAt (bodyOf Try.f9) [0]) (tmpl LS9_5 (enc (Ty.pair ty53 ty3) k) (enc ty3 x)) (evRound LS9_5 (evRet (ctxG GmW) Try.f9 (Rsh.one (none)) none ty4 .ret)))).safe = ((((decide (x < k.2)) = true → ((0 ≤ x ∧ x < ((k.1).length : Int)) ∧ ((((((Sp.F19 (Sp.nthT k.1 x))).length : Int) != (((Sp.F20 (Sp.nthT k.1 x))).length : Int)) = true → True) ∧ (((((Sp.F19 (Sp.nthT k.1 x))).length : Int) != (((Sp.F20 (Sp.nthT k.1 x))).length : Int)) = false → ((Sp.in9_11 ((Sp.F19 (Sp.nthT k.1 x)), (Sp.F20 (Sp.nthT k.1 x)), (Sp.nthT k.1 x)) (0 : Int)) ∧ ((Sp.R9_11 ((Sp.F19 (Sp.nthT k.1 x)), (Sp.F20 (Sp.nthT k.1 x)), (Sp.nthT k.1 x)) (0 : Int)) = none → True)))))) ∧ ((decide (x < k.2)) = false → True))) := by kernel_rfl
set_option maxHeartbeats 4000000 in
theorem sa9_5 (k : (Ty.pair ty53 ty3).den) (x : ty3.den) (fk : Fit (Ty.pair ty53 ty3) k) (fx : Fit ty3 x) (h : Sp.in9_5 k x) : SafeW ((evCode (ctxG GmW) (lookL [(11, LS9_11)]) (bodyAt (bodyOf Try.f9) [0]) (tmpl LS9_5 (enc (Ty.pair ty53 ty3) k) (enc ty3 x)) (evRound LS9_5 (evRet (ctxG GmW) Try.f9 (Rsh.one (none)) none ty4 .ret)))) := by
  refine ⟨?_⟩
  rw [se9_5]
  try dsimp only [Ty.den] at *
  simp only [Sp.in9_5, Fit, maxLen] at h fk fx
  simp only [Sp.in9_11, IntKind.wrap_i64, IntKind.wrap_u8, IntKind.wrap_u32, IntKind.wrap_u64, Sp.tmod_lit, Sp.tdiv_lit, bne_eq_false_iff_eq, Int.natCast_inj, setE, copyL, sliceL, zrow, List.length_append, List.length_cons, List.length_nil, List.length_set, List.length_replicate, List.length_take, List.length_drop, decide_eq_true_eq, decide_eq_false_iff_not, Bool.or_eq_true, Bool.and_eq_true, Bool.or_eq_false_iff, Bool.and_eq_false_iff, Bool.not_eq_true', Bool.not_eq_false', Bool.not_eq_true, Bool.not_eq_false, beq_iff_eq, beq_eq_false_iff_ne, bne_iff_ne, ne_eq, implies_true, and_true, true_and] at *
  all_goals ((repeat' (first | exact trivial | apply And.intro | intro _)) <;> first | trivial | omega | exact Sp.tmod_nn (by omega) | exact Sp.tmod_lt (by omega) (by omega))
set_option maxHeartbeats 4000000 in
theorem so9_5 (k : (Ty.pair ty53 ty3).den) (x : ty3.den) (fk : Fit (Ty.pair ty53 ty3) k) (h : Sp.in9_5 k x) : StepOk true Sp.in9_5 Sp.mu9_5 k x (Sp.st9_5 k x) := by
  try dsimp only [Ty.den] at *
  simp only [Sp.in9_5, Fit, maxLen] at h fk
  unfold Sp.st9_5
  (repeat' (first | exact rfl | (refine StepOk.cnd (fun hc => ?_) (fun hc => ?_) <;> (try simp only [IntKind.wrap_i64, IntKind.wrap_u8, IntKind.wrap_u32, IntKind.wrap_u64, bne_eq_false_iff_eq, Int.natCast_inj, setE, copyL, sliceL, zrow, List.length_append, List.length_cons, List.length_nil, List.length_set, List.length_replicate, List.length_take, List.length_drop, decide_eq_true_eq, decide_eq_false_iff_not, Bool.or_eq_true, Bool.and_eq_true, Bool.or_eq_false_iff, Bool.and_eq_false_iff, Bool.not_eq_true', Bool.not_eq_false', Bool.not_eq_true, Bool.not_eq_false, beq_iff_eq, beq_eq_false_iff_ne, bne_iff_ne, ne_eq] at hc)) | refine StepOk.opt (fun _ => ?_))) <;> (first | exact rfl | (refine ⟨rfl, ?_, ?_⟩ <;> simp only [Sp.in9_5, Sp.mu9_5, IntKind.wrap_i64, IntKind.wrap_u8, IntKind.wrap_u32, IntKind.wrap_u64, Sp.tmod_lit, Sp.tdiv_lit, bne_eq_false_iff_eq, Int.natCast_inj, setE, copyL, sliceL, zrow, List.length_append, List.length_cons, List.length_nil, List.length_set, List.length_replicate, List.length_take, List.length_drop, decide_eq_true_eq, decide_eq_false_iff_not, Bool.or_eq_true, Bool.and_eq_true, Bool.or_eq_false_iff, Bool.and_eq_false_iff, Bool.not_eq_true', Bool.not_eq_false', Bool.not_eq_true, Bool.not_eq_false, beq_iff_eq, beq_eq_false_iff_ne, bne_iff_ne, ne_eq] <;> omega))
theorem lo9_5 : LoopOk Try.prog gdS (RetAt Try.prog Try.f9 (Rsh.one (none)) none ty4) (bodyAt (bodyOf Try.f9) [0]) LS9_5 :=
  loop_run (ctxOkF gokGmW []) (L := lookL [(11, LS9_11)]) (loops_of (l := [bodyAt (bodyOf Try.f9) [0, 0]]) (by kernel_rfl) (loops_cons (s0 := LS9_11) (by kernel_rfl) lo9_11 (loops_nil))) sa9_5 va9_5 so9_5
end Go.Proofs.Ytkfhampdellhoaa.Sy
namespace Go.Proofs.Ytkfhampdellhoaa.Sp
open Go Go.RowKit Sy
def F9 (x : Int × Int × Int × Int × Int × Nat × Nat × Nat × List (Int × Int × Int × Int × Int × Int × Int × Int × Int)) : Bool :=
  bif (decide (((x.2.2.2.2.2.2.2.2).length : Int) > (20 : Int))) then
    (Sp.F15 ())
  else
    Sp.optR (Sp.R9_5 ([(Sp.F16 x.1), x.2], (([(Sp.F16 x.1), x.2]).length : Int)) (0 : Int)) (fun y => y)
    ((Sp.F15 ()))
def pre9 (x : Int × Int × Int × Int × Int × Nat × Nat × Nat × List (Int × Int × Int × Int × Int × Int × Int × Int × Int)) : Prop := 0 ≤ x.1 ∧ x.1 ≤ 255
end Go.Proofs.Ytkfhampdellhoaa.Sp
namespace Go.Proofs.Ytkfhampdellhoaa.Sy
def ct9 : Ct := { p := (Ty.pair ty5 ty46), psh := [none, some 8], r := ty4, rsh := (Rsh.one (none)), pre := some Sp.pre9, fresh := none, F := Sp.F9 }
theorem va9 (x : (Ty.pair ty5 ty46).den) : ((evFn (ctxG GmW) Try.f9 (Ty.pair ty5 ty46) [none, some 8] (Rsh.one (none)) none ty4 (lookL [(11, LS9_11), (5, LS9_5)]) x)).val (fun y => y) (Ty.dflt ty4) = Sp.F9 x := by kernel_rfl
theorem se9 (x : (Ty.pair ty5 ty46).den) : ((evFn (ctxG GmW) Try.f9 (Ty.pair ty5 ty46) [none, some 8] (Rsh.one (none)) none ty4 (lookL [(11, LS9_11), (5, LS9_5)]) x)).safe = ((((decide (((x.2.2.2.2.2.2.2.2).length : Int) > (20 : Int))) = true → True) ∧ ((decide (((x.2.2.2.2.2.2.2.2).length : Int) > (20 : Int))) = false → ((Sp.pre16 x.1) ∧ ((Sp.in9_5 ([(Sp.F16 x.1), x.2], (([(Sp.F16 x.1), x.2]).length : Int)) (0 : Int)) ∧ ((Sp.R9_5 ([(Sp.F16 x.1), x.2], (([(Sp.F16 x.1), x.2]).length : Int)) (0 : Int)) = none → True)))))) := by kernel_rfl
theorem sa9 (x : (Ty.pair ty5 ty46).den) (fx : Fit (Ty.pair ty5 ty46) x) (h : Sp.pre9 x) : SafeW ((evFn (ctxG GmW) Try.f9 (Ty.pair ty5 ty46) [none, some 8] (Rsh.one (none)) none ty4 (lookL [(11, LS9_11), (5, LS9_5)]) x)) := by
  refine ⟨?_⟩
  rw [se9]
  try dsimp only [Ty.den] at *
  simp only [Fit, maxLen] at fx
  simp only [Sp.in9_11, Sp.in9_5, Sp.pre9, Sp.pre16, IntKind.wrap_i64, IntKind.wrap_u8, IntKind.wrap_u32, IntKind.wrap_u64, Sp.tmod_lit, Sp.tdiv_lit, bne_eq_false_iff_eq, Int.natCast_inj, setE, copyL, sliceL, zrow, List.length_append, List.length_cons, List.length_nil, List.length_set, List.length_replicate, List.length_take, List.length_drop, decide_eq_true_eq, decide_eq_false_iff_not, Bool.or_eq_true, Bool.and_eq_true, Bool.or_eq_false_iff, Bool.and_eq_false_iff, Bool.not_eq_true', Bool.not_eq_false', Bool.not_eq_true, Bool.not_eq_false, beq_iff_eq, beq_eq_false_iff_ne, bne_iff_ne, ne_eq, implies_true, and_true, true_and] at *
  all_goals ((repeat' (first | exact trivial | apply And.intro | intro _)) <;> first | trivial | omega | exact Sp.tmod_nn (by omega) | exact Sp.tmod_lt (by omega) (by omega))
theorem ok9 : CtOk Try.prog gdS 9 ct9 :=
  fn_okU (ctxOkF gokGmW []) rfl Try.func9 (p := (Ty.pair ty5 ty46)) (psh := [none, some 8]) (r := ty4) (rsh := (Rsh.one (none))) (pre := some Sp.pre9) (fresh := none) (F := Sp.F9) (L := (lookL [(11, LS9_11), (5, LS9_5)])) (c := bodyOf Try.f9) (dflt := Ty.dflt ty4) rfl (loops_of (l := [bodyAt (bodyOf Try.f9) [0]]) (by kernel_rfl) (loops_cons (s0 := LS9_5) (by kernel_rfl) lo9_5 (loops_nil)))
    (safe_pre @sa9) va9
def GmV0 : List (Nat × Ct) := (9, ct9) :: GmW
theorem gokGmV0 : GOk GmV0 := gok_cons ok9 ⟨_, Try.func9, by kernel_rfl, by kernel_rfl⟩ (gokGmW)
end Go.Proofs.Ytkfhampdellhoaa.Sy
