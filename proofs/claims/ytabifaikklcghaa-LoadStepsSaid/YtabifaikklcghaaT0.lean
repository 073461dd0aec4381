/- Contracts of functions, by the evaluator (own program gen.py): building.within, building.loads, overlayref01.in, overlaylaw01.Sample. -/
import Derived.Test.YtabifaikklcghaaSf
set_option linter.unusedVariables false
set_option linter.unusedSimpArgs false
set_option maxRecDepth 100000
namespace Go.Proofs.Ytabifaikklcghaa.Sy
open Go Go.RowKit Sp
/-! building.within -/
end Go.Proofs.Ytabifaikklcghaa.Sy
namespace Go.Proofs.Ytabifaikklcghaa.Sp
open Go Go.RowKit Sy
def in48_2 (k : (Int × Int × (List Int) × Int)) (x : (Int)) : Prop := (0 : Int) ≤ x ∧ k.2.2.2 = ((k.2.2.1).length : Int)
def mu48_2 (k : (Int × Int × (List Int) × Int)) (x : (Int)) : Nat := (k.2.2.2 - x).toNat
def st48_2 (k : (Int × Int × (List Int) × Int)) (x : (Int)) : BOut (Int × Int × (List Int) × Int) (Int) (Bool) :=
  bif (decide (x < k.2.2.2)) then
    (bif ((decide ((Sp.nthT k.2.2.1 x) < k.1)) || (decide ((Sp.nthT k.2.2.1 x) > k.2.1))) then
      BOut.ret false
    else
      BOut.next k (IntKind.i64.wrap (x + (1 : Int))))
  else
    BOut.brk k x
def G48_2 (k : (Int × Int × (List Int) × Int)) (x : (Int)) : (Int) := endOf st48_2 k (Nat.succ (mu48_2 k x)) x
def R48_2 (k : (Int × Int × (List Int) × Int)) (x : (Int)) : Option (Bool) := retOf st48_2 k (Nat.succ (mu48_2 k x)) x
end Go.Proofs.Ytabifaikklcghaa.Sp
namespace Go.Proofs.Ytabifaikklcghaa.Sy
def LS48_2 : LS ty4.den := mkLS (Ty.pair ty3 (Ty.pair ty3 (Ty.pair ty47 ty3))) ty3  [(0, none), (1, none), (9, none), (10, none)] [] [(11, none)] [] [] [] [] 0 true Sp.in48_2 Sp.st48_2 Sp.mu48_2
theorem va48_2 (k : (Ty.pair ty3 (Ty.pair ty3 (Ty.pair ty47 ty3))).den) (x : ty3.den) : ((evCode (ctxG []) (lookL []) (bodyAt (bodyOf Try.f48) [0]) (tmpl LS48_2 (enc (Ty.pair ty3 (Ty.pair ty3 (Ty.pair ty47 ty3))) k) (enc ty3 x)) (evRound LS48_2 (evRet (ctxG []) Try.f48 (Rsh.one (none)) none ty4 .ret)))).val BOut.ret (BOut.brk (Ty.dflt (Ty.pair ty3 (Ty.pair ty3 (Ty.pair ty47 ty3)))) (Ty.dflt ty3)) = Sp.st48_2 k x := by kernel_rfl
theorem se48_2 (k : (Ty.pair ty3 (Ty.pair ty3 (Ty.pair ty47 ty3))).den) (x : ty3.den) : ((evCode (ctxG []) (lookL []) (bodyAt (bodyOf Try.f48) [0]) (tmpl LS48_2 (enc (Ty.pair ty3 (Ty.pair ty3 (Ty.pair ty47 ty3))) k) (enc ty3 x)) (evRound LS48_2 (evRet (ctxG []) Try.f48 (Rsh.one (none)) none ty4 .ret)))).safe = ((((decide (x < k.2.2.2)) = true → ((0 ≤ x ∧ x < ((k.2.2.1).length : Int)) ∧ ((((decide ((Sp.nthT k.2.2.1 x) < k.1)) || (decide ((Sp.nthT k.2.2.1 x) > k.2.1))) = true → True) ∧ (((decide ((Sp.nthT k.2.2.1 x) < k.1)) || (decide ((Sp.nthT k.2.2.1 x) > k.2.1))) = false → True)))) ∧ ((decide (x < k.2.2.2)) = false → True))) := by kernel_rfl
set_option maxHeartbeats 4000000 in
theorem sa48_2 (k : (Ty.pair ty3 (Ty.pair ty3 (Ty.pair ty47 ty3))).den) (x : ty3.den) (fk : Fit (Ty.pair ty3 (Ty.pair ty3 (Ty.pair ty47 ty3))) k) (fx : Fit ty3 x) (h : Sp.in48_2 k x) : SafeW ((evCode (ctxG []) (lookL []) (bodyAt (bodyOf Try.f48) [0]) (tmpl LS48_2 (enc (Ty.pair ty3 (Ty.pair ty3 (Ty.pair ty47 ty3))) k) (enc ty3 x)) (evRound LS48_2 (evRet (ctxG []) Try.f48 (Rsh.one (none)) none ty4 .ret)))) := by
  refine ⟨?_⟩
  rw [se48_2]
  try dsimp only [Ty.den] at *
  simp only [Sp.in48_2, Fit, maxLen] at h fk fx
  simp only [IntKind.wrap_i64, IntKind.wrap_u8, IntKind.wrap_u32, IntKind.wrap_u64, Sp.tmod_lit, Sp.tdiv_lit, bne_eq_false_iff_eq, Int.natCast_inj, setE, copyL, sliceL, zrow, List.length_append, List.length_cons, List.length_nil, List.length_set, List.length_replicate, List.length_take, List.length_drop, decide_eq_true_eq, decide_eq_false_iff_not, Bool.or_eq_true, Bool.and_eq_true, Bool.or_eq_false_iff, Bool.and_eq_false_iff, Bool.not_eq_true', Bool.not_eq_false', Bool.not_eq_true, Bool.not_eq_false, beq_iff_eq, beq_eq_false_iff_ne, bne_iff_ne, ne_eq, implies_true, and_true, true_and] at *
  all_goals ((repeat' (first | exact trivial | apply And.intro | intro _)) <;> first | trivial | omega | exact Sp.tmod_nn (by omega) | exact Sp.tmod_lt (by omega) (by omega))
set_option maxHeartbeats 4000000 in
theorem so48_2 (k : (Ty.pair ty3 (Ty.pair ty3 (Ty.pair ty47 ty3))).den) (x : ty3.den) (fk : Fit (Ty.pair ty3 (Ty.pair ty3 (Ty.pair ty47 ty3))) k) (h : Sp.in48_2 k x) : StepOk true Sp.in48_2 Sp.mu48_2 k x (Sp.st48_2 k x) := by
  try dsimp only [Ty.den] at *
  simp only [Sp.in48_2, Fit, maxLen] at h fk
  unfold Sp.st48_2
  (repeat' (first | exact rfl | (refine StepOk.cnd (fun hc => ?_) (fun hc => ?_) <;> (try simp only [IntKind.wrap_i64, IntKind.wrap_u8, IntKind.wrap_u32, IntKind.wrap_u64, bne_eq_false_iff_eq, Int.natCast_inj, setE, copyL, sliceL, zrow, List.length_append, List.length_cons, List.length_nil, List.length_set, List.length_replicate, List.length_take, List.length_drop, decide_eq_true_eq, decide_eq_false_iff_not, Bool.or_eq_true, Bool.and_eq_true, Bool.or_eq_false_iff, Bool.and_eq_false_iff, Bool.not_eq_true', Bool.not_eq_false', Bool.not_eq_true, Bool.not_eq_false, beq_iff_eq, beq_eq_false_iff_ne, bne_iff_ne, ne_eq] at hc)) | refine StepOk.opt (fun _ => ?_))) <;> (first | exact rfl | (refine ⟨rfl, ?_, ?_⟩ <;> simp only [Sp.in48_2, Sp.mu48_2, IntKind.wrap_i64, IntKind.wrap_u8, IntKind.wrap_u32, IntKind.wrap_u64, Sp.tmod_lit, Sp.tdiv_lit, bne_eq_false_iff_eq, Int.natCast_inj, setE, copyL, sliceL, zrow, List.length_append, List.length_cons, List.length_nil, List.length_set, List.length_replicate, List.length_take, List.length_drop, decide_eq_true_eq, decide_eq_false_iff_not, Bool.or_eq_true, Bool.and_eq_true, Bool.or_eq_false_iff, Bool.and_eq_false_iff, Bool.not_eq_true', Bool.not_eq_false', Bool.not_eq_true, Bool.not_eq_false, beq_iff_eq, beq_eq_false_iff_ne, bne_iff_ne, ne_eq] <;> first | omega | (and_intros <;> first | omega | exact h.1 | exact h.2 | exact h.2.1 | exact h.2.2 | exact h.2.2.1 | exact h.2.2.2 | exact h.2.2.2.1 | exact h.2.2.2.2 | exact h.2.2.2.2.1 | exact h.2.2.2.2.2 | exact h.2.2.2.2.2.1 | exact h.2.2.2.2.2.2)))
theorem lo48_2 : LoopOk Try.prog gdS (RetAt Try.prog Try.f48 (Rsh.one (none)) none ty4) (bodyAt (bodyOf Try.f48) [0]) LS48_2 :=
  loop_run (ctxOkF gok_nil []) (L := lookL []) (loops_of (l := []) (by kernel_rfl) (loops_nil)) sa48_2 va48_2 so48_2
end Go.Proofs.Ytabifaikklcghaa.Sy
namespace Go.Proofs.Ytabifaikklcghaa.Sp
open Go Go.RowKit Sy
def F48 (x : Int × Int × List Int) : Bool :=
  Sp.optR (Sp.R48_2 (x.1, x.2.1, x.2.2, ((x.2.2).length : Int)) (0 : Int)) (fun y => y)
  (true)
end Go.Proofs.Ytabifaikklcghaa.Sp
namespace Go.Proofs.Ytabifaikklcghaa.Sy
def ct48 : Ct := { p := (Ty.pair ty3 (Ty.pair ty3 ty47)), psh := [none, none, none], r := ty4, rsh := (Rsh.one (none)), pre := none, fresh := none, F := Sp.F48 }
theorem va48 (x : (Ty.pair ty3 (Ty.pair ty3 ty47)).den) : ((evFn (ctxG []) Try.f48 (Ty.pair ty3 (Ty.pair ty3 ty47)) [none, none, none] (Rsh.one (none)) none ty4 (lookL [(2, LS48_2)]) x)).val (fun y => y) (Ty.dflt ty4) = Sp.F48 x := by kernel_rfl
theorem se48 (x : (Ty.pair ty3 (Ty.pair ty3 ty47)).den) : ((evFn (ctxG []) Try.f48 (Ty.pair ty3 (Ty.pair ty3 ty47)) [none, none, none] (Rsh.one (none)) none ty4 (lookL [(2, LS48_2)]) x)).safe = (((Sp.in48_2 (x.1, x.2.1, x.2.2, ((x.2.2).length : Int)) (0 : Int)) ∧ ((Sp.R48_2 (x.1, x.2.1, x.2.2, ((x.2.2).length : Int)) (0 : Int)) = none → True))) := by kernel_rfl
theorem sa48 (x : (Ty.pair ty3 (Ty.pair ty3 ty47)).den) (fx : Fit (Ty.pair ty3 (Ty.pair ty3 ty47)) x) : SafeW ((evFn (ctxG []) Try.f48 (Ty.pair ty3 (Ty.pair ty3 ty47)) [none, none, none] (Rsh.one (none)) none ty4 (lookL [(2, LS48_2)]) x)) := by
  refine ⟨?_⟩
  rw [se48]
  try dsimp only [Ty.den] at *
  simp only [Fit, maxLen] at fx
  simp only [Sp.in48_2, IntKind.wrap_i64, IntKind.wrap_u8, IntKind.wrap_u32, IntKind.wrap_u64, Sp.tmod_lit, Sp.tdiv_lit, bne_eq_false_iff_eq, Int.natCast_inj, setE, copyL, sliceL, zrow, List.length_append, List.length_cons, List.length_nil, List.length_set, List.length_replicate, List.length_take, List.length_drop, decide_eq_true_eq, decide_eq_false_iff_not, Bool.or_eq_true, Bool.and_eq_true, Bool.or_eq_false_iff, Bool.and_eq_false_iff, Bool.not_eq_true', Bool.not_eq_false', Bool.not_eq_true, Bool.not_eq_false, beq_iff_eq, beq_eq_false_iff_ne, bne_iff_ne, ne_eq, implies_true, and_true, true_and] at *
  all_goals ((repeat' (first | exact trivial | apply And.intro | intro _)) <;> first | trivial | omega | exact Sp.tmod_nn (by omega) | exact Sp.tmod_lt (by omega) (by omega))
theorem ok48 : CtOk Try.prog gdS 48 ct48 :=
  fn_okU (ctxOkF gok_nil []) rfl Try.func48 (p := (Ty.pair ty3 (Ty.pair ty3 ty47))) (psh := [none, none, none]) (r := ty4) (rsh := (Rsh.one (none))) (pre := none) (fresh := none) (F := Sp.F48) (L := (lookL [(2, LS48_2)])) (c := bodyOf Try.f48) (dflt := Ty.dflt ty4) rfl (loops_of (l := [bodyAt (bodyOf Try.f48) [0]]) (by kernel_rfl) (loops_cons (s0 := LS48_2) (by kernel_rfl) lo48_2 (loops_nil)))
    (safe_no @sa48) va48
/-! building.loads -/
end Go.Proofs.Ytabifaikklcghaa.Sy
namespace Go.Proofs.Ytabifaikklcghaa.Sp
open Go Go.RowKit Sy
def F50 (x : Int × Int × Int × Int × Nat × Nat × Nat × List (Int × Int × Int × Int × Int × Int × Int × Int × Int)) : Bool :=
  (((((FloatKind.f64.format.order (0 : Nat) x.2.2.2.2.1) == some Ordering.lt) && ((FloatKind.f64.format.order x.2.2.2.2.1 x.2.2.2.2.2.1) == some Ordering.lt)) && ((FloatKind.f64.format.order x.2.2.2.2.2.1 x.2.2.2.2.2.2.1) == some Ordering.lt)) && ((FloatKind.f64.format.order x.2.2.2.2.2.2.1 (9218868437227405311 : Nat)) == some Ordering.lt || (FloatKind.f64.format.order x.2.2.2.2.2.2.1 (9218868437227405311 : Nat)) == some Ordering.eq))
end Go.Proofs.Ytabifaikklcghaa.Sp
namespace Go.Proofs.Ytabifaikklcghaa.Sy
def ct50 : Ct := { p := ty28, psh := [some 8], r := ty4, rsh := (Rsh.one (none)), pre := none, fresh := none, F := Sp.F50 }
theorem va50 (x : ty28.den) : ((evFn (ctxG []) Try.f50 ty28 [some 8] (Rsh.one (none)) none ty4 noL x)).val (fun y => y) (Ty.dflt ty4) = Sp.F50 x := by kernel_rfl
theorem se50 (x : ty28.den) : ((evFn (ctxG []) Try.f50 ty28 [some 8] (Rsh.one (none)) none ty4 noL x)).safe = (True) := by kernel_rfl
theorem sa50 (x : ty28.den) (fx : Fit ty28 x) : SafeW ((evFn (ctxG []) Try.f50 ty28 [some 8] (Rsh.one (none)) none ty4 noL x)) := by
  refine ⟨?_⟩
  rw [se50]
  trivial
theorem ok50 : CtOk Try.prog gdS 50 ct50 :=
  fn_okU (ctxOkF gok_nil []) rfl Try.func50 (p := ty28) (psh := [some 8]) (r := ty4) (rsh := (Rsh.one (none))) (pre := none) (fresh := none) (F := Sp.F50) (L := noL) (c := bodyOf Try.f50) (dflt := Ty.dflt ty4) rfl (no_loops)
    (safe_no @sa50) va50
/-! overlayref01.in -/
end Go.Proofs.Ytabifaikklcghaa.Sy
namespace Go.Proofs.Ytabifaikklcghaa.Sp
open Go Go.RowKit Sy
def F52 (x : Int × Int × Int) : Bool :=
  ((decide (x.1 ≥ x.2.1)) && (decide (x.1 ≤ x.2.2)))
end Go.Proofs.Ytabifaikklcghaa.Sp
namespace Go.Proofs.Ytabifaikklcghaa.Sy
def ct52 : Ct := { p := (Ty.pair ty3 (Ty.pair ty3 ty3)), psh := [none, none, none], r := ty4, rsh := (Rsh.one (none)), pre := none, fresh := none, F := Sp.F52 }
theorem va52 (x : (Ty.pair ty3 (Ty.pair ty3 ty3)).den) : ((evFn (ctxG []) Try.f52 (Ty.pair ty3 (Ty.pair ty3 ty3)) [none, none, none] (Rsh.one (none)) none ty4 noL x)).val (fun y => y) (Ty.dflt ty4) = Sp.F52 x := by kernel_rfl
theorem se52 (x : (Ty.pair ty3 (Ty.pair ty3 ty3)).den) : ((evFn (ctxG []) Try.f52 (Ty.pair ty3 (Ty.pair ty3 ty3)) [none, none, none] (Rsh.one (none)) none ty4 noL x)).safe = (True) := by kernel_rfl
theorem sa52 (x : (Ty.pair ty3 (Ty.pair ty3 ty3)).den) (fx : Fit (Ty.pair ty3 (Ty.pair ty3 ty3)) x) : SafeW ((evFn (ctxG []) Try.f52 (Ty.pair ty3 (Ty.pair ty3 ty3)) [none, none, none] (Rsh.one (none)) none ty4 noL x)) := by
  refine ⟨?_⟩
  rw [se52]
  trivial
theorem ok52 : CtOk Try.prog gdS 52 ct52 :=
  fn_okU (ctxOkF gok_nil []) rfl Try.func52 (p := (Ty.pair ty3 (Ty.pair ty3 ty3))) (psh := [none, none, none]) (r := ty4) (rsh := (Rsh.one (none))) (pre := none) (fresh := none) (F := Sp.F52) (L := noL) (c := bodyOf Try.f52) (dflt := Ty.dflt ty4) rfl (no_loops)
    (safe_no @sa52) va52
/-! overlaylaw01.Sample -/
end Go.Proofs.Ytabifaikklcghaa.Sy
namespace Go.Proofs.Ytabifaikklcghaa.Sp
open Go Go.RowKit Sy
def in35_3 (k : (Int × Int)) (x : (Int × Int × Int × Int × Int × Nat × Nat × Nat × List (Int × Int × Int × Int × Int × Int × Int × Int × Int))) : Prop := 0 ≤ x.1 ∧ x.1 ≤ 101 ∧ k.1 ≠ 0 ∧ k.2 ≤ 100 ∧ (x.2.2.2.2.2.2.2.2.length : Int) ≤ x.1
def mu35_3 (k : (Int × Int)) (x : (Int × Int × Int × Int × Int × Nat × Nat × Nat × List (Int × Int × Int × Int × Int × Int × Int × Int × Int))) : Nat := (k.2 - x.1).toNat
def st35_3 (k : (Int × Int)) (x : (Int × Int × Int × Int × Int × Nat × Nat × Nat × List (Int × Int × Int × Int × Int × Int × Int × Int × Int))) : BOut (Int × Int) (Int × Int × Int × Int × Int × Nat × Nat × Nat × List (Int × Int × Int × Int × Int × Int × Int × Int × Int)) (Int × Int × Int × Int × Nat × Nat × Nat × List (Int × Int × Int × Int × Int × Int × Int × Int × Int)) :=
  bif (decide (x.1 < k.2)) then
    BOut.next k ((IntKind.i64.wrap (x.1 + (1 : Int))), x.2.1, x.2.2.1, x.2.2.2.1, x.2.2.2.2.1, x.2.2.2.2.2.1, x.2.2.2.2.2.2.1, x.2.2.2.2.2.2.2.1, (x.2.2.2.2.2.2.2.2 ++ [((100 : Int), (2 : Int), (6 : Int), (5 : Int), (4 : Int), (2 : Int), (3 : Int), (10 : Int), (Int.tmod x.1 k.1))]))
  else
    BOut.brk k x
def G35_3 (k : (Int × Int)) (x : (Int × Int × Int × Int × Int × Nat × Nat × Nat × List (Int × Int × Int × Int × Int × Int × Int × Int × Int))) : (Int × Int × Int × Int × Int × Nat × Nat × Nat × List (Int × Int × Int × Int × Int × Int × Int × Int × Int)) := endOf st35_3 k (Nat.succ (mu35_3 k x)) x
end Go.Proofs.Ytabifaikklcghaa.Sp
namespace Go.Proofs.Ytabifaikklcghaa.Sy
def LS35_3 : LS ty28.den := mkLS (Ty.pair ty3 ty3) (Ty.pair ty3 ty28)  [(0, none), (1, none)] [] [(6, none)] [(5, 8)] [(8, 100308, true, 72)] [] [(5, 5)] 0 false Sp.in35_3 Sp.st35_3 Sp.mu35_3
theorem va35_3 (k : (Ty.pair ty3 ty3).den) (x : (Ty.pair ty3 ty28).den) : ((evCode (ctxG []) (lookL []) (bodyAt (bodyOf Try.f35) [0]) (tmpl LS35_3 (enc (Ty.pair ty3 ty3) k) (enc (Ty.pair ty3 ty28) x)) (evRound LS35_3 (evRet (ctxG []) Try.f35 (Rsh.one (some 8)) (some 72) ty28 .ret)))).val BOut.ret (BOut.brk (Ty.dflt (Ty.pair ty3 ty3)) (Ty.dflt (Ty.pair ty3 ty28))) = Sp.st35_3 k x := by kernel_rfl
theorem se35_3 (k : (Ty.pair ty3 ty3).den) (x : (Ty.pair ty3 ty28).den) : ((evCode (ctxG []) (lookL []) (bodyAt (bodyOf Try.f35) [0]) (tmpl LS35_3 (enc (Ty.pair ty3 ty3) k) (enc (Ty.pair ty3 ty28) x)) (evRound LS35_3 (evRet (ctxG []) Try.f35 (Rsh.one (some 8)) (some 72) ty28 .ret)))).safe = ((((decide (x.1 < k.2)) = true → ((k.1 ≠ 0) ∧ (((List.length (x.2.2.2.2.2.2.2.2 : List (Int × Int × Int × Int × Int × Int × Int × Int × Int)) + List.length ([((100 : Int), (2 : Int), (6 : Int), (5 : Int), (4 : Int), (2 : Int), (3 : Int), (10 : Int), (Int.tmod x.1 k.1))] : List (Int × Int × Int × Int × Int × Int × Int × Int × Int))) * 72 ≤ 140737488355328 ∧ List.length (x.2.2.2.2.2.2.2.2 : List (Int × Int × Int × Int × Int × Int × Int × Int × Int)) + List.length ([((100 : Int), (2 : Int), (6 : Int), (5 : Int), (4 : Int), (2 : Int), (3 : Int), (10 : Int), (Int.tmod x.1 k.1))] : List (Int × Int × Int × Int × Int × Int × Int × Int × Int)) ≤ 4611686018427387903) ∧ True))) ∧ ((decide (x.1 < k.2)) = false → True))) := by kernel_rfl
set_option maxHeartbeats 4000000 in
theorem sa35_3 (k : (Ty.pair ty3 ty3).den) (x : (Ty.pair ty3 ty28).den) (fk : Fit (Ty.pair ty3 ty3) k) (fx : Fit (Ty.pair ty3 ty28) x) (h : Sp.in35_3 k x) : SafeW ((evCode (ctxG []) (lookL []) (bodyAt (bodyOf Try.f35) [0]) (tmpl LS35_3 (enc (Ty.pair ty3 ty3) k) (enc (Ty.pair ty3 ty28) x)) (evRound LS35_3 (evRet (ctxG []) Try.f35 (Rsh.one (some 8)) (some 72) ty28 .ret)))) := by
  refine ⟨?_⟩
  rw [se35_3]
  try dsimp only [Ty.den] at *
  simp only [Sp.in35_3, Fit, maxLen] at h fk fx
  simp only [IntKind.wrap_i64, IntKind.wrap_u8, IntKind.wrap_u32, IntKind.wrap_u64, Sp.tmod_lit, Sp.tdiv_lit, bne_eq_false_iff_eq, Int.natCast_inj, setE, copyL, sliceL, zrow, List.length_append, List.length_cons, List.length_nil, List.length_set, List.length_replicate, List.length_take, List.length_drop, decide_eq_true_eq, decide_eq_false_iff_not, Bool.or_eq_true, Bool.and_eq_true, Bool.or_eq_false_iff, Bool.and_eq_false_iff, Bool.not_eq_true', Bool.not_eq_false', Bool.not_eq_true, Bool.not_eq_false, beq_iff_eq, beq_eq_false_iff_ne, bne_iff_ne, ne_eq, implies_true, and_true, true_and] at *
  all_goals ((repeat' (first | exact trivial | apply And.intro | intro _)) <;> first | trivial | omega | exact Sp.tmod_nn (by omega) | exact Sp.tmod_lt (by omega) (by omega))
set_option maxHeartbeats 4000000 in
theorem so35_3 (k : (Ty.pair ty3 ty3).den) (x : (Ty.pair ty3 ty28).den) (fk : Fit (Ty.pair ty3 ty3) k) (h : Sp.in35_3 k x) : StepOk false Sp.in35_3 Sp.mu35_3 k x (Sp.st35_3 k x) := by
  try dsimp only [Ty.den] at *
  simp only [Sp.in35_3, Fit, maxLen] at h fk
  unfold Sp.st35_3
  (repeat' (first | exact rfl | (refine StepOk.cnd (fun hc => ?_) (fun hc => ?_) <;> (try simp only [IntKind.wrap_i64, IntKind.wrap_u8, IntKind.wrap_u32, IntKind.wrap_u64, bne_eq_false_iff_eq, Int.natCast_inj, setE, copyL, sliceL, zrow, List.length_append, List.length_cons, List.length_nil, List.length_set, List.length_replicate, List.length_take, List.length_drop, decide_eq_true_eq, decide_eq_false_iff_not, Bool.or_eq_true, Bool.and_eq_true, Bool.or_eq_false_iff, Bool.and_eq_false_iff, Bool.not_eq_true', Bool.not_eq_false', Bool.not_eq_true, Bool.not_eq_false, beq_iff_eq, beq_eq_false_iff_ne, bne_iff_ne, ne_eq] at hc)) | refine StepOk.opt (fun _ => ?_))) <;> (first | exact rfl | (refine ⟨rfl, ?_, ?_⟩ <;> simp only [Sp.in35_3, Sp.mu35_3, IntKind.wrap_i64, IntKind.wrap_u8, IntKind.wrap_u32, IntKind.wrap_u64, Sp.tmod_lit, Sp.tdiv_lit, bne_eq_false_iff_eq, Int.natCast_inj, setE, copyL, sliceL, zrow, List.length_append, List.length_cons, List.length_nil, List.length_set, List.length_replicate, List.length_take, List.length_drop, decide_eq_true_eq, decide_eq_false_iff_not, Bool.or_eq_true, Bool.and_eq_true, Bool.or_eq_false_iff, Bool.and_eq_false_iff, Bool.not_eq_true', Bool.not_eq_false', Bool.not_eq_true, Bool.not_eq_false, beq_iff_eq, beq_eq_false_iff_ne, bne_iff_ne, ne_eq] <;> first | omega | (and_intros <;> first | omega | exact h.1 | exact h.2 | exact h.2.1 | exact h.2.2 | exact h.2.2.1 | exact h.2.2.2 | exact h.2.2.2.1 | exact h.2.2.2.2 | exact h.2.2.2.2.1 | exact h.2.2.2.2.2 | exact h.2.2.2.2.2.1 | exact h.2.2.2.2.2.2)))
theorem lo35_3 : LoopOk Try.prog gdS (RetAt Try.prog Try.f35 (Rsh.one (some 8)) (some 72) ty28) (bodyAt (bodyOf Try.f35) [0]) LS35_3 :=
  loop_run (ctxOkF gok_nil []) (L := lookL []) (loops_of (l := []) (by kernel_rfl) (loops_nil)) sa35_3 va35_3 so35_3
end Go.Proofs.Ytabifaikklcghaa.Sy
namespace Go.Proofs.Ytabifaikklcghaa.Sp
open Go Go.RowKit Sy
def F35 (x : Int × Int) : Int × Int × Int × Int × Nat × Nat × Nat × List (Int × Int × Int × Int × Int × Int × Int × Int × Int) :=
  (Sp.G35_3 x ((0 : Int), x.1, (1 : Int), (4000 : Int), (30 : Int), (4591870180066957722 : Nat), (4605380978949069210 : Nat), (4607632778762754458 : Nat), [])).2
def pre35 (x : Int × Int) : Prop := 1 ≤ x.1 ∧ x.1 ≤ 100 ∧ x.2 ≤ 100
end Go.Proofs.Ytabifaikklcghaa.Sp
namespace Go.Proofs.Ytabifaikklcghaa.Sy
def ct35 : Ct := { p := (Ty.pair ty3 ty3), psh := [none, none], r := ty28, rsh := (Rsh.one (some 8)), pre := some Sp.pre35, fresh := (some 72), F := Sp.F35 }
theorem va35 (x : (Ty.pair ty3 ty3).den) : ((evFn (ctxG []) Try.f35 (Ty.pair ty3 ty3) [none, none] (Rsh.one (some 8)) (some 72) ty28 (lookL [(3, LS35_3)]) x)).val (fun y => y) (Ty.dflt ty28) = Sp.F35 x := by kernel_rfl
theorem se35 (x : (Ty.pair ty3 ty3).den) : ((evFn (ctxG []) Try.f35 (Ty.pair ty3 ty3) [none, none] (Rsh.one (some 8)) (some 72) ty28 (lookL [(3, LS35_3)]) x)).safe = (((Sp.in35_3 x ((0 : Int), x.1, (1 : Int), (4000 : Int), (30 : Int), (4591870180066957722 : Nat), (4605380978949069210 : Nat), (4607632778762754458 : Nat), [])) ∧ True)) := by kernel_rfl
theorem sa35 (x : (Ty.pair ty3 ty3).den) (fx : Fit (Ty.pair ty3 ty3) x) (h : Sp.pre35 x) : SafeW ((evFn (ctxG []) Try.f35 (Ty.pair ty3 ty3) [none, none] (Rsh.one (some 8)) (some 72) ty28 (lookL [(3, LS35_3)]) x)) := by
  refine ⟨?_⟩
  rw [se35]
  try dsimp only [Ty.den] at *
  simp only [Fit, maxLen] at fx
  simp only [Sp.in35_3, Sp.pre35, IntKind.wrap_i64, IntKind.wrap_u8, IntKind.wrap_u32, IntKind.wrap_u64, Sp.tmod_lit, Sp.tdiv_lit, bne_eq_false_iff_eq, Int.natCast_inj, setE, copyL, sliceL, zrow, List.length_append, List.length_cons, List.length_nil, List.length_set, List.length_replicate, List.length_take, List.length_drop, decide_eq_true_eq, decide_eq_false_iff_not, Bool.or_eq_true, Bool.and_eq_true, Bool.or_eq_false_iff, Bool.and_eq_false_iff, Bool.not_eq_true', Bool.not_eq_false', Bool.not_eq_true, Bool.not_eq_false, beq_iff_eq, beq_eq_false_iff_ne, bne_iff_ne, ne_eq, implies_true, and_true, true_and] at *
  all_goals ((repeat' (first | exact trivial | apply And.intro | intro _)) <;> first | trivial | omega | exact Sp.tmod_nn (by omega) | exact Sp.tmod_lt (by omega) (by omega))
theorem ok35 : CtOk Try.prog gdS 35 ct35 :=
  fn_okU (ctxOkF gok_nil []) rfl Try.func35 (p := (Ty.pair ty3 ty3)) (psh := [none, none]) (r := ty28) (rsh := (Rsh.one (some 8))) (pre := some Sp.pre35) (fresh := (some 72)) (F := Sp.F35) (L := (lookL [(3, LS35_3)])) (c := bodyOf Try.f35) (dflt := Ty.dflt ty28) rfl (loops_of (l := [bodyAt (bodyOf Try.f35) [0]]) (by kernel_rfl) (loops_cons (s0 := LS35_3) (by kernel_rfl) lo35_3 (loops_nil)))
    (safe_pre @sa35) va35
def GmT0 : List (Nat × Ct) := (48, ct48) :: (50, ct50) :: (52, ct52) :: (35, ct35) :: []
theorem gokGmT0 : GOk GmT0 := gok_cons ok48 ⟨_, Try.func48, by kernel_rfl, by kernel_rfl⟩ (gok_cons ok50 ⟨_, Try.func50, by kernel_rfl, by kernel_rfl⟩ (gok_cons ok52 ⟨_, Try.func52, by kernel_rfl, by kernel_rfl⟩ (gok_cons ok35 ⟨_, Try.func35, by kernel_rfl, by kernel_rfl⟩ (gok_nil))))
end Go.Proofs.Ytabifaikklcghaa.Sy
