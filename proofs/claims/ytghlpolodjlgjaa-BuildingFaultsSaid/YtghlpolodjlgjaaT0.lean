/- Contracts of functions, by the evaluator (own program gen.py): building.within, building.loads, overlayref01.in, overlaylaw01.Sample. -/
import Derived.Test.YtghlpolodjlgjaaSf
set_option linter.unusedVariables false
set_option linter.unusedSimpArgs false
set_option maxRecDepth 100000
namespace Go.Proofs.Ytghlpolodjlgjaa.Sy
open Go Go.RowKit Sp
/-! building.within -/
end Go.Proofs.Ytghlpolodjlgjaa.Sy
namespace Go.Proofs.Ytghlpolodjlgjaa.Sp
open Go Go.RowKit Sy
def in17_2 (k : (Int × Int × (List Int) × Int)) (x : (Int)) : Prop := (0 : Int) ≤ x ∧ k.2.2.2 = ((k.2.2.1).length : Int)
def mu17_2 (k : (Int × Int × (List Int) × Int)) (x : (Int)) : Nat := (k.2.2.2 - x).toNat
def st17_2 (k : (Int × Int × (List Int) × Int)) (x : (Int)) : BOut (Int × Int × (List Int) × Int) (Int) (Bool) :=
  bif (decide (x < k.2.2.2)) then
    (bif ((decide ((Sp.nthT k.2.2.1 x) < k.1)) || (decide ((Sp.nthT k.2.2.1 x) > k.2.1))) then
      BOut.ret false
    else
      BOut.next k (IntKind.i64.wrap (x + (1 : Int))))
  else
    BOut.brk k x
def G17_2 (k : (Int × Int × (List Int) × Int)) (x : (Int)) : (Int) := endOf st17_2 k (Nat.succ (mu17_2 k x)) x
def R17_2 (k : (Int × Int × (List Int) × Int)) (x : (Int)) : Option (Bool) := retOf st17_2 k (Nat.succ (mu17_2 k x)) x
end Go.Proofs.Ytghlpolodjlgjaa.Sp
namespace Go.Proofs.Ytghlpolodjlgjaa.Sy
def LS17_2 : LS ty4.den := mkLS (Ty.pair ty3 (Ty.pair ty3 (Ty.pair ty57 ty3))) ty3  [(0, none), (1, none), (9, none), (10, none)] [] [(11, none)] [] [] [] [] 0 true Sp.in17_2 Sp.st17_2 Sp.mu17_2
theorem va17_2 (k : (Ty.pair ty3 (Ty.pair ty3 (Ty.pair ty57 ty3))).den) (x : ty3.den) : ((evCode (ctxG []) (lookL []) (bodyAt (bodyOf Try.f17) [0]) (tmpl LS17_2 (enc (Ty.pair ty3 (Ty.pair ty3 (Ty.pair ty57 ty3))) k) (enc ty3 x)) (evRound LS17_2 (evRet (ctxG []) Try.f17 (Rsh.one (none)) none ty4 .ret)))).val BOut.ret (BOut.brk (Ty.dflt (Ty.pair ty3 (Ty.pair ty3 (Ty.pair ty57 ty3)))) (Ty.dflt ty3)) = Sp.st17_2 k x := by kernel_rfl
theorem se17_2 (k : (Ty.pair ty3 (Ty.pair ty3 (Ty.pair ty57 ty3))).den) (x : ty3.den) : ((evCode (ctxG []) (lookL []) (bodyAt (bodyOf Try.f17) [0]) (tmpl LS17_2 (enc (Ty.pair ty3 (Ty.pair ty3 (Ty.pair ty57 ty3))) k) (enc ty3 x)) (evRound LS17_2 (evRet (ctxG []) Try.f17 (Rsh.one (none)) none ty4 .ret)))).safe = ((((decide (x < k.2.2.2)) = true → ((0 ≤ x ∧ x < ((k.2.2.1).length : Int)) ∧ ((((decide ((Sp.nthT k.2.2.1 x) < k.1)) || (decide ((Sp.nthT k.2.2.1 x) > k.2.1))) = true → True) ∧ (((decide ((Sp.nthT k.2.2.1 x) < k.1)) || (decide ((Sp.nthT k.2.2.1 x) > k.2.1))) = false → True)))) ∧ ((decide (x < k.2.2.2)) = false → True))) := by kernel_rfl
set_option maxHeartbeats 4000000 in
theorem sa17_2 (k : (Ty.pair ty3 (Ty.pair ty3 (Ty.pair ty57 ty3))).den) (x : ty3.den) (fk : Fit (Ty.pair ty3 (Ty.pair ty3 (Ty.pair ty57 ty3))) k) (fx : Fit ty3 x) (h : Sp.in17_2 k x) : SafeW ((evCode (ctxG []) (lookL []) (bodyAt (bodyOf Try.f17) [0]) (tmpl LS17_2 (enc (Ty.pair ty3 (Ty.pair ty3 (Ty.pair ty57 ty3))) k) (enc ty3 x)) (evRound LS17_2 (evRet (ctxG []) Try.f17 (Rsh.one (none)) none ty4 .ret)))) := by
  refine ⟨?_⟩
  rw [se17_2]
  try dsimp only [Ty.den] at *
  simp only [Sp.in17_2, Fit, maxLen] at h fk fx
  simp only [IntKind.wrap_i64, IntKind.wrap_u8, IntKind.wrap_u32, IntKind.wrap_u64, Sp.tmod_lit, Sp.tdiv_lit, bne_eq_false_iff_eq, Int.natCast_inj, setE, copyL, sliceL, zrow, List.length_append, List.length_cons, List.length_nil, List.length_set, List.length_replicate, List.length_take, List.length_drop, decide_eq_true_eq, decide_eq_false_iff_not, Bool.or_eq_true, Bool.and_eq_true, Bool.or_eq_false_iff, Bool.and_eq_false_iff, Bool.not_eq_true', Bool.not_eq_false', Bool.not_eq_true, Bool.not_eq_false, beq_iff_eq, beq_eq_false_iff_ne, bne_iff_ne, ne_eq, implies_true, and_true, true_and] at *
  all_goals ((repeat' (first | exact trivial | apply And.intro | intro _)) <;> first | trivial | omega | exact Sp.tmod_nn (by omega) | exact Sp.tmod_lt (by omega) (by omega))
set_option maxHeartbeats 4000000 in
theorem so17_2 (k : (Ty.pair ty3 (Ty.pair ty3 (Ty.pair ty57 ty3))).den) (x : ty3.den) (fk : Fit (Ty.pair ty3 (Ty.pair ty3 (Ty.pair ty57 ty3))) k) (h : Sp.in17_2 k x) : StepOk true Sp.in17_2 Sp.mu17_2 k x (Sp.st17_2 k x) := by
  try dsimp only [Ty.den] at *
  simp only [Sp.in17_2, Fit, maxLen] at h fk
  unfold Sp.st17_2
  (repeat' (first | exact rfl | (refine StepOk.cnd (fun hc => ?_) (fun hc => ?_) <;> (try simp only [IntKind.wrap_i64, IntKind.wrap_u8, IntKind.wrap_u32, IntKind.wrap_u64, bne_eq_false_iff_eq, Int.natCast_inj, setE, copyL, sliceL, zrow, List.length_append, List.length_cons, List.length_nil, List.length_set, List.length_replicate, List.length_take, List.length_drop, decide_eq_true_eq, decide_eq_false_iff_not, Bool.or_eq_true, Bool.and_eq_true, Bool.or_eq_false_iff, Bool.and_eq_false_iff, Bool.not_eq_true', Bool.not_eq_false', Bool.not_eq_true, Bool.not_eq_false, beq_iff_eq, beq_eq_false_iff_ne, bne_iff_ne, ne_eq] at hc)) | refine StepOk.opt (fun _ => ?_))) <;> (first | exact rfl | (refine ⟨rfl, ?_, ?_⟩ <;> simp only [Sp.in17_2, Sp.mu17_2, IntKind.wrap_i64, IntKind.wrap_u8, IntKind.wrap_u32, IntKind.wrap_u64, Sp.tmod_lit, Sp.tdiv_lit, bne_eq_false_iff_eq, Int.natCast_inj, setE, copyL, sliceL, zrow, List.length_append, List.length_cons, List.length_nil, List.length_set, List.length_replicate, List.length_take, List.length_drop, decide_eq_true_eq, decide_eq_false_iff_not, Bool.or_eq_true, Bool.and_eq_true, Bool.or_eq_false_iff, Bool.and_eq_false_iff, Bool.not_eq_true', Bool.not_eq_false', Bool.not_eq_true, Bool.not_eq_false, beq_iff_eq, beq_eq_false_iff_ne, bne_iff_ne, ne_eq] <;> first | omega | (and_intros <;> first | omega | exact h.1 | exact h.2 | exact h.2.1 | exact h.2.2 | exact h.2.2.1 | exact h.2.2.2 | exact h.2.2.2.1 | exact h.2.2.2.2 | exact h.2.2.2.2.1 | exact h.2.2.2.2.2 | exact h.2.2.2.2.2.1 | exact h.2.2.2.2.2.2)))
theorem lo17_2 : LoopOk Try.prog gdS (RetAt Try.prog Try.f17 (Rsh.one (none)) none ty4) (bodyAt (bodyOf Try.f17) [0]) LS17_2 :=
  loop_run (ctxOkF gok_nil []) (L := lookL []) (loops_of (l := []) (by kernel_rfl) (loops_nil)) sa17_2 va17_2 so17_2
end Go.Proofs.Ytghlpolodjlgjaa.Sy
namespace Go.Proofs.Ytghlpolodjlgjaa.Sp
open Go Go.RowKit Sy
def F17 (x : Int × Int × List Int) : Bool :=
  Sp.optR (Sp.R17_2 (x.1, x.2.1, x.2.2, ((x.2.2).length : Int)) (0 : Int)) (fun y => y)
  (true)
end Go.Proofs.Ytghlpolodjlgjaa.Sp
namespace Go.Proofs.Ytghlpolodjlgjaa.Sy
def ct17 : Ct := { p := (Ty.pair ty3 (Ty.pair ty3 ty57)), psh := [none, none, none], r := ty4, rsh := (Rsh.one (none)), pre := none, fresh := none, F := Sp.F17 }
theorem va17 (x : (Ty.pair ty3 (Ty.pair ty3 ty57)).den) : ((evFn (ctxG []) Try.f17 (Ty.pair ty3 (Ty.pair ty3 ty57)) [none, none, none] (Rsh.one (none)) none ty4 (lookL [(2, LS17_2)]) x)).val (fun y => y) (Ty.dflt ty4) = Sp.F17 x := by kernel_rfl
theorem se17 (x : (Ty.pair ty3 (Ty.pair ty3 ty57)).den) : ((evFn (ctxG []) Try.f17 (Ty.pair ty3 (Ty.pair ty3 ty57)) [none, none, none] (Rsh.one (none)) none ty4 (lookL [(2, LS17_2)]) x)).safe = (((Sp.in17_2 (x.1, x.2.1, x.2.2, ((x.2.2).length : Int)) (0 : Int)) ∧ ((Sp.R17_2 (x.1, x.2.1, x.2.2, ((x.2.2).length : Int)) (0 : Int)) = none → True))) := by kernel_rfl
theorem sa17 (x : (Ty.pair ty3 (Ty.pair ty3 ty57)).den) (fx : Fit (Ty.pair ty3 (Ty.pair ty3 ty57)) x) : SafeW ((evFn (ctxG []) Try.f17 (Ty.pair ty3 (Ty.pair ty3 ty57)) [none, none, none] (Rsh.one (none)) none ty4 (lookL [(2, LS17_2)]) x)) := by
  refine ⟨?_⟩
  rw [se17]
  try dsimp only [Ty.den] at *
  simp only [Fit, maxLen] at fx
  simp only [Sp.in17_2, IntKind.wrap_i64, IntKind.wrap_u8, IntKind.wrap_u32, IntKind.wrap_u64, Sp.tmod_lit, Sp.tdiv_lit, bne_eq_false_iff_eq, Int.natCast_inj, setE, copyL, sliceL, zrow, List.length_append, List.length_cons, List.length_nil, List.length_set, List.length_replicate, List.length_take, List.length_drop, decide_eq_true_eq, decide_eq_false_iff_not, Bool.or_eq_true, Bool.and_eq_true, Bool.or_eq_false_iff, Bool.and_eq_false_iff, Bool.not_eq_true', Bool.not_eq_false', Bool.not_eq_true, Bool.not_eq_false, beq_iff_eq, beq_eq_false_iff_ne, bne_iff_ne, ne_eq, implies_true, and_true, true_and] at *
  all_goals ((repeat' (first | exact trivial | apply And.intro | intro _)) <;> first | trivial | omega | exact Sp.tmod_nn (by omega) | exact Sp.tmod_lt (by omega) (by omega))
theorem ok17 : CtOk Try.prog gdS 17 ct17 :=
  fn_okU (ctxOkF gok_nil []) rfl Try.func17 (p := (Ty.pair ty3 (Ty.pair ty3 ty57))) (psh := [none, none, none]) (r := ty4) (rsh := (Rsh.one (none))) (pre := none) (fresh := none) (F := Sp.F17) (L := (lookL [(2, LS17_2)])) (c := bodyOf Try.f17) (dflt := Ty.dflt ty4) rfl (loops_of (l := [bodyAt (bodyOf Try.f17) [0]]) (by kernel_rfl) (loops_cons (s0 := LS17_2) (by kernel_rfl) lo17_2 (loops_nil)))
    (safe_no @sa17) va17
/-! building.loads -/
end Go.Proofs.Ytghlpolodjlgjaa.Sy
namespace Go.Proofs.Ytghlpolodjlgjaa.Sp
open Go Go.RowKit Sy
def F19 (x : Int × Int × Int × Int × Nat × Nat × Nat × List (Int × Int × Int × Int × Int × Int × Int × Int × Int)) : Bool :=
  (((((FloatKind.f64.format.order (0 : Nat) x.2.2.2.2.1) == some Ordering.lt) && ((FloatKind.f64.format.order x.2.2.2.2.1 x.2.2.2.2.2.1) == some Ordering.lt)) && ((FloatKind.f64.format.order x.2.2.2.2.2.1 x.2.2.2.2.2.2.1) == some Ordering.lt)) && ((FloatKind.f64.format.order x.2.2.2.2.2.2.1 (9218868437227405311 : Nat)) == some Ordering.lt || (FloatKind.f64.format.order x.2.2.2.2.2.2.1 (9218868437227405311 : Nat)) == some Ordering.eq))
end Go.Proofs.Ytghlpolodjlgjaa.Sp
namespace Go.Proofs.Ytghlpolodjlgjaa.Sy
def ct19 : Ct := { p := ty26, psh := [some 8], r := ty4, rsh := (Rsh.one (none)), pre := none, fresh := none, F := Sp.F19 }
theorem va19 (x : ty26.den) : ((evFn (ctxG []) Try.f19 ty26 [some 8] (Rsh.one (none)) none ty4 noL x)).val (fun y => y) (Ty.dflt ty4) = Sp.F19 x := by kernel_rfl
theorem se19 (x : ty26.den) : ((evFn (ctxG []) Try.f19 ty26 [some 8] (Rsh.one (none)) none ty4 noL x)).safe = (True) := by kernel_rfl
theorem sa19 (x : ty26.den) (fx : Fit ty26 x) : SafeW ((evFn (ctxG []) Try.f19 ty26 [some 8] (Rsh.one (none)) none ty4 noL x)) := by
  refine ⟨?_⟩
  rw [se19]
  trivial
theorem ok19 : CtOk Try.prog gdS 19 ct19 :=
  fn_okU (ctxOkF gok_nil []) rfl Try.func19 (p := ty26) (psh := [some 8]) (r := ty4) (rsh := (Rsh.one (none))) (pre := none) (fresh := none) (F := Sp.F19) (L := noL) (c := bodyOf Try.f19) (dflt := Ty.dflt ty4) rfl (no_loops)
    (safe_no @sa19) va19
/-! overlayref01.in -/
end Go.Proofs.Ytghlpolodjlgjaa.Sy
namespace Go.Proofs.Ytghlpolodjlgjaa.Sp
open Go Go.RowKit Sy
def F20 (x : Int × Int × Int) : Bool :=
  ((decide (x.1 ≥ x.2.1)) && (decide (x.1 ≤ x.2.2)))
end Go.Proofs.Ytghlpolodjlgjaa.Sp
namespace Go.Proofs.Ytghlpolodjlgjaa.Sy
def ct20 : Ct := { p := (Ty.pair ty3 (Ty.pair ty3 ty3)), psh := [none, none, none], r := ty4, rsh := (Rsh.one (none)), pre := none, fresh := none, F := Sp.F20 }
theorem va20 (x : (Ty.pair ty3 (Ty.pair ty3 ty3)).den) : ((evFn (ctxG []) Try.f20 (Ty.pair ty3 (Ty.pair ty3 ty3)) [none, none, none] (Rsh.one (none)) none ty4 noL x)).val (fun y => y) (Ty.dflt ty4) = Sp.F20 x := by kernel_rfl
theorem se20 (x : (Ty.pair ty3 (Ty.pair ty3 ty3)).den) : ((evFn (ctxG []) Try.f20 (Ty.pair ty3 (Ty.pair ty3 ty3)) [none, none, none] (Rsh.one (none)) none ty4 noL x)).safe = (True) := by kernel_rfl
theorem sa20 (x : (Ty.pair ty3 (Ty.pair ty3 ty3)).den) (fx : Fit (Ty.pair ty3 (Ty.pair ty3 ty3)) x) : SafeW ((evFn (ctxG []) Try.f20 (Ty.pair ty3 (Ty.pair ty3 ty3)) [none, none, none] (Rsh.one (none)) none ty4 noL x)) := by
  refine ⟨?_⟩
  rw [se20]
  trivial
theorem ok20 : CtOk Try.prog gdS 20 ct20 :=
  fn_okU (ctxOkF gok_nil []) rfl Try.func20 (p := (Ty.pair ty3 (Ty.pair ty3 ty3))) (psh := [none, none, none]) (r := ty4) (rsh := (Rsh.one (none))) (pre := none) (fresh := none) (F := Sp.F20) (L := noL) (c := bodyOf Try.f20) (dflt := Ty.dflt ty4) rfl (no_loops)
    (safe_no @sa20) va20
/-! overlaylaw01.Sample -/
end Go.Proofs.Ytghlpolodjlgjaa.Sy
namespace Go.Proofs.Ytghlpolodjlgjaa.Sp
open Go Go.RowKit Sy
def in4_3 (k : (Int × Int)) (x : (Int × Int × Int × Int × Int × Nat × Nat × Nat × List (Int × Int × Int × Int × Int × Int × Int × Int × Int))) : Prop := 0 ≤ x.1 ∧ x.1 ≤ 101 ∧ k.1 ≠ 0 ∧ k.2 ≤ 100 ∧ (x.2.2.2.2.2.2.2.2.length : Int) ≤ x.1
def mu4_3 (k : (Int × Int)) (x : (Int × Int × Int × Int × Int × Nat × Nat × Nat × List (Int × Int × Int × Int × Int × Int × Int × Int × Int))) : Nat := (k.2 - x.1).toNat
def st4_3 (k : (Int × Int)) (x : (Int × Int × Int × Int × Int × Nat × Nat × Nat × List (Int × Int × Int × Int × Int × Int × Int × Int × Int))) : BOut (Int × Int) (Int × Int × Int × Int × Int × Nat × Nat × Nat × List (Int × Int × Int × Int × Int × Int × Int × Int × Int)) (Int × Int × Int × Int × Nat × Nat × Nat × List (Int × Int × Int × Int × Int × Int × Int × Int × Int)) :=
  bif (decide (x.1 < k.2)) then
    BOut.next k ((IntKind.i64.wrap (x.1 + (1 : Int))), x.2.1, x.2.2.1, x.2.2.2.1, x.2.2.2.2.1, x.2.2.2.2.2.1, x.2.2.2.2.2.2.1, x.2.2.2.2.2.2.2.1, (x.2.2.2.2.2.2.2.2 ++ [((100 : Int), (2 : Int), (6 : Int), (5 : Int), (4 : Int), (2 : Int), (3 : Int), (10 : Int), (Int.tmod x.1 k.1))]))
  else
    BOut.brk k x
def G4_3 (k : (Int × Int)) (x : (Int × Int × Int × Int × Int × Nat × Nat × Nat × List (Int × Int × Int × Int × Int × Int × Int × Int × Int))) : (Int × Int × Int × Int × Int × Nat × Nat × Nat × List (Int × Int × Int × Int × Int × Int × Int × Int × Int)) := endOf st4_3 k (Nat.succ (mu4_3 k x)) x
end Go.Proofs.Ytghlpolodjlgjaa.Sp
namespace Go.Proofs.Ytghlpolodjlgjaa.Sy
def LS4_3 : LS ty26.den := mkLS (Ty.pair ty3 ty3) (Ty.pair ty3 ty26)  [(0, none), (1, none)] [] [(6, none)] [(5, 8)] [(8, 100308, true, 30)] [] [(5, 5)] 0 false Sp.in4_3 Sp.st4_3 Sp.mu4_3
theorem va4_3 (k : (Ty.pair ty3 ty3).den) (x : (Ty.pair ty3 ty26).den) : ((evCode (ctxG []) (lookL []) (bodyAt (bodyOf Try.f4) [0]) (tmpl LS4_3 (enc (Ty.pair ty3 ty3) k) (enc (Ty.pair ty3 ty26) x)) (evRound LS4_3 (evRet (ctxG []) Try.f4 (Rsh.one (some 8)) (some 30) ty26 .ret)))).val BOut.ret (BOut.brk (Ty.dflt (Ty.pair ty3 ty3)) (Ty.dflt (Ty.pair ty3 ty26))) = Sp.st4_3 k x := by kernel_rfl
theorem se4_3 (k : (Ty.pair ty3 ty3).den) (x : (Ty.pair ty3 ty26).den) : ((evCode (ctxG []) (lookL []) (bodyAt (bodyOf Try.f4) [0]) (tmpl LS4_3 (enc (Ty.pair ty3 ty3) k) (enc (Ty.pair ty3 ty26) x)) (evRound LS4_3 (evRet (ctxG []) Try.f4 (Rsh.one (some 8)) (some 30) ty26 .ret)))).safe = ((((decide (x.1 < k.2)) = true → ((k.1 ≠ 0) ∧ (((List.length (x.2.2.2.2.2.2.2.2 : List (Int × Int × Int × Int × Int × Int × Int × Int × Int)) + List.length ([((100 : Int), (2 : Int), (6 : Int), (5 : Int), (4 : Int), (2 : Int), (3 : Int), (10 : Int), (Int.tmod x.1 k.1))] : List (Int × Int × Int × Int × Int × Int × Int × Int × Int))) * 72 ≤ 140737488355328 ∧ List.length (x.2.2.2.2.2.2.2.2 : List (Int × Int × Int × Int × Int × Int × Int × Int × Int)) + List.length ([((100 : Int), (2 : Int), (6 : Int), (5 : Int), (4 : Int), (2 : Int), (3 : Int), (10 : Int), (Int.tmod x.1 k.1))] : List (Int × Int × Int × Int × Int × Int × Int × Int × Int)) ≤ 4611686018427387903) ∧ True))) ∧ ((decide (x.1 < k.2)) = false → True))) := by kernel_rfl
set_option maxHeartbeats 4000000 in
theorem sa4_3 (k : (Ty.pair ty3 ty3).den) (x : (Ty.pair ty3 ty26).den) (fk : Fit (Ty.pair ty3 ty3) k) (fx : Fit (Ty.pair ty3 ty26) x) (h : Sp.in4_3 k x) : SafeW ((evCode (ctxG []) (lookL []) (bodyAt (bodyOf Try.f4) [0]) (tmpl LS4_3 (enc (Ty.pair ty3 ty3) k) (enc (Ty.pair ty3 ty26) x)) (evRound LS4_3 (evRet (ctxG []) Try.f4 (Rsh.one (some 8)) (some 30) ty26 .ret)))) := by
  refine ⟨?_⟩
  rw [se4_3]
  try dsimp only [Ty.den] at *
  simp only [Sp.in4_3, Fit, maxLen] at h fk fx
  simp only [IntKind.wrap_i64, IntKind.wrap_u8, IntKind.wrap_u32, IntKind.wrap_u64, Sp.tmod_lit, Sp.tdiv_lit, bne_eq_false_iff_eq, Int.natCast_inj, setE, copyL, sliceL, zrow, List.length_append, List.length_cons, List.length_nil, List.length_set, List.length_replicate, List.length_take, List.length_drop, decide_eq_true_eq, decide_eq_false_iff_not, Bool.or_eq_true, Bool.and_eq_true, Bool.or_eq_false_iff, Bool.and_eq_false_iff, Bool.not_eq_true', Bool.not_eq_false', Bool.not_eq_true, Bool.not_eq_false, beq_iff_eq, beq_eq_false_iff_ne, bne_iff_ne, ne_eq, implies_true, and_true, true_and] at *
  all_goals ((repeat' (first | exact trivial | apply And.intro | intro _)) <;> first | trivial | omega | exact Sp.tmod_nn (by omega) | exact Sp.tmod_lt (by omega) (by omega))
set_option maxHeartbeats 4000000 in
theorem so4_3 (k : (Ty.pair ty3 ty3).den) (x : (Ty.pair ty3 ty26).den) (fk : Fit (Ty.pair ty3 ty3) k) (h : Sp.in4_3 k x) : StepOk false Sp.in4_3 Sp.mu4_3 k x (Sp.st4_3 k x) := by
  try dsimp only [Ty.den] at *
  simp only [Sp.in4_3, Fit, maxLen] at h fk
  unfold Sp.st4_3
  (repeat' (first | exact rfl | (refine StepOk.cnd (fun hc => ?_) (fun hc => ?_) <;> (try simp only [IntKind.wrap_i64, IntKind.wrap_u8, IntKind.wrap_u32, IntKind.wrap_u64, bne_eq_false_iff_eq, Int.natCast_inj, setE, copyL, sliceL, zrow, List.length_append, List.length_cons, List.length_nil, List.length_set, List.length_replicate, List.length_take, List.length_drop, decide_eq_true_eq, decide_eq_false_iff_not, Bool.or_eq_true, Bool.and_eq_true, Bool.or_eq_false_iff, Bool.and_eq_false_iff, Bool.not_eq_true', Bool.not_eq_false', Bool.not_eq_true, Bool.not_eq_false, beq_iff_eq, beq_eq_false_iff_ne, bne_iff_ne, ne_eq] at hc)) | refine StepOk.opt (fun _ => ?_))) <;> (first | exact rfl | (refine ⟨rfl, ?_, ?_⟩ <;> simp only [Sp.in4_3, Sp.mu4_3, IntKind.wrap_i64, IntKind.wrap_u8, IntKind.wrap_u32, IntKind.wrap_u64, Sp.tmod_lit, Sp.tdiv_lit, bne_eq_false_iff_eq, Int.natCast_inj, setE, copyL, sliceL, zrow, List.length_append, List.length_cons, List.length_nil, List.length_set, List.length_replicate, List.length_take, List.length_drop, decide_eq_true_eq, decide_eq_false_iff_not, Bool.or_eq_true, Bool.and_eq_true, Bool.or_eq_false_iff, Bool.and_eq_false_iff, Bool.not_eq_true', Bool.not_eq_false', Bool.not_eq_true, Bool.not_eq_false, beq_iff_eq, beq_eq_false_iff_ne, bne_iff_ne, ne_eq] <;> first | omega | (and_intros <;> first | omega | exact h.1 | exact h.2 | exact h.2.1 | exact h.2.2 | exact h.2.2.1 | exact h.2.2.2 | exact h.2.2.2.1 | exact h.2.2.2.2 | exact h.2.2.2.2.1 | exact h.2.2.2.2.2 | exact h.2.2.2.2.2.1 | exact h.2.2.2.2.2.2)))
theorem lo4_3 : LoopOk Try.prog gdS (RetAt Try.prog Try.f4 (Rsh.one (some 8)) (some 30) ty26) (bodyAt (bodyOf Try.f4) [0]) LS4_3 :=
  loop_run (ctxOkF gok_nil []) (L := lookL []) (loops_of (l := []) (by kernel_rfl) (loops_nil)) sa4_3 va4_3 so4_3
end Go.Proofs.Ytghlpolodjlgjaa.Sy
namespace Go.Proofs.Ytghlpolodjlgjaa.Sp
open Go Go.RowKit Sy
def F4 (x : Int × Int) : Int × Int × Int × Int × Nat × Nat × Nat × List (Int × Int × Int × Int × Int × Int × Int × Int × Int) :=
  (Sp.G4_3 x ((0 : Int), x.1, (1 : Int), (4000 : Int), (30 : Int), (4591870180066957722 : Nat), (4605380978949069210 : Nat), (4607632778762754458 : Nat), [])).2
def pre4 (x : Int × Int) : Prop := 1 ≤ x.1 ∧ x.1 ≤ 100 ∧ x.2 ≤ 100
end Go.Proofs.Ytghlpolodjlgjaa.Sp
namespace Go.Proofs.Ytghlpolodjlgjaa.Sy
def ct4 : Ct := { p := (Ty.pair ty3 ty3), psh := [none, none], r := ty26, rsh := (Rsh.one (some 8)), pre := some Sp.pre4, fresh := (some 30), F := Sp.F4 }
theorem va4 (x : (Ty.pair ty3 ty3).den) : ((evFn (ctxG []) Try.f4 (Ty.pair ty3 ty3) [none, none] (Rsh.one (some 8)) (some 30) ty26 (lookL [(3, LS4_3)]) x)).val (fun y => y) (Ty.dflt ty26) = Sp.F4 x := by kernel_rfl
theorem se4 (x : (Ty.pair ty3 ty3).den) : ((evFn (ctxG []) Try.f4 (Ty.pair ty3 ty3) [none, none] (Rsh.one (some 8)) (some 30) ty26 (lookL [(3, LS4_3)]) x)).safe = (((Sp.in4_3 x ((0 : Int), x.1, (1 : Int), (4000 : Int), (30 : Int), (4591870180066957722 : Nat), (4605380978949069210 : Nat), (4607632778762754458 : Nat), [])) ∧ True)) := by kernel_rfl
theorem sa4 (x : (Ty.pair ty3 ty3).den) (fx : Fit (Ty.pair ty3 ty3) x) (h : Sp.pre4 x) : SafeW ((evFn (ctxG []) Try.f4 (Ty.pair ty3 ty3) [none, none] (Rsh.one (some 8)) (some 30) ty26 (lookL [(3, LS4_3)]) x)) := by
  refine ⟨?_⟩
  rw [se4]
  try dsimp only [Ty.den] at *
  simp only [Fit, maxLen] at fx
  simp only [Sp.in4_3, Sp.pre4, IntKind.wrap_i64, IntKind.wrap_u8, IntKind.wrap_u32, IntKind.wrap_u64, Sp.tmod_lit, Sp.tdiv_lit, bne_eq_false_iff_eq, Int.natCast_inj, setE, copyL, sliceL, zrow, List.length_append, List.length_cons, List.length_nil, List.length_set, List.length_replicate, List.length_take, List.length_drop, decide_eq_true_eq, decide_eq_false_iff_not, Bool.or_eq_true, Bool.and_eq_true, Bool.or_eq_false_iff, Bool.and_eq_false_iff, Bool.not_eq_true', Bool.not_eq_false', Bool.not_eq_true, Bool.not_eq_false, beq_iff_eq, beq_eq_false_iff_ne, bne_iff_ne, ne_eq, implies_true, and_true, true_and] at *
  all_goals ((repeat' (first | exact trivial | apply And.intro | intro _)) <;> first | trivial | omega | exact Sp.tmod_nn (by omega) | exact Sp.tmod_lt (by omega) (by omega))
theorem ok4 : CtOk Try.prog gdS 4 ct4 :=
  fn_okU (ctxOkF gok_nil []) rfl Try.func4 (p := (Ty.pair ty3 ty3)) (psh := [none, none]) (r := ty26) (rsh := (Rsh.one (some 8))) (pre := some Sp.pre4) (fresh := (some 30)) (F := Sp.F4) (L := (lookL [(3, LS4_3)])) (c := bodyOf Try.f4) (dflt := Ty.dflt ty26) rfl (loops_of (l := [bodyAt (bodyOf Try.f4) [0]]) (by kernel_rfl) (loops_cons (s0 := LS4_3) (by kernel_rfl) lo4_3 (loops_nil)))
    (safe_pre @sa4) va4
def GmT0 : List (Nat × Ct) := (17, ct17) :: (19, ct19) :: (20, ct20) :: (4, ct4) :: []
theorem gokGmT0 : GOk GmT0 := gok_cons ok17 ⟨_, Try.func17, by kernel_rfl, by kernel_rfl⟩ (gok_cons ok19 ⟨_, Try.func19, by kernel_rfl, by kernel_rfl⟩ (gok_cons ok20 ⟨_, Try.func20, by kernel_rfl, by kernel_rfl⟩ (gok_cons ok4 ⟨_, Try.func4, by kernel_rfl, by kernel_rfl⟩ (gok_nil))))
end Go.Proofs.Ytghlpolodjlgjaa.Sy
