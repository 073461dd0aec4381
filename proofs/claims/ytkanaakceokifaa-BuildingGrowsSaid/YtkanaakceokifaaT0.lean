/- Contracts of functions, by the evaluator (own program gen.py): building.within, building.loads, overlayref01.in, overlaylaw01.Sample, building.Cycle. -/
import Derived.Test.YtkanaakceokifaaSf
set_option linter.unusedVariables false
set_option linter.unusedSimpArgs false
set_option maxRecDepth 100000
namespace Go.Proofs.Ytkanaakceokifaa.Sy
open Go Go.RowKit Sp
/-! building.within -/
end Go.Proofs.Ytkanaakceokifaa.Sy
namespace Go.Proofs.Ytkanaakceokifaa.Sp
open Go Go.RowKit Sy
def in39_2 (k : (Int × Int × (List Int) × Int)) (x : (Int)) : Prop := (0 : Int) ≤ x ∧ k.2.2.2 = ((k.2.2.1).length : Int)
def mu39_2 (k : (Int × Int × (List Int) × Int)) (x : (Int)) : Nat := (k.2.2.2 - x).toNat
def st39_2 (k : (Int × Int × (List Int) × Int)) (x : (Int)) : BOut (Int × Int × (List Int) × Int) (Int) (Bool) :=
  bif (decide (x < k.2.2.2)) then
    (bif ((decide ((Sp.nthT k.2.2.1 x) < k.1)) || (decide ((Sp.nthT k.2.2.1 x) > k.2.1))) then
      BOut.ret false
    else
      BOut.next k (IntKind.i64.wrap (x + (1 : Int))))
  else
    BOut.brk k x
def G39_2 (k : (Int × Int × (List Int) × Int)) (x : (Int)) : (Int) := endOf st39_2 k (Nat.succ (mu39_2 k x)) x
def R39_2 (k : (Int × Int × (List Int) × Int)) (x : (Int)) : Option (Bool) := retOf st39_2 k (Nat.succ (mu39_2 k x)) x
end Go.Proofs.Ytkanaakceokifaa.Sp
namespace Go.Proofs.Ytkanaakceokifaa.Sy
def LS39_2 : LS ty4.den := mkLS (Ty.pair ty3 (Ty.pair ty3 (Ty.pair ty51 ty3))) ty3  [(0, none), (1, none), (9, none), (10, none)] [] [(11, none)] [] [] [] [] 0 true Sp.in39_2 Sp.st39_2 Sp.mu39_2
theorem va39_2 (k : (Ty.pair ty3 (Ty.pair ty3 (Ty.pair ty51 ty3))).den) (x : ty3.den) : ((evCode (ctxG []) (lookL []) (bodyAt (bodyOf Try.f39) [0]) (tmpl LS39_2 (enc (Ty.pair ty3 (Ty.pair ty3 (Ty.pair ty51 ty3))) k) (enc ty3 x)) (evRound LS39_2 (evRet (ctxG []) Try.f39 (Rsh.one (none)) none ty4 .ret)))).val BOut.ret (BOut.brk (Ty.dflt (Ty.pair ty3 (Ty.pair ty3 (Ty.pair ty51 ty3)))) (Ty.dflt ty3)) = Sp.st39_2 k x := by kernel_rfl
theorem se39_2 (k : (Ty.pair ty3 (Ty.pair ty3 (Ty.pair ty51 ty3))).den) (x : ty3.den) : ((evCode (ctxG []) (lookL []) (bodyAt (bodyOf Try.f39) [0]) (tmpl LS39_2 (enc (Ty.pair ty3 (Ty.pair ty3 (Ty.pair ty51 ty3))) k) (enc ty3 x)) (evRound LS39_2 (evRet (ctxG []) Try.f39 (Rsh.one (none)) none ty4 .ret)))).safe = ((((decide (x < k.2.2.2)) = true → ((0 ≤ x ∧ x < ((k.2.2.1).length : Int)) ∧ ((((decide ((Sp.nthT k.2.2.1 x) < k.1)) || (decide ((Sp.nthT k.2.2.1 x) > k.2.1))) = true → True) ∧ (((decide ((Sp.nthT k.2.2.1 x) < k.1)) || (decide ((Sp.nthT k.2.2.1 x) > k.2.1))) = false → True)))) ∧ ((decide (x < k.2.2.2)) = false → True))) := by kernel_rfl
theorem sa39_2 (k : (Ty.pair ty3 (Ty.pair ty3 (Ty.pair ty51 ty3))).den) (x : ty3.den) (fk : Fit (Ty.pair ty3 (Ty.pair ty3 (Ty.pair ty51 ty3))) k) (fx : Fit ty3 x) (h : Sp.in39_2 k x) : SafeW ((evCode (ctxG []) (lookL []) (bodyAt (bodyOf Try.f39) [0]) (tmpl LS39_2 (enc (Ty.pair ty3 (Ty.pair ty3 (Ty.pair ty51 ty3))) k) (enc ty3 x)) (evRound LS39_2 (evRet (ctxG []) Try.f39 (Rsh.one (none)) none ty4 .ret)))) := by
  refine ⟨?_⟩
  rw [se39_2]
  try dsimp only [Ty.den] at *
  simp only [Sp.in39_2, Fit, maxLen] at h fk fx
  simp only [IntKind.wrap_i64, IntKind.wrap_u8, IntKind.wrap_u32, IntKind.wrap_u64, Sp.tmod_ite, Sp.tdiv_ite, setE, copyL, sliceL, zrow, List.length_append, List.length_cons, List.length_nil, List.length_set, List.length_replicate, List.length_take, List.length_drop, decide_eq_true_eq, decide_eq_false_iff_not, Bool.or_eq_true, Bool.and_eq_true, Bool.or_eq_false_iff, Bool.and_eq_false_iff, Bool.not_eq_true', Bool.not_eq_false', Bool.not_eq_true, Bool.not_eq_false, beq_iff_eq, beq_eq_false_iff_ne, bne_iff_ne, ne_eq, implies_true, and_true, true_and] at *
  all_goals ((repeat' (first | exact trivial | apply And.intro | intro _)) <;> first | trivial | omega)
theorem so39_2 (k : (Ty.pair ty3 (Ty.pair ty3 (Ty.pair ty51 ty3))).den) (x : ty3.den) (fk : Fit (Ty.pair ty3 (Ty.pair ty3 (Ty.pair ty51 ty3))) k) (h : Sp.in39_2 k x) : StepOk true Sp.in39_2 Sp.mu39_2 k x (Sp.st39_2 k x) := by
  try dsimp only [Ty.den] at *
  simp only [Sp.in39_2, Fit, maxLen] at h fk
  simp only [Sp.st39_2, Sp.optR, Bool.cond_eq_ite]
  (repeat' split) <;> (first | exact rfl | (refine ⟨rfl, ?_, ?_⟩ <;> simp only [Sp.in39_2, Sp.mu39_2, IntKind.wrap_i64, IntKind.wrap_u8, IntKind.wrap_u32, IntKind.wrap_u64, Sp.tmod_ite, Sp.tdiv_ite, setE, copyL, sliceL, zrow, List.length_append, List.length_cons, List.length_nil, List.length_set, List.length_replicate, List.length_take, List.length_drop, decide_eq_true_eq, decide_eq_false_iff_not, Bool.or_eq_true, Bool.and_eq_true, Bool.or_eq_false_iff, Bool.and_eq_false_iff, Bool.not_eq_true', Bool.not_eq_false', Bool.not_eq_true, Bool.not_eq_false, beq_iff_eq, beq_eq_false_iff_ne, bne_iff_ne, ne_eq] at * <;> omega))
theorem lo39_2 : LoopOk Try.prog gdS (RetAt Try.prog Try.f39 (Rsh.one (none)) none ty4) (bodyAt (bodyOf Try.f39) [0]) LS39_2 :=
  loop_run (ctxOkF gok_nil []) (L := lookL []) (loops_of (l := []) (by kernel_rfl) (loops_nil)) sa39_2 va39_2 so39_2
end Go.Proofs.Ytkanaakceokifaa.Sy
namespace Go.Proofs.Ytkanaakceokifaa.Sp
open Go Go.RowKit Sy
def F39 (x : Int × Int × List Int) : Bool :=
  Sp.optR (Sp.R39_2 (x.1, x.2.1, x.2.2, ((x.2.2).length : Int)) (0 : Int)) (fun y => y)
  (true)
end Go.Proofs.Ytkanaakceokifaa.Sp
namespace Go.Proofs.Ytkanaakceokifaa.Sy
def ct39 : Ct := { p := (Ty.pair ty3 (Ty.pair ty3 ty51)), psh := [none, none, none], r := ty4, rsh := (Rsh.one (none)), pre := none, fresh := none, F := Sp.F39 }
theorem va39 (x : (Ty.pair ty3 (Ty.pair ty3 ty51)).den) : ((evFn (ctxG []) Try.f39 (Ty.pair ty3 (Ty.pair ty3 ty51)) [none, none, none] (Rsh.one (none)) none ty4 (lookL [(2, LS39_2)]) x)).val (fun y => y) (Ty.dflt ty4) = Sp.F39 x := by kernel_rfl
theorem se39 (x : (Ty.pair ty3 (Ty.pair ty3 ty51)).den) : ((evFn (ctxG []) Try.f39 (Ty.pair ty3 (Ty.pair ty3 ty51)) [none, none, none] (Rsh.one (none)) none ty4 (lookL [(2, LS39_2)]) x)).safe = (((Sp.in39_2 (x.1, x.2.1, x.2.2, ((x.2.2).length : Int)) (0 : Int)) ∧ ((Sp.R39_2 (x.1, x.2.1, x.2.2, ((x.2.2).length : Int)) (0 : Int)) = none → True))) := by kernel_rfl
theorem sa39 (x : (Ty.pair ty3 (Ty.pair ty3 ty51)).den) (fx : Fit (Ty.pair ty3 (Ty.pair ty3 ty51)) x) : SafeW ((evFn (ctxG []) Try.f39 (Ty.pair ty3 (Ty.pair ty3 ty51)) [none, none, none] (Rsh.one (none)) none ty4 (lookL [(2, LS39_2)]) x)) := by
  refine ⟨?_⟩
  rw [se39]
  try dsimp only [Ty.den] at *
  simp only [Fit, maxLen] at fx
  simp only [Sp.in39_2, IntKind.wrap_i64, IntKind.wrap_u8, IntKind.wrap_u32, IntKind.wrap_u64, Sp.tmod_ite, Sp.tdiv_ite, setE, copyL, sliceL, zrow, List.length_append, List.length_cons, List.length_nil, List.length_set, List.length_replicate, List.length_take, List.length_drop, decide_eq_true_eq, decide_eq_false_iff_not, Bool.or_eq_true, Bool.and_eq_true, Bool.or_eq_false_iff, Bool.and_eq_false_iff, Bool.not_eq_true', Bool.not_eq_false', Bool.not_eq_true, Bool.not_eq_false, beq_iff_eq, beq_eq_false_iff_ne, bne_iff_ne, ne_eq, implies_true, and_true, true_and] at *
  all_goals ((repeat' (first | exact trivial | apply And.intro | intro _)) <;> first | trivial | omega)
theorem ok39 : CtOk Try.prog gdS 39 ct39 :=
  fn_okU (ctxOkF gok_nil []) rfl Try.func39 (p := (Ty.pair ty3 (Ty.pair ty3 ty51))) (psh := [none, none, none]) (r := ty4) (rsh := (Rsh.one (none))) (pre := none) (fresh := none) (F := Sp.F39) (L := (lookL [(2, LS39_2)])) (c := bodyOf Try.f39) (dflt := Ty.dflt ty4) rfl (loops_of (l := [bodyAt (bodyOf Try.f39) [0]]) (by kernel_rfl) (loops_cons (s0 := LS39_2) (by kernel_rfl) lo39_2 (loops_nil)))
    (safe_no @sa39) va39
/-! building.loads -/
end Go.Proofs.Ytkanaakceokifaa.Sy
namespace Go.Proofs.Ytkanaakceokifaa.Sp
open Go Go.RowKit Sy
def F41 (x : Int × Int × Int × Int × Nat × Nat × Nat × List (Int × Int × Int × Int × Int × Int × Int × Int × Int)) : Bool :=
  (((((FloatKind.f64.format.order (0 : Nat) x.2.2.2.2.1) == some Ordering.lt) && ((FloatKind.f64.format.order x.2.2.2.2.1 x.2.2.2.2.2.1) == some Ordering.lt)) && ((FloatKind.f64.format.order x.2.2.2.2.2.1 x.2.2.2.2.2.2.1) == some Ordering.lt)) && ((FloatKind.f64.format.order x.2.2.2.2.2.2.1 (9218868437227405311 : Nat)) == some Ordering.lt || (FloatKind.f64.format.order x.2.2.2.2.2.2.1 (9218868437227405311 : Nat)) == some Ordering.eq))
end Go.Proofs.Ytkanaakceokifaa.Sp
namespace Go.Proofs.Ytkanaakceokifaa.Sy
def ct41 : Ct := { p := ty25, psh := [some 8], r := ty4, rsh := (Rsh.one (none)), pre := none, fresh := none, F := Sp.F41 }
theorem va41 (x : ty25.den) : ((evFn (ctxG []) Try.f41 ty25 [some 8] (Rsh.one (none)) none ty4 noL x)).val (fun y => y) (Ty.dflt ty4) = Sp.F41 x := by kernel_rfl
theorem se41 (x : ty25.den) : ((evFn (ctxG []) Try.f41 ty25 [some 8] (Rsh.one (none)) none ty4 noL x)).safe = (True) := by kernel_rfl
theorem sa41 (x : ty25.den) (fx : Fit ty25 x) : SafeW ((evFn (ctxG []) Try.f41 ty25 [some 8] (Rsh.one (none)) none ty4 noL x)) := by
  refine ⟨?_⟩
  rw [se41]
  trivial
theorem ok41 : CtOk Try.prog gdS 41 ct41 :=
  fn_okU (ctxOkF gok_nil []) rfl Try.func41 (p := ty25) (psh := [some 8]) (r := ty4) (rsh := (Rsh.one (none))) (pre := none) (fresh := none) (F := Sp.F41) (L := noL) (c := bodyOf Try.f41) (dflt := Ty.dflt ty4) rfl (no_loops)
    (safe_no @sa41) va41
/-! overlayref01.in -/
end Go.Proofs.Ytkanaakceokifaa.Sy
namespace Go.Proofs.Ytkanaakceokifaa.Sp
open Go Go.RowKit Sy
def F42 (x : Int × Int × Int) : Bool :=
  ((decide (x.1 ≥ x.2.1)) && (decide (x.1 ≤ x.2.2)))
end Go.Proofs.Ytkanaakceokifaa.Sp
namespace Go.Proofs.Ytkanaakceokifaa.Sy
def ct42 : Ct := { p := (Ty.pair ty3 (Ty.pair ty3 ty3)), psh := [none, none, none], r := ty4, rsh := (Rsh.one (none)), pre := none, fresh := none, F := Sp.F42 }
theorem va42 (x : (Ty.pair ty3 (Ty.pair ty3 ty3)).den) : ((evFn (ctxG []) Try.f42 (Ty.pair ty3 (Ty.pair ty3 ty3)) [none, none, none] (Rsh.one (none)) none ty4 noL x)).val (fun y => y) (Ty.dflt ty4) = Sp.F42 x := by kernel_rfl
theorem se42 (x : (Ty.pair ty3 (Ty.pair ty3 ty3)).den) : ((evFn (ctxG []) Try.f42 (Ty.pair ty3 (Ty.pair ty3 ty3)) [none, none, none] (Rsh.one (none)) none ty4 noL x)).safe = (True) := by kernel_rfl
theorem sa42 (x : (Ty.pair ty3 (Ty.pair ty3 ty3)).den) (fx : Fit (Ty.pair ty3 (Ty.pair ty3 ty3)) x) : SafeW ((evFn (ctxG []) Try.f42 (Ty.pair ty3 (Ty.pair ty3 ty3)) [none, none, none] (Rsh.one (none)) none ty4 noL x)) := by
  refine ⟨?_⟩
  rw [se42]
  trivial
theorem ok42 : CtOk Try.prog gdS 42 ct42 :=
  fn_okU (ctxOkF gok_nil []) rfl Try.func42 (p := (Ty.pair ty3 (Ty.pair ty3 ty3))) (psh := [none, none, none]) (r := ty4) (rsh := (Rsh.one (none))) (pre := none) (fresh := none) (F := Sp.F42) (L := noL) (c := bodyOf Try.f42) (dflt := Ty.dflt ty4) rfl (no_loops)
    (safe_no @sa42) va42
/-! overlaylaw01.Sample -/
end Go.Proofs.Ytkanaakceokifaa.Sy
namespace Go.Proofs.Ytkanaakceokifaa.Sp
open Go Go.RowKit Sy
def in22_3 (k : (Int × Int)) (x : (Int × Int × Int × Int × Int × Nat × Nat × Nat × List (Int × Int × Int × Int × Int × Int × Int × Int × Int))) : Prop := 0 ≤ x.1 ∧ x.1 ≤ 101 ∧ k.1 ≠ 0 ∧ k.2 ≤ 100 ∧ (x.2.2.2.2.2.2.2.2.length : Int) ≤ x.1
def mu22_3 (k : (Int × Int)) (x : (Int × Int × Int × Int × Int × Nat × Nat × Nat × List (Int × Int × Int × Int × Int × Int × Int × Int × Int))) : Nat := (k.2 - x.1).toNat
def st22_3 (k : (Int × Int)) (x : (Int × Int × Int × Int × Int × Nat × Nat × Nat × List (Int × Int × Int × Int × Int × Int × Int × Int × Int))) : BOut (Int × Int) (Int × Int × Int × Int × Int × Nat × Nat × Nat × List (Int × Int × Int × Int × Int × Int × Int × Int × Int)) (Int × Int × Int × Int × Nat × Nat × Nat × List (Int × Int × Int × Int × Int × Int × Int × Int × Int)) :=
  bif (decide (x.1 < k.2)) then
    BOut.next k ((IntKind.i64.wrap (x.1 + (1 : Int))), x.2.1, x.2.2.1, x.2.2.2.1, x.2.2.2.2.1, x.2.2.2.2.2.1, x.2.2.2.2.2.2.1, x.2.2.2.2.2.2.2.1, (x.2.2.2.2.2.2.2.2 ++ [((100 : Int), (2 : Int), (6 : Int), (5 : Int), (4 : Int), (2 : Int), (3 : Int), (10 : Int), (Int.tmod x.1 k.1))]))
  else
    BOut.brk k x
def G22_3 (k : (Int × Int)) (x : (Int × Int × Int × Int × Int × Nat × Nat × Nat × List (Int × Int × Int × Int × Int × Int × Int × Int × Int))) : (Int × Int × Int × Int × Int × Nat × Nat × Nat × List (Int × Int × Int × Int × Int × Int × Int × Int × Int)) := endOf st22_3 k (Nat.succ (mu22_3 k x)) x
end Go.Proofs.Ytkanaakceokifaa.Sp
namespace Go.Proofs.Ytkanaakceokifaa.Sy
def LS22_3 : LS ty25.den := mkLS (Ty.pair ty3 ty3) (Ty.pair ty3 ty25)  [(0, none), (1, none)] [] [(6, none)] [(5, 8)] [(8, 100308, true, 33)] [] [(5, 5)] 0 false Sp.in22_3 Sp.st22_3 Sp.mu22_3
theorem va22_3 (k : (Ty.pair ty3 ty3).den) (x : (Ty.pair ty3 ty25).den) : ((evCode (ctxG []) (lookL []) (bodyAt (bodyOf Try.f22) [0]) (tmpl LS22_3 (enc (Ty.pair ty3 ty3) k) (enc (Ty.pair ty3 ty25) x)) (evRound LS22_3 (evRet (ctxG []) Try.f22 (Rsh.one (some 8)) (some 33) ty25 .ret)))).val BOut.ret (BOut.brk (Ty.dflt (Ty.pair ty3 ty3)) (Ty.dflt (Ty.pair ty3 ty25))) = Sp.st22_3 k x := by kernel_rfl
theorem se22_3 (k : (Ty.pair ty3 ty3).den) (x : (Ty.pair ty3 ty25).den) : ((evCode (ctxG []) (lookL []) (bodyAt (bodyOf Try.f22) [0]) (tmpl LS22_3 (enc (Ty.pair ty3 ty3) k) (enc (Ty.pair ty3 ty25) x)) (evRound LS22_3 (evRet (ctxG []) Try.f22 (Rsh.one (some 8)) (some 33) ty25 .ret)))).safe = ((((decide (x.1 < k.2)) = true → ((k.1 ≠ 0) ∧ (((List.length (x.2.2.2.2.2.2.2.2 : List (Int × Int × Int × Int × Int × Int × Int × Int × Int)) + List.length ([((100 : Int), (2 : Int), (6 : Int), (5 : Int), (4 : Int), (2 : Int), (3 : Int), (10 : Int), (Int.tmod x.1 k.1))] : List (Int × Int × Int × Int × Int × Int × Int × Int × Int))) * 72 ≤ 140737488355328 ∧ List.length (x.2.2.2.2.2.2.2.2 : List (Int × Int × Int × Int × Int × Int × Int × Int × Int)) + List.length ([((100 : Int), (2 : Int), (6 : Int), (5 : Int), (4 : Int), (2 : Int), (3 : Int), (10 : Int), (Int.tmod x.1 k.1))] : List (Int × Int × Int × Int × Int × Int × Int × Int × Int)) ≤ 4611686018427387903) ∧ True))) ∧ ((decide (x.1 < k.2)) = false → True))) := by kernel_rfl
theorem sa22_3 (k : (Ty.pair ty3 ty3).den) (x : (Ty.pair ty3 ty25).den) (fk : Fit (Ty.pair ty3 ty3) k) (fx : Fit (Ty.pair ty3 ty25) x) (h : Sp.in22_3 k x) : SafeW ((evCode (ctxG []) (lookL []) (bodyAt (bodyOf Try.f22) [0]) (tmpl LS22_3 (enc (Ty.pair ty3 ty3) k) (enc (Ty.pair ty3 ty25) x)) (evRound LS22_3 (evRet (ctxG []) Try.f22 (Rsh.one (some 8)) (some 33) ty25 .ret)))) := by
  refine ⟨?_⟩
  rw [se22_3]
  try dsimp only [Ty.den] at *
  simp only [Sp.in22_3, Fit, maxLen] at h fk fx
  simp only [IntKind.wrap_i64, IntKind.wrap_u8, IntKind.wrap_u32, IntKind.wrap_u64, Sp.tmod_ite, Sp.tdiv_ite, setE, copyL, sliceL, zrow, List.length_append, List.length_cons, List.length_nil, List.length_set, List.length_replicate, List.length_take, List.length_drop, decide_eq_true_eq, decide_eq_false_iff_not, Bool.or_eq_true, Bool.and_eq_true, Bool.or_eq_false_iff, Bool.and_eq_false_iff, Bool.not_eq_true', Bool.not_eq_false', Bool.not_eq_true, Bool.not_eq_false, beq_iff_eq, beq_eq_false_iff_ne, bne_iff_ne, ne_eq, implies_true, and_true, true_and] at *
  all_goals ((repeat' (first | exact trivial | apply And.intro | intro _)) <;> first | trivial | omega)
theorem so22_3 (k : (Ty.pair ty3 ty3).den) (x : (Ty.pair ty3 ty25).den) (fk : Fit (Ty.pair ty3 ty3) k) (h : Sp.in22_3 k x) : StepOk false Sp.in22_3 Sp.mu22_3 k x (Sp.st22_3 k x) := by
  try dsimp only [Ty.den] at *
  simp only [Sp.in22_3, Fit, maxLen] at h fk
  simp only [Sp.st22_3, Sp.optR, Bool.cond_eq_ite]
  (repeat' split) <;> (first | exact rfl | (refine ⟨rfl, ?_, ?_⟩ <;> simp only [Sp.in22_3, Sp.mu22_3, IntKind.wrap_i64, IntKind.wrap_u8, IntKind.wrap_u32, IntKind.wrap_u64, Sp.tmod_ite, Sp.tdiv_ite, setE, copyL, sliceL, zrow, List.length_append, List.length_cons, List.length_nil, List.length_set, List.length_replicate, List.length_take, List.length_drop, decide_eq_true_eq, decide_eq_false_iff_not, Bool.or_eq_true, Bool.and_eq_true, Bool.or_eq_false_iff, Bool.and_eq_false_iff, Bool.not_eq_true', Bool.not_eq_false', Bool.not_eq_true, Bool.not_eq_false, beq_iff_eq, beq_eq_false_iff_ne, bne_iff_ne, ne_eq] at * <;> omega))
theorem lo22_3 : LoopOk Try.prog gdS (RetAt Try.prog Try.f22 (Rsh.one (some 8)) (some 33) ty25) (bodyAt (bodyOf Try.f22) [0]) LS22_3 :=
  loop_run (ctxOkF gok_nil []) (L := lookL []) (loops_of (l := []) (by kernel_rfl) (loops_nil)) sa22_3 va22_3 so22_3
end Go.Proofs.Ytkanaakceokifaa.Sy
namespace Go.Proofs.Ytkanaakceokifaa.Sp
open Go Go.RowKit Sy
def F22 (x : Int × Int) : Int × Int × Int × Int × Nat × Nat × Nat × List (Int × Int × Int × Int × Int × Int × Int × Int × Int) :=
  (Sp.G22_3 x ((0 : Int), x.1, (1 : Int), (4000 : Int), (30 : Int), (4591870180066957722 : Nat), (4605380978949069210 : Nat), (4607632778762754458 : Nat), [])).2
def pre22 (x : Int × Int) : Prop := 1 ≤ x.1 ∧ x.1 ≤ 100 ∧ x.2 ≤ 100
end Go.Proofs.Ytkanaakceokifaa.Sp
namespace Go.Proofs.Ytkanaakceokifaa.Sy
def ct22 : Ct := { p := (Ty.pair ty3 ty3), psh := [none, none], r := ty25, rsh := (Rsh.one (some 8)), pre := some Sp.pre22, fresh := (some 33), F := Sp.F22 }
theorem va22 (x : (Ty.pair ty3 ty3).den) : ((evFn (ctxG []) Try.f22 (Ty.pair ty3 ty3) [none, none] (Rsh.one (some 8)) (some 33) ty25 (lookL [(3, LS22_3)]) x)).val (fun y => y) (Ty.dflt ty25) = Sp.F22 x := by kernel_rfl
theorem se22 (x : (Ty.pair ty3 ty3).den) : ((evFn (ctxG []) Try.f22 (Ty.pair ty3 ty3) [none, none] (Rsh.one (some 8)) (some 33) ty25 (lookL [(3, LS22_3)]) x)).safe = (((Sp.in22_3 x ((0 : Int), x.1, (1 : Int), (4000 : Int), (30 : Int), (4591870180066957722 : Nat), (4605380978949069210 : Nat), (4607632778762754458 : Nat), [])) ∧ True)) := by kernel_rfl
theorem sa22 (x : (Ty.pair ty3 ty3).den) (fx : Fit (Ty.pair ty3 ty3) x) (h : Sp.pre22 x) : SafeW ((evFn (ctxG []) Try.f22 (Ty.pair ty3 ty3) [none, none] (Rsh.one (some 8)) (some 33) ty25 (lookL [(3, LS22_3)]) x)) := by
  refine ⟨?_⟩
  rw [se22]
  try dsimp only [Ty.den] at *
  simp only [Fit, maxLen] at fx
  simp only [Sp.in22_3, Sp.pre22, IntKind.wrap_i64, IntKind.wrap_u8, IntKind.wrap_u32, IntKind.wrap_u64, Sp.tmod_ite, Sp.tdiv_ite, setE, copyL, sliceL, zrow, List.length_append, List.length_cons, List.length_nil, List.length_set, List.length_replicate, List.length_take, List.length_drop, decide_eq_true_eq, decide_eq_false_iff_not, Bool.or_eq_true, Bool.and_eq_true, Bool.or_eq_false_iff, Bool.and_eq_false_iff, Bool.not_eq_true', Bool.not_eq_false', Bool.not_eq_true, Bool.not_eq_false, beq_iff_eq, beq_eq_false_iff_ne, bne_iff_ne, ne_eq, implies_true, and_true, true_and] at *
  all_goals ((repeat' (first | exact trivial | apply And.intro | intro _)) <;> first | trivial | omega)
theorem ok22 : CtOk Try.prog gdS 22 ct22 :=
  fn_okU (ctxOkF gok_nil []) rfl Try.func22 (p := (Ty.pair ty3 ty3)) (psh := [none, none]) (r := ty25) (rsh := (Rsh.one (some 8))) (pre := some Sp.pre22) (fresh := (some 33)) (F := Sp.F22) (L := (lookL [(3, LS22_3)])) (c := bodyOf Try.f22) (dflt := Ty.dflt ty25) rfl (loops_of (l := [bodyAt (bodyOf Try.f22) [0]]) (by kernel_rfl) (loops_cons (s0 := LS22_3) (by kernel_rfl) lo22_3 (loops_nil)))
    (safe_pre @sa22) va22
/-! building.Cycle -/
end Go.Proofs.Ytkanaakceokifaa.Sy
namespace Go.Proofs.Ytkanaakceokifaa.Sp
open Go Go.RowKit Sy
def F18 (x : Int × Int × Int × Int × Int × Int × Int × Int × Int) : Int :=
  (IntKind.i64.wrap ((IntKind.i64.wrap ((IntKind.i64.wrap ((2 : Int) * x.2.2.2.2.2.1)) + x.2.2.2.2.2.2.2.1)) + (3 : Int)))
end Go.Proofs.Ytkanaakceokifaa.Sp
namespace Go.Proofs.Ytkanaakceokifaa.Sy
def ct18 : Ct := { p := ty33, psh := [some 9], r := ty3, rsh := (Rsh.one (none)), pre := none, fresh := none, F := Sp.F18 }
theorem va18 (x : ty33.den) : ((evFn (ctxG []) Try.f18 ty33 [some 9] (Rsh.one (none)) none ty3 noL x)).val (fun y => y) (Ty.dflt ty3) = Sp.F18 x := by kernel_rfl
theorem se18 (x : ty33.den) : ((evFn (ctxG []) Try.f18 ty33 [some 9] (Rsh.one (none)) none ty3 noL x)).safe = (True) := by kernel_rfl
theorem sa18 (x : ty33.den) (fx : Fit ty33 x) : SafeW ((evFn (ctxG []) Try.f18 ty33 [some 9] (Rsh.one (none)) none ty3 noL x)) := by
  refine ⟨?_⟩
  rw [se18]
  trivial
theorem ok18 : CtOk Try.prog gdS 18 ct18 :=
  fn_okU (ctxOkF gok_nil []) rfl Try.func18 (p := ty33) (psh := [some 9]) (r := ty3) (rsh := (Rsh.one (none))) (pre := none) (fresh := none) (F := Sp.F18) (L := noL) (c := bodyOf Try.f18) (dflt := Ty.dflt ty3) rfl (no_loops)
    (safe_no @sa18) va18
def GmT0 : List (Nat × Ct) := (39, ct39) :: (41, ct41) :: (42, ct42) :: (22, ct22) :: (18, ct18) :: []
theorem gokGmT0 : GOk GmT0 := gok_cons ok39 ⟨_, Try.func39, by kernel_rfl, by kernel_rfl⟩ (gok_cons ok41 ⟨_, Try.func41, by kernel_rfl, by kernel_rfl⟩ (gok_cons ok42 ⟨_, Try.func42, by kernel_rfl, by kernel_rfl⟩ (gok_cons ok22 ⟨_, Try.func22, by kernel_rfl, by kernel_rfl⟩ (gok_cons ok18 ⟨_, Try.func18, by kernel_rfl, by kernel_rfl⟩ (gok_nil)))))
end Go.Proofs.Ytkanaakceokifaa.Sy
