/- Contracts of functions, by the evaluator (own program gen.py): building.within, building.loads, overlayref01.in, overlaylaw01.Sample. -/
import Derived.Test.YtkfhampdellhoaaSf
set_option linter.unusedVariables false
set_option linter.unusedSimpArgs false
set_option maxRecDepth 100000
namespace Go.Proofs.Ytkfhampdellhoaa.Sy
open Go Go.RowKit Sp
/-! building.within -/
end Go.Proofs.Ytkfhampdellhoaa.Sy
namespace Go.Proofs.Ytkfhampdellhoaa.Sp
open Go Go.RowKit Sy
def in33_2 (k : (Int × Int × (List Int) × Int)) (x : (Int)) : Prop := (0 : Int) ≤ x ∧ k.2.2.2 = ((k.2.2.1).length : Int)
def mu33_2 (k : (Int × Int × (List Int) × Int)) (x : (Int)) : Nat := (k.2.2.2 - x).toNat
def st33_2 (k : (Int × Int × (List Int) × Int)) (x : (Int)) : BOut (Int × Int × (List Int) × Int) (Int) (Bool) :=
  bif (decide (x < k.2.2.2)) then
    (bif ((decide ((Sp.nthT k.2.2.1 x) < k.1)) || (decide ((Sp.nthT k.2.2.1 x) > k.2.1))) then
      BOut.ret false
    else
      BOut.next k (IntKind.i64.wrap (x + (1 : Int))))
  else
    BOut.brk k x
def G33_2 (k : (Int × Int × (List Int) × Int)) (x : (Int)) : (Int) := endOf st33_2 k (Nat.succ (mu33_2 k x)) x
def R33_2 (k : (Int × Int × (List Int) × Int)) (x : (Int)) : Option (Bool) := retOf st33_2 k (Nat.succ (mu33_2 k x)) x
end Go.Proofs.Ytkfhampdellhoaa.Sp
namespace Go.Proofs.Ytkfhampdellhoaa.Sy
def LS33_2 : LS ty4.den := mkLS (Ty.pair ty3 (Ty.pair ty3 (Ty.pair ty49 ty3))) ty3  [(0, none), (1, none), (9, none), (10, none)] [] [(11, none)] [] [] [] [] 0 true Sp.in33_2 Sp.st33_2 Sp.mu33_2
theorem va33_2 (k : (Ty.pair ty3 (Ty.pair ty3 (Ty.pair ty49 ty3))).den) (x : ty3.den) : ((evCode (ctxG []) (lookL []) (bodyAt (bodyOf Try.f33) [0]) (tmpl LS33_2 (enc (Ty.pair ty3 (Ty.pair ty3 (Ty.pair ty49 ty3))) k) (enc ty3 x)) (evRound LS33_2 (evRet (ctxG []) Try.f33 (Rsh.one (none)) none ty4 .ret)))).val BOut.ret (BOut.brk (Ty.dflt (Ty.pair ty3 (Ty.pair ty3 (Ty.pair ty49 ty3)))) (Ty.dflt ty3)) = Sp.st33_2 k x := by kernel_rfl
theorem se33_2 (k : (Ty.pair ty3 (Ty.pair ty3 (Ty.pair ty49 ty3))).den) (x : ty3.den) : ((evCode (ctxG []) (lookL []) (bodyAt (bodyOf Try.f33) [0]) (tmpl LS33_2 (enc (Ty.pair ty3 (Ty.pair ty3 (Ty.pair ty49 ty3))) k) (enc ty3 x)) (evRound LS33_2 (evRet (ctxG []) Try.f33 (Rsh.one (none)) none ty4 .ret)))).safe = ((((decide (x < k.2.2.2)) = true → ((0 ≤ x ∧ x < ((k.2.2.1).length : Int)) ∧ ((((decide ((Sp.nthT k.2.2.1 x) < k.1)) || (decide ((Sp.nthT k.2.2.1 x) > k.2.1))) = true → True) ∧ (((decide ((Sp.nthT k.2.2.1 x) < k.1)) || (decide ((Sp.nthT k.2.2.1 x) > k.2.1))) = false → True)))) ∧ ((decide (x < k.2.2.2)) = false → True))) := by kernel_rfl
theorem sa33_2 (k : (Ty.pair ty3 (Ty.pair ty3 (Ty.pair ty49 ty3))).den) (x : ty3.den) (fk : Fit (Ty.pair ty3 (Ty.pair ty3 (Ty.pair ty49 ty3))) k) (fx : Fit ty3 x) (h : Sp.in33_2 k x) : SafeW ((evCode (ctxG []) (lookL []) (bodyAt (bodyOf Try.f33) [0]) (tmpl LS33_2 (enc (Ty.pair ty3 (Ty.pair ty3 (Ty.pair ty49 ty3))) k) (enc ty3 x)) (evRound LS33_2 (evRet (ctxG []) Try.f33 (Rsh.one (none)) none ty4 .ret)))) := by
  refine ⟨?_⟩
  rw [se33_2]
  try dsimp only [Ty.den] at *
  simp only [Sp.in33_2, Fit, maxLen] at h fk fx
  simp only [IntKind.wrap_i64, IntKind.wrap_u8, IntKind.wrap_u32, IntKind.wrap_u64, Sp.tmod_ite, Sp.tdiv_ite, setE, copyL, sliceL, zrow, List.length_append, List.length_cons, List.length_nil, List.length_set, List.length_replicate, List.length_take, List.length_drop, decide_eq_true_eq, decide_eq_false_iff_not, Bool.or_eq_true, Bool.and_eq_true, Bool.or_eq_false_iff, Bool.and_eq_false_iff, Bool.not_eq_true', Bool.not_eq_false', Bool.not_eq_true, Bool.not_eq_false, beq_iff_eq, beq_eq_false_iff_ne, bne_iff_ne, ne_eq, implies_true, and_true, true_and] at *
  all_goals ((repeat' (first | exact trivial | apply And.intro | intro _)) <;> first | trivial | omega)
theorem so33_2 (k : (Ty.pair ty3 (Ty.pair ty3 (Ty.pair ty49 ty3))).den) (x : ty3.den) (fk : Fit (Ty.pair ty3 (Ty.pair ty3 (Ty.pair ty49 ty3))) k) (h : Sp.in33_2 k x) : StepOk true Sp.in33_2 Sp.mu33_2 k x (Sp.st33_2 k x) := by
  try dsimp only [Ty.den] at *
  simp only [Sp.in33_2, Fit, maxLen] at h fk
  simp only [Sp.st33_2, Sp.optR, Bool.cond_eq_ite]
  (repeat' split) <;> (first | exact rfl | (refine ⟨rfl, ?_, ?_⟩ <;> simp only [Sp.in33_2, Sp.mu33_2, IntKind.wrap_i64, IntKind.wrap_u8, IntKind.wrap_u32, IntKind.wrap_u64, Sp.tmod_ite, Sp.tdiv_ite, setE, copyL, sliceL, zrow, List.length_append, List.length_cons, List.length_nil, List.length_set, List.length_replicate, List.length_take, List.length_drop, decide_eq_true_eq, decide_eq_false_iff_not, Bool.or_eq_true, Bool.and_eq_true, Bool.or_eq_false_iff, Bool.and_eq_false_iff, Bool.not_eq_true', Bool.not_eq_false', Bool.not_eq_true, Bool.not_eq_false, beq_iff_eq, beq_eq_false_iff_ne, bne_iff_ne, ne_eq] at * <;> omega))
theorem lo33_2 : LoopOk Try.prog gdS (RetAt Try.prog Try.f33 (Rsh.one (none)) none ty4) (bodyAt (bodyOf Try.f33) [0]) LS33_2 :=
  loop_run (ctxOkF gok_nil []) (L := lookL []) (loops_of (l := []) (by kernel_rfl) (loops_nil)) sa33_2 va33_2 so33_2
end Go.Proofs.Ytkfhampdellhoaa.Sy
namespace Go.Proofs.Ytkfhampdellhoaa.Sp
open Go Go.RowKit Sy
def F33 (x : Int × Int × List Int) : Bool :=
  Sp.optR (Sp.R33_2 (x.1, x.2.1, x.2.2, ((x.2.2).length : Int)) (0 : Int)) (fun y => y)
  (true)
end Go.Proofs.Ytkfhampdellhoaa.Sp
namespace Go.Proofs.Ytkfhampdellhoaa.Sy
def ct33 : Ct := { p := (Ty.pair ty3 (Ty.pair ty3 ty49)), psh := [none, none, none], r := ty4, rsh := (Rsh.one (none)), pre := none, fresh := none, F := Sp.F33 }
theorem va33 (x : (Ty.pair ty3 (Ty.pair ty3 ty49)).den) : ((evFn (ctxG []) Try.f33 (Ty.pair ty3 (Ty.pair ty3 ty49)) [none, none, none] (Rsh.one (none)) none ty4 (lookL [(2, LS33_2)]) x)).val (fun y => y) (Ty.dflt ty4) = Sp.F33 x := by kernel_rfl
theorem se33 (x : (Ty.pair ty3 (Ty.pair ty3 ty49)).den) : ((evFn (ctxG []) Try.f33 (Ty.pair ty3 (Ty.pair ty3 ty49)) [none, none, none] (Rsh.one (none)) none ty4 (lookL [(2, LS33_2)]) x)).safe = (((Sp.in33_2 (x.1, x.2.1, x.2.2, ((x.2.2).length : Int)) (0 : Int)) ∧ ((Sp.R33_2 (x.1, x.2.1, x.2.2, ((x.2.2).length : Int)) (0 : Int)) = none → True))) := by kernel_rfl
theorem sa33 (x : (Ty.pair ty3 (Ty.pair ty3 ty49)).den) (fx : Fit (Ty.pair ty3 (Ty.pair ty3 ty49)) x) : SafeW ((evFn (ctxG []) Try.f33 (Ty.pair ty3 (Ty.pair ty3 ty49)) [none, none, none] (Rsh.one (none)) none ty4 (lookL [(2, LS33_2)]) x)) := by
  refine ⟨?_⟩
  rw [se33]
  try dsimp only [Ty.den] at *
  simp only [Fit, maxLen] at fx
  simp only [Sp.in33_2, IntKind.wrap_i64, IntKind.wrap_u8, IntKind.wrap_u32, IntKind.wrap_u64, Sp.tmod_ite, Sp.tdiv_ite, setE, copyL, sliceL, zrow, List.length_append, List.length_cons, List.length_nil, List.length_set, List.length_replicate, List.length_take, List.length_drop, decide_eq_true_eq, decide_eq_false_iff_not, Bool.or_eq_true, Bool.and_eq_true, Bool.or_eq_false_iff, Bool.and_eq_false_iff, Bool.not_eq_true', Bool.not_eq_false', Bool.not_eq_true, Bool.not_eq_false, beq_iff_eq, beq_eq_false_iff_ne, bne_iff_ne, ne_eq, implies_true, and_true, true_and] at *
  all_goals ((repeat' (first | exact trivial | apply And.intro | intro _)) <;> first | trivial | omega)
theorem ok33 : CtOk Try.prog gdS 33 ct33 :=
  fn_okU (ctxOkF gok_nil []) rfl Try.func33 (p := (Ty.pair ty3 (Ty.pair ty3 ty49))) (psh := [none, none, none]) (r := ty4) (rsh := (Rsh.one (none))) (pre := none) (fresh := none) (F := Sp.F33) (L := (lookL [(2, LS33_2)])) (c := bodyOf Try.f33) (dflt := Ty.dflt ty4) rfl (loops_of (l := [bodyAt (bodyOf Try.f33) [0]]) (by kernel_rfl) (loops_cons (s0 := LS33_2) (by kernel_rfl) lo33_2 (loops_nil)))
    (safe_no @sa33) va33
/-! building.loads -/
end Go.Proofs.Ytkfhampdellhoaa.Sy
namespace Go.Proofs.Ytkfhampdellhoaa.Sp
open Go Go.RowKit Sy
def F35 (x : Int × Int × Int × Int × Nat × Nat × Nat × List (Int × Int × Int × Int × Int × Int × Int × Int × Int)) : Bool :=
  (((((FloatKind.f64.format.order (0 : Nat) x.2.2.2.2.1) == some Ordering.lt) && ((FloatKind.f64.format.order x.2.2.2.2.1 x.2.2.2.2.2.1) == some Ordering.lt)) && ((FloatKind.f64.format.order x.2.2.2.2.2.1 x.2.2.2.2.2.2.1) == some Ordering.lt)) && ((FloatKind.f64.format.order x.2.2.2.2.2.2.1 (9218868437227405311 : Nat)) == some Ordering.lt || (FloatKind.f64.format.order x.2.2.2.2.2.2.1 (9218868437227405311 : Nat)) == some Ordering.eq))
end Go.Proofs.Ytkfhampdellhoaa.Sp
namespace Go.Proofs.Ytkfhampdellhoaa.Sy
def ct35 : Ct := { p := ty46, psh := [some 8], r := ty4, rsh := (Rsh.one (none)), pre := none, fresh := none, F := Sp.F35 }
theorem va35 (x : ty46.den) : ((evFn (ctxG []) Try.f35 ty46 [some 8] (Rsh.one (none)) none ty4 noL x)).val (fun y => y) (Ty.dflt ty4) = Sp.F35 x := by kernel_rfl
theorem se35 (x : ty46.den) : ((evFn (ctxG []) Try.f35 ty46 [some 8] (Rsh.one (none)) none ty4 noL x)).safe = (True) := by kernel_rfl
theorem sa35 (x : ty46.den) (fx : Fit ty46 x) : SafeW ((evFn (ctxG []) Try.f35 ty46 [some 8] (Rsh.one (none)) none ty4 noL x)) := by
  refine ⟨?_⟩
  rw [se35]
  trivial
theorem ok35 : CtOk Try.prog gdS 35 ct35 :=
  fn_okU (ctxOkF gok_nil []) rfl Try.func35 (p := ty46) (psh := [some 8]) (r := ty4) (rsh := (Rsh.one (none))) (pre := none) (fresh := none) (F := Sp.F35) (L := noL) (c := bodyOf Try.f35) (dflt := Ty.dflt ty4) rfl (no_loops)
    (safe_no @sa35) va35
/-! overlayref01.in -/
end Go.Proofs.Ytkfhampdellhoaa.Sy
namespace Go.Proofs.Ytkfhampdellhoaa.Sp
open Go Go.RowKit Sy
def F36 (x : Int × Int × Int) : Bool :=
  ((decide (x.1 ≥ x.2.1)) && (decide (x.1 ≤ x.2.2)))
end Go.Proofs.Ytkfhampdellhoaa.Sp
namespace Go.Proofs.Ytkfhampdellhoaa.Sy
def ct36 : Ct := { p := (Ty.pair ty3 (Ty.pair ty3 ty3)), psh := [none, none, none], r := ty4, rsh := (Rsh.one (none)), pre := none, fresh := none, F := Sp.F36 }
theorem va36 (x : (Ty.pair ty3 (Ty.pair ty3 ty3)).den) : ((evFn (ctxG []) Try.f36 (Ty.pair ty3 (Ty.pair ty3 ty3)) [none, none, none] (Rsh.one (none)) none ty4 noL x)).val (fun y => y) (Ty.dflt ty4) = Sp.F36 x := by kernel_rfl
theorem se36 (x : (Ty.pair ty3 (Ty.pair ty3 ty3)).den) : ((evFn (ctxG []) Try.f36 (Ty.pair ty3 (Ty.pair ty3 ty3)) [none, none, none] (Rsh.one (none)) none ty4 noL x)).safe = (True) := by kernel_rfl
theorem sa36 (x : (Ty.pair ty3 (Ty.pair ty3 ty3)).den) (fx : Fit (Ty.pair ty3 (Ty.pair ty3 ty3)) x) : SafeW ((evFn (ctxG []) Try.f36 (Ty.pair ty3 (Ty.pair ty3 ty3)) [none, none, none] (Rsh.one (none)) none ty4 noL x)) := by
  refine ⟨?_⟩
  rw [se36]
  trivial
theorem ok36 : CtOk Try.prog gdS 36 ct36 :=
  fn_okU (ctxOkF gok_nil []) rfl Try.func36 (p := (Ty.pair ty3 (Ty.pair ty3 ty3))) (psh := [none, none, none]) (r := ty4) (rsh := (Rsh.one (none))) (pre := none) (fresh := none) (F := Sp.F36) (L := noL) (c := bodyOf Try.f36) (dflt := Ty.dflt ty4) rfl (no_loops)
    (safe_no @sa36) va36
/-! overlaylaw01.Sample -/
end Go.Proofs.Ytkfhampdellhoaa.Sy
namespace Go.Proofs.Ytkfhampdellhoaa.Sp
open Go Go.RowKit Sy
def in27_3 (k : (Int × Int)) (x : (Int × Int × Int × Int × Int × Nat × Nat × Nat × List (Int × Int × Int × Int × Int × Int × Int × Int × Int))) : Prop := 0 ≤ x.1 ∧ x.1 ≤ 101 ∧ k.1 ≠ 0 ∧ k.2 ≤ 100 ∧ (x.2.2.2.2.2.2.2.2.length : Int) ≤ x.1
def mu27_3 (k : (Int × Int)) (x : (Int × Int × Int × Int × Int × Nat × Nat × Nat × List (Int × Int × Int × Int × Int × Int × Int × Int × Int))) : Nat := (k.2 - x.1).toNat
def st27_3 (k : (Int × Int)) (x : (Int × Int × Int × Int × Int × Nat × Nat × Nat × List (Int × Int × Int × Int × Int × Int × Int × Int × Int))) : BOut (Int × Int) (Int × Int × Int × Int × Int × Nat × Nat × Nat × List (Int × Int × Int × Int × Int × Int × Int × Int × Int)) (Int × Int × Int × Int × Nat × Nat × Nat × List (Int × Int × Int × Int × Int × Int × Int × Int × Int)) :=
  bif (decide (x.1 < k.2)) then
    BOut.next k ((IntKind.i64.wrap (x.1 + (1 : Int))), x.2.1, x.2.2.1, x.2.2.2.1, x.2.2.2.2.1, x.2.2.2.2.2.1, x.2.2.2.2.2.2.1, x.2.2.2.2.2.2.2.1, (x.2.2.2.2.2.2.2.2 ++ [((100 : Int), (2 : Int), (6 : Int), (5 : Int), (4 : Int), (2 : Int), (3 : Int), (10 : Int), (Int.tmod x.1 k.1))]))
  else
    BOut.brk k x
def G27_3 (k : (Int × Int)) (x : (Int × Int × Int × Int × Int × Nat × Nat × Nat × List (Int × Int × Int × Int × Int × Int × Int × Int × Int))) : (Int × Int × Int × Int × Int × Nat × Nat × Nat × List (Int × Int × Int × Int × Int × Int × Int × Int × Int)) := endOf st27_3 k (Nat.succ (mu27_3 k x)) x
end Go.Proofs.Ytkfhampdellhoaa.Sp
namespace Go.Proofs.Ytkfhampdellhoaa.Sy
def LS27_3 : LS ty46.den := mkLS (Ty.pair ty3 ty3) (Ty.pair ty3 ty46)  [(0, none), (1, none)] [] [(6, none)] [(5, 8)] [(8, 100308, true, 25)] [] [(5, 5)] 0 false Sp.in27_3 Sp.st27_3 Sp.mu27_3
theorem va27_3 (k : (Ty.pair ty3 ty3).den) (x : (Ty.pair ty3 ty46).den) : ((evCode (ctxG []) (lookL []) (bodyAt (bodyOf Try.f27) [0]) (tmpl LS27_3 (enc (Ty.pair ty3 ty3) k) (enc (Ty.pair ty3 ty46) x)) (evRound LS27_3 (evRet (ctxG []) Try.f27 (Rsh.one (some 8)) (some 25) ty46 .ret)))).val BOut.ret (BOut.brk (Ty.dflt (Ty.pair ty3 ty3)) (Ty.dflt (Ty.pair ty3 ty46))) = Sp.st27_3 k x := by kernel_rfl
theorem se27_3 (k : (Ty.pair ty3 ty3).den) (x : (Ty.pair ty3 ty46).den) : ((evCode (ctxG []) (lookL []) (bodyAt (bodyOf Try.f27) [0]) (tmpl LS27_3 (enc (Ty.pair ty3 ty3) k) (enc (Ty.pair ty3 ty46) x)) (evRound LS27_3 (evRet (ctxG []) Try.f27 (Rsh.one (some 8)) (some 25) ty46 .ret)))).safe = ((((decide (x.1 < k.2)) = true → ((k.1 ≠ 0) ∧ (((List.length (x.2.2.2.2.2.2.2.2 : List (Int × Int × Int × Int × Int × Int × Int × Int × Int)) + List.length ([((100 : Int), (2 : Int), (6 : Int), (5 : Int), (4 : Int), (2 : Int), (3 : Int), (10 : Int), (Int.tmod x.1 k.1))] : List (Int × Int × Int × Int × Int × Int × Int × Int × Int))) * 72 ≤ 140737488355328 ∧ List.length (x.2.2.2.2.2.2.2.2 : List (Int × Int × Int × Int × Int × Int × Int × Int × Int)) + List.length ([((100 : Int), (2 : Int), (6 : Int), (5 : Int), (4 : Int), (2 : Int), (3 : Int), (10 : Int), (Int.tmod x.1 k.1))] : List (Int × Int × Int × Int × Int × Int × Int × Int × Int)) ≤ 4611686018427387903) ∧ True))) ∧ ((decide (x.1 < k.2)) = false → True))) := by kernel_rfl
theorem sa27_3 (k : (Ty.pair ty3 ty3).den) (x : (Ty.pair ty3 ty46).den) (fk : Fit (Ty.pair ty3 ty3) k) (fx : Fit (Ty.pair ty3 ty46) x) (h : Sp.in27_3 k x) : SafeW ((evCode (ctxG []) (lookL []) (bodyAt (bodyOf Try.f27) [0]) (tmpl LS27_3 (enc (Ty.pair ty3 ty3) k) (enc (Ty.pair ty3 ty46) x)) (evRound LS27_3 (evRet (ctxG []) Try.f27 (Rsh.one (some 8)) (some 25) ty46 .ret)))) := by
  refine ⟨?_⟩
  rw [se27_3]
  try dsimp only [Ty.den] at *
  simp only [Sp.in27_3, Fit, maxLen] at h fk fx
  simp only [IntKind.wrap_i64, IntKind.wrap_u8, IntKind.wrap_u32, IntKind.wrap_u64, Sp.tmod_ite, Sp.tdiv_ite, setE, copyL, sliceL, zrow, List.length_append, List.length_cons, List.length_nil, List.length_set, List.length_replicate, List.length_take, List.length_drop, decide_eq_true_eq, decide_eq_false_iff_not, Bool.or_eq_true, Bool.and_eq_true, Bool.or_eq_false_iff, Bool.and_eq_false_iff, Bool.not_eq_true', Bool.not_eq_false', Bool.not_eq_true, Bool.not_eq_false, beq_iff_eq, beq_eq_false_iff_ne, bne_iff_ne, ne_eq, implies_true, and_true, true_and] at *
  all_goals ((repeat' (first | exact trivial | apply And.intro | intro _)) <;> first | trivial | omega)
theorem so27_3 (k : (Ty.pair ty3 ty3).den) (x : (Ty.pair ty3 ty46).den) (fk : Fit (Ty.pair ty3 ty3) k) (h : Sp.in27_3 k x) : StepOk false Sp.in27_3 Sp.mu27_3 k x (Sp.st27_3 k x) := by
  try dsimp only [Ty.den] at *
  simp only [Sp.in27_3, Fit, maxLen] at h fk
  simp only [Sp.st27_3, Sp.optR, Bool.cond_eq_ite]
  (repeat' split) <;> (first | exact rfl | (refine ⟨rfl, ?_, ?_⟩ <;> simp only [Sp.in27_3, Sp.mu27_3, IntKind.wrap_i64, IntKind.wrap_u8, IntKind.wrap_u32, IntKind.wrap_u64, Sp.tmod_ite, Sp.tdiv_ite, setE, copyL, sliceL, zrow, List.length_append, List.length_cons, List.length_nil, List.length_set, List.length_replicate, List.length_take, List.length_drop, decide_eq_true_eq, decide_eq_false_iff_not, Bool.or_eq_true, Bool.and_eq_true, Bool.or_eq_false_iff, Bool.and_eq_false_iff, Bool.not_eq_true', Bool.not_eq_false', Bool.not_eq_true, Bool.not_eq_false, beq_iff_eq, beq_eq_false_iff_ne, bne_iff_ne, ne_eq] at * <;> omega))
theorem lo27_3 : LoopOk Try.prog gdS (RetAt Try.prog Try.f27 (Rsh.one (some 8)) (some 25) ty46) (bodyAt (bodyOf Try.f27) [0]) LS27_3 :=
  loop_run (ctxOkF gok_nil []) (L := lookL []) (loops_of (l := []) (by kernel_rfl) (loops_nil)) sa27_3 va27_3 so27_3
end Go.Proofs.Ytkfhampdellhoaa.Sy
namespace Go.Proofs.Ytkfhampdellhoaa.Sp
open Go Go.RowKit Sy
def F27 (x : Int × Int) : Int × Int × Int × Int × Nat × Nat × Nat × List (Int × Int × Int × Int × Int × Int × Int × Int × Int) :=
  (Sp.G27_3 x ((0 : Int), x.1, (1 : Int), (4000 : Int), (30 : Int), (4591870180066957722 : Nat), (4605380978949069210 : Nat), (4607632778762754458 : Nat), [])).2
def pre27 (x : Int × Int) : Prop := 1 ≤ x.1 ∧ x.1 ≤ 100 ∧ x.2 ≤ 100
end Go.Proofs.Ytkfhampdellhoaa.Sp
namespace Go.Proofs.Ytkfhampdellhoaa.Sy
def ct27 : Ct := { p := (Ty.pair ty3 ty3), psh := [none, none], r := ty46, rsh := (Rsh.one (some 8)), pre := some Sp.pre27, fresh := (some 25), F := Sp.F27 }
theorem va27 (x : (Ty.pair ty3 ty3).den) : ((evFn (ctxG []) Try.f27 (Ty.pair ty3 ty3) [none, none] (Rsh.one (some 8)) (some 25) ty46 (lookL [(3, LS27_3)]) x)).val (fun y => y) (Ty.dflt ty46) = Sp.F27 x := by kernel_rfl
theorem se27 (x : (Ty.pair ty3 ty3).den) : ((evFn (ctxG []) Try.f27 (Ty.pair ty3 ty3) [none, none] (Rsh.one (some 8)) (some 25) ty46 (lookL [(3, LS27_3)]) x)).safe = (((Sp.in27_3 x ((0 : Int), x.1, (1 : Int), (4000 : Int), (30 : Int), (4591870180066957722 : Nat), (4605380978949069210 : Nat), (4607632778762754458 : Nat), [])) ∧ True)) := by kernel_rfl
theorem sa27 (x : (Ty.pair ty3 ty3).den) (fx : Fit (Ty.pair ty3 ty3) x) (h : Sp.pre27 x) : SafeW ((evFn (ctxG []) Try.f27 (Ty.pair ty3 ty3) [none, none] (Rsh.one (some 8)) (some 25) ty46 (lookL [(3, LS27_3)]) x)) := by
  refine ⟨?_⟩
  rw [se27]
  try dsimp only [Ty.den] at *
  simp only [Fit, maxLen] at fx
  simp only [Sp.in27_3, Sp.pre27, IntKind.wrap_i64, IntKind.wrap_u8, IntKind.wrap_u32, IntKind.wrap_u64, Sp.tmod_ite, Sp.tdiv_ite, setE, copyL, sliceL, zrow, List.length_append, List.length_cons, List.length_nil, List.length_set, List.length_replicate, List.length_take, List.length_drop, decide_eq_true_eq, decide_eq_false_iff_not, Bool.or_eq_true, Bool.and_eq_true, Bool.or_eq_false_iff, Bool.and_eq_false_iff, Bool.not_eq_true', Bool.not_eq_false', Bool.not_eq_true, Bool.not_eq_false, beq_iff_eq, beq_eq_false_iff_ne, bne_iff_ne, ne_eq, implies_true, and_true, true_and] at *
  all_goals ((repeat' (first | exact trivial | apply And.intro | intro _)) <;> first | trivial | omega)
theorem ok27 : CtOk Try.prog gdS 27 ct27 :=
  fn_okU (ctxOkF gok_nil []) rfl Try.func27 (p := (Ty.pair ty3 ty3)) (psh := [none, none]) (r := ty46) (rsh := (Rsh.one (some 8))) (pre := some Sp.pre27) (fresh := (some 25)) (F := Sp.F27) (L := (lookL [(3, LS27_3)])) (c := bodyOf Try.f27) (dflt := Ty.dflt ty46) rfl (loops_of (l := [bodyAt (bodyOf Try.f27) [0]]) (by kernel_rfl) (loops_cons (s0 := LS27_3) (by kernel_rfl) lo27_3 (loops_nil)))
    (safe_pre @sa27) va27
def GmT0 : List (Nat × Ct) := (33, ct33) :: (35, ct35) :: (36, ct36) :: (27, ct27) :: []
theorem gokGmT0 : GOk GmT0 := gok_cons ok33 ⟨_, Try.func33, by kernel_rfl, by kernel_rfl⟩ (gok_cons ok35 ⟨_, Try.func35, by kernel_rfl, by kernel_rfl⟩ (gok_cons ok36 ⟨_, Try.func36, by kernel_rfl, by kernel_rfl⟩ (gok_cons ok27 ⟨_, Try.func27, by kernel_rfl, by kernel_rfl⟩ (gok_nil))))
end Go.Proofs.Ytkfhampdellhoaa.Sy
