/- Contracts of functions, by the evaluator (own program gen.py): building.Service, building.Bound, building.Hall. -/
import Derived.Test.YtkanaakceokifaaBuB
set_option linter.unusedVariables false
set_option linter.unusedSimpArgs false
set_option maxRecDepth 100000
namespace Go.Proofs.Ytkanaakceokifaa.Sy
open Go Go.RowKit Sp
/-! building.Service -/
end Go.Proofs.Ytkanaakceokifaa.Sy
namespace Go.Proofs.Ytkanaakceokifaa.Sp
open Go Go.RowKit Sy
def F16 (x : (Int × Int × Int × Int × Nat × Nat × Nat × List (Int × Int × Int × Int × Int × Int × Int × Int × Int)) × Int) : Int :=
  bif (((Sp.F12 x.1) != (0 : Int)) || (!(Sp.F39 ((0 : Int), (IntKind.i64.wrap (((x.1.2.2.2.2.2.2.2).length : Int) - (1 : Int))), [x.2])))) then
    (0 : Int)
  else
    (Sp.F44 (x.1.1, (Sp.nthT x.1.2.2.2.2.2.2.2 x.2)))
end Go.Proofs.Ytkanaakceokifaa.Sp
namespace Go.Proofs.Ytkanaakceokifaa.Sy
def ct16 : Ct := { p := (Ty.pair ty25 ty3), psh := [some 8, none], r := ty3, rsh := (Rsh.one (none)), pre := none, fresh := none, F := Sp.F16 }
theorem va16 (x : (Ty.pair ty25 ty3).den) : ((evFn (ctxG GmT2) Try.f16 (Ty.pair ty25 ty3) [some 8, none] (Rsh.one (none)) none ty3 noL x)).val (fun y => y) (Ty.dflt ty3) = Sp.F16 x := by kernel_rfl
theorem se16 (x : (Ty.pair ty25 ty3).den) : ((evFn (ctxG GmT2) Try.f16 (Ty.pair ty25 ty3) [some 8, none] (Rsh.one (none)) none ty3 noL x)).safe = ((((((Sp.F12 x.1) != (0 : Int)) || (!(Sp.F39 ((0 : Int), (IntKind.i64.wrap (((x.1.2.2.2.2.2.2.2).length : Int) - (1 : Int))), [x.2])))) = true → True) ∧ ((((Sp.F12 x.1) != (0 : Int)) || (!(Sp.F39 ((0 : Int), (IntKind.i64.wrap (((x.1.2.2.2.2.2.2.2).length : Int) - (1 : Int))), [x.2])))) = false → ((0 ≤ x.2 ∧ x.2 < ((x.1.2.2.2.2.2.2.2).length : Int)) ∧ True)))) := by kernel_rfl
theorem sa16 (x : (Ty.pair ty25 ty3).den) (fx : Fit (Ty.pair ty25 ty3) x) : SafeW ((evFn (ctxG GmT2) Try.f16 (Ty.pair ty25 ty3) [some 8, none] (Rsh.one (none)) none ty3 noL x)) := by
  refine ⟨?_⟩
  rw [se16]
  try dsimp only [Ty.den] at *
  refine ⟨fun _ => trivial, fun h => ?_⟩
  have hl : x.1.2.2.2.2.2.2.2.length ≤ maxLen := Sp.fit_cars fx.1
  simp only [Bool.or_eq_false_iff, Bool.not_eq_false', Sp.within_one, Bool.and_eq_true, decide_eq_true_eq] at h
  have h2 := h.2
  rw [Sp.wrap_i64_of (by omega) (by simp only [maxLen] at hl; omega)] at h2
  exact ⟨⟨by omega, by omega⟩, trivial⟩
theorem ok16 : CtOk Try.prog gdS 16 ct16 :=
  fn_okU (ctxOkF gokGmT2 []) rfl Try.func16 (p := (Ty.pair ty25 ty3)) (psh := [some 8, none]) (r := ty3) (rsh := (Rsh.one (none))) (pre := none) (fresh := none) (F := Sp.F16) (L := noL) (c := bodyOf Try.f16) (dflt := Ty.dflt ty3) rfl (no_loops)
    (safe_no @sa16) va16
/-! building.Bound -/
end Go.Proofs.Ytkanaakceokifaa.Sy
namespace Go.Proofs.Ytkanaakceokifaa.Sp
open Go Go.RowKit Sy
def in20_5 (k : ((List (Int × Int × Int × Int × Int × Int × Int × Int × Int)) × Int × Int × Int × Int × Int × Nat × Nat × Nat × List (Int × Int × Int × Int × Int × Int × Int × Int × Int))) (x : (Int × Int)) : Prop := (0 : Int) ≤ x.2 ∧ k.2.1 = ((k.1).length : Int)
def mu20_5 (k : ((List (Int × Int × Int × Int × Int × Int × Int × Int × Int)) × Int × Int × Int × Int × Int × Nat × Nat × Nat × List (Int × Int × Int × Int × Int × Int × Int × Int × Int))) (x : (Int × Int)) : Nat := (k.2.1 - x.2).toNat
def st20_5 (k : ((List (Int × Int × Int × Int × Int × Int × Int × Int × Int)) × Int × Int × Int × Int × Int × Nat × Nat × Nat × List (Int × Int × Int × Int × Int × Int × Int × Int × Int))) (x : (Int × Int)) : BOut ((List (Int × Int × Int × Int × Int × Int × Int × Int × Int)) × Int × Int × Int × Int × Int × Nat × Nat × Nat × List (Int × Int × Int × Int × Int × Int × Int × Int × Int)) (Int × Int) (Int) :=
  bif (decide (x.2 < k.2.1)) then
    BOut.next k ((max (max x.1 ((Sp.nthT k.1 x.2).1)) (Sp.F44 (k.2.2.1, (Sp.nthT k.1 x.2)))), (IntKind.i64.wrap (x.2 + (1 : Int))))
  else
    BOut.brk k x
def G20_5 (k : ((List (Int × Int × Int × Int × Int × Int × Int × Int × Int)) × Int × Int × Int × Int × Int × Nat × Nat × Nat × List (Int × Int × Int × Int × Int × Int × Int × Int × Int))) (x : (Int × Int)) : (Int × Int) := endOf st20_5 k (Nat.succ (mu20_5 k x)) x
end Go.Proofs.Ytkanaakceokifaa.Sp
namespace Go.Proofs.Ytkanaakceokifaa.Sy
def LS20_5 : LS ty3.den := mkLS (Ty.pair ty23 (Ty.pair ty3 ty25)) (Ty.pair ty3 ty3)  [(10, none), (11, none)] [(1, 8)] [(3, none), (12, none)] [] [] [] [(1, 1)] 0 false Sp.in20_5 Sp.st20_5 Sp.mu20_5
theorem va20_5 (k : (Ty.pair ty23 (Ty.pair ty3 ty25)).den) (x : (Ty.pair ty3 ty3).den) : ((evCode (ctxG GmT2) (lookL []) (bodyAt (bodyOf Try.f20) [0]) (tmpl LS20_5 (enc (Ty.pair ty23 (Ty.pair ty3 ty25)) k) (enc (Ty.pair ty3 ty3) x)) (evRound LS20_5 (evRet (ctxG GmT2) Try.f20 (Rsh.one (none)) none ty3 .ret)))).val BOut.ret (BOut.brk (Ty.dflt (Ty.pair ty23 (Ty.pair ty3 ty25))) (Ty.dflt (Ty.pair ty3 ty3))) = Sp.st20_5 k x := by kernel_rfl
theorem se20_5 (k : (Ty.pair ty23 (Ty.pair ty3 ty25)).den) (x : (Ty.pair ty3 ty3).den) : ((evCode (ctxG GmT2) (lookL []) (bodyAt (bodyOf Try.f20) [0]) (tmpl LS20_5 (enc (Ty.pair ty23 (Ty.pair ty3 ty25)) k) (enc (Ty.pair ty3 ty3) x)) (evRound LS20_5 (evRet (ctxG GmT2) Try.f20 (Rsh.one (none)) none ty3 .ret)))).safe = ((((decide (x.2 < k.2.1)) = true → ((0 ≤ x.2 ∧ x.2 < ((k.1).length : Int)) ∧ True)) ∧ ((decide (x.2 < k.2.1)) = false → True))) := by kernel_rfl
theorem sa20_5 (k : (Ty.pair ty23 (Ty.pair ty3 ty25)).den) (x : (Ty.pair ty3 ty3).den) (fk : Fit (Ty.pair ty23 (Ty.pair ty3 ty25)) k) (fx : Fit (Ty.pair ty3 ty3) x) (h : Sp.in20_5 k x) : SafeW ((evCode (ctxG GmT2) (lookL []) (bodyAt (bodyOf Try.f20) [0]) (tmpl LS20_5 (enc (Ty.pair ty23 (Ty.pair ty3 ty25)) k) (enc (Ty.pair ty3 ty3) x)) (evRound LS20_5 (evRet (ctxG GmT2) Try.f20 (Rsh.one (none)) none ty3 .ret)))) := by
  refine ⟨?_⟩
  rw [se20_5]
  try dsimp only [Ty.den] at *
  simp only [Sp.in20_5, Fit, maxLen] at h fk fx
  simp only [IntKind.wrap_i64, IntKind.wrap_u8, IntKind.wrap_u32, IntKind.wrap_u64, Sp.tmod_ite, Sp.tdiv_ite, setE, copyL, sliceL, zrow, List.length_append, List.length_cons, List.length_nil, List.length_set, List.length_replicate, List.length_take, List.length_drop, decide_eq_true_eq, decide_eq_false_iff_not, Bool.or_eq_true, Bool.and_eq_true, Bool.or_eq_false_iff, Bool.and_eq_false_iff, Bool.not_eq_true', Bool.not_eq_false', Bool.not_eq_true, Bool.not_eq_false, beq_iff_eq, beq_eq_false_iff_ne, bne_iff_ne, ne_eq, implies_true, and_true, true_and] at *
  all_goals ((repeat' (first | exact trivial | apply And.intro | intro _)) <;> first | trivial | omega)
theorem so20_5 (k : (Ty.pair ty23 (Ty.pair ty3 ty25)).den) (x : (Ty.pair ty3 ty3).den) (fk : Fit (Ty.pair ty23 (Ty.pair ty3 ty25)) k) (h : Sp.in20_5 k x) : StepOk false Sp.in20_5 Sp.mu20_5 k x (Sp.st20_5 k x) := by
  try dsimp only [Ty.den] at *
  simp only [Sp.in20_5, Fit, maxLen] at h fk
  simp only [Sp.st20_5, Sp.optR, Bool.cond_eq_ite]
  (repeat' split) <;> (first | exact rfl | (refine ⟨rfl, ?_, ?_⟩ <;> simp only [Sp.in20_5, Sp.mu20_5, IntKind.wrap_i64, IntKind.wrap_u8, IntKind.wrap_u32, IntKind.wrap_u64, Sp.tmod_ite, Sp.tdiv_ite, setE, copyL, sliceL, zrow, List.length_append, List.length_cons, List.length_nil, List.length_set, List.length_replicate, List.length_take, List.length_drop, decide_eq_true_eq, decide_eq_false_iff_not, Bool.or_eq_true, Bool.and_eq_true, Bool.or_eq_false_iff, Bool.and_eq_false_iff, Bool.not_eq_true', Bool.not_eq_false', Bool.not_eq_true, Bool.not_eq_false, beq_iff_eq, beq_eq_false_iff_ne, bne_iff_ne, ne_eq] at * <;> omega))
theorem lo20_5 : LoopOk Try.prog gdS (RetAt Try.prog Try.f20 (Rsh.one (none)) none ty3) (bodyAt (bodyOf Try.f20) [0]) LS20_5 :=
  loop_run (ctxOkF gokGmT2 []) (L := lookL []) (loops_of (l := []) (by kernel_rfl) (loops_nil)) sa20_5 va20_5 so20_5
end Go.Proofs.Ytkanaakceokifaa.Sy
namespace Go.Proofs.Ytkanaakceokifaa.Sp
open Go Go.RowKit Sy
def F20 (x : Int × Int × Int × Int × Nat × Nat × Nat × List (Int × Int × Int × Int × Int × Int × Int × Int × Int)) : Int :=
  bif ((Sp.F12 x) != (0 : Int)) then
    (0 : Int)
  else
    (IntKind.i64.wrap ((IntKind.i64.wrap (((x.2.2.2.2.2.2.2).length : Int) + (2 : Int))) * (IntKind.i64.wrap ((Sp.G20_5 (x.2.2.2.2.2.2.2, ((x.2.2.2.2.2.2.2).length : Int), x) ((0 : Int), (0 : Int))).1 + (2 : Int)))))
end Go.Proofs.Ytkanaakceokifaa.Sp
namespace Go.Proofs.Ytkanaakceokifaa.Sy
def ct20 : Ct := { p := ty25, psh := [some 8], r := ty3, rsh := (Rsh.one (none)), pre := none, fresh := none, F := Sp.F20 }
theorem va20 (x : ty25.den) : ((evFn (ctxG GmT2) Try.f20 ty25 [some 8] (Rsh.one (none)) none ty3 (lookL [(5, LS20_5)]) x)).val (fun y => y) (Ty.dflt ty3) = Sp.F20 x := by kernel_rfl
theorem se20 (x : ty25.den) : ((evFn (ctxG GmT2) Try.f20 ty25 [some 8] (Rsh.one (none)) none ty3 (lookL [(5, LS20_5)]) x)).safe = (((((Sp.F12 x) != (0 : Int)) = true → True) ∧ (((Sp.F12 x) != (0 : Int)) = false → ((Sp.in20_5 (x.2.2.2.2.2.2.2, ((x.2.2.2.2.2.2.2).length : Int), x) ((0 : Int), (0 : Int))) ∧ True)))) := by kernel_rfl
theorem sa20 (x : ty25.den) (fx : Fit ty25 x) : SafeW ((evFn (ctxG GmT2) Try.f20 ty25 [some 8] (Rsh.one (none)) none ty3 (lookL [(5, LS20_5)]) x)) := by
  refine ⟨?_⟩
  rw [se20]
  try dsimp only [Ty.den] at *
  simp only [Fit, maxLen] at fx
  simp only [Sp.in20_5, IntKind.wrap_i64, IntKind.wrap_u8, IntKind.wrap_u32, IntKind.wrap_u64, Sp.tmod_ite, Sp.tdiv_ite, setE, copyL, sliceL, zrow, List.length_append, List.length_cons, List.length_nil, List.length_set, List.length_replicate, List.length_take, List.length_drop, decide_eq_true_eq, decide_eq_false_iff_not, Bool.or_eq_true, Bool.and_eq_true, Bool.or_eq_false_iff, Bool.and_eq_false_iff, Bool.not_eq_true', Bool.not_eq_false', Bool.not_eq_true, Bool.not_eq_false, beq_iff_eq, beq_eq_false_iff_ne, bne_iff_ne, ne_eq, implies_true, and_true, true_and] at *
  all_goals ((repeat' (first | exact trivial | apply And.intro | intro _)) <;> first | trivial | omega)
theorem ok20 : CtOk Try.prog gdS 20 ct20 :=
  fn_okU (ctxOkF gokGmT2 []) rfl Try.func20 (p := ty25) (psh := [some 8]) (r := ty3) (rsh := (Rsh.one (none))) (pre := none) (fresh := none) (F := Sp.F20) (L := (lookL [(5, LS20_5)])) (c := bodyOf Try.f20) (dflt := Ty.dflt ty3) rfl (loops_of (l := [bodyAt (bodyOf Try.f20) [0]]) (by kernel_rfl) (loops_cons (s0 := LS20_5) (by kernel_rfl) lo20_5 (loops_nil)))
    (safe_no @sa20) va20
/-! building.Hall -/
end Go.Proofs.Ytkanaakceokifaa.Sy
namespace Go.Proofs.Ytkanaakceokifaa.Sp
open Go Go.RowKit Sy
def F27 (x : Int × Int × Int × Int × Nat × Nat × Nat × List (Int × Int × Int × Int × Int × Int × Int × Int × Int)) : Int × Int :=
  bif ((Sp.F12 x) != (0 : Int)) then
    ((0 : Int), (0 : Int))
  else
    ((IntKind.u32.wrap ((IntKind.u32.wrap ((1 : Int) * 2 ^ (min ((IntKind.i64.wrap (x.1 - (1 : Int)))).toNat IntKind.u32.bits))) - (1 : Int))), (IntKind.u32.wrap ((IntKind.u32.wrap ((IntKind.u32.wrap ((1 : Int) * 2 ^ (min ((IntKind.i64.wrap (x.1 - (1 : Int)))).toNat IntKind.u32.bits))) - (1 : Int))) * 2 ^ (min ((1 : Int)).toNat IntKind.u32.bits))))
end Go.Proofs.Ytkanaakceokifaa.Sp
namespace Go.Proofs.Ytkanaakceokifaa.Sy
def ct27 : Ct := { p := ty25, psh := [some 8], r := ty57, rsh := (Rsh.one (some 2)), pre := none, fresh := none, F := Sp.F27 }
theorem va27 (x : ty25.den) : ((evFn (ctxG GmT2) Try.f27 ty25 [some 8] (Rsh.one (some 2)) none ty57 noL x)).val (fun y => y) (Ty.dflt ty57) = Sp.F27 x := by kernel_rfl
theorem se27 (x : ty25.den) : ((evFn (ctxG GmT2) Try.f27 ty25 [some 8] (Rsh.one (some 2)) none ty57 noL x)).safe = (((((Sp.F12 x) != (0 : Int)) = true → True) ∧ (((Sp.F12 x) != (0 : Int)) = false → ((0 ≤ (IntKind.i64.wrap (x.1 - (1 : Int)))) ∧ ((0 ≤ (1 : Int)) ∧ True))))) := by kernel_rfl
theorem sa27 (x : ty25.den) (fx : Fit ty25 x) : SafeW ((evFn (ctxG GmT2) Try.f27 ty25 [some 8] (Rsh.one (some 2)) none ty57 noL x)) := by
  refine ⟨?_⟩
  rw [se27]
  refine ⟨fun _ => trivial, fun h => ?_⟩
  have hb := Sp.valid_b (Sp.fit_cars fx) (by simpa using h)
  rw [Sp.wrap_i64_of (by have := hb.fl; omega) (by have := hb.fl; omega)]
  exact ⟨by have := hb.fl; omega, by omega, trivial⟩
theorem ok27 : CtOk Try.prog gdS 27 ct27 :=
  fn_okU (ctxOkF gokGmT2 []) rfl Try.func27 (p := ty25) (psh := [some 8]) (r := ty57) (rsh := (Rsh.one (some 2))) (pre := none) (fresh := none) (F := Sp.F27) (L := noL) (c := bodyOf Try.f27) (dflt := Ty.dflt ty57) rfl (no_loops)
    (safe_no @sa27) va27
def GmT3 : List (Nat × Ct) := (16, ct16) :: (20, ct20) :: (27, ct27) :: GmT2
theorem gokGmT3 : GOk GmT3 := gok_cons ok16 ⟨_, Try.func16, by kernel_rfl, by kernel_rfl⟩ (gok_cons ok20 ⟨_, Try.func20, by kernel_rfl, by kernel_rfl⟩ (gok_cons ok27 ⟨_, Try.func27, by kernel_rfl, by kernel_rfl⟩ (gokGmT2)))
end Go.Proofs.Ytkanaakceokifaa.Sy
