/- Contracts of functions, by the evaluator (own program gen.py): overlaylaw12.sane. -/
import Derived.Test.YtkanaakceokifaaD2
set_option linter.unusedVariables false
set_option linter.unusedSimpArgs false
set_option maxRecDepth 100000
namespace Go.Proofs.Ytkanaakceokifaa.Sy
open Go Go.RowKit Sp
/-! overlaylaw12.sane -/
end Go.Proofs.Ytkanaakceokifaa.Sy
namespace Go.Proofs.Ytkanaakceokifaa.Sp
open Go Go.RowKit Sy
def in23_8 (k : ((List Int) × (List Int) × Int × Int × Int × Int × Int × Int × Int × Int × Int)) (x : (Int × Int × Int × Int × Bool × Int)) : Prop := (0 : Int) ≤ x.1 ∧ k.1.length = 6 ∧ k.2.1.length = 6
def mu23_8 (k : ((List Int) × (List Int) × Int × Int × Int × Int × Int × Int × Int × Int × Int)) (x : (Int × Int × Int × Int × Bool × Int)) : Nat := ((6 : Int) - x.1).toNat
def st23_8 (k : ((List Int) × (List Int) × Int × Int × Int × Int × Int × Int × Int × Int × Int)) (x : (Int × Int × Int × Int × Bool × Int)) : BOut ((List Int) × (List Int) × Int × Int × Int × Int × Int × Int × Int × Int × Int) (Int × Int × Int × Int × Bool × Int) (Bool) :=
  bif (decide (x.1 < (6 : Int))) then
    (bif ((Sp.F24 (k.2.2, x.2, (Sp.nthT k.2.1 x.1), false, false)).2 != (Sp.nthT k.1 x.1)) then
      BOut.ret false
    else
      BOut.next k ((IntKind.i64.wrap (x.1 + (1 : Int))), (Sp.F24 (k.2.2, x.2, (Sp.nthT k.2.1 x.1), false, false)).1))
  else
    BOut.brk k x
def G23_8 (k : ((List Int) × (List Int) × Int × Int × Int × Int × Int × Int × Int × Int × Int)) (x : (Int × Int × Int × Int × Bool × Int)) : (Int × Int × Int × Int × Bool × Int) := endOf st23_8 k (Nat.succ (mu23_8 k x)) x
def R23_8 (k : ((List Int) × (List Int) × Int × Int × Int × Int × Int × Int × Int × Int × Int)) (x : (Int × Int × Int × Int × Bool × Int)) : Option (Bool) := retOf st23_8 k (Nat.succ (mu23_8 k x)) x
end Go.Proofs.Ytkanaakceokifaa.Sp
namespace Go.Proofs.Ytkanaakceokifaa.Sy
def LS23_8 : LS ty4.den := mkLS (Ty.pair ty51 (Ty.pair ty51 ty33)) (Ty.pair ty3 ty42)  [(4, none), (5, none)] [(1, 9)] [(6, none)] [(2, 5)] [] [] [(1, 1), (2, 2)] 0 true Sp.in23_8 Sp.st23_8 Sp.mu23_8
theorem va23_8 (k : (Ty.pair ty51 (Ty.pair ty51 ty33)).den) (x : (Ty.pair ty3 ty42).den) : ((evCode (ctxG GmD2) (lookL []) (bodyAt (bodyOf Try.f23) [0]) (tmpl LS23_8 (enc (Ty.pair ty51 (Ty.pair ty51 ty33)) k) (enc (Ty.pair ty3 ty42) x)) (evRound LS23_8 (evRet (ctxG GmD2) Try.f23 (Rsh.one (none)) none ty4 .ret)))).val BOut.ret (BOut.brk (Ty.dflt (Ty.pair ty51 (Ty.pair ty51 ty33))) (Ty.dflt (Ty.pair ty3 ty42))) = Sp.st23_8 k x := by kernel_rfl
theorem se23_8 (k : (Ty.pair ty51 (Ty.pair ty51 ty33)).den) (x : (Ty.pair ty3 ty42).den) : ((evCode (ctxG GmD2) (lookL []) (bodyAt (bodyOf Try.f23) [0]) (tmpl LS23_8 (enc (Ty.pair ty51 (Ty.pair ty51 ty33)) k) (enc (Ty.pair ty3 ty42) x)) (evRound LS23_8 (evRet (ctxG GmD2) Try.f23 (Rsh.one (none)) none ty4 .ret)))).safe = ((((decide (x.1 < (6 : Int))) = true → ((0 ≤ x.1 ∧ x.1 < ((k.2.1).length : Int)) ∧ ((0 ≤ x.1 ∧ x.1 < ((k.1).length : Int)) ∧ ((((Sp.F24 (k.2.2, x.2, (Sp.nthT k.2.1 x.1), false, false)).2 != (Sp.nthT k.1 x.1)) = true → True) ∧ (((Sp.F24 (k.2.2, x.2, (Sp.nthT k.2.1 x.1), false, false)).2 != (Sp.nthT k.1 x.1)) = false → True))))) ∧ ((decide (x.1 < (6 : Int))) = false → True))) := by kernel_rfl
theorem sa23_8 (k : (Ty.pair ty51 (Ty.pair ty51 ty33)).den) (x : (Ty.pair ty3 ty42).den) (fk : Fit (Ty.pair ty51 (Ty.pair ty51 ty33)) k) (fx : Fit (Ty.pair ty3 ty42) x) (h : Sp.in23_8 k x) : SafeW ((evCode (ctxG GmD2) (lookL []) (bodyAt (bodyOf Try.f23) [0]) (tmpl LS23_8 (enc (Ty.pair ty51 (Ty.pair ty51 ty33)) k) (enc (Ty.pair ty3 ty42) x)) (evRound LS23_8 (evRet (ctxG GmD2) Try.f23 (Rsh.one (none)) none ty4 .ret)))) := by
  refine ⟨?_⟩
  rw [se23_8]
  try dsimp only [Ty.den] at *
  simp only [Sp.in23_8, Fit, maxLen] at h fk fx
  simp only [IntKind.wrap_i64, IntKind.wrap_u8, IntKind.wrap_u32, IntKind.wrap_u64, Sp.tmod_lit, Sp.tdiv_lit, setE, copyL, sliceL, zrow, List.length_append, List.length_cons, List.length_nil, List.length_set, List.length_replicate, List.length_take, List.length_drop, decide_eq_true_eq, decide_eq_false_iff_not, Bool.or_eq_true, Bool.and_eq_true, Bool.or_eq_false_iff, Bool.and_eq_false_iff, Bool.not_eq_true', Bool.not_eq_false', Bool.not_eq_true, Bool.not_eq_false, beq_iff_eq, beq_eq_false_iff_ne, bne_iff_ne, ne_eq, implies_true, and_true, true_and] at *
  all_goals ((repeat' (first | exact trivial | apply And.intro | intro _)) <;> first | trivial | omega | exact Sp.tmod_nn (by omega) | exact Sp.tmod_lt (by omega) (by omega))
theorem so23_8 (k : (Ty.pair ty51 (Ty.pair ty51 ty33)).den) (x : (Ty.pair ty3 ty42).den) (fk : Fit (Ty.pair ty51 (Ty.pair ty51 ty33)) k) (h : Sp.in23_8 k x) : StepOk true Sp.in23_8 Sp.mu23_8 k x (Sp.st23_8 k x) := by
  try dsimp only [Ty.den] at *
  simp only [Sp.in23_8, Fit, maxLen] at h fk
  unfold Sp.st23_8
  (repeat' (first | exact rfl | refine StepOk.cnd (fun _ => ?_) (fun _ => ?_) | refine StepOk.opt (fun _ => ?_))) <;> (first | exact rfl | (refine ⟨rfl, ?_, ?_⟩ <;> simp only [Sp.in23_8, Sp.mu23_8, IntKind.wrap_i64, IntKind.wrap_u8, IntKind.wrap_u32, IntKind.wrap_u64, Sp.tmod_lit, Sp.tdiv_lit, setE, copyL, sliceL, zrow, List.length_append, List.length_cons, List.length_nil, List.length_set, List.length_replicate, List.length_take, List.length_drop, decide_eq_true_eq, decide_eq_false_iff_not, Bool.or_eq_true, Bool.and_eq_true, Bool.or_eq_false_iff, Bool.and_eq_false_iff, Bool.not_eq_true', Bool.not_eq_false', Bool.not_eq_true, Bool.not_eq_false, beq_iff_eq, beq_eq_false_iff_ne, bne_iff_ne, ne_eq] at * <;> omega))
theorem lo23_8 : LoopOk Try.prog gdS (RetAt Try.prog Try.f23 (Rsh.one (none)) none ty4) (bodyAt (bodyOf Try.f23) [0]) LS23_8 :=
  loop_run (ctxOkF gokGmD2 []) (L := lookL []) (loops_of (l := []) (by kernel_rfl) (loops_nil)) sa23_8 va23_8 so23_8
end Go.Proofs.Ytkanaakceokifaa.Sy
namespace Go.Proofs.Ytkanaakceokifaa.Sp
open Go Go.RowKit Sy
def K23_1 (x : Unit) :=
  (Sp.G23_8 ([(0 : Int), (0 : Int), (0 : Int), (4 : Int), (4 : Int), (0 : Int)], [(1 : Int), (1 : Int), (1 : Int), (1 : Int), (0 : Int), (2 : Int)], (0 : Int), (0 : Int), (0 : Int), (0 : Int), (0 : Int), (2 : Int), (3 : Int), (10 : Int), (0 : Int)) ((0 : Int), (Sp.F24 (((0 : Int), (0 : Int), (0 : Int), (0 : Int), (0 : Int), (2 : Int), (3 : Int), (10 : Int), (0 : Int)), ((0 : Int), (0 : Int), (0 : Int), false, (0 : Int)), (2 : Int), false, true)).1))
def F23 (x : Unit) : Bool :=
  bif (((Sp.F24 (((0 : Int), (0 : Int), (0 : Int), (0 : Int), (0 : Int), (2 : Int), (3 : Int), (10 : Int), (0 : Int)), ((0 : Int), (0 : Int), (0 : Int), false, (0 : Int)), (2 : Int), false, true)).1.1 != (1 : Int)) || ((Sp.F24 (((0 : Int), (0 : Int), (0 : Int), (0 : Int), (0 : Int), (2 : Int), (3 : Int), (10 : Int), (0 : Int)), ((0 : Int), (0 : Int), (0 : Int), false, (0 : Int)), (2 : Int), false, true)).2 != (3 : Int))) then
    false
  else
    Sp.optR (Sp.R23_8 ([(0 : Int), (0 : Int), (0 : Int), (4 : Int), (4 : Int), (0 : Int)], [(1 : Int), (1 : Int), (1 : Int), (1 : Int), (0 : Int), (2 : Int)], (0 : Int), (0 : Int), (0 : Int), (0 : Int), (0 : Int), (2 : Int), (3 : Int), (10 : Int), (0 : Int)) ((0 : Int), (Sp.F24 (((0 : Int), (0 : Int), (0 : Int), (0 : Int), (0 : Int), (2 : Int), (3 : Int), (10 : Int), (0 : Int)), ((0 : Int), (0 : Int), (0 : Int), false, (0 : Int)), (2 : Int), false, true)).1)) (fun y => y)
    (((((Sp.K23_1 x).2.1 == (0 : Int)) && (((Sp.K23_1 x).2.2.1 == (0 : Int)) && (((Sp.K23_1 x).2.2.2.1 == (0 : Int)) && (((Sp.K23_1 x).2.2.2.2.1 == false) && ((Sp.K23_1 x).2.2.2.2.2 == (0 : Int)))))) && (!(Sp.F31 ((0 : Int), (1 : Int), (0 : Int), false, (0 : Int))))))
end Go.Proofs.Ytkanaakceokifaa.Sp
namespace Go.Proofs.Ytkanaakceokifaa.Sy
def ct23 : Ct := { p := Ty.unit, psh := [], r := ty4, rsh := (Rsh.one (none)), pre := none, fresh := none, F := Sp.F23 }
theorem va23 (x : Ty.unit.den) : ((evFn (ctxG GmD2) Try.f23 Ty.unit [] (Rsh.one (none)) none ty4 (lookL [(8, LS23_8)]) x)).val (fun y => y) (Ty.dflt ty4) = Sp.F23 x := by kernel_rfl
theorem se23 (x : Ty.unit.den) : ((evFn (ctxG GmD2) Try.f23 Ty.unit [] (Rsh.one (none)) none ty4 (lookL [(8, LS23_8)]) x)).safe = ((((((Sp.F24 (((0 : Int), (0 : Int), (0 : Int), (0 : Int), (0 : Int), (2 : Int), (3 : Int), (10 : Int), (0 : Int)), ((0 : Int), (0 : Int), (0 : Int), false, (0 : Int)), (2 : Int), false, true)).1.1 != (1 : Int)) || ((Sp.F24 (((0 : Int), (0 : Int), (0 : Int), (0 : Int), (0 : Int), (2 : Int), (3 : Int), (10 : Int), (0 : Int)), ((0 : Int), (0 : Int), (0 : Int), false, (0 : Int)), (2 : Int), false, true)).2 != (3 : Int))) = true → True) ∧ ((((Sp.F24 (((0 : Int), (0 : Int), (0 : Int), (0 : Int), (0 : Int), (2 : Int), (3 : Int), (10 : Int), (0 : Int)), ((0 : Int), (0 : Int), (0 : Int), false, (0 : Int)), (2 : Int), false, true)).1.1 != (1 : Int)) || ((Sp.F24 (((0 : Int), (0 : Int), (0 : Int), (0 : Int), (0 : Int), (2 : Int), (3 : Int), (10 : Int), (0 : Int)), ((0 : Int), (0 : Int), (0 : Int), false, (0 : Int)), (2 : Int), false, true)).2 != (3 : Int))) = false → ((Sp.in23_8 ([(0 : Int), (0 : Int), (0 : Int), (4 : Int), (4 : Int), (0 : Int)], [(1 : Int), (1 : Int), (1 : Int), (1 : Int), (0 : Int), (2 : Int)], (0 : Int), (0 : Int), (0 : Int), (0 : Int), (0 : Int), (2 : Int), (3 : Int), (10 : Int), (0 : Int)) ((0 : Int), (Sp.F24 (((0 : Int), (0 : Int), (0 : Int), (0 : Int), (0 : Int), (2 : Int), (3 : Int), (10 : Int), (0 : Int)), ((0 : Int), (0 : Int), (0 : Int), false, (0 : Int)), (2 : Int), false, true)).1)) ∧ ((Sp.R23_8 ([(0 : Int), (0 : Int), (0 : Int), (4 : Int), (4 : Int), (0 : Int)], [(1 : Int), (1 : Int), (1 : Int), (1 : Int), (0 : Int), (2 : Int)], (0 : Int), (0 : Int), (0 : Int), (0 : Int), (0 : Int), (2 : Int), (3 : Int), (10 : Int), (0 : Int)) ((0 : Int), (Sp.F24 (((0 : Int), (0 : Int), (0 : Int), (0 : Int), (0 : Int), (2 : Int), (3 : Int), (10 : Int), (0 : Int)), ((0 : Int), (0 : Int), (0 : Int), false, (0 : Int)), (2 : Int), false, true)).1)) = none → True))))) := by kernel_rfl
theorem sa23 (x : Ty.unit.den) (fx : Fit Ty.unit x) : SafeW ((evFn (ctxG GmD2) Try.f23 Ty.unit [] (Rsh.one (none)) none ty4 (lookL [(8, LS23_8)]) x)) := by
  refine ⟨?_⟩
  rw [se23]
  try dsimp only [Ty.den] at *
  simp only [Fit, maxLen] at fx
  simp only [Sp.in23_8, IntKind.wrap_i64, IntKind.wrap_u8, IntKind.wrap_u32, IntKind.wrap_u64, Sp.tmod_lit, Sp.tdiv_lit, setE, copyL, sliceL, zrow, List.length_append, List.length_cons, List.length_nil, List.length_set, List.length_replicate, List.length_take, List.length_drop, decide_eq_true_eq, decide_eq_false_iff_not, Bool.or_eq_true, Bool.and_eq_true, Bool.or_eq_false_iff, Bool.and_eq_false_iff, Bool.not_eq_true', Bool.not_eq_false', Bool.not_eq_true, Bool.not_eq_false, beq_iff_eq, beq_eq_false_iff_ne, bne_iff_ne, ne_eq, implies_true, and_true, true_and] at *
  all_goals ((repeat' (first | exact trivial | apply And.intro | intro _)) <;> first | trivial | omega | exact Sp.tmod_nn (by omega) | exact Sp.tmod_lt (by omega) (by omega))
theorem ok23 : CtOk Try.prog gdS 23 ct23 :=
  fn_okU (ctxOkF gokGmD2 []) rfl Try.func23 (p := Ty.unit) (psh := []) (r := ty4) (rsh := (Rsh.one (none))) (pre := none) (fresh := none) (F := Sp.F23) (L := (lookL [(8, LS23_8)])) (c := bodyOf Try.f23) (dflt := Ty.dflt ty4) rfl (loops_of (l := [bodyAt (bodyOf Try.f23) [0]]) (by kernel_rfl) (loops_cons (s0 := LS23_8) (by kernel_rfl) lo23_8 (loops_nil)))
    (safe_no @sa23) va23
def GmD3 : List (Nat × Ct) := (23, ct23) :: GmD2
theorem gokGmD3 : GOk GmD3 := gok_cons ok23 ⟨_, Try.func23, by kernel_rfl, by kernel_rfl⟩ (gokGmD2)
end Go.Proofs.Ytkanaakceokifaa.Sy
