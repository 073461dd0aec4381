/- Contracts of functions, by the evaluator (own program gen.py): cost.Estimate, overlayref21.Estimate, overlaylaw15.Building. -/
import Derived.Test.YtjdaplmlmmnokaaDoorBuI
set_option linter.unusedVariables false
set_option linter.unusedSimpArgs false
set_option maxRecDepth 100000
namespace Go.Proofs.YtjdaplmlmmnokaaDoor.Sy
open Go Go.RowKit Sp
/-! cost.Estimate -/
end Go.Proofs.YtjdaplmlmmnokaaDoor.Sy
namespace Go.Proofs.YtjdaplmlmmnokaaDoor.Sp
open Go Go.RowKit Sy
def F14 (x : (Int × Int × Int × Int × Nat × Nat × Nat × List (Int × Int × Int × Int × Int × Int × Int × Int × Int)) × Int × (Bool × Bool × Bool × Bool × Int × Int × Int × (Int × Int) × Int × Int × Int) × Int × Int) : Int :=
  bif ((((Sp.F26 x.1) != (0 : Int)) || (decide (x.2.1 < (0 : Int)))) || (decide (x.2.1 ≥ ((x.1.2.2.2.2.2.2.2).length : Int)))) then
    (1000000 : Int)
  else
    bif (x.2.2.1.2.2.2.2.2.1 == (3 : Int)) then
      (bif (decide ((Sp.F7 (x.1.1, x.2.2.1.2.2.2.2.1, (0 : Int), x.2.2.1.2.2.2.2.2.2.2.2, x.2.2.2)) < (0 : Int))) then
        (1000000 : Int)
      else
        (min (IntKind.i64.wrap ((IntKind.i64.wrap ((Sp.F7 (x.1.1, x.2.2.1.2.2.2.2.1, (0 : Int), x.2.2.1.2.2.2.2.2.2.2.2, x.2.2.2)) * (Sp.nthT x.1.2.2.2.2.2.2.2 x.2.1).2.2.2.2.1)) + (IntKind.i64.wrap ((Sp.F9 (x.1.1, x.2.2.1.2.2.2.2.2.2.2.2)) * (IntKind.i64.wrap ((IntKind.i64.wrap ((2 : Int) * (Sp.nthT x.1.2.2.2.2.2.2.2 x.2.1).2.2.2.2.2.1)) + (Sp.nthT x.1.2.2.2.2.2.2.2 x.2.1).2.2.2.2.2.2.1)))))) (1000000 : Int)))
    else
      bif (decide ((Sp.F7 (x.1.1, x.2.2.1.2.2.2.2.1, x.2.2.1.2.2.2.2.2.1, x.2.2.1.2.2.2.2.2.2.2.2, x.2.2.2)) < (0 : Int))) then
        (1000000 : Int)
      else
        (min (IntKind.i64.wrap ((IntKind.i64.wrap ((Sp.F7 (x.1.1, x.2.2.1.2.2.2.2.1, x.2.2.1.2.2.2.2.2.1, x.2.2.1.2.2.2.2.2.2.2.2, x.2.2.2)) * (Sp.nthT x.1.2.2.2.2.2.2.2 x.2.1).2.2.2.2.1)) + (IntKind.i64.wrap ((Sp.F9 (x.1.1, x.2.2.1.2.2.2.2.2.2.2.2)) * (IntKind.i64.wrap ((IntKind.i64.wrap ((2 : Int) * (Sp.nthT x.1.2.2.2.2.2.2.2 x.2.1).2.2.2.2.2.1)) + (Sp.nthT x.1.2.2.2.2.2.2.2 x.2.1).2.2.2.2.2.2.1)))))) (1000000 : Int))
end Go.Proofs.YtjdaplmlmmnokaaDoor.Sp
namespace Go.Proofs.YtjdaplmlmmnokaaDoor.Sy
def ct14 : Ct := { p := (Ty.pair ty42 (Ty.pair ty3 (Ty.pair ty38 (Ty.pair ty3 ty3)))), psh := [some 8, none, some 12, none, none], r := ty3, rsh := (Rsh.one (none)), pre := none, fresh := none, F := Sp.F14 }
theorem va14 (x : (Ty.pair ty42 (Ty.pair ty3 (Ty.pair ty38 (Ty.pair ty3 ty3)))).den) : ((evFn (ctxP PmC0 none GmT2 []) Tryd.f14 (Ty.pair ty42 (Ty.pair ty3 (Ty.pair ty38 (Ty.pair ty3 ty3)))) [some 8, none, some 12, none, none] (Rsh.one (none)) none ty3 noL x)).val (fun y => y) (Ty.dflt ty3) = Sp.F14 x := by kernel_rfl
theorem se14 (x : (Ty.pair ty42 (Ty.pair ty3 (Ty.pair ty38 (Ty.pair ty3 ty3)))).den) : ((evFn (ctxP PmC0 none GmT2 []) Tryd.f14 (Ty.pair ty42 (Ty.pair ty3 (Ty.pair ty38 (Ty.pair ty3 ty3)))) [some 8, none, some 12, none, none] (Rsh.one (none)) none ty3 noL x)).safe = (((((((Sp.F26 x.1) != (0 : Int)) || (decide (x.2.1 < (0 : Int)))) || (decide (x.2.1 ≥ ((x.1.2.2.2.2.2.2.2).length : Int)))) = true → True) ∧ (((((Sp.F26 x.1) != (0 : Int)) || (decide (x.2.1 < (0 : Int)))) || (decide (x.2.1 ≥ ((x.1.2.2.2.2.2.2.2).length : Int)))) = false → (((x.2.2.1.2.2.2.2.2.1 == (3 : Int)) = true → (((decide ((Sp.F7 (x.1.1, x.2.2.1.2.2.2.2.1, (0 : Int), x.2.2.1.2.2.2.2.2.2.2.2, x.2.2.2)) < (0 : Int))) = true → True) ∧ ((decide ((Sp.F7 (x.1.1, x.2.2.1.2.2.2.2.1, (0 : Int), x.2.2.1.2.2.2.2.2.2.2.2, x.2.2.2)) < (0 : Int))) = false → ((0 ≤ x.2.1 ∧ x.2.1 < ((x.1.2.2.2.2.2.2.2).length : Int)) ∧ True)))) ∧ ((x.2.2.1.2.2.2.2.2.1 == (3 : Int)) = false → (((decide ((Sp.F7 (x.1.1, x.2.2.1.2.2.2.2.1, x.2.2.1.2.2.2.2.2.1, x.2.2.1.2.2.2.2.2.2.2.2, x.2.2.2)) < (0 : Int))) = true → True) ∧ ((decide ((Sp.F7 (x.1.1, x.2.2.1.2.2.2.2.1, x.2.2.1.2.2.2.2.2.1, x.2.2.1.2.2.2.2.2.2.2.2, x.2.2.2)) < (0 : Int))) = false → ((0 ≤ x.2.1 ∧ x.2.1 < ((x.1.2.2.2.2.2.2.2).length : Int)) ∧ True)))))))) := by kernel_rfl
theorem sa14 (x : (Ty.pair ty42 (Ty.pair ty3 (Ty.pair ty38 (Ty.pair ty3 ty3)))).den) (fx : Fit (Ty.pair ty42 (Ty.pair ty3 (Ty.pair ty38 (Ty.pair ty3 ty3)))) x) : SafeW ((evFn (ctxP PmC0 none GmT2 []) Tryd.f14 (Ty.pair ty42 (Ty.pair ty3 (Ty.pair ty38 (Ty.pair ty3 ty3)))) [some 8, none, some 12, none, none] (Rsh.one (none)) none ty3 noL x)) := by
  refine ⟨?_⟩
  rw [se14]
  try dsimp only [Ty.den] at *
  simp only [Fit, maxLen] at fx
  simp only [true_and, IntKind.wrap_i64, IntKind.wrap_u8, IntKind.wrap_u32, IntKind.wrap_u64, Sp.tmod_lit, Sp.tdiv_lit, bne_eq_false_iff_eq, Int.natCast_inj, setE, copyL, sliceL, zrow, List.length_append, List.length_cons, List.length_nil, List.length_set, List.length_replicate, List.length_take, List.length_drop, decide_eq_true_eq, decide_eq_false_iff_not, Bool.or_eq_true, Bool.and_eq_true, Bool.or_eq_false_iff, Bool.and_eq_false_iff, Bool.not_eq_true', Bool.not_eq_false', Bool.not_eq_true, Bool.not_eq_false, beq_iff_eq, beq_eq_false_iff_ne, bne_iff_ne, ne_eq, implies_true, and_true, true_and] at *
  all_goals ((repeat' (first | exact trivial | apply And.intro | intro _)) <;> first | trivial | omega | exact Sp.tmod_nn (by omega) | exact Sp.tmod_lt (by omega) (by omega))
theorem ok14 : CtOk Tryd.prog gdS 14 ct14 :=
  fn_okU (ctxOkP pgokPmC0 fvok_none gokGmT2 []) rfl Tryd.func14 (p := (Ty.pair ty42 (Ty.pair ty3 (Ty.pair ty38 (Ty.pair ty3 ty3))))) (psh := [some 8, none, some 12, none, none]) (r := ty3) (rsh := (Rsh.one (none))) (pre := none) (fresh := none) (F := Sp.F14) (L := noL) (c := bodyOf Tryd.f14) (dflt := Ty.dflt ty3) rfl (no_loops)
    (safe_no @sa14) va14
/-! overlayref21.Estimate -/
end Go.Proofs.YtjdaplmlmmnokaaDoor.Sy
namespace Go.Proofs.YtjdaplmlmmnokaaDoor.Sp
open Go Go.RowKit Sy
def F15 (x : (Int × Int × Int × Int × Nat × Nat × Nat × List (Int × Int × Int × Int × Int × Int × Int × Int × Int)) × Int × (Bool × Bool × Bool × Bool × Int × Int × Int × (Int × Int) × Int × Int × Int) × Int × Int) : Int :=
  bif (((((Sp.F27 x.1) != (0 : Int)) || (decide (x.2.1 < (0 : Int)))) || (decide (x.2.1 ≥ ((x.1.2.2.2.2.2.2.2).length : Int)))) || (decide (x.2.2.1.2.2.2.2.1 < (0 : Int)))) then
    (1000000 : Int)
  else
    bif (x.2.2.1.2.2.2.2.2.1 == (3 : Int)) then
      (bif (decide ((Sp.F8 (x.1.1, x.2.2.1.2.2.2.2.1, (0 : Int), x.2.2.1.2.2.2.2.2.2.2.2, x.2.2.2)) < (0 : Int))) then
        (1000000 : Int)
      else
        (min (IntKind.i64.wrap ((IntKind.i64.wrap ((Sp.F8 (x.1.1, x.2.2.1.2.2.2.2.1, (0 : Int), x.2.2.1.2.2.2.2.2.2.2.2, x.2.2.2)) * (Sp.nthT x.1.2.2.2.2.2.2.2 x.2.1).2.2.2.2.1)) + (IntKind.i64.wrap ((Sp.F10 (x.1.1, x.2.2.1.2.2.2.2.2.2.2.2)) * (IntKind.i64.wrap ((IntKind.i64.wrap ((2 : Int) * (Sp.nthT x.1.2.2.2.2.2.2.2 x.2.1).2.2.2.2.2.1)) + (Sp.nthT x.1.2.2.2.2.2.2.2 x.2.1).2.2.2.2.2.2.1)))))) (1000000 : Int)))
    else
      bif (decide ((Sp.F8 (x.1.1, x.2.2.1.2.2.2.2.1, x.2.2.1.2.2.2.2.2.1, x.2.2.1.2.2.2.2.2.2.2.2, x.2.2.2)) < (0 : Int))) then
        (1000000 : Int)
      else
        (min (IntKind.i64.wrap ((IntKind.i64.wrap ((Sp.F8 (x.1.1, x.2.2.1.2.2.2.2.1, x.2.2.1.2.2.2.2.2.1, x.2.2.1.2.2.2.2.2.2.2.2, x.2.2.2)) * (Sp.nthT x.1.2.2.2.2.2.2.2 x.2.1).2.2.2.2.1)) + (IntKind.i64.wrap ((Sp.F10 (x.1.1, x.2.2.1.2.2.2.2.2.2.2.2)) * (IntKind.i64.wrap ((IntKind.i64.wrap ((2 : Int) * (Sp.nthT x.1.2.2.2.2.2.2.2 x.2.1).2.2.2.2.2.1)) + (Sp.nthT x.1.2.2.2.2.2.2.2 x.2.1).2.2.2.2.2.2.1)))))) (1000000 : Int))
end Go.Proofs.YtjdaplmlmmnokaaDoor.Sp
namespace Go.Proofs.YtjdaplmlmmnokaaDoor.Sy
def ct15 : Ct := { p := (Ty.pair ty42 (Ty.pair ty3 (Ty.pair ty38 (Ty.pair ty3 ty3)))), psh := [some 8, none, some 12, none, none], r := ty3, rsh := (Rsh.one (none)), pre := none, fresh := none, F := Sp.F15 }
theorem va15 (x : (Ty.pair ty42 (Ty.pair ty3 (Ty.pair ty38 (Ty.pair ty3 ty3)))).den) : ((evFn (ctxP PmC0 none GmT2 []) Tryd.f15 (Ty.pair ty42 (Ty.pair ty3 (Ty.pair ty38 (Ty.pair ty3 ty3)))) [some 8, none, some 12, none, none] (Rsh.one (none)) none ty3 noL x)).val (fun y => y) (Ty.dflt ty3) = Sp.F15 x := by kernel_rfl
theorem se15 (x : (Ty.pair ty42 (Ty.pair ty3 (Ty.pair ty38 (Ty.pair ty3 ty3)))).den) : ((evFn (ctxP PmC0 none GmT2 []) Tryd.f15 (Ty.pair ty42 (Ty.pair ty3 (Ty.pair ty38 (Ty.pair ty3 ty3)))) [some 8, none, some 12, none, none] (Rsh.one (none)) none ty3 noL x)).safe = ((((((((Sp.F27 x.1) != (0 : Int)) || (decide (x.2.1 < (0 : Int)))) || (decide (x.2.1 ≥ ((x.1.2.2.2.2.2.2.2).length : Int)))) || (decide (x.2.2.1.2.2.2.2.1 < (0 : Int)))) = true → True) ∧ ((((((Sp.F27 x.1) != (0 : Int)) || (decide (x.2.1 < (0 : Int)))) || (decide (x.2.1 ≥ ((x.1.2.2.2.2.2.2.2).length : Int)))) || (decide (x.2.2.1.2.2.2.2.1 < (0 : Int)))) = false → (((x.2.2.1.2.2.2.2.2.1 == (3 : Int)) = true → (((decide ((Sp.F8 (x.1.1, x.2.2.1.2.2.2.2.1, (0 : Int), x.2.2.1.2.2.2.2.2.2.2.2, x.2.2.2)) < (0 : Int))) = true → True) ∧ ((decide ((Sp.F8 (x.1.1, x.2.2.1.2.2.2.2.1, (0 : Int), x.2.2.1.2.2.2.2.2.2.2.2, x.2.2.2)) < (0 : Int))) = false → ((0 ≤ x.2.1 ∧ x.2.1 < ((x.1.2.2.2.2.2.2.2).length : Int)) ∧ True)))) ∧ ((x.2.2.1.2.2.2.2.2.1 == (3 : Int)) = false → (((decide ((Sp.F8 (x.1.1, x.2.2.1.2.2.2.2.1, x.2.2.1.2.2.2.2.2.1, x.2.2.1.2.2.2.2.2.2.2.2, x.2.2.2)) < (0 : Int))) = true → True) ∧ ((decide ((Sp.F8 (x.1.1, x.2.2.1.2.2.2.2.1, x.2.2.1.2.2.2.2.2.1, x.2.2.1.2.2.2.2.2.2.2.2, x.2.2.2)) < (0 : Int))) = false → ((0 ≤ x.2.1 ∧ x.2.1 < ((x.1.2.2.2.2.2.2.2).length : Int)) ∧ True)))))))) := by kernel_rfl
theorem sa15 (x : (Ty.pair ty42 (Ty.pair ty3 (Ty.pair ty38 (Ty.pair ty3 ty3)))).den) (fx : Fit (Ty.pair ty42 (Ty.pair ty3 (Ty.pair ty38 (Ty.pair ty3 ty3)))) x) : SafeW ((evFn (ctxP PmC0 none GmT2 []) Tryd.f15 (Ty.pair ty42 (Ty.pair ty3 (Ty.pair ty38 (Ty.pair ty3 ty3)))) [some 8, none, some 12, none, none] (Rsh.one (none)) none ty3 noL x)) := by
  refine ⟨?_⟩
  rw [se15]
  try dsimp only [Ty.den] at *
  simp only [Fit, maxLen] at fx
  simp only [true_and, IntKind.wrap_i64, IntKind.wrap_u8, IntKind.wrap_u32, IntKind.wrap_u64, Sp.tmod_lit, Sp.tdiv_lit, bne_eq_false_iff_eq, Int.natCast_inj, setE, copyL, sliceL, zrow, List.length_append, List.length_cons, List.length_nil, List.length_set, List.length_replicate, List.length_take, List.length_drop, decide_eq_true_eq, decide_eq_false_iff_not, Bool.or_eq_true, Bool.and_eq_true, Bool.or_eq_false_iff, Bool.and_eq_false_iff, Bool.not_eq_true', Bool.not_eq_false', Bool.not_eq_true, Bool.not_eq_false, beq_iff_eq, beq_eq_false_iff_ne, bne_iff_ne, ne_eq, implies_true, and_true, true_and] at *
  all_goals ((repeat' (first | exact trivial | apply And.intro | intro _)) <;> first | trivial | omega | exact Sp.tmod_nn (by omega) | exact Sp.tmod_lt (by omega) (by omega))
theorem ok15 : CtOk Tryd.prog gdS 15 ct15 :=
  fn_okU (ctxOkP pgokPmC0 fvok_none gokGmT2 []) rfl Tryd.func15 (p := (Ty.pair ty42 (Ty.pair ty3 (Ty.pair ty38 (Ty.pair ty3 ty3))))) (psh := [some 8, none, some 12, none, none]) (r := ty3) (rsh := (Rsh.one (none))) (pre := none) (fresh := none) (F := Sp.F15) (L := noL) (c := bodyOf Tryd.f15) (dflt := Ty.dflt ty3) rfl (no_loops)
    (safe_no @sa15) va15
/-! overlaylaw15.Building -/
end Go.Proofs.YtjdaplmlmmnokaaDoor.Sy
namespace Go.Proofs.YtjdaplmlmmnokaaDoor.Sp
open Go Go.RowKit Sy
def in12_3 (k : (Int)) (x : (Int × Int × Int × Int × Int × Nat × Nat × Nat × List (Int × Int × Int × Int × Int × Int × Int × Int × Int))) : Prop := (0 : Int) ≤ x.1 ∧ x.2.1 ≠ 0 ∧ x.2.2.2.2.2.2.2.2.length ≤ 100
def mu12_3 (k : (Int)) (x : (Int × Int × Int × Int × Int × Nat × Nat × Nat × List (Int × Int × Int × Int × Int × Int × Int × Int × Int))) : Nat := (((x.2.2.2.2.2.2.2.2).length : Int) - x.1).toNat
def K12_3_1 (k : (Int)) (x : (Int × Int × Int × Int × Int × Nat × Nat × Nat × List (Int × Int × Int × Int × Int × Int × Int × Int × Int))) :=
  (setE ty46 x.2.2.2.2.2.2.2.2 x.1 ((Sp.nthT x.2.2.2.2.2.2.2.2 x.1).1, (Sp.nthT x.2.2.2.2.2.2.2.2 x.1).2.1, (Sp.nthT x.2.2.2.2.2.2.2.2 x.1).2.2.1, (Sp.nthT x.2.2.2.2.2.2.2.2 x.1).2.2.2.1, (IntKind.i64.wrap ((1 : Int) + (IntKind.i64.wrap (Int.tmod k (3 : Int))))), (Sp.nthT x.2.2.2.2.2.2.2.2 x.1).2.2.2.2.2))
def K12_3_2 (k : (Int)) (x : (Int × Int × Int × Int × Int × Nat × Nat × Nat × List (Int × Int × Int × Int × Int × Int × Int × Int × Int))) :=
  (setE ty46 (Sp.K12_3_1 k x) x.1 ((Sp.nthT (Sp.K12_3_1 k x) x.1).1, (Sp.nthT (Sp.K12_3_1 k x) x.1).2.1, (Sp.nthT (Sp.K12_3_1 k x) x.1).2.2.1, (Sp.nthT (Sp.K12_3_1 k x) x.1).2.2.2.1, (Sp.nthT (Sp.K12_3_1 k x) x.1).2.2.2.2.1, (IntKind.i64.wrap ((1 : Int) + (IntKind.i64.wrap (Int.tmod (IntKind.u8.wrap (Int.tdiv k (3 : Int))) (3 : Int))))), (Sp.nthT (Sp.K12_3_1 k x) x.1).2.2.2.2.2.2))
def K12_3_3 (k : (Int)) (x : (Int × Int × Int × Int × Int × Nat × Nat × Nat × List (Int × Int × Int × Int × Int × Int × Int × Int × Int))) :=
  (setE ty46 (Sp.K12_3_2 k x) x.1 ((Sp.nthT (Sp.K12_3_2 k x) x.1).1, (Sp.nthT (Sp.K12_3_2 k x) x.1).2.1, (Sp.nthT (Sp.K12_3_2 k x) x.1).2.2.1, (Sp.nthT (Sp.K12_3_2 k x) x.1).2.2.2.1, (Sp.nthT (Sp.K12_3_2 k x) x.1).2.2.2.2.1, (Sp.nthT (Sp.K12_3_2 k x) x.1).2.2.2.2.2.1, (IntKind.i64.wrap ((1 : Int) + (IntKind.i64.wrap (Int.tmod (IntKind.u8.wrap (Int.tdiv k (9 : Int))) (3 : Int))))), (Sp.nthT (Sp.K12_3_2 k x) x.1).2.2.2.2.2.2.2))
def K12_3_4 (k : (Int)) (x : (Int × Int × Int × Int × Int × Nat × Nat × Nat × List (Int × Int × Int × Int × Int × Int × Int × Int × Int))) :=
  (setE ty46 (Sp.K12_3_3 k x) x.1 ((Sp.nthT (Sp.K12_3_3 k x) x.1).1, (Sp.nthT (Sp.K12_3_3 k x) x.1).2.1, (Sp.nthT (Sp.K12_3_3 k x) x.1).2.2.1, (Sp.nthT (Sp.K12_3_3 k x) x.1).2.2.2.1, (Sp.nthT (Sp.K12_3_3 k x) x.1).2.2.2.2.1, (Sp.nthT (Sp.K12_3_3 k x) x.1).2.2.2.2.2.1, (Sp.nthT (Sp.K12_3_3 k x) x.1).2.2.2.2.2.2.1, (IntKind.i64.wrap ((Sp.nthT (Sp.K12_3_3 k x) x.1).2.2.2.2.2.2.1 + (IntKind.i64.wrap (Int.tmod (IntKind.u8.wrap (Int.tdiv k (27 : Int))) (5 : Int))))), (Sp.nthT (Sp.K12_3_3 k x) x.1).2.2.2.2.2.2.2.2))
def K12_3_5 (k : (Int)) (x : (Int × Int × Int × Int × Int × Nat × Nat × Nat × List (Int × Int × Int × Int × Int × Int × Int × Int × Int))) :=
  (setE ty46 (Sp.K12_3_4 k x) x.1 ((Sp.nthT (Sp.K12_3_4 k x) x.1).1, (Sp.nthT (Sp.K12_3_4 k x) x.1).2.1, (Sp.nthT (Sp.K12_3_4 k x) x.1).2.2.1, (Sp.nthT (Sp.K12_3_4 k x) x.1).2.2.2.1, (Sp.nthT (Sp.K12_3_4 k x) x.1).2.2.2.2.1, (Sp.nthT (Sp.K12_3_4 k x) x.1).2.2.2.2.2.1, (Sp.nthT (Sp.K12_3_4 k x) x.1).2.2.2.2.2.2.1, (Sp.nthT (Sp.K12_3_4 k x) x.1).2.2.2.2.2.2.2.1, (Int.tmod (IntKind.i64.wrap (x.1 + (IntKind.i64.wrap k))) x.2.1)))
def st12_3 (k : (Int)) (x : (Int × Int × Int × Int × Int × Nat × Nat × Nat × List (Int × Int × Int × Int × Int × Int × Int × Int × Int))) : BOut (Int) (Int × Int × Int × Int × Int × Nat × Nat × Nat × List (Int × Int × Int × Int × Int × Int × Int × Int × Int)) (Int × Int × Int × Int × Nat × Nat × Nat × List (Int × Int × Int × Int × Int × Int × Int × Int × Int)) :=
  bif (decide (x.1 < ((x.2.2.2.2.2.2.2.2).length : Int))) then
    BOut.next k ((IntKind.i64.wrap (x.1 + (1 : Int))), x.2.1, x.2.2.1, x.2.2.2.1, x.2.2.2.2.1, x.2.2.2.2.2.1, x.2.2.2.2.2.2.1, x.2.2.2.2.2.2.2.1, (Sp.K12_3_5 k x))
  else
    BOut.brk k x
def G12_3 (k : (Int)) (x : (Int × Int × Int × Int × Int × Nat × Nat × Nat × List (Int × Int × Int × Int × Int × Int × Int × Int × Int))) : (Int × Int × Int × Int × Int × Nat × Nat × Nat × List (Int × Int × Int × Int × Int × Int × Int × Int × Int)) := endOf st12_3 k (Nat.succ (mu12_3 k x)) x
end Go.Proofs.YtjdaplmlmmnokaaDoor.Sp
namespace Go.Proofs.YtjdaplmlmmnokaaDoor.Sy
def LS12_3 : LS ty42.den := mkLS ty5 (Ty.pair ty3 ty42)  [(1, none)] [] [(6, none)] [(5, 8)] [(8, 100308, true, 46)] [] [(5, 5)] 0 false Sp.in12_3 Sp.st12_3 Sp.mu12_3
theorem va12_3 (k : ty5.den) (x : (Ty.pair ty3 ty42).den) : ((evCode (ctxP PmC0 none GmT2 []) (lookL []) (bodyAt (bodyOf Tryd.f12) [0]) (tmpl LS12_3 (enc ty5 k) (enc (Ty.pair ty3 ty42) x)) (evRound LS12_3 (evRet (ctxP PmC0 none GmT2 []) Tryd.f12 (Rsh.one (some 8)) (some 46) ty42 .ret)))).val BOut.ret (BOut.brk (Ty.dflt ty5) (Ty.dflt (Ty.pair ty3 ty42))) = Sp.st12_3 k x := by kernel_rfl
theorem se12_3 (k : ty5.den) (x : (Ty.pair ty3 ty42).den) : ((evCode (ctxP PmC0 none GmT2 []) (lookL []) (bodyAt (bodyOf Tryd.f12) [0]) (tmpl LS12_3 (enc ty5 k) (enc (Ty.pair ty3 ty42) x)) (evRound LS12_3 (evRet (ctxP PmC0 none GmT2 []) Tryd.f12 (Rsh.one (some 8)) (some 46) ty42 .ret)))).safe = ((((decide (x.1 < ((x.2.2.2.2.2.2.2.2).length : Int))) = true → ((0 ≤ x.1 ∧ x.1 < ((x.2.2.2.2.2.2.2.2).length : Int)) ∧ (((3 : Int) ≠ 0) ∧ (((3 : Int) ≠ 0) ∧ (((3 : Int) ≠ 0) ∧ (((9 : Int) ≠ 0) ∧ (((3 : Int) ≠ 0) ∧ (((27 : Int) ≠ 0) ∧ (((5 : Int) ≠ 0) ∧ ((x.2.1 ≠ 0) ∧ True)))))))))) ∧ ((decide (x.1 < ((x.2.2.2.2.2.2.2.2).length : Int))) = false → True))) := by kernel_rfl
set_option maxHeartbeats 4000000 in
theorem sa12_3 (k : ty5.den) (x : (Ty.pair ty3 ty42).den) (fk : Fit ty5 k) (fx : Fit (Ty.pair ty3 ty42) x) (h : Sp.in12_3 k x) : SafeW ((evCode (ctxP PmC0 none GmT2 []) (lookL []) (bodyAt (bodyOf Tryd.f12) [0]) (tmpl LS12_3 (enc ty5 k) (enc (Ty.pair ty3 ty42) x)) (evRound LS12_3 (evRet (ctxP PmC0 none GmT2 []) Tryd.f12 (Rsh.one (some 8)) (some 46) ty42 .ret)))) := by
  refine ⟨?_⟩
  rw [se12_3]
  try dsimp only [Ty.den] at *
  simp only [Sp.in12_3, Fit, maxLen] at h fk fx
  simp only [IntKind.wrap_i64, IntKind.wrap_u8, IntKind.wrap_u32, IntKind.wrap_u64, Sp.tmod_lit, Sp.tdiv_lit, bne_eq_false_iff_eq, Int.natCast_inj, setE, copyL, sliceL, zrow, List.length_append, List.length_cons, List.length_nil, List.length_set, List.length_replicate, List.length_take, List.length_drop, decide_eq_true_eq, decide_eq_false_iff_not, Bool.or_eq_true, Bool.and_eq_true, Bool.or_eq_false_iff, Bool.and_eq_false_iff, Bool.not_eq_true', Bool.not_eq_false', Bool.not_eq_true, Bool.not_eq_false, beq_iff_eq, beq_eq_false_iff_ne, bne_iff_ne, ne_eq, implies_true, and_true, true_and] at *
  all_goals ((repeat' (first | exact trivial | apply And.intro | intro _)) <;> first | trivial | omega | exact Sp.tmod_nn (by omega) | exact Sp.tmod_lt (by omega) (by omega))
set_option maxHeartbeats 4000000 in
theorem so12_3 (k : ty5.den) (x : (Ty.pair ty3 ty42).den) (fk : Fit ty5 k) (h : Sp.in12_3 k x) : StepOk false Sp.in12_3 Sp.mu12_3 k x (Sp.st12_3 k x) := by
  try dsimp only [Ty.den] at *
  unfold Sp.in12_3 at h
  unfold Sp.st12_3
  have hlen : (Sp.K12_3_5 k x).length = x.2.2.2.2.2.2.2.2.length := by
    simp only [Sp.K12_3_5, Sp.K12_3_4, Sp.K12_3_3, Sp.K12_3_2, Sp.K12_3_1, setE, List.length_set]
  refine StepOk.cnd (fun hc => ?_) (fun hc => ?_)
  · rw [decide_eq_true_eq] at hc
    refine ⟨rfl, ?_, ?_⟩
    · unfold Sp.in12_3
      simp only
      rw [Sp.wrap_i64_of (x := x.1 + 1) (by omega) (by omega)]
      exact ⟨by omega, h.2.1, by rw [hlen]; exact h.2.2⟩
    · unfold Sp.mu12_3
      simp only
      rw [hlen, Sp.wrap_i64_of (x := x.1 + 1) (by omega) (by omega)]
      omega
  · exact rfl
theorem lo12_3 : LoopOk Tryd.prog gdS (RetAt Tryd.prog Tryd.f12 (Rsh.one (some 8)) (some 46) ty42) (bodyAt (bodyOf Tryd.f12) [0]) LS12_3 :=
  loop_run (ctxOkP pgokPmC0 fvok_none gokGmT2 []) (L := lookL []) (loops_of (l := []) (by kernel_rfl) (loops_nil)) sa12_3 va12_3 so12_3
end Go.Proofs.YtjdaplmlmmnokaaDoor.Sy
namespace Go.Proofs.YtjdaplmlmmnokaaDoor.Sp
open Go Go.RowKit Sy
def F12 (x : Int × Int) : Int × Int × Int × Int × Nat × Nat × Nat × List (Int × Int × Int × Int × Int × Int × Int × Int × Int) :=
  ((Sp.G12_3 x.2 ((0 : Int), (Sp.F25 ((IntKind.i64.wrap ((2 : Int) + (IntKind.i64.wrap (Int.tmod x.1 (5 : Int))))), (IntKind.i64.wrap ((1 : Int) + (IntKind.i64.wrap (Int.tmod (IntKind.u8.wrap (Int.tdiv x.1 (5 : Int))) (3 : Int))))))))).2.1, (Sp.G12_3 x.2 ((0 : Int), (Sp.F25 ((IntKind.i64.wrap ((2 : Int) + (IntKind.i64.wrap (Int.tmod x.1 (5 : Int))))), (IntKind.i64.wrap ((1 : Int) + (IntKind.i64.wrap (Int.tmod (IntKind.u8.wrap (Int.tdiv x.1 (5 : Int))) (3 : Int))))))))).2.2.1, (Sp.G12_3 x.2 ((0 : Int), (Sp.F25 ((IntKind.i64.wrap ((2 : Int) + (IntKind.i64.wrap (Int.tmod x.1 (5 : Int))))), (IntKind.i64.wrap ((1 : Int) + (IntKind.i64.wrap (Int.tmod (IntKind.u8.wrap (Int.tdiv x.1 (5 : Int))) (3 : Int))))))))).2.2.2.1, (IntKind.i64.wrap ((1 : Int) + (IntKind.i64.wrap (Int.tmod x.2 (7 : Int))))), (Sp.G12_3 x.2 ((0 : Int), (Sp.F25 ((IntKind.i64.wrap ((2 : Int) + (IntKind.i64.wrap (Int.tmod x.1 (5 : Int))))), (IntKind.i64.wrap ((1 : Int) + (IntKind.i64.wrap (Int.tmod (IntKind.u8.wrap (Int.tdiv x.1 (5 : Int))) (3 : Int))))))))).2.2.2.2.2)
def pre12 (x : Int × Int) : Prop := (0 ≤ x.1 ∧ x.1 ≤ 255) ∧ 0 ≤ x.2 ∧ x.2 ≤ 255
end Go.Proofs.YtjdaplmlmmnokaaDoor.Sp
namespace Go.Proofs.YtjdaplmlmmnokaaDoor.Sy
def ct12 : Ct := { p := (Ty.pair ty5 ty5), psh := [none, none], r := ty42, rsh := (Rsh.one (some 8)), pre := some Sp.pre12, fresh := (some 46), F := Sp.F12 }
theorem va12 (x : (Ty.pair ty5 ty5).den) : ((evFn (ctxP PmC0 none GmT2 []) Tryd.f12 (Ty.pair ty5 ty5) [none, none] (Rsh.one (some 8)) (some 46) ty42 (lookL [(3, LS12_3)]) x)).val (fun y => y) (Ty.dflt ty42) = Sp.F12 x := by kernel_rfl
theorem se12 (x : (Ty.pair ty5 ty5).den) : ((evFn (ctxP PmC0 none GmT2 []) Tryd.f12 (Ty.pair ty5 ty5) [none, none] (Rsh.one (some 8)) (some 46) ty42 (lookL [(3, LS12_3)]) x)).safe = ((((5 : Int) ≠ 0) ∧ (((5 : Int) ≠ 0) ∧ (((3 : Int) ≠ 0) ∧ ((Sp.pre25 ((IntKind.i64.wrap ((2 : Int) + (IntKind.i64.wrap (Int.tmod x.1 (5 : Int))))), (IntKind.i64.wrap ((1 : Int) + (IntKind.i64.wrap (Int.tmod (IntKind.u8.wrap (Int.tdiv x.1 (5 : Int))) (3 : Int))))))) ∧ ((Sp.in12_3 x.2 ((0 : Int), (Sp.F25 ((IntKind.i64.wrap ((2 : Int) + (IntKind.i64.wrap (Int.tmod x.1 (5 : Int))))), (IntKind.i64.wrap ((1 : Int) + (IntKind.i64.wrap (Int.tmod (IntKind.u8.wrap (Int.tdiv x.1 (5 : Int))) (3 : Int))))))))) ∧ (((7 : Int) ≠ 0) ∧ True))))))) := by kernel_rfl
theorem sa12 (x : (Ty.pair ty5 ty5).den) (fx : Fit (Ty.pair ty5 ty5) x) (h : Sp.pre12 x) : SafeW ((evFn (ctxP PmC0 none GmT2 []) Tryd.f12 (Ty.pair ty5 ty5) [none, none] (Rsh.one (some 8)) (some 46) ty42 (lookL [(3, LS12_3)]) x)) := by
  refine ⟨?_⟩
  rw [se12]
  try dsimp only [Ty.den] at *
  unfold Sp.pre12 at h
  have h1 : IntKind.i64.wrap ((2 : Int) + (IntKind.i64.wrap (Int.tmod x.1 (5 : Int)))) = 2 + x.1 % 5 := by simp only [Sp.tmod_ite, IntKind.wrap_i64]; omega
  have h2 : IntKind.i64.wrap ((1 : Int) + (IntKind.i64.wrap (Int.tmod (IntKind.u8.wrap (Int.tdiv x.1 (5 : Int))) (3 : Int)))) = ((1 + x.1 / 5 % 3).toNat : Int) := by simp only [Sp.tmod_ite, Sp.tdiv_ite, IntKind.wrap_i64, IntKind.wrap_u8]; omega
  rw [h1, h2, Sp.sample_eq _ _ (by omega) (by omega)]
  refine ⟨by omega, by omega, by omega, ?_, ?_, by omega, trivial⟩
  · unfold Sp.pre25; simp only; omega
  · unfold Sp.in12_3
    refine ⟨by simp, ?_, ?_⟩
    · show (2 + x.1 % 5 : Int) ≠ 0; omega
    · show (Sp.sampleB (2 + x.1 % 5) (1 + x.1 / 5 % 3).toNat).cars.length ≤ 100
      rw [Sp.sample_len]; omega
theorem ok12 : CtOk Tryd.prog gdS 12 ct12 :=
  fn_okU (ctxOkP pgokPmC0 fvok_none gokGmT2 []) rfl Tryd.func12 (p := (Ty.pair ty5 ty5)) (psh := [none, none]) (r := ty42) (rsh := (Rsh.one (some 8))) (pre := some Sp.pre12) (fresh := (some 46)) (F := Sp.F12) (L := (lookL [(3, LS12_3)])) (c := bodyOf Tryd.f12) (dflt := Ty.dflt ty42) rfl (loops_of (l := [bodyAt (bodyOf Tryd.f12) [0]]) (by kernel_rfl) (loops_cons (s0 := LS12_3) (by kernel_rfl) lo12_3 (loops_nil)))
    (safe_pre @sa12) va12
def GmE0 : List (Nat × Ct) := (14, ct14) :: (15, ct15) :: (12, ct12) :: GmT2
theorem gokGmE0 : GOk GmE0 := gok_cons ok14 ⟨_, Tryd.func14, by kernel_rfl, by kernel_rfl⟩ (gok_cons ok15 ⟨_, Tryd.func15, by kernel_rfl, by kernel_rfl⟩ (gok_cons ok12 ⟨_, Tryd.func12, by kernel_rfl, by kernel_rfl⟩ (gokGmT2)))
end Go.Proofs.YtjdaplmlmmnokaaDoor.Sy
