/- Contracts of functions, by the evaluator (own program gen.py): indicator.Decode, indicator.Shows. -/
import Derived.Test.YtmaobgibcehhmaaDoorI1
set_option linter.unusedVariables false
set_option linter.unusedSimpArgs false
set_option maxRecDepth 100000
namespace Go.Proofs.YtmaobgibcehhmaaDoor.Sy
open Go Go.RowKit Sp
/-! indicator.Decode -/
end Go.Proofs.YtmaobgibcehhmaaDoor.Sy
namespace Go.Proofs.YtmaobgibcehhmaaDoor.Sp
open Go Go.RowKit Sy
def F5 (x : Int × Int × Bool × Bool × Bool × Bool) : Int × Int × Int :=
  ((Sp.F8 (x.1, x.2.1)), (Sp.F9 (x.2.2.1, x.2.2.2.1, (0 : Int), (1 : Int), (2 : Int), (3 : Int))), (Sp.F9 (x.2.2.2.2.1, x.2.2.2.2.2, (0 : Int), (1 : Int), (2 : Int), (3 : Int))))
def pre5 (x : Int × Int × Bool × Bool × Bool × Bool) : Prop := 0 ≤ x.2.1 ∧ x.2.1 ≤ 4294967295
end Go.Proofs.YtmaobgibcehhmaaDoor.Sp
namespace Go.Proofs.YtmaobgibcehhmaaDoor.Sy
def ct5 : Ct := { p := (Ty.pair ty3 ty24), psh := [none, some 5], r := ty32, rsh := (Rsh.one (some 3)), pre := some Sp.pre5, fresh := none, F := Sp.F5 }
theorem va5 (x : (Ty.pair ty3 ty24).den) : ((evFn (ctxG GmI1) Tryd.f5 (Ty.pair ty3 ty24) [none, some 5] (Rsh.one (some 3)) none ty32 noL x)).val (fun y => y) (Ty.dflt ty32) = Sp.F5 x := by kernel_rfl
theorem se5 (x : (Ty.pair ty3 ty24).den) : ((evFn (ctxG GmI1) Tryd.f5 (Ty.pair ty3 ty24) [none, some 5] (Rsh.one (some 3)) none ty32 noL x)).safe = (((Sp.pre8 (x.1, x.2.1)) ∧ True)) := by kernel_rfl
theorem sa5 (x : (Ty.pair ty3 ty24).den) (fx : Fit (Ty.pair ty3 ty24) x) (h : Sp.pre5 x) : SafeW ((evFn (ctxG GmI1) Tryd.f5 (Ty.pair ty3 ty24) [none, some 5] (Rsh.one (some 3)) none ty32 noL x)) := by
  refine ⟨?_⟩
  rw [se5]
  try dsimp only [Ty.den] at *
  simp only [Fit, maxLen] at fx
  simp only [Sp.pre5, Sp.pre8, IntKind.wrap_i64, IntKind.wrap_u8, IntKind.wrap_u32, IntKind.wrap_u64, Sp.tmod_lit, Sp.tdiv_lit, bne_eq_false_iff_eq, Int.natCast_inj, setE, copyL, sliceL, zrow, List.length_append, List.length_cons, List.length_nil, List.length_set, List.length_replicate, List.length_take, List.length_drop, decide_eq_true_eq, decide_eq_false_iff_not, Bool.or_eq_true, Bool.and_eq_true, Bool.or_eq_false_iff, Bool.and_eq_false_iff, Bool.not_eq_true', Bool.not_eq_false', Bool.not_eq_true, Bool.not_eq_false, beq_iff_eq, beq_eq_false_iff_ne, bne_iff_ne, ne_eq, implies_true, and_true, true_and] at *
  all_goals ((repeat' (first | exact trivial | apply And.intro | intro _)) <;> first | trivial | omega | exact Sp.tmod_nn (by omega) | exact Sp.tmod_lt (by omega) (by omega))
theorem ok5 : CtOk Tryd.prog gdS 5 ct5 :=
  fn_okU (ctxOkF gokGmI1 []) rfl Tryd.func5 (p := (Ty.pair ty3 ty24)) (psh := [none, some 5]) (r := ty32) (rsh := (Rsh.one (some 3))) (pre := some Sp.pre5) (fresh := none) (F := Sp.F5) (L := noL) (c := bodyOf Tryd.f5) (dflt := Ty.dflt ty32) rfl (no_loops)
    (safe_pre @sa5) va5
/-! indicator.Shows -/
end Go.Proofs.YtmaobgibcehhmaaDoor.Sy
namespace Go.Proofs.YtmaobgibcehhmaaDoor.Sp
open Go Go.RowKit Sy
def F4 (x : Int × Int × Int × Int) : Int × Int :=
  bif (((!(Sp.F7 x)) || (x.2.2.2 != (1 : Int))) || (decide (x.2.1 < (0 : Int)))) then
    ((0 : Int), (0 : Int))
  else
    bif ((x.2.2.1 == (1 : Int)) && (decide (x.2.1 < (IntKind.i64.wrap (x.1 - (1 : Int)))))) then
      ((IntKind.u32.wrap ((1 : Int) * 2 ^ (min (x.2.1).toNat IntKind.u32.bits))), (0 : Int))
    else
      bif ((x.2.2.1 == (2 : Int)) && (decide (x.2.1 > (0 : Int)))) then
        ((0 : Int), (IntKind.u32.wrap ((1 : Int) * 2 ^ (min (x.2.1).toNat IntKind.u32.bits))))
      else
        ((0 : Int), (0 : Int))
end Go.Proofs.YtmaobgibcehhmaaDoor.Sp
namespace Go.Proofs.YtmaobgibcehhmaaDoor.Sy
def ct4 : Ct := { p := (Ty.pair ty3 ty32), psh := [none, some 3], r := ty29, rsh := (Rsh.one (some 2)), pre := none, fresh := none, F := Sp.F4 }
theorem va4 (x : (Ty.pair ty3 ty32).den) : ((evFn (ctxG GmI1) Tryd.f4 (Ty.pair ty3 ty32) [none, some 3] (Rsh.one (some 2)) none ty29 noL x)).val (fun y => y) (Ty.dflt ty29) = Sp.F4 x := by kernel_rfl
theorem se4 (x : (Ty.pair ty3 ty32).den) : ((evFn (ctxG GmI1) Tryd.f4 (Ty.pair ty3 ty32) [none, some 3] (Rsh.one (some 2)) none ty29 noL x)).safe = ((((((!(Sp.F7 x)) || (x.2.2.2 != (1 : Int))) || (decide (x.2.1 < (0 : Int)))) = true → True) ∧ ((((!(Sp.F7 x)) || (x.2.2.2 != (1 : Int))) || (decide (x.2.1 < (0 : Int)))) = false → ((((x.2.2.1 == (1 : Int)) && (decide (x.2.1 < (IntKind.i64.wrap (x.1 - (1 : Int)))))) = true → ((0 ≤ x.2.1) ∧ True)) ∧ (((x.2.2.1 == (1 : Int)) && (decide (x.2.1 < (IntKind.i64.wrap (x.1 - (1 : Int)))))) = false → ((((x.2.2.1 == (2 : Int)) && (decide (x.2.1 > (0 : Int)))) = true → ((0 ≤ x.2.1) ∧ True)) ∧ (((x.2.2.1 == (2 : Int)) && (decide (x.2.1 > (0 : Int)))) = false → True))))))) := by kernel_rfl
theorem sa4 (x : (Ty.pair ty3 ty32).den) (fx : Fit (Ty.pair ty3 ty32) x) : SafeW ((evFn (ctxG GmI1) Tryd.f4 (Ty.pair ty3 ty32) [none, some 3] (Rsh.one (some 2)) none ty29 noL x)) := by
  refine ⟨?_⟩
  rw [se4]
  try dsimp only [Ty.den] at *
  simp only [Fit, maxLen] at fx
  simp only [true_and, IntKind.wrap_i64, IntKind.wrap_u8, IntKind.wrap_u32, IntKind.wrap_u64, Sp.tmod_lit, Sp.tdiv_lit, bne_eq_false_iff_eq, Int.natCast_inj, setE, copyL, sliceL, zrow, List.length_append, List.length_cons, List.length_nil, List.length_set, List.length_replicate, List.length_take, List.length_drop, decide_eq_true_eq, decide_eq_false_iff_not, Bool.or_eq_true, Bool.and_eq_true, Bool.or_eq_false_iff, Bool.and_eq_false_iff, Bool.not_eq_true', Bool.not_eq_false', Bool.not_eq_true, Bool.not_eq_false, beq_iff_eq, beq_eq_false_iff_ne, bne_iff_ne, ne_eq, implies_true, and_true, true_and] at *
  all_goals ((repeat' (first | exact trivial | apply And.intro | intro _)) <;> first | trivial | omega | exact Sp.tmod_nn (by omega) | exact Sp.tmod_lt (by omega) (by omega))
theorem ok4 : CtOk Tryd.prog gdS 4 ct4 :=
  fn_okU (ctxOkF gokGmI1 []) rfl Tryd.func4 (p := (Ty.pair ty3 ty32)) (psh := [none, some 3]) (r := ty29) (rsh := (Rsh.one (some 2))) (pre := none) (fresh := none) (F := Sp.F4) (L := noL) (c := bodyOf Tryd.f4) (dflt := Ty.dflt ty29) rfl (no_loops)
    (safe_no @sa4) va4
def GmI2 : List (Nat × Ct) := (5, ct5) :: (4, ct4) :: GmI1
theorem gokGmI2 : GOk GmI2 := gok_cons ok5 ⟨_, Tryd.func5, by kernel_rfl, by kernel_rfl⟩ (gok_cons ok4 ⟨_, Tryd.func4, by kernel_rfl, by kernel_rfl⟩ (gokGmI1))
end Go.Proofs.YtmaobgibcehhmaaDoor.Sy
