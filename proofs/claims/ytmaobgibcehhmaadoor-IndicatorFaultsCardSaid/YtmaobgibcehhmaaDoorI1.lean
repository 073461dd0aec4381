/- Contracts of functions, by the evaluator (own program gen.py): indicator.Floor, indicator.IsObs. -/
import Derived.Test.YtmaobgibcehhmaaDoorI0
set_option linter.unusedVariables false
set_option linter.unusedSimpArgs false
set_option maxRecDepth 100000
namespace Go.Proofs.YtmaobgibcehhmaaDoor.Sy
open Go Go.RowKit Sp
/-! indicator.Floor -/
end Go.Proofs.YtmaobgibcehhmaaDoor.Sy
namespace Go.Proofs.YtmaobgibcehhmaaDoor.Sp
open Go Go.RowKit Sy
def F8 (x : Int × Int) : Int :=
  bif (((Sp.F10 x.1) && ((Sp.F12 x.2) == (1 : Int))) && (decide ((Sp.F11 x.2) < x.1))) then
    (Sp.F11 x.2)
  else
    (-1 : Int)
def pre8 (x : Int × Int) : Prop := 0 ≤ x.2 ∧ x.2 ≤ 4294967295
end Go.Proofs.YtmaobgibcehhmaaDoor.Sp
namespace Go.Proofs.YtmaobgibcehhmaaDoor.Sy
def ct8 : Ct := { p := (Ty.pair ty3 ty22), psh := [none, none], r := ty3, rsh := (Rsh.one (none)), pre := some Sp.pre8, fresh := none, F := Sp.F8 }
theorem va8 (x : (Ty.pair ty3 ty22).den) : ((evFn (ctxG GmI0) Tryd.f8 (Ty.pair ty3 ty22) [none, none] (Rsh.one (none)) none ty3 noL x)).val (fun y => y) (Ty.dflt ty3) = Sp.F8 x := by kernel_rfl
theorem se8 (x : (Ty.pair ty3 ty22).den) : ((evFn (ctxG GmI0) Tryd.f8 (Ty.pair ty3 ty22) [none, none] (Rsh.one (none)) none ty3 noL x)).safe = (((Sp.pre11 x.2) ∧ ((((Sp.F10 x.1) = true → Sp.pre12 x.2)) ∧ (((((Sp.F10 x.1) && ((Sp.F12 x.2) == (1 : Int))) && (decide ((Sp.F11 x.2) < x.1))) = true → True) ∧ ((((Sp.F10 x.1) && ((Sp.F12 x.2) == (1 : Int))) && (decide ((Sp.F11 x.2) < x.1))) = false → True))))) := by kernel_rfl
theorem sa8 (x : (Ty.pair ty3 ty22).den) (fx : Fit (Ty.pair ty3 ty22) x) (h : Sp.pre8 x) : SafeW ((evFn (ctxG GmI0) Tryd.f8 (Ty.pair ty3 ty22) [none, none] (Rsh.one (none)) none ty3 noL x)) := by
  refine ⟨?_⟩
  rw [se8]
  try dsimp only [Ty.den] at *
  simp only [Fit, maxLen] at fx
  simp only [Sp.pre8, Sp.pre11, Sp.pre12, IntKind.wrap_i64, IntKind.wrap_u8, IntKind.wrap_u32, IntKind.wrap_u64, Sp.tmod_lit, Sp.tdiv_lit, bne_eq_false_iff_eq, Int.natCast_inj, setE, copyL, sliceL, zrow, List.length_append, List.length_cons, List.length_nil, List.length_set, List.length_replicate, List.length_take, List.length_drop, decide_eq_true_eq, decide_eq_false_iff_not, Bool.or_eq_true, Bool.and_eq_true, Bool.or_eq_false_iff, Bool.and_eq_false_iff, Bool.not_eq_true', Bool.not_eq_false', Bool.not_eq_true, Bool.not_eq_false, beq_iff_eq, beq_eq_false_iff_ne, bne_iff_ne, ne_eq, implies_true, and_true, true_and] at *
  all_goals ((repeat' (first | exact trivial | apply And.intro | intro _)) <;> first | trivial | omega | exact Sp.tmod_nn (by omega) | exact Sp.tmod_lt (by omega) (by omega))
theorem ok8 : CtOk Tryd.prog gdS 8 ct8 :=
  fn_okU (ctxOkF gokGmI0 []) rfl Tryd.func8 (p := (Ty.pair ty3 ty22)) (psh := [none, none]) (r := ty3) (rsh := (Rsh.one (none))) (pre := some Sp.pre8) (fresh := none) (F := Sp.F8) (L := noL) (c := bodyOf Tryd.f8) (dflt := Ty.dflt ty3) rfl (no_loops)
    (safe_pre @sa8) va8
/-! indicator.IsObs -/
end Go.Proofs.YtmaobgibcehhmaaDoor.Sy
namespace Go.Proofs.YtmaobgibcehhmaaDoor.Sp
open Go Go.RowKit Sy
def F7 (x : Int × Int × Int × Int) : Bool :=
  (((((((Sp.F10 x.1) && (decide (x.2.1 ≥ (-1 : Int)))) && (decide (x.2.1 < x.1))) && (decide (x.2.2.1 ≥ (0 : Int)))) && (decide (x.2.2.1 ≤ (3 : Int)))) && (decide (x.2.2.2 ≥ (0 : Int)))) && (decide (x.2.2.2 ≤ (3 : Int))))
end Go.Proofs.YtmaobgibcehhmaaDoor.Sp
namespace Go.Proofs.YtmaobgibcehhmaaDoor.Sy
def ct7 : Ct := { p := (Ty.pair ty3 ty32), psh := [none, some 3], r := ty4, rsh := (Rsh.one (none)), pre := none, fresh := none, F := Sp.F7 }
theorem va7 (x : (Ty.pair ty3 ty32).den) : ((evFn (ctxG GmI0) Tryd.f7 (Ty.pair ty3 ty32) [none, some 3] (Rsh.one (none)) none ty4 noL x)).val (fun y => y) (Ty.dflt ty4) = Sp.F7 x := by kernel_rfl
theorem se7 (x : (Ty.pair ty3 ty32).den) : ((evFn (ctxG GmI0) Tryd.f7 (Ty.pair ty3 ty32) [none, some 3] (Rsh.one (none)) none ty4 noL x)).safe = (True) := by kernel_rfl
theorem sa7 (x : (Ty.pair ty3 ty32).den) (fx : Fit (Ty.pair ty3 ty32) x) : SafeW ((evFn (ctxG GmI0) Tryd.f7 (Ty.pair ty3 ty32) [none, some 3] (Rsh.one (none)) none ty4 noL x)) := by
  refine ⟨?_⟩
  rw [se7]
  trivial
theorem ok7 : CtOk Tryd.prog gdS 7 ct7 :=
  fn_okU (ctxOkF gokGmI0 []) rfl Tryd.func7 (p := (Ty.pair ty3 ty32)) (psh := [none, some 3]) (r := ty4) (rsh := (Rsh.one (none))) (pre := none) (fresh := none) (F := Sp.F7) (L := noL) (c := bodyOf Tryd.f7) (dflt := Ty.dflt ty4) rfl (no_loops)
    (safe_no @sa7) va7
def GmI1 : List (Nat × Ct) := (8, ct8) :: (7, ct7) :: GmI0
theorem gokGmI1 : GOk GmI1 := gok_cons ok8 ⟨_, Tryd.func8, by kernel_rfl, by kernel_rfl⟩ (gok_cons ok7 ⟨_, Tryd.func7, by kernel_rfl, by kernel_rfl⟩ (gokGmI0))
end Go.Proofs.YtmaobgibcehhmaaDoor.Sy
