/- Contracts of functions, by the evaluator (own program gen.py): overlayref11.Spent. -/
import Derived.Test.YtidnlehjabhclaaDoorE1
set_option linter.unusedVariables false
set_option linter.unusedSimpArgs false
set_option maxRecDepth 100000
namespace Go.Proofs.YtidnlehjabhclaaDoor.Sy
open Go Go.RowKit Sp
/-! overlayref11.Spent -/
end Go.Proofs.YtidnlehjabhclaaDoor.Sy
namespace Go.Proofs.YtidnlehjabhclaaDoor.Sp
open Go Go.RowKit Sy
def F23 (x : Int × (Int × Int) × Int × Int × Int × Int) : Int × Int × Int :=
  bif (((((decide (x.1 < (2 : Int))) || (decide (x.1 > (32 : Int)))) || (decide (x.2.2.1 < (0 : Int)))) || (decide (x.2.2.1 ≥ x.1))) || (!(Sp.F25 x.2.1))) then
    ((0 : Int), (0 : Int), (0 : Int))
  else
    (Sp.F38 ((x.2.1.1, (Sp.F37 (x.2.1, x.2.2.1, (Sp.F32 (x.1, x.2.2.2))))), x.2.2.1, (Sp.F32 (x.1, x.2.2.2))))
end Go.Proofs.YtidnlehjabhclaaDoor.Sp
namespace Go.Proofs.YtidnlehjabhclaaDoor.Sy
def ct23 : Ct := { p := (Ty.pair ty3 (Ty.pair ty23 (Ty.pair ty3 ty30))), psh := [none, some 2, none, some 3], r := ty30, rsh := (Rsh.one (some 3)), pre := none, fresh := none, F := Sp.F23 }
theorem va23 (x : (Ty.pair ty3 (Ty.pair ty23 (Ty.pair ty3 ty30))).den) : ((evFn (ctxG GmE1) Tryd.f23 (Ty.pair ty3 (Ty.pair ty23 (Ty.pair ty3 ty30))) [none, some 2, none, some 3] (Rsh.one (some 3)) none ty30 noL x)).val (fun y => y) (Ty.dflt ty30) = Sp.F23 x := by kernel_rfl
theorem se23 (x : (Ty.pair ty3 (Ty.pair ty23 (Ty.pair ty3 ty30))).den) : ((evFn (ctxG GmE1) Tryd.f23 (Ty.pair ty3 (Ty.pair ty23 (Ty.pair ty3 ty30))) [none, some 2, none, some 3] (Rsh.one (some 3)) none ty30 noL x)).safe = ((((((((decide (x.1 < (2 : Int))) || (decide (x.1 > (32 : Int)))) || (decide (x.2.2.1 < (0 : Int)))) || (decide (x.2.2.1 ≥ x.1))) || (!(Sp.F25 x.2.1))) = true → True) ∧ ((((((decide (x.1 < (2 : Int))) || (decide (x.1 > (32 : Int)))) || (decide (x.2.2.1 < (0 : Int)))) || (decide (x.2.2.1 ≥ x.1))) || (!(Sp.F25 x.2.1))) = false → True))) := by kernel_rfl
theorem sa23 (x : (Ty.pair ty3 (Ty.pair ty23 (Ty.pair ty3 ty30))).den) (fx : Fit (Ty.pair ty3 (Ty.pair ty23 (Ty.pair ty3 ty30))) x) : SafeW ((evFn (ctxG GmE1) Tryd.f23 (Ty.pair ty3 (Ty.pair ty23 (Ty.pair ty3 ty30))) [none, some 2, none, some 3] (Rsh.one (some 3)) none ty30 noL x)) := by
  refine ⟨?_⟩
  rw [se23]
  try dsimp only [Ty.den] at *
  simp only [Fit, maxLen] at fx
  simp only [true_and, IntKind.wrap_i64, IntKind.wrap_u8, IntKind.wrap_u32, IntKind.wrap_u64, Sp.tmod_lit, Sp.tdiv_lit, bne_eq_false_iff_eq, Int.natCast_inj, setE, copyL, sliceL, zrow, List.length_append, List.length_cons, List.length_nil, List.length_set, List.length_replicate, List.length_take, List.length_drop, decide_eq_true_eq, decide_eq_false_iff_not, Bool.or_eq_true, Bool.and_eq_true, Bool.or_eq_false_iff, Bool.and_eq_false_iff, Bool.not_eq_true', Bool.not_eq_false', Bool.not_eq_true, Bool.not_eq_false, beq_iff_eq, beq_eq_false_iff_ne, bne_iff_ne, ne_eq, implies_true, and_true, true_and] at *
  all_goals ((repeat' (first | exact trivial | apply And.intro | intro _)) <;> first | trivial | omega | exact Sp.tmod_nn (by omega) | exact Sp.tmod_lt (by omega) (by omega))
theorem ok23 : CtOk Tryd.prog gdS 23 ct23 :=
  fn_okU (ctxOkF gokGmE1 []) rfl Tryd.func23 (p := (Ty.pair ty3 (Ty.pair ty23 (Ty.pair ty3 ty30)))) (psh := [none, some 2, none, some 3]) (r := ty30) (rsh := (Rsh.one (some 3))) (pre := none) (fresh := none) (F := Sp.F23) (L := noL) (c := bodyOf Tryd.f23) (dflt := Ty.dflt ty30) rfl (no_loops)
    (safe_no @sa23) va23
def GmE2 : List (Nat × Ct) := (23, ct23) :: GmE1
theorem gokGmE2 : GOk GmE2 := gok_cons ok23 ⟨_, Tryd.func23, by kernel_rfl, by kernel_rfl⟩ (gokGmE1)
end Go.Proofs.YtidnlehjabhclaaDoor.Sy
