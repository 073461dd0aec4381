/- Contracts of functions, by the evaluator (own program gen.py): overlayref11.Next. -/
import Derived.Test.YtidnlehjabhclaaDoorE4
set_option linter.unusedVariables false
set_option linter.unusedSimpArgs false
set_option maxRecDepth 100000
namespace Go.Proofs.YtidnlehjabhclaaDoor.Sy
open Go Go.RowKit Sp
/-! overlayref11.Next -/
end Go.Proofs.YtidnlehjabhclaaDoor.Sy
namespace Go.Proofs.YtidnlehjabhclaaDoor.Sp
open Go Go.RowKit Sy
def F21 (x : Int × (Int × Int) × Int × Int × Int × Int) : Int × Int :=
  bif (((((decide (x.1 < (2 : Int))) || (decide (x.1 > (32 : Int)))) || (decide (x.2.2.1 < (0 : Int)))) || (decide (x.2.2.1 ≥ x.1))) || (!(Sp.F25 x.2.1))) then
    ((0 : Int), (0 : Int))
  else
    bif ((Sp.F20 x).1 == (3 : Int)) then
      ((Sp.F20 x).2.1, (IntKind.i64.wrap ((BitVec.ofInt IntKind.i64.bits (Sp.F37 (x.2.1, x.2.2.1, (Sp.F32 (x.1, x.2.2.2)))) ||| BitVec.ofInt IntKind.i64.bits (IntKind.i64.wrap ((1 : Int) * 2 ^ (min ((IntKind.u64.wrap ((Sp.F20 x).2.2))).toNat IntKind.i64.bits)))).toNat : Int)))
    else
      ((Sp.F20 x).2.1, (0 : Int))
end Go.Proofs.YtidnlehjabhclaaDoor.Sp
namespace Go.Proofs.YtidnlehjabhclaaDoor.Sy
def ct21 : Ct := { p := (Ty.pair ty3 (Ty.pair ty23 (Ty.pair ty3 ty30))), psh := [none, some 2, none, some 3], r := ty23, rsh := (Rsh.one (some 2)), pre := none, fresh := none, F := Sp.F21 }
theorem va21 (x : (Ty.pair ty3 (Ty.pair ty23 (Ty.pair ty3 ty30))).den) : ((evFn (ctxG GmE4) Tryd.f21 (Ty.pair ty3 (Ty.pair ty23 (Ty.pair ty3 ty30))) [none, some 2, none, some 3] (Rsh.one (some 2)) none ty23 noL x)).val (fun y => y) (Ty.dflt ty23) = Sp.F21 x := by kernel_rfl
theorem se21 (x : (Ty.pair ty3 (Ty.pair ty23 (Ty.pair ty3 ty30))).den) : ((evFn (ctxG GmE4) Tryd.f21 (Ty.pair ty3 (Ty.pair ty23 (Ty.pair ty3 ty30))) [none, some 2, none, some 3] (Rsh.one (some 2)) none ty23 noL x)).safe = ((((((((decide (x.1 < (2 : Int))) || (decide (x.1 > (32 : Int)))) || (decide (x.2.2.1 < (0 : Int)))) || (decide (x.2.2.1 ≥ x.1))) || (!(Sp.F25 x.2.1))) = true → True) ∧ ((((((decide (x.1 < (2 : Int))) || (decide (x.1 > (32 : Int)))) || (decide (x.2.2.1 < (0 : Int)))) || (decide (x.2.2.1 ≥ x.1))) || (!(Sp.F25 x.2.1))) = false → ((((Sp.F20 x).1 == (3 : Int)) = true → ((0 ≤ (IntKind.u64.wrap ((Sp.F20 x).2.2))) ∧ True)) ∧ (((Sp.F20 x).1 == (3 : Int)) = false → True))))) := by kernel_rfl
theorem sa21 (x : (Ty.pair ty3 (Ty.pair ty23 (Ty.pair ty3 ty30))).den) (fx : Fit (Ty.pair ty3 (Ty.pair ty23 (Ty.pair ty3 ty30))) x) : SafeW ((evFn (ctxG GmE4) Tryd.f21 (Ty.pair ty3 (Ty.pair ty23 (Ty.pair ty3 ty30))) [none, some 2, none, some 3] (Rsh.one (some 2)) none ty23 noL x)) := by
  refine ⟨?_⟩
  rw [se21]
  try dsimp only [Ty.den] at *
  simp only [Fit, maxLen] at fx
  simp only [true_and, IntKind.wrap_i64, IntKind.wrap_u8, IntKind.wrap_u32, IntKind.wrap_u64, Sp.tmod_lit, Sp.tdiv_lit, bne_eq_false_iff_eq, Int.natCast_inj, setE, copyL, sliceL, zrow, List.length_append, List.length_cons, List.length_nil, List.length_set, List.length_replicate, List.length_take, List.length_drop, decide_eq_true_eq, decide_eq_false_iff_not, Bool.or_eq_true, Bool.and_eq_true, Bool.or_eq_false_iff, Bool.and_eq_false_iff, Bool.not_eq_true', Bool.not_eq_false', Bool.not_eq_true, Bool.not_eq_false, beq_iff_eq, beq_eq_false_iff_ne, bne_iff_ne, ne_eq, implies_true, and_true, true_and] at *
  all_goals ((repeat' (first | exact trivial | apply And.intro | intro _)) <;> first | trivial | omega | exact Sp.tmod_nn (by omega) | exact Sp.tmod_lt (by omega) (by omega))
theorem ok21 : CtOk Tryd.prog gdS 21 ct21 :=
  fn_okU (ctxOkF gokGmE4 []) rfl Tryd.func21 (p := (Ty.pair ty3 (Ty.pair ty23 (Ty.pair ty3 ty30)))) (psh := [none, some 2, none, some 3]) (r := ty23) (rsh := (Rsh.one (some 2))) (pre := none) (fresh := none) (F := Sp.F21) (L := noL) (c := bodyOf Tryd.f21) (dflt := Ty.dflt ty23) rfl (no_loops)
    (safe_no @sa21) va21
def GmE5 : List (Nat × Ct) := (21, ct21) :: GmE4
theorem gokGmE5 : GOk GmE5 := gok_cons ok21 ⟨_, Tryd.func21, by kernel_rfl, by kernel_rfl⟩ (gokGmE4)
end Go.Proofs.YtidnlehjabhclaaDoor.Sy
