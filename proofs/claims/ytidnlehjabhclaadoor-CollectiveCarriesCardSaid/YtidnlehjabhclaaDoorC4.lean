/- Contracts of functions, by the evaluator (own program gen.py): collective.Choose, collective.Next. -/
import Derived.Test.YtidnlehjabhclaaDoorCa
set_option linter.unusedVariables false
set_option linter.unusedSimpArgs false
set_option maxRecDepth 100000
namespace Go.Proofs.YtidnlehjabhclaaDoor.Sy
open Go Go.RowKit Sp
/-! collective.Choose -/
end Go.Proofs.YtidnlehjabhclaaDoor.Sy
namespace Go.Proofs.YtidnlehjabhclaaDoor.Sp
open Go Go.RowKit Sy
def F9 (x : Int × (Int × Int) × Int × Int × Int × Int) : Int × Int × Int :=
  bif (!(Sp.F17 (x.1, x.2.1, x.2.2.1))) then
    ((0 : Int), (0 : Int), (0 : Int))
  else
    (Sp.F18 x).1
end Go.Proofs.YtidnlehjabhclaaDoor.Sp
namespace Go.Proofs.YtidnlehjabhclaaDoor.Sy
def ct9 : Ct := { p := (Ty.pair ty3 (Ty.pair ty23 (Ty.pair ty3 ty30))), psh := [none, some 2, none, some 3], r := ty35, rsh := (Rsh.one (some 3)), pre := none, fresh := none, F := Sp.F9 }
theorem va9 (x : (Ty.pair ty3 (Ty.pair ty23 (Ty.pair ty3 ty30))).den) : ((evFn (ctxG GmC3) Tryd.f9 (Ty.pair ty3 (Ty.pair ty23 (Ty.pair ty3 ty30))) [none, some 2, none, some 3] (Rsh.one (some 3)) none ty35 noL x)).val (fun y => y) (Ty.dflt ty35) = Sp.F9 x := by kernel_rfl
theorem se9 (x : (Ty.pair ty3 (Ty.pair ty23 (Ty.pair ty3 ty30))).den) : ((evFn (ctxG GmC3) Tryd.f9 (Ty.pair ty3 (Ty.pair ty23 (Ty.pair ty3 ty30))) [none, some 2, none, some 3] (Rsh.one (some 3)) none ty35 noL x)).safe = ((((!(Sp.F17 (x.1, x.2.1, x.2.2.1))) = true → True) ∧ ((!(Sp.F17 (x.1, x.2.1, x.2.2.1))) = false → ((Sp.pre18 x) ∧ True)))) := by kernel_rfl
theorem sa9 (x : (Ty.pair ty3 (Ty.pair ty23 (Ty.pair ty3 ty30))).den) (fx : Fit (Ty.pair ty3 (Ty.pair ty23 (Ty.pair ty3 ty30))) x) : SafeW ((evFn (ctxG GmC3) Tryd.f9 (Ty.pair ty3 (Ty.pair ty23 (Ty.pair ty3 ty30))) [none, some 2, none, some 3] (Rsh.one (some 3)) none ty35 noL x)) := by
  refine ⟨?_⟩
  rw [se9]
  try dsimp only [Ty.den] at *
  simp only [Fit, maxLen] at fx
  simp only [Sp.pre18, Sp.F17, Sp.F24, IntKind.wrap_i64, IntKind.wrap_u8, IntKind.wrap_u32, IntKind.wrap_u64, Sp.tmod_lit, Sp.tdiv_lit, bne_eq_false_iff_eq, Int.natCast_inj, setE, copyL, sliceL, zrow, List.length_append, List.length_cons, List.length_nil, List.length_set, List.length_replicate, List.length_take, List.length_drop, decide_eq_true_eq, decide_eq_false_iff_not, Bool.or_eq_true, Bool.and_eq_true, Bool.or_eq_false_iff, Bool.and_eq_false_iff, Bool.not_eq_true', Bool.not_eq_false', Bool.not_eq_true, Bool.not_eq_false, beq_iff_eq, beq_eq_false_iff_ne, bne_iff_ne, ne_eq, implies_true, and_true, true_and] at *
  all_goals ((repeat' (first | exact trivial | apply And.intro | intro _)) <;> first | trivial | omega | exact Sp.tmod_nn (by omega) | exact Sp.tmod_lt (by omega) (by omega))
theorem ok9 : CtOk Tryd.prog gdS 9 ct9 :=
  fn_okU (ctxOkF gokGmC3 []) rfl Tryd.func9 (p := (Ty.pair ty3 (Ty.pair ty23 (Ty.pair ty3 ty30)))) (psh := [none, some 2, none, some 3]) (r := ty35) (rsh := (Rsh.one (some 3))) (pre := none) (fresh := none) (F := Sp.F9) (L := noL) (c := bodyOf Tryd.f9) (dflt := Ty.dflt ty35) rfl (no_loops)
    (safe_no @sa9) va9
/-! collective.Next -/
end Go.Proofs.YtidnlehjabhclaaDoor.Sy
namespace Go.Proofs.YtidnlehjabhclaaDoor.Sp
open Go Go.RowKit Sy
def F14 (x : Int × (Int × Int) × Int × Int × Int × Int) : Int × Int :=
  bif (!(Sp.F17 (x.1, x.2.1, x.2.2.1))) then
    ((0 : Int), (0 : Int))
  else
    bif ((Sp.F18 x).1.1 != (3 : Int)) then
      ((Sp.F18 x).1.2.1, (0 : Int))
    else
      ((Sp.F18 x).1.2.1, (IntKind.i64.wrap ((BitVec.ofInt IntKind.i64.bits ((Sp.F18 x).2) ||| BitVec.ofInt IntKind.i64.bits (IntKind.i64.wrap ((1 : Int) * 2 ^ (min ((Sp.F18 x).1.2.2).toNat IntKind.i64.bits)))).toNat : Int)))
end Go.Proofs.YtidnlehjabhclaaDoor.Sp
namespace Go.Proofs.YtidnlehjabhclaaDoor.Sy
def ct14 : Ct := { p := (Ty.pair ty3 (Ty.pair ty23 (Ty.pair ty3 ty30))), psh := [none, some 2, none, some 3], r := ty23, rsh := (Rsh.one (some 2)), pre := none, fresh := none, F := Sp.F14 }
theorem va14 (x : (Ty.pair ty3 (Ty.pair ty23 (Ty.pair ty3 ty30))).den) : ((evFn (ctxG GmC3) Tryd.f14 (Ty.pair ty3 (Ty.pair ty23 (Ty.pair ty3 ty30))) [none, some 2, none, some 3] (Rsh.one (some 2)) none ty23 noL x)).val (fun y => y) (Ty.dflt ty23) = Sp.F14 x := by kernel_rfl
theorem se14 (x : (Ty.pair ty3 (Ty.pair ty23 (Ty.pair ty3 ty30))).den) : ((evFn (ctxG GmC3) Tryd.f14 (Ty.pair ty3 (Ty.pair ty23 (Ty.pair ty3 ty30))) [none, some 2, none, some 3] (Rsh.one (some 2)) none ty23 noL x)).safe = ((((!(Sp.F17 (x.1, x.2.1, x.2.2.1))) = true → True) ∧ ((!(Sp.F17 (x.1, x.2.1, x.2.2.1))) = false → ((Sp.pre18 x) ∧ ((((Sp.F18 x).1.1 != (3 : Int)) = true → True) ∧ (((Sp.F18 x).1.1 != (3 : Int)) = false → ((0 ≤ (Sp.F18 x).1.2.2) ∧ True))))))) := by kernel_rfl
theorem sa14 (x : (Ty.pair ty3 (Ty.pair ty23 (Ty.pair ty3 ty30))).den) (fx : Fit (Ty.pair ty3 (Ty.pair ty23 (Ty.pair ty3 ty30))) x) : SafeW ((evFn (ctxG GmC3) Tryd.f14 (Ty.pair ty3 (Ty.pair ty23 (Ty.pair ty3 ty30))) [none, some 2, none, some 3] (Rsh.one (some 2)) none ty23 noL x)) := by
  refine ⟨?_⟩
  rw [se14]
  try dsimp only [Ty.den] at *
  refine ⟨fun _ => trivial, fun hp => ?_⟩
  simp only [Bool.not_eq_false', Sp.F17, Sp.F24, Bool.and_eq_true, decide_eq_true_eq] at hp
  have hb := Sp.choose_bd x (by omega) (by omega)
  simp only [Sp.pre18]
  repeat' (first | exact trivial | apply And.intro | intro _)
  all_goals omega
theorem ok14 : CtOk Tryd.prog gdS 14 ct14 :=
  fn_okU (ctxOkF gokGmC3 []) rfl Tryd.func14 (p := (Ty.pair ty3 (Ty.pair ty23 (Ty.pair ty3 ty30)))) (psh := [none, some 2, none, some 3]) (r := ty23) (rsh := (Rsh.one (some 2))) (pre := none) (fresh := none) (F := Sp.F14) (L := noL) (c := bodyOf Tryd.f14) (dflt := Ty.dflt ty23) rfl (no_loops)
    (safe_no @sa14) va14
def GmC4 : List (Nat × Ct) := (9, ct9) :: (14, ct14) :: GmC3
theorem gokGmC4 : GOk GmC4 := gok_cons ok9 ⟨_, Tryd.func9, by kernel_rfl, by kernel_rfl⟩ (gok_cons ok14 ⟨_, Tryd.func14, by kernel_rfl, by kernel_rfl⟩ (gokGmC3))
end Go.Proofs.YtidnlehjabhclaaDoor.Sy
