/- Contracts of functions, by the evaluator (own program gen.py): collective.proper, calls.Has, <collective.here>.resting, <collective.here>.falling. -/
import Derived.Test.YtidnlehjabhclaaDoorC0
set_option linter.unusedVariables false
set_option linter.unusedSimpArgs false
set_option maxRecDepth 100000
namespace Go.Proofs.YtidnlehjabhclaaDoor.Sy
open Go Go.RowKit Sp
/-! collective.proper -/
end Go.Proofs.YtidnlehjabhclaaDoor.Sy
namespace Go.Proofs.YtidnlehjabhclaaDoor.Sp
open Go Go.RowKit Sy
def F17 (x : Int × (Int × Int) × Int) : Bool :=
  (((((decide (x.1 ≥ (2 : Int))) && (decide (x.1 ≤ (32 : Int)))) && (decide (x.2.2 ≥ (0 : Int)))) && (decide (x.2.2 < x.1))) && (Sp.F24 x.2.1))
end Go.Proofs.YtidnlehjabhclaaDoor.Sp
namespace Go.Proofs.YtidnlehjabhclaaDoor.Sy
def ct17 : Ct := { p := (Ty.pair ty3 (Ty.pair ty23 ty3)), psh := [none, some 2, none], r := ty4, rsh := (Rsh.one (none)), pre := none, fresh := none, F := Sp.F17 }
theorem va17 (x : (Ty.pair ty3 (Ty.pair ty23 ty3)).den) : ((evFn (ctxG GmC0) Tryd.f17 (Ty.pair ty3 (Ty.pair ty23 ty3)) [none, some 2, none] (Rsh.one (none)) none ty4 noL x)).val (fun y => y) (Ty.dflt ty4) = Sp.F17 x := by kernel_rfl
theorem se17 (x : (Ty.pair ty3 (Ty.pair ty23 ty3)).den) : ((evFn (ctxG GmC0) Tryd.f17 (Ty.pair ty3 (Ty.pair ty23 ty3)) [none, some 2, none] (Rsh.one (none)) none ty4 noL x)).safe = (True) := by kernel_rfl
theorem sa17 (x : (Ty.pair ty3 (Ty.pair ty23 ty3)).den) (fx : Fit (Ty.pair ty3 (Ty.pair ty23 ty3)) x) : SafeW ((evFn (ctxG GmC0) Tryd.f17 (Ty.pair ty3 (Ty.pair ty23 ty3)) [none, some 2, none] (Rsh.one (none)) none ty4 noL x)) := by
  refine ⟨?_⟩
  rw [se17]
  trivial
theorem ok17 : CtOk Tryd.prog gdS 17 ct17 :=
  fn_okU (ctxOkF gokGmC0 []) rfl Tryd.func17 (p := (Ty.pair ty3 (Ty.pair ty23 ty3))) (psh := [none, some 2, none]) (r := ty4) (rsh := (Rsh.one (none))) (pre := none) (fresh := none) (F := Sp.F17) (L := noL) (c := bodyOf Tryd.f17) (dflt := Ty.dflt ty4) rfl (no_loops)
    (safe_no @sa17) va17
/-! calls.Has -/
end Go.Proofs.YtidnlehjabhclaaDoor.Sy
namespace Go.Proofs.YtidnlehjabhclaaDoor.Sp
open Go Go.RowKit Sy
def F40 (x : (Int × Int) × Int × Int) : Bool :=
  (!(((Sp.F39 (x.1, (Sp.F48 x.2))).1 == (0 : Int)) && ((Sp.F39 (x.1, (Sp.F48 x.2))).2 == (0 : Int))))
end Go.Proofs.YtidnlehjabhclaaDoor.Sp
namespace Go.Proofs.YtidnlehjabhclaaDoor.Sy
def ct40 : Ct := { p := (Ty.pair ty28 (Ty.pair ty3 ty3)), psh := [some 2, none, none], r := ty4, rsh := (Rsh.one (none)), pre := none, fresh := none, F := Sp.F40 }
theorem va40 (x : (Ty.pair ty28 (Ty.pair ty3 ty3)).den) : ((evFn (ctxG GmC0) Tryd.f40 (Ty.pair ty28 (Ty.pair ty3 ty3)) [some 2, none, none] (Rsh.one (none)) none ty4 noL x)).val (fun y => y) (Ty.dflt ty4) = Sp.F40 x := by kernel_rfl
theorem se40 (x : (Ty.pair ty28 (Ty.pair ty3 ty3)).den) : ((evFn (ctxG GmC0) Tryd.f40 (Ty.pair ty28 (Ty.pair ty3 ty3)) [some 2, none, none] (Rsh.one (none)) none ty4 noL x)).safe = (True) := by kernel_rfl
theorem sa40 (x : (Ty.pair ty28 (Ty.pair ty3 ty3)).den) (fx : Fit (Ty.pair ty28 (Ty.pair ty3 ty3)) x) : SafeW ((evFn (ctxG GmC0) Tryd.f40 (Ty.pair ty28 (Ty.pair ty3 ty3)) [some 2, none, none] (Rsh.one (none)) none ty4 noL x)) := by
  refine ⟨?_⟩
  rw [se40]
  trivial
theorem ok40 : CtOk Tryd.prog gdS 40 ct40 :=
  fn_okU (ctxOkF gokGmC0 []) rfl Tryd.func40 (p := (Ty.pair ty28 (Ty.pair ty3 ty3))) (psh := [some 2, none, none]) (r := ty4) (rsh := (Rsh.one (none))) (pre := none) (fresh := none) (F := Sp.F40) (L := noL) (c := bodyOf Tryd.f40) (dflt := Ty.dflt ty4) rfl (no_loops)
    (safe_no @sa40) va40
/-! <collective.here>.resting -/
end Go.Proofs.YtidnlehjabhclaaDoor.Sy
namespace Go.Proofs.YtidnlehjabhclaaDoor.Sp
open Go Go.RowKit Sy
def F28 (x : Bool × Bool × Bool × Int × Int × Int) : Int × Int × Int :=
  bif x.2.1 then
    (Sp.F44 (1 : Int))
  else
    bif x.2.2.1 then
      (Sp.F44 (2 : Int))
    else
      bif x.1 then
        (Sp.F44 (Sp.F43 x))
      else
        bif ((Sp.F43 x) == (1 : Int)) then
          ((1 : Int), (Sp.F43 x), (0 : Int))
        else
          bif ((Sp.F43 x) == (2 : Int)) then
            ((2 : Int), (Sp.F43 x), (0 : Int))
          else
            ((0 : Int), (0 : Int), (0 : Int))
end Go.Proofs.YtidnlehjabhclaaDoor.Sp
namespace Go.Proofs.YtidnlehjabhclaaDoor.Sy
def ct28 : Ct := { p := ty57, psh := [some 6], r := ty35, rsh := (Rsh.one (some 3)), pre := none, fresh := none, F := Sp.F28 }
theorem va28 (x : ty57.den) : ((evFn (ctxG GmC0) Tryd.f28 ty57 [some 6] (Rsh.one (some 3)) none ty35 noL x)).val (fun y => y) (Ty.dflt ty35) = Sp.F28 x := by kernel_rfl
theorem se28 (x : ty57.den) : ((evFn (ctxG GmC0) Tryd.f28 ty57 [some 6] (Rsh.one (some 3)) none ty35 noL x)).safe = (((x.2.1 = true → True) ∧ (x.2.1 = false → ((x.2.2.1 = true → True) ∧ (x.2.2.1 = false → ((x.1 = true → True) ∧ (x.1 = false → ((((Sp.F43 x) == (1 : Int)) = true → True) ∧ (((Sp.F43 x) == (1 : Int)) = false → ((((Sp.F43 x) == (2 : Int)) = true → True) ∧ (((Sp.F43 x) == (2 : Int)) = false → True))))))))))) := by kernel_rfl
theorem sa28 (x : ty57.den) (fx : Fit ty57 x) : SafeW ((evFn (ctxG GmC0) Tryd.f28 ty57 [some 6] (Rsh.one (some 3)) none ty35 noL x)) := by
  refine ⟨?_⟩
  rw [se28]
  try dsimp only [Ty.den] at *
  simp only [Fit, maxLen] at fx
  simp only [true_and, IntKind.wrap_i64, IntKind.wrap_u8, IntKind.wrap_u32, IntKind.wrap_u64, Sp.tmod_lit, Sp.tdiv_lit, bne_eq_false_iff_eq, Int.natCast_inj, setE, copyL, sliceL, zrow, List.length_append, List.length_cons, List.length_nil, List.length_set, List.length_replicate, List.length_take, List.length_drop, decide_eq_true_eq, decide_eq_false_iff_not, Bool.or_eq_true, Bool.and_eq_true, Bool.or_eq_false_iff, Bool.and_eq_false_iff, Bool.not_eq_true', Bool.not_eq_false', Bool.not_eq_true, Bool.not_eq_false, beq_iff_eq, beq_eq_false_iff_ne, bne_iff_ne, ne_eq, implies_true, and_true, true_and] at *
  all_goals ((repeat' (first | exact trivial | apply And.intro | intro _)) <;> first | trivial | omega | exact Sp.tmod_nn (by omega) | exact Sp.tmod_lt (by omega) (by omega))
theorem ok28 : CtOk Tryd.prog gdS 28 ct28 :=
  fn_okU (ctxOkF gokGmC0 []) rfl Tryd.func28 (p := ty57) (psh := [some 6]) (r := ty35) (rsh := (Rsh.one (some 3))) (pre := none) (fresh := none) (F := Sp.F28) (L := noL) (c := bodyOf Tryd.f28) (dflt := Ty.dflt ty35) rfl (no_loops)
    (safe_no @sa28) va28
/-! <collective.here>.falling -/
end Go.Proofs.YtidnlehjabhclaaDoor.Sy
namespace Go.Proofs.YtidnlehjabhclaaDoor.Sp
open Go Go.RowKit Sy
def F30 (x : Bool × Bool × Bool × Int × Int × Int) : Int × Int × Int :=
  bif (x.1 || x.2.2.1) then
    (Sp.F44 (Sp.F45 ((2 : Int), x.2.2.1, x.2.2.2.2.1, (1 : Int), x.2.1, x.2.2.2.1)))
  else
    bif (decide (x.2.2.2.2.1 > (0 : Int))) then
      ((2 : Int), (2 : Int), (0 : Int))
    else
      bif x.2.1 then
        (Sp.F44 (1 : Int))
      else
        bif (decide (x.2.2.2.1 > (0 : Int))) then
          ((1 : Int), (1 : Int), (0 : Int))
        else
          ((0 : Int), (0 : Int), (0 : Int))
end Go.Proofs.YtidnlehjabhclaaDoor.Sp
namespace Go.Proofs.YtidnlehjabhclaaDoor.Sy
def ct30 : Ct := { p := ty57, psh := [some 6], r := ty35, rsh := (Rsh.one (some 3)), pre := none, fresh := none, F := Sp.F30 }
theorem va30 (x : ty57.den) : ((evFn (ctxG GmC0) Tryd.f30 ty57 [some 6] (Rsh.one (some 3)) none ty35 noL x)).val (fun y => y) (Ty.dflt ty35) = Sp.F30 x := by kernel_rfl
theorem se30 (x : ty57.den) : ((evFn (ctxG GmC0) Tryd.f30 ty57 [some 6] (Rsh.one (some 3)) none ty35 noL x)).safe = ((((x.1 || x.2.2.1) = true → True) ∧ ((x.1 || x.2.2.1) = false → (((decide (x.2.2.2.2.1 > (0 : Int))) = true → True) ∧ ((decide (x.2.2.2.2.1 > (0 : Int))) = false → ((x.2.1 = true → True) ∧ (x.2.1 = false → (((decide (x.2.2.2.1 > (0 : Int))) = true → True) ∧ ((decide (x.2.2.2.1 > (0 : Int))) = false → True))))))))) := by kernel_rfl
theorem sa30 (x : ty57.den) (fx : Fit ty57 x) : SafeW ((evFn (ctxG GmC0) Tryd.f30 ty57 [some 6] (Rsh.one (some 3)) none ty35 noL x)) := by
  refine ⟨?_⟩
  rw [se30]
  try dsimp only [Ty.den] at *
  simp only [Fit, maxLen] at fx
  simp only [true_and, IntKind.wrap_i64, IntKind.wrap_u8, IntKind.wrap_u32, IntKind.wrap_u64, Sp.tmod_lit, Sp.tdiv_lit, bne_eq_false_iff_eq, Int.natCast_inj, setE, copyL, sliceL, zrow, List.length_append, List.length_cons, List.length_nil, List.length_set, List.length_replicate, List.length_take, List.length_drop, decide_eq_true_eq, decide_eq_false_iff_not, Bool.or_eq_true, Bool.and_eq_true, Bool.or_eq_false_iff, Bool.and_eq_false_iff, Bool.not_eq_true', Bool.not_eq_false', Bool.not_eq_true, Bool.not_eq_false, beq_iff_eq, beq_eq_false_iff_ne, bne_iff_ne, ne_eq, implies_true, and_true, true_and] at *
  all_goals ((repeat' (first | exact trivial | apply And.intro | intro _)) <;> first | trivial | omega | exact Sp.tmod_nn (by omega) | exact Sp.tmod_lt (by omega) (by omega))
theorem ok30 : CtOk Tryd.prog gdS 30 ct30 :=
  fn_okU (ctxOkF gokGmC0 []) rfl Tryd.func30 (p := ty57) (psh := [some 6]) (r := ty35) (rsh := (Rsh.one (some 3))) (pre := none) (fresh := none) (F := Sp.F30) (L := noL) (c := bodyOf Tryd.f30) (dflt := Ty.dflt ty35) rfl (no_loops)
    (safe_no @sa30) va30
def GmC1 : List (Nat × Ct) := (17, ct17) :: (40, ct40) :: (28, ct28) :: (30, ct30) :: GmC0
theorem gokGmC1 : GOk GmC1 := gok_cons ok17 ⟨_, Tryd.func17, by kernel_rfl, by kernel_rfl⟩ (gok_cons ok40 ⟨_, Tryd.func40, by kernel_rfl, by kernel_rfl⟩ (gok_cons ok28 ⟨_, Tryd.func28, by kernel_rfl, by kernel_rfl⟩ (gok_cons ok30 ⟨_, Tryd.func30, by kernel_rfl, by kernel_rfl⟩ (gokGmC0))))
end Go.Proofs.YtidnlehjabhclaaDoor.Sy
