/- Contracts of functions, by the evaluator (own program gen.py): overlayref11.counted, overlayref11.sweeping, overlayref11.turning. -/
import Derived.Test.YtidnlehjabhclaaDoorE0
set_option linter.unusedVariables false
set_option linter.unusedSimpArgs false
set_option maxRecDepth 100000
namespace Go.Proofs.YtidnlehjabhclaaDoor.Sy
open Go Go.RowKit Sp
/-! overlayref11.counted -/
end Go.Proofs.YtidnlehjabhclaaDoor.Sy
namespace Go.Proofs.YtidnlehjabhclaaDoor.Sp
open Go Go.RowKit Sy
def F37 (x : (Int × Int) × Int × Int × Int × Int) : Int :=
  bif (((Sp.F38 x).1 == x.2.2.1) && (((Sp.F38 x).2.1 == x.2.2.2.1) && ((Sp.F38 x).2.2 == x.2.2.2.2))) then
    (0 : Int)
  else
    x.1.2
end Go.Proofs.YtidnlehjabhclaaDoor.Sp
namespace Go.Proofs.YtidnlehjabhclaaDoor.Sy
def ct37 : Ct := { p := (Ty.pair ty23 (Ty.pair ty3 ty30)), psh := [some 2, none, some 3], r := ty3, rsh := (Rsh.one (none)), pre := none, fresh := none, F := Sp.F37 }
theorem va37 (x : (Ty.pair ty23 (Ty.pair ty3 ty30)).den) : ((evFn (ctxG GmE0) Tryd.f37 (Ty.pair ty23 (Ty.pair ty3 ty30)) [some 2, none, some 3] (Rsh.one (none)) none ty3 noL x)).val (fun y => y) (Ty.dflt ty3) = Sp.F37 x := by kernel_rfl
theorem se37 (x : (Ty.pair ty23 (Ty.pair ty3 ty30)).den) : ((evFn (ctxG GmE0) Tryd.f37 (Ty.pair ty23 (Ty.pair ty3 ty30)) [some 2, none, some 3] (Rsh.one (none)) none ty3 noL x)).safe = ((((((Sp.F38 x).1 == x.2.2.1) && (((Sp.F38 x).2.1 == x.2.2.2.1) && ((Sp.F38 x).2.2 == x.2.2.2.2))) = true → True) ∧ ((((Sp.F38 x).1 == x.2.2.1) && (((Sp.F38 x).2.1 == x.2.2.2.1) && ((Sp.F38 x).2.2 == x.2.2.2.2))) = false → True))) := by kernel_rfl
theorem sa37 (x : (Ty.pair ty23 (Ty.pair ty3 ty30)).den) (fx : Fit (Ty.pair ty23 (Ty.pair ty3 ty30)) x) : SafeW ((evFn (ctxG GmE0) Tryd.f37 (Ty.pair ty23 (Ty.pair ty3 ty30)) [some 2, none, some 3] (Rsh.one (none)) none ty3 noL x)) := by
  refine ⟨?_⟩
  rw [se37]
  try dsimp only [Ty.den] at *
  simp only [Fit, maxLen] at fx
  simp only [true_and, IntKind.wrap_i64, IntKind.wrap_u8, IntKind.wrap_u32, IntKind.wrap_u64, Sp.tmod_lit, Sp.tdiv_lit, bne_eq_false_iff_eq, Int.natCast_inj, setE, copyL, sliceL, zrow, List.length_append, List.length_cons, List.length_nil, List.length_set, List.length_replicate, List.length_take, List.length_drop, decide_eq_true_eq, decide_eq_false_iff_not, Bool.or_eq_true, Bool.and_eq_true, Bool.or_eq_false_iff, Bool.and_eq_false_iff, Bool.not_eq_true', Bool.not_eq_false', Bool.not_eq_true, Bool.not_eq_false, beq_iff_eq, beq_eq_false_iff_ne, bne_iff_ne, ne_eq, implies_true, and_true, true_and] at *
  all_goals ((repeat' (first | exact trivial | apply And.intro | intro _)) <;> first | trivial | omega | exact Sp.tmod_nn (by omega) | exact Sp.tmod_lt (by omega) (by omega))
theorem ok37 : CtOk Tryd.prog gdS 37 ct37 :=
  fn_okU (ctxOkF gokGmE0 []) rfl Tryd.func37 (p := (Ty.pair ty23 (Ty.pair ty3 ty30))) (psh := [some 2, none, some 3]) (r := ty3) (rsh := (Rsh.one (none))) (pre := none) (fresh := none) (F := Sp.F37) (L := noL) (c := bodyOf Tryd.f37) (dflt := Ty.dflt ty3) rfl (no_loops)
    (safe_no @sa37) va37
/-! overlayref11.sweeping -/
end Go.Proofs.YtidnlehjabhclaaDoor.Sy
namespace Go.Proofs.YtidnlehjabhclaaDoor.Sp
open Go Go.RowKit Sy
def F33 (x : Int × Int × Bool × Bool × Bool × Bool × Bool) : (Int × Int × Int) × Bool :=
  bif ((x.2.2.1 || x.2.2.2.1) && (x.2.2.2.1 || x.2.2.2.2.2.1)) then
    ((Sp.F35 x.1), true)
  else
    bif (x.2.2.1 && (x.2.2.2.2.1 || x.2.2.2.2.2.2)) then
      ((Sp.F35 x.2.1), true)
    else
      bif x.2.2.1 then
        ((Sp.F35 (0 : Int)), true)
      else
        bif x.2.2.2.2.2.1 then
          ((Sp.F36 x.1), true)
        else
          (((0 : Int), (0 : Int), (0 : Int)), false)
end Go.Proofs.YtidnlehjabhclaaDoor.Sp
namespace Go.Proofs.YtidnlehjabhclaaDoor.Sy
def ct33 : Ct := { p := (Ty.pair ty3 (Ty.pair ty3 (Ty.pair ty4 (Ty.pair ty4 (Ty.pair ty4 (Ty.pair ty4 ty4)))))), psh := [none, none, none, none, none, none, none], r := (Ty.pair ty35 ty4), rsh := (Rsh.tup [some 3, none]), pre := none, fresh := none, F := Sp.F33 }
theorem va33 (x : (Ty.pair ty3 (Ty.pair ty3 (Ty.pair ty4 (Ty.pair ty4 (Ty.pair ty4 (Ty.pair ty4 ty4)))))).den) : ((evFn (ctxG GmE0) Tryd.f33 (Ty.pair ty3 (Ty.pair ty3 (Ty.pair ty4 (Ty.pair ty4 (Ty.pair ty4 (Ty.pair ty4 ty4)))))) [none, none, none, none, none, none, none] (Rsh.tup [some 3, none]) none (Ty.pair ty35 ty4) noL x)).val (fun y => y) (Ty.dflt (Ty.pair ty35 ty4)) = Sp.F33 x := by kernel_rfl
theorem se33 (x : (Ty.pair ty3 (Ty.pair ty3 (Ty.pair ty4 (Ty.pair ty4 (Ty.pair ty4 (Ty.pair ty4 ty4)))))).den) : ((evFn (ctxG GmE0) Tryd.f33 (Ty.pair ty3 (Ty.pair ty3 (Ty.pair ty4 (Ty.pair ty4 (Ty.pair ty4 (Ty.pair ty4 ty4)))))) [none, none, none, none, none, none, none] (Rsh.tup [some 3, none]) none (Ty.pair ty35 ty4) noL x)).safe = (((((x.2.2.1 || x.2.2.2.1) && (x.2.2.2.1 || x.2.2.2.2.2.1)) = true → True) ∧ (((x.2.2.1 || x.2.2.2.1) && (x.2.2.2.1 || x.2.2.2.2.2.1)) = false → (((x.2.2.1 && (x.2.2.2.2.1 || x.2.2.2.2.2.2)) = true → True) ∧ ((x.2.2.1 && (x.2.2.2.2.1 || x.2.2.2.2.2.2)) = false → ((x.2.2.1 = true → True) ∧ (x.2.2.1 = false → ((x.2.2.2.2.2.1 = true → True) ∧ (x.2.2.2.2.2.1 = false → True))))))))) := by kernel_rfl
theorem sa33 (x : (Ty.pair ty3 (Ty.pair ty3 (Ty.pair ty4 (Ty.pair ty4 (Ty.pair ty4 (Ty.pair ty4 ty4)))))).den) (fx : Fit (Ty.pair ty3 (Ty.pair ty3 (Ty.pair ty4 (Ty.pair ty4 (Ty.pair ty4 (Ty.pair ty4 ty4)))))) x) : SafeW ((evFn (ctxG GmE0) Tryd.f33 (Ty.pair ty3 (Ty.pair ty3 (Ty.pair ty4 (Ty.pair ty4 (Ty.pair ty4 (Ty.pair ty4 ty4)))))) [none, none, none, none, none, none, none] (Rsh.tup [some 3, none]) none (Ty.pair ty35 ty4) noL x)) := by
  refine ⟨?_⟩
  rw [se33]
  try dsimp only [Ty.den] at *
  simp only [Fit, maxLen] at fx
  simp only [true_and, IntKind.wrap_i64, IntKind.wrap_u8, IntKind.wrap_u32, IntKind.wrap_u64, Sp.tmod_lit, Sp.tdiv_lit, bne_eq_false_iff_eq, Int.natCast_inj, setE, copyL, sliceL, zrow, List.length_append, List.length_cons, List.length_nil, List.length_set, List.length_replicate, List.length_take, List.length_drop, decide_eq_true_eq, decide_eq_false_iff_not, Bool.or_eq_true, Bool.and_eq_true, Bool.or_eq_false_iff, Bool.and_eq_false_iff, Bool.not_eq_true', Bool.not_eq_false', Bool.not_eq_true, Bool.not_eq_false, beq_iff_eq, beq_eq_false_iff_ne, bne_iff_ne, ne_eq, implies_true, and_true, true_and] at *
  all_goals ((repeat' (first | exact trivial | apply And.intro | intro _)) <;> first | trivial | omega | exact Sp.tmod_nn (by omega) | exact Sp.tmod_lt (by omega) (by omega))
theorem ok33 : CtOk Tryd.prog gdS 33 ct33 :=
  fn_okU (ctxOkF gokGmE0 []) rfl Tryd.func33 (p := (Ty.pair ty3 (Ty.pair ty3 (Ty.pair ty4 (Ty.pair ty4 (Ty.pair ty4 (Ty.pair ty4 ty4))))))) (psh := [none, none, none, none, none, none, none]) (r := (Ty.pair ty35 ty4)) (rsh := (Rsh.tup [some 3, none])) (pre := none) (fresh := none) (F := Sp.F33) (L := noL) (c := bodyOf Tryd.f33) (dflt := Ty.dflt (Ty.pair ty35 ty4)) rfl (no_loops)
    (safe_no @sa33) va33
/-! overlayref11.turning -/
end Go.Proofs.YtidnlehjabhclaaDoor.Sy
namespace Go.Proofs.YtidnlehjabhclaaDoor.Sp
open Go Go.RowKit Sy
def F34 (x : Int × Bool × Bool) : Int × Int × Int :=
  bif x.2.1 then
    (Sp.F35 x.1)
  else
    bif x.2.2 then
      (Sp.F36 x.1)
    else
      ((0 : Int), (0 : Int), (0 : Int))
end Go.Proofs.YtidnlehjabhclaaDoor.Sp
namespace Go.Proofs.YtidnlehjabhclaaDoor.Sy
def ct34 : Ct := { p := (Ty.pair ty3 (Ty.pair ty4 ty4)), psh := [none, none, none], r := ty35, rsh := (Rsh.one (some 3)), pre := none, fresh := none, F := Sp.F34 }
theorem va34 (x : (Ty.pair ty3 (Ty.pair ty4 ty4)).den) : ((evFn (ctxG GmE0) Tryd.f34 (Ty.pair ty3 (Ty.pair ty4 ty4)) [none, none, none] (Rsh.one (some 3)) none ty35 noL x)).val (fun y => y) (Ty.dflt ty35) = Sp.F34 x := by kernel_rfl
theorem se34 (x : (Ty.pair ty3 (Ty.pair ty4 ty4)).den) : ((evFn (ctxG GmE0) Tryd.f34 (Ty.pair ty3 (Ty.pair ty4 ty4)) [none, none, none] (Rsh.one (some 3)) none ty35 noL x)).safe = (((x.2.1 = true → True) ∧ (x.2.1 = false → ((x.2.2 = true → True) ∧ (x.2.2 = false → True))))) := by kernel_rfl
theorem sa34 (x : (Ty.pair ty3 (Ty.pair ty4 ty4)).den) (fx : Fit (Ty.pair ty3 (Ty.pair ty4 ty4)) x) : SafeW ((evFn (ctxG GmE0) Tryd.f34 (Ty.pair ty3 (Ty.pair ty4 ty4)) [none, none, none] (Rsh.one (some 3)) none ty35 noL x)) := by
  refine ⟨?_⟩
  rw [se34]
  try dsimp only [Ty.den] at *
  simp only [Fit, maxLen] at fx
  simp only [true_and, IntKind.wrap_i64, IntKind.wrap_u8, IntKind.wrap_u32, IntKind.wrap_u64, Sp.tmod_lit, Sp.tdiv_lit, bne_eq_false_iff_eq, Int.natCast_inj, setE, copyL, sliceL, zrow, List.length_append, List.length_cons, List.length_nil, List.length_set, List.length_replicate, List.length_take, List.length_drop, decide_eq_true_eq, decide_eq_false_iff_not, Bool.or_eq_true, Bool.and_eq_true, Bool.or_eq_false_iff, Bool.and_eq_false_iff, Bool.not_eq_true', Bool.not_eq_false', Bool.not_eq_true, Bool.not_eq_false, beq_iff_eq, beq_eq_false_iff_ne, bne_iff_ne, ne_eq, implies_true, and_true, true_and] at *
  all_goals ((repeat' (first | exact trivial | apply And.intro | intro _)) <;> first | trivial | omega | exact Sp.tmod_nn (by omega) | exact Sp.tmod_lt (by omega) (by omega))
theorem ok34 : CtOk Tryd.prog gdS 34 ct34 :=
  fn_okU (ctxOkF gokGmE0 []) rfl Tryd.func34 (p := (Ty.pair ty3 (Ty.pair ty4 ty4))) (psh := [none, none, none]) (r := ty35) (rsh := (Rsh.one (some 3))) (pre := none) (fresh := none) (F := Sp.F34) (L := noL) (c := bodyOf Tryd.f34) (dflt := Ty.dflt ty35) rfl (no_loops)
    (safe_no @sa34) va34
def GmE1 : List (Nat × Ct) := (37, ct37) :: (33, ct33) :: (34, ct34) :: GmE0
theorem gokGmE1 : GOk GmE1 := gok_cons ok37 ⟨_, Tryd.func37, by kernel_rfl, by kernel_rfl⟩ (gok_cons ok33 ⟨_, Tryd.func33, by kernel_rfl, by kernel_rfl⟩ (gok_cons ok34 ⟨_, Tryd.func34, by kernel_rfl, by kernel_rfl⟩ (gokGmE0)))
end Go.Proofs.YtidnlehjabhclaaDoor.Sy
