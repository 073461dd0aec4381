/- Contracts of functions, by the evaluator (own program gen.py): indicator.isFloors, overlayref05.ok, indicator.pair. -/
import Derived.Test.YtkfhampdellhoaaDoorM0
set_option linter.unusedVariables false
set_option linter.unusedSimpArgs false
set_option maxRecDepth 100000
namespace Go.Proofs.YtkfhampdellhoaaDoor.Sy
open Go Go.RowKit Sp
/-! indicator.isFloors -/
end Go.Proofs.YtkfhampdellhoaaDoor.Sy
namespace Go.Proofs.YtkfhampdellhoaaDoor.Sp
open Go Go.RowKit Sy
def F18 (x : Int) : Bool :=
  ((decide (x ≥ (2 : Int))) && (decide (x ≤ (32 : Int))))
end Go.Proofs.YtkfhampdellhoaaDoor.Sp
namespace Go.Proofs.YtkfhampdellhoaaDoor.Sy
def ct18 : Ct := { p := ty3, psh := [none], r := ty4, rsh := (Rsh.one (none)), pre := none, fresh := none, F := Sp.F18 }
theorem va18 (x : ty3.den) : ((evFn (ctxG GmM0) Tryd.f18 ty3 [none] (Rsh.one (none)) none ty4 noL x)).val (fun y => y) (Ty.dflt ty4) = Sp.F18 x := by kernel_rfl
theorem se18 (x : ty3.den) : ((evFn (ctxG GmM0) Tryd.f18 ty3 [none] (Rsh.one (none)) none ty4 noL x)).safe = (True) := by kernel_rfl
theorem sa18 (x : ty3.den) (fx : Fit ty3 x) : SafeW ((evFn (ctxG GmM0) Tryd.f18 ty3 [none] (Rsh.one (none)) none ty4 noL x)) := by
  refine ⟨?_⟩
  rw [se18]
  trivial
theorem ok18 : CtOk Tryd.prog gdS 18 ct18 :=
  fn_okU (ctxOkF gokGmM0 []) rfl Tryd.func18 (p := ty3) (psh := [none]) (r := ty4) (rsh := (Rsh.one (none))) (pre := none) (fresh := none) (F := Sp.F18) (L := noL) (c := bodyOf Tryd.f18) (dflt := Ty.dflt ty4) rfl (no_loops)
    (safe_no @sa18) va18
/-! overlayref05.ok -/
end Go.Proofs.YtkfhampdellhoaaDoor.Sy
namespace Go.Proofs.YtkfhampdellhoaaDoor.Sp
open Go Go.RowKit Sy
def F20 (x : Int) : Bool :=
  ((decide (x ≥ (2 : Int))) && (decide (x ≤ (32 : Int))))
end Go.Proofs.YtkfhampdellhoaaDoor.Sp
namespace Go.Proofs.YtkfhampdellhoaaDoor.Sy
def ct20 : Ct := { p := ty3, psh := [none], r := ty4, rsh := (Rsh.one (none)), pre := none, fresh := none, F := Sp.F20 }
theorem va20 (x : ty3.den) : ((evFn (ctxG GmM0) Tryd.f20 ty3 [none] (Rsh.one (none)) none ty4 noL x)).val (fun y => y) (Ty.dflt ty4) = Sp.F20 x := by kernel_rfl
theorem se20 (x : ty3.den) : ((evFn (ctxG GmM0) Tryd.f20 ty3 [none] (Rsh.one (none)) none ty4 noL x)).safe = (True) := by kernel_rfl
theorem sa20 (x : ty3.den) (fx : Fit ty3 x) : SafeW ((evFn (ctxG GmM0) Tryd.f20 ty3 [none] (Rsh.one (none)) none ty4 noL x)) := by
  refine ⟨?_⟩
  rw [se20]
  trivial
theorem ok20 : CtOk Tryd.prog gdS 20 ct20 :=
  fn_okU (ctxOkF gokGmM0 []) rfl Tryd.func20 (p := ty3) (psh := [none]) (r := ty4) (rsh := (Rsh.one (none))) (pre := none) (fresh := none) (F := Sp.F20) (L := noL) (c := bodyOf Tryd.f20) (dflt := Ty.dflt ty4) rfl (no_loops)
    (safe_no @sa20) va20
/-! indicator.pair -/
end Go.Proofs.YtkfhampdellhoaaDoor.Sy
namespace Go.Proofs.YtkfhampdellhoaaDoor.Sp
open Go Go.RowKit Sy
def F21 (x : Bool × Bool × Int × Int × Int × Int) : Int :=
  bif x.1 then
    (bif x.2.1 then
      (Sp.nthT [x.2.2.1, x.2.2.2.1, x.2.2.2.2.1, x.2.2.2.2.2] (IntKind.i64.wrap ((IntKind.i64.wrap ((0 : Int) + (1 : Int))) + (2 : Int))))
    else
      (Sp.nthT [x.2.2.1, x.2.2.2.1, x.2.2.2.2.1, x.2.2.2.2.2] (IntKind.i64.wrap ((0 : Int) + (1 : Int)))))
  else
    bif x.2.1 then
      (Sp.nthT [x.2.2.1, x.2.2.2.1, x.2.2.2.2.1, x.2.2.2.2.2] (IntKind.i64.wrap ((0 : Int) + (2 : Int))))
    else
      (Sp.nthT [x.2.2.1, x.2.2.2.1, x.2.2.2.2.1, x.2.2.2.2.2] (0 : Int))
end Go.Proofs.YtkfhampdellhoaaDoor.Sp
namespace Go.Proofs.YtkfhampdellhoaaDoor.Sy
def ct21 : Ct := { p := (Ty.pair ty4 (Ty.pair ty4 ty44)), psh := [none, none, some 4], r := ty3, rsh := (Rsh.one (none)), pre := none, fresh := none, F := Sp.F21 }
theorem va21 (x : (Ty.pair ty4 (Ty.pair ty4 ty44)).den) : ((evFn (ctxG GmM0) Tryd.f21 (Ty.pair ty4 (Ty.pair ty4 ty44)) [none, none, some 4] (Rsh.one (none)) none ty3 noL x)).val (fun y => y) (Ty.dflt ty3) = Sp.F21 x := by kernel_rfl
theorem se21 (x : (Ty.pair ty4 (Ty.pair ty4 ty44)).den) : ((evFn (ctxG GmM0) Tryd.f21 (Ty.pair ty4 (Ty.pair ty4 ty44)) [none, none, some 4] (Rsh.one (none)) none ty3 noL x)).safe = (((x.1 = true → ((x.2.1 = true → ((0 ≤ (IntKind.i64.wrap ((IntKind.i64.wrap ((0 : Int) + (1 : Int))) + (2 : Int))) ∧ (IntKind.i64.wrap ((IntKind.i64.wrap ((0 : Int) + (1 : Int))) + (2 : Int))) < (4 : Int)) ∧ True)) ∧ (x.2.1 = false → ((0 ≤ (IntKind.i64.wrap ((0 : Int) + (1 : Int))) ∧ (IntKind.i64.wrap ((0 : Int) + (1 : Int))) < (4 : Int)) ∧ True)))) ∧ (x.1 = false → ((x.2.1 = true → ((0 ≤ (IntKind.i64.wrap ((0 : Int) + (2 : Int))) ∧ (IntKind.i64.wrap ((0 : Int) + (2 : Int))) < (4 : Int)) ∧ True)) ∧ (x.2.1 = false → ((0 ≤ (0 : Int) ∧ (0 : Int) < (4 : Int)) ∧ True)))))) := by kernel_rfl
theorem sa21 (x : (Ty.pair ty4 (Ty.pair ty4 ty44)).den) (fx : Fit (Ty.pair ty4 (Ty.pair ty4 ty44)) x) : SafeW ((evFn (ctxG GmM0) Tryd.f21 (Ty.pair ty4 (Ty.pair ty4 ty44)) [none, none, some 4] (Rsh.one (none)) none ty3 noL x)) := by
  refine ⟨?_⟩
  rw [se21]
  try dsimp only [Ty.den] at *
  simp only [Fit, maxLen] at fx
  simp only [true_and, IntKind.wrap_i64, IntKind.wrap_u8, IntKind.wrap_u32, IntKind.wrap_u64, Sp.tmod_lit, Sp.tdiv_lit, bne_eq_false_iff_eq, Int.natCast_inj, setE, copyL, sliceL, zrow, List.length_append, List.length_cons, List.length_nil, List.length_set, List.length_replicate, List.length_take, List.length_drop, decide_eq_true_eq, decide_eq_false_iff_not, Bool.or_eq_true, Bool.and_eq_true, Bool.or_eq_false_iff, Bool.and_eq_false_iff, Bool.not_eq_true', Bool.not_eq_false', Bool.not_eq_true, Bool.not_eq_false, beq_iff_eq, beq_eq_false_iff_ne, bne_iff_ne, ne_eq, implies_true, and_true, true_and] at *
  all_goals ((repeat' (first | exact trivial | apply And.intro | intro _)) <;> first | trivial | omega | exact Sp.tmod_nn (by omega) | exact Sp.tmod_lt (by omega) (by omega))
theorem ok21 : CtOk Tryd.prog gdS 21 ct21 :=
  fn_okU (ctxOkF gokGmM0 []) rfl Tryd.func21 (p := (Ty.pair ty4 (Ty.pair ty4 ty44))) (psh := [none, none, some 4]) (r := ty3) (rsh := (Rsh.one (none))) (pre := none) (fresh := none) (F := Sp.F21) (L := noL) (c := bodyOf Tryd.f21) (dflt := Ty.dflt ty3) rfl (no_loops)
    (safe_no @sa21) va21
def GmI0 : List (Nat × Ct) := (18, ct18) :: (20, ct20) :: (21, ct21) :: GmM0
theorem gokGmI0 : GOk GmI0 := gok_cons ok18 ⟨_, Tryd.func18, by kernel_rfl, by kernel_rfl⟩ (gok_cons ok20 ⟨_, Tryd.func20, by kernel_rfl, by kernel_rfl⟩ (gok_cons ok21 ⟨_, Tryd.func21, by kernel_rfl, by kernel_rfl⟩ (gokGmM0)))
end Go.Proofs.YtkfhampdellhoaaDoor.Sy
