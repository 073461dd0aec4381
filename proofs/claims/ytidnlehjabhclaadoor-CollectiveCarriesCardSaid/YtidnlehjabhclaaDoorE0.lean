/- Contracts of functions, by the evaluator (own program gen.py): overlayref11.IsSweep, overlayref11.proper, overlayref11.marked, overlayref07.Minus, overlayref07.Has, overlayref11.above, overlayref11.below, overlayref11.open, overlayref11.move, overlaylaw11.few, overlaylaw11.sane. -/
import Derived.Test.YtidnlehjabhclaaDoorC4
set_option linter.unusedVariables false
set_option linter.unusedSimpArgs false
set_option maxRecDepth 100000
namespace Go.Proofs.YtidnlehjabhclaaDoor.Sy
open Go Go.RowKit Sp
/-! overlayref11.IsSweep -/
end Go.Proofs.YtidnlehjabhclaaDoor.Sy
namespace Go.Proofs.YtidnlehjabhclaaDoor.Sp
open Go Go.RowKit Sy
def F25 (x : Int × Int) : Bool :=
  ((((decide (x.1 ≥ (0 : Int))) && (decide (x.1 ≤ (2 : Int)))) && (decide (x.2 ≥ (0 : Int)))) && (decide (x.2 ≤ (7 : Int))))
end Go.Proofs.YtidnlehjabhclaaDoor.Sp
namespace Go.Proofs.YtidnlehjabhclaaDoor.Sy
def ct25 : Ct := { p := ty23, psh := [some 2], r := ty4, rsh := (Rsh.one (none)), pre := none, fresh := none, F := Sp.F25 }
theorem va25 (x : ty23.den) : ((evFn (ctxG GmC4) Tryd.f25 ty23 [some 2] (Rsh.one (none)) none ty4 noL x)).val (fun y => y) (Ty.dflt ty4) = Sp.F25 x := by kernel_rfl
theorem se25 (x : ty23.den) : ((evFn (ctxG GmC4) Tryd.f25 ty23 [some 2] (Rsh.one (none)) none ty4 noL x)).safe = (True) := by kernel_rfl
theorem sa25 (x : ty23.den) (fx : Fit ty23 x) : SafeW ((evFn (ctxG GmC4) Tryd.f25 ty23 [some 2] (Rsh.one (none)) none ty4 noL x)) := by
  refine ⟨?_⟩
  rw [se25]
  trivial
theorem ok25 : CtOk Tryd.prog gdS 25 ct25 :=
  fn_okU (ctxOkF gokGmC4 []) rfl Tryd.func25 (p := ty23) (psh := [some 2]) (r := ty4) (rsh := (Rsh.one (none))) (pre := none) (fresh := none) (F := Sp.F25) (L := noL) (c := bodyOf Tryd.f25) (dflt := Ty.dflt ty4) rfl (no_loops)
    (safe_no @sa25) va25
/-! overlayref11.proper -/
end Go.Proofs.YtidnlehjabhclaaDoor.Sy
namespace Go.Proofs.YtidnlehjabhclaaDoor.Sp
open Go Go.RowKit Sy
def F32 (x : Int × Int × Int × Int) : Int × Int × Int :=
  bif ((decide (x.1 < (1 : Int))) || (decide (x.1 > (32 : Int)))) then
    ((0 : Int), (0 : Int), (0 : Int))
  else
    ((IntKind.u32.wrap ((BitVec.ofInt IntKind.u32.bits x.2.1 &&& BitVec.ofInt IntKind.u32.bits (IntKind.u32.wrap ((IntKind.u32.wrap ((1 : Int) * 2 ^ (min ((IntKind.u64.wrap x.1)).toNat IntKind.u32.bits))) - (1 : Int)))).toNat : Int)), (IntKind.u32.wrap ((BitVec.ofInt IntKind.u32.bits (IntKind.u32.wrap ((BitVec.ofInt IntKind.u32.bits x.2.2.1 &&& BitVec.ofInt IntKind.u32.bits (IntKind.u32.wrap ((IntKind.u32.wrap ((1 : Int) * 2 ^ (min ((IntKind.u64.wrap x.1)).toNat IntKind.u32.bits))) - (1 : Int)))).toNat : Int)) &&& ~~~ BitVec.ofInt IntKind.u32.bits (IntKind.u32.wrap ((1 : Int) * 2 ^ (min ((IntKind.u64.wrap (IntKind.i64.wrap (x.1 - (1 : Int))))).toNat IntKind.u32.bits)))).toNat : Int)), (IntKind.u32.wrap ((BitVec.ofInt IntKind.u32.bits (IntKind.u32.wrap ((BitVec.ofInt IntKind.u32.bits x.2.2.2 &&& BitVec.ofInt IntKind.u32.bits (IntKind.u32.wrap ((IntKind.u32.wrap ((1 : Int) * 2 ^ (min ((IntKind.u64.wrap x.1)).toNat IntKind.u32.bits))) - (1 : Int)))).toNat : Int)) &&& ~~~ BitVec.ofInt IntKind.u32.bits (1 : Int)).toNat : Int)))
end Go.Proofs.YtidnlehjabhclaaDoor.Sp
namespace Go.Proofs.YtidnlehjabhclaaDoor.Sy
def ct32 : Ct := { p := (Ty.pair ty3 ty30), psh := [none, some 3], r := ty30, rsh := (Rsh.one (some 3)), pre := none, fresh := none, F := Sp.F32 }
theorem va32 (x : (Ty.pair ty3 ty30).den) : ((evFn (ctxG GmC4) Tryd.f32 (Ty.pair ty3 ty30) [none, some 3] (Rsh.one (some 3)) none ty30 noL x)).val (fun y => y) (Ty.dflt ty30) = Sp.F32 x := by kernel_rfl
theorem se32 (x : (Ty.pair ty3 ty30).den) : ((evFn (ctxG GmC4) Tryd.f32 (Ty.pair ty3 ty30) [none, some 3] (Rsh.one (some 3)) none ty30 noL x)).safe = (((((decide (x.1 < (1 : Int))) || (decide (x.1 > (32 : Int)))) = true → True) ∧ (((decide (x.1 < (1 : Int))) || (decide (x.1 > (32 : Int)))) = false → ((0 ≤ (IntKind.u64.wrap x.1)) ∧ ((0 ≤ (IntKind.u64.wrap (IntKind.i64.wrap (x.1 - (1 : Int))))) ∧ True))))) := by kernel_rfl
theorem sa32 (x : (Ty.pair ty3 ty30).den) (fx : Fit (Ty.pair ty3 ty30) x) : SafeW ((evFn (ctxG GmC4) Tryd.f32 (Ty.pair ty3 ty30) [none, some 3] (Rsh.one (some 3)) none ty30 noL x)) := by
  refine ⟨?_⟩
  rw [se32]
  try dsimp only [Ty.den] at *
  simp only [Fit, maxLen] at fx
  simp only [true_and, IntKind.wrap_i64, IntKind.wrap_u8, IntKind.wrap_u32, IntKind.wrap_u64, Sp.tmod_lit, Sp.tdiv_lit, bne_eq_false_iff_eq, Int.natCast_inj, setE, copyL, sliceL, zrow, List.length_append, List.length_cons, List.length_nil, List.length_set, List.length_replicate, List.length_take, List.length_drop, decide_eq_true_eq, decide_eq_false_iff_not, Bool.or_eq_true, Bool.and_eq_true, Bool.or_eq_false_iff, Bool.and_eq_false_iff, Bool.not_eq_true', Bool.not_eq_false', Bool.not_eq_true, Bool.not_eq_false, beq_iff_eq, beq_eq_false_iff_ne, bne_iff_ne, ne_eq, implies_true, and_true, true_and] at *
  all_goals ((repeat' (first | exact trivial | apply And.intro | intro _)) <;> first | trivial | omega | exact Sp.tmod_nn (by omega) | exact Sp.tmod_lt (by omega) (by omega))
theorem ok32 : CtOk Tryd.prog gdS 32 ct32 :=
  fn_okU (ctxOkF gokGmC4 []) rfl Tryd.func32 (p := (Ty.pair ty3 ty30)) (psh := [none, some 3]) (r := ty30) (rsh := (Rsh.one (some 3))) (pre := none) (fresh := none) (F := Sp.F32) (L := noL) (c := bodyOf Tryd.f32) (dflt := Ty.dflt ty30) rfl (no_loops)
    (safe_no @sa32) va32
/-! overlayref11.marked -/
end Go.Proofs.YtidnlehjabhclaaDoor.Sy
namespace Go.Proofs.YtidnlehjabhclaaDoor.Sp
open Go Go.RowKit Sy
def F38 (x : (Int × Int) × Int × Int × Int × Int) : Int × Int × Int :=
  bif (x.1.2 != (0 : Int)) then
    (bif ((IntKind.i64.wrap ((BitVec.ofInt IntKind.i64.bits x.1.2 &&& BitVec.ofInt IntKind.i64.bits (2 : Int)).toNat : Int)) != (0 : Int)) then
      (bif ((IntKind.i64.wrap ((BitVec.ofInt IntKind.i64.bits x.1.2 &&& BitVec.ofInt IntKind.i64.bits (4 : Int)).toNat : Int)) != (0 : Int)) then
        ((IntKind.u32.wrap ((BitVec.ofInt IntKind.u32.bits x.2.2.1 &&& BitVec.ofInt IntKind.u32.bits (IntKind.u32.wrap ((1 : Int) * 2 ^ (min ((IntKind.u64.wrap x.2.1)).toNat IntKind.u32.bits)))).toNat : Int)), (IntKind.u32.wrap ((BitVec.ofInt IntKind.u32.bits x.2.2.2.1 &&& BitVec.ofInt IntKind.u32.bits (IntKind.u32.wrap ((1 : Int) * 2 ^ (min ((IntKind.u64.wrap x.2.1)).toNat IntKind.u32.bits)))).toNat : Int)), (IntKind.u32.wrap ((BitVec.ofInt IntKind.u32.bits x.2.2.2.2 &&& BitVec.ofInt IntKind.u32.bits (IntKind.u32.wrap ((1 : Int) * 2 ^ (min ((IntKind.u64.wrap x.2.1)).toNat IntKind.u32.bits)))).toNat : Int)))
      else
        ((IntKind.u32.wrap ((BitVec.ofInt IntKind.u32.bits x.2.2.1 &&& BitVec.ofInt IntKind.u32.bits (IntKind.u32.wrap ((1 : Int) * 2 ^ (min ((IntKind.u64.wrap x.2.1)).toNat IntKind.u32.bits)))).toNat : Int)), (IntKind.u32.wrap ((BitVec.ofInt IntKind.u32.bits x.2.2.2.1 &&& BitVec.ofInt IntKind.u32.bits (IntKind.u32.wrap ((1 : Int) * 2 ^ (min ((IntKind.u64.wrap x.2.1)).toNat IntKind.u32.bits)))).toNat : Int)), (0 : Int)))
    else
      bif ((IntKind.i64.wrap ((BitVec.ofInt IntKind.i64.bits x.1.2 &&& BitVec.ofInt IntKind.i64.bits (4 : Int)).toNat : Int)) != (0 : Int)) then
        ((IntKind.u32.wrap ((BitVec.ofInt IntKind.u32.bits x.2.2.1 &&& BitVec.ofInt IntKind.u32.bits (IntKind.u32.wrap ((1 : Int) * 2 ^ (min ((IntKind.u64.wrap x.2.1)).toNat IntKind.u32.bits)))).toNat : Int)), (0 : Int), (IntKind.u32.wrap ((BitVec.ofInt IntKind.u32.bits x.2.2.2.2 &&& BitVec.ofInt IntKind.u32.bits (IntKind.u32.wrap ((1 : Int) * 2 ^ (min ((IntKind.u64.wrap x.2.1)).toNat IntKind.u32.bits)))).toNat : Int)))
      else
        ((IntKind.u32.wrap ((BitVec.ofInt IntKind.u32.bits x.2.2.1 &&& BitVec.ofInt IntKind.u32.bits (IntKind.u32.wrap ((1 : Int) * 2 ^ (min ((IntKind.u64.wrap x.2.1)).toNat IntKind.u32.bits)))).toNat : Int)), (0 : Int), (0 : Int)))
  else
    bif ((IntKind.i64.wrap ((BitVec.ofInt IntKind.i64.bits x.1.2 &&& BitVec.ofInt IntKind.i64.bits (2 : Int)).toNat : Int)) != (0 : Int)) then
      (bif ((IntKind.i64.wrap ((BitVec.ofInt IntKind.i64.bits x.1.2 &&& BitVec.ofInt IntKind.i64.bits (4 : Int)).toNat : Int)) != (0 : Int)) then
        ((0 : Int), (IntKind.u32.wrap ((BitVec.ofInt IntKind.u32.bits x.2.2.2.1 &&& BitVec.ofInt IntKind.u32.bits (IntKind.u32.wrap ((1 : Int) * 2 ^ (min ((IntKind.u64.wrap x.2.1)).toNat IntKind.u32.bits)))).toNat : Int)), (IntKind.u32.wrap ((BitVec.ofInt IntKind.u32.bits x.2.2.2.2 &&& BitVec.ofInt IntKind.u32.bits (IntKind.u32.wrap ((1 : Int) * 2 ^ (min ((IntKind.u64.wrap x.2.1)).toNat IntKind.u32.bits)))).toNat : Int)))
      else
        ((0 : Int), (IntKind.u32.wrap ((BitVec.ofInt IntKind.u32.bits x.2.2.2.1 &&& BitVec.ofInt IntKind.u32.bits (IntKind.u32.wrap ((1 : Int) * 2 ^ (min ((IntKind.u64.wrap x.2.1)).toNat IntKind.u32.bits)))).toNat : Int)), (0 : Int)))
    else
      bif ((IntKind.i64.wrap ((BitVec.ofInt IntKind.i64.bits x.1.2 &&& BitVec.ofInt IntKind.i64.bits (4 : Int)).toNat : Int)) != (0 : Int)) then
        ((0 : Int), (0 : Int), (IntKind.u32.wrap ((BitVec.ofInt IntKind.u32.bits x.2.2.2.2 &&& BitVec.ofInt IntKind.u32.bits (IntKind.u32.wrap ((1 : Int) * 2 ^ (min ((IntKind.u64.wrap x.2.1)).toNat IntKind.u32.bits)))).toNat : Int)))
      else
        ((0 : Int), (0 : Int), (0 : Int))
end Go.Proofs.YtidnlehjabhclaaDoor.Sp
namespace Go.Proofs.YtidnlehjabhclaaDoor.Sy
def ct38 : Ct := { p := (Ty.pair ty23 (Ty.pair ty3 ty30)), psh := [some 2, none, some 3], r := ty30, rsh := (Rsh.one (some 3)), pre := none, fresh := none, F := Sp.F38 }
theorem va38 (x : (Ty.pair ty23 (Ty.pair ty3 ty30)).den) : ((evFn (ctxG GmC4) Tryd.f38 (Ty.pair ty23 (Ty.pair ty3 ty30)) [some 2, none, some 3] (Rsh.one (some 3)) none ty30 noL x)).val (fun y => y) (Ty.dflt ty30) = Sp.F38 x := by kernel_rfl
theorem se38 (x : (Ty.pair ty23 (Ty.pair ty3 ty30)).den) : ((evFn (ctxG GmC4) Tryd.f38 (Ty.pair ty23 (Ty.pair ty3 ty30)) [some 2, none, some 3] (Rsh.one (some 3)) none ty30 noL x)).safe = (((0 ≤ (IntKind.u64.wrap x.2.1)) ∧ (((x.1.2 != (0 : Int)) = true → ((((IntKind.i64.wrap ((BitVec.ofInt IntKind.i64.bits x.1.2 &&& BitVec.ofInt IntKind.i64.bits (2 : Int)).toNat : Int)) != (0 : Int)) = true → ((((IntKind.i64.wrap ((BitVec.ofInt IntKind.i64.bits x.1.2 &&& BitVec.ofInt IntKind.i64.bits (4 : Int)).toNat : Int)) != (0 : Int)) = true → True) ∧ (((IntKind.i64.wrap ((BitVec.ofInt IntKind.i64.bits x.1.2 &&& BitVec.ofInt IntKind.i64.bits (4 : Int)).toNat : Int)) != (0 : Int)) = false → True))) ∧ (((IntKind.i64.wrap ((BitVec.ofInt IntKind.i64.bits x.1.2 &&& BitVec.ofInt IntKind.i64.bits (2 : Int)).toNat : Int)) != (0 : Int)) = false → ((((IntKind.i64.wrap ((BitVec.ofInt IntKind.i64.bits x.1.2 &&& BitVec.ofInt IntKind.i64.bits (4 : Int)).toNat : Int)) != (0 : Int)) = true → True) ∧ (((IntKind.i64.wrap ((BitVec.ofInt IntKind.i64.bits x.1.2 &&& BitVec.ofInt IntKind.i64.bits (4 : Int)).toNat : Int)) != (0 : Int)) = false → True))))) ∧ ((x.1.2 != (0 : Int)) = false → ((((IntKind.i64.wrap ((BitVec.ofInt IntKind.i64.bits x.1.2 &&& BitVec.ofInt IntKind.i64.bits (2 : Int)).toNat : Int)) != (0 : Int)) = true → ((((IntKind.i64.wrap ((BitVec.ofInt IntKind.i64.bits x.1.2 &&& BitVec.ofInt IntKind.i64.bits (4 : Int)).toNat : Int)) != (0 : Int)) = true → True) ∧ (((IntKind.i64.wrap ((BitVec.ofInt IntKind.i64.bits x.1.2 &&& BitVec.ofInt IntKind.i64.bits (4 : Int)).toNat : Int)) != (0 : Int)) = false → True))) ∧ (((IntKind.i64.wrap ((BitVec.ofInt IntKind.i64.bits x.1.2 &&& BitVec.ofInt IntKind.i64.bits (2 : Int)).toNat : Int)) != (0 : Int)) = false → ((((IntKind.i64.wrap ((BitVec.ofInt IntKind.i64.bits x.1.2 &&& BitVec.ofInt IntKind.i64.bits (4 : Int)).toNat : Int)) != (0 : Int)) = true → True) ∧ (((IntKind.i64.wrap ((BitVec.ofInt IntKind.i64.bits x.1.2 &&& BitVec.ofInt IntKind.i64.bits (4 : Int)).toNat : Int)) != (0 : Int)) = false → True)))))))) := by kernel_rfl
theorem sa38 (x : (Ty.pair ty23 (Ty.pair ty3 ty30)).den) (fx : Fit (Ty.pair ty23 (Ty.pair ty3 ty30)) x) : SafeW ((evFn (ctxG GmC4) Tryd.f38 (Ty.pair ty23 (Ty.pair ty3 ty30)) [some 2, none, some 3] (Rsh.one (some 3)) none ty30 noL x)) := by
  refine ⟨?_⟩
  rw [se38]
  try dsimp only [Ty.den] at *
  simp only [Fit, maxLen] at fx
  simp only [true_and, IntKind.wrap_i64, IntKind.wrap_u8, IntKind.wrap_u32, IntKind.wrap_u64, Sp.tmod_lit, Sp.tdiv_lit, bne_eq_false_iff_eq, Int.natCast_inj, setE, copyL, sliceL, zrow, List.length_append, List.length_cons, List.length_nil, List.length_set, List.length_replicate, List.length_take, List.length_drop, decide_eq_true_eq, decide_eq_false_iff_not, Bool.or_eq_true, Bool.and_eq_true, Bool.or_eq_false_iff, Bool.and_eq_false_iff, Bool.not_eq_true', Bool.not_eq_false', Bool.not_eq_true, Bool.not_eq_false, beq_iff_eq, beq_eq_false_iff_ne, bne_iff_ne, ne_eq, implies_true, and_true, true_and] at *
  all_goals ((repeat' (first | exact trivial | apply And.intro | intro _)) <;> first | trivial | omega | exact Sp.tmod_nn (by omega) | exact Sp.tmod_lt (by omega) (by omega))
theorem ok38 : CtOk Tryd.prog gdS 38 ct38 :=
  fn_okU (ctxOkF gokGmC4 []) rfl Tryd.func38 (p := (Ty.pair ty23 (Ty.pair ty3 ty30))) (psh := [some 2, none, some 3]) (r := ty30) (rsh := (Rsh.one (some 3))) (pre := none) (fresh := none) (F := Sp.F38) (L := noL) (c := bodyOf Tryd.f38) (dflt := Ty.dflt ty30) rfl (no_loops)
    (safe_no @sa38) va38
/-! overlayref07.Minus -/
end Go.Proofs.YtidnlehjabhclaaDoor.Sy
namespace Go.Proofs.YtidnlehjabhclaaDoor.Sp
open Go Go.RowKit Sy
def F15 (x : (Int × Int) × Int × Int) : Int × Int :=
  ((IntKind.u32.wrap ((BitVec.ofInt IntKind.u32.bits x.1.1 &&& ~~~ BitVec.ofInt IntKind.u32.bits x.2.1).toNat : Int)), (IntKind.u32.wrap ((BitVec.ofInt IntKind.u32.bits x.1.2 &&& ~~~ BitVec.ofInt IntKind.u32.bits x.2.2).toNat : Int)))
end Go.Proofs.YtidnlehjabhclaaDoor.Sp
namespace Go.Proofs.YtidnlehjabhclaaDoor.Sy
def ct15 : Ct := { p := (Ty.pair ty28 ty28), psh := [some 2, some 2], r := ty28, rsh := (Rsh.one (some 2)), pre := none, fresh := none, F := Sp.F15 }
theorem va15 (x : (Ty.pair ty28 ty28).den) : ((evFn (ctxG GmC4) Tryd.f15 (Ty.pair ty28 ty28) [some 2, some 2] (Rsh.one (some 2)) none ty28 noL x)).val (fun y => y) (Ty.dflt ty28) = Sp.F15 x := by kernel_rfl
theorem se15 (x : (Ty.pair ty28 ty28).den) : ((evFn (ctxG GmC4) Tryd.f15 (Ty.pair ty28 ty28) [some 2, some 2] (Rsh.one (some 2)) none ty28 noL x)).safe = (True) := by kernel_rfl
theorem sa15 (x : (Ty.pair ty28 ty28).den) (fx : Fit (Ty.pair ty28 ty28) x) : SafeW ((evFn (ctxG GmC4) Tryd.f15 (Ty.pair ty28 ty28) [some 2, some 2] (Rsh.one (some 2)) none ty28 noL x)) := by
  refine ⟨?_⟩
  rw [se15]
  trivial
theorem ok15 : CtOk Tryd.prog gdS 15 ct15 :=
  fn_okU (ctxOkF gokGmC4 []) rfl Tryd.func15 (p := (Ty.pair ty28 ty28)) (psh := [some 2, some 2]) (r := ty28) (rsh := (Rsh.one (some 2))) (pre := none) (fresh := none) (F := Sp.F15) (L := noL) (c := bodyOf Tryd.f15) (dflt := Ty.dflt ty28) rfl (no_loops)
    (safe_no @sa15) va15
/-! overlayref07.Has -/
end Go.Proofs.YtidnlehjabhclaaDoor.Sy
namespace Go.Proofs.YtidnlehjabhclaaDoor.Sp
open Go Go.RowKit Sy
def F19 (x : (Int × Int) × Int × Int) : Bool :=
  bif ((decide (x.2.1 < (0 : Int))) || (decide (x.2.1 > (31 : Int)))) then
    false
  else
    (((x.2.2 == (1 : Int)) && ((IntKind.u32.wrap ((BitVec.ofInt IntKind.u32.bits (Int.fdiv x.1.1 (2 ^ (min ((IntKind.u64.wrap x.2.1)).toNat IntKind.u32.bits))) &&& BitVec.ofInt IntKind.u32.bits (1 : Int)).toNat : Int)) == (1 : Int))) || ((x.2.2 == (2 : Int)) && ((IntKind.u32.wrap ((BitVec.ofInt IntKind.u32.bits (Int.fdiv x.1.2 (2 ^ (min ((IntKind.u64.wrap x.2.1)).toNat IntKind.u32.bits))) &&& BitVec.ofInt IntKind.u32.bits (1 : Int)).toNat : Int)) == (1 : Int))))
end Go.Proofs.YtidnlehjabhclaaDoor.Sp
namespace Go.Proofs.YtidnlehjabhclaaDoor.Sy
def ct19 : Ct := { p := (Ty.pair ty28 (Ty.pair ty3 ty3)), psh := [some 2, none, none], r := ty4, rsh := (Rsh.one (none)), pre := none, fresh := none, F := Sp.F19 }
theorem va19 (x : (Ty.pair ty28 (Ty.pair ty3 ty3)).den) : ((evFn (ctxG GmC4) Tryd.f19 (Ty.pair ty28 (Ty.pair ty3 ty3)) [some 2, none, none] (Rsh.one (none)) none ty4 noL x)).val (fun y => y) (Ty.dflt ty4) = Sp.F19 x := by kernel_rfl
theorem se19 (x : (Ty.pair ty28 (Ty.pair ty3 ty3)).den) : ((evFn (ctxG GmC4) Tryd.f19 (Ty.pair ty28 (Ty.pair ty3 ty3)) [some 2, none, none] (Rsh.one (none)) none ty4 noL x)).safe = (((((decide (x.2.1 < (0 : Int))) || (decide (x.2.1 > (31 : Int)))) = true → True) ∧ (((decide (x.2.1 < (0 : Int))) || (decide (x.2.1 > (31 : Int)))) = false → ((((x.2.2 == (1 : Int)) = true → 0 ≤ (IntKind.u64.wrap x.2.1))) ∧ (((((x.2.2 == (1 : Int)) && ((IntKind.u32.wrap ((BitVec.ofInt IntKind.u32.bits (Int.fdiv x.1.1 (2 ^ (min ((IntKind.u64.wrap x.2.1)).toNat IntKind.u32.bits))) &&& BitVec.ofInt IntKind.u32.bits (1 : Int)).toNat : Int)) == (1 : Int))) = false → ((x.2.2 == (2 : Int)) = true → 0 ≤ (IntKind.u64.wrap x.2.1)))) ∧ True))))) := by kernel_rfl
theorem sa19 (x : (Ty.pair ty28 (Ty.pair ty3 ty3)).den) (fx : Fit (Ty.pair ty28 (Ty.pair ty3 ty3)) x) : SafeW ((evFn (ctxG GmC4) Tryd.f19 (Ty.pair ty28 (Ty.pair ty3 ty3)) [some 2, none, none] (Rsh.one (none)) none ty4 noL x)) := by
  refine ⟨?_⟩
  rw [se19]
  try dsimp only [Ty.den] at *
  simp only [Fit, maxLen] at fx
  simp only [true_and, IntKind.wrap_i64, IntKind.wrap_u8, IntKind.wrap_u32, IntKind.wrap_u64, Sp.tmod_lit, Sp.tdiv_lit, bne_eq_false_iff_eq, Int.natCast_inj, setE, copyL, sliceL, zrow, List.length_append, List.length_cons, List.length_nil, List.length_set, List.length_replicate, List.length_take, List.length_drop, decide_eq_true_eq, decide_eq_false_iff_not, Bool.or_eq_true, Bool.and_eq_true, Bool.or_eq_false_iff, Bool.and_eq_false_iff, Bool.not_eq_true', Bool.not_eq_false', Bool.not_eq_true, Bool.not_eq_false, beq_iff_eq, beq_eq_false_iff_ne, bne_iff_ne, ne_eq, implies_true, and_true, true_and] at *
  all_goals ((repeat' (first | exact trivial | apply And.intro | intro _)) <;> first | trivial | omega | exact Sp.tmod_nn (by omega) | exact Sp.tmod_lt (by omega) (by omega))
theorem ok19 : CtOk Tryd.prog gdS 19 ct19 :=
  fn_okU (ctxOkF gokGmC4 []) rfl Tryd.func19 (p := (Ty.pair ty28 (Ty.pair ty3 ty3))) (psh := [some 2, none, none]) (r := ty4) (rsh := (Rsh.one (none))) (pre := none) (fresh := none) (F := Sp.F19) (L := noL) (c := bodyOf Tryd.f19) (dflt := Ty.dflt ty4) rfl (no_loops)
    (safe_no @sa19) va19
/-! overlayref11.above -/
end Go.Proofs.YtidnlehjabhclaaDoor.Sy
namespace Go.Proofs.YtidnlehjabhclaaDoor.Sp
open Go Go.RowKit Sy
def in46_2 (k : (Int × Int × Int × Int)) (x : (Int)) : Prop := True
def mu46_2 (k : (Int × Int × Int × Int)) (x : (Int)) : Nat := ((32 : Int) - x).toNat
def st46_2 (k : (Int × Int × Int × Int)) (x : (Int)) : BOut (Int × Int × Int × Int) (Int) (Bool × Int) :=
  bif (decide (x < (32 : Int))) then
    (bif ((IntKind.u32.wrap ((BitVec.ofInt IntKind.u32.bits (Int.fdiv (IntKind.u32.wrap ((BitVec.ofInt IntKind.u32.bits (IntKind.u32.wrap ((BitVec.ofInt IntKind.u32.bits k.2.1 ||| BitVec.ofInt IntKind.u32.bits k.2.2.1).toNat : Int)) ||| BitVec.ofInt IntKind.u32.bits k.2.2.2).toNat : Int)) (2 ^ (min ((IntKind.u64.wrap x)).toNat IntKind.u32.bits))) &&& BitVec.ofInt IntKind.u32.bits (1 : Int)).toNat : Int)) == (1 : Int)) then
      BOut.ret (true, (IntKind.i64.wrap (x - k.1)))
    else
      BOut.next k (IntKind.i64.wrap (x + (1 : Int))))
  else
    BOut.brk k x
def G46_2 (k : (Int × Int × Int × Int)) (x : (Int)) : (Int) := endOf st46_2 k (Nat.succ (mu46_2 k x)) x
def R46_2 (k : (Int × Int × Int × Int)) (x : (Int)) : Option (Bool × Int) := retOf st46_2 k (Nat.succ (mu46_2 k x)) x
end Go.Proofs.YtidnlehjabhclaaDoor.Sp
namespace Go.Proofs.YtidnlehjabhclaaDoor.Sy
def LS46_2 : LS (Ty.pair ty4 ty3).den := mkLS (Ty.pair ty3 ty30) ty3  [(1, none)] [(2, 3)] [(6, none)] [] [] [] [(2, 2)] 0 true Sp.in46_2 Sp.st46_2 Sp.mu46_2
theorem va46_2 (k : (Ty.pair ty3 ty30).den) (x : ty3.den) : ((evCode (ctxG GmC4) (lookL []) (bodyAt (bodyOf Tryd.f46) [0]) (tmpl LS46_2 (enc (Ty.pair ty3 ty30) k) (enc ty3 x)) (evRound LS46_2 (evRet (ctxG GmC4) Tryd.f46 (Rsh.tup [none, none]) none (Ty.pair ty4 ty3) .ret)))).val BOut.ret (BOut.brk (Ty.dflt (Ty.pair ty3 ty30)) (Ty.dflt ty3)) = Sp.st46_2 k x := by kernel_rfl
theorem se46_2 (k : (Ty.pair ty3 ty30).den) (x : ty3.den) : ((evCode (ctxG GmC4) (lookL []) (bodyAt (bodyOf Tryd.f46) [0]) (tmpl LS46_2 (enc (Ty.pair ty3 ty30) k) (enc ty3 x)) (evRound LS46_2 (evRet (ctxG GmC4) Tryd.f46 (Rsh.tup [none, none]) none (Ty.pair ty4 ty3) .ret)))).safe = ((((decide (x < (32 : Int))) = true → ((0 ≤ (IntKind.u64.wrap x)) ∧ ((((IntKind.u32.wrap ((BitVec.ofInt IntKind.u32.bits (Int.fdiv (IntKind.u32.wrap ((BitVec.ofInt IntKind.u32.bits (IntKind.u32.wrap ((BitVec.ofInt IntKind.u32.bits k.2.1 ||| BitVec.ofInt IntKind.u32.bits k.2.2.1).toNat : Int)) ||| BitVec.ofInt IntKind.u32.bits k.2.2.2).toNat : Int)) (2 ^ (min ((IntKind.u64.wrap x)).toNat IntKind.u32.bits))) &&& BitVec.ofInt IntKind.u32.bits (1 : Int)).toNat : Int)) == (1 : Int)) = true → True) ∧ (((IntKind.u32.wrap ((BitVec.ofInt IntKind.u32.bits (Int.fdiv (IntKind.u32.wrap ((BitVec.ofInt IntKind.u32.bits (IntKind.u32.wrap ((BitVec.ofInt IntKind.u32.bits k.2.1 ||| BitVec.ofInt IntKind.u32.bits k.2.2.1).toNat : Int)) ||| BitVec.ofInt IntKind.u32.bits k.2.2.2).toNat : Int)) (2 ^ (min ((IntKind.u64.wrap x)).toNat IntKind.u32.bits))) &&& BitVec.ofInt IntKind.u32.bits (1 : Int)).toNat : Int)) == (1 : Int)) = false → True)))) ∧ ((decide (x < (32 : Int))) = false → True))) := by kernel_rfl
set_option maxHeartbeats 4000000 in
theorem sa46_2 (k : (Ty.pair ty3 ty30).den) (x : ty3.den) (fk : Fit (Ty.pair ty3 ty30) k) (fx : Fit ty3 x) (h : Sp.in46_2 k x) : SafeW ((evCode (ctxG GmC4) (lookL []) (bodyAt (bodyOf Tryd.f46) [0]) (tmpl LS46_2 (enc (Ty.pair ty3 ty30) k) (enc ty3 x)) (evRound LS46_2 (evRet (ctxG GmC4) Tryd.f46 (Rsh.tup [none, none]) none (Ty.pair ty4 ty3) .ret)))) := by
  refine ⟨?_⟩
  rw [se46_2]
  try dsimp only [Ty.den] at *
  simp only [Sp.in46_2, Fit, maxLen] at h fk fx
  simp only [IntKind.wrap_i64, IntKind.wrap_u8, IntKind.wrap_u32, IntKind.wrap_u64, Sp.tmod_lit, Sp.tdiv_lit, bne_eq_false_iff_eq, Int.natCast_inj, setE, copyL, sliceL, zrow, List.length_append, List.length_cons, List.length_nil, List.length_set, List.length_replicate, List.length_take, List.length_drop, decide_eq_true_eq, decide_eq_false_iff_not, Bool.or_eq_true, Bool.and_eq_true, Bool.or_eq_false_iff, Bool.and_eq_false_iff, Bool.not_eq_true', Bool.not_eq_false', Bool.not_eq_true, Bool.not_eq_false, beq_iff_eq, beq_eq_false_iff_ne, bne_iff_ne, ne_eq, implies_true, and_true, true_and] at *
  all_goals ((repeat' (first | exact trivial | apply And.intro | intro _)) <;> first | trivial | omega | exact Sp.tmod_nn (by omega) | exact Sp.tmod_lt (by omega) (by omega))
set_option maxHeartbeats 4000000 in
theorem so46_2 (k : (Ty.pair ty3 ty30).den) (x : ty3.den) (fk : Fit (Ty.pair ty3 ty30) k) (h : Sp.in46_2 k x) : StepOk true Sp.in46_2 Sp.mu46_2 k x (Sp.st46_2 k x) := by
  try dsimp only [Ty.den] at *
  simp only [Sp.in46_2, Fit, maxLen] at h fk
  unfold Sp.st46_2
  (repeat' (first | exact rfl | (refine StepOk.cnd (fun hc => ?_) (fun hc => ?_) <;> (try simp only [IntKind.wrap_i64, IntKind.wrap_u8, IntKind.wrap_u32, IntKind.wrap_u64, bne_eq_false_iff_eq, Int.natCast_inj, setE, copyL, sliceL, zrow, List.length_append, List.length_cons, List.length_nil, List.length_set, List.length_replicate, List.length_take, List.length_drop, decide_eq_true_eq, decide_eq_false_iff_not, Bool.or_eq_true, Bool.and_eq_true, Bool.or_eq_false_iff, Bool.and_eq_false_iff, Bool.not_eq_true', Bool.not_eq_false', Bool.not_eq_true, Bool.not_eq_false, beq_iff_eq, beq_eq_false_iff_ne, bne_iff_ne, ne_eq] at hc)) | refine StepOk.opt (fun _ => ?_))) <;> (first | exact rfl | (refine ⟨rfl, ?_, ?_⟩ <;> simp only [Sp.in46_2, Sp.mu46_2, IntKind.wrap_i64, IntKind.wrap_u8, IntKind.wrap_u32, IntKind.wrap_u64, Sp.tmod_lit, Sp.tdiv_lit, bne_eq_false_iff_eq, Int.natCast_inj, setE, copyL, sliceL, zrow, List.length_append, List.length_cons, List.length_nil, List.length_set, List.length_replicate, List.length_take, List.length_drop, decide_eq_true_eq, decide_eq_false_iff_not, Bool.or_eq_true, Bool.and_eq_true, Bool.or_eq_false_iff, Bool.and_eq_false_iff, Bool.not_eq_true', Bool.not_eq_false', Bool.not_eq_true, Bool.not_eq_false, beq_iff_eq, beq_eq_false_iff_ne, bne_iff_ne, ne_eq] <;> first | omega | (and_intros <;> first | omega | exact h.1 | exact h.2 | exact h.2.1 | exact h.2.2 | exact h.2.2.1 | exact h.2.2.2 | exact h.2.2.2.1 | exact h.2.2.2.2 | exact h.2.2.2.2.1 | exact h.2.2.2.2.2 | exact h.2.2.2.2.2.1 | exact h.2.2.2.2.2.2)))
theorem lo46_2 : LoopOk Tryd.prog gdS (RetAt Tryd.prog Tryd.f46 (Rsh.tup [none, none]) none (Ty.pair ty4 ty3)) (bodyAt (bodyOf Tryd.f46) [0]) LS46_2 :=
  loop_run (ctxOkF gokGmC4 []) (L := lookL []) (loops_of (l := []) (by kernel_rfl) (loops_nil)) sa46_2 va46_2 so46_2
end Go.Proofs.YtidnlehjabhclaaDoor.Sy
namespace Go.Proofs.YtidnlehjabhclaaDoor.Sp
open Go Go.RowKit Sy
def F46 (x : (Int × Int × Int) × Int) : Bool × Int :=
  Sp.optR (Sp.R46_2 (x.2, x.1) (IntKind.i64.wrap (x.2 + (1 : Int)))) (fun y => y)
  ((false, (0 : Int)))
end Go.Proofs.YtidnlehjabhclaaDoor.Sp
namespace Go.Proofs.YtidnlehjabhclaaDoor.Sy
def ct46 : Ct := { p := (Ty.pair ty30 ty3), psh := [some 3, none], r := (Ty.pair ty4 ty3), rsh := (Rsh.tup [none, none]), pre := none, fresh := none, F := Sp.F46 }
theorem va46 (x : (Ty.pair ty30 ty3).den) : ((evFn (ctxG GmC4) Tryd.f46 (Ty.pair ty30 ty3) [some 3, none] (Rsh.tup [none, none]) none (Ty.pair ty4 ty3) (lookL [(2, LS46_2)]) x)).val (fun y => y) (Ty.dflt (Ty.pair ty4 ty3)) = Sp.F46 x := by kernel_rfl
theorem se46 (x : (Ty.pair ty30 ty3).den) : ((evFn (ctxG GmC4) Tryd.f46 (Ty.pair ty30 ty3) [some 3, none] (Rsh.tup [none, none]) none (Ty.pair ty4 ty3) (lookL [(2, LS46_2)]) x)).safe = (((Sp.in46_2 (x.2, x.1) (IntKind.i64.wrap (x.2 + (1 : Int)))) ∧ ((Sp.R46_2 (x.2, x.1) (IntKind.i64.wrap (x.2 + (1 : Int)))) = none → True))) := by kernel_rfl
theorem sa46 (x : (Ty.pair ty30 ty3).den) (fx : Fit (Ty.pair ty30 ty3) x) : SafeW ((evFn (ctxG GmC4) Tryd.f46 (Ty.pair ty30 ty3) [some 3, none] (Rsh.tup [none, none]) none (Ty.pair ty4 ty3) (lookL [(2, LS46_2)]) x)) := by
  refine ⟨?_⟩
  rw [se46]
  try dsimp only [Ty.den] at *
  simp only [Fit, maxLen] at fx
  simp only [Sp.in46_2, IntKind.wrap_i64, IntKind.wrap_u8, IntKind.wrap_u32, IntKind.wrap_u64, Sp.tmod_lit, Sp.tdiv_lit, bne_eq_false_iff_eq, Int.natCast_inj, setE, copyL, sliceL, zrow, List.length_append, List.length_cons, List.length_nil, List.length_set, List.length_replicate, List.length_take, List.length_drop, decide_eq_true_eq, decide_eq_false_iff_not, Bool.or_eq_true, Bool.and_eq_true, Bool.or_eq_false_iff, Bool.and_eq_false_iff, Bool.not_eq_true', Bool.not_eq_false', Bool.not_eq_true, Bool.not_eq_false, beq_iff_eq, beq_eq_false_iff_ne, bne_iff_ne, ne_eq, implies_true, and_true, true_and] at *
  all_goals ((repeat' (first | exact trivial | apply And.intro | intro _)) <;> first | trivial | omega | exact Sp.tmod_nn (by omega) | exact Sp.tmod_lt (by omega) (by omega))
theorem ok46 : CtOk Tryd.prog gdS 46 ct46 :=
  fn_okU (ctxOkF gokGmC4 []) rfl Tryd.func46 (p := (Ty.pair ty30 ty3)) (psh := [some 3, none]) (r := (Ty.pair ty4 ty3)) (rsh := (Rsh.tup [none, none])) (pre := none) (fresh := none) (F := Sp.F46) (L := (lookL [(2, LS46_2)])) (c := bodyOf Tryd.f46) (dflt := Ty.dflt (Ty.pair ty4 ty3)) rfl (loops_of (l := [bodyAt (bodyOf Tryd.f46) [0]]) (by kernel_rfl) (loops_cons (s0 := LS46_2) (by kernel_rfl) lo46_2 (loops_nil)))
    (safe_no @sa46) va46
/-! overlayref11.below -/
end Go.Proofs.YtidnlehjabhclaaDoor.Sy
namespace Go.Proofs.YtidnlehjabhclaaDoor.Sp
open Go Go.RowKit Sy
def in47_2 (k : (Int × Int × Int × Int)) (x : (Int)) : Prop := -9223372036854775808 ≤ x ∧ x ≤ 9223372036854775807
def mu47_2 (k : (Int × Int × Int × Int)) (x : (Int)) : Nat := (x + 1).toNat
def st47_2 (k : (Int × Int × Int × Int)) (x : (Int)) : BOut (Int × Int × Int × Int) (Int) (Bool × Int) :=
  bif (decide (x ≥ (0 : Int))) then
    (bif ((IntKind.u32.wrap ((BitVec.ofInt IntKind.u32.bits (Int.fdiv (IntKind.u32.wrap ((BitVec.ofInt IntKind.u32.bits (IntKind.u32.wrap ((BitVec.ofInt IntKind.u32.bits k.2.1 ||| BitVec.ofInt IntKind.u32.bits k.2.2.1).toNat : Int)) ||| BitVec.ofInt IntKind.u32.bits k.2.2.2).toNat : Int)) (2 ^ (min ((IntKind.u64.wrap x)).toNat IntKind.u32.bits))) &&& BitVec.ofInt IntKind.u32.bits (1 : Int)).toNat : Int)) == (1 : Int)) then
      BOut.ret (true, (IntKind.i64.wrap (k.1 - x)))
    else
      BOut.next k (IntKind.i64.wrap (x - (1 : Int))))
  else
    BOut.brk k x
def G47_2 (k : (Int × Int × Int × Int)) (x : (Int)) : (Int) := endOf st47_2 k (Nat.succ (mu47_2 k x)) x
def R47_2 (k : (Int × Int × Int × Int)) (x : (Int)) : Option (Bool × Int) := retOf st47_2 k (Nat.succ (mu47_2 k x)) x
end Go.Proofs.YtidnlehjabhclaaDoor.Sp
namespace Go.Proofs.YtidnlehjabhclaaDoor.Sy
def LS47_2 : LS (Ty.pair ty4 ty3).den := mkLS (Ty.pair ty3 ty30) ty3  [(1, none)] [(2, 3)] [(6, none)] [] [] [] [(2, 2)] 0 true Sp.in47_2 Sp.st47_2 Sp.mu47_2
theorem va47_2 (k : (Ty.pair ty3 ty30).den) (x : ty3.den) : ((evCode (ctxG GmC4) (lookL []) (bodyAt (bodyOf Tryd.f47) [0]) (tmpl LS47_2 (enc (Ty.pair ty3 ty30) k) (enc ty3 x)) (evRound LS47_2 (evRet (ctxG GmC4) Tryd.f47 (Rsh.tup [none, none]) none (Ty.pair ty4 ty3) .ret)))).val BOut.ret (BOut.brk (Ty.dflt (Ty.pair ty3 ty30)) (Ty.dflt ty3)) = Sp.st47_2 k x := by kernel_rfl
theorem se47_2 (k : (Ty.pair ty3 ty30).den) (x : ty3.den) : ((evCode (ctxG GmC4) (lookL []) (bodyAt (bodyOf Tryd.f47) [0]) (tmpl LS47_2 (enc (Ty.pair ty3 ty30) k) (enc ty3 x)) (evRound LS47_2 (evRet (ctxG GmC4) Tryd.f47 (Rsh.tup [none, none]) none (Ty.pair ty4 ty3) .ret)))).safe = ((((decide (x ≥ (0 : Int))) = true → ((0 ≤ (IntKind.u64.wrap x)) ∧ ((((IntKind.u32.wrap ((BitVec.ofInt IntKind.u32.bits (Int.fdiv (IntKind.u32.wrap ((BitVec.ofInt IntKind.u32.bits (IntKind.u32.wrap ((BitVec.ofInt IntKind.u32.bits k.2.1 ||| BitVec.ofInt IntKind.u32.bits k.2.2.1).toNat : Int)) ||| BitVec.ofInt IntKind.u32.bits k.2.2.2).toNat : Int)) (2 ^ (min ((IntKind.u64.wrap x)).toNat IntKind.u32.bits))) &&& BitVec.ofInt IntKind.u32.bits (1 : Int)).toNat : Int)) == (1 : Int)) = true → True) ∧ (((IntKind.u32.wrap ((BitVec.ofInt IntKind.u32.bits (Int.fdiv (IntKind.u32.wrap ((BitVec.ofInt IntKind.u32.bits (IntKind.u32.wrap ((BitVec.ofInt IntKind.u32.bits k.2.1 ||| BitVec.ofInt IntKind.u32.bits k.2.2.1).toNat : Int)) ||| BitVec.ofInt IntKind.u32.bits k.2.2.2).toNat : Int)) (2 ^ (min ((IntKind.u64.wrap x)).toNat IntKind.u32.bits))) &&& BitVec.ofInt IntKind.u32.bits (1 : Int)).toNat : Int)) == (1 : Int)) = false → True)))) ∧ ((decide (x ≥ (0 : Int))) = false → True))) := by kernel_rfl
set_option maxHeartbeats 4000000 in
theorem sa47_2 (k : (Ty.pair ty3 ty30).den) (x : ty3.den) (fk : Fit (Ty.pair ty3 ty30) k) (fx : Fit ty3 x) (h : Sp.in47_2 k x) : SafeW ((evCode (ctxG GmC4) (lookL []) (bodyAt (bodyOf Tryd.f47) [0]) (tmpl LS47_2 (enc (Ty.pair ty3 ty30) k) (enc ty3 x)) (evRound LS47_2 (evRet (ctxG GmC4) Tryd.f47 (Rsh.tup [none, none]) none (Ty.pair ty4 ty3) .ret)))) := by
  refine ⟨?_⟩
  rw [se47_2]
  try dsimp only [Ty.den] at *
  simp only [Sp.in47_2, Fit, maxLen] at h fk fx
  simp only [IntKind.wrap_i64, IntKind.wrap_u8, IntKind.wrap_u32, IntKind.wrap_u64, Sp.tmod_lit, Sp.tdiv_lit, bne_eq_false_iff_eq, Int.natCast_inj, setE, copyL, sliceL, zrow, List.length_append, List.length_cons, List.length_nil, List.length_set, List.length_replicate, List.length_take, List.length_drop, decide_eq_true_eq, decide_eq_false_iff_not, Bool.or_eq_true, Bool.and_eq_true, Bool.or_eq_false_iff, Bool.and_eq_false_iff, Bool.not_eq_true', Bool.not_eq_false', Bool.not_eq_true, Bool.not_eq_false, beq_iff_eq, beq_eq_false_iff_ne, bne_iff_ne, ne_eq, implies_true, and_true, true_and] at *
  all_goals ((repeat' (first | exact trivial | apply And.intro | intro _)) <;> first | trivial | omega | exact Sp.tmod_nn (by omega) | exact Sp.tmod_lt (by omega) (by omega))
set_option maxHeartbeats 4000000 in
theorem so47_2 (k : (Ty.pair ty3 ty30).den) (x : ty3.den) (fk : Fit (Ty.pair ty3 ty30) k) (h : Sp.in47_2 k x) : StepOk true Sp.in47_2 Sp.mu47_2 k x (Sp.st47_2 k x) := by
  try dsimp only [Ty.den] at *
  simp only [Sp.in47_2, Fit, maxLen] at h fk
  unfold Sp.st47_2
  (repeat' (first | exact rfl | (refine StepOk.cnd (fun hc => ?_) (fun hc => ?_) <;> (try simp only [IntKind.wrap_i64, IntKind.wrap_u8, IntKind.wrap_u32, IntKind.wrap_u64, bne_eq_false_iff_eq, Int.natCast_inj, setE, copyL, sliceL, zrow, List.length_append, List.length_cons, List.length_nil, List.length_set, List.length_replicate, List.length_take, List.length_drop, decide_eq_true_eq, decide_eq_false_iff_not, Bool.or_eq_true, Bool.and_eq_true, Bool.or_eq_false_iff, Bool.and_eq_false_iff, Bool.not_eq_true', Bool.not_eq_false', Bool.not_eq_true, Bool.not_eq_false, beq_iff_eq, beq_eq_false_iff_ne, bne_iff_ne, ne_eq] at hc)) | refine StepOk.opt (fun _ => ?_))) <;> (first | exact rfl | (refine ⟨rfl, ?_, ?_⟩ <;> simp only [Sp.in47_2, Sp.mu47_2, IntKind.wrap_i64, IntKind.wrap_u8, IntKind.wrap_u32, IntKind.wrap_u64, Sp.tmod_lit, Sp.tdiv_lit, bne_eq_false_iff_eq, Int.natCast_inj, setE, copyL, sliceL, zrow, List.length_append, List.length_cons, List.length_nil, List.length_set, List.length_replicate, List.length_take, List.length_drop, decide_eq_true_eq, decide_eq_false_iff_not, Bool.or_eq_true, Bool.and_eq_true, Bool.or_eq_false_iff, Bool.and_eq_false_iff, Bool.not_eq_true', Bool.not_eq_false', Bool.not_eq_true, Bool.not_eq_false, beq_iff_eq, beq_eq_false_iff_ne, bne_iff_ne, ne_eq] <;> first | omega | (and_intros <;> first | omega | exact h.1 | exact h.2 | exact h.2.1 | exact h.2.2 | exact h.2.2.1 | exact h.2.2.2 | exact h.2.2.2.1 | exact h.2.2.2.2 | exact h.2.2.2.2.1 | exact h.2.2.2.2.2 | exact h.2.2.2.2.2.1 | exact h.2.2.2.2.2.2)))
theorem lo47_2 : LoopOk Tryd.prog gdS (RetAt Tryd.prog Tryd.f47 (Rsh.tup [none, none]) none (Ty.pair ty4 ty3)) (bodyAt (bodyOf Tryd.f47) [0]) LS47_2 :=
  loop_run (ctxOkF gokGmC4 []) (L := lookL []) (loops_of (l := []) (by kernel_rfl) (loops_nil)) sa47_2 va47_2 so47_2
end Go.Proofs.YtidnlehjabhclaaDoor.Sy
namespace Go.Proofs.YtidnlehjabhclaaDoor.Sp
open Go Go.RowKit Sy
def F47 (x : (Int × Int × Int) × Int) : Bool × Int :=
  Sp.optR (Sp.R47_2 (x.2, x.1) (IntKind.i64.wrap (x.2 - (1 : Int)))) (fun y => y)
  ((false, (0 : Int)))
end Go.Proofs.YtidnlehjabhclaaDoor.Sp
namespace Go.Proofs.YtidnlehjabhclaaDoor.Sy
def ct47 : Ct := { p := (Ty.pair ty30 ty3), psh := [some 3, none], r := (Ty.pair ty4 ty3), rsh := (Rsh.tup [none, none]), pre := none, fresh := none, F := Sp.F47 }
theorem va47 (x : (Ty.pair ty30 ty3).den) : ((evFn (ctxG GmC4) Tryd.f47 (Ty.pair ty30 ty3) [some 3, none] (Rsh.tup [none, none]) none (Ty.pair ty4 ty3) (lookL [(2, LS47_2)]) x)).val (fun y => y) (Ty.dflt (Ty.pair ty4 ty3)) = Sp.F47 x := by kernel_rfl
theorem se47 (x : (Ty.pair ty30 ty3).den) : ((evFn (ctxG GmC4) Tryd.f47 (Ty.pair ty30 ty3) [some 3, none] (Rsh.tup [none, none]) none (Ty.pair ty4 ty3) (lookL [(2, LS47_2)]) x)).safe = (((Sp.in47_2 (x.2, x.1) (IntKind.i64.wrap (x.2 - (1 : Int)))) ∧ ((Sp.R47_2 (x.2, x.1) (IntKind.i64.wrap (x.2 - (1 : Int)))) = none → True))) := by kernel_rfl
theorem sa47 (x : (Ty.pair ty30 ty3).den) (fx : Fit (Ty.pair ty30 ty3) x) : SafeW ((evFn (ctxG GmC4) Tryd.f47 (Ty.pair ty30 ty3) [some 3, none] (Rsh.tup [none, none]) none (Ty.pair ty4 ty3) (lookL [(2, LS47_2)]) x)) := by
  refine ⟨?_⟩
  rw [se47]
  try dsimp only [Ty.den] at *
  simp only [Fit, maxLen] at fx
  simp only [Sp.in47_2, IntKind.wrap_i64, IntKind.wrap_u8, IntKind.wrap_u32, IntKind.wrap_u64, Sp.tmod_lit, Sp.tdiv_lit, bne_eq_false_iff_eq, Int.natCast_inj, setE, copyL, sliceL, zrow, List.length_append, List.length_cons, List.length_nil, List.length_set, List.length_replicate, List.length_take, List.length_drop, decide_eq_true_eq, decide_eq_false_iff_not, Bool.or_eq_true, Bool.and_eq_true, Bool.or_eq_false_iff, Bool.and_eq_false_iff, Bool.not_eq_true', Bool.not_eq_false', Bool.not_eq_true, Bool.not_eq_false, beq_iff_eq, beq_eq_false_iff_ne, bne_iff_ne, ne_eq, implies_true, and_true, true_and] at *
  all_goals ((repeat' (first | exact trivial | apply And.intro | intro _)) <;> first | trivial | omega | exact Sp.tmod_nn (by omega) | exact Sp.tmod_lt (by omega) (by omega))
theorem ok47 : CtOk Tryd.prog gdS 47 ct47 :=
  fn_okU (ctxOkF gokGmC4 []) rfl Tryd.func47 (p := (Ty.pair ty30 ty3)) (psh := [some 3, none]) (r := (Ty.pair ty4 ty3)) (rsh := (Rsh.tup [none, none])) (pre := none) (fresh := none) (F := Sp.F47) (L := (lookL [(2, LS47_2)])) (c := bodyOf Tryd.f47) (dflt := Ty.dflt (Ty.pair ty4 ty3)) rfl (loops_of (l := [bodyAt (bodyOf Tryd.f47) [0]]) (by kernel_rfl) (loops_cons (s0 := LS47_2) (by kernel_rfl) lo47_2 (loops_nil)))
    (safe_no @sa47) va47
/-! overlayref11.open -/
end Go.Proofs.YtidnlehjabhclaaDoor.Sy
namespace Go.Proofs.YtidnlehjabhclaaDoor.Sp
open Go Go.RowKit Sy
def F35 (x : Int) : Int × Int × Int :=
  ((3 : Int), x, x)
end Go.Proofs.YtidnlehjabhclaaDoor.Sp
namespace Go.Proofs.YtidnlehjabhclaaDoor.Sy
def ct35 : Ct := { p := ty3, psh := [none], r := ty35, rsh := (Rsh.one (some 3)), pre := none, fresh := none, F := Sp.F35 }
theorem va35 (x : ty3.den) : ((evFn (ctxG GmC4) Tryd.f35 ty3 [none] (Rsh.one (some 3)) none ty35 noL x)).val (fun y => y) (Ty.dflt ty35) = Sp.F35 x := by kernel_rfl
theorem se35 (x : ty3.den) : ((evFn (ctxG GmC4) Tryd.f35 ty3 [none] (Rsh.one (some 3)) none ty35 noL x)).safe = (True) := by kernel_rfl
theorem sa35 (x : ty3.den) (fx : Fit ty3 x) : SafeW ((evFn (ctxG GmC4) Tryd.f35 ty3 [none] (Rsh.one (some 3)) none ty35 noL x)) := by
  refine ⟨?_⟩
  rw [se35]
  trivial
theorem ok35 : CtOk Tryd.prog gdS 35 ct35 :=
  fn_okU (ctxOkF gokGmC4 []) rfl Tryd.func35 (p := ty3) (psh := [none]) (r := ty35) (rsh := (Rsh.one (some 3))) (pre := none) (fresh := none) (F := Sp.F35) (L := noL) (c := bodyOf Tryd.f35) (dflt := Ty.dflt ty35) rfl (no_loops)
    (safe_no @sa35) va35
/-! overlayref11.move -/
end Go.Proofs.YtidnlehjabhclaaDoor.Sy
namespace Go.Proofs.YtidnlehjabhclaaDoor.Sp
open Go Go.RowKit Sy
def F36 (x : Int) : Int × Int × Int :=
  bif (x == (1 : Int)) then
    ((1 : Int), x, (0 : Int))
  else
    bif (x == (2 : Int)) then
      ((2 : Int), x, (0 : Int))
    else
      ((0 : Int), (0 : Int), (0 : Int))
end Go.Proofs.YtidnlehjabhclaaDoor.Sp
namespace Go.Proofs.YtidnlehjabhclaaDoor.Sy
def ct36 : Ct := { p := ty3, psh := [none], r := ty35, rsh := (Rsh.one (some 3)), pre := none, fresh := none, F := Sp.F36 }
theorem va36 (x : ty3.den) : ((evFn (ctxG GmC4) Tryd.f36 ty3 [none] (Rsh.one (some 3)) none ty35 noL x)).val (fun y => y) (Ty.dflt ty35) = Sp.F36 x := by kernel_rfl
theorem se36 (x : ty3.den) : ((evFn (ctxG GmC4) Tryd.f36 ty3 [none] (Rsh.one (some 3)) none ty35 noL x)).safe = ((((x == (1 : Int)) = true → True) ∧ ((x == (1 : Int)) = false → (((x == (2 : Int)) = true → True) ∧ ((x == (2 : Int)) = false → True))))) := by kernel_rfl
theorem sa36 (x : ty3.den) (fx : Fit ty3 x) : SafeW ((evFn (ctxG GmC4) Tryd.f36 ty3 [none] (Rsh.one (some 3)) none ty35 noL x)) := by
  refine ⟨?_⟩
  rw [se36]
  try dsimp only [Ty.den] at *
  simp only [Fit, maxLen] at fx
  simp only [true_and, IntKind.wrap_i64, IntKind.wrap_u8, IntKind.wrap_u32, IntKind.wrap_u64, Sp.tmod_lit, Sp.tdiv_lit, bne_eq_false_iff_eq, Int.natCast_inj, setE, copyL, sliceL, zrow, List.length_append, List.length_cons, List.length_nil, List.length_set, List.length_replicate, List.length_take, List.length_drop, decide_eq_true_eq, decide_eq_false_iff_not, Bool.or_eq_true, Bool.and_eq_true, Bool.or_eq_false_iff, Bool.and_eq_false_iff, Bool.not_eq_true', Bool.not_eq_false', Bool.not_eq_true, Bool.not_eq_false, beq_iff_eq, beq_eq_false_iff_ne, bne_iff_ne, ne_eq, implies_true, and_true, true_and] at *
  all_goals ((repeat' (first | exact trivial | apply And.intro | intro _)) <;> first | trivial | omega | exact Sp.tmod_nn (by omega) | exact Sp.tmod_lt (by omega) (by omega))
theorem ok36 : CtOk Tryd.prog gdS 36 ct36 :=
  fn_okU (ctxOkF gokGmC4 []) rfl Tryd.func36 (p := ty3) (psh := [none]) (r := ty35) (rsh := (Rsh.one (some 3))) (pre := none) (fresh := none) (F := Sp.F36) (L := noL) (c := bodyOf Tryd.f36) (dflt := Ty.dflt ty35) rfl (no_loops)
    (safe_no @sa36) va36
/-! overlaylaw11.few -/
end Go.Proofs.YtidnlehjabhclaaDoor.Sy
namespace Go.Proofs.YtidnlehjabhclaaDoor.Sp
open Go Go.RowKit Sy
def F8 (x : (Int × Int × Int) × Int) : Int × Int × Int :=
  ((IntKind.u32.wrap ((BitVec.ofInt IntKind.u32.bits x.1.1 &&& BitVec.ofInt IntKind.u32.bits (IntKind.u32.wrap ((IntKind.u32.wrap ((1 : Int) * 2 ^ (min ((IntKind.u64.wrap x.2)).toNat IntKind.u32.bits))) - (1 : Int)))).toNat : Int)), (IntKind.u32.wrap ((BitVec.ofInt IntKind.u32.bits x.1.2.1 &&& BitVec.ofInt IntKind.u32.bits (IntKind.u32.wrap ((IntKind.u32.wrap ((1 : Int) * 2 ^ (min ((IntKind.u64.wrap x.2)).toNat IntKind.u32.bits))) - (1 : Int)))).toNat : Int)), (IntKind.u32.wrap ((BitVec.ofInt IntKind.u32.bits x.1.2.2 &&& BitVec.ofInt IntKind.u32.bits (IntKind.u32.wrap ((IntKind.u32.wrap ((1 : Int) * 2 ^ (min ((IntKind.u64.wrap x.2)).toNat IntKind.u32.bits))) - (1 : Int)))).toNat : Int)))
end Go.Proofs.YtidnlehjabhclaaDoor.Sp
namespace Go.Proofs.YtidnlehjabhclaaDoor.Sy
def ct8 : Ct := { p := (Ty.pair ty30 ty3), psh := [some 3, none], r := ty30, rsh := (Rsh.one (some 3)), pre := none, fresh := none, F := Sp.F8 }
theorem va8 (x : (Ty.pair ty30 ty3).den) : ((evFn (ctxG GmC4) Tryd.f8 (Ty.pair ty30 ty3) [some 3, none] (Rsh.one (some 3)) none ty30 noL x)).val (fun y => y) (Ty.dflt ty30) = Sp.F8 x := by kernel_rfl
theorem se8 (x : (Ty.pair ty30 ty3).den) : ((evFn (ctxG GmC4) Tryd.f8 (Ty.pair ty30 ty3) [some 3, none] (Rsh.one (some 3)) none ty30 noL x)).safe = (((0 ≤ (IntKind.u64.wrap x.2)) ∧ True)) := by kernel_rfl
theorem sa8 (x : (Ty.pair ty30 ty3).den) (fx : Fit (Ty.pair ty30 ty3) x) : SafeW ((evFn (ctxG GmC4) Tryd.f8 (Ty.pair ty30 ty3) [some 3, none] (Rsh.one (some 3)) none ty30 noL x)) := by
  refine ⟨?_⟩
  rw [se8]
  try dsimp only [Ty.den] at *
  simp only [Fit, maxLen] at fx
  simp only [true_and, IntKind.wrap_i64, IntKind.wrap_u8, IntKind.wrap_u32, IntKind.wrap_u64, Sp.tmod_lit, Sp.tdiv_lit, bne_eq_false_iff_eq, Int.natCast_inj, setE, copyL, sliceL, zrow, List.length_append, List.length_cons, List.length_nil, List.length_set, List.length_replicate, List.length_take, List.length_drop, decide_eq_true_eq, decide_eq_false_iff_not, Bool.or_eq_true, Bool.and_eq_true, Bool.or_eq_false_iff, Bool.and_eq_false_iff, Bool.not_eq_true', Bool.not_eq_false', Bool.not_eq_true, Bool.not_eq_false, beq_iff_eq, beq_eq_false_iff_ne, bne_iff_ne, ne_eq, implies_true, and_true, true_and] at *
  all_goals ((repeat' (first | exact trivial | apply And.intro | intro _)) <;> first | trivial | omega | exact Sp.tmod_nn (by omega) | exact Sp.tmod_lt (by omega) (by omega))
theorem ok8 : CtOk Tryd.prog gdS 8 ct8 :=
  fn_okU (ctxOkF gokGmC4 []) rfl Tryd.func8 (p := (Ty.pair ty30 ty3)) (psh := [some 3, none]) (r := ty30) (rsh := (Rsh.one (some 3))) (pre := none) (fresh := none) (F := Sp.F8) (L := noL) (c := bodyOf Tryd.f8) (dflt := Ty.dflt ty30) rfl (no_loops)
    (safe_no @sa8) va8
/-! overlaylaw11.sane -/
end Go.Proofs.YtidnlehjabhclaaDoor.Sy
namespace Go.Proofs.YtidnlehjabhclaaDoor.Sp
open Go Go.RowKit Sy
def F11 (x : Unit) : Bool :=
  (((((Sp.F9 ((5 : Int), ((1 : Int), (0 : Int)), (2 : Int), (4 : Int), (8 : Int), (0 : Int))).1 == (3 : Int)) && (((Sp.F9 ((5 : Int), ((1 : Int), (0 : Int)), (2 : Int), (4 : Int), (8 : Int), (0 : Int))).2.1 == (1 : Int)) && ((Sp.F9 ((5 : Int), ((1 : Int), (0 : Int)), (2 : Int), (4 : Int), (8 : Int), (0 : Int))).2.2 == (1 : Int)))) && (((Sp.F9 ((5 : Int), ((1 : Int), (0 : Int)), (2 : Int), (0 : Int), (0 : Int), (4 : Int))).1 == (3 : Int)) && (((Sp.F9 ((5 : Int), ((1 : Int), (0 : Int)), (2 : Int), (0 : Int), (0 : Int), (4 : Int))).2.1 == (2 : Int)) && ((Sp.F9 ((5 : Int), ((1 : Int), (0 : Int)), (2 : Int), (0 : Int), (0 : Int), (4 : Int))).2.2 == (2 : Int))))) && (((Sp.F9 ((5 : Int), ((0 : Int), (0 : Int)), (2 : Int), (17 : Int), (0 : Int), (0 : Int))).1 == (1 : Int)) && (((Sp.F9 ((5 : Int), ((0 : Int), (0 : Int)), (2 : Int), (17 : Int), (0 : Int), (0 : Int))).2.1 == (1 : Int)) && ((Sp.F9 ((5 : Int), ((0 : Int), (0 : Int)), (2 : Int), (17 : Int), (0 : Int), (0 : Int))).2.2 == (0 : Int)))))
end Go.Proofs.YtidnlehjabhclaaDoor.Sp
namespace Go.Proofs.YtidnlehjabhclaaDoor.Sy
def ct11 : Ct := { p := Ty.unit, psh := [], r := ty4, rsh := (Rsh.one (none)), pre := none, fresh := none, F := Sp.F11 }
theorem va11 (x : Ty.unit.den) : ((evFn (ctxG GmC4) Tryd.f11 Ty.unit [] (Rsh.one (none)) none ty4 noL x)).val (fun y => y) (Ty.dflt ty4) = Sp.F11 x := by kernel_rfl
theorem se11 (x : Ty.unit.den) : ((evFn (ctxG GmC4) Tryd.f11 Ty.unit [] (Rsh.one (none)) none ty4 noL x)).safe = (True) := by kernel_rfl
theorem sa11 (x : Ty.unit.den) (fx : Fit Ty.unit x) : SafeW ((evFn (ctxG GmC4) Tryd.f11 Ty.unit [] (Rsh.one (none)) none ty4 noL x)) := by
  refine ⟨?_⟩
  rw [se11]
  trivial
theorem ok11 : CtOk Tryd.prog gdS 11 ct11 :=
  fn_okU (ctxOkF gokGmC4 []) rfl Tryd.func11 (p := Ty.unit) (psh := []) (r := ty4) (rsh := (Rsh.one (none))) (pre := none) (fresh := none) (F := Sp.F11) (L := noL) (c := bodyOf Tryd.f11) (dflt := Ty.dflt ty4) rfl (no_loops)
    (safe_no @sa11) va11
def GmE0 : List (Nat × Ct) := (25, ct25) :: (32, ct32) :: (38, ct38) :: (15, ct15) :: (19, ct19) :: (46, ct46) :: (47, ct47) :: (35, ct35) :: (36, ct36) :: (8, ct8) :: (11, ct11) :: GmC4
theorem gokGmE0 : GOk GmE0 := gok_cons ok25 ⟨_, Tryd.func25, by kernel_rfl, by kernel_rfl⟩ (gok_cons ok32 ⟨_, Tryd.func32, by kernel_rfl, by kernel_rfl⟩ (gok_cons ok38 ⟨_, Tryd.func38, by kernel_rfl, by kernel_rfl⟩ (gok_cons ok15 ⟨_, Tryd.func15, by kernel_rfl, by kernel_rfl⟩ (gok_cons ok19 ⟨_, Tryd.func19, by kernel_rfl, by kernel_rfl⟩ (gok_cons ok46 ⟨_, Tryd.func46, by kernel_rfl, by kernel_rfl⟩ (gok_cons ok47 ⟨_, Tryd.func47, by kernel_rfl, by kernel_rfl⟩ (gok_cons ok35 ⟨_, Tryd.func35, by kernel_rfl, by kernel_rfl⟩ (gok_cons ok36 ⟨_, Tryd.func36, by kernel_rfl, by kernel_rfl⟩ (gok_cons ok8 ⟨_, Tryd.func8, by kernel_rfl, by kernel_rfl⟩ (gok_cons ok11 ⟨_, Tryd.func11, by kernel_rfl, by kernel_rfl⟩ (gokGmC4)))))))))))
end Go.Proofs.YtidnlehjabhclaaDoor.Sy
