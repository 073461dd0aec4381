/- Contracts of functions, by the evaluator (own program gen.py): indicator.Decode, indicator.Shows, overlayref05.Decode, overlayref05.Shows. -/
import Derived.Test.YtkfhampdellhoaaDoorI1
set_option linter.unusedVariables false
set_option linter.unusedSimpArgs false
set_option maxRecDepth 100000
namespace Go.Proofs.YtkfhampdellhoaaDoor.Sy
open Go Go.RowKit Sp
/-! indicator.Decode -/
end Go.Proofs.YtkfhampdellhoaaDoor.Sy
namespace Go.Proofs.YtkfhampdellhoaaDoor.Sp
open Go Go.RowKit Sy
def F11 (x : Int × Int × Bool × Bool × Bool × Bool) : Int × Int × Int :=
  ((Sp.F8 (x.1, x.2.1)), (Sp.F21 (x.2.2.1, x.2.2.2.1, (0 : Int), (1 : Int), (2 : Int), (3 : Int))), (Sp.F21 (x.2.2.2.2.1, x.2.2.2.2.2, (0 : Int), (1 : Int), (2 : Int), (3 : Int))))
def pre11 (x : Int × Int × Bool × Bool × Bool × Bool) : Prop := 0 ≤ x.2.1 ∧ x.2.1 ≤ 4294967295
end Go.Proofs.YtkfhampdellhoaaDoor.Sp
namespace Go.Proofs.YtkfhampdellhoaaDoor.Sy
def ct11 : Ct := { p := (Ty.pair ty3 ty28), psh := [none, some 5], r := ty31, rsh := (Rsh.one (some 3)), pre := some Sp.pre11, fresh := none, F := Sp.F11 }
theorem va11 (x : (Ty.pair ty3 ty28).den) : ((evFn (ctxG GmI1) Tryd.f11 (Ty.pair ty3 ty28) [none, some 5] (Rsh.one (some 3)) none ty31 noL x)).val (fun y => y) (Ty.dflt ty31) = Sp.F11 x := by kernel_rfl
theorem se11 (x : (Ty.pair ty3 ty28).den) : ((evFn (ctxG GmI1) Tryd.f11 (Ty.pair ty3 ty28) [none, some 5] (Rsh.one (some 3)) none ty31 noL x)).safe = (((Sp.pre8 (x.1, x.2.1)) ∧ True)) := by kernel_rfl
theorem sa11 (x : (Ty.pair ty3 ty28).den) (fx : Fit (Ty.pair ty3 ty28) x) (h : Sp.pre11 x) : SafeW ((evFn (ctxG GmI1) Tryd.f11 (Ty.pair ty3 ty28) [none, some 5] (Rsh.one (some 3)) none ty31 noL x)) := by
  refine ⟨?_⟩
  rw [se11]
  try dsimp only [Ty.den] at *
  simp only [Fit, maxLen] at fx
  simp only [Sp.pre11, Sp.pre8, IntKind.wrap_i64, IntKind.wrap_u8, IntKind.wrap_u32, IntKind.wrap_u64, Sp.tmod_lit, Sp.tdiv_lit, bne_eq_false_iff_eq, Int.natCast_inj, setE, copyL, sliceL, zrow, List.length_append, List.length_cons, List.length_nil, List.length_set, List.length_replicate, List.length_take, List.length_drop, decide_eq_true_eq, decide_eq_false_iff_not, Bool.or_eq_true, Bool.and_eq_true, Bool.or_eq_false_iff, Bool.and_eq_false_iff, Bool.not_eq_true', Bool.not_eq_false', Bool.not_eq_true, Bool.not_eq_false, beq_iff_eq, beq_eq_false_iff_ne, bne_iff_ne, ne_eq, implies_true, and_true, true_and] at *
  all_goals ((repeat' (first | exact trivial | apply And.intro | intro _)) <;> first | trivial | omega | exact Sp.tmod_nn (by omega) | exact Sp.tmod_lt (by omega) (by omega))
theorem ok11 : CtOk Tryd.prog gdS 11 ct11 :=
  fn_okU (ctxOkF gokGmI1 []) rfl Tryd.func11 (p := (Ty.pair ty3 ty28)) (psh := [none, some 5]) (r := ty31) (rsh := (Rsh.one (some 3))) (pre := some Sp.pre11) (fresh := none) (F := Sp.F11) (L := noL) (c := bodyOf Tryd.f11) (dflt := Ty.dflt ty31) rfl (no_loops)
    (safe_pre @sa11) va11
/-! indicator.Shows -/
end Go.Proofs.YtkfhampdellhoaaDoor.Sy
namespace Go.Proofs.YtkfhampdellhoaaDoor.Sp
open Go Go.RowKit Sy
def F14 (x : Int × Int × Int × Int) : Int × Int :=
  bif (((!(Sp.F13 x)) || (x.2.2.2 != (1 : Int))) || (decide (x.2.1 < (0 : Int)))) then
    ((0 : Int), (0 : Int))
  else
    bif ((x.2.2.1 == (1 : Int)) && (decide (x.2.1 < (IntKind.i64.wrap (x.1 - (1 : Int)))))) then
      ((IntKind.u32.wrap ((1 : Int) * 2 ^ (min (x.2.1).toNat IntKind.u32.bits))), (0 : Int))
    else
      bif ((x.2.2.1 == (2 : Int)) && (decide (x.2.1 > (0 : Int)))) then
        ((0 : Int), (IntKind.u32.wrap ((1 : Int) * 2 ^ (min (x.2.1).toNat IntKind.u32.bits))))
      else
        ((0 : Int), (0 : Int))
end Go.Proofs.YtkfhampdellhoaaDoor.Sp
namespace Go.Proofs.YtkfhampdellhoaaDoor.Sy
def ct14 : Ct := { p := (Ty.pair ty3 ty31), psh := [none, some 3], r := ty36, rsh := (Rsh.one (some 2)), pre := none, fresh := none, F := Sp.F14 }
theorem va14 (x : (Ty.pair ty3 ty31).den) : ((evFn (ctxG GmI1) Tryd.f14 (Ty.pair ty3 ty31) [none, some 3] (Rsh.one (some 2)) none ty36 noL x)).val (fun y => y) (Ty.dflt ty36) = Sp.F14 x := by kernel_rfl
theorem se14 (x : (Ty.pair ty3 ty31).den) : ((evFn (ctxG GmI1) Tryd.f14 (Ty.pair ty3 ty31) [none, some 3] (Rsh.one (some 2)) none ty36 noL x)).safe = ((((((!(Sp.F13 x)) || (x.2.2.2 != (1 : Int))) || (decide (x.2.1 < (0 : Int)))) = true → True) ∧ ((((!(Sp.F13 x)) || (x.2.2.2 != (1 : Int))) || (decide (x.2.1 < (0 : Int)))) = false → ((((x.2.2.1 == (1 : Int)) && (decide (x.2.1 < (IntKind.i64.wrap (x.1 - (1 : Int)))))) = true → ((0 ≤ x.2.1) ∧ True)) ∧ (((x.2.2.1 == (1 : Int)) && (decide (x.2.1 < (IntKind.i64.wrap (x.1 - (1 : Int)))))) = false → ((((x.2.2.1 == (2 : Int)) && (decide (x.2.1 > (0 : Int)))) = true → ((0 ≤ x.2.1) ∧ True)) ∧ (((x.2.2.1 == (2 : Int)) && (decide (x.2.1 > (0 : Int)))) = false → True))))))) := by kernel_rfl
theorem sa14 (x : (Ty.pair ty3 ty31).den) (fx : Fit (Ty.pair ty3 ty31) x) : SafeW ((evFn (ctxG GmI1) Tryd.f14 (Ty.pair ty3 ty31) [none, some 3] (Rsh.one (some 2)) none ty36 noL x)) := by
  refine ⟨?_⟩
  rw [se14]
  try dsimp only [Ty.den] at *
  simp only [Fit, maxLen] at fx
  simp only [true_and, IntKind.wrap_i64, IntKind.wrap_u8, IntKind.wrap_u32, IntKind.wrap_u64, Sp.tmod_lit, Sp.tdiv_lit, bne_eq_false_iff_eq, Int.natCast_inj, setE, copyL, sliceL, zrow, List.length_append, List.length_cons, List.length_nil, List.length_set, List.length_replicate, List.length_take, List.length_drop, decide_eq_true_eq, decide_eq_false_iff_not, Bool.or_eq_true, Bool.and_eq_true, Bool.or_eq_false_iff, Bool.and_eq_false_iff, Bool.not_eq_true', Bool.not_eq_false', Bool.not_eq_true, Bool.not_eq_false, beq_iff_eq, beq_eq_false_iff_ne, bne_iff_ne, ne_eq, implies_true, and_true, true_and] at *
  all_goals ((repeat' (first | exact trivial | apply And.intro | intro _)) <;> first | trivial | omega | exact Sp.tmod_nn (by omega) | exact Sp.tmod_lt (by omega) (by omega))
theorem ok14 : CtOk Tryd.prog gdS 14 ct14 :=
  fn_okU (ctxOkF gokGmI1 []) rfl Tryd.func14 (p := (Ty.pair ty3 ty31)) (psh := [none, some 3]) (r := ty36) (rsh := (Rsh.one (some 2))) (pre := none) (fresh := none) (F := Sp.F14) (L := noL) (c := bodyOf Tryd.f14) (dflt := Ty.dflt ty36) rfl (no_loops)
    (safe_no @sa14) va14
/-! overlayref05.Decode -/
end Go.Proofs.YtkfhampdellhoaaDoor.Sy
namespace Go.Proofs.YtkfhampdellhoaaDoor.Sp
open Go Go.RowKit Sy
def F12 (x : Int × Int × Bool × Bool × Bool × Bool) : Int × Int × Int :=
  bif (x.2.2.1 && x.2.2.2.1) then
    (bif (x.2.2.2.2.1 && x.2.2.2.2.2) then
      ((Sp.F9 (x.1, x.2.1)), (3 : Int), (3 : Int))
    else
      bif x.2.2.2.2.1 then
        ((Sp.F9 (x.1, x.2.1)), (3 : Int), (1 : Int))
      else
        bif x.2.2.2.2.2 then
          ((Sp.F9 (x.1, x.2.1)), (3 : Int), (2 : Int))
        else
          ((Sp.F9 (x.1, x.2.1)), (3 : Int), (0 : Int)))
  else
    bif x.2.2.1 then
      (bif (x.2.2.2.2.1 && x.2.2.2.2.2) then
        ((Sp.F9 (x.1, x.2.1)), (1 : Int), (3 : Int))
      else
        bif x.2.2.2.2.1 then
          ((Sp.F9 (x.1, x.2.1)), (1 : Int), (1 : Int))
        else
          bif x.2.2.2.2.2 then
            ((Sp.F9 (x.1, x.2.1)), (1 : Int), (2 : Int))
          else
            ((Sp.F9 (x.1, x.2.1)), (1 : Int), (0 : Int)))
    else
      bif x.2.2.2.1 then
        (bif (x.2.2.2.2.1 && x.2.2.2.2.2) then
          ((Sp.F9 (x.1, x.2.1)), (2 : Int), (3 : Int))
        else
          bif x.2.2.2.2.1 then
            ((Sp.F9 (x.1, x.2.1)), (2 : Int), (1 : Int))
          else
            bif x.2.2.2.2.2 then
              ((Sp.F9 (x.1, x.2.1)), (2 : Int), (2 : Int))
            else
              ((Sp.F9 (x.1, x.2.1)), (2 : Int), (0 : Int)))
      else
        bif (x.2.2.2.2.1 && x.2.2.2.2.2) then
          ((Sp.F9 (x.1, x.2.1)), (0 : Int), (3 : Int))
        else
          bif x.2.2.2.2.1 then
            ((Sp.F9 (x.1, x.2.1)), (0 : Int), (1 : Int))
          else
            bif x.2.2.2.2.2 then
              ((Sp.F9 (x.1, x.2.1)), (0 : Int), (2 : Int))
            else
              ((Sp.F9 (x.1, x.2.1)), (0 : Int), (0 : Int))
end Go.Proofs.YtkfhampdellhoaaDoor.Sp
namespace Go.Proofs.YtkfhampdellhoaaDoor.Sy
def ct12 : Ct := { p := (Ty.pair ty3 ty28), psh := [none, some 5], r := ty31, rsh := (Rsh.one (some 3)), pre := none, fresh := none, F := Sp.F12 }
theorem va12 (x : (Ty.pair ty3 ty28).den) : ((evFn (ctxG GmI1) Tryd.f12 (Ty.pair ty3 ty28) [none, some 5] (Rsh.one (some 3)) none ty31 noL x)).val (fun y => y) (Ty.dflt ty31) = Sp.F12 x := by kernel_rfl
theorem se12 (x : (Ty.pair ty3 ty28).den) : ((evFn (ctxG GmI1) Tryd.f12 (Ty.pair ty3 ty28) [none, some 5] (Rsh.one (some 3)) none ty31 noL x)).safe = ((((x.2.2.1 && x.2.2.2.1) = true → (((x.2.2.2.2.1 && x.2.2.2.2.2) = true → True) ∧ ((x.2.2.2.2.1 && x.2.2.2.2.2) = false → ((x.2.2.2.2.1 = true → True) ∧ (x.2.2.2.2.1 = false → ((x.2.2.2.2.2 = true → True) ∧ (x.2.2.2.2.2 = false → True))))))) ∧ ((x.2.2.1 && x.2.2.2.1) = false → ((x.2.2.1 = true → (((x.2.2.2.2.1 && x.2.2.2.2.2) = true → True) ∧ ((x.2.2.2.2.1 && x.2.2.2.2.2) = false → ((x.2.2.2.2.1 = true → True) ∧ (x.2.2.2.2.1 = false → ((x.2.2.2.2.2 = true → True) ∧ (x.2.2.2.2.2 = false → True))))))) ∧ (x.2.2.1 = false → ((x.2.2.2.1 = true → (((x.2.2.2.2.1 && x.2.2.2.2.2) = true → True) ∧ ((x.2.2.2.2.1 && x.2.2.2.2.2) = false → ((x.2.2.2.2.1 = true → True) ∧ (x.2.2.2.2.1 = false → ((x.2.2.2.2.2 = true → True) ∧ (x.2.2.2.2.2 = false → True))))))) ∧ (x.2.2.2.1 = false → (((x.2.2.2.2.1 && x.2.2.2.2.2) = true → True) ∧ ((x.2.2.2.2.1 && x.2.2.2.2.2) = false → ((x.2.2.2.2.1 = true → True) ∧ (x.2.2.2.2.1 = false → ((x.2.2.2.2.2 = true → True) ∧ (x.2.2.2.2.2 = false → True))))))))))))) := by kernel_rfl
theorem sa12 (x : (Ty.pair ty3 ty28).den) (fx : Fit (Ty.pair ty3 ty28) x) : SafeW ((evFn (ctxG GmI1) Tryd.f12 (Ty.pair ty3 ty28) [none, some 5] (Rsh.one (some 3)) none ty31 noL x)) := by
  refine ⟨?_⟩
  rw [se12]
  try dsimp only [Ty.den] at *
  simp only [Fit, maxLen] at fx
  simp only [true_and, IntKind.wrap_i64, IntKind.wrap_u8, IntKind.wrap_u32, IntKind.wrap_u64, Sp.tmod_lit, Sp.tdiv_lit, bne_eq_false_iff_eq, Int.natCast_inj, setE, copyL, sliceL, zrow, List.length_append, List.length_cons, List.length_nil, List.length_set, List.length_replicate, List.length_take, List.length_drop, decide_eq_true_eq, decide_eq_false_iff_not, Bool.or_eq_true, Bool.and_eq_true, Bool.or_eq_false_iff, Bool.and_eq_false_iff, Bool.not_eq_true', Bool.not_eq_false', Bool.not_eq_true, Bool.not_eq_false, beq_iff_eq, beq_eq_false_iff_ne, bne_iff_ne, ne_eq, implies_true, and_true, true_and] at *
  all_goals ((repeat' (first | exact trivial | apply And.intro | intro _)) <;> first | trivial | omega | exact Sp.tmod_nn (by omega) | exact Sp.tmod_lt (by omega) (by omega))
theorem ok12 : CtOk Tryd.prog gdS 12 ct12 :=
  fn_okU (ctxOkF gokGmI1 []) rfl Tryd.func12 (p := (Ty.pair ty3 ty28)) (psh := [none, some 5]) (r := ty31) (rsh := (Rsh.one (some 3))) (pre := none) (fresh := none) (F := Sp.F12) (L := noL) (c := bodyOf Tryd.f12) (dflt := Ty.dflt ty31) rfl (no_loops)
    (safe_no @sa12) va12
/-! overlayref05.Shows -/
end Go.Proofs.YtkfhampdellhoaaDoor.Sy
namespace Go.Proofs.YtkfhampdellhoaaDoor.Sp
open Go Go.RowKit Sy
def F15 (x : Int × Int × Int × Int) : Int × Int :=
  bif (((!(Sp.F16 x)) || (x.2.2.2 != (1 : Int))) || (decide (x.2.1 < (0 : Int)))) then
    ((0 : Int), (0 : Int))
  else
    bif ((x.2.2.1 == (1 : Int)) && (decide (x.2.1 < (IntKind.i64.wrap (x.1 - (1 : Int)))))) then
      ((IntKind.u32.wrap ((1 : Int) * 2 ^ (min ((IntKind.u64.wrap x.2.1)).toNat IntKind.u32.bits))), (0 : Int))
    else
      bif ((x.2.2.1 == (2 : Int)) && (decide (x.2.1 > (0 : Int)))) then
        ((0 : Int), (IntKind.u32.wrap ((1 : Int) * 2 ^ (min ((IntKind.u64.wrap x.2.1)).toNat IntKind.u32.bits))))
      else
        ((0 : Int), (0 : Int))
end Go.Proofs.YtkfhampdellhoaaDoor.Sp
namespace Go.Proofs.YtkfhampdellhoaaDoor.Sy
def ct15 : Ct := { p := (Ty.pair ty3 ty31), psh := [none, some 3], r := ty36, rsh := (Rsh.one (some 2)), pre := none, fresh := none, F := Sp.F15 }
theorem va15 (x : (Ty.pair ty3 ty31).den) : ((evFn (ctxG GmI1) Tryd.f15 (Ty.pair ty3 ty31) [none, some 3] (Rsh.one (some 2)) none ty36 noL x)).val (fun y => y) (Ty.dflt ty36) = Sp.F15 x := by kernel_rfl
theorem se15 (x : (Ty.pair ty3 ty31).den) : ((evFn (ctxG GmI1) Tryd.f15 (Ty.pair ty3 ty31) [none, some 3] (Rsh.one (some 2)) none ty36 noL x)).safe = ((((((!(Sp.F16 x)) || (x.2.2.2 != (1 : Int))) || (decide (x.2.1 < (0 : Int)))) = true → True) ∧ ((((!(Sp.F16 x)) || (x.2.2.2 != (1 : Int))) || (decide (x.2.1 < (0 : Int)))) = false → ((0 ≤ (IntKind.u64.wrap x.2.1)) ∧ ((((x.2.2.1 == (1 : Int)) && (decide (x.2.1 < (IntKind.i64.wrap (x.1 - (1 : Int)))))) = true → True) ∧ (((x.2.2.1 == (1 : Int)) && (decide (x.2.1 < (IntKind.i64.wrap (x.1 - (1 : Int)))))) = false → ((((x.2.2.1 == (2 : Int)) && (decide (x.2.1 > (0 : Int)))) = true → True) ∧ (((x.2.2.1 == (2 : Int)) && (decide (x.2.1 > (0 : Int)))) = false → True)))))))) := by kernel_rfl
theorem sa15 (x : (Ty.pair ty3 ty31).den) (fx : Fit (Ty.pair ty3 ty31) x) : SafeW ((evFn (ctxG GmI1) Tryd.f15 (Ty.pair ty3 ty31) [none, some 3] (Rsh.one (some 2)) none ty36 noL x)) := by
  refine ⟨?_⟩
  rw [se15]
  try dsimp only [Ty.den] at *
  simp only [Fit, maxLen] at fx
  simp only [true_and, IntKind.wrap_i64, IntKind.wrap_u8, IntKind.wrap_u32, IntKind.wrap_u64, Sp.tmod_lit, Sp.tdiv_lit, bne_eq_false_iff_eq, Int.natCast_inj, setE, copyL, sliceL, zrow, List.length_append, List.length_cons, List.length_nil, List.length_set, List.length_replicate, List.length_take, List.length_drop, decide_eq_true_eq, decide_eq_false_iff_not, Bool.or_eq_true, Bool.and_eq_true, Bool.or_eq_false_iff, Bool.and_eq_false_iff, Bool.not_eq_true', Bool.not_eq_false', Bool.not_eq_true, Bool.not_eq_false, beq_iff_eq, beq_eq_false_iff_ne, bne_iff_ne, ne_eq, implies_true, and_true, true_and] at *
  all_goals ((repeat' (first | exact trivial | apply And.intro | intro _)) <;> first | trivial | omega | exact Sp.tmod_nn (by omega) | exact Sp.tmod_lt (by omega) (by omega))
theorem ok15 : CtOk Tryd.prog gdS 15 ct15 :=
  fn_okU (ctxOkF gokGmI1 []) rfl Tryd.func15 (p := (Ty.pair ty3 ty31)) (psh := [none, some 3]) (r := ty36) (rsh := (Rsh.one (some 2))) (pre := none) (fresh := none) (F := Sp.F15) (L := noL) (c := bodyOf Tryd.f15) (dflt := Ty.dflt ty36) rfl (no_loops)
    (safe_no @sa15) va15
def GmI2 : List (Nat × Ct) := (11, ct11) :: (14, ct14) :: (12, ct12) :: (15, ct15) :: GmI1
theorem gokGmI2 : GOk GmI2 := gok_cons ok11 ⟨_, Tryd.func11, by kernel_rfl, by kernel_rfl⟩ (gok_cons ok14 ⟨_, Tryd.func14, by kernel_rfl, by kernel_rfl⟩ (gok_cons ok12 ⟨_, Tryd.func12, by kernel_rfl, by kernel_rfl⟩ (gok_cons ok15 ⟨_, Tryd.func15, by kernel_rfl, by kernel_rfl⟩ (gokGmI1))))
end Go.Proofs.YtkfhampdellhoaaDoor.Sy
