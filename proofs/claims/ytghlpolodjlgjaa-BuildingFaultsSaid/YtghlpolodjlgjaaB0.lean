/- Contracts of functions, by the evaluator (own program gen.py): math.NaN, math.Inf, math.Copysign, building.Hall, overlayref01.IsCall, building.Cycle, overlayref01.Cycle. -/
import Derived.Test.YtghlpolodjlgjaaBuD
set_option linter.unusedVariables false
set_option linter.unusedSimpArgs false
set_option maxRecDepth 100000
namespace Go.Proofs.Ytghlpolodjlgjaa.Sy
open Go Go.RowKit Sp
/-! math.NaN -/
end Go.Proofs.Ytghlpolodjlgjaa.Sy
namespace Go.Proofs.Ytghlpolodjlgjaa.Sp
open Go Go.RowKit Sy
def F5 (x : Unit) : Nat :=
  (Int.toNat (9221120237041090561 : Int))
end Go.Proofs.Ytghlpolodjlgjaa.Sp
namespace Go.Proofs.Ytghlpolodjlgjaa.Sy
def ct5 : Ct := { p := Ty.unit, psh := [], r := ty23, rsh := (Rsh.one (none)), pre := none, fresh := none, F := Sp.F5 }
theorem va5 (x : Ty.unit.den) : ((evFn (ctxG GmT2) Try.f5 Ty.unit [] (Rsh.one (none)) none ty23 noL x)).val (fun y => y) (Ty.dflt ty23) = Sp.F5 x := by kernel_rfl
theorem se5 (x : Ty.unit.den) : ((evFn (ctxG GmT2) Try.f5 Ty.unit [] (Rsh.one (none)) none ty23 noL x)).safe = (True) := by kernel_rfl
theorem sa5 (x : Ty.unit.den) (fx : Fit Ty.unit x) : SafeW ((evFn (ctxG GmT2) Try.f5 Ty.unit [] (Rsh.one (none)) none ty23 noL x)) := by
  refine ⟨?_⟩
  rw [se5]
  trivial
theorem ok5 : CtOk Try.prog gdS 5 ct5 :=
  fn_okU (ctxOkF gokGmT2 []) rfl Try.func5 (p := Ty.unit) (psh := []) (r := ty23) (rsh := (Rsh.one (none))) (pre := none) (fresh := none) (F := Sp.F5) (L := noL) (c := bodyOf Try.f5) (dflt := Ty.dflt ty23) rfl (no_loops)
    (safe_no @sa5) va5
/-! math.Inf -/
end Go.Proofs.Ytghlpolodjlgjaa.Sy
namespace Go.Proofs.Ytghlpolodjlgjaa.Sp
open Go Go.RowKit Sy
def F6 (x : Int) : Nat :=
  bif (decide (x ≥ (0 : Int))) then
    (Int.toNat (9218868437227405312 : Int))
  else
    (Int.toNat (18442240474082181120 : Int))
end Go.Proofs.Ytghlpolodjlgjaa.Sp
namespace Go.Proofs.Ytghlpolodjlgjaa.Sy
def ct6 : Ct := { p := ty3, psh := [none], r := ty23, rsh := (Rsh.one (none)), pre := none, fresh := none, F := Sp.F6 }
theorem va6 (x : ty3.den) : ((evFn (ctxG GmT2) Try.f6 ty3 [none] (Rsh.one (none)) none ty23 noL x)).val (fun y => y) (Ty.dflt ty23) = Sp.F6 x := by kernel_rfl
theorem se6 (x : ty3.den) : ((evFn (ctxG GmT2) Try.f6 ty3 [none] (Rsh.one (none)) none ty23 noL x)).safe = ((((decide (x ≥ (0 : Int))) = true → True) ∧ ((decide (x ≥ (0 : Int))) = false → True))) := by kernel_rfl
theorem sa6 (x : ty3.den) (fx : Fit ty3 x) : SafeW ((evFn (ctxG GmT2) Try.f6 ty3 [none] (Rsh.one (none)) none ty23 noL x)) := by
  refine ⟨?_⟩
  rw [se6]
  try dsimp only [Ty.den] at *
  simp only [Fit, maxLen] at fx
  simp only [true_and, IntKind.wrap_i64, IntKind.wrap_u8, IntKind.wrap_u32, IntKind.wrap_u64, Sp.tmod_lit, Sp.tdiv_lit, bne_eq_false_iff_eq, Int.natCast_inj, setE, copyL, sliceL, zrow, List.length_append, List.length_cons, List.length_nil, List.length_set, List.length_replicate, List.length_take, List.length_drop, decide_eq_true_eq, decide_eq_false_iff_not, Bool.or_eq_true, Bool.and_eq_true, Bool.or_eq_false_iff, Bool.and_eq_false_iff, Bool.not_eq_true', Bool.not_eq_false', Bool.not_eq_true, Bool.not_eq_false, beq_iff_eq, beq_eq_false_iff_ne, bne_iff_ne, ne_eq, implies_true, and_true, true_and] at *
  all_goals ((repeat' (first | exact trivial | apply And.intro | intro _)) <;> first | trivial | omega | exact Sp.tmod_nn (by omega) | exact Sp.tmod_lt (by omega) (by omega))
theorem ok6 : CtOk Try.prog gdS 6 ct6 :=
  fn_okU (ctxOkF gokGmT2 []) rfl Try.func6 (p := ty3) (psh := [none]) (r := ty23) (rsh := (Rsh.one (none))) (pre := none) (fresh := none) (F := Sp.F6) (L := noL) (c := bodyOf Try.f6) (dflt := Ty.dflt ty23) rfl (no_loops)
    (safe_no @sa6) va6
/-! math.Copysign -/
end Go.Proofs.Ytghlpolodjlgjaa.Sy
namespace Go.Proofs.Ytghlpolodjlgjaa.Sp
open Go Go.RowKit Sy
def F7 (x : Nat × Nat) : Nat :=
  (Int.toNat (IntKind.u64.wrap ((BitVec.ofInt IntKind.u64.bits (IntKind.u64.wrap ((BitVec.ofInt IntKind.u64.bits ((x.1 : Nat) : Int) &&& ~~~ BitVec.ofInt IntKind.u64.bits (9223372036854775808 : Int)).toNat : Int)) ||| BitVec.ofInt IntKind.u64.bits (IntKind.u64.wrap ((BitVec.ofInt IntKind.u64.bits ((x.2 : Nat) : Int) &&& BitVec.ofInt IntKind.u64.bits (9223372036854775808 : Int)).toNat : Int))).toNat : Int)))
end Go.Proofs.Ytghlpolodjlgjaa.Sp
namespace Go.Proofs.Ytghlpolodjlgjaa.Sy
def ct7 : Ct := { p := (Ty.pair ty23 ty23), psh := [none, none], r := ty23, rsh := (Rsh.one (none)), pre := none, fresh := none, F := Sp.F7 }
theorem va7 (x : (Ty.pair ty23 ty23).den) : ((evFn (ctxG GmT2) Try.f7 (Ty.pair ty23 ty23) [none, none] (Rsh.one (none)) none ty23 noL x)).val (fun y => y) (Ty.dflt ty23) = Sp.F7 x := by kernel_rfl
theorem se7 (x : (Ty.pair ty23 ty23).den) : ((evFn (ctxG GmT2) Try.f7 (Ty.pair ty23 ty23) [none, none] (Rsh.one (none)) none ty23 noL x)).safe = (True) := by kernel_rfl
theorem sa7 (x : (Ty.pair ty23 ty23).den) (fx : Fit (Ty.pair ty23 ty23) x) : SafeW ((evFn (ctxG GmT2) Try.f7 (Ty.pair ty23 ty23) [none, none] (Rsh.one (none)) none ty23 noL x)) := by
  refine ⟨?_⟩
  rw [se7]
  trivial
theorem ok7 : CtOk Try.prog gdS 7 ct7 :=
  fn_okU (ctxOkF gokGmT2 []) rfl Try.func7 (p := (Ty.pair ty23 ty23)) (psh := [none, none]) (r := ty23) (rsh := (Rsh.one (none))) (pre := none) (fresh := none) (F := Sp.F7) (L := noL) (c := bodyOf Try.f7) (dflt := Ty.dflt ty23) rfl (no_loops)
    (safe_no @sa7) va7
/-! building.Hall -/
end Go.Proofs.Ytghlpolodjlgjaa.Sy
namespace Go.Proofs.Ytghlpolodjlgjaa.Sp
open Go Go.RowKit Sy
def F10 (x : Int × Int × Int × Int × Nat × Nat × Nat × List (Int × Int × Int × Int × Int × Int × Int × Int × Int)) : Int × Int :=
  bif ((Sp.F8 x) != (0 : Int)) then
    ((0 : Int), (0 : Int))
  else
    ((IntKind.u32.wrap ((IntKind.u32.wrap ((1 : Int) * 2 ^ (min ((IntKind.i64.wrap (x.1 - (1 : Int)))).toNat IntKind.u32.bits))) - (1 : Int))), (IntKind.u32.wrap ((IntKind.u32.wrap ((IntKind.u32.wrap ((1 : Int) * 2 ^ (min ((IntKind.i64.wrap (x.1 - (1 : Int)))).toNat IntKind.u32.bits))) - (1 : Int))) * 2 ^ (min ((1 : Int)).toNat IntKind.u32.bits))))
end Go.Proofs.Ytghlpolodjlgjaa.Sp
namespace Go.Proofs.Ytghlpolodjlgjaa.Sy
def ct10 : Ct := { p := ty26, psh := [some 8], r := ty39, rsh := (Rsh.one (some 2)), pre := none, fresh := none, F := Sp.F10 }
theorem va10 (x : ty26.den) : ((evFn (ctxG GmT2) Try.f10 ty26 [some 8] (Rsh.one (some 2)) none ty39 noL x)).val (fun y => y) (Ty.dflt ty39) = Sp.F10 x := by kernel_rfl
theorem se10 (x : ty26.den) : ((evFn (ctxG GmT2) Try.f10 ty26 [some 8] (Rsh.one (some 2)) none ty39 noL x)).safe = (((((Sp.F8 x) != (0 : Int)) = true → True) ∧ (((Sp.F8 x) != (0 : Int)) = false → ((0 ≤ (IntKind.i64.wrap (x.1 - (1 : Int)))) ∧ ((0 ≤ (1 : Int)) ∧ True))))) := by kernel_rfl
theorem sa10 (x : ty26.den) (fx : Fit ty26 x) : SafeW ((evFn (ctxG GmT2) Try.f10 ty26 [some 8] (Rsh.one (some 2)) none ty39 noL x)) := by
  refine ⟨?_⟩
  rw [se10]
  refine ⟨fun _ => trivial, fun h => ?_⟩
  have hb := Sp.valid_b (Sp.fit_cars fx) (by simpa using h)
  rw [Sp.wrap_i64_of (by have := hb.fl; omega) (by have := hb.fl; omega)]
  exact ⟨by have := hb.fl; omega, by omega, trivial⟩
theorem ok10 : CtOk Try.prog gdS 10 ct10 :=
  fn_okU (ctxOkF gokGmT2 []) rfl Try.func10 (p := ty26) (psh := [some 8]) (r := ty39) (rsh := (Rsh.one (some 2))) (pre := none) (fresh := none) (F := Sp.F10) (L := noL) (c := bodyOf Try.f10) (dflt := Ty.dflt ty39) rfl (no_loops)
    (safe_no @sa10) va10
/-! overlayref01.IsCall -/
end Go.Proofs.Ytghlpolodjlgjaa.Sy
namespace Go.Proofs.Ytghlpolodjlgjaa.Sp
open Go Go.RowKit Sy
def F22 (x : (Int × Int × Int × Int × Nat × Nat × Nat × List (Int × Int × Int × Int × Int × Int × Int × Int × Int)) × Int × Int) : Bool :=
  bif ((Sp.F9 x.1) != (0 : Int)) then
    false
  else
    (((x.2.2 == (1 : Int)) && (Sp.F20 (x.2.1, (0 : Int), (IntKind.i64.wrap (x.1.1 - (2 : Int)))))) || ((x.2.2 == (2 : Int)) && (Sp.F20 (x.2.1, (1 : Int), (IntKind.i64.wrap (x.1.1 - (1 : Int)))))))
end Go.Proofs.Ytghlpolodjlgjaa.Sp
namespace Go.Proofs.Ytghlpolodjlgjaa.Sy
def ct22 : Ct := { p := (Ty.pair ty26 (Ty.pair ty3 ty3)), psh := [some 8, none, none], r := ty4, rsh := (Rsh.one (none)), pre := none, fresh := none, F := Sp.F22 }
theorem va22 (x : (Ty.pair ty26 (Ty.pair ty3 ty3)).den) : ((evFn (ctxG GmT2) Try.f22 (Ty.pair ty26 (Ty.pair ty3 ty3)) [some 8, none, none] (Rsh.one (none)) none ty4 noL x)).val (fun y => y) (Ty.dflt ty4) = Sp.F22 x := by kernel_rfl
theorem se22 (x : (Ty.pair ty26 (Ty.pair ty3 ty3)).den) : ((evFn (ctxG GmT2) Try.f22 (Ty.pair ty26 (Ty.pair ty3 ty3)) [some 8, none, none] (Rsh.one (none)) none ty4 noL x)).safe = (((((Sp.F9 x.1) != (0 : Int)) = true → True) ∧ (((Sp.F9 x.1) != (0 : Int)) = false → True))) := by kernel_rfl
theorem sa22 (x : (Ty.pair ty26 (Ty.pair ty3 ty3)).den) (fx : Fit (Ty.pair ty26 (Ty.pair ty3 ty3)) x) : SafeW ((evFn (ctxG GmT2) Try.f22 (Ty.pair ty26 (Ty.pair ty3 ty3)) [some 8, none, none] (Rsh.one (none)) none ty4 noL x)) := by
  refine ⟨?_⟩
  rw [se22]
  try dsimp only [Ty.den] at *
  simp only [Fit, maxLen] at fx
  simp only [true_and, IntKind.wrap_i64, IntKind.wrap_u8, IntKind.wrap_u32, IntKind.wrap_u64, Sp.tmod_lit, Sp.tdiv_lit, bne_eq_false_iff_eq, Int.natCast_inj, setE, copyL, sliceL, zrow, List.length_append, List.length_cons, List.length_nil, List.length_set, List.length_replicate, List.length_take, List.length_drop, decide_eq_true_eq, decide_eq_false_iff_not, Bool.or_eq_true, Bool.and_eq_true, Bool.or_eq_false_iff, Bool.and_eq_false_iff, Bool.not_eq_true', Bool.not_eq_false', Bool.not_eq_true, Bool.not_eq_false, beq_iff_eq, beq_eq_false_iff_ne, bne_iff_ne, ne_eq, implies_true, and_true, true_and] at *
  all_goals ((repeat' (first | exact trivial | apply And.intro | intro _)) <;> first | trivial | omega | exact Sp.tmod_nn (by omega) | exact Sp.tmod_lt (by omega) (by omega))
theorem ok22 : CtOk Try.prog gdS 22 ct22 :=
  fn_okU (ctxOkF gokGmT2 []) rfl Try.func22 (p := (Ty.pair ty26 (Ty.pair ty3 ty3))) (psh := [some 8, none, none]) (r := ty4) (rsh := (Rsh.one (none))) (pre := none) (fresh := none) (F := Sp.F22) (L := noL) (c := bodyOf Try.f22) (dflt := Ty.dflt ty4) rfl (no_loops)
    (safe_no @sa22) va22
/-! building.Cycle -/
end Go.Proofs.Ytghlpolodjlgjaa.Sy
namespace Go.Proofs.Ytghlpolodjlgjaa.Sp
open Go Go.RowKit Sy
def F25 (x : Int × Int × Int × Int × Int × Int × Int × Int × Int) : Int :=
  (IntKind.i64.wrap ((IntKind.i64.wrap ((IntKind.i64.wrap ((2 : Int) * x.2.2.2.2.2.1)) + x.2.2.2.2.2.2.2.1)) + (3 : Int)))
end Go.Proofs.Ytghlpolodjlgjaa.Sp
namespace Go.Proofs.Ytghlpolodjlgjaa.Sy
def ct25 : Ct := { p := ty30, psh := [some 9], r := ty3, rsh := (Rsh.one (none)), pre := none, fresh := none, F := Sp.F25 }
theorem va25 (x : ty30.den) : ((evFn (ctxG GmT2) Try.f25 ty30 [some 9] (Rsh.one (none)) none ty3 noL x)).val (fun y => y) (Ty.dflt ty3) = Sp.F25 x := by kernel_rfl
theorem se25 (x : ty30.den) : ((evFn (ctxG GmT2) Try.f25 ty30 [some 9] (Rsh.one (none)) none ty3 noL x)).safe = (True) := by kernel_rfl
theorem sa25 (x : ty30.den) (fx : Fit ty30 x) : SafeW ((evFn (ctxG GmT2) Try.f25 ty30 [some 9] (Rsh.one (none)) none ty3 noL x)) := by
  refine ⟨?_⟩
  rw [se25]
  trivial
theorem ok25 : CtOk Try.prog gdS 25 ct25 :=
  fn_okU (ctxOkF gokGmT2 []) rfl Try.func25 (p := ty30) (psh := [some 9]) (r := ty3) (rsh := (Rsh.one (none))) (pre := none) (fresh := none) (F := Sp.F25) (L := noL) (c := bodyOf Try.f25) (dflt := Ty.dflt ty3) rfl (no_loops)
    (safe_no @sa25) va25
/-! overlayref01.Cycle -/
end Go.Proofs.Ytghlpolodjlgjaa.Sy
namespace Go.Proofs.Ytghlpolodjlgjaa.Sp
open Go Go.RowKit Sy
def F27 (x : Int × Int × Int × Int × Int × Int × Int × Int × Int) : Int :=
  (IntKind.i64.wrap ((IntKind.i64.wrap ((IntKind.i64.wrap ((2 : Int) * x.2.2.2.2.2.1)) + x.2.2.2.2.2.2.2.1)) + (3 : Int)))
end Go.Proofs.Ytghlpolodjlgjaa.Sp
namespace Go.Proofs.Ytghlpolodjlgjaa.Sy
def ct27 : Ct := { p := ty30, psh := [some 9], r := ty3, rsh := (Rsh.one (none)), pre := none, fresh := none, F := Sp.F27 }
theorem va27 (x : ty30.den) : ((evFn (ctxG GmT2) Try.f27 ty30 [some 9] (Rsh.one (none)) none ty3 noL x)).val (fun y => y) (Ty.dflt ty3) = Sp.F27 x := by kernel_rfl
theorem se27 (x : ty30.den) : ((evFn (ctxG GmT2) Try.f27 ty30 [some 9] (Rsh.one (none)) none ty3 noL x)).safe = (True) := by kernel_rfl
theorem sa27 (x : ty30.den) (fx : Fit ty30 x) : SafeW ((evFn (ctxG GmT2) Try.f27 ty30 [some 9] (Rsh.one (none)) none ty3 noL x)) := by
  refine ⟨?_⟩
  rw [se27]
  trivial
theorem ok27 : CtOk Try.prog gdS 27 ct27 :=
  fn_okU (ctxOkF gokGmT2 []) rfl Try.func27 (p := ty30) (psh := [some 9]) (r := ty3) (rsh := (Rsh.one (none))) (pre := none) (fresh := none) (F := Sp.F27) (L := noL) (c := bodyOf Try.f27) (dflt := Ty.dflt ty3) rfl (no_loops)
    (safe_no @sa27) va27
def GmB0 : List (Nat × Ct) := (5, ct5) :: (6, ct6) :: (7, ct7) :: (10, ct10) :: (22, ct22) :: (25, ct25) :: (27, ct27) :: GmT2
theorem gokGmB0 : GOk GmB0 := gok_cons ok5 ⟨_, Try.func5, by kernel_rfl, by kernel_rfl⟩ (gok_cons ok6 ⟨_, Try.func6, by kernel_rfl, by kernel_rfl⟩ (gok_cons ok7 ⟨_, Try.func7, by kernel_rfl, by kernel_rfl⟩ (gok_cons ok10 ⟨_, Try.func10, by kernel_rfl, by kernel_rfl⟩ (gok_cons ok22 ⟨_, Try.func22, by kernel_rfl, by kernel_rfl⟩ (gok_cons ok25 ⟨_, Try.func25, by kernel_rfl, by kernel_rfl⟩ (gok_cons ok27 ⟨_, Try.func27, by kernel_rfl, by kernel_rfl⟩ (gokGmT2)))))))
end Go.Proofs.Ytghlpolodjlgjaa.Sy
