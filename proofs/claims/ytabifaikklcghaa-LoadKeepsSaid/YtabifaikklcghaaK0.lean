/- Contracts of functions, by the evaluator (own program gen.py): overlaylaw06.building, math.NaN, math.Inf, math.Copysign, math.IsNaN. -/
import Derived.Test.YtabifaikklcghaaL2
set_option linter.unusedVariables false
set_option linter.unusedSimpArgs false
set_option maxRecDepth 100000
namespace Go.Proofs.Ytabifaikklcghaa.Sy
open Go Go.RowKit Sp
/-! overlaylaw06.building -/
end Go.Proofs.Ytabifaikklcghaa.Sy
namespace Go.Proofs.Ytabifaikklcghaa.Sp
open Go Go.RowKit Sy
def F23 (x : Nat × Nat × Nat) : Int × Int × Int × Int × Nat × Nat × Nat × List (Int × Int × Int × Int × Int × Int × Int × Int × Int) :=
  bif ((Sp.F40 ((Sp.F35 ((5 : Int), (2 : Int))).1, (Sp.F35 ((5 : Int), (2 : Int))).2.1, (Sp.F35 ((5 : Int), (2 : Int))).2.2.1, (Sp.F35 ((5 : Int), (2 : Int))).2.2.2.1, x.1, x.2.1, x.2.2, (Sp.F35 ((5 : Int), (2 : Int))).2.2.2.2.2.2.2)) != (0 : Int)) then
    ((Sp.F35 ((5 : Int), (2 : Int))).1, (Sp.F35 ((5 : Int), (2 : Int))).2.1, (Sp.F35 ((5 : Int), (2 : Int))).2.2.1, (Sp.F35 ((5 : Int), (2 : Int))).2.2.2.1, (4593671619917905920 : Nat), (4604930618986332160 : Nat), (4607182418800017408 : Nat), (Sp.F35 ((5 : Int), (2 : Int))).2.2.2.2.2.2.2)
  else
    ((Sp.F35 ((5 : Int), (2 : Int))).1, (Sp.F35 ((5 : Int), (2 : Int))).2.1, (Sp.F35 ((5 : Int), (2 : Int))).2.2.1, (Sp.F35 ((5 : Int), (2 : Int))).2.2.2.1, x.1, x.2.1, x.2.2, (Sp.F35 ((5 : Int), (2 : Int))).2.2.2.2.2.2.2)
end Go.Proofs.Ytabifaikklcghaa.Sp
namespace Go.Proofs.Ytabifaikklcghaa.Sy
def ct23 : Ct := { p := (Ty.pair ty25 (Ty.pair ty25 ty25)), psh := [none, none, none], r := ty28, rsh := (Rsh.one (some 8)), pre := none, fresh := (some 72), F := Sp.F23 }
theorem va23 (x : (Ty.pair ty25 (Ty.pair ty25 ty25)).den) : ((evFn (ctxG GmL2) Try.f23 (Ty.pair ty25 (Ty.pair ty25 ty25)) [none, none, none] (Rsh.one (some 8)) (some 72) ty28 noL x)).val (fun y => y) (Ty.dflt ty28) = Sp.F23 x := by kernel_rfl
theorem se23 (x : (Ty.pair ty25 (Ty.pair ty25 ty25)).den) : ((evFn (ctxG GmL2) Try.f23 (Ty.pair ty25 (Ty.pair ty25 ty25)) [none, none, none] (Rsh.one (some 8)) (some 72) ty28 noL x)).safe = (((Sp.pre35 ((5 : Int), (2 : Int))) ∧ ((((Sp.F40 ((Sp.F35 ((5 : Int), (2 : Int))).1, (Sp.F35 ((5 : Int), (2 : Int))).2.1, (Sp.F35 ((5 : Int), (2 : Int))).2.2.1, (Sp.F35 ((5 : Int), (2 : Int))).2.2.2.1, x.1, x.2.1, x.2.2, (Sp.F35 ((5 : Int), (2 : Int))).2.2.2.2.2.2.2)) != (0 : Int)) = true → True) ∧ (((Sp.F40 ((Sp.F35 ((5 : Int), (2 : Int))).1, (Sp.F35 ((5 : Int), (2 : Int))).2.1, (Sp.F35 ((5 : Int), (2 : Int))).2.2.1, (Sp.F35 ((5 : Int), (2 : Int))).2.2.2.1, x.1, x.2.1, x.2.2, (Sp.F35 ((5 : Int), (2 : Int))).2.2.2.2.2.2.2)) != (0 : Int)) = false → True)))) := by kernel_rfl
theorem sa23 (x : (Ty.pair ty25 (Ty.pair ty25 ty25)).den) (fx : Fit (Ty.pair ty25 (Ty.pair ty25 ty25)) x) : SafeW ((evFn (ctxG GmL2) Try.f23 (Ty.pair ty25 (Ty.pair ty25 ty25)) [none, none, none] (Rsh.one (some 8)) (some 72) ty28 noL x)) := by
  refine ⟨?_⟩
  rw [se23]
  try dsimp only [Ty.den] at *
  simp only [Fit, maxLen] at fx
  simp only [Sp.pre35, IntKind.wrap_i64, IntKind.wrap_u8, IntKind.wrap_u32, IntKind.wrap_u64, Sp.tmod_lit, Sp.tdiv_lit, bne_eq_false_iff_eq, Int.natCast_inj, setE, copyL, sliceL, zrow, List.length_append, List.length_cons, List.length_nil, List.length_set, List.length_replicate, List.length_take, List.length_drop, decide_eq_true_eq, decide_eq_false_iff_not, Bool.or_eq_true, Bool.and_eq_true, Bool.or_eq_false_iff, Bool.and_eq_false_iff, Bool.not_eq_true', Bool.not_eq_false', Bool.not_eq_true, Bool.not_eq_false, beq_iff_eq, beq_eq_false_iff_ne, bne_iff_ne, ne_eq, implies_true, and_true, true_and] at *
  all_goals ((repeat' (first | exact trivial | apply And.intro | intro _)) <;> first | trivial | omega | exact Sp.tmod_nn (by omega) | exact Sp.tmod_lt (by omega) (by omega))
theorem ok23 : CtOk Try.prog gdS 23 ct23 :=
  fn_okU (ctxOkF gokGmL2 []) rfl Try.func23 (p := (Ty.pair ty25 (Ty.pair ty25 ty25))) (psh := [none, none, none]) (r := ty28) (rsh := (Rsh.one (some 8))) (pre := none) (fresh := (some 72)) (F := Sp.F23) (L := noL) (c := bodyOf Try.f23) (dflt := Ty.dflt ty28) rfl (no_loops)
    (safe_no @sa23) va23
/-! math.NaN -/
end Go.Proofs.Ytabifaikklcghaa.Sy
namespace Go.Proofs.Ytabifaikklcghaa.Sp
open Go Go.RowKit Sy
def F43 (x : Unit) : Nat :=
  (Int.toNat (9221120237041090561 : Int))
end Go.Proofs.Ytabifaikklcghaa.Sp
namespace Go.Proofs.Ytabifaikklcghaa.Sy
def ct43 : Ct := { p := Ty.unit, psh := [], r := ty25, rsh := (Rsh.one (none)), pre := none, fresh := none, F := Sp.F43 }
theorem va43 (x : Ty.unit.den) : ((evFn (ctxG GmL2) Try.f43 Ty.unit [] (Rsh.one (none)) none ty25 noL x)).val (fun y => y) (Ty.dflt ty25) = Sp.F43 x := by kernel_rfl
theorem se43 (x : Ty.unit.den) : ((evFn (ctxG GmL2) Try.f43 Ty.unit [] (Rsh.one (none)) none ty25 noL x)).safe = (True) := by kernel_rfl
theorem sa43 (x : Ty.unit.den) (fx : Fit Ty.unit x) : SafeW ((evFn (ctxG GmL2) Try.f43 Ty.unit [] (Rsh.one (none)) none ty25 noL x)) := by
  refine ⟨?_⟩
  rw [se43]
  trivial
theorem ok43 : CtOk Try.prog gdS 43 ct43 :=
  fn_okU (ctxOkF gokGmL2 []) rfl Try.func43 (p := Ty.unit) (psh := []) (r := ty25) (rsh := (Rsh.one (none))) (pre := none) (fresh := none) (F := Sp.F43) (L := noL) (c := bodyOf Try.f43) (dflt := Ty.dflt ty25) rfl (no_loops)
    (safe_no @sa43) va43
/-! math.Inf -/
end Go.Proofs.Ytabifaikklcghaa.Sy
namespace Go.Proofs.Ytabifaikklcghaa.Sp
open Go Go.RowKit Sy
def F44 (x : Int) : Nat :=
  bif (decide (x ≥ (0 : Int))) then
    (Int.toNat (9218868437227405312 : Int))
  else
    (Int.toNat (18442240474082181120 : Int))
end Go.Proofs.Ytabifaikklcghaa.Sp
namespace Go.Proofs.Ytabifaikklcghaa.Sy
def ct44 : Ct := { p := ty3, psh := [none], r := ty25, rsh := (Rsh.one (none)), pre := none, fresh := none, F := Sp.F44 }
theorem va44 (x : ty3.den) : ((evFn (ctxG GmL2) Try.f44 ty3 [none] (Rsh.one (none)) none ty25 noL x)).val (fun y => y) (Ty.dflt ty25) = Sp.F44 x := by kernel_rfl
theorem se44 (x : ty3.den) : ((evFn (ctxG GmL2) Try.f44 ty3 [none] (Rsh.one (none)) none ty25 noL x)).safe = ((((decide (x ≥ (0 : Int))) = true → True) ∧ ((decide (x ≥ (0 : Int))) = false → True))) := by kernel_rfl
theorem sa44 (x : ty3.den) (fx : Fit ty3 x) : SafeW ((evFn (ctxG GmL2) Try.f44 ty3 [none] (Rsh.one (none)) none ty25 noL x)) := by
  refine ⟨?_⟩
  rw [se44]
  try dsimp only [Ty.den] at *
  simp only [Fit, maxLen] at fx
  simp only [true_and, IntKind.wrap_i64, IntKind.wrap_u8, IntKind.wrap_u32, IntKind.wrap_u64, Sp.tmod_lit, Sp.tdiv_lit, bne_eq_false_iff_eq, Int.natCast_inj, setE, copyL, sliceL, zrow, List.length_append, List.length_cons, List.length_nil, List.length_set, List.length_replicate, List.length_take, List.length_drop, decide_eq_true_eq, decide_eq_false_iff_not, Bool.or_eq_true, Bool.and_eq_true, Bool.or_eq_false_iff, Bool.and_eq_false_iff, Bool.not_eq_true', Bool.not_eq_false', Bool.not_eq_true, Bool.not_eq_false, beq_iff_eq, beq_eq_false_iff_ne, bne_iff_ne, ne_eq, implies_true, and_true, true_and] at *
  all_goals ((repeat' (first | exact trivial | apply And.intro | intro _)) <;> first | trivial | omega | exact Sp.tmod_nn (by omega) | exact Sp.tmod_lt (by omega) (by omega))
theorem ok44 : CtOk Try.prog gdS 44 ct44 :=
  fn_okU (ctxOkF gokGmL2 []) rfl Try.func44 (p := ty3) (psh := [none]) (r := ty25) (rsh := (Rsh.one (none))) (pre := none) (fresh := none) (F := Sp.F44) (L := noL) (c := bodyOf Try.f44) (dflt := Ty.dflt ty25) rfl (no_loops)
    (safe_no @sa44) va44
/-! math.Copysign -/
end Go.Proofs.Ytabifaikklcghaa.Sy
namespace Go.Proofs.Ytabifaikklcghaa.Sp
open Go Go.RowKit Sy
def F45 (x : Nat × Nat) : Nat :=
  (Int.toNat (IntKind.u64.wrap ((BitVec.ofInt IntKind.u64.bits (IntKind.u64.wrap ((BitVec.ofInt IntKind.u64.bits ((x.1 : Nat) : Int) &&& ~~~ BitVec.ofInt IntKind.u64.bits (9223372036854775808 : Int)).toNat : Int)) ||| BitVec.ofInt IntKind.u64.bits (IntKind.u64.wrap ((BitVec.ofInt IntKind.u64.bits ((x.2 : Nat) : Int) &&& BitVec.ofInt IntKind.u64.bits (9223372036854775808 : Int)).toNat : Int))).toNat : Int)))
end Go.Proofs.Ytabifaikklcghaa.Sp
namespace Go.Proofs.Ytabifaikklcghaa.Sy
def ct45 : Ct := { p := (Ty.pair ty25 ty25), psh := [none, none], r := ty25, rsh := (Rsh.one (none)), pre := none, fresh := none, F := Sp.F45 }
theorem va45 (x : (Ty.pair ty25 ty25).den) : ((evFn (ctxG GmL2) Try.f45 (Ty.pair ty25 ty25) [none, none] (Rsh.one (none)) none ty25 noL x)).val (fun y => y) (Ty.dflt ty25) = Sp.F45 x := by kernel_rfl
theorem se45 (x : (Ty.pair ty25 ty25).den) : ((evFn (ctxG GmL2) Try.f45 (Ty.pair ty25 ty25) [none, none] (Rsh.one (none)) none ty25 noL x)).safe = (True) := by kernel_rfl
theorem sa45 (x : (Ty.pair ty25 ty25).den) (fx : Fit (Ty.pair ty25 ty25) x) : SafeW ((evFn (ctxG GmL2) Try.f45 (Ty.pair ty25 ty25) [none, none] (Rsh.one (none)) none ty25 noL x)) := by
  refine ⟨?_⟩
  rw [se45]
  trivial
theorem ok45 : CtOk Try.prog gdS 45 ct45 :=
  fn_okU (ctxOkF gokGmL2 []) rfl Try.func45 (p := (Ty.pair ty25 ty25)) (psh := [none, none]) (r := ty25) (rsh := (Rsh.one (none))) (pre := none) (fresh := none) (F := Sp.F45) (L := noL) (c := bodyOf Try.f45) (dflt := Ty.dflt ty25) rfl (no_loops)
    (safe_no @sa45) va45
/-! math.IsNaN -/
end Go.Proofs.Ytabifaikklcghaa.Sy
namespace Go.Proofs.Ytabifaikklcghaa.Sp
open Go Go.RowKit Sy
def F56 (x : Nat) : Bool :=
  ((FloatKind.f64.format.order x x) != some Ordering.eq)
end Go.Proofs.Ytabifaikklcghaa.Sp
namespace Go.Proofs.Ytabifaikklcghaa.Sy
def ct56 : Ct := { p := ty25, psh := [none], r := ty4, rsh := (Rsh.one (none)), pre := none, fresh := none, F := Sp.F56 }
theorem va56 (x : ty25.den) : ((evFn (ctxG GmL2) Try.f56 ty25 [none] (Rsh.one (none)) none ty4 noL x)).val (fun y => y) (Ty.dflt ty4) = Sp.F56 x := by kernel_rfl
theorem se56 (x : ty25.den) : ((evFn (ctxG GmL2) Try.f56 ty25 [none] (Rsh.one (none)) none ty4 noL x)).safe = (True) := by kernel_rfl
theorem sa56 (x : ty25.den) (fx : Fit ty25 x) : SafeW ((evFn (ctxG GmL2) Try.f56 ty25 [none] (Rsh.one (none)) none ty4 noL x)) := by
  refine ⟨?_⟩
  rw [se56]
  trivial
theorem ok56 : CtOk Try.prog gdS 56 ct56 :=
  fn_okU (ctxOkF gokGmL2 []) rfl Try.func56 (p := ty25) (psh := [none]) (r := ty4) (rsh := (Rsh.one (none))) (pre := none) (fresh := none) (F := Sp.F56) (L := noL) (c := bodyOf Try.f56) (dflt := Ty.dflt ty4) rfl (no_loops)
    (safe_no @sa56) va56
def GmK0 : List (Nat × Ct) := (23, ct23) :: (43, ct43) :: (44, ct44) :: (45, ct45) :: (56, ct56) :: GmL2
theorem gokGmK0 : GOk GmK0 := gok_cons ok23 ⟨_, Try.func23, by kernel_rfl, by kernel_rfl⟩ (gok_cons ok43 ⟨_, Try.func43, by kernel_rfl, by kernel_rfl⟩ (gok_cons ok44 ⟨_, Try.func44, by kernel_rfl, by kernel_rfl⟩ (gok_cons ok45 ⟨_, Try.func45, by kernel_rfl, by kernel_rfl⟩ (gok_cons ok56 ⟨_, Try.func56, by kernel_rfl, by kernel_rfl⟩ (gokGmL2)))))
end Go.Proofs.Ytabifaikklcghaa.Sy
