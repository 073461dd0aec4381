/- Contracts of functions, by the evaluator (own program gen.py): rig.IsState, overlayref16.New, overlayplay.IsState, overlayref16.Report. -/
import Derived.Test.YtjdaplmlmmnokaaR0
set_option linter.unusedVariables false
set_option linter.unusedSimpArgs false
set_option maxRecDepth 100000
namespace Go.Proofs.Ytjdaplmlmmnokaa.Sy
open Go Go.RowKit Sp
/-! rig.IsState -/
end Go.Proofs.Ytjdaplmlmmnokaa.Sy
namespace Go.Proofs.Ytjdaplmlmmnokaa.Sp
open Go Go.RowKit Sy
def F14 (x : Int × Int × Int × Int × Int × Int × Int) : Bool :=
  bif ((((!(Sp.F19 (x.1, (2 : Int), (32 : Int)))) || (!(Sp.F19 (x.2.1, (0 : Int), (IntKind.i64.wrap (x.1 - (1 : Int))))))) || (!(Sp.F19 (x.2.2.1, (0 : Int), (IntKind.i64.wrap (x.1 - (1 : Int))))))) || (!(Sp.F19 ((IntKind.i64.wrap (x.2.2.1 - x.2.1)), (-1 : Int), (1 : Int))))) then
    false
  else
    bif (((x.2.1 == x.2.2.1) && (x.2.2.2.1 != (0 : Int))) || ((x.2.1 != x.2.2.1) && ((!(Sp.F19 (x.2.2.2.1, (1 : Int), (10000 : Int)))) || (x.2.2.2.2.1 != (2 : Int))))) then
      false
    else
      bif (x.2.2.2.2.1 == (0 : Int)) then
        (((x.2.2.2.2.2.1 == (1 : Int)) || (x.2.2.2.2.2.1 == (2 : Int))) && (Sp.F19 (x.2.2.2.2.2.2, (1 : Int), (10000 : Int))))
      else
        ((((x.2.2.2.2.1 == (1 : Int)) || (x.2.2.2.2.1 == (2 : Int))) && (x.2.2.2.2.2.1 == (0 : Int))) && (x.2.2.2.2.2.2 == (0 : Int)))
end Go.Proofs.Ytjdaplmlmmnokaa.Sp
namespace Go.Proofs.Ytjdaplmlmmnokaa.Sy
def ct14 : Ct := { p := (Ty.pair ty3 ty23), psh := [none, some 6], r := ty4, rsh := (Rsh.one (none)), pre := none, fresh := none, F := Sp.F14 }
theorem va14 (x : (Ty.pair ty3 ty23).den) : ((evFn (ctxG GmR0) Try.f14 (Ty.pair ty3 ty23) [none, some 6] (Rsh.one (none)) none ty4 noL x)).val (fun y => y) (Ty.dflt ty4) = Sp.F14 x := by kernel_rfl
theorem se14 (x : (Ty.pair ty3 ty23).den) : ((evFn (ctxG GmR0) Try.f14 (Ty.pair ty3 ty23) [none, some 6] (Rsh.one (none)) none ty4 noL x)).safe = (((((((!(Sp.F19 (x.1, (2 : Int), (32 : Int)))) || (!(Sp.F19 (x.2.1, (0 : Int), (IntKind.i64.wrap (x.1 - (1 : Int))))))) || (!(Sp.F19 (x.2.2.1, (0 : Int), (IntKind.i64.wrap (x.1 - (1 : Int))))))) || (!(Sp.F19 ((IntKind.i64.wrap (x.2.2.1 - x.2.1)), (-1 : Int), (1 : Int))))) = true → True) ∧ (((((!(Sp.F19 (x.1, (2 : Int), (32 : Int)))) || (!(Sp.F19 (x.2.1, (0 : Int), (IntKind.i64.wrap (x.1 - (1 : Int))))))) || (!(Sp.F19 (x.2.2.1, (0 : Int), (IntKind.i64.wrap (x.1 - (1 : Int))))))) || (!(Sp.F19 ((IntKind.i64.wrap (x.2.2.1 - x.2.1)), (-1 : Int), (1 : Int))))) = false → (((((x.2.1 == x.2.2.1) && (x.2.2.2.1 != (0 : Int))) || ((x.2.1 != x.2.2.1) && ((!(Sp.F19 (x.2.2.2.1, (1 : Int), (10000 : Int)))) || (x.2.2.2.2.1 != (2 : Int))))) = true → True) ∧ ((((x.2.1 == x.2.2.1) && (x.2.2.2.1 != (0 : Int))) || ((x.2.1 != x.2.2.1) && ((!(Sp.F19 (x.2.2.2.1, (1 : Int), (10000 : Int)))) || (x.2.2.2.2.1 != (2 : Int))))) = false → (((x.2.2.2.2.1 == (0 : Int)) = true → True) ∧ ((x.2.2.2.2.1 == (0 : Int)) = false → True))))))) := by kernel_rfl
theorem sa14 (x : (Ty.pair ty3 ty23).den) (fx : Fit (Ty.pair ty3 ty23) x) : SafeW ((evFn (ctxG GmR0) Try.f14 (Ty.pair ty3 ty23) [none, some 6] (Rsh.one (none)) none ty4 noL x)) := by
  refine ⟨?_⟩
  rw [se14]
  try dsimp only [Ty.den] at *
  simp only [Fit, maxLen] at fx
  simp only [true_and, IntKind.wrap_i64, IntKind.wrap_u8, IntKind.wrap_u32, IntKind.wrap_u64, Sp.tmod_ite, Sp.tdiv_ite, setE, copyL, sliceL, zrow, List.length_append, List.length_cons, List.length_nil, List.length_set, List.length_replicate, List.length_take, List.length_drop, decide_eq_true_eq, decide_eq_false_iff_not, Bool.or_eq_true, Bool.and_eq_true, Bool.or_eq_false_iff, Bool.and_eq_false_iff, Bool.not_eq_true', Bool.not_eq_false', Bool.not_eq_true, Bool.not_eq_false, beq_iff_eq, beq_eq_false_iff_ne, bne_iff_ne, ne_eq, implies_true, and_true, true_and] at *
  all_goals ((repeat' (first | exact trivial | apply And.intro | intro _)) <;> first | trivial | omega)
theorem ok14 : CtOk Try.prog gdS 14 ct14 :=
  fn_okU (ctxOkF gokGmR0 []) rfl Try.func14 (p := (Ty.pair ty3 ty23)) (psh := [none, some 6]) (r := ty4) (rsh := (Rsh.one (none))) (pre := none) (fresh := none) (F := Sp.F14) (L := noL) (c := bodyOf Try.f14) (dflt := Ty.dflt ty4) rfl (no_loops)
    (safe_no @sa14) va14
/-! overlayref16.New -/
end Go.Proofs.Ytjdaplmlmmnokaa.Sy
namespace Go.Proofs.Ytjdaplmlmmnokaa.Sp
open Go Go.RowKit Sy
def F9 (x : Int) : Int × Int × Int × Int × Int × Int :=
  (Sp.F16 x)
end Go.Proofs.Ytjdaplmlmmnokaa.Sp
namespace Go.Proofs.Ytjdaplmlmmnokaa.Sy
def ct9 : Ct := { p := ty3, psh := [none], r := ty23, rsh := (Rsh.one (some 6)), pre := none, fresh := none, F := Sp.F9 }
theorem va9 (x : ty3.den) : ((evFn (ctxG GmR0) Try.f9 ty3 [none] (Rsh.one (some 6)) none ty23 noL x)).val (fun y => y) (Ty.dflt ty23) = Sp.F9 x := by kernel_rfl
theorem se9 (x : ty3.den) : ((evFn (ctxG GmR0) Try.f9 ty3 [none] (Rsh.one (some 6)) none ty23 noL x)).safe = (True) := by kernel_rfl
theorem sa9 (x : ty3.den) (fx : Fit ty3 x) : SafeW ((evFn (ctxG GmR0) Try.f9 ty3 [none] (Rsh.one (some 6)) none ty23 noL x)) := by
  refine ⟨?_⟩
  rw [se9]
  trivial
theorem ok9 : CtOk Try.prog gdS 9 ct9 :=
  fn_okU (ctxOkF gokGmR0 []) rfl Try.func9 (p := ty3) (psh := [none]) (r := ty23) (rsh := (Rsh.one (some 6))) (pre := none) (fresh := none) (F := Sp.F9) (L := noL) (c := bodyOf Try.f9) (dflt := Ty.dflt ty23) rfl (no_loops)
    (safe_no @sa9) va9
/-! overlayplay.IsState -/
end Go.Proofs.Ytjdaplmlmmnokaa.Sy
namespace Go.Proofs.Ytjdaplmlmmnokaa.Sp
open Go Go.RowKit Sy
def F24 (x : Int × Int × Int × Int × Int × Int × Int) : Bool :=
  bif (((((!(Sp.F26 (x.1, (2 : Int), (32 : Int)))) || (!(Sp.F26 (x.2.1, (0 : Int), (IntKind.i64.wrap (x.1 - (1 : Int))))))) || (!(Sp.F26 (x.2.2.1, (0 : Int), (IntKind.i64.wrap (x.1 - (1 : Int))))))) || (!(Sp.F26 ((IntKind.i64.wrap (x.2.2.1 - x.2.1)), (-1 : Int), (1 : Int))))) || (!(Sp.F26 (x.2.2.2.2.1, (0 : Int), (2 : Int))))) then
    false
  else
    bif (((x.2.2.1 == x.2.1) && (x.2.2.2.1 != (0 : Int))) || ((x.2.2.1 != x.2.1) && ((!(Sp.F26 (x.2.2.2.1, (1 : Int), (10000 : Int)))) || (x.2.2.2.2.1 != (2 : Int))))) then
      false
    else
      bif (x.2.2.2.2.1 == (0 : Int)) then
        ((Sp.F26 (x.2.2.2.2.2.1, (1 : Int), (2 : Int))) && (Sp.F26 (x.2.2.2.2.2.2, (1 : Int), (10000 : Int))))
      else
        ((x.2.2.2.2.2.1 == (0 : Int)) && (x.2.2.2.2.2.2 == (0 : Int)))
end Go.Proofs.Ytjdaplmlmmnokaa.Sp
namespace Go.Proofs.Ytjdaplmlmmnokaa.Sy
def ct24 : Ct := { p := (Ty.pair ty3 ty23), psh := [none, some 6], r := ty4, rsh := (Rsh.one (none)), pre := none, fresh := none, F := Sp.F24 }
theorem va24 (x : (Ty.pair ty3 ty23).den) : ((evFn (ctxG GmR0) Try.f24 (Ty.pair ty3 ty23) [none, some 6] (Rsh.one (none)) none ty4 noL x)).val (fun y => y) (Ty.dflt ty4) = Sp.F24 x := by kernel_rfl
theorem se24 (x : (Ty.pair ty3 ty23).den) : ((evFn (ctxG GmR0) Try.f24 (Ty.pair ty3 ty23) [none, some 6] (Rsh.one (none)) none ty4 noL x)).safe = ((((((((!(Sp.F26 (x.1, (2 : Int), (32 : Int)))) || (!(Sp.F26 (x.2.1, (0 : Int), (IntKind.i64.wrap (x.1 - (1 : Int))))))) || (!(Sp.F26 (x.2.2.1, (0 : Int), (IntKind.i64.wrap (x.1 - (1 : Int))))))) || (!(Sp.F26 ((IntKind.i64.wrap (x.2.2.1 - x.2.1)), (-1 : Int), (1 : Int))))) || (!(Sp.F26 (x.2.2.2.2.1, (0 : Int), (2 : Int))))) = true → True) ∧ ((((((!(Sp.F26 (x.1, (2 : Int), (32 : Int)))) || (!(Sp.F26 (x.2.1, (0 : Int), (IntKind.i64.wrap (x.1 - (1 : Int))))))) || (!(Sp.F26 (x.2.2.1, (0 : Int), (IntKind.i64.wrap (x.1 - (1 : Int))))))) || (!(Sp.F26 ((IntKind.i64.wrap (x.2.2.1 - x.2.1)), (-1 : Int), (1 : Int))))) || (!(Sp.F26 (x.2.2.2.2.1, (0 : Int), (2 : Int))))) = false → (((((x.2.2.1 == x.2.1) && (x.2.2.2.1 != (0 : Int))) || ((x.2.2.1 != x.2.1) && ((!(Sp.F26 (x.2.2.2.1, (1 : Int), (10000 : Int)))) || (x.2.2.2.2.1 != (2 : Int))))) = true → True) ∧ ((((x.2.2.1 == x.2.1) && (x.2.2.2.1 != (0 : Int))) || ((x.2.2.1 != x.2.1) && ((!(Sp.F26 (x.2.2.2.1, (1 : Int), (10000 : Int)))) || (x.2.2.2.2.1 != (2 : Int))))) = false → (((x.2.2.2.2.1 == (0 : Int)) = true → True) ∧ ((x.2.2.2.2.1 == (0 : Int)) = false → True))))))) := by kernel_rfl
theorem sa24 (x : (Ty.pair ty3 ty23).den) (fx : Fit (Ty.pair ty3 ty23) x) : SafeW ((evFn (ctxG GmR0) Try.f24 (Ty.pair ty3 ty23) [none, some 6] (Rsh.one (none)) none ty4 noL x)) := by
  refine ⟨?_⟩
  rw [se24]
  try dsimp only [Ty.den] at *
  simp only [Fit, maxLen] at fx
  simp only [true_and, IntKind.wrap_i64, IntKind.wrap_u8, IntKind.wrap_u32, IntKind.wrap_u64, Sp.tmod_ite, Sp.tdiv_ite, setE, copyL, sliceL, zrow, List.length_append, List.length_cons, List.length_nil, List.length_set, List.length_replicate, List.length_take, List.length_drop, decide_eq_true_eq, decide_eq_false_iff_not, Bool.or_eq_true, Bool.and_eq_true, Bool.or_eq_false_iff, Bool.and_eq_false_iff, Bool.not_eq_true', Bool.not_eq_false', Bool.not_eq_true, Bool.not_eq_false, beq_iff_eq, beq_eq_false_iff_ne, bne_iff_ne, ne_eq, implies_true, and_true, true_and] at *
  all_goals ((repeat' (first | exact trivial | apply And.intro | intro _)) <;> first | trivial | omega)
theorem ok24 : CtOk Try.prog gdS 24 ct24 :=
  fn_okU (ctxOkF gokGmR0 []) rfl Try.func24 (p := (Ty.pair ty3 ty23)) (psh := [none, some 6]) (r := ty4) (rsh := (Rsh.one (none))) (pre := none) (fresh := none) (F := Sp.F24) (L := noL) (c := bodyOf Try.f24) (dflt := Ty.dflt ty4) rfl (no_loops)
    (safe_no @sa24) va24
/-! overlayref16.Report -/
end Go.Proofs.Ytjdaplmlmmnokaa.Sy
namespace Go.Proofs.Ytjdaplmlmmnokaa.Sp
open Go Go.RowKit Sy
def F13 (x : (Int × Int × Int × Int × Int × Int) × Bool) : Int × Bool × Int × Bool :=
  (Sp.F23 x)
end Go.Proofs.Ytjdaplmlmmnokaa.Sp
namespace Go.Proofs.Ytjdaplmlmmnokaa.Sy
def ct13 : Ct := { p := (Ty.pair ty23 ty4), psh := [some 6, none], r := ty32, rsh := (Rsh.one (some 4)), pre := none, fresh := none, F := Sp.F13 }
theorem va13 (x : (Ty.pair ty23 ty4).den) : ((evFn (ctxG GmR0) Try.f13 (Ty.pair ty23 ty4) [some 6, none] (Rsh.one (some 4)) none ty32 noL x)).val (fun y => y) (Ty.dflt ty32) = Sp.F13 x := by kernel_rfl
theorem se13 (x : (Ty.pair ty23 ty4).den) : ((evFn (ctxG GmR0) Try.f13 (Ty.pair ty23 ty4) [some 6, none] (Rsh.one (some 4)) none ty32 noL x)).safe = (True) := by kernel_rfl
theorem sa13 (x : (Ty.pair ty23 ty4).den) (fx : Fit (Ty.pair ty23 ty4) x) : SafeW ((evFn (ctxG GmR0) Try.f13 (Ty.pair ty23 ty4) [some 6, none] (Rsh.one (some 4)) none ty32 noL x)) := by
  refine ⟨?_⟩
  rw [se13]
  trivial
theorem ok13 : CtOk Try.prog gdS 13 ct13 :=
  fn_okU (ctxOkF gokGmR0 []) rfl Try.func13 (p := (Ty.pair ty23 ty4)) (psh := [some 6, none]) (r := ty32) (rsh := (Rsh.one (some 4))) (pre := none) (fresh := none) (F := Sp.F13) (L := noL) (c := bodyOf Try.f13) (dflt := Ty.dflt ty32) rfl (no_loops)
    (safe_no @sa13) va13
def GmR1 : List (Nat × Ct) := (14, ct14) :: (9, ct9) :: (24, ct24) :: (13, ct13) :: GmR0
theorem gokGmR1 : GOk GmR1 := gok_cons ok14 ⟨_, Try.func14, by kernel_rfl, by kernel_rfl⟩ (gok_cons ok9 ⟨_, Try.func9, by kernel_rfl, by kernel_rfl⟩ (gok_cons ok24 ⟨_, Try.func24, by kernel_rfl, by kernel_rfl⟩ (gok_cons ok13 ⟨_, Try.func13, by kernel_rfl, by kernel_rfl⟩ (gokGmR0))))
end Go.Proofs.Ytjdaplmlmmnokaa.Sy
