/- Contracts of functions, by the evaluator (own program gen.py): rig.New, rig.within, rig.next, rig.arrive, rig.aim, rig.door, rig.Report, overlayplay.New, overlayplay.in, overlayplay.arrived, overlayplay.Report. -/
import Derived.Test.YtjdaplmlmmnokaaSf
set_option linter.unusedVariables false
set_option linter.unusedSimpArgs false
set_option maxRecDepth 100000
namespace Go.Proofs.Ytjdaplmlmmnokaa.Sy
open Go Go.RowKit Sp
/-! rig.New -/
end Go.Proofs.Ytjdaplmlmmnokaa.Sy
namespace Go.Proofs.Ytjdaplmlmmnokaa.Sp
open Go Go.RowKit Sy
def F8 (x : Int) : Int × Int × Int × Int × Int × Int :=
  (x, x, (0 : Int), (2 : Int), (0 : Int), (0 : Int))
end Go.Proofs.Ytjdaplmlmmnokaa.Sp
namespace Go.Proofs.Ytjdaplmlmmnokaa.Sy
def ct8 : Ct := { p := ty3, psh := [none], r := ty23, rsh := (Rsh.one (some 6)), pre := none, fresh := none, F := Sp.F8 }
theorem va8 (x : ty3.den) : ((evFn (ctxG []) Try.f8 ty3 [none] (Rsh.one (some 6)) none ty23 noL x)).val (fun y => y) (Ty.dflt ty23) = Sp.F8 x := by kernel_rfl
theorem se8 (x : ty3.den) : ((evFn (ctxG []) Try.f8 ty3 [none] (Rsh.one (some 6)) none ty23 noL x)).safe = (True) := by kernel_rfl
theorem sa8 (x : ty3.den) (fx : Fit ty3 x) : SafeW ((evFn (ctxG []) Try.f8 ty3 [none] (Rsh.one (some 6)) none ty23 noL x)) := by
  refine ⟨?_⟩
  rw [se8]
  trivial
theorem ok8 : CtOk Try.prog gdS 8 ct8 :=
  fn_okU (ctxOkF gok_nil []) rfl Try.func8 (p := ty3) (psh := [none]) (r := ty23) (rsh := (Rsh.one (some 6))) (pre := none) (fresh := none) (F := Sp.F8) (L := noL) (c := bodyOf Try.f8) (dflt := Ty.dflt ty23) rfl (no_loops)
    (safe_no @sa8) va8
/-! rig.within -/
end Go.Proofs.Ytjdaplmlmmnokaa.Sy
namespace Go.Proofs.Ytjdaplmlmmnokaa.Sp
open Go Go.RowKit Sy
def F19 (x : Int × Int × Int) : Bool :=
  ((decide (x.1 ≥ x.2.1)) && (decide (x.1 ≤ x.2.2)))
end Go.Proofs.Ytjdaplmlmmnokaa.Sp
namespace Go.Proofs.Ytjdaplmlmmnokaa.Sy
def ct19 : Ct := { p := (Ty.pair ty3 (Ty.pair ty3 ty3)), psh := [none, none, none], r := ty4, rsh := (Rsh.one (none)), pre := none, fresh := none, F := Sp.F19 }
theorem va19 (x : (Ty.pair ty3 (Ty.pair ty3 ty3)).den) : ((evFn (ctxG []) Try.f19 (Ty.pair ty3 (Ty.pair ty3 ty3)) [none, none, none] (Rsh.one (none)) none ty4 noL x)).val (fun y => y) (Ty.dflt ty4) = Sp.F19 x := by kernel_rfl
theorem se19 (x : (Ty.pair ty3 (Ty.pair ty3 ty3)).den) : ((evFn (ctxG []) Try.f19 (Ty.pair ty3 (Ty.pair ty3 ty3)) [none, none, none] (Rsh.one (none)) none ty4 noL x)).safe = (True) := by kernel_rfl
theorem sa19 (x : (Ty.pair ty3 (Ty.pair ty3 ty3)).den) (fx : Fit (Ty.pair ty3 (Ty.pair ty3 ty3)) x) : SafeW ((evFn (ctxG []) Try.f19 (Ty.pair ty3 (Ty.pair ty3 ty3)) [none, none, none] (Rsh.one (none)) none ty4 noL x)) := by
  refine ⟨?_⟩
  rw [se19]
  trivial
theorem ok19 : CtOk Try.prog gdS 19 ct19 :=
  fn_okU (ctxOkF gok_nil []) rfl Try.func19 (p := (Ty.pair ty3 (Ty.pair ty3 ty3))) (psh := [none, none, none]) (r := ty4) (rsh := (Rsh.one (none))) (pre := none) (fresh := none) (F := Sp.F19) (L := noL) (c := bodyOf Try.f19) (dflt := Ty.dflt ty4) rfl (no_loops)
    (safe_no @sa19) va19
/-! rig.next -/
end Go.Proofs.Ytjdaplmlmmnokaa.Sy
namespace Go.Proofs.Ytjdaplmlmmnokaa.Sp
open Go Go.RowKit Sy
def F17 (x : (Int × Int × Int × Int × Int × Int) × Int) : Int :=
  bif (x.2 == (1 : Int)) then
    (IntKind.i64.wrap (x.1.1 + (1 : Int)))
  else
    bif (x.2 == (2 : Int)) then
      (IntKind.i64.wrap (x.1.1 - (1 : Int)))
    else
      x.1.1
end Go.Proofs.Ytjdaplmlmmnokaa.Sp
namespace Go.Proofs.Ytjdaplmlmmnokaa.Sy
def ct17 : Ct := { p := (Ty.pair ty23 ty3), psh := [some 6, none], r := ty3, rsh := (Rsh.one (none)), pre := none, fresh := none, F := Sp.F17 }
theorem va17 (x : (Ty.pair ty23 ty3).den) : ((evFn (ctxG []) Try.f17 (Ty.pair ty23 ty3) [some 6, none] (Rsh.one (none)) none ty3 noL x)).val (fun y => y) (Ty.dflt ty3) = Sp.F17 x := by kernel_rfl
theorem se17 (x : (Ty.pair ty23 ty3).den) : ((evFn (ctxG []) Try.f17 (Ty.pair ty23 ty3) [some 6, none] (Rsh.one (none)) none ty3 noL x)).safe = ((((x.2 == (1 : Int)) = true → True) ∧ ((x.2 == (1 : Int)) = false → (((x.2 == (2 : Int)) = true → True) ∧ ((x.2 == (2 : Int)) = false → True))))) := by kernel_rfl
theorem sa17 (x : (Ty.pair ty23 ty3).den) (fx : Fit (Ty.pair ty23 ty3) x) : SafeW ((evFn (ctxG []) Try.f17 (Ty.pair ty23 ty3) [some 6, none] (Rsh.one (none)) none ty3 noL x)) := by
  refine ⟨?_⟩
  rw [se17]
  try dsimp only [Ty.den] at *
  simp only [Fit, maxLen] at fx
  simp only [true_and, IntKind.wrap_i64, IntKind.wrap_u8, IntKind.wrap_u32, IntKind.wrap_u64, Sp.tmod_ite, Sp.tdiv_ite, setE, copyL, sliceL, zrow, List.length_append, List.length_cons, List.length_nil, List.length_set, List.length_replicate, List.length_take, List.length_drop, decide_eq_true_eq, decide_eq_false_iff_not, Bool.or_eq_true, Bool.and_eq_true, Bool.or_eq_false_iff, Bool.and_eq_false_iff, Bool.not_eq_true', Bool.not_eq_false', Bool.not_eq_true, Bool.not_eq_false, beq_iff_eq, beq_eq_false_iff_ne, bne_iff_ne, ne_eq, implies_true, and_true, true_and] at *
  all_goals ((repeat' (first | exact trivial | apply And.intro | intro _)) <;> first | trivial | omega)
theorem ok17 : CtOk Try.prog gdS 17 ct17 :=
  fn_okU (ctxOkF gok_nil []) rfl Try.func17 (p := (Ty.pair ty23 ty3)) (psh := [some 6, none]) (r := ty3) (rsh := (Rsh.one (none))) (pre := none) (fresh := none) (F := Sp.F17) (L := noL) (c := bodyOf Try.f17) (dflt := Ty.dflt ty3) rfl (no_loops)
    (safe_no @sa17) va17
/-! rig.arrive -/
end Go.Proofs.Ytjdaplmlmmnokaa.Sy
namespace Go.Proofs.Ytjdaplmlmmnokaa.Sp
open Go Go.RowKit Sy
def F18 (x : Int × Int × Int × Int × Int × Int) : Int × Int × Int × Int × Int × Int :=
  bif (x.2.2.1 == (0 : Int)) then
    (x.2.1, x.2)
  else
    x
end Go.Proofs.Ytjdaplmlmmnokaa.Sp
namespace Go.Proofs.Ytjdaplmlmmnokaa.Sy
def ct18 : Ct := { p := ty23, psh := [some 6], r := ty23, rsh := (Rsh.one (some 6)), pre := none, fresh := none, F := Sp.F18 }
theorem va18 (x : ty23.den) : ((evFn (ctxG []) Try.f18 ty23 [some 6] (Rsh.one (some 6)) none ty23 noL x)).val (fun y => y) (Ty.dflt ty23) = Sp.F18 x := by kernel_rfl
theorem se18 (x : ty23.den) : ((evFn (ctxG []) Try.f18 ty23 [some 6] (Rsh.one (some 6)) none ty23 noL x)).safe = ((((x.2.2.1 == (0 : Int)) = true → True) ∧ ((x.2.2.1 == (0 : Int)) = false → True))) := by kernel_rfl
theorem sa18 (x : ty23.den) (fx : Fit ty23 x) : SafeW ((evFn (ctxG []) Try.f18 ty23 [some 6] (Rsh.one (some 6)) none ty23 noL x)) := by
  refine ⟨?_⟩
  rw [se18]
  try dsimp only [Ty.den] at *
  simp only [Fit, maxLen] at fx
  simp only [true_and, IntKind.wrap_i64, IntKind.wrap_u8, IntKind.wrap_u32, IntKind.wrap_u64, Sp.tmod_ite, Sp.tdiv_ite, setE, copyL, sliceL, zrow, List.length_append, List.length_cons, List.length_nil, List.length_set, List.length_replicate, List.length_take, List.length_drop, decide_eq_true_eq, decide_eq_false_iff_not, Bool.or_eq_true, Bool.and_eq_true, Bool.or_eq_false_iff, Bool.and_eq_false_iff, Bool.not_eq_true', Bool.not_eq_false', Bool.not_eq_true, Bool.not_eq_false, beq_iff_eq, beq_eq_false_iff_ne, bne_iff_ne, ne_eq, implies_true, and_true, true_and] at *
  all_goals ((repeat' (first | exact trivial | apply And.intro | intro _)) <;> first | trivial | omega)
theorem ok18 : CtOk Try.prog gdS 18 ct18 :=
  fn_okU (ctxOkF gok_nil []) rfl Try.func18 (p := ty23) (psh := [some 6]) (r := ty23) (rsh := (Rsh.one (some 6))) (pre := none) (fresh := none) (F := Sp.F18) (L := noL) (c := bodyOf Try.f18) (dflt := Ty.dflt ty23) rfl (no_loops)
    (safe_no @sa18) va18
/-! rig.aim -/
end Go.Proofs.Ytjdaplmlmmnokaa.Sy
namespace Go.Proofs.Ytjdaplmlmmnokaa.Sp
open Go Go.RowKit Sy
def F21 (x : (Int × Int × Int × Int × Int × Int) × Int) : Int :=
  bif (x.2 == (3 : Int)) then
    (1 : Int)
  else
    bif (x.2 == (5 : Int)) then
      (2 : Int)
    else
      bif (x.2 == (4 : Int)) then
        (2 : Int)
      else
        x.1.2.2.2.2.1
end Go.Proofs.Ytjdaplmlmmnokaa.Sp
namespace Go.Proofs.Ytjdaplmlmmnokaa.Sy
def ct21 : Ct := { p := (Ty.pair ty23 ty3), psh := [some 6, none], r := ty3, rsh := (Rsh.one (none)), pre := none, fresh := none, F := Sp.F21 }
theorem va21 (x : (Ty.pair ty23 ty3).den) : ((evFn (ctxG []) Try.f21 (Ty.pair ty23 ty3) [some 6, none] (Rsh.one (none)) none ty3 noL x)).val (fun y => y) (Ty.dflt ty3) = Sp.F21 x := by kernel_rfl
theorem se21 (x : (Ty.pair ty23 ty3).den) : ((evFn (ctxG []) Try.f21 (Ty.pair ty23 ty3) [some 6, none] (Rsh.one (none)) none ty3 noL x)).safe = ((((x.2 == (3 : Int)) = true → True) ∧ ((x.2 == (3 : Int)) = false → (((x.2 == (5 : Int)) = true → True) ∧ ((x.2 == (5 : Int)) = false → (((x.2 == (4 : Int)) = true → True) ∧ ((x.2 == (4 : Int)) = false → True))))))) := by kernel_rfl
theorem sa21 (x : (Ty.pair ty23 ty3).den) (fx : Fit (Ty.pair ty23 ty3) x) : SafeW ((evFn (ctxG []) Try.f21 (Ty.pair ty23 ty3) [some 6, none] (Rsh.one (none)) none ty3 noL x)) := by
  refine ⟨?_⟩
  rw [se21]
  try dsimp only [Ty.den] at *
  simp only [Fit, maxLen] at fx
  simp only [true_and, IntKind.wrap_i64, IntKind.wrap_u8, IntKind.wrap_u32, IntKind.wrap_u64, Sp.tmod_ite, Sp.tdiv_ite, setE, copyL, sliceL, zrow, List.length_append, List.length_cons, List.length_nil, List.length_set, List.length_replicate, List.length_take, List.length_drop, decide_eq_true_eq, decide_eq_false_iff_not, Bool.or_eq_true, Bool.and_eq_true, Bool.or_eq_false_iff, Bool.and_eq_false_iff, Bool.not_eq_true', Bool.not_eq_false', Bool.not_eq_true, Bool.not_eq_false, beq_iff_eq, beq_eq_false_iff_ne, bne_iff_ne, ne_eq, implies_true, and_true, true_and] at *
  all_goals ((repeat' (first | exact trivial | apply And.intro | intro _)) <;> first | trivial | omega)
theorem ok21 : CtOk Try.prog gdS 21 ct21 :=
  fn_okU (ctxOkF gok_nil []) rfl Try.func21 (p := (Ty.pair ty23 ty3)) (psh := [some 6, none]) (r := ty3) (rsh := (Rsh.one (none))) (pre := none) (fresh := none) (F := Sp.F21) (L := noL) (c := bodyOf Try.f21) (dflt := Ty.dflt ty3) rfl (no_loops)
    (safe_no @sa21) va21
/-! rig.door -/
end Go.Proofs.Ytjdaplmlmmnokaa.Sy
namespace Go.Proofs.Ytjdaplmlmmnokaa.Sp
open Go Go.RowKit Sy
def F20 (x : (Int × Int × Int × Int × Int × Int) × Int × Int) : Int × Int × Int × Int × Int × Int :=
  bif ((x.2.1 == (0 : Int)) || (x.1.2.2.2.1 == x.2.1)) then
    x.1
  else
    bif ((x.1.2.2.2.1 == (0 : Int)) && (x.1.2.2.2.2.1 == x.2.1)) then
      (bif ((IntKind.i64.wrap (x.1.2.2.2.2.2 - (1 : Int))) == (0 : Int)) then
        (x.1.1, x.1.2.1, x.1.2.2.1, x.2.1, (0 : Int), (IntKind.i64.wrap (x.1.2.2.2.2.2 - (1 : Int))))
      else
        (x.1.1, x.1.2.1, x.1.2.2.1, x.1.2.2.2.1, x.1.2.2.2.2.1, (IntKind.i64.wrap (x.1.2.2.2.2.2 - (1 : Int)))))
    else
      bif ((IntKind.i64.wrap (x.2.2 - (1 : Int))) == (0 : Int)) then
        (x.1.1, x.1.2.1, x.1.2.2.1, x.2.1, (0 : Int), (IntKind.i64.wrap (x.2.2 - (1 : Int))))
      else
        (x.1.1, x.1.2.1, x.1.2.2.1, (0 : Int), x.2.1, (IntKind.i64.wrap (x.2.2 - (1 : Int))))
end Go.Proofs.Ytjdaplmlmmnokaa.Sp
namespace Go.Proofs.Ytjdaplmlmmnokaa.Sy
def ct20 : Ct := { p := (Ty.pair ty23 (Ty.pair ty3 ty3)), psh := [some 6, none, none], r := ty23, rsh := (Rsh.one (some 6)), pre := none, fresh := none, F := Sp.F20 }
theorem va20 (x : (Ty.pair ty23 (Ty.pair ty3 ty3)).den) : ((evFn (ctxG []) Try.f20 (Ty.pair ty23 (Ty.pair ty3 ty3)) [some 6, none, none] (Rsh.one (some 6)) none ty23 noL x)).val (fun y => y) (Ty.dflt ty23) = Sp.F20 x := by kernel_rfl
theorem se20 (x : (Ty.pair ty23 (Ty.pair ty3 ty3)).den) : ((evFn (ctxG []) Try.f20 (Ty.pair ty23 (Ty.pair ty3 ty3)) [some 6, none, none] (Rsh.one (some 6)) none ty23 noL x)).safe = (((((x.2.1 == (0 : Int)) || (x.1.2.2.2.1 == x.2.1)) = true → True) ∧ (((x.2.1 == (0 : Int)) || (x.1.2.2.2.1 == x.2.1)) = false → ((((x.1.2.2.2.1 == (0 : Int)) && (x.1.2.2.2.2.1 == x.2.1)) = true → ((((IntKind.i64.wrap (x.1.2.2.2.2.2 - (1 : Int))) == (0 : Int)) = true → True) ∧ (((IntKind.i64.wrap (x.1.2.2.2.2.2 - (1 : Int))) == (0 : Int)) = false → True))) ∧ (((x.1.2.2.2.1 == (0 : Int)) && (x.1.2.2.2.2.1 == x.2.1)) = false → ((((IntKind.i64.wrap (x.2.2 - (1 : Int))) == (0 : Int)) = true → True) ∧ (((IntKind.i64.wrap (x.2.2 - (1 : Int))) == (0 : Int)) = false → True))))))) := by kernel_rfl
theorem sa20 (x : (Ty.pair ty23 (Ty.pair ty3 ty3)).den) (fx : Fit (Ty.pair ty23 (Ty.pair ty3 ty3)) x) : SafeW ((evFn (ctxG []) Try.f20 (Ty.pair ty23 (Ty.pair ty3 ty3)) [some 6, none, none] (Rsh.one (some 6)) none ty23 noL x)) := by
  refine ⟨?_⟩
  rw [se20]
  try dsimp only [Ty.den] at *
  simp only [Fit, maxLen] at fx
  simp only [true_and, IntKind.wrap_i64, IntKind.wrap_u8, IntKind.wrap_u32, IntKind.wrap_u64, Sp.tmod_ite, Sp.tdiv_ite, setE, copyL, sliceL, zrow, List.length_append, List.length_cons, List.length_nil, List.length_set, List.length_replicate, List.length_take, List.length_drop, decide_eq_true_eq, decide_eq_false_iff_not, Bool.or_eq_true, Bool.and_eq_true, Bool.or_eq_false_iff, Bool.and_eq_false_iff, Bool.not_eq_true', Bool.not_eq_false', Bool.not_eq_true, Bool.not_eq_false, beq_iff_eq, beq_eq_false_iff_ne, bne_iff_ne, ne_eq, implies_true, and_true, true_and] at *
  all_goals ((repeat' (first | exact trivial | apply And.intro | intro _)) <;> first | trivial | omega)
theorem ok20 : CtOk Try.prog gdS 20 ct20 :=
  fn_okU (ctxOkF gok_nil []) rfl Try.func20 (p := (Ty.pair ty23 (Ty.pair ty3 ty3))) (psh := [some 6, none, none]) (r := ty23) (rsh := (Rsh.one (some 6))) (pre := none) (fresh := none) (F := Sp.F20) (L := noL) (c := bodyOf Try.f20) (dflt := Ty.dflt ty23) rfl (no_loops)
    (safe_no @sa20) va20
/-! rig.Report -/
end Go.Proofs.Ytjdaplmlmmnokaa.Sy
namespace Go.Proofs.Ytjdaplmlmmnokaa.Sp
open Go Go.RowKit Sy
def F12 (x : (Int × Int × Int × Int × Int × Int) × Bool) : Int × Bool × Int × Bool :=
  (x.1.1, (x.1.2.2.1 == (0 : Int)), x.1.2.2.2.1, x.2)
end Go.Proofs.Ytjdaplmlmmnokaa.Sp
namespace Go.Proofs.Ytjdaplmlmmnokaa.Sy
def ct12 : Ct := { p := (Ty.pair ty23 ty4), psh := [some 6, none], r := ty32, rsh := (Rsh.one (some 4)), pre := none, fresh := none, F := Sp.F12 }
theorem va12 (x : (Ty.pair ty23 ty4).den) : ((evFn (ctxG []) Try.f12 (Ty.pair ty23 ty4) [some 6, none] (Rsh.one (some 4)) none ty32 noL x)).val (fun y => y) (Ty.dflt ty32) = Sp.F12 x := by kernel_rfl
theorem se12 (x : (Ty.pair ty23 ty4).den) : ((evFn (ctxG []) Try.f12 (Ty.pair ty23 ty4) [some 6, none] (Rsh.one (some 4)) none ty32 noL x)).safe = (True) := by kernel_rfl
theorem sa12 (x : (Ty.pair ty23 ty4).den) (fx : Fit (Ty.pair ty23 ty4) x) : SafeW ((evFn (ctxG []) Try.f12 (Ty.pair ty23 ty4) [some 6, none] (Rsh.one (some 4)) none ty32 noL x)) := by
  refine ⟨?_⟩
  rw [se12]
  trivial
theorem ok12 : CtOk Try.prog gdS 12 ct12 :=
  fn_okU (ctxOkF gok_nil []) rfl Try.func12 (p := (Ty.pair ty23 ty4)) (psh := [some 6, none]) (r := ty32) (rsh := (Rsh.one (some 4))) (pre := none) (fresh := none) (F := Sp.F12) (L := noL) (c := bodyOf Try.f12) (dflt := Ty.dflt ty32) rfl (no_loops)
    (safe_no @sa12) va12
/-! overlayplay.New -/
end Go.Proofs.Ytjdaplmlmmnokaa.Sy
namespace Go.Proofs.Ytjdaplmlmmnokaa.Sp
open Go Go.RowKit Sy
def F16 (x : Int) : Int × Int × Int × Int × Int × Int :=
  (x, x, (0 : Int), (2 : Int), (0 : Int), (0 : Int))
end Go.Proofs.Ytjdaplmlmmnokaa.Sp
namespace Go.Proofs.Ytjdaplmlmmnokaa.Sy
def ct16 : Ct := { p := ty3, psh := [none], r := ty23, rsh := (Rsh.one (some 6)), pre := none, fresh := none, F := Sp.F16 }
theorem va16 (x : ty3.den) : ((evFn (ctxG []) Try.f16 ty3 [none] (Rsh.one (some 6)) none ty23 noL x)).val (fun y => y) (Ty.dflt ty23) = Sp.F16 x := by kernel_rfl
theorem se16 (x : ty3.den) : ((evFn (ctxG []) Try.f16 ty3 [none] (Rsh.one (some 6)) none ty23 noL x)).safe = (True) := by kernel_rfl
theorem sa16 (x : ty3.den) (fx : Fit ty3 x) : SafeW ((evFn (ctxG []) Try.f16 ty3 [none] (Rsh.one (some 6)) none ty23 noL x)) := by
  refine ⟨?_⟩
  rw [se16]
  trivial
theorem ok16 : CtOk Try.prog gdS 16 ct16 :=
  fn_okU (ctxOkF gok_nil []) rfl Try.func16 (p := ty3) (psh := [none]) (r := ty23) (rsh := (Rsh.one (some 6))) (pre := none) (fresh := none) (F := Sp.F16) (L := noL) (c := bodyOf Try.f16) (dflt := Ty.dflt ty23) rfl (no_loops)
    (safe_no @sa16) va16
/-! overlayplay.in -/
end Go.Proofs.Ytjdaplmlmmnokaa.Sy
namespace Go.Proofs.Ytjdaplmlmmnokaa.Sp
open Go Go.RowKit Sy
def F26 (x : Int × Int × Int) : Bool :=
  ((decide (x.1 ≥ x.2.1)) && (decide (x.1 ≤ x.2.2)))
end Go.Proofs.Ytjdaplmlmmnokaa.Sp
namespace Go.Proofs.Ytjdaplmlmmnokaa.Sy
def ct26 : Ct := { p := (Ty.pair ty3 (Ty.pair ty3 ty3)), psh := [none, none, none], r := ty4, rsh := (Rsh.one (none)), pre := none, fresh := none, F := Sp.F26 }
theorem va26 (x : (Ty.pair ty3 (Ty.pair ty3 ty3)).den) : ((evFn (ctxG []) Try.f26 (Ty.pair ty3 (Ty.pair ty3 ty3)) [none, none, none] (Rsh.one (none)) none ty4 noL x)).val (fun y => y) (Ty.dflt ty4) = Sp.F26 x := by kernel_rfl
theorem se26 (x : (Ty.pair ty3 (Ty.pair ty3 ty3)).den) : ((evFn (ctxG []) Try.f26 (Ty.pair ty3 (Ty.pair ty3 ty3)) [none, none, none] (Rsh.one (none)) none ty4 noL x)).safe = (True) := by kernel_rfl
theorem sa26 (x : (Ty.pair ty3 (Ty.pair ty3 ty3)).den) (fx : Fit (Ty.pair ty3 (Ty.pair ty3 ty3)) x) : SafeW ((evFn (ctxG []) Try.f26 (Ty.pair ty3 (Ty.pair ty3 ty3)) [none, none, none] (Rsh.one (none)) none ty4 noL x)) := by
  refine ⟨?_⟩
  rw [se26]
  trivial
theorem ok26 : CtOk Try.prog gdS 26 ct26 :=
  fn_okU (ctxOkF gok_nil []) rfl Try.func26 (p := (Ty.pair ty3 (Ty.pair ty3 ty3))) (psh := [none, none, none]) (r := ty4) (rsh := (Rsh.one (none))) (pre := none) (fresh := none) (F := Sp.F26) (L := noL) (c := bodyOf Try.f26) (dflt := Ty.dflt ty4) rfl (no_loops)
    (safe_no @sa26) va26
/-! overlayplay.arrived -/
end Go.Proofs.Ytjdaplmlmmnokaa.Sy
namespace Go.Proofs.Ytjdaplmlmmnokaa.Sp
open Go Go.RowKit Sy
def F25 (x : Int × Int × Int × Int × Int × Int) : Int × Int × Int × Int × Int × Int :=
  bif (x.2.2.1 == (0 : Int)) then
    (x.2.1, x.2)
  else
    x
end Go.Proofs.Ytjdaplmlmmnokaa.Sp
namespace Go.Proofs.Ytjdaplmlmmnokaa.Sy
def ct25 : Ct := { p := ty23, psh := [some 6], r := ty23, rsh := (Rsh.one (some 6)), pre := none, fresh := none, F := Sp.F25 }
theorem va25 (x : ty23.den) : ((evFn (ctxG []) Try.f25 ty23 [some 6] (Rsh.one (some 6)) none ty23 noL x)).val (fun y => y) (Ty.dflt ty23) = Sp.F25 x := by kernel_rfl
theorem se25 (x : ty23.den) : ((evFn (ctxG []) Try.f25 ty23 [some 6] (Rsh.one (some 6)) none ty23 noL x)).safe = ((((x.2.2.1 == (0 : Int)) = true → True) ∧ ((x.2.2.1 == (0 : Int)) = false → True))) := by kernel_rfl
theorem sa25 (x : ty23.den) (fx : Fit ty23 x) : SafeW ((evFn (ctxG []) Try.f25 ty23 [some 6] (Rsh.one (some 6)) none ty23 noL x)) := by
  refine ⟨?_⟩
  rw [se25]
  try dsimp only [Ty.den] at *
  simp only [Fit, maxLen] at fx
  simp only [true_and, IntKind.wrap_i64, IntKind.wrap_u8, IntKind.wrap_u32, IntKind.wrap_u64, Sp.tmod_ite, Sp.tdiv_ite, setE, copyL, sliceL, zrow, List.length_append, List.length_cons, List.length_nil, List.length_set, List.length_replicate, List.length_take, List.length_drop, decide_eq_true_eq, decide_eq_false_iff_not, Bool.or_eq_true, Bool.and_eq_true, Bool.or_eq_false_iff, Bool.and_eq_false_iff, Bool.not_eq_true', Bool.not_eq_false', Bool.not_eq_true, Bool.not_eq_false, beq_iff_eq, beq_eq_false_iff_ne, bne_iff_ne, ne_eq, implies_true, and_true, true_and] at *
  all_goals ((repeat' (first | exact trivial | apply And.intro | intro _)) <;> first | trivial | omega)
theorem ok25 : CtOk Try.prog gdS 25 ct25 :=
  fn_okU (ctxOkF gok_nil []) rfl Try.func25 (p := ty23) (psh := [some 6]) (r := ty23) (rsh := (Rsh.one (some 6))) (pre := none) (fresh := none) (F := Sp.F25) (L := noL) (c := bodyOf Try.f25) (dflt := Ty.dflt ty23) rfl (no_loops)
    (safe_no @sa25) va25
/-! overlayplay.Report -/
end Go.Proofs.Ytjdaplmlmmnokaa.Sy
namespace Go.Proofs.Ytjdaplmlmmnokaa.Sp
open Go Go.RowKit Sy
def F23 (x : (Int × Int × Int × Int × Int × Int) × Bool) : Int × Bool × Int × Bool :=
  (x.1.1, (x.1.2.2.1 == (0 : Int)), x.1.2.2.2.1, x.2)
end Go.Proofs.Ytjdaplmlmmnokaa.Sp
namespace Go.Proofs.Ytjdaplmlmmnokaa.Sy
def ct23 : Ct := { p := (Ty.pair ty23 ty4), psh := [some 6, none], r := ty32, rsh := (Rsh.one (some 4)), pre := none, fresh := none, F := Sp.F23 }
theorem va23 (x : (Ty.pair ty23 ty4).den) : ((evFn (ctxG []) Try.f23 (Ty.pair ty23 ty4) [some 6, none] (Rsh.one (some 4)) none ty32 noL x)).val (fun y => y) (Ty.dflt ty32) = Sp.F23 x := by kernel_rfl
theorem se23 (x : (Ty.pair ty23 ty4).den) : ((evFn (ctxG []) Try.f23 (Ty.pair ty23 ty4) [some 6, none] (Rsh.one (some 4)) none ty32 noL x)).safe = (True) := by kernel_rfl
theorem sa23 (x : (Ty.pair ty23 ty4).den) (fx : Fit (Ty.pair ty23 ty4) x) : SafeW ((evFn (ctxG []) Try.f23 (Ty.pair ty23 ty4) [some 6, none] (Rsh.one (some 4)) none ty32 noL x)) := by
  refine ⟨?_⟩
  rw [se23]
  trivial
theorem ok23 : CtOk Try.prog gdS 23 ct23 :=
  fn_okU (ctxOkF gok_nil []) rfl Try.func23 (p := (Ty.pair ty23 ty4)) (psh := [some 6, none]) (r := ty32) (rsh := (Rsh.one (some 4))) (pre := none) (fresh := none) (F := Sp.F23) (L := noL) (c := bodyOf Try.f23) (dflt := Ty.dflt ty32) rfl (no_loops)
    (safe_no @sa23) va23
def GmR0 : List (Nat × Ct) := (8, ct8) :: (19, ct19) :: (17, ct17) :: (18, ct18) :: (21, ct21) :: (20, ct20) :: (12, ct12) :: (16, ct16) :: (26, ct26) :: (25, ct25) :: (23, ct23) :: []
theorem gokGmR0 : GOk GmR0 := gok_cons ok8 ⟨_, Try.func8, by kernel_rfl, by kernel_rfl⟩ (gok_cons ok19 ⟨_, Try.func19, by kernel_rfl, by kernel_rfl⟩ (gok_cons ok17 ⟨_, Try.func17, by kernel_rfl, by kernel_rfl⟩ (gok_cons ok18 ⟨_, Try.func18, by kernel_rfl, by kernel_rfl⟩ (gok_cons ok21 ⟨_, Try.func21, by kernel_rfl, by kernel_rfl⟩ (gok_cons ok20 ⟨_, Try.func20, by kernel_rfl, by kernel_rfl⟩ (gok_cons ok12 ⟨_, Try.func12, by kernel_rfl, by kernel_rfl⟩ (gok_cons ok16 ⟨_, Try.func16, by kernel_rfl, by kernel_rfl⟩ (gok_cons ok26 ⟨_, Try.func26, by kernel_rfl, by kernel_rfl⟩ (gok_cons ok25 ⟨_, Try.func25, by kernel_rfl, by kernel_rfl⟩ (gok_cons ok23 ⟨_, Try.func23, by kernel_rfl, by kernel_rfl⟩ (gok_nil)))))))))))
end Go.Proofs.Ytjdaplmlmmnokaa.Sy
