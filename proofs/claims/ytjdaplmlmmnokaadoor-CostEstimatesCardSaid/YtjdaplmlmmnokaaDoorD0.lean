/- Contracts of functions, by the evaluator (own program gen.py): overlayref21.is, overlaylaw21.sane. -/
import Derived.Test.YtjdaplmlmmnokaaDoorC2
set_option linter.unusedVariables false
set_option linter.unusedSimpArgs false
set_option maxRecDepth 100000
namespace Go.Proofs.YtjdaplmlmmnokaaDoor.Sy
open Go Go.RowKit Sp
/-! overlayref21.is -/
end Go.Proofs.YtjdaplmlmmnokaaDoor.Sy
namespace Go.Proofs.YtjdaplmlmmnokaaDoor.Sp
open Go Go.RowKit Sy
def F22 (x : Int × (Int × Int × Int) × Int × Int) : Bool :=
  bif (x.2.2.2 == (1 : Int)) then
    ((decide (x.2.2.1 < (IntKind.i64.wrap (x.1 - (1 : Int))))) && ((IntKind.u32.wrap ((BitVec.ofInt IntKind.u32.bits (Int.fdiv x.2.1.2.1 (2 ^ (min ((IntKind.u64.wrap x.2.2.1)).toNat IntKind.u32.bits))) &&& BitVec.ofInt IntKind.u32.bits (1 : Int)).toNat : Int)) == (1 : Int)))
  else
    bif (x.2.2.2 == (2 : Int)) then
      ((decide (x.2.2.1 > (0 : Int))) && ((IntKind.u32.wrap ((BitVec.ofInt IntKind.u32.bits (Int.fdiv x.2.1.2.2 (2 ^ (min ((IntKind.u64.wrap x.2.2.1)).toNat IntKind.u32.bits))) &&& BitVec.ofInt IntKind.u32.bits (1 : Int)).toNat : Int)) == (1 : Int)))
    else
      ((IntKind.u32.wrap ((BitVec.ofInt IntKind.u32.bits (Int.fdiv x.2.1.1 (2 ^ (min ((IntKind.u64.wrap x.2.2.1)).toNat IntKind.u32.bits))) &&& BitVec.ofInt IntKind.u32.bits (1 : Int)).toNat : Int)) == (1 : Int))
end Go.Proofs.YtjdaplmlmmnokaaDoor.Sp
namespace Go.Proofs.YtjdaplmlmmnokaaDoor.Sy
def ct22 : Ct := { p := (Ty.pair ty3 (Ty.pair ty26 (Ty.pair ty3 ty3))), psh := [none, some 3, none, none], r := ty4, rsh := (Rsh.one (none)), pre := none, fresh := none, F := Sp.F22 }
theorem va22 (x : (Ty.pair ty3 (Ty.pair ty26 (Ty.pair ty3 ty3))).den) : ((evFn (ctxP PmC0 none GmC2 []) Tryd.f22 (Ty.pair ty3 (Ty.pair ty26 (Ty.pair ty3 ty3))) [none, some 3, none, none] (Rsh.one (none)) none ty4 noL x)).val (fun y => y) (Ty.dflt ty4) = Sp.F22 x := by kernel_rfl
theorem se22 (x : (Ty.pair ty3 (Ty.pair ty26 (Ty.pair ty3 ty3))).den) : ((evFn (ctxP PmC0 none GmC2 []) Tryd.f22 (Ty.pair ty3 (Ty.pair ty26 (Ty.pair ty3 ty3))) [none, some 3, none, none] (Rsh.one (none)) none ty4 noL x)).safe = ((((x.2.2.2 == (1 : Int)) = true → ((((decide (x.2.2.1 < (IntKind.i64.wrap (x.1 - (1 : Int))))) = true → 0 ≤ (IntKind.u64.wrap x.2.2.1))) ∧ True)) ∧ ((x.2.2.2 == (1 : Int)) = false → (((x.2.2.2 == (2 : Int)) = true → ((((decide (x.2.2.1 > (0 : Int))) = true → 0 ≤ (IntKind.u64.wrap x.2.2.1))) ∧ True)) ∧ ((x.2.2.2 == (2 : Int)) = false → ((0 ≤ (IntKind.u64.wrap x.2.2.1)) ∧ True)))))) := by kernel_rfl
theorem sa22 (x : (Ty.pair ty3 (Ty.pair ty26 (Ty.pair ty3 ty3))).den) (fx : Fit (Ty.pair ty3 (Ty.pair ty26 (Ty.pair ty3 ty3))) x) : SafeW ((evFn (ctxP PmC0 none GmC2 []) Tryd.f22 (Ty.pair ty3 (Ty.pair ty26 (Ty.pair ty3 ty3))) [none, some 3, none, none] (Rsh.one (none)) none ty4 noL x)) := by
  refine ⟨?_⟩
  rw [se22]
  try dsimp only [Ty.den] at *
  simp only [Fit, maxLen] at fx
  simp only [true_and, IntKind.wrap_i64, IntKind.wrap_u8, IntKind.wrap_u32, IntKind.wrap_u64, Sp.tmod_lit, Sp.tdiv_lit, bne_eq_false_iff_eq, Int.natCast_inj, setE, copyL, sliceL, zrow, List.length_append, List.length_cons, List.length_nil, List.length_set, List.length_replicate, List.length_take, List.length_drop, decide_eq_true_eq, decide_eq_false_iff_not, Bool.or_eq_true, Bool.and_eq_true, Bool.or_eq_false_iff, Bool.and_eq_false_iff, Bool.not_eq_true', Bool.not_eq_false', Bool.not_eq_true, Bool.not_eq_false, beq_iff_eq, beq_eq_false_iff_ne, bne_iff_ne, ne_eq, implies_true, and_true, true_and] at *
  all_goals ((repeat' (first | exact trivial | apply And.intro | intro _)) <;> first | trivial | omega | exact Sp.tmod_nn (by omega) | exact Sp.tmod_lt (by omega) (by omega))
theorem ok22 : CtOk Tryd.prog gdS 22 ct22 :=
  fn_okU (ctxOkP pgokPmC0 fvok_none gokGmC2 []) rfl Tryd.func22 (p := (Ty.pair ty3 (Ty.pair ty26 (Ty.pair ty3 ty3)))) (psh := [none, some 3, none, none]) (r := ty4) (rsh := (Rsh.one (none))) (pre := none) (fresh := none) (F := Sp.F22) (L := noL) (c := bodyOf Tryd.f22) (dflt := Ty.dflt ty4) rfl (no_loops)
    (safe_no @sa22) va22
/-! overlaylaw21.sane -/
end Go.Proofs.YtjdaplmlmmnokaaDoor.Sy
namespace Go.Proofs.YtjdaplmlmmnokaaDoor.Sp
open Go Go.RowKit Sy
def F11 (x : Unit) : Bool :=
  ((((((Sp.F7 ((10 : Int), (3 : Int), (1 : Int), ((128 : Int), (0 : Int), (0 : Int)), (5 : Int), (1 : Int))) == (2 : Int)) && ((Sp.F7 ((10 : Int), (3 : Int), (1 : Int), ((128 : Int), (0 : Int), (0 : Int)), (5 : Int), (2 : Int))) == (6 : Int))) && ((Sp.F7 ((10 : Int), (3 : Int), (1 : Int), ((128 : Int), (0 : Int), (0 : Int)), (1 : Int), (1 : Int))) == (10 : Int))) && ((Sp.F9 ((10 : Int), (128 : Int), (0 : Int), (0 : Int))) == (1 : Int))) && ((Sp.F7 ((10 : Int), (3 : Int), (1 : Int), ((128 : Int), (0 : Int), (0 : Int)), (9 : Int), (1 : Int))) == (-1 : Int)))
end Go.Proofs.YtjdaplmlmmnokaaDoor.Sp
namespace Go.Proofs.YtjdaplmlmmnokaaDoor.Sy
def ct11 : Ct := { p := Ty.unit, psh := [], r := ty4, rsh := (Rsh.one (none)), pre := none, fresh := none, F := Sp.F11 }
theorem va11 (x : Ty.unit.den) : ((evFn (ctxP PmC0 none GmC2 []) Tryd.f11 Ty.unit [] (Rsh.one (none)) none ty4 noL x)).val (fun y => y) (Ty.dflt ty4) = Sp.F11 x := by kernel_rfl
theorem se11 (x : Ty.unit.den) : ((evFn (ctxP PmC0 none GmC2 []) Tryd.f11 Ty.unit [] (Rsh.one (none)) none ty4 noL x)).safe = (True) := by kernel_rfl
theorem sa11 (x : Ty.unit.den) (fx : Fit Ty.unit x) : SafeW ((evFn (ctxP PmC0 none GmC2 []) Tryd.f11 Ty.unit [] (Rsh.one (none)) none ty4 noL x)) := by
  refine ⟨?_⟩
  rw [se11]
  trivial
theorem ok11 : CtOk Tryd.prog gdS 11 ct11 :=
  fn_okU (ctxOkP pgokPmC0 fvok_none gokGmC2 []) rfl Tryd.func11 (p := Ty.unit) (psh := []) (r := ty4) (rsh := (Rsh.one (none))) (pre := none) (fresh := none) (F := Sp.F11) (L := noL) (c := bodyOf Tryd.f11) (dflt := Ty.dflt ty4) rfl (no_loops)
    (safe_no @sa11) va11
def GmD0 : List (Nat × Ct) := (22, ct22) :: (11, ct11) :: GmC2
theorem gokGmD0 : GOk GmD0 := gok_cons ok22 ⟨_, Tryd.func22, by kernel_rfl, by kernel_rfl⟩ (gok_cons ok11 ⟨_, Tryd.func11, by kernel_rfl, by kernel_rfl⟩ (gokGmC2))
end Go.Proofs.YtjdaplmlmmnokaaDoor.Sy
