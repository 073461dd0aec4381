/- Contracts of functions, by the evaluator (own program gen.py): cost.Path, cost.Count. -/
import Derived.Test.YtjdaplmlmmnokaaDoorC1
set_option linter.unusedVariables false
set_option linter.unusedSimpArgs false
set_option maxRecDepth 100000
namespace Go.Proofs.YtjdaplmlmmnokaaDoor.Sy
open Go Go.RowKit Sp
/-! cost.Path -/
end Go.Proofs.YtjdaplmlmmnokaaDoor.Sy
namespace Go.Proofs.YtjdaplmlmmnokaaDoor.Sp
open Go Go.RowKit Sy
def K7_1 (x : Int × Int × Int × (Int × Int × Int) × Int × Int) :=
  (Sp.F19 (IntKind.u32.wrap ((BitVec.ofInt IntKind.u32.bits (IntKind.u32.wrap ((BitVec.ofInt IntKind.u32.bits (IntKind.u32.wrap ((BitVec.ofInt IntKind.u32.bits (IntKind.u32.wrap ((BitVec.ofInt IntKind.u32.bits ((Sp.F18 (x.1, x.2.2.2.1)).1) ||| BitVec.ofInt IntKind.u32.bits ((Sp.F18 (x.1, x.2.2.2.1)).2.1)).toNat : Int)) ||| BitVec.ofInt IntKind.u32.bits ((Sp.F18 (x.1, x.2.2.2.1)).2.2)).toNat : Int)) ||| BitVec.ofInt IntKind.u32.bits (IntKind.u32.wrap ((1 : Int) * 2 ^ (min (x.2.1).toNat IntKind.u32.bits)))).toNat : Int)) ||| BitVec.ofInt IntKind.u32.bits (IntKind.u32.wrap ((1 : Int) * 2 ^ (min (x.2.2.2.2.1).toNat IntKind.u32.bits)))).toNat : Int)))
def K7_2 (x : Int × Int × Int × (Int × Int × Int) × Int × Int) :=
  (Sp.F20 (IntKind.u32.wrap ((BitVec.ofInt IntKind.u32.bits (IntKind.u32.wrap ((BitVec.ofInt IntKind.u32.bits (IntKind.u32.wrap ((BitVec.ofInt IntKind.u32.bits (IntKind.u32.wrap ((BitVec.ofInt IntKind.u32.bits ((Sp.F18 (x.1, x.2.2.2.1)).1) ||| BitVec.ofInt IntKind.u32.bits ((Sp.F18 (x.1, x.2.2.2.1)).2.1)).toNat : Int)) ||| BitVec.ofInt IntKind.u32.bits ((Sp.F18 (x.1, x.2.2.2.1)).2.2)).toNat : Int)) ||| BitVec.ofInt IntKind.u32.bits (IntKind.u32.wrap ((1 : Int) * 2 ^ (min (x.2.1).toNat IntKind.u32.bits)))).toNat : Int)) ||| BitVec.ofInt IntKind.u32.bits (IntKind.u32.wrap ((1 : Int) * 2 ^ (min (x.2.2.2.2.1).toNat IntKind.u32.bits)))).toNat : Int)))
def F7 (x : Int × Int × Int × (Int × Int × Int) × Int × Int) : Int :=
  bif ((((((!(Sp.F16 x.1)) || (decide (x.2.1 < (0 : Int)))) || (decide (x.2.1 ≥ x.1))) || (decide (x.2.2.1 < (0 : Int)))) || (decide (x.2.2.1 > (2 : Int)))) || (!(Sp.F17 (x.1, x.2.2.2.2)))) then
    (-1 : Int)
  else
    bif ((x.2.2.1 == (0 : Int)) || ((x.2.2.1 == x.2.2.2.2.2) && (((x.2.2.1 == (1 : Int)) && (decide (x.2.2.2.2.1 ≥ x.2.1))) || ((x.2.2.1 == (2 : Int)) && (decide (x.2.2.2.2.1 ≤ x.2.1)))))) then
      (Sp.F21 ([], x.2.1, x.2.2.2.2.1)).1
    else
      bif ((x.2.2.1 != x.2.2.2.2.2) && (x.2.2.1 == (1 : Int))) then
        (Sp.F21 ([(IntKind.i64.wrap ((Sp.K7_2 x) - (1 : Int)))], x.2.1, x.2.2.2.2.1)).1
      else
        bif (x.2.2.1 != x.2.2.2.2.2) then
          (Sp.F21 ([(Sp.K7_1 x)], x.2.1, x.2.2.2.2.1)).1
        else
          bif (x.2.2.1 == (1 : Int)) then
            (Sp.F21 ([(IntKind.i64.wrap ((Sp.K7_2 x) - (1 : Int))), (Sp.K7_1 x)], x.2.1, x.2.2.2.2.1)).1
          else
            (Sp.F21 ([(Sp.K7_1 x), (IntKind.i64.wrap ((Sp.K7_2 x) - (1 : Int)))], x.2.1, x.2.2.2.2.1)).1
end Go.Proofs.YtjdaplmlmmnokaaDoor.Sp
namespace Go.Proofs.YtjdaplmlmmnokaaDoor.Sy
def ct7 : Ct := { p := (Ty.pair ty3 (Ty.pair ty3 (Ty.pair ty3 (Ty.pair ty26 (Ty.pair ty3 ty3))))), psh := [none, none, none, some 3, none, none], r := ty3, rsh := (Rsh.one (none)), pre := none, fresh := none, F := Sp.F7 }
theorem va7 (x : (Ty.pair ty3 (Ty.pair ty3 (Ty.pair ty3 (Ty.pair ty26 (Ty.pair ty3 ty3))))).den) : ((evFn (ctxP PmC0 none GmC1 []) Tryd.f7 (Ty.pair ty3 (Ty.pair ty3 (Ty.pair ty3 (Ty.pair ty26 (Ty.pair ty3 ty3))))) [none, none, none, some 3, none, none] (Rsh.one (none)) none ty3 noL x)).val (fun y => y) (Ty.dflt ty3) = Sp.F7 x := by kernel_rfl
theorem se7 (x : (Ty.pair ty3 (Ty.pair ty3 (Ty.pair ty3 (Ty.pair ty26 (Ty.pair ty3 ty3))))).den) : ((evFn (ctxP PmC0 none GmC1 []) Tryd.f7 (Ty.pair ty3 (Ty.pair ty3 (Ty.pair ty3 (Ty.pair ty26 (Ty.pair ty3 ty3))))) [none, none, none, some 3, none, none] (Rsh.one (none)) none ty3 noL x)).safe = (((((((((!(Sp.F16 x.1)) || (decide (x.2.1 < (0 : Int)))) || (decide (x.2.1 ≥ x.1))) || (decide (x.2.2.1 < (0 : Int)))) || (decide (x.2.2.1 > (2 : Int)))) || (!(Sp.F17 (x.1, x.2.2.2.2)))) = true → True) ∧ (((((((!(Sp.F16 x.1)) || (decide (x.2.1 < (0 : Int)))) || (decide (x.2.1 ≥ x.1))) || (decide (x.2.2.1 < (0 : Int)))) || (decide (x.2.2.1 > (2 : Int)))) || (!(Sp.F17 (x.1, x.2.2.2.2)))) = false → ((Sp.pre18 (x.1, x.2.2.2.1)) ∧ ((0 ≤ x.2.1) ∧ ((0 ≤ x.2.2.2.2.1) ∧ ((Sp.pre19 (IntKind.u32.wrap ((BitVec.ofInt IntKind.u32.bits (IntKind.u32.wrap ((BitVec.ofInt IntKind.u32.bits (IntKind.u32.wrap ((BitVec.ofInt IntKind.u32.bits (IntKind.u32.wrap ((BitVec.ofInt IntKind.u32.bits ((Sp.F18 (x.1, x.2.2.2.1)).1) ||| BitVec.ofInt IntKind.u32.bits ((Sp.F18 (x.1, x.2.2.2.1)).2.1)).toNat : Int)) ||| BitVec.ofInt IntKind.u32.bits ((Sp.F18 (x.1, x.2.2.2.1)).2.2)).toNat : Int)) ||| BitVec.ofInt IntKind.u32.bits (IntKind.u32.wrap ((1 : Int) * 2 ^ (min (x.2.1).toNat IntKind.u32.bits)))).toNat : Int)) ||| BitVec.ofInt IntKind.u32.bits (IntKind.u32.wrap ((1 : Int) * 2 ^ (min (x.2.2.2.2.1).toNat IntKind.u32.bits)))).toNat : Int))) ∧ ((Sp.pre20 (IntKind.u32.wrap ((BitVec.ofInt IntKind.u32.bits (IntKind.u32.wrap ((BitVec.ofInt IntKind.u32.bits (IntKind.u32.wrap ((BitVec.ofInt IntKind.u32.bits (IntKind.u32.wrap ((BitVec.ofInt IntKind.u32.bits ((Sp.F18 (x.1, x.2.2.2.1)).1) ||| BitVec.ofInt IntKind.u32.bits ((Sp.F18 (x.1, x.2.2.2.1)).2.1)).toNat : Int)) ||| BitVec.ofInt IntKind.u32.bits ((Sp.F18 (x.1, x.2.2.2.1)).2.2)).toNat : Int)) ||| BitVec.ofInt IntKind.u32.bits (IntKind.u32.wrap ((1 : Int) * 2 ^ (min (x.2.1).toNat IntKind.u32.bits)))).toNat : Int)) ||| BitVec.ofInt IntKind.u32.bits (IntKind.u32.wrap ((1 : Int) * 2 ^ (min (x.2.2.2.2.1).toNat IntKind.u32.bits)))).toNat : Int))) ∧ ((((x.2.2.1 == (0 : Int)) || ((x.2.2.1 == x.2.2.2.2.2) && (((x.2.2.1 == (1 : Int)) && (decide (x.2.2.2.2.1 ≥ x.2.1))) || ((x.2.2.1 == (2 : Int)) && (decide (x.2.2.2.2.1 ≤ x.2.1)))))) = true → ((Sp.pre21 ([], x.2.1, x.2.2.2.2.1)) ∧ True)) ∧ (((x.2.2.1 == (0 : Int)) || ((x.2.2.1 == x.2.2.2.2.2) && (((x.2.2.1 == (1 : Int)) && (decide (x.2.2.2.2.1 ≥ x.2.1))) || ((x.2.2.1 == (2 : Int)) && (decide (x.2.2.2.2.1 ≤ x.2.1)))))) = false → ((((x.2.2.1 != x.2.2.2.2.2) && (x.2.2.1 == (1 : Int))) = true → ((Sp.pre21 ([(IntKind.i64.wrap ((Sp.K7_2 x) - (1 : Int)))], x.2.1, x.2.2.2.2.1)) ∧ True)) ∧ (((x.2.2.1 != x.2.2.2.2.2) && (x.2.2.1 == (1 : Int))) = false → (((x.2.2.1 != x.2.2.2.2.2) = true → ((Sp.pre21 ([(Sp.K7_1 x)], x.2.1, x.2.2.2.2.1)) ∧ True)) ∧ ((x.2.2.1 != x.2.2.2.2.2) = false → (((x.2.2.1 == (1 : Int)) = true → ((Sp.pre21 ([(IntKind.i64.wrap ((Sp.K7_2 x) - (1 : Int))), (Sp.K7_1 x)], x.2.1, x.2.2.2.2.1)) ∧ True)) ∧ ((x.2.2.1 == (1 : Int)) = false → ((Sp.pre21 ([(Sp.K7_1 x), (IntKind.i64.wrap ((Sp.K7_2 x) - (1 : Int)))], x.2.1, x.2.2.2.2.1)) ∧ True))))))))))))))))) := by kernel_rfl
theorem sa7 (x : (Ty.pair ty3 (Ty.pair ty3 (Ty.pair ty3 (Ty.pair ty26 (Ty.pair ty3 ty3))))).den) (fx : Fit (Ty.pair ty3 (Ty.pair ty3 (Ty.pair ty3 (Ty.pair ty26 (Ty.pair ty3 ty3))))) x) : SafeW ((evFn (ctxP PmC0 none GmC1 []) Tryd.f7 (Ty.pair ty3 (Ty.pair ty3 (Ty.pair ty3 (Ty.pair ty26 (Ty.pair ty3 ty3))))) [none, none, none, some 3, none, none] (Rsh.one (none)) none ty3 noL x)) := by
  refine ⟨?_⟩
  rw [se7]
  try dsimp only [Ty.den] at *
  simp only [Sp.pre21, Sp.pre19, Sp.pre20, Sp.pre18, Sp.F16, Sp.F17, Bool.or_eq_true, Bool.or_eq_false_iff, Bool.not_eq_false', Bool.and_eq_true, decide_eq_true_eq, decide_eq_false_iff_not] at *
  repeat' (first | exact trivial | apply And.intro | intro _)
  all_goals first | omega | exact Sp.W.lo (Sp.W_wrap _) | exact Sp.W.hi (Sp.W_wrap _) | (simp only [List.length_cons, List.length_nil]; omega)
theorem ok7 : CtOk Tryd.prog gdS 7 ct7 :=
  fn_okU (ctxOkP pgokPmC0 fvok_none gokGmC1 []) rfl Tryd.func7 (p := (Ty.pair ty3 (Ty.pair ty3 (Ty.pair ty3 (Ty.pair ty26 (Ty.pair ty3 ty3)))))) (psh := [none, none, none, some 3, none, none]) (r := ty3) (rsh := (Rsh.one (none))) (pre := none) (fresh := none) (F := Sp.F7) (L := noL) (c := bodyOf Tryd.f7) (dflt := Ty.dflt ty3) rfl (no_loops)
    (safe_no @sa7) va7
/-! cost.Count -/
end Go.Proofs.YtjdaplmlmmnokaaDoor.Sy
namespace Go.Proofs.YtjdaplmlmmnokaaDoor.Sp
open Go Go.RowKit Sy
def F9 (x : Int × Int × Int × Int) : Int :=
  bif (!(Sp.F16 x.1)) then
    (0 : Int)
  else
    (IntKind.i64.wrap ((Sp.F23 ((Sp.F18 x).1)) + (Sp.F24 ((Sp.F18 x).2))))
end Go.Proofs.YtjdaplmlmmnokaaDoor.Sp
namespace Go.Proofs.YtjdaplmlmmnokaaDoor.Sy
def ct9 : Ct := { p := (Ty.pair ty3 ty26), psh := [none, some 3], r := ty3, rsh := (Rsh.one (none)), pre := none, fresh := none, F := Sp.F9 }
theorem va9 (x : (Ty.pair ty3 ty26).den) : ((evFn (ctxP PmC0 none GmC1 []) Tryd.f9 (Ty.pair ty3 ty26) [none, some 3] (Rsh.one (none)) none ty3 noL x)).val (fun y => y) (Ty.dflt ty3) = Sp.F9 x := by kernel_rfl
theorem se9 (x : (Ty.pair ty3 ty26).den) : ((evFn (ctxP PmC0 none GmC1 []) Tryd.f9 (Ty.pair ty3 ty26) [none, some 3] (Rsh.one (none)) none ty3 noL x)).safe = ((((!(Sp.F16 x.1)) = true → True) ∧ ((!(Sp.F16 x.1)) = false → ((Sp.pre18 x) ∧ ((Sp.pre23 ((Sp.F18 x).1)) ∧ ((Sp.pre24 ((Sp.F18 x).2)) ∧ True)))))) := by kernel_rfl
theorem sa9 (x : (Ty.pair ty3 ty26).den) (fx : Fit (Ty.pair ty3 ty26) x) : SafeW ((evFn (ctxP PmC0 none GmC1 []) Tryd.f9 (Ty.pair ty3 ty26) [none, some 3] (Rsh.one (none)) none ty3 noL x)) := by
  refine ⟨?_⟩
  rw [se9]
  try dsimp only [Ty.den] at *
  simp only [Sp.pre24, Sp.pre23, Sp.pre18, Sp.F16, Sp.F18, Sp.F28, Bool.or_eq_false_iff, Bool.not_eq_false', Bool.and_eq_true, decide_eq_true_eq, decide_eq_false_iff_not] at *
  repeat' (first | exact trivial | apply And.intro | intro _)
  all_goals first | omega | exact Sp.W.lo (Sp.W_wrap _) | exact Sp.W.hi (Sp.W_wrap _) | (simp only [List.length_cons, List.length_nil]; omega)
theorem ok9 : CtOk Tryd.prog gdS 9 ct9 :=
  fn_okU (ctxOkP pgokPmC0 fvok_none gokGmC1 []) rfl Tryd.func9 (p := (Ty.pair ty3 ty26)) (psh := [none, some 3]) (r := ty3) (rsh := (Rsh.one (none))) (pre := none) (fresh := none) (F := Sp.F9) (L := noL) (c := bodyOf Tryd.f9) (dflt := Ty.dflt ty3) rfl (no_loops)
    (safe_no @sa9) va9
def GmC2 : List (Nat × Ct) := (7, ct7) :: (9, ct9) :: GmC1
theorem gokGmC2 : GOk GmC2 := gok_cons ok7 ⟨_, Tryd.func7, by kernel_rfl, by kernel_rfl⟩ (gok_cons ok9 ⟨_, Tryd.func9, by kernel_rfl, by kernel_rfl⟩ (gokGmC1))
end Go.Proofs.YtjdaplmlmmnokaaDoor.Sy
