/- Contracts of functions, by the evaluator (own program gen.py): overlaylaw06.sane, math.Nextafter. -/
import Derived.Test.YtabifaikklcghaaLe
set_option linter.unusedVariables false
set_option linter.unusedSimpArgs false
set_option maxRecDepth 100000
namespace Go.Proofs.Ytabifaikklcghaa.Sy
open Go Go.RowKit Sp
/-! overlaylaw06.sane -/
end Go.Proofs.Ytabifaikklcghaa.Sy
namespace Go.Proofs.Ytabifaikklcghaa.Sp
open Go Go.RowKit Sy
def K27_1 (x : Unit) :=
  (Sp.F24 ((Sp.F23 ((4593671619917905920 : Nat), (4604930618986332160 : Nat), (4607182418800017408 : Nat))), (0 : Int), [(4604930618986332160 : Nat), (4604480259023595110 : Nat), (4604367669032910848 : Nat), (4603579539098121011 : Nat), (Sp.F43 ()), (Sp.F44 (1 : Int)), (Sp.F45 ((0 : Nat), (13830554455654793216 : Nat)))]))
def F27 (x : Unit) : Bool :=
  ((Sp.F25 ((Sp.K27_1 x), [(3 : Int), (3 : Int), (3 : Int), (2 : Int), (0 : Int), (4 : Int), (1 : Int)])) && ((Sp.F28 ((Sp.F23 ((4593671619917905920 : Nat), (4604930618986332160 : Nat), (4607182418800017408 : Nat))), (13830554455654793216 : Nat))) == (0 : Int)))
end Go.Proofs.Ytabifaikklcghaa.Sp
namespace Go.Proofs.Ytabifaikklcghaa.Sy
def ct27 : Ct := { p := Ty.unit, psh := [], r := ty4, rsh := (Rsh.one (none)), pre := none, fresh := none, F := Sp.F27 }
theorem va27 (x : Ty.unit.den) : ((evFn (ctxG GmK0) Try.f27 Ty.unit [] (Rsh.one (none)) none ty4 noL x)).val (fun y => y) (Ty.dflt ty4) = Sp.F27 x := by kernel_rfl
theorem se27 (x : Ty.unit.den) : ((evFn (ctxG GmK0) Try.f27 Ty.unit [] (Rsh.one (none)) none ty4 noL x)).safe = (True) := by kernel_rfl
theorem sa27 (x : Ty.unit.den) (fx : Fit Ty.unit x) : SafeW ((evFn (ctxG GmK0) Try.f27 Ty.unit [] (Rsh.one (none)) none ty4 noL x)) := by
  refine ⟨?_⟩
  rw [se27]
  trivial
theorem ok27 : CtOk Try.prog gdS 27 ct27 :=
  fn_okU (ctxOkF gokGmK0 []) rfl Try.func27 (p := Ty.unit) (psh := []) (r := ty4) (rsh := (Rsh.one (none))) (pre := none) (fresh := none) (F := Sp.F27) (L := noL) (c := bodyOf Try.f27) (dflt := Ty.dflt ty4) rfl (no_loops)
    (safe_no @sa27) va27
/-! math.Nextafter -/
end Go.Proofs.Ytabifaikklcghaa.Sy
namespace Go.Proofs.Ytabifaikklcghaa.Sp
open Go Go.RowKit Sy
def F47 (x : Nat × Nat) : Nat :=
  bif ((Sp.F56 x.1) || (Sp.F56 x.2)) then
    (Sp.F43 ())
  else
    bif ((FloatKind.f64.format.order x.1 x.2) == some Ordering.eq) then
      x.1
    else
      bif ((FloatKind.f64.format.order x.1 (0 : Nat)) == some Ordering.eq) then
        (Sp.F45 ((Int.toNat (1 : Int)), x.2))
      else
        bif (((FloatKind.f64.format.order x.2 x.1) == some Ordering.gt) == ((FloatKind.f64.format.order x.1 (0 : Nat)) == some Ordering.gt)) then
          (Int.toNat (IntKind.u64.wrap (((x.1 : Nat) : Int) + (1 : Int))))
        else
          (Int.toNat (IntKind.u64.wrap (((x.1 : Nat) : Int) - (1 : Int))))
end Go.Proofs.Ytabifaikklcghaa.Sp
namespace Go.Proofs.Ytabifaikklcghaa.Sy
def ct47 : Ct := { p := (Ty.pair ty25 ty25), psh := [none, none], r := ty25, rsh := (Rsh.one (none)), pre := none, fresh := none, F := Sp.F47 }
theorem va47 (x : (Ty.pair ty25 ty25).den) : ((evFn (ctxG GmK0) Try.f47 (Ty.pair ty25 ty25) [none, none] (Rsh.one (none)) none ty25 noL x)).val (fun y => y) (Ty.dflt ty25) = Sp.F47 x := by kernel_rfl
theorem se47 (x : (Ty.pair ty25 ty25).den) : ((evFn (ctxG GmK0) Try.f47 (Ty.pair ty25 ty25) [none, none] (Rsh.one (none)) none ty25 noL x)).safe = (((((Sp.F56 x.1) || (Sp.F56 x.2)) = true → True) ∧ (((Sp.F56 x.1) || (Sp.F56 x.2)) = false → ((((FloatKind.f64.format.order x.1 x.2) == some Ordering.eq) = true → True) ∧ (((FloatKind.f64.format.order x.1 x.2) == some Ordering.eq) = false → ((((FloatKind.f64.format.order x.1 (0 : Nat)) == some Ordering.eq) = true → True) ∧ (((FloatKind.f64.format.order x.1 (0 : Nat)) == some Ordering.eq) = false → (((((FloatKind.f64.format.order x.2 x.1) == some Ordering.gt) == ((FloatKind.f64.format.order x.1 (0 : Nat)) == some Ordering.gt)) = true → True) ∧ ((((FloatKind.f64.format.order x.2 x.1) == some Ordering.gt) == ((FloatKind.f64.format.order x.1 (0 : Nat)) == some Ordering.gt)) = false → True))))))))) := by kernel_rfl
theorem sa47 (x : (Ty.pair ty25 ty25).den) (fx : Fit (Ty.pair ty25 ty25) x) : SafeW ((evFn (ctxG GmK0) Try.f47 (Ty.pair ty25 ty25) [none, none] (Rsh.one (none)) none ty25 noL x)) := by
  refine ⟨?_⟩
  rw [se47]
  try dsimp only [Ty.den] at *
  simp only [Fit, maxLen] at fx
  simp only [true_and, IntKind.wrap_i64, IntKind.wrap_u8, IntKind.wrap_u32, IntKind.wrap_u64, Sp.tmod_lit, Sp.tdiv_lit, bne_eq_false_iff_eq, Int.natCast_inj, setE, copyL, sliceL, zrow, List.length_append, List.length_cons, List.length_nil, List.length_set, List.length_replicate, List.length_take, List.length_drop, decide_eq_true_eq, decide_eq_false_iff_not, Bool.or_eq_true, Bool.and_eq_true, Bool.or_eq_false_iff, Bool.and_eq_false_iff, Bool.not_eq_true', Bool.not_eq_false', Bool.not_eq_true, Bool.not_eq_false, beq_iff_eq, beq_eq_false_iff_ne, bne_iff_ne, ne_eq, implies_true, and_true, true_and] at *
  all_goals ((repeat' (first | exact trivial | apply And.intro | intro _)) <;> first | trivial | omega | exact Sp.tmod_nn (by omega) | exact Sp.tmod_lt (by omega) (by omega))
theorem ok47 : CtOk Try.prog gdS 47 ct47 :=
  fn_okU (ctxOkF gokGmK0 []) rfl Try.func47 (p := (Ty.pair ty25 ty25)) (psh := [none, none]) (r := ty25) (rsh := (Rsh.one (none))) (pre := none) (fresh := none) (F := Sp.F47) (L := noL) (c := bodyOf Try.f47) (dflt := Ty.dflt ty25) rfl (no_loops)
    (safe_no @sa47) va47
def GmK1 : List (Nat × Ct) := (27, ct27) :: (47, ct47) :: GmK0
theorem gokGmK1 : GOk GmK1 := gok_cons ok27 ⟨_, Try.func27, by kernel_rfl, by kernel_rfl⟩ (gok_cons ok47 ⟨_, Try.func47, by kernel_rfl, by kernel_rfl⟩ (gokGmK0))
end Go.Proofs.Ytabifaikklcghaa.Sy
