/- Contracts of functions, by the evaluator (own program gen.py): collective.choose, collective.Spent. -/
import Derived.Test.YtidnlehjabhclaaDoorC2
set_option linter.unusedVariables false
set_option linter.unusedSimpArgs false
set_option maxRecDepth 100000
namespace Go.Proofs.YtidnlehjabhclaaDoor.Sy
open Go Go.RowKit Sp
/-! collective.choose -/
end Go.Proofs.YtidnlehjabhclaaDoor.Sy
namespace Go.Proofs.YtidnlehjabhclaaDoor.Sp
open Go Go.RowKit Sy
def Rules (g : Nat) (x : Bool × Bool × Bool × Int × Int × Int) : Int × Int × Int := cnd (Nat.beq g 28) (Sp.F28 x) (cnd (Nat.beq g 29) (Sp.F29 x) (cnd (Nat.beq g 30) (Sp.F30 x) (Ty.dflt ty35)))
end Go.Proofs.YtidnlehjabhclaaDoor.Sp
namespace Go.Proofs.YtidnlehjabhclaaDoor.Sy
def fvRules : Fv := { p := ty57, psh := [some 6], r := ty35, rsh := (Rsh.one (some 3)), fs := [28, 29, 30], F := Sp.Rules }
theorem fvokRules : FVOk (some fvRules) := fvok_some (fun g hg => by
  simp only [fvRules, List.mem_cons, List.not_mem_nil, or_false] at hg
  rcases hg with rfl | rfl | rfl
  · exact ⟨ok28, _, Tryd.func28, by kernel_rfl, by kernel_rfl⟩
  · exact ⟨ok29, _, Tryd.func29, by kernel_rfl, by kernel_rfl⟩
  · exact ⟨ok30, _, Tryd.func30, by kernel_rfl, by kernel_rfl⟩)
end Go.Proofs.YtidnlehjabhclaaDoor.Sy
namespace Go.Proofs.YtidnlehjabhclaaDoor.Sp
open Go Go.RowKit Sy
def F18 (x : Int × (Int × Int) × Int × Int × Int × Int) : (Int × Int × Int) × Int :=
  ((Sp.Rules (Option.getD (Sp.nthT [(some 28), (some 29), (some 30)] x.2.1.1) 0) ((Sp.F27 (Sp.F26 x)).1)), (Sp.F27 (Sp.F26 x)).1.2.2.2.2.2)
def pre18 (x : Int × (Int × Int) × Int × Int × Int × Int) : Prop := 0 ≤ x.1 ∧ 0 ≤ x.2.2.1 ∧ 0 ≤ x.2.1.1 ∧ x.2.1.1 ≤ 2
end Go.Proofs.YtidnlehjabhclaaDoor.Sp
namespace Go.Proofs.YtidnlehjabhclaaDoor.Sy
def ct18 : Ct := { p := (Ty.pair ty3 (Ty.pair ty23 (Ty.pair ty3 ty30))), psh := [none, some 2, none, some 3], r := (Ty.pair ty35 ty3), rsh := (Rsh.tup [some 3, none]), pre := some Sp.pre18, fresh := none, F := Sp.F18 }
theorem va18 (x : (Ty.pair ty3 (Ty.pair ty23 (Ty.pair ty3 ty30))).den) : ((evFn (ctxP [] (some fvRules) GmC2 []) Tryd.f18 (Ty.pair ty3 (Ty.pair ty23 (Ty.pair ty3 ty30))) [none, some 2, none, some 3] (Rsh.tup [some 3, none]) none (Ty.pair ty35 ty3) noL x)).val (fun y => y) (Ty.dflt (Ty.pair ty35 ty3)) = Sp.F18 x := by kernel_rfl
theorem se18 (x : (Ty.pair ty3 (Ty.pair ty23 (Ty.pair ty3 ty30))).den) : ((evFn (ctxP [] (some fvRules) GmC2 []) Tryd.f18 (Ty.pair ty3 (Ty.pair ty23 (Ty.pair ty3 ty30))) [none, some 2, none, some 3] (Rsh.tup [some 3, none]) none (Ty.pair ty35 ty3) noL x)).safe = (((Sp.pre26 x) ∧ ((0 ≤ x.2.1.1 ∧ x.2.1.1 < (3 : Int)) ∧ ((∃ g, (Sp.nthT [(some 28), (some 29), (some 30)] x.2.1.1) = some g ∧ g ∈ [28, 29, 30]) ∧ True)))) := by kernel_rfl
theorem sa18 (x : (Ty.pair ty3 (Ty.pair ty23 (Ty.pair ty3 ty30))).den) (fx : Fit (Ty.pair ty3 (Ty.pair ty23 (Ty.pair ty3 ty30))) x) (h : Sp.pre18 x) : SafeW ((evFn (ctxP [] (some fvRules) GmC2 []) Tryd.f18 (Ty.pair ty3 (Ty.pair ty23 (Ty.pair ty3 ty30))) [none, some 2, none, some 3] (Rsh.tup [some 3, none]) none (Ty.pair ty35 ty3) noL x)) := by
  refine ⟨?_⟩
  rw [se18]
  try dsimp only [Ty.den] at *
  simp only [Sp.pre18, Sp.pre26] at *
  refine ⟨⟨by omega, by omega⟩, ⟨by omega, by omega⟩, Sp.nth3 _ _ _ _ (by omega) (by omega), trivial⟩
theorem ok18 : CtOk Tryd.prog gdS 18 ct18 :=
  fn_okU (ctxOkP pgok_nil fvokRules gokGmC2 []) rfl Tryd.func18 (p := (Ty.pair ty3 (Ty.pair ty23 (Ty.pair ty3 ty30)))) (psh := [none, some 2, none, some 3]) (r := (Ty.pair ty35 ty3)) (rsh := (Rsh.tup [some 3, none])) (pre := some Sp.pre18) (fresh := none) (F := Sp.F18) (L := noL) (c := bodyOf Tryd.f18) (dflt := Ty.dflt (Ty.pair ty35 ty3)) rfl (no_loops)
    (safe_pre @sa18) va18
/-! collective.Spent -/
end Go.Proofs.YtidnlehjabhclaaDoor.Sy
namespace Go.Proofs.YtidnlehjabhclaaDoor.Sp
open Go Go.RowKit Sy
def F22 (x : Int × (Int × Int) × Int × Int × Int × Int) : Int × Int × Int :=
  bif (!(Sp.F17 (x.1, x.2.1, x.2.2.1))) then
    ((0 : Int), (0 : Int), (0 : Int))
  else
    bif (Sp.F27 (Sp.F26 x)).2.1 then
      (bif (Sp.F27 (Sp.F26 x)).2.2.1 then
        (bif (Sp.F27 (Sp.F26 x)).2.2.2.1 then
          ((IntKind.u32.wrap ((1 : Int) * 2 ^ (min (x.2.2.1).toNat IntKind.u32.bits))), (IntKind.u32.wrap ((1 : Int) * 2 ^ (min (x.2.2.1).toNat IntKind.u32.bits))), (IntKind.u32.wrap ((1 : Int) * 2 ^ (min (x.2.2.1).toNat IntKind.u32.bits))))
        else
          ((IntKind.u32.wrap ((1 : Int) * 2 ^ (min (x.2.2.1).toNat IntKind.u32.bits))), (IntKind.u32.wrap ((1 : Int) * 2 ^ (min (x.2.2.1).toNat IntKind.u32.bits))), (0 : Int)))
      else
        bif (Sp.F27 (Sp.F26 x)).2.2.2.1 then
          ((IntKind.u32.wrap ((1 : Int) * 2 ^ (min (x.2.2.1).toNat IntKind.u32.bits))), (0 : Int), (IntKind.u32.wrap ((1 : Int) * 2 ^ (min (x.2.2.1).toNat IntKind.u32.bits))))
        else
          ((IntKind.u32.wrap ((1 : Int) * 2 ^ (min (x.2.2.1).toNat IntKind.u32.bits))), (0 : Int), (0 : Int)))
    else
      bif (Sp.F27 (Sp.F26 x)).2.2.1 then
        (bif (Sp.F27 (Sp.F26 x)).2.2.2.1 then
          ((0 : Int), (IntKind.u32.wrap ((1 : Int) * 2 ^ (min (x.2.2.1).toNat IntKind.u32.bits))), (IntKind.u32.wrap ((1 : Int) * 2 ^ (min (x.2.2.1).toNat IntKind.u32.bits))))
        else
          ((0 : Int), (IntKind.u32.wrap ((1 : Int) * 2 ^ (min (x.2.2.1).toNat IntKind.u32.bits))), (0 : Int)))
      else
        bif (Sp.F27 (Sp.F26 x)).2.2.2.1 then
          ((0 : Int), (0 : Int), (IntKind.u32.wrap ((1 : Int) * 2 ^ (min (x.2.2.1).toNat IntKind.u32.bits))))
        else
          ((0 : Int), (0 : Int), (0 : Int))
end Go.Proofs.YtidnlehjabhclaaDoor.Sp
namespace Go.Proofs.YtidnlehjabhclaaDoor.Sy
def ct22 : Ct := { p := (Ty.pair ty3 (Ty.pair ty23 (Ty.pair ty3 ty30))), psh := [none, some 2, none, some 3], r := ty30, rsh := (Rsh.one (some 3)), pre := none, fresh := none, F := Sp.F22 }
theorem va22 (x : (Ty.pair ty3 (Ty.pair ty23 (Ty.pair ty3 ty30))).den) : ((evFn (ctxG GmC2) Tryd.f22 (Ty.pair ty3 (Ty.pair ty23 (Ty.pair ty3 ty30))) [none, some 2, none, some 3] (Rsh.one (some 3)) none ty30 noL x)).val (fun y => y) (Ty.dflt ty30) = Sp.F22 x := by kernel_rfl
theorem se22 (x : (Ty.pair ty3 (Ty.pair ty23 (Ty.pair ty3 ty30))).den) : ((evFn (ctxG GmC2) Tryd.f22 (Ty.pair ty3 (Ty.pair ty23 (Ty.pair ty3 ty30))) [none, some 2, none, some 3] (Rsh.one (some 3)) none ty30 noL x)).safe = ((((!(Sp.F17 (x.1, x.2.1, x.2.2.1))) = true → True) ∧ ((!(Sp.F17 (x.1, x.2.1, x.2.2.1))) = false → ((Sp.pre26 x) ∧ (((Sp.F27 (Sp.F26 x)).2.1 = true → ((0 ≤ x.2.2.1) ∧ (((Sp.F27 (Sp.F26 x)).2.2.1 = true → ((0 ≤ x.2.2.1) ∧ (((Sp.F27 (Sp.F26 x)).2.2.2.1 = true → ((0 ≤ x.2.2.1) ∧ True)) ∧ ((Sp.F27 (Sp.F26 x)).2.2.2.1 = false → True)))) ∧ ((Sp.F27 (Sp.F26 x)).2.2.1 = false → (((Sp.F27 (Sp.F26 x)).2.2.2.1 = true → ((0 ≤ x.2.2.1) ∧ True)) ∧ ((Sp.F27 (Sp.F26 x)).2.2.2.1 = false → True)))))) ∧ ((Sp.F27 (Sp.F26 x)).2.1 = false → (((Sp.F27 (Sp.F26 x)).2.2.1 = true → ((0 ≤ x.2.2.1) ∧ (((Sp.F27 (Sp.F26 x)).2.2.2.1 = true → ((0 ≤ x.2.2.1) ∧ True)) ∧ ((Sp.F27 (Sp.F26 x)).2.2.2.1 = false → True)))) ∧ ((Sp.F27 (Sp.F26 x)).2.2.1 = false → (((Sp.F27 (Sp.F26 x)).2.2.2.1 = true → ((0 ≤ x.2.2.1) ∧ True)) ∧ ((Sp.F27 (Sp.F26 x)).2.2.2.1 = false → True)))))))))) := by kernel_rfl
theorem sa22 (x : (Ty.pair ty3 (Ty.pair ty23 (Ty.pair ty3 ty30))).den) (fx : Fit (Ty.pair ty3 (Ty.pair ty23 (Ty.pair ty3 ty30))) x) : SafeW ((evFn (ctxG GmC2) Tryd.f22 (Ty.pair ty3 (Ty.pair ty23 (Ty.pair ty3 ty30))) [none, some 2, none, some 3] (Rsh.one (some 3)) none ty30 noL x)) := by
  refine ⟨?_⟩
  rw [se22]
  try dsimp only [Ty.den] at *
  simp only [Fit, maxLen] at fx
  simp only [Sp.pre26, Sp.F17, Sp.F24, IntKind.wrap_i64, IntKind.wrap_u8, IntKind.wrap_u32, IntKind.wrap_u64, Sp.tmod_lit, Sp.tdiv_lit, bne_eq_false_iff_eq, Int.natCast_inj, setE, copyL, sliceL, zrow, List.length_append, List.length_cons, List.length_nil, List.length_set, List.length_replicate, List.length_take, List.length_drop, decide_eq_true_eq, decide_eq_false_iff_not, Bool.or_eq_true, Bool.and_eq_true, Bool.or_eq_false_iff, Bool.and_eq_false_iff, Bool.not_eq_true', Bool.not_eq_false', Bool.not_eq_true, Bool.not_eq_false, beq_iff_eq, beq_eq_false_iff_ne, bne_iff_ne, ne_eq, implies_true, and_true, true_and] at *
  all_goals ((repeat' (first | exact trivial | apply And.intro | intro _)) <;> first | trivial | omega | exact Sp.tmod_nn (by omega) | exact Sp.tmod_lt (by omega) (by omega))
theorem ok22 : CtOk Tryd.prog gdS 22 ct22 :=
  fn_okU (ctxOkF gokGmC2 []) rfl Tryd.func22 (p := (Ty.pair ty3 (Ty.pair ty23 (Ty.pair ty3 ty30)))) (psh := [none, some 2, none, some 3]) (r := ty30) (rsh := (Rsh.one (some 3))) (pre := none) (fresh := none) (F := Sp.F22) (L := noL) (c := bodyOf Tryd.f22) (dflt := Ty.dflt ty30) rfl (no_loops)
    (safe_no @sa22) va22
def GmC3 : List (Nat × Ct) := (18, ct18) :: (22, ct22) :: GmC2
theorem gokGmC3 : GOk GmC3 := gok_cons ok18 ⟨_, Tryd.func18, by kernel_rfl, by kernel_rfl⟩ (gok_cons ok22 ⟨_, Tryd.func22, by kernel_rfl, by kernel_rfl⟩ (gokGmC2))
end Go.Proofs.YtidnlehjabhclaaDoor.Sy
