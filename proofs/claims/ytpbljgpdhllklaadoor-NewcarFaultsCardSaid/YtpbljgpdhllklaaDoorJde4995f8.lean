/- Own texts joined by pk.py. -/
import Derived.Test.YtpbljgpdhllklaaDoorJ1c31bc41
section
/- Contracts of functions, by the evaluator (own program gen.py): newcar.IsState, motion.Step, door.Step, indicator.Shows, overlayplay.Step, door.Skip. -/
set_option linter.unusedVariables false
set_option linter.unusedSimpArgs false
set_option maxRecDepth 100000
namespace Go.Proofs.YtpbljgpdhllklaaDoor.Sy
open Go Go.RowKit Sp
/-! newcar.IsState -/
end Go.Proofs.YtpbljgpdhllklaaDoor.Sy
namespace Go.Proofs.YtpbljgpdhllklaaDoor.Sp
open Go Go.RowKit Sy
def F57 (x : (Int × Int × Int × Int × Nat × Nat × Nat × List (Int × Int × Int × Int × Int × Int × Int × Int × Int)) × (Int × Int) × (Int × Int × Int × Bool × Int) × (Int × Int × Int) × Int × Int × Int × Bool) : Bool :=
  bif (((Sp.F44 x.1) != (0 : Int)) || (x.2.2.2.2.2.2.2 && (!(((x.2.1.1 == (0 : Int)) && (x.2.1.2 == (0 : Int))) && (((x.2.2.1.1 == (0 : Int)) && ((x.2.2.1.2.1 == (0 : Int)) && ((x.2.2.1.2.2.1 == (0 : Int)) && ((x.2.2.1.2.2.2.1 == false) && (x.2.2.1.2.2.2.2 == (0 : Int)))))) && (((x.2.2.2.1.1 == (0 : Int)) && ((x.2.2.2.1.2.1 == (0 : Int)) && (x.2.2.2.1.2.2 == (0 : Int)))) && ((x.2.2.2.2.1 == (0 : Int)) && ((x.2.2.2.2.2.1 == (0 : Int)) && ((x.2.2.2.2.2.2.1 == (0 : Int)) && (x.2.2.2.2.2.2.2 == true)))))))))) then
    false
  else
    bif ((((!(Sp.F46 x.2.1)) || (!(Sp.F82 x.2.2.1))) || (!(Sp.F83 (x.1.1, x.2.2.2.1)))) || ((!((x.2.2.1.1 == (0 : Int)) && ((x.2.2.1.2.1 == (0 : Int)) && ((x.2.2.1.2.2.1 == (0 : Int)) && ((x.2.2.1.2.2.2.1 == false) && (x.2.2.1.2.2.2.2 == (0 : Int))))))) && (!((x.2.2.2.1.1 == (0 : Int)) && ((x.2.2.2.1.2.1 == (0 : Int)) && (x.2.2.2.1.2.2 == (0 : Int))))))) then
      false
    else
      ((((((Int.fdiv x.2.2.2.2.1 (2 ^ (min (x.1.1).toNat IntKind.u32.bits))) == (0 : Int)) && (decide (x.2.2.2.2.2.1 ≥ (0 : Int)))) && (decide (x.2.2.2.2.2.1 ≤ (2 : Int)))) && (decide (x.2.2.2.2.2.2.1 ≥ (0 : Int)))) && (decide (x.2.2.2.2.2.2.1 ≤ (1000000 : Int))))
end Go.Proofs.YtpbljgpdhllklaaDoor.Sp
namespace Go.Proofs.YtpbljgpdhllklaaDoor.Sy
def ct57 : Ct := { p := (Ty.pair ty32 ty66), psh := [some 8, some 14], r := ty4, rsh := (Rsh.one (none)), pre := none, fresh := none, F := Sp.F57 }
theorem va57 (x : (Ty.pair ty32 ty66).den) : ((evFn (ctxP PmV0 none GmV1 []) Tryd.f57 (Ty.pair ty32 ty66) [some 8, some 14] (Rsh.one (none)) none ty4 noL x)).val (fun y => y) (Ty.dflt ty4) = Sp.F57 x := by kernel_rfl
theorem se57 (x : (Ty.pair ty32 ty66).den) : ((evFn (ctxP PmV0 none GmV1 []) Tryd.f57 (Ty.pair ty32 ty66) [some 8, some 14] (Rsh.one (none)) none ty4 noL x)).safe = ((((((Sp.F44 x.1) != (0 : Int)) || (x.2.2.2.2.2.2.2 && (!(((x.2.1.1 == (0 : Int)) && (x.2.1.2 == (0 : Int))) && (((x.2.2.1.1 == (0 : Int)) && ((x.2.2.1.2.1 == (0 : Int)) && ((x.2.2.1.2.2.1 == (0 : Int)) && ((x.2.2.1.2.2.2.1 == false) && (x.2.2.1.2.2.2.2 == (0 : Int)))))) && (((x.2.2.2.1.1 == (0 : Int)) && ((x.2.2.2.1.2.1 == (0 : Int)) && (x.2.2.2.1.2.2 == (0 : Int)))) && ((x.2.2.2.2.1 == (0 : Int)) && ((x.2.2.2.2.2.1 == (0 : Int)) && ((x.2.2.2.2.2.2.1 == (0 : Int)) && (x.2.2.2.2.2.2.2 == true)))))))))) = true → True) ∧ ((((Sp.F44 x.1) != (0 : Int)) || (x.2.2.2.2.2.2.2 && (!(((x.2.1.1 == (0 : Int)) && (x.2.1.2 == (0 : Int))) && (((x.2.2.1.1 == (0 : Int)) && ((x.2.2.1.2.1 == (0 : Int)) && ((x.2.2.1.2.2.1 == (0 : Int)) && ((x.2.2.1.2.2.2.1 == false) && (x.2.2.1.2.2.2.2 == (0 : Int)))))) && (((x.2.2.2.1.1 == (0 : Int)) && ((x.2.2.2.1.2.1 == (0 : Int)) && (x.2.2.2.1.2.2 == (0 : Int)))) && ((x.2.2.2.2.1 == (0 : Int)) && ((x.2.2.2.2.2.1 == (0 : Int)) && ((x.2.2.2.2.2.2.1 == (0 : Int)) && (x.2.2.2.2.2.2.2 == true)))))))))) = false → ((((((!(Sp.F46 x.2.1)) || (!(Sp.F82 x.2.2.1))) || (!(Sp.F83 (x.1.1, x.2.2.2.1)))) || ((!((x.2.2.1.1 == (0 : Int)) && ((x.2.2.1.2.1 == (0 : Int)) && ((x.2.2.1.2.2.1 == (0 : Int)) && ((x.2.2.1.2.2.2.1 == false) && (x.2.2.1.2.2.2.2 == (0 : Int))))))) && (!((x.2.2.2.1.1 == (0 : Int)) && ((x.2.2.2.1.2.1 == (0 : Int)) && (x.2.2.2.1.2.2 == (0 : Int))))))) = true → True) ∧ (((((!(Sp.F46 x.2.1)) || (!(Sp.F82 x.2.2.1))) || (!(Sp.F83 (x.1.1, x.2.2.2.1)))) || ((!((x.2.2.1.1 == (0 : Int)) && ((x.2.2.1.2.1 == (0 : Int)) && ((x.2.2.1.2.2.1 == (0 : Int)) && ((x.2.2.1.2.2.2.1 == false) && (x.2.2.1.2.2.2.2 == (0 : Int))))))) && (!((x.2.2.2.1.1 == (0 : Int)) && ((x.2.2.2.1.2.1 == (0 : Int)) && (x.2.2.2.1.2.2 == (0 : Int))))))) = false → ((0 ≤ x.1.1) ∧ True)))))) := by kernel_rfl
theorem sa57 (x : (Ty.pair ty32 ty66).den) (fx : Fit (Ty.pair ty32 ty66) x) : SafeW ((evFn (ctxP PmV0 none GmV1 []) Tryd.f57 (Ty.pair ty32 ty66) [some 8, some 14] (Rsh.one (none)) none ty4 noL x)) := by
  refine ⟨?_⟩
  rw [se57]
  try dsimp only [Ty.den] at *
  refine ⟨fun _ => trivial, fun hc => ?_⟩
  have hv := hc
  simp only [Bool.or_eq_false_iff, bne_eq_false_iff_eq] at hv
  have hb := Sp.valid_b (Sp.fit_cars fx.1) hv.1
  have hfl := hb.fl
  repeat' (first | exact trivial | apply And.intro | intro _)
  all_goals omega
theorem ok57 : CtOk Tryd.prog gdS 57 ct57 :=
  fn_okU (ctxOkP pgokPmV0 fvok_none gokGmV1 []) rfl Tryd.func57 (p := (Ty.pair ty32 ty66)) (psh := [some 8, some 14]) (r := ty4) (rsh := (Rsh.one (none))) (pre := none) (fresh := none) (F := Sp.F57) (L := noL) (c := bodyOf Tryd.f57) (dflt := Ty.dflt ty4) rfl (no_loops)
    (safe_no @sa57) va57
/-! motion.Step -/
end Go.Proofs.YtpbljgpdhllklaaDoor.Sy
namespace Go.Proofs.YtpbljgpdhllklaaDoor.Sp
open Go Go.RowKit Sy
def F114 (x : Int × (Int × Int × Int) × (Int × Bool × Int × Bool) × Int) : (Int × Int × Int) × Int × Bool :=
  bif (((!(Sp.F83 (x.1, x.2.1))) || (decide (x.2.2.1.1 < (0 : Int)))) || (decide (x.2.2.1.1 ≥ x.1))) then
    (((0 : Int), (0 : Int), (0 : Int)), (0 : Int), false)
  else
    bif (((Sp.F103 (x.1, x.2.1.2.2, x.2.1.1)).2 && x.2.2.1.2.1) && (x.2.2.1.1 == (Sp.F103 (x.1, x.2.1.2.2, x.2.1.1)).1)) then
      (((0 : Int), (0 : Int), (0 : Int)), (0 : Int), true)
    else
      bif ((Sp.F103 (x.1, x.2.1.2.2, x.2.1.1)).2 || (!x.2.2.1.2.1)) then
        ((x.2.1.1, (min (IntKind.i64.wrap (x.2.1.2.1 + (1 : Int))) (1000000 : Int)), x.2.1.2.2), x.2.1.1, false)
      else
        bif (Sp.F103 (x.1, x.2.2.1.1, x.2.2.2)).2 then
          ((x.2.2.2, (0 : Int), x.2.2.1.1), x.2.2.2, false)
        else
          (((0 : Int), (0 : Int), (0 : Int)), (0 : Int), false)
end Go.Proofs.YtpbljgpdhllklaaDoor.Sp
namespace Go.Proofs.YtpbljgpdhllklaaDoor.Sy
def ct114 : Ct := { p := (Ty.pair ty3 (Ty.pair ty64 (Ty.pair ty68 ty3))), psh := [none, some 3, some 4, none], r := (Ty.pair ty64 (Ty.pair ty3 ty4)), rsh := (Rsh.tup [some 3, none, none]), pre := none, fresh := none, F := Sp.F114 }
theorem va114 (x : (Ty.pair ty3 (Ty.pair ty64 (Ty.pair ty68 ty3))).den) : ((evFn (ctxP PmV0 none GmV1 []) Tryd.f114 (Ty.pair ty3 (Ty.pair ty64 (Ty.pair ty68 ty3))) [none, some 3, some 4, none] (Rsh.tup [some 3, none, none]) none (Ty.pair ty64 (Ty.pair ty3 ty4)) noL x)).val (fun y => y) (Ty.dflt (Ty.pair ty64 (Ty.pair ty3 ty4))) = Sp.F114 x := by kernel_rfl
theorem se114 (x : (Ty.pair ty3 (Ty.pair ty64 (Ty.pair ty68 ty3))).den) : ((evFn (ctxP PmV0 none GmV1 []) Tryd.f114 (Ty.pair ty3 (Ty.pair ty64 (Ty.pair ty68 ty3))) [none, some 3, some 4, none] (Rsh.tup [some 3, none, none]) none (Ty.pair ty64 (Ty.pair ty3 ty4)) noL x)).safe = ((((((!(Sp.F83 (x.1, x.2.1))) || (decide (x.2.2.1.1 < (0 : Int)))) || (decide (x.2.2.1.1 ≥ x.1))) = true → True) ∧ ((((!(Sp.F83 (x.1, x.2.1))) || (decide (x.2.2.1.1 < (0 : Int)))) || (decide (x.2.2.1.1 ≥ x.1))) = false → (((((Sp.F103 (x.1, x.2.1.2.2, x.2.1.1)).2 && x.2.2.1.2.1) && (x.2.2.1.1 == (Sp.F103 (x.1, x.2.1.2.2, x.2.1.1)).1)) = true → True) ∧ ((((Sp.F103 (x.1, x.2.1.2.2, x.2.1.1)).2 && x.2.2.1.2.1) && (x.2.2.1.1 == (Sp.F103 (x.1, x.2.1.2.2, x.2.1.1)).1)) = false → ((((Sp.F103 (x.1, x.2.1.2.2, x.2.1.1)).2 || (!x.2.2.1.2.1)) = true → True) ∧ (((Sp.F103 (x.1, x.2.1.2.2, x.2.1.1)).2 || (!x.2.2.1.2.1)) = false → (((Sp.F103 (x.1, x.2.2.1.1, x.2.2.2)).2 = true → True) ∧ ((Sp.F103 (x.1, x.2.2.1.1, x.2.2.2)).2 = false → True))))))))) := by kernel_rfl
theorem sa114 (x : (Ty.pair ty3 (Ty.pair ty64 (Ty.pair ty68 ty3))).den) (fx : Fit (Ty.pair ty3 (Ty.pair ty64 (Ty.pair ty68 ty3))) x) : SafeW ((evFn (ctxP PmV0 none GmV1 []) Tryd.f114 (Ty.pair ty3 (Ty.pair ty64 (Ty.pair ty68 ty3))) [none, some 3, some 4, none] (Rsh.tup [some 3, none, none]) none (Ty.pair ty64 (Ty.pair ty3 ty4)) noL x)) := by
  refine ⟨?_⟩
  rw [se114]
  try dsimp only [Ty.den] at *
  simp only [Fit, maxLen] at fx
  simp only [true_and, IntKind.wrap_i64, IntKind.wrap_u8, IntKind.wrap_u32, IntKind.wrap_u64, Sp.tmod_lit, Sp.tdiv_lit, bne_eq_false_iff_eq, Int.natCast_inj, setE, copyL, sliceL, zrow, List.length_append, List.length_cons, List.length_nil, List.length_set, List.length_replicate, List.length_take, List.length_drop, decide_eq_true_eq, decide_eq_false_iff_not, Bool.or_eq_true, Bool.and_eq_true, Bool.or_eq_false_iff, Bool.and_eq_false_iff, Bool.not_eq_true', Bool.not_eq_false', Bool.not_eq_true, Bool.not_eq_false, beq_iff_eq, beq_eq_false_iff_ne, bne_iff_ne, ne_eq, implies_true, and_true, true_and] at *
  all_goals ((repeat' (first | exact trivial | apply And.intro | intro _)) <;> first | trivial | omega | exact Sp.tmod_nn (by omega) | exact Sp.tmod_lt (by omega) (by omega))
theorem ok114 : CtOk Tryd.prog gdS 114 ct114 :=
  fn_okU (ctxOkP pgokPmV0 fvok_none gokGmV1 []) rfl Tryd.func114 (p := (Ty.pair ty3 (Ty.pair ty64 (Ty.pair ty68 ty3)))) (psh := [none, some 3, some 4, none]) (r := (Ty.pair ty64 (Ty.pair ty3 ty4))) (rsh := (Rsh.tup [some 3, none, none])) (pre := none) (fresh := none) (F := Sp.F114) (L := noL) (c := bodyOf Tryd.f114) (dflt := Ty.dflt (Ty.pair ty64 (Ty.pair ty3 ty4))) rfl (no_loops)
    (safe_no @sa114) va114
/-! door.Step -/
end Go.Proofs.YtpbljgpdhllklaaDoor.Sy
namespace Go.Proofs.YtpbljgpdhllklaaDoor.Sp
open Go Go.RowKit Sy
def K105_1 (x : (Int × Int × Int × Int × Int × Int × Int × Int × Int) × (Int × Int × Int × Bool × Int) × Int × Bool × Bool) :=
  (Sp.F115 (((Sp.F90 ((0 : Int), (0 : Int), (0 : Int), false, (0 : Int))).1, (Sp.F90 ((0 : Int), (0 : Int), (0 : Int), false, (0 : Int))).2.1, (max ((Sp.F90 ((0 : Int), (0 : Int), (0 : Int), false, (0 : Int))).2.2.1) (1 : Int)), (Sp.F90 ((0 : Int), (0 : Int), (0 : Int), false, (0 : Int))).2.2.2), (2 : Int)))
def K105_2 (x : (Int × Int × Int × Int × Int × Int × Int × Int × Int) × (Int × Int × Int × Bool × Int) × Int × Bool × Bool) :=
  (Sp.F115 (((Sp.F90 ((0 : Int), (0 : Int), (0 : Int), false, (0 : Int))).1, (Sp.F90 ((0 : Int), (0 : Int), (0 : Int), false, (0 : Int))).2.1, (Sp.F90 ((0 : Int), (0 : Int), (0 : Int), false, (0 : Int))).2.2.1, (Sp.F90 ((0 : Int), (0 : Int), (0 : Int), false, (0 : Int))).2.2.2.1, (Sp.F91 ((Sp.F90 ((0 : Int), (0 : Int), (0 : Int), false, (0 : Int))).2.2.2.2))), (1 : Int)))
def F105 (x : (Int × Int × Int × Int × Int × Int × Int × Int × Int) × (Int × Int × Int × Bool × Int) × Int × Bool × Bool) : (Int × Int × Int × Bool × Int) × Int :=
  bif (!(Sp.F82 x.2.1)) then
    (bif ((0 : Int) == (0 : Int)) then
      (bif x.2.2.2.2 then
        (((1 : Int), (0 : Int), (0 : Int), false, (0 : Int)), (3 : Int))
      else
        (((0 : Int), (0 : Int), (0 : Int), false, (0 : Int)), (0 : Int)))
    else
      bif (((Sp.F90 ((0 : Int), (0 : Int), (0 : Int), false, (0 : Int))).1 == (1 : Int)) && (x.2.2.1 == (1 : Int))) then
        ((Sp.K105_1 x), (0 : Int))
      else
        bif (((Sp.F90 ((0 : Int), (0 : Int), (0 : Int), false, (0 : Int))).1 == (3 : Int)) && (x.2.2.1 == (2 : Int))) then
          (((0 : Int), (0 : Int), (0 : Int), false, (0 : Int)), (0 : Int))
        else
          bif ((((Sp.F90 ((0 : Int), (0 : Int), (0 : Int), false, (0 : Int))).1 == (3 : Int)) && (decide ((Sp.F90 ((0 : Int), (0 : Int), (0 : Int), false, (0 : Int))).2.2.1 > x.1.2.2.2.2.2.2.2.1))) && (Sp.F90 ((0 : Int), (0 : Int), (0 : Int), false, (0 : Int))).2.2.2.1) then
            (Sp.F116 ((Sp.F90 ((0 : Int), (0 : Int), (0 : Int), false, (0 : Int))), (5 : Int)))
          else
            bif (decide ((Sp.F90 ((0 : Int), (0 : Int), (0 : Int), false, (0 : Int))).2.2.1 > x.1.2.2.2.2.2.2.2.1)) then
              (Sp.F117 (Sp.F90 ((0 : Int), (0 : Int), (0 : Int), false, (0 : Int))))
            else
              bif ((Sp.F90 ((0 : Int), (0 : Int), (0 : Int), false, (0 : Int))).1 == (1 : Int)) then
                (Sp.F116 ((Sp.F90 ((0 : Int), (0 : Int), (0 : Int), false, (0 : Int))), (3 : Int)))
              else
                bif ((Sp.F90 ((0 : Int), (0 : Int), (0 : Int), false, (0 : Int))).1 == (2 : Int)) then
                  (bif ((decide ((IntKind.i64.wrap ((Sp.F90 ((0 : Int), (0 : Int), (0 : Int), false, (0 : Int))).2.1 + (1 : Int))) ≥ x.1.2.2.2.2.2.2.1)) && (!x.2.2.2.1)) then
                    ((Sp.F115 ((Sp.F90 ((0 : Int), (0 : Int), (0 : Int), false, (0 : Int))), (3 : Int))), (4 : Int))
                  else
                    (Sp.F116 ((Sp.F90 ((0 : Int), (0 : Int), (0 : Int), false, (0 : Int))), (0 : Int))))
                else
                  bif x.2.2.2.1 then
                    ((Sp.K105_2 x), (3 : Int))
                  else
                    (Sp.F116 ((Sp.F90 ((0 : Int), (0 : Int), (0 : Int), false, (0 : Int))), (4 : Int))))
  else
    bif (x.2.1.1 == (0 : Int)) then
      (bif x.2.2.2.2 then
        (((1 : Int), (0 : Int), (0 : Int), false, (0 : Int)), (3 : Int))
      else
        (x.2.1, (0 : Int)))
    else
      bif (((Sp.F90 x.2.1).1 == (1 : Int)) && (x.2.2.1 == (1 : Int))) then
        ((Sp.F115 (((Sp.F90 x.2.1).1, (Sp.F90 x.2.1).2.1, (max ((Sp.F90 x.2.1).2.2.1) (1 : Int)), (Sp.F90 x.2.1).2.2.2), (2 : Int))), (0 : Int))
      else
        bif (((Sp.F90 x.2.1).1 == (3 : Int)) && (x.2.2.1 == (2 : Int))) then
          (((0 : Int), (0 : Int), (0 : Int), false, (0 : Int)), (0 : Int))
        else
          bif ((((Sp.F90 x.2.1).1 == (3 : Int)) && (decide ((Sp.F90 x.2.1).2.2.1 > x.1.2.2.2.2.2.2.2.1))) && (Sp.F90 x.2.1).2.2.2.1) then
            (Sp.F116 ((Sp.F90 x.2.1), (5 : Int)))
          else
            bif (decide ((Sp.F90 x.2.1).2.2.1 > x.1.2.2.2.2.2.2.2.1)) then
              (Sp.F117 (Sp.F90 x.2.1))
            else
              bif ((Sp.F90 x.2.1).1 == (1 : Int)) then
                (Sp.F116 ((Sp.F90 x.2.1), (3 : Int)))
              else
                bif ((Sp.F90 x.2.1).1 == (2 : Int)) then
                  (bif ((decide ((IntKind.i64.wrap ((Sp.F90 x.2.1).2.1 + (1 : Int))) ≥ x.1.2.2.2.2.2.2.1)) && (!x.2.2.2.1)) then
                    ((Sp.F115 ((Sp.F90 x.2.1), (3 : Int))), (4 : Int))
                  else
                    (Sp.F116 ((Sp.F90 x.2.1), (0 : Int))))
                else
                  bif x.2.2.2.1 then
                    ((Sp.F115 (((Sp.F90 x.2.1).1, (Sp.F90 x.2.1).2.1, (Sp.F90 x.2.1).2.2.1, (Sp.F90 x.2.1).2.2.2.1, (Sp.F91 ((Sp.F90 x.2.1).2.2.2.2))), (1 : Int))), (3 : Int))
                  else
                    (Sp.F116 ((Sp.F90 x.2.1), (4 : Int)))
end Go.Proofs.YtpbljgpdhllklaaDoor.Sp
namespace Go.Proofs.YtpbljgpdhllklaaDoor.Sy
def ct105 : Ct := { p := (Ty.pair ty76 (Ty.pair ty62 (Ty.pair ty3 (Ty.pair ty4 ty4)))), psh := [some 9, some 5, none, none, none], r := (Ty.pair ty62 ty3), rsh := (Rsh.tup [some 5, none]), pre := none, fresh := none, F := Sp.F105 }
theorem va105 (x : (Ty.pair ty76 (Ty.pair ty62 (Ty.pair ty3 (Ty.pair ty4 ty4)))).den) : ((evFn (ctxP PmV0 none GmV1 []) Tryd.f105 (Ty.pair ty76 (Ty.pair ty62 (Ty.pair ty3 (Ty.pair ty4 ty4)))) [some 9, some 5, none, none, none] (Rsh.tup [some 5, none]) none (Ty.pair ty62 ty3) noL x)).val (fun y => y) (Ty.dflt (Ty.pair ty62 ty3)) = Sp.F105 x := by kernel_rfl
theorem se105 (x : (Ty.pair ty76 (Ty.pair ty62 (Ty.pair ty3 (Ty.pair ty4 ty4)))).den) : ((evFn (ctxP PmV0 none GmV1 []) Tryd.f105 (Ty.pair ty76 (Ty.pair ty62 (Ty.pair ty3 (Ty.pair ty4 ty4)))) [some 9, some 5, none, none, none] (Rsh.tup [some 5, none]) none (Ty.pair ty62 ty3) noL x)).safe = ((((!(Sp.F82 x.2.1)) = true → ((((0 : Int) == (0 : Int)) = true → ((x.2.2.2.2 = true → True) ∧ (x.2.2.2.2 = false → True))) ∧ (((0 : Int) == (0 : Int)) = false → (((((Sp.F90 ((0 : Int), (0 : Int), (0 : Int), false, (0 : Int))).1 == (1 : Int)) && (x.2.2.1 == (1 : Int))) = true → True) ∧ ((((Sp.F90 ((0 : Int), (0 : Int), (0 : Int), false, (0 : Int))).1 == (1 : Int)) && (x.2.2.1 == (1 : Int))) = false → (((((Sp.F90 ((0 : Int), (0 : Int), (0 : Int), false, (0 : Int))).1 == (3 : Int)) && (x.2.2.1 == (2 : Int))) = true → True) ∧ ((((Sp.F90 ((0 : Int), (0 : Int), (0 : Int), false, (0 : Int))).1 == (3 : Int)) && (x.2.2.1 == (2 : Int))) = false → ((((((Sp.F90 ((0 : Int), (0 : Int), (0 : Int), false, (0 : Int))).1 == (3 : Int)) && (decide ((Sp.F90 ((0 : Int), (0 : Int), (0 : Int), false, (0 : Int))).2.2.1 > x.1.2.2.2.2.2.2.2.1))) && (Sp.F90 ((0 : Int), (0 : Int), (0 : Int), false, (0 : Int))).2.2.2.1) = true → True) ∧ (((((Sp.F90 ((0 : Int), (0 : Int), (0 : Int), false, (0 : Int))).1 == (3 : Int)) && (decide ((Sp.F90 ((0 : Int), (0 : Int), (0 : Int), false, (0 : Int))).2.2.1 > x.1.2.2.2.2.2.2.2.1))) && (Sp.F90 ((0 : Int), (0 : Int), (0 : Int), false, (0 : Int))).2.2.2.1) = false → (((decide ((Sp.F90 ((0 : Int), (0 : Int), (0 : Int), false, (0 : Int))).2.2.1 > x.1.2.2.2.2.2.2.2.1)) = true → True) ∧ ((decide ((Sp.F90 ((0 : Int), (0 : Int), (0 : Int), false, (0 : Int))).2.2.1 > x.1.2.2.2.2.2.2.2.1)) = false → ((((Sp.F90 ((0 : Int), (0 : Int), (0 : Int), false, (0 : Int))).1 == (1 : Int)) = true → True) ∧ (((Sp.F90 ((0 : Int), (0 : Int), (0 : Int), false, (0 : Int))).1 == (1 : Int)) = false → ((((Sp.F90 ((0 : Int), (0 : Int), (0 : Int), false, (0 : Int))).1 == (2 : Int)) = true → ((((decide ((IntKind.i64.wrap ((Sp.F90 ((0 : Int), (0 : Int), (0 : Int), false, (0 : Int))).2.1 + (1 : Int))) ≥ x.1.2.2.2.2.2.2.1)) && (!x.2.2.2.1)) = true → True) ∧ (((decide ((IntKind.i64.wrap ((Sp.F90 ((0 : Int), (0 : Int), (0 : Int), false, (0 : Int))).2.1 + (1 : Int))) ≥ x.1.2.2.2.2.2.2.1)) && (!x.2.2.2.1)) = false → True))) ∧ (((Sp.F90 ((0 : Int), (0 : Int), (0 : Int), false, (0 : Int))).1 == (2 : Int)) = false → ((x.2.2.2.1 = true → True) ∧ (x.2.2.2.1 = false → True))))))))))))))))) ∧ ((!(Sp.F82 x.2.1)) = false → (((x.2.1.1 == (0 : Int)) = true → ((x.2.2.2.2 = true → True) ∧ (x.2.2.2.2 = false → True))) ∧ ((x.2.1.1 == (0 : Int)) = false → (((((Sp.F90 x.2.1).1 == (1 : Int)) && (x.2.2.1 == (1 : Int))) = true → True) ∧ ((((Sp.F90 x.2.1).1 == (1 : Int)) && (x.2.2.1 == (1 : Int))) = false → (((((Sp.F90 x.2.1).1 == (3 : Int)) && (x.2.2.1 == (2 : Int))) = true → True) ∧ ((((Sp.F90 x.2.1).1 == (3 : Int)) && (x.2.2.1 == (2 : Int))) = false → ((((((Sp.F90 x.2.1).1 == (3 : Int)) && (decide ((Sp.F90 x.2.1).2.2.1 > x.1.2.2.2.2.2.2.2.1))) && (Sp.F90 x.2.1).2.2.2.1) = true → True) ∧ (((((Sp.F90 x.2.1).1 == (3 : Int)) && (decide ((Sp.F90 x.2.1).2.2.1 > x.1.2.2.2.2.2.2.2.1))) && (Sp.F90 x.2.1).2.2.2.1) = false → (((decide ((Sp.F90 x.2.1).2.2.1 > x.1.2.2.2.2.2.2.2.1)) = true → True) ∧ ((decide ((Sp.F90 x.2.1).2.2.1 > x.1.2.2.2.2.2.2.2.1)) = false → ((((Sp.F90 x.2.1).1 == (1 : Int)) = true → True) ∧ (((Sp.F90 x.2.1).1 == (1 : Int)) = false → ((((Sp.F90 x.2.1).1 == (2 : Int)) = true → ((((decide ((IntKind.i64.wrap ((Sp.F90 x.2.1).2.1 + (1 : Int))) ≥ x.1.2.2.2.2.2.2.1)) && (!x.2.2.2.1)) = true → True) ∧ (((decide ((IntKind.i64.wrap ((Sp.F90 x.2.1).2.1 + (1 : Int))) ≥ x.1.2.2.2.2.2.2.1)) && (!x.2.2.2.1)) = false → True))) ∧ (((Sp.F90 x.2.1).1 == (2 : Int)) = false → ((x.2.2.2.1 = true → True) ∧ (x.2.2.2.1 = false → True))))))))))))))))))) := by kernel_rfl
theorem sa105 (x : (Ty.pair ty76 (Ty.pair ty62 (Ty.pair ty3 (Ty.pair ty4 ty4)))).den) (fx : Fit (Ty.pair ty76 (Ty.pair ty62 (Ty.pair ty3 (Ty.pair ty4 ty4)))) x) : SafeW ((evFn (ctxP PmV0 none GmV1 []) Tryd.f105 (Ty.pair ty76 (Ty.pair ty62 (Ty.pair ty3 (Ty.pair ty4 ty4)))) [some 9, some 5, none, none, none] (Rsh.tup [some 5, none]) none (Ty.pair ty62 ty3) noL x)) := by
  refine ⟨?_⟩
  rw [se105]
  try dsimp only [Ty.den] at *
  simp only [Fit, maxLen] at fx
  simp only [true_and, IntKind.wrap_i64, IntKind.wrap_u8, IntKind.wrap_u32, IntKind.wrap_u64, Sp.tmod_lit, Sp.tdiv_lit, bne_eq_false_iff_eq, Int.natCast_inj, setE, copyL, sliceL, zrow, List.length_append, List.length_cons, List.length_nil, List.length_set, List.length_replicate, List.length_take, List.length_drop, decide_eq_true_eq, decide_eq_false_iff_not, Bool.or_eq_true, Bool.and_eq_true, Bool.or_eq_false_iff, Bool.and_eq_false_iff, Bool.not_eq_true', Bool.not_eq_false', Bool.not_eq_true, Bool.not_eq_false, beq_iff_eq, beq_eq_false_iff_ne, bne_iff_ne, ne_eq, implies_true, and_true, true_and] at *
  all_goals ((repeat' (first | exact trivial | apply And.intro | intro _)) <;> first | trivial | omega | exact Sp.tmod_nn (by omega) | exact Sp.tmod_lt (by omega) (by omega))
theorem ok105 : CtOk Tryd.prog gdS 105 ct105 :=
  fn_okU (ctxOkP pgokPmV0 fvok_none gokGmV1 []) rfl Tryd.func105 (p := (Ty.pair ty76 (Ty.pair ty62 (Ty.pair ty3 (Ty.pair ty4 ty4))))) (psh := [some 9, some 5, none, none, none]) (r := (Ty.pair ty62 ty3)) (rsh := (Rsh.tup [some 5, none])) (pre := none) (fresh := none) (F := Sp.F105) (L := noL) (c := bodyOf Tryd.f105) (dflt := Ty.dflt (Ty.pair ty62 ty3)) rfl (no_loops)
    (safe_no @sa105) va105
/-! indicator.Shows -/
end Go.Proofs.YtpbljgpdhllklaaDoor.Sy
namespace Go.Proofs.YtpbljgpdhllklaaDoor.Sp
open Go Go.RowKit Sy
def F24 (x : Int × Int × Int × Int) : Int × Int :=
  bif (((!(Sp.F51 x)) || (x.2.2.2 != (1 : Int))) || (decide (x.2.1 < (0 : Int)))) then
    ((0 : Int), (0 : Int))
  else
    bif ((x.2.2.1 == (1 : Int)) && (decide (x.2.1 < (IntKind.i64.wrap (x.1 - (1 : Int)))))) then
      ((IntKind.u32.wrap ((1 : Int) * 2 ^ (min (x.2.1).toNat IntKind.u32.bits))), (0 : Int))
    else
      bif ((x.2.2.1 == (2 : Int)) && (decide (x.2.1 > (0 : Int)))) then
        ((0 : Int), (IntKind.u32.wrap ((1 : Int) * 2 ^ (min (x.2.1).toNat IntKind.u32.bits))))
      else
        ((0 : Int), (0 : Int))
end Go.Proofs.YtpbljgpdhllklaaDoor.Sp
namespace Go.Proofs.YtpbljgpdhllklaaDoor.Sy
def ct24 : Ct := { p := (Ty.pair ty3 ty49), psh := [none, some 3], r := ty26, rsh := (Rsh.one (some 2)), pre := none, fresh := none, F := Sp.F24 }
theorem va24 (x : (Ty.pair ty3 ty49).den) : ((evFn (ctxP PmV0 none GmV1 []) Tryd.f24 (Ty.pair ty3 ty49) [none, some 3] (Rsh.one (some 2)) none ty26 noL x)).val (fun y => y) (Ty.dflt ty26) = Sp.F24 x := by kernel_rfl
theorem se24 (x : (Ty.pair ty3 ty49).den) : ((evFn (ctxP PmV0 none GmV1 []) Tryd.f24 (Ty.pair ty3 ty49) [none, some 3] (Rsh.one (some 2)) none ty26 noL x)).safe = ((((((!(Sp.F51 x)) || (x.2.2.2 != (1 : Int))) || (decide (x.2.1 < (0 : Int)))) = true → True) ∧ ((((!(Sp.F51 x)) || (x.2.2.2 != (1 : Int))) || (decide (x.2.1 < (0 : Int)))) = false → ((((x.2.2.1 == (1 : Int)) && (decide (x.2.1 < (IntKind.i64.wrap (x.1 - (1 : Int)))))) = true → ((0 ≤ x.2.1) ∧ True)) ∧ (((x.2.2.1 == (1 : Int)) && (decide (x.2.1 < (IntKind.i64.wrap (x.1 - (1 : Int)))))) = false → ((((x.2.2.1 == (2 : Int)) && (decide (x.2.1 > (0 : Int)))) = true → ((0 ≤ x.2.1) ∧ True)) ∧ (((x.2.2.1 == (2 : Int)) && (decide (x.2.1 > (0 : Int)))) = false → True))))))) := by kernel_rfl
theorem sa24 (x : (Ty.pair ty3 ty49).den) (fx : Fit (Ty.pair ty3 ty49) x) : SafeW ((evFn (ctxP PmV0 none GmV1 []) Tryd.f24 (Ty.pair ty3 ty49) [none, some 3] (Rsh.one (some 2)) none ty26 noL x)) := by
  refine ⟨?_⟩
  rw [se24]
  try dsimp only [Ty.den] at *
  simp only [Fit, maxLen] at fx
  simp only [true_and, IntKind.wrap_i64, IntKind.wrap_u8, IntKind.wrap_u32, IntKind.wrap_u64, Sp.tmod_lit, Sp.tdiv_lit, bne_eq_false_iff_eq, Int.natCast_inj, setE, copyL, sliceL, zrow, List.length_append, List.length_cons, List.length_nil, List.length_set, List.length_replicate, List.length_take, List.length_drop, decide_eq_true_eq, decide_eq_false_iff_not, Bool.or_eq_true, Bool.and_eq_true, Bool.or_eq_false_iff, Bool.and_eq_false_iff, Bool.not_eq_true', Bool.not_eq_false', Bool.not_eq_true, Bool.not_eq_false, beq_iff_eq, beq_eq_false_iff_ne, bne_iff_ne, ne_eq, implies_true, and_true, true_and] at *
  all_goals ((repeat' (first | exact trivial | apply And.intro | intro _)) <;> first | trivial | omega | exact Sp.tmod_nn (by omega) | exact Sp.tmod_lt (by omega) (by omega))
theorem ok24 : CtOk Tryd.prog gdS 24 ct24 :=
  fn_okU (ctxOkP pgokPmV0 fvok_none gokGmV1 []) rfl Tryd.func24 (p := (Ty.pair ty3 ty49)) (psh := [none, some 3]) (r := ty26) (rsh := (Rsh.one (some 2))) (pre := none) (fresh := none) (F := Sp.F24) (L := noL) (c := bodyOf Tryd.f24) (dflt := Ty.dflt ty26) rfl (no_loops)
    (safe_no @sa24) va24
/-! overlayplay.Step -/
end Go.Proofs.YtpbljgpdhllklaaDoor.Sy
namespace Go.Proofs.YtpbljgpdhllklaaDoor.Sp
open Go Go.RowKit Sy
def F56 (x : Int × (Int × Int × Int × Int × Int × Int) × Int × Int) : Int × Int × Int × Int × Int × Int :=
  bif (!(Sp.F79 (x.1, x.2.1))) then
    (Sp.F53 (0 : Int))
  else
    bif (decide (x.2.1.2.2.1 > (0 : Int))) then
      (Sp.F80 (x.2.1.1, x.2.1.2.1, (IntKind.i64.wrap (x.2.1.2.2.1 - (1 : Int))), x.2.1.2.2.2))
    else
      bif (x.2.2.1 == (1 : Int)) then
        (bif (x.2.2.1 == (2 : Int)) then
          (bif (((x.2.1.2.2.2.1 == (2 : Int)) && ((IntKind.i64.wrap ((IntKind.i64.wrap (x.2.1.1 + (1 : Int))) - (1 : Int))) != x.2.1.1)) && (Sp.F81 ((IntKind.i64.wrap ((IntKind.i64.wrap (x.2.1.1 + (1 : Int))) - (1 : Int))), (0 : Int), (IntKind.i64.wrap (x.1 - (1 : Int)))))) then
            (Sp.F80 (x.2.1.1, (IntKind.i64.wrap ((IntKind.i64.wrap (x.2.1.1 + (1 : Int))) - (1 : Int))), (IntKind.i64.wrap ((max (1 : Int) (min x.2.2.2 (10000 : Int))) - (1 : Int))), x.2.1.2.2.2))
          else
            bif (x.2.2.1 == (3 : Int)) then
              (bif ((x.2.2.1 == (4 : Int)) || (x.2.2.1 == (5 : Int))) then
                (bif (((2 : Int) == (0 : Int)) || ((2 : Int) == x.2.1.2.2.2.1)) then
                  x.2.1
                else
                  bif ((x.2.1.2.2.2.1 == (0 : Int)) && ((2 : Int) == x.2.1.2.2.2.2.1)) then
                    (bif ((IntKind.i64.wrap (x.2.1.2.2.2.2.2 - (1 : Int))) == (0 : Int)) then
                      (x.2.1.1, x.2.1.2.1, x.2.1.2.2.1, (2 : Int), (0 : Int), (IntKind.i64.wrap (x.2.1.2.2.2.2.2 - (1 : Int))))
                    else
                      (x.2.1.1, x.2.1.2.1, x.2.1.2.2.1, x.2.1.2.2.2.1, x.2.1.2.2.2.2.1, (IntKind.i64.wrap (x.2.1.2.2.2.2.2 - (1 : Int)))))
                  else
                    bif ((IntKind.i64.wrap ((max (1 : Int) (min x.2.2.2 (10000 : Int))) - (1 : Int))) == (0 : Int)) then
                      (x.2.1.1, x.2.1.2.1, x.2.1.2.2.1, (2 : Int), (0 : Int), (IntKind.i64.wrap ((max (1 : Int) (min x.2.2.2 (10000 : Int))) - (1 : Int))))
                    else
                      (x.2.1.1, x.2.1.2.1, x.2.1.2.2.1, (0 : Int), (2 : Int), (IntKind.i64.wrap ((max (1 : Int) (min x.2.2.2 (10000 : Int))) - (1 : Int)))))
              else
                bif (((1 : Int) == (0 : Int)) || ((1 : Int) == x.2.1.2.2.2.1)) then
                  x.2.1
                else
                  bif ((x.2.1.2.2.2.1 == (0 : Int)) && ((1 : Int) == x.2.1.2.2.2.2.1)) then
                    (bif ((IntKind.i64.wrap (x.2.1.2.2.2.2.2 - (1 : Int))) == (0 : Int)) then
                      (x.2.1.1, x.2.1.2.1, x.2.1.2.2.1, (1 : Int), (0 : Int), (IntKind.i64.wrap (x.2.1.2.2.2.2.2 - (1 : Int))))
                    else
                      (x.2.1.1, x.2.1.2.1, x.2.1.2.2.1, x.2.1.2.2.2.1, x.2.1.2.2.2.2.1, (IntKind.i64.wrap (x.2.1.2.2.2.2.2 - (1 : Int)))))
                  else
                    bif ((IntKind.i64.wrap ((max (1 : Int) (min x.2.2.2 (10000 : Int))) - (1 : Int))) == (0 : Int)) then
                      (x.2.1.1, x.2.1.2.1, x.2.1.2.2.1, (1 : Int), (0 : Int), (IntKind.i64.wrap ((max (1 : Int) (min x.2.2.2 (10000 : Int))) - (1 : Int))))
                    else
                      (x.2.1.1, x.2.1.2.1, x.2.1.2.2.1, (0 : Int), (1 : Int), (IntKind.i64.wrap ((max (1 : Int) (min x.2.2.2 (10000 : Int))) - (1 : Int)))))
            else
              bif ((x.2.2.1 == (4 : Int)) || (x.2.2.1 == (5 : Int))) then
                (bif (((2 : Int) == (0 : Int)) || ((2 : Int) == x.2.1.2.2.2.1)) then
                  x.2.1
                else
                  bif ((x.2.1.2.2.2.1 == (0 : Int)) && ((2 : Int) == x.2.1.2.2.2.2.1)) then
                    (bif ((IntKind.i64.wrap (x.2.1.2.2.2.2.2 - (1 : Int))) == (0 : Int)) then
                      (x.2.1.1, x.2.1.2.1, x.2.1.2.2.1, (2 : Int), (0 : Int), (IntKind.i64.wrap (x.2.1.2.2.2.2.2 - (1 : Int))))
                    else
                      (x.2.1.1, x.2.1.2.1, x.2.1.2.2.1, x.2.1.2.2.2.1, x.2.1.2.2.2.2.1, (IntKind.i64.wrap (x.2.1.2.2.2.2.2 - (1 : Int)))))
                  else
                    bif ((IntKind.i64.wrap ((max (1 : Int) (min x.2.2.2 (10000 : Int))) - (1 : Int))) == (0 : Int)) then
                      (x.2.1.1, x.2.1.2.1, x.2.1.2.2.1, (2 : Int), (0 : Int), (IntKind.i64.wrap ((max (1 : Int) (min x.2.2.2 (10000 : Int))) - (1 : Int))))
                    else
                      (x.2.1.1, x.2.1.2.1, x.2.1.2.2.1, (0 : Int), (2 : Int), (IntKind.i64.wrap ((max (1 : Int) (min x.2.2.2 (10000 : Int))) - (1 : Int)))))
              else
                bif ((x.2.1.2.2.2.2.1 == (0 : Int)) || (x.2.1.2.2.2.2.1 == x.2.1.2.2.2.1)) then
                  x.2.1
                else
                  bif ((x.2.1.2.2.2.1 == (0 : Int)) && (x.2.1.2.2.2.2.1 == x.2.1.2.2.2.2.1)) then
                    (bif ((IntKind.i64.wrap (x.2.1.2.2.2.2.2 - (1 : Int))) == (0 : Int)) then
                      (x.2.1.1, x.2.1.2.1, x.2.1.2.2.1, x.2.1.2.2.2.2.1, (0 : Int), (IntKind.i64.wrap (x.2.1.2.2.2.2.2 - (1 : Int))))
                    else
                      (x.2.1.1, x.2.1.2.1, x.2.1.2.2.1, x.2.1.2.2.2.1, x.2.1.2.2.2.2.1, (IntKind.i64.wrap (x.2.1.2.2.2.2.2 - (1 : Int)))))
                  else
                    bif ((IntKind.i64.wrap ((max (1 : Int) (min x.2.2.2 (10000 : Int))) - (1 : Int))) == (0 : Int)) then
                      (x.2.1.1, x.2.1.2.1, x.2.1.2.2.1, x.2.1.2.2.2.2.1, (0 : Int), (IntKind.i64.wrap ((max (1 : Int) (min x.2.2.2 (10000 : Int))) - (1 : Int))))
                    else
                      (x.2.1.1, x.2.1.2.1, x.2.1.2.2.1, (0 : Int), x.2.1.2.2.2.2.1, (IntKind.i64.wrap ((max (1 : Int) (min x.2.2.2 (10000 : Int))) - (1 : Int)))))
        else
          bif (((x.2.1.2.2.2.1 == (2 : Int)) && ((IntKind.i64.wrap (x.2.1.1 + (1 : Int))) != x.2.1.1)) && (Sp.F81 ((IntKind.i64.wrap (x.2.1.1 + (1 : Int))), (0 : Int), (IntKind.i64.wrap (x.1 - (1 : Int)))))) then
            (Sp.F80 (x.2.1.1, (IntKind.i64.wrap (x.2.1.1 + (1 : Int))), (IntKind.i64.wrap ((max (1 : Int) (min x.2.2.2 (10000 : Int))) - (1 : Int))), x.2.1.2.2.2))
          else
            bif (x.2.2.1 == (3 : Int)) then
              (bif ((x.2.2.1 == (4 : Int)) || (x.2.2.1 == (5 : Int))) then
                (bif (((2 : Int) == (0 : Int)) || ((2 : Int) == x.2.1.2.2.2.1)) then
                  x.2.1
                else
                  bif ((x.2.1.2.2.2.1 == (0 : Int)) && ((2 : Int) == x.2.1.2.2.2.2.1)) then
                    (bif ((IntKind.i64.wrap (x.2.1.2.2.2.2.2 - (1 : Int))) == (0 : Int)) then
                      (x.2.1.1, x.2.1.2.1, x.2.1.2.2.1, (2 : Int), (0 : Int), (IntKind.i64.wrap (x.2.1.2.2.2.2.2 - (1 : Int))))
                    else
                      (x.2.1.1, x.2.1.2.1, x.2.1.2.2.1, x.2.1.2.2.2.1, x.2.1.2.2.2.2.1, (IntKind.i64.wrap (x.2.1.2.2.2.2.2 - (1 : Int)))))
                  else
                    bif ((IntKind.i64.wrap ((max (1 : Int) (min x.2.2.2 (10000 : Int))) - (1 : Int))) == (0 : Int)) then
                      (x.2.1.1, x.2.1.2.1, x.2.1.2.2.1, (2 : Int), (0 : Int), (IntKind.i64.wrap ((max (1 : Int) (min x.2.2.2 (10000 : Int))) - (1 : Int))))
                    else
                      (x.2.1.1, x.2.1.2.1, x.2.1.2.2.1, (0 : Int), (2 : Int), (IntKind.i64.wrap ((max (1 : Int) (min x.2.2.2 (10000 : Int))) - (1 : Int)))))
              else
                bif (((1 : Int) == (0 : Int)) || ((1 : Int) == x.2.1.2.2.2.1)) then
                  x.2.1
                else
                  bif ((x.2.1.2.2.2.1 == (0 : Int)) && ((1 : Int) == x.2.1.2.2.2.2.1)) then
                    (bif ((IntKind.i64.wrap (x.2.1.2.2.2.2.2 - (1 : Int))) == (0 : Int)) then
                      (x.2.1.1, x.2.1.2.1, x.2.1.2.2.1, (1 : Int), (0 : Int), (IntKind.i64.wrap (x.2.1.2.2.2.2.2 - (1 : Int))))
                    else
                      (x.2.1.1, x.2.1.2.1, x.2.1.2.2.1, x.2.1.2.2.2.1, x.2.1.2.2.2.2.1, (IntKind.i64.wrap (x.2.1.2.2.2.2.2 - (1 : Int)))))
                  else
                    bif ((IntKind.i64.wrap ((max (1 : Int) (min x.2.2.2 (10000 : Int))) - (1 : Int))) == (0 : Int)) then
                      (x.2.1.1, x.2.1.2.1, x.2.1.2.2.1, (1 : Int), (0 : Int), (IntKind.i64.wrap ((max (1 : Int) (min x.2.2.2 (10000 : Int))) - (1 : Int))))
                    else
                      (x.2.1.1, x.2.1.2.1, x.2.1.2.2.1, (0 : Int), (1 : Int), (IntKind.i64.wrap ((max (1 : Int) (min x.2.2.2 (10000 : Int))) - (1 : Int)))))
            else
              bif ((x.2.2.1 == (4 : Int)) || (x.2.2.1 == (5 : Int))) then
                (bif (((2 : Int) == (0 : Int)) || ((2 : Int) == x.2.1.2.2.2.1)) then
                  x.2.1
                else
                  bif ((x.2.1.2.2.2.1 == (0 : Int)) && ((2 : Int) == x.2.1.2.2.2.2.1)) then
                    (bif ((IntKind.i64.wrap (x.2.1.2.2.2.2.2 - (1 : Int))) == (0 : Int)) then
                      (x.2.1.1, x.2.1.2.1, x.2.1.2.2.1, (2 : Int), (0 : Int), (IntKind.i64.wrap (x.2.1.2.2.2.2.2 - (1 : Int))))
                    else
                      (x.2.1.1, x.2.1.2.1, x.2.1.2.2.1, x.2.1.2.2.2.1, x.2.1.2.2.2.2.1, (IntKind.i64.wrap (x.2.1.2.2.2.2.2 - (1 : Int)))))
                  else
                    bif ((IntKind.i64.wrap ((max (1 : Int) (min x.2.2.2 (10000 : Int))) - (1 : Int))) == (0 : Int)) then
                      (x.2.1.1, x.2.1.2.1, x.2.1.2.2.1, (2 : Int), (0 : Int), (IntKind.i64.wrap ((max (1 : Int) (min x.2.2.2 (10000 : Int))) - (1 : Int))))
                    else
                      (x.2.1.1, x.2.1.2.1, x.2.1.2.2.1, (0 : Int), (2 : Int), (IntKind.i64.wrap ((max (1 : Int) (min x.2.2.2 (10000 : Int))) - (1 : Int)))))
              else
                bif ((x.2.1.2.2.2.2.1 == (0 : Int)) || (x.2.1.2.2.2.2.1 == x.2.1.2.2.2.1)) then
                  x.2.1
                else
                  bif ((x.2.1.2.2.2.1 == (0 : Int)) && (x.2.1.2.2.2.2.1 == x.2.1.2.2.2.2.1)) then
                    (bif ((IntKind.i64.wrap (x.2.1.2.2.2.2.2 - (1 : Int))) == (0 : Int)) then
                      (x.2.1.1, x.2.1.2.1, x.2.1.2.2.1, x.2.1.2.2.2.2.1, (0 : Int), (IntKind.i64.wrap (x.2.1.2.2.2.2.2 - (1 : Int))))
                    else
                      (x.2.1.1, x.2.1.2.1, x.2.1.2.2.1, x.2.1.2.2.2.1, x.2.1.2.2.2.2.1, (IntKind.i64.wrap (x.2.1.2.2.2.2.2 - (1 : Int)))))
                  else
                    bif ((IntKind.i64.wrap ((max (1 : Int) (min x.2.2.2 (10000 : Int))) - (1 : Int))) == (0 : Int)) then
                      (x.2.1.1, x.2.1.2.1, x.2.1.2.2.1, x.2.1.2.2.2.2.1, (0 : Int), (IntKind.i64.wrap ((max (1 : Int) (min x.2.2.2 (10000 : Int))) - (1 : Int))))
                    else
                      (x.2.1.1, x.2.1.2.1, x.2.1.2.2.1, (0 : Int), x.2.1.2.2.2.2.1, (IntKind.i64.wrap ((max (1 : Int) (min x.2.2.2 (10000 : Int))) - (1 : Int)))))
      else
        bif (x.2.2.1 == (2 : Int)) then
          (bif (((x.2.1.2.2.2.1 == (2 : Int)) && ((IntKind.i64.wrap (x.2.1.1 - (1 : Int))) != x.2.1.1)) && (Sp.F81 ((IntKind.i64.wrap (x.2.1.1 - (1 : Int))), (0 : Int), (IntKind.i64.wrap (x.1 - (1 : Int)))))) then
            (Sp.F80 (x.2.1.1, (IntKind.i64.wrap (x.2.1.1 - (1 : Int))), (IntKind.i64.wrap ((max (1 : Int) (min x.2.2.2 (10000 : Int))) - (1 : Int))), x.2.1.2.2.2))
          else
            bif (x.2.2.1 == (3 : Int)) then
              (bif ((x.2.2.1 == (4 : Int)) || (x.2.2.1 == (5 : Int))) then
                (bif (((2 : Int) == (0 : Int)) || ((2 : Int) == x.2.1.2.2.2.1)) then
                  x.2.1
                else
                  bif ((x.2.1.2.2.2.1 == (0 : Int)) && ((2 : Int) == x.2.1.2.2.2.2.1)) then
                    (bif ((IntKind.i64.wrap (x.2.1.2.2.2.2.2 - (1 : Int))) == (0 : Int)) then
                      (x.2.1.1, x.2.1.2.1, x.2.1.2.2.1, (2 : Int), (0 : Int), (IntKind.i64.wrap (x.2.1.2.2.2.2.2 - (1 : Int))))
                    else
                      (x.2.1.1, x.2.1.2.1, x.2.1.2.2.1, x.2.1.2.2.2.1, x.2.1.2.2.2.2.1, (IntKind.i64.wrap (x.2.1.2.2.2.2.2 - (1 : Int)))))
                  else
                    bif ((IntKind.i64.wrap ((max (1 : Int) (min x.2.2.2 (10000 : Int))) - (1 : Int))) == (0 : Int)) then
                      (x.2.1.1, x.2.1.2.1, x.2.1.2.2.1, (2 : Int), (0 : Int), (IntKind.i64.wrap ((max (1 : Int) (min x.2.2.2 (10000 : Int))) - (1 : Int))))
                    else
                      (x.2.1.1, x.2.1.2.1, x.2.1.2.2.1, (0 : Int), (2 : Int), (IntKind.i64.wrap ((max (1 : Int) (min x.2.2.2 (10000 : Int))) - (1 : Int)))))
              else
                bif (((1 : Int) == (0 : Int)) || ((1 : Int) == x.2.1.2.2.2.1)) then
                  x.2.1
                else
                  bif ((x.2.1.2.2.2.1 == (0 : Int)) && ((1 : Int) == x.2.1.2.2.2.2.1)) then
                    (bif ((IntKind.i64.wrap (x.2.1.2.2.2.2.2 - (1 : Int))) == (0 : Int)) then
                      (x.2.1.1, x.2.1.2.1, x.2.1.2.2.1, (1 : Int), (0 : Int), (IntKind.i64.wrap (x.2.1.2.2.2.2.2 - (1 : Int))))
                    else
                      (x.2.1.1, x.2.1.2.1, x.2.1.2.2.1, x.2.1.2.2.2.1, x.2.1.2.2.2.2.1, (IntKind.i64.wrap (x.2.1.2.2.2.2.2 - (1 : Int)))))
                  else
                    bif ((IntKind.i64.wrap ((max (1 : Int) (min x.2.2.2 (10000 : Int))) - (1 : Int))) == (0 : Int)) then
                      (x.2.1.1, x.2.1.2.1, x.2.1.2.2.1, (1 : Int), (0 : Int), (IntKind.i64.wrap ((max (1 : Int) (min x.2.2.2 (10000 : Int))) - (1 : Int))))
                    else
                      (x.2.1.1, x.2.1.2.1, x.2.1.2.2.1, (0 : Int), (1 : Int), (IntKind.i64.wrap ((max (1 : Int) (min x.2.2.2 (10000 : Int))) - (1 : Int)))))
            else
              bif ((x.2.2.1 == (4 : Int)) || (x.2.2.1 == (5 : Int))) then
                (bif (((2 : Int) == (0 : Int)) || ((2 : Int) == x.2.1.2.2.2.1)) then
                  x.2.1
                else
                  bif ((x.2.1.2.2.2.1 == (0 : Int)) && ((2 : Int) == x.2.1.2.2.2.2.1)) then
                    (bif ((IntKind.i64.wrap (x.2.1.2.2.2.2.2 - (1 : Int))) == (0 : Int)) then
                      (x.2.1.1, x.2.1.2.1, x.2.1.2.2.1, (2 : Int), (0 : Int), (IntKind.i64.wrap (x.2.1.2.2.2.2.2 - (1 : Int))))
                    else
                      (x.2.1.1, x.2.1.2.1, x.2.1.2.2.1, x.2.1.2.2.2.1, x.2.1.2.2.2.2.1, (IntKind.i64.wrap (x.2.1.2.2.2.2.2 - (1 : Int)))))
                  else
                    bif ((IntKind.i64.wrap ((max (1 : Int) (min x.2.2.2 (10000 : Int))) - (1 : Int))) == (0 : Int)) then
                      (x.2.1.1, x.2.1.2.1, x.2.1.2.2.1, (2 : Int), (0 : Int), (IntKind.i64.wrap ((max (1 : Int) (min x.2.2.2 (10000 : Int))) - (1 : Int))))
                    else
                      (x.2.1.1, x.2.1.2.1, x.2.1.2.2.1, (0 : Int), (2 : Int), (IntKind.i64.wrap ((max (1 : Int) (min x.2.2.2 (10000 : Int))) - (1 : Int)))))
              else
                bif ((x.2.1.2.2.2.2.1 == (0 : Int)) || (x.2.1.2.2.2.2.1 == x.2.1.2.2.2.1)) then
                  x.2.1
                else
                  bif ((x.2.1.2.2.2.1 == (0 : Int)) && (x.2.1.2.2.2.2.1 == x.2.1.2.2.2.2.1)) then
                    (bif ((IntKind.i64.wrap (x.2.1.2.2.2.2.2 - (1 : Int))) == (0 : Int)) then
                      (x.2.1.1, x.2.1.2.1, x.2.1.2.2.1, x.2.1.2.2.2.2.1, (0 : Int), (IntKind.i64.wrap (x.2.1.2.2.2.2.2 - (1 : Int))))
                    else
                      (x.2.1.1, x.2.1.2.1, x.2.1.2.2.1, x.2.1.2.2.2.1, x.2.1.2.2.2.2.1, (IntKind.i64.wrap (x.2.1.2.2.2.2.2 - (1 : Int)))))
                  else
                    bif ((IntKind.i64.wrap ((max (1 : Int) (min x.2.2.2 (10000 : Int))) - (1 : Int))) == (0 : Int)) then
                      (x.2.1.1, x.2.1.2.1, x.2.1.2.2.1, x.2.1.2.2.2.2.1, (0 : Int), (IntKind.i64.wrap ((max (1 : Int) (min x.2.2.2 (10000 : Int))) - (1 : Int))))
                    else
                      (x.2.1.1, x.2.1.2.1, x.2.1.2.2.1, (0 : Int), x.2.1.2.2.2.2.1, (IntKind.i64.wrap ((max (1 : Int) (min x.2.2.2 (10000 : Int))) - (1 : Int)))))
        else
          bif (((x.2.1.2.2.2.1 == (2 : Int)) && (x.2.1.1 != x.2.1.1)) && (Sp.F81 (x.2.1.1, (0 : Int), (IntKind.i64.wrap (x.1 - (1 : Int)))))) then
            (Sp.F80 (x.2.1.1, x.2.1.1, (IntKind.i64.wrap ((max (1 : Int) (min x.2.2.2 (10000 : Int))) - (1 : Int))), x.2.1.2.2.2))
          else
            bif (x.2.2.1 == (3 : Int)) then
              (bif ((x.2.2.1 == (4 : Int)) || (x.2.2.1 == (5 : Int))) then
                (bif (((2 : Int) == (0 : Int)) || ((2 : Int) == x.2.1.2.2.2.1)) then
                  x.2.1
                else
                  bif ((x.2.1.2.2.2.1 == (0 : Int)) && ((2 : Int) == x.2.1.2.2.2.2.1)) then
                    (bif ((IntKind.i64.wrap (x.2.1.2.2.2.2.2 - (1 : Int))) == (0 : Int)) then
                      (x.2.1.1, x.2.1.2.1, x.2.1.2.2.1, (2 : Int), (0 : Int), (IntKind.i64.wrap (x.2.1.2.2.2.2.2 - (1 : Int))))
                    else
                      (x.2.1.1, x.2.1.2.1, x.2.1.2.2.1, x.2.1.2.2.2.1, x.2.1.2.2.2.2.1, (IntKind.i64.wrap (x.2.1.2.2.2.2.2 - (1 : Int)))))
                  else
                    bif ((IntKind.i64.wrap ((max (1 : Int) (min x.2.2.2 (10000 : Int))) - (1 : Int))) == (0 : Int)) then
                      (x.2.1.1, x.2.1.2.1, x.2.1.2.2.1, (2 : Int), (0 : Int), (IntKind.i64.wrap ((max (1 : Int) (min x.2.2.2 (10000 : Int))) - (1 : Int))))
                    else
                      (x.2.1.1, x.2.1.2.1, x.2.1.2.2.1, (0 : Int), (2 : Int), (IntKind.i64.wrap ((max (1 : Int) (min x.2.2.2 (10000 : Int))) - (1 : Int)))))
              else
                bif (((1 : Int) == (0 : Int)) || ((1 : Int) == x.2.1.2.2.2.1)) then
                  x.2.1
                else
                  bif ((x.2.1.2.2.2.1 == (0 : Int)) && ((1 : Int) == x.2.1.2.2.2.2.1)) then
                    (bif ((IntKind.i64.wrap (x.2.1.2.2.2.2.2 - (1 : Int))) == (0 : Int)) then
                      (x.2.1.1, x.2.1.2.1, x.2.1.2.2.1, (1 : Int), (0 : Int), (IntKind.i64.wrap (x.2.1.2.2.2.2.2 - (1 : Int))))
                    else
                      (x.2.1.1, x.2.1.2.1, x.2.1.2.2.1, x.2.1.2.2.2.1, x.2.1.2.2.2.2.1, (IntKind.i64.wrap (x.2.1.2.2.2.2.2 - (1 : Int)))))
                  else
                    bif ((IntKind.i64.wrap ((max (1 : Int) (min x.2.2.2 (10000 : Int))) - (1 : Int))) == (0 : Int)) then
                      (x.2.1.1, x.2.1.2.1, x.2.1.2.2.1, (1 : Int), (0 : Int), (IntKind.i64.wrap ((max (1 : Int) (min x.2.2.2 (10000 : Int))) - (1 : Int))))
                    else
                      (x.2.1.1, x.2.1.2.1, x.2.1.2.2.1, (0 : Int), (1 : Int), (IntKind.i64.wrap ((max (1 : Int) (min x.2.2.2 (10000 : Int))) - (1 : Int)))))
            else
              bif ((x.2.2.1 == (4 : Int)) || (x.2.2.1 == (5 : Int))) then
                (bif (((2 : Int) == (0 : Int)) || ((2 : Int) == x.2.1.2.2.2.1)) then
                  x.2.1
                else
                  bif ((x.2.1.2.2.2.1 == (0 : Int)) && ((2 : Int) == x.2.1.2.2.2.2.1)) then
                    (bif ((IntKind.i64.wrap (x.2.1.2.2.2.2.2 - (1 : Int))) == (0 : Int)) then
                      (x.2.1.1, x.2.1.2.1, x.2.1.2.2.1, (2 : Int), (0 : Int), (IntKind.i64.wrap (x.2.1.2.2.2.2.2 - (1 : Int))))
                    else
                      (x.2.1.1, x.2.1.2.1, x.2.1.2.2.1, x.2.1.2.2.2.1, x.2.1.2.2.2.2.1, (IntKind.i64.wrap (x.2.1.2.2.2.2.2 - (1 : Int)))))
                  else
                    bif ((IntKind.i64.wrap ((max (1 : Int) (min x.2.2.2 (10000 : Int))) - (1 : Int))) == (0 : Int)) then
                      (x.2.1.1, x.2.1.2.1, x.2.1.2.2.1, (2 : Int), (0 : Int), (IntKind.i64.wrap ((max (1 : Int) (min x.2.2.2 (10000 : Int))) - (1 : Int))))
                    else
                      (x.2.1.1, x.2.1.2.1, x.2.1.2.2.1, (0 : Int), (2 : Int), (IntKind.i64.wrap ((max (1 : Int) (min x.2.2.2 (10000 : Int))) - (1 : Int)))))
              else
                bif ((x.2.1.2.2.2.2.1 == (0 : Int)) || (x.2.1.2.2.2.2.1 == x.2.1.2.2.2.1)) then
                  x.2.1
                else
                  bif ((x.2.1.2.2.2.1 == (0 : Int)) && (x.2.1.2.2.2.2.1 == x.2.1.2.2.2.2.1)) then
                    (bif ((IntKind.i64.wrap (x.2.1.2.2.2.2.2 - (1 : Int))) == (0 : Int)) then
                      (x.2.1.1, x.2.1.2.1, x.2.1.2.2.1, x.2.1.2.2.2.2.1, (0 : Int), (IntKind.i64.wrap (x.2.1.2.2.2.2.2 - (1 : Int))))
                    else
                      (x.2.1.1, x.2.1.2.1, x.2.1.2.2.1, x.2.1.2.2.2.1, x.2.1.2.2.2.2.1, (IntKind.i64.wrap (x.2.1.2.2.2.2.2 - (1 : Int)))))
                  else
                    bif ((IntKind.i64.wrap ((max (1 : Int) (min x.2.2.2 (10000 : Int))) - (1 : Int))) == (0 : Int)) then
                      (x.2.1.1, x.2.1.2.1, x.2.1.2.2.1, x.2.1.2.2.2.2.1, (0 : Int), (IntKind.i64.wrap ((max (1 : Int) (min x.2.2.2 (10000 : Int))) - (1 : Int))))
                    else
                      (x.2.1.1, x.2.1.2.1, x.2.1.2.2.1, (0 : Int), x.2.1.2.2.2.2.1, (IntKind.i64.wrap ((max (1 : Int) (min x.2.2.2 (10000 : Int))) - (1 : Int))))
end Go.Proofs.YtpbljgpdhllklaaDoor.Sp
namespace Go.Proofs.YtpbljgpdhllklaaDoor.Sy
def ct56 : Ct := { p := (Ty.pair ty3 (Ty.pair ty96 (Ty.pair ty3 ty3))), psh := [none, some 6, none, none], r := ty96, rsh := (Rsh.one (some 6)), pre := none, fresh := none, F := Sp.F56 }
theorem va56 (x : (Ty.pair ty3 (Ty.pair ty96 (Ty.pair ty3 ty3))).den) : ((evFn (ctxP PmV0 none GmV1 []) Tryd.f56 (Ty.pair ty3 (Ty.pair ty96 (Ty.pair ty3 ty3))) [none, some 6, none, none] (Rsh.one (some 6)) none ty96 noL x)).val (fun y => y) (Ty.dflt ty96) = Sp.F56 x := by kernel_rfl
theorem se56 (x : (Ty.pair ty3 (Ty.pair ty96 (Ty.pair ty3 ty3))).den) : ((evFn (ctxP PmV0 none GmV1 []) Tryd.f56 (Ty.pair ty3 (Ty.pair ty96 (Ty.pair ty3 ty3))) [none, some 6, none, none] (Rsh.one (some 6)) none ty96 noL x)).safe = ((((!(Sp.F79 (x.1, x.2.1))) = true → True) ∧ ((!(Sp.F79 (x.1, x.2.1))) = false → (((decide (x.2.1.2.2.1 > (0 : Int))) = true → True) ∧ ((decide (x.2.1.2.2.1 > (0 : Int))) = false → (((x.2.2.1 == (1 : Int)) = true → (((x.2.2.1 == (2 : Int)) = true → (((((x.2.1.2.2.2.1 == (2 : Int)) && ((IntKind.i64.wrap ((IntKind.i64.wrap (x.2.1.1 + (1 : Int))) - (1 : Int))) != x.2.1.1)) && (Sp.F81 ((IntKind.i64.wrap ((IntKind.i64.wrap (x.2.1.1 + (1 : Int))) - (1 : Int))), (0 : Int), (IntKind.i64.wrap (x.1 - (1 : Int)))))) = true → True) ∧ ((((x.2.1.2.2.2.1 == (2 : Int)) && ((IntKind.i64.wrap ((IntKind.i64.wrap (x.2.1.1 + (1 : Int))) - (1 : Int))) != x.2.1.1)) && (Sp.F81 ((IntKind.i64.wrap ((IntKind.i64.wrap (x.2.1.1 + (1 : Int))) - (1 : Int))), (0 : Int), (IntKind.i64.wrap (x.1 - (1 : Int)))))) = false → (((x.2.2.1 == (3 : Int)) = true → ((((x.2.2.1 == (4 : Int)) || (x.2.2.1 == (5 : Int))) = true → (((((2 : Int) == (0 : Int)) || ((2 : Int) == x.2.1.2.2.2.1)) = true → True) ∧ ((((2 : Int) == (0 : Int)) || ((2 : Int) == x.2.1.2.2.2.1)) = false → ((((x.2.1.2.2.2.1 == (0 : Int)) && ((2 : Int) == x.2.1.2.2.2.2.1)) = true → ((((IntKind.i64.wrap (x.2.1.2.2.2.2.2 - (1 : Int))) == (0 : Int)) = true → True) ∧ (((IntKind.i64.wrap (x.2.1.2.2.2.2.2 - (1 : Int))) == (0 : Int)) = false → True))) ∧ (((x.2.1.2.2.2.1 == (0 : Int)) && ((2 : Int) == x.2.1.2.2.2.2.1)) = false → ((((IntKind.i64.wrap ((max (1 : Int) (min x.2.2.2 (10000 : Int))) - (1 : Int))) == (0 : Int)) = true → True) ∧ (((IntKind.i64.wrap ((max (1 : Int) (min x.2.2.2 (10000 : Int))) - (1 : Int))) == (0 : Int)) = false → True))))))) ∧ (((x.2.2.1 == (4 : Int)) || (x.2.2.1 == (5 : Int))) = false → (((((1 : Int) == (0 : Int)) || ((1 : Int) == x.2.1.2.2.2.1)) = true → True) ∧ ((((1 : Int) == (0 : Int)) || ((1 : Int) == x.2.1.2.2.2.1)) = false → ((((x.2.1.2.2.2.1 == (0 : Int)) && ((1 : Int) == x.2.1.2.2.2.2.1)) = true → ((((IntKind.i64.wrap (x.2.1.2.2.2.2.2 - (1 : Int))) == (0 : Int)) = true → True) ∧ (((IntKind.i64.wrap (x.2.1.2.2.2.2.2 - (1 : Int))) == (0 : Int)) = false → True))) ∧ (((x.2.1.2.2.2.1 == (0 : Int)) && ((1 : Int) == x.2.1.2.2.2.2.1)) = false → ((((IntKind.i64.wrap ((max (1 : Int) (min x.2.2.2 (10000 : Int))) - (1 : Int))) == (0 : Int)) = true → True) ∧ (((IntKind.i64.wrap ((max (1 : Int) (min x.2.2.2 (10000 : Int))) - (1 : Int))) == (0 : Int)) = false → True))))))))) ∧ ((x.2.2.1 == (3 : Int)) = false → ((((x.2.2.1 == (4 : Int)) || (x.2.2.1 == (5 : Int))) = true → (((((2 : Int) == (0 : Int)) || ((2 : Int) == x.2.1.2.2.2.1)) = true → True) ∧ ((((2 : Int) == (0 : Int)) || ((2 : Int) == x.2.1.2.2.2.1)) = false → ((((x.2.1.2.2.2.1 == (0 : Int)) && ((2 : Int) == x.2.1.2.2.2.2.1)) = true → ((((IntKind.i64.wrap (x.2.1.2.2.2.2.2 - (1 : Int))) == (0 : Int)) = true → True) ∧ (((IntKind.i64.wrap (x.2.1.2.2.2.2.2 - (1 : Int))) == (0 : Int)) = false → True))) ∧ (((x.2.1.2.2.2.1 == (0 : Int)) && ((2 : Int) == x.2.1.2.2.2.2.1)) = false → ((((IntKind.i64.wrap ((max (1 : Int) (min x.2.2.2 (10000 : Int))) - (1 : Int))) == (0 : Int)) = true → True) ∧ (((IntKind.i64.wrap ((max (1 : Int) (min x.2.2.2 (10000 : Int))) - (1 : Int))) == (0 : Int)) = false → True))))))) ∧ (((x.2.2.1 == (4 : Int)) || (x.2.2.1 == (5 : Int))) = false → ((((x.2.1.2.2.2.2.1 == (0 : Int)) || (x.2.1.2.2.2.2.1 == x.2.1.2.2.2.1)) = true → True) ∧ (((x.2.1.2.2.2.2.1 == (0 : Int)) || (x.2.1.2.2.2.2.1 == x.2.1.2.2.2.1)) = false → ((((x.2.1.2.2.2.1 == (0 : Int)) && (x.2.1.2.2.2.2.1 == x.2.1.2.2.2.2.1)) = true → ((((IntKind.i64.wrap (x.2.1.2.2.2.2.2 - (1 : Int))) == (0 : Int)) = true → True) ∧ (((IntKind.i64.wrap (x.2.1.2.2.2.2.2 - (1 : Int))) == (0 : Int)) = false → True))) ∧ (((x.2.1.2.2.2.1 == (0 : Int)) && (x.2.1.2.2.2.2.1 == x.2.1.2.2.2.2.1)) = false → ((((IntKind.i64.wrap ((max (1 : Int) (min x.2.2.2 (10000 : Int))) - (1 : Int))) == (0 : Int)) = true → True) ∧ (((IntKind.i64.wrap ((max (1 : Int) (min x.2.2.2 (10000 : Int))) - (1 : Int))) == (0 : Int)) = false → True))))))))))))) ∧ ((x.2.2.1 == (2 : Int)) = false → (((((x.2.1.2.2.2.1 == (2 : Int)) && ((IntKind.i64.wrap (x.2.1.1 + (1 : Int))) != x.2.1.1)) && (Sp.F81 ((IntKind.i64.wrap (x.2.1.1 + (1 : Int))), (0 : Int), (IntKind.i64.wrap (x.1 - (1 : Int)))))) = true → True) ∧ ((((x.2.1.2.2.2.1 == (2 : Int)) && ((IntKind.i64.wrap (x.2.1.1 + (1 : Int))) != x.2.1.1)) && (Sp.F81 ((IntKind.i64.wrap (x.2.1.1 + (1 : Int))), (0 : Int), (IntKind.i64.wrap (x.1 - (1 : Int)))))) = false → (((x.2.2.1 == (3 : Int)) = true → ((((x.2.2.1 == (4 : Int)) || (x.2.2.1 == (5 : Int))) = true → (((((2 : Int) == (0 : Int)) || ((2 : Int) == x.2.1.2.2.2.1)) = true → True) ∧ ((((2 : Int) == (0 : Int)) || ((2 : Int) == x.2.1.2.2.2.1)) = false → ((((x.2.1.2.2.2.1 == (0 : Int)) && ((2 : Int) == x.2.1.2.2.2.2.1)) = true → ((((IntKind.i64.wrap (x.2.1.2.2.2.2.2 - (1 : Int))) == (0 : Int)) = true → True) ∧ (((IntKind.i64.wrap (x.2.1.2.2.2.2.2 - (1 : Int))) == (0 : Int)) = false → True))) ∧ (((x.2.1.2.2.2.1 == (0 : Int)) && ((2 : Int) == x.2.1.2.2.2.2.1)) = false → ((((IntKind.i64.wrap ((max (1 : Int) (min x.2.2.2 (10000 : Int))) - (1 : Int))) == (0 : Int)) = true → True) ∧ (((IntKind.i64.wrap ((max (1 : Int) (min x.2.2.2 (10000 : Int))) - (1 : Int))) == (0 : Int)) = false → True))))))) ∧ (((x.2.2.1 == (4 : Int)) || (x.2.2.1 == (5 : Int))) = false → (((((1 : Int) == (0 : Int)) || ((1 : Int) == x.2.1.2.2.2.1)) = true → True) ∧ ((((1 : Int) == (0 : Int)) || ((1 : Int) == x.2.1.2.2.2.1)) = false → ((((x.2.1.2.2.2.1 == (0 : Int)) && ((1 : Int) == x.2.1.2.2.2.2.1)) = true → ((((IntKind.i64.wrap (x.2.1.2.2.2.2.2 - (1 : Int))) == (0 : Int)) = true → True) ∧ (((IntKind.i64.wrap (x.2.1.2.2.2.2.2 - (1 : Int))) == (0 : Int)) = false → True))) ∧ (((x.2.1.2.2.2.1 == (0 : Int)) && ((1 : Int) == x.2.1.2.2.2.2.1)) = false → ((((IntKind.i64.wrap ((max (1 : Int) (min x.2.2.2 (10000 : Int))) - (1 : Int))) == (0 : Int)) = true → True) ∧ (((IntKind.i64.wrap ((max (1 : Int) (min x.2.2.2 (10000 : Int))) - (1 : Int))) == (0 : Int)) = false → True))))))))) ∧ ((x.2.2.1 == (3 : Int)) = false → ((((x.2.2.1 == (4 : Int)) || (x.2.2.1 == (5 : Int))) = true → (((((2 : Int) == (0 : Int)) || ((2 : Int) == x.2.1.2.2.2.1)) = true → True) ∧ ((((2 : Int) == (0 : Int)) || ((2 : Int) == x.2.1.2.2.2.1)) = false → ((((x.2.1.2.2.2.1 == (0 : Int)) && ((2 : Int) == x.2.1.2.2.2.2.1)) = true → ((((IntKind.i64.wrap (x.2.1.2.2.2.2.2 - (1 : Int))) == (0 : Int)) = true → True) ∧ (((IntKind.i64.wrap (x.2.1.2.2.2.2.2 - (1 : Int))) == (0 : Int)) = false → True))) ∧ (((x.2.1.2.2.2.1 == (0 : Int)) && ((2 : Int) == x.2.1.2.2.2.2.1)) = false → ((((IntKind.i64.wrap ((max (1 : Int) (min x.2.2.2 (10000 : Int))) - (1 : Int))) == (0 : Int)) = true → True) ∧ (((IntKind.i64.wrap ((max (1 : Int) (min x.2.2.2 (10000 : Int))) - (1 : Int))) == (0 : Int)) = false → True))))))) ∧ (((x.2.2.1 == (4 : Int)) || (x.2.2.1 == (5 : Int))) = false → ((((x.2.1.2.2.2.2.1 == (0 : Int)) || (x.2.1.2.2.2.2.1 == x.2.1.2.2.2.1)) = true → True) ∧ (((x.2.1.2.2.2.2.1 == (0 : Int)) || (x.2.1.2.2.2.2.1 == x.2.1.2.2.2.1)) = false → ((((x.2.1.2.2.2.1 == (0 : Int)) && (x.2.1.2.2.2.2.1 == x.2.1.2.2.2.2.1)) = true → ((((IntKind.i64.wrap (x.2.1.2.2.2.2.2 - (1 : Int))) == (0 : Int)) = true → True) ∧ (((IntKind.i64.wrap (x.2.1.2.2.2.2.2 - (1 : Int))) == (0 : Int)) = false → True))) ∧ (((x.2.1.2.2.2.1 == (0 : Int)) && (x.2.1.2.2.2.2.1 == x.2.1.2.2.2.2.1)) = false → ((((IntKind.i64.wrap ((max (1 : Int) (min x.2.2.2 (10000 : Int))) - (1 : Int))) == (0 : Int)) = true → True) ∧ (((IntKind.i64.wrap ((max (1 : Int) (min x.2.2.2 (10000 : Int))) - (1 : Int))) == (0 : Int)) = false → True))))))))))))))) ∧ ((x.2.2.1 == (1 : Int)) = false → (((x.2.2.1 == (2 : Int)) = true → (((((x.2.1.2.2.2.1 == (2 : Int)) && ((IntKind.i64.wrap (x.2.1.1 - (1 : Int))) != x.2.1.1)) && (Sp.F81 ((IntKind.i64.wrap (x.2.1.1 - (1 : Int))), (0 : Int), (IntKind.i64.wrap (x.1 - (1 : Int)))))) = true → True) ∧ ((((x.2.1.2.2.2.1 == (2 : Int)) && ((IntKind.i64.wrap (x.2.1.1 - (1 : Int))) != x.2.1.1)) && (Sp.F81 ((IntKind.i64.wrap (x.2.1.1 - (1 : Int))), (0 : Int), (IntKind.i64.wrap (x.1 - (1 : Int)))))) = false → (((x.2.2.1 == (3 : Int)) = true → ((((x.2.2.1 == (4 : Int)) || (x.2.2.1 == (5 : Int))) = true → (((((2 : Int) == (0 : Int)) || ((2 : Int) == x.2.1.2.2.2.1)) = true → True) ∧ ((((2 : Int) == (0 : Int)) || ((2 : Int) == x.2.1.2.2.2.1)) = false → ((((x.2.1.2.2.2.1 == (0 : Int)) && ((2 : Int) == x.2.1.2.2.2.2.1)) = true → ((((IntKind.i64.wrap (x.2.1.2.2.2.2.2 - (1 : Int))) == (0 : Int)) = true → True) ∧ (((IntKind.i64.wrap (x.2.1.2.2.2.2.2 - (1 : Int))) == (0 : Int)) = false → True))) ∧ (((x.2.1.2.2.2.1 == (0 : Int)) && ((2 : Int) == x.2.1.2.2.2.2.1)) = false → ((((IntKind.i64.wrap ((max (1 : Int) (min x.2.2.2 (10000 : Int))) - (1 : Int))) == (0 : Int)) = true → True) ∧ (((IntKind.i64.wrap ((max (1 : Int) (min x.2.2.2 (10000 : Int))) - (1 : Int))) == (0 : Int)) = false → True))))))) ∧ (((x.2.2.1 == (4 : Int)) || (x.2.2.1 == (5 : Int))) = false → (((((1 : Int) == (0 : Int)) || ((1 : Int) == x.2.1.2.2.2.1)) = true → True) ∧ ((((1 : Int) == (0 : Int)) || ((1 : Int) == x.2.1.2.2.2.1)) = false → ((((x.2.1.2.2.2.1 == (0 : Int)) && ((1 : Int) == x.2.1.2.2.2.2.1)) = true → ((((IntKind.i64.wrap (x.2.1.2.2.2.2.2 - (1 : Int))) == (0 : Int)) = true → True) ∧ (((IntKind.i64.wrap (x.2.1.2.2.2.2.2 - (1 : Int))) == (0 : Int)) = false → True))) ∧ (((x.2.1.2.2.2.1 == (0 : Int)) && ((1 : Int) == x.2.1.2.2.2.2.1)) = false → ((((IntKind.i64.wrap ((max (1 : Int) (min x.2.2.2 (10000 : Int))) - (1 : Int))) == (0 : Int)) = true → True) ∧ (((IntKind.i64.wrap ((max (1 : Int) (min x.2.2.2 (10000 : Int))) - (1 : Int))) == (0 : Int)) = false → True))))))))) ∧ ((x.2.2.1 == (3 : Int)) = false → ((((x.2.2.1 == (4 : Int)) || (x.2.2.1 == (5 : Int))) = true → (((((2 : Int) == (0 : Int)) || ((2 : Int) == x.2.1.2.2.2.1)) = true → True) ∧ ((((2 : Int) == (0 : Int)) || ((2 : Int) == x.2.1.2.2.2.1)) = false → ((((x.2.1.2.2.2.1 == (0 : Int)) && ((2 : Int) == x.2.1.2.2.2.2.1)) = true → ((((IntKind.i64.wrap (x.2.1.2.2.2.2.2 - (1 : Int))) == (0 : Int)) = true → True) ∧ (((IntKind.i64.wrap (x.2.1.2.2.2.2.2 - (1 : Int))) == (0 : Int)) = false → True))) ∧ (((x.2.1.2.2.2.1 == (0 : Int)) && ((2 : Int) == x.2.1.2.2.2.2.1)) = false → ((((IntKind.i64.wrap ((max (1 : Int) (min x.2.2.2 (10000 : Int))) - (1 : Int))) == (0 : Int)) = true → True) ∧ (((IntKind.i64.wrap ((max (1 : Int) (min x.2.2.2 (10000 : Int))) - (1 : Int))) == (0 : Int)) = false → True))))))) ∧ (((x.2.2.1 == (4 : Int)) || (x.2.2.1 == (5 : Int))) = false → ((((x.2.1.2.2.2.2.1 == (0 : Int)) || (x.2.1.2.2.2.2.1 == x.2.1.2.2.2.1)) = true → True) ∧ (((x.2.1.2.2.2.2.1 == (0 : Int)) || (x.2.1.2.2.2.2.1 == x.2.1.2.2.2.1)) = false → ((((x.2.1.2.2.2.1 == (0 : Int)) && (x.2.1.2.2.2.2.1 == x.2.1.2.2.2.2.1)) = true → ((((IntKind.i64.wrap (x.2.1.2.2.2.2.2 - (1 : Int))) == (0 : Int)) = true → True) ∧ (((IntKind.i64.wrap (x.2.1.2.2.2.2.2 - (1 : Int))) == (0 : Int)) = false → True))) ∧ (((x.2.1.2.2.2.1 == (0 : Int)) && (x.2.1.2.2.2.2.1 == x.2.1.2.2.2.2.1)) = false → ((((IntKind.i64.wrap ((max (1 : Int) (min x.2.2.2 (10000 : Int))) - (1 : Int))) == (0 : Int)) = true → True) ∧ (((IntKind.i64.wrap ((max (1 : Int) (min x.2.2.2 (10000 : Int))) - (1 : Int))) == (0 : Int)) = false → True))))))))))))) ∧ ((x.2.2.1 == (2 : Int)) = false → (((((x.2.1.2.2.2.1 == (2 : Int)) && (x.2.1.1 != x.2.1.1)) && (Sp.F81 (x.2.1.1, (0 : Int), (IntKind.i64.wrap (x.1 - (1 : Int)))))) = true → True) ∧ ((((x.2.1.2.2.2.1 == (2 : Int)) && (x.2.1.1 != x.2.1.1)) && (Sp.F81 (x.2.1.1, (0 : Int), (IntKind.i64.wrap (x.1 - (1 : Int)))))) = false → (((x.2.2.1 == (3 : Int)) = true → ((((x.2.2.1 == (4 : Int)) || (x.2.2.1 == (5 : Int))) = true → (((((2 : Int) == (0 : Int)) || ((2 : Int) == x.2.1.2.2.2.1)) = true → True) ∧ ((((2 : Int) == (0 : Int)) || ((2 : Int) == x.2.1.2.2.2.1)) = false → ((((x.2.1.2.2.2.1 == (0 : Int)) && ((2 : Int) == x.2.1.2.2.2.2.1)) = true → ((((IntKind.i64.wrap (x.2.1.2.2.2.2.2 - (1 : Int))) == (0 : Int)) = true → True) ∧ (((IntKind.i64.wrap (x.2.1.2.2.2.2.2 - (1 : Int))) == (0 : Int)) = false → True))) ∧ (((x.2.1.2.2.2.1 == (0 : Int)) && ((2 : Int) == x.2.1.2.2.2.2.1)) = false → ((((IntKind.i64.wrap ((max (1 : Int) (min x.2.2.2 (10000 : Int))) - (1 : Int))) == (0 : Int)) = true → True) ∧ (((IntKind.i64.wrap ((max (1 : Int) (min x.2.2.2 (10000 : Int))) - (1 : Int))) == (0 : Int)) = false → True))))))) ∧ (((x.2.2.1 == (4 : Int)) || (x.2.2.1 == (5 : Int))) = false → (((((1 : Int) == (0 : Int)) || ((1 : Int) == x.2.1.2.2.2.1)) = true → True) ∧ ((((1 : Int) == (0 : Int)) || ((1 : Int) == x.2.1.2.2.2.1)) = false → ((((x.2.1.2.2.2.1 == (0 : Int)) && ((1 : Int) == x.2.1.2.2.2.2.1)) = true → ((((IntKind.i64.wrap (x.2.1.2.2.2.2.2 - (1 : Int))) == (0 : Int)) = true → True) ∧ (((IntKind.i64.wrap (x.2.1.2.2.2.2.2 - (1 : Int))) == (0 : Int)) = false → True))) ∧ (((x.2.1.2.2.2.1 == (0 : Int)) && ((1 : Int) == x.2.1.2.2.2.2.1)) = false → ((((IntKind.i64.wrap ((max (1 : Int) (min x.2.2.2 (10000 : Int))) - (1 : Int))) == (0 : Int)) = true → True) ∧ (((IntKind.i64.wrap ((max (1 : Int) (min x.2.2.2 (10000 : Int))) - (1 : Int))) == (0 : Int)) = false → True))))))))) ∧ ((x.2.2.1 == (3 : Int)) = false → ((((x.2.2.1 == (4 : Int)) || (x.2.2.1 == (5 : Int))) = true → (((((2 : Int) == (0 : Int)) || ((2 : Int) == x.2.1.2.2.2.1)) = true → True) ∧ ((((2 : Int) == (0 : Int)) || ((2 : Int) == x.2.1.2.2.2.1)) = false → ((((x.2.1.2.2.2.1 == (0 : Int)) && ((2 : Int) == x.2.1.2.2.2.2.1)) = true → ((((IntKind.i64.wrap (x.2.1.2.2.2.2.2 - (1 : Int))) == (0 : Int)) = true → True) ∧ (((IntKind.i64.wrap (x.2.1.2.2.2.2.2 - (1 : Int))) == (0 : Int)) = false → True))) ∧ (((x.2.1.2.2.2.1 == (0 : Int)) && ((2 : Int) == x.2.1.2.2.2.2.1)) = false → ((((IntKind.i64.wrap ((max (1 : Int) (min x.2.2.2 (10000 : Int))) - (1 : Int))) == (0 : Int)) = true → True) ∧ (((IntKind.i64.wrap ((max (1 : Int) (min x.2.2.2 (10000 : Int))) - (1 : Int))) == (0 : Int)) = false → True))))))) ∧ (((x.2.2.1 == (4 : Int)) || (x.2.2.1 == (5 : Int))) = false → ((((x.2.1.2.2.2.2.1 == (0 : Int)) || (x.2.1.2.2.2.2.1 == x.2.1.2.2.2.1)) = true → True) ∧ (((x.2.1.2.2.2.2.1 == (0 : Int)) || (x.2.1.2.2.2.2.1 == x.2.1.2.2.2.1)) = false → ((((x.2.1.2.2.2.1 == (0 : Int)) && (x.2.1.2.2.2.2.1 == x.2.1.2.2.2.2.1)) = true → ((((IntKind.i64.wrap (x.2.1.2.2.2.2.2 - (1 : Int))) == (0 : Int)) = true → True) ∧ (((IntKind.i64.wrap (x.2.1.2.2.2.2.2 - (1 : Int))) == (0 : Int)) = false → True))) ∧ (((x.2.1.2.2.2.1 == (0 : Int)) && (x.2.1.2.2.2.2.1 == x.2.1.2.2.2.2.1)) = false → ((((IntKind.i64.wrap ((max (1 : Int) (min x.2.2.2 (10000 : Int))) - (1 : Int))) == (0 : Int)) = true → True) ∧ (((IntKind.i64.wrap ((max (1 : Int) (min x.2.2.2 (10000 : Int))) - (1 : Int))) == (0 : Int)) = false → True))))))))))))))))))))) := by kernel_rfl
theorem sa56 (x : (Ty.pair ty3 (Ty.pair ty96 (Ty.pair ty3 ty3))).den) (fx : Fit (Ty.pair ty3 (Ty.pair ty96 (Ty.pair ty3 ty3))) x) : SafeW ((evFn (ctxP PmV0 none GmV1 []) Tryd.f56 (Ty.pair ty3 (Ty.pair ty96 (Ty.pair ty3 ty3))) [none, some 6, none, none] (Rsh.one (some 6)) none ty96 noL x)) := by
  refine ⟨?_⟩
  rw [se56]
  try dsimp only [Ty.den] at *
  simp only [Fit, maxLen] at fx
  simp only [true_and, IntKind.wrap_i64, IntKind.wrap_u8, IntKind.wrap_u32, IntKind.wrap_u64, Sp.tmod_lit, Sp.tdiv_lit, bne_eq_false_iff_eq, Int.natCast_inj, setE, copyL, sliceL, zrow, List.length_append, List.length_cons, List.length_nil, List.length_set, List.length_replicate, List.length_take, List.length_drop, decide_eq_true_eq, decide_eq_false_iff_not, Bool.or_eq_true, Bool.and_eq_true, Bool.or_eq_false_iff, Bool.and_eq_false_iff, Bool.not_eq_true', Bool.not_eq_false', Bool.not_eq_true, Bool.not_eq_false, beq_iff_eq, beq_eq_false_iff_ne, bne_iff_ne, ne_eq, implies_true, and_true, true_and] at *
  all_goals ((repeat' (first | exact trivial | apply And.intro | intro _)) <;> first | trivial | omega | exact Sp.tmod_nn (by omega) | exact Sp.tmod_lt (by omega) (by omega))
theorem ok56 : CtOk Tryd.prog gdS 56 ct56 :=
  fn_okU (ctxOkP pgokPmV0 fvok_none gokGmV1 []) rfl Tryd.func56 (p := (Ty.pair ty3 (Ty.pair ty96 (Ty.pair ty3 ty3)))) (psh := [none, some 6, none, none]) (r := ty96) (rsh := (Rsh.one (some 6))) (pre := none) (fresh := none) (F := Sp.F56) (L := noL) (c := bodyOf Tryd.f56) (dflt := Ty.dflt ty96) rfl (no_loops)
    (safe_no @sa56) va56
/-! door.Skip -/
end Go.Proofs.YtpbljgpdhllklaaDoor.Sy
namespace Go.Proofs.YtpbljgpdhllklaaDoor.Sp
open Go Go.RowKit Sy
def F63 (x : Int × Int × Int × Bool × Int) : Int × Int × Int × Bool × Int :=
  bif ((!(Sp.F82 x)) || (x.1 == (0 : Int))) then
    x
  else
    ((Sp.F90 x).1, (Sp.F91 ((Sp.F90 x).2.1)), (Sp.F90 x).2.2)
end Go.Proofs.YtpbljgpdhllklaaDoor.Sp
namespace Go.Proofs.YtpbljgpdhllklaaDoor.Sy
def ct63 : Ct := { p := ty62, psh := [some 5], r := ty62, rsh := (Rsh.one (some 5)), pre := none, fresh := none, F := Sp.F63 }
theorem va63 (x : ty62.den) : ((evFn (ctxP PmV0 none GmV1 []) Tryd.f63 ty62 [some 5] (Rsh.one (some 5)) none ty62 noL x)).val (fun y => y) (Ty.dflt ty62) = Sp.F63 x := by kernel_rfl
theorem se63 (x : ty62.den) : ((evFn (ctxP PmV0 none GmV1 []) Tryd.f63 ty62 [some 5] (Rsh.one (some 5)) none ty62 noL x)).safe = (((((!(Sp.F82 x)) || (x.1 == (0 : Int))) = true → True) ∧ (((!(Sp.F82 x)) || (x.1 == (0 : Int))) = false → True))) := by kernel_rfl
theorem sa63 (x : ty62.den) (fx : Fit ty62 x) : SafeW ((evFn (ctxP PmV0 none GmV1 []) Tryd.f63 ty62 [some 5] (Rsh.one (some 5)) none ty62 noL x)) := by
  refine ⟨?_⟩
  rw [se63]
  try dsimp only [Ty.den] at *
  simp only [Fit, maxLen] at fx
  simp only [true_and, IntKind.wrap_i64, IntKind.wrap_u8, IntKind.wrap_u32, IntKind.wrap_u64, Sp.tmod_lit, Sp.tdiv_lit, bne_eq_false_iff_eq, Int.natCast_inj, setE, copyL, sliceL, zrow, List.length_append, List.length_cons, List.length_nil, List.length_set, List.length_replicate, List.length_take, List.length_drop, decide_eq_true_eq, decide_eq_false_iff_not, Bool.or_eq_true, Bool.and_eq_true, Bool.or_eq_false_iff, Bool.and_eq_false_iff, Bool.not_eq_true', Bool.not_eq_false', Bool.not_eq_true, Bool.not_eq_false, beq_iff_eq, beq_eq_false_iff_ne, bne_iff_ne, ne_eq, implies_true, and_true, true_and] at *
  all_goals ((repeat' (first | exact trivial | apply And.intro | intro _)) <;> first | trivial | omega | exact Sp.tmod_nn (by omega) | exact Sp.tmod_lt (by omega) (by omega))
theorem ok63 : CtOk Tryd.prog gdS 63 ct63 :=
  fn_okU (ctxOkP pgokPmV0 fvok_none gokGmV1 []) rfl Tryd.func63 (p := ty62) (psh := [some 5]) (r := ty62) (rsh := (Rsh.one (some 5))) (pre := none) (fresh := none) (F := Sp.F63) (L := noL) (c := bodyOf Tryd.f63) (dflt := Ty.dflt ty62) rfl (no_loops)
    (safe_no @sa63) va63
def GmV2 : List (Nat × Ct) := (57, ct57) :: (114, ct114) :: (105, ct105) :: (24, ct24) :: (56, ct56) :: (63, ct63) :: GmV1
theorem gokGmV2 : GOk GmV2 := gok_cons ok57 ⟨_, Tryd.func57, by kernel_rfl, by kernel_rfl⟩ (gok_cons ok114 ⟨_, Tryd.func114, by kernel_rfl, by kernel_rfl⟩ (gok_cons ok105 ⟨_, Tryd.func105, by kernel_rfl, by kernel_rfl⟩ (gok_cons ok24 ⟨_, Tryd.func24, by kernel_rfl, by kernel_rfl⟩ (gok_cons ok56 ⟨_, Tryd.func56, by kernel_rfl, by kernel_rfl⟩ (gok_cons ok63 ⟨_, Tryd.func63, by kernel_rfl, by kernel_rfl⟩ (gokGmV1))))))
end Go.Proofs.YtpbljgpdhllklaaDoor.Sy
end

section
/- Contracts of functions, by the evaluator (own program gen.py): newcar.isCar, <*newcar.control>.step, <*newcar.control>.cycle, newcar.Shows. -/
set_option linter.unusedVariables false
set_option linter.unusedSimpArgs false
set_option maxRecDepth 100000
namespace Go.Proofs.YtpbljgpdhllklaaDoor.Sy
open Go Go.RowKit Sp
/-! newcar.isCar -/
end Go.Proofs.YtpbljgpdhllklaaDoor.Sy
namespace Go.Proofs.YtpbljgpdhllklaaDoor.Sp
open Go Go.RowKit Sy
def F58 (x : (Int × Int × Int × Int × Nat × Nat × Nat × List (Int × Int × Int × Int × Int × Int × Int × Int × Int)) × Int × (Int × Int) × (Int × Int × Int × Bool × Int) × (Int × Int × Int) × Int × Int × Int × Bool) : Bool :=
  (((Sp.F57 (x.1, x.2.2)) && (decide (x.2.1 ≥ (0 : Int)))) && (decide (x.2.1 < ((x.1.2.2.2.2.2.2.2).length : Int))))
end Go.Proofs.YtpbljgpdhllklaaDoor.Sp
namespace Go.Proofs.YtpbljgpdhllklaaDoor.Sy
def ct58 : Ct := { p := (Ty.pair ty32 (Ty.pair ty3 ty66)), psh := [some 8, none, some 14], r := ty4, rsh := (Rsh.one (none)), pre := none, fresh := none, F := Sp.F58 }
theorem va58 (x : (Ty.pair ty32 (Ty.pair ty3 ty66)).den) : ((evFn (ctxP PmV0 none GmV2 []) Tryd.f58 (Ty.pair ty32 (Ty.pair ty3 ty66)) [some 8, none, some 14] (Rsh.one (none)) none ty4 noL x)).val (fun y => y) (Ty.dflt ty4) = Sp.F58 x := by kernel_rfl
theorem se58 (x : (Ty.pair ty32 (Ty.pair ty3 ty66)).den) : ((evFn (ctxP PmV0 none GmV2 []) Tryd.f58 (Ty.pair ty32 (Ty.pair ty3 ty66)) [some 8, none, some 14] (Rsh.one (none)) none ty4 noL x)).safe = (True) := by kernel_rfl
theorem sa58 (x : (Ty.pair ty32 (Ty.pair ty3 ty66)).den) (fx : Fit (Ty.pair ty32 (Ty.pair ty3 ty66)) x) : SafeW ((evFn (ctxP PmV0 none GmV2 []) Tryd.f58 (Ty.pair ty32 (Ty.pair ty3 ty66)) [some 8, none, some 14] (Rsh.one (none)) none ty4 noL x)) := by
  refine ⟨?_⟩
  rw [se58]
  trivial
theorem ok58 : CtOk Tryd.prog gdS 58 ct58 :=
  fn_okU (ctxOkP pgokPmV0 fvok_none gokGmV2 []) rfl Tryd.func58 (p := (Ty.pair ty32 (Ty.pair ty3 ty66))) (psh := [some 8, none, some 14]) (r := ty4) (rsh := (Rsh.one (none))) (pre := none) (fresh := none) (F := Sp.F58) (L := noL) (c := bodyOf Tryd.f58) (dflt := Ty.dflt ty4) rfl (no_loops)
    (safe_no @sa58) va58
/-! <*newcar.control>.step -/
end Go.Proofs.YtpbljgpdhllklaaDoor.Sy
namespace Go.Proofs.YtpbljgpdhllklaaDoor.Sp
open Go Go.RowKit Sy
def F104 (x : Int × (Int × Int × Int × Int × Nat × Nat × Nat × List (Int × Int × Int × Int × Int × Int × Int × Int × Int)) × Int × ((Int × Int) × (Int × Int × Int × Bool × Int) × (Int × Int × Int) × Int × Int × Int × Bool) × (Int × Bool × Int × Bool) × Int) : (Bool) × ((Int × Int × Int × Int × Nat × Nat × Nat × List (Int × Int × Int × Int × Int × Int × Int × Int × Int)) × Int × ((Int × Int) × (Int × Int × Int × Bool × Int) × (Int × Int × Int) × Int × Int × Int × Bool) × (Int × Bool × Int × Bool) × Int) :=
  ((Sp.F114 (x.2.1.1, x.2.2.2.1.2.2.1, x.2.2.2.2.1, x.1)).2.2, (x.2.1, x.2.2.1, (x.2.2.2.1.1, x.2.2.2.1.2.1, (Sp.F114 (x.2.1.1, x.2.2.2.1.2.2.1, x.2.2.2.2.1, x.1)).1, x.2.2.2.1.2.2.2), x.2.2.2.2.1, (Sp.F114 (x.2.1.1, x.2.2.2.1.2.2.1, x.2.2.2.2.1, x.1)).2.1))
end Go.Proofs.YtpbljgpdhllklaaDoor.Sp
namespace Go.Proofs.YtpbljgpdhllklaaDoor.Sy
def cp104 : Cp := { p := (Ty.pair ty3 ty106), psh := [none], mask := [true, false], sz := [28], ro := false, ex := false, q := ty106, r := ty4, rsh := (Rsh.one (none)), pre := none, F := Sp.F104 }
theorem va104 (x : (Ty.pair ty3 ty106).den) : ((evFnP (ctxP PmV0 none GmV2 []) Tryd.f104 (Ty.pair ty3 ty106) [none] [true, false] [28] false false ty106 (Rsh.one (none)) ty4 noL x)).val (fun _ => (Ty.dflt ty4, Ty.dflt ty106)) (Ty.dflt ty4, Ty.dflt ty106) = Sp.F104 x := by kernel_rfl
theorem se104 (x : (Ty.pair ty3 ty106).den) : ((evFnP (ctxP PmV0 none GmV2 []) Tryd.f104 (Ty.pair ty3 ty106) [none] [true, false] [28] false false ty106 (Rsh.one (none)) ty4 noL x)).safe = (True) := by kernel_rfl
theorem sa104 (x : (Ty.pair ty3 ty106).den) (fx : Fit (Ty.pair ty3 ty106) x) : SafeW ((evFnP (ctxP PmV0 none GmV2 []) Tryd.f104 (Ty.pair ty3 ty106) [none] [true, false] [28] false false ty106 (Rsh.one (none)) ty4 noL x)) := by
  refine ⟨?_⟩
  rw [se104]
  trivial
theorem ok104 : CpOk Tryd.prog gdS 104 cp104 :=
  fn_okPU (ctxOkP pgokPmV0 fvok_none gokGmV2 []) rfl Tryd.func104 cp104 (L := noL) (c := bodyOf Tryd.f104) (dflt := (Ty.dflt ty4, Ty.dflt ty106)) rfl (no_loops)
    (safe_noP rfl @sa104) va104
/-! <*newcar.control>.cycle -/
end Go.Proofs.YtpbljgpdhllklaaDoor.Sy
namespace Go.Proofs.YtpbljgpdhllklaaDoor.Sp
open Go Go.RowKit Sy
def F86 (x : (Int × Int × Int × Int × Nat × Nat × Nat × List (Int × Int × Int × Int × Int × Int × Int × Int × Int)) × Int × ((Int × Int) × (Int × Int × Int × Bool × Int) × (Int × Int × Int) × Int × Int × Int × Bool) × (Int × Bool × Int × Bool) × Int) : (Unit) × ((Int × Int × Int × Int × Nat × Nat × Nat × List (Int × Int × Int × Int × Int × Int × Int × Int × Int)) × Int × ((Int × Int) × (Int × Int × Int × Bool × Int) × (Int × Int × Int) × Int × Int × Int × Bool) × (Int × Bool × Int × Bool) × Int) :=
  bif ((Sp.F105 ((Sp.F62 x).1, x.2.2.1.2.1, x.2.2.2.1.2.2.1, x.2.2.2.1.2.2.2, false)).1.1 == (2 : Int)) then
    ((), (x.1, x.2.1, (x.2.2.1.1, (Sp.F105 ((Sp.F62 x).1, x.2.2.1.2.1, x.2.2.2.1.2.2.1, x.2.2.2.1.2.2.2, false)).1, x.2.2.1.2.2.1, (IntKind.u32.wrap ((BitVec.ofInt IntKind.u32.bits x.2.2.1.2.2.2.1 &&& ~~~ BitVec.ofInt IntKind.u32.bits (IntKind.u32.wrap ((1 : Int) * 2 ^ (min (x.2.2.2.1.1).toNat IntKind.u32.bits)))).toNat : Int)), x.2.2.1.2.2.2.2.1, (0 : Int), x.2.2.1.2.2.2.2.2.2), x.2.2.2.1, (Sp.F105 ((Sp.F62 x).1, x.2.2.1.2.1, x.2.2.2.1.2.2.1, x.2.2.2.1.2.2.2, false)).2))
  else
    bif ((Sp.F105 ((Sp.F62 x).1, x.2.2.1.2.1, x.2.2.2.1.2.2.1, x.2.2.2.1.2.2.2, false)).1.1 == (0 : Int)) then
      ((), (x.1, x.2.1, (x.2.2.1.1, (Sp.F105 ((Sp.F62 x).1, x.2.2.1.2.1, x.2.2.2.1.2.2.1, x.2.2.2.1.2.2.2, false)).1, x.2.2.1.2.2.1, x.2.2.1.2.2.2.1, (0 : Int), (0 : Int), x.2.2.1.2.2.2.2.2.2), x.2.2.2.1, (Sp.F105 ((Sp.F62 x).1, x.2.2.1.2.1, x.2.2.2.1.2.2.1, x.2.2.2.1.2.2.2, false)).2))
    else
      ((), (x.1, x.2.1, (x.2.2.1.1, (Sp.F105 ((Sp.F62 x).1, x.2.2.1.2.1, x.2.2.2.1.2.2.1, x.2.2.2.1.2.2.2, false)).1, x.2.2.1.2.2.1, x.2.2.1.2.2.2.1, x.2.2.1.2.2.2.2.1, (0 : Int), x.2.2.1.2.2.2.2.2.2), x.2.2.2.1, (Sp.F105 ((Sp.F62 x).1, x.2.2.1.2.1, x.2.2.2.1.2.2.1, x.2.2.2.1.2.2.2, false)).2))
def pre86 (x : (Int × Int × Int × Int × Nat × Nat × Nat × List (Int × Int × Int × Int × Int × Int × Int × Int × Int)) × Int × ((Int × Int) × (Int × Int × Int × Bool × Int) × (Int × Int × Int) × Int × Int × Int × Bool) × (Int × Bool × Int × Bool) × Int) : Prop := Sp.CtlOk x
end Go.Proofs.YtpbljgpdhllklaaDoor.Sp
namespace Go.Proofs.YtpbljgpdhllklaaDoor.Sy
def cp86 : Cp := { p := ty106, psh := [], mask := [true], sz := [28], ro := false, ex := false, q := ty106, r := Ty.unit, rsh := Rsh.none, pre := some Sp.pre86, F := Sp.F86 }
theorem va86 (x : ty106.den) : ((evFnP (ctxP PmV0 none GmV2 []) Tryd.f86 ty106 [] [true] [28] false false ty106 Rsh.none Ty.unit noL x)).val (fun _ => (Ty.dflt Ty.unit, Ty.dflt ty106)) (Ty.dflt Ty.unit, Ty.dflt ty106) = Sp.F86 x := by kernel_rfl
theorem se86 (x : ty106.den) : ((evFnP (ctxP PmV0 none GmV2 []) Tryd.f86 ty106 [] [true] [28] false false ty106 Rsh.none Ty.unit noL x)).safe = (((Sp.pre62 x) ∧ ((((Sp.F105 ((Sp.F62 x).1, x.2.2.1.2.1, x.2.2.2.1.2.2.1, x.2.2.2.1.2.2.2, false)).1.1 == (2 : Int)) = true → ((0 ≤ x.2.2.2.1.1) ∧ True)) ∧ (((Sp.F105 ((Sp.F62 x).1, x.2.2.1.2.1, x.2.2.2.1.2.2.1, x.2.2.2.1.2.2.2, false)).1.1 == (2 : Int)) = false → ((((Sp.F105 ((Sp.F62 x).1, x.2.2.1.2.1, x.2.2.2.1.2.2.1, x.2.2.2.1.2.2.2, false)).1.1 == (0 : Int)) = true → True) ∧ (((Sp.F105 ((Sp.F62 x).1, x.2.2.1.2.1, x.2.2.2.1.2.2.1, x.2.2.2.1.2.2.2, false)).1.1 == (0 : Int)) = false → True)))))) := by kernel_rfl
theorem sa86 (x : ty106.den) (fx : Fit ty106 x) (h : Sp.pre86 x) : SafeW ((evFnP (ctxP PmV0 none GmV2 []) Tryd.f86 ty106 [] [true] [28] false false ty106 Rsh.none Ty.unit noL x)) := by
  refine ⟨?_⟩
  rw [se86]
  try dsimp only [Ty.den] at *
  unfold Sp.pre86 at h
  exact ⟨h, fun _ => ⟨h.2.2.2, trivial⟩, fun _ => ⟨fun _ => trivial, fun _ => trivial⟩⟩
theorem ok86 : CpOk Tryd.prog gdS 86 cp86 :=
  fn_okPU (ctxOkP pgokPmV0 fvok_none gokGmV2 []) rfl Tryd.func86 cp86 (L := noL) (c := bodyOf Tryd.f86) (dflt := (Ty.dflt Ty.unit, Ty.dflt ty106)) rfl (no_loops)
    (safe_preP rfl @sa86) va86
/-! newcar.Shows -/
end Go.Proofs.YtpbljgpdhllklaaDoor.Sy
namespace Go.Proofs.YtpbljgpdhllklaaDoor.Sp
open Go Go.RowKit Sy
def F55 (x : (Int × Int × Int × Int × Nat × Nat × Nat × List (Int × Int × Int × Int × Int × Int × Int × Int × Int)) × ((Int × Int) × (Int × Int × Int × Bool × Int) × (Int × Int × Int) × Int × Int × Int × Bool) × Int × Bool × Int × Bool) : Int × Int :=
  bif ((((!(Sp.F57 (x.1, x.2.1))) || (x.2.1.2.1.1 != (2 : Int))) || (!x.2.2.2.1)) || (x.2.2.2.2.1 != (1 : Int))) then
    ((0 : Int), (0 : Int))
  else
    (Sp.F24 (x.1.1, x.2.2.1, x.2.1.2.2.2.2.1, (1 : Int)))
end Go.Proofs.YtpbljgpdhllklaaDoor.Sp
namespace Go.Proofs.YtpbljgpdhllklaaDoor.Sy
def ct55 : Ct := { p := (Ty.pair ty32 (Ty.pair ty66 ty68)), psh := [some 8, some 14, some 4], r := ty26, rsh := (Rsh.one (some 2)), pre := none, fresh := none, F := Sp.F55 }
theorem va55 (x : (Ty.pair ty32 (Ty.pair ty66 ty68)).den) : ((evFn (ctxP PmV0 none GmV2 []) Tryd.f55 (Ty.pair ty32 (Ty.pair ty66 ty68)) [some 8, some 14, some 4] (Rsh.one (some 2)) none ty26 noL x)).val (fun y => y) (Ty.dflt ty26) = Sp.F55 x := by kernel_rfl
theorem se55 (x : (Ty.pair ty32 (Ty.pair ty66 ty68)).den) : ((evFn (ctxP PmV0 none GmV2 []) Tryd.f55 (Ty.pair ty32 (Ty.pair ty66 ty68)) [some 8, some 14, some 4] (Rsh.one (some 2)) none ty26 noL x)).safe = (((((((!(Sp.F57 (x.1, x.2.1))) || (x.2.1.2.1.1 != (2 : Int))) || (!x.2.2.2.1)) || (x.2.2.2.2.1 != (1 : Int))) = true → True) ∧ (((((!(Sp.F57 (x.1, x.2.1))) || (x.2.1.2.1.1 != (2 : Int))) || (!x.2.2.2.1)) || (x.2.2.2.2.1 != (1 : Int))) = false → True))) := by kernel_rfl
theorem sa55 (x : (Ty.pair ty32 (Ty.pair ty66 ty68)).den) (fx : Fit (Ty.pair ty32 (Ty.pair ty66 ty68)) x) : SafeW ((evFn (ctxP PmV0 none GmV2 []) Tryd.f55 (Ty.pair ty32 (Ty.pair ty66 ty68)) [some 8, some 14, some 4] (Rsh.one (some 2)) none ty26 noL x)) := by
  refine ⟨?_⟩
  rw [se55]
  try dsimp only [Ty.den] at *
  simp only [Fit, maxLen] at fx
  simp only [true_and, IntKind.wrap_i64, IntKind.wrap_u8, IntKind.wrap_u32, IntKind.wrap_u64, Sp.tmod_lit, Sp.tdiv_lit, bne_eq_false_iff_eq, Int.natCast_inj, setE, copyL, sliceL, zrow, List.length_append, List.length_cons, List.length_nil, List.length_set, List.length_replicate, List.length_take, List.length_drop, decide_eq_true_eq, decide_eq_false_iff_not, Bool.or_eq_true, Bool.and_eq_true, Bool.or_eq_false_iff, Bool.and_eq_false_iff, Bool.not_eq_true', Bool.not_eq_false', Bool.not_eq_true, Bool.not_eq_false, beq_iff_eq, beq_eq_false_iff_ne, bne_iff_ne, ne_eq, implies_true, and_true, true_and] at *
  all_goals ((repeat' (first | exact trivial | apply And.intro | intro _)) <;> first | trivial | omega | exact Sp.tmod_nn (by omega) | exact Sp.tmod_lt (by omega) (by omega))
theorem ok55 : CtOk Tryd.prog gdS 55 ct55 :=
  fn_okU (ctxOkP pgokPmV0 fvok_none gokGmV2 []) rfl Tryd.func55 (p := (Ty.pair ty32 (Ty.pair ty66 ty68))) (psh := [some 8, some 14, some 4]) (r := ty26) (rsh := (Rsh.one (some 2))) (pre := none) (fresh := none) (F := Sp.F55) (L := noL) (c := bodyOf Tryd.f55) (dflt := Ty.dflt ty26) rfl (no_loops)
    (safe_no @sa55) va55
def PmV3 : List (Nat × Cp) := (104, cp104) :: (86, cp86) :: PmV0
theorem pgokPmV3 : PGOk PmV3 := pgok_cons ok104 ⟨_, Tryd.func104, by kernel_rfl, by kernel_rfl⟩ (pgok_cons ok86 ⟨_, Tryd.func86, by kernel_rfl, by kernel_rfl⟩ (pgokPmV0))
def GmV3 : List (Nat × Ct) := (58, ct58) :: (55, ct55) :: GmV2
theorem gokGmV3 : GOk GmV3 := gok_cons ok58 ⟨_, Tryd.func58, by kernel_rfl, by kernel_rfl⟩ (gok_cons ok55 ⟨_, Tryd.func55, by kernel_rfl, by kernel_rfl⟩ (gokGmV2))
end Go.Proofs.YtpbljgpdhllklaaDoor.Sy
end

section
/- What the walk of newcar.Step needs of its guard (own work). -/
namespace Go.Proofs.YtpbljgpdhllklaaDoor.Sp
open Go Sy
/-- Of a state of a car. -/
theorem iscar_b {x : BldT × Int × CarS} (h : Sp.F58 x = true) :
    Sp.F44 x.1 = 0 ∧ 0 ≤ x.2.1 ∧ x.2.1 < (x.1.2.2.2.2.2.2.2.length : Int) := by
  unfold Sp.F58 at h
  simp only [Bool.and_eq_true, decide_eq_true_eq] at h
  refine ⟨?_, h.1.2, h.2⟩
  have h1 := h.1.1
  unfold Sp.F57 at h1
  rw [cond_eq_ite] at h1
  split at h1
  · exact absurd h1 (by simp)
  · rename_i hv
    simp only [Bool.not_eq_true, Bool.or_eq_false_iff, bne_eq_false_iff_eq] at hv
    exact hv.1
end Go.Proofs.YtpbljgpdhllklaaDoor.Sp
end

section
/- Contracts of functions, by the evaluator (own program gen.py): <*newcar.control>.travel, <*newcar.control>.decide, newcar.Blind. -/
set_option linter.unusedVariables false
set_option linter.unusedSimpArgs false
set_option maxRecDepth 100000
namespace Go.Proofs.YtpbljgpdhllklaaDoor.Sy
open Go Go.RowKit Sp
/-! <*newcar.control>.travel -/
end Go.Proofs.YtpbljgpdhllklaaDoor.Sy
namespace Go.Proofs.YtpbljgpdhllklaaDoor.Sp
open Go Go.RowKit Sy
def F85 (x : (Int × Int × Int × Int × Nat × Nat × Nat × List (Int × Int × Int × Int × Int × Int × Int × Int × Int)) × Int × ((Int × Int) × (Int × Int × Int × Bool × Int) × (Int × Int × Int) × Int × Int × Int × Bool) × (Int × Bool × Int × Bool) × Int) : (Bool) × ((Int × Int × Int × Int × Nat × Nat × Nat × List (Int × Int × Int × Int × Int × Int × Int × Int × Int)) × Int × ((Int × Int) × (Int × Int × Int × Bool × Int) × (Int × Int × Int) × Int × Int × Int × Bool) × (Int × Bool × Int × Bool) × Int) :=
  bif (((x.2.2.1.2.2.1.1 == (0 : Int)) && ((x.2.2.1.2.2.1.2.1 == (0 : Int)) && (x.2.2.1.2.2.1.2.2 == (0 : Int)))) && x.2.2.2.1.2.1) then
    (true, x)
  else
    bif ((Sp.F104 ((0 : Int), x)).1 || ((!(x.2.2.1.2.2.1.1 != (0 : Int))) && (Sp.F104 ((0 : Int), x)).2.2.2.2.1.2.1)) then
      (true, (Sp.F104 ((0 : Int), x)).2)
    else
      bif ((!(x.2.2.1.2.2.1.1 != (0 : Int))) || ((Sp.F104 ((0 : Int), x)).2.2.2.1.1.1 != (0 : Int))) then
        (false, ((Sp.F104 ((0 : Int), x)).2.1, (Sp.F104 ((0 : Int), x)).2.2.1, ((Sp.F104 ((0 : Int), x)).2.2.2.1.1, (Sp.F104 ((0 : Int), x)).2.2.2.1.2.1, (Sp.F104 ((0 : Int), x)).2.2.2.1.2.2.1, (Sp.F104 ((0 : Int), x)).2.2.2.1.2.2.2.1, (Sp.F104 ((0 : Int), x)).2.2.2.1.2.2.2.2.1, (0 : Int), (Sp.F104 ((0 : Int), x)).2.2.2.1.2.2.2.2.2.2), (Sp.F104 ((0 : Int), x)).2.2.2.2))
      else
        (false, (Sp.F104 ((0 : Int), x)).2)
end Go.Proofs.YtpbljgpdhllklaaDoor.Sp
namespace Go.Proofs.YtpbljgpdhllklaaDoor.Sy
def cp85 : Cp := { p := ty106, psh := [], mask := [true], sz := [28], ro := false, ex := false, q := ty106, r := ty4, rsh := (Rsh.one (none)), pre := none, F := Sp.F85 }
theorem va85 (x : ty106.den) : ((evFnP (ctxP PmV3 none GmV3 []) Tryd.f85 ty106 [] [true] [28] false false ty106 (Rsh.one (none)) ty4 noL x)).val (fun _ => (Ty.dflt ty4, Ty.dflt ty106)) (Ty.dflt ty4, Ty.dflt ty106) = Sp.F85 x := by kernel_rfl
theorem se85 (x : ty106.den) : ((evFnP (ctxP PmV3 none GmV3 []) Tryd.f85 ty106 [] [true] [28] false false ty106 (Rsh.one (none)) ty4 noL x)).safe = ((((((x.2.2.1.2.2.1.1 == (0 : Int)) && ((x.2.2.1.2.2.1.2.1 == (0 : Int)) && (x.2.2.1.2.2.1.2.2 == (0 : Int)))) && x.2.2.2.1.2.1) = true → True) ∧ ((((x.2.2.1.2.2.1.1 == (0 : Int)) && ((x.2.2.1.2.2.1.2.1 == (0 : Int)) && (x.2.2.1.2.2.1.2.2 == (0 : Int)))) && x.2.2.2.1.2.1) = false → ((((Sp.F104 ((0 : Int), x)).1 || ((!(x.2.2.1.2.2.1.1 != (0 : Int))) && (Sp.F104 ((0 : Int), x)).2.2.2.2.1.2.1)) = true → True) ∧ (((Sp.F104 ((0 : Int), x)).1 || ((!(x.2.2.1.2.2.1.1 != (0 : Int))) && (Sp.F104 ((0 : Int), x)).2.2.2.2.1.2.1)) = false → ((((!(x.2.2.1.2.2.1.1 != (0 : Int))) || ((Sp.F104 ((0 : Int), x)).2.2.2.1.1.1 != (0 : Int))) = true → True) ∧ (((!(x.2.2.1.2.2.1.1 != (0 : Int))) || ((Sp.F104 ((0 : Int), x)).2.2.2.1.1.1 != (0 : Int))) = false → True))))))) := by kernel_rfl
theorem sa85 (x : ty106.den) (fx : Fit ty106 x) : SafeW ((evFnP (ctxP PmV3 none GmV3 []) Tryd.f85 ty106 [] [true] [28] false false ty106 (Rsh.one (none)) ty4 noL x)) := by
  refine ⟨?_⟩
  rw [se85]
  try dsimp only [Ty.den] at *
  simp only [Fit, maxLen] at fx
  simp only [true_and, IntKind.wrap_i64, IntKind.wrap_u8, IntKind.wrap_u32, IntKind.wrap_u64, Sp.tmod_lit, Sp.tdiv_lit, bne_eq_false_iff_eq, Int.natCast_inj, setE, copyL, sliceL, zrow, List.length_append, List.length_cons, List.length_nil, List.length_set, List.length_replicate, List.length_take, List.length_drop, decide_eq_true_eq, decide_eq_false_iff_not, Bool.or_eq_true, Bool.and_eq_true, Bool.or_eq_false_iff, Bool.and_eq_false_iff, Bool.not_eq_true', Bool.not_eq_false', Bool.not_eq_true, Bool.not_eq_false, beq_iff_eq, beq_eq_false_iff_ne, bne_iff_ne, ne_eq, implies_true, and_true, true_and] at *
  all_goals ((repeat' (first | exact trivial | apply And.intro | intro _)) <;> first | trivial | omega | exact Sp.tmod_nn (by omega) | exact Sp.tmod_lt (by omega) (by omega))
theorem ok85 : CpOk Tryd.prog gdS 85 cp85 :=
  fn_okPU (ctxOkP pgokPmV3 fvok_none gokGmV3 []) rfl Tryd.func85 cp85 (L := noL) (c := bodyOf Tryd.f85) (dflt := (Ty.dflt ty4, Ty.dflt ty106)) rfl (no_loops)
    (safe_noP rfl @sa85) va85
/-! <*newcar.control>.decide -/
end Go.Proofs.YtpbljgpdhllklaaDoor.Sy
namespace Go.Proofs.YtpbljgpdhllklaaDoor.Sp
open Go Go.RowKit Sy
def K87_1 (x : (Int × Int) × (Int × Int × Int × Int × Nat × Nat × Nat × List (Int × Int × Int × Int × Int × Int × Int × Int × Int)) × Int × ((Int × Int) × (Int × Int × Int × Bool × Int) × (Int × Int × Int) × Int × Int × Int × Bool) × (Int × Bool × Int × Bool) × Int) :=
  (Sp.F62 (x.2.1, x.2.2.1, ((Sp.F93 (x.2.1.1, x.2.2.2.1.1, x.2.2.2.2.1.1, x.2.2.2.1.2.2.2.1, x.1)), x.2.2.2.1.2.1, x.2.2.2.1.2.2.1, x.2.2.2.1.2.2.2.1, (Sp.F92 (x.2.1.1, x.2.2.2.1.1, x.2.2.2.2.1.1, x.2.2.2.1.2.2.2.1, x.1)).2.2, (0 : Int), x.2.2.2.1.2.2.2.2.2.2), x.2.2.2.2))
def K87_2 (x : (Int × Int) × (Int × Int × Int × Int × Nat × Nat × Nat × List (Int × Int × Int × Int × Int × Int × Int × Int × Int)) × Int × ((Int × Int) × (Int × Int × Int × Bool × Int) × (Int × Int × Int) × Int × Int × Int × Bool) × (Int × Bool × Int × Bool) × Int) :=
  (Sp.F104 ((Sp.F92 (x.2.1.1, x.2.2.2.1.1, x.2.2.2.2.1.1, x.2.2.2.1.2.2.2.1, x.1)).1, x.2.1, x.2.2.1, ((Sp.F93 (x.2.1.1, x.2.2.2.1.1, x.2.2.2.2.1.1, x.2.2.2.1.2.2.2.1, x.1)), x.2.2.2.1.2.1, x.2.2.2.1.2.2.1, x.2.2.2.1.2.2.2.1, x.2.2.2.1.2.2.2.2.1, (0 : Int), x.2.2.2.1.2.2.2.2.2.2), x.2.2.2.2))
def F87 (x : (Int × Int) × (Int × Int × Int × Int × Nat × Nat × Nat × List (Int × Int × Int × Int × Int × Int × Int × Int × Int)) × Int × ((Int × Int) × (Int × Int × Int × Bool × Int) × (Int × Int × Int) × Int × Int × Int × Bool) × (Int × Bool × Int × Bool) × Int) : (Unit) × ((Int × Int × Int × Int × Nat × Nat × Nat × List (Int × Int × Int × Int × Int × Int × Int × Int × Int)) × Int × ((Int × Int) × (Int × Int × Int × Bool × Int) × (Int × Int × Int) × Int × Int × Int × Bool) × (Int × Bool × Int × Bool) × Int) :=
  bif ((Sp.F92 (x.2.1.1, x.2.2.2.1.1, x.2.2.2.2.1.1, x.2.2.2.1.2.2.2.1, x.1)).1 == (3 : Int)) then
    ((), (x.2.1, x.2.2.1, ((Sp.F93 (x.2.1.1, x.2.2.2.1.1, x.2.2.2.2.1.1, x.2.2.2.1.2.2.2.1, x.1)), (Sp.F105 ((Sp.K87_1 x).1, x.2.2.2.1.2.1, x.2.2.2.2.1.2.2.1, x.2.2.2.2.1.2.2.2, true)).1, x.2.2.2.1.2.2.1, x.2.2.2.1.2.2.2.1, (Sp.F92 (x.2.1.1, x.2.2.2.1.1, x.2.2.2.2.1.1, x.2.2.2.1.2.2.2.1, x.1)).2.2, (0 : Int), x.2.2.2.1.2.2.2.2.2.2), x.2.2.2.2.1, (Sp.F105 ((Sp.K87_1 x).1, x.2.2.2.1.2.1, x.2.2.2.2.1.2.2.1, x.2.2.2.2.1.2.2.2, true)).2))
  else
    bif ((Sp.F92 (x.2.1.1, x.2.2.2.1.1, x.2.2.2.2.1.1, x.2.2.2.1.2.2.2.1, x.1)).1 == (1 : Int)) then
      (bif ((Sp.F92 (x.2.1.1, x.2.2.2.1.1, x.2.2.2.2.1.1, x.2.2.2.1.2.2.2.1, x.1)).1 == (1 : Int)) then
        ((), (Sp.K87_2 x).2)
      else
        bif ((Sp.F106 (x.2.1, x.2.2.1, x.2.2.2.1.2.2.2.2.2.1, x.2.2.2.2.1.1)) != (0 : Int)) then
          ((), (Sp.F104 ((Sp.F106 (x.2.1, x.2.2.1, x.2.2.2.1.2.2.2.2.2.1, x.2.2.2.2.1.1)), x.2.1, x.2.2.1, ((Sp.F93 (x.2.1.1, x.2.2.2.1.1, x.2.2.2.2.1.1, x.2.2.2.1.2.2.2.1, x.1)), x.2.2.2.1.2), x.2.2.2.2)).2)
        else
          ((), (x.2.1, x.2.2.1, ((Sp.F93 (x.2.1.1, x.2.2.2.1.1, x.2.2.2.2.1.1, x.2.2.2.1.2.2.2.1, x.1)), x.2.2.2.1.2.1, x.2.2.2.1.2.2.1, x.2.2.2.1.2.2.2.1, x.2.2.2.1.2.2.2.2.1, (min (IntKind.i64.wrap (x.2.2.2.1.2.2.2.2.2.1 + (1 : Int))) (1000000 : Int)), x.2.2.2.1.2.2.2.2.2.2), x.2.2.2.2.1, (0 : Int))))
    else
      bif ((Sp.F92 (x.2.1.1, x.2.2.2.1.1, x.2.2.2.2.1.1, x.2.2.2.1.2.2.2.1, x.1)).1 == (2 : Int)) then
        ((), (Sp.K87_2 x).2)
      else
        bif ((Sp.F106 (x.2.1, x.2.2.1, x.2.2.2.1.2.2.2.2.2.1, x.2.2.2.2.1.1)) != (0 : Int)) then
          ((), (Sp.F104 ((Sp.F106 (x.2.1, x.2.2.1, x.2.2.2.1.2.2.2.2.2.1, x.2.2.2.2.1.1)), x.2.1, x.2.2.1, ((Sp.F93 (x.2.1.1, x.2.2.2.1.1, x.2.2.2.2.1.1, x.2.2.2.1.2.2.2.1, x.1)), x.2.2.2.1.2), x.2.2.2.2)).2)
        else
          ((), (x.2.1, x.2.2.1, ((Sp.F93 (x.2.1.1, x.2.2.2.1.1, x.2.2.2.2.1.1, x.2.2.2.1.2.2.2.1, x.1)), x.2.2.2.1.2.1, x.2.2.2.1.2.2.1, x.2.2.2.1.2.2.2.1, x.2.2.2.1.2.2.2.2.1, (min (IntKind.i64.wrap (x.2.2.2.1.2.2.2.2.2.1 + (1 : Int))) (1000000 : Int)), x.2.2.2.1.2.2.2.2.2.2), x.2.2.2.2.1, (0 : Int)))
def pre87 (x : (Int × Int) × (Int × Int × Int × Int × Nat × Nat × Nat × List (Int × Int × Int × Int × Int × Int × Int × Int × Int)) × Int × ((Int × Int) × (Int × Int × Int × Bool × Int) × (Int × Int × Int) × Int × Int × Int × Bool) × (Int × Bool × Int × Bool) × Int) : Prop := Sp.CtlOk x.2
end Go.Proofs.YtpbljgpdhllklaaDoor.Sp
namespace Go.Proofs.YtpbljgpdhllklaaDoor.Sy
def cp87 : Cp := { p := (Ty.pair ty26 ty106), psh := [some 2], mask := [true, false], sz := [28], ro := false, ex := false, q := ty106, r := Ty.unit, rsh := Rsh.none, pre := some Sp.pre87, F := Sp.F87 }
theorem va87 (x : (Ty.pair ty26 ty106).den) : ((evFnP (ctxP PmV3 none GmV3 []) Tryd.f87 (Ty.pair ty26 ty106) [some 2] [true, false] [28] false false ty106 Rsh.none Ty.unit noL x)).val (fun _ => (Ty.dflt Ty.unit, Ty.dflt ty106)) (Ty.dflt Ty.unit, Ty.dflt ty106) = Sp.F87 x := by kernel_rfl
theorem se87 (x : (Ty.pair ty26 ty106).den) : ((evFnP (ctxP PmV3 none GmV3 []) Tryd.f87 (Ty.pair ty26 ty106) [some 2] [true, false] [28] false false ty106 Rsh.none Ty.unit noL x)).safe = (((((Sp.F92 (x.2.1.1, x.2.2.2.1.1, x.2.2.2.2.1.1, x.2.2.2.1.2.2.2.1, x.1)).1 == (3 : Int)) = true → ((Sp.pre62 (x.2.1, x.2.2.1, ((Sp.F93 (x.2.1.1, x.2.2.2.1.1, x.2.2.2.2.1.1, x.2.2.2.1.2.2.2.1, x.1)), x.2.2.2.1.2.1, x.2.2.2.1.2.2.1, x.2.2.2.1.2.2.2.1, (Sp.F92 (x.2.1.1, x.2.2.2.1.1, x.2.2.2.2.1.1, x.2.2.2.1.2.2.2.1, x.1)).2.2, (0 : Int), x.2.2.2.1.2.2.2.2.2.2), x.2.2.2.2)) ∧ True)) ∧ (((Sp.F92 (x.2.1.1, x.2.2.2.1.1, x.2.2.2.2.1.1, x.2.2.2.1.2.2.2.1, x.1)).1 == (3 : Int)) = false → ((((Sp.F92 (x.2.1.1, x.2.2.2.1.1, x.2.2.2.2.1.1, x.2.2.2.1.2.2.2.1, x.1)).1 == (1 : Int)) = true → ((((Sp.F92 (x.2.1.1, x.2.2.2.1.1, x.2.2.2.2.1.1, x.2.2.2.1.2.2.2.1, x.1)).1 == (1 : Int)) = true → True) ∧ (((Sp.F92 (x.2.1.1, x.2.2.2.1.1, x.2.2.2.2.1.1, x.2.2.2.1.2.2.2.1, x.1)).1 == (1 : Int)) = false → ((((Sp.F106 (x.2.1, x.2.2.1, x.2.2.2.1.2.2.2.2.2.1, x.2.2.2.2.1.1)) != (0 : Int)) = true → True) ∧ (((Sp.F106 (x.2.1, x.2.2.1, x.2.2.2.1.2.2.2.2.2.1, x.2.2.2.2.1.1)) != (0 : Int)) = false → True))))) ∧ (((Sp.F92 (x.2.1.1, x.2.2.2.1.1, x.2.2.2.2.1.1, x.2.2.2.1.2.2.2.1, x.1)).1 == (1 : Int)) = false → ((((Sp.F92 (x.2.1.1, x.2.2.2.1.1, x.2.2.2.2.1.1, x.2.2.2.1.2.2.2.1, x.1)).1 == (2 : Int)) = true → True) ∧ (((Sp.F92 (x.2.1.1, x.2.2.2.1.1, x.2.2.2.2.1.1, x.2.2.2.1.2.2.2.1, x.1)).1 == (2 : Int)) = false → ((((Sp.F106 (x.2.1, x.2.2.1, x.2.2.2.1.2.2.2.2.2.1, x.2.2.2.2.1.1)) != (0 : Int)) = true → True) ∧ (((Sp.F106 (x.2.1, x.2.2.1, x.2.2.2.1.2.2.2.2.2.1, x.2.2.2.2.1.1)) != (0 : Int)) = false → True))))))))) := by kernel_rfl
theorem sa87 (x : (Ty.pair ty26 ty106).den) (fx : Fit (Ty.pair ty26 ty106) x) (h : Sp.pre87 x) : SafeW ((evFnP (ctxP PmV3 none GmV3 []) Tryd.f87 (Ty.pair ty26 ty106) [some 2] [true, false] [28] false false ty106 Rsh.none Ty.unit noL x)) := by
  refine ⟨?_⟩
  rw [se87]
  try dsimp only [Ty.den] at *
  unfold Sp.pre87 at h
  refine ⟨fun _ => ⟨h, trivial⟩, fun _ => ⟨fun _ => ⟨fun _ => trivial, fun _ => ⟨fun _ => trivial, fun _ => trivial⟩⟩, fun _ => ⟨fun _ => trivial, fun _ => ⟨fun _ => trivial, fun _ => trivial⟩⟩⟩⟩
theorem ok87 : CpOk Tryd.prog gdS 87 cp87 :=
  fn_okPU (ctxOkP pgokPmV3 fvok_none gokGmV3 []) rfl Tryd.func87 cp87 (L := noL) (c := bodyOf Tryd.f87) (dflt := (Ty.dflt Ty.unit, Ty.dflt ty106)) rfl (no_loops)
    (safe_preP rfl @sa87) va87
/-! newcar.Blind -/
end Go.Proofs.YtpbljgpdhllklaaDoor.Sy
namespace Go.Proofs.YtpbljgpdhllklaaDoor.Sp
open Go Go.RowKit Sy
def F30 (x : (Int × Int × Int × Int × Nat × Nat × Nat × List (Int × Int × Int × Int × Int × Int × Int × Int × Int)) × Int × (Int × Int) × (Int × Int × Int × Bool × Int) × (Int × Int × Int) × Int × Int × Int × Bool) : ((Int × Int) × (Int × Int × Int × Bool × Int) × (Int × Int × Int) × Int × Int × Int × Bool) × Int × Int :=
  bif (!(Sp.F58 x)) then
    ((((0 : Int), (0 : Int)), ((0 : Int), (0 : Int), (0 : Int), false, (0 : Int)), ((0 : Int), (0 : Int), (0 : Int)), (0 : Int), (0 : Int), (0 : Int), false), (0 : Int), (1 : Int))
  else
    bif x.2.2.2.2.2.2.2.2 then
      (x.2.2, (0 : Int), (0 : Int))
    else
      ((Sp.F61 ((Sp.nthT x.1.2.2.2.2.2.2.2 x.2.1), (x.2.2.1, (Sp.F63 x.2.2.2.1), (Sp.F64 x.2.2.2.2.1), x.2.2.2.2.2), (0 : Int))).1, (Sp.F61 ((Sp.nthT x.1.2.2.2.2.2.2.2 x.2.1), (x.2.2.1, (Sp.F63 x.2.2.2.1), (Sp.F64 x.2.2.2.2.1), x.2.2.2.2.2), (0 : Int))).2, (0 : Int))
end Go.Proofs.YtpbljgpdhllklaaDoor.Sp
namespace Go.Proofs.YtpbljgpdhllklaaDoor.Sy
def ct30 : Ct := { p := (Ty.pair ty32 (Ty.pair ty3 ty66)), psh := [some 8, none, some 14], r := (Ty.pair ty66 (Ty.pair ty3 ty71)), rsh := (Rsh.tup [some 14, none, none]), pre := none, fresh := none, F := Sp.F30 }
theorem va30 (x : (Ty.pair ty32 (Ty.pair ty3 ty66)).den) : ((evFn (ctxP PmV3 none GmV3 []) Tryd.f30 (Ty.pair ty32 (Ty.pair ty3 ty66)) [some 8, none, some 14] (Rsh.tup [some 14, none, none]) none (Ty.pair ty66 (Ty.pair ty3 ty71)) noL x)).val (fun y => y) (Ty.dflt (Ty.pair ty66 (Ty.pair ty3 ty71))) = Sp.F30 x := by kernel_rfl
theorem se30 (x : (Ty.pair ty32 (Ty.pair ty3 ty66)).den) : ((evFn (ctxP PmV3 none GmV3 []) Tryd.f30 (Ty.pair ty32 (Ty.pair ty3 ty66)) [some 8, none, some 14] (Rsh.tup [some 14, none, none]) none (Ty.pair ty66 (Ty.pair ty3 ty71)) noL x)).safe = ((((!(Sp.F58 x)) = true → True) ∧ ((!(Sp.F58 x)) = false → ((x.2.2.2.2.2.2.2.2 = true → True) ∧ (x.2.2.2.2.2.2.2.2 = false → ((0 ≤ x.2.1 ∧ x.2.1 < ((x.1.2.2.2.2.2.2.2).length : Int)) ∧ True)))))) := by kernel_rfl
theorem sa30 (x : (Ty.pair ty32 (Ty.pair ty3 ty66)).den) (fx : Fit (Ty.pair ty32 (Ty.pair ty3 ty66)) x) : SafeW ((evFn (ctxP PmV3 none GmV3 []) Tryd.f30 (Ty.pair ty32 (Ty.pair ty3 ty66)) [some 8, none, some 14] (Rsh.tup [some 14, none, none]) none (Ty.pair ty66 (Ty.pair ty3 ty71)) noL x)) := by
  refine ⟨?_⟩
  rw [se30]
  try dsimp only [Ty.den] at *
  refine ⟨fun _ => trivial, fun hc => ⟨fun _ => trivial, fun _ => ⟨?_, trivial⟩⟩⟩
  simp only [Bool.not_eq_false'] at hc
  exact (Sp.iscar_b hc).2
theorem ok30 : CtOk Tryd.prog gdS 30 ct30 :=
  fn_okU (ctxOkP pgokPmV3 fvok_none gokGmV3 []) rfl Tryd.func30 (p := (Ty.pair ty32 (Ty.pair ty3 ty66))) (psh := [some 8, none, some 14]) (r := (Ty.pair ty66 (Ty.pair ty3 ty71))) (rsh := (Rsh.tup [some 14, none, none])) (pre := none) (fresh := none) (F := Sp.F30) (L := noL) (c := bodyOf Tryd.f30) (dflt := Ty.dflt (Ty.pair ty66 (Ty.pair ty3 ty71))) rfl (no_loops)
    (safe_no @sa30) va30
def PmV4 : List (Nat × Cp) := (85, cp85) :: (87, cp87) :: PmV3
theorem pgokPmV4 : PGOk PmV4 := pgok_cons ok85 ⟨_, Tryd.func85, by kernel_rfl, by kernel_rfl⟩ (pgok_cons ok87 ⟨_, Tryd.func87, by kernel_rfl, by kernel_rfl⟩ (pgokPmV3))
def GmV4 : List (Nat × Ct) := (30, ct30) :: GmV3
theorem gokGmV4 : GOk GmV4 := gok_cons ok30 ⟨_, Tryd.func30, by kernel_rfl, by kernel_rfl⟩ (gokGmV3)
end Go.Proofs.YtpbljgpdhllklaaDoor.Sy
end

section
/- What every method of the control of a car leaves as it was: the building, the car, the feedback (own work). -/
namespace Go.Proofs.YtpbljgpdhllklaaDoor.Sp
open Go Sy
theorem CtlEq.refl (c : CtlT) : CtlEq c c := ⟨rfl, rfl, rfl⟩
theorem press_keep (x : Int × CtlT) : CtlEq x.2 (Sp.F84 x).2 := by
  unfold Sp.F84
  rw [cond_eq_ite]; split <;> exact ⟨rfl, rfl, rfl⟩
theorem step_keep (x : Int × CtlT) : CtlEq x.2 (Sp.F104 x).2 := by
  unfold Sp.F104
  exact ⟨rfl, rfl, rfl⟩
theorem travel_keep (x : CtlT) : CtlEq x (Sp.F85 x).2 := by
  have hs := step_keep (0, x)
  unfold Sp.F85
  generalize Sp.F104 (0, x) = s at *
  simp only [cond_eq_ite]
  repeat' split
  · exact ⟨rfl, rfl, rfl⟩
  · exact hs
  · exact hs
  · exact hs
theorem cycle_keep (x : CtlT) : CtlEq x (Sp.F86 x).2 := by
  unfold Sp.F86
  simp only [cond_eq_ite]
  repeat' split
  all_goals exact ⟨rfl, rfl, rfl⟩
theorem decide_keep (x : (Int × Int) × CtlT) : CtlEq x.2 (Sp.F87 x).2 := by
  unfold Sp.F87
  simp only [cond_eq_ite]
  repeat' split
  all_goals first | exact ⟨rfl, rfl, rfl⟩ | exact step_keep _
end Go.Proofs.YtpbljgpdhllklaaDoor.Sp
end

section
/- Contracts of functions, by the evaluator (own program gen.py): <*newcar.control>.act. -/
set_option linter.unusedVariables false
set_option linter.unusedSimpArgs false
set_option maxRecDepth 100000
namespace Go.Proofs.YtpbljgpdhllklaaDoor.Sy
open Go Go.RowKit Sp
/-! <*newcar.control>.act -/
end Go.Proofs.YtpbljgpdhllklaaDoor.Sy
namespace Go.Proofs.YtpbljgpdhllklaaDoor.Sp
open Go Go.RowKit Sy
def K60_1 (x : Int × (Int × Int) × (Int × Int × Int × Int × Nat × Nat × Nat × List (Int × Int × Int × Int × Int × Int × Int × Int × Int)) × Int × ((Int × Int) × (Int × Int × Int × Bool × Int) × (Int × Int × Int) × Int × Int × Int × Bool) × (Int × Bool × Int × Bool) × Int) :=
  (Sp.F86 (((bif ((Sp.F84 (x.1, x.2.2)).2.2.2.1.2.1.1 == (0 : Int)) then (Sp.F85 ((Sp.F84 (x.1, x.2.2)).2)).2.1.1 else (Sp.F84 (x.1, x.2.2)).2.1.1), (bif ((Sp.F84 (x.1, x.2.2)).2.2.2.1.2.1.1 == (0 : Int)) then (Sp.F85 ((Sp.F84 (x.1, x.2.2)).2)).2.1.2.1 else (Sp.F84 (x.1, x.2.2)).2.1.2.1), (bif ((Sp.F84 (x.1, x.2.2)).2.2.2.1.2.1.1 == (0 : Int)) then (Sp.F85 ((Sp.F84 (x.1, x.2.2)).2)).2.1.2.2.1 else (Sp.F84 (x.1, x.2.2)).2.1.2.2.1), (bif ((Sp.F84 (x.1, x.2.2)).2.2.2.1.2.1.1 == (0 : Int)) then (Sp.F85 ((Sp.F84 (x.1, x.2.2)).2)).2.1.2.2.2.1 else (Sp.F84 (x.1, x.2.2)).2.1.2.2.2.1), (bif ((Sp.F84 (x.1, x.2.2)).2.2.2.1.2.1.1 == (0 : Int)) then (Sp.F85 ((Sp.F84 (x.1, x.2.2)).2)).2.1.2.2.2.2.1 else (Sp.F84 (x.1, x.2.2)).2.1.2.2.2.2.1), (bif ((Sp.F84 (x.1, x.2.2)).2.2.2.1.2.1.1 == (0 : Int)) then (Sp.F85 ((Sp.F84 (x.1, x.2.2)).2)).2.1.2.2.2.2.2.1 else (Sp.F84 (x.1, x.2.2)).2.1.2.2.2.2.2.1), (bif ((Sp.F84 (x.1, x.2.2)).2.2.2.1.2.1.1 == (0 : Int)) then (Sp.F85 ((Sp.F84 (x.1, x.2.2)).2)).2.1.2.2.2.2.2.2.1 else (Sp.F84 (x.1, x.2.2)).2.1.2.2.2.2.2.2.1), (bif ((Sp.F84 (x.1, x.2.2)).2.2.2.1.2.1.1 == (0 : Int)) then (Sp.F85 ((Sp.F84 (x.1, x.2.2)).2)).2.1.2.2.2.2.2.2.2 else (Sp.F84 (x.1, x.2.2)).2.1.2.2.2.2.2.2.2)), (bif ((Sp.F84 (x.1, x.2.2)).2.2.2.1.2.1.1 == (0 : Int)) then (Sp.F85 ((Sp.F84 (x.1, x.2.2)).2)).2.2.1 else (Sp.F84 (x.1, x.2.2)).2.2.1), (((bif ((Sp.F84 (x.1, x.2.2)).2.2.2.1.2.1.1 == (0 : Int)) then (Sp.F85 ((Sp.F84 (x.1, x.2.2)).2)).2.2.2.1.1.1 else (Sp.F84 (x.1, x.2.2)).2.2.2.1.1.1), (IntKind.i64.wrap ((BitVec.ofInt IntKind.i64.bits (bif ((Sp.F84 (x.1, x.2.2)).2.2.2.1.2.1.1 == (0 : Int)) then (Sp.F85 ((Sp.F84 (x.1, x.2.2)).2)).2.2.2.1.1.2 else (Sp.F84 (x.1, x.2.2)).2.2.2.1.1.2) ||| BitVec.ofInt IntKind.i64.bits (1 : Int)).toNat : Int))), ((1 : Int), (0 : Int), (0 : Int), false, (0 : Int)), ((bif ((Sp.F84 (x.1, x.2.2)).2.2.2.1.2.1.1 == (0 : Int)) then (Sp.F85 ((Sp.F84 (x.1, x.2.2)).2)).2.2.2.1.2.2.1.1 else (Sp.F84 (x.1, x.2.2)).2.2.2.1.2.2.1.1), (bif ((Sp.F84 (x.1, x.2.2)).2.2.2.1.2.1.1 == (0 : Int)) then (Sp.F85 ((Sp.F84 (x.1, x.2.2)).2)).2.2.2.1.2.2.1.2.1 else (Sp.F84 (x.1, x.2.2)).2.2.2.1.2.2.1.2.1), (bif ((Sp.F84 (x.1, x.2.2)).2.2.2.1.2.1.1 == (0 : Int)) then (Sp.F85 ((Sp.F84 (x.1, x.2.2)).2)).2.2.2.1.2.2.1.2.2 else (Sp.F84 (x.1, x.2.2)).2.2.2.1.2.2.1.2.2)), (bif ((Sp.F84 (x.1, x.2.2)).2.2.2.1.2.1.1 == (0 : Int)) then (Sp.F85 ((Sp.F84 (x.1, x.2.2)).2)).2.2.2.1.2.2.2.1 else (Sp.F84 (x.1, x.2.2)).2.2.2.1.2.2.2.1), (0 : Int), (bif ((Sp.F84 (x.1, x.2.2)).2.2.2.1.2.1.1 == (0 : Int)) then (Sp.F85 ((Sp.F84 (x.1, x.2.2)).2)).2.2.2.1.2.2.2.2.2.1 else (Sp.F84 (x.1, x.2.2)).2.2.2.1.2.2.2.2.2.1), (bif ((Sp.F84 (x.1, x.2.2)).2.2.2.1.2.1.1 == (0 : Int)) then (Sp.F85 ((Sp.F84 (x.1, x.2.2)).2)).2.2.2.1.2.2.2.2.2.2 else (Sp.F84 (x.1, x.2.2)).2.2.2.1.2.2.2.2.2.2)), ((bif ((Sp.F84 (x.1, x.2.2)).2.2.2.1.2.1.1 == (0 : Int)) then (Sp.F85 ((Sp.F84 (x.1, x.2.2)).2)).2.2.2.2.1.1 else (Sp.F84 (x.1, x.2.2)).2.2.2.2.1.1), (bif ((Sp.F84 (x.1, x.2.2)).2.2.2.1.2.1.1 == (0 : Int)) then (Sp.F85 ((Sp.F84 (x.1, x.2.2)).2)).2.2.2.2.1.2.1 else (Sp.F84 (x.1, x.2.2)).2.2.2.2.1.2.1), (bif ((Sp.F84 (x.1, x.2.2)).2.2.2.1.2.1.1 == (0 : Int)) then (Sp.F85 ((Sp.F84 (x.1, x.2.2)).2)).2.2.2.2.1.2.2.1 else (Sp.F84 (x.1, x.2.2)).2.2.2.2.1.2.2.1), (bif ((Sp.F84 (x.1, x.2.2)).2.2.2.1.2.1.1 == (0 : Int)) then (Sp.F85 ((Sp.F84 (x.1, x.2.2)).2)).2.2.2.2.1.2.2.2 else (Sp.F84 (x.1, x.2.2)).2.2.2.2.1.2.2.2)), (bif ((Sp.F84 (x.1, x.2.2)).2.2.2.1.2.1.1 == (0 : Int)) then (Sp.F85 ((Sp.F84 (x.1, x.2.2)).2)).2.2.2.2.2 else (Sp.F84 (x.1, x.2.2)).2.2.2.2.2)))
def K60_2 (x : Int × (Int × Int) × (Int × Int × Int × Int × Nat × Nat × Nat × List (Int × Int × Int × Int × Int × Int × Int × Int × Int)) × Int × ((Int × Int) × (Int × Int × Int × Bool × Int) × (Int × Int × Int) × Int × Int × Int × Bool) × (Int × Bool × Int × Bool) × Int) :=
  (Sp.F87 (x.2.1, ((bif ((Sp.F84 (x.1, x.2.2)).2.2.2.1.2.1.1 == (0 : Int)) then (Sp.F85 ((Sp.F84 (x.1, x.2.2)).2)).2.1.1 else (Sp.F84 (x.1, x.2.2)).2.1.1), (bif ((Sp.F84 (x.1, x.2.2)).2.2.2.1.2.1.1 == (0 : Int)) then (Sp.F85 ((Sp.F84 (x.1, x.2.2)).2)).2.1.2.1 else (Sp.F84 (x.1, x.2.2)).2.1.2.1), (bif ((Sp.F84 (x.1, x.2.2)).2.2.2.1.2.1.1 == (0 : Int)) then (Sp.F85 ((Sp.F84 (x.1, x.2.2)).2)).2.1.2.2.1 else (Sp.F84 (x.1, x.2.2)).2.1.2.2.1), (bif ((Sp.F84 (x.1, x.2.2)).2.2.2.1.2.1.1 == (0 : Int)) then (Sp.F85 ((Sp.F84 (x.1, x.2.2)).2)).2.1.2.2.2.1 else (Sp.F84 (x.1, x.2.2)).2.1.2.2.2.1), (bif ((Sp.F84 (x.1, x.2.2)).2.2.2.1.2.1.1 == (0 : Int)) then (Sp.F85 ((Sp.F84 (x.1, x.2.2)).2)).2.1.2.2.2.2.1 else (Sp.F84 (x.1, x.2.2)).2.1.2.2.2.2.1), (bif ((Sp.F84 (x.1, x.2.2)).2.2.2.1.2.1.1 == (0 : Int)) then (Sp.F85 ((Sp.F84 (x.1, x.2.2)).2)).2.1.2.2.2.2.2.1 else (Sp.F84 (x.1, x.2.2)).2.1.2.2.2.2.2.1), (bif ((Sp.F84 (x.1, x.2.2)).2.2.2.1.2.1.1 == (0 : Int)) then (Sp.F85 ((Sp.F84 (x.1, x.2.2)).2)).2.1.2.2.2.2.2.2.1 else (Sp.F84 (x.1, x.2.2)).2.1.2.2.2.2.2.2.1), (bif ((Sp.F84 (x.1, x.2.2)).2.2.2.1.2.1.1 == (0 : Int)) then (Sp.F85 ((Sp.F84 (x.1, x.2.2)).2)).2.1.2.2.2.2.2.2.2 else (Sp.F84 (x.1, x.2.2)).2.1.2.2.2.2.2.2.2)), (bif ((Sp.F84 (x.1, x.2.2)).2.2.2.1.2.1.1 == (0 : Int)) then (Sp.F85 ((Sp.F84 (x.1, x.2.2)).2)).2.2.1 else (Sp.F84 (x.1, x.2.2)).2.2.1), (((bif ((Sp.F84 (x.1, x.2.2)).2.2.2.1.2.1.1 == (0 : Int)) then (Sp.F85 ((Sp.F84 (x.1, x.2.2)).2)).2.2.2.1.1.1 else (Sp.F84 (x.1, x.2.2)).2.2.2.1.1.1), (IntKind.i64.wrap ((BitVec.ofInt IntKind.i64.bits (bif ((Sp.F84 (x.1, x.2.2)).2.2.2.1.2.1.1 == (0 : Int)) then (Sp.F85 ((Sp.F84 (x.1, x.2.2)).2)).2.2.2.1.1.2 else (Sp.F84 (x.1, x.2.2)).2.2.2.1.1.2) ||| BitVec.ofInt IntKind.i64.bits (1 : Int)).toNat : Int))), ((1 : Int), (0 : Int), (0 : Int), false, (0 : Int)), ((bif ((Sp.F84 (x.1, x.2.2)).2.2.2.1.2.1.1 == (0 : Int)) then (Sp.F85 ((Sp.F84 (x.1, x.2.2)).2)).2.2.2.1.2.2.1.1 else (Sp.F84 (x.1, x.2.2)).2.2.2.1.2.2.1.1), (bif ((Sp.F84 (x.1, x.2.2)).2.2.2.1.2.1.1 == (0 : Int)) then (Sp.F85 ((Sp.F84 (x.1, x.2.2)).2)).2.2.2.1.2.2.1.2.1 else (Sp.F84 (x.1, x.2.2)).2.2.2.1.2.2.1.2.1), (bif ((Sp.F84 (x.1, x.2.2)).2.2.2.1.2.1.1 == (0 : Int)) then (Sp.F85 ((Sp.F84 (x.1, x.2.2)).2)).2.2.2.1.2.2.1.2.2 else (Sp.F84 (x.1, x.2.2)).2.2.2.1.2.2.1.2.2)), (bif ((Sp.F84 (x.1, x.2.2)).2.2.2.1.2.1.1 == (0 : Int)) then (Sp.F85 ((Sp.F84 (x.1, x.2.2)).2)).2.2.2.1.2.2.2.1 else (Sp.F84 (x.1, x.2.2)).2.2.2.1.2.2.2.1), (0 : Int), (bif ((Sp.F84 (x.1, x.2.2)).2.2.2.1.2.1.1 == (0 : Int)) then (Sp.F85 ((Sp.F84 (x.1, x.2.2)).2)).2.2.2.1.2.2.2.2.2.1 else (Sp.F84 (x.1, x.2.2)).2.2.2.1.2.2.2.2.2.1), (bif ((Sp.F84 (x.1, x.2.2)).2.2.2.1.2.1.1 == (0 : Int)) then (Sp.F85 ((Sp.F84 (x.1, x.2.2)).2)).2.2.2.1.2.2.2.2.2.2 else (Sp.F84 (x.1, x.2.2)).2.2.2.1.2.2.2.2.2.2)), ((bif ((Sp.F84 (x.1, x.2.2)).2.2.2.1.2.1.1 == (0 : Int)) then (Sp.F85 ((Sp.F84 (x.1, x.2.2)).2)).2.2.2.2.1.1 else (Sp.F84 (x.1, x.2.2)).2.2.2.2.1.1), (bif ((Sp.F84 (x.1, x.2.2)).2.2.2.1.2.1.1 == (0 : Int)) then (Sp.F85 ((Sp.F84 (x.1, x.2.2)).2)).2.2.2.2.1.2.1 else (Sp.F84 (x.1, x.2.2)).2.2.2.2.1.2.1), (bif ((Sp.F84 (x.1, x.2.2)).2.2.2.1.2.1.1 == (0 : Int)) then (Sp.F85 ((Sp.F84 (x.1, x.2.2)).2)).2.2.2.2.1.2.2.1 else (Sp.F84 (x.1, x.2.2)).2.2.2.2.1.2.2.1), (bif ((Sp.F84 (x.1, x.2.2)).2.2.2.1.2.1.1 == (0 : Int)) then (Sp.F85 ((Sp.F84 (x.1, x.2.2)).2)).2.2.2.2.1.2.2.2 else (Sp.F84 (x.1, x.2.2)).2.2.2.2.1.2.2.2)), (bif ((Sp.F84 (x.1, x.2.2)).2.2.2.1.2.1.1 == (0 : Int)) then (Sp.F85 ((Sp.F84 (x.1, x.2.2)).2)).2.2.2.2.2 else (Sp.F84 (x.1, x.2.2)).2.2.2.2.2)))
def K60_3 (x : Int × (Int × Int) × (Int × Int × Int × Int × Nat × Nat × Nat × List (Int × Int × Int × Int × Int × Int × Int × Int × Int)) × Int × ((Int × Int) × (Int × Int × Int × Bool × Int) × (Int × Int × Int) × Int × Int × Int × Bool) × (Int × Bool × Int × Bool) × Int) :=
  (Sp.F86 (((bif ((Sp.F84 (x.1, x.2.2)).2.2.2.1.2.1.1 == (0 : Int)) then (Sp.F85 ((Sp.F84 (x.1, x.2.2)).2)).2.1.1 else (Sp.F84 (x.1, x.2.2)).2.1.1), (bif ((Sp.F84 (x.1, x.2.2)).2.2.2.1.2.1.1 == (0 : Int)) then (Sp.F85 ((Sp.F84 (x.1, x.2.2)).2)).2.1.2.1 else (Sp.F84 (x.1, x.2.2)).2.1.2.1), (bif ((Sp.F84 (x.1, x.2.2)).2.2.2.1.2.1.1 == (0 : Int)) then (Sp.F85 ((Sp.F84 (x.1, x.2.2)).2)).2.1.2.2.1 else (Sp.F84 (x.1, x.2.2)).2.1.2.2.1), (bif ((Sp.F84 (x.1, x.2.2)).2.2.2.1.2.1.1 == (0 : Int)) then (Sp.F85 ((Sp.F84 (x.1, x.2.2)).2)).2.1.2.2.2.1 else (Sp.F84 (x.1, x.2.2)).2.1.2.2.2.1), (bif ((Sp.F84 (x.1, x.2.2)).2.2.2.1.2.1.1 == (0 : Int)) then (Sp.F85 ((Sp.F84 (x.1, x.2.2)).2)).2.1.2.2.2.2.1 else (Sp.F84 (x.1, x.2.2)).2.1.2.2.2.2.1), (bif ((Sp.F84 (x.1, x.2.2)).2.2.2.1.2.1.1 == (0 : Int)) then (Sp.F85 ((Sp.F84 (x.1, x.2.2)).2)).2.1.2.2.2.2.2.1 else (Sp.F84 (x.1, x.2.2)).2.1.2.2.2.2.2.1), (bif ((Sp.F84 (x.1, x.2.2)).2.2.2.1.2.1.1 == (0 : Int)) then (Sp.F85 ((Sp.F84 (x.1, x.2.2)).2)).2.1.2.2.2.2.2.2.1 else (Sp.F84 (x.1, x.2.2)).2.1.2.2.2.2.2.2.1), (bif ((Sp.F84 (x.1, x.2.2)).2.2.2.1.2.1.1 == (0 : Int)) then (Sp.F85 ((Sp.F84 (x.1, x.2.2)).2)).2.1.2.2.2.2.2.2.2 else (Sp.F84 (x.1, x.2.2)).2.1.2.2.2.2.2.2.2)), (bif ((Sp.F84 (x.1, x.2.2)).2.2.2.1.2.1.1 == (0 : Int)) then (Sp.F85 ((Sp.F84 (x.1, x.2.2)).2)).2.2.1 else (Sp.F84 (x.1, x.2.2)).2.2.1), (((bif ((Sp.F84 (x.1, x.2.2)).2.2.2.1.2.1.1 == (0 : Int)) then (Sp.F85 ((Sp.F84 (x.1, x.2.2)).2)).2.2.2.1.1.1 else (Sp.F84 (x.1, x.2.2)).2.2.2.1.1.1), (bif ((Sp.F84 (x.1, x.2.2)).2.2.2.1.2.1.1 == (0 : Int)) then (Sp.F85 ((Sp.F84 (x.1, x.2.2)).2)).2.2.2.1.1.2 else (Sp.F84 (x.1, x.2.2)).2.2.2.1.1.2)), ((bif ((Sp.F84 (x.1, x.2.2)).2.2.2.1.2.1.1 == (0 : Int)) then (Sp.F85 ((Sp.F84 (x.1, x.2.2)).2)).2.2.2.1.2.1.1 else (Sp.F84 (x.1, x.2.2)).2.2.2.1.2.1.1), (bif ((Sp.F84 (x.1, x.2.2)).2.2.2.1.2.1.1 == (0 : Int)) then (Sp.F85 ((Sp.F84 (x.1, x.2.2)).2)).2.2.2.1.2.1.2.1 else (Sp.F84 (x.1, x.2.2)).2.2.2.1.2.1.2.1), (bif ((Sp.F84 (x.1, x.2.2)).2.2.2.1.2.1.1 == (0 : Int)) then (Sp.F85 ((Sp.F84 (x.1, x.2.2)).2)).2.2.2.1.2.1.2.2.1 else (Sp.F84 (x.1, x.2.2)).2.2.2.1.2.1.2.2.1), (bif ((Sp.F84 (x.1, x.2.2)).2.2.2.1.2.1.1 == (0 : Int)) then (Sp.F85 ((Sp.F84 (x.1, x.2.2)).2)).2.2.2.1.2.1.2.2.2.1 else (Sp.F84 (x.1, x.2.2)).2.2.2.1.2.1.2.2.2.1), (bif ((Sp.F84 (x.1, x.2.2)).2.2.2.1.2.1.1 == (0 : Int)) then (Sp.F85 ((Sp.F84 (x.1, x.2.2)).2)).2.2.2.1.2.1.2.2.2.2 else (Sp.F84 (x.1, x.2.2)).2.2.2.1.2.1.2.2.2.2)), ((bif ((Sp.F84 (x.1, x.2.2)).2.2.2.1.2.1.1 == (0 : Int)) then (Sp.F85 ((Sp.F84 (x.1, x.2.2)).2)).2.2.2.1.2.2.1.1 else (Sp.F84 (x.1, x.2.2)).2.2.2.1.2.2.1.1), (bif ((Sp.F84 (x.1, x.2.2)).2.2.2.1.2.1.1 == (0 : Int)) then (Sp.F85 ((Sp.F84 (x.1, x.2.2)).2)).2.2.2.1.2.2.1.2.1 else (Sp.F84 (x.1, x.2.2)).2.2.2.1.2.2.1.2.1), (bif ((Sp.F84 (x.1, x.2.2)).2.2.2.1.2.1.1 == (0 : Int)) then (Sp.F85 ((Sp.F84 (x.1, x.2.2)).2)).2.2.2.1.2.2.1.2.2 else (Sp.F84 (x.1, x.2.2)).2.2.2.1.2.2.1.2.2)), (bif ((Sp.F84 (x.1, x.2.2)).2.2.2.1.2.1.1 == (0 : Int)) then (Sp.F85 ((Sp.F84 (x.1, x.2.2)).2)).2.2.2.1.2.2.2.1 else (Sp.F84 (x.1, x.2.2)).2.2.2.1.2.2.2.1), (bif ((Sp.F84 (x.1, x.2.2)).2.2.2.1.2.1.1 == (0 : Int)) then (Sp.F85 ((Sp.F84 (x.1, x.2.2)).2)).2.2.2.1.2.2.2.2.1 else (Sp.F84 (x.1, x.2.2)).2.2.2.1.2.2.2.2.1), (bif ((Sp.F84 (x.1, x.2.2)).2.2.2.1.2.1.1 == (0 : Int)) then (Sp.F85 ((Sp.F84 (x.1, x.2.2)).2)).2.2.2.1.2.2.2.2.2.1 else (Sp.F84 (x.1, x.2.2)).2.2.2.1.2.2.2.2.2.1), (bif ((Sp.F84 (x.1, x.2.2)).2.2.2.1.2.1.1 == (0 : Int)) then (Sp.F85 ((Sp.F84 (x.1, x.2.2)).2)).2.2.2.1.2.2.2.2.2.2 else (Sp.F84 (x.1, x.2.2)).2.2.2.1.2.2.2.2.2.2)), ((bif ((Sp.F84 (x.1, x.2.2)).2.2.2.1.2.1.1 == (0 : Int)) then (Sp.F85 ((Sp.F84 (x.1, x.2.2)).2)).2.2.2.2.1.1 else (Sp.F84 (x.1, x.2.2)).2.2.2.2.1.1), (bif ((Sp.F84 (x.1, x.2.2)).2.2.2.1.2.1.1 == (0 : Int)) then (Sp.F85 ((Sp.F84 (x.1, x.2.2)).2)).2.2.2.2.1.2.1 else (Sp.F84 (x.1, x.2.2)).2.2.2.2.1.2.1), (bif ((Sp.F84 (x.1, x.2.2)).2.2.2.1.2.1.1 == (0 : Int)) then (Sp.F85 ((Sp.F84 (x.1, x.2.2)).2)).2.2.2.2.1.2.2.1 else (Sp.F84 (x.1, x.2.2)).2.2.2.2.1.2.2.1), (bif ((Sp.F84 (x.1, x.2.2)).2.2.2.1.2.1.1 == (0 : Int)) then (Sp.F85 ((Sp.F84 (x.1, x.2.2)).2)).2.2.2.2.1.2.2.2 else (Sp.F84 (x.1, x.2.2)).2.2.2.2.1.2.2.2)), (bif ((Sp.F84 (x.1, x.2.2)).2.2.2.1.2.1.1 == (0 : Int)) then (Sp.F85 ((Sp.F84 (x.1, x.2.2)).2)).2.2.2.2.2 else (Sp.F84 (x.1, x.2.2)).2.2.2.2.2)))
def K60_4 (x : Int × (Int × Int) × (Int × Int × Int × Int × Nat × Nat × Nat × List (Int × Int × Int × Int × Int × Int × Int × Int × Int)) × Int × ((Int × Int) × (Int × Int × Int × Bool × Int) × (Int × Int × Int) × Int × Int × Int × Bool) × (Int × Bool × Int × Bool) × Int) :=
  (Sp.F87 (x.2.1, ((bif ((Sp.F84 (x.1, x.2.2)).2.2.2.1.2.1.1 == (0 : Int)) then (Sp.F85 ((Sp.F84 (x.1, x.2.2)).2)).2.1.1 else (Sp.F84 (x.1, x.2.2)).2.1.1), (bif ((Sp.F84 (x.1, x.2.2)).2.2.2.1.2.1.1 == (0 : Int)) then (Sp.F85 ((Sp.F84 (x.1, x.2.2)).2)).2.1.2.1 else (Sp.F84 (x.1, x.2.2)).2.1.2.1), (bif ((Sp.F84 (x.1, x.2.2)).2.2.2.1.2.1.1 == (0 : Int)) then (Sp.F85 ((Sp.F84 (x.1, x.2.2)).2)).2.1.2.2.1 else (Sp.F84 (x.1, x.2.2)).2.1.2.2.1), (bif ((Sp.F84 (x.1, x.2.2)).2.2.2.1.2.1.1 == (0 : Int)) then (Sp.F85 ((Sp.F84 (x.1, x.2.2)).2)).2.1.2.2.2.1 else (Sp.F84 (x.1, x.2.2)).2.1.2.2.2.1), (bif ((Sp.F84 (x.1, x.2.2)).2.2.2.1.2.1.1 == (0 : Int)) then (Sp.F85 ((Sp.F84 (x.1, x.2.2)).2)).2.1.2.2.2.2.1 else (Sp.F84 (x.1, x.2.2)).2.1.2.2.2.2.1), (bif ((Sp.F84 (x.1, x.2.2)).2.2.2.1.2.1.1 == (0 : Int)) then (Sp.F85 ((Sp.F84 (x.1, x.2.2)).2)).2.1.2.2.2.2.2.1 else (Sp.F84 (x.1, x.2.2)).2.1.2.2.2.2.2.1), (bif ((Sp.F84 (x.1, x.2.2)).2.2.2.1.2.1.1 == (0 : Int)) then (Sp.F85 ((Sp.F84 (x.1, x.2.2)).2)).2.1.2.2.2.2.2.2.1 else (Sp.F84 (x.1, x.2.2)).2.1.2.2.2.2.2.2.1), (bif ((Sp.F84 (x.1, x.2.2)).2.2.2.1.2.1.1 == (0 : Int)) then (Sp.F85 ((Sp.F84 (x.1, x.2.2)).2)).2.1.2.2.2.2.2.2.2 else (Sp.F84 (x.1, x.2.2)).2.1.2.2.2.2.2.2.2)), (bif ((Sp.F84 (x.1, x.2.2)).2.2.2.1.2.1.1 == (0 : Int)) then (Sp.F85 ((Sp.F84 (x.1, x.2.2)).2)).2.2.1 else (Sp.F84 (x.1, x.2.2)).2.2.1), (((bif ((Sp.F84 (x.1, x.2.2)).2.2.2.1.2.1.1 == (0 : Int)) then (Sp.F85 ((Sp.F84 (x.1, x.2.2)).2)).2.2.2.1.1.1 else (Sp.F84 (x.1, x.2.2)).2.2.2.1.1.1), (bif ((Sp.F84 (x.1, x.2.2)).2.2.2.1.2.1.1 == (0 : Int)) then (Sp.F85 ((Sp.F84 (x.1, x.2.2)).2)).2.2.2.1.1.2 else (Sp.F84 (x.1, x.2.2)).2.2.2.1.1.2)), ((bif ((Sp.F84 (x.1, x.2.2)).2.2.2.1.2.1.1 == (0 : Int)) then (Sp.F85 ((Sp.F84 (x.1, x.2.2)).2)).2.2.2.1.2.1.1 else (Sp.F84 (x.1, x.2.2)).2.2.2.1.2.1.1), (bif ((Sp.F84 (x.1, x.2.2)).2.2.2.1.2.1.1 == (0 : Int)) then (Sp.F85 ((Sp.F84 (x.1, x.2.2)).2)).2.2.2.1.2.1.2.1 else (Sp.F84 (x.1, x.2.2)).2.2.2.1.2.1.2.1), (bif ((Sp.F84 (x.1, x.2.2)).2.2.2.1.2.1.1 == (0 : Int)) then (Sp.F85 ((Sp.F84 (x.1, x.2.2)).2)).2.2.2.1.2.1.2.2.1 else (Sp.F84 (x.1, x.2.2)).2.2.2.1.2.1.2.2.1), (bif ((Sp.F84 (x.1, x.2.2)).2.2.2.1.2.1.1 == (0 : Int)) then (Sp.F85 ((Sp.F84 (x.1, x.2.2)).2)).2.2.2.1.2.1.2.2.2.1 else (Sp.F84 (x.1, x.2.2)).2.2.2.1.2.1.2.2.2.1), (bif ((Sp.F84 (x.1, x.2.2)).2.2.2.1.2.1.1 == (0 : Int)) then (Sp.F85 ((Sp.F84 (x.1, x.2.2)).2)).2.2.2.1.2.1.2.2.2.2 else (Sp.F84 (x.1, x.2.2)).2.2.2.1.2.1.2.2.2.2)), ((bif ((Sp.F84 (x.1, x.2.2)).2.2.2.1.2.1.1 == (0 : Int)) then (Sp.F85 ((Sp.F84 (x.1, x.2.2)).2)).2.2.2.1.2.2.1.1 else (Sp.F84 (x.1, x.2.2)).2.2.2.1.2.2.1.1), (bif ((Sp.F84 (x.1, x.2.2)).2.2.2.1.2.1.1 == (0 : Int)) then (Sp.F85 ((Sp.F84 (x.1, x.2.2)).2)).2.2.2.1.2.2.1.2.1 else (Sp.F84 (x.1, x.2.2)).2.2.2.1.2.2.1.2.1), (bif ((Sp.F84 (x.1, x.2.2)).2.2.2.1.2.1.1 == (0 : Int)) then (Sp.F85 ((Sp.F84 (x.1, x.2.2)).2)).2.2.2.1.2.2.1.2.2 else (Sp.F84 (x.1, x.2.2)).2.2.2.1.2.2.1.2.2)), (bif ((Sp.F84 (x.1, x.2.2)).2.2.2.1.2.1.1 == (0 : Int)) then (Sp.F85 ((Sp.F84 (x.1, x.2.2)).2)).2.2.2.1.2.2.2.1 else (Sp.F84 (x.1, x.2.2)).2.2.2.1.2.2.2.1), (bif ((Sp.F84 (x.1, x.2.2)).2.2.2.1.2.1.1 == (0 : Int)) then (Sp.F85 ((Sp.F84 (x.1, x.2.2)).2)).2.2.2.1.2.2.2.2.1 else (Sp.F84 (x.1, x.2.2)).2.2.2.1.2.2.2.2.1), (bif ((Sp.F84 (x.1, x.2.2)).2.2.2.1.2.1.1 == (0 : Int)) then (Sp.F85 ((Sp.F84 (x.1, x.2.2)).2)).2.2.2.1.2.2.2.2.2.1 else (Sp.F84 (x.1, x.2.2)).2.2.2.1.2.2.2.2.2.1), (bif ((Sp.F84 (x.1, x.2.2)).2.2.2.1.2.1.1 == (0 : Int)) then (Sp.F85 ((Sp.F84 (x.1, x.2.2)).2)).2.2.2.1.2.2.2.2.2.2 else (Sp.F84 (x.1, x.2.2)).2.2.2.1.2.2.2.2.2.2)), ((bif ((Sp.F84 (x.1, x.2.2)).2.2.2.1.2.1.1 == (0 : Int)) then (Sp.F85 ((Sp.F84 (x.1, x.2.2)).2)).2.2.2.2.1.1 else (Sp.F84 (x.1, x.2.2)).2.2.2.2.1.1), (bif ((Sp.F84 (x.1, x.2.2)).2.2.2.1.2.1.1 == (0 : Int)) then (Sp.F85 ((Sp.F84 (x.1, x.2.2)).2)).2.2.2.2.1.2.1 else (Sp.F84 (x.1, x.2.2)).2.2.2.2.1.2.1), (bif ((Sp.F84 (x.1, x.2.2)).2.2.2.1.2.1.1 == (0 : Int)) then (Sp.F85 ((Sp.F84 (x.1, x.2.2)).2)).2.2.2.2.1.2.2.1 else (Sp.F84 (x.1, x.2.2)).2.2.2.2.1.2.2.1), (bif ((Sp.F84 (x.1, x.2.2)).2.2.2.1.2.1.1 == (0 : Int)) then (Sp.F85 ((Sp.F84 (x.1, x.2.2)).2)).2.2.2.2.1.2.2.2 else (Sp.F84 (x.1, x.2.2)).2.2.2.2.1.2.2.2)), (bif ((Sp.F84 (x.1, x.2.2)).2.2.2.1.2.1.1 == (0 : Int)) then (Sp.F85 ((Sp.F84 (x.1, x.2.2)).2)).2.2.2.2.2 else (Sp.F84 (x.1, x.2.2)).2.2.2.2.2)))
def F60 (x : Int × (Int × Int) × (Int × Int × Int × Int × Nat × Nat × Nat × List (Int × Int × Int × Int × Int × Int × Int × Int × Int)) × Int × ((Int × Int) × (Int × Int × Int × Bool × Int) × (Int × Int × Int) × Int × Int × Int × Bool) × (Int × Bool × Int × Bool) × Int) : (Unit) × ((Int × Int × Int × Int × Nat × Nat × Nat × List (Int × Int × Int × Int × Int × Int × Int × Int × Int)) × Int × ((Int × Int) × (Int × Int × Int × Bool × Int) × (Int × Int × Int) × Int × Int × Int × Bool) × (Int × Bool × Int × Bool) × Int) :=
  bif (((Sp.F84 (x.1, x.2.2)).2.2.2.1.2.1.1 == (0 : Int)) && (!((Sp.F85 ((Sp.F84 (x.1, x.2.2)).2)).1))) then
    ((), (((bif ((Sp.F84 (x.1, x.2.2)).2.2.2.1.2.1.1 == (0 : Int)) then (Sp.F85 ((Sp.F84 (x.1, x.2.2)).2)).2.1.1 else (Sp.F84 (x.1, x.2.2)).2.1.1), (bif ((Sp.F84 (x.1, x.2.2)).2.2.2.1.2.1.1 == (0 : Int)) then (Sp.F85 ((Sp.F84 (x.1, x.2.2)).2)).2.1.2.1 else (Sp.F84 (x.1, x.2.2)).2.1.2.1), (bif ((Sp.F84 (x.1, x.2.2)).2.2.2.1.2.1.1 == (0 : Int)) then (Sp.F85 ((Sp.F84 (x.1, x.2.2)).2)).2.1.2.2.1 else (Sp.F84 (x.1, x.2.2)).2.1.2.2.1), (bif ((Sp.F84 (x.1, x.2.2)).2.2.2.1.2.1.1 == (0 : Int)) then (Sp.F85 ((Sp.F84 (x.1, x.2.2)).2)).2.1.2.2.2.1 else (Sp.F84 (x.1, x.2.2)).2.1.2.2.2.1), (bif ((Sp.F84 (x.1, x.2.2)).2.2.2.1.2.1.1 == (0 : Int)) then (Sp.F85 ((Sp.F84 (x.1, x.2.2)).2)).2.1.2.2.2.2.1 else (Sp.F84 (x.1, x.2.2)).2.1.2.2.2.2.1), (bif ((Sp.F84 (x.1, x.2.2)).2.2.2.1.2.1.1 == (0 : Int)) then (Sp.F85 ((Sp.F84 (x.1, x.2.2)).2)).2.1.2.2.2.2.2.1 else (Sp.F84 (x.1, x.2.2)).2.1.2.2.2.2.2.1), (bif ((Sp.F84 (x.1, x.2.2)).2.2.2.1.2.1.1 == (0 : Int)) then (Sp.F85 ((Sp.F84 (x.1, x.2.2)).2)).2.1.2.2.2.2.2.2.1 else (Sp.F84 (x.1, x.2.2)).2.1.2.2.2.2.2.2.1), (bif ((Sp.F84 (x.1, x.2.2)).2.2.2.1.2.1.1 == (0 : Int)) then (Sp.F85 ((Sp.F84 (x.1, x.2.2)).2)).2.1.2.2.2.2.2.2.2 else (Sp.F84 (x.1, x.2.2)).2.1.2.2.2.2.2.2.2)), (bif ((Sp.F84 (x.1, x.2.2)).2.2.2.1.2.1.1 == (0 : Int)) then (Sp.F85 ((Sp.F84 (x.1, x.2.2)).2)).2.2.1 else (Sp.F84 (x.1, x.2.2)).2.2.1), (((bif ((Sp.F84 (x.1, x.2.2)).2.2.2.1.2.1.1 == (0 : Int)) then (Sp.F85 ((Sp.F84 (x.1, x.2.2)).2)).2.2.2.1.1.1 else (Sp.F84 (x.1, x.2.2)).2.2.2.1.1.1), (bif ((Sp.F84 (x.1, x.2.2)).2.2.2.1.2.1.1 == (0 : Int)) then (Sp.F85 ((Sp.F84 (x.1, x.2.2)).2)).2.2.2.1.1.2 else (Sp.F84 (x.1, x.2.2)).2.2.2.1.1.2)), ((bif ((Sp.F84 (x.1, x.2.2)).2.2.2.1.2.1.1 == (0 : Int)) then (Sp.F85 ((Sp.F84 (x.1, x.2.2)).2)).2.2.2.1.2.1.1 else (Sp.F84 (x.1, x.2.2)).2.2.2.1.2.1.1), (bif ((Sp.F84 (x.1, x.2.2)).2.2.2.1.2.1.1 == (0 : Int)) then (Sp.F85 ((Sp.F84 (x.1, x.2.2)).2)).2.2.2.1.2.1.2.1 else (Sp.F84 (x.1, x.2.2)).2.2.2.1.2.1.2.1), (bif ((Sp.F84 (x.1, x.2.2)).2.2.2.1.2.1.1 == (0 : Int)) then (Sp.F85 ((Sp.F84 (x.1, x.2.2)).2)).2.2.2.1.2.1.2.2.1 else (Sp.F84 (x.1, x.2.2)).2.2.2.1.2.1.2.2.1), (bif ((Sp.F84 (x.1, x.2.2)).2.2.2.1.2.1.1 == (0 : Int)) then (Sp.F85 ((Sp.F84 (x.1, x.2.2)).2)).2.2.2.1.2.1.2.2.2.1 else (Sp.F84 (x.1, x.2.2)).2.2.2.1.2.1.2.2.2.1), (bif ((Sp.F84 (x.1, x.2.2)).2.2.2.1.2.1.1 == (0 : Int)) then (Sp.F85 ((Sp.F84 (x.1, x.2.2)).2)).2.2.2.1.2.1.2.2.2.2 else (Sp.F84 (x.1, x.2.2)).2.2.2.1.2.1.2.2.2.2)), ((bif ((Sp.F84 (x.1, x.2.2)).2.2.2.1.2.1.1 == (0 : Int)) then (Sp.F85 ((Sp.F84 (x.1, x.2.2)).2)).2.2.2.1.2.2.1.1 else (Sp.F84 (x.1, x.2.2)).2.2.2.1.2.2.1.1), (bif ((Sp.F84 (x.1, x.2.2)).2.2.2.1.2.1.1 == (0 : Int)) then (Sp.F85 ((Sp.F84 (x.1, x.2.2)).2)).2.2.2.1.2.2.1.2.1 else (Sp.F84 (x.1, x.2.2)).2.2.2.1.2.2.1.2.1), (bif ((Sp.F84 (x.1, x.2.2)).2.2.2.1.2.1.1 == (0 : Int)) then (Sp.F85 ((Sp.F84 (x.1, x.2.2)).2)).2.2.2.1.2.2.1.2.2 else (Sp.F84 (x.1, x.2.2)).2.2.2.1.2.2.1.2.2)), (bif ((Sp.F84 (x.1, x.2.2)).2.2.2.1.2.1.1 == (0 : Int)) then (Sp.F85 ((Sp.F84 (x.1, x.2.2)).2)).2.2.2.1.2.2.2.1 else (Sp.F84 (x.1, x.2.2)).2.2.2.1.2.2.2.1), (bif ((Sp.F84 (x.1, x.2.2)).2.2.2.1.2.1.1 == (0 : Int)) then (Sp.F85 ((Sp.F84 (x.1, x.2.2)).2)).2.2.2.1.2.2.2.2.1 else (Sp.F84 (x.1, x.2.2)).2.2.2.1.2.2.2.2.1), (bif ((Sp.F84 (x.1, x.2.2)).2.2.2.1.2.1.1 == (0 : Int)) then (Sp.F85 ((Sp.F84 (x.1, x.2.2)).2)).2.2.2.1.2.2.2.2.2.1 else (Sp.F84 (x.1, x.2.2)).2.2.2.1.2.2.2.2.2.1), (bif ((Sp.F84 (x.1, x.2.2)).2.2.2.1.2.1.1 == (0 : Int)) then (Sp.F85 ((Sp.F84 (x.1, x.2.2)).2)).2.2.2.1.2.2.2.2.2.2 else (Sp.F84 (x.1, x.2.2)).2.2.2.1.2.2.2.2.2.2)), ((bif ((Sp.F84 (x.1, x.2.2)).2.2.2.1.2.1.1 == (0 : Int)) then (Sp.F85 ((Sp.F84 (x.1, x.2.2)).2)).2.2.2.2.1.1 else (Sp.F84 (x.1, x.2.2)).2.2.2.2.1.1), (bif ((Sp.F84 (x.1, x.2.2)).2.2.2.1.2.1.1 == (0 : Int)) then (Sp.F85 ((Sp.F84 (x.1, x.2.2)).2)).2.2.2.2.1.2.1 else (Sp.F84 (x.1, x.2.2)).2.2.2.2.1.2.1), (bif ((Sp.F84 (x.1, x.2.2)).2.2.2.1.2.1.1 == (0 : Int)) then (Sp.F85 ((Sp.F84 (x.1, x.2.2)).2)).2.2.2.2.1.2.2.1 else (Sp.F84 (x.1, x.2.2)).2.2.2.2.1.2.2.1), (bif ((Sp.F84 (x.1, x.2.2)).2.2.2.1.2.1.1 == (0 : Int)) then (Sp.F85 ((Sp.F84 (x.1, x.2.2)).2)).2.2.2.2.1.2.2.2 else (Sp.F84 (x.1, x.2.2)).2.2.2.2.1.2.2.2)), (bif ((Sp.F84 (x.1, x.2.2)).2.2.2.1.2.1.1 == (0 : Int)) then (Sp.F85 ((Sp.F84 (x.1, x.2.2)).2)).2.2.2.2.2 else (Sp.F84 (x.1, x.2.2)).2.2.2.2.2)))
  else
    bif (((bif ((Sp.F84 (x.1, x.2.2)).2.2.2.1.2.1.1 == (0 : Int)) then (Sp.F85 ((Sp.F84 (x.1, x.2.2)).2)).2.2.2.1.2.1.1 else (Sp.F84 (x.1, x.2.2)).2.2.2.1.2.1.1) == (0 : Int)) && ((bif ((Sp.F84 (x.1, x.2.2)).2.2.2.1.2.1.1 == (0 : Int)) then (Sp.F85 ((Sp.F84 (x.1, x.2.2)).2)).2.2.2.2.1.2.2.1 else (Sp.F84 (x.1, x.2.2)).2.2.2.2.1.2.2.1) != (2 : Int))) then
      (bif ((1 : Int) != (0 : Int)) then
        ((), (Sp.K60_1 x).2)
      else
        ((), (Sp.K60_2 x).2))
    else
      bif ((bif ((Sp.F84 (x.1, x.2.2)).2.2.2.1.2.1.1 == (0 : Int)) then (Sp.F85 ((Sp.F84 (x.1, x.2.2)).2)).2.2.2.1.2.1.1 else (Sp.F84 (x.1, x.2.2)).2.2.2.1.2.1.1) != (0 : Int)) then
        ((), (Sp.K60_3 x).2)
      else
        ((), (Sp.K60_4 x).2)
def pre60 (x : Int × (Int × Int) × (Int × Int × Int × Int × Nat × Nat × Nat × List (Int × Int × Int × Int × Int × Int × Int × Int × Int)) × Int × ((Int × Int) × (Int × Int × Int × Bool × Int) × (Int × Int × Int) × Int × Int × Int × Bool) × (Int × Bool × Int × Bool) × Int) : Prop := Sp.CtlOk x.2.2
end Go.Proofs.YtpbljgpdhllklaaDoor.Sp
namespace Go.Proofs.YtpbljgpdhllklaaDoor.Sy
def cp60 : Cp := { p := (Ty.pair ty24 (Ty.pair ty26 ty106)), psh := [none, some 2], mask := [true, false, false], sz := [28], ro := false, ex := false, q := ty106, r := Ty.unit, rsh := Rsh.none, pre := some Sp.pre60, F := Sp.F60 }
theorem va60 (x : (Ty.pair ty24 (Ty.pair ty26 ty106)).den) : ((evFnP (ctxP PmV4 none GmV4 []) Tryd.f60 (Ty.pair ty24 (Ty.pair ty26 ty106)) [none, some 2] [true, false, false] [28] false false ty106 Rsh.none Ty.unit noL x)).val (fun _ => (Ty.dflt Ty.unit, Ty.dflt ty106)) (Ty.dflt Ty.unit, Ty.dflt ty106) = Sp.F60 x := by kernel_rfl
theorem se60 (x : (Ty.pair ty24 (Ty.pair ty26 ty106)).den) : ((evFnP (ctxP PmV4 none GmV4 []) Tryd.f60 (Ty.pair ty24 (Ty.pair ty26 ty106)) [none, some 2] [true, false, false] [28] false false ty106 Rsh.none Ty.unit noL x)).safe = (((Sp.pre84 (x.1, x.2.2)) ∧ (((((Sp.F84 (x.1, x.2.2)).2.2.2.1.2.1.1 == (0 : Int)) && (!((Sp.F85 ((Sp.F84 (x.1, x.2.2)).2)).1))) = true → True) ∧ ((((Sp.F84 (x.1, x.2.2)).2.2.2.1.2.1.1 == (0 : Int)) && (!((Sp.F85 ((Sp.F84 (x.1, x.2.2)).2)).1))) = false → (((((bif ((Sp.F84 (x.1, x.2.2)).2.2.2.1.2.1.1 == (0 : Int)) then (Sp.F85 ((Sp.F84 (x.1, x.2.2)).2)).2.2.2.1.2.1.1 else (Sp.F84 (x.1, x.2.2)).2.2.2.1.2.1.1) == (0 : Int)) && ((bif ((Sp.F84 (x.1, x.2.2)).2.2.2.1.2.1.1 == (0 : Int)) then (Sp.F85 ((Sp.F84 (x.1, x.2.2)).2)).2.2.2.2.1.2.2.1 else (Sp.F84 (x.1, x.2.2)).2.2.2.2.1.2.2.1) != (2 : Int))) = true → ((((1 : Int) != (0 : Int)) = true → ((Sp.pre86 (((bif ((Sp.F84 (x.1, x.2.2)).2.2.2.1.2.1.1 == (0 : Int)) then (Sp.F85 ((Sp.F84 (x.1, x.2.2)).2)).2.1.1 else (Sp.F84 (x.1, x.2.2)).2.1.1), (bif ((Sp.F84 (x.1, x.2.2)).2.2.2.1.2.1.1 == (0 : Int)) then (Sp.F85 ((Sp.F84 (x.1, x.2.2)).2)).2.1.2.1 else (Sp.F84 (x.1, x.2.2)).2.1.2.1), (bif ((Sp.F84 (x.1, x.2.2)).2.2.2.1.2.1.1 == (0 : Int)) then (Sp.F85 ((Sp.F84 (x.1, x.2.2)).2)).2.1.2.2.1 else (Sp.F84 (x.1, x.2.2)).2.1.2.2.1), (bif ((Sp.F84 (x.1, x.2.2)).2.2.2.1.2.1.1 == (0 : Int)) then (Sp.F85 ((Sp.F84 (x.1, x.2.2)).2)).2.1.2.2.2.1 else (Sp.F84 (x.1, x.2.2)).2.1.2.2.2.1), (bif ((Sp.F84 (x.1, x.2.2)).2.2.2.1.2.1.1 == (0 : Int)) then (Sp.F85 ((Sp.F84 (x.1, x.2.2)).2)).2.1.2.2.2.2.1 else (Sp.F84 (x.1, x.2.2)).2.1.2.2.2.2.1), (bif ((Sp.F84 (x.1, x.2.2)).2.2.2.1.2.1.1 == (0 : Int)) then (Sp.F85 ((Sp.F84 (x.1, x.2.2)).2)).2.1.2.2.2.2.2.1 else (Sp.F84 (x.1, x.2.2)).2.1.2.2.2.2.2.1), (bif ((Sp.F84 (x.1, x.2.2)).2.2.2.1.2.1.1 == (0 : Int)) then (Sp.F85 ((Sp.F84 (x.1, x.2.2)).2)).2.1.2.2.2.2.2.2.1 else (Sp.F84 (x.1, x.2.2)).2.1.2.2.2.2.2.2.1), (bif ((Sp.F84 (x.1, x.2.2)).2.2.2.1.2.1.1 == (0 : Int)) then (Sp.F85 ((Sp.F84 (x.1, x.2.2)).2)).2.1.2.2.2.2.2.2.2 else (Sp.F84 (x.1, x.2.2)).2.1.2.2.2.2.2.2.2)), (bif ((Sp.F84 (x.1, x.2.2)).2.2.2.1.2.1.1 == (0 : Int)) then (Sp.F85 ((Sp.F84 (x.1, x.2.2)).2)).2.2.1 else (Sp.F84 (x.1, x.2.2)).2.2.1), (((bif ((Sp.F84 (x.1, x.2.2)).2.2.2.1.2.1.1 == (0 : Int)) then (Sp.F85 ((Sp.F84 (x.1, x.2.2)).2)).2.2.2.1.1.1 else (Sp.F84 (x.1, x.2.2)).2.2.2.1.1.1), (IntKind.i64.wrap ((BitVec.ofInt IntKind.i64.bits (bif ((Sp.F84 (x.1, x.2.2)).2.2.2.1.2.1.1 == (0 : Int)) then (Sp.F85 ((Sp.F84 (x.1, x.2.2)).2)).2.2.2.1.1.2 else (Sp.F84 (x.1, x.2.2)).2.2.2.1.1.2) ||| BitVec.ofInt IntKind.i64.bits (1 : Int)).toNat : Int))), ((1 : Int), (0 : Int), (0 : Int), false, (0 : Int)), ((bif ((Sp.F84 (x.1, x.2.2)).2.2.2.1.2.1.1 == (0 : Int)) then (Sp.F85 ((Sp.F84 (x.1, x.2.2)).2)).2.2.2.1.2.2.1.1 else (Sp.F84 (x.1, x.2.2)).2.2.2.1.2.2.1.1), (bif ((Sp.F84 (x.1, x.2.2)).2.2.2.1.2.1.1 == (0 : Int)) then (Sp.F85 ((Sp.F84 (x.1, x.2.2)).2)).2.2.2.1.2.2.1.2.1 else (Sp.F84 (x.1, x.2.2)).2.2.2.1.2.2.1.2.1), (bif ((Sp.F84 (x.1, x.2.2)).2.2.2.1.2.1.1 == (0 : Int)) then (Sp.F85 ((Sp.F84 (x.1, x.2.2)).2)).2.2.2.1.2.2.1.2.2 else (Sp.F84 (x.1, x.2.2)).2.2.2.1.2.2.1.2.2)), (bif ((Sp.F84 (x.1, x.2.2)).2.2.2.1.2.1.1 == (0 : Int)) then (Sp.F85 ((Sp.F84 (x.1, x.2.2)).2)).2.2.2.1.2.2.2.1 else (Sp.F84 (x.1, x.2.2)).2.2.2.1.2.2.2.1), (0 : Int), (bif ((Sp.F84 (x.1, x.2.2)).2.2.2.1.2.1.1 == (0 : Int)) then (Sp.F85 ((Sp.F84 (x.1, x.2.2)).2)).2.2.2.1.2.2.2.2.2.1 else (Sp.F84 (x.1, x.2.2)).2.2.2.1.2.2.2.2.2.1), (bif ((Sp.F84 (x.1, x.2.2)).2.2.2.1.2.1.1 == (0 : Int)) then (Sp.F85 ((Sp.F84 (x.1, x.2.2)).2)).2.2.2.1.2.2.2.2.2.2 else (Sp.F84 (x.1, x.2.2)).2.2.2.1.2.2.2.2.2.2)), ((bif ((Sp.F84 (x.1, x.2.2)).2.2.2.1.2.1.1 == (0 : Int)) then (Sp.F85 ((Sp.F84 (x.1, x.2.2)).2)).2.2.2.2.1.1 else (Sp.F84 (x.1, x.2.2)).2.2.2.2.1.1), (bif ((Sp.F84 (x.1, x.2.2)).2.2.2.1.2.1.1 == (0 : Int)) then (Sp.F85 ((Sp.F84 (x.1, x.2.2)).2)).2.2.2.2.1.2.1 else (Sp.F84 (x.1, x.2.2)).2.2.2.2.1.2.1), (bif ((Sp.F84 (x.1, x.2.2)).2.2.2.1.2.1.1 == (0 : Int)) then (Sp.F85 ((Sp.F84 (x.1, x.2.2)).2)).2.2.2.2.1.2.2.1 else (Sp.F84 (x.1, x.2.2)).2.2.2.2.1.2.2.1), (bif ((Sp.F84 (x.1, x.2.2)).2.2.2.1.2.1.1 == (0 : Int)) then (Sp.F85 ((Sp.F84 (x.1, x.2.2)).2)).2.2.2.2.1.2.2.2 else (Sp.F84 (x.1, x.2.2)).2.2.2.2.1.2.2.2)), (bif ((Sp.F84 (x.1, x.2.2)).2.2.2.1.2.1.1 == (0 : Int)) then (Sp.F85 ((Sp.F84 (x.1, x.2.2)).2)).2.2.2.2.2 else (Sp.F84 (x.1, x.2.2)).2.2.2.2.2))) ∧ True)) ∧ (((1 : Int) != (0 : Int)) = false → ((Sp.pre87 (x.2.1, ((bif ((Sp.F84 (x.1, x.2.2)).2.2.2.1.2.1.1 == (0 : Int)) then (Sp.F85 ((Sp.F84 (x.1, x.2.2)).2)).2.1.1 else (Sp.F84 (x.1, x.2.2)).2.1.1), (bif ((Sp.F84 (x.1, x.2.2)).2.2.2.1.2.1.1 == (0 : Int)) then (Sp.F85 ((Sp.F84 (x.1, x.2.2)).2)).2.1.2.1 else (Sp.F84 (x.1, x.2.2)).2.1.2.1), (bif ((Sp.F84 (x.1, x.2.2)).2.2.2.1.2.1.1 == (0 : Int)) then (Sp.F85 ((Sp.F84 (x.1, x.2.2)).2)).2.1.2.2.1 else (Sp.F84 (x.1, x.2.2)).2.1.2.2.1), (bif ((Sp.F84 (x.1, x.2.2)).2.2.2.1.2.1.1 == (0 : Int)) then (Sp.F85 ((Sp.F84 (x.1, x.2.2)).2)).2.1.2.2.2.1 else (Sp.F84 (x.1, x.2.2)).2.1.2.2.2.1), (bif ((Sp.F84 (x.1, x.2.2)).2.2.2.1.2.1.1 == (0 : Int)) then (Sp.F85 ((Sp.F84 (x.1, x.2.2)).2)).2.1.2.2.2.2.1 else (Sp.F84 (x.1, x.2.2)).2.1.2.2.2.2.1), (bif ((Sp.F84 (x.1, x.2.2)).2.2.2.1.2.1.1 == (0 : Int)) then (Sp.F85 ((Sp.F84 (x.1, x.2.2)).2)).2.1.2.2.2.2.2.1 else (Sp.F84 (x.1, x.2.2)).2.1.2.2.2.2.2.1), (bif ((Sp.F84 (x.1, x.2.2)).2.2.2.1.2.1.1 == (0 : Int)) then (Sp.F85 ((Sp.F84 (x.1, x.2.2)).2)).2.1.2.2.2.2.2.2.1 else (Sp.F84 (x.1, x.2.2)).2.1.2.2.2.2.2.2.1), (bif ((Sp.F84 (x.1, x.2.2)).2.2.2.1.2.1.1 == (0 : Int)) then (Sp.F85 ((Sp.F84 (x.1, x.2.2)).2)).2.1.2.2.2.2.2.2.2 else (Sp.F84 (x.1, x.2.2)).2.1.2.2.2.2.2.2.2)), (bif ((Sp.F84 (x.1, x.2.2)).2.2.2.1.2.1.1 == (0 : Int)) then (Sp.F85 ((Sp.F84 (x.1, x.2.2)).2)).2.2.1 else (Sp.F84 (x.1, x.2.2)).2.2.1), (((bif ((Sp.F84 (x.1, x.2.2)).2.2.2.1.2.1.1 == (0 : Int)) then (Sp.F85 ((Sp.F84 (x.1, x.2.2)).2)).2.2.2.1.1.1 else (Sp.F84 (x.1, x.2.2)).2.2.2.1.1.1), (IntKind.i64.wrap ((BitVec.ofInt IntKind.i64.bits (bif ((Sp.F84 (x.1, x.2.2)).2.2.2.1.2.1.1 == (0 : Int)) then (Sp.F85 ((Sp.F84 (x.1, x.2.2)).2)).2.2.2.1.1.2 else (Sp.F84 (x.1, x.2.2)).2.2.2.1.1.2) ||| BitVec.ofInt IntKind.i64.bits (1 : Int)).toNat : Int))), ((1 : Int), (0 : Int), (0 : Int), false, (0 : Int)), ((bif ((Sp.F84 (x.1, x.2.2)).2.2.2.1.2.1.1 == (0 : Int)) then (Sp.F85 ((Sp.F84 (x.1, x.2.2)).2)).2.2.2.1.2.2.1.1 else (Sp.F84 (x.1, x.2.2)).2.2.2.1.2.2.1.1), (bif ((Sp.F84 (x.1, x.2.2)).2.2.2.1.2.1.1 == (0 : Int)) then (Sp.F85 ((Sp.F84 (x.1, x.2.2)).2)).2.2.2.1.2.2.1.2.1 else (Sp.F84 (x.1, x.2.2)).2.2.2.1.2.2.1.2.1), (bif ((Sp.F84 (x.1, x.2.2)).2.2.2.1.2.1.1 == (0 : Int)) then (Sp.F85 ((Sp.F84 (x.1, x.2.2)).2)).2.2.2.1.2.2.1.2.2 else (Sp.F84 (x.1, x.2.2)).2.2.2.1.2.2.1.2.2)), (bif ((Sp.F84 (x.1, x.2.2)).2.2.2.1.2.1.1 == (0 : Int)) then (Sp.F85 ((Sp.F84 (x.1, x.2.2)).2)).2.2.2.1.2.2.2.1 else (Sp.F84 (x.1, x.2.2)).2.2.2.1.2.2.2.1), (0 : Int), (bif ((Sp.F84 (x.1, x.2.2)).2.2.2.1.2.1.1 == (0 : Int)) then (Sp.F85 ((Sp.F84 (x.1, x.2.2)).2)).2.2.2.1.2.2.2.2.2.1 else (Sp.F84 (x.1, x.2.2)).2.2.2.1.2.2.2.2.2.1), (bif ((Sp.F84 (x.1, x.2.2)).2.2.2.1.2.1.1 == (0 : Int)) then (Sp.F85 ((Sp.F84 (x.1, x.2.2)).2)).2.2.2.1.2.2.2.2.2.2 else (Sp.F84 (x.1, x.2.2)).2.2.2.1.2.2.2.2.2.2)), ((bif ((Sp.F84 (x.1, x.2.2)).2.2.2.1.2.1.1 == (0 : Int)) then (Sp.F85 ((Sp.F84 (x.1, x.2.2)).2)).2.2.2.2.1.1 else (Sp.F84 (x.1, x.2.2)).2.2.2.2.1.1), (bif ((Sp.F84 (x.1, x.2.2)).2.2.2.1.2.1.1 == (0 : Int)) then (Sp.F85 ((Sp.F84 (x.1, x.2.2)).2)).2.2.2.2.1.2.1 else (Sp.F84 (x.1, x.2.2)).2.2.2.2.1.2.1), (bif ((Sp.F84 (x.1, x.2.2)).2.2.2.1.2.1.1 == (0 : Int)) then (Sp.F85 ((Sp.F84 (x.1, x.2.2)).2)).2.2.2.2.1.2.2.1 else (Sp.F84 (x.1, x.2.2)).2.2.2.2.1.2.2.1), (bif ((Sp.F84 (x.1, x.2.2)).2.2.2.1.2.1.1 == (0 : Int)) then (Sp.F85 ((Sp.F84 (x.1, x.2.2)).2)).2.2.2.2.1.2.2.2 else (Sp.F84 (x.1, x.2.2)).2.2.2.2.1.2.2.2)), (bif ((Sp.F84 (x.1, x.2.2)).2.2.2.1.2.1.1 == (0 : Int)) then (Sp.F85 ((Sp.F84 (x.1, x.2.2)).2)).2.2.2.2.2 else (Sp.F84 (x.1, x.2.2)).2.2.2.2.2))) ∧ True)))) ∧ ((((bif ((Sp.F84 (x.1, x.2.2)).2.2.2.1.2.1.1 == (0 : Int)) then (Sp.F85 ((Sp.F84 (x.1, x.2.2)).2)).2.2.2.1.2.1.1 else (Sp.F84 (x.1, x.2.2)).2.2.2.1.2.1.1) == (0 : Int)) && ((bif ((Sp.F84 (x.1, x.2.2)).2.2.2.1.2.1.1 == (0 : Int)) then (Sp.F85 ((Sp.F84 (x.1, x.2.2)).2)).2.2.2.2.1.2.2.1 else (Sp.F84 (x.1, x.2.2)).2.2.2.2.1.2.2.1) != (2 : Int))) = false → ((((bif ((Sp.F84 (x.1, x.2.2)).2.2.2.1.2.1.1 == (0 : Int)) then (Sp.F85 ((Sp.F84 (x.1, x.2.2)).2)).2.2.2.1.2.1.1 else (Sp.F84 (x.1, x.2.2)).2.2.2.1.2.1.1) != (0 : Int)) = true → ((Sp.pre86 (((bif ((Sp.F84 (x.1, x.2.2)).2.2.2.1.2.1.1 == (0 : Int)) then (Sp.F85 ((Sp.F84 (x.1, x.2.2)).2)).2.1.1 else (Sp.F84 (x.1, x.2.2)).2.1.1), (bif ((Sp.F84 (x.1, x.2.2)).2.2.2.1.2.1.1 == (0 : Int)) then (Sp.F85 ((Sp.F84 (x.1, x.2.2)).2)).2.1.2.1 else (Sp.F84 (x.1, x.2.2)).2.1.2.1), (bif ((Sp.F84 (x.1, x.2.2)).2.2.2.1.2.1.1 == (0 : Int)) then (Sp.F85 ((Sp.F84 (x.1, x.2.2)).2)).2.1.2.2.1 else (Sp.F84 (x.1, x.2.2)).2.1.2.2.1), (bif ((Sp.F84 (x.1, x.2.2)).2.2.2.1.2.1.1 == (0 : Int)) then (Sp.F85 ((Sp.F84 (x.1, x.2.2)).2)).2.1.2.2.2.1 else (Sp.F84 (x.1, x.2.2)).2.1.2.2.2.1), (bif ((Sp.F84 (x.1, x.2.2)).2.2.2.1.2.1.1 == (0 : Int)) then (Sp.F85 ((Sp.F84 (x.1, x.2.2)).2)).2.1.2.2.2.2.1 else (Sp.F84 (x.1, x.2.2)).2.1.2.2.2.2.1), (bif ((Sp.F84 (x.1, x.2.2)).2.2.2.1.2.1.1 == (0 : Int)) then (Sp.F85 ((Sp.F84 (x.1, x.2.2)).2)).2.1.2.2.2.2.2.1 else (Sp.F84 (x.1, x.2.2)).2.1.2.2.2.2.2.1), (bif ((Sp.F84 (x.1, x.2.2)).2.2.2.1.2.1.1 == (0 : Int)) then (Sp.F85 ((Sp.F84 (x.1, x.2.2)).2)).2.1.2.2.2.2.2.2.1 else (Sp.F84 (x.1, x.2.2)).2.1.2.2.2.2.2.2.1), (bif ((Sp.F84 (x.1, x.2.2)).2.2.2.1.2.1.1 == (0 : Int)) then (Sp.F85 ((Sp.F84 (x.1, x.2.2)).2)).2.1.2.2.2.2.2.2.2 else (Sp.F84 (x.1, x.2.2)).2.1.2.2.2.2.2.2.2)), (bif ((Sp.F84 (x.1, x.2.2)).2.2.2.1.2.1.1 == (0 : Int)) then (Sp.F85 ((Sp.F84 (x.1, x.2.2)).2)).2.2.1 else (Sp.F84 (x.1, x.2.2)).2.2.1), (((bif ((Sp.F84 (x.1, x.2.2)).2.2.2.1.2.1.1 == (0 : Int)) then (Sp.F85 ((Sp.F84 (x.1, x.2.2)).2)).2.2.2.1.1.1 else (Sp.F84 (x.1, x.2.2)).2.2.2.1.1.1), (bif ((Sp.F84 (x.1, x.2.2)).2.2.2.1.2.1.1 == (0 : Int)) then (Sp.F85 ((Sp.F84 (x.1, x.2.2)).2)).2.2.2.1.1.2 else (Sp.F84 (x.1, x.2.2)).2.2.2.1.1.2)), ((bif ((Sp.F84 (x.1, x.2.2)).2.2.2.1.2.1.1 == (0 : Int)) then (Sp.F85 ((Sp.F84 (x.1, x.2.2)).2)).2.2.2.1.2.1.1 else (Sp.F84 (x.1, x.2.2)).2.2.2.1.2.1.1), (bif ((Sp.F84 (x.1, x.2.2)).2.2.2.1.2.1.1 == (0 : Int)) then (Sp.F85 ((Sp.F84 (x.1, x.2.2)).2)).2.2.2.1.2.1.2.1 else (Sp.F84 (x.1, x.2.2)).2.2.2.1.2.1.2.1), (bif ((Sp.F84 (x.1, x.2.2)).2.2.2.1.2.1.1 == (0 : Int)) then (Sp.F85 ((Sp.F84 (x.1, x.2.2)).2)).2.2.2.1.2.1.2.2.1 else (Sp.F84 (x.1, x.2.2)).2.2.2.1.2.1.2.2.1), (bif ((Sp.F84 (x.1, x.2.2)).2.2.2.1.2.1.1 == (0 : Int)) then (Sp.F85 ((Sp.F84 (x.1, x.2.2)).2)).2.2.2.1.2.1.2.2.2.1 else (Sp.F84 (x.1, x.2.2)).2.2.2.1.2.1.2.2.2.1), (bif ((Sp.F84 (x.1, x.2.2)).2.2.2.1.2.1.1 == (0 : Int)) then (Sp.F85 ((Sp.F84 (x.1, x.2.2)).2)).2.2.2.1.2.1.2.2.2.2 else (Sp.F84 (x.1, x.2.2)).2.2.2.1.2.1.2.2.2.2)), ((bif ((Sp.F84 (x.1, x.2.2)).2.2.2.1.2.1.1 == (0 : Int)) then (Sp.F85 ((Sp.F84 (x.1, x.2.2)).2)).2.2.2.1.2.2.1.1 else (Sp.F84 (x.1, x.2.2)).2.2.2.1.2.2.1.1), (bif ((Sp.F84 (x.1, x.2.2)).2.2.2.1.2.1.1 == (0 : Int)) then (Sp.F85 ((Sp.F84 (x.1, x.2.2)).2)).2.2.2.1.2.2.1.2.1 else (Sp.F84 (x.1, x.2.2)).2.2.2.1.2.2.1.2.1), (bif ((Sp.F84 (x.1, x.2.2)).2.2.2.1.2.1.1 == (0 : Int)) then (Sp.F85 ((Sp.F84 (x.1, x.2.2)).2)).2.2.2.1.2.2.1.2.2 else (Sp.F84 (x.1, x.2.2)).2.2.2.1.2.2.1.2.2)), (bif ((Sp.F84 (x.1, x.2.2)).2.2.2.1.2.1.1 == (0 : Int)) then (Sp.F85 ((Sp.F84 (x.1, x.2.2)).2)).2.2.2.1.2.2.2.1 else (Sp.F84 (x.1, x.2.2)).2.2.2.1.2.2.2.1), (bif ((Sp.F84 (x.1, x.2.2)).2.2.2.1.2.1.1 == (0 : Int)) then (Sp.F85 ((Sp.F84 (x.1, x.2.2)).2)).2.2.2.1.2.2.2.2.1 else (Sp.F84 (x.1, x.2.2)).2.2.2.1.2.2.2.2.1), (bif ((Sp.F84 (x.1, x.2.2)).2.2.2.1.2.1.1 == (0 : Int)) then (Sp.F85 ((Sp.F84 (x.1, x.2.2)).2)).2.2.2.1.2.2.2.2.2.1 else (Sp.F84 (x.1, x.2.2)).2.2.2.1.2.2.2.2.2.1), (bif ((Sp.F84 (x.1, x.2.2)).2.2.2.1.2.1.1 == (0 : Int)) then (Sp.F85 ((Sp.F84 (x.1, x.2.2)).2)).2.2.2.1.2.2.2.2.2.2 else (Sp.F84 (x.1, x.2.2)).2.2.2.1.2.2.2.2.2.2)), ((bif ((Sp.F84 (x.1, x.2.2)).2.2.2.1.2.1.1 == (0 : Int)) then (Sp.F85 ((Sp.F84 (x.1, x.2.2)).2)).2.2.2.2.1.1 else (Sp.F84 (x.1, x.2.2)).2.2.2.2.1.1), (bif ((Sp.F84 (x.1, x.2.2)).2.2.2.1.2.1.1 == (0 : Int)) then (Sp.F85 ((Sp.F84 (x.1, x.2.2)).2)).2.2.2.2.1.2.1 else (Sp.F84 (x.1, x.2.2)).2.2.2.2.1.2.1), (bif ((Sp.F84 (x.1, x.2.2)).2.2.2.1.2.1.1 == (0 : Int)) then (Sp.F85 ((Sp.F84 (x.1, x.2.2)).2)).2.2.2.2.1.2.2.1 else (Sp.F84 (x.1, x.2.2)).2.2.2.2.1.2.2.1), (bif ((Sp.F84 (x.1, x.2.2)).2.2.2.1.2.1.1 == (0 : Int)) then (Sp.F85 ((Sp.F84 (x.1, x.2.2)).2)).2.2.2.2.1.2.2.2 else (Sp.F84 (x.1, x.2.2)).2.2.2.2.1.2.2.2)), (bif ((Sp.F84 (x.1, x.2.2)).2.2.2.1.2.1.1 == (0 : Int)) then (Sp.F85 ((Sp.F84 (x.1, x.2.2)).2)).2.2.2.2.2 else (Sp.F84 (x.1, x.2.2)).2.2.2.2.2))) ∧ True)) ∧ (((bif ((Sp.F84 (x.1, x.2.2)).2.2.2.1.2.1.1 == (0 : Int)) then (Sp.F85 ((Sp.F84 (x.1, x.2.2)).2)).2.2.2.1.2.1.1 else (Sp.F84 (x.1, x.2.2)).2.2.2.1.2.1.1) != (0 : Int)) = false → ((Sp.pre87 (x.2.1, ((bif ((Sp.F84 (x.1, x.2.2)).2.2.2.1.2.1.1 == (0 : Int)) then (Sp.F85 ((Sp.F84 (x.1, x.2.2)).2)).2.1.1 else (Sp.F84 (x.1, x.2.2)).2.1.1), (bif ((Sp.F84 (x.1, x.2.2)).2.2.2.1.2.1.1 == (0 : Int)) then (Sp.F85 ((Sp.F84 (x.1, x.2.2)).2)).2.1.2.1 else (Sp.F84 (x.1, x.2.2)).2.1.2.1), (bif ((Sp.F84 (x.1, x.2.2)).2.2.2.1.2.1.1 == (0 : Int)) then (Sp.F85 ((Sp.F84 (x.1, x.2.2)).2)).2.1.2.2.1 else (Sp.F84 (x.1, x.2.2)).2.1.2.2.1), (bif ((Sp.F84 (x.1, x.2.2)).2.2.2.1.2.1.1 == (0 : Int)) then (Sp.F85 ((Sp.F84 (x.1, x.2.2)).2)).2.1.2.2.2.1 else (Sp.F84 (x.1, x.2.2)).2.1.2.2.2.1), (bif ((Sp.F84 (x.1, x.2.2)).2.2.2.1.2.1.1 == (0 : Int)) then (Sp.F85 ((Sp.F84 (x.1, x.2.2)).2)).2.1.2.2.2.2.1 else (Sp.F84 (x.1, x.2.2)).2.1.2.2.2.2.1), (bif ((Sp.F84 (x.1, x.2.2)).2.2.2.1.2.1.1 == (0 : Int)) then (Sp.F85 ((Sp.F84 (x.1, x.2.2)).2)).2.1.2.2.2.2.2.1 else (Sp.F84 (x.1, x.2.2)).2.1.2.2.2.2.2.1), (bif ((Sp.F84 (x.1, x.2.2)).2.2.2.1.2.1.1 == (0 : Int)) then (Sp.F85 ((Sp.F84 (x.1, x.2.2)).2)).2.1.2.2.2.2.2.2.1 else (Sp.F84 (x.1, x.2.2)).2.1.2.2.2.2.2.2.1), (bif ((Sp.F84 (x.1, x.2.2)).2.2.2.1.2.1.1 == (0 : Int)) then (Sp.F85 ((Sp.F84 (x.1, x.2.2)).2)).2.1.2.2.2.2.2.2.2 else (Sp.F84 (x.1, x.2.2)).2.1.2.2.2.2.2.2.2)), (bif ((Sp.F84 (x.1, x.2.2)).2.2.2.1.2.1.1 == (0 : Int)) then (Sp.F85 ((Sp.F84 (x.1, x.2.2)).2)).2.2.1 else (Sp.F84 (x.1, x.2.2)).2.2.1), (((bif ((Sp.F84 (x.1, x.2.2)).2.2.2.1.2.1.1 == (0 : Int)) then (Sp.F85 ((Sp.F84 (x.1, x.2.2)).2)).2.2.2.1.1.1 else (Sp.F84 (x.1, x.2.2)).2.2.2.1.1.1), (bif ((Sp.F84 (x.1, x.2.2)).2.2.2.1.2.1.1 == (0 : Int)) then (Sp.F85 ((Sp.F84 (x.1, x.2.2)).2)).2.2.2.1.1.2 else (Sp.F84 (x.1, x.2.2)).2.2.2.1.1.2)), ((bif ((Sp.F84 (x.1, x.2.2)).2.2.2.1.2.1.1 == (0 : Int)) then (Sp.F85 ((Sp.F84 (x.1, x.2.2)).2)).2.2.2.1.2.1.1 else (Sp.F84 (x.1, x.2.2)).2.2.2.1.2.1.1), (bif ((Sp.F84 (x.1, x.2.2)).2.2.2.1.2.1.1 == (0 : Int)) then (Sp.F85 ((Sp.F84 (x.1, x.2.2)).2)).2.2.2.1.2.1.2.1 else (Sp.F84 (x.1, x.2.2)).2.2.2.1.2.1.2.1), (bif ((Sp.F84 (x.1, x.2.2)).2.2.2.1.2.1.1 == (0 : Int)) then (Sp.F85 ((Sp.F84 (x.1, x.2.2)).2)).2.2.2.1.2.1.2.2.1 else (Sp.F84 (x.1, x.2.2)).2.2.2.1.2.1.2.2.1), (bif ((Sp.F84 (x.1, x.2.2)).2.2.2.1.2.1.1 == (0 : Int)) then (Sp.F85 ((Sp.F84 (x.1, x.2.2)).2)).2.2.2.1.2.1.2.2.2.1 else (Sp.F84 (x.1, x.2.2)).2.2.2.1.2.1.2.2.2.1), (bif ((Sp.F84 (x.1, x.2.2)).2.2.2.1.2.1.1 == (0 : Int)) then (Sp.F85 ((Sp.F84 (x.1, x.2.2)).2)).2.2.2.1.2.1.2.2.2.2 else (Sp.F84 (x.1, x.2.2)).2.2.2.1.2.1.2.2.2.2)), ((bif ((Sp.F84 (x.1, x.2.2)).2.2.2.1.2.1.1 == (0 : Int)) then (Sp.F85 ((Sp.F84 (x.1, x.2.2)).2)).2.2.2.1.2.2.1.1 else (Sp.F84 (x.1, x.2.2)).2.2.2.1.2.2.1.1), (bif ((Sp.F84 (x.1, x.2.2)).2.2.2.1.2.1.1 == (0 : Int)) then (Sp.F85 ((Sp.F84 (x.1, x.2.2)).2)).2.2.2.1.2.2.1.2.1 else (Sp.F84 (x.1, x.2.2)).2.2.2.1.2.2.1.2.1), (bif ((Sp.F84 (x.1, x.2.2)).2.2.2.1.2.1.1 == (0 : Int)) then (Sp.F85 ((Sp.F84 (x.1, x.2.2)).2)).2.2.2.1.2.2.1.2.2 else (Sp.F84 (x.1, x.2.2)).2.2.2.1.2.2.1.2.2)), (bif ((Sp.F84 (x.1, x.2.2)).2.2.2.1.2.1.1 == (0 : Int)) then (Sp.F85 ((Sp.F84 (x.1, x.2.2)).2)).2.2.2.1.2.2.2.1 else (Sp.F84 (x.1, x.2.2)).2.2.2.1.2.2.2.1), (bif ((Sp.F84 (x.1, x.2.2)).2.2.2.1.2.1.1 == (0 : Int)) then (Sp.F85 ((Sp.F84 (x.1, x.2.2)).2)).2.2.2.1.2.2.2.2.1 else (Sp.F84 (x.1, x.2.2)).2.2.2.1.2.2.2.2.1), (bif ((Sp.F84 (x.1, x.2.2)).2.2.2.1.2.1.1 == (0 : Int)) then (Sp.F85 ((Sp.F84 (x.1, x.2.2)).2)).2.2.2.1.2.2.2.2.2.1 else (Sp.F84 (x.1, x.2.2)).2.2.2.1.2.2.2.2.2.1), (bif ((Sp.F84 (x.1, x.2.2)).2.2.2.1.2.1.1 == (0 : Int)) then (Sp.F85 ((Sp.F84 (x.1, x.2.2)).2)).2.2.2.1.2.2.2.2.2.2 else (Sp.F84 (x.1, x.2.2)).2.2.2.1.2.2.2.2.2.2)), ((bif ((Sp.F84 (x.1, x.2.2)).2.2.2.1.2.1.1 == (0 : Int)) then (Sp.F85 ((Sp.F84 (x.1, x.2.2)).2)).2.2.2.2.1.1 else (Sp.F84 (x.1, x.2.2)).2.2.2.2.1.1), (bif ((Sp.F84 (x.1, x.2.2)).2.2.2.1.2.1.1 == (0 : Int)) then (Sp.F85 ((Sp.F84 (x.1, x.2.2)).2)).2.2.2.2.1.2.1 else (Sp.F84 (x.1, x.2.2)).2.2.2.2.1.2.1), (bif ((Sp.F84 (x.1, x.2.2)).2.2.2.1.2.1.1 == (0 : Int)) then (Sp.F85 ((Sp.F84 (x.1, x.2.2)).2)).2.2.2.2.1.2.2.1 else (Sp.F84 (x.1, x.2.2)).2.2.2.2.1.2.2.1), (bif ((Sp.F84 (x.1, x.2.2)).2.2.2.1.2.1.1 == (0 : Int)) then (Sp.F85 ((Sp.F84 (x.1, x.2.2)).2)).2.2.2.2.1.2.2.2 else (Sp.F84 (x.1, x.2.2)).2.2.2.2.1.2.2.2)), (bif ((Sp.F84 (x.1, x.2.2)).2.2.2.1.2.1.1 == (0 : Int)) then (Sp.F85 ((Sp.F84 (x.1, x.2.2)).2)).2.2.2.2.2 else (Sp.F84 (x.1, x.2.2)).2.2.2.2.2))) ∧ True))))))))) := by kernel_rfl
theorem sa60 (x : (Ty.pair ty24 (Ty.pair ty26 ty106)).den) (fx : Fit (Ty.pair ty24 (Ty.pair ty26 ty106)) x) (h : Sp.pre60 x) : SafeW ((evFnP (ctxP PmV4 none GmV4 []) Tryd.f60 (Ty.pair ty24 (Ty.pair ty26 ty106)) [none, some 2] [true, false, false] [28] false false ty106 Rsh.none Ty.unit noL x)) := by
  refine ⟨?_⟩
  rw [se60]
  try dsimp only [Ty.den] at *
  unfold Sp.pre60 at h
  have o1 := (Sp.press_keep (x.1, x.2.2)).ok h
  have o2 := (Sp.travel_keep (Sp.F84 (x.1, x.2.2)).2).ok o1
  generalize Sp.F84 (x.1, x.2.2) = s1 at *
  generalize Sp.F85 s1.2 = s2 at *
  unfold Sp.pre84 Sp.pre86
  cases hcnd : (s1.2.2.2.1.2.1.1 == (0 : Int))
  all_goals simp only [cond_true, cond_false]
  all_goals repeat' (first | exact trivial | exact h | exact o1 | exact o2 | apply And.intro | intro _)
theorem ok60 : CpOk Tryd.prog gdS 60 cp60 :=
  fn_okPU (ctxOkP pgokPmV4 fvok_none gokGmV4 []) rfl Tryd.func60 cp60 (L := noL) (c := bodyOf Tryd.f60) (dflt := (Ty.dflt Ty.unit, Ty.dflt ty106)) rfl (no_loops)
    (safe_preP rfl @sa60) va60
def PmV5 : List (Nat × Cp) := (60, cp60) :: PmV4
theorem pgokPmV5 : PGOk PmV5 := pgok_cons ok60 ⟨_, Tryd.func60, by kernel_rfl, by kernel_rfl⟩ (pgokPmV4)
def GmV5 : List (Nat × Ct) := GmV4
theorem gokGmV5 : GOk GmV5 := gokGmV4
end Go.Proofs.YtpbljgpdhllklaaDoor.Sy
end

section
/- What a tick leaves as it was (own work). -/
namespace Go.Proofs.YtpbljgpdhllklaaDoor.Sp
open Go Sy
/-- What a tick does behind the buttons and the motion. -/
def actTail (hall : Int × Int) (s : CtlT) : CtlT :=
  bif (s.2.2.1.2.1.1 == (0 : Int)) && (s.2.2.2.1.2.2.1 != (2 : Int)) then
    (Sp.F86 (s.1, s.2.1, ((s.2.2.1.1.1, (IntKind.i64.wrap ((BitVec.ofInt IntKind.i64.bits s.2.2.1.1.2 ||| BitVec.ofInt IntKind.i64.bits (1 : Int)).toNat : Int))), ((1 : Int), (0 : Int), (0 : Int), false, (0 : Int)), s.2.2.1.2.2.1, s.2.2.1.2.2.2.1, (0 : Int), s.2.2.1.2.2.2.2.2), s.2.2.2)).2
  else bif (s.2.2.1.2.1.1 != (0 : Int)) then (Sp.F86 s).2
  else (Sp.F87 (hall, s)).2
theorem act_eq (x : Int × (Int × Int) × CtlT) : (Sp.F60 x).2
    = bif ((Sp.F84 (x.1, x.2.2)).2.2.2.1.2.1.1 == (0 : Int)) then
        (bif !(Sp.F85 (Sp.F84 (x.1, x.2.2)).2).1 then
          (Sp.F85 (Sp.F84 (x.1, x.2.2)).2).2
        else actTail x.2.1 (Sp.F85 (Sp.F84 (x.1, x.2.2)).2).2)
      else actTail x.2.1 (Sp.F84 (x.1, x.2.2)).2 := by
  unfold Sp.F60 Sp.K60_1 Sp.K60_2 Sp.K60_3 Sp.K60_4 actTail
  generalize Sp.F84 (x.1, x.2.2) = s1
  generalize Sp.F85 s1.2 = s2
  cases hcnd : (s1.2.2.2.1.2.1.1 == (0 : Int))
  · simp only [cond_false, Bool.false_and]
    simp only [bne, hcnd, Bool.not_false, cond_true, Bool.false_and, cond_false]
  · simp only [cond_true, Bool.true_and]
    cases hok : s2.1
    · simp only [Bool.not_false, cond_true]
    · simp only [Bool.not_true, cond_false]
      cases hst : (s2.2.2.2.1.2.1.1 == (0 : Int))
      · simp only [bne, hst, Bool.not_false, cond_true, Bool.false_and, cond_false]
      · simp only [bne, hst, Bool.not_true, Bool.true_and, cond_false]
        cases hdo : (s2.2.2.2.2.1.2.2.1 == (2 : Int))
        · simp only [Bool.not_false, cond_true, show ((1 : Int) == 0) = false from rfl]
        · simp only [Bool.not_true, cond_false]
theorem tail_keep (hall : Int × Int) (s : CtlT) : CtlEq s (actTail hall s) := by
  unfold actTail
  simp only [cond_eq_ite]
  repeat' split
  · refine CtlEq.trans ?_ (cycle_keep _); exact ⟨rfl, rfl, rfl⟩
  · exact cycle_keep _
  · exact decide_keep (hall, s)
theorem act_keep (x : Int × (Int × Int) × CtlT) : CtlEq x.2.2 (Sp.F60 x).2 := by
  have o1 := Sp.press_keep (x.1, x.2.2)
  have o2 := o1.trans (Sp.travel_keep (Sp.F84 (x.1, x.2.2)).2)
  rw [act_eq]
  simp only [cond_eq_ite]
  repeat' split
  · exact o2
  · exact o2.trans (tail_keep _ _)
  · exact o1.trans (tail_keep _ _)
end Go.Proofs.YtpbljgpdhllklaaDoor.Sp
end

section
/- Contracts of functions, by the evaluator (own program gen.py): newcar.Step. -/
set_option linter.unusedVariables false
set_option linter.unusedSimpArgs false
set_option maxRecDepth 100000
namespace Go.Proofs.YtpbljgpdhllklaaDoor.Sy
open Go Go.RowKit Sp
/-! newcar.Step -/
end Go.Proofs.YtpbljgpdhllklaaDoor.Sy
namespace Go.Proofs.YtpbljgpdhllklaaDoor.Sp
open Go Go.RowKit Sy
def K29_1 (x : (Int × Int × Int × Int × Nat × Nat × Nat × List (Int × Int × Int × Int × Int × Int × Int × Int × Int)) × Int × ((Int × Int) × (Int × Int × Int × Bool × Int) × (Int × Int × Int) × Int × Int × Int × Bool) × (Int × Bool × Int × Bool) × Int × Int × Int) :=
  (Sp.F61 ((Sp.F62 ((Sp.F60 (x.2.2.2.2.1, x.2.2.2.2.2, x.1, x.2.1, x.2.2.1, x.2.2.2.1, (0 : Int))).2)).1, (Sp.F60 (x.2.2.2.2.1, x.2.2.2.2.2, x.1, x.2.1, x.2.2.1, x.2.2.2.1, (0 : Int))).2.2.2.1, (Sp.F60 (x.2.2.2.2.1, x.2.2.2.2.2, x.1, x.2.1, x.2.2.1, x.2.2.2.1, (0 : Int))).2.2.2.2.2))
def F29 (x : (Int × Int × Int × Int × Nat × Nat × Nat × List (Int × Int × Int × Int × Int × Int × Int × Int × Int)) × Int × ((Int × Int) × (Int × Int × Int × Bool × Int) × (Int × Int × Int) × Int × Int × Int × Bool) × (Int × Bool × Int × Bool) × Int × Int × Int) : ((Int × Int) × (Int × Int × Int × Bool × Int) × (Int × Int × Int) × Int × Int × Int × Bool) × Int × Int :=
  bif ((!(Sp.F58 (x.1, x.2.1, x.2.2.1))) || (!(Sp.F59 (x.1, x.2.2.2.1)))) then
    ((((0 : Int), (0 : Int)), ((0 : Int), (0 : Int), (0 : Int), false, (0 : Int)), ((0 : Int), (0 : Int), (0 : Int)), (0 : Int), (0 : Int), (0 : Int), false), (0 : Int), (1 : Int))
  else
    bif x.2.2.1.2.2.2.2.2.2 then
      (x.2.2.1, (0 : Int), (0 : Int))
    else
      ((Sp.K29_1 x).1, (Sp.K29_1 x).2, (0 : Int))
end Go.Proofs.YtpbljgpdhllklaaDoor.Sp
namespace Go.Proofs.YtpbljgpdhllklaaDoor.Sy
def ct29 : Ct := { p := (Ty.pair ty32 (Ty.pair ty3 (Ty.pair ty66 (Ty.pair ty68 (Ty.pair ty24 ty26))))), psh := [some 8, none, some 14, some 4, none, some 2], r := (Ty.pair ty66 (Ty.pair ty3 ty71)), rsh := (Rsh.tup [some 14, none, none]), pre := none, fresh := none, F := Sp.F29 }
theorem va29 (x : (Ty.pair ty32 (Ty.pair ty3 (Ty.pair ty66 (Ty.pair ty68 (Ty.pair ty24 ty26))))).den) : ((evFn (ctxP PmV5 none GmV5 []) Tryd.f29 (Ty.pair ty32 (Ty.pair ty3 (Ty.pair ty66 (Ty.pair ty68 (Ty.pair ty24 ty26))))) [some 8, none, some 14, some 4, none, some 2] (Rsh.tup [some 14, none, none]) none (Ty.pair ty66 (Ty.pair ty3 ty71)) noL x)).val (fun y => y) (Ty.dflt (Ty.pair ty66 (Ty.pair ty3 ty71))) = Sp.F29 x := by kernel_rfl
theorem se29 (x : (Ty.pair ty32 (Ty.pair ty3 (Ty.pair ty66 (Ty.pair ty68 (Ty.pair ty24 ty26))))).den) : ((evFn (ctxP PmV5 none GmV5 []) Tryd.f29 (Ty.pair ty32 (Ty.pair ty3 (Ty.pair ty66 (Ty.pair ty68 (Ty.pair ty24 ty26))))) [some 8, none, some 14, some 4, none, some 2] (Rsh.tup [some 14, none, none]) none (Ty.pair ty66 (Ty.pair ty3 ty71)) noL x)).safe = (((((!(Sp.F58 (x.1, x.2.1, x.2.2.1))) || (!(Sp.F59 (x.1, x.2.2.2.1)))) = true → True) ∧ (((!(Sp.F58 (x.1, x.2.1, x.2.2.1))) || (!(Sp.F59 (x.1, x.2.2.2.1)))) = false → ((x.2.2.1.2.2.2.2.2.2 = true → True) ∧ (x.2.2.1.2.2.2.2.2.2 = false → ((Sp.pre60 (x.2.2.2.2.1, x.2.2.2.2.2, x.1, x.2.1, x.2.2.1, x.2.2.2.1, (0 : Int))) ∧ ((Sp.pre62 ((Sp.F60 (x.2.2.2.2.1, x.2.2.2.2.2, x.1, x.2.1, x.2.2.1, x.2.2.2.1, (0 : Int))).2)) ∧ True))))))) := by kernel_rfl
theorem sa29 (x : (Ty.pair ty32 (Ty.pair ty3 (Ty.pair ty66 (Ty.pair ty68 (Ty.pair ty24 ty26))))).den) (fx : Fit (Ty.pair ty32 (Ty.pair ty3 (Ty.pair ty66 (Ty.pair ty68 (Ty.pair ty24 ty26))))) x) : SafeW ((evFn (ctxP PmV5 none GmV5 []) Tryd.f29 (Ty.pair ty32 (Ty.pair ty3 (Ty.pair ty66 (Ty.pair ty68 (Ty.pair ty24 ty26))))) [some 8, none, some 14, some 4, none, some 2] (Rsh.tup [some 14, none, none]) none (Ty.pair ty66 (Ty.pair ty3 ty71)) noL x)) := by
  refine ⟨?_⟩
  rw [se29]
  try dsimp only [Ty.den] at *
  refine ⟨fun _ => trivial, fun hc => ⟨fun _ => trivial, fun _ => ?_⟩⟩
  simp only [Bool.or_eq_false_iff, Bool.not_eq_false'] at hc
  have hi := Sp.iscar_b hc.1
  have hb := Sp.valid_b (Sp.fit_cars fx.1) hi.1
  have hfl := hb.fl
  have hfb := hc.2
  unfold Sp.F59 at hfb
  simp only [Bool.and_eq_true, decide_eq_true_eq, ge_iff_le] at hfb
  have ho : Sp.CtlOk (x.1, x.2.1, x.2.2.1, x.2.2.2.1, (0 : Int)) := ⟨by show (0 : Int) ≤ x.1.1; omega, hi.2.1, hi.2.2, hfb.1.1.1⟩
  exact ⟨ho, (Sp.act_keep (x.2.2.2.2.1, x.2.2.2.2.2, x.1, x.2.1, x.2.2.1, x.2.2.2.1, (0 : Int))).ok ho, trivial⟩
theorem ok29 : CtOk Tryd.prog gdS 29 ct29 :=
  fn_okU (ctxOkP pgokPmV5 fvok_none gokGmV5 []) rfl Tryd.func29 (p := (Ty.pair ty32 (Ty.pair ty3 (Ty.pair ty66 (Ty.pair ty68 (Ty.pair ty24 ty26)))))) (psh := [some 8, none, some 14, some 4, none, some 2]) (r := (Ty.pair ty66 (Ty.pair ty3 ty71))) (rsh := (Rsh.tup [some 14, none, none])) (pre := none) (fresh := none) (F := Sp.F29) (L := noL) (c := bodyOf Tryd.f29) (dflt := Ty.dflt (Ty.pair ty66 (Ty.pair ty3 ty71))) rfl (no_loops)
    (safe_no @sa29) va29
def GmV6 : List (Nat × Ct) := (29, ct29) :: GmV5
theorem gokGmV6 : GOk GmV6 := gok_cons ok29 ⟨_, Tryd.func29, by kernel_rfl, by kernel_rfl⟩ (gokGmV5)
end Go.Proofs.YtpbljgpdhllklaaDoor.Sy
end

section
/- Contracts of functions, by the evaluator (own program gen.py): overlaylaw15.sane. -/
set_option linter.unusedVariables false
set_option linter.unusedSimpArgs false
set_option maxRecDepth 100000
namespace Go.Proofs.YtpbljgpdhllklaaDoor.Sy
open Go Go.RowKit Sp
/-! overlaylaw15.sane -/
end Go.Proofs.YtpbljgpdhllklaaDoor.Sy
namespace Go.Proofs.YtpbljgpdhllklaaDoor.Sp
open Go Go.RowKit Sy
def in28_7 (k : ((List Int) × (Int × Int × Int × Int × Nat × Nat × Nat × List (Int × Int × Int × Int × Int × Int × Int × Int × Int)) × Int × Int)) (x : (Int × (Int × Int × Int × Int × Int × Int) × (Int × Int) × (Int × Int × Int × Bool × Int) × (Int × Int × Int) × Int × Int × Int × Bool)) : Prop := (0 : Int) ≤ x.1 ∧ (k.1).length = 4
def mu28_7 (k : ((List Int) × (Int × Int × Int × Int × Nat × Nat × Nat × List (Int × Int × Int × Int × Int × Int × Int × Int × Int)) × Int × Int)) (x : (Int × (Int × Int × Int × Int × Int × Int) × (Int × Int) × (Int × Int × Int × Bool × Int) × (Int × Int × Int) × Int × Int × Int × Bool)) : Nat := ((4 : Int) - x.1).toNat
def st28_7 (k : ((List Int) × (Int × Int × Int × Int × Nat × Nat × Nat × List (Int × Int × Int × Int × Int × Int × Int × Int × Int)) × Int × Int)) (x : (Int × (Int × Int × Int × Int × Int × Int) × (Int × Int) × (Int × Int × Int × Bool × Int) × (Int × Int × Int) × Int × Int × Int × Bool)) : BOut ((List Int) × (Int × Int × Int × Int × Nat × Nat × Nat × List (Int × Int × Int × Int × Int × Int × Int × Int × Int)) × Int × Int) (Int × (Int × Int × Int × Int × Int × Int) × (Int × Int) × (Int × Int × Int × Bool × Int) × (Int × Int × Int) × Int × Int × Int × Bool) (Bool) :=
  bif (decide (x.1 < (4 : Int))) then
    (bif (((Sp.F29 (k.2.1, (0 : Int), x.2.2, (Sp.F54 (x.2.1, false)), (0 : Int), k.2.2)).2.2 != (0 : Int)) || ((Sp.F29 (k.2.1, (0 : Int), x.2.2, (Sp.F54 (x.2.1, false)), (0 : Int), k.2.2)).2.1 != (Sp.nthT k.1 x.1))) then
      BOut.ret false
    else
      bif ((((Sp.F55 (k.2.1, (Sp.F29 (k.2.1, (0 : Int), x.2.2, (Sp.F54 (x.2.1, false)), (0 : Int), k.2.2)).1, (Sp.F54 (x.2.1, false)))).1 == k.2.2.1) && ((Sp.F55 (k.2.1, (Sp.F29 (k.2.1, (0 : Int), x.2.2, (Sp.F54 (x.2.1, false)), (0 : Int), k.2.2)).1, (Sp.F54 (x.2.1, false)))).2 == k.2.2.2)) != (x.1 == (3 : Int))) then
        BOut.ret false
      else
        BOut.next k ((IntKind.i64.wrap (x.1 + (1 : Int))), (Sp.F56 (k.2.1.1, x.2.1, (Sp.F29 (k.2.1, (0 : Int), x.2.2, (Sp.F54 (x.2.1, false)), (0 : Int), k.2.2)).2.1, (1 : Int))), (Sp.F29 (k.2.1, (0 : Int), x.2.2, (Sp.F54 (x.2.1, false)), (0 : Int), k.2.2)).1))
  else
    BOut.brk k x
def G28_7 (k : ((List Int) × (Int × Int × Int × Int × Nat × Nat × Nat × List (Int × Int × Int × Int × Int × Int × Int × Int × Int)) × Int × Int)) (x : (Int × (Int × Int × Int × Int × Int × Int) × (Int × Int) × (Int × Int × Int × Bool × Int) × (Int × Int × Int) × Int × Int × Int × Bool)) : (Int × (Int × Int × Int × Int × Int × Int) × (Int × Int) × (Int × Int × Int × Bool × Int) × (Int × Int × Int) × Int × Int × Int × Bool) := endOf st28_7 k (Nat.succ (mu28_7 k x)) x
def R28_7 (k : ((List Int) × (Int × Int × Int × Int × Nat × Nat × Nat × List (Int × Int × Int × Int × Int × Int × Int × Int × Int)) × Int × Int)) (x : (Int × (Int × Int × Int × Int × Int × Int) × (Int × Int) × (Int × Int × Int × Bool × Int) × (Int × Int × Int) × Int × Int × Int × Bool)) : Option (Bool) := retOf st28_7 k (Nat.succ (mu28_7 k x)) x
end Go.Proofs.YtpbljgpdhllklaaDoor.Sp
namespace Go.Proofs.YtpbljgpdhllklaaDoor.Sy
def LS28_7 : LS ty4.den := mkLS (Ty.pair ty35 (Ty.pair ty32 ty26)) (Ty.pair ty3 (Ty.pair ty96 ty66))  [(5, none)] [(1, 8), (4, 2)] [(6, none)] [(2, 6), (3, 14)] [] [13] [(1, 1), (2, 2), (3, 3), (4, 4)] 0 true Sp.in28_7 Sp.st28_7 Sp.mu28_7
theorem va28_7 (k : (Ty.pair ty35 (Ty.pair ty32 ty26)).den) (x : (Ty.pair ty3 (Ty.pair ty96 ty66)).den) : ((evCode (ctxP PmV5 none GmV6 []) (lookL []) (bodyAt (bodyOf Tryd.f28) [0]) (tmpl LS28_7 (enc (Ty.pair ty35 (Ty.pair ty32 ty26)) k) (enc (Ty.pair ty3 (Ty.pair ty96 ty66)) x)) (evRound LS28_7 (evRet (ctxP PmV5 none GmV6 []) Tryd.f28 (Rsh.one (none)) none ty4 .ret)))).val BOut.ret (BOut.brk (Ty.dflt (Ty.pair ty35 (Ty.pair ty32 ty26))) (Ty.dflt (Ty.pair ty3 (Ty.pair ty96 ty66)))) = Sp.st28_7 k x := by kernel_rfl
theorem se28_7 (k : (Ty.pair ty35 (Ty.pair ty32 ty26)).den) (x : (Ty.pair ty3 (Ty.pair ty96 ty66)).den) : ((evCode (ctxP PmV5 none GmV6 []) (lookL []) (bodyAt (bodyOf Tryd.f28) [0]) (tmpl LS28_7 (enc (Ty.pair ty35 (Ty.pair ty32 ty26)) k) (enc (Ty.pair ty3 (Ty.pair ty96 ty66)) x)) (evRound LS28_7 (evRet (ctxP PmV5 none GmV6 []) Tryd.f28 (Rsh.one (none)) none ty4 .ret)))).safe = ((((decide (x.1 < (4 : Int))) = true → (((((Sp.F29 (k.2.1, (0 : Int), x.2.2, (Sp.F54 (x.2.1, false)), (0 : Int), k.2.2)).2.2 != (0 : Int)) = false → 0 ≤ x.1 ∧ x.1 < ((k.1).length : Int))) ∧ (((((Sp.F29 (k.2.1, (0 : Int), x.2.2, (Sp.F54 (x.2.1, false)), (0 : Int), k.2.2)).2.2 != (0 : Int)) || ((Sp.F29 (k.2.1, (0 : Int), x.2.2, (Sp.F54 (x.2.1, false)), (0 : Int), k.2.2)).2.1 != (Sp.nthT k.1 x.1))) = true → True) ∧ ((((Sp.F29 (k.2.1, (0 : Int), x.2.2, (Sp.F54 (x.2.1, false)), (0 : Int), k.2.2)).2.2 != (0 : Int)) || ((Sp.F29 (k.2.1, (0 : Int), x.2.2, (Sp.F54 (x.2.1, false)), (0 : Int), k.2.2)).2.1 != (Sp.nthT k.1 x.1))) = false → ((((((Sp.F55 (k.2.1, (Sp.F29 (k.2.1, (0 : Int), x.2.2, (Sp.F54 (x.2.1, false)), (0 : Int), k.2.2)).1, (Sp.F54 (x.2.1, false)))).1 == k.2.2.1) && ((Sp.F55 (k.2.1, (Sp.F29 (k.2.1, (0 : Int), x.2.2, (Sp.F54 (x.2.1, false)), (0 : Int), k.2.2)).1, (Sp.F54 (x.2.1, false)))).2 == k.2.2.2)) != (x.1 == (3 : Int))) = true → True) ∧ (((((Sp.F55 (k.2.1, (Sp.F29 (k.2.1, (0 : Int), x.2.2, (Sp.F54 (x.2.1, false)), (0 : Int), k.2.2)).1, (Sp.F54 (x.2.1, false)))).1 == k.2.2.1) && ((Sp.F55 (k.2.1, (Sp.F29 (k.2.1, (0 : Int), x.2.2, (Sp.F54 (x.2.1, false)), (0 : Int), k.2.2)).1, (Sp.F54 (x.2.1, false)))).2 == k.2.2.2)) != (x.1 == (3 : Int))) = false → True)))))) ∧ ((decide (x.1 < (4 : Int))) = false → True))) := by kernel_rfl
set_option maxHeartbeats 4000000 in
theorem sa28_7 (k : (Ty.pair ty35 (Ty.pair ty32 ty26)).den) (x : (Ty.pair ty3 (Ty.pair ty96 ty66)).den) (fk : Fit (Ty.pair ty35 (Ty.pair ty32 ty26)) k) (fx : Fit (Ty.pair ty3 (Ty.pair ty96 ty66)) x) (h : Sp.in28_7 k x) : SafeW ((evCode (ctxP PmV5 none GmV6 []) (lookL []) (bodyAt (bodyOf Tryd.f28) [0]) (tmpl LS28_7 (enc (Ty.pair ty35 (Ty.pair ty32 ty26)) k) (enc (Ty.pair ty3 (Ty.pair ty96 ty66)) x)) (evRound LS28_7 (evRet (ctxP PmV5 none GmV6 []) Tryd.f28 (Rsh.one (none)) none ty4 .ret)))) := by
  refine ⟨?_⟩
  rw [se28_7]
  try dsimp only [Ty.den] at *
  simp only [Sp.in28_7, Fit, maxLen] at h fk fx
  simp only [IntKind.wrap_i64, IntKind.wrap_u8, IntKind.wrap_u32, IntKind.wrap_u64, Sp.tmod_lit, Sp.tdiv_lit, bne_eq_false_iff_eq, Int.natCast_inj, setE, copyL, sliceL, zrow, List.length_append, List.length_cons, List.length_nil, List.length_set, List.length_replicate, List.length_take, List.length_drop, decide_eq_true_eq, decide_eq_false_iff_not, Bool.or_eq_true, Bool.and_eq_true, Bool.or_eq_false_iff, Bool.and_eq_false_iff, Bool.not_eq_true', Bool.not_eq_false', Bool.not_eq_true, Bool.not_eq_false, beq_iff_eq, beq_eq_false_iff_ne, bne_iff_ne, ne_eq, implies_true, and_true, true_and] at *
  all_goals ((repeat' (first | exact trivial | apply And.intro | intro _)) <;> first | trivial | omega | exact Sp.tmod_nn (by omega) | exact Sp.tmod_lt (by omega) (by omega))
set_option maxHeartbeats 4000000 in
theorem so28_7 (k : (Ty.pair ty35 (Ty.pair ty32 ty26)).den) (x : (Ty.pair ty3 (Ty.pair ty96 ty66)).den) (fk : Fit (Ty.pair ty35 (Ty.pair ty32 ty26)) k) (h : Sp.in28_7 k x) : StepOk true Sp.in28_7 Sp.mu28_7 k x (Sp.st28_7 k x) := by
  try dsimp only [Ty.den] at *
  simp only [Sp.in28_7, Fit, maxLen] at h fk
  unfold Sp.st28_7
  (repeat' (first | exact rfl | (refine StepOk.cnd (fun hc => ?_) (fun hc => ?_) <;> (try simp only [IntKind.wrap_i64, IntKind.wrap_u8, IntKind.wrap_u32, IntKind.wrap_u64, bne_eq_false_iff_eq, Int.natCast_inj, setE, copyL, sliceL, zrow, List.length_append, List.length_cons, List.length_nil, List.length_set, List.length_replicate, List.length_take, List.length_drop, decide_eq_true_eq, decide_eq_false_iff_not, Bool.or_eq_true, Bool.and_eq_true, Bool.or_eq_false_iff, Bool.and_eq_false_iff, Bool.not_eq_true', Bool.not_eq_false', Bool.not_eq_true, Bool.not_eq_false, beq_iff_eq, beq_eq_false_iff_ne, bne_iff_ne, ne_eq] at hc)) | refine StepOk.opt (fun _ => ?_))) <;> (first | exact rfl | (refine ⟨rfl, ?_, ?_⟩ <;> simp only [Sp.in28_7, Sp.mu28_7, IntKind.wrap_i64, IntKind.wrap_u8, IntKind.wrap_u32, IntKind.wrap_u64, Sp.tmod_lit, Sp.tdiv_lit, bne_eq_false_iff_eq, Int.natCast_inj, setE, copyL, sliceL, zrow, List.length_append, List.length_cons, List.length_nil, List.length_set, List.length_replicate, List.length_take, List.length_drop, decide_eq_true_eq, decide_eq_false_iff_not, Bool.or_eq_true, Bool.and_eq_true, Bool.or_eq_false_iff, Bool.and_eq_false_iff, Bool.not_eq_true', Bool.not_eq_false', Bool.not_eq_true, Bool.not_eq_false, beq_iff_eq, beq_eq_false_iff_ne, bne_iff_ne, ne_eq] <;> first | omega | (and_intros <;> first | omega | exact h.1 | exact h.2 | exact h.2.1 | exact h.2.2 | exact h.2.2.1 | exact h.2.2.2 | exact h.2.2.2.1 | exact h.2.2.2.2 | exact h.2.2.2.2.1 | exact h.2.2.2.2.2 | exact h.2.2.2.2.2.1 | exact h.2.2.2.2.2.2)))
theorem lo28_7 : LoopOk Tryd.prog gdS (RetAt Tryd.prog Tryd.f28 (Rsh.one (none)) none ty4) (bodyAt (bodyOf Tryd.f28) [0]) LS28_7 :=
  loop_run (ctxOkP pgokPmV5 fvok_none gokGmV6 []) (L := lookL []) (loops_of (l := []) (by kernel_rfl) (loops_nil)) sa28_7 va28_7 so28_7
end Go.Proofs.YtpbljgpdhllklaaDoor.Sy
namespace Go.Proofs.YtpbljgpdhllklaaDoor.Sp
open Go Go.RowKit Sy
def K28_1 (x : Unit) :=
  (Sp.G28_7 ([(1 : Int), (1 : Int), (3 : Int), (0 : Int)], (Sp.F11 ((2 : Int), (0 : Int))), (0 : Int), (4 : Int)) ((0 : Int), (Sp.F53 (0 : Int)), ((0 : Int), (0 : Int)), ((0 : Int), (0 : Int), (0 : Int), false, (0 : Int)), ((0 : Int), (0 : Int), (0 : Int)), (0 : Int), (0 : Int), (0 : Int), false))
def F28 (x : Unit) : Bool :=
  Sp.optR (Sp.R28_7 ([(1 : Int), (1 : Int), (3 : Int), (0 : Int)], (Sp.F11 ((2 : Int), (0 : Int))), (0 : Int), (4 : Int)) ((0 : Int), (Sp.F53 (0 : Int)), ((0 : Int), (0 : Int)), ((0 : Int), (0 : Int), (0 : Int), false, (0 : Int)), ((0 : Int), (0 : Int), (0 : Int)), (0 : Int), (0 : Int), (0 : Int), false)) (fun y => y)
  ((((Sp.F30 ((Sp.F11 ((2 : Int), (0 : Int))), (5 : Int), (Sp.K28_1 x).2.2)).2.2 == (1 : Int)) && (Sp.F57 ((Sp.F11 ((2 : Int), (0 : Int))), (Sp.K28_1 x).2.2))))
end Go.Proofs.YtpbljgpdhllklaaDoor.Sp
namespace Go.Proofs.YtpbljgpdhllklaaDoor.Sy
def ct28 : Ct := { p := Ty.unit, psh := [], r := ty4, rsh := (Rsh.one (none)), pre := none, fresh := none, F := Sp.F28 }
theorem va28 (x : Ty.unit.den) : ((evFn (ctxP PmV5 none GmV6 []) Tryd.f28 Ty.unit [] (Rsh.one (none)) none ty4 (lookL [(7, LS28_7)]) x)).val (fun y => y) (Ty.dflt ty4) = Sp.F28 x := by kernel_rfl
theorem se28 (x : Ty.unit.den) : ((evFn (ctxP PmV5 none GmV6 []) Tryd.f28 Ty.unit [] (Rsh.one (none)) none ty4 (lookL [(7, LS28_7)]) x)).safe = (((Sp.pre11 ((2 : Int), (0 : Int))) ∧ ((Sp.in28_7 ([(1 : Int), (1 : Int), (3 : Int), (0 : Int)], (Sp.F11 ((2 : Int), (0 : Int))), (0 : Int), (4 : Int)) ((0 : Int), (Sp.F53 (0 : Int)), ((0 : Int), (0 : Int)), ((0 : Int), (0 : Int), (0 : Int), false, (0 : Int)), ((0 : Int), (0 : Int), (0 : Int)), (0 : Int), (0 : Int), (0 : Int), false)) ∧ ((Sp.R28_7 ([(1 : Int), (1 : Int), (3 : Int), (0 : Int)], (Sp.F11 ((2 : Int), (0 : Int))), (0 : Int), (4 : Int)) ((0 : Int), (Sp.F53 (0 : Int)), ((0 : Int), (0 : Int)), ((0 : Int), (0 : Int), (0 : Int), false, (0 : Int)), ((0 : Int), (0 : Int), (0 : Int)), (0 : Int), (0 : Int), (0 : Int), false)) = none → True)))) := by kernel_rfl
theorem sa28 (x : Ty.unit.den) (fx : Fit Ty.unit x) : SafeW ((evFn (ctxP PmV5 none GmV6 []) Tryd.f28 Ty.unit [] (Rsh.one (none)) none ty4 (lookL [(7, LS28_7)]) x)) := by
  refine ⟨?_⟩
  rw [se28]
  try dsimp only [Ty.den] at *
  refine ⟨by unfold Sp.pre11; decide, ⟨by show (0 : Int) ≤ 0; decide, rfl⟩, fun _ => trivial⟩
theorem ok28 : CtOk Tryd.prog gdS 28 ct28 :=
  fn_okU (ctxOkP pgokPmV5 fvok_none gokGmV6 []) rfl Tryd.func28 (p := Ty.unit) (psh := []) (r := ty4) (rsh := (Rsh.one (none))) (pre := none) (fresh := none) (F := Sp.F28) (L := (lookL [(7, LS28_7)])) (c := bodyOf Tryd.f28) (dflt := Ty.dflt ty4) rfl (loops_of (l := [bodyAt (bodyOf Tryd.f28) [0]]) (by kernel_rfl) (loops_cons (s0 := LS28_7) (by kernel_rfl) lo28_7 (loops_nil)))
    (safe_no @sa28) va28
def GmV7 : List (Nat × Ct) := (28, ct28) :: GmV6
theorem gokGmV7 : GOk GmV7 := gok_cons ok28 ⟨_, Tryd.func28, by kernel_rfl, by kernel_rfl⟩ (gokGmV6)
end Go.Proofs.YtpbljgpdhllklaaDoor.Sy
end

section
/- Contracts of functions, by the evaluator (own program gen.py): overlaylaw15.NewcarSafe, overlaylaw15.NewcarFaults. -/
set_option linter.unusedVariables false
set_option linter.unusedSimpArgs false
set_option maxRecDepth 100000
namespace Go.Proofs.YtpbljgpdhllklaaDoor.Sy
open Go Go.RowKit Sp
/-! overlaylaw15.NewcarSafe -/
end Go.Proofs.YtpbljgpdhllklaaDoor.Sy
namespace Go.Proofs.YtpbljgpdhllklaaDoor.Sp
open Go Go.RowKit Sy
def in9_6 (k : ((List ((Int × Bool × Int × Bool) × Int × Int × Int)) × Int × Int × Int × Int × Nat × Nat × Nat × List (Int × Int × Int × Int × Int × Int × Int × Int × Int))) (x : (Int × (Int × Int) × (Int × Int × Int × Bool × Int) × (Int × Int × Int) × Int × Int × Int × Bool)) : Prop := (0 : Int) ≤ x.1 ∧ 2 ≤ k.2.1 ∧ k.2.1 ≤ 6
def mu9_6 (k : ((List ((Int × Bool × Int × Bool) × Int × Int × Int)) × Int × Int × Int × Int × Nat × Nat × Nat × List (Int × Int × Int × Int × Int × Int × Int × Int × Int))) (x : (Int × (Int × Int) × (Int × Int × Int × Bool × Int) × (Int × Int × Int) × Int × Int × Int × Bool)) : Nat := (((k.1).length : Int) - x.1).toNat
def K9_6_1 (k : ((List ((Int × Bool × Int × Bool) × Int × Int × Int)) × Int × Int × Int × Int × Nat × Nat × Nat × List (Int × Int × Int × Int × Int × Int × Int × Int × Int))) (x : (Int × (Int × Int) × (Int × Int × Int × Bool × Int) × (Int × Int × Int) × Int × Int × Int × Bool)) :=
  (Sp.F29 (k.2, (0 : Int), x.2, ((IntKind.i64.wrap (Int.tmod (IntKind.u64.wrap ((Sp.nthT k.1 x.1).1.1)) (IntKind.u64.wrap k.2.1))), (Sp.nthT k.1 x.1).1.2.1, (IntKind.i64.wrap (Int.tmod (IntKind.u64.wrap ((Sp.nthT k.1 x.1).1.2.2.1)) (3 : Int))), (Sp.nthT k.1 x.1).1.2.2.2), (Sp.nthT k.1 x.1).2))
def st9_6 (k : ((List ((Int × Bool × Int × Bool) × Int × Int × Int)) × Int × Int × Int × Int × Nat × Nat × Nat × List (Int × Int × Int × Int × Int × Int × Int × Int × Int))) (x : (Int × (Int × Int) × (Int × Int × Int × Bool × Int) × (Int × Int × Int) × Int × Int × Int × Bool)) : BOut ((List ((Int × Bool × Int × Bool) × Int × Int × Int)) × Int × Int × Int × Int × Nat × Nat × Nat × List (Int × Int × Int × Int × Int × Int × Int × Int × Int)) (Int × (Int × Int) × (Int × Int × Int × Bool × Int) × (Int × Int × Int) × Int × Int × Int × Bool) (Bool) :=
  bif (decide (x.1 < ((k.1).length : Int))) then
    (bif ((Sp.K9_6_1 k x).2.2 != (0 : Int)) then
      BOut.ret false
    else
      bif (((((Sp.K9_6_1 k x).1.2.2.1.1 != (0 : Int)) && (!((x.2.2.2.1.1 == (Sp.K9_6_1 k x).1.2.2.1.1) && ((x.2.2.2.1.2.1 == (Sp.K9_6_1 k x).1.2.2.1.2.1) && (x.2.2.2.1.2.2 == (Sp.K9_6_1 k x).1.2.2.1.2.2))))) && ((Sp.K9_6_1 k x).1.2.2.1.2.1 == (0 : Int))) && ((((((IntKind.i64.wrap (Int.tmod (IntKind.u64.wrap ((Sp.nthT k.1 x.1).1.2.2.1)) (3 : Int))) != (2 : Int)) || (!((Sp.nthT k.1 x.1).1.2.1))) || ((Sp.K9_6_1 k x).2.1 != (Sp.K9_6_1 k x).1.2.2.1.1)) || (((Sp.K9_6_1 k x).2.1 == (1 : Int)) && ((IntKind.i64.wrap (Int.tmod (IntKind.u64.wrap ((Sp.nthT k.1 x.1).1.1)) (IntKind.u64.wrap k.2.1))) == (IntKind.i64.wrap (k.2.1 - (1 : Int)))))) || (((Sp.K9_6_1 k x).2.1 == (2 : Int)) && ((IntKind.i64.wrap (Int.tmod (IntKind.u64.wrap ((Sp.nthT k.1 x.1).1.1)) (IntKind.u64.wrap k.2.1))) == (0 : Int))))) then
        BOut.ret false
      else
        bif (((((Sp.K9_6_1 k x).2.1 == (1 : Int)) || ((Sp.K9_6_1 k x).2.1 == (2 : Int))) && ((Sp.K9_6_1 k x).1.2.2.1.1 != (Sp.K9_6_1 k x).2.1)) || (((x.2.2.1.1 == (0 : Int)) && ((Sp.K9_6_1 k x).1.2.1.1 != (0 : Int))) && (!((Sp.nthT k.1 x.1).1.2.1)))) then
          BOut.ret false
        else
          bif (x.2.2.2.2.2.2.2 && (((Sp.K9_6_1 k x).2.1 != (0 : Int)) || (!((((Sp.K9_6_1 k x).1.1.1 == x.2.1.1) && ((Sp.K9_6_1 k x).1.1.2 == x.2.1.2)) && ((((Sp.K9_6_1 k x).1.2.1.1 == x.2.2.1.1) && (((Sp.K9_6_1 k x).1.2.1.2.1 == x.2.2.1.2.1) && (((Sp.K9_6_1 k x).1.2.1.2.2.1 == x.2.2.1.2.2.1) && (((Sp.K9_6_1 k x).1.2.1.2.2.2.1 == x.2.2.1.2.2.2.1) && ((Sp.K9_6_1 k x).1.2.1.2.2.2.2 == x.2.2.1.2.2.2.2))))) && ((((Sp.K9_6_1 k x).1.2.2.1.1 == x.2.2.2.1.1) && (((Sp.K9_6_1 k x).1.2.2.1.2.1 == x.2.2.2.1.2.1) && ((Sp.K9_6_1 k x).1.2.2.1.2.2 == x.2.2.2.1.2.2))) && (((Sp.K9_6_1 k x).1.2.2.2.1 == x.2.2.2.2.1) && (((Sp.K9_6_1 k x).1.2.2.2.2.1 == x.2.2.2.2.2.1) && (((Sp.K9_6_1 k x).1.2.2.2.2.2.1 == x.2.2.2.2.2.2.1) && ((Sp.K9_6_1 k x).1.2.2.2.2.2.2 == x.2.2.2.2.2.2.2)))))))))) then
            BOut.ret false
          else
            BOut.next k ((IntKind.i64.wrap (x.1 + (1 : Int))), (Sp.K9_6_1 k x).1))
  else
    BOut.brk k x
def G9_6 (k : ((List ((Int × Bool × Int × Bool) × Int × Int × Int)) × Int × Int × Int × Int × Nat × Nat × Nat × List (Int × Int × Int × Int × Int × Int × Int × Int × Int))) (x : (Int × (Int × Int) × (Int × Int × Int × Bool × Int) × (Int × Int × Int) × Int × Int × Int × Bool)) : (Int × (Int × Int) × (Int × Int × Int × Bool × Int) × (Int × Int × Int) × Int × Int × Int × Bool) := endOf st9_6 k (Nat.succ (mu9_6 k x)) x
def R9_6 (k : ((List ((Int × Bool × Int × Bool) × Int × Int × Int)) × Int × Int × Int × Int × Nat × Nat × Nat × List (Int × Int × Int × Int × Int × Int × Int × Int × Int))) (x : (Int × (Int × Int) × (Int × Int × Int × Bool × Int) × (Int × Int × Int) × Int × Int × Int × Bool)) : Option (Bool) := retOf st9_6 k (Nat.succ (mu9_6 k x)) x
end Go.Proofs.YtpbljgpdhllklaaDoor.Sp
namespace Go.Proofs.YtpbljgpdhllklaaDoor.Sy
def LS9_6 : LS ty4.den := mkLS (Ty.pair ty58 ty32) (Ty.pair ty3 ty66)  [(1, none)] [(5, 8)] [(7, none)] [(6, 14)] [] [17] [(5, 5), (6, 6)] 0 true Sp.in9_6 Sp.st9_6 Sp.mu9_6
theorem va9_6 (k : (Ty.pair ty58 ty32).den) (x : (Ty.pair ty3 ty66).den) : ((evCode (ctxP PmV5 none GmV7 []) (lookL []) (bodyAt (bodyOf Tryd.f9) [0]) (tmpl LS9_6 (enc (Ty.pair ty58 ty32) k) (enc (Ty.pair ty3 ty66) x)) (evRound LS9_6 (evRet (ctxP PmV5 none GmV7 []) Tryd.f9 (Rsh.one (none)) none ty4 .ret)))).val BOut.ret (BOut.brk (Ty.dflt (Ty.pair ty58 ty32)) (Ty.dflt (Ty.pair ty3 ty66))) = Sp.st9_6 k x := by kernel_rfl
theorem se9_6 (k : (Ty.pair ty58 ty32).den) (x : (Ty.pair ty3 ty66).den) : ((evCode (ctxP PmV5 none GmV7 []) (lookL []) (bodyAt (bodyOf Tryd.f9) [0]) (tmpl LS9_6 (enc (Ty.pair ty58 ty32) k) (enc (Ty.pair ty3 ty66) x)) (evRound LS9_6 (evRet (ctxP PmV5 none GmV7 []) Tryd.f9 (Rsh.one (none)) none ty4 .ret)))).safe = ((((decide (x.1 < ((k.1).length : Int))) = true → ((0 ≤ x.1 ∧ x.1 < ((k.1).length : Int)) ∧ (((IntKind.u64.wrap k.2.1) ≠ 0) ∧ (((3 : Int) ≠ 0) ∧ ((((Sp.K9_6_1 k x).2.2 != (0 : Int)) = true → True) ∧ (((Sp.K9_6_1 k x).2.2 != (0 : Int)) = false → (((((((Sp.K9_6_1 k x).1.2.2.1.1 != (0 : Int)) && (!((x.2.2.2.1.1 == (Sp.K9_6_1 k x).1.2.2.1.1) && ((x.2.2.2.1.2.1 == (Sp.K9_6_1 k x).1.2.2.1.2.1) && (x.2.2.2.1.2.2 == (Sp.K9_6_1 k x).1.2.2.1.2.2))))) && ((Sp.K9_6_1 k x).1.2.2.1.2.1 == (0 : Int))) && ((((((IntKind.i64.wrap (Int.tmod (IntKind.u64.wrap ((Sp.nthT k.1 x.1).1.2.2.1)) (3 : Int))) != (2 : Int)) || (!((Sp.nthT k.1 x.1).1.2.1))) || ((Sp.K9_6_1 k x).2.1 != (Sp.K9_6_1 k x).1.2.2.1.1)) || (((Sp.K9_6_1 k x).2.1 == (1 : Int)) && ((IntKind.i64.wrap (Int.tmod (IntKind.u64.wrap ((Sp.nthT k.1 x.1).1.1)) (IntKind.u64.wrap k.2.1))) == (IntKind.i64.wrap (k.2.1 - (1 : Int)))))) || (((Sp.K9_6_1 k x).2.1 == (2 : Int)) && ((IntKind.i64.wrap (Int.tmod (IntKind.u64.wrap ((Sp.nthT k.1 x.1).1.1)) (IntKind.u64.wrap k.2.1))) == (0 : Int))))) = true → True) ∧ ((((((Sp.K9_6_1 k x).1.2.2.1.1 != (0 : Int)) && (!((x.2.2.2.1.1 == (Sp.K9_6_1 k x).1.2.2.1.1) && ((x.2.2.2.1.2.1 == (Sp.K9_6_1 k x).1.2.2.1.2.1) && (x.2.2.2.1.2.2 == (Sp.K9_6_1 k x).1.2.2.1.2.2))))) && ((Sp.K9_6_1 k x).1.2.2.1.2.1 == (0 : Int))) && ((((((IntKind.i64.wrap (Int.tmod (IntKind.u64.wrap ((Sp.nthT k.1 x.1).1.2.2.1)) (3 : Int))) != (2 : Int)) || (!((Sp.nthT k.1 x.1).1.2.1))) || ((Sp.K9_6_1 k x).2.1 != (Sp.K9_6_1 k x).1.2.2.1.1)) || (((Sp.K9_6_1 k x).2.1 == (1 : Int)) && ((IntKind.i64.wrap (Int.tmod (IntKind.u64.wrap ((Sp.nthT k.1 x.1).1.1)) (IntKind.u64.wrap k.2.1))) == (IntKind.i64.wrap (k.2.1 - (1 : Int)))))) || (((Sp.K9_6_1 k x).2.1 == (2 : Int)) && ((IntKind.i64.wrap (Int.tmod (IntKind.u64.wrap ((Sp.nthT k.1 x.1).1.1)) (IntKind.u64.wrap k.2.1))) == (0 : Int))))) = false → (((((((Sp.K9_6_1 k x).2.1 == (1 : Int)) || ((Sp.K9_6_1 k x).2.1 == (2 : Int))) && ((Sp.K9_6_1 k x).1.2.2.1.1 != (Sp.K9_6_1 k x).2.1)) || (((x.2.2.1.1 == (0 : Int)) && ((Sp.K9_6_1 k x).1.2.1.1 != (0 : Int))) && (!((Sp.nthT k.1 x.1).1.2.1)))) = true → True) ∧ ((((((Sp.K9_6_1 k x).2.1 == (1 : Int)) || ((Sp.K9_6_1 k x).2.1 == (2 : Int))) && ((Sp.K9_6_1 k x).1.2.2.1.1 != (Sp.K9_6_1 k x).2.1)) || (((x.2.2.1.1 == (0 : Int)) && ((Sp.K9_6_1 k x).1.2.1.1 != (0 : Int))) && (!((Sp.nthT k.1 x.1).1.2.1)))) = false → (((x.2.2.2.2.2.2.2 && (((Sp.K9_6_1 k x).2.1 != (0 : Int)) || (!((((Sp.K9_6_1 k x).1.1.1 == x.2.1.1) && ((Sp.K9_6_1 k x).1.1.2 == x.2.1.2)) && ((((Sp.K9_6_1 k x).1.2.1.1 == x.2.2.1.1) && (((Sp.K9_6_1 k x).1.2.1.2.1 == x.2.2.1.2.1) && (((Sp.K9_6_1 k x).1.2.1.2.2.1 == x.2.2.1.2.2.1) && (((Sp.K9_6_1 k x).1.2.1.2.2.2.1 == x.2.2.1.2.2.2.1) && ((Sp.K9_6_1 k x).1.2.1.2.2.2.2 == x.2.2.1.2.2.2.2))))) && ((((Sp.K9_6_1 k x).1.2.2.1.1 == x.2.2.2.1.1) && (((Sp.K9_6_1 k x).1.2.2.1.2.1 == x.2.2.2.1.2.1) && ((Sp.K9_6_1 k x).1.2.2.1.2.2 == x.2.2.2.1.2.2))) && (((Sp.K9_6_1 k x).1.2.2.2.1 == x.2.2.2.2.1) && (((Sp.K9_6_1 k x).1.2.2.2.2.1 == x.2.2.2.2.2.1) && (((Sp.K9_6_1 k x).1.2.2.2.2.2.1 == x.2.2.2.2.2.2.1) && ((Sp.K9_6_1 k x).1.2.2.2.2.2.2 == x.2.2.2.2.2.2.2)))))))))) = true → True) ∧ ((x.2.2.2.2.2.2.2 && (((Sp.K9_6_1 k x).2.1 != (0 : Int)) || (!((((Sp.K9_6_1 k x).1.1.1 == x.2.1.1) && ((Sp.K9_6_1 k x).1.1.2 == x.2.1.2)) && ((((Sp.K9_6_1 k x).1.2.1.1 == x.2.2.1.1) && (((Sp.K9_6_1 k x).1.2.1.2.1 == x.2.2.1.2.1) && (((Sp.K9_6_1 k x).1.2.1.2.2.1 == x.2.2.1.2.2.1) && (((Sp.K9_6_1 k x).1.2.1.2.2.2.1 == x.2.2.1.2.2.2.1) && ((Sp.K9_6_1 k x).1.2.1.2.2.2.2 == x.2.2.1.2.2.2.2))))) && ((((Sp.K9_6_1 k x).1.2.2.1.1 == x.2.2.2.1.1) && (((Sp.K9_6_1 k x).1.2.2.1.2.1 == x.2.2.2.1.2.1) && ((Sp.K9_6_1 k x).1.2.2.1.2.2 == x.2.2.2.1.2.2))) && (((Sp.K9_6_1 k x).1.2.2.2.1 == x.2.2.2.2.1) && (((Sp.K9_6_1 k x).1.2.2.2.2.1 == x.2.2.2.2.2.1) && (((Sp.K9_6_1 k x).1.2.2.2.2.2.1 == x.2.2.2.2.2.2.1) && ((Sp.K9_6_1 k x).1.2.2.2.2.2.2 == x.2.2.2.2.2.2.2)))))))))) = false → True)))))))))))) ∧ ((decide (x.1 < ((k.1).length : Int))) = false → True))) := by kernel_rfl
set_option maxHeartbeats 4000000 in
theorem sa9_6 (k : (Ty.pair ty58 ty32).den) (x : (Ty.pair ty3 ty66).den) (fk : Fit (Ty.pair ty58 ty32) k) (fx : Fit (Ty.pair ty3 ty66) x) (h : Sp.in9_6 k x) : SafeW ((evCode (ctxP PmV5 none GmV7 []) (lookL []) (bodyAt (bodyOf Tryd.f9) [0]) (tmpl LS9_6 (enc (Ty.pair ty58 ty32) k) (enc (Ty.pair ty3 ty66) x)) (evRound LS9_6 (evRet (ctxP PmV5 none GmV7 []) Tryd.f9 (Rsh.one (none)) none ty4 .ret)))) := by
  refine ⟨?_⟩
  rw [se9_6]
  try dsimp only [Ty.den] at *
  simp only [Sp.in9_6] at h
  refine ⟨fun hc => ?_, fun _ => trivial⟩
  rw [decide_eq_true_eq] at hc
  have hw : IntKind.u64.wrap k.2.1 = k.2.1 := by rw [IntKind.wrap_u64]; omega
  refine ⟨⟨h.1, hc⟩, by omega, by decide, ?_⟩
  repeat' (first | exact trivial | apply And.intro | intro _)
set_option maxHeartbeats 4000000 in
theorem so9_6 (k : (Ty.pair ty58 ty32).den) (x : (Ty.pair ty3 ty66).den) (fk : Fit (Ty.pair ty58 ty32) k) (h : Sp.in9_6 k x) : StepOk true Sp.in9_6 Sp.mu9_6 k x (Sp.st9_6 k x) := by
  try dsimp only [Ty.den] at *
  simp only [Sp.in9_6, Fit, maxLen] at h fk
  unfold Sp.st9_6
  (repeat' (first | exact rfl | (refine StepOk.cnd (fun hc => ?_) (fun hc => ?_) <;> (try simp only [IntKind.wrap_i64, IntKind.wrap_u8, IntKind.wrap_u32, IntKind.wrap_u64, bne_eq_false_iff_eq, Int.natCast_inj, setE, copyL, sliceL, zrow, List.length_append, List.length_cons, List.length_nil, List.length_set, List.length_replicate, List.length_take, List.length_drop, decide_eq_true_eq, decide_eq_false_iff_not, Bool.or_eq_true, Bool.and_eq_true, Bool.or_eq_false_iff, Bool.and_eq_false_iff, Bool.not_eq_true', Bool.not_eq_false', Bool.not_eq_true, Bool.not_eq_false, beq_iff_eq, beq_eq_false_iff_ne, bne_iff_ne, ne_eq] at hc)) | refine StepOk.opt (fun _ => ?_))) <;> (first | exact rfl | (refine ⟨rfl, ?_, ?_⟩ <;> simp only [Sp.in9_6, Sp.mu9_6, Sp.K9_6_1, IntKind.wrap_i64, IntKind.wrap_u8, IntKind.wrap_u32, IntKind.wrap_u64, Sp.tmod_lit, Sp.tdiv_lit, bne_eq_false_iff_eq, Int.natCast_inj, setE, copyL, sliceL, zrow, List.length_append, List.length_cons, List.length_nil, List.length_set, List.length_replicate, List.length_take, List.length_drop, decide_eq_true_eq, decide_eq_false_iff_not, Bool.or_eq_true, Bool.and_eq_true, Bool.or_eq_false_iff, Bool.and_eq_false_iff, Bool.not_eq_true', Bool.not_eq_false', Bool.not_eq_true, Bool.not_eq_false, beq_iff_eq, beq_eq_false_iff_ne, bne_iff_ne, ne_eq] <;> first | omega | (and_intros <;> first | omega | exact h.1 | exact h.2 | exact h.2.1 | exact h.2.2 | exact h.2.2.1 | exact h.2.2.2 | exact h.2.2.2.1 | exact h.2.2.2.2 | exact h.2.2.2.2.1 | exact h.2.2.2.2.2 | exact h.2.2.2.2.2.1 | exact h.2.2.2.2.2.2)))
theorem lo9_6 : LoopOk Tryd.prog gdS (RetAt Tryd.prog Tryd.f9 (Rsh.one (none)) none ty4) (bodyAt (bodyOf Tryd.f9) [0]) LS9_6 :=
  loop_run (ctxOkP pgokPmV5 fvok_none gokGmV7 []) (L := lookL []) (loops_of (l := []) (by kernel_rfl) (loops_nil)) sa9_6 va9_6 so9_6
end Go.Proofs.YtpbljgpdhllklaaDoor.Sy
namespace Go.Proofs.YtpbljgpdhllklaaDoor.Sp
open Go Go.RowKit Sy
def F9 (x : (Int × Int) × List ((Int × Bool × Int × Bool) × Int × Int × Int)) : Bool :=
  bif (decide (((x.2).length : Int) > (200 : Int))) then
    (Sp.F28 ())
  else
    Sp.optR (Sp.R9_6 (x.2, (Sp.F11 x.1)) ((0 : Int), ((0 : Int), (0 : Int)), ((0 : Int), (0 : Int), (0 : Int), false, (0 : Int)), ((0 : Int), (0 : Int), (0 : Int)), (0 : Int), (0 : Int), (0 : Int), false)) (fun y => y)
    ((Sp.F28 ()))
def pre9 (x : (Int × Int) × List ((Int × Bool × Int × Bool) × Int × Int × Int)) : Prop := (0 ≤ x.1.1 ∧ x.1.1 ≤ 255) ∧ 0 ≤ x.1.2 ∧ x.1.2 ≤ 255
end Go.Proofs.YtpbljgpdhllklaaDoor.Sp
namespace Go.Proofs.YtpbljgpdhllklaaDoor.Sy
def ct9 : Ct := { p := (Ty.pair ty22 ty58), psh := [some 2, none], r := ty4, rsh := (Rsh.one (none)), pre := some Sp.pre9, fresh := none, F := Sp.F9 }
theorem va9 (x : (Ty.pair ty22 ty58).den) : ((evFn (ctxP PmV5 none GmV7 []) Tryd.f9 (Ty.pair ty22 ty58) [some 2, none] (Rsh.one (none)) none ty4 (lookL [(6, LS9_6)]) x)).val (fun y => y) (Ty.dflt ty4) = Sp.F9 x := by kernel_rfl
theorem se9 (x : (Ty.pair ty22 ty58).den) : ((evFn (ctxP PmV5 none GmV7 []) Tryd.f9 (Ty.pair ty22 ty58) [some 2, none] (Rsh.one (none)) none ty4 (lookL [(6, LS9_6)]) x)).safe = (((Sp.pre11 x.1) ∧ (((decide (((x.2).length : Int) > (200 : Int))) = true → True) ∧ ((decide (((x.2).length : Int) > (200 : Int))) = false → ((Sp.in9_6 (x.2, (Sp.F11 x.1)) ((0 : Int), ((0 : Int), (0 : Int)), ((0 : Int), (0 : Int), (0 : Int), false, (0 : Int)), ((0 : Int), (0 : Int), (0 : Int)), (0 : Int), (0 : Int), (0 : Int), false)) ∧ ((Sp.R9_6 (x.2, (Sp.F11 x.1)) ((0 : Int), ((0 : Int), (0 : Int)), ((0 : Int), (0 : Int), (0 : Int), false, (0 : Int)), ((0 : Int), (0 : Int), (0 : Int)), (0 : Int), (0 : Int), (0 : Int), false)) = none → True)))))) := by kernel_rfl
theorem sa9 (x : (Ty.pair ty22 ty58).den) (fx : Fit (Ty.pair ty22 ty58) x) (h : Sp.pre9 x) : SafeW ((evFn (ctxP PmV5 none GmV7 []) Tryd.f9 (Ty.pair ty22 ty58) [some 2, none] (Rsh.one (none)) none ty4 (lookL [(6, LS9_6)]) x)) := by
  refine ⟨?_⟩
  rw [se9]
  try dsimp only [Ty.den] at *
  unfold Sp.pre9 at h
  have hpre := h
  have hB := Sp.b15 (x := x.1) hpre
  have hf := hB.1.fl
  have hn := hB.1.cn
  have hl := Sp.b15_len (x := x.1) hpre
  refine ⟨hpre, fun _ => trivial, fun _ => ⟨⟨by show (0 : Int) ≤ 0; decide, hf.1, hB.2⟩, fun _ => trivial⟩⟩
theorem ok9 : CtOk Tryd.prog gdS 9 ct9 :=
  fn_okU (ctxOkP pgokPmV5 fvok_none gokGmV7 []) rfl Tryd.func9 (p := (Ty.pair ty22 ty58)) (psh := [some 2, none]) (r := ty4) (rsh := (Rsh.one (none))) (pre := some Sp.pre9) (fresh := none) (F := Sp.F9) (L := (lookL [(6, LS9_6)])) (c := bodyOf Tryd.f9) (dflt := Ty.dflt ty4) rfl (loops_of (l := [bodyAt (bodyOf Tryd.f9) [0]]) (by kernel_rfl) (loops_cons (s0 := LS9_6) (by kernel_rfl) lo9_6 (loops_nil)))
    (safe_pre @sa9) va9
/-! overlaylaw15.NewcarFaults -/
end Go.Proofs.YtpbljgpdhllklaaDoor.Sy
namespace Go.Proofs.YtpbljgpdhllklaaDoor.Sp
open Go Go.RowKit Sy
def in10_7 (k : (Int × Bool × Int × Int × Int × Int × Int × Nat × Nat × Nat × List (Int × Int × Int × Int × Int × Int × Int × Int × Int))) (x : (Int × (Int × Int) × (Int × Int × Int × Bool × Int) × (Int × Int × Int) × Int × Int × Int × Bool)) : Prop := (1 : Int) ≤ x.1 ∧ (0 ≤ k.1 ∧ k.1 ≤ 255) ∧ 1 ≤ k.2.2.1 ∧ k.2.2.1 ≤ 10000
def mu10_7 (k : (Int × Bool × Int × Int × Int × Int × Int × Nat × Nat × Nat × List (Int × Int × Int × Int × Int × Int × Int × Int × Int))) (x : (Int × (Int × Int) × (Int × Int × Int × Bool × Int) × (Int × Int × Int) × Int × Int × Int × Bool)) : Nat := ((IntKind.i64.wrap ((IntKind.i64.wrap (k.2.2.1 + (1 : Int))) + (IntKind.i64.wrap (Int.tmod k.1 (20 : Int))))) - x.1 + 1).toNat
def st10_7 (k : (Int × Bool × Int × Int × Int × Int × Int × Nat × Nat × Nat × List (Int × Int × Int × Int × Int × Int × Int × Int × Int))) (x : (Int × (Int × Int) × (Int × Int × Int × Bool × Int) × (Int × Int × Int) × Int × Int × Int × Bool)) : BOut (Int × Bool × Int × Int × Int × Int × Int × Nat × Nat × Nat × List (Int × Int × Int × Int × Int × Int × Int × Int × Int)) (Int × (Int × Int) × (Int × Int × Int × Bool × Int) × (Int × Int × Int) × Int × Int × Int × Bool) (Bool) :=
  bif (decide (x.1 ≤ (IntKind.i64.wrap ((IntKind.i64.wrap (k.2.2.1 + (1 : Int))) + (IntKind.i64.wrap (Int.tmod k.1 (20 : Int))))))) then
    (bif k.2.1 then
      (bif ((((Sp.F30 (k.2.2.2, (0 : Int), x.2)).2.2 != (0 : Int)) || ((Sp.F30 (k.2.2.2, (0 : Int), x.2)).1.2.2.2.2.2.2 != (decide (x.1 > k.2.2.1)))) || ((Sp.F30 (k.2.2.2, (0 : Int), x.2)).1.2.2.2.2.2.2 && (((Sp.F30 (k.2.2.2, (0 : Int), x.2)).2.1 != (0 : Int)) || (!((((Sp.F30 (k.2.2.2, (0 : Int), x.2)).1.1.1 == (0 : Int)) && ((Sp.F30 (k.2.2.2, (0 : Int), x.2)).1.1.2 == (0 : Int))) && ((((Sp.F30 (k.2.2.2, (0 : Int), x.2)).1.2.1.1 == (0 : Int)) && (((Sp.F30 (k.2.2.2, (0 : Int), x.2)).1.2.1.2.1 == (0 : Int)) && (((Sp.F30 (k.2.2.2, (0 : Int), x.2)).1.2.1.2.2.1 == (0 : Int)) && (((Sp.F30 (k.2.2.2, (0 : Int), x.2)).1.2.1.2.2.2.1 == false) && ((Sp.F30 (k.2.2.2, (0 : Int), x.2)).1.2.1.2.2.2.2 == (0 : Int)))))) && ((((Sp.F30 (k.2.2.2, (0 : Int), x.2)).1.2.2.1.1 == (0 : Int)) && (((Sp.F30 (k.2.2.2, (0 : Int), x.2)).1.2.2.1.2.1 == (0 : Int)) && ((Sp.F30 (k.2.2.2, (0 : Int), x.2)).1.2.2.1.2.2 == (0 : Int)))) && (((Sp.F30 (k.2.2.2, (0 : Int), x.2)).1.2.2.2.1 == (0 : Int)) && (((Sp.F30 (k.2.2.2, (0 : Int), x.2)).1.2.2.2.2.1 == (0 : Int)) && (((Sp.F30 (k.2.2.2, (0 : Int), x.2)).1.2.2.2.2.2.1 == (0 : Int)) && ((Sp.F30 (k.2.2.2, (0 : Int), x.2)).1.2.2.2.2.2.2 == true))))))))))) then
        BOut.ret false
      else
        BOut.next k ((IntKind.i64.wrap (x.1 + (1 : Int))), (Sp.F30 (k.2.2.2, (0 : Int), x.2)).1))
    else
      bif ((((Sp.F29 (k.2.2.2, (0 : Int), x.2, ((0 : Int), false, (2 : Int), false), (1 : Int), (0 : Int), (0 : Int))).2.2 != (0 : Int)) || ((Sp.F29 (k.2.2.2, (0 : Int), x.2, ((0 : Int), false, (2 : Int), false), (1 : Int), (0 : Int), (0 : Int))).1.2.2.2.2.2.2 != (decide (x.1 > k.2.2.1)))) || ((Sp.F29 (k.2.2.2, (0 : Int), x.2, ((0 : Int), false, (2 : Int), false), (1 : Int), (0 : Int), (0 : Int))).1.2.2.2.2.2.2 && (((Sp.F29 (k.2.2.2, (0 : Int), x.2, ((0 : Int), false, (2 : Int), false), (1 : Int), (0 : Int), (0 : Int))).2.1 != (0 : Int)) || (!((((Sp.F29 (k.2.2.2, (0 : Int), x.2, ((0 : Int), false, (2 : Int), false), (1 : Int), (0 : Int), (0 : Int))).1.1.1 == (0 : Int)) && ((Sp.F29 (k.2.2.2, (0 : Int), x.2, ((0 : Int), false, (2 : Int), false), (1 : Int), (0 : Int), (0 : Int))).1.1.2 == (0 : Int))) && ((((Sp.F29 (k.2.2.2, (0 : Int), x.2, ((0 : Int), false, (2 : Int), false), (1 : Int), (0 : Int), (0 : Int))).1.2.1.1 == (0 : Int)) && (((Sp.F29 (k.2.2.2, (0 : Int), x.2, ((0 : Int), false, (2 : Int), false), (1 : Int), (0 : Int), (0 : Int))).1.2.1.2.1 == (0 : Int)) && (((Sp.F29 (k.2.2.2, (0 : Int), x.2, ((0 : Int), false, (2 : Int), false), (1 : Int), (0 : Int), (0 : Int))).1.2.1.2.2.1 == (0 : Int)) && (((Sp.F29 (k.2.2.2, (0 : Int), x.2, ((0 : Int), false, (2 : Int), false), (1 : Int), (0 : Int), (0 : Int))).1.2.1.2.2.2.1 == false) && ((Sp.F29 (k.2.2.2, (0 : Int), x.2, ((0 : Int), false, (2 : Int), false), (1 : Int), (0 : Int), (0 : Int))).1.2.1.2.2.2.2 == (0 : Int)))))) && ((((Sp.F29 (k.2.2.2, (0 : Int), x.2, ((0 : Int), false, (2 : Int), false), (1 : Int), (0 : Int), (0 : Int))).1.2.2.1.1 == (0 : Int)) && (((Sp.F29 (k.2.2.2, (0 : Int), x.2, ((0 : Int), false, (2 : Int), false), (1 : Int), (0 : Int), (0 : Int))).1.2.2.1.2.1 == (0 : Int)) && ((Sp.F29 (k.2.2.2, (0 : Int), x.2, ((0 : Int), false, (2 : Int), false), (1 : Int), (0 : Int), (0 : Int))).1.2.2.1.2.2 == (0 : Int)))) && (((Sp.F29 (k.2.2.2, (0 : Int), x.2, ((0 : Int), false, (2 : Int), false), (1 : Int), (0 : Int), (0 : Int))).1.2.2.2.1 == (0 : Int)) && (((Sp.F29 (k.2.2.2, (0 : Int), x.2, ((0 : Int), false, (2 : Int), false), (1 : Int), (0 : Int), (0 : Int))).1.2.2.2.2.1 == (0 : Int)) && (((Sp.F29 (k.2.2.2, (0 : Int), x.2, ((0 : Int), false, (2 : Int), false), (1 : Int), (0 : Int), (0 : Int))).1.2.2.2.2.2.1 == (0 : Int)) && ((Sp.F29 (k.2.2.2, (0 : Int), x.2, ((0 : Int), false, (2 : Int), false), (1 : Int), (0 : Int), (0 : Int))).1.2.2.2.2.2.2 == true))))))))))) then
        BOut.ret false
      else
        BOut.next k ((IntKind.i64.wrap (x.1 + (1 : Int))), (Sp.F29 (k.2.2.2, (0 : Int), x.2, ((0 : Int), false, (2 : Int), false), (1 : Int), (0 : Int), (0 : Int))).1))
  else
    BOut.brk k x
def G10_7 (k : (Int × Bool × Int × Int × Int × Int × Int × Nat × Nat × Nat × List (Int × Int × Int × Int × Int × Int × Int × Int × Int))) (x : (Int × (Int × Int) × (Int × Int × Int × Bool × Int) × (Int × Int × Int) × Int × Int × Int × Bool)) : (Int × (Int × Int) × (Int × Int × Int × Bool × Int) × (Int × Int × Int) × Int × Int × Int × Bool) := endOf st10_7 k (Nat.succ (mu10_7 k x)) x
def R10_7 (k : (Int × Bool × Int × Int × Int × Int × Int × Nat × Nat × Nat × List (Int × Int × Int × Int × Int × Int × Int × Int × Int))) (x : (Int × (Int × Int) × (Int × Int × Int × Bool × Int) × (Int × Int × Int) × Int × Int × Int × Bool)) : Option (Bool) := retOf st10_7 k (Nat.succ (mu10_7 k x)) x
end Go.Proofs.YtpbljgpdhllklaaDoor.Sp
namespace Go.Proofs.YtpbljgpdhllklaaDoor.Sy
def LS10_7 : LS ty4.den := mkLS (Ty.pair ty5 (Ty.pair ty4 (Ty.pair ty3 ty32))) (Ty.pair ty3 ty66)  [(1, none), (2, none), (8, none)] [(7, 8)] [(12, none)] [(9, 14)] [] [20] [(7, 7), (9, 9)] 0 true Sp.in10_7 Sp.st10_7 Sp.mu10_7
theorem va10_7 (k : (Ty.pair ty5 (Ty.pair ty4 (Ty.pair ty3 ty32))).den) (x : (Ty.pair ty3 ty66).den) : ((evCode (ctxP PmV5 none GmV7 []) (lookL []) (bodyAt (bodyOf Tryd.f10) [0]) (tmpl LS10_7 (enc (Ty.pair ty5 (Ty.pair ty4 (Ty.pair ty3 ty32))) k) (enc (Ty.pair ty3 ty66) x)) (evRound LS10_7 (evRet (ctxP PmV5 none GmV7 []) Tryd.f10 (Rsh.one (none)) none ty4 .ret)))).val BOut.ret (BOut.brk (Ty.dflt (Ty.pair ty5 (Ty.pair ty4 (Ty.pair ty3 ty32)))) (Ty.dflt (Ty.pair ty3 ty66))) = Sp.st10_7 k x := by kernel_rfl
theorem se10_7 (k : (Ty.pair ty5 (Ty.pair ty4 (Ty.pair ty3 ty32))).den) (x : (Ty.pair ty3 ty66).den) : ((evCode (ctxP PmV5 none GmV7 []) (lookL []) (bodyAt (bodyOf Tryd.f10) [0]) (tmpl LS10_7 (enc (Ty.pair ty5 (Ty.pair ty4 (Ty.pair ty3 ty32))) k) (enc (Ty.pair ty3 ty66) x)) (evRound LS10_7 (evRet (ctxP PmV5 none GmV7 []) Tryd.f10 (Rsh.one (none)) none ty4 .ret)))).safe = ((((20 : Int) ≠ 0) ∧ (((decide (x.1 ≤ (IntKind.i64.wrap ((IntKind.i64.wrap (k.2.2.1 + (1 : Int))) + (IntKind.i64.wrap (Int.tmod k.1 (20 : Int))))))) = true → ((k.2.1 = true → ((((((Sp.F30 (k.2.2.2, (0 : Int), x.2)).2.2 != (0 : Int)) || ((Sp.F30 (k.2.2.2, (0 : Int), x.2)).1.2.2.2.2.2.2 != (decide (x.1 > k.2.2.1)))) || ((Sp.F30 (k.2.2.2, (0 : Int), x.2)).1.2.2.2.2.2.2 && (((Sp.F30 (k.2.2.2, (0 : Int), x.2)).2.1 != (0 : Int)) || (!((((Sp.F30 (k.2.2.2, (0 : Int), x.2)).1.1.1 == (0 : Int)) && ((Sp.F30 (k.2.2.2, (0 : Int), x.2)).1.1.2 == (0 : Int))) && ((((Sp.F30 (k.2.2.2, (0 : Int), x.2)).1.2.1.1 == (0 : Int)) && (((Sp.F30 (k.2.2.2, (0 : Int), x.2)).1.2.1.2.1 == (0 : Int)) && (((Sp.F30 (k.2.2.2, (0 : Int), x.2)).1.2.1.2.2.1 == (0 : Int)) && (((Sp.F30 (k.2.2.2, (0 : Int), x.2)).1.2.1.2.2.2.1 == false) && ((Sp.F30 (k.2.2.2, (0 : Int), x.2)).1.2.1.2.2.2.2 == (0 : Int)))))) && ((((Sp.F30 (k.2.2.2, (0 : Int), x.2)).1.2.2.1.1 == (0 : Int)) && (((Sp.F30 (k.2.2.2, (0 : Int), x.2)).1.2.2.1.2.1 == (0 : Int)) && ((Sp.F30 (k.2.2.2, (0 : Int), x.2)).1.2.2.1.2.2 == (0 : Int)))) && (((Sp.F30 (k.2.2.2, (0 : Int), x.2)).1.2.2.2.1 == (0 : Int)) && (((Sp.F30 (k.2.2.2, (0 : Int), x.2)).1.2.2.2.2.1 == (0 : Int)) && (((Sp.F30 (k.2.2.2, (0 : Int), x.2)).1.2.2.2.2.2.1 == (0 : Int)) && ((Sp.F30 (k.2.2.2, (0 : Int), x.2)).1.2.2.2.2.2.2 == true))))))))))) = true → True) ∧ (((((Sp.F30 (k.2.2.2, (0 : Int), x.2)).2.2 != (0 : Int)) || ((Sp.F30 (k.2.2.2, (0 : Int), x.2)).1.2.2.2.2.2.2 != (decide (x.1 > k.2.2.1)))) || ((Sp.F30 (k.2.2.2, (0 : Int), x.2)).1.2.2.2.2.2.2 && (((Sp.F30 (k.2.2.2, (0 : Int), x.2)).2.1 != (0 : Int)) || (!((((Sp.F30 (k.2.2.2, (0 : Int), x.2)).1.1.1 == (0 : Int)) && ((Sp.F30 (k.2.2.2, (0 : Int), x.2)).1.1.2 == (0 : Int))) && ((((Sp.F30 (k.2.2.2, (0 : Int), x.2)).1.2.1.1 == (0 : Int)) && (((Sp.F30 (k.2.2.2, (0 : Int), x.2)).1.2.1.2.1 == (0 : Int)) && (((Sp.F30 (k.2.2.2, (0 : Int), x.2)).1.2.1.2.2.1 == (0 : Int)) && (((Sp.F30 (k.2.2.2, (0 : Int), x.2)).1.2.1.2.2.2.1 == false) && ((Sp.F30 (k.2.2.2, (0 : Int), x.2)).1.2.1.2.2.2.2 == (0 : Int)))))) && ((((Sp.F30 (k.2.2.2, (0 : Int), x.2)).1.2.2.1.1 == (0 : Int)) && (((Sp.F30 (k.2.2.2, (0 : Int), x.2)).1.2.2.1.2.1 == (0 : Int)) && ((Sp.F30 (k.2.2.2, (0 : Int), x.2)).1.2.2.1.2.2 == (0 : Int)))) && (((Sp.F30 (k.2.2.2, (0 : Int), x.2)).1.2.2.2.1 == (0 : Int)) && (((Sp.F30 (k.2.2.2, (0 : Int), x.2)).1.2.2.2.2.1 == (0 : Int)) && (((Sp.F30 (k.2.2.2, (0 : Int), x.2)).1.2.2.2.2.2.1 == (0 : Int)) && ((Sp.F30 (k.2.2.2, (0 : Int), x.2)).1.2.2.2.2.2.2 == true))))))))))) = false → True))) ∧ (k.2.1 = false → ((((((Sp.F29 (k.2.2.2, (0 : Int), x.2, ((0 : Int), false, (2 : Int), false), (1 : Int), (0 : Int), (0 : Int))).2.2 != (0 : Int)) || ((Sp.F29 (k.2.2.2, (0 : Int), x.2, ((0 : Int), false, (2 : Int), false), (1 : Int), (0 : Int), (0 : Int))).1.2.2.2.2.2.2 != (decide (x.1 > k.2.2.1)))) || ((Sp.F29 (k.2.2.2, (0 : Int), x.2, ((0 : Int), false, (2 : Int), false), (1 : Int), (0 : Int), (0 : Int))).1.2.2.2.2.2.2 && (((Sp.F29 (k.2.2.2, (0 : Int), x.2, ((0 : Int), false, (2 : Int), false), (1 : Int), (0 : Int), (0 : Int))).2.1 != (0 : Int)) || (!((((Sp.F29 (k.2.2.2, (0 : Int), x.2, ((0 : Int), false, (2 : Int), false), (1 : Int), (0 : Int), (0 : Int))).1.1.1 == (0 : Int)) && ((Sp.F29 (k.2.2.2, (0 : Int), x.2, ((0 : Int), false, (2 : Int), false), (1 : Int), (0 : Int), (0 : Int))).1.1.2 == (0 : Int))) && ((((Sp.F29 (k.2.2.2, (0 : Int), x.2, ((0 : Int), false, (2 : Int), false), (1 : Int), (0 : Int), (0 : Int))).1.2.1.1 == (0 : Int)) && (((Sp.F29 (k.2.2.2, (0 : Int), x.2, ((0 : Int), false, (2 : Int), false), (1 : Int), (0 : Int), (0 : Int))).1.2.1.2.1 == (0 : Int)) && (((Sp.F29 (k.2.2.2, (0 : Int), x.2, ((0 : Int), false, (2 : Int), false), (1 : Int), (0 : Int), (0 : Int))).1.2.1.2.2.1 == (0 : Int)) && (((Sp.F29 (k.2.2.2, (0 : Int), x.2, ((0 : Int), false, (2 : Int), false), (1 : Int), (0 : Int), (0 : Int))).1.2.1.2.2.2.1 == false) && ((Sp.F29 (k.2.2.2, (0 : Int), x.2, ((0 : Int), false, (2 : Int), false), (1 : Int), (0 : Int), (0 : Int))).1.2.1.2.2.2.2 == (0 : Int)))))) && ((((Sp.F29 (k.2.2.2, (0 : Int), x.2, ((0 : Int), false, (2 : Int), false), (1 : Int), (0 : Int), (0 : Int))).1.2.2.1.1 == (0 : Int)) && (((Sp.F29 (k.2.2.2, (0 : Int), x.2, ((0 : Int), false, (2 : Int), false), (1 : Int), (0 : Int), (0 : Int))).1.2.2.1.2.1 == (0 : Int)) && ((Sp.F29 (k.2.2.2, (0 : Int), x.2, ((0 : Int), false, (2 : Int), false), (1 : Int), (0 : Int), (0 : Int))).1.2.2.1.2.2 == (0 : Int)))) && (((Sp.F29 (k.2.2.2, (0 : Int), x.2, ((0 : Int), false, (2 : Int), false), (1 : Int), (0 : Int), (0 : Int))).1.2.2.2.1 == (0 : Int)) && (((Sp.F29 (k.2.2.2, (0 : Int), x.2, ((0 : Int), false, (2 : Int), false), (1 : Int), (0 : Int), (0 : Int))).1.2.2.2.2.1 == (0 : Int)) && (((Sp.F29 (k.2.2.2, (0 : Int), x.2, ((0 : Int), false, (2 : Int), false), (1 : Int), (0 : Int), (0 : Int))).1.2.2.2.2.2.1 == (0 : Int)) && ((Sp.F29 (k.2.2.2, (0 : Int), x.2, ((0 : Int), false, (2 : Int), false), (1 : Int), (0 : Int), (0 : Int))).1.2.2.2.2.2.2 == true))))))))))) = true → True) ∧ (((((Sp.F29 (k.2.2.2, (0 : Int), x.2, ((0 : Int), false, (2 : Int), false), (1 : Int), (0 : Int), (0 : Int))).2.2 != (0 : Int)) || ((Sp.F29 (k.2.2.2, (0 : Int), x.2, ((0 : Int), false, (2 : Int), false), (1 : Int), (0 : Int), (0 : Int))).1.2.2.2.2.2.2 != (decide (x.1 > k.2.2.1)))) || ((Sp.F29 (k.2.2.2, (0 : Int), x.2, ((0 : Int), false, (2 : Int), false), (1 : Int), (0 : Int), (0 : Int))).1.2.2.2.2.2.2 && (((Sp.F29 (k.2.2.2, (0 : Int), x.2, ((0 : Int), false, (2 : Int), false), (1 : Int), (0 : Int), (0 : Int))).2.1 != (0 : Int)) || (!((((Sp.F29 (k.2.2.2, (0 : Int), x.2, ((0 : Int), false, (2 : Int), false), (1 : Int), (0 : Int), (0 : Int))).1.1.1 == (0 : Int)) && ((Sp.F29 (k.2.2.2, (0 : Int), x.2, ((0 : Int), false, (2 : Int), false), (1 : Int), (0 : Int), (0 : Int))).1.1.2 == (0 : Int))) && ((((Sp.F29 (k.2.2.2, (0 : Int), x.2, ((0 : Int), false, (2 : Int), false), (1 : Int), (0 : Int), (0 : Int))).1.2.1.1 == (0 : Int)) && (((Sp.F29 (k.2.2.2, (0 : Int), x.2, ((0 : Int), false, (2 : Int), false), (1 : Int), (0 : Int), (0 : Int))).1.2.1.2.1 == (0 : Int)) && (((Sp.F29 (k.2.2.2, (0 : Int), x.2, ((0 : Int), false, (2 : Int), false), (1 : Int), (0 : Int), (0 : Int))).1.2.1.2.2.1 == (0 : Int)) && (((Sp.F29 (k.2.2.2, (0 : Int), x.2, ((0 : Int), false, (2 : Int), false), (1 : Int), (0 : Int), (0 : Int))).1.2.1.2.2.2.1 == false) && ((Sp.F29 (k.2.2.2, (0 : Int), x.2, ((0 : Int), false, (2 : Int), false), (1 : Int), (0 : Int), (0 : Int))).1.2.1.2.2.2.2 == (0 : Int)))))) && ((((Sp.F29 (k.2.2.2, (0 : Int), x.2, ((0 : Int), false, (2 : Int), false), (1 : Int), (0 : Int), (0 : Int))).1.2.2.1.1 == (0 : Int)) && (((Sp.F29 (k.2.2.2, (0 : Int), x.2, ((0 : Int), false, (2 : Int), false), (1 : Int), (0 : Int), (0 : Int))).1.2.2.1.2.1 == (0 : Int)) && ((Sp.F29 (k.2.2.2, (0 : Int), x.2, ((0 : Int), false, (2 : Int), false), (1 : Int), (0 : Int), (0 : Int))).1.2.2.1.2.2 == (0 : Int)))) && (((Sp.F29 (k.2.2.2, (0 : Int), x.2, ((0 : Int), false, (2 : Int), false), (1 : Int), (0 : Int), (0 : Int))).1.2.2.2.1 == (0 : Int)) && (((Sp.F29 (k.2.2.2, (0 : Int), x.2, ((0 : Int), false, (2 : Int), false), (1 : Int), (0 : Int), (0 : Int))).1.2.2.2.2.1 == (0 : Int)) && (((Sp.F29 (k.2.2.2, (0 : Int), x.2, ((0 : Int), false, (2 : Int), false), (1 : Int), (0 : Int), (0 : Int))).1.2.2.2.2.2.1 == (0 : Int)) && ((Sp.F29 (k.2.2.2, (0 : Int), x.2, ((0 : Int), false, (2 : Int), false), (1 : Int), (0 : Int), (0 : Int))).1.2.2.2.2.2.2 == true))))))))))) = false → True))))) ∧ ((decide (x.1 ≤ (IntKind.i64.wrap ((IntKind.i64.wrap (k.2.2.1 + (1 : Int))) + (IntKind.i64.wrap (Int.tmod k.1 (20 : Int))))))) = false → True)))) := by kernel_rfl
set_option maxHeartbeats 4000000 in
theorem sa10_7 (k : (Ty.pair ty5 (Ty.pair ty4 (Ty.pair ty3 ty32))).den) (x : (Ty.pair ty3 ty66).den) (fk : Fit (Ty.pair ty5 (Ty.pair ty4 (Ty.pair ty3 ty32))) k) (fx : Fit (Ty.pair ty3 ty66) x) (h : Sp.in10_7 k x) : SafeW ((evCode (ctxP PmV5 none GmV7 []) (lookL []) (bodyAt (bodyOf Tryd.f10) [0]) (tmpl LS10_7 (enc (Ty.pair ty5 (Ty.pair ty4 (Ty.pair ty3 ty32))) k) (enc (Ty.pair ty3 ty66) x)) (evRound LS10_7 (evRet (ctxP PmV5 none GmV7 []) Tryd.f10 (Rsh.one (none)) none ty4 .ret)))) := by
  refine ⟨?_⟩
  rw [se10_7]
  try dsimp only [Ty.den] at *
  simp only [Sp.in10_7, Fit, maxLen] at h fk fx
  simp only [IntKind.wrap_i64, IntKind.wrap_u8, IntKind.wrap_u32, IntKind.wrap_u64, Sp.tmod_lit, Sp.tdiv_lit, bne_eq_false_iff_eq, Int.natCast_inj, setE, copyL, sliceL, zrow, List.length_append, List.length_cons, List.length_nil, List.length_set, List.length_replicate, List.length_take, List.length_drop, decide_eq_true_eq, decide_eq_false_iff_not, Bool.or_eq_true, Bool.and_eq_true, Bool.or_eq_false_iff, Bool.and_eq_false_iff, Bool.not_eq_true', Bool.not_eq_false', Bool.not_eq_true, Bool.not_eq_false, beq_iff_eq, beq_eq_false_iff_ne, bne_iff_ne, ne_eq, implies_true, and_true, true_and] at *
  all_goals ((repeat' (first | exact trivial | apply And.intro | intro _)) <;> first | trivial | omega | exact Sp.tmod_nn (by omega) | exact Sp.tmod_lt (by omega) (by omega))
set_option maxHeartbeats 4000000 in
theorem so10_7 (k : (Ty.pair ty5 (Ty.pair ty4 (Ty.pair ty3 ty32))).den) (x : (Ty.pair ty3 ty66).den) (fk : Fit (Ty.pair ty5 (Ty.pair ty4 (Ty.pair ty3 ty32))) k) (h : Sp.in10_7 k x) : StepOk true Sp.in10_7 Sp.mu10_7 k x (Sp.st10_7 k x) := by
  try dsimp only [Ty.den] at *
  unfold Sp.in10_7 at h
  unfold Sp.st10_7
  have d0 : Int.tmod k.1 20 = k.1 % 20 := Int.tmod_eq_emod_of_nonneg h.2.1.1
  have hm : IntKind.i64.wrap ((IntKind.i64.wrap (k.2.2.1 + (1 : Int))) + (IntKind.i64.wrap (Int.tmod k.1 (20 : Int)))) = k.2.2.1 + 1 + k.1 % 20 := by
    rw [d0, Sp.wrap_i64_of (x := k.2.2.1 + 1) (by omega) (by omega), Sp.wrap_i64_of (x := k.1 % 20) (by omega) (by omega), Sp.wrap_i64_of (by omega) (by omega)]
  refine StepOk.cnd (fun hc => ?_) (fun _ => rfl)
  rw [decide_eq_true_eq, hm] at hc
  have key : ∀ y, Sp.in10_7 k (IntKind.i64.wrap (x.1 + (1 : Int)), y) ∧ Sp.mu10_7 k (IntKind.i64.wrap (x.1 + (1 : Int)), y) < Sp.mu10_7 k x := fun y => by
    rw [Sp.wrap_i64_of (x := x.1 + 1) (by omega) (by omega)]
    refine ⟨⟨by show (1 : Int) ≤ x.1 + 1; omega, h.2⟩, ?_⟩
    unfold Sp.mu10_7
    rw [hm]
    simp only
    omega
  repeat' (first | exact rfl | exact ⟨rfl, (key _).1, (key _).2⟩ | refine StepOk.cnd (fun _ => ?_) (fun _ => ?_))
theorem lo10_7 : LoopOk Tryd.prog gdS (RetAt Tryd.prog Tryd.f10 (Rsh.one (none)) none ty4) (bodyAt (bodyOf Tryd.f10) [0]) LS10_7 :=
  loop_run (ctxOkP pgokPmV5 fvok_none gokGmV7 []) (L := lookL []) (loops_of (l := []) (by kernel_rfl) (loops_nil)) sa10_7 va10_7 so10_7
end Go.Proofs.YtpbljgpdhllklaaDoor.Sy
namespace Go.Proofs.YtpbljgpdhllklaaDoor.Sp
open Go Go.RowKit Sy
def K10_1 (x : (Int × Int) × Int × Bool) :=
  (Sp.F29 ((Sp.F11 x.1), (0 : Int), (((0 : Int), (0 : Int)), ((0 : Int), (0 : Int), (0 : Int), false, (0 : Int)), ((0 : Int), (0 : Int), (0 : Int)), (0 : Int), (0 : Int), (0 : Int), false), ((0 : Int), true, (2 : Int), false), (0 : Int), (0 : Int), (IntKind.u32.wrap ((1 : Int) * 2 ^ (min ((IntKind.u64.wrap (IntKind.i64.wrap ((Sp.F11 x.1).1 - (1 : Int))))).toNat IntKind.u32.bits)))))
def F10 (x : (Int × Int) × Int × Bool) : Bool :=
  bif (((Sp.K10_1 x).2.2 != (0 : Int)) || ((Sp.K10_1 x).2.1 != (1 : Int))) then
    false
  else
    Sp.optR (Sp.R10_7 (x.2.1, x.2.2, (Sp.nthT ((Sp.F11 x.1).2.2.2.2.2.2.2) (0 : Int)).2.2.2.2.1, (Sp.F11 x.1)) ((1 : Int), (Sp.K10_1 x).1)) (fun y => y)
    ((Sp.F28 ()))
def pre10 (x : (Int × Int) × Int × Bool) : Prop := ((0 ≤ x.1.1 ∧ x.1.1 ≤ 255) ∧ 0 ≤ x.1.2 ∧ x.1.2 ≤ 255) ∧ 0 ≤ x.2.1 ∧ x.2.1 ≤ 255
end Go.Proofs.YtpbljgpdhllklaaDoor.Sp
namespace Go.Proofs.YtpbljgpdhllklaaDoor.Sy
def ct10 : Ct := { p := (Ty.pair ty22 (Ty.pair ty5 ty4)), psh := [some 2, none, none], r := ty4, rsh := (Rsh.one (none)), pre := some Sp.pre10, fresh := none, F := Sp.F10 }
theorem va10 (x : (Ty.pair ty22 (Ty.pair ty5 ty4)).den) : ((evFn (ctxP PmV5 none GmV7 []) Tryd.f10 (Ty.pair ty22 (Ty.pair ty5 ty4)) [some 2, none, none] (Rsh.one (none)) none ty4 (lookL [(7, LS10_7)]) x)).val (fun y => y) (Ty.dflt ty4) = Sp.F10 x := by kernel_rfl
theorem se10 (x : (Ty.pair ty22 (Ty.pair ty5 ty4)).den) : ((evFn (ctxP PmV5 none GmV7 []) Tryd.f10 (Ty.pair ty22 (Ty.pair ty5 ty4)) [some 2, none, none] (Rsh.one (none)) none ty4 (lookL [(7, LS10_7)]) x)).safe = (((Sp.pre11 x.1) ∧ ((0 ≤ (0 : Int) ∧ (0 : Int) < (((Sp.F11 x.1).2.2.2.2.2.2.2).length : Int)) ∧ ((0 ≤ (IntKind.u64.wrap (IntKind.i64.wrap ((Sp.F11 x.1).1 - (1 : Int))))) ∧ (((((Sp.K10_1 x).2.2 != (0 : Int)) || ((Sp.K10_1 x).2.1 != (1 : Int))) = true → True) ∧ ((((Sp.K10_1 x).2.2 != (0 : Int)) || ((Sp.K10_1 x).2.1 != (1 : Int))) = false → ((Sp.in10_7 (x.2.1, x.2.2, (Sp.nthT ((Sp.F11 x.1).2.2.2.2.2.2.2) (0 : Int)).2.2.2.2.1, (Sp.F11 x.1)) ((1 : Int), (Sp.K10_1 x).1)) ∧ ((Sp.R10_7 (x.2.1, x.2.2, (Sp.nthT ((Sp.F11 x.1).2.2.2.2.2.2.2) (0 : Int)).2.2.2.2.1, (Sp.F11 x.1)) ((1 : Int), (Sp.K10_1 x).1)) = none → True)))))))) := by kernel_rfl
theorem sa10 (x : (Ty.pair ty22 (Ty.pair ty5 ty4)).den) (fx : Fit (Ty.pair ty22 (Ty.pair ty5 ty4)) x) (h : Sp.pre10 x) : SafeW ((evFn (ctxP PmV5 none GmV7 []) Tryd.f10 (Ty.pair ty22 (Ty.pair ty5 ty4)) [some 2, none, none] (Rsh.one (none)) none ty4 (lookL [(7, LS10_7)]) x)) := by
  refine ⟨?_⟩
  rw [se10]
  try dsimp only [Ty.den] at *
  unfold Sp.pre10 at h
  have hpre := h.1
  have hB := Sp.b15 (x := x.1) hpre
  have hf := hB.1.fl
  have hn := hB.1.cn
  have hl := Sp.b15_len (x := x.1) hpre
  have hc1 : 1 ≤ (Sp.F11 x.1).2.2.2.2.2.2.2.length := hn.1
  have ht := Sp.car_times hB.1 (i := 0) (by decide) (by omega)
  refine ⟨hpre, ⟨by decide, by omega⟩, Sp.u64_nn _, fun _ => trivial, fun _ => ⟨⟨by show (1 : Int) ≤ 1; decide, h.2, ht.1⟩, fun _ => trivial⟩⟩
theorem ok10 : CtOk Tryd.prog gdS 10 ct10 :=
  fn_okU (ctxOkP pgokPmV5 fvok_none gokGmV7 []) rfl Tryd.func10 (p := (Ty.pair ty22 (Ty.pair ty5 ty4))) (psh := [some 2, none, none]) (r := ty4) (rsh := (Rsh.one (none))) (pre := some Sp.pre10) (fresh := none) (F := Sp.F10) (L := (lookL [(7, LS10_7)])) (c := bodyOf Tryd.f10) (dflt := Ty.dflt ty4) rfl (loops_of (l := [bodyAt (bodyOf Tryd.f10) [0]]) (by kernel_rfl) (loops_cons (s0 := LS10_7) (by kernel_rfl) lo10_7 (loops_nil)))
    (safe_pre @sa10) va10
def GmV8 : List (Nat × Ct) := (9, ct9) :: (10, ct10) :: GmV7
theorem gokGmV8 : GOk GmV8 := gok_cons ok9 ⟨_, Tryd.func9, by kernel_rfl, by kernel_rfl⟩ (gok_cons ok10 ⟨_, Tryd.func10, by kernel_rfl, by kernel_rfl⟩ (gokGmV7))
end Go.Proofs.YtpbljgpdhllklaaDoor.Sy
end

section
/- The plain tick of a modernised car, and of its drive (own work). -/
namespace Go.Proofs.YtpbljgpdhllklaaDoor.Sp
open Go Sy
set_option linter.unusedVariables false
set_option linter.unusedSimpArgs false
/-- Floor, target, ticks left, door, aim, ticks. -/
abbrev RigT := Int × Int × Int × Int × Int × Int
def mor (x : Int) : Int := min (x + 1) 1000000
def dcnt (i : Int) : Int := if i = 0 then 0 else mor i
abbrev zd : DoorT := (0, 0, 0, false, 0)
abbrev zm : MotT := (0, 0, 0)
/-- A tick of the door in a stage that is not idle. -/
def dtick (dw ho : Int) (s : DoorT) (door : Int) (blk : Bool) : DoorT × Int :=
  if s.1 = 1 ∧ door = 1 then ((2, 0, max (dcnt s.2.2.1) 1, s.2.2.2), 0)
  else if s.1 = 3 ∧ door = 2 then (zd, 0)
  else if s.1 = 3 ∧ dcnt s.2.2.1 > ho ∧ s.2.2.2.1 = true then ((3, mor s.2.1, dcnt s.2.2.1, s.2.2.2), 5)
  else if dcnt s.2.2.1 > ho then ((3, 0, dcnt s.2.2.1, true, s.2.2.2.2), 5)
  else if s.1 = 1 then ((1, mor s.2.1, dcnt s.2.2.1, s.2.2.2), 3)
  else if s.1 = 2 then (if s.2.1 + 1 ≥ dw ∧ blk = false then ((3, 0, dcnt s.2.2.1, s.2.2.2), 4) else ((2, mor s.2.1, dcnt s.2.2.1, s.2.2.2), 0))
  else if blk = true then ((1, 0, dcnt s.2.2.1, s.2.2.2.1, mor s.2.2.2.2), 3)
  else ((3, mor s.2.1, dcnt s.2.2.1, s.2.2.2), 4)
def DOk (s : DoorT) : Prop := s = zd ∨ ((1 ≤ s.1 ∧ s.1 ≤ 3) ∧ (0 ≤ s.2.1 ∧ s.2.1 ≤ 1000000) ∧ (0 ≤ s.2.2.1 ∧ s.2.2.1 ≤ 1000000) ∧ 0 ≤ s.2.2.2.2 ∧ s.2.2.2.2 ≤ 1000000)
def MOk (n : Int) (s : MotT) : Prop := (0 ≤ s.2.1 ∧ s.2.1 ≤ 1000000) ∧ ((s.1 = 0 ∧ s.2.2 = 0) ∨ (s.1 = 1 ∧ 0 ≤ s.2.2 ∧ s.2.2 + 1 < n) ∨ (s.1 = 2 ∧ 0 < s.2.2 ∧ s.2.2 < n))
/-- Where a step leads. -/
def tgt (m : MotT) : Int := if m.1 = 1 then m.2.2 + 1 else m.2.2 - 1
/-- A state of a car that is not faulty. -/
structure NS (n : Nat) (s : CarS) : Prop where
  sd : 0 ≤ s.1.1 ∧ s.1.1 ≤ 2
  so : 0 ≤ s.1.2 ∧ s.1.2 ≤ 7
  dr : DOk s.2.1
  mo : MOk n s.2.2.1
  ex : s.2.1 = zd ∨ s.2.2.1 = zm
  wc : W s.2.2.2.1
  cb : ∀ i, bit s.2.2.2.1 i = true → i < n
  sh : 0 ≤ s.2.2.2.2.1 ∧ s.2.2.2.2.1 ≤ 2
  id : 0 ≤ s.2.2.2.2.2.1 ∧ s.2.2.2.2.2.1 ≤ 1000000
  fa : s.2.2.2.2.2.2 = false
def nclr (f c : Int) : Int := nand32 c (shl32 1 f)
def npress (n f : Int) (s : CarS) (p : Int) : CarS :=
  (s.1, s.2.1, s.2.2.1, or32 s.2.2.2.1 (if s.2.1.1 = 0 then and32 p (allm n) else nand32 (and32 p (allm n)) (shl32 1 f)), s.2.2.2.2)
/-- With an open door. -/
def ncyc (dw ho : Int) (fb : FbT) (s : CarS) : CarS × Int :=
  ((s.1, (dtick dw ho s.2.1 fb.2.2.1 fb.2.2.2).1, s.2.2.1, (if (dtick dw ho s.2.1 fb.2.2.1 fb.2.2.2).1.1 = 2 then nclr fb.1 s.2.2.2.1 else s.2.2.2.1),
    (if (dtick dw ho s.2.1 fb.2.2.1 fb.2.2.2).1.1 = 0 then 0 else s.2.2.2.2.1), 0, s.2.2.2.2.2.2), (dtick dw ho s.2.1 fb.2.2.1 fb.2.2.2).2)
/-- At a floor with a closed door. -/
def ndec (C : Int × Int × Int) (N : Int × Int) (p : Int) (f : Int) (s : CarS) : CarS × Int :=
  if C.1 = 3 then ((N, (1, 0, 0, false, 0), zm, s.2.2.2.1, C.2.2, 0, s.2.2.2.2.2.2), 3)
  else if C.1 = 1 ∨ C.1 = 2 then ((N, s.2.1, (C.1, 0, f), s.2.2.2.1, s.2.2.2.2.1, 0, s.2.2.2.2.2.2), C.1)
  else if p ≠ 0 then ((N, s.2.1, (p, 0, f), s.2.2.2.1, s.2.2.2.2.1, s.2.2.2.2.2.1, s.2.2.2.2.2.2), p)
  else ((N, s.2.1, zm, s.2.2.2.1, s.2.2.2.2.1, mor s.2.2.2.2.2.1, s.2.2.2.2.2.2), 0)
def mark1 (o : Int) : Int := o + 1 - o % 2
/-- At a floor. -/
def nflr (dw ho : Int) (C : Int × Int × Int) (N : Int × Int) (p : Int) (fb : FbT) (s : CarS) : CarS × Int :=
  if fb.2.2.1 ≠ 2 then ncyc dw ho fb ((s.1.1, mark1 s.1.2), (1, 0, 0, false, 0), zm, s.2.2.2.1, 0, s.2.2.2.2.2)
  else ndec C N p fb.1 s
/-- All but the watch. -/
def ncore (dw ho : Int) (C : Int × Int × Int) (N : Int × Int) (p : Int) (fb : FbT) (s : CarS) : CarS × Int :=
  if s.2.1.1 ≠ 0 then ncyc dw ho fb s
  else if s.2.2.1.1 ≠ 0 then
    (if fb.2.1 = true ∧ fb.1 = tgt s.2.2.1 then nflr dw ho C N p fb (s.1, s.2.1, zm, s.2.2.2)
     else ((s.1, s.2.1, (s.2.2.1.1, mor s.2.2.1.2.1, s.2.2.1.2.2), s.2.2.2.1, s.2.2.2.2.1, (if s.1.1 ≠ 0 then 0 else s.2.2.2.2.2.1), s.2.2.2.2.2.2), s.2.2.1.1))
  else if fb.2.1 = true then nflr dw ho C N p fb (s.1, s.2.1, zm, s.2.2.2)
  else ((s.1, s.2.1, (s.2.2.1.1, mor s.2.2.1.2.1, s.2.2.1.2.2), s.2.2.2.1, s.2.2.2.2.1, 0, s.2.2.2.2.2.2), 0)
abbrev zf : CarS := ((0, 0), zd, zm, 0, 0, 0, true)
def nlate (T S : Int) (s : CarS) : Prop := ((s.2.1.1 = 1 ∨ s.2.1.1 = 3) ∧ s.2.1.2.1 > T) ∨ s.2.2.1.2.1 > S
instance (T S : Int) (s : CarS) : Decidable (nlate T S s) := by unfold nlate; infer_instance
def nwatch (T S : Int) (r : CarS × Int) : CarS × Int := if nlate T S r.1 then (zf, 0) else r
theorem mor_bd {x : Int} (h : 0 ≤ x) : 0 ≤ mor x ∧ mor x ≤ 1000000 := by unfold mor; omega
theorem dcnt_bd {x : Int} (h : 0 ≤ x ∧ x ≤ 1000000) : 0 ≤ dcnt x ∧ dcnt x ≤ 1000000 := by unfold dcnt mor; split <;> omega
theorem dtick_ok {dw ho : Int} {s : DoorT} {door : Int} {blk : Bool} (h1 : 1 ≤ s.1 ∧ s.1 ≤ 3) (h2 : 0 ≤ s.2.1 ∧ s.2.1 ≤ 1000000) (h3 : 0 ≤ s.2.2.1 ∧ s.2.2.1 ≤ 1000000) (h4 : 0 ≤ s.2.2.2.2 ∧ s.2.2.2.2 ≤ 1000000) :
    DOk (dtick dw ho s door blk).1 := by
  have a1 := mor_bd h2.1
  have a2 := dcnt_bd h3
  have a3 := mor_bd h4.1
  unfold dtick
  repeat' split
  all_goals first
    | exact Or.inl rfl
    | exact Or.inr ⟨by simp only; omega, by simp only; omega, by simp only; omega, by simp only; omega⟩
theorem NS.put {n : Nat} {dir op st tm si cy mc mt mf c sh id : Int} {nu : Bool} (h1 : 0 ≤ dir ∧ dir ≤ 2) (h2 : 0 ≤ op ∧ op ≤ 7) (h3 : DOk (st, tm, si, nu, cy)) (h4 : MOk n (mc, mt, mf)) (h5 : (st, tm, si, nu, cy) = zd ∨ (mc, mt, mf) = zm) (h6 : W c) (h7 : ∀ i, bit c i = true → i < n) (h8 : 0 ≤ sh ∧ sh ≤ 2) (h9 : 0 ≤ id ∧ id ≤ 1000000) :
    NS n ((dir, op), (st, tm, si, nu, cy), (mc, mt, mf), c, sh, id, false) := ⟨h1, h2, h3, h4, h5, h6, h7, h8, h9, rfl⟩
theorem MOk.z (n : Nat) : MOk n zm := ⟨by decide, Or.inl ⟨rfl, rfl⟩⟩
theorem nclr_ok {n : Nat} {f : Nat} {c : Int} (hn : n ≤ 32) (hf : f < n) (h6 : W c) (h7 : ∀ i, bit c i = true → i < n) : W (nclr f c) ∧ ∀ i, bit (nclr f c) i = true → i < n := by
  refine ⟨W_nand _ _, fun i hi => ?_⟩
  have h32 := bit_lt (W_nand _ _) hi
  unfold nclr at hi
  rw [bit_nand h6.1 (W_shl _ _).1 i h32] at hi
  simp only [Bool.and_eq_true] at hi
  exact h7 i hi.1
theorem ncyc_NS {n f : Nat} {dw ho : Int} {fb : FbT} {s : CarS} (hn : n ≤ 32) (hf : f < n) (ef : fb.1 = f) (h : NS n s) (h0 : s.2.1.1 ≠ 0) : NS n (ncyc dw ho fb s).1 := by
  obtain ⟨⟨dir, op⟩, ⟨st, tm, si, nu, cy⟩, ⟨mc, mt, mf⟩, c, sh, id, fa⟩ := s
  obtain ⟨a1, a2, a3, a4, a5, a6, a7, a8, a9, a10⟩ := h
  simp only at a1 a2 a3 a4 a5 a6 a7 a8 a9 a10 h0
  subst a10
  have hd : DOk (dtick dw ho (st, tm, si, nu, cy) fb.2.2.1 fb.2.2.2).1 := by
    rcases a3 with a3 | a3
    · exact absurd (congrArg Prod.fst a3) h0
    · exact dtick_ok a3.1 a3.2.1 a3.2.2.1 a3.2.2.2
  have hm : (mc, mt, mf) = zm := by
    rcases a5 with a5 | a5
    · exact absurd (congrArg Prod.fst a5) h0
    · exact a5
  unfold ncyc
  simp only
  generalize dtick dw ho (st, tm, si, nu, cy) fb.2.2.1 fb.2.2.2 = q at hd ⊢
  obtain ⟨⟨st', tm', si', nu', cy'⟩, cm⟩ := q
  have hc := nclr_ok (f := f) hn hf a6 a7
  rw [ef]
  refine NS.put a1 a2 hd a4 (Or.inr hm) ?_ ?_ ?_ (by decide)
  · split
    · exact hc.1
    · exact a6
  · split
    · exact hc.2
    · exact a7
  · split
    · decide
    · exact a8
/-- What is known of a decision. -/
structure CNP (n f : Nat) (C : Int × Int × Int) (N : Int × Int) (p : Int) : Prop where
  c : 0 ≤ C.1 ∧ C.1 ≤ 3
  s : 0 ≤ C.2.2 ∧ C.2.2 ≤ 2
  n1 : 0 ≤ N.1 ∧ N.1 ≤ 2
  n2 : 0 ≤ N.2 ∧ N.2 ≤ 7
  up : C.1 = 1 → f + 1 < n
  dn : C.1 = 2 → 0 < f
  p : (p = 0) ∨ (p = 1 ∧ f + 1 < n) ∨ (p = 2 ∧ 0 < f)
theorem ndec_NS {n f : Nat} {C : Int × Int × Int} {N : Int × Int} {p : Int} {s : CarS} (hf : f < n) (k : CNP n f C N p) (h : NS n s) (hz : s.2.1 = zd) : NS n (ndec C N p f s).1 := by
  obtain ⟨⟨dir, op⟩, ⟨st, tm, si, nu, cy⟩, ⟨mc, mt, mf⟩, c, sh, id, fa⟩ := s
  obtain ⟨a1, a2, a3, a4, a5, a6, a7, a8, a9, a10⟩ := h
  obtain ⟨k1, k2, k3, k4, k5, k6, k7⟩ := k
  obtain ⟨N1, N2⟩ := N
  simp only at a1 a2 a3 a4 a5 a6 a7 a8 a9 a10 hz k3 k4
  subst a10
  have a9' := mor_bd a9.1
  unfold ndec
  repeat' split
  · exact NS.put k3 k4 (Or.inr (by decide)) (MOk.z n) (Or.inr rfl) a6 a7 k2 (by decide)
  · rename_i h1 h2
    exact NS.put k3 k4 a3 ⟨by simp only; omega, by simp only; omega⟩ (Or.inl hz) a6 a7 a8 (by decide)
  · exact NS.put k3 k4 a3 ⟨by simp only; omega, by simp only; omega⟩ (Or.inl hz) a6 a7 a8 a9
  · exact NS.put k3 k4 a3 (MOk.z n) (Or.inl hz) a6 a7 a8 a9'
theorem DOk.one : DOk (1, 0, 0, false, 0) := Or.inr (by decide)
theorem le02 : (0 : Int) ≤ 0 ∧ (0 : Int) ≤ 2 := by decide
theorem nflr_NS {n f : Nat} {dw ho : Int} {C : Int × Int × Int} {N : Int × Int} {p : Int} {fb : FbT} {s : CarS} (hn : n ≤ 32) (hf : f < n) (ef : fb.1 = f) (k : CNP n f C N p) (h : NS n s) (hz : s.2.1 = zd) : NS n (nflr dw ho C N p fb s).1 := by
  unfold nflr
  split
  · refine ncyc_NS hn hf ef ⟨h.sd, ?_, DOk.one, MOk.z n, Or.inr rfl, h.wc, h.cb, le02, h.id, h.fa⟩ (by show (1 : Int) ≠ 0; decide)
    have := h.so
    show 0 ≤ mark1 s.1.2 ∧ mark1 s.1.2 ≤ 7
    unfold mark1; omega
  · rw [ef]
    exact ndec_NS hf k h hz
theorem NS.moz {n : Nat} {s : CarS} (h : NS n s) : NS n (s.1, s.2.1, zm, s.2.2.2) := ⟨h.sd, h.so, h.dr, MOk.z n, Or.inr rfl, h.wc, h.cb, h.sh, h.id, h.fa⟩
theorem NS.dz {n : Nat} {s : CarS} (h : NS n s) (h0 : ¬ s.2.1.1 ≠ 0) : s.2.1 = zd := by
  rcases h.dr with a | a
  · exact a
  · omega
theorem ncore_NS {n f : Nat} {dw ho : Int} {C : Int × Int × Int} {N : Int × Int} {p : Int} {fb : FbT} {s : CarS} (hn : n ≤ 32) (hf : f < n) (ef : fb.1 = f) (k : CNP n f C N p) (h : NS n s) : NS n (ncore dw ho C N p fb s).1 := by
  have hmt := h.mo.1
  have b1 := mor_bd hmt.1
  have hid := h.id
  unfold ncore
  split
  · exact ncyc_NS hn hf ef h (by assumption)
  · rename_i h0
    have hz := h.dz h0
    split
    · split
      · exact nflr_NS hn hf ef k h.moz hz
      · refine ⟨h.sd, h.so, h.dr, ⟨b1, h.mo.2⟩, Or.inl hz, h.wc, h.cb, h.sh, ?_, h.fa⟩
        show 0 ≤ (if s.1.1 ≠ 0 then 0 else s.2.2.2.2.2.1) ∧ (if s.1.1 ≠ 0 then 0 else s.2.2.2.2.2.1) ≤ 1000000
        split <;> omega
    · split
      · exact nflr_NS hn hf ef k h.moz hz
      · exact ⟨h.sd, h.so, h.dr, ⟨b1, h.mo.2⟩, Or.inl hz, h.wc, h.cb, h.sh, by show (0 : Int) ≤ 0 ∧ (0 : Int) ≤ 1000000; decide, h.fa⟩
theorem npress_NS {n : Nat} {f p : Int} {s : CarS} (hn : n ≤ 32) (wp : W p) (h : NS n s) : NS n (npress n f s p) := by
  refine ⟨h.sd, h.so, h.dr, h.mo, h.ex, W_or _ _, fun i hi => ?_, h.sh, h.id, h.fa⟩
  have hi : bit (or32 s.2.2.2.1 (if s.2.1.1 = 0 then and32 p (allm (n : Int)) else nand32 (and32 p (allm (n : Int))) (shl32 1 f))) i = true := hi
  have h32 := bit_lt (W_or _ _) hi
  have wz : ∀ z, (z = and32 p (allm (n : Int)) ∨ z = nand32 (and32 p (allm (n : Int))) (shl32 1 f)) → 0 ≤ z ∧ (bit z i = true → i < n) := by
    intro z hz
    rcases hz with rfl | rfl
    · refine ⟨(W_and _ _).1, fun e => ?_⟩
      rw [bit_and wp.1 (W_allm _).1 i h32, bit_allm n i hn] at e
      simp only [Bool.and_eq_true, decide_eq_true_eq] at e
      exact e.2
    · refine ⟨(W_nand _ _).1, fun e => ?_⟩
      rw [bit_nand (W_and _ _).1 (W_shl _ _).1 i h32, bit_and wp.1 (W_allm _).1 i h32, bit_allm n i hn] at e
      simp only [Bool.and_eq_true, decide_eq_true_eq] at e
      exact e.1.2
  have hz := wz (if s.2.1.1 = 0 then and32 p (allm (n : Int)) else nand32 (and32 p (allm (n : Int))) (shl32 1 f)) (by split <;> simp)
  rw [bit_or h.wc.1 hz.1 i h32] at hi
  simp only [Bool.or_eq_true] at hi
  rcases hi with hi | hi
  · exact h.cb i hi
  · exact hz.2 hi
end Go.Proofs.YtpbljgpdhllklaaDoor.Sp
end
