/- Contracts of functions, by the evaluator (own program gen.py): overlayref21.Path, overlayref21.Count, overlaylaw21.CostBounds, overlaylaw21.CostMirrors. -/
import Derived.Test.YtjdaplmlmmnokaaDoorD0
set_option linter.unusedVariables false
set_option linter.unusedSimpArgs false
set_option maxRecDepth 100000
namespace Go.Proofs.YtjdaplmlmmnokaaDoor.Sy
open Go Go.RowKit Sp
/-! overlayref21.Path -/
end Go.Proofs.YtjdaplmlmmnokaaDoor.Sy
namespace Go.Proofs.YtjdaplmlmmnokaaDoor.Sp
open Go Go.RowKit Sy
def in8_7 (k : (Int × Int × Int × Int)) (x : (Int × Int × Int)) : Prop := (0 : Int) ≤ x.2.2 ∧ k.1 ≤ 40
def mu8_7 (k : (Int × Int × Int × Int)) (x : (Int × Int × Int)) : Nat := (k.1 - x.2.2).toNat
def st8_7 (k : (Int × Int × Int × Int)) (x : (Int × Int × Int)) : BOut (Int × Int × Int × Int) (Int × Int × Int) (Int) :=
  bif (decide (x.2.2 < k.1)) then
    (bif (((Sp.F22 (k.1, k.2, x.2.2, (0 : Int))) || (Sp.F22 (k.1, k.2, x.2.2, (1 : Int)))) || (Sp.F22 (k.1, k.2, x.2.2, (2 : Int)))) then
      BOut.next k ((max x.1 x.2.2), (min x.2.1 x.2.2), (IntKind.i64.wrap (x.2.2 + (1 : Int))))
    else
      BOut.next k (x.1, x.2.1, (IntKind.i64.wrap (x.2.2 + (1 : Int)))))
  else
    BOut.brk k x
def G8_7 (k : (Int × Int × Int × Int)) (x : (Int × Int × Int)) : (Int × Int × Int) := endOf st8_7 k (Nat.succ (mu8_7 k x)) x
end Go.Proofs.YtjdaplmlmmnokaaDoor.Sp
namespace Go.Proofs.YtjdaplmlmmnokaaDoor.Sy
def LS8_7 : LS ty3.den := mkLS (Ty.pair ty3 ty26) (Ty.pair ty3 (Ty.pair ty3 ty3))  [(0, none)] [(9, 3)] [(13, none), (14, none), (15, none)] [] [] [] [(9, 9)] 0 false Sp.in8_7 Sp.st8_7 Sp.mu8_7
theorem va8_7 (k : (Ty.pair ty3 ty26).den) (x : (Ty.pair ty3 (Ty.pair ty3 ty3)).den) : ((evCode (ctxP PmC0 none GmD0 []) (lookL []) (bodyAt (bodyOf Tryd.f8) [0]) (tmpl LS8_7 (enc (Ty.pair ty3 ty26) k) (enc (Ty.pair ty3 (Ty.pair ty3 ty3)) x)) (evRound LS8_7 (evRet (ctxP PmC0 none GmD0 []) Tryd.f8 (Rsh.one (none)) none ty3 .ret)))).val BOut.ret (BOut.brk (Ty.dflt (Ty.pair ty3 ty26)) (Ty.dflt (Ty.pair ty3 (Ty.pair ty3 ty3)))) = Sp.st8_7 k x := by kernel_rfl
theorem se8_7 (k : (Ty.pair ty3 ty26).den) (x : (Ty.pair ty3 (Ty.pair ty3 ty3)).den) : ((evCode (ctxP PmC0 none GmD0 []) (lookL []) (bodyAt (bodyOf Tryd.f8) [0]) (tmpl LS8_7 (enc (Ty.pair ty3 ty26) k) (enc (Ty.pair ty3 (Ty.pair ty3 ty3)) x)) (evRound LS8_7 (evRet (ctxP PmC0 none GmD0 []) Tryd.f8 (Rsh.one (none)) none ty3 .ret)))).safe = ((((decide (x.2.2 < k.1)) = true → (((((Sp.F22 (k.1, k.2, x.2.2, (0 : Int))) || (Sp.F22 (k.1, k.2, x.2.2, (1 : Int)))) || (Sp.F22 (k.1, k.2, x.2.2, (2 : Int)))) = true → True) ∧ ((((Sp.F22 (k.1, k.2, x.2.2, (0 : Int))) || (Sp.F22 (k.1, k.2, x.2.2, (1 : Int)))) || (Sp.F22 (k.1, k.2, x.2.2, (2 : Int)))) = false → True))) ∧ ((decide (x.2.2 < k.1)) = false → True))) := by kernel_rfl
set_option maxHeartbeats 4000000 in
theorem sa8_7 (k : (Ty.pair ty3 ty26).den) (x : (Ty.pair ty3 (Ty.pair ty3 ty3)).den) (fk : Fit (Ty.pair ty3 ty26) k) (fx : Fit (Ty.pair ty3 (Ty.pair ty3 ty3)) x) (h : Sp.in8_7 k x) : SafeW ((evCode (ctxP PmC0 none GmD0 []) (lookL []) (bodyAt (bodyOf Tryd.f8) [0]) (tmpl LS8_7 (enc (Ty.pair ty3 ty26) k) (enc (Ty.pair ty3 (Ty.pair ty3 ty3)) x)) (evRound LS8_7 (evRet (ctxP PmC0 none GmD0 []) Tryd.f8 (Rsh.one (none)) none ty3 .ret)))) := by
  refine ⟨?_⟩
  rw [se8_7]
  try dsimp only [Ty.den] at *
  simp only [Sp.in8_7, Fit, maxLen] at h fk fx
  simp only [IntKind.wrap_i64, IntKind.wrap_u8, IntKind.wrap_u32, IntKind.wrap_u64, Sp.tmod_lit, Sp.tdiv_lit, bne_eq_false_iff_eq, Int.natCast_inj, setE, copyL, sliceL, zrow, List.length_append, List.length_cons, List.length_nil, List.length_set, List.length_replicate, List.length_take, List.length_drop, decide_eq_true_eq, decide_eq_false_iff_not, Bool.or_eq_true, Bool.and_eq_true, Bool.or_eq_false_iff, Bool.and_eq_false_iff, Bool.not_eq_true', Bool.not_eq_false', Bool.not_eq_true, Bool.not_eq_false, beq_iff_eq, beq_eq_false_iff_ne, bne_iff_ne, ne_eq, implies_true, and_true, true_and] at *
  all_goals ((repeat' (first | exact trivial | apply And.intro | intro _)) <;> first | trivial | omega | exact Sp.tmod_nn (by omega) | exact Sp.tmod_lt (by omega) (by omega))
set_option maxHeartbeats 4000000 in
theorem so8_7 (k : (Ty.pair ty3 ty26).den) (x : (Ty.pair ty3 (Ty.pair ty3 ty3)).den) (fk : Fit (Ty.pair ty3 ty26) k) (h : Sp.in8_7 k x) : StepOk false Sp.in8_7 Sp.mu8_7 k x (Sp.st8_7 k x) := by
  try dsimp only [Ty.den] at *
  simp only [Sp.in8_7, Fit, maxLen] at h fk
  unfold Sp.st8_7
  (repeat' (first | exact rfl | (refine StepOk.cnd (fun hc => ?_) (fun hc => ?_) <;> (try simp only [IntKind.wrap_i64, IntKind.wrap_u8, IntKind.wrap_u32, IntKind.wrap_u64, bne_eq_false_iff_eq, Int.natCast_inj, setE, copyL, sliceL, zrow, List.length_append, List.length_cons, List.length_nil, List.length_set, List.length_replicate, List.length_take, List.length_drop, decide_eq_true_eq, decide_eq_false_iff_not, Bool.or_eq_true, Bool.and_eq_true, Bool.or_eq_false_iff, Bool.and_eq_false_iff, Bool.not_eq_true', Bool.not_eq_false', Bool.not_eq_true, Bool.not_eq_false, beq_iff_eq, beq_eq_false_iff_ne, bne_iff_ne, ne_eq] at hc)) | refine StepOk.opt (fun _ => ?_))) <;> (first | exact rfl | (refine ⟨rfl, ?_, ?_⟩ <;> simp only [Sp.in8_7, Sp.mu8_7, IntKind.wrap_i64, IntKind.wrap_u8, IntKind.wrap_u32, IntKind.wrap_u64, Sp.tmod_lit, Sp.tdiv_lit, bne_eq_false_iff_eq, Int.natCast_inj, setE, copyL, sliceL, zrow, List.length_append, List.length_cons, List.length_nil, List.length_set, List.length_replicate, List.length_take, List.length_drop, decide_eq_true_eq, decide_eq_false_iff_not, Bool.or_eq_true, Bool.and_eq_true, Bool.or_eq_false_iff, Bool.and_eq_false_iff, Bool.not_eq_true', Bool.not_eq_false', Bool.not_eq_true, Bool.not_eq_false, beq_iff_eq, beq_eq_false_iff_ne, bne_iff_ne, ne_eq] <;> first | omega | (and_intros <;> first | omega | exact h.1 | exact h.2 | exact h.2.1 | exact h.2.2 | exact h.2.2.1 | exact h.2.2.2 | exact h.2.2.2.1 | exact h.2.2.2.2 | exact h.2.2.2.2.1 | exact h.2.2.2.2.2 | exact h.2.2.2.2.2.1 | exact h.2.2.2.2.2.2)))
theorem lo8_7 : LoopOk Tryd.prog gdS (RetAt Tryd.prog Tryd.f8 (Rsh.one (none)) none ty3) (bodyAt (bodyOf Tryd.f8) [0]) LS8_7 :=
  loop_run (ctxOkP pgokPmC0 fvok_none gokGmD0 []) (L := lookL []) (loops_of (l := []) (by kernel_rfl) (loops_nil)) sa8_7 va8_7 so8_7
end Go.Proofs.YtjdaplmlmmnokaaDoor.Sy
namespace Go.Proofs.YtjdaplmlmmnokaaDoor.Sp
open Go Go.RowKit Sy
def F8 (x : Int × Int × Int × (Int × Int × Int) × Int × Int) : Int :=
  bif ((((((decide (x.1 < (2 : Int))) || (decide (x.1 > (32 : Int)))) || (decide (x.2.1 < (0 : Int)))) || (decide (x.2.1 ≥ x.1))) || (decide (x.2.2.1 < (0 : Int)))) || (decide (x.2.2.1 > (2 : Int)))) then
    (-1 : Int)
  else
    bif (!((((x.2.2.2.2.2 == (1 : Int)) && (decide (x.2.2.2.2.1 ≥ (0 : Int)))) && (decide (x.2.2.2.2.1 < (IntKind.i64.wrap (x.1 - (1 : Int)))))) || (((x.2.2.2.2.2 == (2 : Int)) && (decide (x.2.2.2.2.1 > (0 : Int)))) && (decide (x.2.2.2.2.1 < x.1))))) then
      (-1 : Int)
    else
      bif (x.2.2.1 == (0 : Int)) then
        (max (IntKind.i64.wrap (x.2.1 - x.2.2.2.2.1)) (IntKind.i64.wrap (x.2.2.2.2.1 - x.2.1)))
      else
        bif (((x.2.2.1 == (1 : Int)) && (x.2.2.2.2.2 == (1 : Int))) && (decide (x.2.2.2.2.1 ≥ x.2.1))) then
          (IntKind.i64.wrap (x.2.2.2.2.1 - x.2.1))
        else
          bif ((x.2.2.1 == (1 : Int)) && (x.2.2.2.2.2 == (2 : Int))) then
            (IntKind.i64.wrap ((IntKind.i64.wrap ((IntKind.i64.wrap ((Sp.G8_7 (x.1, x.2.2.2.1) ((max x.2.1 x.2.2.2.2.1), (min x.2.1 x.2.2.2.2.1), (0 : Int))).1 - x.2.1)) + (Sp.G8_7 (x.1, x.2.2.2.1) ((max x.2.1 x.2.2.2.2.1), (min x.2.1 x.2.2.2.2.1), (0 : Int))).1)) - x.2.2.2.2.1))
          else
            bif (x.2.2.1 == (1 : Int)) then
              (IntKind.i64.wrap ((IntKind.i64.wrap ((IntKind.i64.wrap ((IntKind.i64.wrap ((IntKind.i64.wrap ((Sp.G8_7 (x.1, x.2.2.2.1) ((max x.2.1 x.2.2.2.2.1), (min x.2.1 x.2.2.2.2.1), (0 : Int))).1 - x.2.1)) + (Sp.G8_7 (x.1, x.2.2.2.1) ((max x.2.1 x.2.2.2.2.1), (min x.2.1 x.2.2.2.2.1), (0 : Int))).1)) - ((Sp.G8_7 (x.1, x.2.2.2.1) ((max x.2.1 x.2.2.2.2.1), (min x.2.1 x.2.2.2.2.1), (0 : Int))).2.1))) + x.2.2.2.2.1)) - ((Sp.G8_7 (x.1, x.2.2.2.1) ((max x.2.1 x.2.2.2.2.1), (min x.2.1 x.2.2.2.2.1), (0 : Int))).2.1)))
            else
              bif ((x.2.2.2.2.2 == (2 : Int)) && (decide (x.2.2.2.2.1 ≤ x.2.1))) then
                (IntKind.i64.wrap (x.2.1 - x.2.2.2.2.1))
              else
                bif (x.2.2.2.2.2 == (1 : Int)) then
                  (IntKind.i64.wrap ((IntKind.i64.wrap ((IntKind.i64.wrap (x.2.1 - ((Sp.G8_7 (x.1, x.2.2.2.1) ((max x.2.1 x.2.2.2.2.1), (min x.2.1 x.2.2.2.2.1), (0 : Int))).2.1))) + x.2.2.2.2.1)) - ((Sp.G8_7 (x.1, x.2.2.2.1) ((max x.2.1 x.2.2.2.2.1), (min x.2.1 x.2.2.2.2.1), (0 : Int))).2.1)))
                else
                  (IntKind.i64.wrap ((IntKind.i64.wrap ((IntKind.i64.wrap ((IntKind.i64.wrap ((IntKind.i64.wrap (x.2.1 - ((Sp.G8_7 (x.1, x.2.2.2.1) ((max x.2.1 x.2.2.2.2.1), (min x.2.1 x.2.2.2.2.1), (0 : Int))).2.1))) + (Sp.G8_7 (x.1, x.2.2.2.1) ((max x.2.1 x.2.2.2.2.1), (min x.2.1 x.2.2.2.2.1), (0 : Int))).1)) - ((Sp.G8_7 (x.1, x.2.2.2.1) ((max x.2.1 x.2.2.2.2.1), (min x.2.1 x.2.2.2.2.1), (0 : Int))).2.1))) + (Sp.G8_7 (x.1, x.2.2.2.1) ((max x.2.1 x.2.2.2.2.1), (min x.2.1 x.2.2.2.2.1), (0 : Int))).1)) - x.2.2.2.2.1))
end Go.Proofs.YtjdaplmlmmnokaaDoor.Sp
namespace Go.Proofs.YtjdaplmlmmnokaaDoor.Sy
def ct8 : Ct := { p := (Ty.pair ty3 (Ty.pair ty3 (Ty.pair ty3 (Ty.pair ty26 (Ty.pair ty3 ty3))))), psh := [none, none, none, some 3, none, none], r := ty3, rsh := (Rsh.one (none)), pre := none, fresh := none, F := Sp.F8 }
theorem va8 (x : (Ty.pair ty3 (Ty.pair ty3 (Ty.pair ty3 (Ty.pair ty26 (Ty.pair ty3 ty3))))).den) : ((evFn (ctxP PmC0 none GmD0 []) Tryd.f8 (Ty.pair ty3 (Ty.pair ty3 (Ty.pair ty3 (Ty.pair ty26 (Ty.pair ty3 ty3))))) [none, none, none, some 3, none, none] (Rsh.one (none)) none ty3 (lookL [(7, LS8_7)]) x)).val (fun y => y) (Ty.dflt ty3) = Sp.F8 x := by kernel_rfl
theorem se8 (x : (Ty.pair ty3 (Ty.pair ty3 (Ty.pair ty3 (Ty.pair ty26 (Ty.pair ty3 ty3))))).den) : ((evFn (ctxP PmC0 none GmD0 []) Tryd.f8 (Ty.pair ty3 (Ty.pair ty3 (Ty.pair ty3 (Ty.pair ty26 (Ty.pair ty3 ty3))))) [none, none, none, some 3, none, none] (Rsh.one (none)) none ty3 (lookL [(7, LS8_7)]) x)).safe = (((((((((decide (x.1 < (2 : Int))) || (decide (x.1 > (32 : Int)))) || (decide (x.2.1 < (0 : Int)))) || (decide (x.2.1 ≥ x.1))) || (decide (x.2.2.1 < (0 : Int)))) || (decide (x.2.2.1 > (2 : Int)))) = true → True) ∧ (((((((decide (x.1 < (2 : Int))) || (decide (x.1 > (32 : Int)))) || (decide (x.2.1 < (0 : Int)))) || (decide (x.2.1 ≥ x.1))) || (decide (x.2.2.1 < (0 : Int)))) || (decide (x.2.2.1 > (2 : Int)))) = false → (((!((((x.2.2.2.2.2 == (1 : Int)) && (decide (x.2.2.2.2.1 ≥ (0 : Int)))) && (decide (x.2.2.2.2.1 < (IntKind.i64.wrap (x.1 - (1 : Int)))))) || (((x.2.2.2.2.2 == (2 : Int)) && (decide (x.2.2.2.2.1 > (0 : Int)))) && (decide (x.2.2.2.2.1 < x.1))))) = true → True) ∧ ((!((((x.2.2.2.2.2 == (1 : Int)) && (decide (x.2.2.2.2.1 ≥ (0 : Int)))) && (decide (x.2.2.2.2.1 < (IntKind.i64.wrap (x.1 - (1 : Int)))))) || (((x.2.2.2.2.2 == (2 : Int)) && (decide (x.2.2.2.2.1 > (0 : Int)))) && (decide (x.2.2.2.2.1 < x.1))))) = false → ((Sp.in8_7 (x.1, x.2.2.2.1) ((max x.2.1 x.2.2.2.2.1), (min x.2.1 x.2.2.2.2.1), (0 : Int))) ∧ (((x.2.2.1 == (0 : Int)) = true → True) ∧ ((x.2.2.1 == (0 : Int)) = false → (((((x.2.2.1 == (1 : Int)) && (x.2.2.2.2.2 == (1 : Int))) && (decide (x.2.2.2.2.1 ≥ x.2.1))) = true → True) ∧ ((((x.2.2.1 == (1 : Int)) && (x.2.2.2.2.2 == (1 : Int))) && (decide (x.2.2.2.2.1 ≥ x.2.1))) = false → ((((x.2.2.1 == (1 : Int)) && (x.2.2.2.2.2 == (2 : Int))) = true → True) ∧ (((x.2.2.1 == (1 : Int)) && (x.2.2.2.2.2 == (2 : Int))) = false → (((x.2.2.1 == (1 : Int)) = true → True) ∧ ((x.2.2.1 == (1 : Int)) = false → ((((x.2.2.2.2.2 == (2 : Int)) && (decide (x.2.2.2.2.1 ≤ x.2.1))) = true → True) ∧ (((x.2.2.2.2.2 == (2 : Int)) && (decide (x.2.2.2.2.1 ≤ x.2.1))) = false → (((x.2.2.2.2.2 == (1 : Int)) = true → True) ∧ ((x.2.2.2.2.2 == (1 : Int)) = false → True)))))))))))))))))) := by kernel_rfl
theorem sa8 (x : (Ty.pair ty3 (Ty.pair ty3 (Ty.pair ty3 (Ty.pair ty26 (Ty.pair ty3 ty3))))).den) (fx : Fit (Ty.pair ty3 (Ty.pair ty3 (Ty.pair ty3 (Ty.pair ty26 (Ty.pair ty3 ty3))))) x) : SafeW ((evFn (ctxP PmC0 none GmD0 []) Tryd.f8 (Ty.pair ty3 (Ty.pair ty3 (Ty.pair ty3 (Ty.pair ty26 (Ty.pair ty3 ty3))))) [none, none, none, some 3, none, none] (Rsh.one (none)) none ty3 (lookL [(7, LS8_7)]) x)) := by
  refine ⟨?_⟩
  rw [se8]
  try dsimp only [Ty.den] at *
  simp only [Fit, maxLen] at fx
  simp only [Sp.in8_7, IntKind.wrap_i64, IntKind.wrap_u8, IntKind.wrap_u32, IntKind.wrap_u64, Sp.tmod_lit, Sp.tdiv_lit, bne_eq_false_iff_eq, Int.natCast_inj, setE, copyL, sliceL, zrow, List.length_append, List.length_cons, List.length_nil, List.length_set, List.length_replicate, List.length_take, List.length_drop, decide_eq_true_eq, decide_eq_false_iff_not, Bool.or_eq_true, Bool.and_eq_true, Bool.or_eq_false_iff, Bool.and_eq_false_iff, Bool.not_eq_true', Bool.not_eq_false', Bool.not_eq_true, Bool.not_eq_false, beq_iff_eq, beq_eq_false_iff_ne, bne_iff_ne, ne_eq, implies_true, and_true, true_and] at *
  all_goals ((repeat' (first | exact trivial | apply And.intro | intro _)) <;> first | trivial | omega | exact Sp.tmod_nn (by omega) | exact Sp.tmod_lt (by omega) (by omega))
theorem ok8 : CtOk Tryd.prog gdS 8 ct8 :=
  fn_okU (ctxOkP pgokPmC0 fvok_none gokGmD0 []) rfl Tryd.func8 (p := (Ty.pair ty3 (Ty.pair ty3 (Ty.pair ty3 (Ty.pair ty26 (Ty.pair ty3 ty3)))))) (psh := [none, none, none, some 3, none, none]) (r := ty3) (rsh := (Rsh.one (none))) (pre := none) (fresh := none) (F := Sp.F8) (L := (lookL [(7, LS8_7)])) (c := bodyOf Tryd.f8) (dflt := Ty.dflt ty3) rfl (loops_of (l := [bodyAt (bodyOf Tryd.f8) [0]]) (by kernel_rfl) (loops_cons (s0 := LS8_7) (by kernel_rfl) lo8_7 (loops_nil)))
    (safe_no @sa8) va8
/-! overlayref21.Count -/
end Go.Proofs.YtjdaplmlmmnokaaDoor.Sy
namespace Go.Proofs.YtjdaplmlmmnokaaDoor.Sp
open Go Go.RowKit Sy
def in10_8 (k : (Int × Int × Int × Int × Int)) (x : (Int × Int)) : Prop := (0 : Int) ≤ x.2
def mu10_8 (k : (Int × Int × Int × Int × Int)) (x : (Int × Int)) : Nat := ((3 : Int) - x.2).toNat
def st10_8 (k : (Int × Int × Int × Int × Int)) (x : (Int × Int)) : BOut (Int × Int × Int × Int × Int) (Int × Int) (Int) :=
  bif (decide (x.2 < (3 : Int))) then
    (bif (Sp.F22 (k.1, k.2.2, k.2.1, x.2)) then
      BOut.next k ((IntKind.i64.wrap (x.1 + (1 : Int))), (IntKind.i64.wrap (x.2 + (1 : Int))))
    else
      BOut.next k (x.1, (IntKind.i64.wrap (x.2 + (1 : Int)))))
  else
    BOut.brk k x
def G10_8 (k : (Int × Int × Int × Int × Int)) (x : (Int × Int)) : (Int × Int) := endOf st10_8 k (Nat.succ (mu10_8 k x)) x
end Go.Proofs.YtjdaplmlmmnokaaDoor.Sp
namespace Go.Proofs.YtjdaplmlmmnokaaDoor.Sy
def LS10_8 : LS ty3.den := mkLS (Ty.pair ty3 (Ty.pair ty3 ty26)) (Ty.pair ty3 ty3)  [(0, none), (6, none)] [(3, 3)] [(5, none), (7, none)] [] [] [] [(3, 3)] 2 false Sp.in10_8 Sp.st10_8 Sp.mu10_8
end Go.Proofs.YtjdaplmlmmnokaaDoor.Sy
namespace Go.Proofs.YtjdaplmlmmnokaaDoor.Sp
open Go Go.RowKit Sy
def in10_5 (k : (Int × Int × Int × Int)) (x : (Int × Int)) : Prop := (0 : Int) ≤ x.2 ∧ k.1 ≤ 40
def mu10_5 (k : (Int × Int × Int × Int)) (x : (Int × Int)) : Nat := (k.1 - x.2).toNat
def st10_5 (k : (Int × Int × Int × Int)) (x : (Int × Int)) : BOut (Int × Int × Int × Int) (Int × Int) (Int) :=
  bif (decide (x.2 < k.1)) then
    BOut.next k ((Sp.G10_8 (k.1, x.2, k.2) (x.1, (0 : Int))).1, (IntKind.i64.wrap (x.2 + (1 : Int))))
  else
    BOut.brk k x
def G10_5 (k : (Int × Int × Int × Int)) (x : (Int × Int)) : (Int × Int) := endOf st10_5 k (Nat.succ (mu10_5 k x)) x
end Go.Proofs.YtjdaplmlmmnokaaDoor.Sp
namespace Go.Proofs.YtjdaplmlmmnokaaDoor.Sy
def LS10_5 : LS ty3.den := mkLS (Ty.pair ty3 ty26) (Ty.pair ty3 ty3)  [(0, none)] [(3, 3)] [(5, none), (6, none)] [] [] [] [(3, 3)] 0 false Sp.in10_5 Sp.st10_5 Sp.mu10_5
theorem va10_8 (k : (Ty.pair ty3 (Ty.pair ty3 ty26)).den) (x : (Ty.pair ty3 ty3).den) : ((evCode (ctxP PmC0 none GmD0 []) (lookL []) (bodyAt (bodyOf Tryd.f10) [0, 0]) (tmpl LS10_8 (enc (Ty.pair ty3 (Ty.pair ty3 ty26)) k) (enc (Ty.pair ty3 ty3) x)) (evRound LS10_8 (evRet (ctxP PmC0 none GmD0 []) Tryd.f10 (Rsh.one (none)) none ty3 .ret)))).val BOut.ret (BOut.brk (Ty.dflt (Ty.pair ty3 (Ty.pair ty3 ty26))) (Ty.dflt (Ty.pair ty3 ty3))) = Sp.st10_8 k x := by kernel_rfl
theorem se10_8 (k : (Ty.pair ty3 (Ty.pair ty3 ty26)).den) (x : (Ty.pair ty3 ty3).den) : ((evCode (ctxP PmC0 none GmD0 []) (lookL []) (bodyAt (bodyOf Tryd.f10) [0, 0]) (tmpl LS10_8 (enc (Ty.pair ty3 (Ty.pair ty3 ty26)) k) (enc (Ty.pair ty3 ty3) x)) (evRound LS10_8 (evRet (ctxP PmC0 none GmD0 []) Tryd.f10 (Rsh.one (none)) none ty3 .ret)))).safe = ((((decide (x.2 < (3 : Int))) = true → (((Sp.F22 (k.1, k.2.2, k.2.1, x.2)) = true → True) ∧ ((Sp.F22 (k.1, k.2.2, k.2.1, x.2)) = false → True))) ∧ ((decide (x.2 < (3 : Int))) = false → True))) := by kernel_rfl
set_option maxHeartbeats 4000000 in
theorem sa10_8 (k : (Ty.pair ty3 (Ty.pair ty3 ty26)).den) (x : (Ty.pair ty3 ty3).den) (fk : Fit (Ty.pair ty3 (Ty.pair ty3 ty26)) k) (fx : Fit (Ty.pair ty3 ty3) x) (h : Sp.in10_8 k x) : SafeW ((evCode (ctxP PmC0 none GmD0 []) (lookL []) (bodyAt (bodyOf Tryd.f10) [0, 0]) (tmpl LS10_8 (enc (Ty.pair ty3 (Ty.pair ty3 ty26)) k) (enc (Ty.pair ty3 ty3) x)) (evRound LS10_8 (evRet (ctxP PmC0 none GmD0 []) Tryd.f10 (Rsh.one (none)) none ty3 .ret)))) := by
  refine ⟨?_⟩
  rw [se10_8]
  try dsimp only [Ty.den] at *
  simp only [Sp.in10_8, Fit, maxLen] at h fk fx
  simp only [IntKind.wrap_i64, IntKind.wrap_u8, IntKind.wrap_u32, IntKind.wrap_u64, Sp.tmod_lit, Sp.tdiv_lit, bne_eq_false_iff_eq, Int.natCast_inj, setE, copyL, sliceL, zrow, List.length_append, List.length_cons, List.length_nil, List.length_set, List.length_replicate, List.length_take, List.length_drop, decide_eq_true_eq, decide_eq_false_iff_not, Bool.or_eq_true, Bool.and_eq_true, Bool.or_eq_false_iff, Bool.and_eq_false_iff, Bool.not_eq_true', Bool.not_eq_false', Bool.not_eq_true, Bool.not_eq_false, beq_iff_eq, beq_eq_false_iff_ne, bne_iff_ne, ne_eq, implies_true, and_true, true_and] at *
  all_goals ((repeat' (first | exact trivial | apply And.intro | intro _)) <;> first | trivial | omega | exact Sp.tmod_nn (by omega) | exact Sp.tmod_lt (by omega) (by omega))
set_option maxHeartbeats 4000000 in
theorem so10_8 (k : (Ty.pair ty3 (Ty.pair ty3 ty26)).den) (x : (Ty.pair ty3 ty3).den) (fk : Fit (Ty.pair ty3 (Ty.pair ty3 ty26)) k) (h : Sp.in10_8 k x) : StepOk false Sp.in10_8 Sp.mu10_8 k x (Sp.st10_8 k x) := by
  try dsimp only [Ty.den] at *
  simp only [Sp.in10_8, Fit, maxLen] at h fk
  unfold Sp.st10_8
  (repeat' (first | exact rfl | (refine StepOk.cnd (fun hc => ?_) (fun hc => ?_) <;> (try simp only [IntKind.wrap_i64, IntKind.wrap_u8, IntKind.wrap_u32, IntKind.wrap_u64, bne_eq_false_iff_eq, Int.natCast_inj, setE, copyL, sliceL, zrow, List.length_append, List.length_cons, List.length_nil, List.length_set, List.length_replicate, List.length_take, List.length_drop, decide_eq_true_eq, decide_eq_false_iff_not, Bool.or_eq_true, Bool.and_eq_true, Bool.or_eq_false_iff, Bool.and_eq_false_iff, Bool.not_eq_true', Bool.not_eq_false', Bool.not_eq_true, Bool.not_eq_false, beq_iff_eq, beq_eq_false_iff_ne, bne_iff_ne, ne_eq] at hc)) | refine StepOk.opt (fun _ => ?_))) <;> (first | exact rfl | (refine ⟨rfl, ?_, ?_⟩ <;> simp only [Sp.in10_8, Sp.mu10_8, IntKind.wrap_i64, IntKind.wrap_u8, IntKind.wrap_u32, IntKind.wrap_u64, Sp.tmod_lit, Sp.tdiv_lit, bne_eq_false_iff_eq, Int.natCast_inj, setE, copyL, sliceL, zrow, List.length_append, List.length_cons, List.length_nil, List.length_set, List.length_replicate, List.length_take, List.length_drop, decide_eq_true_eq, decide_eq_false_iff_not, Bool.or_eq_true, Bool.and_eq_true, Bool.or_eq_false_iff, Bool.and_eq_false_iff, Bool.not_eq_true', Bool.not_eq_false', Bool.not_eq_true, Bool.not_eq_false, beq_iff_eq, beq_eq_false_iff_ne, bne_iff_ne, ne_eq] <;> first | omega | (and_intros <;> first | omega | exact h.1 | exact h.2 | exact h.2.1 | exact h.2.2 | exact h.2.2.1 | exact h.2.2.2 | exact h.2.2.2.1 | exact h.2.2.2.2 | exact h.2.2.2.2.1 | exact h.2.2.2.2.2 | exact h.2.2.2.2.2.1 | exact h.2.2.2.2.2.2)))
theorem lo10_8 : LoopOk Tryd.prog gdS (RetAt Tryd.prog Tryd.f10 (Rsh.one (none)) none ty3) (bodyAt (bodyOf Tryd.f10) [0, 0]) LS10_8 :=
  loop_run (ctxOkP pgokPmC0 fvok_none gokGmD0 []) (L := lookL []) (loops_of (l := []) (by kernel_rfl) (loops_nil)) sa10_8 va10_8 so10_8
theorem va10_5 (k : (Ty.pair ty3 ty26).den) (x : (Ty.pair ty3 ty3).den) : ((evCode (ctxP PmC0 none GmD0 []) (lookL [(8, LS10_8)]) (bodyAt (bodyOf Tryd.f10) [0]) (tmpl LS10_5 (enc (Ty.pair ty3 ty26) k) (enc (Ty.pair ty3 ty3) x)) (evRound LS10_5 (evRet (ctxP PmC0 none GmD0 []) Tryd.f10 (Rsh.one (none)) none ty3 .ret)))).val BOut.ret (BOut.brk (Ty.dflt (Ty.pair ty3 ty26)) (Ty.dflt (Ty.pair ty3 ty3))) = Sp.st10_5 k x := by kernel_rfl
theorem se10_5 (k : (Ty.pair ty3 ty26).den) (x : (Ty.pair ty3 ty3).den) : ((evCode (ctxP PmC0 none GmD0 []) (lookL [(8, LS10_8)]) (bodyAt (bodyOf Tryd.f10) [0]) (tmpl LS10_5 (enc (Ty.pair ty3 ty26) k) (enc (Ty.pair ty3 ty3) x)) (evRound LS10_5 (evRet (ctxP PmC0 none GmD0 []) Tryd.f10 (Rsh.one (none)) none ty3 .ret)))).safe = ((((decide (x.2 < k.1)) = true → ((Sp.in10_8 (k.1, x.2, k.2) (x.1, (0 : Int))) ∧ True)) ∧ ((decide (x.2 < k.1)) = false → True))) := by kernel_rfl
set_option maxHeartbeats 4000000 in
theorem sa10_5 (k : (Ty.pair ty3 ty26).den) (x : (Ty.pair ty3 ty3).den) (fk : Fit (Ty.pair ty3 ty26) k) (fx : Fit (Ty.pair ty3 ty3) x) (h : Sp.in10_5 k x) : SafeW ((evCode (ctxP PmC0 none GmD0 []) (lookL [(8, LS10_8)]) (bodyAt (bodyOf Tryd.f10) [0]) (tmpl LS10_5 (enc (Ty.pair ty3 ty26) k) (enc (Ty.pair ty3 ty3) x)) (evRound LS10_5 (evRet (ctxP PmC0 none GmD0 []) Tryd.f10 (Rsh.one (none)) none ty3 .ret)))) := by
  refine ⟨?_⟩
  rw [se10_5]
  try dsimp only [Ty.den] at *
  simp only [Sp.in10_5, Fit, maxLen] at h fk fx
  simp only [Sp.in10_8, IntKind.wrap_i64, IntKind.wrap_u8, IntKind.wrap_u32, IntKind.wrap_u64, Sp.tmod_lit, Sp.tdiv_lit, bne_eq_false_iff_eq, Int.natCast_inj, setE, copyL, sliceL, zrow, List.length_append, List.length_cons, List.length_nil, List.length_set, List.length_replicate, List.length_take, List.length_drop, decide_eq_true_eq, decide_eq_false_iff_not, Bool.or_eq_true, Bool.and_eq_true, Bool.or_eq_false_iff, Bool.and_eq_false_iff, Bool.not_eq_true', Bool.not_eq_false', Bool.not_eq_true, Bool.not_eq_false, beq_iff_eq, beq_eq_false_iff_ne, bne_iff_ne, ne_eq, implies_true, and_true, true_and] at *
  all_goals ((repeat' (first | exact trivial | apply And.intro | intro _)) <;> first | trivial | omega | exact Sp.tmod_nn (by omega) | exact Sp.tmod_lt (by omega) (by omega))
set_option maxHeartbeats 4000000 in
theorem so10_5 (k : (Ty.pair ty3 ty26).den) (x : (Ty.pair ty3 ty3).den) (fk : Fit (Ty.pair ty3 ty26) k) (h : Sp.in10_5 k x) : StepOk false Sp.in10_5 Sp.mu10_5 k x (Sp.st10_5 k x) := by
  try dsimp only [Ty.den] at *
  simp only [Sp.in10_5, Fit, maxLen] at h fk
  unfold Sp.st10_5
  (repeat' (first | exact rfl | (refine StepOk.cnd (fun hc => ?_) (fun hc => ?_) <;> (try simp only [IntKind.wrap_i64, IntKind.wrap_u8, IntKind.wrap_u32, IntKind.wrap_u64, bne_eq_false_iff_eq, Int.natCast_inj, setE, copyL, sliceL, zrow, List.length_append, List.length_cons, List.length_nil, List.length_set, List.length_replicate, List.length_take, List.length_drop, decide_eq_true_eq, decide_eq_false_iff_not, Bool.or_eq_true, Bool.and_eq_true, Bool.or_eq_false_iff, Bool.and_eq_false_iff, Bool.not_eq_true', Bool.not_eq_false', Bool.not_eq_true, Bool.not_eq_false, beq_iff_eq, beq_eq_false_iff_ne, bne_iff_ne, ne_eq] at hc)) | refine StepOk.opt (fun _ => ?_))) <;> (first | exact rfl | (refine ⟨rfl, ?_, ?_⟩ <;> simp only [Sp.in10_5, Sp.mu10_5, IntKind.wrap_i64, IntKind.wrap_u8, IntKind.wrap_u32, IntKind.wrap_u64, Sp.tmod_lit, Sp.tdiv_lit, bne_eq_false_iff_eq, Int.natCast_inj, setE, copyL, sliceL, zrow, List.length_append, List.length_cons, List.length_nil, List.length_set, List.length_replicate, List.length_take, List.length_drop, decide_eq_true_eq, decide_eq_false_iff_not, Bool.or_eq_true, Bool.and_eq_true, Bool.or_eq_false_iff, Bool.and_eq_false_iff, Bool.not_eq_true', Bool.not_eq_false', Bool.not_eq_true, Bool.not_eq_false, beq_iff_eq, beq_eq_false_iff_ne, bne_iff_ne, ne_eq] <;> first | omega | (and_intros <;> first | omega | exact h.1 | exact h.2 | exact h.2.1 | exact h.2.2 | exact h.2.2.1 | exact h.2.2.2 | exact h.2.2.2.1 | exact h.2.2.2.2 | exact h.2.2.2.2.1 | exact h.2.2.2.2.2 | exact h.2.2.2.2.2.1 | exact h.2.2.2.2.2.2)))
theorem lo10_5 : LoopOk Tryd.prog gdS (RetAt Tryd.prog Tryd.f10 (Rsh.one (none)) none ty3) (bodyAt (bodyOf Tryd.f10) [0]) LS10_5 :=
  loop_run (ctxOkP pgokPmC0 fvok_none gokGmD0 []) (L := lookL [(8, LS10_8)]) (loops_of (l := [bodyAt (bodyOf Tryd.f10) [0, 0]]) (by kernel_rfl) (loops_cons (s0 := LS10_8) (by kernel_rfl) lo10_8 (loops_nil))) sa10_5 va10_5 so10_5
end Go.Proofs.YtjdaplmlmmnokaaDoor.Sy
namespace Go.Proofs.YtjdaplmlmmnokaaDoor.Sp
open Go Go.RowKit Sy
def F10 (x : Int × Int × Int × Int) : Int :=
  bif ((decide (x.1 < (2 : Int))) || (decide (x.1 > (32 : Int)))) then
    (0 : Int)
  else
    (Sp.G10_5 x ((0 : Int), (0 : Int))).1
end Go.Proofs.YtjdaplmlmmnokaaDoor.Sp
namespace Go.Proofs.YtjdaplmlmmnokaaDoor.Sy
def ct10 : Ct := { p := (Ty.pair ty3 ty26), psh := [none, some 3], r := ty3, rsh := (Rsh.one (none)), pre := none, fresh := none, F := Sp.F10 }
theorem va10 (x : (Ty.pair ty3 ty26).den) : ((evFn (ctxP PmC0 none GmD0 []) Tryd.f10 (Ty.pair ty3 ty26) [none, some 3] (Rsh.one (none)) none ty3 (lookL [(8, LS10_8), (5, LS10_5)]) x)).val (fun y => y) (Ty.dflt ty3) = Sp.F10 x := by kernel_rfl
theorem se10 (x : (Ty.pair ty3 ty26).den) : ((evFn (ctxP PmC0 none GmD0 []) Tryd.f10 (Ty.pair ty3 ty26) [none, some 3] (Rsh.one (none)) none ty3 (lookL [(8, LS10_8), (5, LS10_5)]) x)).safe = (((((decide (x.1 < (2 : Int))) || (decide (x.1 > (32 : Int)))) = true → True) ∧ (((decide (x.1 < (2 : Int))) || (decide (x.1 > (32 : Int)))) = false → ((Sp.in10_5 x ((0 : Int), (0 : Int))) ∧ True)))) := by kernel_rfl
theorem sa10 (x : (Ty.pair ty3 ty26).den) (fx : Fit (Ty.pair ty3 ty26) x) : SafeW ((evFn (ctxP PmC0 none GmD0 []) Tryd.f10 (Ty.pair ty3 ty26) [none, some 3] (Rsh.one (none)) none ty3 (lookL [(8, LS10_8), (5, LS10_5)]) x)) := by
  refine ⟨?_⟩
  rw [se10]
  try dsimp only [Ty.den] at *
  simp only [Fit, maxLen] at fx
  simp only [Sp.in10_8, Sp.in10_5, IntKind.wrap_i64, IntKind.wrap_u8, IntKind.wrap_u32, IntKind.wrap_u64, Sp.tmod_lit, Sp.tdiv_lit, bne_eq_false_iff_eq, Int.natCast_inj, setE, copyL, sliceL, zrow, List.length_append, List.length_cons, List.length_nil, List.length_set, List.length_replicate, List.length_take, List.length_drop, decide_eq_true_eq, decide_eq_false_iff_not, Bool.or_eq_true, Bool.and_eq_true, Bool.or_eq_false_iff, Bool.and_eq_false_iff, Bool.not_eq_true', Bool.not_eq_false', Bool.not_eq_true, Bool.not_eq_false, beq_iff_eq, beq_eq_false_iff_ne, bne_iff_ne, ne_eq, implies_true, and_true, true_and] at *
  all_goals ((repeat' (first | exact trivial | apply And.intro | intro _)) <;> first | trivial | omega | exact Sp.tmod_nn (by omega) | exact Sp.tmod_lt (by omega) (by omega))
theorem ok10 : CtOk Tryd.prog gdS 10 ct10 :=
  fn_okU (ctxOkP pgokPmC0 fvok_none gokGmD0 []) rfl Tryd.func10 (p := (Ty.pair ty3 ty26)) (psh := [none, some 3]) (r := ty3) (rsh := (Rsh.one (none))) (pre := none) (fresh := none) (F := Sp.F10) (L := (lookL [(8, LS10_8), (5, LS10_5)])) (c := bodyOf Tryd.f10) (dflt := Ty.dflt ty3) rfl (loops_of (l := [bodyAt (bodyOf Tryd.f10) [0]]) (by kernel_rfl) (loops_cons (s0 := LS10_5) (by kernel_rfl) lo10_5 (loops_nil)))
    (safe_no @sa10) va10
/-! overlaylaw21.CostBounds -/
end Go.Proofs.YtjdaplmlmmnokaaDoor.Sy
namespace Go.Proofs.YtjdaplmlmmnokaaDoor.Sp
open Go Go.RowKit Sy
def in4_11 (k : (Int × Int × Int × Int × (Int × Int × Int) × Int × Int × Int)) (x : (Int)) : Prop := (1 : Int) ≤ x
def mu4_11 (k : (Int × Int × Int × Int × (Int × Int × Int) × Int × Int × Int)) (x : (Int)) : Nat := ((2 : Int) - x + 1).toNat
def st4_11 (k : (Int × Int × Int × Int × (Int × Int × Int) × Int × Int × Int)) (x : (Int)) : BOut (Int × Int × Int × Int × (Int × Int × Int) × Int × Int × Int) (Int) (Bool) :=
  bif (decide (x ≤ (2 : Int))) then
    (bif (((x == (1 : Int)) && (k.2.2.2.1 == (IntKind.i64.wrap (k.1 - (1 : Int))))) || ((x == (2 : Int)) && (k.2.2.2.1 == (0 : Int)))) then
      BOut.next k (IntKind.i64.wrap (x + (1 : Int)))
    else
      bif (((((decide ((Sp.F7 (k.1, k.2.1, k.2.2.1, k.2.2.2.2.1, k.2.2.2.1, x)) < (IntKind.i64.wrap (k.2.2.2.1 - k.2.1)))) || (decide ((Sp.F7 (k.1, k.2.1, k.2.2.1, k.2.2.2.2.1, k.2.2.2.1, x)) < (IntKind.i64.wrap (k.2.1 - k.2.2.2.1))))) || (decide ((Sp.F7 (k.1, k.2.1, k.2.2.1, k.2.2.2.2.1, k.2.2.2.1, x)) > (IntKind.i64.wrap ((3 : Int) * k.1))))) || (decide ((Sp.F7 (k.1, k.2.1, k.2.2.1, k.2.2.2.2.2, k.2.2.2.1, x)) < (Sp.F7 (k.1, k.2.1, k.2.2.1, k.2.2.2.2.1, k.2.2.2.1, x))))) || (decide ((Sp.F7 (k.1, k.2.1, k.2.2.1, ((0 : Int), (0 : Int), (0 : Int)), k.2.2.2.1, x)) > (Sp.F7 (k.1, k.2.1, k.2.2.1, k.2.2.2.2.1, k.2.2.2.1, x))))) then
        BOut.ret false
      else
        BOut.next k (IntKind.i64.wrap (x + (1 : Int))))
  else
    BOut.brk k x
def G4_11 (k : (Int × Int × Int × Int × (Int × Int × Int) × Int × Int × Int)) (x : (Int)) : (Int) := endOf st4_11 k (Nat.succ (mu4_11 k x)) x
def R4_11 (k : (Int × Int × Int × Int × (Int × Int × Int) × Int × Int × Int)) (x : (Int)) : Option (Bool) := retOf st4_11 k (Nat.succ (mu4_11 k x)) x
end Go.Proofs.YtjdaplmlmmnokaaDoor.Sp
namespace Go.Proofs.YtjdaplmlmmnokaaDoor.Sy
def LS4_11 : LS ty4.den := mkLS (Ty.pair ty3 (Ty.pair ty3 (Ty.pair ty3 (Ty.pair ty3 (Ty.pair ty26 ty26))))) ty3  [(7, none), (8, none), (10, none), (11, none)] [(4, 3), (9, 3)] [(12, none)] [] [] [] [(4, 4), (9, 9)] 4 true Sp.in4_11 Sp.st4_11 Sp.mu4_11
end Go.Proofs.YtjdaplmlmmnokaaDoor.Sy
namespace Go.Proofs.YtjdaplmlmmnokaaDoor.Sp
open Go Go.RowKit Sy
def in4_8 (k : (Int × Int × Int × (Int × Int × Int) × Int × Int × Int)) (x : (Int)) : Prop := (0 : Int) ≤ x ∧ k.1 ≤ 40
def mu4_8 (k : (Int × Int × Int × (Int × Int × Int) × Int × Int × Int)) (x : (Int)) : Nat := (k.1 - x).toNat
def st4_8 (k : (Int × Int × Int × (Int × Int × Int) × Int × Int × Int)) (x : (Int)) : BOut (Int × Int × Int × (Int × Int × Int) × Int × Int × Int) (Int) (Bool) :=
  bif (decide (x < k.1)) then
    (Sp.optR (Sp.R4_11 (k.1, k.2.1, k.2.2.1, x, k.2.2.2) (1 : Int)) BOut.ret
    (BOut.next k (IntKind.i64.wrap (x + (1 : Int)))))
  else
    BOut.brk k x
def G4_8 (k : (Int × Int × Int × (Int × Int × Int) × Int × Int × Int)) (x : (Int)) : (Int) := endOf st4_8 k (Nat.succ (mu4_8 k x)) x
def R4_8 (k : (Int × Int × Int × (Int × Int × Int) × Int × Int × Int)) (x : (Int)) : Option (Bool) := retOf st4_8 k (Nat.succ (mu4_8 k x)) x
end Go.Proofs.YtjdaplmlmmnokaaDoor.Sp
namespace Go.Proofs.YtjdaplmlmmnokaaDoor.Sy
def LS4_8 : LS ty4.den := mkLS (Ty.pair ty3 (Ty.pair ty3 (Ty.pair ty3 (Ty.pair ty26 ty26)))) ty3  [(7, none), (8, none), (10, none)] [(4, 3), (9, 3)] [(11, none)] [] [] [] [(4, 4), (9, 9)] 2 true Sp.in4_8 Sp.st4_8 Sp.mu4_8
end Go.Proofs.YtjdaplmlmmnokaaDoor.Sy
namespace Go.Proofs.YtjdaplmlmmnokaaDoor.Sp
open Go Go.RowKit Sy
def in4_5 (k : (Int × Int × (Int × Int × Int) × Int × Int × Int)) (x : (Int)) : Prop := (0 : Int) ≤ x ∧ k.1 ≤ 40
def mu4_5 (k : (Int × Int × (Int × Int × Int) × Int × Int × Int)) (x : (Int)) : Nat := ((3 : Int) - x).toNat
def st4_5 (k : (Int × Int × (Int × Int × Int) × Int × Int × Int)) (x : (Int)) : BOut (Int × Int × (Int × Int × Int) × Int × Int × Int) (Int) (Bool) :=
  bif (decide (x < (3 : Int))) then
    (Sp.optR (Sp.R4_8 (k.1, k.2.1, x, k.2.2) (0 : Int)) BOut.ret
    (BOut.next k (IntKind.i64.wrap (x + (1 : Int)))))
  else
    BOut.brk k x
def G4_5 (k : (Int × Int × (Int × Int × Int) × Int × Int × Int)) (x : (Int)) : (Int) := endOf st4_5 k (Nat.succ (mu4_5 k x)) x
def R4_5 (k : (Int × Int × (Int × Int × Int) × Int × Int × Int)) (x : (Int)) : Option (Bool) := retOf st4_5 k (Nat.succ (mu4_5 k x)) x
end Go.Proofs.YtjdaplmlmmnokaaDoor.Sp
namespace Go.Proofs.YtjdaplmlmmnokaaDoor.Sy
def LS4_5 : LS ty4.den := mkLS (Ty.pair ty3 (Ty.pair ty3 (Ty.pair ty26 ty26))) ty3  [(7, none), (8, none)] [(4, 3), (9, 3)] [(10, none)] [] [] [] [(4, 4), (9, 9)] 0 true Sp.in4_5 Sp.st4_5 Sp.mu4_5
theorem va4_11 (k : (Ty.pair ty3 (Ty.pair ty3 (Ty.pair ty3 (Ty.pair ty3 (Ty.pair ty26 ty26))))).den) (x : ty3.den) : ((evCode (ctxP PmC0 none GmD0 []) (lookL []) (bodyAt (bodyOf Tryd.f4) [0, 0, 0]) (tmpl LS4_11 (enc (Ty.pair ty3 (Ty.pair ty3 (Ty.pair ty3 (Ty.pair ty3 (Ty.pair ty26 ty26))))) k) (enc ty3 x)) (evRound LS4_11 (evRet (ctxP PmC0 none GmD0 []) Tryd.f4 (Rsh.one (none)) none ty4 .ret)))).val BOut.ret (BOut.brk (Ty.dflt (Ty.pair ty3 (Ty.pair ty3 (Ty.pair ty3 (Ty.pair ty3 (Ty.pair ty26 ty26)))))) (Ty.dflt ty3)) = Sp.st4_11 k x := by kernel_rfl
theorem se4_11 (k : (Ty.pair ty3 (Ty.pair ty3 (Ty.pair ty3 (Ty.pair ty3 (Ty.pair ty26 ty26))))).den) (x : ty3.den) : ((evCode (ctxP PmC0 none GmD0 []) (lookL []) (bodyAt (bodyOf Tryd.f4) [0, 0, 0]) (tmpl LS4_11 (enc (Ty.pair ty3 (Ty.pair ty3 (Ty.pair ty3 (Ty.pair ty3 (Ty.pair ty26 ty26))))) k) (enc ty3 x)) (evRound LS4_11 (evRet (ctxP PmC0 none GmD0 []) Tryd.f4 (Rsh.one (none)) none ty4 .ret)))).safe = ((((decide (x ≤ (2 : Int))) = true → (((((x == (1 : Int)) && (k.2.2.2.1 == (IntKind.i64.wrap (k.1 - (1 : Int))))) || ((x == (2 : Int)) && (k.2.2.2.1 == (0 : Int)))) = true → True) ∧ ((((x == (1 : Int)) && (k.2.2.2.1 == (IntKind.i64.wrap (k.1 - (1 : Int))))) || ((x == (2 : Int)) && (k.2.2.2.1 == (0 : Int)))) = false → (((((((decide ((Sp.F7 (k.1, k.2.1, k.2.2.1, k.2.2.2.2.1, k.2.2.2.1, x)) < (IntKind.i64.wrap (k.2.2.2.1 - k.2.1)))) || (decide ((Sp.F7 (k.1, k.2.1, k.2.2.1, k.2.2.2.2.1, k.2.2.2.1, x)) < (IntKind.i64.wrap (k.2.1 - k.2.2.2.1))))) || (decide ((Sp.F7 (k.1, k.2.1, k.2.2.1, k.2.2.2.2.1, k.2.2.2.1, x)) > (IntKind.i64.wrap ((3 : Int) * k.1))))) || (decide ((Sp.F7 (k.1, k.2.1, k.2.2.1, k.2.2.2.2.2, k.2.2.2.1, x)) < (Sp.F7 (k.1, k.2.1, k.2.2.1, k.2.2.2.2.1, k.2.2.2.1, x))))) || (decide ((Sp.F7 (k.1, k.2.1, k.2.2.1, ((0 : Int), (0 : Int), (0 : Int)), k.2.2.2.1, x)) > (Sp.F7 (k.1, k.2.1, k.2.2.1, k.2.2.2.2.1, k.2.2.2.1, x))))) = true → True) ∧ ((((((decide ((Sp.F7 (k.1, k.2.1, k.2.2.1, k.2.2.2.2.1, k.2.2.2.1, x)) < (IntKind.i64.wrap (k.2.2.2.1 - k.2.1)))) || (decide ((Sp.F7 (k.1, k.2.1, k.2.2.1, k.2.2.2.2.1, k.2.2.2.1, x)) < (IntKind.i64.wrap (k.2.1 - k.2.2.2.1))))) || (decide ((Sp.F7 (k.1, k.2.1, k.2.2.1, k.2.2.2.2.1, k.2.2.2.1, x)) > (IntKind.i64.wrap ((3 : Int) * k.1))))) || (decide ((Sp.F7 (k.1, k.2.1, k.2.2.1, k.2.2.2.2.2, k.2.2.2.1, x)) < (Sp.F7 (k.1, k.2.1, k.2.2.1, k.2.2.2.2.1, k.2.2.2.1, x))))) || (decide ((Sp.F7 (k.1, k.2.1, k.2.2.1, ((0 : Int), (0 : Int), (0 : Int)), k.2.2.2.1, x)) > (Sp.F7 (k.1, k.2.1, k.2.2.1, k.2.2.2.2.1, k.2.2.2.1, x))))) = false → True))))) ∧ ((decide (x ≤ (2 : Int))) = false → True))) := by kernel_rfl
set_option maxHeartbeats 4000000 in
theorem sa4_11 (k : (Ty.pair ty3 (Ty.pair ty3 (Ty.pair ty3 (Ty.pair ty3 (Ty.pair ty26 ty26))))).den) (x : ty3.den) (fk : Fit (Ty.pair ty3 (Ty.pair ty3 (Ty.pair ty3 (Ty.pair ty3 (Ty.pair ty26 ty26))))) k) (fx : Fit ty3 x) (h : Sp.in4_11 k x) : SafeW ((evCode (ctxP PmC0 none GmD0 []) (lookL []) (bodyAt (bodyOf Tryd.f4) [0, 0, 0]) (tmpl LS4_11 (enc (Ty.pair ty3 (Ty.pair ty3 (Ty.pair ty3 (Ty.pair ty3 (Ty.pair ty26 ty26))))) k) (enc ty3 x)) (evRound LS4_11 (evRet (ctxP PmC0 none GmD0 []) Tryd.f4 (Rsh.one (none)) none ty4 .ret)))) := by
  refine ⟨?_⟩
  rw [se4_11]
  try dsimp only [Ty.den] at *
  simp only [Sp.in4_11, Fit, maxLen] at h fk fx
  simp only [IntKind.wrap_i64, IntKind.wrap_u8, IntKind.wrap_u32, IntKind.wrap_u64, Sp.tmod_lit, Sp.tdiv_lit, bne_eq_false_iff_eq, Int.natCast_inj, setE, copyL, sliceL, zrow, List.length_append, List.length_cons, List.length_nil, List.length_set, List.length_replicate, List.length_take, List.length_drop, decide_eq_true_eq, decide_eq_false_iff_not, Bool.or_eq_true, Bool.and_eq_true, Bool.or_eq_false_iff, Bool.and_eq_false_iff, Bool.not_eq_true', Bool.not_eq_false', Bool.not_eq_true, Bool.not_eq_false, beq_iff_eq, beq_eq_false_iff_ne, bne_iff_ne, ne_eq, implies_true, and_true, true_and] at *
  all_goals ((repeat' (first | exact trivial | apply And.intro | intro _)) <;> first | trivial | omega | exact Sp.tmod_nn (by omega) | exact Sp.tmod_lt (by omega) (by omega))
set_option maxHeartbeats 4000000 in
theorem so4_11 (k : (Ty.pair ty3 (Ty.pair ty3 (Ty.pair ty3 (Ty.pair ty3 (Ty.pair ty26 ty26))))).den) (x : ty3.den) (fk : Fit (Ty.pair ty3 (Ty.pair ty3 (Ty.pair ty3 (Ty.pair ty3 (Ty.pair ty26 ty26))))) k) (h : Sp.in4_11 k x) : StepOk true Sp.in4_11 Sp.mu4_11 k x (Sp.st4_11 k x) := by
  try dsimp only [Ty.den] at *
  simp only [Sp.in4_11, Fit, maxLen] at h fk
  unfold Sp.st4_11
  (repeat' (first | exact rfl | (refine StepOk.cnd (fun hc => ?_) (fun hc => ?_) <;> (try simp only [IntKind.wrap_i64, IntKind.wrap_u8, IntKind.wrap_u32, IntKind.wrap_u64, bne_eq_false_iff_eq, Int.natCast_inj, setE, copyL, sliceL, zrow, List.length_append, List.length_cons, List.length_nil, List.length_set, List.length_replicate, List.length_take, List.length_drop, decide_eq_true_eq, decide_eq_false_iff_not, Bool.or_eq_true, Bool.and_eq_true, Bool.or_eq_false_iff, Bool.and_eq_false_iff, Bool.not_eq_true', Bool.not_eq_false', Bool.not_eq_true, Bool.not_eq_false, beq_iff_eq, beq_eq_false_iff_ne, bne_iff_ne, ne_eq] at hc)) | refine StepOk.opt (fun _ => ?_))) <;> (first | exact rfl | (refine ⟨rfl, ?_, ?_⟩ <;> simp only [Sp.in4_11, Sp.mu4_11, IntKind.wrap_i64, IntKind.wrap_u8, IntKind.wrap_u32, IntKind.wrap_u64, Sp.tmod_lit, Sp.tdiv_lit, bne_eq_false_iff_eq, Int.natCast_inj, setE, copyL, sliceL, zrow, List.length_append, List.length_cons, List.length_nil, List.length_set, List.length_replicate, List.length_take, List.length_drop, decide_eq_true_eq, decide_eq_false_iff_not, Bool.or_eq_true, Bool.and_eq_true, Bool.or_eq_false_iff, Bool.and_eq_false_iff, Bool.not_eq_true', Bool.not_eq_false', Bool.not_eq_true, Bool.not_eq_false, beq_iff_eq, beq_eq_false_iff_ne, bne_iff_ne, ne_eq] <;> first | omega | (and_intros <;> first | omega | exact h.1 | exact h.2 | exact h.2.1 | exact h.2.2 | exact h.2.2.1 | exact h.2.2.2 | exact h.2.2.2.1 | exact h.2.2.2.2 | exact h.2.2.2.2.1 | exact h.2.2.2.2.2 | exact h.2.2.2.2.2.1 | exact h.2.2.2.2.2.2)))
theorem lo4_11 : LoopOk Tryd.prog gdS (RetAt Tryd.prog Tryd.f4 (Rsh.one (none)) none ty4) (bodyAt (bodyOf Tryd.f4) [0, 0, 0]) LS4_11 :=
  loop_run (ctxOkP pgokPmC0 fvok_none gokGmD0 []) (L := lookL []) (loops_of (l := []) (by kernel_rfl) (loops_nil)) sa4_11 va4_11 so4_11
theorem va4_8 (k : (Ty.pair ty3 (Ty.pair ty3 (Ty.pair ty3 (Ty.pair ty26 ty26)))).den) (x : ty3.den) : ((evCode (ctxP PmC0 none GmD0 []) (lookL [(11, LS4_11)]) (bodyAt (bodyOf Tryd.f4) [0, 0]) (tmpl LS4_8 (enc (Ty.pair ty3 (Ty.pair ty3 (Ty.pair ty3 (Ty.pair ty26 ty26)))) k) (enc ty3 x)) (evRound LS4_8 (evRet (ctxP PmC0 none GmD0 []) Tryd.f4 (Rsh.one (none)) none ty4 .ret)))).val BOut.ret (BOut.brk (Ty.dflt (Ty.pair ty3 (Ty.pair ty3 (Ty.pair ty3 (Ty.pair ty26 ty26))))) (Ty.dflt ty3)) = Sp.st4_8 k x := by kernel_rfl
theorem se4_8 (k : (Ty.pair ty3 (Ty.pair ty3 (Ty.pair ty3 (Ty.pair ty26 ty26)))).den) (x : ty3.den) : ((evCode (ctxP PmC0 none GmD0 []) (lookL [(11, LS4_11)]) (bodyAt (bodyOf Tryd.f4) [0, 0]) (tmpl LS4_8 (enc (Ty.pair ty3 (Ty.pair ty3 (Ty.pair ty3 (Ty.pair ty26 ty26)))) k) (enc ty3 x)) (evRound LS4_8 (evRet (ctxP PmC0 none GmD0 []) Tryd.f4 (Rsh.one (none)) none ty4 .ret)))).safe = ((((decide (x < k.1)) = true → ((Sp.in4_11 (k.1, k.2.1, k.2.2.1, x, k.2.2.2) (1 : Int)) ∧ ((Sp.R4_11 (k.1, k.2.1, k.2.2.1, x, k.2.2.2) (1 : Int)) = none → True))) ∧ ((decide (x < k.1)) = false → True))) := by kernel_rfl
set_option maxHeartbeats 4000000 in
theorem sa4_8 (k : (Ty.pair ty3 (Ty.pair ty3 (Ty.pair ty3 (Ty.pair ty26 ty26)))).den) (x : ty3.den) (fk : Fit (Ty.pair ty3 (Ty.pair ty3 (Ty.pair ty3 (Ty.pair ty26 ty26)))) k) (fx : Fit ty3 x) (h : Sp.in4_8 k x) : SafeW ((evCode (ctxP PmC0 none GmD0 []) (lookL [(11, LS4_11)]) (bodyAt (bodyOf Tryd.f4) [0, 0]) (tmpl LS4_8 (enc (Ty.pair ty3 (Ty.pair ty3 (Ty.pair ty3 (Ty.pair ty26 ty26)))) k) (enc ty3 x)) (evRound LS4_8 (evRet (ctxP PmC0 none GmD0 []) Tryd.f4 (Rsh.one (none)) none ty4 .ret)))) := by
  refine ⟨?_⟩
  rw [se4_8]
  try dsimp only [Ty.den] at *
  simp only [Sp.in4_8, Fit, maxLen] at h fk fx
  simp only [Sp.in4_11, IntKind.wrap_i64, IntKind.wrap_u8, IntKind.wrap_u32, IntKind.wrap_u64, Sp.tmod_lit, Sp.tdiv_lit, bne_eq_false_iff_eq, Int.natCast_inj, setE, copyL, sliceL, zrow, List.length_append, List.length_cons, List.length_nil, List.length_set, List.length_replicate, List.length_take, List.length_drop, decide_eq_true_eq, decide_eq_false_iff_not, Bool.or_eq_true, Bool.and_eq_true, Bool.or_eq_false_iff, Bool.and_eq_false_iff, Bool.not_eq_true', Bool.not_eq_false', Bool.not_eq_true, Bool.not_eq_false, beq_iff_eq, beq_eq_false_iff_ne, bne_iff_ne, ne_eq, implies_true, and_true, true_and] at *
  all_goals ((repeat' (first | exact trivial | apply And.intro | intro _)) <;> first | trivial | omega | exact Sp.tmod_nn (by omega) | exact Sp.tmod_lt (by omega) (by omega))
set_option maxHeartbeats 4000000 in
theorem so4_8 (k : (Ty.pair ty3 (Ty.pair ty3 (Ty.pair ty3 (Ty.pair ty26 ty26)))).den) (x : ty3.den) (fk : Fit (Ty.pair ty3 (Ty.pair ty3 (Ty.pair ty3 (Ty.pair ty26 ty26)))) k) (h : Sp.in4_8 k x) : StepOk true Sp.in4_8 Sp.mu4_8 k x (Sp.st4_8 k x) := by
  try dsimp only [Ty.den] at *
  simp only [Sp.in4_8, Fit, maxLen] at h fk
  unfold Sp.st4_8
  (repeat' (first | exact rfl | (refine StepOk.cnd (fun hc => ?_) (fun hc => ?_) <;> (try simp only [IntKind.wrap_i64, IntKind.wrap_u8, IntKind.wrap_u32, IntKind.wrap_u64, bne_eq_false_iff_eq, Int.natCast_inj, setE, copyL, sliceL, zrow, List.length_append, List.length_cons, List.length_nil, List.length_set, List.length_replicate, List.length_take, List.length_drop, decide_eq_true_eq, decide_eq_false_iff_not, Bool.or_eq_true, Bool.and_eq_true, Bool.or_eq_false_iff, Bool.and_eq_false_iff, Bool.not_eq_true', Bool.not_eq_false', Bool.not_eq_true, Bool.not_eq_false, beq_iff_eq, beq_eq_false_iff_ne, bne_iff_ne, ne_eq] at hc)) | refine StepOk.opt (fun _ => ?_))) <;> (first | exact rfl | (refine ⟨rfl, ?_, ?_⟩ <;> simp only [Sp.in4_8, Sp.mu4_8, IntKind.wrap_i64, IntKind.wrap_u8, IntKind.wrap_u32, IntKind.wrap_u64, Sp.tmod_lit, Sp.tdiv_lit, bne_eq_false_iff_eq, Int.natCast_inj, setE, copyL, sliceL, zrow, List.length_append, List.length_cons, List.length_nil, List.length_set, List.length_replicate, List.length_take, List.length_drop, decide_eq_true_eq, decide_eq_false_iff_not, Bool.or_eq_true, Bool.and_eq_true, Bool.or_eq_false_iff, Bool.and_eq_false_iff, Bool.not_eq_true', Bool.not_eq_false', Bool.not_eq_true, Bool.not_eq_false, beq_iff_eq, beq_eq_false_iff_ne, bne_iff_ne, ne_eq] <;> first | omega | (and_intros <;> first | omega | exact h.1 | exact h.2 | exact h.2.1 | exact h.2.2 | exact h.2.2.1 | exact h.2.2.2 | exact h.2.2.2.1 | exact h.2.2.2.2 | exact h.2.2.2.2.1 | exact h.2.2.2.2.2 | exact h.2.2.2.2.2.1 | exact h.2.2.2.2.2.2)))
theorem lo4_8 : LoopOk Tryd.prog gdS (RetAt Tryd.prog Tryd.f4 (Rsh.one (none)) none ty4) (bodyAt (bodyOf Tryd.f4) [0, 0]) LS4_8 :=
  loop_run (ctxOkP pgokPmC0 fvok_none gokGmD0 []) (L := lookL [(11, LS4_11)]) (loops_of (l := [bodyAt (bodyOf Tryd.f4) [0, 0, 0]]) (by kernel_rfl) (loops_cons (s0 := LS4_11) (by kernel_rfl) lo4_11 (loops_nil))) sa4_8 va4_8 so4_8
theorem va4_5 (k : (Ty.pair ty3 (Ty.pair ty3 (Ty.pair ty26 ty26))).den) (x : ty3.den) : ((evCode (ctxP PmC0 none GmD0 []) (lookL [(11, LS4_11), (8, LS4_8)]) (bodyAt (bodyOf Tryd.f4) [0]) (tmpl LS4_5 (enc (Ty.pair ty3 (Ty.pair ty3 (Ty.pair ty26 ty26))) k) (enc ty3 x)) (evRound LS4_5 (evRet (ctxP PmC0 none GmD0 []) Tryd.f4 (Rsh.one (none)) none ty4 .ret)))).val BOut.ret (BOut.brk (Ty.dflt (Ty.pair ty3 (Ty.pair ty3 (Ty.pair ty26 ty26)))) (Ty.dflt ty3)) = Sp.st4_5 k x := by kernel_rfl
theorem se4_5 (k : (Ty.pair ty3 (Ty.pair ty3 (Ty.pair ty26 ty26))).den) (x : ty3.den) : ((evCode (ctxP PmC0 none GmD0 []) (lookL [(11, LS4_11), (8, LS4_8)]) (bodyAt (bodyOf Tryd.f4) [0]) (tmpl LS4_5 (enc (Ty.pair ty3 (Ty.pair ty3 (Ty.pair ty26 ty26))) k) (enc ty3 x)) (evRound LS4_5 (evRet (ctxP PmC0 none GmD0 []) Tryd.f4 (Rsh.one (none)) none ty4 .ret)))).safe = ((((decide (x < (3 : Int))) = true → ((Sp.in4_8 (k.1, k.2.1, x, k.2.2) (0 : Int)) ∧ ((Sp.R4_8 (k.1, k.2.1, x, k.2.2) (0 : Int)) = none → True))) ∧ ((decide (x < (3 : Int))) = false → True))) := by kernel_rfl
set_option maxHeartbeats 4000000 in
theorem sa4_5 (k : (Ty.pair ty3 (Ty.pair ty3 (Ty.pair ty26 ty26))).den) (x : ty3.den) (fk : Fit (Ty.pair ty3 (Ty.pair ty3 (Ty.pair ty26 ty26))) k) (fx : Fit ty3 x) (h : Sp.in4_5 k x) : SafeW ((evCode (ctxP PmC0 none GmD0 []) (lookL [(11, LS4_11), (8, LS4_8)]) (bodyAt (bodyOf Tryd.f4) [0]) (tmpl LS4_5 (enc (Ty.pair ty3 (Ty.pair ty3 (Ty.pair ty26 ty26))) k) (enc ty3 x)) (evRound LS4_5 (evRet (ctxP PmC0 none GmD0 []) Tryd.f4 (Rsh.one (none)) none ty4 .ret)))) := by
  refine ⟨?_⟩
  rw [se4_5]
  try dsimp only [Ty.den] at *
  simp only [Sp.in4_5, Fit, maxLen] at h fk fx
  simp only [Sp.in4_8, IntKind.wrap_i64, IntKind.wrap_u8, IntKind.wrap_u32, IntKind.wrap_u64, Sp.tmod_lit, Sp.tdiv_lit, bne_eq_false_iff_eq, Int.natCast_inj, setE, copyL, sliceL, zrow, List.length_append, List.length_cons, List.length_nil, List.length_set, List.length_replicate, List.length_take, List.length_drop, decide_eq_true_eq, decide_eq_false_iff_not, Bool.or_eq_true, Bool.and_eq_true, Bool.or_eq_false_iff, Bool.and_eq_false_iff, Bool.not_eq_true', Bool.not_eq_false', Bool.not_eq_true, Bool.not_eq_false, beq_iff_eq, beq_eq_false_iff_ne, bne_iff_ne, ne_eq, implies_true, and_true, true_and] at *
  all_goals ((repeat' (first | exact trivial | apply And.intro | intro _)) <;> first | trivial | omega | exact Sp.tmod_nn (by omega) | exact Sp.tmod_lt (by omega) (by omega))
set_option maxHeartbeats 4000000 in
theorem so4_5 (k : (Ty.pair ty3 (Ty.pair ty3 (Ty.pair ty26 ty26))).den) (x : ty3.den) (fk : Fit (Ty.pair ty3 (Ty.pair ty3 (Ty.pair ty26 ty26))) k) (h : Sp.in4_5 k x) : StepOk true Sp.in4_5 Sp.mu4_5 k x (Sp.st4_5 k x) := by
  try dsimp only [Ty.den] at *
  simp only [Sp.in4_5, Fit, maxLen] at h fk
  unfold Sp.st4_5
  (repeat' (first | exact rfl | (refine StepOk.cnd (fun hc => ?_) (fun hc => ?_) <;> (try simp only [IntKind.wrap_i64, IntKind.wrap_u8, IntKind.wrap_u32, IntKind.wrap_u64, bne_eq_false_iff_eq, Int.natCast_inj, setE, copyL, sliceL, zrow, List.length_append, List.length_cons, List.length_nil, List.length_set, List.length_replicate, List.length_take, List.length_drop, decide_eq_true_eq, decide_eq_false_iff_not, Bool.or_eq_true, Bool.and_eq_true, Bool.or_eq_false_iff, Bool.and_eq_false_iff, Bool.not_eq_true', Bool.not_eq_false', Bool.not_eq_true, Bool.not_eq_false, beq_iff_eq, beq_eq_false_iff_ne, bne_iff_ne, ne_eq] at hc)) | refine StepOk.opt (fun _ => ?_))) <;> (first | exact rfl | (refine ⟨rfl, ?_, ?_⟩ <;> simp only [Sp.in4_5, Sp.mu4_5, IntKind.wrap_i64, IntKind.wrap_u8, IntKind.wrap_u32, IntKind.wrap_u64, Sp.tmod_lit, Sp.tdiv_lit, bne_eq_false_iff_eq, Int.natCast_inj, setE, copyL, sliceL, zrow, List.length_append, List.length_cons, List.length_nil, List.length_set, List.length_replicate, List.length_take, List.length_drop, decide_eq_true_eq, decide_eq_false_iff_not, Bool.or_eq_true, Bool.and_eq_true, Bool.or_eq_false_iff, Bool.and_eq_false_iff, Bool.not_eq_true', Bool.not_eq_false', Bool.not_eq_true, Bool.not_eq_false, beq_iff_eq, beq_eq_false_iff_ne, bne_iff_ne, ne_eq] <;> first | omega | (and_intros <;> first | omega | exact h.1 | exact h.2 | exact h.2.1 | exact h.2.2 | exact h.2.2.1 | exact h.2.2.2 | exact h.2.2.2.1 | exact h.2.2.2.2 | exact h.2.2.2.2.1 | exact h.2.2.2.2.2 | exact h.2.2.2.2.2.1 | exact h.2.2.2.2.2.2)))
theorem lo4_5 : LoopOk Tryd.prog gdS (RetAt Tryd.prog Tryd.f4 (Rsh.one (none)) none ty4) (bodyAt (bodyOf Tryd.f4) [0]) LS4_5 :=
  loop_run (ctxOkP pgokPmC0 fvok_none gokGmD0 []) (L := lookL [(11, LS4_11), (8, LS4_8)]) (loops_of (l := [bodyAt (bodyOf Tryd.f4) [0, 0]]) (by kernel_rfl) (loops_cons (s0 := LS4_8) (by kernel_rfl) lo4_8 (loops_nil))) sa4_5 va4_5 so4_5
end Go.Proofs.YtjdaplmlmmnokaaDoor.Sy
namespace Go.Proofs.YtjdaplmlmmnokaaDoor.Sp
open Go Go.RowKit Sy
def K4_1 (x : (Int × Int × Int × Int) × (Int × Int × Int) × Int × Int × Int) :=
  (Sp.G4_5 ((IntKind.i64.wrap ((2 : Int) + (IntKind.i64.wrap (Int.tmod (IntKind.u64.wrap x.1.2.2.2) (31 : Int))))), (IntKind.i64.wrap (Int.tmod (IntKind.u64.wrap x.1.1) (IntKind.u64.wrap (IntKind.i64.wrap ((2 : Int) + (IntKind.i64.wrap (Int.tmod (IntKind.u64.wrap x.1.2.2.2) (31 : Int)))))))), x.2.1, (IntKind.u32.wrap ((BitVec.ofInt IntKind.u32.bits x.2.1.1 ||| BitVec.ofInt IntKind.u32.bits x.2.2.1).toNat : Int)), (IntKind.u32.wrap ((BitVec.ofInt IntKind.u32.bits x.2.1.2.1 ||| BitVec.ofInt IntKind.u32.bits x.2.2.2.1).toNat : Int)), (IntKind.u32.wrap ((BitVec.ofInt IntKind.u32.bits x.2.1.2.2 ||| BitVec.ofInt IntKind.u32.bits x.2.2.2.2).toNat : Int))) (0 : Int))
def F4 (x : (Int × Int × Int × Int) × (Int × Int × Int) × Int × Int × Int) : Bool :=
  Sp.optR (Sp.R4_5 ((IntKind.i64.wrap ((2 : Int) + (IntKind.i64.wrap (Int.tmod (IntKind.u64.wrap x.1.2.2.2) (31 : Int))))), (IntKind.i64.wrap (Int.tmod (IntKind.u64.wrap x.1.1) (IntKind.u64.wrap (IntKind.i64.wrap ((2 : Int) + (IntKind.i64.wrap (Int.tmod (IntKind.u64.wrap x.1.2.2.2) (31 : Int)))))))), x.2.1, (IntKind.u32.wrap ((BitVec.ofInt IntKind.u32.bits x.2.1.1 ||| BitVec.ofInt IntKind.u32.bits x.2.2.1).toNat : Int)), (IntKind.u32.wrap ((BitVec.ofInt IntKind.u32.bits x.2.1.2.1 ||| BitVec.ofInt IntKind.u32.bits x.2.2.2.1).toNat : Int)), (IntKind.u32.wrap ((BitVec.ofInt IntKind.u32.bits x.2.1.2.2 ||| BitVec.ofInt IntKind.u32.bits x.2.2.2.2).toNat : Int))) (0 : Int)) (fun y => y)
  ((Sp.F11 ()))
end Go.Proofs.YtjdaplmlmmnokaaDoor.Sp
namespace Go.Proofs.YtjdaplmlmmnokaaDoor.Sy
def ct4 : Ct := { p := (Ty.pair ty28 (Ty.pair ty26 ty26)), psh := [some 4, some 3, some 3], r := ty4, rsh := (Rsh.one (none)), pre := none, fresh := none, F := Sp.F4 }
theorem va4 (x : (Ty.pair ty28 (Ty.pair ty26 ty26)).den) : ((evFn (ctxP PmC0 none GmD0 []) Tryd.f4 (Ty.pair ty28 (Ty.pair ty26 ty26)) [some 4, some 3, some 3] (Rsh.one (none)) none ty4 (lookL [(11, LS4_11), (8, LS4_8), (5, LS4_5)]) x)).val (fun y => y) (Ty.dflt ty4) = Sp.F4 x := by kernel_rfl
theorem se4 (x : (Ty.pair ty28 (Ty.pair ty26 ty26)).den) : ((evFn (ctxP PmC0 none GmD0 []) Tryd.f4 (Ty.pair ty28 (Ty.pair ty26 ty26)) [some 4, some 3, some 3] (Rsh.one (none)) none ty4 (lookL [(11, LS4_11), (8, LS4_8), (5, LS4_5)]) x)).safe = ((((31 : Int) ≠ 0) ∧ (((IntKind.u64.wrap (IntKind.i64.wrap ((2 : Int) + (IntKind.i64.wrap (Int.tmod (IntKind.u64.wrap x.1.2.2.2) (31 : Int)))))) ≠ 0) ∧ ((Sp.in4_5 ((IntKind.i64.wrap ((2 : Int) + (IntKind.i64.wrap (Int.tmod (IntKind.u64.wrap x.1.2.2.2) (31 : Int))))), (IntKind.i64.wrap (Int.tmod (IntKind.u64.wrap x.1.1) (IntKind.u64.wrap (IntKind.i64.wrap ((2 : Int) + (IntKind.i64.wrap (Int.tmod (IntKind.u64.wrap x.1.2.2.2) (31 : Int)))))))), x.2.1, (IntKind.u32.wrap ((BitVec.ofInt IntKind.u32.bits x.2.1.1 ||| BitVec.ofInt IntKind.u32.bits x.2.2.1).toNat : Int)), (IntKind.u32.wrap ((BitVec.ofInt IntKind.u32.bits x.2.1.2.1 ||| BitVec.ofInt IntKind.u32.bits x.2.2.2.1).toNat : Int)), (IntKind.u32.wrap ((BitVec.ofInt IntKind.u32.bits x.2.1.2.2 ||| BitVec.ofInt IntKind.u32.bits x.2.2.2.2).toNat : Int))) (0 : Int)) ∧ ((Sp.R4_5 ((IntKind.i64.wrap ((2 : Int) + (IntKind.i64.wrap (Int.tmod (IntKind.u64.wrap x.1.2.2.2) (31 : Int))))), (IntKind.i64.wrap (Int.tmod (IntKind.u64.wrap x.1.1) (IntKind.u64.wrap (IntKind.i64.wrap ((2 : Int) + (IntKind.i64.wrap (Int.tmod (IntKind.u64.wrap x.1.2.2.2) (31 : Int)))))))), x.2.1, (IntKind.u32.wrap ((BitVec.ofInt IntKind.u32.bits x.2.1.1 ||| BitVec.ofInt IntKind.u32.bits x.2.2.1).toNat : Int)), (IntKind.u32.wrap ((BitVec.ofInt IntKind.u32.bits x.2.1.2.1 ||| BitVec.ofInt IntKind.u32.bits x.2.2.2.1).toNat : Int)), (IntKind.u32.wrap ((BitVec.ofInt IntKind.u32.bits x.2.1.2.2 ||| BitVec.ofInt IntKind.u32.bits x.2.2.2.2).toNat : Int))) (0 : Int)) = none → True))))) := by kernel_rfl
theorem sa4 (x : (Ty.pair ty28 (Ty.pair ty26 ty26)).den) (fx : Fit (Ty.pair ty28 (Ty.pair ty26 ty26)) x) : SafeW ((evFn (ctxP PmC0 none GmD0 []) Tryd.f4 (Ty.pair ty28 (Ty.pair ty26 ty26)) [some 4, some 3, some 3] (Rsh.one (none)) none ty4 (lookL [(11, LS4_11), (8, LS4_8), (5, LS4_5)]) x)) := by
  refine ⟨?_⟩
  rw [se4]
  try dsimp only [Ty.den] at *
  simp only [Fit, maxLen] at fx
  simp only [Sp.in4_11, Sp.in4_8, Sp.in4_5, IntKind.wrap_i64, IntKind.wrap_u8, IntKind.wrap_u32, IntKind.wrap_u64, Sp.tmod_lit, Sp.tdiv_lit, bne_eq_false_iff_eq, Int.natCast_inj, setE, copyL, sliceL, zrow, List.length_append, List.length_cons, List.length_nil, List.length_set, List.length_replicate, List.length_take, List.length_drop, decide_eq_true_eq, decide_eq_false_iff_not, Bool.or_eq_true, Bool.and_eq_true, Bool.or_eq_false_iff, Bool.and_eq_false_iff, Bool.not_eq_true', Bool.not_eq_false', Bool.not_eq_true, Bool.not_eq_false, beq_iff_eq, beq_eq_false_iff_ne, bne_iff_ne, ne_eq, implies_true, and_true, true_and] at *
  all_goals ((repeat' (first | exact trivial | apply And.intro | intro _)) <;> first | trivial | omega | exact Sp.tmod_nn (by omega) | exact Sp.tmod_lt (by omega) (by omega))
theorem ok4 : CtOk Tryd.prog gdS 4 ct4 :=
  fn_okU (ctxOkP pgokPmC0 fvok_none gokGmD0 []) rfl Tryd.func4 (p := (Ty.pair ty28 (Ty.pair ty26 ty26))) (psh := [some 4, some 3, some 3]) (r := ty4) (rsh := (Rsh.one (none))) (pre := none) (fresh := none) (F := Sp.F4) (L := (lookL [(11, LS4_11), (8, LS4_8), (5, LS4_5)])) (c := bodyOf Tryd.f4) (dflt := Ty.dflt ty4) rfl (loops_of (l := [bodyAt (bodyOf Tryd.f4) [0]]) (by kernel_rfl) (loops_cons (s0 := LS4_5) (by kernel_rfl) lo4_5 (loops_nil)))
    (safe_no @sa4) va4
/-! overlaylaw21.CostMirrors -/
end Go.Proofs.YtjdaplmlmmnokaaDoor.Sy
namespace Go.Proofs.YtjdaplmlmmnokaaDoor.Sp
open Go Go.RowKit Sy
def in5_4 (k : (Int × Int × Int × Int)) (x : (Int × Int × Int × Int)) : Prop := (0 : Int) ≤ x.1 ∧ k.1 ≤ 40
def mu5_4 (k : (Int × Int × Int × Int)) (x : (Int × Int × Int × Int)) : Nat := (k.1 - x.1).toNat
def st5_4 (k : (Int × Int × Int × Int)) (x : (Int × Int × Int × Int)) : BOut (Int × Int × Int × Int) (Int × Int × Int × Int) (Bool) :=
  bif (decide (x.1 < k.1)) then
    BOut.next k ((IntKind.i64.wrap (x.1 + (1 : Int))), (IntKind.u32.wrap ((BitVec.ofInt IntKind.u32.bits x.2.1 ||| BitVec.ofInt IntKind.u32.bits (IntKind.u32.wrap ((IntKind.u32.wrap ((BitVec.ofInt IntKind.u32.bits (Int.fdiv k.2.1 (2 ^ (min ((IntKind.u64.wrap x.1)).toNat IntKind.u32.bits))) &&& BitVec.ofInt IntKind.u32.bits (1 : Int)).toNat : Int)) * 2 ^ (min ((IntKind.u64.wrap (IntKind.i64.wrap ((IntKind.i64.wrap (k.1 - (1 : Int))) - x.1)))).toNat IntKind.u32.bits)))).toNat : Int)), (IntKind.u32.wrap ((BitVec.ofInt IntKind.u32.bits x.2.2.1 ||| BitVec.ofInt IntKind.u32.bits (IntKind.u32.wrap ((IntKind.u32.wrap ((BitVec.ofInt IntKind.u32.bits (Int.fdiv k.2.2.2 (2 ^ (min ((IntKind.u64.wrap x.1)).toNat IntKind.u32.bits))) &&& BitVec.ofInt IntKind.u32.bits (1 : Int)).toNat : Int)) * 2 ^ (min ((IntKind.u64.wrap (IntKind.i64.wrap ((IntKind.i64.wrap (k.1 - (1 : Int))) - x.1)))).toNat IntKind.u32.bits)))).toNat : Int)), (IntKind.u32.wrap ((BitVec.ofInt IntKind.u32.bits x.2.2.2 ||| BitVec.ofInt IntKind.u32.bits (IntKind.u32.wrap ((IntKind.u32.wrap ((BitVec.ofInt IntKind.u32.bits (Int.fdiv k.2.2.1 (2 ^ (min ((IntKind.u64.wrap x.1)).toNat IntKind.u32.bits))) &&& BitVec.ofInt IntKind.u32.bits (1 : Int)).toNat : Int)) * 2 ^ (min ((IntKind.u64.wrap (IntKind.i64.wrap ((IntKind.i64.wrap (k.1 - (1 : Int))) - x.1)))).toNat IntKind.u32.bits)))).toNat : Int)))
  else
    BOut.brk k x
def G5_4 (k : (Int × Int × Int × Int)) (x : (Int × Int × Int × Int)) : (Int × Int × Int × Int) := endOf st5_4 k (Nat.succ (mu5_4 k x)) x
end Go.Proofs.YtjdaplmlmmnokaaDoor.Sp
namespace Go.Proofs.YtjdaplmlmmnokaaDoor.Sy
def LS5_4 : LS ty4.den := mkLS (Ty.pair ty3 ty26) (Ty.pair ty3 ty26)  [(7, none)] [(4, 3)] [(9, none)] [(8, 3)] [] [] [(4, 4), (8, 8)] 0 false Sp.in5_4 Sp.st5_4 Sp.mu5_4
end Go.Proofs.YtjdaplmlmmnokaaDoor.Sy
namespace Go.Proofs.YtjdaplmlmmnokaaDoor.Sp
open Go Go.RowKit Sy
def in5_16 (k : (Int × (List Int) × Int × Int × Int × (Int × Int × Int) × Int × Int × Int)) (x : (Int)) : Prop := (1 : Int) ≤ x ∧ k.2.1.length = 3 ∧ 0 ≤ k.2.2.2.2.1 ∧ k.2.2.2.2.1 ≤ 2
def mu5_16 (k : (Int × (List Int) × Int × Int × Int × (Int × Int × Int) × Int × Int × Int)) (x : (Int)) : Nat := ((2 : Int) - x + 1).toNat
def st5_16 (k : (Int × (List Int) × Int × Int × Int × (Int × Int × Int) × Int × Int × Int)) (x : (Int)) : BOut (Int × (List Int) × Int × Int × Int × (Int × Int × Int) × Int × Int × Int) (Int) (Bool) :=
  bif (decide (x ≤ (2 : Int))) then
    (bif ((Sp.F7 (k.1, k.2.2.1, k.2.2.2.2.1, k.2.2.2.2.2.1, k.2.2.2.1, x)) != (Sp.F7 (k.1, (IntKind.i64.wrap ((IntKind.i64.wrap (k.1 - (1 : Int))) - k.2.2.1)), (Sp.nthT k.2.1 k.2.2.2.2.1), k.2.2.2.2.2.2, (IntKind.i64.wrap ((IntKind.i64.wrap (k.1 - (1 : Int))) - k.2.2.2.1)), (Sp.nthT k.2.1 x)))) then
      BOut.ret false
    else
      BOut.next k (IntKind.i64.wrap (x + (1 : Int))))
  else
    BOut.brk k x
def G5_16 (k : (Int × (List Int) × Int × Int × Int × (Int × Int × Int) × Int × Int × Int)) (x : (Int)) : (Int) := endOf st5_16 k (Nat.succ (mu5_16 k x)) x
def R5_16 (k : (Int × (List Int) × Int × Int × Int × (Int × Int × Int) × Int × Int × Int)) (x : (Int)) : Option (Bool) := retOf st5_16 k (Nat.succ (mu5_16 k x)) x
end Go.Proofs.YtjdaplmlmmnokaaDoor.Sp
namespace Go.Proofs.YtjdaplmlmmnokaaDoor.Sy
def LS5_16 : LS ty4.den := mkLS (Ty.pair ty3 (Ty.pair ty35 (Ty.pair ty3 (Ty.pair ty3 (Ty.pair ty3 (Ty.pair ty26 ty26)))))) ty3  [(7, none), (11, none), (12, none), (13, none), (14, none)] [(4, 3), (8, 3)] [(15, none)] [] [] [] [(4, 4), (8, 8)] 4 true Sp.in5_16 Sp.st5_16 Sp.mu5_16
end Go.Proofs.YtjdaplmlmmnokaaDoor.Sy
namespace Go.Proofs.YtjdaplmlmmnokaaDoor.Sp
open Go Go.RowKit Sy
def in5_13 (k : (Int × (List Int) × Int × Int × (Int × Int × Int) × Int × Int × Int)) (x : (Int)) : Prop := (0 : Int) ≤ x ∧ k.2.1.length = 3
def mu5_13 (k : (Int × (List Int) × Int × Int × (Int × Int × Int) × Int × Int × Int)) (x : (Int)) : Nat := ((3 : Int) - x).toNat
def st5_13 (k : (Int × (List Int) × Int × Int × (Int × Int × Int) × Int × Int × Int)) (x : (Int)) : BOut (Int × (List Int) × Int × Int × (Int × Int × Int) × Int × Int × Int) (Int) (Bool) :=
  bif (decide (x < (3 : Int))) then
    (Sp.optR (Sp.R5_16 (k.1, k.2.1, k.2.2.1, k.2.2.2.1, x, k.2.2.2.2) (1 : Int)) BOut.ret
    (BOut.next k (IntKind.i64.wrap (x + (1 : Int)))))
  else
    BOut.brk k x
def G5_13 (k : (Int × (List Int) × Int × Int × (Int × Int × Int) × Int × Int × Int)) (x : (Int)) : (Int) := endOf st5_13 k (Nat.succ (mu5_13 k x)) x
def R5_13 (k : (Int × (List Int) × Int × Int × (Int × Int × Int) × Int × Int × Int)) (x : (Int)) : Option (Bool) := retOf st5_13 k (Nat.succ (mu5_13 k x)) x
end Go.Proofs.YtjdaplmlmmnokaaDoor.Sp
namespace Go.Proofs.YtjdaplmlmmnokaaDoor.Sy
def LS5_13 : LS ty4.den := mkLS (Ty.pair ty3 (Ty.pair ty35 (Ty.pair ty3 (Ty.pair ty3 (Ty.pair ty26 ty26))))) ty3  [(7, none), (11, none), (12, none), (13, none)] [(4, 3), (8, 3)] [(14, none)] [] [] [] [(4, 4), (8, 8)] 2 true Sp.in5_13 Sp.st5_13 Sp.mu5_13
theorem va5_4 (k : (Ty.pair ty3 ty26).den) (x : (Ty.pair ty3 ty26).den) : ((evCode (ctxP PmC0 none GmD0 []) (lookL []) (bodyAt (bodyOf Tryd.f5) [0]) (tmpl LS5_4 (enc (Ty.pair ty3 ty26) k) (enc (Ty.pair ty3 ty26) x)) (evRound LS5_4 (evRet (ctxP PmC0 none GmD0 []) Tryd.f5 (Rsh.one (none)) none ty4 .ret)))).val BOut.ret (BOut.brk (Ty.dflt (Ty.pair ty3 ty26)) (Ty.dflt (Ty.pair ty3 ty26))) = Sp.st5_4 k x := by kernel_rfl
theorem se5_4 (k : (Ty.pair ty3 ty26).den) (x : (Ty.pair ty3 ty26).den) : ((evCode (ctxP PmC0 none GmD0 []) (lookL []) (bodyAt (bodyOf Tryd.f5) [0]) (tmpl LS5_4 (enc (Ty.pair ty3 ty26) k) (enc (Ty.pair ty3 ty26) x)) (evRound LS5_4 (evRet (ctxP PmC0 none GmD0 []) Tryd.f5 (Rsh.one (none)) none ty4 .ret)))).safe = ((((decide (x.1 < k.1)) = true → ((0 ≤ (IntKind.u64.wrap x.1)) ∧ ((0 ≤ (IntKind.u64.wrap (IntKind.i64.wrap ((IntKind.i64.wrap (k.1 - (1 : Int))) - x.1)))) ∧ ((0 ≤ (IntKind.u64.wrap x.1)) ∧ ((0 ≤ (IntKind.u64.wrap (IntKind.i64.wrap ((IntKind.i64.wrap (k.1 - (1 : Int))) - x.1)))) ∧ ((0 ≤ (IntKind.u64.wrap x.1)) ∧ ((0 ≤ (IntKind.u64.wrap (IntKind.i64.wrap ((IntKind.i64.wrap (k.1 - (1 : Int))) - x.1)))) ∧ True))))))) ∧ ((decide (x.1 < k.1)) = false → True))) := by kernel_rfl
set_option maxHeartbeats 4000000 in
theorem sa5_4 (k : (Ty.pair ty3 ty26).den) (x : (Ty.pair ty3 ty26).den) (fk : Fit (Ty.pair ty3 ty26) k) (fx : Fit (Ty.pair ty3 ty26) x) (h : Sp.in5_4 k x) : SafeW ((evCode (ctxP PmC0 none GmD0 []) (lookL []) (bodyAt (bodyOf Tryd.f5) [0]) (tmpl LS5_4 (enc (Ty.pair ty3 ty26) k) (enc (Ty.pair ty3 ty26) x)) (evRound LS5_4 (evRet (ctxP PmC0 none GmD0 []) Tryd.f5 (Rsh.one (none)) none ty4 .ret)))) := by
  refine ⟨?_⟩
  rw [se5_4]
  try dsimp only [Ty.den] at *
  simp only [Sp.in5_4, Fit, maxLen] at h fk fx
  simp only [IntKind.wrap_i64, IntKind.wrap_u8, IntKind.wrap_u32, IntKind.wrap_u64, Sp.tmod_lit, Sp.tdiv_lit, bne_eq_false_iff_eq, Int.natCast_inj, setE, copyL, sliceL, zrow, List.length_append, List.length_cons, List.length_nil, List.length_set, List.length_replicate, List.length_take, List.length_drop, decide_eq_true_eq, decide_eq_false_iff_not, Bool.or_eq_true, Bool.and_eq_true, Bool.or_eq_false_iff, Bool.and_eq_false_iff, Bool.not_eq_true', Bool.not_eq_false', Bool.not_eq_true, Bool.not_eq_false, beq_iff_eq, beq_eq_false_iff_ne, bne_iff_ne, ne_eq, implies_true, and_true, true_and] at *
  all_goals ((repeat' (first | exact trivial | apply And.intro | intro _)) <;> first | trivial | omega | exact Sp.tmod_nn (by omega) | exact Sp.tmod_lt (by omega) (by omega))
set_option maxHeartbeats 4000000 in
theorem so5_4 (k : (Ty.pair ty3 ty26).den) (x : (Ty.pair ty3 ty26).den) (fk : Fit (Ty.pair ty3 ty26) k) (h : Sp.in5_4 k x) : StepOk false Sp.in5_4 Sp.mu5_4 k x (Sp.st5_4 k x) := by
  try dsimp only [Ty.den] at *
  simp only [Sp.in5_4, Fit, maxLen] at h fk
  unfold Sp.st5_4
  (repeat' (first | exact rfl | (refine StepOk.cnd (fun hc => ?_) (fun hc => ?_) <;> (try simp only [IntKind.wrap_i64, IntKind.wrap_u8, IntKind.wrap_u32, IntKind.wrap_u64, bne_eq_false_iff_eq, Int.natCast_inj, setE, copyL, sliceL, zrow, List.length_append, List.length_cons, List.length_nil, List.length_set, List.length_replicate, List.length_take, List.length_drop, decide_eq_true_eq, decide_eq_false_iff_not, Bool.or_eq_true, Bool.and_eq_true, Bool.or_eq_false_iff, Bool.and_eq_false_iff, Bool.not_eq_true', Bool.not_eq_false', Bool.not_eq_true, Bool.not_eq_false, beq_iff_eq, beq_eq_false_iff_ne, bne_iff_ne, ne_eq] at hc)) | refine StepOk.opt (fun _ => ?_))) <;> (first | exact rfl | (refine ⟨rfl, ?_, ?_⟩ <;> simp only [Sp.in5_4, Sp.mu5_4, IntKind.wrap_i64, IntKind.wrap_u8, IntKind.wrap_u32, IntKind.wrap_u64, Sp.tmod_lit, Sp.tdiv_lit, bne_eq_false_iff_eq, Int.natCast_inj, setE, copyL, sliceL, zrow, List.length_append, List.length_cons, List.length_nil, List.length_set, List.length_replicate, List.length_take, List.length_drop, decide_eq_true_eq, decide_eq_false_iff_not, Bool.or_eq_true, Bool.and_eq_true, Bool.or_eq_false_iff, Bool.and_eq_false_iff, Bool.not_eq_true', Bool.not_eq_false', Bool.not_eq_true, Bool.not_eq_false, beq_iff_eq, beq_eq_false_iff_ne, bne_iff_ne, ne_eq] <;> first | omega | (and_intros <;> first | omega | exact h.1 | exact h.2 | exact h.2.1 | exact h.2.2 | exact h.2.2.1 | exact h.2.2.2 | exact h.2.2.2.1 | exact h.2.2.2.2 | exact h.2.2.2.2.1 | exact h.2.2.2.2.2 | exact h.2.2.2.2.2.1 | exact h.2.2.2.2.2.2)))
theorem lo5_4 : LoopOk Tryd.prog gdS (RetAt Tryd.prog Tryd.f5 (Rsh.one (none)) none ty4) (bodyAt (bodyOf Tryd.f5) [0]) LS5_4 :=
  loop_run (ctxOkP pgokPmC0 fvok_none gokGmD0 []) (L := lookL []) (loops_of (l := []) (by kernel_rfl) (loops_nil)) sa5_4 va5_4 so5_4
theorem va5_16 (k : (Ty.pair ty3 (Ty.pair ty35 (Ty.pair ty3 (Ty.pair ty3 (Ty.pair ty3 (Ty.pair ty26 ty26)))))).den) (x : ty3.den) : ((evCode (ctxP PmC0 none GmD0 []) (lookL [(4, LS5_4)]) (bodyAt (bodyOf Tryd.f5) [1, 0]) (tmpl LS5_16 (enc (Ty.pair ty3 (Ty.pair ty35 (Ty.pair ty3 (Ty.pair ty3 (Ty.pair ty3 (Ty.pair ty26 ty26)))))) k) (enc ty3 x)) (evRound LS5_16 (evRet (ctxP PmC0 none GmD0 []) Tryd.f5 (Rsh.one (none)) none ty4 .ret)))).val BOut.ret (BOut.brk (Ty.dflt (Ty.pair ty3 (Ty.pair ty35 (Ty.pair ty3 (Ty.pair ty3 (Ty.pair ty3 (Ty.pair ty26 ty26))))))) (Ty.dflt ty3)) = Sp.st5_16 k x := by kernel_rfl
theorem se5_16 (k : (Ty.pair ty3 (Ty.pair ty35 (Ty.pair ty3 (Ty.pair ty3 (Ty.pair ty3 (Ty.pair ty26 ty26)))))).den) (x : ty3.den) : ((evCode (ctxP PmC0 none GmD0 []) (lookL [(4, LS5_4)]) (bodyAt (bodyOf Tryd.f5) [1, 0]) (tmpl LS5_16 (enc (Ty.pair ty3 (Ty.pair ty35 (Ty.pair ty3 (Ty.pair ty3 (Ty.pair ty3 (Ty.pair ty26 ty26)))))) k) (enc ty3 x)) (evRound LS5_16 (evRet (ctxP PmC0 none GmD0 []) Tryd.f5 (Rsh.one (none)) none ty4 .ret)))).safe = ((((decide (x ≤ (2 : Int))) = true → ((0 ≤ k.2.2.2.2.1 ∧ k.2.2.2.2.1 < ((k.2.1).length : Int)) ∧ ((0 ≤ x ∧ x < ((k.2.1).length : Int)) ∧ ((((Sp.F7 (k.1, k.2.2.1, k.2.2.2.2.1, k.2.2.2.2.2.1, k.2.2.2.1, x)) != (Sp.F7 (k.1, (IntKind.i64.wrap ((IntKind.i64.wrap (k.1 - (1 : Int))) - k.2.2.1)), (Sp.nthT k.2.1 k.2.2.2.2.1), k.2.2.2.2.2.2, (IntKind.i64.wrap ((IntKind.i64.wrap (k.1 - (1 : Int))) - k.2.2.2.1)), (Sp.nthT k.2.1 x)))) = true → True) ∧ (((Sp.F7 (k.1, k.2.2.1, k.2.2.2.2.1, k.2.2.2.2.2.1, k.2.2.2.1, x)) != (Sp.F7 (k.1, (IntKind.i64.wrap ((IntKind.i64.wrap (k.1 - (1 : Int))) - k.2.2.1)), (Sp.nthT k.2.1 k.2.2.2.2.1), k.2.2.2.2.2.2, (IntKind.i64.wrap ((IntKind.i64.wrap (k.1 - (1 : Int))) - k.2.2.2.1)), (Sp.nthT k.2.1 x)))) = false → True))))) ∧ ((decide (x ≤ (2 : Int))) = false → True))) := by kernel_rfl
set_option maxHeartbeats 4000000 in
theorem sa5_16 (k : (Ty.pair ty3 (Ty.pair ty35 (Ty.pair ty3 (Ty.pair ty3 (Ty.pair ty3 (Ty.pair ty26 ty26)))))).den) (x : ty3.den) (fk : Fit (Ty.pair ty3 (Ty.pair ty35 (Ty.pair ty3 (Ty.pair ty3 (Ty.pair ty3 (Ty.pair ty26 ty26)))))) k) (fx : Fit ty3 x) (h : Sp.in5_16 k x) : SafeW ((evCode (ctxP PmC0 none GmD0 []) (lookL [(4, LS5_4)]) (bodyAt (bodyOf Tryd.f5) [1, 0]) (tmpl LS5_16 (enc (Ty.pair ty3 (Ty.pair ty35 (Ty.pair ty3 (Ty.pair ty3 (Ty.pair ty3 (Ty.pair ty26 ty26)))))) k) (enc ty3 x)) (evRound LS5_16 (evRet (ctxP PmC0 none GmD0 []) Tryd.f5 (Rsh.one (none)) none ty4 .ret)))) := by
  refine ⟨?_⟩
  rw [se5_16]
  try dsimp only [Ty.den] at *
  simp only [Sp.in5_16, Fit, maxLen] at h fk fx
  simp only [IntKind.wrap_i64, IntKind.wrap_u8, IntKind.wrap_u32, IntKind.wrap_u64, Sp.tmod_lit, Sp.tdiv_lit, bne_eq_false_iff_eq, Int.natCast_inj, setE, copyL, sliceL, zrow, List.length_append, List.length_cons, List.length_nil, List.length_set, List.length_replicate, List.length_take, List.length_drop, decide_eq_true_eq, decide_eq_false_iff_not, Bool.or_eq_true, Bool.and_eq_true, Bool.or_eq_false_iff, Bool.and_eq_false_iff, Bool.not_eq_true', Bool.not_eq_false', Bool.not_eq_true, Bool.not_eq_false, beq_iff_eq, beq_eq_false_iff_ne, bne_iff_ne, ne_eq, implies_true, and_true, true_and] at *
  all_goals ((repeat' (first | exact trivial | apply And.intro | intro _)) <;> first | trivial | omega | exact Sp.tmod_nn (by omega) | exact Sp.tmod_lt (by omega) (by omega))
set_option maxHeartbeats 4000000 in
theorem so5_16 (k : (Ty.pair ty3 (Ty.pair ty35 (Ty.pair ty3 (Ty.pair ty3 (Ty.pair ty3 (Ty.pair ty26 ty26)))))).den) (x : ty3.den) (fk : Fit (Ty.pair ty3 (Ty.pair ty35 (Ty.pair ty3 (Ty.pair ty3 (Ty.pair ty3 (Ty.pair ty26 ty26)))))) k) (h : Sp.in5_16 k x) : StepOk true Sp.in5_16 Sp.mu5_16 k x (Sp.st5_16 k x) := by
  try dsimp only [Ty.den] at *
  simp only [Sp.in5_16, Fit, maxLen] at h fk
  unfold Sp.st5_16
  (repeat' (first | exact rfl | (refine StepOk.cnd (fun hc => ?_) (fun hc => ?_) <;> (try simp only [IntKind.wrap_i64, IntKind.wrap_u8, IntKind.wrap_u32, IntKind.wrap_u64, bne_eq_false_iff_eq, Int.natCast_inj, setE, copyL, sliceL, zrow, List.length_append, List.length_cons, List.length_nil, List.length_set, List.length_replicate, List.length_take, List.length_drop, decide_eq_true_eq, decide_eq_false_iff_not, Bool.or_eq_true, Bool.and_eq_true, Bool.or_eq_false_iff, Bool.and_eq_false_iff, Bool.not_eq_true', Bool.not_eq_false', Bool.not_eq_true, Bool.not_eq_false, beq_iff_eq, beq_eq_false_iff_ne, bne_iff_ne, ne_eq] at hc)) | refine StepOk.opt (fun _ => ?_))) <;> (first | exact rfl | (refine ⟨rfl, ?_, ?_⟩ <;> simp only [Sp.in5_16, Sp.mu5_16, IntKind.wrap_i64, IntKind.wrap_u8, IntKind.wrap_u32, IntKind.wrap_u64, Sp.tmod_lit, Sp.tdiv_lit, bne_eq_false_iff_eq, Int.natCast_inj, setE, copyL, sliceL, zrow, List.length_append, List.length_cons, List.length_nil, List.length_set, List.length_replicate, List.length_take, List.length_drop, decide_eq_true_eq, decide_eq_false_iff_not, Bool.or_eq_true, Bool.and_eq_true, Bool.or_eq_false_iff, Bool.and_eq_false_iff, Bool.not_eq_true', Bool.not_eq_false', Bool.not_eq_true, Bool.not_eq_false, beq_iff_eq, beq_eq_false_iff_ne, bne_iff_ne, ne_eq] <;> first | omega | (and_intros <;> first | omega | exact h.1 | exact h.2 | exact h.2.1 | exact h.2.2 | exact h.2.2.1 | exact h.2.2.2 | exact h.2.2.2.1 | exact h.2.2.2.2 | exact h.2.2.2.2.1 | exact h.2.2.2.2.2 | exact h.2.2.2.2.2.1 | exact h.2.2.2.2.2.2)))
theorem lo5_16 : LoopOk Tryd.prog gdS (RetAt Tryd.prog Tryd.f5 (Rsh.one (none)) none ty4) (bodyAt (bodyOf Tryd.f5) [1, 0]) LS5_16 :=
  loop_run (ctxOkP pgokPmC0 fvok_none gokGmD0 []) (L := lookL [(4, LS5_4)]) (loops_of (l := []) (by kernel_rfl) (loops_nil)) sa5_16 va5_16 so5_16
theorem va5_13 (k : (Ty.pair ty3 (Ty.pair ty35 (Ty.pair ty3 (Ty.pair ty3 (Ty.pair ty26 ty26))))).den) (x : ty3.den) : ((evCode (ctxP PmC0 none GmD0 []) (lookL [(4, LS5_4), (16, LS5_16)]) (bodyAt (bodyOf Tryd.f5) [1]) (tmpl LS5_13 (enc (Ty.pair ty3 (Ty.pair ty35 (Ty.pair ty3 (Ty.pair ty3 (Ty.pair ty26 ty26))))) k) (enc ty3 x)) (evRound LS5_13 (evRet (ctxP PmC0 none GmD0 []) Tryd.f5 (Rsh.one (none)) none ty4 .ret)))).val BOut.ret (BOut.brk (Ty.dflt (Ty.pair ty3 (Ty.pair ty35 (Ty.pair ty3 (Ty.pair ty3 (Ty.pair ty26 ty26)))))) (Ty.dflt ty3)) = Sp.st5_13 k x := by kernel_rfl
theorem se5_13 (k : (Ty.pair ty3 (Ty.pair ty35 (Ty.pair ty3 (Ty.pair ty3 (Ty.pair ty26 ty26))))).den) (x : ty3.den) : ((evCode (ctxP PmC0 none GmD0 []) (lookL [(4, LS5_4), (16, LS5_16)]) (bodyAt (bodyOf Tryd.f5) [1]) (tmpl LS5_13 (enc (Ty.pair ty3 (Ty.pair ty35 (Ty.pair ty3 (Ty.pair ty3 (Ty.pair ty26 ty26))))) k) (enc ty3 x)) (evRound LS5_13 (evRet (ctxP PmC0 none GmD0 []) Tryd.f5 (Rsh.one (none)) none ty4 .ret)))).safe = ((((decide (x < (3 : Int))) = true → ((Sp.in5_16 (k.1, k.2.1, k.2.2.1, k.2.2.2.1, x, k.2.2.2.2) (1 : Int)) ∧ ((Sp.R5_16 (k.1, k.2.1, k.2.2.1, k.2.2.2.1, x, k.2.2.2.2) (1 : Int)) = none → True))) ∧ ((decide (x < (3 : Int))) = false → True))) := by kernel_rfl
set_option maxHeartbeats 4000000 in
theorem sa5_13 (k : (Ty.pair ty3 (Ty.pair ty35 (Ty.pair ty3 (Ty.pair ty3 (Ty.pair ty26 ty26))))).den) (x : ty3.den) (fk : Fit (Ty.pair ty3 (Ty.pair ty35 (Ty.pair ty3 (Ty.pair ty3 (Ty.pair ty26 ty26))))) k) (fx : Fit ty3 x) (h : Sp.in5_13 k x) : SafeW ((evCode (ctxP PmC0 none GmD0 []) (lookL [(4, LS5_4), (16, LS5_16)]) (bodyAt (bodyOf Tryd.f5) [1]) (tmpl LS5_13 (enc (Ty.pair ty3 (Ty.pair ty35 (Ty.pair ty3 (Ty.pair ty3 (Ty.pair ty26 ty26))))) k) (enc ty3 x)) (evRound LS5_13 (evRet (ctxP PmC0 none GmD0 []) Tryd.f5 (Rsh.one (none)) none ty4 .ret)))) := by
  refine ⟨?_⟩
  rw [se5_13]
  try dsimp only [Ty.den] at *
  simp only [Sp.in5_13, Fit, maxLen] at h fk fx
  simp only [Sp.in5_16, IntKind.wrap_i64, IntKind.wrap_u8, IntKind.wrap_u32, IntKind.wrap_u64, Sp.tmod_lit, Sp.tdiv_lit, bne_eq_false_iff_eq, Int.natCast_inj, setE, copyL, sliceL, zrow, List.length_append, List.length_cons, List.length_nil, List.length_set, List.length_replicate, List.length_take, List.length_drop, decide_eq_true_eq, decide_eq_false_iff_not, Bool.or_eq_true, Bool.and_eq_true, Bool.or_eq_false_iff, Bool.and_eq_false_iff, Bool.not_eq_true', Bool.not_eq_false', Bool.not_eq_true, Bool.not_eq_false, beq_iff_eq, beq_eq_false_iff_ne, bne_iff_ne, ne_eq, implies_true, and_true, true_and] at *
  all_goals ((repeat' (first | exact trivial | apply And.intro | intro _)) <;> first | trivial | omega | exact Sp.tmod_nn (by omega) | exact Sp.tmod_lt (by omega) (by omega))
set_option maxHeartbeats 4000000 in
theorem so5_13 (k : (Ty.pair ty3 (Ty.pair ty35 (Ty.pair ty3 (Ty.pair ty3 (Ty.pair ty26 ty26))))).den) (x : ty3.den) (fk : Fit (Ty.pair ty3 (Ty.pair ty35 (Ty.pair ty3 (Ty.pair ty3 (Ty.pair ty26 ty26))))) k) (h : Sp.in5_13 k x) : StepOk true Sp.in5_13 Sp.mu5_13 k x (Sp.st5_13 k x) := by
  try dsimp only [Ty.den] at *
  simp only [Sp.in5_13, Fit, maxLen] at h fk
  unfold Sp.st5_13
  (repeat' (first | exact rfl | (refine StepOk.cnd (fun hc => ?_) (fun hc => ?_) <;> (try simp only [IntKind.wrap_i64, IntKind.wrap_u8, IntKind.wrap_u32, IntKind.wrap_u64, bne_eq_false_iff_eq, Int.natCast_inj, setE, copyL, sliceL, zrow, List.length_append, List.length_cons, List.length_nil, List.length_set, List.length_replicate, List.length_take, List.length_drop, decide_eq_true_eq, decide_eq_false_iff_not, Bool.or_eq_true, Bool.and_eq_true, Bool.or_eq_false_iff, Bool.and_eq_false_iff, Bool.not_eq_true', Bool.not_eq_false', Bool.not_eq_true, Bool.not_eq_false, beq_iff_eq, beq_eq_false_iff_ne, bne_iff_ne, ne_eq] at hc)) | refine StepOk.opt (fun _ => ?_))) <;> (first | exact rfl | (refine ⟨rfl, ?_, ?_⟩ <;> simp only [Sp.in5_13, Sp.mu5_13, IntKind.wrap_i64, IntKind.wrap_u8, IntKind.wrap_u32, IntKind.wrap_u64, Sp.tmod_lit, Sp.tdiv_lit, bne_eq_false_iff_eq, Int.natCast_inj, setE, copyL, sliceL, zrow, List.length_append, List.length_cons, List.length_nil, List.length_set, List.length_replicate, List.length_take, List.length_drop, decide_eq_true_eq, decide_eq_false_iff_not, Bool.or_eq_true, Bool.and_eq_true, Bool.or_eq_false_iff, Bool.and_eq_false_iff, Bool.not_eq_true', Bool.not_eq_false', Bool.not_eq_true, Bool.not_eq_false, beq_iff_eq, beq_eq_false_iff_ne, bne_iff_ne, ne_eq] <;> first | omega | (and_intros <;> first | omega | exact h.1 | exact h.2 | exact h.2.1 | exact h.2.2 | exact h.2.2.1 | exact h.2.2.2 | exact h.2.2.2.1 | exact h.2.2.2.2 | exact h.2.2.2.2.1 | exact h.2.2.2.2.2 | exact h.2.2.2.2.2.1 | exact h.2.2.2.2.2.2)))
theorem lo5_13 : LoopOk Tryd.prog gdS (RetAt Tryd.prog Tryd.f5 (Rsh.one (none)) none ty4) (bodyAt (bodyOf Tryd.f5) [1]) LS5_13 :=
  loop_run (ctxOkP pgokPmC0 fvok_none gokGmD0 []) (L := lookL [(4, LS5_4), (16, LS5_16)]) (loops_of (l := [bodyAt (bodyOf Tryd.f5) [1, 0]]) (by kernel_rfl) (loops_cons (s0 := LS5_16) (by kernel_rfl) lo5_16 (loops_nil))) sa5_13 va5_13 so5_13
end Go.Proofs.YtjdaplmlmmnokaaDoor.Sy
namespace Go.Proofs.YtjdaplmlmmnokaaDoor.Sp
open Go Go.RowKit Sy
def K5_1 (x : Int × (Int × Int × Int) × Int × Int × Int × Int) :=
  (Sp.G5_13 ((IntKind.i64.wrap ((2 : Int) + (IntKind.i64.wrap (Int.tmod x.1 (31 : Int))))), [(0 : Int), (2 : Int), (1 : Int)], (IntKind.i64.wrap (Int.tmod (IntKind.u64.wrap x.2.2.1) (IntKind.u64.wrap (IntKind.i64.wrap ((2 : Int) + (IntKind.i64.wrap (Int.tmod x.1 (31 : Int)))))))), (IntKind.i64.wrap (Int.tmod (IntKind.u64.wrap x.2.2.2.2.1) (IntKind.u64.wrap (IntKind.i64.wrap ((2 : Int) + (IntKind.i64.wrap (Int.tmod x.1 (31 : Int)))))))), x.2.1, (Sp.G5_4 ((IntKind.i64.wrap ((2 : Int) + (IntKind.i64.wrap (Int.tmod x.1 (31 : Int))))), x.2.1) ((0 : Int), (0 : Int), (0 : Int), (0 : Int))).2) (0 : Int))
def F5 (x : Int × (Int × Int × Int) × Int × Int × Int × Int) : Bool :=
  Sp.optR (Sp.R5_13 ((IntKind.i64.wrap ((2 : Int) + (IntKind.i64.wrap (Int.tmod x.1 (31 : Int))))), [(0 : Int), (2 : Int), (1 : Int)], (IntKind.i64.wrap (Int.tmod (IntKind.u64.wrap x.2.2.1) (IntKind.u64.wrap (IntKind.i64.wrap ((2 : Int) + (IntKind.i64.wrap (Int.tmod x.1 (31 : Int)))))))), (IntKind.i64.wrap (Int.tmod (IntKind.u64.wrap x.2.2.2.2.1) (IntKind.u64.wrap (IntKind.i64.wrap ((2 : Int) + (IntKind.i64.wrap (Int.tmod x.1 (31 : Int)))))))), x.2.1, (Sp.G5_4 ((IntKind.i64.wrap ((2 : Int) + (IntKind.i64.wrap (Int.tmod x.1 (31 : Int))))), x.2.1) ((0 : Int), (0 : Int), (0 : Int), (0 : Int))).2) (0 : Int)) (fun y => y)
  ((Sp.F11 ()))
def pre5 (x : Int × (Int × Int × Int) × Int × Int × Int × Int) : Prop := 0 ≤ x.1 ∧ x.1 ≤ 255
end Go.Proofs.YtjdaplmlmmnokaaDoor.Sp
namespace Go.Proofs.YtjdaplmlmmnokaaDoor.Sy
def ct5 : Ct := { p := (Ty.pair ty5 (Ty.pair ty26 ty28)), psh := [none, some 3, some 4], r := ty4, rsh := (Rsh.one (none)), pre := some Sp.pre5, fresh := none, F := Sp.F5 }
theorem va5 (x : (Ty.pair ty5 (Ty.pair ty26 ty28)).den) : ((evFn (ctxP PmC0 none GmD0 []) Tryd.f5 (Ty.pair ty5 (Ty.pair ty26 ty28)) [none, some 3, some 4] (Rsh.one (none)) none ty4 (lookL [(4, LS5_4), (16, LS5_16), (13, LS5_13)]) x)).val (fun y => y) (Ty.dflt ty4) = Sp.F5 x := by kernel_rfl
theorem se5 (x : (Ty.pair ty5 (Ty.pair ty26 ty28)).den) : ((evFn (ctxP PmC0 none GmD0 []) Tryd.f5 (Ty.pair ty5 (Ty.pair ty26 ty28)) [none, some 3, some 4] (Rsh.one (none)) none ty4 (lookL [(4, LS5_4), (16, LS5_16), (13, LS5_13)]) x)).safe = ((((31 : Int) ≠ 0) ∧ ((Sp.in5_4 ((IntKind.i64.wrap ((2 : Int) + (IntKind.i64.wrap (Int.tmod x.1 (31 : Int))))), x.2.1) ((0 : Int), (0 : Int), (0 : Int), (0 : Int))) ∧ (((IntKind.u64.wrap (IntKind.i64.wrap ((2 : Int) + (IntKind.i64.wrap (Int.tmod x.1 (31 : Int)))))) ≠ 0) ∧ (((IntKind.u64.wrap (IntKind.i64.wrap ((2 : Int) + (IntKind.i64.wrap (Int.tmod x.1 (31 : Int)))))) ≠ 0) ∧ ((Sp.in5_13 ((IntKind.i64.wrap ((2 : Int) + (IntKind.i64.wrap (Int.tmod x.1 (31 : Int))))), [(0 : Int), (2 : Int), (1 : Int)], (IntKind.i64.wrap (Int.tmod (IntKind.u64.wrap x.2.2.1) (IntKind.u64.wrap (IntKind.i64.wrap ((2 : Int) + (IntKind.i64.wrap (Int.tmod x.1 (31 : Int)))))))), (IntKind.i64.wrap (Int.tmod (IntKind.u64.wrap x.2.2.2.2.1) (IntKind.u64.wrap (IntKind.i64.wrap ((2 : Int) + (IntKind.i64.wrap (Int.tmod x.1 (31 : Int)))))))), x.2.1, (Sp.G5_4 ((IntKind.i64.wrap ((2 : Int) + (IntKind.i64.wrap (Int.tmod x.1 (31 : Int))))), x.2.1) ((0 : Int), (0 : Int), (0 : Int), (0 : Int))).2) (0 : Int)) ∧ ((Sp.R5_13 ((IntKind.i64.wrap ((2 : Int) + (IntKind.i64.wrap (Int.tmod x.1 (31 : Int))))), [(0 : Int), (2 : Int), (1 : Int)], (IntKind.i64.wrap (Int.tmod (IntKind.u64.wrap x.2.2.1) (IntKind.u64.wrap (IntKind.i64.wrap ((2 : Int) + (IntKind.i64.wrap (Int.tmod x.1 (31 : Int)))))))), (IntKind.i64.wrap (Int.tmod (IntKind.u64.wrap x.2.2.2.2.1) (IntKind.u64.wrap (IntKind.i64.wrap ((2 : Int) + (IntKind.i64.wrap (Int.tmod x.1 (31 : Int)))))))), x.2.1, (Sp.G5_4 ((IntKind.i64.wrap ((2 : Int) + (IntKind.i64.wrap (Int.tmod x.1 (31 : Int))))), x.2.1) ((0 : Int), (0 : Int), (0 : Int), (0 : Int))).2) (0 : Int)) = none → True))))))) := by kernel_rfl
theorem sa5 (x : (Ty.pair ty5 (Ty.pair ty26 ty28)).den) (fx : Fit (Ty.pair ty5 (Ty.pair ty26 ty28)) x) (h : Sp.pre5 x) : SafeW ((evFn (ctxP PmC0 none GmD0 []) Tryd.f5 (Ty.pair ty5 (Ty.pair ty26 ty28)) [none, some 3, some 4] (Rsh.one (none)) none ty4 (lookL [(4, LS5_4), (16, LS5_16), (13, LS5_13)]) x)) := by
  refine ⟨?_⟩
  rw [se5]
  try dsimp only [Ty.den] at *
  simp only [Fit, maxLen] at fx
  simp only [Sp.in5_4, Sp.in5_16, Sp.in5_13, Sp.pre5, IntKind.wrap_i64, IntKind.wrap_u8, IntKind.wrap_u32, IntKind.wrap_u64, Sp.tmod_lit, Sp.tdiv_lit, bne_eq_false_iff_eq, Int.natCast_inj, setE, copyL, sliceL, zrow, List.length_append, List.length_cons, List.length_nil, List.length_set, List.length_replicate, List.length_take, List.length_drop, decide_eq_true_eq, decide_eq_false_iff_not, Bool.or_eq_true, Bool.and_eq_true, Bool.or_eq_false_iff, Bool.and_eq_false_iff, Bool.not_eq_true', Bool.not_eq_false', Bool.not_eq_true, Bool.not_eq_false, beq_iff_eq, beq_eq_false_iff_ne, bne_iff_ne, ne_eq, implies_true, and_true, true_and] at *
  all_goals ((repeat' (first | exact trivial | apply And.intro | intro _)) <;> first | trivial | omega | exact Sp.tmod_nn (by omega) | exact Sp.tmod_lt (by omega) (by omega))
theorem ok5 : CtOk Tryd.prog gdS 5 ct5 :=
  fn_okU (ctxOkP pgokPmC0 fvok_none gokGmD0 []) rfl Tryd.func5 (p := (Ty.pair ty5 (Ty.pair ty26 ty28))) (psh := [none, some 3, some 4]) (r := ty4) (rsh := (Rsh.one (none))) (pre := some Sp.pre5) (fresh := none) (F := Sp.F5) (L := (lookL [(4, LS5_4), (16, LS5_16), (13, LS5_13)])) (c := bodyOf Tryd.f5) (dflt := Ty.dflt ty4) rfl (loops_of (l := [bodyAt (bodyOf Tryd.f5) [0], bodyAt (bodyOf Tryd.f5) [1]]) (by kernel_rfl) (loops_cons (s0 := LS5_4) (by kernel_rfl) lo5_4 (loops_cons (s0 := LS5_13) (by kernel_rfl) lo5_13 (loops_nil))))
    (safe_pre @sa5) va5
def GmD1 : List (Nat × Ct) := (8, ct8) :: (10, ct10) :: (4, ct4) :: (5, ct5) :: GmD0
theorem gokGmD1 : GOk GmD1 := gok_cons ok8 ⟨_, Tryd.func8, by kernel_rfl, by kernel_rfl⟩ (gok_cons ok10 ⟨_, Tryd.func10, by kernel_rfl, by kernel_rfl⟩ (gok_cons ok4 ⟨_, Tryd.func4, by kernel_rfl, by kernel_rfl⟩ (gok_cons ok5 ⟨_, Tryd.func5, by kernel_rfl, by kernel_rfl⟩ (gokGmD0))))
end Go.Proofs.YtjdaplmlmmnokaaDoor.Sy
