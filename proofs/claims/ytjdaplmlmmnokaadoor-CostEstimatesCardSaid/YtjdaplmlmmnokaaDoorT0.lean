/- Contracts of functions, by the evaluator (own program gen.py): building.within, building.loads, overlayref01.in, overlaylaw01.Sample. -/
import Derived.Test.YtjdaplmlmmnokaaDoorD2
set_option linter.unusedVariables false
set_option linter.unusedSimpArgs false
set_option maxRecDepth 100000
namespace Go.Proofs.YtjdaplmlmmnokaaDoor.Sy
open Go Go.RowKit Sp
/-! building.within -/
end Go.Proofs.YtjdaplmlmmnokaaDoor.Sy
namespace Go.Proofs.YtjdaplmlmmnokaaDoor.Sp
open Go Go.RowKit Sy
def in29_2 (k : (Int × Int × (List Int) × Int)) (x : (Int)) : Prop := (0 : Int) ≤ x ∧ k.2.2.2 = ((k.2.2.1).length : Int)
def mu29_2 (k : (Int × Int × (List Int) × Int)) (x : (Int)) : Nat := (k.2.2.2 - x).toNat
def st29_2 (k : (Int × Int × (List Int) × Int)) (x : (Int)) : BOut (Int × Int × (List Int) × Int) (Int) (Bool) :=
  bif (decide (x < k.2.2.2)) then
    (bif ((decide ((Sp.nthT k.2.2.1 x) < k.1)) || (decide ((Sp.nthT k.2.2.1 x) > k.2.1))) then
      BOut.ret false
    else
      BOut.next k (IntKind.i64.wrap (x + (1 : Int))))
  else
    BOut.brk k x
def G29_2 (k : (Int × Int × (List Int) × Int)) (x : (Int)) : (Int) := endOf st29_2 k (Nat.succ (mu29_2 k x)) x
def R29_2 (k : (Int × Int × (List Int) × Int)) (x : (Int)) : Option (Bool) := retOf st29_2 k (Nat.succ (mu29_2 k x)) x
end Go.Proofs.YtjdaplmlmmnokaaDoor.Sp
namespace Go.Proofs.YtjdaplmlmmnokaaDoor.Sy
def LS29_2 : LS ty4.den := mkLS (Ty.pair ty3 (Ty.pair ty3 (Ty.pair ty35 ty3))) ty3  [(0, none), (1, none), (9, none), (10, none)] [] [(11, none)] [] [] [] [] 0 true Sp.in29_2 Sp.st29_2 Sp.mu29_2
theorem va29_2 (k : (Ty.pair ty3 (Ty.pair ty3 (Ty.pair ty35 ty3))).den) (x : ty3.den) : ((evCode (ctxP PmC0 none GmD2 []) (lookL []) (bodyAt (bodyOf Tryd.f29) [0]) (tmpl LS29_2 (enc (Ty.pair ty3 (Ty.pair ty3 (Ty.pair ty35 ty3))) k) (enc ty3 x)) (evRound LS29_2 (evRet (ctxP PmC0 none GmD2 []) Tryd.f29 (Rsh.one (none)) none ty4 .ret)))).val BOut.ret (BOut.brk (Ty.dflt (Ty.pair ty3 (Ty.pair ty3 (Ty.pair ty35 ty3)))) (Ty.dflt ty3)) = Sp.st29_2 k x := by kernel_rfl
theorem se29_2 (k : (Ty.pair ty3 (Ty.pair ty3 (Ty.pair ty35 ty3))).den) (x : ty3.den) : ((evCode (ctxP PmC0 none GmD2 []) (lookL []) (bodyAt (bodyOf Tryd.f29) [0]) (tmpl LS29_2 (enc (Ty.pair ty3 (Ty.pair ty3 (Ty.pair ty35 ty3))) k) (enc ty3 x)) (evRound LS29_2 (evRet (ctxP PmC0 none GmD2 []) Tryd.f29 (Rsh.one (none)) none ty4 .ret)))).safe = ((((decide (x < k.2.2.2)) = true → ((0 ≤ x ∧ x < ((k.2.2.1).length : Int)) ∧ ((((decide ((Sp.nthT k.2.2.1 x) < k.1)) || (decide ((Sp.nthT k.2.2.1 x) > k.2.1))) = true → True) ∧ (((decide ((Sp.nthT k.2.2.1 x) < k.1)) || (decide ((Sp.nthT k.2.2.1 x) > k.2.1))) = false → True)))) ∧ ((decide (x < k.2.2.2)) = false → True))) := by kernel_rfl
set_option maxHeartbeats 4000000 in
theorem sa29_2 (k : (Ty.pair ty3 (Ty.pair ty3 (Ty.pair ty35 ty3))).den) (x : ty3.den) (fk : Fit (Ty.pair ty3 (Ty.pair ty3 (Ty.pair ty35 ty3))) k) (fx : Fit ty3 x) (h : Sp.in29_2 k x) : SafeW ((evCode (ctxP PmC0 none GmD2 []) (lookL []) (bodyAt (bodyOf Tryd.f29) [0]) (tmpl LS29_2 (enc (Ty.pair ty3 (Ty.pair ty3 (Ty.pair ty35 ty3))) k) (enc ty3 x)) (evRound LS29_2 (evRet (ctxP PmC0 none GmD2 []) Tryd.f29 (Rsh.one (none)) none ty4 .ret)))) := by
  refine ⟨?_⟩
  rw [se29_2]
  try dsimp only [Ty.den] at *
  simp only [Sp.in29_2, Fit, maxLen] at h fk fx
  simp only [IntKind.wrap_i64, IntKind.wrap_u8, IntKind.wrap_u32, IntKind.wrap_u64, Sp.tmod_lit, Sp.tdiv_lit, bne_eq_false_iff_eq, Int.natCast_inj, setE, copyL, sliceL, zrow, List.length_append, List.length_cons, List.length_nil, List.length_set, List.length_replicate, List.length_take, List.length_drop, decide_eq_true_eq, decide_eq_false_iff_not, Bool.or_eq_true, Bool.and_eq_true, Bool.or_eq_false_iff, Bool.and_eq_false_iff, Bool.not_eq_true', Bool.not_eq_false', Bool.not_eq_true, Bool.not_eq_false, beq_iff_eq, beq_eq_false_iff_ne, bne_iff_ne, ne_eq, implies_true, and_true, true_and] at *
  all_goals ((repeat' (first | exact trivial | apply And.intro | intro _)) <;> first | trivial | omega | exact Sp.tmod_nn (by omega) | exact Sp.tmod_lt (by omega) (by omega))
set_option maxHeartbeats 4000000 in
theorem so29_2 (k : (Ty.pair ty3 (Ty.pair ty3 (Ty.pair ty35 ty3))).den) (x : ty3.den) (fk : Fit (Ty.pair ty3 (Ty.pair ty3 (Ty.pair ty35 ty3))) k) (h : Sp.in29_2 k x) : StepOk true Sp.in29_2 Sp.mu29_2 k x (Sp.st29_2 k x) := by
  try dsimp only [Ty.den] at *
  simp only [Sp.in29_2, Fit, maxLen] at h fk
  unfold Sp.st29_2
  (repeat' (first | exact rfl | (refine StepOk.cnd (fun hc => ?_) (fun hc => ?_) <;> (try simp only [IntKind.wrap_i64, IntKind.wrap_u8, IntKind.wrap_u32, IntKind.wrap_u64, bne_eq_false_iff_eq, Int.natCast_inj, setE, copyL, sliceL, zrow, List.length_append, List.length_cons, List.length_nil, List.length_set, List.length_replicate, List.length_take, List.length_drop, decide_eq_true_eq, decide_eq_false_iff_not, Bool.or_eq_true, Bool.and_eq_true, Bool.or_eq_false_iff, Bool.and_eq_false_iff, Bool.not_eq_true', Bool.not_eq_false', Bool.not_eq_true, Bool.not_eq_false, beq_iff_eq, beq_eq_false_iff_ne, bne_iff_ne, ne_eq] at hc)) | refine StepOk.opt (fun _ => ?_))) <;> (first | exact rfl | (refine ⟨rfl, ?_, ?_⟩ <;> simp only [Sp.in29_2, Sp.mu29_2, IntKind.wrap_i64, IntKind.wrap_u8, IntKind.wrap_u32, IntKind.wrap_u64, Sp.tmod_lit, Sp.tdiv_lit, bne_eq_false_iff_eq, Int.natCast_inj, setE, copyL, sliceL, zrow, List.length_append, List.length_cons, List.length_nil, List.length_set, List.length_replicate, List.length_take, List.length_drop, decide_eq_true_eq, decide_eq_false_iff_not, Bool.or_eq_true, Bool.and_eq_true, Bool.or_eq_false_iff, Bool.and_eq_false_iff, Bool.not_eq_true', Bool.not_eq_false', Bool.not_eq_true, Bool.not_eq_false, beq_iff_eq, beq_eq_false_iff_ne, bne_iff_ne, ne_eq] <;> first | omega | (and_intros <;> first | omega | exact h.1 | exact h.2 | exact h.2.1 | exact h.2.2 | exact h.2.2.1 | exact h.2.2.2 | exact h.2.2.2.1 | exact h.2.2.2.2 | exact h.2.2.2.2.1 | exact h.2.2.2.2.2 | exact h.2.2.2.2.2.1 | exact h.2.2.2.2.2.2)))
theorem lo29_2 : LoopOk Tryd.prog gdS (RetAt Tryd.prog Tryd.f29 (Rsh.one (none)) none ty4) (bodyAt (bodyOf Tryd.f29) [0]) LS29_2 :=
  loop_run (ctxOkP pgokPmC0 fvok_none gokGmD2 []) (L := lookL []) (loops_of (l := []) (by kernel_rfl) (loops_nil)) sa29_2 va29_2 so29_2
end Go.Proofs.YtjdaplmlmmnokaaDoor.Sy
namespace Go.Proofs.YtjdaplmlmmnokaaDoor.Sp
open Go Go.RowKit Sy
def F29 (x : Int × Int × List Int) : Bool :=
  Sp.optR (Sp.R29_2 (x.1, x.2.1, x.2.2, ((x.2.2).length : Int)) (0 : Int)) (fun y => y)
  (true)
end Go.Proofs.YtjdaplmlmmnokaaDoor.Sp
namespace Go.Proofs.YtjdaplmlmmnokaaDoor.Sy
def ct29 : Ct := { p := (Ty.pair ty3 (Ty.pair ty3 ty35)), psh := [none, none, none], r := ty4, rsh := (Rsh.one (none)), pre := none, fresh := none, F := Sp.F29 }
theorem va29 (x : (Ty.pair ty3 (Ty.pair ty3 ty35)).den) : ((evFn (ctxP PmC0 none GmD2 []) Tryd.f29 (Ty.pair ty3 (Ty.pair ty3 ty35)) [none, none, none] (Rsh.one (none)) none ty4 (lookL [(2, LS29_2)]) x)).val (fun y => y) (Ty.dflt ty4) = Sp.F29 x := by kernel_rfl
theorem se29 (x : (Ty.pair ty3 (Ty.pair ty3 ty35)).den) : ((evFn (ctxP PmC0 none GmD2 []) Tryd.f29 (Ty.pair ty3 (Ty.pair ty3 ty35)) [none, none, none] (Rsh.one (none)) none ty4 (lookL [(2, LS29_2)]) x)).safe = (((Sp.in29_2 (x.1, x.2.1, x.2.2, ((x.2.2).length : Int)) (0 : Int)) ∧ ((Sp.R29_2 (x.1, x.2.1, x.2.2, ((x.2.2).length : Int)) (0 : Int)) = none → True))) := by kernel_rfl
theorem sa29 (x : (Ty.pair ty3 (Ty.pair ty3 ty35)).den) (fx : Fit (Ty.pair ty3 (Ty.pair ty3 ty35)) x) : SafeW ((evFn (ctxP PmC0 none GmD2 []) Tryd.f29 (Ty.pair ty3 (Ty.pair ty3 ty35)) [none, none, none] (Rsh.one (none)) none ty4 (lookL [(2, LS29_2)]) x)) := by
  refine ⟨?_⟩
  rw [se29]
  try dsimp only [Ty.den] at *
  simp only [Fit, maxLen] at fx
  simp only [Sp.in29_2, IntKind.wrap_i64, IntKind.wrap_u8, IntKind.wrap_u32, IntKind.wrap_u64, Sp.tmod_lit, Sp.tdiv_lit, bne_eq_false_iff_eq, Int.natCast_inj, setE, copyL, sliceL, zrow, List.length_append, List.length_cons, List.length_nil, List.length_set, List.length_replicate, List.length_take, List.length_drop, decide_eq_true_eq, decide_eq_false_iff_not, Bool.or_eq_true, Bool.and_eq_true, Bool.or_eq_false_iff, Bool.and_eq_false_iff, Bool.not_eq_true', Bool.not_eq_false', Bool.not_eq_true, Bool.not_eq_false, beq_iff_eq, beq_eq_false_iff_ne, bne_iff_ne, ne_eq, implies_true, and_true, true_and] at *
  all_goals ((repeat' (first | exact trivial | apply And.intro | intro _)) <;> first | trivial | omega | exact Sp.tmod_nn (by omega) | exact Sp.tmod_lt (by omega) (by omega))
theorem ok29 : CtOk Tryd.prog gdS 29 ct29 :=
  fn_okU (ctxOkP pgokPmC0 fvok_none gokGmD2 []) rfl Tryd.func29 (p := (Ty.pair ty3 (Ty.pair ty3 ty35))) (psh := [none, none, none]) (r := ty4) (rsh := (Rsh.one (none))) (pre := none) (fresh := none) (F := Sp.F29) (L := (lookL [(2, LS29_2)])) (c := bodyOf Tryd.f29) (dflt := Ty.dflt ty4) rfl (loops_of (l := [bodyAt (bodyOf Tryd.f29) [0]]) (by kernel_rfl) (loops_cons (s0 := LS29_2) (by kernel_rfl) lo29_2 (loops_nil)))
    (safe_no @sa29) va29
/-! building.loads -/
end Go.Proofs.YtjdaplmlmmnokaaDoor.Sy
namespace Go.Proofs.YtjdaplmlmmnokaaDoor.Sp
open Go Go.RowKit Sy
def F31 (x : Int × Int × Int × Int × Nat × Nat × Nat × List (Int × Int × Int × Int × Int × Int × Int × Int × Int)) : Bool :=
  (((((FloatKind.f64.format.order (0 : Nat) x.2.2.2.2.1) == some Ordering.lt) && ((FloatKind.f64.format.order x.2.2.2.2.1 x.2.2.2.2.2.1) == some Ordering.lt)) && ((FloatKind.f64.format.order x.2.2.2.2.2.1 x.2.2.2.2.2.2.1) == some Ordering.lt)) && ((FloatKind.f64.format.order x.2.2.2.2.2.2.1 (9218868437227405311 : Nat)) == some Ordering.lt || (FloatKind.f64.format.order x.2.2.2.2.2.2.1 (9218868437227405311 : Nat)) == some Ordering.eq))
end Go.Proofs.YtjdaplmlmmnokaaDoor.Sp
namespace Go.Proofs.YtjdaplmlmmnokaaDoor.Sy
def ct31 : Ct := { p := ty42, psh := [some 8], r := ty4, rsh := (Rsh.one (none)), pre := none, fresh := none, F := Sp.F31 }
theorem va31 (x : ty42.den) : ((evFn (ctxP PmC0 none GmD2 []) Tryd.f31 ty42 [some 8] (Rsh.one (none)) none ty4 noL x)).val (fun y => y) (Ty.dflt ty4) = Sp.F31 x := by kernel_rfl
theorem se31 (x : ty42.den) : ((evFn (ctxP PmC0 none GmD2 []) Tryd.f31 ty42 [some 8] (Rsh.one (none)) none ty4 noL x)).safe = (True) := by kernel_rfl
theorem sa31 (x : ty42.den) (fx : Fit ty42 x) : SafeW ((evFn (ctxP PmC0 none GmD2 []) Tryd.f31 ty42 [some 8] (Rsh.one (none)) none ty4 noL x)) := by
  refine ⟨?_⟩
  rw [se31]
  trivial
theorem ok31 : CtOk Tryd.prog gdS 31 ct31 :=
  fn_okU (ctxOkP pgokPmC0 fvok_none gokGmD2 []) rfl Tryd.func31 (p := ty42) (psh := [some 8]) (r := ty4) (rsh := (Rsh.one (none))) (pre := none) (fresh := none) (F := Sp.F31) (L := noL) (c := bodyOf Tryd.f31) (dflt := Ty.dflt ty4) rfl (no_loops)
    (safe_no @sa31) va31
/-! overlayref01.in -/
end Go.Proofs.YtjdaplmlmmnokaaDoor.Sy
namespace Go.Proofs.YtjdaplmlmmnokaaDoor.Sp
open Go Go.RowKit Sy
def F32 (x : Int × Int × Int) : Bool :=
  ((decide (x.1 ≥ x.2.1)) && (decide (x.1 ≤ x.2.2)))
end Go.Proofs.YtjdaplmlmmnokaaDoor.Sp
namespace Go.Proofs.YtjdaplmlmmnokaaDoor.Sy
def ct32 : Ct := { p := (Ty.pair ty3 (Ty.pair ty3 ty3)), psh := [none, none, none], r := ty4, rsh := (Rsh.one (none)), pre := none, fresh := none, F := Sp.F32 }
theorem va32 (x : (Ty.pair ty3 (Ty.pair ty3 ty3)).den) : ((evFn (ctxP PmC0 none GmD2 []) Tryd.f32 (Ty.pair ty3 (Ty.pair ty3 ty3)) [none, none, none] (Rsh.one (none)) none ty4 noL x)).val (fun y => y) (Ty.dflt ty4) = Sp.F32 x := by kernel_rfl
theorem se32 (x : (Ty.pair ty3 (Ty.pair ty3 ty3)).den) : ((evFn (ctxP PmC0 none GmD2 []) Tryd.f32 (Ty.pair ty3 (Ty.pair ty3 ty3)) [none, none, none] (Rsh.one (none)) none ty4 noL x)).safe = (True) := by kernel_rfl
theorem sa32 (x : (Ty.pair ty3 (Ty.pair ty3 ty3)).den) (fx : Fit (Ty.pair ty3 (Ty.pair ty3 ty3)) x) : SafeW ((evFn (ctxP PmC0 none GmD2 []) Tryd.f32 (Ty.pair ty3 (Ty.pair ty3 ty3)) [none, none, none] (Rsh.one (none)) none ty4 noL x)) := by
  refine ⟨?_⟩
  rw [se32]
  trivial
theorem ok32 : CtOk Tryd.prog gdS 32 ct32 :=
  fn_okU (ctxOkP pgokPmC0 fvok_none gokGmD2 []) rfl Tryd.func32 (p := (Ty.pair ty3 (Ty.pair ty3 ty3))) (psh := [none, none, none]) (r := ty4) (rsh := (Rsh.one (none))) (pre := none) (fresh := none) (F := Sp.F32) (L := noL) (c := bodyOf Tryd.f32) (dflt := Ty.dflt ty4) rfl (no_loops)
    (safe_no @sa32) va32
/-! overlaylaw01.Sample -/
end Go.Proofs.YtjdaplmlmmnokaaDoor.Sy
namespace Go.Proofs.YtjdaplmlmmnokaaDoor.Sp
open Go Go.RowKit Sy
def in25_3 (k : (Int × Int)) (x : (Int × Int × Int × Int × Int × Nat × Nat × Nat × List (Int × Int × Int × Int × Int × Int × Int × Int × Int))) : Prop := 0 ≤ x.1 ∧ x.1 ≤ 101 ∧ k.1 ≠ 0 ∧ k.2 ≤ 100 ∧ (x.2.2.2.2.2.2.2.2.length : Int) ≤ x.1
def mu25_3 (k : (Int × Int)) (x : (Int × Int × Int × Int × Int × Nat × Nat × Nat × List (Int × Int × Int × Int × Int × Int × Int × Int × Int))) : Nat := (k.2 - x.1).toNat
def st25_3 (k : (Int × Int)) (x : (Int × Int × Int × Int × Int × Nat × Nat × Nat × List (Int × Int × Int × Int × Int × Int × Int × Int × Int))) : BOut (Int × Int) (Int × Int × Int × Int × Int × Nat × Nat × Nat × List (Int × Int × Int × Int × Int × Int × Int × Int × Int)) (Int × Int × Int × Int × Nat × Nat × Nat × List (Int × Int × Int × Int × Int × Int × Int × Int × Int)) :=
  bif (decide (x.1 < k.2)) then
    BOut.next k ((IntKind.i64.wrap (x.1 + (1 : Int))), x.2.1, x.2.2.1, x.2.2.2.1, x.2.2.2.2.1, x.2.2.2.2.2.1, x.2.2.2.2.2.2.1, x.2.2.2.2.2.2.2.1, (x.2.2.2.2.2.2.2.2 ++ [((100 : Int), (2 : Int), (6 : Int), (5 : Int), (4 : Int), (2 : Int), (3 : Int), (10 : Int), (Int.tmod x.1 k.1))]))
  else
    BOut.brk k x
def G25_3 (k : (Int × Int)) (x : (Int × Int × Int × Int × Int × Nat × Nat × Nat × List (Int × Int × Int × Int × Int × Int × Int × Int × Int))) : (Int × Int × Int × Int × Int × Nat × Nat × Nat × List (Int × Int × Int × Int × Int × Int × Int × Int × Int)) := endOf st25_3 k (Nat.succ (mu25_3 k x)) x
end Go.Proofs.YtjdaplmlmmnokaaDoor.Sp
namespace Go.Proofs.YtjdaplmlmmnokaaDoor.Sy
def LS25_3 : LS ty42.den := mkLS (Ty.pair ty3 ty3) (Ty.pair ty3 ty42)  [(0, none), (1, none)] [] [(6, none)] [(5, 8)] [(8, 100308, true, 46)] [] [(5, 5)] 0 false Sp.in25_3 Sp.st25_3 Sp.mu25_3
theorem va25_3 (k : (Ty.pair ty3 ty3).den) (x : (Ty.pair ty3 ty42).den) : ((evCode (ctxP PmC0 none GmD2 []) (lookL []) (bodyAt (bodyOf Tryd.f25) [0]) (tmpl LS25_3 (enc (Ty.pair ty3 ty3) k) (enc (Ty.pair ty3 ty42) x)) (evRound LS25_3 (evRet (ctxP PmC0 none GmD2 []) Tryd.f25 (Rsh.one (some 8)) (some 46) ty42 .ret)))).val BOut.ret (BOut.brk (Ty.dflt (Ty.pair ty3 ty3)) (Ty.dflt (Ty.pair ty3 ty42))) = Sp.st25_3 k x := by kernel_rfl
theorem se25_3 (k : (Ty.pair ty3 ty3).den) (x : (Ty.pair ty3 ty42).den) : ((evCode (ctxP PmC0 none GmD2 []) (lookL []) (bodyAt (bodyOf Tryd.f25) [0]) (tmpl LS25_3 (enc (Ty.pair ty3 ty3) k) (enc (Ty.pair ty3 ty42) x)) (evRound LS25_3 (evRet (ctxP PmC0 none GmD2 []) Tryd.f25 (Rsh.one (some 8)) (some 46) ty42 .ret)))).safe = ((((decide (x.1 < k.2)) = true → ((k.1 ≠ 0) ∧ (((List.length (x.2.2.2.2.2.2.2.2 : List (Int × Int × Int × Int × Int × Int × Int × Int × Int)) + List.length ([((100 : Int), (2 : Int), (6 : Int), (5 : Int), (4 : Int), (2 : Int), (3 : Int), (10 : Int), (Int.tmod x.1 k.1))] : List (Int × Int × Int × Int × Int × Int × Int × Int × Int))) * 72 ≤ 140737488355328 ∧ List.length (x.2.2.2.2.2.2.2.2 : List (Int × Int × Int × Int × Int × Int × Int × Int × Int)) + List.length ([((100 : Int), (2 : Int), (6 : Int), (5 : Int), (4 : Int), (2 : Int), (3 : Int), (10 : Int), (Int.tmod x.1 k.1))] : List (Int × Int × Int × Int × Int × Int × Int × Int × Int)) ≤ 4611686018427387903) ∧ True))) ∧ ((decide (x.1 < k.2)) = false → True))) := by kernel_rfl
set_option maxHeartbeats 4000000 in
theorem sa25_3 (k : (Ty.pair ty3 ty3).den) (x : (Ty.pair ty3 ty42).den) (fk : Fit (Ty.pair ty3 ty3) k) (fx : Fit (Ty.pair ty3 ty42) x) (h : Sp.in25_3 k x) : SafeW ((evCode (ctxP PmC0 none GmD2 []) (lookL []) (bodyAt (bodyOf Tryd.f25) [0]) (tmpl LS25_3 (enc (Ty.pair ty3 ty3) k) (enc (Ty.pair ty3 ty42) x)) (evRound LS25_3 (evRet (ctxP PmC0 none GmD2 []) Tryd.f25 (Rsh.one (some 8)) (some 46) ty42 .ret)))) := by
  refine ⟨?_⟩
  rw [se25_3]
  try dsimp only [Ty.den] at *
  simp only [Sp.in25_3, Fit, maxLen] at h fk fx
  simp only [IntKind.wrap_i64, IntKind.wrap_u8, IntKind.wrap_u32, IntKind.wrap_u64, Sp.tmod_lit, Sp.tdiv_lit, bne_eq_false_iff_eq, Int.natCast_inj, setE, copyL, sliceL, zrow, List.length_append, List.length_cons, List.length_nil, List.length_set, List.length_replicate, List.length_take, List.length_drop, decide_eq_true_eq, decide_eq_false_iff_not, Bool.or_eq_true, Bool.and_eq_true, Bool.or_eq_false_iff, Bool.and_eq_false_iff, Bool.not_eq_true', Bool.not_eq_false', Bool.not_eq_true, Bool.not_eq_false, beq_iff_eq, beq_eq_false_iff_ne, bne_iff_ne, ne_eq, implies_true, and_true, true_and] at *
  all_goals ((repeat' (first | exact trivial | apply And.intro | intro _)) <;> first | trivial | omega | exact Sp.tmod_nn (by omega) | exact Sp.tmod_lt (by omega) (by omega))
set_option maxHeartbeats 4000000 in
theorem so25_3 (k : (Ty.pair ty3 ty3).den) (x : (Ty.pair ty3 ty42).den) (fk : Fit (Ty.pair ty3 ty3) k) (h : Sp.in25_3 k x) : StepOk false Sp.in25_3 Sp.mu25_3 k x (Sp.st25_3 k x) := by
  try dsimp only [Ty.den] at *
  simp only [Sp.in25_3, Fit, maxLen] at h fk
  unfold Sp.st25_3
  (repeat' (first | exact rfl | (refine StepOk.cnd (fun hc => ?_) (fun hc => ?_) <;> (try simp only [IntKind.wrap_i64, IntKind.wrap_u8, IntKind.wrap_u32, IntKind.wrap_u64, bne_eq_false_iff_eq, Int.natCast_inj, setE, copyL, sliceL, zrow, List.length_append, List.length_cons, List.length_nil, List.length_set, List.length_replicate, List.length_take, List.length_drop, decide_eq_true_eq, decide_eq_false_iff_not, Bool.or_eq_true, Bool.and_eq_true, Bool.or_eq_false_iff, Bool.and_eq_false_iff, Bool.not_eq_true', Bool.not_eq_false', Bool.not_eq_true, Bool.not_eq_false, beq_iff_eq, beq_eq_false_iff_ne, bne_iff_ne, ne_eq] at hc)) | refine StepOk.opt (fun _ => ?_))) <;> (first | exact rfl | (refine ⟨rfl, ?_, ?_⟩ <;> simp only [Sp.in25_3, Sp.mu25_3, IntKind.wrap_i64, IntKind.wrap_u8, IntKind.wrap_u32, IntKind.wrap_u64, Sp.tmod_lit, Sp.tdiv_lit, bne_eq_false_iff_eq, Int.natCast_inj, setE, copyL, sliceL, zrow, List.length_append, List.length_cons, List.length_nil, List.length_set, List.length_replicate, List.length_take, List.length_drop, decide_eq_true_eq, decide_eq_false_iff_not, Bool.or_eq_true, Bool.and_eq_true, Bool.or_eq_false_iff, Bool.and_eq_false_iff, Bool.not_eq_true', Bool.not_eq_false', Bool.not_eq_true, Bool.not_eq_false, beq_iff_eq, beq_eq_false_iff_ne, bne_iff_ne, ne_eq] <;> first | omega | (and_intros <;> first | omega | exact h.1 | exact h.2 | exact h.2.1 | exact h.2.2 | exact h.2.2.1 | exact h.2.2.2 | exact h.2.2.2.1 | exact h.2.2.2.2 | exact h.2.2.2.2.1 | exact h.2.2.2.2.2 | exact h.2.2.2.2.2.1 | exact h.2.2.2.2.2.2)))
theorem lo25_3 : LoopOk Tryd.prog gdS (RetAt Tryd.prog Tryd.f25 (Rsh.one (some 8)) (some 46) ty42) (bodyAt (bodyOf Tryd.f25) [0]) LS25_3 :=
  loop_run (ctxOkP pgokPmC0 fvok_none gokGmD2 []) (L := lookL []) (loops_of (l := []) (by kernel_rfl) (loops_nil)) sa25_3 va25_3 so25_3
end Go.Proofs.YtjdaplmlmmnokaaDoor.Sy
namespace Go.Proofs.YtjdaplmlmmnokaaDoor.Sp
open Go Go.RowKit Sy
def F25 (x : Int × Int) : Int × Int × Int × Int × Nat × Nat × Nat × List (Int × Int × Int × Int × Int × Int × Int × Int × Int) :=
  (Sp.G25_3 x ((0 : Int), x.1, (1 : Int), (4000 : Int), (30 : Int), (4591870180066957722 : Nat), (4605380978949069210 : Nat), (4607632778762754458 : Nat), [])).2
def pre25 (x : Int × Int) : Prop := 1 ≤ x.1 ∧ x.1 ≤ 100 ∧ x.2 ≤ 100
end Go.Proofs.YtjdaplmlmmnokaaDoor.Sp
namespace Go.Proofs.YtjdaplmlmmnokaaDoor.Sy
def ct25 : Ct := { p := (Ty.pair ty3 ty3), psh := [none, none], r := ty42, rsh := (Rsh.one (some 8)), pre := some Sp.pre25, fresh := (some 46), F := Sp.F25 }
theorem va25 (x : (Ty.pair ty3 ty3).den) : ((evFn (ctxP PmC0 none GmD2 []) Tryd.f25 (Ty.pair ty3 ty3) [none, none] (Rsh.one (some 8)) (some 46) ty42 (lookL [(3, LS25_3)]) x)).val (fun y => y) (Ty.dflt ty42) = Sp.F25 x := by kernel_rfl
theorem se25 (x : (Ty.pair ty3 ty3).den) : ((evFn (ctxP PmC0 none GmD2 []) Tryd.f25 (Ty.pair ty3 ty3) [none, none] (Rsh.one (some 8)) (some 46) ty42 (lookL [(3, LS25_3)]) x)).safe = (((Sp.in25_3 x ((0 : Int), x.1, (1 : Int), (4000 : Int), (30 : Int), (4591870180066957722 : Nat), (4605380978949069210 : Nat), (4607632778762754458 : Nat), [])) ∧ True)) := by kernel_rfl
theorem sa25 (x : (Ty.pair ty3 ty3).den) (fx : Fit (Ty.pair ty3 ty3) x) (h : Sp.pre25 x) : SafeW ((evFn (ctxP PmC0 none GmD2 []) Tryd.f25 (Ty.pair ty3 ty3) [none, none] (Rsh.one (some 8)) (some 46) ty42 (lookL [(3, LS25_3)]) x)) := by
  refine ⟨?_⟩
  rw [se25]
  try dsimp only [Ty.den] at *
  simp only [Fit, maxLen] at fx
  simp only [Sp.in25_3, Sp.pre25, IntKind.wrap_i64, IntKind.wrap_u8, IntKind.wrap_u32, IntKind.wrap_u64, Sp.tmod_lit, Sp.tdiv_lit, bne_eq_false_iff_eq, Int.natCast_inj, setE, copyL, sliceL, zrow, List.length_append, List.length_cons, List.length_nil, List.length_set, List.length_replicate, List.length_take, List.length_drop, decide_eq_true_eq, decide_eq_false_iff_not, Bool.or_eq_true, Bool.and_eq_true, Bool.or_eq_false_iff, Bool.and_eq_false_iff, Bool.not_eq_true', Bool.not_eq_false', Bool.not_eq_true, Bool.not_eq_false, beq_iff_eq, beq_eq_false_iff_ne, bne_iff_ne, ne_eq, implies_true, and_true, true_and] at *
  all_goals ((repeat' (first | exact trivial | apply And.intro | intro _)) <;> first | trivial | omega | exact Sp.tmod_nn (by omega) | exact Sp.tmod_lt (by omega) (by omega))
theorem ok25 : CtOk Tryd.prog gdS 25 ct25 :=
  fn_okU (ctxOkP pgokPmC0 fvok_none gokGmD2 []) rfl Tryd.func25 (p := (Ty.pair ty3 ty3)) (psh := [none, none]) (r := ty42) (rsh := (Rsh.one (some 8))) (pre := some Sp.pre25) (fresh := (some 46)) (F := Sp.F25) (L := (lookL [(3, LS25_3)])) (c := bodyOf Tryd.f25) (dflt := Ty.dflt ty42) rfl (loops_of (l := [bodyAt (bodyOf Tryd.f25) [0]]) (by kernel_rfl) (loops_cons (s0 := LS25_3) (by kernel_rfl) lo25_3 (loops_nil)))
    (safe_pre @sa25) va25
def GmT0 : List (Nat × Ct) := (29, ct29) :: (31, ct31) :: (32, ct32) :: (25, ct25) :: GmD2
theorem gokGmT0 : GOk GmT0 := gok_cons ok29 ⟨_, Tryd.func29, by kernel_rfl, by kernel_rfl⟩ (gok_cons ok31 ⟨_, Tryd.func31, by kernel_rfl, by kernel_rfl⟩ (gok_cons ok32 ⟨_, Tryd.func32, by kernel_rfl, by kernel_rfl⟩ (gok_cons ok25 ⟨_, Tryd.func25, by kernel_rfl, by kernel_rfl⟩ (gokGmD2))))
end Go.Proofs.YtjdaplmlmmnokaaDoor.Sy
