/- Contracts of functions, by the evaluator (own program gen.py): building.times, overlayref01.times, overlaylaw03.Building. -/
import Derived.Test.YtjdaplmlmmnokaaDoorT0
set_option linter.unusedVariables false
set_option linter.unusedSimpArgs false
set_option maxRecDepth 100000
namespace Go.Proofs.YtjdaplmlmmnokaaDoor.Sy
open Go Go.RowKit Sp
/-! building.times -/
end Go.Proofs.YtjdaplmlmmnokaaDoor.Sy
namespace Go.Proofs.YtjdaplmlmmnokaaDoor.Sp
open Go Go.RowKit Sy
def F30 (x : (Int × Int × Int × Int × Int × Int × Int × Int × Int) × Int) : Bool :=
  ((((Sp.F29 ((1 : Int), (10000 : Int), [x.1.1, x.1.2.1, x.1.2.2.1, x.1.2.2.2.2.1, x.1.2.2.2.2.2.1, x.1.2.2.2.2.2.2.1, x.1.2.2.2.2.2.2.2.1])) && (Sp.F29 ((0 : Int), (10000 : Int), [x.1.2.2.2.1]))) && (decide (x.1.2.2.2.2.2.2.2.1 ≥ x.1.2.2.2.2.2.2.1))) && (Sp.F29 ((0 : Int), (IntKind.i64.wrap (x.2 - (1 : Int))), [x.1.2.2.2.2.2.2.2.2])))
end Go.Proofs.YtjdaplmlmmnokaaDoor.Sp
namespace Go.Proofs.YtjdaplmlmmnokaaDoor.Sy
def ct30 : Ct := { p := (Ty.pair ty46 ty3), psh := [some 9, none], r := ty4, rsh := (Rsh.one (none)), pre := none, fresh := none, F := Sp.F30 }
theorem va30 (x : (Ty.pair ty46 ty3).den) : ((evFn (ctxP PmC0 none GmT0 []) Tryd.f30 (Ty.pair ty46 ty3) [some 9, none] (Rsh.one (none)) none ty4 noL x)).val (fun y => y) (Ty.dflt ty4) = Sp.F30 x := by kernel_rfl
theorem se30 (x : (Ty.pair ty46 ty3).den) : ((evFn (ctxP PmC0 none GmT0 []) Tryd.f30 (Ty.pair ty46 ty3) [some 9, none] (Rsh.one (none)) none ty4 noL x)).safe = (True) := by kernel_rfl
theorem sa30 (x : (Ty.pair ty46 ty3).den) (fx : Fit (Ty.pair ty46 ty3) x) : SafeW ((evFn (ctxP PmC0 none GmT0 []) Tryd.f30 (Ty.pair ty46 ty3) [some 9, none] (Rsh.one (none)) none ty4 noL x)) := by
  refine ⟨?_⟩
  rw [se30]
  trivial
theorem ok30 : CtOk Tryd.prog gdS 30 ct30 :=
  fn_okU (ctxOkP pgokPmC0 fvok_none gokGmT0 []) rfl Tryd.func30 (p := (Ty.pair ty46 ty3)) (psh := [some 9, none]) (r := ty4) (rsh := (Rsh.one (none))) (pre := none) (fresh := none) (F := Sp.F30) (L := noL) (c := bodyOf Tryd.f30) (dflt := Ty.dflt ty4) rfl (no_loops)
    (safe_no @sa30) va30
/-! overlayref01.times -/
end Go.Proofs.YtjdaplmlmmnokaaDoor.Sy
namespace Go.Proofs.YtjdaplmlmmnokaaDoor.Sp
open Go Go.RowKit Sy
def in33_5 (k : (List Int)) (x : (Int)) : Prop := (0 : Int) ≤ x ∧ k.length = 8
def mu33_5 (k : (List Int)) (x : (Int)) : Nat := ((7 : Int) - x).toNat
def st33_5 (k : (List Int)) (x : (Int)) : BOut (List Int) (Int) (Bool) :=
  bif (decide (x < (7 : Int))) then
    (bif (!(Sp.F32 ((Sp.nthT k x), (1 : Int), (10000 : Int)))) then
      BOut.ret false
    else
      BOut.next k (IntKind.i64.wrap (x + (1 : Int))))
  else
    BOut.brk k x
def G33_5 (k : (List Int)) (x : (Int)) : (Int) := endOf st33_5 k (Nat.succ (mu33_5 k x)) x
def R33_5 (k : (List Int)) (x : (Int)) : Option (Bool) := retOf st33_5 k (Nat.succ (mu33_5 k x)) x
end Go.Proofs.YtjdaplmlmmnokaaDoor.Sp
namespace Go.Proofs.YtjdaplmlmmnokaaDoor.Sy
def LS33_5 : LS ty4.den := mkLS ty35 ty3  [(5, none)] [] [(6, none)] [] [] [] [] 0 true Sp.in33_5 Sp.st33_5 Sp.mu33_5
theorem va33_5 (k : ty35.den) (x : ty3.den) : ((evCode (ctxP PmC0 none GmT0 []) (lookL []) (bodyAt (bodyOf Tryd.f33) [0]) (tmpl LS33_5 (enc ty35 k) (enc ty3 x)) (evRound LS33_5 (evRet (ctxP PmC0 none GmT0 []) Tryd.f33 (Rsh.one (none)) none ty4 .ret)))).val BOut.ret (BOut.brk (Ty.dflt ty35) (Ty.dflt ty3)) = Sp.st33_5 k x := by kernel_rfl
theorem se33_5 (k : ty35.den) (x : ty3.den) : ((evCode (ctxP PmC0 none GmT0 []) (lookL []) (bodyAt (bodyOf Tryd.f33) [0]) (tmpl LS33_5 (enc ty35 k) (enc ty3 x)) (evRound LS33_5 (evRet (ctxP PmC0 none GmT0 []) Tryd.f33 (Rsh.one (none)) none ty4 .ret)))).safe = ((((decide (x < (7 : Int))) = true → ((0 ≤ x ∧ x < ((k).length : Int)) ∧ (((!(Sp.F32 ((Sp.nthT k x), (1 : Int), (10000 : Int)))) = true → True) ∧ ((!(Sp.F32 ((Sp.nthT k x), (1 : Int), (10000 : Int)))) = false → True)))) ∧ ((decide (x < (7 : Int))) = false → True))) := by kernel_rfl
set_option maxHeartbeats 4000000 in
theorem sa33_5 (k : ty35.den) (x : ty3.den) (fk : Fit ty35 k) (fx : Fit ty3 x) (h : Sp.in33_5 k x) : SafeW ((evCode (ctxP PmC0 none GmT0 []) (lookL []) (bodyAt (bodyOf Tryd.f33) [0]) (tmpl LS33_5 (enc ty35 k) (enc ty3 x)) (evRound LS33_5 (evRet (ctxP PmC0 none GmT0 []) Tryd.f33 (Rsh.one (none)) none ty4 .ret)))) := by
  refine ⟨?_⟩
  rw [se33_5]
  try dsimp only [Ty.den] at *
  simp only [Sp.in33_5, Fit, maxLen] at h fk fx
  simp only [IntKind.wrap_i64, IntKind.wrap_u8, IntKind.wrap_u32, IntKind.wrap_u64, Sp.tmod_lit, Sp.tdiv_lit, bne_eq_false_iff_eq, Int.natCast_inj, setE, copyL, sliceL, zrow, List.length_append, List.length_cons, List.length_nil, List.length_set, List.length_replicate, List.length_take, List.length_drop, decide_eq_true_eq, decide_eq_false_iff_not, Bool.or_eq_true, Bool.and_eq_true, Bool.or_eq_false_iff, Bool.and_eq_false_iff, Bool.not_eq_true', Bool.not_eq_false', Bool.not_eq_true, Bool.not_eq_false, beq_iff_eq, beq_eq_false_iff_ne, bne_iff_ne, ne_eq, implies_true, and_true, true_and] at *
  all_goals ((repeat' (first | exact trivial | apply And.intro | intro _)) <;> first | trivial | omega | exact Sp.tmod_nn (by omega) | exact Sp.tmod_lt (by omega) (by omega))
set_option maxHeartbeats 4000000 in
theorem so33_5 (k : ty35.den) (x : ty3.den) (fk : Fit ty35 k) (h : Sp.in33_5 k x) : StepOk true Sp.in33_5 Sp.mu33_5 k x (Sp.st33_5 k x) := by
  try dsimp only [Ty.den] at *
  simp only [Sp.in33_5, Fit, maxLen] at h fk
  unfold Sp.st33_5
  (repeat' (first | exact rfl | (refine StepOk.cnd (fun hc => ?_) (fun hc => ?_) <;> (try simp only [IntKind.wrap_i64, IntKind.wrap_u8, IntKind.wrap_u32, IntKind.wrap_u64, bne_eq_false_iff_eq, Int.natCast_inj, setE, copyL, sliceL, zrow, List.length_append, List.length_cons, List.length_nil, List.length_set, List.length_replicate, List.length_take, List.length_drop, decide_eq_true_eq, decide_eq_false_iff_not, Bool.or_eq_true, Bool.and_eq_true, Bool.or_eq_false_iff, Bool.and_eq_false_iff, Bool.not_eq_true', Bool.not_eq_false', Bool.not_eq_true, Bool.not_eq_false, beq_iff_eq, beq_eq_false_iff_ne, bne_iff_ne, ne_eq] at hc)) | refine StepOk.opt (fun _ => ?_))) <;> (first | exact rfl | (refine ⟨rfl, ?_, ?_⟩ <;> simp only [Sp.in33_5, Sp.mu33_5, IntKind.wrap_i64, IntKind.wrap_u8, IntKind.wrap_u32, IntKind.wrap_u64, Sp.tmod_lit, Sp.tdiv_lit, bne_eq_false_iff_eq, Int.natCast_inj, setE, copyL, sliceL, zrow, List.length_append, List.length_cons, List.length_nil, List.length_set, List.length_replicate, List.length_take, List.length_drop, decide_eq_true_eq, decide_eq_false_iff_not, Bool.or_eq_true, Bool.and_eq_true, Bool.or_eq_false_iff, Bool.and_eq_false_iff, Bool.not_eq_true', Bool.not_eq_false', Bool.not_eq_true, Bool.not_eq_false, beq_iff_eq, beq_eq_false_iff_ne, bne_iff_ne, ne_eq] <;> first | omega | (and_intros <;> first | omega | exact h.1 | exact h.2 | exact h.2.1 | exact h.2.2 | exact h.2.2.1 | exact h.2.2.2 | exact h.2.2.2.1 | exact h.2.2.2.2 | exact h.2.2.2.2.1 | exact h.2.2.2.2.2 | exact h.2.2.2.2.2.1 | exact h.2.2.2.2.2.2)))
theorem lo33_5 : LoopOk Tryd.prog gdS (RetAt Tryd.prog Tryd.f33 (Rsh.one (none)) none ty4) (bodyAt (bodyOf Tryd.f33) [0]) LS33_5 :=
  loop_run (ctxOkP pgokPmC0 fvok_none gokGmT0 []) (L := lookL []) (loops_of (l := []) (by kernel_rfl) (loops_nil)) sa33_5 va33_5 so33_5
end Go.Proofs.YtjdaplmlmmnokaaDoor.Sy
namespace Go.Proofs.YtjdaplmlmmnokaaDoor.Sp
open Go Go.RowKit Sy
def F33 (x : (Int × Int × Int × Int × Nat × Nat × Nat × List (Int × Int × Int × Int × Int × Int × Int × Int × Int)) × Int × Int × Int × Int × Int × Int × Int × Int × Int) : Bool :=
  bif ((decide (x.2.2.2.2.1 < (0 : Int))) || (decide (x.2.2.2.2.1 > (10000 : Int)))) then
    false
  else
    Sp.optR (Sp.R33_5 [x.2.1, x.2.2.1, x.2.2.2.1, x.2.2.2.2.2.1, x.2.2.2.2.2.2.1, x.2.2.2.2.2.2.2.1, x.2.2.2.2.2.2.2.2.1, (IntKind.i64.wrap (x.2.2.2.2.1 + (1 : Int)))] (0 : Int)) (fun y => y)
    (((decide (x.2.2.2.2.2.2.2.2.1 ≥ x.2.2.2.2.2.2.2.1)) && (Sp.F32 (x.2.2.2.2.2.2.2.2.2, (0 : Int), (IntKind.i64.wrap (x.1.1 - (1 : Int)))))))
end Go.Proofs.YtjdaplmlmmnokaaDoor.Sp
namespace Go.Proofs.YtjdaplmlmmnokaaDoor.Sy
def ct33 : Ct := { p := (Ty.pair ty42 ty46), psh := [some 8, some 9], r := ty4, rsh := (Rsh.one (none)), pre := none, fresh := none, F := Sp.F33 }
theorem va33 (x : (Ty.pair ty42 ty46).den) : ((evFn (ctxP PmC0 none GmT0 []) Tryd.f33 (Ty.pair ty42 ty46) [some 8, some 9] (Rsh.one (none)) none ty4 (lookL [(5, LS33_5)]) x)).val (fun y => y) (Ty.dflt ty4) = Sp.F33 x := by kernel_rfl
theorem se33 (x : (Ty.pair ty42 ty46).den) : ((evFn (ctxP PmC0 none GmT0 []) Tryd.f33 (Ty.pair ty42 ty46) [some 8, some 9] (Rsh.one (none)) none ty4 (lookL [(5, LS33_5)]) x)).safe = (((((decide (x.2.2.2.2.1 < (0 : Int))) || (decide (x.2.2.2.2.1 > (10000 : Int)))) = true → True) ∧ (((decide (x.2.2.2.2.1 < (0 : Int))) || (decide (x.2.2.2.2.1 > (10000 : Int)))) = false → ((Sp.in33_5 [x.2.1, x.2.2.1, x.2.2.2.1, x.2.2.2.2.2.1, x.2.2.2.2.2.2.1, x.2.2.2.2.2.2.2.1, x.2.2.2.2.2.2.2.2.1, (IntKind.i64.wrap (x.2.2.2.2.1 + (1 : Int)))] (0 : Int)) ∧ ((Sp.R33_5 [x.2.1, x.2.2.1, x.2.2.2.1, x.2.2.2.2.2.1, x.2.2.2.2.2.2.1, x.2.2.2.2.2.2.2.1, x.2.2.2.2.2.2.2.2.1, (IntKind.i64.wrap (x.2.2.2.2.1 + (1 : Int)))] (0 : Int)) = none → True))))) := by kernel_rfl
theorem sa33 (x : (Ty.pair ty42 ty46).den) (fx : Fit (Ty.pair ty42 ty46) x) : SafeW ((evFn (ctxP PmC0 none GmT0 []) Tryd.f33 (Ty.pair ty42 ty46) [some 8, some 9] (Rsh.one (none)) none ty4 (lookL [(5, LS33_5)]) x)) := by
  refine ⟨?_⟩
  rw [se33]
  try dsimp only [Ty.den] at *
  simp only [Fit, maxLen] at fx
  simp only [Sp.in33_5, IntKind.wrap_i64, IntKind.wrap_u8, IntKind.wrap_u32, IntKind.wrap_u64, Sp.tmod_lit, Sp.tdiv_lit, bne_eq_false_iff_eq, Int.natCast_inj, setE, copyL, sliceL, zrow, List.length_append, List.length_cons, List.length_nil, List.length_set, List.length_replicate, List.length_take, List.length_drop, decide_eq_true_eq, decide_eq_false_iff_not, Bool.or_eq_true, Bool.and_eq_true, Bool.or_eq_false_iff, Bool.and_eq_false_iff, Bool.not_eq_true', Bool.not_eq_false', Bool.not_eq_true, Bool.not_eq_false, beq_iff_eq, beq_eq_false_iff_ne, bne_iff_ne, ne_eq, implies_true, and_true, true_and] at *
  all_goals ((repeat' (first | exact trivial | apply And.intro | intro _)) <;> first | trivial | omega | exact Sp.tmod_nn (by omega) | exact Sp.tmod_lt (by omega) (by omega))
theorem ok33 : CtOk Tryd.prog gdS 33 ct33 :=
  fn_okU (ctxOkP pgokPmC0 fvok_none gokGmT0 []) rfl Tryd.func33 (p := (Ty.pair ty42 ty46)) (psh := [some 8, some 9]) (r := ty4) (rsh := (Rsh.one (none))) (pre := none) (fresh := none) (F := Sp.F33) (L := (lookL [(5, LS33_5)])) (c := bodyOf Tryd.f33) (dflt := Ty.dflt ty4) rfl (loops_of (l := [bodyAt (bodyOf Tryd.f33) [0]]) (by kernel_rfl) (loops_cons (s0 := LS33_5) (by kernel_rfl) lo33_5 (loops_nil)))
    (safe_no @sa33) va33
/-! overlaylaw03.Building -/
end Go.Proofs.YtjdaplmlmmnokaaDoor.Sy
namespace Go.Proofs.YtjdaplmlmmnokaaDoor.Sp
open Go Go.RowKit Sy
def F13 (x : Int) : Int × Int × Int × Int × Nat × Nat × Nat × List (Int × Int × Int × Int × Int × Int × Int × Int × Int) :=
  (Sp.F25 ((IntKind.i64.wrap ((2 : Int) + (IntKind.i64.wrap (Int.tmod x (31 : Int))))), (IntKind.i64.wrap ((1 : Int) + (IntKind.i64.wrap (Int.tmod (IntKind.u8.wrap (Int.tdiv x (31 : Int))) (8 : Int)))))))
def pre13 (x : Int) : Prop := 0 ≤ x ∧ x ≤ 255
end Go.Proofs.YtjdaplmlmmnokaaDoor.Sp
namespace Go.Proofs.YtjdaplmlmmnokaaDoor.Sy
def ct13 : Ct := { p := ty5, psh := [none], r := ty42, rsh := (Rsh.one (some 8)), pre := some Sp.pre13, fresh := (some 46), F := Sp.F13 }
theorem va13 (x : ty5.den) : ((evFn (ctxP PmC0 none GmT0 []) Tryd.f13 ty5 [none] (Rsh.one (some 8)) (some 46) ty42 noL x)).val (fun y => y) (Ty.dflt ty42) = Sp.F13 x := by kernel_rfl
theorem se13 (x : ty5.den) : ((evFn (ctxP PmC0 none GmT0 []) Tryd.f13 ty5 [none] (Rsh.one (some 8)) (some 46) ty42 noL x)).safe = ((((31 : Int) ≠ 0) ∧ (((31 : Int) ≠ 0) ∧ (((8 : Int) ≠ 0) ∧ ((Sp.pre25 ((IntKind.i64.wrap ((2 : Int) + (IntKind.i64.wrap (Int.tmod x (31 : Int))))), (IntKind.i64.wrap ((1 : Int) + (IntKind.i64.wrap (Int.tmod (IntKind.u8.wrap (Int.tdiv x (31 : Int))) (8 : Int))))))) ∧ True))))) := by kernel_rfl
theorem sa13 (x : ty5.den) (fx : Fit ty5 x) (h : Sp.pre13 x) : SafeW ((evFn (ctxP PmC0 none GmT0 []) Tryd.f13 ty5 [none] (Rsh.one (some 8)) (some 46) ty42 noL x)) := by
  refine ⟨?_⟩
  rw [se13]
  try dsimp only [Ty.den] at *
  simp only [Fit, maxLen] at fx
  simp only [Sp.pre13, Sp.pre25, IntKind.wrap_i64, IntKind.wrap_u8, IntKind.wrap_u32, IntKind.wrap_u64, Sp.tmod_lit, Sp.tdiv_lit, bne_eq_false_iff_eq, Int.natCast_inj, setE, copyL, sliceL, zrow, List.length_append, List.length_cons, List.length_nil, List.length_set, List.length_replicate, List.length_take, List.length_drop, decide_eq_true_eq, decide_eq_false_iff_not, Bool.or_eq_true, Bool.and_eq_true, Bool.or_eq_false_iff, Bool.and_eq_false_iff, Bool.not_eq_true', Bool.not_eq_false', Bool.not_eq_true, Bool.not_eq_false, beq_iff_eq, beq_eq_false_iff_ne, bne_iff_ne, ne_eq, implies_true, and_true, true_and] at *
  all_goals ((repeat' (first | exact trivial | apply And.intro | intro _)) <;> first | trivial | omega | exact Sp.tmod_nn (by omega) | exact Sp.tmod_lt (by omega) (by omega))
theorem ok13 : CtOk Tryd.prog gdS 13 ct13 :=
  fn_okU (ctxOkP pgokPmC0 fvok_none gokGmT0 []) rfl Tryd.func13 (p := ty5) (psh := [none]) (r := ty42) (rsh := (Rsh.one (some 8))) (pre := some Sp.pre13) (fresh := (some 46)) (F := Sp.F13) (L := noL) (c := bodyOf Tryd.f13) (dflt := Ty.dflt ty42) rfl (no_loops)
    (safe_pre @sa13) va13
def GmT1 : List (Nat × Ct) := (30, ct30) :: (33, ct33) :: (13, ct13) :: GmT0
theorem gokGmT1 : GOk GmT1 := gok_cons ok30 ⟨_, Tryd.func30, by kernel_rfl, by kernel_rfl⟩ (gok_cons ok33 ⟨_, Tryd.func33, by kernel_rfl, by kernel_rfl⟩ (gok_cons ok13 ⟨_, Tryd.func13, by kernel_rfl, by kernel_rfl⟩ (gokGmT0)))
end Go.Proofs.YtjdaplmlmmnokaaDoor.Sy
