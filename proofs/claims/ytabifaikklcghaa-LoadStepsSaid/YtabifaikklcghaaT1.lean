/- Contracts of functions, by the evaluator (own program gen.py): building.times, overlayref01.times, overlaylaw03.Building. -/
import Derived.Test.YtabifaikklcghaaT0
set_option linter.unusedVariables false
set_option linter.unusedSimpArgs false
set_option maxRecDepth 100000
namespace Go.Proofs.Ytabifaikklcghaa.Sy
open Go Go.RowKit Sp
/-! building.times -/
end Go.Proofs.Ytabifaikklcghaa.Sy
namespace Go.Proofs.Ytabifaikklcghaa.Sp
open Go Go.RowKit Sy
def F49 (x : (Int × Int × Int × Int × Int × Int × Int × Int × Int) × Int) : Bool :=
  ((((Sp.F48 ((1 : Int), (10000 : Int), [x.1.1, x.1.2.1, x.1.2.2.1, x.1.2.2.2.2.1, x.1.2.2.2.2.2.1, x.1.2.2.2.2.2.2.1, x.1.2.2.2.2.2.2.2.1])) && (Sp.F48 ((0 : Int), (10000 : Int), [x.1.2.2.2.1]))) && (decide (x.1.2.2.2.2.2.2.2.1 ≥ x.1.2.2.2.2.2.2.1))) && (Sp.F48 ((0 : Int), (IntKind.i64.wrap (x.2 - (1 : Int))), [x.1.2.2.2.2.2.2.2.2])))
end Go.Proofs.Ytabifaikklcghaa.Sp
namespace Go.Proofs.Ytabifaikklcghaa.Sy
def ct49 : Ct := { p := (Ty.pair ty72 ty3), psh := [some 9, none], r := ty4, rsh := (Rsh.one (none)), pre := none, fresh := none, F := Sp.F49 }
theorem va49 (x : (Ty.pair ty72 ty3).den) : ((evFn (ctxG GmT0) Try.f49 (Ty.pair ty72 ty3) [some 9, none] (Rsh.one (none)) none ty4 noL x)).val (fun y => y) (Ty.dflt ty4) = Sp.F49 x := by kernel_rfl
theorem se49 (x : (Ty.pair ty72 ty3).den) : ((evFn (ctxG GmT0) Try.f49 (Ty.pair ty72 ty3) [some 9, none] (Rsh.one (none)) none ty4 noL x)).safe = (True) := by kernel_rfl
theorem sa49 (x : (Ty.pair ty72 ty3).den) (fx : Fit (Ty.pair ty72 ty3) x) : SafeW ((evFn (ctxG GmT0) Try.f49 (Ty.pair ty72 ty3) [some 9, none] (Rsh.one (none)) none ty4 noL x)) := by
  refine ⟨?_⟩
  rw [se49]
  trivial
theorem ok49 : CtOk Try.prog gdS 49 ct49 :=
  fn_okU (ctxOkF gokGmT0 []) rfl Try.func49 (p := (Ty.pair ty72 ty3)) (psh := [some 9, none]) (r := ty4) (rsh := (Rsh.one (none))) (pre := none) (fresh := none) (F := Sp.F49) (L := noL) (c := bodyOf Try.f49) (dflt := Ty.dflt ty4) rfl (no_loops)
    (safe_no @sa49) va49
/-! overlayref01.times -/
end Go.Proofs.Ytabifaikklcghaa.Sy
namespace Go.Proofs.Ytabifaikklcghaa.Sp
open Go Go.RowKit Sy
def in53_5 (k : (List Int)) (x : (Int)) : Prop := (0 : Int) ≤ x ∧ k.length = 8
def mu53_5 (k : (List Int)) (x : (Int)) : Nat := ((7 : Int) - x).toNat
def st53_5 (k : (List Int)) (x : (Int)) : BOut (List Int) (Int) (Bool) :=
  bif (decide (x < (7 : Int))) then
    (bif (!(Sp.F52 ((Sp.nthT k x), (1 : Int), (10000 : Int)))) then
      BOut.ret false
    else
      BOut.next k (IntKind.i64.wrap (x + (1 : Int))))
  else
    BOut.brk k x
def G53_5 (k : (List Int)) (x : (Int)) : (Int) := endOf st53_5 k (Nat.succ (mu53_5 k x)) x
def R53_5 (k : (List Int)) (x : (Int)) : Option (Bool) := retOf st53_5 k (Nat.succ (mu53_5 k x)) x
end Go.Proofs.Ytabifaikklcghaa.Sp
namespace Go.Proofs.Ytabifaikklcghaa.Sy
def LS53_5 : LS ty4.den := mkLS ty47 ty3  [(5, none)] [] [(6, none)] [] [] [] [] 0 true Sp.in53_5 Sp.st53_5 Sp.mu53_5
theorem va53_5 (k : ty47.den) (x : ty3.den) : ((evCode (ctxG GmT0) (lookL []) (bodyAt (bodyOf Try.f53) [0]) (tmpl LS53_5 (enc ty47 k) (enc ty3 x)) (evRound LS53_5 (evRet (ctxG GmT0) Try.f53 (Rsh.one (none)) none ty4 .ret)))).val BOut.ret (BOut.brk (Ty.dflt ty47) (Ty.dflt ty3)) = Sp.st53_5 k x := by kernel_rfl
theorem se53_5 (k : ty47.den) (x : ty3.den) : ((evCode (ctxG GmT0) (lookL []) (bodyAt (bodyOf Try.f53) [0]) (tmpl LS53_5 (enc ty47 k) (enc ty3 x)) (evRound LS53_5 (evRet (ctxG GmT0) Try.f53 (Rsh.one (none)) none ty4 .ret)))).safe = ((((decide (x < (7 : Int))) = true → ((0 ≤ x ∧ x < ((k).length : Int)) ∧ (((!(Sp.F52 ((Sp.nthT k x), (1 : Int), (10000 : Int)))) = true → True) ∧ ((!(Sp.F52 ((Sp.nthT k x), (1 : Int), (10000 : Int)))) = false → True)))) ∧ ((decide (x < (7 : Int))) = false → True))) := by kernel_rfl
set_option maxHeartbeats 4000000 in
theorem sa53_5 (k : ty47.den) (x : ty3.den) (fk : Fit ty47 k) (fx : Fit ty3 x) (h : Sp.in53_5 k x) : SafeW ((evCode (ctxG GmT0) (lookL []) (bodyAt (bodyOf Try.f53) [0]) (tmpl LS53_5 (enc ty47 k) (enc ty3 x)) (evRound LS53_5 (evRet (ctxG GmT0) Try.f53 (Rsh.one (none)) none ty4 .ret)))) := by
  refine ⟨?_⟩
  rw [se53_5]
  try dsimp only [Ty.den] at *
  simp only [Sp.in53_5, Fit, maxLen] at h fk fx
  simp only [IntKind.wrap_i64, IntKind.wrap_u8, IntKind.wrap_u32, IntKind.wrap_u64, Sp.tmod_lit, Sp.tdiv_lit, bne_eq_false_iff_eq, Int.natCast_inj, setE, copyL, sliceL, zrow, List.length_append, List.length_cons, List.length_nil, List.length_set, List.length_replicate, List.length_take, List.length_drop, decide_eq_true_eq, decide_eq_false_iff_not, Bool.or_eq_true, Bool.and_eq_true, Bool.or_eq_false_iff, Bool.and_eq_false_iff, Bool.not_eq_true', Bool.not_eq_false', Bool.not_eq_true, Bool.not_eq_false, beq_iff_eq, beq_eq_false_iff_ne, bne_iff_ne, ne_eq, implies_true, and_true, true_and] at *
  all_goals ((repeat' (first | exact trivial | apply And.intro | intro _)) <;> first | trivial | omega | exact Sp.tmod_nn (by omega) | exact Sp.tmod_lt (by omega) (by omega))
set_option maxHeartbeats 4000000 in
theorem so53_5 (k : ty47.den) (x : ty3.den) (fk : Fit ty47 k) (h : Sp.in53_5 k x) : StepOk true Sp.in53_5 Sp.mu53_5 k x (Sp.st53_5 k x) := by
  try dsimp only [Ty.den] at *
  simp only [Sp.in53_5, Fit, maxLen] at h fk
  unfold Sp.st53_5
  (repeat' (first | exact rfl | (refine StepOk.cnd (fun hc => ?_) (fun hc => ?_) <;> (try simp only [IntKind.wrap_i64, IntKind.wrap_u8, IntKind.wrap_u32, IntKind.wrap_u64, bne_eq_false_iff_eq, Int.natCast_inj, setE, copyL, sliceL, zrow, List.length_append, List.length_cons, List.length_nil, List.length_set, List.length_replicate, List.length_take, List.length_drop, decide_eq_true_eq, decide_eq_false_iff_not, Bool.or_eq_true, Bool.and_eq_true, Bool.or_eq_false_iff, Bool.and_eq_false_iff, Bool.not_eq_true', Bool.not_eq_false', Bool.not_eq_true, Bool.not_eq_false, beq_iff_eq, beq_eq_false_iff_ne, bne_iff_ne, ne_eq] at hc)) | refine StepOk.opt (fun _ => ?_))) <;> (first | exact rfl | (refine ⟨rfl, ?_, ?_⟩ <;> simp only [Sp.in53_5, Sp.mu53_5, IntKind.wrap_i64, IntKind.wrap_u8, IntKind.wrap_u32, IntKind.wrap_u64, Sp.tmod_lit, Sp.tdiv_lit, bne_eq_false_iff_eq, Int.natCast_inj, setE, copyL, sliceL, zrow, List.length_append, List.length_cons, List.length_nil, List.length_set, List.length_replicate, List.length_take, List.length_drop, decide_eq_true_eq, decide_eq_false_iff_not, Bool.or_eq_true, Bool.and_eq_true, Bool.or_eq_false_iff, Bool.and_eq_false_iff, Bool.not_eq_true', Bool.not_eq_false', Bool.not_eq_true, Bool.not_eq_false, beq_iff_eq, beq_eq_false_iff_ne, bne_iff_ne, ne_eq] <;> first | omega | (and_intros <;> first | omega | exact h.1 | exact h.2 | exact h.2.1 | exact h.2.2 | exact h.2.2.1 | exact h.2.2.2 | exact h.2.2.2.1 | exact h.2.2.2.2 | exact h.2.2.2.2.1 | exact h.2.2.2.2.2 | exact h.2.2.2.2.2.1 | exact h.2.2.2.2.2.2)))
theorem lo53_5 : LoopOk Try.prog gdS (RetAt Try.prog Try.f53 (Rsh.one (none)) none ty4) (bodyAt (bodyOf Try.f53) [0]) LS53_5 :=
  loop_run (ctxOkF gokGmT0 []) (L := lookL []) (loops_of (l := []) (by kernel_rfl) (loops_nil)) sa53_5 va53_5 so53_5
end Go.Proofs.Ytabifaikklcghaa.Sy
namespace Go.Proofs.Ytabifaikklcghaa.Sp
open Go Go.RowKit Sy
def F53 (x : (Int × Int × Int × Int × Nat × Nat × Nat × List (Int × Int × Int × Int × Int × Int × Int × Int × Int)) × Int × Int × Int × Int × Int × Int × Int × Int × Int) : Bool :=
  bif ((decide (x.2.2.2.2.1 < (0 : Int))) || (decide (x.2.2.2.2.1 > (10000 : Int)))) then
    false
  else
    Sp.optR (Sp.R53_5 [x.2.1, x.2.2.1, x.2.2.2.1, x.2.2.2.2.2.1, x.2.2.2.2.2.2.1, x.2.2.2.2.2.2.2.1, x.2.2.2.2.2.2.2.2.1, (IntKind.i64.wrap (x.2.2.2.2.1 + (1 : Int)))] (0 : Int)) (fun y => y)
    (((decide (x.2.2.2.2.2.2.2.2.1 ≥ x.2.2.2.2.2.2.2.1)) && (Sp.F52 (x.2.2.2.2.2.2.2.2.2, (0 : Int), (IntKind.i64.wrap (x.1.1 - (1 : Int)))))))
end Go.Proofs.Ytabifaikklcghaa.Sp
namespace Go.Proofs.Ytabifaikklcghaa.Sy
def ct53 : Ct := { p := (Ty.pair ty28 ty72), psh := [some 8, some 9], r := ty4, rsh := (Rsh.one (none)), pre := none, fresh := none, F := Sp.F53 }
theorem va53 (x : (Ty.pair ty28 ty72).den) : ((evFn (ctxG GmT0) Try.f53 (Ty.pair ty28 ty72) [some 8, some 9] (Rsh.one (none)) none ty4 (lookL [(5, LS53_5)]) x)).val (fun y => y) (Ty.dflt ty4) = Sp.F53 x := by kernel_rfl
theorem se53 (x : (Ty.pair ty28 ty72).den) : ((evFn (ctxG GmT0) Try.f53 (Ty.pair ty28 ty72) [some 8, some 9] (Rsh.one (none)) none ty4 (lookL [(5, LS53_5)]) x)).safe = (((((decide (x.2.2.2.2.1 < (0 : Int))) || (decide (x.2.2.2.2.1 > (10000 : Int)))) = true → True) ∧ (((decide (x.2.2.2.2.1 < (0 : Int))) || (decide (x.2.2.2.2.1 > (10000 : Int)))) = false → ((Sp.in53_5 [x.2.1, x.2.2.1, x.2.2.2.1, x.2.2.2.2.2.1, x.2.2.2.2.2.2.1, x.2.2.2.2.2.2.2.1, x.2.2.2.2.2.2.2.2.1, (IntKind.i64.wrap (x.2.2.2.2.1 + (1 : Int)))] (0 : Int)) ∧ ((Sp.R53_5 [x.2.1, x.2.2.1, x.2.2.2.1, x.2.2.2.2.2.1, x.2.2.2.2.2.2.1, x.2.2.2.2.2.2.2.1, x.2.2.2.2.2.2.2.2.1, (IntKind.i64.wrap (x.2.2.2.2.1 + (1 : Int)))] (0 : Int)) = none → True))))) := by kernel_rfl
theorem sa53 (x : (Ty.pair ty28 ty72).den) (fx : Fit (Ty.pair ty28 ty72) x) : SafeW ((evFn (ctxG GmT0) Try.f53 (Ty.pair ty28 ty72) [some 8, some 9] (Rsh.one (none)) none ty4 (lookL [(5, LS53_5)]) x)) := by
  refine ⟨?_⟩
  rw [se53]
  try dsimp only [Ty.den] at *
  simp only [Fit, maxLen] at fx
  simp only [Sp.in53_5, IntKind.wrap_i64, IntKind.wrap_u8, IntKind.wrap_u32, IntKind.wrap_u64, Sp.tmod_lit, Sp.tdiv_lit, bne_eq_false_iff_eq, Int.natCast_inj, setE, copyL, sliceL, zrow, List.length_append, List.length_cons, List.length_nil, List.length_set, List.length_replicate, List.length_take, List.length_drop, decide_eq_true_eq, decide_eq_false_iff_not, Bool.or_eq_true, Bool.and_eq_true, Bool.or_eq_false_iff, Bool.and_eq_false_iff, Bool.not_eq_true', Bool.not_eq_false', Bool.not_eq_true, Bool.not_eq_false, beq_iff_eq, beq_eq_false_iff_ne, bne_iff_ne, ne_eq, implies_true, and_true, true_and] at *
  all_goals ((repeat' (first | exact trivial | apply And.intro | intro _)) <;> first | trivial | omega | exact Sp.tmod_nn (by omega) | exact Sp.tmod_lt (by omega) (by omega))
theorem ok53 : CtOk Try.prog gdS 53 ct53 :=
  fn_okU (ctxOkF gokGmT0 []) rfl Try.func53 (p := (Ty.pair ty28 ty72)) (psh := [some 8, some 9]) (r := ty4) (rsh := (Rsh.one (none))) (pre := none) (fresh := none) (F := Sp.F53) (L := (lookL [(5, LS53_5)])) (c := bodyOf Try.f53) (dflt := Ty.dflt ty4) rfl (loops_of (l := [bodyAt (bodyOf Try.f53) [0]]) (by kernel_rfl) (loops_cons (s0 := LS53_5) (by kernel_rfl) lo53_5 (loops_nil)))
    (safe_no @sa53) va53
/-! overlaylaw03.Building -/
end Go.Proofs.Ytabifaikklcghaa.Sy
namespace Go.Proofs.Ytabifaikklcghaa.Sp
open Go Go.RowKit Sy
def F13 (x : Int) : Int × Int × Int × Int × Nat × Nat × Nat × List (Int × Int × Int × Int × Int × Int × Int × Int × Int) :=
  (Sp.F35 ((IntKind.i64.wrap ((2 : Int) + (IntKind.i64.wrap (Int.tmod x (31 : Int))))), (IntKind.i64.wrap ((1 : Int) + (IntKind.i64.wrap (Int.tmod (IntKind.u8.wrap (Int.tdiv x (31 : Int))) (8 : Int)))))))
def pre13 (x : Int) : Prop := 0 ≤ x ∧ x ≤ 255
end Go.Proofs.Ytabifaikklcghaa.Sp
namespace Go.Proofs.Ytabifaikklcghaa.Sy
def ct13 : Ct := { p := ty5, psh := [none], r := ty28, rsh := (Rsh.one (some 8)), pre := some Sp.pre13, fresh := (some 72), F := Sp.F13 }
theorem va13 (x : ty5.den) : ((evFn (ctxG GmT0) Try.f13 ty5 [none] (Rsh.one (some 8)) (some 72) ty28 noL x)).val (fun y => y) (Ty.dflt ty28) = Sp.F13 x := by kernel_rfl
theorem se13 (x : ty5.den) : ((evFn (ctxG GmT0) Try.f13 ty5 [none] (Rsh.one (some 8)) (some 72) ty28 noL x)).safe = ((((31 : Int) ≠ 0) ∧ (((31 : Int) ≠ 0) ∧ (((8 : Int) ≠ 0) ∧ ((Sp.pre35 ((IntKind.i64.wrap ((2 : Int) + (IntKind.i64.wrap (Int.tmod x (31 : Int))))), (IntKind.i64.wrap ((1 : Int) + (IntKind.i64.wrap (Int.tmod (IntKind.u8.wrap (Int.tdiv x (31 : Int))) (8 : Int))))))) ∧ True))))) := by kernel_rfl
theorem sa13 (x : ty5.den) (fx : Fit ty5 x) (h : Sp.pre13 x) : SafeW ((evFn (ctxG GmT0) Try.f13 ty5 [none] (Rsh.one (some 8)) (some 72) ty28 noL x)) := by
  refine ⟨?_⟩
  rw [se13]
  try dsimp only [Ty.den] at *
  simp only [Fit, maxLen] at fx
  simp only [Sp.pre13, Sp.pre35, IntKind.wrap_i64, IntKind.wrap_u8, IntKind.wrap_u32, IntKind.wrap_u64, Sp.tmod_lit, Sp.tdiv_lit, bne_eq_false_iff_eq, Int.natCast_inj, setE, copyL, sliceL, zrow, List.length_append, List.length_cons, List.length_nil, List.length_set, List.length_replicate, List.length_take, List.length_drop, decide_eq_true_eq, decide_eq_false_iff_not, Bool.or_eq_true, Bool.and_eq_true, Bool.or_eq_false_iff, Bool.and_eq_false_iff, Bool.not_eq_true', Bool.not_eq_false', Bool.not_eq_true, Bool.not_eq_false, beq_iff_eq, beq_eq_false_iff_ne, bne_iff_ne, ne_eq, implies_true, and_true, true_and] at *
  all_goals ((repeat' (first | exact trivial | apply And.intro | intro _)) <;> first | trivial | omega | exact Sp.tmod_nn (by omega) | exact Sp.tmod_lt (by omega) (by omega))
theorem ok13 : CtOk Try.prog gdS 13 ct13 :=
  fn_okU (ctxOkF gokGmT0 []) rfl Try.func13 (p := ty5) (psh := [none]) (r := ty28) (rsh := (Rsh.one (some 8))) (pre := some Sp.pre13) (fresh := (some 72)) (F := Sp.F13) (L := noL) (c := bodyOf Try.f13) (dflt := Ty.dflt ty28) rfl (no_loops)
    (safe_pre @sa13) va13
def GmT1 : List (Nat × Ct) := (49, ct49) :: (53, ct53) :: (13, ct13) :: GmT0
theorem gokGmT1 : GOk GmT1 := gok_cons ok49 ⟨_, Try.func49, by kernel_rfl, by kernel_rfl⟩ (gok_cons ok53 ⟨_, Try.func53, by kernel_rfl, by kernel_rfl⟩ (gok_cons ok13 ⟨_, Try.func13, by kernel_rfl, by kernel_rfl⟩ (gokGmT0)))
end Go.Proofs.Ytabifaikklcghaa.Sy
