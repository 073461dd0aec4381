/- Contracts of functions, by the evaluator (own program gen.py): building.Valid, overlayref01.Valid. -/
import Derived.Test.YtjdaplmlmmnokaaDoorT1
set_option linter.unusedVariables false
set_option linter.unusedSimpArgs false
set_option maxRecDepth 100000
namespace Go.Proofs.YtjdaplmlmmnokaaDoor.Sy
open Go Go.RowKit Sp
/-! building.Valid -/
end Go.Proofs.YtjdaplmlmmnokaaDoor.Sy
namespace Go.Proofs.YtjdaplmlmmnokaaDoor.Sp
open Go Go.RowKit Sy
def in26_7 (k : ((List (Int × Int × Int × Int × Int × Int × Int × Int × Int)) × Int × Int × Int × Int × Int × Nat × Nat × Nat × List (Int × Int × Int × Int × Int × Int × Int × Int × Int))) (x : (Bool × Int)) : Prop := (0 : Int) ≤ x.2 ∧ k.2.1 = ((k.1).length : Int)
def mu26_7 (k : ((List (Int × Int × Int × Int × Int × Int × Int × Int × Int)) × Int × Int × Int × Int × Int × Nat × Nat × Nat × List (Int × Int × Int × Int × Int × Int × Int × Int × Int))) (x : (Bool × Int)) : Nat := (k.2.1 - x.2).toNat
def st26_7 (k : ((List (Int × Int × Int × Int × Int × Int × Int × Int × Int)) × Int × Int × Int × Int × Int × Nat × Nat × Nat × List (Int × Int × Int × Int × Int × Int × Int × Int × Int))) (x : (Bool × Int)) : BOut ((List (Int × Int × Int × Int × Int × Int × Int × Int × Int)) × Int × Int × Int × Int × Int × Nat × Nat × Nat × List (Int × Int × Int × Int × Int × Int × Int × Int × Int)) (Bool × Int) (Int) :=
  bif (decide (x.2 < k.2.1)) then
    BOut.next k ((x.1 && (Sp.F30 ((Sp.nthT k.1 x.2), k.2.2.1))), (IntKind.i64.wrap (x.2 + (1 : Int))))
  else
    BOut.brk k x
def G26_7 (k : ((List (Int × Int × Int × Int × Int × Int × Int × Int × Int)) × Int × Int × Int × Int × Int × Nat × Nat × Nat × List (Int × Int × Int × Int × Int × Int × Int × Int × Int))) (x : (Bool × Int)) : (Bool × Int) := endOf st26_7 k (Nat.succ (mu26_7 k x)) x
end Go.Proofs.YtjdaplmlmmnokaaDoor.Sp
namespace Go.Proofs.YtjdaplmlmmnokaaDoor.Sy
def LS26_7 : LS ty58.den := mkLS (Ty.pair ty40 (Ty.pair ty3 ty42)) (Ty.pair ty4 ty3)  [(28, none), (29, none)] [(1, 8)] [(3, none), (30, none)] [] [] [] [(1, 1)] 0 false Sp.in26_7 Sp.st26_7 Sp.mu26_7
theorem va26_7 (k : (Ty.pair ty40 (Ty.pair ty3 ty42)).den) (x : (Ty.pair ty4 ty3).den) : ((evCode (ctxP PmC0 none GmT1 []) (lookL []) (bodyAt (bodyOf Tryd.f26) [0]) (tmpl LS26_7 (enc (Ty.pair ty40 (Ty.pair ty3 ty42)) k) (enc (Ty.pair ty4 ty3) x)) (evRound LS26_7 (evRet (ctxP PmC0 none GmT1 []) Tryd.f26 (Rsh.one (none)) none ty58 .ret)))).val BOut.ret (BOut.brk (Ty.dflt (Ty.pair ty40 (Ty.pair ty3 ty42))) (Ty.dflt (Ty.pair ty4 ty3))) = Sp.st26_7 k x := by kernel_rfl
theorem se26_7 (k : (Ty.pair ty40 (Ty.pair ty3 ty42)).den) (x : (Ty.pair ty4 ty3).den) : ((evCode (ctxP PmC0 none GmT1 []) (lookL []) (bodyAt (bodyOf Tryd.f26) [0]) (tmpl LS26_7 (enc (Ty.pair ty40 (Ty.pair ty3 ty42)) k) (enc (Ty.pair ty4 ty3) x)) (evRound LS26_7 (evRet (ctxP PmC0 none GmT1 []) Tryd.f26 (Rsh.one (none)) none ty58 .ret)))).safe = ((((decide (x.2 < k.2.1)) = true → ((0 ≤ x.2 ∧ x.2 < ((k.1).length : Int)) ∧ True)) ∧ ((decide (x.2 < k.2.1)) = false → True))) := by kernel_rfl
set_option maxHeartbeats 4000000 in
theorem sa26_7 (k : (Ty.pair ty40 (Ty.pair ty3 ty42)).den) (x : (Ty.pair ty4 ty3).den) (fk : Fit (Ty.pair ty40 (Ty.pair ty3 ty42)) k) (fx : Fit (Ty.pair ty4 ty3) x) (h : Sp.in26_7 k x) : SafeW ((evCode (ctxP PmC0 none GmT1 []) (lookL []) (bodyAt (bodyOf Tryd.f26) [0]) (tmpl LS26_7 (enc (Ty.pair ty40 (Ty.pair ty3 ty42)) k) (enc (Ty.pair ty4 ty3) x)) (evRound LS26_7 (evRet (ctxP PmC0 none GmT1 []) Tryd.f26 (Rsh.one (none)) none ty58 .ret)))) := by
  refine ⟨?_⟩
  rw [se26_7]
  try dsimp only [Ty.den] at *
  simp only [Sp.in26_7, Fit, maxLen] at h fk fx
  simp only [IntKind.wrap_i64, IntKind.wrap_u8, IntKind.wrap_u32, IntKind.wrap_u64, Sp.tmod_lit, Sp.tdiv_lit, bne_eq_false_iff_eq, Int.natCast_inj, setE, copyL, sliceL, zrow, List.length_append, List.length_cons, List.length_nil, List.length_set, List.length_replicate, List.length_take, List.length_drop, decide_eq_true_eq, decide_eq_false_iff_not, Bool.or_eq_true, Bool.and_eq_true, Bool.or_eq_false_iff, Bool.and_eq_false_iff, Bool.not_eq_true', Bool.not_eq_false', Bool.not_eq_true, Bool.not_eq_false, beq_iff_eq, beq_eq_false_iff_ne, bne_iff_ne, ne_eq, implies_true, and_true, true_and] at *
  all_goals ((repeat' (first | exact trivial | apply And.intro | intro _)) <;> first | trivial | omega | exact Sp.tmod_nn (by omega) | exact Sp.tmod_lt (by omega) (by omega))
set_option maxHeartbeats 4000000 in
theorem so26_7 (k : (Ty.pair ty40 (Ty.pair ty3 ty42)).den) (x : (Ty.pair ty4 ty3).den) (fk : Fit (Ty.pair ty40 (Ty.pair ty3 ty42)) k) (h : Sp.in26_7 k x) : StepOk false Sp.in26_7 Sp.mu26_7 k x (Sp.st26_7 k x) := by
  try dsimp only [Ty.den] at *
  simp only [Sp.in26_7, Fit, maxLen] at h fk
  unfold Sp.st26_7
  (repeat' (first | exact rfl | (refine StepOk.cnd (fun hc => ?_) (fun hc => ?_) <;> (try simp only [IntKind.wrap_i64, IntKind.wrap_u8, IntKind.wrap_u32, IntKind.wrap_u64, bne_eq_false_iff_eq, Int.natCast_inj, setE, copyL, sliceL, zrow, List.length_append, List.length_cons, List.length_nil, List.length_set, List.length_replicate, List.length_take, List.length_drop, decide_eq_true_eq, decide_eq_false_iff_not, Bool.or_eq_true, Bool.and_eq_true, Bool.or_eq_false_iff, Bool.and_eq_false_iff, Bool.not_eq_true', Bool.not_eq_false', Bool.not_eq_true, Bool.not_eq_false, beq_iff_eq, beq_eq_false_iff_ne, bne_iff_ne, ne_eq] at hc)) | refine StepOk.opt (fun _ => ?_))) <;> (first | exact rfl | (refine ⟨rfl, ?_, ?_⟩ <;> simp only [Sp.in26_7, Sp.mu26_7, IntKind.wrap_i64, IntKind.wrap_u8, IntKind.wrap_u32, IntKind.wrap_u64, Sp.tmod_lit, Sp.tdiv_lit, bne_eq_false_iff_eq, Int.natCast_inj, setE, copyL, sliceL, zrow, List.length_append, List.length_cons, List.length_nil, List.length_set, List.length_replicate, List.length_take, List.length_drop, decide_eq_true_eq, decide_eq_false_iff_not, Bool.or_eq_true, Bool.and_eq_true, Bool.or_eq_false_iff, Bool.and_eq_false_iff, Bool.not_eq_true', Bool.not_eq_false', Bool.not_eq_true, Bool.not_eq_false, beq_iff_eq, beq_eq_false_iff_ne, bne_iff_ne, ne_eq] <;> first | omega | (and_intros <;> first | omega | exact h.1 | exact h.2 | exact h.2.1 | exact h.2.2 | exact h.2.2.1 | exact h.2.2.2 | exact h.2.2.2.1 | exact h.2.2.2.2 | exact h.2.2.2.2.1 | exact h.2.2.2.2.2 | exact h.2.2.2.2.2.1 | exact h.2.2.2.2.2.2)))
theorem lo26_7 : LoopOk Tryd.prog gdS (RetAt Tryd.prog Tryd.f26 (Rsh.one (none)) none ty58) (bodyAt (bodyOf Tryd.f26) [0]) LS26_7 :=
  loop_run (ctxOkP pgokPmC0 fvok_none gokGmT1 []) (L := lookL []) (loops_of (l := []) (by kernel_rfl) (loops_nil)) sa26_7 va26_7 so26_7
end Go.Proofs.YtjdaplmlmmnokaaDoor.Sy
namespace Go.Proofs.YtjdaplmlmmnokaaDoor.Sp
open Go Go.RowKit Sy
def F26 (x : Int × Int × Int × Int × Nat × Nat × Nat × List (Int × Int × Int × Int × Int × Int × Int × Int × Int)) : Int :=
  bif (!(Sp.F29 ((2 : Int), (32 : Int), [x.1]))) then
    (10 : Int)
  else
    bif (!(Sp.F29 ((1 : Int), (8 : Int), [((x.2.2.2.2.2.2.2).length : Int)]))) then
      (11 : Int)
    else
      bif (!((Sp.G26_7 (x.2.2.2.2.2.2.2, ((x.2.2.2.2.2.2.2).length : Int), x) (((Sp.F29 ((1 : Int), (16 : Int), [x.2.1])) && (Sp.F29 ((1 : Int), (10000 : Int), [x.2.2.2.1]))), (0 : Int))).1)) then
        (12 : Int)
      else
        bif (!(Sp.F31 x)) then
          (13 : Int)
        else
          bif (!(Sp.F29 ((IntKind.i64.wrap ((IntKind.i64.wrap ((18 : Int) * ((x.2.2.2.2.2.2.2).length : Int))) + (24 : Int))), (65536 : Int), [x.2.2.1]))) then
            (14 : Int)
          else
            (0 : Int)
end Go.Proofs.YtjdaplmlmmnokaaDoor.Sp
namespace Go.Proofs.YtjdaplmlmmnokaaDoor.Sy
def ct26 : Ct := { p := ty42, psh := [some 8], r := ty58, rsh := (Rsh.one (none)), pre := none, fresh := none, F := Sp.F26 }
theorem va26 (x : ty42.den) : ((evFn (ctxP PmC0 none GmT1 []) Tryd.f26 ty42 [some 8] (Rsh.one (none)) none ty58 (lookL [(7, LS26_7)]) x)).val (fun y => y) (Ty.dflt ty58) = Sp.F26 x := by kernel_rfl
theorem se26 (x : ty42.den) : ((evFn (ctxP PmC0 none GmT1 []) Tryd.f26 ty42 [some 8] (Rsh.one (none)) none ty58 (lookL [(7, LS26_7)]) x)).safe = ((((!(Sp.F29 ((2 : Int), (32 : Int), [x.1]))) = true → True) ∧ ((!(Sp.F29 ((2 : Int), (32 : Int), [x.1]))) = false → (((!(Sp.F29 ((1 : Int), (8 : Int), [((x.2.2.2.2.2.2.2).length : Int)]))) = true → True) ∧ ((!(Sp.F29 ((1 : Int), (8 : Int), [((x.2.2.2.2.2.2.2).length : Int)]))) = false → ((Sp.in26_7 (x.2.2.2.2.2.2.2, ((x.2.2.2.2.2.2.2).length : Int), x) (((Sp.F29 ((1 : Int), (16 : Int), [x.2.1])) && (Sp.F29 ((1 : Int), (10000 : Int), [x.2.2.2.1]))), (0 : Int))) ∧ (((!((Sp.G26_7 (x.2.2.2.2.2.2.2, ((x.2.2.2.2.2.2.2).length : Int), x) (((Sp.F29 ((1 : Int), (16 : Int), [x.2.1])) && (Sp.F29 ((1 : Int), (10000 : Int), [x.2.2.2.1]))), (0 : Int))).1)) = true → True) ∧ ((!((Sp.G26_7 (x.2.2.2.2.2.2.2, ((x.2.2.2.2.2.2.2).length : Int), x) (((Sp.F29 ((1 : Int), (16 : Int), [x.2.1])) && (Sp.F29 ((1 : Int), (10000 : Int), [x.2.2.2.1]))), (0 : Int))).1)) = false → (((!(Sp.F31 x)) = true → True) ∧ ((!(Sp.F31 x)) = false → (((!(Sp.F29 ((IntKind.i64.wrap ((IntKind.i64.wrap ((18 : Int) * ((x.2.2.2.2.2.2.2).length : Int))) + (24 : Int))), (65536 : Int), [x.2.2.1]))) = true → True) ∧ ((!(Sp.F29 ((IntKind.i64.wrap ((IntKind.i64.wrap ((18 : Int) * ((x.2.2.2.2.2.2.2).length : Int))) + (24 : Int))), (65536 : Int), [x.2.2.1]))) = false → True)))))))))))) := by kernel_rfl
theorem sa26 (x : ty42.den) (fx : Fit ty42 x) : SafeW ((evFn (ctxP PmC0 none GmT1 []) Tryd.f26 ty42 [some 8] (Rsh.one (none)) none ty58 (lookL [(7, LS26_7)]) x)) := by
  refine ⟨?_⟩
  rw [se26]
  try dsimp only [Ty.den] at *
  simp only [Fit, maxLen] at fx
  simp only [Sp.in26_7, IntKind.wrap_i64, IntKind.wrap_u8, IntKind.wrap_u32, IntKind.wrap_u64, Sp.tmod_lit, Sp.tdiv_lit, bne_eq_false_iff_eq, Int.natCast_inj, setE, copyL, sliceL, zrow, List.length_append, List.length_cons, List.length_nil, List.length_set, List.length_replicate, List.length_take, List.length_drop, decide_eq_true_eq, decide_eq_false_iff_not, Bool.or_eq_true, Bool.and_eq_true, Bool.or_eq_false_iff, Bool.and_eq_false_iff, Bool.not_eq_true', Bool.not_eq_false', Bool.not_eq_true, Bool.not_eq_false, beq_iff_eq, beq_eq_false_iff_ne, bne_iff_ne, ne_eq, implies_true, and_true, true_and] at *
  all_goals ((repeat' (first | exact trivial | apply And.intro | intro _)) <;> first | trivial | omega | exact Sp.tmod_nn (by omega) | exact Sp.tmod_lt (by omega) (by omega))
theorem ok26 : CtOk Tryd.prog gdS 26 ct26 :=
  fn_okU (ctxOkP pgokPmC0 fvok_none gokGmT1 []) rfl Tryd.func26 (p := ty42) (psh := [some 8]) (r := ty58) (rsh := (Rsh.one (none))) (pre := none) (fresh := none) (F := Sp.F26) (L := (lookL [(7, LS26_7)])) (c := bodyOf Tryd.f26) (dflt := Ty.dflt ty58) rfl (loops_of (l := [bodyAt (bodyOf Tryd.f26) [0]]) (by kernel_rfl) (loops_cons (s0 := LS26_7) (by kernel_rfl) lo26_7 (loops_nil)))
    (safe_no @sa26) va26
/-! overlayref01.Valid -/
end Go.Proofs.YtjdaplmlmmnokaaDoor.Sy
namespace Go.Proofs.YtjdaplmlmmnokaaDoor.Sp
open Go Go.RowKit Sy
def in27_7 (k : (Int × Int × Int × Int × Nat × Nat × Nat × List (Int × Int × Int × Int × Int × Int × Int × Int × Int))) (x : (Bool × Int)) : Prop := (0 : Int) ≤ x.2
def mu27_7 (k : (Int × Int × Int × Int × Nat × Nat × Nat × List (Int × Int × Int × Int × Int × Int × Int × Int × Int))) (x : (Bool × Int)) : Nat := (((k.2.2.2.2.2.2.2).length : Int) - x.2).toNat
def st27_7 (k : (Int × Int × Int × Int × Nat × Nat × Nat × List (Int × Int × Int × Int × Int × Int × Int × Int × Int))) (x : (Bool × Int)) : BOut (Int × Int × Int × Int × Nat × Nat × Nat × List (Int × Int × Int × Int × Int × Int × Int × Int × Int)) (Bool × Int) (Int) :=
  bif (decide (x.2 < ((k.2.2.2.2.2.2.2).length : Int))) then
    BOut.next k ((x.1 && (Sp.F33 (k, (Sp.nthT k.2.2.2.2.2.2.2 x.2)))), (IntKind.i64.wrap (x.2 + (1 : Int))))
  else
    BOut.brk k x
def G27_7 (k : (Int × Int × Int × Int × Nat × Nat × Nat × List (Int × Int × Int × Int × Int × Int × Int × Int × Int))) (x : (Bool × Int)) : (Bool × Int) := endOf st27_7 k (Nat.succ (mu27_7 k x)) x
end Go.Proofs.YtjdaplmlmmnokaaDoor.Sp
namespace Go.Proofs.YtjdaplmlmmnokaaDoor.Sy
def LS27_7 : LS ty58.den := mkLS ty42 (Ty.pair ty4 ty3)  [] [(1, 8)] [(3, none), (4, none)] [] [] [] [(1, 1)] 0 false Sp.in27_7 Sp.st27_7 Sp.mu27_7
theorem va27_7 (k : ty42.den) (x : (Ty.pair ty4 ty3).den) : ((evCode (ctxP PmC0 none GmT1 []) (lookL []) (bodyAt (bodyOf Tryd.f27) [0]) (tmpl LS27_7 (enc ty42 k) (enc (Ty.pair ty4 ty3) x)) (evRound LS27_7 (evRet (ctxP PmC0 none GmT1 []) Tryd.f27 (Rsh.one (none)) none ty58 .ret)))).val BOut.ret (BOut.brk (Ty.dflt ty42) (Ty.dflt (Ty.pair ty4 ty3))) = Sp.st27_7 k x := by kernel_rfl
theorem se27_7 (k : ty42.den) (x : (Ty.pair ty4 ty3).den) : ((evCode (ctxP PmC0 none GmT1 []) (lookL []) (bodyAt (bodyOf Tryd.f27) [0]) (tmpl LS27_7 (enc ty42 k) (enc (Ty.pair ty4 ty3) x)) (evRound LS27_7 (evRet (ctxP PmC0 none GmT1 []) Tryd.f27 (Rsh.one (none)) none ty58 .ret)))).safe = ((((decide (x.2 < ((k.2.2.2.2.2.2.2).length : Int))) = true → (((x.1 = true → 0 ≤ x.2 ∧ x.2 < ((k.2.2.2.2.2.2.2).length : Int))) ∧ True)) ∧ ((decide (x.2 < ((k.2.2.2.2.2.2.2).length : Int))) = false → True))) := by kernel_rfl
set_option maxHeartbeats 4000000 in
theorem sa27_7 (k : ty42.den) (x : (Ty.pair ty4 ty3).den) (fk : Fit ty42 k) (fx : Fit (Ty.pair ty4 ty3) x) (h : Sp.in27_7 k x) : SafeW ((evCode (ctxP PmC0 none GmT1 []) (lookL []) (bodyAt (bodyOf Tryd.f27) [0]) (tmpl LS27_7 (enc ty42 k) (enc (Ty.pair ty4 ty3) x)) (evRound LS27_7 (evRet (ctxP PmC0 none GmT1 []) Tryd.f27 (Rsh.one (none)) none ty58 .ret)))) := by
  refine ⟨?_⟩
  rw [se27_7]
  try dsimp only [Ty.den] at *
  simp only [Sp.in27_7, Fit, maxLen] at h fk fx
  simp only [IntKind.wrap_i64, IntKind.wrap_u8, IntKind.wrap_u32, IntKind.wrap_u64, Sp.tmod_lit, Sp.tdiv_lit, bne_eq_false_iff_eq, Int.natCast_inj, setE, copyL, sliceL, zrow, List.length_append, List.length_cons, List.length_nil, List.length_set, List.length_replicate, List.length_take, List.length_drop, decide_eq_true_eq, decide_eq_false_iff_not, Bool.or_eq_true, Bool.and_eq_true, Bool.or_eq_false_iff, Bool.and_eq_false_iff, Bool.not_eq_true', Bool.not_eq_false', Bool.not_eq_true, Bool.not_eq_false, beq_iff_eq, beq_eq_false_iff_ne, bne_iff_ne, ne_eq, implies_true, and_true, true_and] at *
  all_goals ((repeat' (first | exact trivial | apply And.intro | intro _)) <;> first | trivial | omega | exact Sp.tmod_nn (by omega) | exact Sp.tmod_lt (by omega) (by omega))
set_option maxHeartbeats 4000000 in
theorem so27_7 (k : ty42.den) (x : (Ty.pair ty4 ty3).den) (fk : Fit ty42 k) (h : Sp.in27_7 k x) : StepOk false Sp.in27_7 Sp.mu27_7 k x (Sp.st27_7 k x) := by
  try dsimp only [Ty.den] at *
  simp only [Sp.in27_7, Fit, maxLen] at h fk
  unfold Sp.st27_7
  (repeat' (first | exact rfl | (refine StepOk.cnd (fun hc => ?_) (fun hc => ?_) <;> (try simp only [IntKind.wrap_i64, IntKind.wrap_u8, IntKind.wrap_u32, IntKind.wrap_u64, bne_eq_false_iff_eq, Int.natCast_inj, setE, copyL, sliceL, zrow, List.length_append, List.length_cons, List.length_nil, List.length_set, List.length_replicate, List.length_take, List.length_drop, decide_eq_true_eq, decide_eq_false_iff_not, Bool.or_eq_true, Bool.and_eq_true, Bool.or_eq_false_iff, Bool.and_eq_false_iff, Bool.not_eq_true', Bool.not_eq_false', Bool.not_eq_true, Bool.not_eq_false, beq_iff_eq, beq_eq_false_iff_ne, bne_iff_ne, ne_eq] at hc)) | refine StepOk.opt (fun _ => ?_))) <;> (first | exact rfl | (refine ⟨rfl, ?_, ?_⟩ <;> simp only [Sp.in27_7, Sp.mu27_7, IntKind.wrap_i64, IntKind.wrap_u8, IntKind.wrap_u32, IntKind.wrap_u64, Sp.tmod_lit, Sp.tdiv_lit, bne_eq_false_iff_eq, Int.natCast_inj, setE, copyL, sliceL, zrow, List.length_append, List.length_cons, List.length_nil, List.length_set, List.length_replicate, List.length_take, List.length_drop, decide_eq_true_eq, decide_eq_false_iff_not, Bool.or_eq_true, Bool.and_eq_true, Bool.or_eq_false_iff, Bool.and_eq_false_iff, Bool.not_eq_true', Bool.not_eq_false', Bool.not_eq_true, Bool.not_eq_false, beq_iff_eq, beq_eq_false_iff_ne, bne_iff_ne, ne_eq] <;> first | omega | (and_intros <;> first | omega | exact h.1 | exact h.2 | exact h.2.1 | exact h.2.2 | exact h.2.2.1 | exact h.2.2.2 | exact h.2.2.2.1 | exact h.2.2.2.2 | exact h.2.2.2.2.1 | exact h.2.2.2.2.2 | exact h.2.2.2.2.2.1 | exact h.2.2.2.2.2.2)))
theorem lo27_7 : LoopOk Tryd.prog gdS (RetAt Tryd.prog Tryd.f27 (Rsh.one (none)) none ty58) (bodyAt (bodyOf Tryd.f27) [0]) LS27_7 :=
  loop_run (ctxOkP pgokPmC0 fvok_none gokGmT1 []) (L := lookL []) (loops_of (l := []) (by kernel_rfl) (loops_nil)) sa27_7 va27_7 so27_7
end Go.Proofs.YtjdaplmlmmnokaaDoor.Sy
namespace Go.Proofs.YtjdaplmlmmnokaaDoor.Sp
open Go Go.RowKit Sy
def F27 (x : Int × Int × Int × Int × Nat × Nat × Nat × List (Int × Int × Int × Int × Int × Int × Int × Int × Int)) : Int :=
  bif (!(Sp.F32 (x.1, (2 : Int), (32 : Int)))) then
    (10 : Int)
  else
    bif (!(Sp.F32 (((x.2.2.2.2.2.2.2).length : Int), (1 : Int), (8 : Int)))) then
      (11 : Int)
    else
      bif (!((Sp.G27_7 x (((Sp.F32 (x.2.1, (1 : Int), (16 : Int))) && (Sp.F32 (x.2.2.2.1, (1 : Int), (10000 : Int)))), (0 : Int))).1)) then
        (12 : Int)
      else
        bif (!(((((FloatKind.f64.format.order (0 : Nat) x.2.2.2.2.1) == some Ordering.lt) && ((FloatKind.f64.format.order x.2.2.2.2.1 x.2.2.2.2.2.1) == some Ordering.lt)) && ((FloatKind.f64.format.order x.2.2.2.2.2.1 x.2.2.2.2.2.2.1) == some Ordering.lt)) && ((FloatKind.f64.format.order x.2.2.2.2.2.2.1 (9218868437227405311 : Nat)) == some Ordering.lt || (FloatKind.f64.format.order x.2.2.2.2.2.2.1 (9218868437227405311 : Nat)) == some Ordering.eq))) then
          (13 : Int)
        else
          bif (!(Sp.F32 (x.2.2.1, (IntKind.i64.wrap ((IntKind.i64.wrap ((18 : Int) * ((x.2.2.2.2.2.2.2).length : Int))) + (24 : Int))), (65536 : Int)))) then
            (14 : Int)
          else
            (0 : Int)
end Go.Proofs.YtjdaplmlmmnokaaDoor.Sp
namespace Go.Proofs.YtjdaplmlmmnokaaDoor.Sy
def ct27 : Ct := { p := ty42, psh := [some 8], r := ty58, rsh := (Rsh.one (none)), pre := none, fresh := none, F := Sp.F27 }
theorem va27 (x : ty42.den) : ((evFn (ctxP PmC0 none GmT1 []) Tryd.f27 ty42 [some 8] (Rsh.one (none)) none ty58 (lookL [(7, LS27_7)]) x)).val (fun y => y) (Ty.dflt ty58) = Sp.F27 x := by kernel_rfl
theorem se27 (x : ty42.den) : ((evFn (ctxP PmC0 none GmT1 []) Tryd.f27 ty42 [some 8] (Rsh.one (none)) none ty58 (lookL [(7, LS27_7)]) x)).safe = ((((!(Sp.F32 (x.1, (2 : Int), (32 : Int)))) = true → True) ∧ ((!(Sp.F32 (x.1, (2 : Int), (32 : Int)))) = false → (((!(Sp.F32 (((x.2.2.2.2.2.2.2).length : Int), (1 : Int), (8 : Int)))) = true → True) ∧ ((!(Sp.F32 (((x.2.2.2.2.2.2.2).length : Int), (1 : Int), (8 : Int)))) = false → ((Sp.in27_7 x (((Sp.F32 (x.2.1, (1 : Int), (16 : Int))) && (Sp.F32 (x.2.2.2.1, (1 : Int), (10000 : Int)))), (0 : Int))) ∧ (((!((Sp.G27_7 x (((Sp.F32 (x.2.1, (1 : Int), (16 : Int))) && (Sp.F32 (x.2.2.2.1, (1 : Int), (10000 : Int)))), (0 : Int))).1)) = true → True) ∧ ((!((Sp.G27_7 x (((Sp.F32 (x.2.1, (1 : Int), (16 : Int))) && (Sp.F32 (x.2.2.2.1, (1 : Int), (10000 : Int)))), (0 : Int))).1)) = false → (((!(((((FloatKind.f64.format.order (0 : Nat) x.2.2.2.2.1) == some Ordering.lt) && ((FloatKind.f64.format.order x.2.2.2.2.1 x.2.2.2.2.2.1) == some Ordering.lt)) && ((FloatKind.f64.format.order x.2.2.2.2.2.1 x.2.2.2.2.2.2.1) == some Ordering.lt)) && ((FloatKind.f64.format.order x.2.2.2.2.2.2.1 (9218868437227405311 : Nat)) == some Ordering.lt || (FloatKind.f64.format.order x.2.2.2.2.2.2.1 (9218868437227405311 : Nat)) == some Ordering.eq))) = true → True) ∧ ((!(((((FloatKind.f64.format.order (0 : Nat) x.2.2.2.2.1) == some Ordering.lt) && ((FloatKind.f64.format.order x.2.2.2.2.1 x.2.2.2.2.2.1) == some Ordering.lt)) && ((FloatKind.f64.format.order x.2.2.2.2.2.1 x.2.2.2.2.2.2.1) == some Ordering.lt)) && ((FloatKind.f64.format.order x.2.2.2.2.2.2.1 (9218868437227405311 : Nat)) == some Ordering.lt || (FloatKind.f64.format.order x.2.2.2.2.2.2.1 (9218868437227405311 : Nat)) == some Ordering.eq))) = false → (((!(Sp.F32 (x.2.2.1, (IntKind.i64.wrap ((IntKind.i64.wrap ((18 : Int) * ((x.2.2.2.2.2.2.2).length : Int))) + (24 : Int))), (65536 : Int)))) = true → True) ∧ ((!(Sp.F32 (x.2.2.1, (IntKind.i64.wrap ((IntKind.i64.wrap ((18 : Int) * ((x.2.2.2.2.2.2.2).length : Int))) + (24 : Int))), (65536 : Int)))) = false → True)))))))))))) := by kernel_rfl
theorem sa27 (x : ty42.den) (fx : Fit ty42 x) : SafeW ((evFn (ctxP PmC0 none GmT1 []) Tryd.f27 ty42 [some 8] (Rsh.one (none)) none ty58 (lookL [(7, LS27_7)]) x)) := by
  refine ⟨?_⟩
  rw [se27]
  try dsimp only [Ty.den] at *
  simp only [Fit, maxLen] at fx
  simp only [Sp.in27_7, IntKind.wrap_i64, IntKind.wrap_u8, IntKind.wrap_u32, IntKind.wrap_u64, Sp.tmod_lit, Sp.tdiv_lit, bne_eq_false_iff_eq, Int.natCast_inj, setE, copyL, sliceL, zrow, List.length_append, List.length_cons, List.length_nil, List.length_set, List.length_replicate, List.length_take, List.length_drop, decide_eq_true_eq, decide_eq_false_iff_not, Bool.or_eq_true, Bool.and_eq_true, Bool.or_eq_false_iff, Bool.and_eq_false_iff, Bool.not_eq_true', Bool.not_eq_false', Bool.not_eq_true, Bool.not_eq_false, beq_iff_eq, beq_eq_false_iff_ne, bne_iff_ne, ne_eq, implies_true, and_true, true_and] at *
  all_goals ((repeat' (first | exact trivial | apply And.intro | intro _)) <;> first | trivial | omega | exact Sp.tmod_nn (by omega) | exact Sp.tmod_lt (by omega) (by omega))
theorem ok27 : CtOk Tryd.prog gdS 27 ct27 :=
  fn_okU (ctxOkP pgokPmC0 fvok_none gokGmT1 []) rfl Tryd.func27 (p := ty42) (psh := [some 8]) (r := ty58) (rsh := (Rsh.one (none))) (pre := none) (fresh := none) (F := Sp.F27) (L := (lookL [(7, LS27_7)])) (c := bodyOf Tryd.f27) (dflt := Ty.dflt ty58) rfl (loops_of (l := [bodyAt (bodyOf Tryd.f27) [0]]) (by kernel_rfl) (loops_cons (s0 := LS27_7) (by kernel_rfl) lo27_7 (loops_nil)))
    (safe_no @sa27) va27
def GmT2 : List (Nat × Ct) := (26, ct26) :: (27, ct27) :: GmT1
theorem gokGmT2 : GOk GmT2 := gok_cons ok26 ⟨_, Tryd.func26, by kernel_rfl, by kernel_rfl⟩ (gok_cons ok27 ⟨_, Tryd.func27, by kernel_rfl, by kernel_rfl⟩ (gokGmT1))
end Go.Proofs.YtjdaplmlmmnokaaDoor.Sy
