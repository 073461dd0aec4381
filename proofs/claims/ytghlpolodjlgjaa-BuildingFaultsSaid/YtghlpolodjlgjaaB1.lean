/- Contracts of functions, by the evaluator (own program gen.py): overlayref01.Hall, building.service, overlayref01.Service. -/
import Derived.Test.YtghlpolodjlgjaaB0
set_option linter.unusedVariables false
set_option linter.unusedSimpArgs false
set_option maxRecDepth 100000
namespace Go.Proofs.Ytghlpolodjlgjaa.Sy
open Go Go.RowKit Sp
/-! overlayref01.Hall -/
end Go.Proofs.Ytghlpolodjlgjaa.Sy
namespace Go.Proofs.Ytghlpolodjlgjaa.Sp
open Go Go.RowKit Sy
def in11_3 (k : (Int × Int × Int × Int × Nat × Nat × Nat × List (Int × Int × Int × Int × Int × Int × Int × Int × Int))) (x : (Int × Int × Int)) : Prop := (0 : Int) ≤ x.1
def mu11_3 (k : (Int × Int × Int × Int × Nat × Nat × Nat × List (Int × Int × Int × Int × Int × Int × Int × Int × Int))) (x : (Int × Int × Int)) : Nat := ((32 : Int) - x.1).toNat
def st11_3 (k : (Int × Int × Int × Int × Nat × Nat × Nat × List (Int × Int × Int × Int × Int × Int × Int × Int × Int))) (x : (Int × Int × Int)) : BOut (Int × Int × Int × Int × Nat × Nat × Nat × List (Int × Int × Int × Int × Int × Int × Int × Int × Int)) (Int × Int × Int) (Int × Int) :=
  bif (decide (x.1 < (32 : Int))) then
    (bif (Sp.F22 (k, x.1, (1 : Int))) then
      (bif (Sp.F22 (k, x.1, (2 : Int))) then
        BOut.next k ((IntKind.i64.wrap (x.1 + (1 : Int))), (IntKind.u32.wrap ((BitVec.ofInt IntKind.u32.bits x.2.1 ||| BitVec.ofInt IntKind.u32.bits (IntKind.u32.wrap ((1 : Int) * 2 ^ (min ((IntKind.u64.wrap x.1)).toNat IntKind.u32.bits)))).toNat : Int)), (IntKind.u32.wrap ((BitVec.ofInt IntKind.u32.bits x.2.2 ||| BitVec.ofInt IntKind.u32.bits (IntKind.u32.wrap ((1 : Int) * 2 ^ (min ((IntKind.u64.wrap x.1)).toNat IntKind.u32.bits)))).toNat : Int)))
      else
        BOut.next k ((IntKind.i64.wrap (x.1 + (1 : Int))), (IntKind.u32.wrap ((BitVec.ofInt IntKind.u32.bits x.2.1 ||| BitVec.ofInt IntKind.u32.bits (IntKind.u32.wrap ((1 : Int) * 2 ^ (min ((IntKind.u64.wrap x.1)).toNat IntKind.u32.bits)))).toNat : Int)), x.2.2))
    else
      bif (Sp.F22 (k, x.1, (2 : Int))) then
        BOut.next k ((IntKind.i64.wrap (x.1 + (1 : Int))), x.2.1, (IntKind.u32.wrap ((BitVec.ofInt IntKind.u32.bits x.2.2 ||| BitVec.ofInt IntKind.u32.bits (IntKind.u32.wrap ((1 : Int) * 2 ^ (min ((IntKind.u64.wrap x.1)).toNat IntKind.u32.bits)))).toNat : Int)))
      else
        BOut.next k ((IntKind.i64.wrap (x.1 + (1 : Int))), x.2))
  else
    BOut.brk k x
def G11_3 (k : (Int × Int × Int × Int × Nat × Nat × Nat × List (Int × Int × Int × Int × Int × Int × Int × Int × Int))) (x : (Int × Int × Int)) : (Int × Int × Int) := endOf st11_3 k (Nat.succ (mu11_3 k x)) x
end Go.Proofs.Ytghlpolodjlgjaa.Sp
namespace Go.Proofs.Ytghlpolodjlgjaa.Sy
def LS11_3 : LS ty39.den := mkLS ty26 (Ty.pair ty3 ty39)  [] [(1, 8)] [(4, none)] [(3, 2)] [] [] [(1, 1), (3, 3)] 0 false Sp.in11_3 Sp.st11_3 Sp.mu11_3
theorem va11_3 (k : ty26.den) (x : (Ty.pair ty3 ty39).den) : ((evCode (ctxG GmB0) (lookL []) (bodyAt (bodyOf Try.f11) [0]) (tmpl LS11_3 (enc ty26 k) (enc (Ty.pair ty3 ty39) x)) (evRound LS11_3 (evRet (ctxG GmB0) Try.f11 (Rsh.one (some 2)) none ty39 .ret)))).val BOut.ret (BOut.brk (Ty.dflt ty26) (Ty.dflt (Ty.pair ty3 ty39))) = Sp.st11_3 k x := by kernel_rfl
theorem se11_3 (k : ty26.den) (x : (Ty.pair ty3 ty39).den) : ((evCode (ctxG GmB0) (lookL []) (bodyAt (bodyOf Try.f11) [0]) (tmpl LS11_3 (enc ty26 k) (enc (Ty.pair ty3 ty39) x)) (evRound LS11_3 (evRet (ctxG GmB0) Try.f11 (Rsh.one (some 2)) none ty39 .ret)))).safe = ((((decide (x.1 < (32 : Int))) = true → (((Sp.F22 (k, x.1, (1 : Int))) = true → ((0 ≤ (IntKind.u64.wrap x.1)) ∧ (((Sp.F22 (k, x.1, (2 : Int))) = true → ((0 ≤ (IntKind.u64.wrap x.1)) ∧ True)) ∧ ((Sp.F22 (k, x.1, (2 : Int))) = false → True)))) ∧ ((Sp.F22 (k, x.1, (1 : Int))) = false → (((Sp.F22 (k, x.1, (2 : Int))) = true → ((0 ≤ (IntKind.u64.wrap x.1)) ∧ True)) ∧ ((Sp.F22 (k, x.1, (2 : Int))) = false → True))))) ∧ ((decide (x.1 < (32 : Int))) = false → True))) := by kernel_rfl
set_option maxHeartbeats 4000000 in
theorem sa11_3 (k : ty26.den) (x : (Ty.pair ty3 ty39).den) (fk : Fit ty26 k) (fx : Fit (Ty.pair ty3 ty39) x) (h : Sp.in11_3 k x) : SafeW ((evCode (ctxG GmB0) (lookL []) (bodyAt (bodyOf Try.f11) [0]) (tmpl LS11_3 (enc ty26 k) (enc (Ty.pair ty3 ty39) x)) (evRound LS11_3 (evRet (ctxG GmB0) Try.f11 (Rsh.one (some 2)) none ty39 .ret)))) := by
  refine ⟨?_⟩
  rw [se11_3]
  try dsimp only [Ty.den] at *
  simp only [Sp.in11_3, Fit, maxLen] at h fk fx
  simp only [IntKind.wrap_i64, IntKind.wrap_u8, IntKind.wrap_u32, IntKind.wrap_u64, Sp.tmod_lit, Sp.tdiv_lit, bne_eq_false_iff_eq, Int.natCast_inj, setE, copyL, sliceL, zrow, List.length_append, List.length_cons, List.length_nil, List.length_set, List.length_replicate, List.length_take, List.length_drop, decide_eq_true_eq, decide_eq_false_iff_not, Bool.or_eq_true, Bool.and_eq_true, Bool.or_eq_false_iff, Bool.and_eq_false_iff, Bool.not_eq_true', Bool.not_eq_false', Bool.not_eq_true, Bool.not_eq_false, beq_iff_eq, beq_eq_false_iff_ne, bne_iff_ne, ne_eq, implies_true, and_true, true_and] at *
  all_goals ((repeat' (first | exact trivial | apply And.intro | intro _)) <;> first | trivial | omega | exact Sp.tmod_nn (by omega) | exact Sp.tmod_lt (by omega) (by omega))
set_option maxHeartbeats 4000000 in
theorem so11_3 (k : ty26.den) (x : (Ty.pair ty3 ty39).den) (fk : Fit ty26 k) (h : Sp.in11_3 k x) : StepOk false Sp.in11_3 Sp.mu11_3 k x (Sp.st11_3 k x) := by
  try dsimp only [Ty.den] at *
  simp only [Sp.in11_3, Fit, maxLen] at h fk
  unfold Sp.st11_3
  (repeat' (first | exact rfl | (refine StepOk.cnd (fun hc => ?_) (fun hc => ?_) <;> (try simp only [IntKind.wrap_i64, IntKind.wrap_u8, IntKind.wrap_u32, IntKind.wrap_u64, bne_eq_false_iff_eq, Int.natCast_inj, setE, copyL, sliceL, zrow, List.length_append, List.length_cons, List.length_nil, List.length_set, List.length_replicate, List.length_take, List.length_drop, decide_eq_true_eq, decide_eq_false_iff_not, Bool.or_eq_true, Bool.and_eq_true, Bool.or_eq_false_iff, Bool.and_eq_false_iff, Bool.not_eq_true', Bool.not_eq_false', Bool.not_eq_true, Bool.not_eq_false, beq_iff_eq, beq_eq_false_iff_ne, bne_iff_ne, ne_eq] at hc)) | refine StepOk.opt (fun _ => ?_))) <;> (first | exact rfl | (refine ⟨rfl, ?_, ?_⟩ <;> simp only [Sp.in11_3, Sp.mu11_3, IntKind.wrap_i64, IntKind.wrap_u8, IntKind.wrap_u32, IntKind.wrap_u64, Sp.tmod_lit, Sp.tdiv_lit, bne_eq_false_iff_eq, Int.natCast_inj, setE, copyL, sliceL, zrow, List.length_append, List.length_cons, List.length_nil, List.length_set, List.length_replicate, List.length_take, List.length_drop, decide_eq_true_eq, decide_eq_false_iff_not, Bool.or_eq_true, Bool.and_eq_true, Bool.or_eq_false_iff, Bool.and_eq_false_iff, Bool.not_eq_true', Bool.not_eq_false', Bool.not_eq_true, Bool.not_eq_false, beq_iff_eq, beq_eq_false_iff_ne, bne_iff_ne, ne_eq] <;> first | omega | (and_intros <;> first | omega | exact h.1 | exact h.2 | exact h.2.1 | exact h.2.2 | exact h.2.2.1 | exact h.2.2.2 | exact h.2.2.2.1 | exact h.2.2.2.2 | exact h.2.2.2.2.1 | exact h.2.2.2.2.2 | exact h.2.2.2.2.2.1 | exact h.2.2.2.2.2.2)))
theorem lo11_3 : LoopOk Try.prog gdS (RetAt Try.prog Try.f11 (Rsh.one (some 2)) none ty39) (bodyAt (bodyOf Try.f11) [0]) LS11_3 :=
  loop_run (ctxOkF gokGmB0 []) (L := lookL []) (loops_of (l := []) (by kernel_rfl) (loops_nil)) sa11_3 va11_3 so11_3
end Go.Proofs.Ytghlpolodjlgjaa.Sy
namespace Go.Proofs.Ytghlpolodjlgjaa.Sp
open Go Go.RowKit Sy
def F11 (x : Int × Int × Int × Int × Nat × Nat × Nat × List (Int × Int × Int × Int × Int × Int × Int × Int × Int)) : Int × Int :=
  (Sp.G11_3 x ((0 : Int), (0 : Int), (0 : Int))).2
end Go.Proofs.Ytghlpolodjlgjaa.Sp
namespace Go.Proofs.Ytghlpolodjlgjaa.Sy
def ct11 : Ct := { p := ty26, psh := [some 8], r := ty39, rsh := (Rsh.one (some 2)), pre := none, fresh := none, F := Sp.F11 }
theorem va11 (x : ty26.den) : ((evFn (ctxG GmB0) Try.f11 ty26 [some 8] (Rsh.one (some 2)) none ty39 (lookL [(3, LS11_3)]) x)).val (fun y => y) (Ty.dflt ty39) = Sp.F11 x := by kernel_rfl
theorem se11 (x : ty26.den) : ((evFn (ctxG GmB0) Try.f11 ty26 [some 8] (Rsh.one (some 2)) none ty39 (lookL [(3, LS11_3)]) x)).safe = (((Sp.in11_3 x ((0 : Int), (0 : Int), (0 : Int))) ∧ True)) := by kernel_rfl
theorem sa11 (x : ty26.den) (fx : Fit ty26 x) : SafeW ((evFn (ctxG GmB0) Try.f11 ty26 [some 8] (Rsh.one (some 2)) none ty39 (lookL [(3, LS11_3)]) x)) := by
  refine ⟨?_⟩
  rw [se11]
  try dsimp only [Ty.den] at *
  simp only [Fit, maxLen] at fx
  simp only [Sp.in11_3, IntKind.wrap_i64, IntKind.wrap_u8, IntKind.wrap_u32, IntKind.wrap_u64, Sp.tmod_lit, Sp.tdiv_lit, bne_eq_false_iff_eq, Int.natCast_inj, setE, copyL, sliceL, zrow, List.length_append, List.length_cons, List.length_nil, List.length_set, List.length_replicate, List.length_take, List.length_drop, decide_eq_true_eq, decide_eq_false_iff_not, Bool.or_eq_true, Bool.and_eq_true, Bool.or_eq_false_iff, Bool.and_eq_false_iff, Bool.not_eq_true', Bool.not_eq_false', Bool.not_eq_true, Bool.not_eq_false, beq_iff_eq, beq_eq_false_iff_ne, bne_iff_ne, ne_eq, implies_true, and_true, true_and] at *
  all_goals ((repeat' (first | exact trivial | apply And.intro | intro _)) <;> first | trivial | omega | exact Sp.tmod_nn (by omega) | exact Sp.tmod_lt (by omega) (by omega))
theorem ok11 : CtOk Try.prog gdS 11 ct11 :=
  fn_okU (ctxOkF gokGmB0 []) rfl Try.func11 (p := ty26) (psh := [some 8]) (r := ty39) (rsh := (Rsh.one (some 2))) (pre := none) (fresh := none) (F := Sp.F11) (L := (lookL [(3, LS11_3)])) (c := bodyOf Try.f11) (dflt := Ty.dflt ty39) rfl (loops_of (l := [bodyAt (bodyOf Try.f11) [0]]) (by kernel_rfl) (loops_cons (s0 := LS11_3) (by kernel_rfl) lo11_3 (loops_nil)))
    (safe_no @sa11) va11
/-! building.service -/
end Go.Proofs.Ytghlpolodjlgjaa.Sy
namespace Go.Proofs.Ytghlpolodjlgjaa.Sp
open Go Go.RowKit Sy
def F23 (x : Int × Int × Int × Int × Int × Int × Int × Int × Int × Int) : Int :=
  (IntKind.i64.wrap ((IntKind.i64.wrap ((IntKind.i64.wrap ((3 : Int) * x.1)) + (1 : Int))) * (IntKind.i64.wrap ((IntKind.i64.wrap ((IntKind.i64.wrap ((3 : Int) * (Sp.F25 x.2))) + x.2.2.2.2.2.1)) + (2 : Int)))))
end Go.Proofs.Ytghlpolodjlgjaa.Sp
namespace Go.Proofs.Ytghlpolodjlgjaa.Sy
def ct23 : Ct := { p := (Ty.pair ty3 ty30), psh := [none, some 9], r := ty3, rsh := (Rsh.one (none)), pre := none, fresh := none, F := Sp.F23 }
theorem va23 (x : (Ty.pair ty3 ty30).den) : ((evFn (ctxG GmB0) Try.f23 (Ty.pair ty3 ty30) [none, some 9] (Rsh.one (none)) none ty3 noL x)).val (fun y => y) (Ty.dflt ty3) = Sp.F23 x := by kernel_rfl
theorem se23 (x : (Ty.pair ty3 ty30).den) : ((evFn (ctxG GmB0) Try.f23 (Ty.pair ty3 ty30) [none, some 9] (Rsh.one (none)) none ty3 noL x)).safe = (True) := by kernel_rfl
theorem sa23 (x : (Ty.pair ty3 ty30).den) (fx : Fit (Ty.pair ty3 ty30) x) : SafeW ((evFn (ctxG GmB0) Try.f23 (Ty.pair ty3 ty30) [none, some 9] (Rsh.one (none)) none ty3 noL x)) := by
  refine ⟨?_⟩
  rw [se23]
  trivial
theorem ok23 : CtOk Try.prog gdS 23 ct23 :=
  fn_okU (ctxOkF gokGmB0 []) rfl Try.func23 (p := (Ty.pair ty3 ty30)) (psh := [none, some 9]) (r := ty3) (rsh := (Rsh.one (none))) (pre := none) (fresh := none) (F := Sp.F23) (L := noL) (c := bodyOf Try.f23) (dflt := Ty.dflt ty3) rfl (no_loops)
    (safe_no @sa23) va23
/-! overlayref01.Service -/
end Go.Proofs.Ytghlpolodjlgjaa.Sy
namespace Go.Proofs.Ytghlpolodjlgjaa.Sp
open Go Go.RowKit Sy
def F24 (x : (Int × Int × Int × Int × Nat × Nat × Nat × List (Int × Int × Int × Int × Int × Int × Int × Int × Int)) × Int) : Int :=
  bif ((((Sp.F9 x.1) != (0 : Int)) || (decide (x.2 < (0 : Int)))) || (decide (x.2 ≥ ((x.1.2.2.2.2.2.2.2).length : Int)))) then
    (0 : Int)
  else
    (IntKind.i64.wrap ((IntKind.i64.wrap ((IntKind.i64.wrap ((3 : Int) * x.1.1)) + (1 : Int))) * (IntKind.i64.wrap ((IntKind.i64.wrap ((IntKind.i64.wrap ((3 : Int) * (Sp.F27 (Sp.nthT x.1.2.2.2.2.2.2.2 x.2)))) + (Sp.nthT x.1.2.2.2.2.2.2.2 x.2).2.2.2.2.1)) + (2 : Int)))))
end Go.Proofs.Ytghlpolodjlgjaa.Sp
namespace Go.Proofs.Ytghlpolodjlgjaa.Sy
def ct24 : Ct := { p := (Ty.pair ty26 ty3), psh := [some 8, none], r := ty3, rsh := (Rsh.one (none)), pre := none, fresh := none, F := Sp.F24 }
theorem va24 (x : (Ty.pair ty26 ty3).den) : ((evFn (ctxG GmB0) Try.f24 (Ty.pair ty26 ty3) [some 8, none] (Rsh.one (none)) none ty3 noL x)).val (fun y => y) (Ty.dflt ty3) = Sp.F24 x := by kernel_rfl
theorem se24 (x : (Ty.pair ty26 ty3).den) : ((evFn (ctxG GmB0) Try.f24 (Ty.pair ty26 ty3) [some 8, none] (Rsh.one (none)) none ty3 noL x)).safe = (((((((Sp.F9 x.1) != (0 : Int)) || (decide (x.2 < (0 : Int)))) || (decide (x.2 ≥ ((x.1.2.2.2.2.2.2.2).length : Int)))) = true → True) ∧ (((((Sp.F9 x.1) != (0 : Int)) || (decide (x.2 < (0 : Int)))) || (decide (x.2 ≥ ((x.1.2.2.2.2.2.2.2).length : Int)))) = false → ((0 ≤ x.2 ∧ x.2 < ((x.1.2.2.2.2.2.2.2).length : Int)) ∧ True)))) := by kernel_rfl
theorem sa24 (x : (Ty.pair ty26 ty3).den) (fx : Fit (Ty.pair ty26 ty3) x) : SafeW ((evFn (ctxG GmB0) Try.f24 (Ty.pair ty26 ty3) [some 8, none] (Rsh.one (none)) none ty3 noL x)) := by
  refine ⟨?_⟩
  rw [se24]
  try dsimp only [Ty.den] at *
  simp only [Fit, maxLen] at fx
  simp only [true_and, IntKind.wrap_i64, IntKind.wrap_u8, IntKind.wrap_u32, IntKind.wrap_u64, Sp.tmod_lit, Sp.tdiv_lit, bne_eq_false_iff_eq, Int.natCast_inj, setE, copyL, sliceL, zrow, List.length_append, List.length_cons, List.length_nil, List.length_set, List.length_replicate, List.length_take, List.length_drop, decide_eq_true_eq, decide_eq_false_iff_not, Bool.or_eq_true, Bool.and_eq_true, Bool.or_eq_false_iff, Bool.and_eq_false_iff, Bool.not_eq_true', Bool.not_eq_false', Bool.not_eq_true, Bool.not_eq_false, beq_iff_eq, beq_eq_false_iff_ne, bne_iff_ne, ne_eq, implies_true, and_true, true_and] at *
  all_goals ((repeat' (first | exact trivial | apply And.intro | intro _)) <;> first | trivial | omega | exact Sp.tmod_nn (by omega) | exact Sp.tmod_lt (by omega) (by omega))
theorem ok24 : CtOk Try.prog gdS 24 ct24 :=
  fn_okU (ctxOkF gokGmB0 []) rfl Try.func24 (p := (Ty.pair ty26 ty3)) (psh := [some 8, none]) (r := ty3) (rsh := (Rsh.one (none))) (pre := none) (fresh := none) (F := Sp.F24) (L := noL) (c := bodyOf Try.f24) (dflt := Ty.dflt ty3) rfl (no_loops)
    (safe_no @sa24) va24
def GmB1 : List (Nat × Ct) := (11, ct11) :: (23, ct23) :: (24, ct24) :: GmB0
theorem gokGmB1 : GOk GmB1 := gok_cons ok11 ⟨_, Try.func11, by kernel_rfl, by kernel_rfl⟩ (gok_cons ok23 ⟨_, Try.func23, by kernel_rfl, by kernel_rfl⟩ (gok_cons ok24 ⟨_, Try.func24, by kernel_rfl, by kernel_rfl⟩ (gokGmB0)))
end Go.Proofs.Ytghlpolodjlgjaa.Sy
