/- Contracts of functions, by the evaluator (own program gen.py): overlaylaw06.LoadClasses, overlaylaw06.LoadSteps. -/
import Derived.Test.YtabifaikklcghaaK3
set_option linter.unusedVariables false
set_option linter.unusedSimpArgs false
set_option maxRecDepth 100000
namespace Go.Proofs.Ytabifaikklcghaa.Sy
open Go Go.RowKit Sp
/-! overlaylaw06.LoadClasses -/
end Go.Proofs.Ytabifaikklcghaa.Sy
namespace Go.Proofs.Ytabifaikklcghaa.Sp
open Go Go.RowKit Sy
def in10_6 (k : ((List Nat) × Int × Int × Int × Int × Nat × Nat × Nat × List (Int × Int × Int × Int × Int × Int × Int × Int × Int))) (x : (Int)) : Prop := (0 : Int) ≤ x
def mu10_6 (k : ((List Nat) × Int × Int × Int × Int × Nat × Nat × Nat × List (Int × Int × Int × Int × Int × Int × Int × Int × Int))) (x : (Int)) : Nat := (((k.1).length : Int) - x).toNat
def st10_6 (k : ((List Nat) × Int × Int × Int × Int × Nat × Nat × Nat × List (Int × Int × Int × Int × Int × Int × Int × Int × Int))) (x : (Int)) : BOut ((List Nat) × Int × Int × Int × Int × Nat × Nat × Nat × List (Int × Int × Int × Int × Int × Int × Int × Int × Int)) (Int) (Bool) :=
  bif (decide (x < ((k.1).length : Int))) then
    (bif ((Sp.F28 (k.2, (Sp.nthT k.1 x))) != (Sp.F33 (k.2, (Sp.nthT k.1 x)))) then
      BOut.ret false
    else
      BOut.next k (IntKind.i64.wrap (x + (1 : Int))))
  else
    BOut.brk k x
def G10_6 (k : ((List Nat) × Int × Int × Int × Int × Nat × Nat × Nat × List (Int × Int × Int × Int × Int × Int × Int × Int × Int))) (x : (Int)) : (Int) := endOf st10_6 k (Nat.succ (mu10_6 k x)) x
def R10_6 (k : ((List Nat) × Int × Int × Int × Int × Nat × Nat × Nat × List (Int × Int × Int × Int × Int × Int × Int × Int × Int))) (x : (Int)) : Option (Bool) := retOf st10_6 k (Nat.succ (mu10_6 k x)) x
end Go.Proofs.Ytabifaikklcghaa.Sp
namespace Go.Proofs.Ytabifaikklcghaa.Sy
def LS10_6 : LS ty4.den := mkLS (Ty.pair ty44 ty28) ty3  [(8, none)] [(7, 8)] [(9, none)] [] [] [26] [(7, 7)] 0 true Sp.in10_6 Sp.st10_6 Sp.mu10_6
theorem va10_6 (k : (Ty.pair ty44 ty28).den) (x : ty3.den) : ((evCode (ctxF GmK3 [(4, [21])]) (lookL []) (bodyAt (bodyOf Try.f10) [0]) (tmpl LS10_6 (enc (Ty.pair ty44 ty28) k) (enc ty3 x)) (evRound LS10_6 (evRet (ctxF GmK3 [(4, [21])]) Try.f10 (Rsh.one (none)) none ty4 .ret)))).val BOut.ret (BOut.brk (Ty.dflt (Ty.pair ty44 ty28)) (Ty.dflt ty3)) = Sp.st10_6 k x := by kernel_rfl
theorem se10_6 (k : (Ty.pair ty44 ty28).den) (x : ty3.den) : ((evCode (ctxF GmK3 [(4, [21])]) (lookL []) (bodyAt (bodyOf Try.f10) [0]) (tmpl LS10_6 (enc (Ty.pair ty44 ty28) k) (enc ty3 x)) (evRound LS10_6 (evRet (ctxF GmK3 [(4, [21])]) Try.f10 (Rsh.one (none)) none ty4 .ret)))).safe = ((((decide (x < ((k.1).length : Int))) = true → ((0 ≤ x ∧ x < ((k.1).length : Int)) ∧ ((0 ≤ x ∧ x < ((k.1).length : Int)) ∧ ((((Sp.F28 (k.2, (Sp.nthT k.1 x))) != (Sp.F33 (k.2, (Sp.nthT k.1 x)))) = true → True) ∧ (((Sp.F28 (k.2, (Sp.nthT k.1 x))) != (Sp.F33 (k.2, (Sp.nthT k.1 x)))) = false → True))))) ∧ ((decide (x < ((k.1).length : Int))) = false → True))) := by kernel_rfl
set_option maxHeartbeats 4000000 in
theorem sa10_6 (k : (Ty.pair ty44 ty28).den) (x : ty3.den) (fk : Fit (Ty.pair ty44 ty28) k) (fx : Fit ty3 x) (h : Sp.in10_6 k x) : SafeW ((evCode (ctxF GmK3 [(4, [21])]) (lookL []) (bodyAt (bodyOf Try.f10) [0]) (tmpl LS10_6 (enc (Ty.pair ty44 ty28) k) (enc ty3 x)) (evRound LS10_6 (evRet (ctxF GmK3 [(4, [21])]) Try.f10 (Rsh.one (none)) none ty4 .ret)))) := by
  refine ⟨?_⟩
  rw [se10_6]
  try dsimp only [Ty.den] at *
  simp only [Sp.in10_6, Fit, maxLen] at h fk fx
  simp only [IntKind.wrap_i64, IntKind.wrap_u8, IntKind.wrap_u32, IntKind.wrap_u64, Sp.tmod_lit, Sp.tdiv_lit, bne_eq_false_iff_eq, Int.natCast_inj, setE, copyL, sliceL, zrow, List.length_append, List.length_cons, List.length_nil, List.length_set, List.length_replicate, List.length_take, List.length_drop, decide_eq_true_eq, decide_eq_false_iff_not, Bool.or_eq_true, Bool.and_eq_true, Bool.or_eq_false_iff, Bool.and_eq_false_iff, Bool.not_eq_true', Bool.not_eq_false', Bool.not_eq_true, Bool.not_eq_false, beq_iff_eq, beq_eq_false_iff_ne, bne_iff_ne, ne_eq, implies_true, and_true, true_and] at *
  all_goals ((repeat' (first | exact trivial | apply And.intro | intro _)) <;> first | trivial | omega | exact Sp.tmod_nn (by omega) | exact Sp.tmod_lt (by omega) (by omega))
set_option maxHeartbeats 4000000 in
theorem so10_6 (k : (Ty.pair ty44 ty28).den) (x : ty3.den) (fk : Fit (Ty.pair ty44 ty28) k) (h : Sp.in10_6 k x) : StepOk true Sp.in10_6 Sp.mu10_6 k x (Sp.st10_6 k x) := by
  try dsimp only [Ty.den] at *
  simp only [Sp.in10_6, Fit, maxLen] at h fk
  unfold Sp.st10_6
  (repeat' (first | exact rfl | (refine StepOk.cnd (fun hc => ?_) (fun hc => ?_) <;> (try simp only [IntKind.wrap_i64, IntKind.wrap_u8, IntKind.wrap_u32, IntKind.wrap_u64, bne_eq_false_iff_eq, Int.natCast_inj, setE, copyL, sliceL, zrow, List.length_append, List.length_cons, List.length_nil, List.length_set, List.length_replicate, List.length_take, List.length_drop, decide_eq_true_eq, decide_eq_false_iff_not, Bool.or_eq_true, Bool.and_eq_true, Bool.or_eq_false_iff, Bool.and_eq_false_iff, Bool.not_eq_true', Bool.not_eq_false', Bool.not_eq_true, Bool.not_eq_false, beq_iff_eq, beq_eq_false_iff_ne, bne_iff_ne, ne_eq] at hc)) | refine StepOk.opt (fun _ => ?_))) <;> (first | exact rfl | (refine ⟨rfl, ?_, ?_⟩ <;> simp only [Sp.in10_6, Sp.mu10_6, IntKind.wrap_i64, IntKind.wrap_u8, IntKind.wrap_u32, IntKind.wrap_u64, Sp.tmod_lit, Sp.tdiv_lit, bne_eq_false_iff_eq, Int.natCast_inj, setE, copyL, sliceL, zrow, List.length_append, List.length_cons, List.length_nil, List.length_set, List.length_replicate, List.length_take, List.length_drop, decide_eq_true_eq, decide_eq_false_iff_not, Bool.or_eq_true, Bool.and_eq_true, Bool.or_eq_false_iff, Bool.and_eq_false_iff, Bool.not_eq_true', Bool.not_eq_false', Bool.not_eq_true, Bool.not_eq_false, beq_iff_eq, beq_eq_false_iff_ne, bne_iff_ne, ne_eq] <;> first | omega | (and_intros <;> first | omega | exact h.1 | exact h.2 | exact h.2.1 | exact h.2.2 | exact h.2.2.1 | exact h.2.2.2 | exact h.2.2.2.1 | exact h.2.2.2.2 | exact h.2.2.2.2.1 | exact h.2.2.2.2.2 | exact h.2.2.2.2.2.1 | exact h.2.2.2.2.2.2)))
theorem lo10_6 : LoopOk Try.prog gdS (RetAt Try.prog Try.f10 (Rsh.one (none)) none ty4) (bodyAt (bodyOf Try.f10) [0]) LS10_6 :=
  loop_run (ctxOkF gokGmK3 [(4, [21])]) (L := lookL []) (loops_of (l := []) (by kernel_rfl) (loops_nil)) sa10_6 va10_6 so10_6
end Go.Proofs.Ytabifaikklcghaa.Sy
namespace Go.Proofs.Ytabifaikklcghaa.Sp
open Go Go.RowKit Sy
def F10 (x : (Int × Int × Int × Int × Nat × Nat × Nat × List (Int × Int × Int × Int × Int × Int × Int × Int × Int)) × Nat × Nat × Nat × Nat) : Bool :=
  bif (decide (((x.1.2.2.2.2.2.2.2).length : Int) > (20 : Int))) then
    (Sp.F27 ())
  else
    Sp.optR (Sp.R10_6 (((Sp.F32 (Sp.F23 x.2.2)) ++ [x.2.1]), (Sp.F23 x.2.2)) (0 : Int)) (fun y => y)
    ((((Sp.F28 (x.1, x.2.1)) == (Sp.F33 (x.1, x.2.1))) && (Sp.F27 ())))
end Go.Proofs.Ytabifaikklcghaa.Sp
namespace Go.Proofs.Ytabifaikklcghaa.Sy
def ct10 : Ct := { p := (Ty.pair ty28 (Ty.pair ty25 ty45)), psh := [some 8, none, some 3], r := ty4, rsh := (Rsh.one (none)), pre := none, fresh := none, F := Sp.F10 }
theorem va10 (x : (Ty.pair ty28 (Ty.pair ty25 ty45)).den) : ((evFn (ctxF GmK3 [(4, [21])]) Try.f10 (Ty.pair ty28 (Ty.pair ty25 ty45)) [some 8, none, some 3] (Rsh.one (none)) none ty4 (lookL [(6, LS10_6)]) x)).val (fun y => y) (Ty.dflt ty4) = Sp.F10 x := by kernel_rfl
theorem se10 (x : (Ty.pair ty28 (Ty.pair ty25 ty45)).den) : ((evFn (ctxF GmK3 [(4, [21])]) Try.f10 (Ty.pair ty28 (Ty.pair ty25 ty45)) [some 8, none, some 3] (Rsh.one (none)) none ty4 (lookL [(6, LS10_6)]) x)).safe = ((((decide (((x.1.2.2.2.2.2.2.2).length : Int) > (20 : Int))) = true → True) ∧ ((decide (((x.1.2.2.2.2.2.2.2).length : Int) > (20 : Int))) = false → ((Sp.pre32 (Sp.F23 x.2.2)) ∧ (((List.length ((Sp.F32 (Sp.F23 x.2.2)) : List Nat) + List.length ([x.2.1] : List Nat)) * 8 ≤ 140737488355328 ∧ List.length ((Sp.F32 (Sp.F23 x.2.2)) : List Nat) + List.length ([x.2.1] : List Nat) ≤ 4611686018427387903) ∧ ((Sp.in10_6 (((Sp.F32 (Sp.F23 x.2.2)) ++ [x.2.1]), (Sp.F23 x.2.2)) (0 : Int)) ∧ ((Sp.R10_6 (((Sp.F32 (Sp.F23 x.2.2)) ++ [x.2.1]), (Sp.F23 x.2.2)) (0 : Int)) = none → True))))))) := by kernel_rfl
theorem sa10 (x : (Ty.pair ty28 (Ty.pair ty25 ty45)).den) (fx : Fit (Ty.pair ty28 (Ty.pair ty25 ty45)) x) : SafeW ((evFn (ctxF GmK3 [(4, [21])]) Try.f10 (Ty.pair ty28 (Ty.pair ty25 ty45)) [some 8, none, some 3] (Rsh.one (none)) none ty4 (lookL [(6, LS10_6)]) x)) := by
  refine ⟨?_⟩
  rw [se10]
  try dsimp only [Ty.den] at *
  refine ⟨fun _ => trivial, fun _ => ⟨Sp.bld_lds _, ?_, ?_, fun _ => trivial⟩⟩
  · rw [Sp.edges_len]; simp only [List.length_cons, List.length_nil]; omega
  · exact Int.le_refl 0
theorem ok10 : CtOk Try.prog gdS 10 ct10 :=
  fn_okU (ctxOkF gokGmK3 [(4, [21])]) rfl Try.func10 (p := (Ty.pair ty28 (Ty.pair ty25 ty45))) (psh := [some 8, none, some 3]) (r := ty4) (rsh := (Rsh.one (none))) (pre := none) (fresh := none) (F := Sp.F10) (L := (lookL [(6, LS10_6)])) (c := bodyOf Try.f10) (dflt := Ty.dflt ty4) rfl (loops_of (l := [bodyAt (bodyOf Try.f10) [0]]) (by kernel_rfl) (loops_cons (s0 := LS10_6) (by kernel_rfl) lo10_6 (loops_nil)))
    (safe_no @sa10) va10
/-! overlaylaw06.LoadSteps -/
end Go.Proofs.Ytabifaikklcghaa.Sy
namespace Go.Proofs.Ytabifaikklcghaa.Sp
open Go Go.RowKit Sy
def in11_7 (k : ((List Nat) × Int × Int × Int × Int × Int × Nat × Nat × Nat × List (Int × Int × Int × Int × Int × Int × Int × Int × Int))) (x : (Int)) : Prop := (0 : Int) ≤ x
def mu11_7 (k : ((List Nat) × Int × Int × Int × Int × Int × Nat × Nat × Nat × List (Int × Int × Int × Int × Int × Int × Int × Int × Int))) (x : (Int)) : Nat := (((k.1).length : Int) - x).toNat
def st11_7 (k : ((List Nat) × Int × Int × Int × Int × Int × Nat × Nat × Nat × List (Int × Int × Int × Int × Int × Int × Int × Int × Int))) (x : (Int)) : BOut ((List Nat) × Int × Int × Int × Int × Int × Nat × Nat × Nat × List (Int × Int × Int × Int × Int × Int × Int × Int × Int)) (Int) (Bool) :=
  bif (decide (x < ((k.1).length : Int))) then
    (bif (!((Sp.F29 (k.2.2, k.2.1, (Sp.nthT k.1 x))) == (Sp.F34 (k.2.2, k.2.1, (Sp.nthT k.1 x))))) then
      BOut.ret false
    else
      BOut.next k (IntKind.i64.wrap (x + (1 : Int))))
  else
    BOut.brk k x
def G11_7 (k : ((List Nat) × Int × Int × Int × Int × Int × Nat × Nat × Nat × List (Int × Int × Int × Int × Int × Int × Int × Int × Int))) (x : (Int)) : (Int) := endOf st11_7 k (Nat.succ (mu11_7 k x)) x
def R11_7 (k : ((List Nat) × Int × Int × Int × Int × Int × Nat × Nat × Nat × List (Int × Int × Int × Int × Int × Int × Int × Int × Int))) (x : (Int)) : Option (Bool) := retOf st11_7 k (Nat.succ (mu11_7 k x)) x
end Go.Proofs.Ytabifaikklcghaa.Sp
namespace Go.Proofs.Ytabifaikklcghaa.Sy
def LS11_7 : LS ty4.den := mkLS (Ty.pair ty44 (Ty.pair ty3 ty28)) ty3  [(8, none), (9, none)] [(7, 8)] [(10, none)] [] [] [] [(7, 7)] 2 true Sp.in11_7 Sp.st11_7 Sp.mu11_7
end Go.Proofs.Ytabifaikklcghaa.Sy
namespace Go.Proofs.Ytabifaikklcghaa.Sp
open Go Go.RowKit Sy
def in11_4 (k : ((List Nat) × Int × Int × Int × Int × Nat × Nat × Nat × List (Int × Int × Int × Int × Int × Int × Int × Int × Int))) (x : (Int)) : Prop := (-1 : Int) ≤ x
def mu11_4 (k : ((List Nat) × Int × Int × Int × Int × Nat × Nat × Nat × List (Int × Int × Int × Int × Int × Int × Int × Int × Int))) (x : (Int)) : Nat := ((6 : Int) - x).toNat
def st11_4 (k : ((List Nat) × Int × Int × Int × Int × Nat × Nat × Nat × List (Int × Int × Int × Int × Int × Int × Int × Int × Int))) (x : (Int)) : BOut ((List Nat) × Int × Int × Int × Int × Nat × Nat × Nat × List (Int × Int × Int × Int × Int × Int × Int × Int × Int)) (Int) (Bool) :=
  bif (decide (x < (6 : Int))) then
    (Sp.optR (Sp.R11_7 (k.1, x, k.2) (0 : Int)) BOut.ret
    (BOut.next k (IntKind.i64.wrap (x + (1 : Int)))))
  else
    BOut.brk k x
def G11_4 (k : ((List Nat) × Int × Int × Int × Int × Nat × Nat × Nat × List (Int × Int × Int × Int × Int × Int × Int × Int × Int))) (x : (Int)) : (Int) := endOf st11_4 k (Nat.succ (mu11_4 k x)) x
def R11_4 (k : ((List Nat) × Int × Int × Int × Int × Nat × Nat × Nat × List (Int × Int × Int × Int × Int × Int × Int × Int × Int))) (x : (Int)) : Option (Bool) := retOf st11_4 k (Nat.succ (mu11_4 k x)) x
end Go.Proofs.Ytabifaikklcghaa.Sp
namespace Go.Proofs.Ytabifaikklcghaa.Sy
def LS11_4 : LS ty4.den := mkLS (Ty.pair ty44 ty28) ty3  [(8, none)] [(7, 8)] [(9, none)] [] [] [22] [(7, 7)] 0 true Sp.in11_4 Sp.st11_4 Sp.mu11_4
theorem va11_7 (k : (Ty.pair ty44 (Ty.pair ty3 ty28)).den) (x : ty3.den) : ((evCode (ctxF GmK3 [(2, [17])]) (lookL []) (bodyAt (bodyOf Try.f11) [0, 0]) (tmpl LS11_7 (enc (Ty.pair ty44 (Ty.pair ty3 ty28)) k) (enc ty3 x)) (evRound LS11_7 (evRet (ctxF GmK3 [(2, [17])]) Try.f11 (Rsh.one (none)) none ty4 .ret)))).val BOut.ret (BOut.brk (Ty.dflt (Ty.pair ty44 (Ty.pair ty3 ty28))) (Ty.dflt ty3)) = Sp.st11_7 k x := by kernel_rfl
theorem se11_7 (k : (Ty.pair ty44 (Ty.pair ty3 ty28)).den) (x : ty3.den) : ((evCode (ctxF GmK3 [(2, [17])]) (lookL []) (bodyAt (bodyOf Try.f11) [0, 0]) (tmpl LS11_7 (enc (Ty.pair ty44 (Ty.pair ty3 ty28)) k) (enc ty3 x)) (evRound LS11_7 (evRet (ctxF GmK3 [(2, [17])]) Try.f11 (Rsh.one (none)) none ty4 .ret)))).safe = ((((decide (x < ((k.1).length : Int))) = true → ((0 ≤ x ∧ x < ((k.1).length : Int)) ∧ ((0 ≤ x ∧ x < ((k.1).length : Int)) ∧ (((!((Sp.F29 (k.2.2, k.2.1, (Sp.nthT k.1 x))) == (Sp.F34 (k.2.2, k.2.1, (Sp.nthT k.1 x))))) = true → True) ∧ ((!((Sp.F29 (k.2.2, k.2.1, (Sp.nthT k.1 x))) == (Sp.F34 (k.2.2, k.2.1, (Sp.nthT k.1 x))))) = false → True))))) ∧ ((decide (x < ((k.1).length : Int))) = false → True))) := by kernel_rfl
set_option maxHeartbeats 4000000 in
theorem sa11_7 (k : (Ty.pair ty44 (Ty.pair ty3 ty28)).den) (x : ty3.den) (fk : Fit (Ty.pair ty44 (Ty.pair ty3 ty28)) k) (fx : Fit ty3 x) (h : Sp.in11_7 k x) : SafeW ((evCode (ctxF GmK3 [(2, [17])]) (lookL []) (bodyAt (bodyOf Try.f11) [0, 0]) (tmpl LS11_7 (enc (Ty.pair ty44 (Ty.pair ty3 ty28)) k) (enc ty3 x)) (evRound LS11_7 (evRet (ctxF GmK3 [(2, [17])]) Try.f11 (Rsh.one (none)) none ty4 .ret)))) := by
  refine ⟨?_⟩
  rw [se11_7]
  try dsimp only [Ty.den] at *
  simp only [Sp.in11_7, Fit, maxLen] at h fk fx
  simp only [IntKind.wrap_i64, IntKind.wrap_u8, IntKind.wrap_u32, IntKind.wrap_u64, Sp.tmod_lit, Sp.tdiv_lit, bne_eq_false_iff_eq, Int.natCast_inj, setE, copyL, sliceL, zrow, List.length_append, List.length_cons, List.length_nil, List.length_set, List.length_replicate, List.length_take, List.length_drop, decide_eq_true_eq, decide_eq_false_iff_not, Bool.or_eq_true, Bool.and_eq_true, Bool.or_eq_false_iff, Bool.and_eq_false_iff, Bool.not_eq_true', Bool.not_eq_false', Bool.not_eq_true, Bool.not_eq_false, beq_iff_eq, beq_eq_false_iff_ne, bne_iff_ne, ne_eq, implies_true, and_true, true_and] at *
  all_goals ((repeat' (first | exact trivial | apply And.intro | intro _)) <;> first | trivial | omega | exact Sp.tmod_nn (by omega) | exact Sp.tmod_lt (by omega) (by omega))
set_option maxHeartbeats 4000000 in
theorem so11_7 (k : (Ty.pair ty44 (Ty.pair ty3 ty28)).den) (x : ty3.den) (fk : Fit (Ty.pair ty44 (Ty.pair ty3 ty28)) k) (h : Sp.in11_7 k x) : StepOk true Sp.in11_7 Sp.mu11_7 k x (Sp.st11_7 k x) := by
  try dsimp only [Ty.den] at *
  simp only [Sp.in11_7, Fit, maxLen] at h fk
  unfold Sp.st11_7
  (repeat' (first | exact rfl | (refine StepOk.cnd (fun hc => ?_) (fun hc => ?_) <;> (try simp only [IntKind.wrap_i64, IntKind.wrap_u8, IntKind.wrap_u32, IntKind.wrap_u64, bne_eq_false_iff_eq, Int.natCast_inj, setE, copyL, sliceL, zrow, List.length_append, List.length_cons, List.length_nil, List.length_set, List.length_replicate, List.length_take, List.length_drop, decide_eq_true_eq, decide_eq_false_iff_not, Bool.or_eq_true, Bool.and_eq_true, Bool.or_eq_false_iff, Bool.and_eq_false_iff, Bool.not_eq_true', Bool.not_eq_false', Bool.not_eq_true, Bool.not_eq_false, beq_iff_eq, beq_eq_false_iff_ne, bne_iff_ne, ne_eq] at hc)) | refine StepOk.opt (fun _ => ?_))) <;> (first | exact rfl | (refine ⟨rfl, ?_, ?_⟩ <;> simp only [Sp.in11_7, Sp.mu11_7, IntKind.wrap_i64, IntKind.wrap_u8, IntKind.wrap_u32, IntKind.wrap_u64, Sp.tmod_lit, Sp.tdiv_lit, bne_eq_false_iff_eq, Int.natCast_inj, setE, copyL, sliceL, zrow, List.length_append, List.length_cons, List.length_nil, List.length_set, List.length_replicate, List.length_take, List.length_drop, decide_eq_true_eq, decide_eq_false_iff_not, Bool.or_eq_true, Bool.and_eq_true, Bool.or_eq_false_iff, Bool.and_eq_false_iff, Bool.not_eq_true', Bool.not_eq_false', Bool.not_eq_true, Bool.not_eq_false, beq_iff_eq, beq_eq_false_iff_ne, bne_iff_ne, ne_eq] <;> first | omega | (and_intros <;> first | omega | exact h.1 | exact h.2 | exact h.2.1 | exact h.2.2 | exact h.2.2.1 | exact h.2.2.2 | exact h.2.2.2.1 | exact h.2.2.2.2 | exact h.2.2.2.2.1 | exact h.2.2.2.2.2 | exact h.2.2.2.2.2.1 | exact h.2.2.2.2.2.2)))
theorem lo11_7 : LoopOk Try.prog gdS (RetAt Try.prog Try.f11 (Rsh.one (none)) none ty4) (bodyAt (bodyOf Try.f11) [0, 0]) LS11_7 :=
  loop_run (ctxOkF gokGmK3 [(2, [17])]) (L := lookL []) (loops_of (l := []) (by kernel_rfl) (loops_nil)) sa11_7 va11_7 so11_7
theorem va11_4 (k : (Ty.pair ty44 ty28).den) (x : ty3.den) : ((evCode (ctxF GmK3 [(2, [17])]) (lookL [(7, LS11_7)]) (bodyAt (bodyOf Try.f11) [0]) (tmpl LS11_4 (enc (Ty.pair ty44 ty28) k) (enc ty3 x)) (evRound LS11_4 (evRet (ctxF GmK3 [(2, [17])]) Try.f11 (Rsh.one (none)) none ty4 .ret)))).val BOut.ret (BOut.brk (Ty.dflt (Ty.pair ty44 ty28)) (Ty.dflt ty3)) = Sp.st11_4 k x := by kernel_rfl
theorem se11_4 (k : (Ty.pair ty44 ty28).den) (x : ty3.den) : ((evCode (ctxF GmK3 [(2, [17])]) (lookL [(7, LS11_7)]) (bodyAt (bodyOf Try.f11) [0]) (tmpl LS11_4 (enc (Ty.pair ty44 ty28) k) (enc ty3 x)) (evRound LS11_4 (evRet (ctxF GmK3 [(2, [17])]) Try.f11 (Rsh.one (none)) none ty4 .ret)))).safe = ((((decide (x < (6 : Int))) = true → ((Sp.in11_7 (k.1, x, k.2) (0 : Int)) ∧ ((Sp.R11_7 (k.1, x, k.2) (0 : Int)) = none → True))) ∧ ((decide (x < (6 : Int))) = false → True))) := by kernel_rfl
set_option maxHeartbeats 4000000 in
theorem sa11_4 (k : (Ty.pair ty44 ty28).den) (x : ty3.den) (fk : Fit (Ty.pair ty44 ty28) k) (fx : Fit ty3 x) (h : Sp.in11_4 k x) : SafeW ((evCode (ctxF GmK3 [(2, [17])]) (lookL [(7, LS11_7)]) (bodyAt (bodyOf Try.f11) [0]) (tmpl LS11_4 (enc (Ty.pair ty44 ty28) k) (enc ty3 x)) (evRound LS11_4 (evRet (ctxF GmK3 [(2, [17])]) Try.f11 (Rsh.one (none)) none ty4 .ret)))) := by
  refine ⟨?_⟩
  rw [se11_4]
  try dsimp only [Ty.den] at *
  simp only [Sp.in11_4, Fit, maxLen] at h fk fx
  simp only [Sp.in11_7, IntKind.wrap_i64, IntKind.wrap_u8, IntKind.wrap_u32, IntKind.wrap_u64, Sp.tmod_lit, Sp.tdiv_lit, bne_eq_false_iff_eq, Int.natCast_inj, setE, copyL, sliceL, zrow, List.length_append, List.length_cons, List.length_nil, List.length_set, List.length_replicate, List.length_take, List.length_drop, decide_eq_true_eq, decide_eq_false_iff_not, Bool.or_eq_true, Bool.and_eq_true, Bool.or_eq_false_iff, Bool.and_eq_false_iff, Bool.not_eq_true', Bool.not_eq_false', Bool.not_eq_true, Bool.not_eq_false, beq_iff_eq, beq_eq_false_iff_ne, bne_iff_ne, ne_eq, implies_true, and_true, true_and] at *
  all_goals ((repeat' (first | exact trivial | apply And.intro | intro _)) <;> first | trivial | omega | exact Sp.tmod_nn (by omega) | exact Sp.tmod_lt (by omega) (by omega))
set_option maxHeartbeats 4000000 in
theorem so11_4 (k : (Ty.pair ty44 ty28).den) (x : ty3.den) (fk : Fit (Ty.pair ty44 ty28) k) (h : Sp.in11_4 k x) : StepOk true Sp.in11_4 Sp.mu11_4 k x (Sp.st11_4 k x) := by
  try dsimp only [Ty.den] at *
  simp only [Sp.in11_4, Fit, maxLen] at h fk
  unfold Sp.st11_4
  (repeat' (first | exact rfl | (refine StepOk.cnd (fun hc => ?_) (fun hc => ?_) <;> (try simp only [IntKind.wrap_i64, IntKind.wrap_u8, IntKind.wrap_u32, IntKind.wrap_u64, bne_eq_false_iff_eq, Int.natCast_inj, setE, copyL, sliceL, zrow, List.length_append, List.length_cons, List.length_nil, List.length_set, List.length_replicate, List.length_take, List.length_drop, decide_eq_true_eq, decide_eq_false_iff_not, Bool.or_eq_true, Bool.and_eq_true, Bool.or_eq_false_iff, Bool.and_eq_false_iff, Bool.not_eq_true', Bool.not_eq_false', Bool.not_eq_true, Bool.not_eq_false, beq_iff_eq, beq_eq_false_iff_ne, bne_iff_ne, ne_eq] at hc)) | refine StepOk.opt (fun _ => ?_))) <;> (first | exact rfl | (refine ⟨rfl, ?_, ?_⟩ <;> simp only [Sp.in11_4, Sp.mu11_4, IntKind.wrap_i64, IntKind.wrap_u8, IntKind.wrap_u32, IntKind.wrap_u64, Sp.tmod_lit, Sp.tdiv_lit, bne_eq_false_iff_eq, Int.natCast_inj, setE, copyL, sliceL, zrow, List.length_append, List.length_cons, List.length_nil, List.length_set, List.length_replicate, List.length_take, List.length_drop, decide_eq_true_eq, decide_eq_false_iff_not, Bool.or_eq_true, Bool.and_eq_true, Bool.or_eq_false_iff, Bool.and_eq_false_iff, Bool.not_eq_true', Bool.not_eq_false', Bool.not_eq_true, Bool.not_eq_false, beq_iff_eq, beq_eq_false_iff_ne, bne_iff_ne, ne_eq] <;> first | omega | (and_intros <;> first | omega | exact h.1 | exact h.2 | exact h.2.1 | exact h.2.2 | exact h.2.2.1 | exact h.2.2.2 | exact h.2.2.2.1 | exact h.2.2.2.2 | exact h.2.2.2.2.1 | exact h.2.2.2.2.2 | exact h.2.2.2.2.2.1 | exact h.2.2.2.2.2.2)))
theorem lo11_4 : LoopOk Try.prog gdS (RetAt Try.prog Try.f11 (Rsh.one (none)) none ty4) (bodyAt (bodyOf Try.f11) [0]) LS11_4 :=
  loop_run (ctxOkF gokGmK3 [(2, [17])]) (L := lookL [(7, LS11_7)]) (loops_of (l := [bodyAt (bodyOf Try.f11) [0, 0]]) (by kernel_rfl) (loops_cons (s0 := LS11_7) (by kernel_rfl) lo11_7 (loops_nil))) sa11_4 va11_4 so11_4
end Go.Proofs.Ytabifaikklcghaa.Sy
namespace Go.Proofs.Ytabifaikklcghaa.Sp
open Go Go.RowKit Sy
def F11 (x : Int × Nat × Nat × Nat × Nat) : Bool :=
  Sp.optR (Sp.R11_4 (((Sp.F32 (Sp.F23 x.2.2)) ++ [x.2.1]), (Sp.F23 x.2.2)) (-1 : Int)) (fun y => y)
  (((((Sp.F29 ((Sp.F23 x.2.2), x.1, x.2.1)) == (Sp.F34 ((Sp.F23 x.2.2), x.1, x.2.1))) && ((Sp.F29 (((0 : Int), (0 : Int), (0 : Int), (0 : Int), (0 : Nat), (0 : Nat), (0 : Nat), []), x.1, x.2.1)) == (0 : Int))) && (Sp.F27 ())))
end Go.Proofs.Ytabifaikklcghaa.Sp
namespace Go.Proofs.Ytabifaikklcghaa.Sy
def ct11 : Ct := { p := (Ty.pair ty50 (Ty.pair ty25 ty45)), psh := [some 1, none, some 3], r := ty4, rsh := (Rsh.one (none)), pre := none, fresh := none, F := Sp.F11 }
theorem va11 (x : (Ty.pair ty50 (Ty.pair ty25 ty45)).den) : ((evFn (ctxF GmK3 [(2, [17])]) Try.f11 (Ty.pair ty50 (Ty.pair ty25 ty45)) [some 1, none, some 3] (Rsh.one (none)) none ty4 (lookL [(7, LS11_7), (4, LS11_4)]) x)).val (fun y => y) (Ty.dflt ty4) = Sp.F11 x := by kernel_rfl
theorem se11 (x : (Ty.pair ty50 (Ty.pair ty25 ty45)).den) : ((evFn (ctxF GmK3 [(2, [17])]) Try.f11 (Ty.pair ty50 (Ty.pair ty25 ty45)) [some 1, none, some 3] (Rsh.one (none)) none ty4 (lookL [(7, LS11_7), (4, LS11_4)]) x)).safe = (((Sp.pre32 (Sp.F23 x.2.2)) ∧ (((List.length ((Sp.F32 (Sp.F23 x.2.2)) : List Nat) + List.length ([x.2.1] : List Nat)) * 8 ≤ 140737488355328 ∧ List.length ((Sp.F32 (Sp.F23 x.2.2)) : List Nat) + List.length ([x.2.1] : List Nat) ≤ 4611686018427387903) ∧ ((Sp.in11_4 (((Sp.F32 (Sp.F23 x.2.2)) ++ [x.2.1]), (Sp.F23 x.2.2)) (-1 : Int)) ∧ ((Sp.R11_4 (((Sp.F32 (Sp.F23 x.2.2)) ++ [x.2.1]), (Sp.F23 x.2.2)) (-1 : Int)) = none → True))))) := by kernel_rfl
theorem sa11 (x : (Ty.pair ty50 (Ty.pair ty25 ty45)).den) (fx : Fit (Ty.pair ty50 (Ty.pair ty25 ty45)) x) : SafeW ((evFn (ctxF GmK3 [(2, [17])]) Try.f11 (Ty.pair ty50 (Ty.pair ty25 ty45)) [some 1, none, some 3] (Rsh.one (none)) none ty4 (lookL [(7, LS11_7), (4, LS11_4)]) x)) := by
  refine ⟨?_⟩
  rw [se11]
  try dsimp only [Ty.den] at *
  refine ⟨Sp.bld_lds _, ?_, ?_, fun _ => trivial⟩
  · rw [Sp.edges_len]; simp only [List.length_cons, List.length_nil]; omega
  · exact Int.le_refl (-1)
theorem ok11 : CtOk Try.prog gdS 11 ct11 :=
  fn_okU (ctxOkF gokGmK3 [(2, [17])]) rfl Try.func11 (p := (Ty.pair ty50 (Ty.pair ty25 ty45))) (psh := [some 1, none, some 3]) (r := ty4) (rsh := (Rsh.one (none))) (pre := none) (fresh := none) (F := Sp.F11) (L := (lookL [(7, LS11_7), (4, LS11_4)])) (c := bodyOf Try.f11) (dflt := Ty.dflt ty4) rfl (loops_of (l := [bodyAt (bodyOf Try.f11) [0]]) (by kernel_rfl) (loops_cons (s0 := LS11_4) (by kernel_rfl) lo11_4 (loops_nil)))
    (safe_no @sa11) va11
def GmK4 : List (Nat × Ct) := (10, ct10) :: (11, ct11) :: GmK3
theorem gokGmK4 : GOk GmK4 := gok_cons ok10 ⟨_, Try.func10, by kernel_rfl, by kernel_rfl⟩ (gok_cons ok11 ⟨_, Try.func11, by kernel_rfl, by kernel_rfl⟩ (gokGmK3))
end Go.Proofs.Ytabifaikklcghaa.Sy
