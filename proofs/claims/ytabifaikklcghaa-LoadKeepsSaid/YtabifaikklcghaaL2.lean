/- Contracts of functions, by the evaluator (own program gen.py): load.Run, overlayref06.Run. -/
import Derived.Test.YtabifaikklcghaaL1
set_option linter.unusedVariables false
set_option linter.unusedSimpArgs false
set_option maxRecDepth 100000
namespace Go.Proofs.Ytabifaikklcghaa.Sy
open Go Go.RowKit Sp
/-! load.Run -/
end Go.Proofs.Ytabifaikklcghaa.Sy
namespace Go.Proofs.Ytabifaikklcghaa.Sp
open Go Go.RowKit Sy
def in24_5 (k : ((List Nat) × Int × Int × Int × Int × Int × Nat × Nat × Nat × List (Int × Int × Int × Int × Int × Int × Int × Int × Int))) (x : ((List Int) × Int × Int)) : Prop := (0 : Int) ≤ x.2.1 ∧ k.2.1 = ((k.1).length : Int) ∧ (x.1.length : Int) ≤ x.2.1 ∧ k.1.length ≤ 5000
def mu24_5 (k : ((List Nat) × Int × Int × Int × Int × Int × Nat × Nat × Nat × List (Int × Int × Int × Int × Int × Int × Int × Int × Int))) (x : ((List Int) × Int × Int)) : Nat := (k.2.1 - x.2.1).toNat
def st24_5 (k : ((List Nat) × Int × Int × Int × Int × Int × Nat × Nat × Nat × List (Int × Int × Int × Int × Int × Int × Int × Int × Int))) (x : ((List Int) × Int × Int)) : BOut ((List Nat) × Int × Int × Int × Int × Int × Nat × Nat × Nat × List (Int × Int × Int × Int × Int × Int × Int × Int × Int)) ((List Int) × Int × Int) (List Int) :=
  bif (decide (x.2.1 < k.2.1)) then
    BOut.next k ((x.1 ++ [(Sp.F29 (k.2.2, x.2.2, (Sp.nthT k.1 x.2.1)))]), (IntKind.i64.wrap (x.2.1 + (1 : Int))), (Sp.F29 (k.2.2, x.2.2, (Sp.nthT k.1 x.2.1))))
  else
    BOut.brk k x
def G24_5 (k : ((List Nat) × Int × Int × Int × Int × Int × Nat × Nat × Nat × List (Int × Int × Int × Int × Int × Int × Int × Int × Int))) (x : ((List Int) × Int × Int)) : ((List Int) × Int × Int) := endOf st24_5 k (Nat.succ (mu24_5 k x)) x
end Go.Proofs.Ytabifaikklcghaa.Sp
namespace Go.Proofs.Ytabifaikklcghaa.Sy
def LS24_5 : LS ty47.den := mkLS (Ty.pair ty44 (Ty.pair ty3 ty28)) (Ty.pair ty47 (Ty.pair ty3 ty50))  [(13, none), (14, none)] [(3, 8)] [(7, none), (15, none)] [(4, 1)] [(0, 100500, true, 3)] [] [(3, 3), (4, 4)] 0 false Sp.in24_5 Sp.st24_5 Sp.mu24_5
theorem va24_5 (k : (Ty.pair ty44 (Ty.pair ty3 ty28)).den) (x : (Ty.pair ty47 (Ty.pair ty3 ty50)).den) : ((evCode (ctxG GmL1) (lookL []) (bodyAt (bodyOf Try.f24) [0]) (tmpl LS24_5 (enc (Ty.pair ty44 (Ty.pair ty3 ty28)) k) (enc (Ty.pair ty47 (Ty.pair ty3 ty50)) x)) (evRound LS24_5 (evRet (ctxG GmL1) Try.f24 (Rsh.one (none)) (some 3) ty47 .ret)))).val BOut.ret (BOut.brk (Ty.dflt (Ty.pair ty44 (Ty.pair ty3 ty28))) (Ty.dflt (Ty.pair ty47 (Ty.pair ty3 ty50)))) = Sp.st24_5 k x := by kernel_rfl
theorem se24_5 (k : (Ty.pair ty44 (Ty.pair ty3 ty28)).den) (x : (Ty.pair ty47 (Ty.pair ty3 ty50)).den) : ((evCode (ctxG GmL1) (lookL []) (bodyAt (bodyOf Try.f24) [0]) (tmpl LS24_5 (enc (Ty.pair ty44 (Ty.pair ty3 ty28)) k) (enc (Ty.pair ty47 (Ty.pair ty3 ty50)) x)) (evRound LS24_5 (evRet (ctxG GmL1) Try.f24 (Rsh.one (none)) (some 3) ty47 .ret)))).safe = ((((decide (x.2.1 < k.2.1)) = true → ((0 ≤ x.2.1 ∧ x.2.1 < ((k.1).length : Int)) ∧ (((List.length (x.1 : List Int) + List.length ([(Sp.F29 (k.2.2, x.2.2, (Sp.nthT k.1 x.2.1)))] : List Int)) * 8 ≤ 140737488355328 ∧ List.length (x.1 : List Int) + List.length ([(Sp.F29 (k.2.2, x.2.2, (Sp.nthT k.1 x.2.1)))] : List Int) ≤ 4611686018427387903) ∧ True))) ∧ ((decide (x.2.1 < k.2.1)) = false → True))) := by kernel_rfl
set_option maxHeartbeats 4000000 in
theorem sa24_5 (k : (Ty.pair ty44 (Ty.pair ty3 ty28)).den) (x : (Ty.pair ty47 (Ty.pair ty3 ty50)).den) (fk : Fit (Ty.pair ty44 (Ty.pair ty3 ty28)) k) (fx : Fit (Ty.pair ty47 (Ty.pair ty3 ty50)) x) (h : Sp.in24_5 k x) : SafeW ((evCode (ctxG GmL1) (lookL []) (bodyAt (bodyOf Try.f24) [0]) (tmpl LS24_5 (enc (Ty.pair ty44 (Ty.pair ty3 ty28)) k) (enc (Ty.pair ty47 (Ty.pair ty3 ty50)) x)) (evRound LS24_5 (evRet (ctxG GmL1) Try.f24 (Rsh.one (none)) (some 3) ty47 .ret)))) := by
  refine ⟨?_⟩
  rw [se24_5]
  try dsimp only [Ty.den] at *
  simp only [Sp.in24_5, Fit, maxLen] at h fk fx
  simp only [IntKind.wrap_i64, IntKind.wrap_u8, IntKind.wrap_u32, IntKind.wrap_u64, Sp.tmod_lit, Sp.tdiv_lit, bne_eq_false_iff_eq, Int.natCast_inj, setE, copyL, sliceL, zrow, List.length_append, List.length_cons, List.length_nil, List.length_set, List.length_replicate, List.length_take, List.length_drop, decide_eq_true_eq, decide_eq_false_iff_not, Bool.or_eq_true, Bool.and_eq_true, Bool.or_eq_false_iff, Bool.and_eq_false_iff, Bool.not_eq_true', Bool.not_eq_false', Bool.not_eq_true, Bool.not_eq_false, beq_iff_eq, beq_eq_false_iff_ne, bne_iff_ne, ne_eq, implies_true, and_true, true_and] at *
  all_goals ((repeat' (first | exact trivial | apply And.intro | intro _)) <;> first | trivial | omega | exact Sp.tmod_nn (by omega) | exact Sp.tmod_lt (by omega) (by omega))
set_option maxHeartbeats 4000000 in
theorem so24_5 (k : (Ty.pair ty44 (Ty.pair ty3 ty28)).den) (x : (Ty.pair ty47 (Ty.pair ty3 ty50)).den) (fk : Fit (Ty.pair ty44 (Ty.pair ty3 ty28)) k) (h : Sp.in24_5 k x) : StepOk false Sp.in24_5 Sp.mu24_5 k x (Sp.st24_5 k x) := by
  try dsimp only [Ty.den] at *
  simp only [Sp.in24_5, Fit, maxLen] at h fk
  unfold Sp.st24_5
  (repeat' (first | exact rfl | (refine StepOk.cnd (fun hc => ?_) (fun hc => ?_) <;> (try simp only [IntKind.wrap_i64, IntKind.wrap_u8, IntKind.wrap_u32, IntKind.wrap_u64, bne_eq_false_iff_eq, Int.natCast_inj, setE, copyL, sliceL, zrow, List.length_append, List.length_cons, List.length_nil, List.length_set, List.length_replicate, List.length_take, List.length_drop, decide_eq_true_eq, decide_eq_false_iff_not, Bool.or_eq_true, Bool.and_eq_true, Bool.or_eq_false_iff, Bool.and_eq_false_iff, Bool.not_eq_true', Bool.not_eq_false', Bool.not_eq_true, Bool.not_eq_false, beq_iff_eq, beq_eq_false_iff_ne, bne_iff_ne, ne_eq] at hc)) | refine StepOk.opt (fun _ => ?_))) <;> (first | exact rfl | (refine ⟨rfl, ?_, ?_⟩ <;> simp only [Sp.in24_5, Sp.mu24_5, IntKind.wrap_i64, IntKind.wrap_u8, IntKind.wrap_u32, IntKind.wrap_u64, Sp.tmod_lit, Sp.tdiv_lit, bne_eq_false_iff_eq, Int.natCast_inj, setE, copyL, sliceL, zrow, List.length_append, List.length_cons, List.length_nil, List.length_set, List.length_replicate, List.length_take, List.length_drop, decide_eq_true_eq, decide_eq_false_iff_not, Bool.or_eq_true, Bool.and_eq_true, Bool.or_eq_false_iff, Bool.and_eq_false_iff, Bool.not_eq_true', Bool.not_eq_false', Bool.not_eq_true, Bool.not_eq_false, beq_iff_eq, beq_eq_false_iff_ne, bne_iff_ne, ne_eq] <;> first | omega | (and_intros <;> first | omega | exact h.1 | exact h.2 | exact h.2.1 | exact h.2.2 | exact h.2.2.1 | exact h.2.2.2 | exact h.2.2.2.1 | exact h.2.2.2.2 | exact h.2.2.2.2.1 | exact h.2.2.2.2.2 | exact h.2.2.2.2.2.1 | exact h.2.2.2.2.2.2)))
theorem lo24_5 : LoopOk Try.prog gdS (RetAt Try.prog Try.f24 (Rsh.one (none)) (some 3) ty47) (bodyAt (bodyOf Try.f24) [0]) LS24_5 :=
  loop_run (ctxOkF gokGmL1 []) (L := lookL []) (loops_of (l := []) (by kernel_rfl) (loops_nil)) sa24_5 va24_5 so24_5
end Go.Proofs.Ytabifaikklcghaa.Sy
namespace Go.Proofs.Ytabifaikklcghaa.Sp
open Go Go.RowKit Sy
def F24 (x : (Int × Int × Int × Int × Nat × Nat × Nat × List (Int × Int × Int × Int × Int × Int × Int × Int × Int)) × Int × List Nat) : List Int :=
  bif (decide (((x.2.2).length : Int) > (5000 : Int))) then
    []
  else
    (Sp.G24_5 (x.2.2, ((x.2.2).length : Int), x.1) ([], (0 : Int), x.2.1)).1
end Go.Proofs.Ytabifaikklcghaa.Sp
namespace Go.Proofs.Ytabifaikklcghaa.Sy
def ct24 : Ct := { p := (Ty.pair ty28 (Ty.pair ty50 ty44)), psh := [some 8, some 1, none], r := ty47, rsh := (Rsh.one (none)), pre := none, fresh := (some 3), F := Sp.F24 }
theorem va24 (x : (Ty.pair ty28 (Ty.pair ty50 ty44)).den) : ((evFn (ctxG GmL1) Try.f24 (Ty.pair ty28 (Ty.pair ty50 ty44)) [some 8, some 1, none] (Rsh.one (none)) (some 3) ty47 (lookL [(5, LS24_5)]) x)).val (fun y => y) (Ty.dflt ty47) = Sp.F24 x := by kernel_rfl
theorem se24 (x : (Ty.pair ty28 (Ty.pair ty50 ty44)).den) : ((evFn (ctxG GmL1) Try.f24 (Ty.pair ty28 (Ty.pair ty50 ty44)) [some 8, some 1, none] (Rsh.one (none)) (some 3) ty47 (lookL [(5, LS24_5)]) x)).safe = ((((decide (((x.2.2).length : Int) > (5000 : Int))) = true → True) ∧ ((decide (((x.2.2).length : Int) > (5000 : Int))) = false → ((Sp.in24_5 (x.2.2, ((x.2.2).length : Int), x.1) ([], (0 : Int), x.2.1)) ∧ True)))) := by kernel_rfl
theorem sa24 (x : (Ty.pair ty28 (Ty.pair ty50 ty44)).den) (fx : Fit (Ty.pair ty28 (Ty.pair ty50 ty44)) x) : SafeW ((evFn (ctxG GmL1) Try.f24 (Ty.pair ty28 (Ty.pair ty50 ty44)) [some 8, some 1, none] (Rsh.one (none)) (some 3) ty47 (lookL [(5, LS24_5)]) x)) := by
  refine ⟨?_⟩
  rw [se24]
  try dsimp only [Ty.den] at *
  simp only [Fit, maxLen] at fx
  simp only [Sp.in24_5, IntKind.wrap_i64, IntKind.wrap_u8, IntKind.wrap_u32, IntKind.wrap_u64, Sp.tmod_lit, Sp.tdiv_lit, bne_eq_false_iff_eq, Int.natCast_inj, setE, copyL, sliceL, zrow, List.length_append, List.length_cons, List.length_nil, List.length_set, List.length_replicate, List.length_take, List.length_drop, decide_eq_true_eq, decide_eq_false_iff_not, Bool.or_eq_true, Bool.and_eq_true, Bool.or_eq_false_iff, Bool.and_eq_false_iff, Bool.not_eq_true', Bool.not_eq_false', Bool.not_eq_true, Bool.not_eq_false, beq_iff_eq, beq_eq_false_iff_ne, bne_iff_ne, ne_eq, implies_true, and_true, true_and] at *
  all_goals ((repeat' (first | exact trivial | apply And.intro | intro _)) <;> first | trivial | omega | exact Sp.tmod_nn (by omega) | exact Sp.tmod_lt (by omega) (by omega))
theorem ok24 : CtOk Try.prog gdS 24 ct24 :=
  fn_okU (ctxOkF gokGmL1 []) rfl Try.func24 (p := (Ty.pair ty28 (Ty.pair ty50 ty44))) (psh := [some 8, some 1, none]) (r := ty47) (rsh := (Rsh.one (none))) (pre := none) (fresh := (some 3)) (F := Sp.F24) (L := (lookL [(5, LS24_5)])) (c := bodyOf Try.f24) (dflt := Ty.dflt ty47) rfl (loops_of (l := [bodyAt (bodyOf Try.f24) [0]]) (by kernel_rfl) (loops_cons (s0 := LS24_5) (by kernel_rfl) lo24_5 (loops_nil)))
    (safe_no @sa24) va24
/-! overlayref06.Run -/
end Go.Proofs.Ytabifaikklcghaa.Sy
namespace Go.Proofs.Ytabifaikklcghaa.Sp
open Go Go.RowKit Sy
def in26_5 (k : ((List Nat) × Int × Int × Int × Int × Nat × Nat × Nat × List (Int × Int × Int × Int × Int × Int × Int × Int × Int))) (x : ((List Int) × Int × Int)) : Prop := (0 : Int) ≤ x.2.1 ∧ (x.1.length : Int) ≤ x.2.1 ∧ k.1.length ≤ 5000
def mu26_5 (k : ((List Nat) × Int × Int × Int × Int × Nat × Nat × Nat × List (Int × Int × Int × Int × Int × Int × Int × Int × Int))) (x : ((List Int) × Int × Int)) : Nat := (((k.1).length : Int) - x.2.1).toNat
def st26_5 (k : ((List Nat) × Int × Int × Int × Int × Nat × Nat × Nat × List (Int × Int × Int × Int × Int × Int × Int × Int × Int))) (x : ((List Int) × Int × Int)) : BOut ((List Nat) × Int × Int × Int × Int × Nat × Nat × Nat × List (Int × Int × Int × Int × Int × Int × Int × Int × Int)) ((List Int) × Int × Int) (List Int) :=
  bif (decide (x.2.1 < ((k.1).length : Int))) then
    BOut.next k ((x.1 ++ [(Sp.F34 (k.2, x.2.2, (Sp.nthT k.1 x.2.1)))]), (IntKind.i64.wrap (x.2.1 + (1 : Int))), (Sp.F34 (k.2, x.2.2, (Sp.nthT k.1 x.2.1))))
  else
    BOut.brk k x
def G26_5 (k : ((List Nat) × Int × Int × Int × Int × Nat × Nat × Nat × List (Int × Int × Int × Int × Int × Int × Int × Int × Int))) (x : ((List Int) × Int × Int)) : ((List Int) × Int × Int) := endOf st26_5 k (Nat.succ (mu26_5 k x)) x
end Go.Proofs.Ytabifaikklcghaa.Sp
namespace Go.Proofs.Ytabifaikklcghaa.Sy
def LS26_5 : LS ty47.den := mkLS (Ty.pair ty44 ty28) (Ty.pair ty47 (Ty.pair ty3 ty50))  [(2, none)] [(3, 8)] [(7, none), (8, none)] [(4, 1)] [(0, 100500, true, 3)] [] [(3, 3), (4, 4)] 0 false Sp.in26_5 Sp.st26_5 Sp.mu26_5
theorem va26_5 (k : (Ty.pair ty44 ty28).den) (x : (Ty.pair ty47 (Ty.pair ty3 ty50)).den) : ((evCode (ctxG GmL1) (lookL []) (bodyAt (bodyOf Try.f26) [0]) (tmpl LS26_5 (enc (Ty.pair ty44 ty28) k) (enc (Ty.pair ty47 (Ty.pair ty3 ty50)) x)) (evRound LS26_5 (evRet (ctxG GmL1) Try.f26 (Rsh.one (none)) (some 3) ty47 .ret)))).val BOut.ret (BOut.brk (Ty.dflt (Ty.pair ty44 ty28)) (Ty.dflt (Ty.pair ty47 (Ty.pair ty3 ty50)))) = Sp.st26_5 k x := by kernel_rfl
theorem se26_5 (k : (Ty.pair ty44 ty28).den) (x : (Ty.pair ty47 (Ty.pair ty3 ty50)).den) : ((evCode (ctxG GmL1) (lookL []) (bodyAt (bodyOf Try.f26) [0]) (tmpl LS26_5 (enc (Ty.pair ty44 ty28) k) (enc (Ty.pair ty47 (Ty.pair ty3 ty50)) x)) (evRound LS26_5 (evRet (ctxG GmL1) Try.f26 (Rsh.one (none)) (some 3) ty47 .ret)))).safe = ((((decide (x.2.1 < ((k.1).length : Int))) = true → ((0 ≤ x.2.1 ∧ x.2.1 < ((k.1).length : Int)) ∧ (((List.length (x.1 : List Int) + List.length ([(Sp.F34 (k.2, x.2.2, (Sp.nthT k.1 x.2.1)))] : List Int)) * 8 ≤ 140737488355328 ∧ List.length (x.1 : List Int) + List.length ([(Sp.F34 (k.2, x.2.2, (Sp.nthT k.1 x.2.1)))] : List Int) ≤ 4611686018427387903) ∧ True))) ∧ ((decide (x.2.1 < ((k.1).length : Int))) = false → True))) := by kernel_rfl
set_option maxHeartbeats 4000000 in
theorem sa26_5 (k : (Ty.pair ty44 ty28).den) (x : (Ty.pair ty47 (Ty.pair ty3 ty50)).den) (fk : Fit (Ty.pair ty44 ty28) k) (fx : Fit (Ty.pair ty47 (Ty.pair ty3 ty50)) x) (h : Sp.in26_5 k x) : SafeW ((evCode (ctxG GmL1) (lookL []) (bodyAt (bodyOf Try.f26) [0]) (tmpl LS26_5 (enc (Ty.pair ty44 ty28) k) (enc (Ty.pair ty47 (Ty.pair ty3 ty50)) x)) (evRound LS26_5 (evRet (ctxG GmL1) Try.f26 (Rsh.one (none)) (some 3) ty47 .ret)))) := by
  refine ⟨?_⟩
  rw [se26_5]
  try dsimp only [Ty.den] at *
  simp only [Sp.in26_5, Fit, maxLen] at h fk fx
  simp only [IntKind.wrap_i64, IntKind.wrap_u8, IntKind.wrap_u32, IntKind.wrap_u64, Sp.tmod_lit, Sp.tdiv_lit, bne_eq_false_iff_eq, Int.natCast_inj, setE, copyL, sliceL, zrow, List.length_append, List.length_cons, List.length_nil, List.length_set, List.length_replicate, List.length_take, List.length_drop, decide_eq_true_eq, decide_eq_false_iff_not, Bool.or_eq_true, Bool.and_eq_true, Bool.or_eq_false_iff, Bool.and_eq_false_iff, Bool.not_eq_true', Bool.not_eq_false', Bool.not_eq_true, Bool.not_eq_false, beq_iff_eq, beq_eq_false_iff_ne, bne_iff_ne, ne_eq, implies_true, and_true, true_and] at *
  all_goals ((repeat' (first | exact trivial | apply And.intro | intro _)) <;> first | trivial | omega | exact Sp.tmod_nn (by omega) | exact Sp.tmod_lt (by omega) (by omega))
set_option maxHeartbeats 4000000 in
theorem so26_5 (k : (Ty.pair ty44 ty28).den) (x : (Ty.pair ty47 (Ty.pair ty3 ty50)).den) (fk : Fit (Ty.pair ty44 ty28) k) (h : Sp.in26_5 k x) : StepOk false Sp.in26_5 Sp.mu26_5 k x (Sp.st26_5 k x) := by
  try dsimp only [Ty.den] at *
  simp only [Sp.in26_5, Fit, maxLen] at h fk
  unfold Sp.st26_5
  (repeat' (first | exact rfl | (refine StepOk.cnd (fun hc => ?_) (fun hc => ?_) <;> (try simp only [IntKind.wrap_i64, IntKind.wrap_u8, IntKind.wrap_u32, IntKind.wrap_u64, bne_eq_false_iff_eq, Int.natCast_inj, setE, copyL, sliceL, zrow, List.length_append, List.length_cons, List.length_nil, List.length_set, List.length_replicate, List.length_take, List.length_drop, decide_eq_true_eq, decide_eq_false_iff_not, Bool.or_eq_true, Bool.and_eq_true, Bool.or_eq_false_iff, Bool.and_eq_false_iff, Bool.not_eq_true', Bool.not_eq_false', Bool.not_eq_true, Bool.not_eq_false, beq_iff_eq, beq_eq_false_iff_ne, bne_iff_ne, ne_eq] at hc)) | refine StepOk.opt (fun _ => ?_))) <;> (first | exact rfl | (refine ⟨rfl, ?_, ?_⟩ <;> simp only [Sp.in26_5, Sp.mu26_5, IntKind.wrap_i64, IntKind.wrap_u8, IntKind.wrap_u32, IntKind.wrap_u64, Sp.tmod_lit, Sp.tdiv_lit, bne_eq_false_iff_eq, Int.natCast_inj, setE, copyL, sliceL, zrow, List.length_append, List.length_cons, List.length_nil, List.length_set, List.length_replicate, List.length_take, List.length_drop, decide_eq_true_eq, decide_eq_false_iff_not, Bool.or_eq_true, Bool.and_eq_true, Bool.or_eq_false_iff, Bool.and_eq_false_iff, Bool.not_eq_true', Bool.not_eq_false', Bool.not_eq_true, Bool.not_eq_false, beq_iff_eq, beq_eq_false_iff_ne, bne_iff_ne, ne_eq] <;> first | omega | (and_intros <;> first | omega | exact h.1 | exact h.2 | exact h.2.1 | exact h.2.2 | exact h.2.2.1 | exact h.2.2.2 | exact h.2.2.2.1 | exact h.2.2.2.2 | exact h.2.2.2.2.1 | exact h.2.2.2.2.2 | exact h.2.2.2.2.2.1 | exact h.2.2.2.2.2.2)))
theorem lo26_5 : LoopOk Try.prog gdS (RetAt Try.prog Try.f26 (Rsh.one (none)) (some 3) ty47) (bodyAt (bodyOf Try.f26) [0]) LS26_5 :=
  loop_run (ctxOkF gokGmL1 []) (L := lookL []) (loops_of (l := []) (by kernel_rfl) (loops_nil)) sa26_5 va26_5 so26_5
end Go.Proofs.Ytabifaikklcghaa.Sy
namespace Go.Proofs.Ytabifaikklcghaa.Sp
open Go Go.RowKit Sy
def F26 (x : (Int × Int × Int × Int × Nat × Nat × Nat × List (Int × Int × Int × Int × Int × Int × Int × Int × Int)) × Int × List Nat) : List Int :=
  bif (decide (((x.2.2).length : Int) > (5000 : Int))) then
    []
  else
    (Sp.G26_5 (x.2.2, x.1) ([], (0 : Int), x.2.1)).1
end Go.Proofs.Ytabifaikklcghaa.Sp
namespace Go.Proofs.Ytabifaikklcghaa.Sy
def ct26 : Ct := { p := (Ty.pair ty28 (Ty.pair ty50 ty44)), psh := [some 8, some 1, none], r := ty47, rsh := (Rsh.one (none)), pre := none, fresh := (some 3), F := Sp.F26 }
theorem va26 (x : (Ty.pair ty28 (Ty.pair ty50 ty44)).den) : ((evFn (ctxG GmL1) Try.f26 (Ty.pair ty28 (Ty.pair ty50 ty44)) [some 8, some 1, none] (Rsh.one (none)) (some 3) ty47 (lookL [(5, LS26_5)]) x)).val (fun y => y) (Ty.dflt ty47) = Sp.F26 x := by kernel_rfl
theorem se26 (x : (Ty.pair ty28 (Ty.pair ty50 ty44)).den) : ((evFn (ctxG GmL1) Try.f26 (Ty.pair ty28 (Ty.pair ty50 ty44)) [some 8, some 1, none] (Rsh.one (none)) (some 3) ty47 (lookL [(5, LS26_5)]) x)).safe = ((((decide (((x.2.2).length : Int) > (5000 : Int))) = true → True) ∧ ((decide (((x.2.2).length : Int) > (5000 : Int))) = false → ((Sp.in26_5 (x.2.2, x.1) ([], (0 : Int), x.2.1)) ∧ True)))) := by kernel_rfl
theorem sa26 (x : (Ty.pair ty28 (Ty.pair ty50 ty44)).den) (fx : Fit (Ty.pair ty28 (Ty.pair ty50 ty44)) x) : SafeW ((evFn (ctxG GmL1) Try.f26 (Ty.pair ty28 (Ty.pair ty50 ty44)) [some 8, some 1, none] (Rsh.one (none)) (some 3) ty47 (lookL [(5, LS26_5)]) x)) := by
  refine ⟨?_⟩
  rw [se26]
  try dsimp only [Ty.den] at *
  simp only [Fit, maxLen] at fx
  simp only [Sp.in26_5, IntKind.wrap_i64, IntKind.wrap_u8, IntKind.wrap_u32, IntKind.wrap_u64, Sp.tmod_lit, Sp.tdiv_lit, bne_eq_false_iff_eq, Int.natCast_inj, setE, copyL, sliceL, zrow, List.length_append, List.length_cons, List.length_nil, List.length_set, List.length_replicate, List.length_take, List.length_drop, decide_eq_true_eq, decide_eq_false_iff_not, Bool.or_eq_true, Bool.and_eq_true, Bool.or_eq_false_iff, Bool.and_eq_false_iff, Bool.not_eq_true', Bool.not_eq_false', Bool.not_eq_true, Bool.not_eq_false, beq_iff_eq, beq_eq_false_iff_ne, bne_iff_ne, ne_eq, implies_true, and_true, true_and] at *
  all_goals ((repeat' (first | exact trivial | apply And.intro | intro _)) <;> first | trivial | omega | exact Sp.tmod_nn (by omega) | exact Sp.tmod_lt (by omega) (by omega))
theorem ok26 : CtOk Try.prog gdS 26 ct26 :=
  fn_okU (ctxOkF gokGmL1 []) rfl Try.func26 (p := (Ty.pair ty28 (Ty.pair ty50 ty44))) (psh := [some 8, some 1, none]) (r := ty47) (rsh := (Rsh.one (none))) (pre := none) (fresh := (some 3)) (F := Sp.F26) (L := (lookL [(5, LS26_5)])) (c := bodyOf Try.f26) (dflt := Ty.dflt ty47) rfl (loops_of (l := [bodyAt (bodyOf Try.f26) [0]]) (by kernel_rfl) (loops_cons (s0 := LS26_5) (by kernel_rfl) lo26_5 (loops_nil)))
    (safe_no @sa26) va26
def GmL2 : List (Nat × Ct) := (24, ct24) :: (26, ct26) :: GmL1
theorem gokGmL2 : GOk GmL2 := gok_cons ok24 ⟨_, Try.func24, by kernel_rfl, by kernel_rfl⟩ (gok_cons ok26 ⟨_, Try.func26, by kernel_rfl, by kernel_rfl⟩ (gokGmL1))
end Go.Proofs.Ytabifaikklcghaa.Sy
