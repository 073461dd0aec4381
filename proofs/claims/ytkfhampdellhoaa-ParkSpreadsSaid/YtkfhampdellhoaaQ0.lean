/- Contracts of functions, by the evaluator (own program gen.py): overlayref14.Spread. -/
import Derived.Test.YtkfhampdellhoaaP1
set_option linter.unusedVariables false
set_option linter.unusedSimpArgs false
set_option maxRecDepth 100000
namespace Go.Proofs.Ytkfhampdellhoaa.Sy
open Go Go.RowKit Sp
/-! overlayref14.Spread -/
end Go.Proofs.Ytkfhampdellhoaa.Sy
namespace Go.Proofs.Ytkfhampdellhoaa.Sp
open Go Go.RowKit Sy
def in20_6 (k : (Int × Int × Int × Int × Int × Nat × Nat × Nat × List (Int × Int × Int × Int × Int × Int × Int × Int × Int))) (x : ((List Int) × Int)) : Prop := 0 ≤ x.2 ∧ (x.1.length : Int) = x.2 ∧ x.2 ≤ k.1 ∧ 1 ≤ k.1 ∧ k.1 ≤ 8
def mu20_6 (k : (Int × Int × Int × Int × Int × Nat × Nat × Nat × List (Int × Int × Int × Int × Int × Int × Int × Int × Int))) (x : ((List Int) × Int)) : Nat := (k.1 - x.2).toNat
def st20_6 (k : (Int × Int × Int × Int × Int × Nat × Nat × Nat × List (Int × Int × Int × Int × Int × Int × Int × Int × Int))) (x : ((List Int) × Int)) : BOut (Int × Int × Int × Int × Int × Nat × Nat × Nat × List (Int × Int × Int × Int × Int × Int × Int × Int × Int)) ((List Int) × Int) (List Int) :=
  bif (decide (x.2 < k.1)) then
    BOut.next k ((x.1 ++ [(IntKind.i64.wrap (Int.tdiv (IntKind.i64.wrap ((IntKind.i64.wrap ((IntKind.i64.wrap ((2 : Int) * x.2)) + (1 : Int))) * k.2.1)) (IntKind.i64.wrap ((2 : Int) * k.1))))]), (IntKind.i64.wrap (x.2 + (1 : Int))))
  else
    BOut.brk k x
def G20_6 (k : (Int × Int × Int × Int × Int × Nat × Nat × Nat × List (Int × Int × Int × Int × Int × Int × Int × Int × Int))) (x : ((List Int) × Int)) : ((List Int) × Int) := endOf st20_6 k (Nat.succ (mu20_6 k x)) x
end Go.Proofs.Ytkfhampdellhoaa.Sp
namespace Go.Proofs.Ytkfhampdellhoaa.Sy
def LS20_6 : LS ty49.den := mkLS (Ty.pair ty3 ty46) (Ty.pair ty49 ty3)  [(4, none)] [(1, 8)] [(3, none), (5, none)] [] [(0, 100600, true, 3)] [] [(1, 1)] 0 false Sp.in20_6 Sp.st20_6 Sp.mu20_6
theorem va20_6 (k : (Ty.pair ty3 ty46).den) (x : (Ty.pair ty49 ty3).den) : ((evCode (ctxG GmP1) (lookL []) (bodyAt (bodyOf Try.f20) [0]) (tmpl LS20_6 (enc (Ty.pair ty3 ty46) k) (enc (Ty.pair ty49 ty3) x)) (evRound LS20_6 (evRet (ctxG GmP1) Try.f20 (Rsh.one (none)) (some 3) ty49 .ret)))).val BOut.ret (BOut.brk (Ty.dflt (Ty.pair ty3 ty46)) (Ty.dflt (Ty.pair ty49 ty3))) = Sp.st20_6 k x := by kernel_rfl
theorem se20_6 (k : (Ty.pair ty3 ty46).den) (x : (Ty.pair ty49 ty3).den) : ((evCode (ctxG GmP1) (lookL []) (bodyAt (bodyOf Try.f20) [0]) (tmpl LS20_6 (enc (Ty.pair ty3 ty46) k) (enc (Ty.pair ty49 ty3) x)) (evRound LS20_6 (evRet (ctxG GmP1) Try.f20 (Rsh.one (none)) (some 3) ty49 .ret)))).safe = ((((decide (x.2 < k.1)) = true → (((IntKind.i64.wrap ((2 : Int) * k.1)) ≠ 0) ∧ (((List.length (x.1 : List Int) + List.length ([(IntKind.i64.wrap (Int.tdiv (IntKind.i64.wrap ((IntKind.i64.wrap ((IntKind.i64.wrap ((2 : Int) * x.2)) + (1 : Int))) * k.2.1)) (IntKind.i64.wrap ((2 : Int) * k.1))))] : List Int)) * 8 ≤ 140737488355328 ∧ List.length (x.1 : List Int) + List.length ([(IntKind.i64.wrap (Int.tdiv (IntKind.i64.wrap ((IntKind.i64.wrap ((IntKind.i64.wrap ((2 : Int) * x.2)) + (1 : Int))) * k.2.1)) (IntKind.i64.wrap ((2 : Int) * k.1))))] : List Int) ≤ 4611686018427387903) ∧ True))) ∧ ((decide (x.2 < k.1)) = false → True))) := by kernel_rfl
set_option maxHeartbeats 4000000 in
theorem sa20_6 (k : (Ty.pair ty3 ty46).den) (x : (Ty.pair ty49 ty3).den) (fk : Fit (Ty.pair ty3 ty46) k) (fx : Fit (Ty.pair ty49 ty3) x) (h : Sp.in20_6 k x) : SafeW ((evCode (ctxG GmP1) (lookL []) (bodyAt (bodyOf Try.f20) [0]) (tmpl LS20_6 (enc (Ty.pair ty3 ty46) k) (enc (Ty.pair ty49 ty3) x)) (evRound LS20_6 (evRet (ctxG GmP1) Try.f20 (Rsh.one (none)) (some 3) ty49 .ret)))) := by
  refine ⟨?_⟩
  rw [se20_6]
  try dsimp only [Ty.den] at *
  simp only [Sp.in20_6, Fit, maxLen] at h fk fx
  simp only [IntKind.wrap_i64, IntKind.wrap_u8, IntKind.wrap_u32, IntKind.wrap_u64, Sp.tmod_lit, Sp.tdiv_lit, setE, copyL, sliceL, zrow, List.length_append, List.length_cons, List.length_nil, List.length_set, List.length_replicate, List.length_take, List.length_drop, decide_eq_true_eq, decide_eq_false_iff_not, Bool.or_eq_true, Bool.and_eq_true, Bool.or_eq_false_iff, Bool.and_eq_false_iff, Bool.not_eq_true', Bool.not_eq_false', Bool.not_eq_true, Bool.not_eq_false, beq_iff_eq, beq_eq_false_iff_ne, bne_iff_ne, ne_eq, implies_true, and_true, true_and] at *
  all_goals ((repeat' (first | exact trivial | apply And.intro | intro _)) <;> first | trivial | omega | exact Sp.tmod_nn (by omega) | exact Sp.tmod_lt (by omega) (by omega))
set_option maxHeartbeats 4000000 in
theorem so20_6 (k : (Ty.pair ty3 ty46).den) (x : (Ty.pair ty49 ty3).den) (fk : Fit (Ty.pair ty3 ty46) k) (h : Sp.in20_6 k x) : StepOk false Sp.in20_6 Sp.mu20_6 k x (Sp.st20_6 k x) := by
  try dsimp only [Ty.den] at *
  simp only [Sp.in20_6, Fit, maxLen] at h fk
  unfold Sp.st20_6
  (repeat' (first | exact rfl | (refine StepOk.cnd (fun hc => ?_) (fun hc => ?_) <;> (try simp only [IntKind.wrap_i64, IntKind.wrap_u8, IntKind.wrap_u32, IntKind.wrap_u64, setE, copyL, sliceL, zrow, List.length_append, List.length_cons, List.length_nil, List.length_set, List.length_replicate, List.length_take, List.length_drop, decide_eq_true_eq, decide_eq_false_iff_not, Bool.or_eq_true, Bool.and_eq_true, Bool.or_eq_false_iff, Bool.and_eq_false_iff, Bool.not_eq_true', Bool.not_eq_false', Bool.not_eq_true, Bool.not_eq_false, beq_iff_eq, beq_eq_false_iff_ne, bne_iff_ne, ne_eq] at hc)) | refine StepOk.opt (fun _ => ?_))) <;> (first | exact rfl | (refine ⟨rfl, ?_, ?_⟩ <;> simp only [Sp.in20_6, Sp.mu20_6, IntKind.wrap_i64, IntKind.wrap_u8, IntKind.wrap_u32, IntKind.wrap_u64, Sp.tmod_lit, Sp.tdiv_lit, setE, copyL, sliceL, zrow, List.length_append, List.length_cons, List.length_nil, List.length_set, List.length_replicate, List.length_take, List.length_drop, decide_eq_true_eq, decide_eq_false_iff_not, Bool.or_eq_true, Bool.and_eq_true, Bool.or_eq_false_iff, Bool.and_eq_false_iff, Bool.not_eq_true', Bool.not_eq_false', Bool.not_eq_true, Bool.not_eq_false, beq_iff_eq, beq_eq_false_iff_ne, bne_iff_ne, ne_eq] <;> omega))
theorem lo20_6 : LoopOk Try.prog gdS (RetAt Try.prog Try.f20 (Rsh.one (none)) (some 3) ty49) (bodyAt (bodyOf Try.f20) [0]) LS20_6 :=
  loop_run (ctxOkF gokGmP1 []) (L := lookL []) (loops_of (l := []) (by kernel_rfl) (loops_nil)) sa20_6 va20_6 so20_6
end Go.Proofs.Ytkfhampdellhoaa.Sy
namespace Go.Proofs.Ytkfhampdellhoaa.Sp
open Go Go.RowKit Sy
def F20 (x : Int × Int × Int × Int × Nat × Nat × Nat × List (Int × Int × Int × Int × Int × Int × Int × Int × Int)) : List Int :=
  bif ((Sp.F29 x) != (0 : Int)) then
    []
  else
    (Sp.G20_6 (((x.2.2.2.2.2.2.2).length : Int), x) ([], (0 : Int))).1
end Go.Proofs.Ytkfhampdellhoaa.Sp
namespace Go.Proofs.Ytkfhampdellhoaa.Sy
def ct20 : Ct := { p := ty46, psh := [some 8], r := ty49, rsh := (Rsh.one (none)), pre := none, fresh := (some 3), F := Sp.F20 }
theorem va20 (x : ty46.den) : ((evFn (ctxG GmP1) Try.f20 ty46 [some 8] (Rsh.one (none)) (some 3) ty49 (lookL [(6, LS20_6)]) x)).val (fun y => y) (Ty.dflt ty49) = Sp.F20 x := by kernel_rfl
theorem se20 (x : ty46.den) : ((evFn (ctxG GmP1) Try.f20 ty46 [some 8] (Rsh.one (none)) (some 3) ty49 (lookL [(6, LS20_6)]) x)).safe = (((((Sp.F29 x) != (0 : Int)) = true → True) ∧ (((Sp.F29 x) != (0 : Int)) = false → ((Sp.in20_6 (((x.2.2.2.2.2.2.2).length : Int), x) ([], (0 : Int))) ∧ True)))) := by kernel_rfl
theorem sa20 (x : ty46.den) (fx : Fit ty46 x) : SafeW ((evFn (ctxG GmP1) Try.f20 ty46 [some 8] (Rsh.one (none)) (some 3) ty49 (lookL [(6, LS20_6)]) x)) := by
  refine ⟨?_⟩
  rw [se20]
  refine ⟨fun _ => trivial, fun h => ⟨?_, trivial⟩⟩
  have hb := Sp.rvalid_b (Sp.fit_cars fx) (by simpa using h)
  have h1 : 1 ≤ x.2.2.2.2.2.2.2.length ∧ x.2.2.2.2.2.2.2.length ≤ 8 := hb.cn
  refine ⟨Int.le_refl _, rfl, ?_, ?_, ?_⟩ <;> (try dsimp only) <;> omega
theorem ok20 : CtOk Try.prog gdS 20 ct20 :=
  fn_okU (ctxOkF gokGmP1 []) rfl Try.func20 (p := ty46) (psh := [some 8]) (r := ty49) (rsh := (Rsh.one (none))) (pre := none) (fresh := (some 3)) (F := Sp.F20) (L := (lookL [(6, LS20_6)])) (c := bodyOf Try.f20) (dflt := Ty.dflt ty49) rfl (loops_of (l := [bodyAt (bodyOf Try.f20) [0]]) (by kernel_rfl) (loops_cons (s0 := LS20_6) (by kernel_rfl) lo20_6 (loops_nil)))
    (safe_no @sa20) va20
def GmQ0 : List (Nat × Ct) := (20, ct20) :: GmP1
theorem gokGmQ0 : GOk GmQ0 := gok_cons ok20 ⟨_, Try.func20, by kernel_rfl, by kernel_rfl⟩ (gokGmP1)
end Go.Proofs.Ytkfhampdellhoaa.Sy
