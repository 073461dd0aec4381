/- Contracts of functions, by the evaluator (own program gen.py): overlaylaw11.stops, overlaylaw11.CollectiveMirrors, overlayref07.Union, overlayref07.One. -/
import Derived.Test.YtidnlehjabhclaaDoorE7
set_option linter.unusedVariables false
set_option linter.unusedSimpArgs false
set_option maxRecDepth 100000
namespace Go.Proofs.YtidnlehjabhclaaDoor.Sy
open Go Go.RowKit Sp
/-! overlaylaw11.stops -/
end Go.Proofs.YtidnlehjabhclaaDoor.Sy
namespace Go.Proofs.YtidnlehjabhclaaDoor.Sp
open Go Go.RowKit Sy
def in10_3 (k : (Int × Int × Int × Int × Int)) (x : (Bool × Bool × Bool × Int)) : Prop := (0 : Int) ≤ x.2.2.2 ∧ k.1 ≤ 40
def mu10_3 (k : (Int × Int × Int × Int × Int)) (x : (Bool × Bool × Bool × Int)) : Nat := (k.1 - x.2.2.2).toNat
def st10_3 (k : (Int × Int × Int × Int × Int)) (x : (Bool × Bool × Bool × Int)) : BOut (Int × Int × Int × Int × Int) (Bool × Bool × Bool × Int) (Bool × Bool × Bool) :=
  bif (decide (x.2.2.2 < k.1)) then
    BOut.next k ((x.1 || (((((IntKind.u32.wrap ((BitVec.ofInt IntKind.u32.bits (Int.fdiv k.2.2.1 (2 ^ (min ((IntKind.u64.wrap x.2.2.2)).toNat IntKind.u32.bits))) &&& BitVec.ofInt IntKind.u32.bits (1 : Int)).toNat : Int)) == (1 : Int)) || ((decide (x.2.2.2 < (IntKind.i64.wrap (k.1 - (1 : Int))))) && (Sp.F19 (k.2.2.2, x.2.2.2, (1 : Int))))) || ((decide (x.2.2.2 > (0 : Int))) && (Sp.F19 (k.2.2.2, x.2.2.2, (2 : Int))))) && (x.2.2.2 == k.2.1))), (x.2.1 || (((((IntKind.u32.wrap ((BitVec.ofInt IntKind.u32.bits (Int.fdiv k.2.2.1 (2 ^ (min ((IntKind.u64.wrap x.2.2.2)).toNat IntKind.u32.bits))) &&& BitVec.ofInt IntKind.u32.bits (1 : Int)).toNat : Int)) == (1 : Int)) || ((decide (x.2.2.2 < (IntKind.i64.wrap (k.1 - (1 : Int))))) && (Sp.F19 (k.2.2.2, x.2.2.2, (1 : Int))))) || ((decide (x.2.2.2 > (0 : Int))) && (Sp.F19 (k.2.2.2, x.2.2.2, (2 : Int))))) && (decide (x.2.2.2 > k.2.1)))), (x.2.2.1 || (((((IntKind.u32.wrap ((BitVec.ofInt IntKind.u32.bits (Int.fdiv k.2.2.1 (2 ^ (min ((IntKind.u64.wrap x.2.2.2)).toNat IntKind.u32.bits))) &&& BitVec.ofInt IntKind.u32.bits (1 : Int)).toNat : Int)) == (1 : Int)) || ((decide (x.2.2.2 < (IntKind.i64.wrap (k.1 - (1 : Int))))) && (Sp.F19 (k.2.2.2, x.2.2.2, (1 : Int))))) || ((decide (x.2.2.2 > (0 : Int))) && (Sp.F19 (k.2.2.2, x.2.2.2, (2 : Int))))) && (decide (x.2.2.2 < k.2.1)))), (IntKind.i64.wrap (x.2.2.2 + (1 : Int))))
  else
    BOut.brk k x
def G10_3 (k : (Int × Int × Int × Int × Int)) (x : (Bool × Bool × Bool × Int)) : (Bool × Bool × Bool × Int) := endOf st10_3 k (Nat.succ (mu10_3 k x)) x
end Go.Proofs.YtidnlehjabhclaaDoor.Sp
namespace Go.Proofs.YtidnlehjabhclaaDoor.Sy
def LS10_3 : LS (Ty.pair ty4 (Ty.pair ty4 ty4)).den := mkLS (Ty.pair ty3 (Ty.pair ty3 ty30)) (Ty.pair ty4 (Ty.pair ty4 (Ty.pair ty4 ty3)))  [(0, none), (2, none)] [(4, 3)] [(9, none), (10, none), (11, none), (12, none)] [] [] [] [(4, 4)] 0 false Sp.in10_3 Sp.st10_3 Sp.mu10_3
theorem va10_3 (k : (Ty.pair ty3 (Ty.pair ty3 ty30)).den) (x : (Ty.pair ty4 (Ty.pair ty4 (Ty.pair ty4 ty3))).den) : ((evCode (ctxG GmE7) (lookL []) (bodyAt (bodyOf Tryd.f10) [0]) (tmpl LS10_3 (enc (Ty.pair ty3 (Ty.pair ty3 ty30)) k) (enc (Ty.pair ty4 (Ty.pair ty4 (Ty.pair ty4 ty3))) x)) (evRound LS10_3 (evRet (ctxG GmE7) Tryd.f10 (Rsh.tup [none, none, none]) none (Ty.pair ty4 (Ty.pair ty4 ty4)) .ret)))).val BOut.ret (BOut.brk (Ty.dflt (Ty.pair ty3 (Ty.pair ty3 ty30))) (Ty.dflt (Ty.pair ty4 (Ty.pair ty4 (Ty.pair ty4 ty3))))) = Sp.st10_3 k x := by kernel_rfl
theorem se10_3 (k : (Ty.pair ty3 (Ty.pair ty3 ty30)).den) (x : (Ty.pair ty4 (Ty.pair ty4 (Ty.pair ty4 ty3))).den) : ((evCode (ctxG GmE7) (lookL []) (bodyAt (bodyOf Tryd.f10) [0]) (tmpl LS10_3 (enc (Ty.pair ty3 (Ty.pair ty3 ty30)) k) (enc (Ty.pair ty4 (Ty.pair ty4 (Ty.pair ty4 ty3))) x)) (evRound LS10_3 (evRet (ctxG GmE7) Tryd.f10 (Rsh.tup [none, none, none]) none (Ty.pair ty4 (Ty.pair ty4 ty4)) .ret)))).safe = ((((decide (x.2.2.2 < k.1)) = true → ((0 ≤ (IntKind.u64.wrap x.2.2.2)) ∧ True)) ∧ ((decide (x.2.2.2 < k.1)) = false → True))) := by kernel_rfl
set_option maxHeartbeats 4000000 in
theorem sa10_3 (k : (Ty.pair ty3 (Ty.pair ty3 ty30)).den) (x : (Ty.pair ty4 (Ty.pair ty4 (Ty.pair ty4 ty3))).den) (fk : Fit (Ty.pair ty3 (Ty.pair ty3 ty30)) k) (fx : Fit (Ty.pair ty4 (Ty.pair ty4 (Ty.pair ty4 ty3))) x) (h : Sp.in10_3 k x) : SafeW ((evCode (ctxG GmE7) (lookL []) (bodyAt (bodyOf Tryd.f10) [0]) (tmpl LS10_3 (enc (Ty.pair ty3 (Ty.pair ty3 ty30)) k) (enc (Ty.pair ty4 (Ty.pair ty4 (Ty.pair ty4 ty3))) x)) (evRound LS10_3 (evRet (ctxG GmE7) Tryd.f10 (Rsh.tup [none, none, none]) none (Ty.pair ty4 (Ty.pair ty4 ty4)) .ret)))) := by
  refine ⟨?_⟩
  rw [se10_3]
  try dsimp only [Ty.den] at *
  simp only [Sp.in10_3, Fit, maxLen] at h fk fx
  simp only [IntKind.wrap_i64, IntKind.wrap_u8, IntKind.wrap_u32, IntKind.wrap_u64, Sp.tmod_lit, Sp.tdiv_lit, bne_eq_false_iff_eq, Int.natCast_inj, setE, copyL, sliceL, zrow, List.length_append, List.length_cons, List.length_nil, List.length_set, List.length_replicate, List.length_take, List.length_drop, decide_eq_true_eq, decide_eq_false_iff_not, Bool.or_eq_true, Bool.and_eq_true, Bool.or_eq_false_iff, Bool.and_eq_false_iff, Bool.not_eq_true', Bool.not_eq_false', Bool.not_eq_true, Bool.not_eq_false, beq_iff_eq, beq_eq_false_iff_ne, bne_iff_ne, ne_eq, implies_true, and_true, true_and] at *
  all_goals ((repeat' (first | exact trivial | apply And.intro | intro _)) <;> first | trivial | omega | exact Sp.tmod_nn (by omega) | exact Sp.tmod_lt (by omega) (by omega))
set_option maxHeartbeats 4000000 in
theorem so10_3 (k : (Ty.pair ty3 (Ty.pair ty3 ty30)).den) (x : (Ty.pair ty4 (Ty.pair ty4 (Ty.pair ty4 ty3))).den) (fk : Fit (Ty.pair ty3 (Ty.pair ty3 ty30)) k) (h : Sp.in10_3 k x) : StepOk false Sp.in10_3 Sp.mu10_3 k x (Sp.st10_3 k x) := by
  try dsimp only [Ty.den] at *
  simp only [Sp.in10_3, Fit, maxLen] at h fk
  unfold Sp.st10_3
  (repeat' (first | exact rfl | (refine StepOk.cnd (fun hc => ?_) (fun hc => ?_) <;> (try simp only [IntKind.wrap_i64, IntKind.wrap_u8, IntKind.wrap_u32, IntKind.wrap_u64, bne_eq_false_iff_eq, Int.natCast_inj, setE, copyL, sliceL, zrow, List.length_append, List.length_cons, List.length_nil, List.length_set, List.length_replicate, List.length_take, List.length_drop, decide_eq_true_eq, decide_eq_false_iff_not, Bool.or_eq_true, Bool.and_eq_true, Bool.or_eq_false_iff, Bool.and_eq_false_iff, Bool.not_eq_true', Bool.not_eq_false', Bool.not_eq_true, Bool.not_eq_false, beq_iff_eq, beq_eq_false_iff_ne, bne_iff_ne, ne_eq] at hc)) | refine StepOk.opt (fun _ => ?_))) <;> (first | exact rfl | (refine ⟨rfl, ?_, ?_⟩ <;> simp only [Sp.in10_3, Sp.mu10_3, IntKind.wrap_i64, IntKind.wrap_u8, IntKind.wrap_u32, IntKind.wrap_u64, Sp.tmod_lit, Sp.tdiv_lit, bne_eq_false_iff_eq, Int.natCast_inj, setE, copyL, sliceL, zrow, List.length_append, List.length_cons, List.length_nil, List.length_set, List.length_replicate, List.length_take, List.length_drop, decide_eq_true_eq, decide_eq_false_iff_not, Bool.or_eq_true, Bool.and_eq_true, Bool.or_eq_false_iff, Bool.and_eq_false_iff, Bool.not_eq_true', Bool.not_eq_false', Bool.not_eq_true, Bool.not_eq_false, beq_iff_eq, beq_eq_false_iff_ne, bne_iff_ne, ne_eq] <;> first | omega | (and_intros <;> first | omega | exact h.1 | exact h.2 | exact h.2.1 | exact h.2.2 | exact h.2.2.1 | exact h.2.2.2 | exact h.2.2.2.1 | exact h.2.2.2.2 | exact h.2.2.2.2.1 | exact h.2.2.2.2.2 | exact h.2.2.2.2.2.1 | exact h.2.2.2.2.2.2)))
theorem lo10_3 : LoopOk Tryd.prog gdS (RetAt Tryd.prog Tryd.f10 (Rsh.tup [none, none, none]) none (Ty.pair ty4 (Ty.pair ty4 ty4))) (bodyAt (bodyOf Tryd.f10) [0]) LS10_3 :=
  loop_run (ctxOkF gokGmE7 []) (L := lookL []) (loops_of (l := []) (by kernel_rfl) (loops_nil)) sa10_3 va10_3 so10_3
end Go.Proofs.YtidnlehjabhclaaDoor.Sy
namespace Go.Proofs.YtidnlehjabhclaaDoor.Sp
open Go Go.RowKit Sy
def F10 (x : Int × (Int × Int × Int) × Int) : Bool × Bool × Bool :=
  ((Sp.G10_3 (x.1, x.2.2, x.2.1) (false, false, false, (0 : Int))).1, (Sp.G10_3 (x.1, x.2.2, x.2.1) (false, false, false, (0 : Int))).2.1, (Sp.G10_3 (x.1, x.2.2, x.2.1) (false, false, false, (0 : Int))).2.2.1)
def pre10 (x : Int × (Int × Int × Int) × Int) : Prop := x.1 ≤ 40
end Go.Proofs.YtidnlehjabhclaaDoor.Sp
namespace Go.Proofs.YtidnlehjabhclaaDoor.Sy
def ct10 : Ct := { p := (Ty.pair ty3 (Ty.pair ty30 ty3)), psh := [none, some 3, none], r := (Ty.pair ty4 (Ty.pair ty4 ty4)), rsh := (Rsh.tup [none, none, none]), pre := some Sp.pre10, fresh := none, F := Sp.F10 }
theorem va10 (x : (Ty.pair ty3 (Ty.pair ty30 ty3)).den) : ((evFn (ctxG GmE7) Tryd.f10 (Ty.pair ty3 (Ty.pair ty30 ty3)) [none, some 3, none] (Rsh.tup [none, none, none]) none (Ty.pair ty4 (Ty.pair ty4 ty4)) (lookL [(3, LS10_3)]) x)).val (fun y => y) (Ty.dflt (Ty.pair ty4 (Ty.pair ty4 ty4))) = Sp.F10 x := by kernel_rfl
theorem se10 (x : (Ty.pair ty3 (Ty.pair ty30 ty3)).den) : ((evFn (ctxG GmE7) Tryd.f10 (Ty.pair ty3 (Ty.pair ty30 ty3)) [none, some 3, none] (Rsh.tup [none, none, none]) none (Ty.pair ty4 (Ty.pair ty4 ty4)) (lookL [(3, LS10_3)]) x)).safe = (((Sp.in10_3 (x.1, x.2.2, x.2.1) (false, false, false, (0 : Int))) ∧ True)) := by kernel_rfl
theorem sa10 (x : (Ty.pair ty3 (Ty.pair ty30 ty3)).den) (fx : Fit (Ty.pair ty3 (Ty.pair ty30 ty3)) x) (h : Sp.pre10 x) : SafeW ((evFn (ctxG GmE7) Tryd.f10 (Ty.pair ty3 (Ty.pair ty30 ty3)) [none, some 3, none] (Rsh.tup [none, none, none]) none (Ty.pair ty4 (Ty.pair ty4 ty4)) (lookL [(3, LS10_3)]) x)) := by
  refine ⟨?_⟩
  rw [se10]
  try dsimp only [Ty.den] at *
  simp only [Fit, maxLen] at fx
  simp only [Sp.in10_3, Sp.pre10, IntKind.wrap_i64, IntKind.wrap_u8, IntKind.wrap_u32, IntKind.wrap_u64, Sp.tmod_lit, Sp.tdiv_lit, bne_eq_false_iff_eq, Int.natCast_inj, setE, copyL, sliceL, zrow, List.length_append, List.length_cons, List.length_nil, List.length_set, List.length_replicate, List.length_take, List.length_drop, decide_eq_true_eq, decide_eq_false_iff_not, Bool.or_eq_true, Bool.and_eq_true, Bool.or_eq_false_iff, Bool.and_eq_false_iff, Bool.not_eq_true', Bool.not_eq_false', Bool.not_eq_true, Bool.not_eq_false, beq_iff_eq, beq_eq_false_iff_ne, bne_iff_ne, ne_eq, implies_true, and_true, true_and] at *
  all_goals ((repeat' (first | exact trivial | apply And.intro | intro _)) <;> first | trivial | omega | exact Sp.tmod_nn (by omega) | exact Sp.tmod_lt (by omega) (by omega))
theorem ok10 : CtOk Tryd.prog gdS 10 ct10 :=
  fn_okU (ctxOkF gokGmE7 []) rfl Tryd.func10 (p := (Ty.pair ty3 (Ty.pair ty30 ty3))) (psh := [none, some 3, none]) (r := (Ty.pair ty4 (Ty.pair ty4 ty4))) (rsh := (Rsh.tup [none, none, none])) (pre := some Sp.pre10) (fresh := none) (F := Sp.F10) (L := (lookL [(3, LS10_3)])) (c := bodyOf Tryd.f10) (dflt := Ty.dflt (Ty.pair ty4 (Ty.pair ty4 ty4))) rfl (loops_of (l := [bodyAt (bodyOf Tryd.f10) [0]]) (by kernel_rfl) (loops_cons (s0 := LS10_3) (by kernel_rfl) lo10_3 (loops_nil)))
    (safe_pre @sa10) va10
/-! overlaylaw11.CollectiveMirrors -/
end Go.Proofs.YtidnlehjabhclaaDoor.Sy
namespace Go.Proofs.YtidnlehjabhclaaDoor.Sp
open Go Go.RowKit Sy
def in4_5 (k : (Int × Int × Int × Int)) (x : (Int × Int × Int × Int)) : Prop := (0 : Int) ≤ x.1 ∧ k.1 ≤ 40
def mu4_5 (k : (Int × Int × Int × Int)) (x : (Int × Int × Int × Int)) : Nat := (k.1 - x.1).toNat
def st4_5 (k : (Int × Int × Int × Int)) (x : (Int × Int × Int × Int)) : BOut (Int × Int × Int × Int) (Int × Int × Int × Int) (Bool) :=
  bif (decide (x.1 < k.1)) then
    BOut.next k ((IntKind.i64.wrap (x.1 + (1 : Int))), (IntKind.u32.wrap ((BitVec.ofInt IntKind.u32.bits x.2.1 ||| BitVec.ofInt IntKind.u32.bits (IntKind.u32.wrap ((IntKind.u32.wrap ((BitVec.ofInt IntKind.u32.bits (Int.fdiv k.2.1 (2 ^ (min ((IntKind.u64.wrap x.1)).toNat IntKind.u32.bits))) &&& BitVec.ofInt IntKind.u32.bits (1 : Int)).toNat : Int)) * 2 ^ (min ((IntKind.u64.wrap (IntKind.i64.wrap ((IntKind.i64.wrap (k.1 - (1 : Int))) - x.1)))).toNat IntKind.u32.bits)))).toNat : Int)), (IntKind.u32.wrap ((BitVec.ofInt IntKind.u32.bits x.2.2.1 ||| BitVec.ofInt IntKind.u32.bits (IntKind.u32.wrap ((IntKind.u32.wrap ((BitVec.ofInt IntKind.u32.bits (Int.fdiv k.2.2.2 (2 ^ (min ((IntKind.u64.wrap x.1)).toNat IntKind.u32.bits))) &&& BitVec.ofInt IntKind.u32.bits (1 : Int)).toNat : Int)) * 2 ^ (min ((IntKind.u64.wrap (IntKind.i64.wrap ((IntKind.i64.wrap (k.1 - (1 : Int))) - x.1)))).toNat IntKind.u32.bits)))).toNat : Int)), (IntKind.u32.wrap ((BitVec.ofInt IntKind.u32.bits x.2.2.2 ||| BitVec.ofInt IntKind.u32.bits (IntKind.u32.wrap ((IntKind.u32.wrap ((BitVec.ofInt IntKind.u32.bits (Int.fdiv k.2.2.1 (2 ^ (min ((IntKind.u64.wrap x.1)).toNat IntKind.u32.bits))) &&& BitVec.ofInt IntKind.u32.bits (1 : Int)).toNat : Int)) * 2 ^ (min ((IntKind.u64.wrap (IntKind.i64.wrap ((IntKind.i64.wrap (k.1 - (1 : Int))) - x.1)))).toNat IntKind.u32.bits)))).toNat : Int)))
  else
    BOut.brk k x
def G4_5 (k : (Int × Int × Int × Int)) (x : (Int × Int × Int × Int)) : (Int × Int × Int × Int) := endOf st4_5 k (Nat.succ (mu4_5 k x)) x
end Go.Proofs.YtidnlehjabhclaaDoor.Sp
namespace Go.Proofs.YtidnlehjabhclaaDoor.Sy
def LS4_5 : LS ty4.den := mkLS (Ty.pair ty3 ty30) (Ty.pair ty3 ty30)  [(7, none)] [(5, 3)] [(10, none)] [(9, 3)] [] [] [(5, 5), (9, 9)] 0 false Sp.in4_5 Sp.st4_5 Sp.mu4_5
end Go.Proofs.YtidnlehjabhclaaDoor.Sy
namespace Go.Proofs.YtidnlehjabhclaaDoor.Sp
open Go Go.RowKit Sy
def in4_17 (k : (Int × Int × (List Int) × (List Int) × Int × (Int × Int × Int) × Int × Int × Int)) (x : (Int)) : Prop := (0 : Int) ≤ x ∧ k.2.2.1.length = 3 ∧ k.2.2.2.1.length = 4 ∧ 0 ≤ k.2.2.2.2.1 ∧ k.2.2.2.2.1 ≤ 2
def mu4_17 (k : (Int × Int × (List Int) × (List Int) × Int × (Int × Int × Int) × Int × Int × Int)) (x : (Int)) : Nat := ((8 : Int) - x).toNat
def K4_17_1 (k : (Int × Int × (List Int) × (List Int) × Int × (Int × Int × Int) × Int × Int × Int)) (x : (Int)) :=
  (Sp.F9 (k.1, ((Sp.nthT k.2.2.1 k.2.2.2.2.1), (IntKind.i64.wrap ((BitVec.ofInt IntKind.i64.bits (IntKind.i64.wrap ((BitVec.ofInt IntKind.i64.bits (IntKind.i64.wrap ((BitVec.ofInt IntKind.i64.bits x &&& BitVec.ofInt IntKind.i64.bits (1 : Int)).toNat : Int)) ||| BitVec.ofInt IntKind.i64.bits (IntKind.i64.wrap ((IntKind.i64.wrap ((BitVec.ofInt IntKind.i64.bits x &&& BitVec.ofInt IntKind.i64.bits (2 : Int)).toNat : Int)) * 2 ^ (min ((1 : Int)).toNat IntKind.i64.bits)))).toNat : Int)) ||| BitVec.ofInt IntKind.i64.bits (Int.fdiv (IntKind.i64.wrap ((BitVec.ofInt IntKind.i64.bits x &&& BitVec.ofInt IntKind.i64.bits (4 : Int)).toNat : Int)) (2 ^ (min ((1 : Int)).toNat IntKind.i64.bits)))).toNat : Int))), (IntKind.i64.wrap ((IntKind.i64.wrap (k.1 - (1 : Int))) - k.2.1)), k.2.2.2.2.2.2))
def st4_17 (k : (Int × Int × (List Int) × (List Int) × Int × (Int × Int × Int) × Int × Int × Int)) (x : (Int)) : BOut (Int × Int × (List Int) × (List Int) × Int × (Int × Int × Int) × Int × Int × Int) (Int) (Bool) :=
  bif (decide (x < (8 : Int))) then
    (bif (((((((decide ((Sp.F9 (k.1, (k.2.2.2.2.1, x), k.2.1, k.2.2.2.2.2.1)).1 < (0 : Int))) || (decide ((Sp.F9 (k.1, (k.2.2.2.2.1, x), k.2.1, k.2.2.2.2.2.1)).1 > (3 : Int)))) || (decide ((Sp.F9 (k.1, (k.2.2.2.2.1, x), k.2.1, k.2.2.2.2.2.1)).2.1 < (0 : Int)))) || (decide ((Sp.F9 (k.1, (k.2.2.2.2.1, x), k.2.1, k.2.2.2.2.2.1)).2.1 > (2 : Int)))) || (decide ((Sp.F9 (k.1, (k.2.2.2.2.1, x), k.2.1, k.2.2.2.2.2.1)).2.2 < (0 : Int)))) || (decide ((Sp.F9 (k.1, (k.2.2.2.2.1, x), k.2.1, k.2.2.2.2.2.1)).2.2 > (2 : Int)))) || (!(((Sp.K4_17_1 k x).1 == (Sp.nthT k.2.2.2.1 ((Sp.F9 (k.1, (k.2.2.2.2.1, x), k.2.1, k.2.2.2.2.2.1)).1))) && (((Sp.K4_17_1 k x).2.1 == (Sp.nthT k.2.2.1 ((Sp.F9 (k.1, (k.2.2.2.2.1, x), k.2.1, k.2.2.2.2.2.1)).2.1))) && ((Sp.K4_17_1 k x).2.2 == (Sp.nthT k.2.2.1 ((Sp.F9 (k.1, (k.2.2.2.2.1, x), k.2.1, k.2.2.2.2.2.1)).2.2))))))) then
      BOut.ret false
    else
      BOut.next k (IntKind.i64.wrap (x + (1 : Int))))
  else
    BOut.brk k x
def G4_17 (k : (Int × Int × (List Int) × (List Int) × Int × (Int × Int × Int) × Int × Int × Int)) (x : (Int)) : (Int) := endOf st4_17 k (Nat.succ (mu4_17 k x)) x
def R4_17 (k : (Int × Int × (List Int) × (List Int) × Int × (Int × Int × Int) × Int × Int × Int)) (x : (Int)) : Option (Bool) := retOf st4_17 k (Nat.succ (mu4_17 k x)) x
end Go.Proofs.YtidnlehjabhclaaDoor.Sp
namespace Go.Proofs.YtidnlehjabhclaaDoor.Sy
def LS4_17 : LS ty4.den := mkLS (Ty.pair ty3 (Ty.pair ty3 (Ty.pair ty41 (Ty.pair ty41 (Ty.pair ty3 (Ty.pair ty30 ty30)))))) ty3  [(7, none), (8, none), (12, none), (13, none), (14, none)] [(5, 3), (9, 3)] [(15, none)] [] [] [] [(5, 5), (9, 9)] 4 true Sp.in4_17 Sp.st4_17 Sp.mu4_17
end Go.Proofs.YtidnlehjabhclaaDoor.Sy
namespace Go.Proofs.YtidnlehjabhclaaDoor.Sp
open Go Go.RowKit Sy
def in4_14 (k : (Int × Int × (List Int) × (List Int) × (Int × Int × Int) × Int × Int × Int)) (x : (Int)) : Prop := (1 : Int) ≤ x ∧ k.2.2.1.length = 3 ∧ k.2.2.2.1.length = 4
def mu4_14 (k : (Int × Int × (List Int) × (List Int) × (Int × Int × Int) × Int × Int × Int)) (x : (Int)) : Nat := ((3 : Int) - x).toNat
def st4_14 (k : (Int × Int × (List Int) × (List Int) × (Int × Int × Int) × Int × Int × Int)) (x : (Int)) : BOut (Int × Int × (List Int) × (List Int) × (Int × Int × Int) × Int × Int × Int) (Int) (Bool) :=
  bif (decide (x < (3 : Int))) then
    (Sp.optR (Sp.R4_17 (k.1, k.2.1, k.2.2.1, k.2.2.2.1, x, k.2.2.2.2) (0 : Int)) BOut.ret
    (BOut.next k (IntKind.i64.wrap (x + (1 : Int)))))
  else
    BOut.brk k x
def G4_14 (k : (Int × Int × (List Int) × (List Int) × (Int × Int × Int) × Int × Int × Int)) (x : (Int)) : (Int) := endOf st4_14 k (Nat.succ (mu4_14 k x)) x
def R4_14 (k : (Int × Int × (List Int) × (List Int) × (Int × Int × Int) × Int × Int × Int)) (x : (Int)) : Option (Bool) := retOf st4_14 k (Nat.succ (mu4_14 k x)) x
end Go.Proofs.YtidnlehjabhclaaDoor.Sp
namespace Go.Proofs.YtidnlehjabhclaaDoor.Sy
def LS4_14 : LS ty4.den := mkLS (Ty.pair ty3 (Ty.pair ty3 (Ty.pair ty41 (Ty.pair ty41 (Ty.pair ty30 ty30))))) ty3  [(7, none), (8, none), (12, none), (13, none)] [(5, 3), (9, 3)] [(14, none)] [] [] [] [(5, 5), (9, 9)] 2 true Sp.in4_14 Sp.st4_14 Sp.mu4_14
theorem va4_5 (k : (Ty.pair ty3 ty30).den) (x : (Ty.pair ty3 ty30).den) : ((evCode (ctxG GmE7) (lookL []) (bodyAt (bodyOf Tryd.f4) [0]) (tmpl LS4_5 (enc (Ty.pair ty3 ty30) k) (enc (Ty.pair ty3 ty30) x)) (evRound LS4_5 (evRet (ctxG GmE7) Tryd.f4 (Rsh.one (none)) none ty4 .ret)))).val BOut.ret (BOut.brk (Ty.dflt (Ty.pair ty3 ty30)) (Ty.dflt (Ty.pair ty3 ty30))) = Sp.st4_5 k x := by kernel_rfl
theorem se4_5 (k : (Ty.pair ty3 ty30).den) (x : (Ty.pair ty3 ty30).den) : ((evCode (ctxG GmE7) (lookL []) (bodyAt (bodyOf Tryd.f4) [0]) (tmpl LS4_5 (enc (Ty.pair ty3 ty30) k) (enc (Ty.pair ty3 ty30) x)) (evRound LS4_5 (evRet (ctxG GmE7) Tryd.f4 (Rsh.one (none)) none ty4 .ret)))).safe = ((((decide (x.1 < k.1)) = true → ((0 ≤ (IntKind.u64.wrap x.1)) ∧ ((0 ≤ (IntKind.u64.wrap (IntKind.i64.wrap ((IntKind.i64.wrap (k.1 - (1 : Int))) - x.1)))) ∧ ((0 ≤ (IntKind.u64.wrap x.1)) ∧ ((0 ≤ (IntKind.u64.wrap (IntKind.i64.wrap ((IntKind.i64.wrap (k.1 - (1 : Int))) - x.1)))) ∧ ((0 ≤ (IntKind.u64.wrap x.1)) ∧ ((0 ≤ (IntKind.u64.wrap (IntKind.i64.wrap ((IntKind.i64.wrap (k.1 - (1 : Int))) - x.1)))) ∧ True))))))) ∧ ((decide (x.1 < k.1)) = false → True))) := by kernel_rfl
set_option maxHeartbeats 4000000 in
theorem sa4_5 (k : (Ty.pair ty3 ty30).den) (x : (Ty.pair ty3 ty30).den) (fk : Fit (Ty.pair ty3 ty30) k) (fx : Fit (Ty.pair ty3 ty30) x) (h : Sp.in4_5 k x) : SafeW ((evCode (ctxG GmE7) (lookL []) (bodyAt (bodyOf Tryd.f4) [0]) (tmpl LS4_5 (enc (Ty.pair ty3 ty30) k) (enc (Ty.pair ty3 ty30) x)) (evRound LS4_5 (evRet (ctxG GmE7) Tryd.f4 (Rsh.one (none)) none ty4 .ret)))) := by
  refine ⟨?_⟩
  rw [se4_5]
  try dsimp only [Ty.den] at *
  simp only [Sp.in4_5, Fit, maxLen] at h fk fx
  simp only [IntKind.wrap_i64, IntKind.wrap_u8, IntKind.wrap_u32, IntKind.wrap_u64, Sp.tmod_lit, Sp.tdiv_lit, bne_eq_false_iff_eq, Int.natCast_inj, setE, copyL, sliceL, zrow, List.length_append, List.length_cons, List.length_nil, List.length_set, List.length_replicate, List.length_take, List.length_drop, decide_eq_true_eq, decide_eq_false_iff_not, Bool.or_eq_true, Bool.and_eq_true, Bool.or_eq_false_iff, Bool.and_eq_false_iff, Bool.not_eq_true', Bool.not_eq_false', Bool.not_eq_true, Bool.not_eq_false, beq_iff_eq, beq_eq_false_iff_ne, bne_iff_ne, ne_eq, implies_true, and_true, true_and] at *
  all_goals ((repeat' (first | exact trivial | apply And.intro | intro _)) <;> first | trivial | omega | exact Sp.tmod_nn (by omega) | exact Sp.tmod_lt (by omega) (by omega))
set_option maxHeartbeats 4000000 in
theorem so4_5 (k : (Ty.pair ty3 ty30).den) (x : (Ty.pair ty3 ty30).den) (fk : Fit (Ty.pair ty3 ty30) k) (h : Sp.in4_5 k x) : StepOk false Sp.in4_5 Sp.mu4_5 k x (Sp.st4_5 k x) := by
  try dsimp only [Ty.den] at *
  simp only [Sp.in4_5, Fit, maxLen] at h fk
  unfold Sp.st4_5
  (repeat' (first | exact rfl | (refine StepOk.cnd (fun hc => ?_) (fun hc => ?_) <;> (try simp only [IntKind.wrap_i64, IntKind.wrap_u8, IntKind.wrap_u32, IntKind.wrap_u64, bne_eq_false_iff_eq, Int.natCast_inj, setE, copyL, sliceL, zrow, List.length_append, List.length_cons, List.length_nil, List.length_set, List.length_replicate, List.length_take, List.length_drop, decide_eq_true_eq, decide_eq_false_iff_not, Bool.or_eq_true, Bool.and_eq_true, Bool.or_eq_false_iff, Bool.and_eq_false_iff, Bool.not_eq_true', Bool.not_eq_false', Bool.not_eq_true, Bool.not_eq_false, beq_iff_eq, beq_eq_false_iff_ne, bne_iff_ne, ne_eq] at hc)) | refine StepOk.opt (fun _ => ?_))) <;> (first | exact rfl | (refine ⟨rfl, ?_, ?_⟩ <;> simp only [Sp.in4_5, Sp.mu4_5, IntKind.wrap_i64, IntKind.wrap_u8, IntKind.wrap_u32, IntKind.wrap_u64, Sp.tmod_lit, Sp.tdiv_lit, bne_eq_false_iff_eq, Int.natCast_inj, setE, copyL, sliceL, zrow, List.length_append, List.length_cons, List.length_nil, List.length_set, List.length_replicate, List.length_take, List.length_drop, decide_eq_true_eq, decide_eq_false_iff_not, Bool.or_eq_true, Bool.and_eq_true, Bool.or_eq_false_iff, Bool.and_eq_false_iff, Bool.not_eq_true', Bool.not_eq_false', Bool.not_eq_true, Bool.not_eq_false, beq_iff_eq, beq_eq_false_iff_ne, bne_iff_ne, ne_eq] <;> first | omega | (and_intros <;> first | omega | exact h.1 | exact h.2 | exact h.2.1 | exact h.2.2 | exact h.2.2.1 | exact h.2.2.2 | exact h.2.2.2.1 | exact h.2.2.2.2 | exact h.2.2.2.2.1 | exact h.2.2.2.2.2 | exact h.2.2.2.2.2.1 | exact h.2.2.2.2.2.2)))
theorem lo4_5 : LoopOk Tryd.prog gdS (RetAt Tryd.prog Tryd.f4 (Rsh.one (none)) none ty4) (bodyAt (bodyOf Tryd.f4) [0]) LS4_5 :=
  loop_run (ctxOkF gokGmE7 []) (L := lookL []) (loops_of (l := []) (by kernel_rfl) (loops_nil)) sa4_5 va4_5 so4_5
theorem va4_17 (k : (Ty.pair ty3 (Ty.pair ty3 (Ty.pair ty41 (Ty.pair ty41 (Ty.pair ty3 (Ty.pair ty30 ty30)))))).den) (x : ty3.den) : ((evCode (ctxG GmE7) (lookL [(5, LS4_5)]) (bodyAt (bodyOf Tryd.f4) [1, 0]) (tmpl LS4_17 (enc (Ty.pair ty3 (Ty.pair ty3 (Ty.pair ty41 (Ty.pair ty41 (Ty.pair ty3 (Ty.pair ty30 ty30)))))) k) (enc ty3 x)) (evRound LS4_17 (evRet (ctxG GmE7) Tryd.f4 (Rsh.one (none)) none ty4 .ret)))).val BOut.ret (BOut.brk (Ty.dflt (Ty.pair ty3 (Ty.pair ty3 (Ty.pair ty41 (Ty.pair ty41 (Ty.pair ty3 (Ty.pair ty30 ty30))))))) (Ty.dflt ty3)) = Sp.st4_17 k x := by kernel_rfl
theorem se4_17 (k : (Ty.pair ty3 (Ty.pair ty3 (Ty.pair ty41 (Ty.pair ty41 (Ty.pair ty3 (Ty.pair ty30 ty30)))))).den) (x : ty3.den) : ((evCode (ctxG GmE7) (lookL [(5, LS4_5)]) (bodyAt (bodyOf Tryd.f4) [1, 0]) (tmpl LS4_17 (enc (Ty.pair ty3 (Ty.pair ty3 (Ty.pair ty41 (Ty.pair ty41 (Ty.pair ty3 (Ty.pair ty30 ty30)))))) k) (enc ty3 x)) (evRound LS4_17 (evRet (ctxG GmE7) Tryd.f4 (Rsh.one (none)) none ty4 .ret)))).safe = ((((decide (x < (8 : Int))) = true → ((0 ≤ k.2.2.2.2.1 ∧ k.2.2.2.2.1 < ((k.2.2.1).length : Int)) ∧ ((0 ≤ (1 : Int)) ∧ ((0 ≤ (1 : Int)) ∧ (((((((((decide ((Sp.F9 (k.1, (k.2.2.2.2.1, x), k.2.1, k.2.2.2.2.2.1)).1 < (0 : Int))) || (decide ((Sp.F9 (k.1, (k.2.2.2.2.1, x), k.2.1, k.2.2.2.2.2.1)).1 > (3 : Int)))) || (decide ((Sp.F9 (k.1, (k.2.2.2.2.1, x), k.2.1, k.2.2.2.2.2.1)).2.1 < (0 : Int)))) || (decide ((Sp.F9 (k.1, (k.2.2.2.2.1, x), k.2.1, k.2.2.2.2.2.1)).2.1 > (2 : Int)))) || (decide ((Sp.F9 (k.1, (k.2.2.2.2.1, x), k.2.1, k.2.2.2.2.2.1)).2.2 < (0 : Int)))) || (decide ((Sp.F9 (k.1, (k.2.2.2.2.1, x), k.2.1, k.2.2.2.2.2.1)).2.2 > (2 : Int)))) = false → 0 ≤ (Sp.F9 (k.1, (k.2.2.2.2.1, x), k.2.1, k.2.2.2.2.2.1)).1 ∧ (Sp.F9 (k.1, (k.2.2.2.2.1, x), k.2.1, k.2.2.2.2.2.1)).1 < ((k.2.2.2.1).length : Int))) ∧ (((((((((decide ((Sp.F9 (k.1, (k.2.2.2.2.1, x), k.2.1, k.2.2.2.2.2.1)).1 < (0 : Int))) || (decide ((Sp.F9 (k.1, (k.2.2.2.2.1, x), k.2.1, k.2.2.2.2.2.1)).1 > (3 : Int)))) || (decide ((Sp.F9 (k.1, (k.2.2.2.2.1, x), k.2.1, k.2.2.2.2.2.1)).2.1 < (0 : Int)))) || (decide ((Sp.F9 (k.1, (k.2.2.2.2.1, x), k.2.1, k.2.2.2.2.2.1)).2.1 > (2 : Int)))) || (decide ((Sp.F9 (k.1, (k.2.2.2.2.1, x), k.2.1, k.2.2.2.2.2.1)).2.2 < (0 : Int)))) || (decide ((Sp.F9 (k.1, (k.2.2.2.2.1, x), k.2.1, k.2.2.2.2.2.1)).2.2 > (2 : Int)))) = false → 0 ≤ (Sp.F9 (k.1, (k.2.2.2.2.1, x), k.2.1, k.2.2.2.2.2.1)).2.1 ∧ (Sp.F9 (k.1, (k.2.2.2.2.1, x), k.2.1, k.2.2.2.2.2.1)).2.1 < ((k.2.2.1).length : Int))) ∧ (((((((((decide ((Sp.F9 (k.1, (k.2.2.2.2.1, x), k.2.1, k.2.2.2.2.2.1)).1 < (0 : Int))) || (decide ((Sp.F9 (k.1, (k.2.2.2.2.1, x), k.2.1, k.2.2.2.2.2.1)).1 > (3 : Int)))) || (decide ((Sp.F9 (k.1, (k.2.2.2.2.1, x), k.2.1, k.2.2.2.2.2.1)).2.1 < (0 : Int)))) || (decide ((Sp.F9 (k.1, (k.2.2.2.2.1, x), k.2.1, k.2.2.2.2.2.1)).2.1 > (2 : Int)))) || (decide ((Sp.F9 (k.1, (k.2.2.2.2.1, x), k.2.1, k.2.2.2.2.2.1)).2.2 < (0 : Int)))) || (decide ((Sp.F9 (k.1, (k.2.2.2.2.1, x), k.2.1, k.2.2.2.2.2.1)).2.2 > (2 : Int)))) = false → 0 ≤ (Sp.F9 (k.1, (k.2.2.2.2.1, x), k.2.1, k.2.2.2.2.2.1)).2.2 ∧ (Sp.F9 (k.1, (k.2.2.2.2.1, x), k.2.1, k.2.2.2.2.2.1)).2.2 < ((k.2.2.1).length : Int))) ∧ (((((((((decide ((Sp.F9 (k.1, (k.2.2.2.2.1, x), k.2.1, k.2.2.2.2.2.1)).1 < (0 : Int))) || (decide ((Sp.F9 (k.1, (k.2.2.2.2.1, x), k.2.1, k.2.2.2.2.2.1)).1 > (3 : Int)))) || (decide ((Sp.F9 (k.1, (k.2.2.2.2.1, x), k.2.1, k.2.2.2.2.2.1)).2.1 < (0 : Int)))) || (decide ((Sp.F9 (k.1, (k.2.2.2.2.1, x), k.2.1, k.2.2.2.2.2.1)).2.1 > (2 : Int)))) || (decide ((Sp.F9 (k.1, (k.2.2.2.2.1, x), k.2.1, k.2.2.2.2.2.1)).2.2 < (0 : Int)))) || (decide ((Sp.F9 (k.1, (k.2.2.2.2.1, x), k.2.1, k.2.2.2.2.2.1)).2.2 > (2 : Int)))) || (!(((Sp.K4_17_1 k x).1 == (Sp.nthT k.2.2.2.1 ((Sp.F9 (k.1, (k.2.2.2.2.1, x), k.2.1, k.2.2.2.2.2.1)).1))) && (((Sp.K4_17_1 k x).2.1 == (Sp.nthT k.2.2.1 ((Sp.F9 (k.1, (k.2.2.2.2.1, x), k.2.1, k.2.2.2.2.2.1)).2.1))) && ((Sp.K4_17_1 k x).2.2 == (Sp.nthT k.2.2.1 ((Sp.F9 (k.1, (k.2.2.2.2.1, x), k.2.1, k.2.2.2.2.2.1)).2.2))))))) = true → True) ∧ ((((((((decide ((Sp.F9 (k.1, (k.2.2.2.2.1, x), k.2.1, k.2.2.2.2.2.1)).1 < (0 : Int))) || (decide ((Sp.F9 (k.1, (k.2.2.2.2.1, x), k.2.1, k.2.2.2.2.2.1)).1 > (3 : Int)))) || (decide ((Sp.F9 (k.1, (k.2.2.2.2.1, x), k.2.1, k.2.2.2.2.2.1)).2.1 < (0 : Int)))) || (decide ((Sp.F9 (k.1, (k.2.2.2.2.1, x), k.2.1, k.2.2.2.2.2.1)).2.1 > (2 : Int)))) || (decide ((Sp.F9 (k.1, (k.2.2.2.2.1, x), k.2.1, k.2.2.2.2.2.1)).2.2 < (0 : Int)))) || (decide ((Sp.F9 (k.1, (k.2.2.2.2.1, x), k.2.1, k.2.2.2.2.2.1)).2.2 > (2 : Int)))) || (!(((Sp.K4_17_1 k x).1 == (Sp.nthT k.2.2.2.1 ((Sp.F9 (k.1, (k.2.2.2.2.1, x), k.2.1, k.2.2.2.2.2.1)).1))) && (((Sp.K4_17_1 k x).2.1 == (Sp.nthT k.2.2.1 ((Sp.F9 (k.1, (k.2.2.2.2.1, x), k.2.1, k.2.2.2.2.2.1)).2.1))) && ((Sp.K4_17_1 k x).2.2 == (Sp.nthT k.2.2.1 ((Sp.F9 (k.1, (k.2.2.2.2.1, x), k.2.1, k.2.2.2.2.2.1)).2.2))))))) = false → True))))))))) ∧ ((decide (x < (8 : Int))) = false → True))) := by kernel_rfl
set_option maxHeartbeats 4000000 in
theorem sa4_17 (k : (Ty.pair ty3 (Ty.pair ty3 (Ty.pair ty41 (Ty.pair ty41 (Ty.pair ty3 (Ty.pair ty30 ty30)))))).den) (x : ty3.den) (fk : Fit (Ty.pair ty3 (Ty.pair ty3 (Ty.pair ty41 (Ty.pair ty41 (Ty.pair ty3 (Ty.pair ty30 ty30)))))) k) (fx : Fit ty3 x) (h : Sp.in4_17 k x) : SafeW ((evCode (ctxG GmE7) (lookL [(5, LS4_5)]) (bodyAt (bodyOf Tryd.f4) [1, 0]) (tmpl LS4_17 (enc (Ty.pair ty3 (Ty.pair ty3 (Ty.pair ty41 (Ty.pair ty41 (Ty.pair ty3 (Ty.pair ty30 ty30)))))) k) (enc ty3 x)) (evRound LS4_17 (evRet (ctxG GmE7) Tryd.f4 (Rsh.one (none)) none ty4 .ret)))) := by
  refine ⟨?_⟩
  rw [se4_17]
  try dsimp only [Ty.den] at *
  simp only [Sp.in4_17, Fit, maxLen] at h fk fx
  simp only [IntKind.wrap_i64, IntKind.wrap_u8, IntKind.wrap_u32, IntKind.wrap_u64, Sp.tmod_lit, Sp.tdiv_lit, bne_eq_false_iff_eq, Int.natCast_inj, setE, copyL, sliceL, zrow, List.length_append, List.length_cons, List.length_nil, List.length_set, List.length_replicate, List.length_take, List.length_drop, decide_eq_true_eq, decide_eq_false_iff_not, Bool.or_eq_true, Bool.and_eq_true, Bool.or_eq_false_iff, Bool.and_eq_false_iff, Bool.not_eq_true', Bool.not_eq_false', Bool.not_eq_true, Bool.not_eq_false, beq_iff_eq, beq_eq_false_iff_ne, bne_iff_ne, ne_eq, implies_true, and_true, true_and] at *
  all_goals ((repeat' (first | exact trivial | apply And.intro | intro _)) <;> first | trivial | omega | exact Sp.tmod_nn (by omega) | exact Sp.tmod_lt (by omega) (by omega))
set_option maxHeartbeats 4000000 in
theorem so4_17 (k : (Ty.pair ty3 (Ty.pair ty3 (Ty.pair ty41 (Ty.pair ty41 (Ty.pair ty3 (Ty.pair ty30 ty30)))))).den) (x : ty3.den) (fk : Fit (Ty.pair ty3 (Ty.pair ty3 (Ty.pair ty41 (Ty.pair ty41 (Ty.pair ty3 (Ty.pair ty30 ty30)))))) k) (h : Sp.in4_17 k x) : StepOk true Sp.in4_17 Sp.mu4_17 k x (Sp.st4_17 k x) := by
  try dsimp only [Ty.den] at *
  simp only [Sp.in4_17, Fit, maxLen] at h fk
  unfold Sp.st4_17
  (repeat' (first | exact rfl | (refine StepOk.cnd (fun hc => ?_) (fun hc => ?_) <;> (try simp only [IntKind.wrap_i64, IntKind.wrap_u8, IntKind.wrap_u32, IntKind.wrap_u64, bne_eq_false_iff_eq, Int.natCast_inj, setE, copyL, sliceL, zrow, List.length_append, List.length_cons, List.length_nil, List.length_set, List.length_replicate, List.length_take, List.length_drop, decide_eq_true_eq, decide_eq_false_iff_not, Bool.or_eq_true, Bool.and_eq_true, Bool.or_eq_false_iff, Bool.and_eq_false_iff, Bool.not_eq_true', Bool.not_eq_false', Bool.not_eq_true, Bool.not_eq_false, beq_iff_eq, beq_eq_false_iff_ne, bne_iff_ne, ne_eq] at hc)) | refine StepOk.opt (fun _ => ?_))) <;> (first | exact rfl | (refine ⟨rfl, ?_, ?_⟩ <;> simp only [Sp.in4_17, Sp.mu4_17, IntKind.wrap_i64, IntKind.wrap_u8, IntKind.wrap_u32, IntKind.wrap_u64, Sp.tmod_lit, Sp.tdiv_lit, bne_eq_false_iff_eq, Int.natCast_inj, setE, copyL, sliceL, zrow, List.length_append, List.length_cons, List.length_nil, List.length_set, List.length_replicate, List.length_take, List.length_drop, decide_eq_true_eq, decide_eq_false_iff_not, Bool.or_eq_true, Bool.and_eq_true, Bool.or_eq_false_iff, Bool.and_eq_false_iff, Bool.not_eq_true', Bool.not_eq_false', Bool.not_eq_true, Bool.not_eq_false, beq_iff_eq, beq_eq_false_iff_ne, bne_iff_ne, ne_eq] <;> first | omega | (and_intros <;> first | omega | exact h.1 | exact h.2 | exact h.2.1 | exact h.2.2 | exact h.2.2.1 | exact h.2.2.2 | exact h.2.2.2.1 | exact h.2.2.2.2 | exact h.2.2.2.2.1 | exact h.2.2.2.2.2 | exact h.2.2.2.2.2.1 | exact h.2.2.2.2.2.2)))
theorem lo4_17 : LoopOk Tryd.prog gdS (RetAt Tryd.prog Tryd.f4 (Rsh.one (none)) none ty4) (bodyAt (bodyOf Tryd.f4) [1, 0]) LS4_17 :=
  loop_run (ctxOkF gokGmE7 []) (L := lookL [(5, LS4_5)]) (loops_of (l := []) (by kernel_rfl) (loops_nil)) sa4_17 va4_17 so4_17
theorem va4_14 (k : (Ty.pair ty3 (Ty.pair ty3 (Ty.pair ty41 (Ty.pair ty41 (Ty.pair ty30 ty30))))).den) (x : ty3.den) : ((evCode (ctxG GmE7) (lookL [(5, LS4_5), (17, LS4_17)]) (bodyAt (bodyOf Tryd.f4) [1]) (tmpl LS4_14 (enc (Ty.pair ty3 (Ty.pair ty3 (Ty.pair ty41 (Ty.pair ty41 (Ty.pair ty30 ty30))))) k) (enc ty3 x)) (evRound LS4_14 (evRet (ctxG GmE7) Tryd.f4 (Rsh.one (none)) none ty4 .ret)))).val BOut.ret (BOut.brk (Ty.dflt (Ty.pair ty3 (Ty.pair ty3 (Ty.pair ty41 (Ty.pair ty41 (Ty.pair ty30 ty30)))))) (Ty.dflt ty3)) = Sp.st4_14 k x := by kernel_rfl
theorem se4_14 (k : (Ty.pair ty3 (Ty.pair ty3 (Ty.pair ty41 (Ty.pair ty41 (Ty.pair ty30 ty30))))).den) (x : ty3.den) : ((evCode (ctxG GmE7) (lookL [(5, LS4_5), (17, LS4_17)]) (bodyAt (bodyOf Tryd.f4) [1]) (tmpl LS4_14 (enc (Ty.pair ty3 (Ty.pair ty3 (Ty.pair ty41 (Ty.pair ty41 (Ty.pair ty30 ty30))))) k) (enc ty3 x)) (evRound LS4_14 (evRet (ctxG GmE7) Tryd.f4 (Rsh.one (none)) none ty4 .ret)))).safe = ((((decide (x < (3 : Int))) = true → ((Sp.in4_17 (k.1, k.2.1, k.2.2.1, k.2.2.2.1, x, k.2.2.2.2) (0 : Int)) ∧ ((Sp.R4_17 (k.1, k.2.1, k.2.2.1, k.2.2.2.1, x, k.2.2.2.2) (0 : Int)) = none → True))) ∧ ((decide (x < (3 : Int))) = false → True))) := by kernel_rfl
set_option maxHeartbeats 4000000 in
theorem sa4_14 (k : (Ty.pair ty3 (Ty.pair ty3 (Ty.pair ty41 (Ty.pair ty41 (Ty.pair ty30 ty30))))).den) (x : ty3.den) (fk : Fit (Ty.pair ty3 (Ty.pair ty3 (Ty.pair ty41 (Ty.pair ty41 (Ty.pair ty30 ty30))))) k) (fx : Fit ty3 x) (h : Sp.in4_14 k x) : SafeW ((evCode (ctxG GmE7) (lookL [(5, LS4_5), (17, LS4_17)]) (bodyAt (bodyOf Tryd.f4) [1]) (tmpl LS4_14 (enc (Ty.pair ty3 (Ty.pair ty3 (Ty.pair ty41 (Ty.pair ty41 (Ty.pair ty30 ty30))))) k) (enc ty3 x)) (evRound LS4_14 (evRet (ctxG GmE7) Tryd.f4 (Rsh.one (none)) none ty4 .ret)))) := by
  refine ⟨?_⟩
  rw [se4_14]
  try dsimp only [Ty.den] at *
  simp only [Sp.in4_14, Fit, maxLen] at h fk fx
  simp only [Sp.in4_17, IntKind.wrap_i64, IntKind.wrap_u8, IntKind.wrap_u32, IntKind.wrap_u64, Sp.tmod_lit, Sp.tdiv_lit, bne_eq_false_iff_eq, Int.natCast_inj, setE, copyL, sliceL, zrow, List.length_append, List.length_cons, List.length_nil, List.length_set, List.length_replicate, List.length_take, List.length_drop, decide_eq_true_eq, decide_eq_false_iff_not, Bool.or_eq_true, Bool.and_eq_true, Bool.or_eq_false_iff, Bool.and_eq_false_iff, Bool.not_eq_true', Bool.not_eq_false', Bool.not_eq_true, Bool.not_eq_false, beq_iff_eq, beq_eq_false_iff_ne, bne_iff_ne, ne_eq, implies_true, and_true, true_and] at *
  all_goals ((repeat' (first | exact trivial | apply And.intro | intro _)) <;> first | trivial | omega | exact Sp.tmod_nn (by omega) | exact Sp.tmod_lt (by omega) (by omega))
set_option maxHeartbeats 4000000 in
theorem so4_14 (k : (Ty.pair ty3 (Ty.pair ty3 (Ty.pair ty41 (Ty.pair ty41 (Ty.pair ty30 ty30))))).den) (x : ty3.den) (fk : Fit (Ty.pair ty3 (Ty.pair ty3 (Ty.pair ty41 (Ty.pair ty41 (Ty.pair ty30 ty30))))) k) (h : Sp.in4_14 k x) : StepOk true Sp.in4_14 Sp.mu4_14 k x (Sp.st4_14 k x) := by
  try dsimp only [Ty.den] at *
  simp only [Sp.in4_14, Fit, maxLen] at h fk
  unfold Sp.st4_14
  (repeat' (first | exact rfl | (refine StepOk.cnd (fun hc => ?_) (fun hc => ?_) <;> (try simp only [IntKind.wrap_i64, IntKind.wrap_u8, IntKind.wrap_u32, IntKind.wrap_u64, bne_eq_false_iff_eq, Int.natCast_inj, setE, copyL, sliceL, zrow, List.length_append, List.length_cons, List.length_nil, List.length_set, List.length_replicate, List.length_take, List.length_drop, decide_eq_true_eq, decide_eq_false_iff_not, Bool.or_eq_true, Bool.and_eq_true, Bool.or_eq_false_iff, Bool.and_eq_false_iff, Bool.not_eq_true', Bool.not_eq_false', Bool.not_eq_true, Bool.not_eq_false, beq_iff_eq, beq_eq_false_iff_ne, bne_iff_ne, ne_eq] at hc)) | refine StepOk.opt (fun _ => ?_))) <;> (first | exact rfl | (refine ⟨rfl, ?_, ?_⟩ <;> simp only [Sp.in4_14, Sp.mu4_14, IntKind.wrap_i64, IntKind.wrap_u8, IntKind.wrap_u32, IntKind.wrap_u64, Sp.tmod_lit, Sp.tdiv_lit, bne_eq_false_iff_eq, Int.natCast_inj, setE, copyL, sliceL, zrow, List.length_append, List.length_cons, List.length_nil, List.length_set, List.length_replicate, List.length_take, List.length_drop, decide_eq_true_eq, decide_eq_false_iff_not, Bool.or_eq_true, Bool.and_eq_true, Bool.or_eq_false_iff, Bool.and_eq_false_iff, Bool.not_eq_true', Bool.not_eq_false', Bool.not_eq_true, Bool.not_eq_false, beq_iff_eq, beq_eq_false_iff_ne, bne_iff_ne, ne_eq] <;> first | omega | (and_intros <;> first | omega | exact h.1 | exact h.2 | exact h.2.1 | exact h.2.2 | exact h.2.2.1 | exact h.2.2.2 | exact h.2.2.2.1 | exact h.2.2.2.2 | exact h.2.2.2.2.1 | exact h.2.2.2.2.2 | exact h.2.2.2.2.2.1 | exact h.2.2.2.2.2.2)))
theorem lo4_14 : LoopOk Tryd.prog gdS (RetAt Tryd.prog Tryd.f4 (Rsh.one (none)) none ty4) (bodyAt (bodyOf Tryd.f4) [1]) LS4_14 :=
  loop_run (ctxOkF gokGmE7 []) (L := lookL [(5, LS4_5), (17, LS4_17)]) (loops_of (l := [bodyAt (bodyOf Tryd.f4) [1, 0]]) (by kernel_rfl) (loops_cons (s0 := LS4_17) (by kernel_rfl) lo4_17 (loops_nil))) sa4_14 va4_14 so4_14
end Go.Proofs.YtidnlehjabhclaaDoor.Sy
namespace Go.Proofs.YtidnlehjabhclaaDoor.Sp
open Go Go.RowKit Sy
def K4_1 (x : Int × ((Int × Int) × Int) × Int × Int × Int) :=
  (Sp.G4_14 ((IntKind.i64.wrap ((2 : Int) + (IntKind.i64.wrap (Int.tmod x.1 (31 : Int))))), (IntKind.i64.wrap (Int.tmod (IntKind.u64.wrap x.2.1.2) (IntKind.u64.wrap (IntKind.i64.wrap ((2 : Int) + (IntKind.i64.wrap (Int.tmod x.1 (31 : Int)))))))), [(0 : Int), (2 : Int), (1 : Int)], [(0 : Int), (2 : Int), (1 : Int), (3 : Int)], x.2.2, (Sp.G4_5 ((IntKind.i64.wrap ((2 : Int) + (IntKind.i64.wrap (Int.tmod x.1 (31 : Int))))), x.2.2) ((0 : Int), (0 : Int), (0 : Int), (0 : Int))).2) (1 : Int))
def F4 (x : Int × ((Int × Int) × Int) × Int × Int × Int) : Bool :=
  Sp.optR (Sp.R4_14 ((IntKind.i64.wrap ((2 : Int) + (IntKind.i64.wrap (Int.tmod x.1 (31 : Int))))), (IntKind.i64.wrap (Int.tmod (IntKind.u64.wrap x.2.1.2) (IntKind.u64.wrap (IntKind.i64.wrap ((2 : Int) + (IntKind.i64.wrap (Int.tmod x.1 (31 : Int)))))))), [(0 : Int), (2 : Int), (1 : Int)], [(0 : Int), (2 : Int), (1 : Int), (3 : Int)], x.2.2, (Sp.G4_5 ((IntKind.i64.wrap ((2 : Int) + (IntKind.i64.wrap (Int.tmod x.1 (31 : Int))))), x.2.2) ((0 : Int), (0 : Int), (0 : Int), (0 : Int))).2) (1 : Int)) (fun y => y)
  ((Sp.F11 ()))
def pre4 (x : Int × ((Int × Int) × Int) × Int × Int × Int) : Prop := 0 ≤ x.1 ∧ x.1 ≤ 255
end Go.Proofs.YtidnlehjabhclaaDoor.Sp
namespace Go.Proofs.YtidnlehjabhclaaDoor.Sy
def ct4 : Ct := { p := (Ty.pair ty5 (Ty.pair ty25 ty30)), psh := [none, some 3, some 3], r := ty4, rsh := (Rsh.one (none)), pre := some Sp.pre4, fresh := none, F := Sp.F4 }
theorem va4 (x : (Ty.pair ty5 (Ty.pair ty25 ty30)).den) : ((evFn (ctxG GmE7) Tryd.f4 (Ty.pair ty5 (Ty.pair ty25 ty30)) [none, some 3, some 3] (Rsh.one (none)) none ty4 (lookL [(5, LS4_5), (17, LS4_17), (14, LS4_14)]) x)).val (fun y => y) (Ty.dflt ty4) = Sp.F4 x := by kernel_rfl
theorem se4 (x : (Ty.pair ty5 (Ty.pair ty25 ty30)).den) : ((evFn (ctxG GmE7) Tryd.f4 (Ty.pair ty5 (Ty.pair ty25 ty30)) [none, some 3, some 3] (Rsh.one (none)) none ty4 (lookL [(5, LS4_5), (17, LS4_17), (14, LS4_14)]) x)).safe = ((((31 : Int) ≠ 0) ∧ (((IntKind.u64.wrap (IntKind.i64.wrap ((2 : Int) + (IntKind.i64.wrap (Int.tmod x.1 (31 : Int)))))) ≠ 0) ∧ ((Sp.in4_5 ((IntKind.i64.wrap ((2 : Int) + (IntKind.i64.wrap (Int.tmod x.1 (31 : Int))))), x.2.2) ((0 : Int), (0 : Int), (0 : Int), (0 : Int))) ∧ ((Sp.in4_14 ((IntKind.i64.wrap ((2 : Int) + (IntKind.i64.wrap (Int.tmod x.1 (31 : Int))))), (IntKind.i64.wrap (Int.tmod (IntKind.u64.wrap x.2.1.2) (IntKind.u64.wrap (IntKind.i64.wrap ((2 : Int) + (IntKind.i64.wrap (Int.tmod x.1 (31 : Int)))))))), [(0 : Int), (2 : Int), (1 : Int)], [(0 : Int), (2 : Int), (1 : Int), (3 : Int)], x.2.2, (Sp.G4_5 ((IntKind.i64.wrap ((2 : Int) + (IntKind.i64.wrap (Int.tmod x.1 (31 : Int))))), x.2.2) ((0 : Int), (0 : Int), (0 : Int), (0 : Int))).2) (1 : Int)) ∧ ((Sp.R4_14 ((IntKind.i64.wrap ((2 : Int) + (IntKind.i64.wrap (Int.tmod x.1 (31 : Int))))), (IntKind.i64.wrap (Int.tmod (IntKind.u64.wrap x.2.1.2) (IntKind.u64.wrap (IntKind.i64.wrap ((2 : Int) + (IntKind.i64.wrap (Int.tmod x.1 (31 : Int)))))))), [(0 : Int), (2 : Int), (1 : Int)], [(0 : Int), (2 : Int), (1 : Int), (3 : Int)], x.2.2, (Sp.G4_5 ((IntKind.i64.wrap ((2 : Int) + (IntKind.i64.wrap (Int.tmod x.1 (31 : Int))))), x.2.2) ((0 : Int), (0 : Int), (0 : Int), (0 : Int))).2) (1 : Int)) = none → True)))))) := by kernel_rfl
theorem sa4 (x : (Ty.pair ty5 (Ty.pair ty25 ty30)).den) (fx : Fit (Ty.pair ty5 (Ty.pair ty25 ty30)) x) (h : Sp.pre4 x) : SafeW ((evFn (ctxG GmE7) Tryd.f4 (Ty.pair ty5 (Ty.pair ty25 ty30)) [none, some 3, some 3] (Rsh.one (none)) none ty4 (lookL [(5, LS4_5), (17, LS4_17), (14, LS4_14)]) x)) := by
  refine ⟨?_⟩
  rw [se4]
  try dsimp only [Ty.den] at *
  simp only [Fit, maxLen] at fx
  simp only [Sp.in4_5, Sp.in4_17, Sp.in4_14, Sp.pre4, IntKind.wrap_i64, IntKind.wrap_u8, IntKind.wrap_u32, IntKind.wrap_u64, Sp.tmod_lit, Sp.tdiv_lit, bne_eq_false_iff_eq, Int.natCast_inj, setE, copyL, sliceL, zrow, List.length_append, List.length_cons, List.length_nil, List.length_set, List.length_replicate, List.length_take, List.length_drop, decide_eq_true_eq, decide_eq_false_iff_not, Bool.or_eq_true, Bool.and_eq_true, Bool.or_eq_false_iff, Bool.and_eq_false_iff, Bool.not_eq_true', Bool.not_eq_false', Bool.not_eq_true, Bool.not_eq_false, beq_iff_eq, beq_eq_false_iff_ne, bne_iff_ne, ne_eq, implies_true, and_true, true_and] at *
  all_goals ((repeat' (first | exact trivial | apply And.intro | intro _)) <;> first | trivial | omega | exact Sp.tmod_nn (by omega) | exact Sp.tmod_lt (by omega) (by omega))
theorem ok4 : CtOk Tryd.prog gdS 4 ct4 :=
  fn_okU (ctxOkF gokGmE7 []) rfl Tryd.func4 (p := (Ty.pair ty5 (Ty.pair ty25 ty30))) (psh := [none, some 3, some 3]) (r := ty4) (rsh := (Rsh.one (none))) (pre := some Sp.pre4) (fresh := none) (F := Sp.F4) (L := (lookL [(5, LS4_5), (17, LS4_17), (14, LS4_14)])) (c := bodyOf Tryd.f4) (dflt := Ty.dflt ty4) rfl (loops_of (l := [bodyAt (bodyOf Tryd.f4) [0], bodyAt (bodyOf Tryd.f4) [1]]) (by kernel_rfl) (loops_cons (s0 := LS4_5) (by kernel_rfl) lo4_5 (loops_cons (s0 := LS4_14) (by kernel_rfl) lo4_14 (loops_nil))))
    (safe_pre @sa4) va4
/-! overlayref07.Union -/
end Go.Proofs.YtidnlehjabhclaaDoor.Sy
namespace Go.Proofs.YtidnlehjabhclaaDoor.Sp
open Go Go.RowKit Sy
def F12 (x : (Int × Int) × Int × Int) : Int × Int :=
  ((IntKind.u32.wrap ((BitVec.ofInt IntKind.u32.bits x.1.1 ||| BitVec.ofInt IntKind.u32.bits x.2.1).toNat : Int)), (IntKind.u32.wrap ((BitVec.ofInt IntKind.u32.bits x.1.2 ||| BitVec.ofInt IntKind.u32.bits x.2.2).toNat : Int)))
end Go.Proofs.YtidnlehjabhclaaDoor.Sp
namespace Go.Proofs.YtidnlehjabhclaaDoor.Sy
def ct12 : Ct := { p := (Ty.pair ty28 ty28), psh := [some 2, some 2], r := ty28, rsh := (Rsh.one (some 2)), pre := none, fresh := none, F := Sp.F12 }
theorem va12 (x : (Ty.pair ty28 ty28).den) : ((evFn (ctxG GmE7) Tryd.f12 (Ty.pair ty28 ty28) [some 2, some 2] (Rsh.one (some 2)) none ty28 noL x)).val (fun y => y) (Ty.dflt ty28) = Sp.F12 x := by kernel_rfl
theorem se12 (x : (Ty.pair ty28 ty28).den) : ((evFn (ctxG GmE7) Tryd.f12 (Ty.pair ty28 ty28) [some 2, some 2] (Rsh.one (some 2)) none ty28 noL x)).safe = (True) := by kernel_rfl
theorem sa12 (x : (Ty.pair ty28 ty28).den) (fx : Fit (Ty.pair ty28 ty28) x) : SafeW ((evFn (ctxG GmE7) Tryd.f12 (Ty.pair ty28 ty28) [some 2, some 2] (Rsh.one (some 2)) none ty28 noL x)) := by
  refine ⟨?_⟩
  rw [se12]
  trivial
theorem ok12 : CtOk Tryd.prog gdS 12 ct12 :=
  fn_okU (ctxOkF gokGmE7 []) rfl Tryd.func12 (p := (Ty.pair ty28 ty28)) (psh := [some 2, some 2]) (r := ty28) (rsh := (Rsh.one (some 2))) (pre := none) (fresh := none) (F := Sp.F12) (L := noL) (c := bodyOf Tryd.f12) (dflt := Ty.dflt ty28) rfl (no_loops)
    (safe_no @sa12) va12
/-! overlayref07.One -/
end Go.Proofs.YtidnlehjabhclaaDoor.Sy
namespace Go.Proofs.YtidnlehjabhclaaDoor.Sp
open Go Go.RowKit Sy
def F13 (x : Int × Int) : Int × Int :=
  bif ((decide (x.1 < (0 : Int))) || (decide (x.1 > (31 : Int)))) then
    ((0 : Int), (0 : Int))
  else
    bif (x.2 == (1 : Int)) then
      ((IntKind.u32.wrap ((1 : Int) * 2 ^ (min ((IntKind.u64.wrap x.1)).toNat IntKind.u32.bits))), (0 : Int))
    else
      bif (x.2 == (2 : Int)) then
        ((0 : Int), (IntKind.u32.wrap ((1 : Int) * 2 ^ (min ((IntKind.u64.wrap x.1)).toNat IntKind.u32.bits))))
      else
        ((0 : Int), (0 : Int))
end Go.Proofs.YtidnlehjabhclaaDoor.Sp
namespace Go.Proofs.YtidnlehjabhclaaDoor.Sy
def ct13 : Ct := { p := (Ty.pair ty3 ty3), psh := [none, none], r := ty28, rsh := (Rsh.one (some 2)), pre := none, fresh := none, F := Sp.F13 }
theorem va13 (x : (Ty.pair ty3 ty3).den) : ((evFn (ctxG GmE7) Tryd.f13 (Ty.pair ty3 ty3) [none, none] (Rsh.one (some 2)) none ty28 noL x)).val (fun y => y) (Ty.dflt ty28) = Sp.F13 x := by kernel_rfl
theorem se13 (x : (Ty.pair ty3 ty3).den) : ((evFn (ctxG GmE7) Tryd.f13 (Ty.pair ty3 ty3) [none, none] (Rsh.one (some 2)) none ty28 noL x)).safe = (((((decide (x.1 < (0 : Int))) || (decide (x.1 > (31 : Int)))) = true → True) ∧ (((decide (x.1 < (0 : Int))) || (decide (x.1 > (31 : Int)))) = false → (((x.2 == (1 : Int)) = true → ((0 ≤ (IntKind.u64.wrap x.1)) ∧ True)) ∧ ((x.2 == (1 : Int)) = false → (((x.2 == (2 : Int)) = true → ((0 ≤ (IntKind.u64.wrap x.1)) ∧ True)) ∧ ((x.2 == (2 : Int)) = false → True))))))) := by kernel_rfl
theorem sa13 (x : (Ty.pair ty3 ty3).den) (fx : Fit (Ty.pair ty3 ty3) x) : SafeW ((evFn (ctxG GmE7) Tryd.f13 (Ty.pair ty3 ty3) [none, none] (Rsh.one (some 2)) none ty28 noL x)) := by
  refine ⟨?_⟩
  rw [se13]
  try dsimp only [Ty.den] at *
  simp only [Fit, maxLen] at fx
  simp only [true_and, IntKind.wrap_i64, IntKind.wrap_u8, IntKind.wrap_u32, IntKind.wrap_u64, Sp.tmod_lit, Sp.tdiv_lit, bne_eq_false_iff_eq, Int.natCast_inj, setE, copyL, sliceL, zrow, List.length_append, List.length_cons, List.length_nil, List.length_set, List.length_replicate, List.length_take, List.length_drop, decide_eq_true_eq, decide_eq_false_iff_not, Bool.or_eq_true, Bool.and_eq_true, Bool.or_eq_false_iff, Bool.and_eq_false_iff, Bool.not_eq_true', Bool.not_eq_false', Bool.not_eq_true, Bool.not_eq_false, beq_iff_eq, beq_eq_false_iff_ne, bne_iff_ne, ne_eq, implies_true, and_true, true_and] at *
  all_goals ((repeat' (first | exact trivial | apply And.intro | intro _)) <;> first | trivial | omega | exact Sp.tmod_nn (by omega) | exact Sp.tmod_lt (by omega) (by omega))
theorem ok13 : CtOk Tryd.prog gdS 13 ct13 :=
  fn_okU (ctxOkF gokGmE7 []) rfl Tryd.func13 (p := (Ty.pair ty3 ty3)) (psh := [none, none]) (r := ty28) (rsh := (Rsh.one (some 2))) (pre := none) (fresh := none) (F := Sp.F13) (L := noL) (c := bodyOf Tryd.f13) (dflt := Ty.dflt ty28) rfl (no_loops)
    (safe_no @sa13) va13
def GmG0 : List (Nat × Ct) := (10, ct10) :: (4, ct4) :: (12, ct12) :: (13, ct13) :: GmE7
theorem gokGmG0 : GOk GmG0 := gok_cons ok10 ⟨_, Tryd.func10, by kernel_rfl, by kernel_rfl⟩ (gok_cons ok4 ⟨_, Tryd.func4, by kernel_rfl, by kernel_rfl⟩ (gok_cons ok12 ⟨_, Tryd.func12, by kernel_rfl, by kernel_rfl⟩ (gok_cons ok13 ⟨_, Tryd.func13, by kernel_rfl, by kernel_rfl⟩ (gokGmE7))))
end Go.Proofs.YtidnlehjabhclaaDoor.Sy
