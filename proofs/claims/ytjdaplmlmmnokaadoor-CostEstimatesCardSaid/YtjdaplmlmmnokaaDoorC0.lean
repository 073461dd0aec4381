/- Contracts of functions, by the evaluator (own program gen.py): cost.isFloors, cost.isCall, calls.Both, cost.Path$1, calls.Count. -/
import Derived.Test.YtjdaplmlmmnokaaDoorBl
set_option linter.unusedVariables false
set_option linter.unusedSimpArgs false
set_option maxRecDepth 100000
namespace Go.Proofs.YtjdaplmlmmnokaaDoor.Sy
open Go Go.RowKit Sp
/-! cost.isFloors -/
end Go.Proofs.YtjdaplmlmmnokaaDoor.Sy
namespace Go.Proofs.YtjdaplmlmmnokaaDoor.Sp
open Go Go.RowKit Sy
def F16 (x : Int) : Bool :=
  ((decide (x ≥ (2 : Int))) && (decide (x ≤ (32 : Int))))
end Go.Proofs.YtjdaplmlmmnokaaDoor.Sp
namespace Go.Proofs.YtjdaplmlmmnokaaDoor.Sy
def ct16 : Ct := { p := ty3, psh := [none], r := ty4, rsh := (Rsh.one (none)), pre := none, fresh := none, F := Sp.F16 }
theorem va16 (x : ty3.den) : ((evFn (ctxG GmM0) Tryd.f16 ty3 [none] (Rsh.one (none)) none ty4 noL x)).val (fun y => y) (Ty.dflt ty4) = Sp.F16 x := by kernel_rfl
theorem se16 (x : ty3.den) : ((evFn (ctxG GmM0) Tryd.f16 ty3 [none] (Rsh.one (none)) none ty4 noL x)).safe = (True) := by kernel_rfl
theorem sa16 (x : ty3.den) (fx : Fit ty3 x) : SafeW ((evFn (ctxG GmM0) Tryd.f16 ty3 [none] (Rsh.one (none)) none ty4 noL x)) := by
  refine ⟨?_⟩
  rw [se16]
  trivial
theorem ok16 : CtOk Tryd.prog gdS 16 ct16 :=
  fn_okU (ctxOkF gokGmM0 []) rfl Tryd.func16 (p := ty3) (psh := [none]) (r := ty4) (rsh := (Rsh.one (none))) (pre := none) (fresh := none) (F := Sp.F16) (L := noL) (c := bodyOf Tryd.f16) (dflt := Ty.dflt ty4) rfl (no_loops)
    (safe_no @sa16) va16
/-! cost.isCall -/
end Go.Proofs.YtjdaplmlmmnokaaDoor.Sy
namespace Go.Proofs.YtjdaplmlmmnokaaDoor.Sp
open Go Go.RowKit Sy
def F17 (x : Int × Int × Int) : Bool :=
  ((((x.2.2 == (1 : Int)) && (decide (x.2.1 ≥ (0 : Int)))) && (decide (x.2.1 < (IntKind.i64.wrap (x.1 - (1 : Int)))))) || (((x.2.2 == (2 : Int)) && (decide (x.2.1 > (0 : Int)))) && (decide (x.2.1 < x.1))))
end Go.Proofs.YtjdaplmlmmnokaaDoor.Sp
namespace Go.Proofs.YtjdaplmlmmnokaaDoor.Sy
def ct17 : Ct := { p := (Ty.pair ty3 (Ty.pair ty3 ty3)), psh := [none, none, none], r := ty4, rsh := (Rsh.one (none)), pre := none, fresh := none, F := Sp.F17 }
theorem va17 (x : (Ty.pair ty3 (Ty.pair ty3 ty3)).den) : ((evFn (ctxG GmM0) Tryd.f17 (Ty.pair ty3 (Ty.pair ty3 ty3)) [none, none, none] (Rsh.one (none)) none ty4 noL x)).val (fun y => y) (Ty.dflt ty4) = Sp.F17 x := by kernel_rfl
theorem se17 (x : (Ty.pair ty3 (Ty.pair ty3 ty3)).den) : ((evFn (ctxG GmM0) Tryd.f17 (Ty.pair ty3 (Ty.pair ty3 ty3)) [none, none, none] (Rsh.one (none)) none ty4 noL x)).safe = (True) := by kernel_rfl
theorem sa17 (x : (Ty.pair ty3 (Ty.pair ty3 ty3)).den) (fx : Fit (Ty.pair ty3 (Ty.pair ty3 ty3)) x) : SafeW ((evFn (ctxG GmM0) Tryd.f17 (Ty.pair ty3 (Ty.pair ty3 ty3)) [none, none, none] (Rsh.one (none)) none ty4 noL x)) := by
  refine ⟨?_⟩
  rw [se17]
  trivial
theorem ok17 : CtOk Tryd.prog gdS 17 ct17 :=
  fn_okU (ctxOkF gokGmM0 []) rfl Tryd.func17 (p := (Ty.pair ty3 (Ty.pair ty3 ty3))) (psh := [none, none, none]) (r := ty4) (rsh := (Rsh.one (none))) (pre := none) (fresh := none) (F := Sp.F17) (L := noL) (c := bodyOf Tryd.f17) (dflt := Ty.dflt ty4) rfl (no_loops)
    (safe_no @sa17) va17
/-! calls.Both -/
end Go.Proofs.YtjdaplmlmmnokaaDoor.Sy
namespace Go.Proofs.YtjdaplmlmmnokaaDoor.Sp
open Go Go.RowKit Sy
def F28 (x : (Int × Int) × Int × Int) : Int × Int :=
  ((IntKind.u32.wrap ((BitVec.ofInt IntKind.u32.bits x.1.1 &&& BitVec.ofInt IntKind.u32.bits x.2.1).toNat : Int)), (IntKind.u32.wrap ((BitVec.ofInt IntKind.u32.bits x.1.2 &&& BitVec.ofInt IntKind.u32.bits x.2.2).toNat : Int)))
end Go.Proofs.YtjdaplmlmmnokaaDoor.Sp
namespace Go.Proofs.YtjdaplmlmmnokaaDoor.Sy
def ct28 : Ct := { p := (Ty.pair ty24 ty24), psh := [some 2, some 2], r := ty24, rsh := (Rsh.one (some 2)), pre := none, fresh := none, F := Sp.F28 }
theorem va28 (x : (Ty.pair ty24 ty24).den) : ((evFn (ctxG GmM0) Tryd.f28 (Ty.pair ty24 ty24) [some 2, some 2] (Rsh.one (some 2)) none ty24 noL x)).val (fun y => y) (Ty.dflt ty24) = Sp.F28 x := by kernel_rfl
theorem se28 (x : (Ty.pair ty24 ty24).den) : ((evFn (ctxG GmM0) Tryd.f28 (Ty.pair ty24 ty24) [some 2, some 2] (Rsh.one (some 2)) none ty24 noL x)).safe = (True) := by kernel_rfl
theorem sa28 (x : (Ty.pair ty24 ty24).den) (fx : Fit (Ty.pair ty24 ty24) x) : SafeW ((evFn (ctxG GmM0) Tryd.f28 (Ty.pair ty24 ty24) [some 2, some 2] (Rsh.one (some 2)) none ty24 noL x)) := by
  refine ⟨?_⟩
  rw [se28]
  trivial
theorem ok28 : CtOk Tryd.prog gdS 28 ct28 :=
  fn_okU (ctxOkF gokGmM0 []) rfl Tryd.func28 (p := (Ty.pair ty24 ty24)) (psh := [some 2, some 2]) (r := ty24) (rsh := (Rsh.one (some 2))) (pre := none) (fresh := none) (F := Sp.F28) (L := noL) (c := bodyOf Tryd.f28) (dflt := Ty.dflt ty24) rfl (no_loops)
    (safe_no @sa28) va28
/-! cost.Path$1 -/
end Go.Proofs.YtjdaplmlmmnokaaDoor.Sy
namespace Go.Proofs.YtjdaplmlmmnokaaDoor.Sp
open Go Go.RowKit Sy
def in21_3 (k : ((List Int) × Int)) (x : (Int × Int × Int)) : Prop := (0 : Int) ≤ x.2.2 ∧ k.2 = ((k.1).length : Int)
def mu21_3 (k : ((List Int) × Int)) (x : (Int × Int × Int)) : Nat := (k.2 - x.2.2).toNat
def st21_3 (k : ((List Int) × Int)) (x : (Int × Int × Int)) : BOut ((List Int) × Int) (Int × Int × Int) (Unit) :=
  bif (decide (x.2.2 < k.2)) then
    BOut.next k ((IntKind.i64.wrap (x.1 + (max (IntKind.i64.wrap ((Sp.nthT k.1 x.2.2) - x.2.1)) (IntKind.i64.wrap (x.2.1 - (Sp.nthT k.1 x.2.2)))))), (Sp.nthT k.1 x.2.2), (IntKind.i64.wrap (x.2.2 + (1 : Int))))
  else
    BOut.brk k x
def G21_3 (k : ((List Int) × Int)) (x : (Int × Int × Int)) : (Int × Int × Int) := endOf st21_3 k (Nat.succ (mu21_3 k x)) x
end Go.Proofs.YtjdaplmlmmnokaaDoor.Sp
namespace Go.Proofs.YtjdaplmlmmnokaaDoor.Sy
def LS21_3 : LS Unit := mkLS (Ty.pair ty35 ty3) (Ty.pair ty3 (Ty.pair ty3 ty3))  [(13, none), (14, none)] [] [(5, none), (6, none), (15, none)] [] [] [13] [] 0 false Sp.in21_3 Sp.st21_3 Sp.mu21_3
theorem va21_3 (k : (Ty.pair ty35 ty3).den) (x : (Ty.pair ty3 (Ty.pair ty3 ty3)).den) : ((evCode (ctxG GmM0) (lookL []) (bodyAt (bodyOf Tryd.f21) [0]) (tmpl LS21_3 (enc (Ty.pair ty35 ty3) k) (enc (Ty.pair ty3 (Ty.pair ty3 ty3)) x)) (evRound LS21_3 (fun _ => Tr.bad)))).val BOut.ret (BOut.brk (Ty.dflt (Ty.pair ty35 ty3)) (Ty.dflt (Ty.pair ty3 (Ty.pair ty3 ty3)))) = Sp.st21_3 k x := by kernel_rfl
theorem se21_3 (k : (Ty.pair ty35 ty3).den) (x : (Ty.pair ty3 (Ty.pair ty3 ty3)).den) : ((evCode (ctxG GmM0) (lookL []) (bodyAt (bodyOf Tryd.f21) [0]) (tmpl LS21_3 (enc (Ty.pair ty35 ty3) k) (enc (Ty.pair ty3 (Ty.pair ty3 ty3)) x)) (evRound LS21_3 (fun _ => Tr.bad)))).safe = ((((decide (x.2.2 < k.2)) = true → ((0 ≤ x.2.2 ∧ x.2.2 < ((k.1).length : Int)) ∧ True)) ∧ ((decide (x.2.2 < k.2)) = false → True))) := by kernel_rfl
set_option maxHeartbeats 4000000 in
theorem sa21_3 (k : (Ty.pair ty35 ty3).den) (x : (Ty.pair ty3 (Ty.pair ty3 ty3)).den) (fk : Fit (Ty.pair ty35 ty3) k) (fx : Fit (Ty.pair ty3 (Ty.pair ty3 ty3)) x) (h : Sp.in21_3 k x) : SafeW ((evCode (ctxG GmM0) (lookL []) (bodyAt (bodyOf Tryd.f21) [0]) (tmpl LS21_3 (enc (Ty.pair ty35 ty3) k) (enc (Ty.pair ty3 (Ty.pair ty3 ty3)) x)) (evRound LS21_3 (fun _ => Tr.bad)))) := by
  refine ⟨?_⟩
  rw [se21_3]
  try dsimp only [Ty.den] at *
  simp only [Sp.in21_3, Fit, maxLen] at h fk fx
  simp only [IntKind.wrap_i64, IntKind.wrap_u8, IntKind.wrap_u32, IntKind.wrap_u64, Sp.tmod_lit, Sp.tdiv_lit, bne_eq_false_iff_eq, Int.natCast_inj, setE, copyL, sliceL, zrow, List.length_append, List.length_cons, List.length_nil, List.length_set, List.length_replicate, List.length_take, List.length_drop, decide_eq_true_eq, decide_eq_false_iff_not, Bool.or_eq_true, Bool.and_eq_true, Bool.or_eq_false_iff, Bool.and_eq_false_iff, Bool.not_eq_true', Bool.not_eq_false', Bool.not_eq_true, Bool.not_eq_false, beq_iff_eq, beq_eq_false_iff_ne, bne_iff_ne, ne_eq, implies_true, and_true, true_and] at *
  all_goals ((repeat' (first | exact trivial | apply And.intro | intro _)) <;> first | trivial | omega | exact Sp.tmod_nn (by omega) | exact Sp.tmod_lt (by omega) (by omega))
set_option maxHeartbeats 4000000 in
theorem so21_3 (k : (Ty.pair ty35 ty3).den) (x : (Ty.pair ty3 (Ty.pair ty3 ty3)).den) (fk : Fit (Ty.pair ty35 ty3) k) (h : Sp.in21_3 k x) : StepOk false Sp.in21_3 Sp.mu21_3 k x (Sp.st21_3 k x) := by
  try dsimp only [Ty.den] at *
  simp only [Sp.in21_3, Fit, maxLen] at h fk
  unfold Sp.st21_3
  (repeat' (first | exact rfl | (refine StepOk.cnd (fun hc => ?_) (fun hc => ?_) <;> (try simp only [IntKind.wrap_i64, IntKind.wrap_u8, IntKind.wrap_u32, IntKind.wrap_u64, bne_eq_false_iff_eq, Int.natCast_inj, setE, copyL, sliceL, zrow, List.length_append, List.length_cons, List.length_nil, List.length_set, List.length_replicate, List.length_take, List.length_drop, decide_eq_true_eq, decide_eq_false_iff_not, Bool.or_eq_true, Bool.and_eq_true, Bool.or_eq_false_iff, Bool.and_eq_false_iff, Bool.not_eq_true', Bool.not_eq_false', Bool.not_eq_true, Bool.not_eq_false, beq_iff_eq, beq_eq_false_iff_ne, bne_iff_ne, ne_eq] at hc)) | refine StepOk.opt (fun _ => ?_))) <;> (first | exact rfl | (refine ⟨rfl, ?_, ?_⟩ <;> simp only [Sp.in21_3, Sp.mu21_3, IntKind.wrap_i64, IntKind.wrap_u8, IntKind.wrap_u32, IntKind.wrap_u64, Sp.tmod_lit, Sp.tdiv_lit, bne_eq_false_iff_eq, Int.natCast_inj, setE, copyL, sliceL, zrow, List.length_append, List.length_cons, List.length_nil, List.length_set, List.length_replicate, List.length_take, List.length_drop, decide_eq_true_eq, decide_eq_false_iff_not, Bool.or_eq_true, Bool.and_eq_true, Bool.or_eq_false_iff, Bool.and_eq_false_iff, Bool.not_eq_true', Bool.not_eq_false', Bool.not_eq_true, Bool.not_eq_false, beq_iff_eq, beq_eq_false_iff_ne, bne_iff_ne, ne_eq] <;> first | omega | (and_intros <;> first | omega | exact h.1 | exact h.2 | exact h.2.1 | exact h.2.2 | exact h.2.2.1 | exact h.2.2.2 | exact h.2.2.2.1 | exact h.2.2.2.2 | exact h.2.2.2.2.1 | exact h.2.2.2.2.2 | exact h.2.2.2.2.2.1 | exact h.2.2.2.2.2.2)))
theorem lo21_3 : LoopOk Tryd.prog gdS (fun _ _ (_ : Unit) _ _ => False) (bodyAt (bodyOf Tryd.f21) [0]) LS21_3 :=
  loop_runP (ctxOkF gokGmM0 []) (L := lookL []) (loops_of (l := []) (by kernel_rfl) (loops_nil)) sa21_3 va21_3 so21_3
end Go.Proofs.YtjdaplmlmmnokaaDoor.Sy
namespace Go.Proofs.YtjdaplmlmmnokaaDoor.Sp
open Go Go.RowKit Sy
def F21 (x : (List Int) × Int × Int) : (Int) × (Int × Int) :=
  ((Sp.G21_3 ((x.1 ++ [x.2.2]), (((x.1 ++ [x.2.2])).length : Int)) ((0 : Int), x.2.1, (0 : Int))).1, x.2)
def pre21 (x : (List Int) × Int × Int) : Prop := x.1.length ≤ 2
end Go.Proofs.YtjdaplmlmmnokaaDoor.Sp
namespace Go.Proofs.YtjdaplmlmmnokaaDoor.Sy
def cp21 : Cp := { p := (Ty.pair ty35 (Ty.pair ty3 ty3)), psh := [none], mask := [false, true, true], sz := [1, 1], ro := true, ex := true, q := (Ty.pair ty3 ty3), r := ty3, rsh := (Rsh.one (none)), pre := some Sp.pre21, F := Sp.F21 }
theorem va21 (x : (Ty.pair ty35 (Ty.pair ty3 ty3)).den) : ((evFnP (ctxG GmM0) Tryd.f21 (Ty.pair ty35 (Ty.pair ty3 ty3)) [none] [false, true, true] [1, 1] true true (Ty.pair ty3 ty3) (Rsh.one (none)) ty3 (lookL [(3, LS21_3)]) x)).val (fun _ => (Ty.dflt ty3, Ty.dflt (Ty.pair ty3 ty3))) (Ty.dflt ty3, Ty.dflt (Ty.pair ty3 ty3)) = Sp.F21 x := by kernel_rfl
theorem se21 (x : (Ty.pair ty35 (Ty.pair ty3 ty3)).den) : ((evFnP (ctxG GmM0) Tryd.f21 (Ty.pair ty35 (Ty.pair ty3 ty3)) [none] [false, true, true] [1, 1] true true (Ty.pair ty3 ty3) (Rsh.one (none)) ty3 (lookL [(3, LS21_3)]) x)).safe = ((((List.length (x.1 : List Int) + List.length ([x.2.2] : List Int)) * 8 ≤ 140737488355328 ∧ List.length (x.1 : List Int) + List.length ([x.2.2] : List Int) ≤ 4611686018427387903) ∧ ((Sp.in21_3 ((x.1 ++ [x.2.2]), (((x.1 ++ [x.2.2])).length : Int)) ((0 : Int), x.2.1, (0 : Int))) ∧ True))) := by kernel_rfl
theorem sa21 (x : (Ty.pair ty35 (Ty.pair ty3 ty3)).den) (h : Sp.pre21 x) : SafeW ((evFnP (ctxG GmM0) Tryd.f21 (Ty.pair ty35 (Ty.pair ty3 ty3)) [none] [false, true, true] [1, 1] true true (Ty.pair ty3 ty3) (Rsh.one (none)) ty3 (lookL [(3, LS21_3)]) x)) := by
  refine ⟨?_⟩
  rw [se21]
  try dsimp only [Ty.den] at *
  simp only [Sp.in21_3, Sp.pre21, IntKind.wrap_i64, IntKind.wrap_u8, IntKind.wrap_u32, IntKind.wrap_u64, Sp.tmod_lit, Sp.tdiv_lit, bne_eq_false_iff_eq, Int.natCast_inj, setE, copyL, sliceL, zrow, List.length_append, List.length_cons, List.length_nil, List.length_set, List.length_replicate, List.length_take, List.length_drop, decide_eq_true_eq, decide_eq_false_iff_not, Bool.or_eq_true, Bool.and_eq_true, Bool.or_eq_false_iff, Bool.and_eq_false_iff, Bool.not_eq_true', Bool.not_eq_false', Bool.not_eq_true, Bool.not_eq_false, beq_iff_eq, beq_eq_false_iff_ne, bne_iff_ne, ne_eq, implies_true, and_true, true_and] at *
  all_goals ((repeat' (first | exact trivial | apply And.intro | intro _)) <;> first | trivial | omega | exact Sp.tmod_nn (by omega) | exact Sp.tmod_lt (by omega) (by omega))
theorem ok21 : CpOk Tryd.prog gdS 21 cp21 :=
  fn_okPU (ctxOkF gokGmM0 []) rfl Tryd.func21 cp21 (L := (lookL [(3, LS21_3)])) (c := bodyOf Tryd.f21) (dflt := (Ty.dflt ty3, Ty.dflt (Ty.pair ty3 ty3))) rfl (loops_of (l := [bodyAt (bodyOf Tryd.f21) [0]]) (by kernel_rfl) (loops_cons (s0 := LS21_3) (by kernel_rfl) lo21_3 (loops_nil)))
    (safe_preX @sa21) va21
/-! calls.Count -/
end Go.Proofs.YtjdaplmlmmnokaaDoor.Sy
namespace Go.Proofs.YtjdaplmlmmnokaaDoor.Sp
open Go Go.RowKit Sy
def F24 (x : Int × Int) : Int :=
  (IntKind.i64.wrap ((Sp.F23 x.1) + (Sp.F23 x.2)))
def pre24 (x : Int × Int) : Prop := (0 ≤ x.1 ∧ x.1 ≤ 4294967295) ∧ 0 ≤ x.2 ∧ x.2 ≤ 4294967295
end Go.Proofs.YtjdaplmlmmnokaaDoor.Sp
namespace Go.Proofs.YtjdaplmlmmnokaaDoor.Sy
def ct24 : Ct := { p := ty24, psh := [some 2], r := ty3, rsh := (Rsh.one (none)), pre := some Sp.pre24, fresh := none, F := Sp.F24 }
theorem va24 (x : ty24.den) : ((evFn (ctxG GmM0) Tryd.f24 ty24 [some 2] (Rsh.one (none)) none ty3 noL x)).val (fun y => y) (Ty.dflt ty3) = Sp.F24 x := by kernel_rfl
theorem se24 (x : ty24.den) : ((evFn (ctxG GmM0) Tryd.f24 ty24 [some 2] (Rsh.one (none)) none ty3 noL x)).safe = (((Sp.pre23 x.1) ∧ ((Sp.pre23 x.2) ∧ True))) := by kernel_rfl
theorem sa24 (x : ty24.den) (fx : Fit ty24 x) (h : Sp.pre24 x) : SafeW ((evFn (ctxG GmM0) Tryd.f24 ty24 [some 2] (Rsh.one (none)) none ty3 noL x)) := by
  refine ⟨?_⟩
  rw [se24]
  try dsimp only [Ty.den] at *
  simp only [Fit, maxLen] at fx
  simp only [Sp.pre24, Sp.pre23, IntKind.wrap_i64, IntKind.wrap_u8, IntKind.wrap_u32, IntKind.wrap_u64, Sp.tmod_lit, Sp.tdiv_lit, bne_eq_false_iff_eq, Int.natCast_inj, setE, copyL, sliceL, zrow, List.length_append, List.length_cons, List.length_nil, List.length_set, List.length_replicate, List.length_take, List.length_drop, decide_eq_true_eq, decide_eq_false_iff_not, Bool.or_eq_true, Bool.and_eq_true, Bool.or_eq_false_iff, Bool.and_eq_false_iff, Bool.not_eq_true', Bool.not_eq_false', Bool.not_eq_true, Bool.not_eq_false, beq_iff_eq, beq_eq_false_iff_ne, bne_iff_ne, ne_eq, implies_true, and_true, true_and] at *
  all_goals ((repeat' (first | exact trivial | apply And.intro | intro _)) <;> first | trivial | omega | exact Sp.tmod_nn (by omega) | exact Sp.tmod_lt (by omega) (by omega))
theorem ok24 : CtOk Tryd.prog gdS 24 ct24 :=
  fn_okU (ctxOkF gokGmM0 []) rfl Tryd.func24 (p := ty24) (psh := [some 2]) (r := ty3) (rsh := (Rsh.one (none))) (pre := some Sp.pre24) (fresh := none) (F := Sp.F24) (L := noL) (c := bodyOf Tryd.f24) (dflt := Ty.dflt ty3) rfl (no_loops)
    (safe_pre @sa24) va24
def PmC0 : List (Nat × Cp) := (21, cp21) :: []
theorem pgokPmC0 : PGOk PmC0 := pgok_cons ok21 ⟨_, Tryd.func21, by kernel_rfl, by kernel_rfl⟩ (pgok_nil)
def GmC0 : List (Nat × Ct) := (16, ct16) :: (17, ct17) :: (28, ct28) :: (24, ct24) :: GmM0
theorem gokGmC0 : GOk GmC0 := gok_cons ok16 ⟨_, Tryd.func16, by kernel_rfl, by kernel_rfl⟩ (gok_cons ok17 ⟨_, Tryd.func17, by kernel_rfl, by kernel_rfl⟩ (gok_cons ok28 ⟨_, Tryd.func28, by kernel_rfl, by kernel_rfl⟩ (gok_cons ok24 ⟨_, Tryd.func24, by kernel_rfl, by kernel_rfl⟩ (gokGmM0))))
end Go.Proofs.YtjdaplmlmmnokaaDoor.Sy
