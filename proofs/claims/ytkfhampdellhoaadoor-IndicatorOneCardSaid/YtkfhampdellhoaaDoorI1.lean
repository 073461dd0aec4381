/- Contracts of functions, by the evaluator (own program gen.py): indicator.Floor, overlayref05.Floor, indicator.IsObs, overlayref05.IsObs. -/
import Derived.Test.YtkfhampdellhoaaDoorI0
set_option linter.unusedVariables false
set_option linter.unusedSimpArgs false
set_option maxRecDepth 100000
namespace Go.Proofs.YtkfhampdellhoaaDoor.Sy
open Go Go.RowKit Sp
/-! indicator.Floor -/
end Go.Proofs.YtkfhampdellhoaaDoor.Sy
namespace Go.Proofs.YtkfhampdellhoaaDoor.Sp
open Go Go.RowKit Sy
def F8 (x : Int × Int) : Int :=
  bif (((Sp.F18 x.1) && ((Sp.F19 x.2) == (1 : Int))) && (decide ((Sp.F17 x.2) < x.1))) then
    (Sp.F17 x.2)
  else
    (-1 : Int)
def pre8 (x : Int × Int) : Prop := 0 ≤ x.2 ∧ x.2 ≤ 4294967295
end Go.Proofs.YtkfhampdellhoaaDoor.Sp
namespace Go.Proofs.YtkfhampdellhoaaDoor.Sy
def ct8 : Ct := { p := (Ty.pair ty3 ty22), psh := [none, none], r := ty3, rsh := (Rsh.one (none)), pre := some Sp.pre8, fresh := none, F := Sp.F8 }
theorem va8 (x : (Ty.pair ty3 ty22).den) : ((evFn (ctxG GmI0) Tryd.f8 (Ty.pair ty3 ty22) [none, none] (Rsh.one (none)) none ty3 noL x)).val (fun y => y) (Ty.dflt ty3) = Sp.F8 x := by kernel_rfl
theorem se8 (x : (Ty.pair ty3 ty22).den) : ((evFn (ctxG GmI0) Tryd.f8 (Ty.pair ty3 ty22) [none, none] (Rsh.one (none)) none ty3 noL x)).safe = (((Sp.pre17 x.2) ∧ ((((Sp.F18 x.1) = true → Sp.pre19 x.2)) ∧ (((((Sp.F18 x.1) && ((Sp.F19 x.2) == (1 : Int))) && (decide ((Sp.F17 x.2) < x.1))) = true → True) ∧ ((((Sp.F18 x.1) && ((Sp.F19 x.2) == (1 : Int))) && (decide ((Sp.F17 x.2) < x.1))) = false → True))))) := by kernel_rfl
theorem sa8 (x : (Ty.pair ty3 ty22).den) (fx : Fit (Ty.pair ty3 ty22) x) (h : Sp.pre8 x) : SafeW ((evFn (ctxG GmI0) Tryd.f8 (Ty.pair ty3 ty22) [none, none] (Rsh.one (none)) none ty3 noL x)) := by
  refine ⟨?_⟩
  rw [se8]
  try dsimp only [Ty.den] at *
  simp only [Fit, maxLen] at fx
  simp only [Sp.pre8, Sp.pre17, Sp.pre19, IntKind.wrap_i64, IntKind.wrap_u8, IntKind.wrap_u32, IntKind.wrap_u64, Sp.tmod_lit, Sp.tdiv_lit, bne_eq_false_iff_eq, Int.natCast_inj, setE, copyL, sliceL, zrow, List.length_append, List.length_cons, List.length_nil, List.length_set, List.length_replicate, List.length_take, List.length_drop, decide_eq_true_eq, decide_eq_false_iff_not, Bool.or_eq_true, Bool.and_eq_true, Bool.or_eq_false_iff, Bool.and_eq_false_iff, Bool.not_eq_true', Bool.not_eq_false', Bool.not_eq_true, Bool.not_eq_false, beq_iff_eq, beq_eq_false_iff_ne, bne_iff_ne, ne_eq, implies_true, and_true, true_and] at *
  all_goals ((repeat' (first | exact trivial | apply And.intro | intro _)) <;> first | trivial | omega | exact Sp.tmod_nn (by omega) | exact Sp.tmod_lt (by omega) (by omega))
theorem ok8 : CtOk Tryd.prog gdS 8 ct8 :=
  fn_okU (ctxOkF gokGmI0 []) rfl Tryd.func8 (p := (Ty.pair ty3 ty22)) (psh := [none, none]) (r := ty3) (rsh := (Rsh.one (none))) (pre := some Sp.pre8) (fresh := none) (F := Sp.F8) (L := noL) (c := bodyOf Tryd.f8) (dflt := Ty.dflt ty3) rfl (no_loops)
    (safe_pre @sa8) va8
/-! overlayref05.Floor -/
end Go.Proofs.YtkfhampdellhoaaDoor.Sy
namespace Go.Proofs.YtkfhampdellhoaaDoor.Sp
open Go Go.RowKit Sy
def in9_4 (k : (Int × Int)) (x : (Int)) : Prop := (0 : Int) ≤ x ∧ k.1 ≤ 32
def mu9_4 (k : (Int × Int)) (x : (Int)) : Nat := (k.1 - x).toNat
def st9_4 (k : (Int × Int)) (x : (Int)) : BOut (Int × Int) (Int) (Int) :=
  bif (decide (x < k.1)) then
    (bif (k.2 == (IntKind.u32.wrap ((1 : Int) * 2 ^ (min ((IntKind.u64.wrap x)).toNat IntKind.u32.bits)))) then
      BOut.ret x
    else
      BOut.next k (IntKind.i64.wrap (x + (1 : Int))))
  else
    BOut.brk k x
def G9_4 (k : (Int × Int)) (x : (Int)) : (Int) := endOf st9_4 k (Nat.succ (mu9_4 k x)) x
def R9_4 (k : (Int × Int)) (x : (Int)) : Option (Int) := retOf st9_4 k (Nat.succ (mu9_4 k x)) x
end Go.Proofs.YtkfhampdellhoaaDoor.Sp
namespace Go.Proofs.YtkfhampdellhoaaDoor.Sy
def LS9_4 : LS ty3.den := mkLS (Ty.pair ty3 ty22) ty3  [(0, none), (1, none)] [] [(5, none)] [] [] [] [] 0 true Sp.in9_4 Sp.st9_4 Sp.mu9_4
theorem va9_4 (k : (Ty.pair ty3 ty22).den) (x : ty3.den) : ((evCode (ctxG GmI0) (lookL []) (bodyAt (bodyOf Tryd.f9) [0]) (tmpl LS9_4 (enc (Ty.pair ty3 ty22) k) (enc ty3 x)) (evRound LS9_4 (evRet (ctxG GmI0) Tryd.f9 (Rsh.one (none)) none ty3 .ret)))).val BOut.ret (BOut.brk (Ty.dflt (Ty.pair ty3 ty22)) (Ty.dflt ty3)) = Sp.st9_4 k x := by kernel_rfl
theorem se9_4 (k : (Ty.pair ty3 ty22).den) (x : ty3.den) : ((evCode (ctxG GmI0) (lookL []) (bodyAt (bodyOf Tryd.f9) [0]) (tmpl LS9_4 (enc (Ty.pair ty3 ty22) k) (enc ty3 x)) (evRound LS9_4 (evRet (ctxG GmI0) Tryd.f9 (Rsh.one (none)) none ty3 .ret)))).safe = ((((decide (x < k.1)) = true → ((0 ≤ (IntKind.u64.wrap x)) ∧ (((k.2 == (IntKind.u32.wrap ((1 : Int) * 2 ^ (min ((IntKind.u64.wrap x)).toNat IntKind.u32.bits)))) = true → True) ∧ ((k.2 == (IntKind.u32.wrap ((1 : Int) * 2 ^ (min ((IntKind.u64.wrap x)).toNat IntKind.u32.bits)))) = false → True)))) ∧ ((decide (x < k.1)) = false → True))) := by kernel_rfl
set_option maxHeartbeats 4000000 in
theorem sa9_4 (k : (Ty.pair ty3 ty22).den) (x : ty3.den) (fk : Fit (Ty.pair ty3 ty22) k) (fx : Fit ty3 x) (h : Sp.in9_4 k x) : SafeW ((evCode (ctxG GmI0) (lookL []) (bodyAt (bodyOf Tryd.f9) [0]) (tmpl LS9_4 (enc (Ty.pair ty3 ty22) k) (enc ty3 x)) (evRound LS9_4 (evRet (ctxG GmI0) Tryd.f9 (Rsh.one (none)) none ty3 .ret)))) := by
  refine ⟨?_⟩
  rw [se9_4]
  try dsimp only [Ty.den] at *
  simp only [Sp.in9_4, Fit, maxLen] at h fk fx
  simp only [IntKind.wrap_i64, IntKind.wrap_u8, IntKind.wrap_u32, IntKind.wrap_u64, Sp.tmod_lit, Sp.tdiv_lit, bne_eq_false_iff_eq, Int.natCast_inj, setE, copyL, sliceL, zrow, List.length_append, List.length_cons, List.length_nil, List.length_set, List.length_replicate, List.length_take, List.length_drop, decide_eq_true_eq, decide_eq_false_iff_not, Bool.or_eq_true, Bool.and_eq_true, Bool.or_eq_false_iff, Bool.and_eq_false_iff, Bool.not_eq_true', Bool.not_eq_false', Bool.not_eq_true, Bool.not_eq_false, beq_iff_eq, beq_eq_false_iff_ne, bne_iff_ne, ne_eq, implies_true, and_true, true_and] at *
  all_goals ((repeat' (first | exact trivial | apply And.intro | intro _)) <;> first | trivial | omega | exact Sp.tmod_nn (by omega) | exact Sp.tmod_lt (by omega) (by omega))
set_option maxHeartbeats 4000000 in
theorem so9_4 (k : (Ty.pair ty3 ty22).den) (x : ty3.den) (fk : Fit (Ty.pair ty3 ty22) k) (h : Sp.in9_4 k x) : StepOk true Sp.in9_4 Sp.mu9_4 k x (Sp.st9_4 k x) := by
  try dsimp only [Ty.den] at *
  simp only [Sp.in9_4, Fit, maxLen] at h fk
  unfold Sp.st9_4
  (repeat' (first | exact rfl | (refine StepOk.cnd (fun hc => ?_) (fun hc => ?_) <;> (try simp only [IntKind.wrap_i64, IntKind.wrap_u8, IntKind.wrap_u32, IntKind.wrap_u64, bne_eq_false_iff_eq, Int.natCast_inj, setE, copyL, sliceL, zrow, List.length_append, List.length_cons, List.length_nil, List.length_set, List.length_replicate, List.length_take, List.length_drop, decide_eq_true_eq, decide_eq_false_iff_not, Bool.or_eq_true, Bool.and_eq_true, Bool.or_eq_false_iff, Bool.and_eq_false_iff, Bool.not_eq_true', Bool.not_eq_false', Bool.not_eq_true, Bool.not_eq_false, beq_iff_eq, beq_eq_false_iff_ne, bne_iff_ne, ne_eq] at hc)) | refine StepOk.opt (fun _ => ?_))) <;> (first | exact rfl | (refine ⟨rfl, ?_, ?_⟩ <;> simp only [Sp.in9_4, Sp.mu9_4, IntKind.wrap_i64, IntKind.wrap_u8, IntKind.wrap_u32, IntKind.wrap_u64, Sp.tmod_lit, Sp.tdiv_lit, bne_eq_false_iff_eq, Int.natCast_inj, setE, copyL, sliceL, zrow, List.length_append, List.length_cons, List.length_nil, List.length_set, List.length_replicate, List.length_take, List.length_drop, decide_eq_true_eq, decide_eq_false_iff_not, Bool.or_eq_true, Bool.and_eq_true, Bool.or_eq_false_iff, Bool.and_eq_false_iff, Bool.not_eq_true', Bool.not_eq_false', Bool.not_eq_true, Bool.not_eq_false, beq_iff_eq, beq_eq_false_iff_ne, bne_iff_ne, ne_eq] <;> omega))
theorem lo9_4 : LoopOk Tryd.prog gdS (RetAt Tryd.prog Tryd.f9 (Rsh.one (none)) none ty3) (bodyAt (bodyOf Tryd.f9) [0]) LS9_4 :=
  loop_run (ctxOkF gokGmI0 []) (L := lookL []) (loops_of (l := []) (by kernel_rfl) (loops_nil)) sa9_4 va9_4 so9_4
end Go.Proofs.YtkfhampdellhoaaDoor.Sy
namespace Go.Proofs.YtkfhampdellhoaaDoor.Sp
open Go Go.RowKit Sy
def F9 (x : Int × Int) : Int :=
  bif (!(Sp.F20 x.1)) then
    (-1 : Int)
  else
    Sp.optR (Sp.R9_4 x (0 : Int)) (fun y => y)
    ((-1 : Int))
end Go.Proofs.YtkfhampdellhoaaDoor.Sp
namespace Go.Proofs.YtkfhampdellhoaaDoor.Sy
def ct9 : Ct := { p := (Ty.pair ty3 ty22), psh := [none, none], r := ty3, rsh := (Rsh.one (none)), pre := none, fresh := none, F := Sp.F9 }
theorem va9 (x : (Ty.pair ty3 ty22).den) : ((evFn (ctxG GmI0) Tryd.f9 (Ty.pair ty3 ty22) [none, none] (Rsh.one (none)) none ty3 (lookL [(4, LS9_4)]) x)).val (fun y => y) (Ty.dflt ty3) = Sp.F9 x := by kernel_rfl
theorem se9 (x : (Ty.pair ty3 ty22).den) : ((evFn (ctxG GmI0) Tryd.f9 (Ty.pair ty3 ty22) [none, none] (Rsh.one (none)) none ty3 (lookL [(4, LS9_4)]) x)).safe = ((((!(Sp.F20 x.1)) = true → True) ∧ ((!(Sp.F20 x.1)) = false → ((Sp.in9_4 x (0 : Int)) ∧ ((Sp.R9_4 x (0 : Int)) = none → True))))) := by kernel_rfl
theorem sa9 (x : (Ty.pair ty3 ty22).den) (fx : Fit (Ty.pair ty3 ty22) x) : SafeW ((evFn (ctxG GmI0) Tryd.f9 (Ty.pair ty3 ty22) [none, none] (Rsh.one (none)) none ty3 (lookL [(4, LS9_4)]) x)) := by
  refine ⟨?_⟩
  rw [se9]
  try dsimp only [Ty.den] at *
  simp only [Fit, maxLen] at fx
  simp only [Sp.in9_4, Sp.F20, IntKind.wrap_i64, IntKind.wrap_u8, IntKind.wrap_u32, IntKind.wrap_u64, Sp.tmod_lit, Sp.tdiv_lit, bne_eq_false_iff_eq, Int.natCast_inj, setE, copyL, sliceL, zrow, List.length_append, List.length_cons, List.length_nil, List.length_set, List.length_replicate, List.length_take, List.length_drop, decide_eq_true_eq, decide_eq_false_iff_not, Bool.or_eq_true, Bool.and_eq_true, Bool.or_eq_false_iff, Bool.and_eq_false_iff, Bool.not_eq_true', Bool.not_eq_false', Bool.not_eq_true, Bool.not_eq_false, beq_iff_eq, beq_eq_false_iff_ne, bne_iff_ne, ne_eq, implies_true, and_true, true_and] at *
  all_goals ((repeat' (first | exact trivial | apply And.intro | intro _)) <;> first | trivial | omega | exact Sp.tmod_nn (by omega) | exact Sp.tmod_lt (by omega) (by omega))
theorem ok9 : CtOk Tryd.prog gdS 9 ct9 :=
  fn_okU (ctxOkF gokGmI0 []) rfl Tryd.func9 (p := (Ty.pair ty3 ty22)) (psh := [none, none]) (r := ty3) (rsh := (Rsh.one (none))) (pre := none) (fresh := none) (F := Sp.F9) (L := (lookL [(4, LS9_4)])) (c := bodyOf Tryd.f9) (dflt := Ty.dflt ty3) rfl (loops_of (l := [bodyAt (bodyOf Tryd.f9) [0]]) (by kernel_rfl) (loops_cons (s0 := LS9_4) (by kernel_rfl) lo9_4 (loops_nil)))
    (safe_no @sa9) va9
/-! indicator.IsObs -/
end Go.Proofs.YtkfhampdellhoaaDoor.Sy
namespace Go.Proofs.YtkfhampdellhoaaDoor.Sp
open Go Go.RowKit Sy
def F13 (x : Int × Int × Int × Int) : Bool :=
  (((((((Sp.F18 x.1) && (decide (x.2.1 ≥ (-1 : Int)))) && (decide (x.2.1 < x.1))) && (decide (x.2.2.1 ≥ (0 : Int)))) && (decide (x.2.2.1 ≤ (3 : Int)))) && (decide (x.2.2.2 ≥ (0 : Int)))) && (decide (x.2.2.2 ≤ (3 : Int))))
end Go.Proofs.YtkfhampdellhoaaDoor.Sp
namespace Go.Proofs.YtkfhampdellhoaaDoor.Sy
def ct13 : Ct := { p := (Ty.pair ty3 ty31), psh := [none, some 3], r := ty4, rsh := (Rsh.one (none)), pre := none, fresh := none, F := Sp.F13 }
theorem va13 (x : (Ty.pair ty3 ty31).den) : ((evFn (ctxG GmI0) Tryd.f13 (Ty.pair ty3 ty31) [none, some 3] (Rsh.one (none)) none ty4 noL x)).val (fun y => y) (Ty.dflt ty4) = Sp.F13 x := by kernel_rfl
theorem se13 (x : (Ty.pair ty3 ty31).den) : ((evFn (ctxG GmI0) Tryd.f13 (Ty.pair ty3 ty31) [none, some 3] (Rsh.one (none)) none ty4 noL x)).safe = (True) := by kernel_rfl
theorem sa13 (x : (Ty.pair ty3 ty31).den) (fx : Fit (Ty.pair ty3 ty31) x) : SafeW ((evFn (ctxG GmI0) Tryd.f13 (Ty.pair ty3 ty31) [none, some 3] (Rsh.one (none)) none ty4 noL x)) := by
  refine ⟨?_⟩
  rw [se13]
  trivial
theorem ok13 : CtOk Tryd.prog gdS 13 ct13 :=
  fn_okU (ctxOkF gokGmI0 []) rfl Tryd.func13 (p := (Ty.pair ty3 ty31)) (psh := [none, some 3]) (r := ty4) (rsh := (Rsh.one (none))) (pre := none) (fresh := none) (F := Sp.F13) (L := noL) (c := bodyOf Tryd.f13) (dflt := Ty.dflt ty4) rfl (no_loops)
    (safe_no @sa13) va13
/-! overlayref05.IsObs -/
end Go.Proofs.YtkfhampdellhoaaDoor.Sy
namespace Go.Proofs.YtkfhampdellhoaaDoor.Sp
open Go Go.RowKit Sy
def F16 (x : Int × Int × Int × Int) : Bool :=
  (((((((Sp.F20 x.1) && (decide (x.2.1 ≥ (-1 : Int)))) && (decide (x.2.1 < x.1))) && (decide (x.2.2.1 ≥ (0 : Int)))) && (decide (x.2.2.1 ≤ (3 : Int)))) && (decide (x.2.2.2 ≥ (0 : Int)))) && (decide (x.2.2.2 ≤ (3 : Int))))
end Go.Proofs.YtkfhampdellhoaaDoor.Sp
namespace Go.Proofs.YtkfhampdellhoaaDoor.Sy
def ct16 : Ct := { p := (Ty.pair ty3 ty31), psh := [none, some 3], r := ty4, rsh := (Rsh.one (none)), pre := none, fresh := none, F := Sp.F16 }
theorem va16 (x : (Ty.pair ty3 ty31).den) : ((evFn (ctxG GmI0) Tryd.f16 (Ty.pair ty3 ty31) [none, some 3] (Rsh.one (none)) none ty4 noL x)).val (fun y => y) (Ty.dflt ty4) = Sp.F16 x := by kernel_rfl
theorem se16 (x : (Ty.pair ty3 ty31).den) : ((evFn (ctxG GmI0) Tryd.f16 (Ty.pair ty3 ty31) [none, some 3] (Rsh.one (none)) none ty4 noL x)).safe = (True) := by kernel_rfl
theorem sa16 (x : (Ty.pair ty3 ty31).den) (fx : Fit (Ty.pair ty3 ty31) x) : SafeW ((evFn (ctxG GmI0) Tryd.f16 (Ty.pair ty3 ty31) [none, some 3] (Rsh.one (none)) none ty4 noL x)) := by
  refine ⟨?_⟩
  rw [se16]
  trivial
theorem ok16 : CtOk Tryd.prog gdS 16 ct16 :=
  fn_okU (ctxOkF gokGmI0 []) rfl Tryd.func16 (p := (Ty.pair ty3 ty31)) (psh := [none, some 3]) (r := ty4) (rsh := (Rsh.one (none))) (pre := none) (fresh := none) (F := Sp.F16) (L := noL) (c := bodyOf Tryd.f16) (dflt := Ty.dflt ty4) rfl (no_loops)
    (safe_no @sa16) va16
def GmI1 : List (Nat × Ct) := (8, ct8) :: (9, ct9) :: (13, ct13) :: (16, ct16) :: GmI0
theorem gokGmI1 : GOk GmI1 := gok_cons ok8 ⟨_, Tryd.func8, by kernel_rfl, by kernel_rfl⟩ (gok_cons ok9 ⟨_, Tryd.func9, by kernel_rfl, by kernel_rfl⟩ (gok_cons ok13 ⟨_, Tryd.func13, by kernel_rfl, by kernel_rfl⟩ (gok_cons ok16 ⟨_, Tryd.func16, by kernel_rfl, by kernel_rfl⟩ (gokGmI0))))
end Go.Proofs.YtkfhampdellhoaaDoor.Sy
