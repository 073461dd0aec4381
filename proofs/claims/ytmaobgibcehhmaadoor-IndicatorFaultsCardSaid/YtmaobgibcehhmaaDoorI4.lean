/- Contracts of functions, by the evaluator (own program gen.py): overlaylaw05.IndicatorFaults. -/
import Derived.Test.YtmaobgibcehhmaaDoorI3
set_option linter.unusedVariables false
set_option linter.unusedSimpArgs false
set_option maxRecDepth 100000
namespace Go.Proofs.YtmaobgibcehhmaaDoor.Sy
open Go Go.RowKit Sp
/-! overlaylaw05.IndicatorFaults -/
end Go.Proofs.YtmaobgibcehhmaaDoor.Sy
namespace Go.Proofs.YtmaobgibcehhmaaDoor.Sp
open Go Go.RowKit Sy
def in3_12 (k : (Int × List (Int × Bool × Bool × Bool × Bool))) (x : (Int)) : Prop := (0 : Int) ≤ x ∧ ∀ c ∈ k.2, 0 ≤ c.1 ∧ c.1 ≤ 4294967295
def mu3_12 (k : (Int × List (Int × Bool × Bool × Bool × Bool))) (x : (Int)) : Nat := (((k.2).length : Int) - x).toNat
def st3_12 (k : (Int × List (Int × Bool × Bool × Bool × Bool))) (x : (Int)) : BOut (Int × List (Int × Bool × Bool × Bool × Bool)) (Int) (Bool) :=
  bif (decide (x < ((k.2).length : Int))) then
    (bif (!(((Sp.F4 (k.1, (Sp.F5 (k.1, (Sp.nthT k.2 x))))).1 == (0 : Int)) && ((Sp.F4 (k.1, (Sp.F5 (k.1, (Sp.nthT k.2 x))))).2 == (0 : Int)))) then
      BOut.ret false
    else
      BOut.next k (IntKind.i64.wrap (x + (1 : Int))))
  else
    BOut.brk k x
def G3_12 (k : (Int × List (Int × Bool × Bool × Bool × Bool))) (x : (Int)) : (Int) := endOf st3_12 k (Nat.succ (mu3_12 k x)) x
def R3_12 (k : (Int × List (Int × Bool × Bool × Bool × Bool))) (x : (Int)) : Option (Bool) := retOf st3_12 k (Nat.succ (mu3_12 k x)) x
end Go.Proofs.YtmaobgibcehhmaaDoor.Sp
namespace Go.Proofs.YtmaobgibcehhmaaDoor.Sy
def LS3_12 : LS ty4.den := mkLS (Ty.pair ty3 ty27) ty3  [(7, none), (13, none)] [] [(14, none)] [] [] [57] [] 0 true Sp.in3_12 Sp.st3_12 Sp.mu3_12
theorem va3_12 (k : (Ty.pair ty3 ty27).den) (x : ty3.den) : ((evCode (ctxG GmI3) (lookL []) (bodyAt (bodyOf Tryd.f3) [0]) (tmpl LS3_12 (enc (Ty.pair ty3 ty27) k) (enc ty3 x)) (evRound LS3_12 (evRet (ctxG GmI3) Tryd.f3 (Rsh.one (none)) none ty4 .ret)))).val BOut.ret (BOut.brk (Ty.dflt (Ty.pair ty3 ty27)) (Ty.dflt ty3)) = Sp.st3_12 k x := by kernel_rfl
theorem se3_12 (k : (Ty.pair ty3 ty27).den) (x : ty3.den) : ((evCode (ctxG GmI3) (lookL []) (bodyAt (bodyOf Tryd.f3) [0]) (tmpl LS3_12 (enc (Ty.pair ty3 ty27) k) (enc ty3 x)) (evRound LS3_12 (evRet (ctxG GmI3) Tryd.f3 (Rsh.one (none)) none ty4 .ret)))).safe = ((((decide (x < ((k.2).length : Int))) = true → ((0 ≤ x ∧ x < ((k.2).length : Int)) ∧ ((Sp.pre5 (k.1, (Sp.nthT k.2 x))) ∧ (((!(((Sp.F4 (k.1, (Sp.F5 (k.1, (Sp.nthT k.2 x))))).1 == (0 : Int)) && ((Sp.F4 (k.1, (Sp.F5 (k.1, (Sp.nthT k.2 x))))).2 == (0 : Int)))) = true → True) ∧ ((!(((Sp.F4 (k.1, (Sp.F5 (k.1, (Sp.nthT k.2 x))))).1 == (0 : Int)) && ((Sp.F4 (k.1, (Sp.F5 (k.1, (Sp.nthT k.2 x))))).2 == (0 : Int)))) = false → True))))) ∧ ((decide (x < ((k.2).length : Int))) = false → True))) := by kernel_rfl
set_option maxHeartbeats 4000000 in
theorem sa3_12 (k : (Ty.pair ty3 ty27).den) (x : ty3.den) (fk : Fit (Ty.pair ty3 ty27) k) (fx : Fit ty3 x) (h : Sp.in3_12 k x) : SafeW ((evCode (ctxG GmI3) (lookL []) (bodyAt (bodyOf Tryd.f3) [0]) (tmpl LS3_12 (enc (Ty.pair ty3 ty27) k) (enc ty3 x)) (evRound LS3_12 (evRet (ctxG GmI3) Tryd.f3 (Rsh.one (none)) none ty4 .ret)))) := by
  refine ⟨?_⟩
  rw [se3_12]
  try dsimp only [Ty.den] at *
  simp only [Sp.in3_12, Fit, maxLen] at h fk fx
  have hm : ∀ i : Int, 0 ≤ i → i < ((k.2).length : Int) → 0 ≤ (Sp.nthT (k.2) i).1 ∧ (Sp.nthT (k.2) i).1 ≤ 4294967295 := fun i a b => by rw [Sp.nthT_of _ _ a b]; exact h.2 _ (List.getElem_mem _)
  simp only [Sp.pre5, decide_eq_true_eq, decide_eq_false_iff_not, Bool.or_eq_true, Bool.and_eq_true, Bool.or_eq_false_iff, Bool.and_eq_false_iff, Bool.not_eq_true', Bool.not_eq_false', Bool.not_eq_true, Bool.not_eq_false, beq_iff_eq, beq_eq_false_iff_ne, bne_iff_ne, ne_eq, implies_true, and_true, true_and] at *
  repeat' (first | exact trivial | apply And.intro | intro _)
  all_goals first | omega | exact (hm _ (by omega) (by omega)).1 | exact (hm _ (by omega) (by omega)).2
set_option maxHeartbeats 4000000 in
theorem so3_12 (k : (Ty.pair ty3 ty27).den) (x : ty3.den) (fk : Fit (Ty.pair ty3 ty27) k) (h : Sp.in3_12 k x) : StepOk true Sp.in3_12 Sp.mu3_12 k x (Sp.st3_12 k x) := by
  try dsimp only [Ty.den] at *
  simp only [Sp.in3_12, Fit, maxLen] at h fk
  unfold Sp.st3_12
  (repeat' (first | exact rfl | (refine StepOk.cnd (fun hc => ?_) (fun hc => ?_) <;> (try simp only [IntKind.wrap_i64, IntKind.wrap_u8, IntKind.wrap_u32, IntKind.wrap_u64, bne_eq_false_iff_eq, Int.natCast_inj, setE, copyL, sliceL, zrow, List.length_append, List.length_cons, List.length_nil, List.length_set, List.length_replicate, List.length_take, List.length_drop, decide_eq_true_eq, decide_eq_false_iff_not, Bool.or_eq_true, Bool.and_eq_true, Bool.or_eq_false_iff, Bool.and_eq_false_iff, Bool.not_eq_true', Bool.not_eq_false', Bool.not_eq_true, Bool.not_eq_false, beq_iff_eq, beq_eq_false_iff_ne, bne_iff_ne, ne_eq] at hc)) | refine StepOk.opt (fun _ => ?_))) <;> (first | exact rfl | (refine ⟨rfl, ?_, ?_⟩ <;> simp only [Sp.in3_12, Sp.mu3_12, IntKind.wrap_i64, IntKind.wrap_u8, IntKind.wrap_u32, IntKind.wrap_u64, Sp.tmod_lit, Sp.tdiv_lit, bne_eq_false_iff_eq, Int.natCast_inj, setE, copyL, sliceL, zrow, List.length_append, List.length_cons, List.length_nil, List.length_set, List.length_replicate, List.length_take, List.length_drop, decide_eq_true_eq, decide_eq_false_iff_not, Bool.or_eq_true, Bool.and_eq_true, Bool.or_eq_false_iff, Bool.and_eq_false_iff, Bool.not_eq_true', Bool.not_eq_false', Bool.not_eq_true, Bool.not_eq_false, beq_iff_eq, beq_eq_false_iff_ne, bne_iff_ne, ne_eq] <;> first | omega | (and_intros <;> first | omega | exact h.1 | exact h.2 | exact h.2.1 | exact h.2.2 | exact h.2.2.1 | exact h.2.2.2 | exact h.2.2.2.1 | exact h.2.2.2.2 | exact h.2.2.2.2.1 | exact h.2.2.2.2.2 | exact h.2.2.2.2.2.1 | exact h.2.2.2.2.2.2)))
theorem lo3_12 : LoopOk Tryd.prog gdS (RetAt Tryd.prog Tryd.f3 (Rsh.one (none)) none ty4) (bodyAt (bodyOf Tryd.f3) [0]) LS3_12 :=
  loop_run (ctxOkF gokGmI3 []) (L := lookL []) (loops_of (l := []) (by kernel_rfl) (loops_nil)) sa3_12 va3_12 so3_12
end Go.Proofs.YtmaobgibcehhmaaDoor.Sy
namespace Go.Proofs.YtmaobgibcehhmaaDoor.Sp
open Go Go.RowKit Sy
def K3_1 (x : Int × (Int × Bool × Bool × Bool × Bool) × Int × Int) :=
  (Sp.G3_12 ((IntKind.i64.wrap ((2 : Int) + (IntKind.i64.wrap (Int.tmod x.1 (31 : Int))))), [(x.2.1.1, true, true, x.2.1.2.2.2), (x.2.1.1, x.2.1.2.1, x.2.1.2.2.1, true, true), ((0 : Int), x.2.1.2), (x.2.1.1, x.2.1.2.1, x.2.1.2.2.1, false, x.2.1.2.2.2.2), ((IntKind.u32.wrap ((BitVec.ofInt IntKind.u32.bits (IntKind.u32.wrap ((1 : Int) * 2 ^ (min ((IntKind.u64.wrap (Int.tmod x.2.2.1 (32 : Int)))).toNat IntKind.u32.bits))) ||| BitVec.ofInt IntKind.u32.bits (IntKind.u32.wrap ((1 : Int) * 2 ^ (min ((IntKind.u64.wrap (Int.tmod x.2.2.2 (32 : Int)))).toNat IntKind.u32.bits)))).toNat : Int)), x.2.1.2)]) (0 : Int))
def K3_2 (x : Int × (Int × Bool × Bool × Bool × Bool) × Int × Int) :=
  (Sp.G3_12 ((IntKind.i64.wrap ((2 : Int) + (IntKind.i64.wrap (Int.tmod x.1 (31 : Int))))), [(x.2.1.1, true, true, x.2.1.2.2.2), (x.2.1.1, x.2.1.2.1, x.2.1.2.2.1, true, true), ((0 : Int), x.2.1.2), (x.2.1.1, x.2.1.2.1, x.2.1.2.2.1, false, x.2.1.2.2.2.2)]) (0 : Int))
def F3 (x : Int × (Int × Bool × Bool × Bool × Bool) × Int × Int) : Bool :=
  bif ((Int.tmod x.2.2.1 (32 : Int)) != (Int.tmod x.2.2.2 (32 : Int))) then
    (Sp.optR (Sp.R3_12 ((IntKind.i64.wrap ((2 : Int) + (IntKind.i64.wrap (Int.tmod x.1 (31 : Int))))), [(x.2.1.1, true, true, x.2.1.2.2.2), (x.2.1.1, x.2.1.2.1, x.2.1.2.2.1, true, true), ((0 : Int), x.2.1.2), (x.2.1.1, x.2.1.2.1, x.2.1.2.2.1, false, x.2.1.2.2.2.2), ((IntKind.u32.wrap ((BitVec.ofInt IntKind.u32.bits (IntKind.u32.wrap ((1 : Int) * 2 ^ (min ((IntKind.u64.wrap (Int.tmod x.2.2.1 (32 : Int)))).toNat IntKind.u32.bits))) ||| BitVec.ofInt IntKind.u32.bits (IntKind.u32.wrap ((1 : Int) * 2 ^ (min ((IntKind.u64.wrap (Int.tmod x.2.2.2 (32 : Int)))).toNat IntKind.u32.bits)))).toNat : Int)), x.2.1.2)]) (0 : Int)) (fun y => y)
    ((Sp.F6 ())))
  else
    Sp.optR (Sp.R3_12 ((IntKind.i64.wrap ((2 : Int) + (IntKind.i64.wrap (Int.tmod x.1 (31 : Int))))), [(x.2.1.1, true, true, x.2.1.2.2.2), (x.2.1.1, x.2.1.2.1, x.2.1.2.2.1, true, true), ((0 : Int), x.2.1.2), (x.2.1.1, x.2.1.2.1, x.2.1.2.2.1, false, x.2.1.2.2.2.2)]) (0 : Int)) (fun y => y)
    ((Sp.F6 ()))
def pre3 (x : Int × (Int × Bool × Bool × Bool × Bool) × Int × Int) : Prop := 0 ≤ x.1 ∧ x.1 ≤ 255 ∧ 0 ≤ x.2.1.1 ∧ x.2.1.1 ≤ 4294967295 ∧ 0 ≤ x.2.2.1 ∧ x.2.2.1 ≤ 255 ∧ 0 ≤ x.2.2.2 ∧ x.2.2.2 ≤ 255
end Go.Proofs.YtmaobgibcehhmaaDoor.Sp
namespace Go.Proofs.YtmaobgibcehhmaaDoor.Sy
def ct3 : Ct := { p := (Ty.pair ty5 (Ty.pair ty24 ty25)), psh := [none, some 5, some 2], r := ty4, rsh := (Rsh.one (none)), pre := some Sp.pre3, fresh := none, F := Sp.F3 }
theorem va3 (x : (Ty.pair ty5 (Ty.pair ty24 ty25)).den) : ((evFn (ctxG GmI3) Tryd.f3 (Ty.pair ty5 (Ty.pair ty24 ty25)) [none, some 5, some 2] (Rsh.one (none)) none ty4 (lookL [(12, LS3_12)]) x)).val (fun y => y) (Ty.dflt ty4) = Sp.F3 x := by kernel_rfl
theorem se3 (x : (Ty.pair ty5 (Ty.pair ty24 ty25)).den) : ((evFn (ctxG GmI3) Tryd.f3 (Ty.pair ty5 (Ty.pair ty24 ty25)) [none, some 5, some 2] (Rsh.one (none)) none ty4 (lookL [(12, LS3_12)]) x)).safe = ((((31 : Int) ≠ 0) ∧ (((32 : Int) ≠ 0) ∧ ((0 ≤ (IntKind.u64.wrap (Int.tmod x.2.2.1 (32 : Int)))) ∧ (((32 : Int) ≠ 0) ∧ ((0 ≤ (IntKind.u64.wrap (Int.tmod x.2.2.2 (32 : Int)))) ∧ (((32 : Int) ≠ 0) ∧ (((32 : Int) ≠ 0) ∧ ((((Int.tmod x.2.2.1 (32 : Int)) != (Int.tmod x.2.2.2 (32 : Int))) = true → (((List.length ([(x.2.1.1, true, true, x.2.1.2.2.2), (x.2.1.1, x.2.1.2.1, x.2.1.2.2.1, true, true), ((0 : Int), x.2.1.2), (x.2.1.1, x.2.1.2.1, x.2.1.2.2.1, false, x.2.1.2.2.2.2)] : List (Int × Bool × Bool × Bool × Bool)) + List.length ([((IntKind.u32.wrap ((BitVec.ofInt IntKind.u32.bits (IntKind.u32.wrap ((1 : Int) * 2 ^ (min ((IntKind.u64.wrap (Int.tmod x.2.2.1 (32 : Int)))).toNat IntKind.u32.bits))) ||| BitVec.ofInt IntKind.u32.bits (IntKind.u32.wrap ((1 : Int) * 2 ^ (min ((IntKind.u64.wrap (Int.tmod x.2.2.2 (32 : Int)))).toNat IntKind.u32.bits)))).toNat : Int)), x.2.1.2)] : List (Int × Bool × Bool × Bool × Bool))) * 8 ≤ 140737488355328 ∧ List.length ([(x.2.1.1, true, true, x.2.1.2.2.2), (x.2.1.1, x.2.1.2.1, x.2.1.2.2.1, true, true), ((0 : Int), x.2.1.2), (x.2.1.1, x.2.1.2.1, x.2.1.2.2.1, false, x.2.1.2.2.2.2)] : List (Int × Bool × Bool × Bool × Bool)) + List.length ([((IntKind.u32.wrap ((BitVec.ofInt IntKind.u32.bits (IntKind.u32.wrap ((1 : Int) * 2 ^ (min ((IntKind.u64.wrap (Int.tmod x.2.2.1 (32 : Int)))).toNat IntKind.u32.bits))) ||| BitVec.ofInt IntKind.u32.bits (IntKind.u32.wrap ((1 : Int) * 2 ^ (min ((IntKind.u64.wrap (Int.tmod x.2.2.2 (32 : Int)))).toNat IntKind.u32.bits)))).toNat : Int)), x.2.1.2)] : List (Int × Bool × Bool × Bool × Bool)) ≤ 4611686018427387903) ∧ ((Sp.in3_12 ((IntKind.i64.wrap ((2 : Int) + (IntKind.i64.wrap (Int.tmod x.1 (31 : Int))))), [(x.2.1.1, true, true, x.2.1.2.2.2), (x.2.1.1, x.2.1.2.1, x.2.1.2.2.1, true, true), ((0 : Int), x.2.1.2), (x.2.1.1, x.2.1.2.1, x.2.1.2.2.1, false, x.2.1.2.2.2.2), ((IntKind.u32.wrap ((BitVec.ofInt IntKind.u32.bits (IntKind.u32.wrap ((1 : Int) * 2 ^ (min ((IntKind.u64.wrap (Int.tmod x.2.2.1 (32 : Int)))).toNat IntKind.u32.bits))) ||| BitVec.ofInt IntKind.u32.bits (IntKind.u32.wrap ((1 : Int) * 2 ^ (min ((IntKind.u64.wrap (Int.tmod x.2.2.2 (32 : Int)))).toNat IntKind.u32.bits)))).toNat : Int)), x.2.1.2)]) (0 : Int)) ∧ ((Sp.R3_12 ((IntKind.i64.wrap ((2 : Int) + (IntKind.i64.wrap (Int.tmod x.1 (31 : Int))))), [(x.2.1.1, true, true, x.2.1.2.2.2), (x.2.1.1, x.2.1.2.1, x.2.1.2.2.1, true, true), ((0 : Int), x.2.1.2), (x.2.1.1, x.2.1.2.1, x.2.1.2.2.1, false, x.2.1.2.2.2.2), ((IntKind.u32.wrap ((BitVec.ofInt IntKind.u32.bits (IntKind.u32.wrap ((1 : Int) * 2 ^ (min ((IntKind.u64.wrap (Int.tmod x.2.2.1 (32 : Int)))).toNat IntKind.u32.bits))) ||| BitVec.ofInt IntKind.u32.bits (IntKind.u32.wrap ((1 : Int) * 2 ^ (min ((IntKind.u64.wrap (Int.tmod x.2.2.2 (32 : Int)))).toNat IntKind.u32.bits)))).toNat : Int)), x.2.1.2)]) (0 : Int)) = none → True)))) ∧ (((Int.tmod x.2.2.1 (32 : Int)) != (Int.tmod x.2.2.2 (32 : Int))) = false → ((Sp.in3_12 ((IntKind.i64.wrap ((2 : Int) + (IntKind.i64.wrap (Int.tmod x.1 (31 : Int))))), [(x.2.1.1, true, true, x.2.1.2.2.2), (x.2.1.1, x.2.1.2.1, x.2.1.2.2.1, true, true), ((0 : Int), x.2.1.2), (x.2.1.1, x.2.1.2.1, x.2.1.2.2.1, false, x.2.1.2.2.2.2)]) (0 : Int)) ∧ ((Sp.R3_12 ((IntKind.i64.wrap ((2 : Int) + (IntKind.i64.wrap (Int.tmod x.1 (31 : Int))))), [(x.2.1.1, true, true, x.2.1.2.2.2), (x.2.1.1, x.2.1.2.1, x.2.1.2.2.1, true, true), ((0 : Int), x.2.1.2), (x.2.1.1, x.2.1.2.1, x.2.1.2.2.1, false, x.2.1.2.2.2.2)]) (0 : Int)) = none → True)))))))))))) := by kernel_rfl
theorem sa3 (x : (Ty.pair ty5 (Ty.pair ty24 ty25)).den) (fx : Fit (Ty.pair ty5 (Ty.pair ty24 ty25)) x) (h : Sp.pre3 x) : SafeW ((evFn (ctxG GmI3) Tryd.f3 (Ty.pair ty5 (Ty.pair ty24 ty25)) [none, some 5, some 2] (Rsh.one (none)) none ty4 (lookL [(12, LS3_12)]) x)) := by
  refine ⟨?_⟩
  rw [se3]
  try dsimp only [Ty.den] at *
  simp only [Fit, maxLen] at fx
  simp only [Sp.in3_12, Sp.pre3, Sp.pre5, List.forall_mem_cons, List.not_mem_nil, false_implies, List.forall_mem_nil, IntKind.wrap_i64, IntKind.wrap_u8, IntKind.wrap_u32, IntKind.wrap_u64, Sp.tmod_lit, Sp.tdiv_lit, bne_eq_false_iff_eq, Int.natCast_inj, setE, copyL, sliceL, zrow, List.length_append, List.length_cons, List.length_nil, List.length_set, List.length_replicate, List.length_take, List.length_drop, decide_eq_true_eq, decide_eq_false_iff_not, Bool.or_eq_true, Bool.and_eq_true, Bool.or_eq_false_iff, Bool.and_eq_false_iff, Bool.not_eq_true', Bool.not_eq_false', Bool.not_eq_true, Bool.not_eq_false, beq_iff_eq, beq_eq_false_iff_ne, bne_iff_ne, ne_eq, implies_true, and_true, true_and] at *
  all_goals ((repeat' (first | exact trivial | apply And.intro | intro _)) <;> first | trivial | omega | exact Sp.tmod_nn (by omega) | exact Sp.tmod_lt (by omega) (by omega))
theorem ok3 : CtOk Tryd.prog gdS 3 ct3 :=
  fn_okU (ctxOkF gokGmI3 []) rfl Tryd.func3 (p := (Ty.pair ty5 (Ty.pair ty24 ty25))) (psh := [none, some 5, some 2]) (r := ty4) (rsh := (Rsh.one (none))) (pre := some Sp.pre3) (fresh := none) (F := Sp.F3) (L := (lookL [(12, LS3_12)])) (c := bodyOf Tryd.f3) (dflt := Ty.dflt ty4) rfl (loops_of (l := [bodyAt (bodyOf Tryd.f3) [0]]) (by kernel_rfl) (loops_cons (s0 := LS3_12) (by kernel_rfl) lo3_12 (loops_nil)))
    (safe_pre @sa3) va3
def GmI4 : List (Nat × Ct) := (3, ct3) :: GmI3
theorem gokGmI4 : GOk GmI4 := gok_cons ok3 ⟨_, Tryd.func3, by kernel_rfl, by kernel_rfl⟩ (gokGmI3)
end Go.Proofs.YtmaobgibcehhmaaDoor.Sy
