/- Contracts of functions, by the evaluator (own program gen.py): overlaylaw09.sane, record.Read. -/
import Derived.Test.YtabifaikklcghaaY3
set_option linter.unusedVariables false
set_option linter.unusedSimpArgs false
set_option maxRecDepth 100000
namespace Go.Proofs.Ytabifaikklcghaa.Sy
open Go Go.RowKit Sp
/-! overlaylaw09.sane -/
end Go.Proofs.Ytabifaikklcghaa.Sy
namespace Go.Proofs.Ytabifaikklcghaa.Sp
open Go Go.RowKit Sy
def F12 (x : Unit) : Bool :=
  (((((((Sp.F14 ((Sp.F13 (100 : Int)), (1 : Int), (3 : Int), (1 : Int), (0 : Int), (0 : Int))).2 == (0 : Int)) && ((((Sp.F14 ((Sp.F13 (100 : Int)), (1 : Int), (3 : Int), (1 : Int), (0 : Int), (0 : Int))).1).size : Int) == (6 : Int))) && (strEq (ByteArray.extract ((Sp.F14 ((Sp.F13 (100 : Int)), (1 : Int), (3 : Int), (1 : Int), (0 : Int), (0 : Int))).1) (Int.toNat (0 : Int)) (Int.toNat (5 : Int))) (ByteArray.mk #[1, 3, 1, 2, 0]))) && ((Sp.F19 ((Sp.F13 (100 : Int)), (Sp.F14 ((Sp.F13 (100 : Int)), (1 : Int), (3 : Int), (1 : Int), (0 : Int), (0 : Int))).1)).2 == (0 : Int))) && ((Sp.F19 ((Sp.F13 (100 : Int)), (Sp.F14 ((Sp.F13 (100 : Int)), (1 : Int), (3 : Int), (1 : Int), (0 : Int), (0 : Int))).1)).1.2.1 == (3 : Int))) && ((Sp.F19 ((Sp.F13 (100 : Int)), (ByteArray.mk #[]))).2 == (4 : Int)))
end Go.Proofs.Ytabifaikklcghaa.Sp
namespace Go.Proofs.Ytabifaikklcghaa.Sy
def ct12 : Ct := { p := Ty.unit, psh := [], r := ty4, rsh := (Rsh.one (none)), pre := none, fresh := none, F := Sp.F12 }
theorem va12 (x : Ty.unit.den) : ((evFn (ctxG GmY3) Try.f12 Ty.unit [] (Rsh.one (none)) none ty4 noL x)).val (fun y => y) (Ty.dflt ty4) = Sp.F12 x := by kernel_rfl
theorem se12 (x : Ty.unit.den) : ((evFn (ctxG GmY3) Try.f12 Ty.unit [] (Rsh.one (none)) none ty4 noL x)).safe = (((Sp.pre13 (100 : Int)) ∧ ((((((Sp.F14 ((Sp.F13 (100 : Int)), (1 : Int), (3 : Int), (1 : Int), (0 : Int), (0 : Int))).2 == (0 : Int)) && ((((Sp.F14 ((Sp.F13 (100 : Int)), (1 : Int), (3 : Int), (1 : Int), (0 : Int), (0 : Int))).1).size : Int) == (6 : Int))) = true → 0 ≤ (0 : Int) ∧ (0 : Int) ≤ (5 : Int) ∧ (5 : Int) ≤ (((Sp.F14 ((Sp.F13 (100 : Int)), (1 : Int), (3 : Int), (1 : Int), (0 : Int), (0 : Int))).1).size : Int))) ∧ True))) := by kernel_rfl
theorem sa12 (x : Ty.unit.den) (fx : Fit Ty.unit x) : SafeW ((evFn (ctxG GmY3) Try.f12 Ty.unit [] (Rsh.one (none)) none ty4 noL x)) := by
  refine ⟨?_⟩
  rw [se12]
  try dsimp only [Ty.den] at *
  simp only [Fit, maxLen] at fx
  simp only [Sp.pre13, Sp.bts_size, Sp.strCat_size, Sp.extract_size, Sp.stb_len, Sp.mk_size, IntKind.wrap_i64, IntKind.wrap_u8, IntKind.wrap_u32, IntKind.wrap_u64, Sp.tmod_lit, Sp.tdiv_lit, bne_eq_false_iff_eq, Int.natCast_inj, setE, copyL, sliceL, zrow, List.length_append, List.length_cons, List.length_nil, List.length_set, List.length_replicate, List.length_take, List.length_drop, decide_eq_true_eq, decide_eq_false_iff_not, Bool.or_eq_true, Bool.and_eq_true, Bool.or_eq_false_iff, Bool.and_eq_false_iff, Bool.not_eq_true', Bool.not_eq_false', Bool.not_eq_true, Bool.not_eq_false, beq_iff_eq, beq_eq_false_iff_ne, bne_iff_ne, ne_eq, implies_true, and_true, true_and] at *
  all_goals ((repeat' (first | exact trivial | apply And.intro | intro _)) <;> first | trivial | omega | exact Sp.tmod_nn (by omega) | exact Sp.tmod_lt (by omega) (by omega))
theorem ok12 : CtOk Try.prog gdS 12 ct12 :=
  fn_okU (ctxOkF gokGmY3 []) rfl Try.func12 (p := Ty.unit) (psh := []) (r := ty4) (rsh := (Rsh.one (none))) (pre := none) (fresh := none) (F := Sp.F12) (L := noL) (c := bodyOf Try.f12) (dflt := Ty.dflt ty4) rfl (no_loops)
    (safe_no @sa12) va12
/-! record.Read -/
end Go.Proofs.Ytabifaikklcghaa.Sy
namespace Go.Proofs.Ytabifaikklcghaa.Sp
open Go Go.RowKit Sy
def in30_3 (k : (ByteArray × Int × Int × Int × Int × Nat × Nat × Nat × List (Int × Int × Int × Int × Int × Int × Int × Int × Int))) (x : ((List (Int × Int × Int × Int × Int)) × Int)) : Prop := 0 ≤ x.2 ∧ x.2 ≤ (k.1.size : Int) ∧ k.1.size ≤ 1000000000 ∧ 6 * (x.1.length : Int) = x.2
def mu30_3 (k : (ByteArray × Int × Int × Int × Int × Nat × Nat × Nat × List (Int × Int × Int × Int × Int × Int × Int × Int × Int))) (x : ((List (Int × Int × Int × Int × Int)) × Int)) : Nat := ((k.1.size : Int) - x.2).toNat
def st30_3 (k : (ByteArray × Int × Int × Int × Int × Nat × Nat × Nat × List (Int × Int × Int × Int × Int × Int × Int × Int × Int))) (x : ((List (Int × Int × Int × Int × Int)) × Int)) : BOut (ByteArray × Int × Int × Int × Int × Nat × Nat × Nat × List (Int × Int × Int × Int × Int × Int × Int × Int × Int)) ((List (Int × Int × Int × Int × Int)) × Int) ((List (Int × Int × Int × Int × Int)) × Int) :=
  bif (decide ((IntKind.i64.wrap (x.2 + (6 : Int))) ≤ ((k.1).size : Int))) then
    (bif ((Sp.F19 (k.2, (ByteArray.extract k.1 (Int.toNat x.2) (Int.toNat (IntKind.i64.wrap (x.2 + (6 : Int))))))).2 != (0 : Int)) then
      BOut.brk k x
    else
      BOut.next k ((x.1 ++ [(Sp.F19 (k.2, (ByteArray.extract k.1 (Int.toNat x.2) (Int.toNat (IntKind.i64.wrap (x.2 + (6 : Int))))))).1]), (IntKind.i64.wrap (x.2 + (6 : Int)))))
  else
    BOut.brk k x
def G30_3 (k : (ByteArray × Int × Int × Int × Int × Nat × Nat × Nat × List (Int × Int × Int × Int × Int × Int × Int × Int × Int))) (x : ((List (Int × Int × Int × Int × Int)) × Int)) : ((List (Int × Int × Int × Int × Int)) × Int) := endOf st30_3 k (Nat.succ (mu30_3 k x)) x
end Go.Proofs.Ytabifaikklcghaa.Sp
namespace Go.Proofs.Ytabifaikklcghaa.Sy
def LS30_3 : LS (Ty.pair ty40 ty3).den := mkLS (Ty.pair ty9 ty28) (Ty.pair ty40 ty3)  [(1, none)] [(2, 8)] [(6, none), (7, none)] [] [(0, 100300, true, 23)] [] [(2, 2)] 0 false Sp.in30_3 Sp.st30_3 Sp.mu30_3
theorem va30_3 (k : (Ty.pair ty9 ty28).den) (x : (Ty.pair ty40 ty3).den) : ((evCode (ctxG GmY3) (lookL []) (bodyAt (bodyOf Try.f30) [0]) (tmpl LS30_3 (enc (Ty.pair ty9 ty28) k) (enc (Ty.pair ty40 ty3) x)) (evRound LS30_3 (evRet (ctxG GmY3) Try.f30 (Rsh.tup [none, none]) (some 23) (Ty.pair ty40 ty3) .ret)))).val BOut.ret (BOut.brk (Ty.dflt (Ty.pair ty9 ty28)) (Ty.dflt (Ty.pair ty40 ty3))) = Sp.st30_3 k x := by kernel_rfl
theorem se30_3 (k : (Ty.pair ty9 ty28).den) (x : (Ty.pair ty40 ty3).den) : ((evCode (ctxG GmY3) (lookL []) (bodyAt (bodyOf Try.f30) [0]) (tmpl LS30_3 (enc (Ty.pair ty9 ty28) k) (enc (Ty.pair ty40 ty3) x)) (evRound LS30_3 (evRet (ctxG GmY3) Try.f30 (Rsh.tup [none, none]) (some 23) (Ty.pair ty40 ty3) .ret)))).safe = ((((decide ((IntKind.i64.wrap (x.2 + (6 : Int))) ≤ ((k.1).size : Int))) = true → ((0 ≤ x.2 ∧ x.2 ≤ (IntKind.i64.wrap (x.2 + (6 : Int))) ∧ (IntKind.i64.wrap (x.2 + (6 : Int))) ≤ ((k.1).size : Int)) ∧ ((((Sp.F19 (k.2, (ByteArray.extract k.1 (Int.toNat x.2) (Int.toNat (IntKind.i64.wrap (x.2 + (6 : Int))))))).2 != (0 : Int)) = true → True) ∧ (((Sp.F19 (k.2, (ByteArray.extract k.1 (Int.toNat x.2) (Int.toNat (IntKind.i64.wrap (x.2 + (6 : Int))))))).2 != (0 : Int)) = false → (((List.length (x.1 : List (Int × Int × Int × Int × Int)) + List.length ([(Sp.F19 (k.2, (ByteArray.extract k.1 (Int.toNat x.2) (Int.toNat (IntKind.i64.wrap (x.2 + (6 : Int))))))).1] : List (Int × Int × Int × Int × Int))) * 40 ≤ 140737488355328 ∧ List.length (x.1 : List (Int × Int × Int × Int × Int)) + List.length ([(Sp.F19 (k.2, (ByteArray.extract k.1 (Int.toNat x.2) (Int.toNat (IntKind.i64.wrap (x.2 + (6 : Int))))))).1] : List (Int × Int × Int × Int × Int)) ≤ 4611686018427387903) ∧ True))))) ∧ ((decide ((IntKind.i64.wrap (x.2 + (6 : Int))) ≤ ((k.1).size : Int))) = false → True))) := by kernel_rfl
set_option maxHeartbeats 4000000 in
theorem sa30_3 (k : (Ty.pair ty9 ty28).den) (x : (Ty.pair ty40 ty3).den) (fk : Fit (Ty.pair ty9 ty28) k) (fx : Fit (Ty.pair ty40 ty3) x) (h : Sp.in30_3 k x) : SafeW ((evCode (ctxG GmY3) (lookL []) (bodyAt (bodyOf Try.f30) [0]) (tmpl LS30_3 (enc (Ty.pair ty9 ty28) k) (enc (Ty.pair ty40 ty3) x)) (evRound LS30_3 (evRet (ctxG GmY3) Try.f30 (Rsh.tup [none, none]) (some 23) (Ty.pair ty40 ty3) .ret)))) := by
  refine ⟨?_⟩
  rw [se30_3]
  try dsimp only [Ty.den] at *
  simp only [Sp.in30_3, Fit, maxLen] at h fk fx
  simp only [Sp.bts_size, Sp.strCat_size, Sp.extract_size, Sp.stb_len, Sp.mk_size, IntKind.wrap_i64, IntKind.wrap_u8, IntKind.wrap_u32, IntKind.wrap_u64, Sp.tmod_lit, Sp.tdiv_lit, bne_eq_false_iff_eq, Int.natCast_inj, setE, copyL, sliceL, zrow, List.length_append, List.length_cons, List.length_nil, List.length_set, List.length_replicate, List.length_take, List.length_drop, decide_eq_true_eq, decide_eq_false_iff_not, Bool.or_eq_true, Bool.and_eq_true, Bool.or_eq_false_iff, Bool.and_eq_false_iff, Bool.not_eq_true', Bool.not_eq_false', Bool.not_eq_true, Bool.not_eq_false, beq_iff_eq, beq_eq_false_iff_ne, bne_iff_ne, ne_eq, implies_true, and_true, true_and] at *
  all_goals ((repeat' (first | exact trivial | apply And.intro | intro _)) <;> first | trivial | omega | exact Sp.tmod_nn (by omega) | exact Sp.tmod_lt (by omega) (by omega))
set_option maxHeartbeats 4000000 in
theorem so30_3 (k : (Ty.pair ty9 ty28).den) (x : (Ty.pair ty40 ty3).den) (fk : Fit (Ty.pair ty9 ty28) k) (h : Sp.in30_3 k x) : StepOk false Sp.in30_3 Sp.mu30_3 k x (Sp.st30_3 k x) := by
  try dsimp only [Ty.den] at *
  unfold Sp.in30_3 at h
  unfold Sp.st30_3
  refine StepOk.cnd (fun hc => ?_) (fun _ => rfl)
  rw [decide_eq_true_eq] at hc
  have e : IntKind.i64.wrap (x.2 + 6) = x.2 + 6 := Sp.wrap_i64_of (by omega) (by omega)
  rw [e] at hc ⊢
  refine StepOk.cnd (fun _ => rfl) (fun _ => ⟨rfl, ?_, ?_⟩)
  · unfold Sp.in30_3
    simp only [List.length_append, List.length_cons, List.length_nil]
    omega
  · unfold Sp.mu30_3
    simp only
    omega
theorem lo30_3 : LoopOk Try.prog gdS (RetAt Try.prog Try.f30 (Rsh.tup [none, none]) (some 23) (Ty.pair ty40 ty3)) (bodyAt (bodyOf Try.f30) [0]) LS30_3 :=
  loop_run (ctxOkF gokGmY3 []) (L := lookL []) (loops_of (l := []) (by kernel_rfl) (loops_nil)) sa30_3 va30_3 so30_3
end Go.Proofs.Ytabifaikklcghaa.Sy
namespace Go.Proofs.Ytabifaikklcghaa.Sp
open Go Go.RowKit Sy
def F30 (x : (Int × Int × Int × Int × Nat × Nat × Nat × List (Int × Int × Int × Int × Int × Int × Int × Int × Int)) × ByteArray) : (List (Int × Int × Int × Int × Int)) × Int :=
  (Sp.G30_3 (x.2, x.1) ([], (0 : Int)))
def pre30 (x : (Int × Int × Int × Int × Nat × Nat × Nat × List (Int × Int × Int × Int × Int × Int × Int × Int × Int)) × ByteArray) : Prop := x.2.size ≤ 1000000000
end Go.Proofs.Ytabifaikklcghaa.Sp
namespace Go.Proofs.Ytabifaikklcghaa.Sy
def ct30 : Ct := { p := (Ty.pair ty28 ty9), psh := [some 8, none], r := (Ty.pair ty40 ty3), rsh := (Rsh.tup [none, none]), pre := some Sp.pre30, fresh := (some 23), F := Sp.F30 }
theorem va30 (x : (Ty.pair ty28 ty9).den) : ((evFn (ctxG GmY3) Try.f30 (Ty.pair ty28 ty9) [some 8, none] (Rsh.tup [none, none]) (some 23) (Ty.pair ty40 ty3) (lookL [(3, LS30_3)]) x)).val (fun y => y) (Ty.dflt (Ty.pair ty40 ty3)) = Sp.F30 x := by kernel_rfl
theorem se30 (x : (Ty.pair ty28 ty9).den) : ((evFn (ctxG GmY3) Try.f30 (Ty.pair ty28 ty9) [some 8, none] (Rsh.tup [none, none]) (some 23) (Ty.pair ty40 ty3) (lookL [(3, LS30_3)]) x)).safe = (((Sp.in30_3 (x.2, x.1) ([], (0 : Int))) ∧ True)) := by kernel_rfl
theorem sa30 (x : (Ty.pair ty28 ty9).den) (fx : Fit (Ty.pair ty28 ty9) x) (h : Sp.pre30 x) : SafeW ((evFn (ctxG GmY3) Try.f30 (Ty.pair ty28 ty9) [some 8, none] (Rsh.tup [none, none]) (some 23) (Ty.pair ty40 ty3) (lookL [(3, LS30_3)]) x)) := by
  refine ⟨?_⟩
  rw [se30]
  try dsimp only [Ty.den] at *
  simp only [Fit, maxLen] at fx
  simp only [Sp.in30_3, Sp.pre30, Sp.bts_size, Sp.strCat_size, Sp.extract_size, Sp.stb_len, Sp.mk_size, IntKind.wrap_i64, IntKind.wrap_u8, IntKind.wrap_u32, IntKind.wrap_u64, Sp.tmod_lit, Sp.tdiv_lit, bne_eq_false_iff_eq, Int.natCast_inj, setE, copyL, sliceL, zrow, List.length_append, List.length_cons, List.length_nil, List.length_set, List.length_replicate, List.length_take, List.length_drop, decide_eq_true_eq, decide_eq_false_iff_not, Bool.or_eq_true, Bool.and_eq_true, Bool.or_eq_false_iff, Bool.and_eq_false_iff, Bool.not_eq_true', Bool.not_eq_false', Bool.not_eq_true, Bool.not_eq_false, beq_iff_eq, beq_eq_false_iff_ne, bne_iff_ne, ne_eq, implies_true, and_true, true_and] at *
  all_goals ((repeat' (first | exact trivial | apply And.intro | intro _)) <;> first | trivial | omega | exact Sp.tmod_nn (by omega) | exact Sp.tmod_lt (by omega) (by omega))
theorem ok30 : CtOk Try.prog gdS 30 ct30 :=
  fn_okU (ctxOkF gokGmY3 []) rfl Try.func30 (p := (Ty.pair ty28 ty9)) (psh := [some 8, none]) (r := (Ty.pair ty40 ty3)) (rsh := (Rsh.tup [none, none])) (pre := some Sp.pre30) (fresh := (some 23)) (F := Sp.F30) (L := (lookL [(3, LS30_3)])) (c := bodyOf Try.f30) (dflt := Ty.dflt (Ty.pair ty40 ty3)) rfl (loops_of (l := [bodyAt (bodyOf Try.f30) [0]]) (by kernel_rfl) (loops_cons (s0 := LS30_3) (by kernel_rfl) lo30_3 (loops_nil)))
    (safe_pre @sa30) va30
def GmY4 : List (Nat × Ct) := (12, ct12) :: (30, ct30) :: GmY3
theorem gokGmY4 : GOk GmY4 := gok_cons ok12 ⟨_, Try.func12, by kernel_rfl, by kernel_rfl⟩ (gok_cons ok30 ⟨_, Try.func30, by kernel_rfl, by kernel_rfl⟩ (gokGmY3))
end Go.Proofs.Ytabifaikklcghaa.Sy
