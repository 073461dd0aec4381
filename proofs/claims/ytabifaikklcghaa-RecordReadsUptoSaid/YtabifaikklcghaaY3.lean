/- Contracts of functions, by the evaluator (own program gen.py): record.Encode, record.Decode, overlayref09.Read. -/
import Derived.Test.YtabifaikklcghaaY2
set_option linter.unusedVariables false
set_option linter.unusedSimpArgs false
set_option maxRecDepth 100000
namespace Go.Proofs.Ytabifaikklcghaa.Sy
open Go Go.RowKit Sp
/-! record.Encode -/
end Go.Proofs.Ytabifaikklcghaa.Sy
namespace Go.Proofs.Ytabifaikklcghaa.Sp
open Go Go.RowKit Sy
def F14 (x : (Int × Int × Int × Int × Nat × Nat × Nat × List (Int × Int × Int × Int × Int × Int × Int × Int × Int)) × Int × Int × Int × Int × Int) : ByteArray × Int :=
  bif (!(Sp.F16 x)) then
    ((ByteArray.mk #[]), (1 : Int))
  else
    ((strCat (bts [(IntKind.u8.wrap x.2.1), (IntKind.u8.wrap x.2.2.1), (IntKind.u8.wrap x.2.2.2.1), (IntKind.u8.wrap (IntKind.i64.wrap (x.2.2.2.2.1 + (2 : Int)))), (IntKind.u8.wrap x.2.2.2.2.2)]) (bts ([(Sp.F36 (bts [(IntKind.u8.wrap x.2.1), (IntKind.u8.wrap x.2.2.1), (IntKind.u8.wrap x.2.2.2.1), (IntKind.u8.wrap (IntKind.i64.wrap (x.2.2.2.2.1 + (2 : Int)))), (IntKind.u8.wrap x.2.2.2.2.2)]))]))), (0 : Int))
end Go.Proofs.Ytabifaikklcghaa.Sp
namespace Go.Proofs.Ytabifaikklcghaa.Sy
def ct14 : Ct := { p := (Ty.pair ty28 ty23), psh := [some 8, some 5], r := (Ty.pair ty9 ty30), rsh := (Rsh.tup [none, none]), pre := none, fresh := none, F := Sp.F14 }
theorem va14 (x : (Ty.pair ty28 ty23).den) : ((evFn (ctxG GmY2) Try.f14 (Ty.pair ty28 ty23) [some 8, some 5] (Rsh.tup [none, none]) none (Ty.pair ty9 ty30) noL x)).val (fun y => y) (Ty.dflt (Ty.pair ty9 ty30)) = Sp.F14 x := by kernel_rfl
theorem se14 (x : (Ty.pair ty28 ty23).den) : ((evFn (ctxG GmY2) Try.f14 (Ty.pair ty28 ty23) [some 8, some 5] (Rsh.tup [none, none]) none (Ty.pair ty9 ty30) noL x)).safe = ((((!(Sp.F16 x)) = true → True) ∧ ((!(Sp.F16 x)) = false → ((Sp.pre36 (bts [(IntKind.u8.wrap x.2.1), (IntKind.u8.wrap x.2.2.1), (IntKind.u8.wrap x.2.2.2.1), (IntKind.u8.wrap (IntKind.i64.wrap (x.2.2.2.2.1 + (2 : Int)))), (IntKind.u8.wrap x.2.2.2.2.2)])) ∧ ((((ByteArray.size (bts [(IntKind.u8.wrap x.2.1), (IntKind.u8.wrap x.2.2.1), (IntKind.u8.wrap x.2.2.2.1), (IntKind.u8.wrap (IntKind.i64.wrap (x.2.2.2.2.1 + (2 : Int)))), (IntKind.u8.wrap x.2.2.2.2.2)]) : Nat) : Int) + ((ByteArray.size (bts ([(Sp.F36 (bts [(IntKind.u8.wrap x.2.1), (IntKind.u8.wrap x.2.2.1), (IntKind.u8.wrap x.2.2.2.1), (IntKind.u8.wrap (IntKind.i64.wrap (x.2.2.2.2.1 + (2 : Int)))), (IntKind.u8.wrap x.2.2.2.2.2)]))])) : Nat) : Int) ≤ 9223372036854775807) ∧ True))))) := by kernel_rfl
theorem sa14 (x : (Ty.pair ty28 ty23).den) (fx : Fit (Ty.pair ty28 ty23) x) : SafeW ((evFn (ctxG GmY2) Try.f14 (Ty.pair ty28 ty23) [some 8, some 5] (Rsh.tup [none, none]) none (Ty.pair ty9 ty30) noL x)) := by
  refine ⟨?_⟩
  rw [se14]
  try dsimp only [Ty.den] at *
  simp only [Fit, maxLen] at fx
  simp only [Sp.pre36, Sp.bts_size, Sp.strCat_size, Sp.extract_size, Sp.stb_len, Sp.mk_size, IntKind.wrap_i64, IntKind.wrap_u8, IntKind.wrap_u32, IntKind.wrap_u64, Sp.tmod_lit, Sp.tdiv_lit, bne_eq_false_iff_eq, Int.natCast_inj, setE, copyL, sliceL, zrow, List.length_append, List.length_cons, List.length_nil, List.length_set, List.length_replicate, List.length_take, List.length_drop, decide_eq_true_eq, decide_eq_false_iff_not, Bool.or_eq_true, Bool.and_eq_true, Bool.or_eq_false_iff, Bool.and_eq_false_iff, Bool.not_eq_true', Bool.not_eq_false', Bool.not_eq_true, Bool.not_eq_false, beq_iff_eq, beq_eq_false_iff_ne, bne_iff_ne, ne_eq, implies_true, and_true, true_and] at *
  all_goals ((repeat' (first | exact trivial | apply And.intro | intro _)) <;> first | trivial | omega | exact Sp.tmod_nn (by omega) | exact Sp.tmod_lt (by omega) (by omega))
theorem ok14 : CtOk Try.prog gdS 14 ct14 :=
  fn_okU (ctxOkF gokGmY2 []) rfl Try.func14 (p := (Ty.pair ty28 ty23)) (psh := [some 8, some 5]) (r := (Ty.pair ty9 ty30)) (rsh := (Rsh.tup [none, none])) (pre := none) (fresh := none) (F := Sp.F14) (L := noL) (c := bodyOf Try.f14) (dflt := Ty.dflt (Ty.pair ty9 ty30)) rfl (no_loops)
    (safe_no @sa14) va14
/-! record.Decode -/
end Go.Proofs.Ytabifaikklcghaa.Sy
namespace Go.Proofs.Ytabifaikklcghaa.Sp
open Go Go.RowKit Sy
def K19_1 (x : (Int × Int × Int × Int × Nat × Nat × Nat × List (Int × Int × Int × Int × Int × Int × Int × Int × Int)) × ByteArray) :=
  (Sp.F16 (x.1, (IntKind.i64.wrap (strAt x.2 (0 : Int))), (IntKind.i64.wrap (strAt x.2 (1 : Int))), (IntKind.i64.wrap (strAt x.2 (2 : Int))), (IntKind.i64.wrap ((IntKind.i64.wrap (strAt x.2 (3 : Int))) - (2 : Int))), (IntKind.i64.wrap (strAt x.2 (4 : Int)))))
def F19 (x : (Int × Int × Int × Int × Nat × Nat × Nat × List (Int × Int × Int × Int × Int × Int × Int × Int × Int)) × ByteArray) : (Int × Int × Int × Int × Int) × Int :=
  bif ((Sp.F37 x.1) != (0 : Int)) then
    (((0 : Int), (0 : Int), (0 : Int), (0 : Int), (0 : Int)), (1 : Int))
  else
    bif (((x.2).size : Int) != (6 : Int)) then
      (((0 : Int), (0 : Int), (0 : Int), (0 : Int), (0 : Int)), (4 : Int))
    else
      bif ((Sp.F36 (ByteArray.extract x.2 (Int.toNat (0 : Int)) (Int.toNat (5 : Int)))) != (strAt x.2 (5 : Int))) then
        (((0 : Int), (0 : Int), (0 : Int), (0 : Int), (0 : Int)), (5 : Int))
      else
        bif (!(Sp.K19_1 x)) then
          (((0 : Int), (0 : Int), (0 : Int), (0 : Int), (0 : Int)), (9 : Int))
        else
          (((IntKind.i64.wrap (strAt x.2 (0 : Int))), (IntKind.i64.wrap (strAt x.2 (1 : Int))), (IntKind.i64.wrap (strAt x.2 (2 : Int))), (IntKind.i64.wrap ((IntKind.i64.wrap (strAt x.2 (3 : Int))) - (2 : Int))), (IntKind.i64.wrap (strAt x.2 (4 : Int)))), (0 : Int))
end Go.Proofs.Ytabifaikklcghaa.Sp
namespace Go.Proofs.Ytabifaikklcghaa.Sy
def ct19 : Ct := { p := (Ty.pair ty28 ty9), psh := [some 8, none], r := (Ty.pair ty23 ty30), rsh := (Rsh.tup [some 5, none]), pre := none, fresh := none, F := Sp.F19 }
theorem va19 (x : (Ty.pair ty28 ty9).den) : ((evFn (ctxG GmY2) Try.f19 (Ty.pair ty28 ty9) [some 8, none] (Rsh.tup [some 5, none]) none (Ty.pair ty23 ty30) noL x)).val (fun y => y) (Ty.dflt (Ty.pair ty23 ty30)) = Sp.F19 x := by kernel_rfl
theorem se19 (x : (Ty.pair ty28 ty9).den) : ((evFn (ctxG GmY2) Try.f19 (Ty.pair ty28 ty9) [some 8, none] (Rsh.tup [some 5, none]) none (Ty.pair ty23 ty30) noL x)).safe = (((((Sp.F37 x.1) != (0 : Int)) = true → True) ∧ (((Sp.F37 x.1) != (0 : Int)) = false → (((((x.2).size : Int) != (6 : Int)) = true → True) ∧ ((((x.2).size : Int) != (6 : Int)) = false → ((0 ≤ (0 : Int) ∧ (0 : Int) ≤ (5 : Int) ∧ (5 : Int) ≤ ((x.2).size : Int)) ∧ ((Sp.pre36 (ByteArray.extract x.2 (Int.toNat (0 : Int)) (Int.toNat (5 : Int)))) ∧ ((0 ≤ (5 : Int) ∧ (5 : Int) < ((x.2).size : Int)) ∧ ((((Sp.F36 (ByteArray.extract x.2 (Int.toNat (0 : Int)) (Int.toNat (5 : Int)))) != (strAt x.2 (5 : Int))) = true → True) ∧ (((Sp.F36 (ByteArray.extract x.2 (Int.toNat (0 : Int)) (Int.toNat (5 : Int)))) != (strAt x.2 (5 : Int))) = false → ((0 ≤ (0 : Int) ∧ (0 : Int) < ((x.2).size : Int)) ∧ ((0 ≤ (1 : Int) ∧ (1 : Int) < ((x.2).size : Int)) ∧ ((0 ≤ (2 : Int) ∧ (2 : Int) < ((x.2).size : Int)) ∧ ((0 ≤ (3 : Int) ∧ (3 : Int) < ((x.2).size : Int)) ∧ ((0 ≤ (4 : Int) ∧ (4 : Int) < ((x.2).size : Int)) ∧ (((!(Sp.K19_1 x)) = true → True) ∧ ((!(Sp.K19_1 x)) = false → True))))))))))))))))) := by kernel_rfl
theorem sa19 (x : (Ty.pair ty28 ty9).den) (fx : Fit (Ty.pair ty28 ty9) x) : SafeW ((evFn (ctxG GmY2) Try.f19 (Ty.pair ty28 ty9) [some 8, none] (Rsh.tup [some 5, none]) none (Ty.pair ty23 ty30) noL x)) := by
  refine ⟨?_⟩
  rw [se19]
  try dsimp only [Ty.den] at *
  simp only [Fit, maxLen] at fx
  simp only [Sp.pre36, Sp.bts_size, Sp.strCat_size, Sp.extract_size, Sp.stb_len, Sp.mk_size, IntKind.wrap_i64, IntKind.wrap_u8, IntKind.wrap_u32, IntKind.wrap_u64, Sp.tmod_lit, Sp.tdiv_lit, bne_eq_false_iff_eq, Int.natCast_inj, setE, copyL, sliceL, zrow, List.length_append, List.length_cons, List.length_nil, List.length_set, List.length_replicate, List.length_take, List.length_drop, decide_eq_true_eq, decide_eq_false_iff_not, Bool.or_eq_true, Bool.and_eq_true, Bool.or_eq_false_iff, Bool.and_eq_false_iff, Bool.not_eq_true', Bool.not_eq_false', Bool.not_eq_true, Bool.not_eq_false, beq_iff_eq, beq_eq_false_iff_ne, bne_iff_ne, ne_eq, implies_true, and_true, true_and] at *
  all_goals ((repeat' (first | exact trivial | apply And.intro | intro _)) <;> first | trivial | omega | exact Sp.tmod_nn (by omega) | exact Sp.tmod_lt (by omega) (by omega))
theorem ok19 : CtOk Try.prog gdS 19 ct19 :=
  fn_okU (ctxOkF gokGmY2 []) rfl Try.func19 (p := (Ty.pair ty28 ty9)) (psh := [some 8, none]) (r := (Ty.pair ty23 ty30)) (rsh := (Rsh.tup [some 5, none])) (pre := none) (fresh := none) (F := Sp.F19) (L := noL) (c := bodyOf Try.f19) (dflt := Ty.dflt (Ty.pair ty23 ty30)) rfl (no_loops)
    (safe_no @sa19) va19
/-! overlayref09.Read -/
end Go.Proofs.Ytabifaikklcghaa.Sy
namespace Go.Proofs.Ytabifaikklcghaa.Sp
open Go Go.RowKit Sy
def in31_3 (k : (ByteArray × Int × Int × Int × Int × Nat × Nat × Nat × List (Int × Int × Int × Int × Int × Int × Int × Int × Int))) (x : ((List (Int × Int × Int × Int × Int)) × Int)) : Prop := 0 ≤ x.2 ∧ x.2 ≤ (k.1.size : Int) ∧ k.1.size ≤ 1000000000 ∧ 6 * (x.1.length : Int) = x.2
def mu31_3 (k : (ByteArray × Int × Int × Int × Int × Nat × Nat × Nat × List (Int × Int × Int × Int × Int × Int × Int × Int × Int))) (x : ((List (Int × Int × Int × Int × Int)) × Int)) : Nat := ((k.1.size : Int) - x.2).toNat
def st31_3 (k : (ByteArray × Int × Int × Int × Int × Nat × Nat × Nat × List (Int × Int × Int × Int × Int × Int × Int × Int × Int))) (x : ((List (Int × Int × Int × Int × Int)) × Int)) : BOut (ByteArray × Int × Int × Int × Int × Nat × Nat × Nat × List (Int × Int × Int × Int × Int × Int × Int × Int × Int)) ((List (Int × Int × Int × Int × Int)) × Int) ((List (Int × Int × Int × Int × Int)) × Int) :=
  bif (decide ((IntKind.i64.wrap (x.2 + (6 : Int))) ≤ ((k.1).size : Int))) then
    (bif ((Sp.F20 (k.2, (ByteArray.extract k.1 (Int.toNat x.2) (Int.toNat (IntKind.i64.wrap (x.2 + (6 : Int))))))).2 != (0 : Int)) then
      BOut.brk k x
    else
      BOut.next k ((x.1 ++ [(Sp.F20 (k.2, (ByteArray.extract k.1 (Int.toNat x.2) (Int.toNat (IntKind.i64.wrap (x.2 + (6 : Int))))))).1]), (IntKind.i64.wrap (x.2 + (6 : Int)))))
  else
    BOut.brk k x
def G31_3 (k : (ByteArray × Int × Int × Int × Int × Nat × Nat × Nat × List (Int × Int × Int × Int × Int × Int × Int × Int × Int))) (x : ((List (Int × Int × Int × Int × Int)) × Int)) : ((List (Int × Int × Int × Int × Int)) × Int) := endOf st31_3 k (Nat.succ (mu31_3 k x)) x
end Go.Proofs.Ytabifaikklcghaa.Sp
namespace Go.Proofs.Ytabifaikklcghaa.Sy
def LS31_3 : LS (Ty.pair ty40 ty3).den := mkLS (Ty.pair ty9 ty28) (Ty.pair ty40 ty3)  [(1, none)] [(2, 8)] [(6, none), (7, none)] [] [(0, 100300, true, 23)] [] [(2, 2)] 0 false Sp.in31_3 Sp.st31_3 Sp.mu31_3
theorem va31_3 (k : (Ty.pair ty9 ty28).den) (x : (Ty.pair ty40 ty3).den) : ((evCode (ctxG GmY2) (lookL []) (bodyAt (bodyOf Try.f31) [0]) (tmpl LS31_3 (enc (Ty.pair ty9 ty28) k) (enc (Ty.pair ty40 ty3) x)) (evRound LS31_3 (evRet (ctxG GmY2) Try.f31 (Rsh.tup [none, none]) (some 23) (Ty.pair ty40 ty3) .ret)))).val BOut.ret (BOut.brk (Ty.dflt (Ty.pair ty9 ty28)) (Ty.dflt (Ty.pair ty40 ty3))) = Sp.st31_3 k x := by kernel_rfl
theorem se31_3 (k : (Ty.pair ty9 ty28).den) (x : (Ty.pair ty40 ty3).den) : ((evCode (ctxG GmY2) (lookL []) (bodyAt (bodyOf Try.f31) [0]) (tmpl LS31_3 (enc (Ty.pair ty9 ty28) k) (enc (Ty.pair ty40 ty3) x)) (evRound LS31_3 (evRet (ctxG GmY2) Try.f31 (Rsh.tup [none, none]) (some 23) (Ty.pair ty40 ty3) .ret)))).safe = ((((decide ((IntKind.i64.wrap (x.2 + (6 : Int))) ≤ ((k.1).size : Int))) = true → ((0 ≤ x.2 ∧ x.2 ≤ (IntKind.i64.wrap (x.2 + (6 : Int))) ∧ (IntKind.i64.wrap (x.2 + (6 : Int))) ≤ ((k.1).size : Int)) ∧ ((((Sp.F20 (k.2, (ByteArray.extract k.1 (Int.toNat x.2) (Int.toNat (IntKind.i64.wrap (x.2 + (6 : Int))))))).2 != (0 : Int)) = true → True) ∧ (((Sp.F20 (k.2, (ByteArray.extract k.1 (Int.toNat x.2) (Int.toNat (IntKind.i64.wrap (x.2 + (6 : Int))))))).2 != (0 : Int)) = false → (((List.length (x.1 : List (Int × Int × Int × Int × Int)) + List.length ([(Sp.F20 (k.2, (ByteArray.extract k.1 (Int.toNat x.2) (Int.toNat (IntKind.i64.wrap (x.2 + (6 : Int))))))).1] : List (Int × Int × Int × Int × Int))) * 40 ≤ 140737488355328 ∧ List.length (x.1 : List (Int × Int × Int × Int × Int)) + List.length ([(Sp.F20 (k.2, (ByteArray.extract k.1 (Int.toNat x.2) (Int.toNat (IntKind.i64.wrap (x.2 + (6 : Int))))))).1] : List (Int × Int × Int × Int × Int)) ≤ 4611686018427387903) ∧ True))))) ∧ ((decide ((IntKind.i64.wrap (x.2 + (6 : Int))) ≤ ((k.1).size : Int))) = false → True))) := by kernel_rfl
set_option maxHeartbeats 4000000 in
theorem sa31_3 (k : (Ty.pair ty9 ty28).den) (x : (Ty.pair ty40 ty3).den) (fk : Fit (Ty.pair ty9 ty28) k) (fx : Fit (Ty.pair ty40 ty3) x) (h : Sp.in31_3 k x) : SafeW ((evCode (ctxG GmY2) (lookL []) (bodyAt (bodyOf Try.f31) [0]) (tmpl LS31_3 (enc (Ty.pair ty9 ty28) k) (enc (Ty.pair ty40 ty3) x)) (evRound LS31_3 (evRet (ctxG GmY2) Try.f31 (Rsh.tup [none, none]) (some 23) (Ty.pair ty40 ty3) .ret)))) := by
  refine ⟨?_⟩
  rw [se31_3]
  try dsimp only [Ty.den] at *
  simp only [Sp.in31_3, Fit, maxLen] at h fk fx
  simp only [Sp.bts_size, Sp.strCat_size, Sp.extract_size, Sp.stb_len, Sp.mk_size, IntKind.wrap_i64, IntKind.wrap_u8, IntKind.wrap_u32, IntKind.wrap_u64, Sp.tmod_lit, Sp.tdiv_lit, bne_eq_false_iff_eq, Int.natCast_inj, setE, copyL, sliceL, zrow, List.length_append, List.length_cons, List.length_nil, List.length_set, List.length_replicate, List.length_take, List.length_drop, decide_eq_true_eq, decide_eq_false_iff_not, Bool.or_eq_true, Bool.and_eq_true, Bool.or_eq_false_iff, Bool.and_eq_false_iff, Bool.not_eq_true', Bool.not_eq_false', Bool.not_eq_true, Bool.not_eq_false, beq_iff_eq, beq_eq_false_iff_ne, bne_iff_ne, ne_eq, implies_true, and_true, true_and] at *
  all_goals ((repeat' (first | exact trivial | apply And.intro | intro _)) <;> first | trivial | omega | exact Sp.tmod_nn (by omega) | exact Sp.tmod_lt (by omega) (by omega))
set_option maxHeartbeats 4000000 in
theorem so31_3 (k : (Ty.pair ty9 ty28).den) (x : (Ty.pair ty40 ty3).den) (fk : Fit (Ty.pair ty9 ty28) k) (h : Sp.in31_3 k x) : StepOk false Sp.in31_3 Sp.mu31_3 k x (Sp.st31_3 k x) := by
  try dsimp only [Ty.den] at *
  unfold Sp.in31_3 at h
  unfold Sp.st31_3
  refine StepOk.cnd (fun hc => ?_) (fun _ => rfl)
  rw [decide_eq_true_eq] at hc
  have e : IntKind.i64.wrap (x.2 + 6) = x.2 + 6 := Sp.wrap_i64_of (by omega) (by omega)
  rw [e] at hc ⊢
  refine StepOk.cnd (fun _ => rfl) (fun _ => ⟨rfl, ?_, ?_⟩)
  · unfold Sp.in31_3
    simp only [List.length_append, List.length_cons, List.length_nil]
    omega
  · unfold Sp.mu31_3
    simp only
    omega
theorem lo31_3 : LoopOk Try.prog gdS (RetAt Try.prog Try.f31 (Rsh.tup [none, none]) (some 23) (Ty.pair ty40 ty3)) (bodyAt (bodyOf Try.f31) [0]) LS31_3 :=
  loop_run (ctxOkF gokGmY2 []) (L := lookL []) (loops_of (l := []) (by kernel_rfl) (loops_nil)) sa31_3 va31_3 so31_3
end Go.Proofs.Ytabifaikklcghaa.Sy
namespace Go.Proofs.Ytabifaikklcghaa.Sp
open Go Go.RowKit Sy
def F31 (x : (Int × Int × Int × Int × Nat × Nat × Nat × List (Int × Int × Int × Int × Int × Int × Int × Int × Int)) × ByteArray) : (List (Int × Int × Int × Int × Int)) × Int :=
  (Sp.G31_3 (x.2, x.1) ([], (0 : Int)))
def pre31 (x : (Int × Int × Int × Int × Nat × Nat × Nat × List (Int × Int × Int × Int × Int × Int × Int × Int × Int)) × ByteArray) : Prop := x.2.size ≤ 1000000000
end Go.Proofs.Ytabifaikklcghaa.Sp
namespace Go.Proofs.Ytabifaikklcghaa.Sy
def ct31 : Ct := { p := (Ty.pair ty28 ty9), psh := [some 8, none], r := (Ty.pair ty40 ty3), rsh := (Rsh.tup [none, none]), pre := some Sp.pre31, fresh := (some 23), F := Sp.F31 }
theorem va31 (x : (Ty.pair ty28 ty9).den) : ((evFn (ctxG GmY2) Try.f31 (Ty.pair ty28 ty9) [some 8, none] (Rsh.tup [none, none]) (some 23) (Ty.pair ty40 ty3) (lookL [(3, LS31_3)]) x)).val (fun y => y) (Ty.dflt (Ty.pair ty40 ty3)) = Sp.F31 x := by kernel_rfl
theorem se31 (x : (Ty.pair ty28 ty9).den) : ((evFn (ctxG GmY2) Try.f31 (Ty.pair ty28 ty9) [some 8, none] (Rsh.tup [none, none]) (some 23) (Ty.pair ty40 ty3) (lookL [(3, LS31_3)]) x)).safe = (((Sp.in31_3 (x.2, x.1) ([], (0 : Int))) ∧ True)) := by kernel_rfl
theorem sa31 (x : (Ty.pair ty28 ty9).den) (fx : Fit (Ty.pair ty28 ty9) x) (h : Sp.pre31 x) : SafeW ((evFn (ctxG GmY2) Try.f31 (Ty.pair ty28 ty9) [some 8, none] (Rsh.tup [none, none]) (some 23) (Ty.pair ty40 ty3) (lookL [(3, LS31_3)]) x)) := by
  refine ⟨?_⟩
  rw [se31]
  try dsimp only [Ty.den] at *
  simp only [Fit, maxLen] at fx
  simp only [Sp.in31_3, Sp.pre31, Sp.bts_size, Sp.strCat_size, Sp.extract_size, Sp.stb_len, Sp.mk_size, IntKind.wrap_i64, IntKind.wrap_u8, IntKind.wrap_u32, IntKind.wrap_u64, Sp.tmod_lit, Sp.tdiv_lit, bne_eq_false_iff_eq, Int.natCast_inj, setE, copyL, sliceL, zrow, List.length_append, List.length_cons, List.length_nil, List.length_set, List.length_replicate, List.length_take, List.length_drop, decide_eq_true_eq, decide_eq_false_iff_not, Bool.or_eq_true, Bool.and_eq_true, Bool.or_eq_false_iff, Bool.and_eq_false_iff, Bool.not_eq_true', Bool.not_eq_false', Bool.not_eq_true, Bool.not_eq_false, beq_iff_eq, beq_eq_false_iff_ne, bne_iff_ne, ne_eq, implies_true, and_true, true_and] at *
  all_goals ((repeat' (first | exact trivial | apply And.intro | intro _)) <;> first | trivial | omega | exact Sp.tmod_nn (by omega) | exact Sp.tmod_lt (by omega) (by omega))
theorem ok31 : CtOk Try.prog gdS 31 ct31 :=
  fn_okU (ctxOkF gokGmY2 []) rfl Try.func31 (p := (Ty.pair ty28 ty9)) (psh := [some 8, none]) (r := (Ty.pair ty40 ty3)) (rsh := (Rsh.tup [none, none])) (pre := some Sp.pre31) (fresh := (some 23)) (F := Sp.F31) (L := (lookL [(3, LS31_3)])) (c := bodyOf Try.f31) (dflt := Ty.dflt (Ty.pair ty40 ty3)) rfl (loops_of (l := [bodyAt (bodyOf Try.f31) [0]]) (by kernel_rfl) (loops_cons (s0 := LS31_3) (by kernel_rfl) lo31_3 (loops_nil)))
    (safe_pre @sa31) va31
def GmY3 : List (Nat × Ct) := (14, ct14) :: (19, ct19) :: (31, ct31) :: GmY2
theorem gokGmY3 : GOk GmY3 := gok_cons ok14 ⟨_, Try.func14, by kernel_rfl, by kernel_rfl⟩ (gok_cons ok19 ⟨_, Try.func19, by kernel_rfl, by kernel_rfl⟩ (gok_cons ok31 ⟨_, Try.func31, by kernel_rfl, by kernel_rfl⟩ (gokGmY2)))
end Go.Proofs.Ytabifaikklcghaa.Sy
