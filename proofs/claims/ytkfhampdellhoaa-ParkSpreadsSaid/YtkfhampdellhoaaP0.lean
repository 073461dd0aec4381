/- Contracts of functions, by the evaluator (own program gen.py): park.Spread, park.Move, overlayref14.Move. -/
import Derived.Test.YtkfhampdellhoaaBuI
set_option linter.unusedVariables false
set_option linter.unusedSimpArgs false
set_option maxRecDepth 100000
namespace Go.Proofs.Ytkfhampdellhoaa.Sy
open Go Go.RowKit Sp
/-! park.Spread -/
end Go.Proofs.Ytkfhampdellhoaa.Sy
namespace Go.Proofs.Ytkfhampdellhoaa.Sp
open Go Go.RowKit Sy
def in19_6 (k : (Int × Int × Int × Int × Int × Int × Nat × Nat × Nat × List (Int × Int × Int × Int × Int × Int × Int × Int × Int))) (x : ((List Int) × Int)) : Prop := 0 ≤ x.2 ∧ (x.1.length : Int) = x.2 ∧ x.2 ≤ k.1 ∧ 1 ≤ k.1 ∧ k.1 ≤ 8 ∧ k.2.1 = k.1
def mu19_6 (k : (Int × Int × Int × Int × Int × Int × Nat × Nat × Nat × List (Int × Int × Int × Int × Int × Int × Int × Int × Int))) (x : ((List Int) × Int)) : Nat := (k.2.1 - x.2).toNat
def st19_6 (k : (Int × Int × Int × Int × Int × Int × Nat × Nat × Nat × List (Int × Int × Int × Int × Int × Int × Int × Int × Int))) (x : ((List Int) × Int)) : BOut (Int × Int × Int × Int × Int × Int × Nat × Nat × Nat × List (Int × Int × Int × Int × Int × Int × Int × Int × Int)) ((List Int) × Int) (List Int) :=
  bif (decide (x.2 < k.2.1)) then
    BOut.next k ((x.1 ++ [(IntKind.i64.wrap (Int.tdiv (IntKind.i64.wrap ((IntKind.i64.wrap ((IntKind.i64.wrap ((2 : Int) * x.2)) + (1 : Int))) * k.2.2.1)) (IntKind.i64.wrap ((2 : Int) * k.1))))]), (IntKind.i64.wrap (x.2 + (1 : Int))))
  else
    BOut.brk k x
def G19_6 (k : (Int × Int × Int × Int × Int × Int × Nat × Nat × Nat × List (Int × Int × Int × Int × Int × Int × Int × Int × Int))) (x : ((List Int) × Int)) : ((List Int) × Int) := endOf st19_6 k (Nat.succ (mu19_6 k x)) x
end Go.Proofs.Ytkfhampdellhoaa.Sp
namespace Go.Proofs.Ytkfhampdellhoaa.Sy
def LS19_6 : LS ty49.den := mkLS (Ty.pair ty3 (Ty.pair ty3 ty46)) (Ty.pair ty49 ty3)  [(3, none), (12, none)] [(1, 8)] [(4, none), (13, none)] [] [(0, 100600, true, 3)] [] [(1, 1)] 0 false Sp.in19_6 Sp.st19_6 Sp.mu19_6
theorem va19_6 (k : (Ty.pair ty3 (Ty.pair ty3 ty46)).den) (x : (Ty.pair ty49 ty3).den) : ((evCode (ctxG GmT2) (lookL []) (bodyAt (bodyOf Try.f19) [0]) (tmpl LS19_6 (enc (Ty.pair ty3 (Ty.pair ty3 ty46)) k) (enc (Ty.pair ty49 ty3) x)) (evRound LS19_6 (evRet (ctxG GmT2) Try.f19 (Rsh.one (none)) (some 3) ty49 .ret)))).val BOut.ret (BOut.brk (Ty.dflt (Ty.pair ty3 (Ty.pair ty3 ty46))) (Ty.dflt (Ty.pair ty49 ty3))) = Sp.st19_6 k x := by kernel_rfl
theorem se19_6 (k : (Ty.pair ty3 (Ty.pair ty3 ty46)).den) (x : (Ty.pair ty49 ty3).den) : ((evCode (ctxG GmT2) (lookL []) (bodyAt (bodyOf Try.f19) [0]) (tmpl LS19_6 (enc (Ty.pair ty3 (Ty.pair ty3 ty46)) k) (enc (Ty.pair ty49 ty3) x)) (evRound LS19_6 (evRet (ctxG GmT2) Try.f19 (Rsh.one (none)) (some 3) ty49 .ret)))).safe = ((((decide (x.2 < k.2.1)) = true → (((IntKind.i64.wrap ((2 : Int) * k.1)) ≠ 0) ∧ (((List.length (x.1 : List Int) + List.length ([(IntKind.i64.wrap (Int.tdiv (IntKind.i64.wrap ((IntKind.i64.wrap ((IntKind.i64.wrap ((2 : Int) * x.2)) + (1 : Int))) * k.2.2.1)) (IntKind.i64.wrap ((2 : Int) * k.1))))] : List Int)) * 8 ≤ 140737488355328 ∧ List.length (x.1 : List Int) + List.length ([(IntKind.i64.wrap (Int.tdiv (IntKind.i64.wrap ((IntKind.i64.wrap ((IntKind.i64.wrap ((2 : Int) * x.2)) + (1 : Int))) * k.2.2.1)) (IntKind.i64.wrap ((2 : Int) * k.1))))] : List Int) ≤ 4611686018427387903) ∧ True))) ∧ ((decide (x.2 < k.2.1)) = false → True))) := by kernel_rfl
theorem sa19_6 (k : (Ty.pair ty3 (Ty.pair ty3 ty46)).den) (x : (Ty.pair ty49 ty3).den) (fk : Fit (Ty.pair ty3 (Ty.pair ty3 ty46)) k) (fx : Fit (Ty.pair ty49 ty3) x) (h : Sp.in19_6 k x) : SafeW ((evCode (ctxG GmT2) (lookL []) (bodyAt (bodyOf Try.f19) [0]) (tmpl LS19_6 (enc (Ty.pair ty3 (Ty.pair ty3 ty46)) k) (enc (Ty.pair ty49 ty3) x)) (evRound LS19_6 (evRet (ctxG GmT2) Try.f19 (Rsh.one (none)) (some 3) ty49 .ret)))) := by
  refine ⟨?_⟩
  rw [se19_6]
  try dsimp only [Ty.den] at *
  simp only [Sp.in19_6, Fit, maxLen] at h fk fx
  simp only [IntKind.wrap_i64, IntKind.wrap_u8, IntKind.wrap_u32, IntKind.wrap_u64, Sp.tmod_ite, Sp.tdiv_ite, setE, copyL, sliceL, zrow, List.length_append, List.length_cons, List.length_nil, List.length_set, List.length_replicate, List.length_take, List.length_drop, decide_eq_true_eq, decide_eq_false_iff_not, Bool.or_eq_true, Bool.and_eq_true, Bool.or_eq_false_iff, Bool.and_eq_false_iff, Bool.not_eq_true', Bool.not_eq_false', Bool.not_eq_true, Bool.not_eq_false, beq_iff_eq, beq_eq_false_iff_ne, bne_iff_ne, ne_eq, implies_true, and_true, true_and] at *
  all_goals ((repeat' (first | exact trivial | apply And.intro | intro _)) <;> first | trivial | omega)
theorem so19_6 (k : (Ty.pair ty3 (Ty.pair ty3 ty46)).den) (x : (Ty.pair ty49 ty3).den) (fk : Fit (Ty.pair ty3 (Ty.pair ty3 ty46)) k) (h : Sp.in19_6 k x) : StepOk false Sp.in19_6 Sp.mu19_6 k x (Sp.st19_6 k x) := by
  try dsimp only [Ty.den] at *
  simp only [Sp.in19_6, Fit, maxLen] at h fk
  simp only [Sp.st19_6, Sp.optR, Bool.cond_eq_ite]
  (repeat' split) <;> (first | exact rfl | (refine ⟨rfl, ?_, ?_⟩ <;> simp only [Sp.in19_6, Sp.mu19_6, IntKind.wrap_i64, IntKind.wrap_u8, IntKind.wrap_u32, IntKind.wrap_u64, Sp.tmod_ite, Sp.tdiv_ite, setE, copyL, sliceL, zrow, List.length_append, List.length_cons, List.length_nil, List.length_set, List.length_replicate, List.length_take, List.length_drop, decide_eq_true_eq, decide_eq_false_iff_not, Bool.or_eq_true, Bool.and_eq_true, Bool.or_eq_false_iff, Bool.and_eq_false_iff, Bool.not_eq_true', Bool.not_eq_false', Bool.not_eq_true, Bool.not_eq_false, beq_iff_eq, beq_eq_false_iff_ne, bne_iff_ne, ne_eq] at * <;> omega))
theorem lo19_6 : LoopOk Try.prog gdS (RetAt Try.prog Try.f19 (Rsh.one (none)) (some 3) ty49) (bodyAt (bodyOf Try.f19) [0]) LS19_6 :=
  loop_run (ctxOkF gokGmT2 []) (L := lookL []) (loops_of (l := []) (by kernel_rfl) (loops_nil)) sa19_6 va19_6 so19_6
end Go.Proofs.Ytkfhampdellhoaa.Sy
namespace Go.Proofs.Ytkfhampdellhoaa.Sp
open Go Go.RowKit Sy
def F19 (x : Int × Int × Int × Int × Nat × Nat × Nat × List (Int × Int × Int × Int × Int × Int × Int × Int × Int)) : List Int :=
  bif ((Sp.F28 x) != (0 : Int)) then
    []
  else
    (Sp.G19_6 (((x.2.2.2.2.2.2.2).length : Int), ((x.2.2.2.2.2.2.2).length : Int), x) ([], (0 : Int))).1
end Go.Proofs.Ytkfhampdellhoaa.Sp
namespace Go.Proofs.Ytkfhampdellhoaa.Sy
def ct19 : Ct := { p := ty46, psh := [some 8], r := ty49, rsh := (Rsh.one (none)), pre := none, fresh := (some 3), F := Sp.F19 }
theorem va19 (x : ty46.den) : ((evFn (ctxG GmT2) Try.f19 ty46 [some 8] (Rsh.one (none)) (some 3) ty49 (lookL [(6, LS19_6)]) x)).val (fun y => y) (Ty.dflt ty49) = Sp.F19 x := by kernel_rfl
theorem se19 (x : ty46.den) : ((evFn (ctxG GmT2) Try.f19 ty46 [some 8] (Rsh.one (none)) (some 3) ty49 (lookL [(6, LS19_6)]) x)).safe = (((((Sp.F28 x) != (0 : Int)) = true → True) ∧ (((Sp.F28 x) != (0 : Int)) = false → ((Sp.in19_6 (((x.2.2.2.2.2.2.2).length : Int), ((x.2.2.2.2.2.2.2).length : Int), x) ([], (0 : Int))) ∧ True)))) := by kernel_rfl
theorem sa19 (x : ty46.den) (fx : Fit ty46 x) : SafeW ((evFn (ctxG GmT2) Try.f19 ty46 [some 8] (Rsh.one (none)) (some 3) ty49 (lookL [(6, LS19_6)]) x)) := by
  refine ⟨?_⟩
  rw [se19]
  refine ⟨fun _ => trivial, fun h => ⟨?_, trivial⟩⟩
  have hb := Sp.valid_b (Sp.fit_cars fx) (by simpa using h)
  have h1 : 1 ≤ x.2.2.2.2.2.2.2.length ∧ x.2.2.2.2.2.2.2.length ≤ 8 := hb.cn
  refine ⟨Int.le_refl _, rfl, ?_, ?_, ?_, rfl⟩ <;> (try dsimp only) <;> omega
theorem ok19 : CtOk Try.prog gdS 19 ct19 :=
  fn_okU (ctxOkF gokGmT2 []) rfl Try.func19 (p := ty46) (psh := [some 8]) (r := ty49) (rsh := (Rsh.one (none))) (pre := none) (fresh := (some 3)) (F := Sp.F19) (L := (lookL [(6, LS19_6)])) (c := bodyOf Try.f19) (dflt := Ty.dflt ty49) rfl (loops_of (l := [bodyAt (bodyOf Try.f19) [0]]) (by kernel_rfl) (loops_cons (s0 := LS19_6) (by kernel_rfl) lo19_6 (loops_nil)))
    (safe_no @sa19) va19
/-! park.Move -/
end Go.Proofs.Ytkfhampdellhoaa.Sy
namespace Go.Proofs.Ytkfhampdellhoaa.Sp
open Go Go.RowKit Sy
def F17 (x : (Int × Int × Int × Int × Nat × Nat × Nat × List (Int × Int × Int × Int × Int × Int × Int × Int × Int)) × Int × Int × Int) : Int :=
  bif (((((((Sp.F28 x.1) != (0 : Int)) || (decide (x.2.1 < (0 : Int)))) || (decide (x.2.1 ≥ ((x.1.2.2.2.2.2.2.2).length : Int)))) || (decide (x.2.2.2 < (0 : Int)))) || (decide (x.2.2.2 ≥ x.1.1))) || (decide (x.2.2.1 < x.1.2.2.2.1))) then
    (0 : Int)
  else
    bif (decide ((Sp.nthT x.1.2.2.2.2.2.2.2 x.2.1).2.2.2.2.2.2.2.2 > x.2.2.2)) then
      (1 : Int)
    else
      bif (decide ((Sp.nthT x.1.2.2.2.2.2.2.2 x.2.1).2.2.2.2.2.2.2.2 < x.2.2.2)) then
        (2 : Int)
      else
        (0 : Int)
end Go.Proofs.Ytkfhampdellhoaa.Sp
namespace Go.Proofs.Ytkfhampdellhoaa.Sy
def ct17 : Ct := { p := (Ty.pair ty46 (Ty.pair ty3 (Ty.pair ty3 ty3))), psh := [some 8, none, none, none], r := ty3, rsh := (Rsh.one (none)), pre := none, fresh := none, F := Sp.F17 }
theorem va17 (x : (Ty.pair ty46 (Ty.pair ty3 (Ty.pair ty3 ty3))).den) : ((evFn (ctxG GmT2) Try.f17 (Ty.pair ty46 (Ty.pair ty3 (Ty.pair ty3 ty3))) [some 8, none, none, none] (Rsh.one (none)) none ty3 noL x)).val (fun y => y) (Ty.dflt ty3) = Sp.F17 x := by kernel_rfl
theorem se17 (x : (Ty.pair ty46 (Ty.pair ty3 (Ty.pair ty3 ty3))).den) : ((evFn (ctxG GmT2) Try.f17 (Ty.pair ty46 (Ty.pair ty3 (Ty.pair ty3 ty3))) [some 8, none, none, none] (Rsh.one (none)) none ty3 noL x)).safe = ((((((((((Sp.F28 x.1) != (0 : Int)) || (decide (x.2.1 < (0 : Int)))) || (decide (x.2.1 ≥ ((x.1.2.2.2.2.2.2.2).length : Int)))) || (decide (x.2.2.2 < (0 : Int)))) || (decide (x.2.2.2 ≥ x.1.1))) || (decide (x.2.2.1 < x.1.2.2.2.1))) = true → True) ∧ ((((((((Sp.F28 x.1) != (0 : Int)) || (decide (x.2.1 < (0 : Int)))) || (decide (x.2.1 ≥ ((x.1.2.2.2.2.2.2.2).length : Int)))) || (decide (x.2.2.2 < (0 : Int)))) || (decide (x.2.2.2 ≥ x.1.1))) || (decide (x.2.2.1 < x.1.2.2.2.1))) = false → ((0 ≤ x.2.1 ∧ x.2.1 < ((x.1.2.2.2.2.2.2.2).length : Int)) ∧ (((decide ((Sp.nthT x.1.2.2.2.2.2.2.2 x.2.1).2.2.2.2.2.2.2.2 > x.2.2.2)) = true → True) ∧ ((decide ((Sp.nthT x.1.2.2.2.2.2.2.2 x.2.1).2.2.2.2.2.2.2.2 > x.2.2.2)) = false → (((decide ((Sp.nthT x.1.2.2.2.2.2.2.2 x.2.1).2.2.2.2.2.2.2.2 < x.2.2.2)) = true → True) ∧ ((decide ((Sp.nthT x.1.2.2.2.2.2.2.2 x.2.1).2.2.2.2.2.2.2.2 < x.2.2.2)) = false → True)))))))) := by kernel_rfl
theorem sa17 (x : (Ty.pair ty46 (Ty.pair ty3 (Ty.pair ty3 ty3))).den) (fx : Fit (Ty.pair ty46 (Ty.pair ty3 (Ty.pair ty3 ty3))) x) : SafeW ((evFn (ctxG GmT2) Try.f17 (Ty.pair ty46 (Ty.pair ty3 (Ty.pair ty3 ty3))) [some 8, none, none, none] (Rsh.one (none)) none ty3 noL x)) := by
  refine ⟨?_⟩
  rw [se17]
  try dsimp only [Ty.den] at *
  simp only [Fit, maxLen] at fx
  simp only [true_and, IntKind.wrap_i64, IntKind.wrap_u8, IntKind.wrap_u32, IntKind.wrap_u64, Sp.tmod_ite, Sp.tdiv_ite, setE, copyL, sliceL, zrow, List.length_append, List.length_cons, List.length_nil, List.length_set, List.length_replicate, List.length_take, List.length_drop, decide_eq_true_eq, decide_eq_false_iff_not, Bool.or_eq_true, Bool.and_eq_true, Bool.or_eq_false_iff, Bool.and_eq_false_iff, Bool.not_eq_true', Bool.not_eq_false', Bool.not_eq_true, Bool.not_eq_false, beq_iff_eq, beq_eq_false_iff_ne, bne_iff_ne, ne_eq, implies_true, and_true, true_and] at *
  all_goals ((repeat' (first | exact trivial | apply And.intro | intro _)) <;> first | trivial | omega)
theorem ok17 : CtOk Try.prog gdS 17 ct17 :=
  fn_okU (ctxOkF gokGmT2 []) rfl Try.func17 (p := (Ty.pair ty46 (Ty.pair ty3 (Ty.pair ty3 ty3)))) (psh := [some 8, none, none, none]) (r := ty3) (rsh := (Rsh.one (none))) (pre := none) (fresh := none) (F := Sp.F17) (L := noL) (c := bodyOf Try.f17) (dflt := Ty.dflt ty3) rfl (no_loops)
    (safe_no @sa17) va17
/-! overlayref14.Move -/
end Go.Proofs.Ytkfhampdellhoaa.Sy
namespace Go.Proofs.Ytkfhampdellhoaa.Sp
open Go Go.RowKit Sy
def F18 (x : (Int × Int × Int × Int × Nat × Nat × Nat × List (Int × Int × Int × Int × Int × Int × Int × Int × Int)) × Int × Int × Int) : Int :=
  bif (((((((Sp.F29 x.1) != (0 : Int)) || (decide (x.2.1 < (0 : Int)))) || (decide (x.2.1 ≥ ((x.1.2.2.2.2.2.2.2).length : Int)))) || (decide (x.2.2.2 < (0 : Int)))) || (decide (x.2.2.2 ≥ x.1.1))) || (decide (x.2.2.1 < x.1.2.2.2.1))) then
    (0 : Int)
  else
    bif (decide ((Sp.nthT x.1.2.2.2.2.2.2.2 x.2.1).2.2.2.2.2.2.2.2 > x.2.2.2)) then
      (1 : Int)
    else
      bif (decide ((Sp.nthT x.1.2.2.2.2.2.2.2 x.2.1).2.2.2.2.2.2.2.2 < x.2.2.2)) then
        (2 : Int)
      else
        (0 : Int)
end Go.Proofs.Ytkfhampdellhoaa.Sp
namespace Go.Proofs.Ytkfhampdellhoaa.Sy
def ct18 : Ct := { p := (Ty.pair ty46 (Ty.pair ty3 (Ty.pair ty3 ty3))), psh := [some 8, none, none, none], r := ty3, rsh := (Rsh.one (none)), pre := none, fresh := none, F := Sp.F18 }
theorem va18 (x : (Ty.pair ty46 (Ty.pair ty3 (Ty.pair ty3 ty3))).den) : ((evFn (ctxG GmT2) Try.f18 (Ty.pair ty46 (Ty.pair ty3 (Ty.pair ty3 ty3))) [some 8, none, none, none] (Rsh.one (none)) none ty3 noL x)).val (fun y => y) (Ty.dflt ty3) = Sp.F18 x := by kernel_rfl
theorem se18 (x : (Ty.pair ty46 (Ty.pair ty3 (Ty.pair ty3 ty3))).den) : ((evFn (ctxG GmT2) Try.f18 (Ty.pair ty46 (Ty.pair ty3 (Ty.pair ty3 ty3))) [some 8, none, none, none] (Rsh.one (none)) none ty3 noL x)).safe = ((((((((((Sp.F29 x.1) != (0 : Int)) || (decide (x.2.1 < (0 : Int)))) || (decide (x.2.1 ≥ ((x.1.2.2.2.2.2.2.2).length : Int)))) || (decide (x.2.2.2 < (0 : Int)))) || (decide (x.2.2.2 ≥ x.1.1))) || (decide (x.2.2.1 < x.1.2.2.2.1))) = true → True) ∧ ((((((((Sp.F29 x.1) != (0 : Int)) || (decide (x.2.1 < (0 : Int)))) || (decide (x.2.1 ≥ ((x.1.2.2.2.2.2.2.2).length : Int)))) || (decide (x.2.2.2 < (0 : Int)))) || (decide (x.2.2.2 ≥ x.1.1))) || (decide (x.2.2.1 < x.1.2.2.2.1))) = false → ((0 ≤ x.2.1 ∧ x.2.1 < ((x.1.2.2.2.2.2.2.2).length : Int)) ∧ (((decide ((Sp.nthT x.1.2.2.2.2.2.2.2 x.2.1).2.2.2.2.2.2.2.2 > x.2.2.2)) = true → True) ∧ ((decide ((Sp.nthT x.1.2.2.2.2.2.2.2 x.2.1).2.2.2.2.2.2.2.2 > x.2.2.2)) = false → (((decide ((Sp.nthT x.1.2.2.2.2.2.2.2 x.2.1).2.2.2.2.2.2.2.2 < x.2.2.2)) = true → True) ∧ ((decide ((Sp.nthT x.1.2.2.2.2.2.2.2 x.2.1).2.2.2.2.2.2.2.2 < x.2.2.2)) = false → True)))))))) := by kernel_rfl
theorem sa18 (x : (Ty.pair ty46 (Ty.pair ty3 (Ty.pair ty3 ty3))).den) (fx : Fit (Ty.pair ty46 (Ty.pair ty3 (Ty.pair ty3 ty3))) x) : SafeW ((evFn (ctxG GmT2) Try.f18 (Ty.pair ty46 (Ty.pair ty3 (Ty.pair ty3 ty3))) [some 8, none, none, none] (Rsh.one (none)) none ty3 noL x)) := by
  refine ⟨?_⟩
  rw [se18]
  try dsimp only [Ty.den] at *
  simp only [Fit, maxLen] at fx
  simp only [true_and, IntKind.wrap_i64, IntKind.wrap_u8, IntKind.wrap_u32, IntKind.wrap_u64, Sp.tmod_ite, Sp.tdiv_ite, setE, copyL, sliceL, zrow, List.length_append, List.length_cons, List.length_nil, List.length_set, List.length_replicate, List.length_take, List.length_drop, decide_eq_true_eq, decide_eq_false_iff_not, Bool.or_eq_true, Bool.and_eq_true, Bool.or_eq_false_iff, Bool.and_eq_false_iff, Bool.not_eq_true', Bool.not_eq_false', Bool.not_eq_true, Bool.not_eq_false, beq_iff_eq, beq_eq_false_iff_ne, bne_iff_ne, ne_eq, implies_true, and_true, true_and] at *
  all_goals ((repeat' (first | exact trivial | apply And.intro | intro _)) <;> first | trivial | omega)
theorem ok18 : CtOk Try.prog gdS 18 ct18 :=
  fn_okU (ctxOkF gokGmT2 []) rfl Try.func18 (p := (Ty.pair ty46 (Ty.pair ty3 (Ty.pair ty3 ty3)))) (psh := [some 8, none, none, none]) (r := ty3) (rsh := (Rsh.one (none))) (pre := none) (fresh := none) (F := Sp.F18) (L := noL) (c := bodyOf Try.f18) (dflt := Ty.dflt ty3) rfl (no_loops)
    (safe_no @sa18) va18
def GmP0 : List (Nat × Ct) := (19, ct19) :: (17, ct17) :: (18, ct18) :: GmT2
theorem gokGmP0 : GOk GmP0 := gok_cons ok19 ⟨_, Try.func19, by kernel_rfl, by kernel_rfl⟩ (gok_cons ok17 ⟨_, Try.func17, by kernel_rfl, by kernel_rfl⟩ (gok_cons ok18 ⟨_, Try.func18, by kernel_rfl, by kernel_rfl⟩ (gokGmT2)))
end Go.Proofs.Ytkfhampdellhoaa.Sy
