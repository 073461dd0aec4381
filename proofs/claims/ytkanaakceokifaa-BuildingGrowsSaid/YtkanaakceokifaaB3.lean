/- Contracts of functions, by the evaluator (own program gen.py): overlaylaw01.BuildingBounds. -/
import Derived.Test.YtkanaakceokifaaB2
set_option linter.unusedVariables false
set_option linter.unusedSimpArgs false
set_option maxRecDepth 100000
namespace Go.Proofs.Ytkanaakceokifaa.Sy
open Go Go.RowKit Sp
/-! overlaylaw01.BuildingBounds -/
end Go.Proofs.Ytkanaakceokifaa.Sy
namespace Go.Proofs.Ytkanaakceokifaa.Sp
open Go Go.RowKit Sy
def in4_4 (k : (Int × Int × Int × Int × Nat × Nat × Nat × List (Int × Int × Int × Int × Int × Int × Int × Int × Int))) (x : (Int)) : Prop := (-1 : Int) ≤ x ∧ k.2.2.2.2.2.2.2.length ≤ 20
def mu4_4 (k : (Int × Int × Int × Int × Nat × Nat × Nat × List (Int × Int × Int × Int × Int × Int × Int × Int × Int))) (x : (Int)) : Nat := (((k.2.2.2.2.2.2.2).length : Int) - x + 1).toNat
def st4_4 (k : (Int × Int × Int × Int × Nat × Nat × Nat × List (Int × Int × Int × Int × Int × Int × Int × Int × Int))) (x : (Int)) : BOut (Int × Int × Int × Int × Nat × Nat × Nat × List (Int × Int × Int × Int × Int × Int × Int × Int × Int)) (Int) (Bool) :=
  bif (decide (x ≤ ((k.2.2.2.2.2.2.2).length : Int))) then
    (bif (((Sp.F16 (k, x)) != (Sp.F17 (k, x))) || (((decide (x ≥ (0 : Int))) && (decide (x < ((k.2.2.2.2.2.2.2).length : Int)))) && ((Sp.F18 (Sp.nthT k.2.2.2.2.2.2.2 x)) != (Sp.F19 (Sp.nthT k.2.2.2.2.2.2.2 x))))) then
      BOut.ret false
    else
      bif (((((Sp.F13 k) == (0 : Int)) && (decide (x ≥ (0 : Int)))) && (decide (x < ((k.2.2.2.2.2.2.2).length : Int)))) && ((decide ((Sp.F20 k) ≤ (Sp.F16 (k, x)))) || (decide ((Sp.F20 k) ≤ (Sp.nthT k.2.2.2.2.2.2.2 x).1)))) then
        BOut.ret false
      else
        BOut.next k (IntKind.i64.wrap (x + (1 : Int))))
  else
    BOut.brk k x
def G4_4 (k : (Int × Int × Int × Int × Nat × Nat × Nat × List (Int × Int × Int × Int × Int × Int × Int × Int × Int))) (x : (Int)) : (Int) := endOf st4_4 k (Nat.succ (mu4_4 k x)) x
def R4_4 (k : (Int × Int × Int × Int × Nat × Nat × Nat × List (Int × Int × Int × Int × Int × Int × Int × Int × Int))) (x : (Int)) : Option (Bool) := retOf st4_4 k (Nat.succ (mu4_4 k x)) x
end Go.Proofs.Ytkanaakceokifaa.Sp
namespace Go.Proofs.Ytkanaakceokifaa.Sy
def LS4_4 : LS ty4.den := mkLS ty25 ty3  [] [(2, 8)] [(5, none)] [] [] [] [(2, 2)] 0 true Sp.in4_4 Sp.st4_4 Sp.mu4_4
theorem va4_4 (k : ty25.den) (x : ty3.den) : ((evCode (ctxG GmB2) (lookL []) (bodyAt (bodyOf Try.f4) [0]) (tmpl LS4_4 (enc ty25 k) (enc ty3 x)) (evRound LS4_4 (evRet (ctxG GmB2) Try.f4 (Rsh.one (none)) none ty4 .ret)))).val BOut.ret (BOut.brk (Ty.dflt ty25) (Ty.dflt ty3)) = Sp.st4_4 k x := by kernel_rfl
theorem se4_4 (k : ty25.den) (x : ty3.den) : ((evCode (ctxG GmB2) (lookL []) (bodyAt (bodyOf Try.f4) [0]) (tmpl LS4_4 (enc ty25 k) (enc ty3 x)) (evRound LS4_4 (evRet (ctxG GmB2) Try.f4 (Rsh.one (none)) none ty4 .ret)))).safe = ((((decide (x ≤ ((k.2.2.2.2.2.2.2).length : Int))) = true → (((((Sp.F16 (k, x)) != (Sp.F17 (k, x))) = false → (((decide (x ≥ (0 : Int))) && (decide (x < ((k.2.2.2.2.2.2.2).length : Int)))) = true → 0 ≤ x ∧ x < ((k.2.2.2.2.2.2.2).length : Int)))) ∧ (((((Sp.F16 (k, x)) != (Sp.F17 (k, x))) = false → (((decide (x ≥ (0 : Int))) && (decide (x < ((k.2.2.2.2.2.2.2).length : Int)))) = true → 0 ≤ x ∧ x < ((k.2.2.2.2.2.2.2).length : Int)))) ∧ (((((Sp.F16 (k, x)) != (Sp.F17 (k, x))) || (((decide (x ≥ (0 : Int))) && (decide (x < ((k.2.2.2.2.2.2.2).length : Int)))) && ((Sp.F18 (Sp.nthT k.2.2.2.2.2.2.2 x)) != (Sp.F19 (Sp.nthT k.2.2.2.2.2.2.2 x))))) = true → True) ∧ ((((Sp.F16 (k, x)) != (Sp.F17 (k, x))) || (((decide (x ≥ (0 : Int))) && (decide (x < ((k.2.2.2.2.2.2.2).length : Int)))) && ((Sp.F18 (Sp.nthT k.2.2.2.2.2.2.2 x)) != (Sp.F19 (Sp.nthT k.2.2.2.2.2.2.2 x))))) = false → (((((((Sp.F13 k) == (0 : Int)) && (decide (x ≥ (0 : Int)))) && (decide (x < ((k.2.2.2.2.2.2.2).length : Int)))) = true → ((decide ((Sp.F20 k) ≤ (Sp.F16 (k, x)))) = false → 0 ≤ x ∧ x < ((k.2.2.2.2.2.2.2).length : Int)))) ∧ (((((((Sp.F13 k) == (0 : Int)) && (decide (x ≥ (0 : Int)))) && (decide (x < ((k.2.2.2.2.2.2.2).length : Int)))) && ((decide ((Sp.F20 k) ≤ (Sp.F16 (k, x)))) || (decide ((Sp.F20 k) ≤ (Sp.nthT k.2.2.2.2.2.2.2 x).1)))) = true → True) ∧ ((((((Sp.F13 k) == (0 : Int)) && (decide (x ≥ (0 : Int)))) && (decide (x < ((k.2.2.2.2.2.2.2).length : Int)))) && ((decide ((Sp.F20 k) ≤ (Sp.F16 (k, x)))) || (decide ((Sp.F20 k) ≤ (Sp.nthT k.2.2.2.2.2.2.2 x).1)))) = false → True)))))))) ∧ ((decide (x ≤ ((k.2.2.2.2.2.2.2).length : Int))) = false → True))) := by kernel_rfl
theorem sa4_4 (k : ty25.den) (x : ty3.den) (fk : Fit ty25 k) (fx : Fit ty3 x) (h : Sp.in4_4 k x) : SafeW ((evCode (ctxG GmB2) (lookL []) (bodyAt (bodyOf Try.f4) [0]) (tmpl LS4_4 (enc ty25 k) (enc ty3 x)) (evRound LS4_4 (evRet (ctxG GmB2) Try.f4 (Rsh.one (none)) none ty4 .ret)))) := by
  refine ⟨?_⟩
  rw [se4_4]
  try dsimp only [Ty.den] at *
  simp only [Sp.in4_4, Fit, maxLen] at h fk fx
  simp only [IntKind.wrap_i64, IntKind.wrap_u8, IntKind.wrap_u32, IntKind.wrap_u64, Sp.tmod_ite, Sp.tdiv_ite, setE, copyL, sliceL, zrow, List.length_append, List.length_cons, List.length_nil, List.length_set, List.length_replicate, List.length_take, List.length_drop, decide_eq_true_eq, decide_eq_false_iff_not, Bool.or_eq_true, Bool.and_eq_true, Bool.or_eq_false_iff, Bool.and_eq_false_iff, Bool.not_eq_true', Bool.not_eq_false', Bool.not_eq_true, Bool.not_eq_false, beq_iff_eq, beq_eq_false_iff_ne, bne_iff_ne, ne_eq, implies_true, and_true, true_and] at *
  all_goals ((repeat' (first | exact trivial | apply And.intro | intro _)) <;> first | trivial | omega)
theorem so4_4 (k : ty25.den) (x : ty3.den) (fk : Fit ty25 k) (h : Sp.in4_4 k x) : StepOk true Sp.in4_4 Sp.mu4_4 k x (Sp.st4_4 k x) := by
  try dsimp only [Ty.den] at *
  simp only [Sp.in4_4, Fit, maxLen] at h fk
  simp only [Sp.st4_4, Sp.optR, Bool.cond_eq_ite]
  (repeat' split) <;> (first | exact rfl | (refine ⟨rfl, ?_, ?_⟩ <;> simp only [Sp.in4_4, Sp.mu4_4, IntKind.wrap_i64, IntKind.wrap_u8, IntKind.wrap_u32, IntKind.wrap_u64, Sp.tmod_ite, Sp.tdiv_ite, setE, copyL, sliceL, zrow, List.length_append, List.length_cons, List.length_nil, List.length_set, List.length_replicate, List.length_take, List.length_drop, decide_eq_true_eq, decide_eq_false_iff_not, Bool.or_eq_true, Bool.and_eq_true, Bool.or_eq_false_iff, Bool.and_eq_false_iff, Bool.not_eq_true', Bool.not_eq_false', Bool.not_eq_true, Bool.not_eq_false, beq_iff_eq, beq_eq_false_iff_ne, bne_iff_ne, ne_eq] at * <;> omega))
theorem lo4_4 : LoopOk Try.prog gdS (RetAt Try.prog Try.f4 (Rsh.one (none)) none ty4) (bodyAt (bodyOf Try.f4) [0]) LS4_4 :=
  loop_run (ctxOkF gokGmB2 []) (L := lookL []) (loops_of (l := []) (by kernel_rfl) (loops_nil)) sa4_4 va4_4 so4_4
end Go.Proofs.Ytkanaakceokifaa.Sy
namespace Go.Proofs.Ytkanaakceokifaa.Sp
open Go Go.RowKit Sy
def F4 (x : (Int × Int × Int × Int × Nat × Nat × Nat × List (Int × Int × Int × Int × Int × Int × Int × Int × Int)) × Int) : Bool :=
  bif (!(Sp.F15 x.1)) then
    (Sp.F14 ())
  else
    Sp.optR (Sp.R4_4 x.1 (-1 : Int)) (fun y => y)
    (((((Sp.F16 x) == (Sp.F17 x)) && ((Sp.F20 x.1) == (Sp.F21 x.1))) && (Sp.F14 ())))
end Go.Proofs.Ytkanaakceokifaa.Sp
namespace Go.Proofs.Ytkanaakceokifaa.Sy
def ct4 : Ct := { p := (Ty.pair ty25 ty3), psh := [some 8, none], r := ty4, rsh := (Rsh.one (none)), pre := none, fresh := none, F := Sp.F4 }
theorem va4 (x : (Ty.pair ty25 ty3).den) : ((evFn (ctxG GmB2) Try.f4 (Ty.pair ty25 ty3) [some 8, none] (Rsh.one (none)) none ty4 (lookL [(4, LS4_4)]) x)).val (fun y => y) (Ty.dflt ty4) = Sp.F4 x := by kernel_rfl
theorem se4 (x : (Ty.pair ty25 ty3).den) : ((evFn (ctxG GmB2) Try.f4 (Ty.pair ty25 ty3) [some 8, none] (Rsh.one (none)) none ty4 (lookL [(4, LS4_4)]) x)).safe = ((((!(Sp.F15 x.1)) = true → True) ∧ ((!(Sp.F15 x.1)) = false → ((Sp.in4_4 x.1 (-1 : Int)) ∧ ((Sp.R4_4 x.1 (-1 : Int)) = none → True))))) := by kernel_rfl
theorem sa4 (x : (Ty.pair ty25 ty3).den) (fx : Fit (Ty.pair ty25 ty3) x) : SafeW ((evFn (ctxG GmB2) Try.f4 (Ty.pair ty25 ty3) [some 8, none] (Rsh.one (none)) none ty4 (lookL [(4, LS4_4)]) x)) := by
  refine ⟨?_⟩
  rw [se4]
  refine ⟨fun _ => trivial, fun h => ⟨?_, fun _ => trivial⟩⟩
  have hs := Sp.small_len (by simpa using h)
  simp only [Sp.in4_4]
  exact ⟨by omega, hs⟩
theorem ok4 : CtOk Try.prog gdS 4 ct4 :=
  fn_okU (ctxOkF gokGmB2 []) rfl Try.func4 (p := (Ty.pair ty25 ty3)) (psh := [some 8, none]) (r := ty4) (rsh := (Rsh.one (none))) (pre := none) (fresh := none) (F := Sp.F4) (L := (lookL [(4, LS4_4)])) (c := bodyOf Try.f4) (dflt := Ty.dflt ty4) rfl (loops_of (l := [bodyAt (bodyOf Try.f4) [0]]) (by kernel_rfl) (loops_cons (s0 := LS4_4) (by kernel_rfl) lo4_4 (loops_nil)))
    (safe_no @sa4) va4
def GmB3 : List (Nat × Ct) := (4, ct4) :: GmB2
theorem gokGmB3 : GOk GmB3 := gok_cons ok4 ⟨_, Try.func4, by kernel_rfl, by kernel_rfl⟩ (gokGmB2)
end Go.Proofs.Ytkanaakceokifaa.Sy
