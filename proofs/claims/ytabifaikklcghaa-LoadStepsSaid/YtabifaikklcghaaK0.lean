/- Contracts of functions, by the evaluator (own program gen.py): overlaylaw06.building, math.NaN, math.Inf, math.Copysign, load.class, overlayref06.Same, math.IsNaN, overlayref06.Class. -/
import Derived.Test.YtabifaikklcghaaLd
set_option linter.unusedVariables false
set_option linter.unusedSimpArgs false
set_option maxRecDepth 100000
namespace Go.Proofs.Ytabifaikklcghaa.Sy
open Go Go.RowKit Sp
/-! overlaylaw06.building -/
end Go.Proofs.Ytabifaikklcghaa.Sy
namespace Go.Proofs.Ytabifaikklcghaa.Sp
open Go Go.RowKit Sy
def F23 (x : Nat × Nat × Nat) : Int × Int × Int × Int × Nat × Nat × Nat × List (Int × Int × Int × Int × Int × Int × Int × Int × Int) :=
  bif ((Sp.F40 ((Sp.F35 ((5 : Int), (2 : Int))).1, (Sp.F35 ((5 : Int), (2 : Int))).2.1, (Sp.F35 ((5 : Int), (2 : Int))).2.2.1, (Sp.F35 ((5 : Int), (2 : Int))).2.2.2.1, x.1, x.2.1, x.2.2, (Sp.F35 ((5 : Int), (2 : Int))).2.2.2.2.2.2.2)) != (0 : Int)) then
    ((Sp.F35 ((5 : Int), (2 : Int))).1, (Sp.F35 ((5 : Int), (2 : Int))).2.1, (Sp.F35 ((5 : Int), (2 : Int))).2.2.1, (Sp.F35 ((5 : Int), (2 : Int))).2.2.2.1, (4593671619917905920 : Nat), (4604930618986332160 : Nat), (4607182418800017408 : Nat), (Sp.F35 ((5 : Int), (2 : Int))).2.2.2.2.2.2.2)
  else
    ((Sp.F35 ((5 : Int), (2 : Int))).1, (Sp.F35 ((5 : Int), (2 : Int))).2.1, (Sp.F35 ((5 : Int), (2 : Int))).2.2.1, (Sp.F35 ((5 : Int), (2 : Int))).2.2.2.1, x.1, x.2.1, x.2.2, (Sp.F35 ((5 : Int), (2 : Int))).2.2.2.2.2.2.2)
end Go.Proofs.Ytabifaikklcghaa.Sp
namespace Go.Proofs.Ytabifaikklcghaa.Sy
def ct23 : Ct := { p := (Ty.pair ty25 (Ty.pair ty25 ty25)), psh := [none, none, none], r := ty28, rsh := (Rsh.one (some 8)), pre := none, fresh := (some 72), F := Sp.F23 }
theorem va23 (x : (Ty.pair ty25 (Ty.pair ty25 ty25)).den) : ((evFn (ctxG GmT2) Try.f23 (Ty.pair ty25 (Ty.pair ty25 ty25)) [none, none, none] (Rsh.one (some 8)) (some 72) ty28 noL x)).val (fun y => y) (Ty.dflt ty28) = Sp.F23 x := by kernel_rfl
theorem se23 (x : (Ty.pair ty25 (Ty.pair ty25 ty25)).den) : ((evFn (ctxG GmT2) Try.f23 (Ty.pair ty25 (Ty.pair ty25 ty25)) [none, none, none] (Rsh.one (some 8)) (some 72) ty28 noL x)).safe = (((Sp.pre35 ((5 : Int), (2 : Int))) ∧ ((((Sp.F40 ((Sp.F35 ((5 : Int), (2 : Int))).1, (Sp.F35 ((5 : Int), (2 : Int))).2.1, (Sp.F35 ((5 : Int), (2 : Int))).2.2.1, (Sp.F35 ((5 : Int), (2 : Int))).2.2.2.1, x.1, x.2.1, x.2.2, (Sp.F35 ((5 : Int), (2 : Int))).2.2.2.2.2.2.2)) != (0 : Int)) = true → True) ∧ (((Sp.F40 ((Sp.F35 ((5 : Int), (2 : Int))).1, (Sp.F35 ((5 : Int), (2 : Int))).2.1, (Sp.F35 ((5 : Int), (2 : Int))).2.2.1, (Sp.F35 ((5 : Int), (2 : Int))).2.2.2.1, x.1, x.2.1, x.2.2, (Sp.F35 ((5 : Int), (2 : Int))).2.2.2.2.2.2.2)) != (0 : Int)) = false → True)))) := by kernel_rfl
theorem sa23 (x : (Ty.pair ty25 (Ty.pair ty25 ty25)).den) (fx : Fit (Ty.pair ty25 (Ty.pair ty25 ty25)) x) : SafeW ((evFn (ctxG GmT2) Try.f23 (Ty.pair ty25 (Ty.pair ty25 ty25)) [none, none, none] (Rsh.one (some 8)) (some 72) ty28 noL x)) := by
  refine ⟨?_⟩
  rw [se23]
  try dsimp only [Ty.den] at *
  simp only [Fit, maxLen] at fx
  simp only [Sp.pre35, IntKind.wrap_i64, IntKind.wrap_u8, IntKind.wrap_u32, IntKind.wrap_u64, Sp.tmod_lit, Sp.tdiv_lit, bne_eq_false_iff_eq, Int.natCast_inj, setE, copyL, sliceL, zrow, List.length_append, List.length_cons, List.length_nil, List.length_set, List.length_replicate, List.length_take, List.length_drop, decide_eq_true_eq, decide_eq_false_iff_not, Bool.or_eq_true, Bool.and_eq_true, Bool.or_eq_false_iff, Bool.and_eq_false_iff, Bool.not_eq_true', Bool.not_eq_false', Bool.not_eq_true, Bool.not_eq_false, beq_iff_eq, beq_eq_false_iff_ne, bne_iff_ne, ne_eq, implies_true, and_true, true_and] at *
  all_goals ((repeat' (first | exact trivial | apply And.intro | intro _)) <;> first | trivial | omega | exact Sp.tmod_nn (by omega) | exact Sp.tmod_lt (by omega) (by omega))
theorem ok23 : CtOk Try.prog gdS 23 ct23 :=
  fn_okU (ctxOkF gokGmT2 []) rfl Try.func23 (p := (Ty.pair ty25 (Ty.pair ty25 ty25))) (psh := [none, none, none]) (r := ty28) (rsh := (Rsh.one (some 8))) (pre := none) (fresh := (some 72)) (F := Sp.F23) (L := noL) (c := bodyOf Try.f23) (dflt := Ty.dflt ty28) rfl (no_loops)
    (safe_no @sa23) va23
/-! math.NaN -/
end Go.Proofs.Ytabifaikklcghaa.Sy
namespace Go.Proofs.Ytabifaikklcghaa.Sp
open Go Go.RowKit Sy
def F43 (x : Unit) : Nat :=
  (Int.toNat (9221120237041090561 : Int))
end Go.Proofs.Ytabifaikklcghaa.Sp
namespace Go.Proofs.Ytabifaikklcghaa.Sy
def ct43 : Ct := { p := Ty.unit, psh := [], r := ty25, rsh := (Rsh.one (none)), pre := none, fresh := none, F := Sp.F43 }
theorem va43 (x : Ty.unit.den) : ((evFn (ctxG GmT2) Try.f43 Ty.unit [] (Rsh.one (none)) none ty25 noL x)).val (fun y => y) (Ty.dflt ty25) = Sp.F43 x := by kernel_rfl
theorem se43 (x : Ty.unit.den) : ((evFn (ctxG GmT2) Try.f43 Ty.unit [] (Rsh.one (none)) none ty25 noL x)).safe = (True) := by kernel_rfl
theorem sa43 (x : Ty.unit.den) (fx : Fit Ty.unit x) : SafeW ((evFn (ctxG GmT2) Try.f43 Ty.unit [] (Rsh.one (none)) none ty25 noL x)) := by
  refine ⟨?_⟩
  rw [se43]
  trivial
theorem ok43 : CtOk Try.prog gdS 43 ct43 :=
  fn_okU (ctxOkF gokGmT2 []) rfl Try.func43 (p := Ty.unit) (psh := []) (r := ty25) (rsh := (Rsh.one (none))) (pre := none) (fresh := none) (F := Sp.F43) (L := noL) (c := bodyOf Try.f43) (dflt := Ty.dflt ty25) rfl (no_loops)
    (safe_no @sa43) va43
/-! math.Inf -/
end Go.Proofs.Ytabifaikklcghaa.Sy
namespace Go.Proofs.Ytabifaikklcghaa.Sp
open Go Go.RowKit Sy
def F44 (x : Int) : Nat :=
  bif (decide (x ≥ (0 : Int))) then
    (Int.toNat (9218868437227405312 : Int))
  else
    (Int.toNat (18442240474082181120 : Int))
end Go.Proofs.Ytabifaikklcghaa.Sp
namespace Go.Proofs.Ytabifaikklcghaa.Sy
def ct44 : Ct := { p := ty3, psh := [none], r := ty25, rsh := (Rsh.one (none)), pre := none, fresh := none, F := Sp.F44 }
theorem va44 (x : ty3.den) : ((evFn (ctxG GmT2) Try.f44 ty3 [none] (Rsh.one (none)) none ty25 noL x)).val (fun y => y) (Ty.dflt ty25) = Sp.F44 x := by kernel_rfl
theorem se44 (x : ty3.den) : ((evFn (ctxG GmT2) Try.f44 ty3 [none] (Rsh.one (none)) none ty25 noL x)).safe = ((((decide (x ≥ (0 : Int))) = true → True) ∧ ((decide (x ≥ (0 : Int))) = false → True))) := by kernel_rfl
theorem sa44 (x : ty3.den) (fx : Fit ty3 x) : SafeW ((evFn (ctxG GmT2) Try.f44 ty3 [none] (Rsh.one (none)) none ty25 noL x)) := by
  refine ⟨?_⟩
  rw [se44]
  try dsimp only [Ty.den] at *
  simp only [Fit, maxLen] at fx
  simp only [true_and, IntKind.wrap_i64, IntKind.wrap_u8, IntKind.wrap_u32, IntKind.wrap_u64, Sp.tmod_lit, Sp.tdiv_lit, bne_eq_false_iff_eq, Int.natCast_inj, setE, copyL, sliceL, zrow, List.length_append, List.length_cons, List.length_nil, List.length_set, List.length_replicate, List.length_take, List.length_drop, decide_eq_true_eq, decide_eq_false_iff_not, Bool.or_eq_true, Bool.and_eq_true, Bool.or_eq_false_iff, Bool.and_eq_false_iff, Bool.not_eq_true', Bool.not_eq_false', Bool.not_eq_true, Bool.not_eq_false, beq_iff_eq, beq_eq_false_iff_ne, bne_iff_ne, ne_eq, implies_true, and_true, true_and] at *
  all_goals ((repeat' (first | exact trivial | apply And.intro | intro _)) <;> first | trivial | omega | exact Sp.tmod_nn (by omega) | exact Sp.tmod_lt (by omega) (by omega))
theorem ok44 : CtOk Try.prog gdS 44 ct44 :=
  fn_okU (ctxOkF gokGmT2 []) rfl Try.func44 (p := ty3) (psh := [none]) (r := ty25) (rsh := (Rsh.one (none))) (pre := none) (fresh := none) (F := Sp.F44) (L := noL) (c := bodyOf Try.f44) (dflt := Ty.dflt ty25) rfl (no_loops)
    (safe_no @sa44) va44
/-! math.Copysign -/
end Go.Proofs.Ytabifaikklcghaa.Sy
namespace Go.Proofs.Ytabifaikklcghaa.Sp
open Go Go.RowKit Sy
def F45 (x : Nat × Nat) : Nat :=
  (Int.toNat (IntKind.u64.wrap ((BitVec.ofInt IntKind.u64.bits (IntKind.u64.wrap ((BitVec.ofInt IntKind.u64.bits ((x.1 : Nat) : Int) &&& ~~~ BitVec.ofInt IntKind.u64.bits (9223372036854775808 : Int)).toNat : Int)) ||| BitVec.ofInt IntKind.u64.bits (IntKind.u64.wrap ((BitVec.ofInt IntKind.u64.bits ((x.2 : Nat) : Int) &&& BitVec.ofInt IntKind.u64.bits (9223372036854775808 : Int)).toNat : Int))).toNat : Int)))
end Go.Proofs.Ytabifaikklcghaa.Sp
namespace Go.Proofs.Ytabifaikklcghaa.Sy
def ct45 : Ct := { p := (Ty.pair ty25 ty25), psh := [none, none], r := ty25, rsh := (Rsh.one (none)), pre := none, fresh := none, F := Sp.F45 }
theorem va45 (x : (Ty.pair ty25 ty25).den) : ((evFn (ctxG GmT2) Try.f45 (Ty.pair ty25 ty25) [none, none] (Rsh.one (none)) none ty25 noL x)).val (fun y => y) (Ty.dflt ty25) = Sp.F45 x := by kernel_rfl
theorem se45 (x : (Ty.pair ty25 ty25).den) : ((evFn (ctxG GmT2) Try.f45 (Ty.pair ty25 ty25) [none, none] (Rsh.one (none)) none ty25 noL x)).safe = (True) := by kernel_rfl
theorem sa45 (x : (Ty.pair ty25 ty25).den) (fx : Fit (Ty.pair ty25 ty25) x) : SafeW ((evFn (ctxG GmT2) Try.f45 (Ty.pair ty25 ty25) [none, none] (Rsh.one (none)) none ty25 noL x)) := by
  refine ⟨?_⟩
  rw [se45]
  trivial
theorem ok45 : CtOk Try.prog gdS 45 ct45 :=
  fn_okU (ctxOkF gokGmT2 []) rfl Try.func45 (p := (Ty.pair ty25 ty25)) (psh := [none, none]) (r := ty25) (rsh := (Rsh.one (none))) (pre := none) (fresh := none) (F := Sp.F45) (L := noL) (c := bodyOf Try.f45) (dflt := Ty.dflt ty25) rfl (no_loops)
    (safe_no @sa45) va45
/-! load.class -/
end Go.Proofs.Ytabifaikklcghaa.Sy
namespace Go.Proofs.Ytabifaikklcghaa.Sp
open Go Go.RowKit Sy
def F46 (x : (Int × Int × Int × Int × Nat × Nat × Nat × List (Int × Int × Int × Int × Int × Int × Int × Int × Int)) × Nat) : Int :=
  bif (!((FloatKind.f64.format.order x.2 (0 : Nat)) == some Ordering.gt || (FloatKind.f64.format.order x.2 (0 : Nat)) == some Ordering.eq)) then
    (0 : Int)
  else
    bif ((FloatKind.f64.format.order x.2 x.1.2.2.2.2.1) == some Ordering.lt) then
      (1 : Int)
    else
      bif ((FloatKind.f64.format.order x.2 x.1.2.2.2.2.2.1) == some Ordering.lt) then
        (2 : Int)
      else
        bif ((FloatKind.f64.format.order x.2 x.1.2.2.2.2.2.2.1) == some Ordering.lt) then
          (3 : Int)
        else
          (4 : Int)
end Go.Proofs.Ytabifaikklcghaa.Sp
namespace Go.Proofs.Ytabifaikklcghaa.Sy
def ct46 : Ct := { p := (Ty.pair ty28 ty25), psh := [some 8, none], r := ty3, rsh := (Rsh.one (none)), pre := none, fresh := none, F := Sp.F46 }
theorem va46 (x : (Ty.pair ty28 ty25).den) : ((evFn (ctxG GmT2) Try.f46 (Ty.pair ty28 ty25) [some 8, none] (Rsh.one (none)) none ty3 noL x)).val (fun y => y) (Ty.dflt ty3) = Sp.F46 x := by kernel_rfl
theorem se46 (x : (Ty.pair ty28 ty25).den) : ((evFn (ctxG GmT2) Try.f46 (Ty.pair ty28 ty25) [some 8, none] (Rsh.one (none)) none ty3 noL x)).safe = ((((!((FloatKind.f64.format.order x.2 (0 : Nat)) == some Ordering.gt || (FloatKind.f64.format.order x.2 (0 : Nat)) == some Ordering.eq)) = true → True) ∧ ((!((FloatKind.f64.format.order x.2 (0 : Nat)) == some Ordering.gt || (FloatKind.f64.format.order x.2 (0 : Nat)) == some Ordering.eq)) = false → ((((FloatKind.f64.format.order x.2 x.1.2.2.2.2.1) == some Ordering.lt) = true → True) ∧ (((FloatKind.f64.format.order x.2 x.1.2.2.2.2.1) == some Ordering.lt) = false → ((((FloatKind.f64.format.order x.2 x.1.2.2.2.2.2.1) == some Ordering.lt) = true → True) ∧ (((FloatKind.f64.format.order x.2 x.1.2.2.2.2.2.1) == some Ordering.lt) = false → ((((FloatKind.f64.format.order x.2 x.1.2.2.2.2.2.2.1) == some Ordering.lt) = true → True) ∧ (((FloatKind.f64.format.order x.2 x.1.2.2.2.2.2.2.1) == some Ordering.lt) = false → True))))))))) := by kernel_rfl
theorem sa46 (x : (Ty.pair ty28 ty25).den) (fx : Fit (Ty.pair ty28 ty25) x) : SafeW ((evFn (ctxG GmT2) Try.f46 (Ty.pair ty28 ty25) [some 8, none] (Rsh.one (none)) none ty3 noL x)) := by
  refine ⟨?_⟩
  rw [se46]
  try dsimp only [Ty.den] at *
  simp only [Fit, maxLen] at fx
  simp only [true_and, IntKind.wrap_i64, IntKind.wrap_u8, IntKind.wrap_u32, IntKind.wrap_u64, Sp.tmod_lit, Sp.tdiv_lit, bne_eq_false_iff_eq, Int.natCast_inj, setE, copyL, sliceL, zrow, List.length_append, List.length_cons, List.length_nil, List.length_set, List.length_replicate, List.length_take, List.length_drop, decide_eq_true_eq, decide_eq_false_iff_not, Bool.or_eq_true, Bool.and_eq_true, Bool.or_eq_false_iff, Bool.and_eq_false_iff, Bool.not_eq_true', Bool.not_eq_false', Bool.not_eq_true, Bool.not_eq_false, beq_iff_eq, beq_eq_false_iff_ne, bne_iff_ne, ne_eq, implies_true, and_true, true_and] at *
  all_goals ((repeat' (first | exact trivial | apply And.intro | intro _)) <;> first | trivial | omega | exact Sp.tmod_nn (by omega) | exact Sp.tmod_lt (by omega) (by omega))
theorem ok46 : CtOk Try.prog gdS 46 ct46 :=
  fn_okU (ctxOkF gokGmT2 []) rfl Try.func46 (p := (Ty.pair ty28 ty25)) (psh := [some 8, none]) (r := ty3) (rsh := (Rsh.one (none))) (pre := none) (fresh := none) (F := Sp.F46) (L := noL) (c := bodyOf Try.f46) (dflt := Ty.dflt ty3) rfl (no_loops)
    (safe_no @sa46) va46
/-! overlayref06.Same -/
end Go.Proofs.Ytabifaikklcghaa.Sy
namespace Go.Proofs.Ytabifaikklcghaa.Sp
open Go Go.RowKit Sy
def in25_4 (k : ((List Int) × List Int)) (x : (Int)) : Prop := (0 : Int) ≤ x ∧ k.1.length = k.2.length
def mu25_4 (k : ((List Int) × List Int)) (x : (Int)) : Nat := (((k.1).length : Int) - x).toNat
def st25_4 (k : ((List Int) × List Int)) (x : (Int)) : BOut ((List Int) × List Int) (Int) (Bool) :=
  bif (decide (x < ((k.1).length : Int))) then
    (bif ((Sp.nthT k.1 x) != (Sp.nthT k.2 x)) then
      BOut.ret false
    else
      BOut.next k (IntKind.i64.wrap (x + (1 : Int))))
  else
    BOut.brk k x
def G25_4 (k : ((List Int) × List Int)) (x : (Int)) : (Int) := endOf st25_4 k (Nat.succ (mu25_4 k x)) x
def R25_4 (k : ((List Int) × List Int)) (x : (Int)) : Option (Bool) := retOf st25_4 k (Nat.succ (mu25_4 k x)) x
end Go.Proofs.Ytabifaikklcghaa.Sp
namespace Go.Proofs.Ytabifaikklcghaa.Sy
def LS25_4 : LS ty4.den := mkLS (Ty.pair ty47 ty47) ty3  [(0, none), (1, none)] [] [(5, none)] [] [] [] [] 0 true Sp.in25_4 Sp.st25_4 Sp.mu25_4
theorem va25_4 (k : (Ty.pair ty47 ty47).den) (x : ty3.den) : ((evCode (ctxG GmT2) (lookL []) (bodyAt (bodyOf Try.f25) [0]) (tmpl LS25_4 (enc (Ty.pair ty47 ty47) k) (enc ty3 x)) (evRound LS25_4 (evRet (ctxG GmT2) Try.f25 (Rsh.one (none)) none ty4 .ret)))).val BOut.ret (BOut.brk (Ty.dflt (Ty.pair ty47 ty47)) (Ty.dflt ty3)) = Sp.st25_4 k x := by kernel_rfl
theorem se25_4 (k : (Ty.pair ty47 ty47).den) (x : ty3.den) : ((evCode (ctxG GmT2) (lookL []) (bodyAt (bodyOf Try.f25) [0]) (tmpl LS25_4 (enc (Ty.pair ty47 ty47) k) (enc ty3 x)) (evRound LS25_4 (evRet (ctxG GmT2) Try.f25 (Rsh.one (none)) none ty4 .ret)))).safe = ((((decide (x < ((k.1).length : Int))) = true → ((0 ≤ x ∧ x < ((k.1).length : Int)) ∧ ((0 ≤ x ∧ x < ((k.2).length : Int)) ∧ ((((Sp.nthT k.1 x) != (Sp.nthT k.2 x)) = true → True) ∧ (((Sp.nthT k.1 x) != (Sp.nthT k.2 x)) = false → True))))) ∧ ((decide (x < ((k.1).length : Int))) = false → True))) := by kernel_rfl
set_option maxHeartbeats 4000000 in
theorem sa25_4 (k : (Ty.pair ty47 ty47).den) (x : ty3.den) (fk : Fit (Ty.pair ty47 ty47) k) (fx : Fit ty3 x) (h : Sp.in25_4 k x) : SafeW ((evCode (ctxG GmT2) (lookL []) (bodyAt (bodyOf Try.f25) [0]) (tmpl LS25_4 (enc (Ty.pair ty47 ty47) k) (enc ty3 x)) (evRound LS25_4 (evRet (ctxG GmT2) Try.f25 (Rsh.one (none)) none ty4 .ret)))) := by
  refine ⟨?_⟩
  rw [se25_4]
  try dsimp only [Ty.den] at *
  simp only [Sp.in25_4, Fit, maxLen] at h fk fx
  simp only [IntKind.wrap_i64, IntKind.wrap_u8, IntKind.wrap_u32, IntKind.wrap_u64, Sp.tmod_lit, Sp.tdiv_lit, bne_eq_false_iff_eq, Int.natCast_inj, setE, copyL, sliceL, zrow, List.length_append, List.length_cons, List.length_nil, List.length_set, List.length_replicate, List.length_take, List.length_drop, decide_eq_true_eq, decide_eq_false_iff_not, Bool.or_eq_true, Bool.and_eq_true, Bool.or_eq_false_iff, Bool.and_eq_false_iff, Bool.not_eq_true', Bool.not_eq_false', Bool.not_eq_true, Bool.not_eq_false, beq_iff_eq, beq_eq_false_iff_ne, bne_iff_ne, ne_eq, implies_true, and_true, true_and] at *
  all_goals ((repeat' (first | exact trivial | apply And.intro | intro _)) <;> first | trivial | omega | exact Sp.tmod_nn (by omega) | exact Sp.tmod_lt (by omega) (by omega))
set_option maxHeartbeats 4000000 in
theorem so25_4 (k : (Ty.pair ty47 ty47).den) (x : ty3.den) (fk : Fit (Ty.pair ty47 ty47) k) (h : Sp.in25_4 k x) : StepOk true Sp.in25_4 Sp.mu25_4 k x (Sp.st25_4 k x) := by
  try dsimp only [Ty.den] at *
  simp only [Sp.in25_4, Fit, maxLen] at h fk
  unfold Sp.st25_4
  (repeat' (first | exact rfl | (refine StepOk.cnd (fun hc => ?_) (fun hc => ?_) <;> (try simp only [IntKind.wrap_i64, IntKind.wrap_u8, IntKind.wrap_u32, IntKind.wrap_u64, bne_eq_false_iff_eq, Int.natCast_inj, setE, copyL, sliceL, zrow, List.length_append, List.length_cons, List.length_nil, List.length_set, List.length_replicate, List.length_take, List.length_drop, decide_eq_true_eq, decide_eq_false_iff_not, Bool.or_eq_true, Bool.and_eq_true, Bool.or_eq_false_iff, Bool.and_eq_false_iff, Bool.not_eq_true', Bool.not_eq_false', Bool.not_eq_true, Bool.not_eq_false, beq_iff_eq, beq_eq_false_iff_ne, bne_iff_ne, ne_eq] at hc)) | refine StepOk.opt (fun _ => ?_))) <;> (first | exact rfl | (refine ⟨rfl, ?_, ?_⟩ <;> simp only [Sp.in25_4, Sp.mu25_4, IntKind.wrap_i64, IntKind.wrap_u8, IntKind.wrap_u32, IntKind.wrap_u64, Sp.tmod_lit, Sp.tdiv_lit, bne_eq_false_iff_eq, Int.natCast_inj, setE, copyL, sliceL, zrow, List.length_append, List.length_cons, List.length_nil, List.length_set, List.length_replicate, List.length_take, List.length_drop, decide_eq_true_eq, decide_eq_false_iff_not, Bool.or_eq_true, Bool.and_eq_true, Bool.or_eq_false_iff, Bool.and_eq_false_iff, Bool.not_eq_true', Bool.not_eq_false', Bool.not_eq_true, Bool.not_eq_false, beq_iff_eq, beq_eq_false_iff_ne, bne_iff_ne, ne_eq] <;> first | omega | (and_intros <;> first | omega | exact h.1 | exact h.2 | exact h.2.1 | exact h.2.2 | exact h.2.2.1 | exact h.2.2.2 | exact h.2.2.2.1 | exact h.2.2.2.2 | exact h.2.2.2.2.1 | exact h.2.2.2.2.2 | exact h.2.2.2.2.2.1 | exact h.2.2.2.2.2.2)))
theorem lo25_4 : LoopOk Try.prog gdS (RetAt Try.prog Try.f25 (Rsh.one (none)) none ty4) (bodyAt (bodyOf Try.f25) [0]) LS25_4 :=
  loop_run (ctxOkF gokGmT2 []) (L := lookL []) (loops_of (l := []) (by kernel_rfl) (loops_nil)) sa25_4 va25_4 so25_4
end Go.Proofs.Ytabifaikklcghaa.Sy
namespace Go.Proofs.Ytabifaikklcghaa.Sp
open Go Go.RowKit Sy
def F25 (x : (List Int) × List Int) : Bool :=
  bif (((x.1).length : Int) != ((x.2).length : Int)) then
    false
  else
    Sp.optR (Sp.R25_4 x (0 : Int)) (fun y => y)
    (true)
end Go.Proofs.Ytabifaikklcghaa.Sp
namespace Go.Proofs.Ytabifaikklcghaa.Sy
def ct25 : Ct := { p := (Ty.pair ty47 ty47), psh := [none, none], r := ty4, rsh := (Rsh.one (none)), pre := none, fresh := none, F := Sp.F25 }
theorem va25 (x : (Ty.pair ty47 ty47).den) : ((evFn (ctxG GmT2) Try.f25 (Ty.pair ty47 ty47) [none, none] (Rsh.one (none)) none ty4 (lookL [(4, LS25_4)]) x)).val (fun y => y) (Ty.dflt ty4) = Sp.F25 x := by kernel_rfl
theorem se25 (x : (Ty.pair ty47 ty47).den) : ((evFn (ctxG GmT2) Try.f25 (Ty.pair ty47 ty47) [none, none] (Rsh.one (none)) none ty4 (lookL [(4, LS25_4)]) x)).safe = ((((((x.1).length : Int) != ((x.2).length : Int)) = true → True) ∧ ((((x.1).length : Int) != ((x.2).length : Int)) = false → ((Sp.in25_4 x (0 : Int)) ∧ ((Sp.R25_4 x (0 : Int)) = none → True))))) := by kernel_rfl
theorem sa25 (x : (Ty.pair ty47 ty47).den) (fx : Fit (Ty.pair ty47 ty47) x) : SafeW ((evFn (ctxG GmT2) Try.f25 (Ty.pair ty47 ty47) [none, none] (Rsh.one (none)) none ty4 (lookL [(4, LS25_4)]) x)) := by
  refine ⟨?_⟩
  rw [se25]
  try dsimp only [Ty.den] at *
  simp only [Fit, maxLen] at fx
  simp only [Sp.in25_4, IntKind.wrap_i64, IntKind.wrap_u8, IntKind.wrap_u32, IntKind.wrap_u64, Sp.tmod_lit, Sp.tdiv_lit, bne_eq_false_iff_eq, Int.natCast_inj, setE, copyL, sliceL, zrow, List.length_append, List.length_cons, List.length_nil, List.length_set, List.length_replicate, List.length_take, List.length_drop, decide_eq_true_eq, decide_eq_false_iff_not, Bool.or_eq_true, Bool.and_eq_true, Bool.or_eq_false_iff, Bool.and_eq_false_iff, Bool.not_eq_true', Bool.not_eq_false', Bool.not_eq_true, Bool.not_eq_false, beq_iff_eq, beq_eq_false_iff_ne, bne_iff_ne, ne_eq, implies_true, and_true, true_and] at *
  all_goals ((repeat' (first | exact trivial | apply And.intro | intro _)) <;> first | trivial | omega | exact Sp.tmod_nn (by omega) | exact Sp.tmod_lt (by omega) (by omega))
theorem ok25 : CtOk Try.prog gdS 25 ct25 :=
  fn_okU (ctxOkF gokGmT2 []) rfl Try.func25 (p := (Ty.pair ty47 ty47)) (psh := [none, none]) (r := ty4) (rsh := (Rsh.one (none))) (pre := none) (fresh := none) (F := Sp.F25) (L := (lookL [(4, LS25_4)])) (c := bodyOf Try.f25) (dflt := Ty.dflt ty4) rfl (loops_of (l := [bodyAt (bodyOf Try.f25) [0]]) (by kernel_rfl) (loops_cons (s0 := LS25_4) (by kernel_rfl) lo25_4 (loops_nil)))
    (safe_no @sa25) va25
/-! math.IsNaN -/
end Go.Proofs.Ytabifaikklcghaa.Sy
namespace Go.Proofs.Ytabifaikklcghaa.Sp
open Go Go.RowKit Sy
def F56 (x : Nat) : Bool :=
  ((FloatKind.f64.format.order x x) != some Ordering.eq)
end Go.Proofs.Ytabifaikklcghaa.Sp
namespace Go.Proofs.Ytabifaikklcghaa.Sy
def ct56 : Ct := { p := ty25, psh := [none], r := ty4, rsh := (Rsh.one (none)), pre := none, fresh := none, F := Sp.F56 }
theorem va56 (x : ty25.den) : ((evFn (ctxG GmT2) Try.f56 ty25 [none] (Rsh.one (none)) none ty4 noL x)).val (fun y => y) (Ty.dflt ty4) = Sp.F56 x := by kernel_rfl
theorem se56 (x : ty25.den) : ((evFn (ctxG GmT2) Try.f56 ty25 [none] (Rsh.one (none)) none ty4 noL x)).safe = (True) := by kernel_rfl
theorem sa56 (x : ty25.den) (fx : Fit ty25 x) : SafeW ((evFn (ctxG GmT2) Try.f56 ty25 [none] (Rsh.one (none)) none ty4 noL x)) := by
  refine ⟨?_⟩
  rw [se56]
  trivial
theorem ok56 : CtOk Try.prog gdS 56 ct56 :=
  fn_okU (ctxOkF gokGmT2 []) rfl Try.func56 (p := ty25) (psh := [none]) (r := ty4) (rsh := (Rsh.one (none))) (pre := none) (fresh := none) (F := Sp.F56) (L := noL) (c := bodyOf Try.f56) (dflt := Ty.dflt ty4) rfl (no_loops)
    (safe_no @sa56) va56
/-! overlayref06.Class -/
end Go.Proofs.Ytabifaikklcghaa.Sy
namespace Go.Proofs.Ytabifaikklcghaa.Sp
open Go Go.RowKit Sy
def F33 (x : (Int × Int × Int × Int × Nat × Nat × Nat × List (Int × Int × Int × Int × Int × Int × Int × Int × Int)) × Nat) : Int :=
  bif ((((Sp.F40 x.1) != (0 : Int)) || ((FloatKind.f64.format.order x.2 x.2) != some Ordering.eq)) || ((FloatKind.f64.format.order x.2 (0 : Nat)) == some Ordering.lt)) then
    (0 : Int)
  else
    bif ((FloatKind.f64.format.order x.2 x.1.2.2.2.2.1) == some Ordering.lt) then
      (1 : Int)
    else
      bif ((FloatKind.f64.format.order x.2 x.1.2.2.2.2.2.1) == some Ordering.lt) then
        (2 : Int)
      else
        bif ((FloatKind.f64.format.order x.2 x.1.2.2.2.2.2.2.1) == some Ordering.lt) then
          (3 : Int)
        else
          (4 : Int)
end Go.Proofs.Ytabifaikklcghaa.Sp
namespace Go.Proofs.Ytabifaikklcghaa.Sy
def ct33 : Ct := { p := (Ty.pair ty28 ty25), psh := [some 8, none], r := ty3, rsh := (Rsh.one (none)), pre := none, fresh := none, F := Sp.F33 }
theorem va33 (x : (Ty.pair ty28 ty25).den) : ((evFn (ctxG GmT2) Try.f33 (Ty.pair ty28 ty25) [some 8, none] (Rsh.one (none)) none ty3 noL x)).val (fun y => y) (Ty.dflt ty3) = Sp.F33 x := by kernel_rfl
theorem se33 (x : (Ty.pair ty28 ty25).den) : ((evFn (ctxG GmT2) Try.f33 (Ty.pair ty28 ty25) [some 8, none] (Rsh.one (none)) none ty3 noL x)).safe = (((((((Sp.F40 x.1) != (0 : Int)) || ((FloatKind.f64.format.order x.2 x.2) != some Ordering.eq)) || ((FloatKind.f64.format.order x.2 (0 : Nat)) == some Ordering.lt)) = true → True) ∧ (((((Sp.F40 x.1) != (0 : Int)) || ((FloatKind.f64.format.order x.2 x.2) != some Ordering.eq)) || ((FloatKind.f64.format.order x.2 (0 : Nat)) == some Ordering.lt)) = false → ((((FloatKind.f64.format.order x.2 x.1.2.2.2.2.1) == some Ordering.lt) = true → True) ∧ (((FloatKind.f64.format.order x.2 x.1.2.2.2.2.1) == some Ordering.lt) = false → ((((FloatKind.f64.format.order x.2 x.1.2.2.2.2.2.1) == some Ordering.lt) = true → True) ∧ (((FloatKind.f64.format.order x.2 x.1.2.2.2.2.2.1) == some Ordering.lt) = false → ((((FloatKind.f64.format.order x.2 x.1.2.2.2.2.2.2.1) == some Ordering.lt) = true → True) ∧ (((FloatKind.f64.format.order x.2 x.1.2.2.2.2.2.2.1) == some Ordering.lt) = false → True))))))))) := by kernel_rfl
theorem sa33 (x : (Ty.pair ty28 ty25).den) (fx : Fit (Ty.pair ty28 ty25) x) : SafeW ((evFn (ctxG GmT2) Try.f33 (Ty.pair ty28 ty25) [some 8, none] (Rsh.one (none)) none ty3 noL x)) := by
  refine ⟨?_⟩
  rw [se33]
  try dsimp only [Ty.den] at *
  simp only [Fit, maxLen] at fx
  simp only [true_and, IntKind.wrap_i64, IntKind.wrap_u8, IntKind.wrap_u32, IntKind.wrap_u64, Sp.tmod_lit, Sp.tdiv_lit, bne_eq_false_iff_eq, Int.natCast_inj, setE, copyL, sliceL, zrow, List.length_append, List.length_cons, List.length_nil, List.length_set, List.length_replicate, List.length_take, List.length_drop, decide_eq_true_eq, decide_eq_false_iff_not, Bool.or_eq_true, Bool.and_eq_true, Bool.or_eq_false_iff, Bool.and_eq_false_iff, Bool.not_eq_true', Bool.not_eq_false', Bool.not_eq_true, Bool.not_eq_false, beq_iff_eq, beq_eq_false_iff_ne, bne_iff_ne, ne_eq, implies_true, and_true, true_and] at *
  all_goals ((repeat' (first | exact trivial | apply And.intro | intro _)) <;> first | trivial | omega | exact Sp.tmod_nn (by omega) | exact Sp.tmod_lt (by omega) (by omega))
theorem ok33 : CtOk Try.prog gdS 33 ct33 :=
  fn_okU (ctxOkF gokGmT2 []) rfl Try.func33 (p := (Ty.pair ty28 ty25)) (psh := [some 8, none]) (r := ty3) (rsh := (Rsh.one (none))) (pre := none) (fresh := none) (F := Sp.F33) (L := noL) (c := bodyOf Try.f33) (dflt := Ty.dflt ty3) rfl (no_loops)
    (safe_no @sa33) va33
def GmK0 : List (Nat × Ct) := (23, ct23) :: (43, ct43) :: (44, ct44) :: (45, ct45) :: (46, ct46) :: (25, ct25) :: (56, ct56) :: (33, ct33) :: GmT2
theorem gokGmK0 : GOk GmK0 := gok_cons ok23 ⟨_, Try.func23, by kernel_rfl, by kernel_rfl⟩ (gok_cons ok43 ⟨_, Try.func43, by kernel_rfl, by kernel_rfl⟩ (gok_cons ok44 ⟨_, Try.func44, by kernel_rfl, by kernel_rfl⟩ (gok_cons ok45 ⟨_, Try.func45, by kernel_rfl, by kernel_rfl⟩ (gok_cons ok46 ⟨_, Try.func46, by kernel_rfl, by kernel_rfl⟩ (gok_cons ok25 ⟨_, Try.func25, by kernel_rfl, by kernel_rfl⟩ (gok_cons ok56 ⟨_, Try.func56, by kernel_rfl, by kernel_rfl⟩ (gok_cons ok33 ⟨_, Try.func33, by kernel_rfl, by kernel_rfl⟩ (gokGmT2))))))))
end Go.Proofs.Ytabifaikklcghaa.Sy
