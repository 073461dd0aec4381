/- Contracts of functions, by the evaluator (own program gen.py): overlayref11.look. -/
import Derived.Test.YtidnlehjabhclaaDoorE2
set_option linter.unusedVariables false
set_option linter.unusedSimpArgs false
set_option maxRecDepth 100000
namespace Go.Proofs.YtidnlehjabhclaaDoor.Sy
open Go Go.RowKit Sp
/-! overlayref11.look -/
end Go.Proofs.YtidnlehjabhclaaDoor.Sy
namespace Go.Proofs.YtidnlehjabhclaaDoor.Sp
open Go Go.RowKit Sy
def F31 (x : Int × (Int × Int) × Int × Int × Int × Int) : Bool × Bool × Bool × Bool × Bool × Int :=
  bif ((Sp.F46 (x.2.2.2, x.2.2.1)).1 && ((!((Sp.F47 (x.2.2.2, x.2.2.1)).1)) || (decide ((Sp.F47 (x.2.2.2, x.2.2.1)).2 ≥ (Sp.F46 (x.2.2.2, x.2.2.1)).2)))) then
    ((Sp.F19 ((Sp.F15 (x.2.2.2.2, (Sp.F23 x).2)), x.2.2.1, (1 : Int))), (Sp.F19 ((Sp.F15 (x.2.2.2.2, (Sp.F23 x).2)), x.2.2.1, (2 : Int))), ((IntKind.u32.wrap ((BitVec.ofInt IntKind.u32.bits (Int.fdiv (IntKind.u32.wrap ((BitVec.ofInt IntKind.u32.bits x.2.2.2.1 &&& ~~~ BitVec.ofInt IntKind.u32.bits ((Sp.F23 x).1)).toNat : Int)) (2 ^ (min ((IntKind.u64.wrap x.2.2.1)).toNat IntKind.u32.bits))) &&& BitVec.ofInt IntKind.u32.bits (1 : Int)).toNat : Int)) == (1 : Int)), (Sp.F46 (x.2.2.2, x.2.2.1)).1, (Sp.F47 (x.2.2.2, x.2.2.1)).1, (1 : Int))
  else
    bif (Sp.F47 (x.2.2.2, x.2.2.1)).1 then
      ((Sp.F19 ((Sp.F15 (x.2.2.2.2, (Sp.F23 x).2)), x.2.2.1, (1 : Int))), (Sp.F19 ((Sp.F15 (x.2.2.2.2, (Sp.F23 x).2)), x.2.2.1, (2 : Int))), ((IntKind.u32.wrap ((BitVec.ofInt IntKind.u32.bits (Int.fdiv (IntKind.u32.wrap ((BitVec.ofInt IntKind.u32.bits x.2.2.2.1 &&& ~~~ BitVec.ofInt IntKind.u32.bits ((Sp.F23 x).1)).toNat : Int)) (2 ^ (min ((IntKind.u64.wrap x.2.2.1)).toNat IntKind.u32.bits))) &&& BitVec.ofInt IntKind.u32.bits (1 : Int)).toNat : Int)) == (1 : Int)), (Sp.F46 (x.2.2.2, x.2.2.1)).1, (Sp.F47 (x.2.2.2, x.2.2.1)).1, (2 : Int))
    else
      ((Sp.F19 ((Sp.F15 (x.2.2.2.2, (Sp.F23 x).2)), x.2.2.1, (1 : Int))), (Sp.F19 ((Sp.F15 (x.2.2.2.2, (Sp.F23 x).2)), x.2.2.1, (2 : Int))), ((IntKind.u32.wrap ((BitVec.ofInt IntKind.u32.bits (Int.fdiv (IntKind.u32.wrap ((BitVec.ofInt IntKind.u32.bits x.2.2.2.1 &&& ~~~ BitVec.ofInt IntKind.u32.bits ((Sp.F23 x).1)).toNat : Int)) (2 ^ (min ((IntKind.u64.wrap x.2.2.1)).toNat IntKind.u32.bits))) &&& BitVec.ofInt IntKind.u32.bits (1 : Int)).toNat : Int)) == (1 : Int)), (Sp.F46 (x.2.2.2, x.2.2.1)).1, (Sp.F47 (x.2.2.2, x.2.2.1)).1, (0 : Int))
end Go.Proofs.YtidnlehjabhclaaDoor.Sp
namespace Go.Proofs.YtidnlehjabhclaaDoor.Sy
def ct31 : Ct := { p := (Ty.pair ty3 (Ty.pair ty23 (Ty.pair ty3 ty30))), psh := [none, some 2, none, some 3], r := ty65, rsh := (Rsh.one (some 6)), pre := none, fresh := none, F := Sp.F31 }
theorem va31 (x : (Ty.pair ty3 (Ty.pair ty23 (Ty.pair ty3 ty30))).den) : ((evFn (ctxG GmE2) Tryd.f31 (Ty.pair ty3 (Ty.pair ty23 (Ty.pair ty3 ty30))) [none, some 2, none, some 3] (Rsh.one (some 6)) none ty65 noL x)).val (fun y => y) (Ty.dflt ty65) = Sp.F31 x := by kernel_rfl
theorem se31 (x : (Ty.pair ty3 (Ty.pair ty23 (Ty.pair ty3 ty30))).den) : ((evFn (ctxG GmE2) Tryd.f31 (Ty.pair ty3 (Ty.pair ty23 (Ty.pair ty3 ty30))) [none, some 2, none, some 3] (Rsh.one (some 6)) none ty65 noL x)).safe = (((0 ≤ (IntKind.u64.wrap x.2.2.1)) ∧ ((((Sp.F46 (x.2.2.2, x.2.2.1)).1 && ((!((Sp.F47 (x.2.2.2, x.2.2.1)).1)) || (decide ((Sp.F47 (x.2.2.2, x.2.2.1)).2 ≥ (Sp.F46 (x.2.2.2, x.2.2.1)).2)))) = true → True) ∧ (((Sp.F46 (x.2.2.2, x.2.2.1)).1 && ((!((Sp.F47 (x.2.2.2, x.2.2.1)).1)) || (decide ((Sp.F47 (x.2.2.2, x.2.2.1)).2 ≥ (Sp.F46 (x.2.2.2, x.2.2.1)).2)))) = false → (((Sp.F47 (x.2.2.2, x.2.2.1)).1 = true → True) ∧ ((Sp.F47 (x.2.2.2, x.2.2.1)).1 = false → True)))))) := by kernel_rfl
theorem sa31 (x : (Ty.pair ty3 (Ty.pair ty23 (Ty.pair ty3 ty30))).den) (fx : Fit (Ty.pair ty3 (Ty.pair ty23 (Ty.pair ty3 ty30))) x) : SafeW ((evFn (ctxG GmE2) Tryd.f31 (Ty.pair ty3 (Ty.pair ty23 (Ty.pair ty3 ty30))) [none, some 2, none, some 3] (Rsh.one (some 6)) none ty65 noL x)) := by
  refine ⟨?_⟩
  rw [se31]
  try dsimp only [Ty.den] at *
  simp only [Fit, maxLen] at fx
  simp only [true_and, IntKind.wrap_i64, IntKind.wrap_u8, IntKind.wrap_u32, IntKind.wrap_u64, Sp.tmod_lit, Sp.tdiv_lit, bne_eq_false_iff_eq, Int.natCast_inj, setE, copyL, sliceL, zrow, List.length_append, List.length_cons, List.length_nil, List.length_set, List.length_replicate, List.length_take, List.length_drop, decide_eq_true_eq, decide_eq_false_iff_not, Bool.or_eq_true, Bool.and_eq_true, Bool.or_eq_false_iff, Bool.and_eq_false_iff, Bool.not_eq_true', Bool.not_eq_false', Bool.not_eq_true, Bool.not_eq_false, beq_iff_eq, beq_eq_false_iff_ne, bne_iff_ne, ne_eq, implies_true, and_true, true_and] at *
  all_goals ((repeat' (first | exact trivial | apply And.intro | intro _)) <;> first | trivial | omega | exact Sp.tmod_nn (by omega) | exact Sp.tmod_lt (by omega) (by omega))
theorem ok31 : CtOk Tryd.prog gdS 31 ct31 :=
  fn_okU (ctxOkF gokGmE2 []) rfl Tryd.func31 (p := (Ty.pair ty3 (Ty.pair ty23 (Ty.pair ty3 ty30)))) (psh := [none, some 2, none, some 3]) (r := ty65) (rsh := (Rsh.one (some 6))) (pre := none) (fresh := none) (F := Sp.F31) (L := noL) (c := bodyOf Tryd.f31) (dflt := Ty.dflt ty65) rfl (no_loops)
    (safe_no @sa31) va31
def GmE3 : List (Nat × Ct) := (31, ct31) :: GmE2
theorem gokGmE3 : GOk GmE3 := gok_cons ok31 ⟨_, Tryd.func31, by kernel_rfl, by kernel_rfl⟩ (gokGmE2)
end Go.Proofs.YtidnlehjabhclaaDoor.Sy
