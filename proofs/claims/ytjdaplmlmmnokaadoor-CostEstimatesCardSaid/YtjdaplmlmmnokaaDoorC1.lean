/- Contracts of functions, by the evaluator (own program gen.py): cost.counted. -/
import Derived.Test.YtjdaplmlmmnokaaDoorC0
set_option linter.unusedVariables false
set_option linter.unusedSimpArgs false
set_option maxRecDepth 100000
namespace Go.Proofs.YtjdaplmlmmnokaaDoor.Sy
open Go Go.RowKit Sp
/-! cost.counted -/
end Go.Proofs.YtjdaplmlmmnokaaDoor.Sy
namespace Go.Proofs.YtjdaplmlmmnokaaDoor.Sp
open Go Go.RowKit Sy
def K18_1 (x : Int × Int × Int × Int) :=
  (Sp.F28 (x.2.2, (Int.fdiv (IntKind.u32.wrap ((IntKind.u32.wrap ((1 : Int) * 2 ^ (min (x.1).toNat IntKind.u32.bits))) - (1 : Int))) (2 ^ (min ((1 : Int)).toNat IntKind.u32.bits))), (IntKind.u32.wrap ((BitVec.ofInt IntKind.u32.bits (IntKind.u32.wrap ((IntKind.u32.wrap ((1 : Int) * 2 ^ (min (x.1).toNat IntKind.u32.bits))) - (1 : Int))) &&& ~~~ BitVec.ofInt IntKind.u32.bits (1 : Int)).toNat : Int))))
def F18 (x : Int × Int × Int × Int) : Int × Int × Int :=
  ((IntKind.u32.wrap ((BitVec.ofInt IntKind.u32.bits x.2.1 &&& BitVec.ofInt IntKind.u32.bits (IntKind.u32.wrap ((IntKind.u32.wrap ((1 : Int) * 2 ^ (min (x.1).toNat IntKind.u32.bits))) - (1 : Int)))).toNat : Int)), (Sp.K18_1 x))
def pre18 (x : Int × Int × Int × Int) : Prop := 0 ≤ x.1
end Go.Proofs.YtjdaplmlmmnokaaDoor.Sp
namespace Go.Proofs.YtjdaplmlmmnokaaDoor.Sy
def ct18 : Ct := { p := (Ty.pair ty3 ty26), psh := [none, some 3], r := ty26, rsh := (Rsh.one (some 3)), pre := some Sp.pre18, fresh := none, F := Sp.F18 }
theorem va18 (x : (Ty.pair ty3 ty26).den) : ((evFn (ctxP PmC0 none GmC0 []) Tryd.f18 (Ty.pair ty3 ty26) [none, some 3] (Rsh.one (some 3)) none ty26 noL x)).val (fun y => y) (Ty.dflt ty26) = Sp.F18 x := by kernel_rfl
theorem se18 (x : (Ty.pair ty3 ty26).den) : ((evFn (ctxP PmC0 none GmC0 []) Tryd.f18 (Ty.pair ty3 ty26) [none, some 3] (Rsh.one (some 3)) none ty26 noL x)).safe = (((0 ≤ x.1) ∧ ((0 ≤ (1 : Int)) ∧ True))) := by kernel_rfl
theorem sa18 (x : (Ty.pair ty3 ty26).den) (fx : Fit (Ty.pair ty3 ty26) x) (h : Sp.pre18 x) : SafeW ((evFn (ctxP PmC0 none GmC0 []) Tryd.f18 (Ty.pair ty3 ty26) [none, some 3] (Rsh.one (some 3)) none ty26 noL x)) := by
  refine ⟨?_⟩
  rw [se18]
  try dsimp only [Ty.den] at *
  simp only [Fit, maxLen] at fx
  simp only [Sp.pre18, IntKind.wrap_i64, IntKind.wrap_u8, IntKind.wrap_u32, IntKind.wrap_u64, Sp.tmod_lit, Sp.tdiv_lit, bne_eq_false_iff_eq, Int.natCast_inj, setE, copyL, sliceL, zrow, List.length_append, List.length_cons, List.length_nil, List.length_set, List.length_replicate, List.length_take, List.length_drop, decide_eq_true_eq, decide_eq_false_iff_not, Bool.or_eq_true, Bool.and_eq_true, Bool.or_eq_false_iff, Bool.and_eq_false_iff, Bool.not_eq_true', Bool.not_eq_false', Bool.not_eq_true, Bool.not_eq_false, beq_iff_eq, beq_eq_false_iff_ne, bne_iff_ne, ne_eq, implies_true, and_true, true_and] at *
  all_goals ((repeat' (first | exact trivial | apply And.intro | intro _)) <;> first | trivial | omega | exact Sp.tmod_nn (by omega) | exact Sp.tmod_lt (by omega) (by omega))
theorem ok18 : CtOk Tryd.prog gdS 18 ct18 :=
  fn_okU (ctxOkP pgokPmC0 fvok_none gokGmC0 []) rfl Tryd.func18 (p := (Ty.pair ty3 ty26)) (psh := [none, some 3]) (r := ty26) (rsh := (Rsh.one (some 3))) (pre := some Sp.pre18) (fresh := none) (F := Sp.F18) (L := noL) (c := bodyOf Tryd.f18) (dflt := Ty.dflt ty26) rfl (no_loops)
    (safe_pre @sa18) va18
def GmC1 : List (Nat × Ct) := (18, ct18) :: GmC0
theorem gokGmC1 : GOk GmC1 := gok_cons ok18 ⟨_, Tryd.func18, by kernel_rfl, by kernel_rfl⟩ (gokGmC0)
end Go.Proofs.YtjdaplmlmmnokaaDoor.Sy
