/- Contracts of functions, by the evaluator (own program gen.py): math/bits.TrailingZeros32, math/bits.Len32. -/
import Derived.Test.YtidnlehjabhclaaDoorBt
set_option linter.unusedVariables false
set_option linter.unusedSimpArgs false
set_option maxRecDepth 100000
namespace Go.Proofs.YtidnlehjabhclaaDoor.Sy
open Go Go.RowKit Sp
/-! math/bits.TrailingZeros32 -/
end Go.Proofs.YtidnlehjabhclaaDoor.Sy
namespace Go.Proofs.YtidnlehjabhclaaDoor.Sp
open Go Go.RowKit Sy
def F41 (x : Int) : Int :=
  bif (x == (0 : Int)) then
    (32 : Int)
  else
    (IntKind.i64.wrap (Sp.nthT tabB (Int.fdiv (IntKind.u32.wrap ((IntKind.u32.wrap ((BitVec.ofInt IntKind.u32.bits x &&& BitVec.ofInt IntKind.u32.bits (IntKind.u32.wrap (0 - x))).toNat : Int)) * (125613361 : Int))) (2 ^ (min ((27 : Int)).toNat IntKind.u32.bits)))))
def pre41 (x : Int) : Prop := 0 ≤ x ∧ x ≤ 4294967295
end Go.Proofs.YtidnlehjabhclaaDoor.Sp
namespace Go.Proofs.YtidnlehjabhclaaDoor.Sy
def ct41 : Ct := { p := ty26, psh := [none], r := ty3, rsh := (Rsh.one (none)), pre := some Sp.pre41, fresh := none, F := Sp.F41 }
theorem va41 (x : ty26.den) : ((evFn (ctxG []) Tryd.f41 ty26 [none] (Rsh.one (none)) none ty3 noL x)).val (fun y => y) (Ty.dflt ty3) = Sp.F41 x := by kernel_rfl
theorem se41 (x : ty26.den) : ((evFn (ctxG []) Tryd.f41 ty26 [none] (Rsh.one (none)) none ty3 noL x)).safe = ((((x == (0 : Int)) = true → True) ∧ ((x == (0 : Int)) = false → ((0 ≤ (27 : Int)) ∧ ((0 ≤ (Int.fdiv (IntKind.u32.wrap ((IntKind.u32.wrap ((BitVec.ofInt IntKind.u32.bits x &&& BitVec.ofInt IntKind.u32.bits (IntKind.u32.wrap (0 - x))).toNat : Int)) * (125613361 : Int))) (2 ^ (min ((27 : Int)).toNat IntKind.u32.bits))) ∧ (Int.fdiv (IntKind.u32.wrap ((IntKind.u32.wrap ((BitVec.ofInt IntKind.u32.bits x &&& BitVec.ofInt IntKind.u32.bits (IntKind.u32.wrap (0 - x))).toNat : Int)) * (125613361 : Int))) (2 ^ (min ((27 : Int)).toNat IntKind.u32.bits))) < (32 : Int)) ∧ True))))) := by kernel_rfl
theorem sa41 (x : ty26.den) (fx : Fit ty26 x) (h : Sp.pre41 x) : SafeW ((evFn (ctxG []) Tryd.f41 ty26 [none] (Rsh.one (none)) none ty3 noL x)) := by
  refine ⟨?_⟩
  rw [se41]
  try dsimp only [Ty.den] at *
  simp only [Sp.pre41] at h
  refine ⟨fun _ => trivial, fun _ => ⟨by omega, ?_, trivial⟩⟩
  rw [Sp.d27, IntKind.wrap_u32]
  omega
theorem ok41 : CtOk Tryd.prog gdS 41 ct41 :=
  fn_okU (ctxOkF gok_nil []) rfl Tryd.func41 (p := ty26) (psh := [none]) (r := ty3) (rsh := (Rsh.one (none))) (pre := some Sp.pre41) (fresh := none) (F := Sp.F41) (L := noL) (c := bodyOf Tryd.f41) (dflt := Ty.dflt ty3) rfl (no_loops)
    (safe_pre @sa41) va41
/-! math/bits.Len32 -/
end Go.Proofs.YtidnlehjabhclaaDoor.Sy
namespace Go.Proofs.YtidnlehjabhclaaDoor.Sp
open Go Go.RowKit Sy
def F42 (x : Int) : Int :=
  bif (decide (x ≥ (65536 : Int))) then
    (bif (decide ((Int.fdiv x (2 ^ (min ((16 : Int)).toNat IntKind.u32.bits))) ≥ (256 : Int))) then
      (IntKind.i64.wrap ((IntKind.i64.wrap ((16 : Int) + (8 : Int))) + (IntKind.i64.wrap (strAt Lib.len8tab (IntKind.u8.wrap (Int.fdiv (Int.fdiv x (2 ^ (min ((16 : Int)).toNat IntKind.u32.bits))) (2 ^ (min ((8 : Int)).toNat IntKind.u32.bits))))))))
    else
      (IntKind.i64.wrap ((16 : Int) + (IntKind.i64.wrap (strAt Lib.len8tab (IntKind.u8.wrap (Int.fdiv x (2 ^ (min ((16 : Int)).toNat IntKind.u32.bits)))))))))
  else
    bif (decide (x ≥ (256 : Int))) then
      (IntKind.i64.wrap ((IntKind.i64.wrap ((0 : Int) + (8 : Int))) + (IntKind.i64.wrap (strAt Lib.len8tab (IntKind.u8.wrap (Int.fdiv x (2 ^ (min ((8 : Int)).toNat IntKind.u32.bits))))))))
    else
      (IntKind.i64.wrap ((0 : Int) + (IntKind.i64.wrap (strAt Lib.len8tab (IntKind.u8.wrap x)))))
def pre42 (x : Int) : Prop := 0 ≤ x ∧ x ≤ 4294967295
end Go.Proofs.YtidnlehjabhclaaDoor.Sp
namespace Go.Proofs.YtidnlehjabhclaaDoor.Sy
def ct42 : Ct := { p := ty26, psh := [none], r := ty3, rsh := (Rsh.one (none)), pre := some Sp.pre42, fresh := none, F := Sp.F42 }
theorem va42 (x : ty26.den) : ((evFn (ctxG []) Tryd.f42 ty26 [none] (Rsh.one (none)) none ty3 noL x)).val (fun y => y) (Ty.dflt ty3) = Sp.F42 x := by kernel_rfl
theorem se42 (x : ty26.den) : ((evFn (ctxG []) Tryd.f42 ty26 [none] (Rsh.one (none)) none ty3 noL x)).safe = ((((decide (x ≥ (65536 : Int))) = true → ((0 ≤ (16 : Int)) ∧ (((decide ((Int.fdiv x (2 ^ (min ((16 : Int)).toNat IntKind.u32.bits))) ≥ (256 : Int))) = true → ((0 ≤ (8 : Int)) ∧ ((0 ≤ (IntKind.u8.wrap (Int.fdiv (Int.fdiv x (2 ^ (min ((16 : Int)).toNat IntKind.u32.bits))) (2 ^ (min ((8 : Int)).toNat IntKind.u32.bits)))) ∧ (IntKind.u8.wrap (Int.fdiv (Int.fdiv x (2 ^ (min ((16 : Int)).toNat IntKind.u32.bits))) (2 ^ (min ((8 : Int)).toNat IntKind.u32.bits)))) < ((Lib.len8tab).size : Int)) ∧ True))) ∧ ((decide ((Int.fdiv x (2 ^ (min ((16 : Int)).toNat IntKind.u32.bits))) ≥ (256 : Int))) = false → ((0 ≤ (IntKind.u8.wrap (Int.fdiv x (2 ^ (min ((16 : Int)).toNat IntKind.u32.bits)))) ∧ (IntKind.u8.wrap (Int.fdiv x (2 ^ (min ((16 : Int)).toNat IntKind.u32.bits)))) < ((Lib.len8tab).size : Int)) ∧ True))))) ∧ ((decide (x ≥ (65536 : Int))) = false → (((decide (x ≥ (256 : Int))) = true → ((0 ≤ (8 : Int)) ∧ ((0 ≤ (IntKind.u8.wrap (Int.fdiv x (2 ^ (min ((8 : Int)).toNat IntKind.u32.bits)))) ∧ (IntKind.u8.wrap (Int.fdiv x (2 ^ (min ((8 : Int)).toNat IntKind.u32.bits)))) < ((Lib.len8tab).size : Int)) ∧ True))) ∧ ((decide (x ≥ (256 : Int))) = false → ((0 ≤ (IntKind.u8.wrap x) ∧ (IntKind.u8.wrap x) < ((Lib.len8tab).size : Int)) ∧ True)))))) := by kernel_rfl
theorem sa42 (x : ty26.den) (fx : Fit ty26 x) (h : Sp.pre42 x) : SafeW ((evFn (ctxG []) Tryd.f42 ty26 [none] (Rsh.one (none)) none ty3 noL x)) := by
  refine ⟨?_⟩
  rw [se42]
  try dsimp only [Ty.den] at *
  simp only [Sp.pre42] at h
  have hs : ((Lib.len8tab).size : Int) = 256 := by rw [Sp.len_size]; rfl
  simp only [hs, Sp.d16, Sp.d8, IntKind.wrap_u8, decide_eq_true_eq, decide_eq_false_iff_not]
  repeat' (first | exact trivial | apply And.intro | intro _)
  all_goals omega
theorem ok42 : CtOk Tryd.prog gdS 42 ct42 :=
  fn_okU (ctxOkF gok_nil []) rfl Tryd.func42 (p := ty26) (psh := [none]) (r := ty3) (rsh := (Rsh.one (none))) (pre := some Sp.pre42) (fresh := none) (F := Sp.F42) (L := noL) (c := bodyOf Tryd.f42) (dflt := Ty.dflt ty3) rfl (no_loops)
    (safe_pre @sa42) va42
def GmM0 : List (Nat × Ct) := (41, ct41) :: (42, ct42) :: []
theorem gokGmM0 : GOk GmM0 := gok_cons ok41 ⟨_, Tryd.func41, by kernel_rfl, by kernel_rfl⟩ (gok_cons ok42 ⟨_, Tryd.func42, by kernel_rfl, by kernel_rfl⟩ (gok_nil))
end Go.Proofs.YtidnlehjabhclaaDoor.Sy
