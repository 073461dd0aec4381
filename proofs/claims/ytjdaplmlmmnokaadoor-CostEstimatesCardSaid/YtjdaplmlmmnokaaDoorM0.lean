/- Contracts of functions, by the evaluator (own program gen.py): math/bits.TrailingZeros32, math/bits.Len32, math/bits.OnesCount32. -/
import Derived.Test.YtjdaplmlmmnokaaDoorBt
set_option linter.unusedVariables false
set_option linter.unusedSimpArgs false
set_option maxRecDepth 100000
namespace Go.Proofs.YtjdaplmlmmnokaaDoor.Sy
open Go Go.RowKit Sp
/-! math/bits.TrailingZeros32 -/
end Go.Proofs.YtjdaplmlmmnokaaDoor.Sy
namespace Go.Proofs.YtjdaplmlmmnokaaDoor.Sp
open Go Go.RowKit Sy
def F19 (x : Int) : Int :=
  bif (x == (0 : Int)) then
    (32 : Int)
  else
    (IntKind.i64.wrap (Sp.nthT tabB (Int.fdiv (IntKind.u32.wrap ((IntKind.u32.wrap ((BitVec.ofInt IntKind.u32.bits x &&& BitVec.ofInt IntKind.u32.bits (IntKind.u32.wrap (0 - x))).toNat : Int)) * (125613361 : Int))) (2 ^ (min ((27 : Int)).toNat IntKind.u32.bits)))))
def pre19 (x : Int) : Prop := 0 ≤ x ∧ x ≤ 4294967295
end Go.Proofs.YtjdaplmlmmnokaaDoor.Sp
namespace Go.Proofs.YtjdaplmlmmnokaaDoor.Sy
def ct19 : Ct := { p := ty22, psh := [none], r := ty3, rsh := (Rsh.one (none)), pre := some Sp.pre19, fresh := none, F := Sp.F19 }
theorem va19 (x : ty22.den) : ((evFn (ctxG []) Tryd.f19 ty22 [none] (Rsh.one (none)) none ty3 noL x)).val (fun y => y) (Ty.dflt ty3) = Sp.F19 x := by kernel_rfl
theorem se19 (x : ty22.den) : ((evFn (ctxG []) Tryd.f19 ty22 [none] (Rsh.one (none)) none ty3 noL x)).safe = ((((x == (0 : Int)) = true → True) ∧ ((x == (0 : Int)) = false → ((0 ≤ (27 : Int)) ∧ ((0 ≤ (Int.fdiv (IntKind.u32.wrap ((IntKind.u32.wrap ((BitVec.ofInt IntKind.u32.bits x &&& BitVec.ofInt IntKind.u32.bits (IntKind.u32.wrap (0 - x))).toNat : Int)) * (125613361 : Int))) (2 ^ (min ((27 : Int)).toNat IntKind.u32.bits))) ∧ (Int.fdiv (IntKind.u32.wrap ((IntKind.u32.wrap ((BitVec.ofInt IntKind.u32.bits x &&& BitVec.ofInt IntKind.u32.bits (IntKind.u32.wrap (0 - x))).toNat : Int)) * (125613361 : Int))) (2 ^ (min ((27 : Int)).toNat IntKind.u32.bits))) < (32 : Int)) ∧ True))))) := by kernel_rfl
theorem sa19 (x : ty22.den) (fx : Fit ty22 x) (h : Sp.pre19 x) : SafeW ((evFn (ctxG []) Tryd.f19 ty22 [none] (Rsh.one (none)) none ty3 noL x)) := by
  refine ⟨?_⟩
  rw [se19]
  try dsimp only [Ty.den] at *
  simp only [Sp.pre19] at h
  refine ⟨fun _ => trivial, fun _ => ⟨by omega, ?_, trivial⟩⟩
  rw [Sp.d27, IntKind.wrap_u32]
  omega
theorem ok19 : CtOk Tryd.prog gdS 19 ct19 :=
  fn_okU (ctxOkF gok_nil []) rfl Tryd.func19 (p := ty22) (psh := [none]) (r := ty3) (rsh := (Rsh.one (none))) (pre := some Sp.pre19) (fresh := none) (F := Sp.F19) (L := noL) (c := bodyOf Tryd.f19) (dflt := Ty.dflt ty3) rfl (no_loops)
    (safe_pre @sa19) va19
/-! math/bits.Len32 -/
end Go.Proofs.YtjdaplmlmmnokaaDoor.Sy
namespace Go.Proofs.YtjdaplmlmmnokaaDoor.Sp
open Go Go.RowKit Sy
def F20 (x : Int) : Int :=
  bif (decide (x ≥ (65536 : Int))) then
    (bif (decide ((Int.fdiv x (2 ^ (min ((16 : Int)).toNat IntKind.u32.bits))) ≥ (256 : Int))) then
      (IntKind.i64.wrap ((IntKind.i64.wrap ((16 : Int) + (8 : Int))) + (IntKind.i64.wrap (strAt Lib.len8tab (IntKind.u8.wrap (Int.fdiv (Int.fdiv x (2 ^ (min ((16 : Int)).toNat IntKind.u32.bits))) (2 ^ (min ((8 : Int)).toNat IntKind.u32.bits))))))))
    else
      (IntKind.i64.wrap ((16 : Int) + (IntKind.i64.wrap (strAt Lib.len8tab (IntKind.u8.wrap (Int.fdiv x (2 ^ (min ((16 : Int)).toNat IntKind.u32.bits)))))))))
  else
    bif (decide (x ≥ (256 : Int))) then
      (IntKind.i64.wrap ((IntKind.i64.wrap ((0 : Int) + (8 : Int))) + (IntKind.i64.wrap (strAt Lib.len8tab (IntKind.u8.wrap (Int.fdiv x (2 ^ (min ((8 : Int)).toNat IntKind.u32.bits))))))))
    else
      (IntKind.i64.wrap ((0 : Int) + (IntKind.i64.wrap (strAt Lib.len8tab (IntKind.u8.wrap x)))))
def pre20 (x : Int) : Prop := 0 ≤ x ∧ x ≤ 4294967295
end Go.Proofs.YtjdaplmlmmnokaaDoor.Sp
namespace Go.Proofs.YtjdaplmlmmnokaaDoor.Sy
def ct20 : Ct := { p := ty22, psh := [none], r := ty3, rsh := (Rsh.one (none)), pre := some Sp.pre20, fresh := none, F := Sp.F20 }
theorem va20 (x : ty22.den) : ((evFn (ctxG []) Tryd.f20 ty22 [none] (Rsh.one (none)) none ty3 noL x)).val (fun y => y) (Ty.dflt ty3) = Sp.F20 x := by kernel_rfl
theorem se20 (x : ty22.den) : ((evFn (ctxG []) Tryd.f20 ty22 [none] (Rsh.one (none)) none ty3 noL x)).safe = ((((decide (x ≥ (65536 : Int))) = true → ((0 ≤ (16 : Int)) ∧ (((decide ((Int.fdiv x (2 ^ (min ((16 : Int)).toNat IntKind.u32.bits))) ≥ (256 : Int))) = true → ((0 ≤ (8 : Int)) ∧ ((0 ≤ (IntKind.u8.wrap (Int.fdiv (Int.fdiv x (2 ^ (min ((16 : Int)).toNat IntKind.u32.bits))) (2 ^ (min ((8 : Int)).toNat IntKind.u32.bits)))) ∧ (IntKind.u8.wrap (Int.fdiv (Int.fdiv x (2 ^ (min ((16 : Int)).toNat IntKind.u32.bits))) (2 ^ (min ((8 : Int)).toNat IntKind.u32.bits)))) < ((Lib.len8tab).size : Int)) ∧ True))) ∧ ((decide ((Int.fdiv x (2 ^ (min ((16 : Int)).toNat IntKind.u32.bits))) ≥ (256 : Int))) = false → ((0 ≤ (IntKind.u8.wrap (Int.fdiv x (2 ^ (min ((16 : Int)).toNat IntKind.u32.bits)))) ∧ (IntKind.u8.wrap (Int.fdiv x (2 ^ (min ((16 : Int)).toNat IntKind.u32.bits)))) < ((Lib.len8tab).size : Int)) ∧ True))))) ∧ ((decide (x ≥ (65536 : Int))) = false → (((decide (x ≥ (256 : Int))) = true → ((0 ≤ (8 : Int)) ∧ ((0 ≤ (IntKind.u8.wrap (Int.fdiv x (2 ^ (min ((8 : Int)).toNat IntKind.u32.bits)))) ∧ (IntKind.u8.wrap (Int.fdiv x (2 ^ (min ((8 : Int)).toNat IntKind.u32.bits)))) < ((Lib.len8tab).size : Int)) ∧ True))) ∧ ((decide (x ≥ (256 : Int))) = false → ((0 ≤ (IntKind.u8.wrap x) ∧ (IntKind.u8.wrap x) < ((Lib.len8tab).size : Int)) ∧ True)))))) := by kernel_rfl
theorem sa20 (x : ty22.den) (fx : Fit ty22 x) (h : Sp.pre20 x) : SafeW ((evFn (ctxG []) Tryd.f20 ty22 [none] (Rsh.one (none)) none ty3 noL x)) := by
  refine ⟨?_⟩
  rw [se20]
  try dsimp only [Ty.den] at *
  simp only [Sp.pre20] at h
  have hs : ((Lib.len8tab).size : Int) = 256 := by rw [Sp.len_size]; rfl
  simp only [hs, Sp.d16, Sp.d8, IntKind.wrap_u8, decide_eq_true_eq, decide_eq_false_iff_not]
  repeat' (first | exact trivial | apply And.intro | intro _)
  all_goals omega
theorem ok20 : CtOk Tryd.prog gdS 20 ct20 :=
  fn_okU (ctxOkF gok_nil []) rfl Tryd.func20 (p := ty22) (psh := [none]) (r := ty3) (rsh := (Rsh.one (none))) (pre := some Sp.pre20) (fresh := none) (F := Sp.F20) (L := noL) (c := bodyOf Tryd.f20) (dflt := Ty.dflt ty3) rfl (no_loops)
    (safe_pre @sa20) va20
/-! math/bits.OnesCount32 -/
end Go.Proofs.YtjdaplmlmmnokaaDoor.Sy
namespace Go.Proofs.YtjdaplmlmmnokaaDoor.Sp
open Go Go.RowKit Sy
def F23 (x : Int) : Int :=
  (IntKind.i64.wrap (IntKind.u8.wrap ((IntKind.u8.wrap ((IntKind.u8.wrap ((strAt Lib.pop8tab (Int.fdiv x (2 ^ (min ((24 : Int)).toNat IntKind.u32.bits)))) + (strAt Lib.pop8tab (IntKind.u32.wrap ((BitVec.ofInt IntKind.u32.bits (Int.fdiv x (2 ^ (min ((16 : Int)).toNat IntKind.u32.bits))) &&& BitVec.ofInt IntKind.u32.bits (255 : Int)).toNat : Int))))) + (strAt Lib.pop8tab (IntKind.u32.wrap ((BitVec.ofInt IntKind.u32.bits (Int.fdiv x (2 ^ (min ((8 : Int)).toNat IntKind.u32.bits))) &&& BitVec.ofInt IntKind.u32.bits (255 : Int)).toNat : Int))))) + (strAt Lib.pop8tab (IntKind.u32.wrap ((BitVec.ofInt IntKind.u32.bits x &&& BitVec.ofInt IntKind.u32.bits (255 : Int)).toNat : Int))))))
def pre23 (x : Int) : Prop := 0 ≤ x ∧ x ≤ 4294967295
end Go.Proofs.YtjdaplmlmmnokaaDoor.Sp
namespace Go.Proofs.YtjdaplmlmmnokaaDoor.Sy
def ct23 : Ct := { p := ty22, psh := [none], r := ty3, rsh := (Rsh.one (none)), pre := some Sp.pre23, fresh := none, F := Sp.F23 }
theorem va23 (x : ty22.den) : ((evFn (ctxG []) Tryd.f23 ty22 [none] (Rsh.one (none)) none ty3 noL x)).val (fun y => y) (Ty.dflt ty3) = Sp.F23 x := by kernel_rfl
theorem se23 (x : ty22.den) : ((evFn (ctxG []) Tryd.f23 ty22 [none] (Rsh.one (none)) none ty3 noL x)).safe = (((0 ≤ (24 : Int)) ∧ ((0 ≤ (Int.fdiv x (2 ^ (min ((24 : Int)).toNat IntKind.u32.bits))) ∧ (Int.fdiv x (2 ^ (min ((24 : Int)).toNat IntKind.u32.bits))) < ((Lib.pop8tab).size : Int)) ∧ ((0 ≤ (16 : Int)) ∧ ((0 ≤ (IntKind.u32.wrap ((BitVec.ofInt IntKind.u32.bits (Int.fdiv x (2 ^ (min ((16 : Int)).toNat IntKind.u32.bits))) &&& BitVec.ofInt IntKind.u32.bits (255 : Int)).toNat : Int)) ∧ (IntKind.u32.wrap ((BitVec.ofInt IntKind.u32.bits (Int.fdiv x (2 ^ (min ((16 : Int)).toNat IntKind.u32.bits))) &&& BitVec.ofInt IntKind.u32.bits (255 : Int)).toNat : Int)) < ((Lib.pop8tab).size : Int)) ∧ ((0 ≤ (8 : Int)) ∧ ((0 ≤ (IntKind.u32.wrap ((BitVec.ofInt IntKind.u32.bits (Int.fdiv x (2 ^ (min ((8 : Int)).toNat IntKind.u32.bits))) &&& BitVec.ofInt IntKind.u32.bits (255 : Int)).toNat : Int)) ∧ (IntKind.u32.wrap ((BitVec.ofInt IntKind.u32.bits (Int.fdiv x (2 ^ (min ((8 : Int)).toNat IntKind.u32.bits))) &&& BitVec.ofInt IntKind.u32.bits (255 : Int)).toNat : Int)) < ((Lib.pop8tab).size : Int)) ∧ ((0 ≤ (IntKind.u32.wrap ((BitVec.ofInt IntKind.u32.bits x &&& BitVec.ofInt IntKind.u32.bits (255 : Int)).toNat : Int)) ∧ (IntKind.u32.wrap ((BitVec.ofInt IntKind.u32.bits x &&& BitVec.ofInt IntKind.u32.bits (255 : Int)).toNat : Int)) < ((Lib.pop8tab).size : Int)) ∧ True)))))))) := by kernel_rfl
theorem sa23 (x : ty22.den) (fx : Fit ty22 x) (h : Sp.pre23 x) : SafeW ((evFn (ctxG []) Tryd.f23 ty22 [none] (Rsh.one (none)) none ty3 noL x)) := by
  refine ⟨?_⟩
  rw [se23]
  try dsimp only [Ty.den] at *
  simp only [Sp.pre23] at h
  have hs : ((Lib.pop8tab).size : Int) = 256 := by rw [Sp.pop_size]; rfl
  rw [hs, Sp.d24, Sp.d16, Sp.d8, Sp.a255 _ (by omega) (by omega), Sp.a255 _ (by omega) (by omega), Sp.a255 _ (by omega) (by omega)]
  refine ⟨by omega, ⟨by omega, by omega⟩, by omega, ⟨by omega, by omega⟩, by omega, ⟨by omega, by omega⟩, ⟨by omega, by omega⟩, trivial⟩
theorem ok23 : CtOk Tryd.prog gdS 23 ct23 :=
  fn_okU (ctxOkF gok_nil []) rfl Tryd.func23 (p := ty22) (psh := [none]) (r := ty3) (rsh := (Rsh.one (none))) (pre := some Sp.pre23) (fresh := none) (F := Sp.F23) (L := noL) (c := bodyOf Tryd.f23) (dflt := Ty.dflt ty3) rfl (no_loops)
    (safe_pre @sa23) va23
def GmM0 : List (Nat × Ct) := (19, ct19) :: (20, ct20) :: (23, ct23) :: []
theorem gokGmM0 : GOk GmM0 := gok_cons ok19 ⟨_, Tryd.func19, by kernel_rfl, by kernel_rfl⟩ (gok_cons ok20 ⟨_, Tryd.func20, by kernel_rfl, by kernel_rfl⟩ (gok_cons ok23 ⟨_, Tryd.func23, by kernel_rfl, by kernel_rfl⟩ (gok_nil)))
end Go.Proofs.YtjdaplmlmmnokaaDoor.Sy
