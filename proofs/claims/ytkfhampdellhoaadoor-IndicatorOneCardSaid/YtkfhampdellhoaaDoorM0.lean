/- Contracts of functions, by the evaluator (own program gen.py): math/bits.TrailingZeros32, math/bits.OnesCount32. -/
import Derived.Test.YtkfhampdellhoaaDoorBt
set_option linter.unusedVariables false
set_option linter.unusedSimpArgs false
set_option maxRecDepth 100000
namespace Go.Proofs.YtkfhampdellhoaaDoor.Sy
open Go Go.RowKit Sp
/-! math/bits.TrailingZeros32 -/
end Go.Proofs.YtkfhampdellhoaaDoor.Sy
namespace Go.Proofs.YtkfhampdellhoaaDoor.Sp
open Go Go.RowKit Sy
def F17 (x : Int) : Int :=
  bif (x == (0 : Int)) then
    (32 : Int)
  else
    (IntKind.i64.wrap (Sp.nthT tabB (Int.fdiv (IntKind.u32.wrap ((IntKind.u32.wrap ((BitVec.ofInt IntKind.u32.bits x &&& BitVec.ofInt IntKind.u32.bits (IntKind.u32.wrap (0 - x))).toNat : Int)) * (125613361 : Int))) (2 ^ (min ((27 : Int)).toNat IntKind.u32.bits)))))
def pre17 (x : Int) : Prop := 0 ≤ x ∧ x ≤ 4294967295
end Go.Proofs.YtkfhampdellhoaaDoor.Sp
namespace Go.Proofs.YtkfhampdellhoaaDoor.Sy
def ct17 : Ct := { p := ty22, psh := [none], r := ty3, rsh := (Rsh.one (none)), pre := some Sp.pre17, fresh := none, F := Sp.F17 }
theorem va17 (x : ty22.den) : ((evFn (ctxG []) Tryd.f17 ty22 [none] (Rsh.one (none)) none ty3 noL x)).val (fun y => y) (Ty.dflt ty3) = Sp.F17 x := by kernel_rfl
theorem se17 (x : ty22.den) : ((evFn (ctxG []) Tryd.f17 ty22 [none] (Rsh.one (none)) none ty3 noL x)).safe = ((((x == (0 : Int)) = true → True) ∧ ((x == (0 : Int)) = false → ((0 ≤ (27 : Int)) ∧ ((0 ≤ (Int.fdiv (IntKind.u32.wrap ((IntKind.u32.wrap ((BitVec.ofInt IntKind.u32.bits x &&& BitVec.ofInt IntKind.u32.bits (IntKind.u32.wrap (0 - x))).toNat : Int)) * (125613361 : Int))) (2 ^ (min ((27 : Int)).toNat IntKind.u32.bits))) ∧ (Int.fdiv (IntKind.u32.wrap ((IntKind.u32.wrap ((BitVec.ofInt IntKind.u32.bits x &&& BitVec.ofInt IntKind.u32.bits (IntKind.u32.wrap (0 - x))).toNat : Int)) * (125613361 : Int))) (2 ^ (min ((27 : Int)).toNat IntKind.u32.bits))) < (32 : Int)) ∧ True))))) := by kernel_rfl
theorem sa17 (x : ty22.den) (fx : Fit ty22 x) (h : Sp.pre17 x) : SafeW ((evFn (ctxG []) Tryd.f17 ty22 [none] (Rsh.one (none)) none ty3 noL x)) := by
  refine ⟨?_⟩
  rw [se17]
  try dsimp only [Ty.den] at *
  simp only [Sp.pre17] at h
  refine ⟨fun _ => trivial, fun _ => ⟨by omega, ?_, trivial⟩⟩
  rw [Sp.d27, IntKind.wrap_u32]
  omega
theorem ok17 : CtOk Tryd.prog gdS 17 ct17 :=
  fn_okU (ctxOkF gok_nil []) rfl Tryd.func17 (p := ty22) (psh := [none]) (r := ty3) (rsh := (Rsh.one (none))) (pre := some Sp.pre17) (fresh := none) (F := Sp.F17) (L := noL) (c := bodyOf Tryd.f17) (dflt := Ty.dflt ty3) rfl (no_loops)
    (safe_pre @sa17) va17
/-! math/bits.OnesCount32 -/
end Go.Proofs.YtkfhampdellhoaaDoor.Sy
namespace Go.Proofs.YtkfhampdellhoaaDoor.Sp
open Go Go.RowKit Sy
def F19 (x : Int) : Int :=
  (IntKind.i64.wrap (IntKind.u8.wrap ((IntKind.u8.wrap ((IntKind.u8.wrap ((strAt Lib.pop8tab (Int.fdiv x (2 ^ (min ((24 : Int)).toNat IntKind.u32.bits)))) + (strAt Lib.pop8tab (IntKind.u32.wrap ((BitVec.ofInt IntKind.u32.bits (Int.fdiv x (2 ^ (min ((16 : Int)).toNat IntKind.u32.bits))) &&& BitVec.ofInt IntKind.u32.bits (255 : Int)).toNat : Int))))) + (strAt Lib.pop8tab (IntKind.u32.wrap ((BitVec.ofInt IntKind.u32.bits (Int.fdiv x (2 ^ (min ((8 : Int)).toNat IntKind.u32.bits))) &&& BitVec.ofInt IntKind.u32.bits (255 : Int)).toNat : Int))))) + (strAt Lib.pop8tab (IntKind.u32.wrap ((BitVec.ofInt IntKind.u32.bits x &&& BitVec.ofInt IntKind.u32.bits (255 : Int)).toNat : Int))))))
def pre19 (x : Int) : Prop := 0 ≤ x ∧ x ≤ 4294967295
end Go.Proofs.YtkfhampdellhoaaDoor.Sp
namespace Go.Proofs.YtkfhampdellhoaaDoor.Sy
def ct19 : Ct := { p := ty22, psh := [none], r := ty3, rsh := (Rsh.one (none)), pre := some Sp.pre19, fresh := none, F := Sp.F19 }
theorem va19 (x : ty22.den) : ((evFn (ctxG []) Tryd.f19 ty22 [none] (Rsh.one (none)) none ty3 noL x)).val (fun y => y) (Ty.dflt ty3) = Sp.F19 x := by kernel_rfl
theorem se19 (x : ty22.den) : ((evFn (ctxG []) Tryd.f19 ty22 [none] (Rsh.one (none)) none ty3 noL x)).safe = (((0 ≤ (24 : Int)) ∧ ((0 ≤ (Int.fdiv x (2 ^ (min ((24 : Int)).toNat IntKind.u32.bits))) ∧ (Int.fdiv x (2 ^ (min ((24 : Int)).toNat IntKind.u32.bits))) < ((Lib.pop8tab).size : Int)) ∧ ((0 ≤ (16 : Int)) ∧ ((0 ≤ (IntKind.u32.wrap ((BitVec.ofInt IntKind.u32.bits (Int.fdiv x (2 ^ (min ((16 : Int)).toNat IntKind.u32.bits))) &&& BitVec.ofInt IntKind.u32.bits (255 : Int)).toNat : Int)) ∧ (IntKind.u32.wrap ((BitVec.ofInt IntKind.u32.bits (Int.fdiv x (2 ^ (min ((16 : Int)).toNat IntKind.u32.bits))) &&& BitVec.ofInt IntKind.u32.bits (255 : Int)).toNat : Int)) < ((Lib.pop8tab).size : Int)) ∧ ((0 ≤ (8 : Int)) ∧ ((0 ≤ (IntKind.u32.wrap ((BitVec.ofInt IntKind.u32.bits (Int.fdiv x (2 ^ (min ((8 : Int)).toNat IntKind.u32.bits))) &&& BitVec.ofInt IntKind.u32.bits (255 : Int)).toNat : Int)) ∧ (IntKind.u32.wrap ((BitVec.ofInt IntKind.u32.bits (Int.fdiv x (2 ^ (min ((8 : Int)).toNat IntKind.u32.bits))) &&& BitVec.ofInt IntKind.u32.bits (255 : Int)).toNat : Int)) < ((Lib.pop8tab).size : Int)) ∧ ((0 ≤ (IntKind.u32.wrap ((BitVec.ofInt IntKind.u32.bits x &&& BitVec.ofInt IntKind.u32.bits (255 : Int)).toNat : Int)) ∧ (IntKind.u32.wrap ((BitVec.ofInt IntKind.u32.bits x &&& BitVec.ofInt IntKind.u32.bits (255 : Int)).toNat : Int)) < ((Lib.pop8tab).size : Int)) ∧ True)))))))) := by kernel_rfl
theorem sa19 (x : ty22.den) (fx : Fit ty22 x) (h : Sp.pre19 x) : SafeW ((evFn (ctxG []) Tryd.f19 ty22 [none] (Rsh.one (none)) none ty3 noL x)) := by
  refine ⟨?_⟩
  rw [se19]
  try dsimp only [Ty.den] at *
  simp only [Sp.pre19] at h
  have hs : ((Lib.pop8tab).size : Int) = 256 := by rw [Sp.pop_size]; rfl
  rw [hs, Sp.d24, Sp.d16, Sp.d8, Sp.a255 _ (by omega) (by omega), Sp.a255 _ (by omega) (by omega), Sp.a255 _ (by omega) (by omega)]
  refine ⟨by omega, ⟨by omega, by omega⟩, by omega, ⟨by omega, by omega⟩, by omega, ⟨by omega, by omega⟩, ⟨by omega, by omega⟩, trivial⟩
theorem ok19 : CtOk Tryd.prog gdS 19 ct19 :=
  fn_okU (ctxOkF gok_nil []) rfl Tryd.func19 (p := ty22) (psh := [none]) (r := ty3) (rsh := (Rsh.one (none))) (pre := some Sp.pre19) (fresh := none) (F := Sp.F19) (L := noL) (c := bodyOf Tryd.f19) (dflt := Ty.dflt ty3) rfl (no_loops)
    (safe_pre @sa19) va19
def GmM0 : List (Nat × Ct) := (17, ct17) :: (19, ct19) :: []
theorem gokGmM0 : GOk GmM0 := gok_cons ok17 ⟨_, Tryd.func17, by kernel_rfl, by kernel_rfl⟩ (gok_cons ok19 ⟨_, Tryd.func19, by kernel_rfl, by kernel_rfl⟩ (gok_nil))
end Go.Proofs.YtkfhampdellhoaaDoor.Sy
