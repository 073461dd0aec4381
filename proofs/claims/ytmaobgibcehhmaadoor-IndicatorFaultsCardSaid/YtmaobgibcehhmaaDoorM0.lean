/- Contracts of functions, by the evaluator (own program gen.py): math/bits.TrailingZeros32, math/bits.OnesCount32. -/
import Derived.Test.YtmaobgibcehhmaaDoorBt
set_option linter.unusedVariables false
set_option linter.unusedSimpArgs false
set_option maxRecDepth 100000
namespace Go.Proofs.YtmaobgibcehhmaaDoor.Sy
open Go Go.RowKit Sp
/-! math/bits.TrailingZeros32 -/
end Go.Proofs.YtmaobgibcehhmaaDoor.Sy
namespace Go.Proofs.YtmaobgibcehhmaaDoor.Sp
open Go Go.RowKit Sy
def F11 (x : Int) : Int :=
  bif (x == (0 : Int)) then
    (32 : Int)
  else
    (IntKind.i64.wrap (Sp.nthT tabB (Int.fdiv (IntKind.u32.wrap ((IntKind.u32.wrap ((BitVec.ofInt IntKind.u32.bits x &&& BitVec.ofInt IntKind.u32.bits (IntKind.u32.wrap (0 - x))).toNat : Int)) * (125613361 : Int))) (2 ^ (min ((27 : Int)).toNat IntKind.u32.bits)))))
def pre11 (x : Int) : Prop := 0 ≤ x ∧ x ≤ 4294967295
end Go.Proofs.YtmaobgibcehhmaaDoor.Sp
namespace Go.Proofs.YtmaobgibcehhmaaDoor.Sy
def ct11 : Ct := { p := ty22, psh := [none], r := ty3, rsh := (Rsh.one (none)), pre := some Sp.pre11, fresh := none, F := Sp.F11 }
theorem va11 (x : ty22.den) : ((evFn (ctxG []) Tryd.f11 ty22 [none] (Rsh.one (none)) none ty3 noL x)).val (fun y => y) (Ty.dflt ty3) = Sp.F11 x := by kernel_rfl
theorem se11 (x : ty22.den) : ((evFn (ctxG []) Tryd.f11 ty22 [none] (Rsh.one (none)) none ty3 noL x)).safe = ((((x == (0 : Int)) = true → True) ∧ ((x == (0 : Int)) = false → ((0 ≤ (27 : Int)) ∧ ((0 ≤ (Int.fdiv (IntKind.u32.wrap ((IntKind.u32.wrap ((BitVec.ofInt IntKind.u32.bits x &&& BitVec.ofInt IntKind.u32.bits (IntKind.u32.wrap (0 - x))).toNat : Int)) * (125613361 : Int))) (2 ^ (min ((27 : Int)).toNat IntKind.u32.bits))) ∧ (Int.fdiv (IntKind.u32.wrap ((IntKind.u32.wrap ((BitVec.ofInt IntKind.u32.bits x &&& BitVec.ofInt IntKind.u32.bits (IntKind.u32.wrap (0 - x))).toNat : Int)) * (125613361 : Int))) (2 ^ (min ((27 : Int)).toNat IntKind.u32.bits))) < (32 : Int)) ∧ True))))) := by kernel_rfl
theorem sa11 (x : ty22.den) (fx : Fit ty22 x) (h : Sp.pre11 x) : SafeW ((evFn (ctxG []) Tryd.f11 ty22 [none] (Rsh.one (none)) none ty3 noL x)) := by
  refine ⟨?_⟩
  rw [se11]
  try dsimp only [Ty.den] at *
  simp only [Sp.pre11] at h
  refine ⟨fun _ => trivial, fun _ => ⟨by omega, ?_, trivial⟩⟩
  rw [Sp.d27, IntKind.wrap_u32]
  omega
theorem ok11 : CtOk Tryd.prog gdS 11 ct11 :=
  fn_okU (ctxOkF gok_nil []) rfl Tryd.func11 (p := ty22) (psh := [none]) (r := ty3) (rsh := (Rsh.one (none))) (pre := some Sp.pre11) (fresh := none) (F := Sp.F11) (L := noL) (c := bodyOf Tryd.f11) (dflt := Ty.dflt ty3) rfl (no_loops)
    (safe_pre @sa11) va11
/-! math/bits.OnesCount32 -/
end Go.Proofs.YtmaobgibcehhmaaDoor.Sy
namespace Go.Proofs.YtmaobgibcehhmaaDoor.Sp
open Go Go.RowKit Sy
def F12 (x : Int) : Int :=
  (IntKind.i64.wrap (IntKind.u8.wrap ((IntKind.u8.wrap ((IntKind.u8.wrap ((strAt Lib.pop8tab (Int.fdiv x (2 ^ (min ((24 : Int)).toNat IntKind.u32.bits)))) + (strAt Lib.pop8tab (IntKind.u32.wrap ((BitVec.ofInt IntKind.u32.bits (Int.fdiv x (2 ^ (min ((16 : Int)).toNat IntKind.u32.bits))) &&& BitVec.ofInt IntKind.u32.bits (255 : Int)).toNat : Int))))) + (strAt Lib.pop8tab (IntKind.u32.wrap ((BitVec.ofInt IntKind.u32.bits (Int.fdiv x (2 ^ (min ((8 : Int)).toNat IntKind.u32.bits))) &&& BitVec.ofInt IntKind.u32.bits (255 : Int)).toNat : Int))))) + (strAt Lib.pop8tab (IntKind.u32.wrap ((BitVec.ofInt IntKind.u32.bits x &&& BitVec.ofInt IntKind.u32.bits (255 : Int)).toNat : Int))))))
def pre12 (x : Int) : Prop := 0 ≤ x ∧ x ≤ 4294967295
end Go.Proofs.YtmaobgibcehhmaaDoor.Sp
namespace Go.Proofs.YtmaobgibcehhmaaDoor.Sy
def ct12 : Ct := { p := ty22, psh := [none], r := ty3, rsh := (Rsh.one (none)), pre := some Sp.pre12, fresh := none, F := Sp.F12 }
theorem va12 (x : ty22.den) : ((evFn (ctxG []) Tryd.f12 ty22 [none] (Rsh.one (none)) none ty3 noL x)).val (fun y => y) (Ty.dflt ty3) = Sp.F12 x := by kernel_rfl
theorem se12 (x : ty22.den) : ((evFn (ctxG []) Tryd.f12 ty22 [none] (Rsh.one (none)) none ty3 noL x)).safe = (((0 ≤ (24 : Int)) ∧ ((0 ≤ (Int.fdiv x (2 ^ (min ((24 : Int)).toNat IntKind.u32.bits))) ∧ (Int.fdiv x (2 ^ (min ((24 : Int)).toNat IntKind.u32.bits))) < ((Lib.pop8tab).size : Int)) ∧ ((0 ≤ (16 : Int)) ∧ ((0 ≤ (IntKind.u32.wrap ((BitVec.ofInt IntKind.u32.bits (Int.fdiv x (2 ^ (min ((16 : Int)).toNat IntKind.u32.bits))) &&& BitVec.ofInt IntKind.u32.bits (255 : Int)).toNat : Int)) ∧ (IntKind.u32.wrap ((BitVec.ofInt IntKind.u32.bits (Int.fdiv x (2 ^ (min ((16 : Int)).toNat IntKind.u32.bits))) &&& BitVec.ofInt IntKind.u32.bits (255 : Int)).toNat : Int)) < ((Lib.pop8tab).size : Int)) ∧ ((0 ≤ (8 : Int)) ∧ ((0 ≤ (IntKind.u32.wrap ((BitVec.ofInt IntKind.u32.bits (Int.fdiv x (2 ^ (min ((8 : Int)).toNat IntKind.u32.bits))) &&& BitVec.ofInt IntKind.u32.bits (255 : Int)).toNat : Int)) ∧ (IntKind.u32.wrap ((BitVec.ofInt IntKind.u32.bits (Int.fdiv x (2 ^ (min ((8 : Int)).toNat IntKind.u32.bits))) &&& BitVec.ofInt IntKind.u32.bits (255 : Int)).toNat : Int)) < ((Lib.pop8tab).size : Int)) ∧ ((0 ≤ (IntKind.u32.wrap ((BitVec.ofInt IntKind.u32.bits x &&& BitVec.ofInt IntKind.u32.bits (255 : Int)).toNat : Int)) ∧ (IntKind.u32.wrap ((BitVec.ofInt IntKind.u32.bits x &&& BitVec.ofInt IntKind.u32.bits (255 : Int)).toNat : Int)) < ((Lib.pop8tab).size : Int)) ∧ True)))))))) := by kernel_rfl
theorem sa12 (x : ty22.den) (fx : Fit ty22 x) (h : Sp.pre12 x) : SafeW ((evFn (ctxG []) Tryd.f12 ty22 [none] (Rsh.one (none)) none ty3 noL x)) := by
  refine ⟨?_⟩
  rw [se12]
  try dsimp only [Ty.den] at *
  simp only [Sp.pre12] at h
  have hs : ((Lib.pop8tab).size : Int) = 256 := by rw [Sp.pop_size]; rfl
  rw [hs, Sp.d24, Sp.d16, Sp.d8, Sp.a255 _ (by omega) (by omega), Sp.a255 _ (by omega) (by omega), Sp.a255 _ (by omega) (by omega)]
  refine ⟨by omega, ⟨by omega, by omega⟩, by omega, ⟨by omega, by omega⟩, by omega, ⟨by omega, by omega⟩, ⟨by omega, by omega⟩, trivial⟩
theorem ok12 : CtOk Tryd.prog gdS 12 ct12 :=
  fn_okU (ctxOkF gok_nil []) rfl Tryd.func12 (p := ty22) (psh := [none]) (r := ty3) (rsh := (Rsh.one (none))) (pre := some Sp.pre12) (fresh := none) (F := Sp.F12) (L := noL) (c := bodyOf Tryd.f12) (dflt := Ty.dflt ty3) rfl (no_loops)
    (safe_pre @sa12) va12
def GmM0 : List (Nat × Ct) := (11, ct11) :: (12, ct12) :: []
theorem gokGmM0 : GOk GmM0 := gok_cons ok11 ⟨_, Tryd.func11, by kernel_rfl, by kernel_rfl⟩ (gok_cons ok12 ⟨_, Tryd.func12, by kernel_rfl, by kernel_rfl⟩ (gok_nil))
end Go.Proofs.YtmaobgibcehhmaaDoor.Sy
