/- Contracts of functions, by the evaluator (own program gen.py): door.isCount, door.more, door.enter, door.Late. -/
import Derived.Test.YtkanaakceokifaaSf
set_option linter.unusedVariables false
set_option linter.unusedSimpArgs false
set_option maxRecDepth 100000
namespace Go.Proofs.Ytkanaakceokifaa.Sy
open Go Go.RowKit Sp
/-! door.isCount -/
end Go.Proofs.Ytkanaakceokifaa.Sy
namespace Go.Proofs.Ytkanaakceokifaa.Sp
open Go Go.RowKit Sy
def F54 (x : Int) : Bool :=
  ((decide (x ≥ (0 : Int))) && (decide (x ≤ (1000000 : Int))))
end Go.Proofs.Ytkanaakceokifaa.Sp
namespace Go.Proofs.Ytkanaakceokifaa.Sy
def ct54 : Ct := { p := ty3, psh := [none], r := ty4, rsh := (Rsh.one (none)), pre := none, fresh := none, F := Sp.F54 }
theorem va54 (x : ty3.den) : ((evFn (ctxG []) Try.f54 ty3 [none] (Rsh.one (none)) none ty4 noL x)).val (fun y => y) (Ty.dflt ty4) = Sp.F54 x := by kernel_rfl
theorem se54 (x : ty3.den) : ((evFn (ctxG []) Try.f54 ty3 [none] (Rsh.one (none)) none ty4 noL x)).safe = (True) := by kernel_rfl
theorem sa54 (x : ty3.den) (fx : Fit ty3 x) : SafeW ((evFn (ctxG []) Try.f54 ty3 [none] (Rsh.one (none)) none ty4 noL x)) := by
  refine ⟨?_⟩
  rw [se54]
  trivial
theorem ok54 : CtOk Try.prog gdS 54 ct54 :=
  fn_okU (ctxOkF gok_nil []) rfl Try.func54 (p := ty3) (psh := [none]) (r := ty4) (rsh := (Rsh.one (none))) (pre := none) (fresh := none) (F := Sp.F54) (L := noL) (c := bodyOf Try.f54) (dflt := Ty.dflt ty4) rfl (no_loops)
    (safe_no @sa54) va54
/-! door.more -/
end Go.Proofs.Ytkanaakceokifaa.Sy
namespace Go.Proofs.Ytkanaakceokifaa.Sp
open Go Go.RowKit Sy
def F49 (x : Int) : Int :=
  (min (IntKind.i64.wrap (x + (1 : Int))) (1000000 : Int))
end Go.Proofs.Ytkanaakceokifaa.Sp
namespace Go.Proofs.Ytkanaakceokifaa.Sy
def ct49 : Ct := { p := ty3, psh := [none], r := ty3, rsh := (Rsh.one (none)), pre := none, fresh := none, F := Sp.F49 }
theorem va49 (x : ty3.den) : ((evFn (ctxG []) Try.f49 ty3 [none] (Rsh.one (none)) none ty3 noL x)).val (fun y => y) (Ty.dflt ty3) = Sp.F49 x := by kernel_rfl
theorem se49 (x : ty3.den) : ((evFn (ctxG []) Try.f49 ty3 [none] (Rsh.one (none)) none ty3 noL x)).safe = (True) := by kernel_rfl
theorem sa49 (x : ty3.den) (fx : Fit ty3 x) : SafeW ((evFn (ctxG []) Try.f49 ty3 [none] (Rsh.one (none)) none ty3 noL x)) := by
  refine ⟨?_⟩
  rw [se49]
  trivial
theorem ok49 : CtOk Try.prog gdS 49 ct49 :=
  fn_okU (ctxOkF gok_nil []) rfl Try.func49 (p := ty3) (psh := [none]) (r := ty3) (rsh := (Rsh.one (none))) (pre := none) (fresh := none) (F := Sp.F49) (L := noL) (c := bodyOf Try.f49) (dflt := Ty.dflt ty3) rfl (no_loops)
    (safe_no @sa49) va49
/-! door.enter -/
end Go.Proofs.Ytkanaakceokifaa.Sy
namespace Go.Proofs.Ytkanaakceokifaa.Sp
open Go Go.RowKit Sy
def F46 (x : (Int × Int × Int × Bool × Int) × Int) : Int × Int × Int × Bool × Int :=
  (x.2, (0 : Int), x.1.2.2)
end Go.Proofs.Ytkanaakceokifaa.Sp
namespace Go.Proofs.Ytkanaakceokifaa.Sy
def ct46 : Ct := { p := (Ty.pair ty42 ty3), psh := [some 5, none], r := ty42, rsh := (Rsh.one (some 5)), pre := none, fresh := none, F := Sp.F46 }
theorem va46 (x : (Ty.pair ty42 ty3).den) : ((evFn (ctxG []) Try.f46 (Ty.pair ty42 ty3) [some 5, none] (Rsh.one (some 5)) none ty42 noL x)).val (fun y => y) (Ty.dflt ty42) = Sp.F46 x := by kernel_rfl
theorem se46 (x : (Ty.pair ty42 ty3).den) : ((evFn (ctxG []) Try.f46 (Ty.pair ty42 ty3) [some 5, none] (Rsh.one (some 5)) none ty42 noL x)).safe = (True) := by kernel_rfl
theorem sa46 (x : (Ty.pair ty42 ty3).den) (fx : Fit (Ty.pair ty42 ty3) x) : SafeW ((evFn (ctxG []) Try.f46 (Ty.pair ty42 ty3) [some 5, none] (Rsh.one (some 5)) none ty42 noL x)) := by
  refine ⟨?_⟩
  rw [se46]
  trivial
theorem ok46 : CtOk Try.prog gdS 46 ct46 :=
  fn_okU (ctxOkF gok_nil []) rfl Try.func46 (p := (Ty.pair ty42 ty3)) (psh := [some 5, none]) (r := ty42) (rsh := (Rsh.one (some 5))) (pre := none) (fresh := none) (F := Sp.F46) (L := noL) (c := bodyOf Try.f46) (dflt := Ty.dflt ty42) rfl (no_loops)
    (safe_no @sa46) va46
/-! door.Late -/
end Go.Proofs.Ytkanaakceokifaa.Sy
namespace Go.Proofs.Ytkanaakceokifaa.Sp
open Go Go.RowKit Sy
def F26 (x : (Int × Int × Int × Int × Int × Int × Int × Int × Int) × Int × Int × Int × Bool × Int) : Bool :=
  (((x.2.1 == (1 : Int)) || (x.2.1 == (3 : Int))) && (decide (x.2.2.1 > x.1.2.2.2.2.2.1)))
end Go.Proofs.Ytkanaakceokifaa.Sp
namespace Go.Proofs.Ytkanaakceokifaa.Sy
def ct26 : Ct := { p := (Ty.pair ty33 ty42), psh := [some 9, some 5], r := ty4, rsh := (Rsh.one (none)), pre := none, fresh := none, F := Sp.F26 }
theorem va26 (x : (Ty.pair ty33 ty42).den) : ((evFn (ctxG []) Try.f26 (Ty.pair ty33 ty42) [some 9, some 5] (Rsh.one (none)) none ty4 noL x)).val (fun y => y) (Ty.dflt ty4) = Sp.F26 x := by kernel_rfl
theorem se26 (x : (Ty.pair ty33 ty42).den) : ((evFn (ctxG []) Try.f26 (Ty.pair ty33 ty42) [some 9, some 5] (Rsh.one (none)) none ty4 noL x)).safe = (True) := by kernel_rfl
theorem sa26 (x : (Ty.pair ty33 ty42).den) (fx : Fit (Ty.pair ty33 ty42) x) : SafeW ((evFn (ctxG []) Try.f26 (Ty.pair ty33 ty42) [some 9, some 5] (Rsh.one (none)) none ty4 noL x)) := by
  refine ⟨?_⟩
  rw [se26]
  trivial
theorem ok26 : CtOk Try.prog gdS 26 ct26 :=
  fn_okU (ctxOkF gok_nil []) rfl Try.func26 (p := (Ty.pair ty33 ty42)) (psh := [some 9, some 5]) (r := ty4) (rsh := (Rsh.one (none))) (pre := none) (fresh := none) (F := Sp.F26) (L := noL) (c := bodyOf Try.f26) (dflt := Ty.dflt ty4) rfl (no_loops)
    (safe_no @sa26) va26
def GmD0 : List (Nat × Ct) := (54, ct54) :: (49, ct49) :: (46, ct46) :: (26, ct26) :: []
theorem gokGmD0 : GOk GmD0 := gok_cons ok54 ⟨_, Try.func54, by kernel_rfl, by kernel_rfl⟩ (gok_cons ok49 ⟨_, Try.func49, by kernel_rfl, by kernel_rfl⟩ (gok_cons ok46 ⟨_, Try.func46, by kernel_rfl, by kernel_rfl⟩ (gok_cons ok26 ⟨_, Try.func26, by kernel_rfl, by kernel_rfl⟩ (gok_nil))))
end Go.Proofs.Ytkanaakceokifaa.Sy
