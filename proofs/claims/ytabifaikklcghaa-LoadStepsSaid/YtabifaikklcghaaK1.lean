/- Contracts of functions, by the evaluator (own program gen.py): load.Step, load.Class, math.Nextafter, overlayref06.Step. -/
import Derived.Test.YtabifaikklcghaaLe
set_option linter.unusedVariables false
set_option linter.unusedSimpArgs false
set_option maxRecDepth 100000
namespace Go.Proofs.Ytabifaikklcghaa.Sy
open Go Go.RowKit Sp
/-! load.Step -/
end Go.Proofs.Ytabifaikklcghaa.Sy
namespace Go.Proofs.Ytabifaikklcghaa.Sp
open Go Go.RowKit Sy
def F29 (x : (Int × Int × Int × Int × Nat × Nat × Nat × List (Int × Int × Int × Int × Int × Int × Int × Int × Int)) × Int × Nat) : Int :=
  bif ((Sp.F37 x.1) != (0 : Int)) then
    (0 : Int)
  else
    bif (((Sp.F46 (x.1, x.2.2)) != (0 : Int)) && (decide ((Sp.F46 (x.1, x.2.2)) < x.2.1))) then
      (bif (x.2.1 == (3 : Int)) then
        (bif ((FloatKind.f64.format.order x.2.2 ((FloatKind.f64.format.sub x.1.2.2.2.2.2.1 (4589168020290535424 : Nat)).getD 0)) == some Ordering.gt || (FloatKind.f64.format.order x.2.2 ((FloatKind.f64.format.sub x.1.2.2.2.2.2.1 (4589168020290535424 : Nat)).getD 0)) == some Ordering.eq) then
          x.2.1
        else
          (Sp.F46 (x.1, x.2.2)))
      else
        bif (x.2.1 == (4 : Int)) then
          (bif ((FloatKind.f64.format.order x.2.2 ((FloatKind.f64.format.sub x.1.2.2.2.2.2.2.1 (4589168020290535424 : Nat)).getD 0)) == some Ordering.gt || (FloatKind.f64.format.order x.2.2 ((FloatKind.f64.format.sub x.1.2.2.2.2.2.2.1 (4589168020290535424 : Nat)).getD 0)) == some Ordering.eq) then
            x.2.1
          else
            (Sp.F46 (x.1, x.2.2)))
        else
          (Sp.F46 (x.1, x.2.2)))
    else
      (Sp.F46 (x.1, x.2.2))
end Go.Proofs.Ytabifaikklcghaa.Sp
namespace Go.Proofs.Ytabifaikklcghaa.Sy
def ct29 : Ct := { p := (Ty.pair ty28 (Ty.pair ty50 ty25)), psh := [some 8, some 1, none], r := ty50, rsh := (Rsh.one (some 1)), pre := none, fresh := none, F := Sp.F29 }
theorem va29 (x : (Ty.pair ty28 (Ty.pair ty50 ty25)).den) : ((evFn (ctxG GmK0) Try.f29 (Ty.pair ty28 (Ty.pair ty50 ty25)) [some 8, some 1, none] (Rsh.one (some 1)) none ty50 noL x)).val (fun y => y) (Ty.dflt ty50) = Sp.F29 x := by kernel_rfl
theorem se29 (x : (Ty.pair ty28 (Ty.pair ty50 ty25)).den) : ((evFn (ctxG GmK0) Try.f29 (Ty.pair ty28 (Ty.pair ty50 ty25)) [some 8, some 1, none] (Rsh.one (some 1)) none ty50 noL x)).safe = (((((Sp.F37 x.1) != (0 : Int)) = true → True) ∧ (((Sp.F37 x.1) != (0 : Int)) = false → (((((Sp.F46 (x.1, x.2.2)) != (0 : Int)) && (decide ((Sp.F46 (x.1, x.2.2)) < x.2.1))) = true → (((x.2.1 == (3 : Int)) = true → (((FloatKind.f64.format.sub x.1.2.2.2.2.2.1 (4589168020290535424 : Nat)).isSome = true) ∧ ((((FloatKind.f64.format.order x.2.2 ((FloatKind.f64.format.sub x.1.2.2.2.2.2.1 (4589168020290535424 : Nat)).getD 0)) == some Ordering.gt || (FloatKind.f64.format.order x.2.2 ((FloatKind.f64.format.sub x.1.2.2.2.2.2.1 (4589168020290535424 : Nat)).getD 0)) == some Ordering.eq) = true → True) ∧ (((FloatKind.f64.format.order x.2.2 ((FloatKind.f64.format.sub x.1.2.2.2.2.2.1 (4589168020290535424 : Nat)).getD 0)) == some Ordering.gt || (FloatKind.f64.format.order x.2.2 ((FloatKind.f64.format.sub x.1.2.2.2.2.2.1 (4589168020290535424 : Nat)).getD 0)) == some Ordering.eq) = false → True)))) ∧ ((x.2.1 == (3 : Int)) = false → (((x.2.1 == (4 : Int)) = true → (((FloatKind.f64.format.sub x.1.2.2.2.2.2.2.1 (4589168020290535424 : Nat)).isSome = true) ∧ ((((FloatKind.f64.format.order x.2.2 ((FloatKind.f64.format.sub x.1.2.2.2.2.2.2.1 (4589168020290535424 : Nat)).getD 0)) == some Ordering.gt || (FloatKind.f64.format.order x.2.2 ((FloatKind.f64.format.sub x.1.2.2.2.2.2.2.1 (4589168020290535424 : Nat)).getD 0)) == some Ordering.eq) = true → True) ∧ (((FloatKind.f64.format.order x.2.2 ((FloatKind.f64.format.sub x.1.2.2.2.2.2.2.1 (4589168020290535424 : Nat)).getD 0)) == some Ordering.gt || (FloatKind.f64.format.order x.2.2 ((FloatKind.f64.format.sub x.1.2.2.2.2.2.2.1 (4589168020290535424 : Nat)).getD 0)) == some Ordering.eq) = false → True)))) ∧ ((x.2.1 == (4 : Int)) = false → True))))) ∧ ((((Sp.F46 (x.1, x.2.2)) != (0 : Int)) && (decide ((Sp.F46 (x.1, x.2.2)) < x.2.1))) = false → True))))) := by kernel_rfl
theorem sa29 (x : (Ty.pair ty28 (Ty.pair ty50 ty25)).den) (fx : Fit (Ty.pair ty28 (Ty.pair ty50 ty25)) x) : SafeW ((evFn (ctxG GmK0) Try.f29 (Ty.pair ty28 (Ty.pair ty50 ty25)) [some 8, some 1, none] (Rsh.one (some 1)) none ty50 noL x)) := by
  refine ⟨?_⟩
  rw [se29]
  try dsimp only [Ty.den] at *
  refine ⟨fun _ => trivial, fun hv => ?_⟩
  have hb := Sp.lds_of (Sp.valid_b (Sp.fit_cars fx.1) (by simpa using hv)).loads
  obtain ⟨z1, e1, _⟩ := Sp.sub_ok hb.fu Sp.margin_num
  obtain ⟨z2, e2, _⟩ := Sp.sub_ok hb.ov Sp.margin_num
  have e1' : (FloatKind.f64.format.sub x.1.2.2.2.2.2.1 4589168020290535424).isSome = true := by rw [show FloatKind.f64.format.sub x.1.2.2.2.2.2.1 4589168020290535424 = some z1 from e1]; rfl
  have e2' : (FloatKind.f64.format.sub x.1.2.2.2.2.2.2.1 4589168020290535424).isSome = true := by rw [show FloatKind.f64.format.sub x.1.2.2.2.2.2.2.1 4589168020290535424 = some z2 from e2]; rfl
  simp only [e1', e2', implies_true, and_true, true_and]
theorem ok29 : CtOk Try.prog gdS 29 ct29 :=
  fn_okU (ctxOkF gokGmK0 []) rfl Try.func29 (p := (Ty.pair ty28 (Ty.pair ty50 ty25))) (psh := [some 8, some 1, none]) (r := ty50) (rsh := (Rsh.one (some 1))) (pre := none) (fresh := none) (F := Sp.F29) (L := noL) (c := bodyOf Try.f29) (dflt := Ty.dflt ty50) rfl (no_loops)
    (safe_no @sa29) va29
/-! load.Class -/
end Go.Proofs.Ytabifaikklcghaa.Sy
namespace Go.Proofs.Ytabifaikklcghaa.Sp
open Go Go.RowKit Sy
def F28 (x : (Int × Int × Int × Int × Nat × Nat × Nat × List (Int × Int × Int × Int × Int × Int × Int × Int × Int)) × Nat) : Int :=
  bif ((Sp.F37 x.1) != (0 : Int)) then
    (0 : Int)
  else
    (Sp.F46 x)
end Go.Proofs.Ytabifaikklcghaa.Sp
namespace Go.Proofs.Ytabifaikklcghaa.Sy
def ct28 : Ct := { p := (Ty.pair ty28 ty25), psh := [some 8, none], r := ty3, rsh := (Rsh.one (none)), pre := none, fresh := none, F := Sp.F28 }
theorem va28 (x : (Ty.pair ty28 ty25).den) : ((evFn (ctxG GmK0) Try.f28 (Ty.pair ty28 ty25) [some 8, none] (Rsh.one (none)) none ty3 noL x)).val (fun y => y) (Ty.dflt ty3) = Sp.F28 x := by kernel_rfl
theorem se28 (x : (Ty.pair ty28 ty25).den) : ((evFn (ctxG GmK0) Try.f28 (Ty.pair ty28 ty25) [some 8, none] (Rsh.one (none)) none ty3 noL x)).safe = (((((Sp.F37 x.1) != (0 : Int)) = true → True) ∧ (((Sp.F37 x.1) != (0 : Int)) = false → True))) := by kernel_rfl
theorem sa28 (x : (Ty.pair ty28 ty25).den) (fx : Fit (Ty.pair ty28 ty25) x) : SafeW ((evFn (ctxG GmK0) Try.f28 (Ty.pair ty28 ty25) [some 8, none] (Rsh.one (none)) none ty3 noL x)) := by
  refine ⟨?_⟩
  rw [se28]
  try dsimp only [Ty.den] at *
  simp only [Fit, maxLen] at fx
  simp only [true_and, IntKind.wrap_i64, IntKind.wrap_u8, IntKind.wrap_u32, IntKind.wrap_u64, Sp.tmod_lit, Sp.tdiv_lit, bne_eq_false_iff_eq, Int.natCast_inj, setE, copyL, sliceL, zrow, List.length_append, List.length_cons, List.length_nil, List.length_set, List.length_replicate, List.length_take, List.length_drop, decide_eq_true_eq, decide_eq_false_iff_not, Bool.or_eq_true, Bool.and_eq_true, Bool.or_eq_false_iff, Bool.and_eq_false_iff, Bool.not_eq_true', Bool.not_eq_false', Bool.not_eq_true, Bool.not_eq_false, beq_iff_eq, beq_eq_false_iff_ne, bne_iff_ne, ne_eq, implies_true, and_true, true_and] at *
  all_goals ((repeat' (first | exact trivial | apply And.intro | intro _)) <;> first | trivial | omega | exact Sp.tmod_nn (by omega) | exact Sp.tmod_lt (by omega) (by omega))
theorem ok28 : CtOk Try.prog gdS 28 ct28 :=
  fn_okU (ctxOkF gokGmK0 []) rfl Try.func28 (p := (Ty.pair ty28 ty25)) (psh := [some 8, none]) (r := ty3) (rsh := (Rsh.one (none))) (pre := none) (fresh := none) (F := Sp.F28) (L := noL) (c := bodyOf Try.f28) (dflt := Ty.dflt ty3) rfl (no_loops)
    (safe_no @sa28) va28
/-! math.Nextafter -/
end Go.Proofs.Ytabifaikklcghaa.Sy
namespace Go.Proofs.Ytabifaikklcghaa.Sp
open Go Go.RowKit Sy
def F47 (x : Nat × Nat) : Nat :=
  bif ((Sp.F56 x.1) || (Sp.F56 x.2)) then
    (Sp.F43 ())
  else
    bif ((FloatKind.f64.format.order x.1 x.2) == some Ordering.eq) then
      x.1
    else
      bif ((FloatKind.f64.format.order x.1 (0 : Nat)) == some Ordering.eq) then
        (Sp.F45 ((Int.toNat (1 : Int)), x.2))
      else
        bif (((FloatKind.f64.format.order x.2 x.1) == some Ordering.gt) == ((FloatKind.f64.format.order x.1 (0 : Nat)) == some Ordering.gt)) then
          (Int.toNat (IntKind.u64.wrap (((x.1 : Nat) : Int) + (1 : Int))))
        else
          (Int.toNat (IntKind.u64.wrap (((x.1 : Nat) : Int) - (1 : Int))))
end Go.Proofs.Ytabifaikklcghaa.Sp
namespace Go.Proofs.Ytabifaikklcghaa.Sy
def ct47 : Ct := { p := (Ty.pair ty25 ty25), psh := [none, none], r := ty25, rsh := (Rsh.one (none)), pre := none, fresh := none, F := Sp.F47 }
theorem va47 (x : (Ty.pair ty25 ty25).den) : ((evFn (ctxG GmK0) Try.f47 (Ty.pair ty25 ty25) [none, none] (Rsh.one (none)) none ty25 noL x)).val (fun y => y) (Ty.dflt ty25) = Sp.F47 x := by kernel_rfl
theorem se47 (x : (Ty.pair ty25 ty25).den) : ((evFn (ctxG GmK0) Try.f47 (Ty.pair ty25 ty25) [none, none] (Rsh.one (none)) none ty25 noL x)).safe = (((((Sp.F56 x.1) || (Sp.F56 x.2)) = true → True) ∧ (((Sp.F56 x.1) || (Sp.F56 x.2)) = false → ((((FloatKind.f64.format.order x.1 x.2) == some Ordering.eq) = true → True) ∧ (((FloatKind.f64.format.order x.1 x.2) == some Ordering.eq) = false → ((((FloatKind.f64.format.order x.1 (0 : Nat)) == some Ordering.eq) = true → True) ∧ (((FloatKind.f64.format.order x.1 (0 : Nat)) == some Ordering.eq) = false → (((((FloatKind.f64.format.order x.2 x.1) == some Ordering.gt) == ((FloatKind.f64.format.order x.1 (0 : Nat)) == some Ordering.gt)) = true → True) ∧ ((((FloatKind.f64.format.order x.2 x.1) == some Ordering.gt) == ((FloatKind.f64.format.order x.1 (0 : Nat)) == some Ordering.gt)) = false → True))))))))) := by kernel_rfl
theorem sa47 (x : (Ty.pair ty25 ty25).den) (fx : Fit (Ty.pair ty25 ty25) x) : SafeW ((evFn (ctxG GmK0) Try.f47 (Ty.pair ty25 ty25) [none, none] (Rsh.one (none)) none ty25 noL x)) := by
  refine ⟨?_⟩
  rw [se47]
  try dsimp only [Ty.den] at *
  simp only [Fit, maxLen] at fx
  simp only [true_and, IntKind.wrap_i64, IntKind.wrap_u8, IntKind.wrap_u32, IntKind.wrap_u64, Sp.tmod_lit, Sp.tdiv_lit, bne_eq_false_iff_eq, Int.natCast_inj, setE, copyL, sliceL, zrow, List.length_append, List.length_cons, List.length_nil, List.length_set, List.length_replicate, List.length_take, List.length_drop, decide_eq_true_eq, decide_eq_false_iff_not, Bool.or_eq_true, Bool.and_eq_true, Bool.or_eq_false_iff, Bool.and_eq_false_iff, Bool.not_eq_true', Bool.not_eq_false', Bool.not_eq_true, Bool.not_eq_false, beq_iff_eq, beq_eq_false_iff_ne, bne_iff_ne, ne_eq, implies_true, and_true, true_and] at *
  all_goals ((repeat' (first | exact trivial | apply And.intro | intro _)) <;> first | trivial | omega | exact Sp.tmod_nn (by omega) | exact Sp.tmod_lt (by omega) (by omega))
theorem ok47 : CtOk Try.prog gdS 47 ct47 :=
  fn_okU (ctxOkF gokGmK0 []) rfl Try.func47 (p := (Ty.pair ty25 ty25)) (psh := [none, none]) (r := ty25) (rsh := (Rsh.one (none))) (pre := none) (fresh := none) (F := Sp.F47) (L := noL) (c := bodyOf Try.f47) (dflt := Ty.dflt ty25) rfl (no_loops)
    (safe_no @sa47) va47
/-! overlayref06.Step -/
end Go.Proofs.Ytabifaikklcghaa.Sy
namespace Go.Proofs.Ytabifaikklcghaa.Sp
open Go Go.RowKit Sy
def F34 (x : (Int × Int × Int × Int × Nat × Nat × Nat × List (Int × Int × Int × Int × Int × Int × Int × Int × Int)) × Int × Nat) : Int :=
  bif ((Sp.F33 (x.1, x.2.2)) == (0 : Int)) then
    (0 : Int)
  else
    bif (((x.2.1 == (3 : Int)) && (decide ((Sp.F33 (x.1, x.2.2)) < (3 : Int)))) && (!((FloatKind.f64.format.order x.2.2 ((FloatKind.f64.format.sub x.1.2.2.2.2.2.1 (4589168020290535424 : Nat)).getD 0)) == some Ordering.lt))) then
      x.2.1
    else
      bif (((x.2.1 == (4 : Int)) && (decide ((Sp.F33 (x.1, x.2.2)) < (4 : Int)))) && (!((FloatKind.f64.format.order x.2.2 ((FloatKind.f64.format.sub x.1.2.2.2.2.2.2.1 (4589168020290535424 : Nat)).getD 0)) == some Ordering.lt))) then
        x.2.1
      else
        (Sp.F33 (x.1, x.2.2))
end Go.Proofs.Ytabifaikklcghaa.Sp
namespace Go.Proofs.Ytabifaikklcghaa.Sy
def ct34 : Ct := { p := (Ty.pair ty28 (Ty.pair ty50 ty25)), psh := [some 8, some 1, none], r := ty50, rsh := (Rsh.one (some 1)), pre := none, fresh := none, F := Sp.F34 }
theorem va34 (x : (Ty.pair ty28 (Ty.pair ty50 ty25)).den) : ((evFn (ctxG GmK0) Try.f34 (Ty.pair ty28 (Ty.pair ty50 ty25)) [some 8, some 1, none] (Rsh.one (some 1)) none ty50 noL x)).val (fun y => y) (Ty.dflt ty50) = Sp.F34 x := by kernel_rfl
theorem se34 (x : (Ty.pair ty28 (Ty.pair ty50 ty25)).den) : ((evFn (ctxG GmK0) Try.f34 (Ty.pair ty28 (Ty.pair ty50 ty25)) [some 8, some 1, none] (Rsh.one (some 1)) none ty50 noL x)).safe = (((((Sp.F33 (x.1, x.2.2)) == (0 : Int)) = true → True) ∧ (((Sp.F33 (x.1, x.2.2)) == (0 : Int)) = false → (((((x.2.1 == (3 : Int)) && (decide ((Sp.F33 (x.1, x.2.2)) < (3 : Int)))) = true → (FloatKind.f64.format.sub x.1.2.2.2.2.2.1 (4589168020290535424 : Nat)).isSome = true)) ∧ (((((x.2.1 == (3 : Int)) && (decide ((Sp.F33 (x.1, x.2.2)) < (3 : Int)))) && (!((FloatKind.f64.format.order x.2.2 ((FloatKind.f64.format.sub x.1.2.2.2.2.2.1 (4589168020290535424 : Nat)).getD 0)) == some Ordering.lt))) = true → True) ∧ ((((x.2.1 == (3 : Int)) && (decide ((Sp.F33 (x.1, x.2.2)) < (3 : Int)))) && (!((FloatKind.f64.format.order x.2.2 ((FloatKind.f64.format.sub x.1.2.2.2.2.2.1 (4589168020290535424 : Nat)).getD 0)) == some Ordering.lt))) = false → (((((x.2.1 == (4 : Int)) && (decide ((Sp.F33 (x.1, x.2.2)) < (4 : Int)))) = true → (FloatKind.f64.format.sub x.1.2.2.2.2.2.2.1 (4589168020290535424 : Nat)).isSome = true)) ∧ (((((x.2.1 == (4 : Int)) && (decide ((Sp.F33 (x.1, x.2.2)) < (4 : Int)))) && (!((FloatKind.f64.format.order x.2.2 ((FloatKind.f64.format.sub x.1.2.2.2.2.2.2.1 (4589168020290535424 : Nat)).getD 0)) == some Ordering.lt))) = true → True) ∧ ((((x.2.1 == (4 : Int)) && (decide ((Sp.F33 (x.1, x.2.2)) < (4 : Int)))) && (!((FloatKind.f64.format.order x.2.2 ((FloatKind.f64.format.sub x.1.2.2.2.2.2.2.1 (4589168020290535424 : Nat)).getD 0)) == some Ordering.lt))) = false → True))))))))) := by kernel_rfl
theorem sa34 (x : (Ty.pair ty28 (Ty.pair ty50 ty25)).den) (fx : Fit (Ty.pair ty28 (Ty.pair ty50 ty25)) x) : SafeW ((evFn (ctxG GmK0) Try.f34 (Ty.pair ty28 (Ty.pair ty50 ty25)) [some 8, some 1, none] (Rsh.one (some 1)) none ty50 noL x)) := by
  refine ⟨?_⟩
  rw [se34]
  try dsimp only [Ty.den] at *
  refine ⟨fun _ => trivial, fun hv => ?_⟩
  have hz : Sp.F40 x.1 = 0 := by
    cases hc : (Sp.F40 x.1 != (0 : Int)) with
    | true => (rw [show Sp.F33 (x.1, x.2.2) = 0 from by (unfold Sp.F33; simp only [hc, Bool.true_or, cond_true])] at hv; cases hv)
    | false => simpa using hc
  have hb := Sp.lds_of (Sp.rvalid_b (Sp.fit_cars fx.1) hz).loads
  obtain ⟨z1, e1, _⟩ := Sp.sub_ok hb.fu Sp.margin_num
  obtain ⟨z2, e2, _⟩ := Sp.sub_ok hb.ov Sp.margin_num
  have e1' : (FloatKind.f64.format.sub x.1.2.2.2.2.2.1 4589168020290535424).isSome = true := by rw [show FloatKind.f64.format.sub x.1.2.2.2.2.2.1 4589168020290535424 = some z1 from e1]; rfl
  have e2' : (FloatKind.f64.format.sub x.1.2.2.2.2.2.2.1 4589168020290535424).isSome = true := by rw [show FloatKind.f64.format.sub x.1.2.2.2.2.2.2.1 4589168020290535424 = some z2 from e2]; rfl
  simp only [e1', e2', implies_true, and_true, true_and]
theorem ok34 : CtOk Try.prog gdS 34 ct34 :=
  fn_okU (ctxOkF gokGmK0 []) rfl Try.func34 (p := (Ty.pair ty28 (Ty.pair ty50 ty25))) (psh := [some 8, some 1, none]) (r := ty50) (rsh := (Rsh.one (some 1))) (pre := none) (fresh := none) (F := Sp.F34) (L := noL) (c := bodyOf Try.f34) (dflt := Ty.dflt ty50) rfl (no_loops)
    (safe_no @sa34) va34
def GmK1 : List (Nat × Ct) := (29, ct29) :: (28, ct28) :: (47, ct47) :: (34, ct34) :: GmK0
theorem gokGmK1 : GOk GmK1 := gok_cons ok29 ⟨_, Try.func29, by kernel_rfl, by kernel_rfl⟩ (gok_cons ok28 ⟨_, Try.func28, by kernel_rfl, by kernel_rfl⟩ (gok_cons ok47 ⟨_, Try.func47, by kernel_rfl, by kernel_rfl⟩ (gok_cons ok34 ⟨_, Try.func34, by kernel_rfl, by kernel_rfl⟩ (gokGmK0))))
end Go.Proofs.Ytabifaikklcghaa.Sy
