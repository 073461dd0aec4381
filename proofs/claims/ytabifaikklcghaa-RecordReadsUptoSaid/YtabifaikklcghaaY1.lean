/- Contracts of functions, by the evaluator (own program gen.py): building.IsCall, overlayref09.Valid. -/
import Derived.Test.YtabifaikklcghaaY0
set_option linter.unusedVariables false
set_option linter.unusedSimpArgs false
set_option maxRecDepth 100000
namespace Go.Proofs.Ytabifaikklcghaa.Sy
open Go Go.RowKit Sp
/-! building.IsCall -/
end Go.Proofs.Ytabifaikklcghaa.Sy
namespace Go.Proofs.Ytabifaikklcghaa.Sp
open Go Go.RowKit Sy
def F38 (x : (Int × Int × Int × Int × Nat × Nat × Nat × List (Int × Int × Int × Int × Int × Int × Int × Int × Int)) × Int × Int) : Bool :=
  (((Sp.F37 x.1) == (0 : Int)) && (Sp.F51 (x.1.1, x.2)))
end Go.Proofs.Ytabifaikklcghaa.Sp
namespace Go.Proofs.Ytabifaikklcghaa.Sy
def ct38 : Ct := { p := (Ty.pair ty28 (Ty.pair ty3 ty3)), psh := [some 8, none, none], r := ty4, rsh := (Rsh.one (none)), pre := none, fresh := none, F := Sp.F38 }
theorem va38 (x : (Ty.pair ty28 (Ty.pair ty3 ty3)).den) : ((evFn (ctxG GmY0) Try.f38 (Ty.pair ty28 (Ty.pair ty3 ty3)) [some 8, none, none] (Rsh.one (none)) none ty4 noL x)).val (fun y => y) (Ty.dflt ty4) = Sp.F38 x := by kernel_rfl
theorem se38 (x : (Ty.pair ty28 (Ty.pair ty3 ty3)).den) : ((evFn (ctxG GmY0) Try.f38 (Ty.pair ty28 (Ty.pair ty3 ty3)) [some 8, none, none] (Rsh.one (none)) none ty4 noL x)).safe = (True) := by kernel_rfl
theorem sa38 (x : (Ty.pair ty28 (Ty.pair ty3 ty3)).den) (fx : Fit (Ty.pair ty28 (Ty.pair ty3 ty3)) x) : SafeW ((evFn (ctxG GmY0) Try.f38 (Ty.pair ty28 (Ty.pair ty3 ty3)) [some 8, none, none] (Rsh.one (none)) none ty4 noL x)) := by
  refine ⟨?_⟩
  rw [se38]
  trivial
theorem ok38 : CtOk Try.prog gdS 38 ct38 :=
  fn_okU (ctxOkF gokGmY0 []) rfl Try.func38 (p := (Ty.pair ty28 (Ty.pair ty3 ty3))) (psh := [some 8, none, none]) (r := ty4) (rsh := (Rsh.one (none))) (pre := none) (fresh := none) (F := Sp.F38) (L := noL) (c := bodyOf Try.f38) (dflt := Ty.dflt ty4) rfl (no_loops)
    (safe_no @sa38) va38
/-! overlayref09.Valid -/
end Go.Proofs.Ytabifaikklcghaa.Sy
namespace Go.Proofs.Ytabifaikklcghaa.Sp
open Go Go.RowKit Sy
def F17 (x : (Int × Int × Int × Int × Nat × Nat × Nat × List (Int × Int × Int × Int × Int × Int × Int × Int × Int)) × Int × Int × Int × Int × Int) : Bool :=
  bif ((Sp.F40 x.1) != (0 : Int)) then
    false
  else
    bif (x.2.1 == (1 : Int)) then
      (bif (x.2.1 == (1 : Int)) then
        (((Sp.F41 (x.1, x.2.2.1, x.2.2.2.1)) && (x.2.2.2.2.1 == (0 : Int))) && (x.2.2.2.2.2 == (0 : Int)))
      else
        bif (x.2.1 == (3 : Int)) then
          (((Sp.F41 (x.1, x.2.2.1, x.2.2.2.1)) && (Sp.F42 (x.2.2.2.2.1, (-2 : Int), (IntKind.i64.wrap (((x.1.2.2.2.2.2.2.2).length : Int) - (1 : Int)))))) && (x.2.2.2.2.2 == (0 : Int)))
        else
          bif (x.2.1 == (4 : Int)) then
            ((((Sp.F42 (x.2.2.2.2.1, (0 : Int), (IntKind.i64.wrap (((x.1.2.2.2.2.2.2.2).length : Int) - (1 : Int))))) && (x.2.2.1 == (0 : Int))) && (x.2.2.2.1 == (0 : Int))) && (Sp.F42 (x.2.2.2.2.2, (0 : Int), (4 : Int))))
          else
            bif (x.2.1 == (5 : Int)) then
              (bif (x.2.1 == (5 : Int)) then
                ((((Sp.F42 (x.2.2.2.2.1, (0 : Int), (IntKind.i64.wrap (((x.1.2.2.2.2.2.2.2).length : Int) - (1 : Int))))) && (x.2.2.1 == (0 : Int))) && (x.2.2.2.1 == (0 : Int))) && (Sp.F42 (x.2.2.2.2.2, (0 : Int), (1 : Int))))
              else
                bif (x.2.1 == (7 : Int)) then
                  (((Sp.F41 (x.1, x.2.2.1, x.2.2.2.1)) && (Sp.F42 (x.2.2.2.2.1, (0 : Int), (1 : Int)))) && (Sp.F42 (x.2.2.2.2.2, (0 : Int), (255 : Int))))
                else
                  false)
            else
              bif (x.2.1 == (6 : Int)) then
                ((((Sp.F42 (x.2.2.2.2.1, (0 : Int), (IntKind.i64.wrap (((x.1.2.2.2.2.2.2.2).length : Int) - (1 : Int))))) && (x.2.2.1 == (0 : Int))) && (x.2.2.2.1 == (0 : Int))) && (Sp.F42 (x.2.2.2.2.2, (0 : Int), (1 : Int))))
              else
                bif (x.2.1 == (7 : Int)) then
                  (((Sp.F41 (x.1, x.2.2.1, x.2.2.2.1)) && (Sp.F42 (x.2.2.2.2.1, (0 : Int), (1 : Int)))) && (Sp.F42 (x.2.2.2.2.2, (0 : Int), (255 : Int))))
                else
                  false)
    else
      bif (x.2.1 == (2 : Int)) then
        (((Sp.F41 (x.1, x.2.2.1, x.2.2.2.1)) && (x.2.2.2.2.1 == (0 : Int))) && (x.2.2.2.2.2 == (0 : Int)))
      else
        bif (x.2.1 == (3 : Int)) then
          (((Sp.F41 (x.1, x.2.2.1, x.2.2.2.1)) && (Sp.F42 (x.2.2.2.2.1, (-2 : Int), (IntKind.i64.wrap (((x.1.2.2.2.2.2.2.2).length : Int) - (1 : Int)))))) && (x.2.2.2.2.2 == (0 : Int)))
        else
          bif (x.2.1 == (4 : Int)) then
            ((((Sp.F42 (x.2.2.2.2.1, (0 : Int), (IntKind.i64.wrap (((x.1.2.2.2.2.2.2.2).length : Int) - (1 : Int))))) && (x.2.2.1 == (0 : Int))) && (x.2.2.2.1 == (0 : Int))) && (Sp.F42 (x.2.2.2.2.2, (0 : Int), (4 : Int))))
          else
            bif (x.2.1 == (5 : Int)) then
              (bif (x.2.1 == (5 : Int)) then
                ((((Sp.F42 (x.2.2.2.2.1, (0 : Int), (IntKind.i64.wrap (((x.1.2.2.2.2.2.2.2).length : Int) - (1 : Int))))) && (x.2.2.1 == (0 : Int))) && (x.2.2.2.1 == (0 : Int))) && (Sp.F42 (x.2.2.2.2.2, (0 : Int), (1 : Int))))
              else
                bif (x.2.1 == (7 : Int)) then
                  (((Sp.F41 (x.1, x.2.2.1, x.2.2.2.1)) && (Sp.F42 (x.2.2.2.2.1, (0 : Int), (1 : Int)))) && (Sp.F42 (x.2.2.2.2.2, (0 : Int), (255 : Int))))
                else
                  false)
            else
              bif (x.2.1 == (6 : Int)) then
                ((((Sp.F42 (x.2.2.2.2.1, (0 : Int), (IntKind.i64.wrap (((x.1.2.2.2.2.2.2.2).length : Int) - (1 : Int))))) && (x.2.2.1 == (0 : Int))) && (x.2.2.2.1 == (0 : Int))) && (Sp.F42 (x.2.2.2.2.2, (0 : Int), (1 : Int))))
              else
                bif (x.2.1 == (7 : Int)) then
                  (((Sp.F41 (x.1, x.2.2.1, x.2.2.2.1)) && (Sp.F42 (x.2.2.2.2.1, (0 : Int), (1 : Int)))) && (Sp.F42 (x.2.2.2.2.2, (0 : Int), (255 : Int))))
                else
                  false
end Go.Proofs.Ytabifaikklcghaa.Sp
namespace Go.Proofs.Ytabifaikklcghaa.Sy
def ct17 : Ct := { p := (Ty.pair ty28 ty23), psh := [some 8, some 5], r := ty4, rsh := (Rsh.one (none)), pre := none, fresh := none, F := Sp.F17 }
theorem va17 (x : (Ty.pair ty28 ty23).den) : ((evFn (ctxG GmY0) Try.f17 (Ty.pair ty28 ty23) [some 8, some 5] (Rsh.one (none)) none ty4 noL x)).val (fun y => y) (Ty.dflt ty4) = Sp.F17 x := by kernel_rfl
theorem se17 (x : (Ty.pair ty28 ty23).den) : ((evFn (ctxG GmY0) Try.f17 (Ty.pair ty28 ty23) [some 8, some 5] (Rsh.one (none)) none ty4 noL x)).safe = (((((Sp.F40 x.1) != (0 : Int)) = true → True) ∧ (((Sp.F40 x.1) != (0 : Int)) = false → (((x.2.1 == (1 : Int)) = true → (((x.2.1 == (1 : Int)) = true → True) ∧ ((x.2.1 == (1 : Int)) = false → (((x.2.1 == (3 : Int)) = true → True) ∧ ((x.2.1 == (3 : Int)) = false → (((x.2.1 == (4 : Int)) = true → True) ∧ ((x.2.1 == (4 : Int)) = false → (((x.2.1 == (5 : Int)) = true → (((x.2.1 == (5 : Int)) = true → True) ∧ ((x.2.1 == (5 : Int)) = false → (((x.2.1 == (7 : Int)) = true → True) ∧ ((x.2.1 == (7 : Int)) = false → True))))) ∧ ((x.2.1 == (5 : Int)) = false → (((x.2.1 == (6 : Int)) = true → True) ∧ ((x.2.1 == (6 : Int)) = false → (((x.2.1 == (7 : Int)) = true → True) ∧ ((x.2.1 == (7 : Int)) = false → True))))))))))))) ∧ ((x.2.1 == (1 : Int)) = false → (((x.2.1 == (2 : Int)) = true → True) ∧ ((x.2.1 == (2 : Int)) = false → (((x.2.1 == (3 : Int)) = true → True) ∧ ((x.2.1 == (3 : Int)) = false → (((x.2.1 == (4 : Int)) = true → True) ∧ ((x.2.1 == (4 : Int)) = false → (((x.2.1 == (5 : Int)) = true → (((x.2.1 == (5 : Int)) = true → True) ∧ ((x.2.1 == (5 : Int)) = false → (((x.2.1 == (7 : Int)) = true → True) ∧ ((x.2.1 == (7 : Int)) = false → True))))) ∧ ((x.2.1 == (5 : Int)) = false → (((x.2.1 == (6 : Int)) = true → True) ∧ ((x.2.1 == (6 : Int)) = false → (((x.2.1 == (7 : Int)) = true → True) ∧ ((x.2.1 == (7 : Int)) = false → True))))))))))))))))) := by kernel_rfl
theorem sa17 (x : (Ty.pair ty28 ty23).den) (fx : Fit (Ty.pair ty28 ty23) x) : SafeW ((evFn (ctxG GmY0) Try.f17 (Ty.pair ty28 ty23) [some 8, some 5] (Rsh.one (none)) none ty4 noL x)) := by
  refine ⟨?_⟩
  rw [se17]
  try dsimp only [Ty.den] at *
  simp only [Fit, maxLen] at fx
  simp only [Sp.bts_size, Sp.strCat_size, Sp.extract_size, Sp.stb_len, Sp.mk_size, IntKind.wrap_i64, IntKind.wrap_u8, IntKind.wrap_u32, IntKind.wrap_u64, Sp.tmod_lit, Sp.tdiv_lit, bne_eq_false_iff_eq, Int.natCast_inj, setE, copyL, sliceL, zrow, List.length_append, List.length_cons, List.length_nil, List.length_set, List.length_replicate, List.length_take, List.length_drop, decide_eq_true_eq, decide_eq_false_iff_not, Bool.or_eq_true, Bool.and_eq_true, Bool.or_eq_false_iff, Bool.and_eq_false_iff, Bool.not_eq_true', Bool.not_eq_false', Bool.not_eq_true, Bool.not_eq_false, beq_iff_eq, beq_eq_false_iff_ne, bne_iff_ne, ne_eq, implies_true, and_true, true_and] at *
  all_goals ((repeat' (first | exact trivial | apply And.intro | intro _)) <;> first | trivial | omega | exact Sp.tmod_nn (by omega) | exact Sp.tmod_lt (by omega) (by omega))
theorem ok17 : CtOk Try.prog gdS 17 ct17 :=
  fn_okU (ctxOkF gokGmY0 []) rfl Try.func17 (p := (Ty.pair ty28 ty23)) (psh := [some 8, some 5]) (r := ty4) (rsh := (Rsh.one (none))) (pre := none) (fresh := none) (F := Sp.F17) (L := noL) (c := bodyOf Try.f17) (dflt := Ty.dflt ty4) rfl (no_loops)
    (safe_no @sa17) va17
def GmY1 : List (Nat × Ct) := (38, ct38) :: (17, ct17) :: GmY0
theorem gokGmY1 : GOk GmY1 := gok_cons ok38 ⟨_, Try.func38, by kernel_rfl, by kernel_rfl⟩ (gok_cons ok17 ⟨_, Try.func17, by kernel_rfl, by kernel_rfl⟩ (gokGmY0))
end Go.Proofs.Ytabifaikklcghaa.Sy
