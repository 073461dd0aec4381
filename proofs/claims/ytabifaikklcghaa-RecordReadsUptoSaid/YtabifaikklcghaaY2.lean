/- Contracts of functions, by the evaluator (own program gen.py): record.Valid, overlayref09.Encode, overlayref09.Decode. -/
import Derived.Test.YtabifaikklcghaaBuJ
set_option linter.unusedVariables false
set_option linter.unusedSimpArgs false
set_option maxRecDepth 100000
namespace Go.Proofs.Ytabifaikklcghaa.Sy
open Go Go.RowKit Sp
/-! record.Valid -/
end Go.Proofs.Ytabifaikklcghaa.Sy
namespace Go.Proofs.Ytabifaikklcghaa.Sp
open Go Go.RowKit Sy
def F16 (x : (Int × Int × Int × Int × Nat × Nat × Nat × List (Int × Int × Int × Int × Int × Int × Int × Int × Int)) × Int × Int × Int × Int × Int) : Bool :=
  bif ((Sp.F37 x.1) != (0 : Int)) then
    false
  else
    bif (x.2.1 == (1 : Int)) then
      (bif (x.2.1 == (1 : Int)) then
        (((Sp.F38 (x.1, x.2.2.1, x.2.2.2.1)) && (x.2.2.2.2.1 == (0 : Int))) && (x.2.2.2.2.2 == (0 : Int)))
      else
        bif (x.2.1 == (3 : Int)) then
          (((Sp.F38 (x.1, x.2.2.1, x.2.2.2.1)) && (Sp.F39 (x.2.2.2.2.1, (-2 : Int), (IntKind.i64.wrap (((x.1.2.2.2.2.2.2.2).length : Int) - (1 : Int)))))) && (x.2.2.2.2.2 == (0 : Int)))
        else
          bif (x.2.1 == (7 : Int)) then
            (((Sp.F38 (x.1, x.2.2.1, x.2.2.2.1)) && (Sp.F39 (x.2.2.2.2.1, (0 : Int), (1 : Int)))) && (Sp.F39 (x.2.2.2.2.2, (0 : Int), (255 : Int))))
          else
            bif (x.2.1 == (4 : Int)) then
              ((((x.2.2.1 == (0 : Int)) && (x.2.2.2.1 == (0 : Int))) && (Sp.F39 (x.2.2.2.2.1, (0 : Int), (IntKind.i64.wrap (((x.1.2.2.2.2.2.2.2).length : Int) - (1 : Int)))))) && (Sp.F39 (x.2.2.2.2.2, (0 : Int), (4 : Int))))
            else
              bif (x.2.1 == (5 : Int)) then
                (bif (x.2.1 == (5 : Int)) then
                  ((((x.2.2.1 == (0 : Int)) && (x.2.2.2.1 == (0 : Int))) && (Sp.F39 (x.2.2.2.2.1, (0 : Int), (IntKind.i64.wrap (((x.1.2.2.2.2.2.2.2).length : Int) - (1 : Int)))))) && (Sp.F39 (x.2.2.2.2.2, (0 : Int), (1 : Int))))
                else
                  false)
              else
                bif (x.2.1 == (6 : Int)) then
                  ((((x.2.2.1 == (0 : Int)) && (x.2.2.2.1 == (0 : Int))) && (Sp.F39 (x.2.2.2.2.1, (0 : Int), (IntKind.i64.wrap (((x.1.2.2.2.2.2.2.2).length : Int) - (1 : Int)))))) && (Sp.F39 (x.2.2.2.2.2, (0 : Int), (1 : Int))))
                else
                  false)
    else
      bif (x.2.1 == (2 : Int)) then
        (((Sp.F38 (x.1, x.2.2.1, x.2.2.2.1)) && (x.2.2.2.2.1 == (0 : Int))) && (x.2.2.2.2.2 == (0 : Int)))
      else
        bif (x.2.1 == (3 : Int)) then
          (((Sp.F38 (x.1, x.2.2.1, x.2.2.2.1)) && (Sp.F39 (x.2.2.2.2.1, (-2 : Int), (IntKind.i64.wrap (((x.1.2.2.2.2.2.2.2).length : Int) - (1 : Int)))))) && (x.2.2.2.2.2 == (0 : Int)))
        else
          bif (x.2.1 == (7 : Int)) then
            (((Sp.F38 (x.1, x.2.2.1, x.2.2.2.1)) && (Sp.F39 (x.2.2.2.2.1, (0 : Int), (1 : Int)))) && (Sp.F39 (x.2.2.2.2.2, (0 : Int), (255 : Int))))
          else
            bif (x.2.1 == (4 : Int)) then
              ((((x.2.2.1 == (0 : Int)) && (x.2.2.2.1 == (0 : Int))) && (Sp.F39 (x.2.2.2.2.1, (0 : Int), (IntKind.i64.wrap (((x.1.2.2.2.2.2.2.2).length : Int) - (1 : Int)))))) && (Sp.F39 (x.2.2.2.2.2, (0 : Int), (4 : Int))))
            else
              bif (x.2.1 == (5 : Int)) then
                (bif (x.2.1 == (5 : Int)) then
                  ((((x.2.2.1 == (0 : Int)) && (x.2.2.2.1 == (0 : Int))) && (Sp.F39 (x.2.2.2.2.1, (0 : Int), (IntKind.i64.wrap (((x.1.2.2.2.2.2.2.2).length : Int) - (1 : Int)))))) && (Sp.F39 (x.2.2.2.2.2, (0 : Int), (1 : Int))))
                else
                  false)
              else
                bif (x.2.1 == (6 : Int)) then
                  ((((x.2.2.1 == (0 : Int)) && (x.2.2.2.1 == (0 : Int))) && (Sp.F39 (x.2.2.2.2.1, (0 : Int), (IntKind.i64.wrap (((x.1.2.2.2.2.2.2.2).length : Int) - (1 : Int)))))) && (Sp.F39 (x.2.2.2.2.2, (0 : Int), (1 : Int))))
                else
                  false
end Go.Proofs.Ytabifaikklcghaa.Sp
namespace Go.Proofs.Ytabifaikklcghaa.Sy
def ct16 : Ct := { p := (Ty.pair ty28 ty23), psh := [some 8, some 5], r := ty4, rsh := (Rsh.one (none)), pre := none, fresh := none, F := Sp.F16 }
theorem va16 (x : (Ty.pair ty28 ty23).den) : ((evFn (ctxG GmY1) Try.f16 (Ty.pair ty28 ty23) [some 8, some 5] (Rsh.one (none)) none ty4 noL x)).val (fun y => y) (Ty.dflt ty4) = Sp.F16 x := by kernel_rfl
theorem se16 (x : (Ty.pair ty28 ty23).den) : ((evFn (ctxG GmY1) Try.f16 (Ty.pair ty28 ty23) [some 8, some 5] (Rsh.one (none)) none ty4 noL x)).safe = (((((Sp.F37 x.1) != (0 : Int)) = true → True) ∧ (((Sp.F37 x.1) != (0 : Int)) = false → (((x.2.1 == (1 : Int)) = true → (((x.2.1 == (1 : Int)) = true → True) ∧ ((x.2.1 == (1 : Int)) = false → (((x.2.1 == (3 : Int)) = true → True) ∧ ((x.2.1 == (3 : Int)) = false → (((x.2.1 == (7 : Int)) = true → True) ∧ ((x.2.1 == (7 : Int)) = false → (((x.2.1 == (4 : Int)) = true → True) ∧ ((x.2.1 == (4 : Int)) = false → (((x.2.1 == (5 : Int)) = true → (((x.2.1 == (5 : Int)) = true → True) ∧ ((x.2.1 == (5 : Int)) = false → True))) ∧ ((x.2.1 == (5 : Int)) = false → (((x.2.1 == (6 : Int)) = true → True) ∧ ((x.2.1 == (6 : Int)) = false → True))))))))))))) ∧ ((x.2.1 == (1 : Int)) = false → (((x.2.1 == (2 : Int)) = true → True) ∧ ((x.2.1 == (2 : Int)) = false → (((x.2.1 == (3 : Int)) = true → True) ∧ ((x.2.1 == (3 : Int)) = false → (((x.2.1 == (7 : Int)) = true → True) ∧ ((x.2.1 == (7 : Int)) = false → (((x.2.1 == (4 : Int)) = true → True) ∧ ((x.2.1 == (4 : Int)) = false → (((x.2.1 == (5 : Int)) = true → (((x.2.1 == (5 : Int)) = true → True) ∧ ((x.2.1 == (5 : Int)) = false → True))) ∧ ((x.2.1 == (5 : Int)) = false → (((x.2.1 == (6 : Int)) = true → True) ∧ ((x.2.1 == (6 : Int)) = false → True))))))))))))))))) := by kernel_rfl
theorem sa16 (x : (Ty.pair ty28 ty23).den) (fx : Fit (Ty.pair ty28 ty23) x) : SafeW ((evFn (ctxG GmY1) Try.f16 (Ty.pair ty28 ty23) [some 8, some 5] (Rsh.one (none)) none ty4 noL x)) := by
  refine ⟨?_⟩
  rw [se16]
  try dsimp only [Ty.den] at *
  simp only [Fit, maxLen] at fx
  simp only [Sp.bts_size, Sp.strCat_size, Sp.extract_size, Sp.stb_len, Sp.mk_size, IntKind.wrap_i64, IntKind.wrap_u8, IntKind.wrap_u32, IntKind.wrap_u64, Sp.tmod_lit, Sp.tdiv_lit, bne_eq_false_iff_eq, Int.natCast_inj, setE, copyL, sliceL, zrow, List.length_append, List.length_cons, List.length_nil, List.length_set, List.length_replicate, List.length_take, List.length_drop, decide_eq_true_eq, decide_eq_false_iff_not, Bool.or_eq_true, Bool.and_eq_true, Bool.or_eq_false_iff, Bool.and_eq_false_iff, Bool.not_eq_true', Bool.not_eq_false', Bool.not_eq_true, Bool.not_eq_false, beq_iff_eq, beq_eq_false_iff_ne, bne_iff_ne, ne_eq, implies_true, and_true, true_and] at *
  all_goals ((repeat' (first | exact trivial | apply And.intro | intro _)) <;> first | trivial | omega | exact Sp.tmod_nn (by omega) | exact Sp.tmod_lt (by omega) (by omega))
theorem ok16 : CtOk Try.prog gdS 16 ct16 :=
  fn_okU (ctxOkF gokGmY1 []) rfl Try.func16 (p := (Ty.pair ty28 ty23)) (psh := [some 8, some 5]) (r := ty4) (rsh := (Rsh.one (none))) (pre := none) (fresh := none) (F := Sp.F16) (L := noL) (c := bodyOf Try.f16) (dflt := Ty.dflt ty4) rfl (no_loops)
    (safe_no @sa16) va16
/-! overlayref09.Encode -/
end Go.Proofs.Ytabifaikklcghaa.Sy
namespace Go.Proofs.Ytabifaikklcghaa.Sp
open Go Go.RowKit Sy
def F15 (x : (Int × Int × Int × Int × Nat × Nat × Nat × List (Int × Int × Int × Int × Int × Int × Int × Int × Int)) × Int × Int × Int × Int × Int) : ByteArray × Int :=
  bif (!(Sp.F17 x)) then
    ((ByteArray.mk #[]), (1 : Int))
  else
    ((strCat (bts [(IntKind.u8.wrap x.2.1), (IntKind.u8.wrap x.2.2.1), (IntKind.u8.wrap x.2.2.2.1), (IntKind.u8.wrap (IntKind.i64.wrap (x.2.2.2.2.1 + (2 : Int)))), (IntKind.u8.wrap x.2.2.2.2.2)]) (bts ([(Sp.F18 (bts [(IntKind.u8.wrap x.2.1), (IntKind.u8.wrap x.2.2.1), (IntKind.u8.wrap x.2.2.2.1), (IntKind.u8.wrap (IntKind.i64.wrap (x.2.2.2.2.1 + (2 : Int)))), (IntKind.u8.wrap x.2.2.2.2.2)]))]))), (0 : Int))
end Go.Proofs.Ytabifaikklcghaa.Sp
namespace Go.Proofs.Ytabifaikklcghaa.Sy
def ct15 : Ct := { p := (Ty.pair ty28 ty23), psh := [some 8, some 5], r := (Ty.pair ty9 ty30), rsh := (Rsh.tup [none, none]), pre := none, fresh := none, F := Sp.F15 }
theorem va15 (x : (Ty.pair ty28 ty23).den) : ((evFn (ctxG GmY1) Try.f15 (Ty.pair ty28 ty23) [some 8, some 5] (Rsh.tup [none, none]) none (Ty.pair ty9 ty30) noL x)).val (fun y => y) (Ty.dflt (Ty.pair ty9 ty30)) = Sp.F15 x := by kernel_rfl
theorem se15 (x : (Ty.pair ty28 ty23).den) : ((evFn (ctxG GmY1) Try.f15 (Ty.pair ty28 ty23) [some 8, some 5] (Rsh.tup [none, none]) none (Ty.pair ty9 ty30) noL x)).safe = ((((!(Sp.F17 x)) = true → True) ∧ ((!(Sp.F17 x)) = false → ((Sp.pre18 (bts [(IntKind.u8.wrap x.2.1), (IntKind.u8.wrap x.2.2.1), (IntKind.u8.wrap x.2.2.2.1), (IntKind.u8.wrap (IntKind.i64.wrap (x.2.2.2.2.1 + (2 : Int)))), (IntKind.u8.wrap x.2.2.2.2.2)])) ∧ ((((ByteArray.size (bts [(IntKind.u8.wrap x.2.1), (IntKind.u8.wrap x.2.2.1), (IntKind.u8.wrap x.2.2.2.1), (IntKind.u8.wrap (IntKind.i64.wrap (x.2.2.2.2.1 + (2 : Int)))), (IntKind.u8.wrap x.2.2.2.2.2)]) : Nat) : Int) + ((ByteArray.size (bts ([(Sp.F18 (bts [(IntKind.u8.wrap x.2.1), (IntKind.u8.wrap x.2.2.1), (IntKind.u8.wrap x.2.2.2.1), (IntKind.u8.wrap (IntKind.i64.wrap (x.2.2.2.2.1 + (2 : Int)))), (IntKind.u8.wrap x.2.2.2.2.2)]))])) : Nat) : Int) ≤ 9223372036854775807) ∧ True))))) := by kernel_rfl
theorem sa15 (x : (Ty.pair ty28 ty23).den) (fx : Fit (Ty.pair ty28 ty23) x) : SafeW ((evFn (ctxG GmY1) Try.f15 (Ty.pair ty28 ty23) [some 8, some 5] (Rsh.tup [none, none]) none (Ty.pair ty9 ty30) noL x)) := by
  refine ⟨?_⟩
  rw [se15]
  try dsimp only [Ty.den] at *
  simp only [Fit, maxLen] at fx
  simp only [Sp.pre18, Sp.bts_size, Sp.strCat_size, Sp.extract_size, Sp.stb_len, Sp.mk_size, IntKind.wrap_i64, IntKind.wrap_u8, IntKind.wrap_u32, IntKind.wrap_u64, Sp.tmod_lit, Sp.tdiv_lit, bne_eq_false_iff_eq, Int.natCast_inj, setE, copyL, sliceL, zrow, List.length_append, List.length_cons, List.length_nil, List.length_set, List.length_replicate, List.length_take, List.length_drop, decide_eq_true_eq, decide_eq_false_iff_not, Bool.or_eq_true, Bool.and_eq_true, Bool.or_eq_false_iff, Bool.and_eq_false_iff, Bool.not_eq_true', Bool.not_eq_false', Bool.not_eq_true, Bool.not_eq_false, beq_iff_eq, beq_eq_false_iff_ne, bne_iff_ne, ne_eq, implies_true, and_true, true_and] at *
  all_goals ((repeat' (first | exact trivial | apply And.intro | intro _)) <;> first | trivial | omega | exact Sp.tmod_nn (by omega) | exact Sp.tmod_lt (by omega) (by omega))
theorem ok15 : CtOk Try.prog gdS 15 ct15 :=
  fn_okU (ctxOkF gokGmY1 []) rfl Try.func15 (p := (Ty.pair ty28 ty23)) (psh := [some 8, some 5]) (r := (Ty.pair ty9 ty30)) (rsh := (Rsh.tup [none, none])) (pre := none) (fresh := none) (F := Sp.F15) (L := noL) (c := bodyOf Try.f15) (dflt := Ty.dflt (Ty.pair ty9 ty30)) rfl (no_loops)
    (safe_no @sa15) va15
/-! overlayref09.Decode -/
end Go.Proofs.Ytabifaikklcghaa.Sy
namespace Go.Proofs.Ytabifaikklcghaa.Sp
open Go Go.RowKit Sy
def K20_1 (x : (Int × Int × Int × Int × Nat × Nat × Nat × List (Int × Int × Int × Int × Int × Int × Int × Int × Int)) × ByteArray) :=
  (Sp.F17 (x.1, (IntKind.i64.wrap (strAt x.2 (0 : Int))), (IntKind.i64.wrap (strAt x.2 (1 : Int))), (IntKind.i64.wrap (strAt x.2 (2 : Int))), (IntKind.i64.wrap ((IntKind.i64.wrap (strAt x.2 (3 : Int))) - (2 : Int))), (IntKind.i64.wrap (strAt x.2 (4 : Int)))))
def F20 (x : (Int × Int × Int × Int × Nat × Nat × Nat × List (Int × Int × Int × Int × Int × Int × Int × Int × Int)) × ByteArray) : (Int × Int × Int × Int × Int) × Int :=
  bif ((Sp.F40 x.1) != (0 : Int)) then
    (((0 : Int), (0 : Int), (0 : Int), (0 : Int), (0 : Int)), (1 : Int))
  else
    bif (((x.2).size : Int) != (6 : Int)) then
      (((0 : Int), (0 : Int), (0 : Int), (0 : Int), (0 : Int)), (4 : Int))
    else
      bif ((Sp.F18 (ByteArray.extract x.2 (Int.toNat (0 : Int)) (Int.toNat (5 : Int)))) != (strAt x.2 (5 : Int))) then
        (((0 : Int), (0 : Int), (0 : Int), (0 : Int), (0 : Int)), (5 : Int))
      else
        bif (!(Sp.K20_1 x)) then
          (((0 : Int), (0 : Int), (0 : Int), (0 : Int), (0 : Int)), (9 : Int))
        else
          (((IntKind.i64.wrap (strAt x.2 (0 : Int))), (IntKind.i64.wrap (strAt x.2 (1 : Int))), (IntKind.i64.wrap (strAt x.2 (2 : Int))), (IntKind.i64.wrap ((IntKind.i64.wrap (strAt x.2 (3 : Int))) - (2 : Int))), (IntKind.i64.wrap (strAt x.2 (4 : Int)))), (0 : Int))
end Go.Proofs.Ytabifaikklcghaa.Sp
namespace Go.Proofs.Ytabifaikklcghaa.Sy
def ct20 : Ct := { p := (Ty.pair ty28 ty9), psh := [some 8, none], r := (Ty.pair ty23 ty30), rsh := (Rsh.tup [some 5, none]), pre := none, fresh := none, F := Sp.F20 }
theorem va20 (x : (Ty.pair ty28 ty9).den) : ((evFn (ctxG GmY1) Try.f20 (Ty.pair ty28 ty9) [some 8, none] (Rsh.tup [some 5, none]) none (Ty.pair ty23 ty30) noL x)).val (fun y => y) (Ty.dflt (Ty.pair ty23 ty30)) = Sp.F20 x := by kernel_rfl
theorem se20 (x : (Ty.pair ty28 ty9).den) : ((evFn (ctxG GmY1) Try.f20 (Ty.pair ty28 ty9) [some 8, none] (Rsh.tup [some 5, none]) none (Ty.pair ty23 ty30) noL x)).safe = (((((Sp.F40 x.1) != (0 : Int)) = true → True) ∧ (((Sp.F40 x.1) != (0 : Int)) = false → (((((x.2).size : Int) != (6 : Int)) = true → True) ∧ ((((x.2).size : Int) != (6 : Int)) = false → ((0 ≤ (0 : Int) ∧ (0 : Int) ≤ (5 : Int) ∧ (5 : Int) ≤ ((x.2).size : Int)) ∧ ((Sp.pre18 (ByteArray.extract x.2 (Int.toNat (0 : Int)) (Int.toNat (5 : Int)))) ∧ ((0 ≤ (5 : Int) ∧ (5 : Int) < ((x.2).size : Int)) ∧ ((((Sp.F18 (ByteArray.extract x.2 (Int.toNat (0 : Int)) (Int.toNat (5 : Int)))) != (strAt x.2 (5 : Int))) = true → True) ∧ (((Sp.F18 (ByteArray.extract x.2 (Int.toNat (0 : Int)) (Int.toNat (5 : Int)))) != (strAt x.2 (5 : Int))) = false → ((0 ≤ (0 : Int) ∧ (0 : Int) < ((x.2).size : Int)) ∧ ((0 ≤ (1 : Int) ∧ (1 : Int) < ((x.2).size : Int)) ∧ ((0 ≤ (2 : Int) ∧ (2 : Int) < ((x.2).size : Int)) ∧ ((0 ≤ (3 : Int) ∧ (3 : Int) < ((x.2).size : Int)) ∧ ((0 ≤ (4 : Int) ∧ (4 : Int) < ((x.2).size : Int)) ∧ (((!(Sp.K20_1 x)) = true → True) ∧ ((!(Sp.K20_1 x)) = false → True))))))))))))))))) := by kernel_rfl
theorem sa20 (x : (Ty.pair ty28 ty9).den) (fx : Fit (Ty.pair ty28 ty9) x) : SafeW ((evFn (ctxG GmY1) Try.f20 (Ty.pair ty28 ty9) [some 8, none] (Rsh.tup [some 5, none]) none (Ty.pair ty23 ty30) noL x)) := by
  refine ⟨?_⟩
  rw [se20]
  try dsimp only [Ty.den] at *
  simp only [Fit, maxLen] at fx
  simp only [Sp.pre18, Sp.bts_size, Sp.strCat_size, Sp.extract_size, Sp.stb_len, Sp.mk_size, IntKind.wrap_i64, IntKind.wrap_u8, IntKind.wrap_u32, IntKind.wrap_u64, Sp.tmod_lit, Sp.tdiv_lit, bne_eq_false_iff_eq, Int.natCast_inj, setE, copyL, sliceL, zrow, List.length_append, List.length_cons, List.length_nil, List.length_set, List.length_replicate, List.length_take, List.length_drop, decide_eq_true_eq, decide_eq_false_iff_not, Bool.or_eq_true, Bool.and_eq_true, Bool.or_eq_false_iff, Bool.and_eq_false_iff, Bool.not_eq_true', Bool.not_eq_false', Bool.not_eq_true, Bool.not_eq_false, beq_iff_eq, beq_eq_false_iff_ne, bne_iff_ne, ne_eq, implies_true, and_true, true_and] at *
  all_goals ((repeat' (first | exact trivial | apply And.intro | intro _)) <;> first | trivial | omega | exact Sp.tmod_nn (by omega) | exact Sp.tmod_lt (by omega) (by omega))
theorem ok20 : CtOk Try.prog gdS 20 ct20 :=
  fn_okU (ctxOkF gokGmY1 []) rfl Try.func20 (p := (Ty.pair ty28 ty9)) (psh := [some 8, none]) (r := (Ty.pair ty23 ty30)) (rsh := (Rsh.tup [some 5, none])) (pre := none) (fresh := none) (F := Sp.F20) (L := noL) (c := bodyOf Try.f20) (dflt := Ty.dflt (Ty.pair ty23 ty30)) rfl (no_loops)
    (safe_no @sa20) va20
def GmY2 : List (Nat × Ct) := (16, ct16) :: (15, ct15) :: (20, ct20) :: GmY1
theorem gokGmY2 : GOk GmY2 := gok_cons ok16 ⟨_, Try.func16, by kernel_rfl, by kernel_rfl⟩ (gok_cons ok15 ⟨_, Try.func15, by kernel_rfl, by kernel_rfl⟩ (gok_cons ok20 ⟨_, Try.func20, by kernel_rfl, by kernel_rfl⟩ (gokGmY1)))
end Go.Proofs.Ytabifaikklcghaa.Sy
