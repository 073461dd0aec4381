/- Own texts joined by pk.py. -/
import Derived.Test.YtpbljgpdhllklaaDoorJ0ae9a10a
import Derived.Test.YtpbljgpdhllklaaDoorJ35023f0f
section
/- Contracts of functions, by the evaluator (own program gen.py): overlayref17.Step, relay.over. -/
set_option linter.unusedVariables false
set_option linter.unusedSimpArgs false
set_option maxRecDepth 100000
namespace Go.Proofs.YtpbljgpdhllklaaDoor.Sy
open Go Go.RowKit Sp
/-! overlayref17.Step -/
end Go.Proofs.YtpbljgpdhllklaaDoor.Sy
namespace Go.Proofs.YtpbljgpdhllklaaDoor.Sp
open Go Go.RowKit Sy
def K18_1 (x : (Int × Int × Int × Int × Nat × Nat × Nat × List (Int × Int × Int × Int × Int × Int × Int × Int × Int)) × Int × (Int × Int × Int × Int × Int × Int × (Int × Int) × Int) × (Int × Int) × Int) :=
  (Sp.F41 (x.2.2.1.1, x.2.2.1.2.1, x.2.2.1.2.2.1, x.2.2.1.2.2.2.1, x.2.2.1.2.2.2.2.1, (IntKind.i64.wrap (x.2.2.1.2.2.2.2.2.1 - (1 : Int))), (Sp.F27 (x.2.2.1.2.2.2.2.2.2.1, (Sp.F25 (x.2.2.2.1, (Sp.F40 x.1))))), (IntKind.u32.wrap ((BitVec.ofInt IntKind.u32.bits x.2.2.1.2.2.2.2.2.2.2 ||| BitVec.ofInt IntKind.u32.bits (IntKind.u32.wrap ((BitVec.ofInt IntKind.u32.bits x.2.2.2.2 &&& BitVec.ofInt IntKind.u32.bits (IntKind.u32.wrap ((IntKind.u32.wrap ((1 : Int) * 2 ^ (min ((IntKind.u64.wrap x.1.1)).toNat IntKind.u32.bits))) - (1 : Int)))).toNat : Int))).toNat : Int))))
def K18_2 (x : (Int × Int × Int × Int × Nat × Nat × Nat × List (Int × Int × Int × Int × Int × Int × Int × Int × Int)) × Int × (Int × Int × Int × Int × Int × Int × (Int × Int) × Int) × (Int × Int) × Int) :=
  (Sp.F43 (x.1, (Sp.nthT x.1.2.2.2.2.2.2.2 x.2.1), x.2.2.1.1, (Sp.F42 (x.2.2.1.2.1, x.2.2.1.2.2.1)), x.2.2.1.2.2.1, (0 : Int), x.2.2.1.2.2.2.2.1, x.2.2.1.2.2.2.2.2.1, (Sp.F27 (x.2.2.1.2.2.2.2.2.2.1, (Sp.F25 (x.2.2.2.1, (Sp.F40 x.1))))), (IntKind.u32.wrap ((BitVec.ofInt IntKind.u32.bits x.2.2.1.2.2.2.2.2.2.2 ||| BitVec.ofInt IntKind.u32.bits (IntKind.u32.wrap ((BitVec.ofInt IntKind.u32.bits x.2.2.2.2 &&& BitVec.ofInt IntKind.u32.bits (IntKind.u32.wrap ((IntKind.u32.wrap ((1 : Int) * 2 ^ (min ((IntKind.u64.wrap x.1.1)).toNat IntKind.u32.bits))) - (1 : Int)))).toNat : Int))).toNat : Int))))
def K18_3 (x : (Int × Int × Int × Int × Nat × Nat × Nat × List (Int × Int × Int × Int × Int × Int × Int × Int × Int)) × Int × (Int × Int × Int × Int × Int × Int × (Int × Int) × Int) × (Int × Int) × Int) :=
  (Sp.F41 ((3 : Int), x.2.2.1.2.1, x.2.2.1.2.2.1, x.2.2.1.2.2.2.1, (1 : Int), (Sp.nthT x.1.2.2.2.2.2.2.2 x.2.1).2.2.2.2.2.2.1, (Sp.F27 (x.2.2.1.2.2.2.2.2.2.1, (Sp.F25 (x.2.2.2.1, (Sp.F40 x.1))))), (IntKind.u32.wrap ((BitVec.ofInt IntKind.u32.bits x.2.2.1.2.2.2.2.2.2.2 ||| BitVec.ofInt IntKind.u32.bits (IntKind.u32.wrap ((BitVec.ofInt IntKind.u32.bits x.2.2.2.2 &&& BitVec.ofInt IntKind.u32.bits (IntKind.u32.wrap ((IntKind.u32.wrap ((1 : Int) * 2 ^ (min ((IntKind.u64.wrap x.1.1)).toNat IntKind.u32.bits))) - (1 : Int)))).toNat : Int))).toNat : Int))))
def K18_4 (x : (Int × Int × Int × Int × Nat × Nat × Nat × List (Int × Int × Int × Int × Int × Int × Int × Int × Int)) × Int × (Int × Int × Int × Int × Int × Int × (Int × Int) × Int) × (Int × Int) × Int) :=
  (Sp.F41 ((4 : Int), x.2.2.1.2.1, x.2.2.1.2.2.1, x.2.2.1.2.2.2.1, (0 : Int), (Sp.nthT x.1.2.2.2.2.2.2.2 x.2.1).2.2.2.2.2.1, (Sp.F27 (x.2.2.1.2.2.2.2.2.2.1, (Sp.F25 (x.2.2.2.1, (Sp.F40 x.1))))), (IntKind.u32.wrap ((BitVec.ofInt IntKind.u32.bits x.2.2.1.2.2.2.2.2.2.2 ||| BitVec.ofInt IntKind.u32.bits (IntKind.u32.wrap ((BitVec.ofInt IntKind.u32.bits x.2.2.2.2 &&& BitVec.ofInt IntKind.u32.bits (IntKind.u32.wrap ((IntKind.u32.wrap ((1 : Int) * 2 ^ (min ((IntKind.u64.wrap x.1.1)).toNat IntKind.u32.bits))) - (1 : Int)))).toNat : Int))).toNat : Int))))
def K18_5 (x : (Int × Int × Int × Int × Nat × Nat × Nat × List (Int × Int × Int × Int × Int × Int × Int × Int × Int)) × Int × (Int × Int × Int × Int × Int × Int × (Int × Int) × Int) × (Int × Int) × Int) :=
  (Sp.F43 (x.1, (Sp.nthT x.1.2.2.2.2.2.2.2 x.2.1), x.2.2.1.1, x.2.2.1.2.1, x.2.2.1.2.2.1, x.2.2.1.2.2.2.1, x.2.2.1.2.2.2.2.1, x.2.2.1.2.2.2.2.2.1, (Sp.F27 (x.2.2.1.2.2.2.2.2.2.1, (Sp.F25 (x.2.2.2.1, (Sp.F40 x.1))))), (IntKind.u32.wrap ((BitVec.ofInt IntKind.u32.bits x.2.2.1.2.2.2.2.2.2.2 ||| BitVec.ofInt IntKind.u32.bits (IntKind.u32.wrap ((BitVec.ofInt IntKind.u32.bits x.2.2.2.2 &&& BitVec.ofInt IntKind.u32.bits (IntKind.u32.wrap ((IntKind.u32.wrap ((1 : Int) * 2 ^ (min ((IntKind.u64.wrap x.1.1)).toNat IntKind.u32.bits))) - (1 : Int)))).toNat : Int))).toNat : Int))))
def F18 (x : (Int × Int × Int × Int × Nat × Nat × Nat × List (Int × Int × Int × Int × Int × Int × Int × Int × Int)) × Int × (Int × Int × Int × Int × Int × Int × (Int × Int) × Int) × (Int × Int) × Int) : Int × Int × Int × Int × Int × Int × (Int × Int) × Int :=
  bif (((!(Sp.F32 (x.1, x.2.2.1))) || (decide (x.2.1 < (0 : Int)))) || (decide (x.2.1 ≥ ((x.1.2.2.2.2.2.2.2).length : Int)))) then
    (Sp.F15 (0 : Int))
  else
    bif (decide (x.2.2.1.2.2.2.2.2.1 > (1 : Int))) then
      (Sp.K18_1 x)
    else
      bif (x.2.2.1.1 == (1 : Int)) then
        (Sp.K18_2 x)
      else
        bif (x.2.2.1.1 == (2 : Int)) then
          (Sp.K18_3 x)
        else
          bif (x.2.2.1.1 == (3 : Int)) then
            (Sp.K18_4 x)
          else
            (Sp.K18_5 x)
end Go.Proofs.YtpbljgpdhllklaaDoor.Sp
namespace Go.Proofs.YtpbljgpdhllklaaDoor.Sy
def ct18 : Ct := { p := (Ty.pair ty32 (Ty.pair ty3 (Ty.pair ty28 (Ty.pair ty26 ty24)))), psh := [some 8, none, some 9, some 2, none], r := ty28, rsh := (Rsh.one (some 9)), pre := none, fresh := none, F := Sp.F18 }
theorem va18 (x : (Ty.pair ty32 (Ty.pair ty3 (Ty.pair ty28 (Ty.pair ty26 ty24)))).den) : ((evFn (ctxG GmN2) Tryd.f18 (Ty.pair ty32 (Ty.pair ty3 (Ty.pair ty28 (Ty.pair ty26 ty24)))) [some 8, none, some 9, some 2, none] (Rsh.one (some 9)) none ty28 noL x)).val (fun y => y) (Ty.dflt ty28) = Sp.F18 x := by kernel_rfl
theorem se18 (x : (Ty.pair ty32 (Ty.pair ty3 (Ty.pair ty28 (Ty.pair ty26 ty24)))).den) : ((evFn (ctxG GmN2) Tryd.f18 (Ty.pair ty32 (Ty.pair ty3 (Ty.pair ty28 (Ty.pair ty26 ty24)))) [some 8, none, some 9, some 2, none] (Rsh.one (some 9)) none ty28 noL x)).safe = ((((((!(Sp.F32 (x.1, x.2.2.1))) || (decide (x.2.1 < (0 : Int)))) || (decide (x.2.1 ≥ ((x.1.2.2.2.2.2.2.2).length : Int)))) = true → True) ∧ ((((!(Sp.F32 (x.1, x.2.2.1))) || (decide (x.2.1 < (0 : Int)))) || (decide (x.2.1 ≥ ((x.1.2.2.2.2.2.2.2).length : Int)))) = false → ((0 ≤ x.2.1 ∧ x.2.1 < ((x.1.2.2.2.2.2.2.2).length : Int)) ∧ ((0 ≤ (IntKind.u64.wrap x.1.1)) ∧ (((decide (x.2.2.1.2.2.2.2.2.1 > (1 : Int))) = true → True) ∧ ((decide (x.2.2.1.2.2.2.2.2.1 > (1 : Int))) = false → (((x.2.2.1.1 == (1 : Int)) = true → True) ∧ ((x.2.2.1.1 == (1 : Int)) = false → (((x.2.2.1.1 == (2 : Int)) = true → True) ∧ ((x.2.2.1.1 == (2 : Int)) = false → (((x.2.2.1.1 == (3 : Int)) = true → True) ∧ ((x.2.2.1.1 == (3 : Int)) = false → True))))))))))))) := by kernel_rfl
theorem sa18 (x : (Ty.pair ty32 (Ty.pair ty3 (Ty.pair ty28 (Ty.pair ty26 ty24)))).den) (fx : Fit (Ty.pair ty32 (Ty.pair ty3 (Ty.pair ty28 (Ty.pair ty26 ty24)))) x) : SafeW ((evFn (ctxG GmN2) Tryd.f18 (Ty.pair ty32 (Ty.pair ty3 (Ty.pair ty28 (Ty.pair ty26 ty24)))) [some 8, none, some 9, some 2, none] (Rsh.one (some 9)) none ty28 noL x)) := by
  refine ⟨?_⟩
  rw [se18]
  try dsimp only [Ty.den] at *
  simp only [Fit, maxLen] at fx
  simp only [true_and, IntKind.wrap_i64, IntKind.wrap_u8, IntKind.wrap_u32, IntKind.wrap_u64, Sp.tmod_lit, Sp.tdiv_lit, bne_eq_false_iff_eq, Int.natCast_inj, setE, copyL, sliceL, zrow, List.length_append, List.length_cons, List.length_nil, List.length_set, List.length_replicate, List.length_take, List.length_drop, decide_eq_true_eq, decide_eq_false_iff_not, Bool.or_eq_true, Bool.and_eq_true, Bool.or_eq_false_iff, Bool.and_eq_false_iff, Bool.not_eq_true', Bool.not_eq_false', Bool.not_eq_true, Bool.not_eq_false, beq_iff_eq, beq_eq_false_iff_ne, bne_iff_ne, ne_eq, implies_true, and_true, true_and] at *
  all_goals ((repeat' (first | exact trivial | apply And.intro | intro _)) <;> first | trivial | omega | exact Sp.tmod_nn (by omega) | exact Sp.tmod_lt (by omega) (by omega))
theorem ok18 : CtOk Tryd.prog gdS 18 ct18 :=
  fn_okU (ctxOkF gokGmN2 []) rfl Tryd.func18 (p := (Ty.pair ty32 (Ty.pair ty3 (Ty.pair ty28 (Ty.pair ty26 ty24))))) (psh := [some 8, none, some 9, some 2, none]) (r := ty28) (rsh := (Rsh.one (some 9))) (pre := none) (fresh := none) (F := Sp.F18) (L := noL) (c := bodyOf Tryd.f18) (dflt := Ty.dflt ty28) rfl (no_loops)
    (safe_no @sa18) va18
/-! relay.over -/
end Go.Proofs.YtpbljgpdhllklaaDoor.Sy
namespace Go.Proofs.YtpbljgpdhllklaaDoor.Sp
open Go Go.RowKit Sy
def F37 (x : Int × (Int × Int × Int × Int × Int × Int × Int × Int × Int) × Int × Int × Int × Int × Int × Int × (Int × Int) × Int) : Int × Int × Int × Int × Int × Int × (Int × Int) × Int :=
  bif (x.2.2.1 == (2 : Int)) then
    (Sp.F66 (x.2.2, (3 : Int), x.2.1.2.2.2.2.2.2.1))
  else
    bif (x.2.2.1 == (3 : Int)) then
      (Sp.F66 (x.2.2, (4 : Int), x.2.1.2.2.2.2.2.1))
    else
      bif (x.2.2.1 == (1 : Int)) then
        (Sp.F67 (x.1, x.2.1, x.2.2.1, (Sp.F47 x.2.2), x.2.2.2.2.1, (0 : Int), x.2.2.2.2.2.2))
      else
        (Sp.F67 x)
end Go.Proofs.YtpbljgpdhllklaaDoor.Sp
namespace Go.Proofs.YtpbljgpdhllklaaDoor.Sy
def ct37 : Ct := { p := (Ty.pair ty3 (Ty.pair ty76 ty28)), psh := [none, some 9, some 9], r := ty28, rsh := (Rsh.one (some 9)), pre := none, fresh := none, F := Sp.F37 }
theorem va37 (x : (Ty.pair ty3 (Ty.pair ty76 ty28)).den) : ((evFn (ctxG GmN2) Tryd.f37 (Ty.pair ty3 (Ty.pair ty76 ty28)) [none, some 9, some 9] (Rsh.one (some 9)) none ty28 noL x)).val (fun y => y) (Ty.dflt ty28) = Sp.F37 x := by kernel_rfl
theorem se37 (x : (Ty.pair ty3 (Ty.pair ty76 ty28)).den) : ((evFn (ctxG GmN2) Tryd.f37 (Ty.pair ty3 (Ty.pair ty76 ty28)) [none, some 9, some 9] (Rsh.one (some 9)) none ty28 noL x)).safe = ((((x.2.2.1 == (2 : Int)) = true → True) ∧ ((x.2.2.1 == (2 : Int)) = false → (((x.2.2.1 == (3 : Int)) = true → True) ∧ ((x.2.2.1 == (3 : Int)) = false → (((x.2.2.1 == (1 : Int)) = true → True) ∧ ((x.2.2.1 == (1 : Int)) = false → True))))))) := by kernel_rfl
theorem sa37 (x : (Ty.pair ty3 (Ty.pair ty76 ty28)).den) (fx : Fit (Ty.pair ty3 (Ty.pair ty76 ty28)) x) : SafeW ((evFn (ctxG GmN2) Tryd.f37 (Ty.pair ty3 (Ty.pair ty76 ty28)) [none, some 9, some 9] (Rsh.one (some 9)) none ty28 noL x)) := by
  refine ⟨?_⟩
  rw [se37]
  try dsimp only [Ty.den] at *
  simp only [Fit, maxLen] at fx
  simp only [true_and, IntKind.wrap_i64, IntKind.wrap_u8, IntKind.wrap_u32, IntKind.wrap_u64, Sp.tmod_lit, Sp.tdiv_lit, bne_eq_false_iff_eq, Int.natCast_inj, setE, copyL, sliceL, zrow, List.length_append, List.length_cons, List.length_nil, List.length_set, List.length_replicate, List.length_take, List.length_drop, decide_eq_true_eq, decide_eq_false_iff_not, Bool.or_eq_true, Bool.and_eq_true, Bool.or_eq_false_iff, Bool.and_eq_false_iff, Bool.not_eq_true', Bool.not_eq_false', Bool.not_eq_true, Bool.not_eq_false, beq_iff_eq, beq_eq_false_iff_ne, bne_iff_ne, ne_eq, implies_true, and_true, true_and] at *
  all_goals ((repeat' (first | exact trivial | apply And.intro | intro _)) <;> first | trivial | omega | exact Sp.tmod_nn (by omega) | exact Sp.tmod_lt (by omega) (by omega))
theorem ok37 : CtOk Tryd.prog gdS 37 ct37 :=
  fn_okU (ctxOkF gokGmN2 []) rfl Tryd.func37 (p := (Ty.pair ty3 (Ty.pair ty76 ty28))) (psh := [none, some 9, some 9]) (r := ty28) (rsh := (Rsh.one (some 9))) (pre := none) (fresh := none) (F := Sp.F37) (L := noL) (c := bodyOf Tryd.f37) (dflt := Ty.dflt ty28) rfl (no_loops)
    (safe_no @sa37) va37
def GmN3 : List (Nat × Ct) := (18, ct18) :: (37, ct37) :: GmN2
theorem gokGmN3 : GOk GmN3 := gok_cons ok18 ⟨_, Tryd.func18, by kernel_rfl, by kernel_rfl⟩ (gok_cons ok37 ⟨_, Tryd.func37, by kernel_rfl, by kernel_rfl⟩ (gokGmN2))
end Go.Proofs.YtpbljgpdhllklaaDoor.Sy
end

section
/- What the walk of relay.Step needs of the functions below them (own work). -/
namespace Go.Proofs.YtpbljgpdhllklaaDoor.Sp
open Go Sy
/-- A decision is never to wait. -/
theorem decide_stage (y : Int × (Int × Int × Int × Int × Int × Int × Int × Int × Int) × Int × Int × Int × Int × Int × Int × (Int × Int) × Int) :
    (Sp.F67 y).1 ≠ 3 := by
  unfold Sp.F67 Sp.K67_1 Sp.K67_2 Sp.K67_3 Sp.F66
  simp only [cond_eq_ite]
  repeat' split
  all_goals (intro h; dsimp only at h; omega)
/-- Who begins to wait stands where it stood. -/
theorem over_wait (y : Int × (Int × Int × Int × Int × Int × Int × Int × Int × Int) × Int × Int × Int × Int × Int × Int × (Int × Int) × Int)
    (h : (Sp.F37 y).1 = 3) : (Sp.F37 y).2.1 = y.2.2.2.1 := by
  revert h
  unfold Sp.F37
  repeat' (rw [cond_eq_ite])
  split
  · intro _; unfold Sp.F66; rfl
  · split
    · intro h; unfold Sp.F66 at h; dsimp only at h; omega
    · split
      · intro h; exact absurd h (decide_stage _)
      · intro h; exact absurd h (decide_stage _)
/-- Of a state of the relay. -/
theorem istate_b {b : Int × Int × Int × Int × Nat × Nat × Nat × List (Int × Int × Int × Int × Int × Int × Int × Int × Int)}
    {s : Int × Int × Int × Int × Int × Int × (Int × Int) × Int}
    (h : Sp.F19 (b, s) = true) : Sp.F44 b = 0 ∧ 0 ≤ s.2.1 := by
  unfold Sp.F19 at h
  rw [cond_eq_ite] at h
  split at h
  · exact absurd h (by simp)
  · rename_i hv
    simp only [Bool.not_eq_true, Bool.or_eq_false_iff, bne_eq_false_iff_eq] at hv
    refine ⟨hv.1.1.1, ?_⟩
    have h2 := hv.1.2
    unfold Sp.F45 at h2
    simp at h2
    exact h2.1
end Go.Proofs.YtpbljgpdhllklaaDoor.Sp
end

section
/- Contracts of functions, by the evaluator (own program gen.py): overlaylaw17.State, relay.Step. -/
set_option linter.unusedVariables false
set_option linter.unusedSimpArgs false
set_option maxRecDepth 100000
namespace Go.Proofs.YtpbljgpdhllklaaDoor.Sy
open Go Go.RowKit Sp
/-! overlaylaw17.State -/
end Go.Proofs.YtpbljgpdhllklaaDoor.Sy
namespace Go.Proofs.YtpbljgpdhllklaaDoor.Sp
open Go Go.RowKit Sy
def in12_3 (k : (Int × (List Int) × Int × Int × Int × Int × Nat × Nat × Nat × List (Int × Int × Int × Int × Int × Int × Int × Int × Int))) (x : (Int × Int × Int × Int × Int × Int × Int × (Int × Int) × Int)) : Prop := (0 : Int) ≤ x.1
def mu12_3 (k : (Int × (List Int) × Int × Int × Int × Int × Nat × Nat × Nat × List (Int × Int × Int × Int × Int × Int × Int × Int × Int))) (x : (Int × Int × Int × Int × Int × Int × Int × (Int × Int) × Int)) : Nat := (((k.2.1).length : Int) - x.1).toNat
def K12_3_1 (k : (Int × (List Int) × Int × Int × Int × Int × Nat × Nat × Nat × List (Int × Int × Int × Int × Int × Int × Int × Int × Int))) (x : (Int × Int × Int × Int × Int × Int × Int × (Int × Int) × Int)) :=
  (Sp.F18 (k.2.2, k.1, x.2, ((IntKind.u32.wrap (Int.fdiv (IntKind.u8.wrap ((BitVec.ofInt IntKind.u8.bits (Sp.nthT k.2.1 x.1) &&& BitVec.ofInt IntKind.u8.bits (Sp.nthT k.2.1 x.1)).toNat : Int)) (2 ^ (min ((2 : Int)).toNat IntKind.u8.bits)))), (IntKind.u32.wrap (Int.fdiv (IntKind.u8.wrap ((BitVec.ofInt IntKind.u8.bits (Sp.nthT k.2.1 x.1) &&& BitVec.ofInt IntKind.u8.bits (Sp.nthT k.2.1 x.1)).toNat : Int)) (2 ^ (min ((3 : Int)).toNat IntKind.u8.bits))))), (IntKind.u32.wrap (Int.fdiv (IntKind.u8.wrap ((BitVec.ofInt IntKind.u8.bits (Sp.nthT k.2.1 x.1) &&& BitVec.ofInt IntKind.u8.bits (Sp.nthT k.2.1 x.1)).toNat : Int)) (2 ^ (min ((4 : Int)).toNat IntKind.u8.bits))))))
def st12_3 (k : (Int × (List Int) × Int × Int × Int × Int × Nat × Nat × Nat × List (Int × Int × Int × Int × Int × Int × Int × Int × Int))) (x : (Int × Int × Int × Int × Int × Int × Int × (Int × Int) × Int)) : BOut (Int × (List Int) × Int × Int × Int × Int × Nat × Nat × Nat × List (Int × Int × Int × Int × Int × Int × Int × Int × Int)) (Int × Int × Int × Int × Int × Int × Int × (Int × Int) × Int) (Int × Int × Int × Int × Int × Int × (Int × Int) × Int) :=
  bif ((decide (x.1 < ((k.2.1).length : Int))) && (decide (x.1 < (100 : Int)))) then
    BOut.next k ((IntKind.i64.wrap (x.1 + (1 : Int))), (Sp.K12_3_1 k x))
  else
    BOut.brk k x
def G12_3 (k : (Int × (List Int) × Int × Int × Int × Int × Nat × Nat × Nat × List (Int × Int × Int × Int × Int × Int × Int × Int × Int))) (x : (Int × Int × Int × Int × Int × Int × Int × (Int × Int) × Int)) : (Int × Int × Int × Int × Int × Int × Int × (Int × Int) × Int) := endOf st12_3 k (Nat.succ (mu12_3 k x)) x
end Go.Proofs.YtpbljgpdhllklaaDoor.Sp
namespace Go.Proofs.YtpbljgpdhllklaaDoor.Sy
def LS12_3 : LS ty28.den := mkLS (Ty.pair ty3 (Ty.pair ty23 ty32)) (Ty.pair ty3 ty28)  [(1, none), (2, none)] [(3, 8)] [(8, none)] [(7, 9)] [] [] [(3, 3), (7, 7)] 0 false Sp.in12_3 Sp.st12_3 Sp.mu12_3
theorem va12_3 (k : (Ty.pair ty3 (Ty.pair ty23 ty32)).den) (x : (Ty.pair ty3 ty28).den) : ((evCode (ctxG GmN3) (lookL []) (bodyAt (bodyOf Tryd.f12) [0]) (tmpl LS12_3 (enc (Ty.pair ty3 (Ty.pair ty23 ty32)) k) (enc (Ty.pair ty3 ty28) x)) (evRound LS12_3 (evRet (ctxG GmN3) Tryd.f12 (Rsh.one (some 9)) none ty28 .ret)))).val BOut.ret (BOut.brk (Ty.dflt (Ty.pair ty3 (Ty.pair ty23 ty32))) (Ty.dflt (Ty.pair ty3 ty28))) = Sp.st12_3 k x := by kernel_rfl
theorem se12_3 (k : (Ty.pair ty3 (Ty.pair ty23 ty32)).den) (x : (Ty.pair ty3 ty28).den) : ((evCode (ctxG GmN3) (lookL []) (bodyAt (bodyOf Tryd.f12) [0]) (tmpl LS12_3 (enc (Ty.pair ty3 (Ty.pair ty23 ty32)) k) (enc (Ty.pair ty3 ty28) x)) (evRound LS12_3 (evRet (ctxG GmN3) Tryd.f12 (Rsh.one (some 9)) none ty28 .ret)))).safe = (((((decide (x.1 < ((k.2.1).length : Int))) && (decide (x.1 < (100 : Int)))) = true → ((0 ≤ x.1 ∧ x.1 < ((k.2.1).length : Int)) ∧ ((0 ≤ x.1 ∧ x.1 < ((k.2.1).length : Int)) ∧ ((0 ≤ (2 : Int)) ∧ ((0 ≤ x.1 ∧ x.1 < ((k.2.1).length : Int)) ∧ ((0 ≤ x.1 ∧ x.1 < ((k.2.1).length : Int)) ∧ ((0 ≤ (3 : Int)) ∧ ((0 ≤ x.1 ∧ x.1 < ((k.2.1).length : Int)) ∧ ((0 ≤ x.1 ∧ x.1 < ((k.2.1).length : Int)) ∧ ((0 ≤ (4 : Int)) ∧ True)))))))))) ∧ (((decide (x.1 < ((k.2.1).length : Int))) && (decide (x.1 < (100 : Int)))) = false → True))) := by kernel_rfl
set_option maxHeartbeats 4000000 in
theorem sa12_3 (k : (Ty.pair ty3 (Ty.pair ty23 ty32)).den) (x : (Ty.pair ty3 ty28).den) (fk : Fit (Ty.pair ty3 (Ty.pair ty23 ty32)) k) (fx : Fit (Ty.pair ty3 ty28) x) (h : Sp.in12_3 k x) : SafeW ((evCode (ctxG GmN3) (lookL []) (bodyAt (bodyOf Tryd.f12) [0]) (tmpl LS12_3 (enc (Ty.pair ty3 (Ty.pair ty23 ty32)) k) (enc (Ty.pair ty3 ty28) x)) (evRound LS12_3 (evRet (ctxG GmN3) Tryd.f12 (Rsh.one (some 9)) none ty28 .ret)))) := by
  refine ⟨?_⟩
  rw [se12_3]
  try dsimp only [Ty.den] at *
  simp only [Sp.in12_3, Fit, maxLen] at h fk fx
  simp only [IntKind.wrap_i64, IntKind.wrap_u8, IntKind.wrap_u32, IntKind.wrap_u64, Sp.tmod_lit, Sp.tdiv_lit, bne_eq_false_iff_eq, Int.natCast_inj, setE, copyL, sliceL, zrow, List.length_append, List.length_cons, List.length_nil, List.length_set, List.length_replicate, List.length_take, List.length_drop, decide_eq_true_eq, decide_eq_false_iff_not, Bool.or_eq_true, Bool.and_eq_true, Bool.or_eq_false_iff, Bool.and_eq_false_iff, Bool.not_eq_true', Bool.not_eq_false', Bool.not_eq_true, Bool.not_eq_false, beq_iff_eq, beq_eq_false_iff_ne, bne_iff_ne, ne_eq, implies_true, and_true, true_and] at *
  all_goals ((repeat' (first | exact trivial | apply And.intro | intro _)) <;> first | trivial | omega | exact Sp.tmod_nn (by omega) | exact Sp.tmod_lt (by omega) (by omega))
set_option maxHeartbeats 4000000 in
theorem so12_3 (k : (Ty.pair ty3 (Ty.pair ty23 ty32)).den) (x : (Ty.pair ty3 ty28).den) (fk : Fit (Ty.pair ty3 (Ty.pair ty23 ty32)) k) (h : Sp.in12_3 k x) : StepOk false Sp.in12_3 Sp.mu12_3 k x (Sp.st12_3 k x) := by
  try dsimp only [Ty.den] at *
  simp only [Sp.in12_3, Fit, maxLen] at h fk
  unfold Sp.st12_3
  (repeat' (first | exact rfl | (refine StepOk.cnd (fun hc => ?_) (fun hc => ?_) <;> (try simp only [IntKind.wrap_i64, IntKind.wrap_u8, IntKind.wrap_u32, IntKind.wrap_u64, bne_eq_false_iff_eq, Int.natCast_inj, setE, copyL, sliceL, zrow, List.length_append, List.length_cons, List.length_nil, List.length_set, List.length_replicate, List.length_take, List.length_drop, decide_eq_true_eq, decide_eq_false_iff_not, Bool.or_eq_true, Bool.and_eq_true, Bool.or_eq_false_iff, Bool.and_eq_false_iff, Bool.not_eq_true', Bool.not_eq_false', Bool.not_eq_true, Bool.not_eq_false, beq_iff_eq, beq_eq_false_iff_ne, bne_iff_ne, ne_eq] at hc)) | refine StepOk.opt (fun _ => ?_))) <;> (first | exact rfl | (refine ⟨rfl, ?_, ?_⟩ <;> simp only [Sp.in12_3, Sp.mu12_3, Sp.K12_3_1, IntKind.wrap_i64, IntKind.wrap_u8, IntKind.wrap_u32, IntKind.wrap_u64, Sp.tmod_lit, Sp.tdiv_lit, bne_eq_false_iff_eq, Int.natCast_inj, setE, copyL, sliceL, zrow, List.length_append, List.length_cons, List.length_nil, List.length_set, List.length_replicate, List.length_take, List.length_drop, decide_eq_true_eq, decide_eq_false_iff_not, Bool.or_eq_true, Bool.and_eq_true, Bool.or_eq_false_iff, Bool.and_eq_false_iff, Bool.not_eq_true', Bool.not_eq_false', Bool.not_eq_true, Bool.not_eq_false, beq_iff_eq, beq_eq_false_iff_ne, bne_iff_ne, ne_eq] <;> first | omega | (and_intros <;> first | omega | exact h.1 | exact h.2 | exact h.2.1 | exact h.2.2 | exact h.2.2.1 | exact h.2.2.2 | exact h.2.2.2.1 | exact h.2.2.2.2 | exact h.2.2.2.2.1 | exact h.2.2.2.2.2 | exact h.2.2.2.2.2.1 | exact h.2.2.2.2.2.2)))
theorem lo12_3 : LoopOk Tryd.prog gdS (RetAt Tryd.prog Tryd.f12 (Rsh.one (some 9)) none ty28) (bodyAt (bodyOf Tryd.f12) [0]) LS12_3 :=
  loop_run (ctxOkF gokGmN3 []) (L := lookL []) (loops_of (l := []) (by kernel_rfl) (loops_nil)) sa12_3 va12_3 so12_3
end Go.Proofs.YtpbljgpdhllklaaDoor.Sy
namespace Go.Proofs.YtpbljgpdhllklaaDoor.Sp
open Go Go.RowKit Sy
def F12 (x : (Int × Int × Int × Int × Nat × Nat × Nat × List (Int × Int × Int × Int × Int × Int × Int × Int × Int)) × Int × List Int) : Int × Int × Int × Int × Int × Int × (Int × Int) × Int :=
  (Sp.G12_3 (x.2.1, x.2.2, x.1) ((0 : Int), (Sp.F15 (0 : Int)))).2
end Go.Proofs.YtpbljgpdhllklaaDoor.Sp
namespace Go.Proofs.YtpbljgpdhllklaaDoor.Sy
def ct12 : Ct := { p := (Ty.pair ty32 (Ty.pair ty3 ty23)), psh := [some 8, none, none], r := ty28, rsh := (Rsh.one (some 9)), pre := none, fresh := none, F := Sp.F12 }
theorem va12 (x : (Ty.pair ty32 (Ty.pair ty3 ty23)).den) : ((evFn (ctxG GmN3) Tryd.f12 (Ty.pair ty32 (Ty.pair ty3 ty23)) [some 8, none, none] (Rsh.one (some 9)) none ty28 (lookL [(3, LS12_3)]) x)).val (fun y => y) (Ty.dflt ty28) = Sp.F12 x := by kernel_rfl
theorem se12 (x : (Ty.pair ty32 (Ty.pair ty3 ty23)).den) : ((evFn (ctxG GmN3) Tryd.f12 (Ty.pair ty32 (Ty.pair ty3 ty23)) [some 8, none, none] (Rsh.one (some 9)) none ty28 (lookL [(3, LS12_3)]) x)).safe = (((Sp.in12_3 (x.2.1, x.2.2, x.1) ((0 : Int), (Sp.F15 (0 : Int)))) ∧ True)) := by kernel_rfl
theorem sa12 (x : (Ty.pair ty32 (Ty.pair ty3 ty23)).den) (fx : Fit (Ty.pair ty32 (Ty.pair ty3 ty23)) x) : SafeW ((evFn (ctxG GmN3) Tryd.f12 (Ty.pair ty32 (Ty.pair ty3 ty23)) [some 8, none, none] (Rsh.one (some 9)) none ty28 (lookL [(3, LS12_3)]) x)) := by
  refine ⟨?_⟩
  rw [se12]
  try dsimp only [Ty.den] at *
  simp only [Fit, maxLen] at fx
  simp only [Sp.in12_3, IntKind.wrap_i64, IntKind.wrap_u8, IntKind.wrap_u32, IntKind.wrap_u64, Sp.tmod_lit, Sp.tdiv_lit, bne_eq_false_iff_eq, Int.natCast_inj, setE, copyL, sliceL, zrow, List.length_append, List.length_cons, List.length_nil, List.length_set, List.length_replicate, List.length_take, List.length_drop, decide_eq_true_eq, decide_eq_false_iff_not, Bool.or_eq_true, Bool.and_eq_true, Bool.or_eq_false_iff, Bool.and_eq_false_iff, Bool.not_eq_true', Bool.not_eq_false', Bool.not_eq_true, Bool.not_eq_false, beq_iff_eq, beq_eq_false_iff_ne, bne_iff_ne, ne_eq, implies_true, and_true, true_and] at *
  all_goals ((repeat' (first | exact trivial | apply And.intro | intro _)) <;> first | trivial | omega | exact Sp.tmod_nn (by omega) | exact Sp.tmod_lt (by omega) (by omega))
theorem ok12 : CtOk Tryd.prog gdS 12 ct12 :=
  fn_okU (ctxOkF gokGmN3 []) rfl Tryd.func12 (p := (Ty.pair ty32 (Ty.pair ty3 ty23))) (psh := [some 8, none, none]) (r := ty28) (rsh := (Rsh.one (some 9))) (pre := none) (fresh := none) (F := Sp.F12) (L := (lookL [(3, LS12_3)])) (c := bodyOf Tryd.f12) (dflt := Ty.dflt ty28) rfl (loops_of (l := [bodyAt (bodyOf Tryd.f12) [0]]) (by kernel_rfl) (loops_cons (s0 := LS12_3) (by kernel_rfl) lo12_3 (loops_nil)))
    (safe_no @sa12) va12
/-! relay.Step -/
end Go.Proofs.YtpbljgpdhllklaaDoor.Sy
namespace Go.Proofs.YtpbljgpdhllklaaDoor.Sp
open Go Go.RowKit Sy
def K17_1 (x : (Int × Int × Int × Int × Nat × Nat × Nat × List (Int × Int × Int × Int × Int × Int × Int × Int × Int)) × Int × (Int × Int × Int × Int × Int × Int × (Int × Int) × Int) × (Int × Int) × Int) :=
  (Sp.F37 (x.1.1, (Sp.nthT x.1.2.2.2.2.2.2.2 x.2.1), x.2.2.1.1, x.2.2.1.2.1, x.2.2.1.2.2.1, x.2.2.1.2.2.2.1, x.2.2.1.2.2.2.2.1, x.2.2.1.2.2.2.2.2.1, (Sp.F34 (x.2.2.1.2.2.2.2.2.2.1, (Sp.F35 (x.2.2.2.1, (Sp.F36 x.1))))), (IntKind.u32.wrap ((BitVec.ofInt IntKind.u32.bits x.2.2.1.2.2.2.2.2.2.2 ||| BitVec.ofInt IntKind.u32.bits (IntKind.u32.wrap ((BitVec.ofInt IntKind.u32.bits x.2.2.2.2 &&& BitVec.ofInt IntKind.u32.bits (IntKind.u32.wrap ((IntKind.u32.wrap ((1 : Int) * 2 ^ (min (x.1.1).toNat IntKind.u32.bits))) - (1 : Int)))).toNat : Int))).toNat : Int))))
def F17 (x : (Int × Int × Int × Int × Nat × Nat × Nat × List (Int × Int × Int × Int × Int × Int × Int × Int × Int)) × Int × (Int × Int × Int × Int × Int × Int × (Int × Int) × Int) × (Int × Int) × Int) : Int × Int × Int × Int × Int × Int × (Int × Int) × Int :=
  bif (((!(Sp.F19 (x.1, x.2.2.1))) || (decide (x.2.1 < (0 : Int)))) || (decide (x.2.1 ≥ ((x.1.2.2.2.2.2.2.2).length : Int)))) then
    (Sp.F14 (0 : Int))
  else
    bif (decide (x.2.2.1.2.2.2.2.2.1 > (1 : Int))) then
      (bif (x.2.2.1.1 == (3 : Int)) then
        (x.2.2.1.1, x.2.2.1.2.1, x.2.2.1.2.2.1, x.2.2.1.2.2.2.1, x.2.2.1.2.2.2.2.1, (IntKind.i64.wrap (x.2.2.1.2.2.2.2.2.1 - (1 : Int))), (Sp.F38 ((Sp.F34 (x.2.2.1.2.2.2.2.2.2.1, (Sp.F35 (x.2.2.2.1, (Sp.F36 x.1))))), (Sp.F39 (x.2.2.1.2.1, x.2.2.1.2.2.1)))), (IntKind.u32.wrap ((BitVec.ofInt IntKind.u32.bits (IntKind.u32.wrap ((BitVec.ofInt IntKind.u32.bits x.2.2.1.2.2.2.2.2.2.2 ||| BitVec.ofInt IntKind.u32.bits (IntKind.u32.wrap ((BitVec.ofInt IntKind.u32.bits x.2.2.2.2 &&& BitVec.ofInt IntKind.u32.bits (IntKind.u32.wrap ((IntKind.u32.wrap ((1 : Int) * 2 ^ (min (x.1.1).toNat IntKind.u32.bits))) - (1 : Int)))).toNat : Int))).toNat : Int)) &&& ~~~ BitVec.ofInt IntKind.u32.bits (IntKind.u32.wrap ((1 : Int) * 2 ^ (min (x.2.2.1.2.1).toNat IntKind.u32.bits)))).toNat : Int)))
      else
        (x.2.2.1.1, x.2.2.1.2.1, x.2.2.1.2.2.1, x.2.2.1.2.2.2.1, x.2.2.1.2.2.2.2.1, (IntKind.i64.wrap (x.2.2.1.2.2.2.2.2.1 - (1 : Int))), (Sp.F34 (x.2.2.1.2.2.2.2.2.2.1, (Sp.F35 (x.2.2.2.1, (Sp.F36 x.1))))), (IntKind.u32.wrap ((BitVec.ofInt IntKind.u32.bits x.2.2.1.2.2.2.2.2.2.2 ||| BitVec.ofInt IntKind.u32.bits (IntKind.u32.wrap ((BitVec.ofInt IntKind.u32.bits x.2.2.2.2 &&& BitVec.ofInt IntKind.u32.bits (IntKind.u32.wrap ((IntKind.u32.wrap ((1 : Int) * 2 ^ (min (x.1.1).toNat IntKind.u32.bits))) - (1 : Int)))).toNat : Int))).toNat : Int))))
    else
      bif ((Sp.K17_1 x).1 == (3 : Int)) then
        ((Sp.K17_1 x).1, (Sp.K17_1 x).2.1, (Sp.K17_1 x).2.2.1, (Sp.K17_1 x).2.2.2.1, (Sp.K17_1 x).2.2.2.2.1, (Sp.K17_1 x).2.2.2.2.2.1, (Sp.F38 ((Sp.K17_1 x).2.2.2.2.2.2.1, (Sp.F39 ((Sp.K17_1 x).2.1, (Sp.K17_1 x).2.2.1)))), (IntKind.u32.wrap ((BitVec.ofInt IntKind.u32.bits ((Sp.K17_1 x).2.2.2.2.2.2.2) &&& ~~~ BitVec.ofInt IntKind.u32.bits (IntKind.u32.wrap ((1 : Int) * 2 ^ (min ((Sp.K17_1 x).2.1).toNat IntKind.u32.bits)))).toNat : Int)))
      else
        (Sp.K17_1 x)
end Go.Proofs.YtpbljgpdhllklaaDoor.Sp
namespace Go.Proofs.YtpbljgpdhllklaaDoor.Sy
def ct17 : Ct := { p := (Ty.pair ty32 (Ty.pair ty3 (Ty.pair ty28 (Ty.pair ty26 ty24)))), psh := [some 8, none, some 9, some 2, none], r := ty28, rsh := (Rsh.one (some 9)), pre := none, fresh := none, F := Sp.F17 }
theorem va17 (x : (Ty.pair ty32 (Ty.pair ty3 (Ty.pair ty28 (Ty.pair ty26 ty24)))).den) : ((evFn (ctxG GmN3) Tryd.f17 (Ty.pair ty32 (Ty.pair ty3 (Ty.pair ty28 (Ty.pair ty26 ty24)))) [some 8, none, some 9, some 2, none] (Rsh.one (some 9)) none ty28 noL x)).val (fun y => y) (Ty.dflt ty28) = Sp.F17 x := by kernel_rfl
theorem se17 (x : (Ty.pair ty32 (Ty.pair ty3 (Ty.pair ty28 (Ty.pair ty26 ty24)))).den) : ((evFn (ctxG GmN3) Tryd.f17 (Ty.pair ty32 (Ty.pair ty3 (Ty.pair ty28 (Ty.pair ty26 ty24)))) [some 8, none, some 9, some 2, none] (Rsh.one (some 9)) none ty28 noL x)).safe = ((((((!(Sp.F19 (x.1, x.2.2.1))) || (decide (x.2.1 < (0 : Int)))) || (decide (x.2.1 ≥ ((x.1.2.2.2.2.2.2.2).length : Int)))) = true → True) ∧ ((((!(Sp.F19 (x.1, x.2.2.1))) || (decide (x.2.1 < (0 : Int)))) || (decide (x.2.1 ≥ ((x.1.2.2.2.2.2.2.2).length : Int)))) = false → ((0 ≤ x.1.1) ∧ (((decide (x.2.2.1.2.2.2.2.2.1 > (1 : Int))) = true → (((x.2.2.1.1 == (3 : Int)) = true → ((0 ≤ x.2.2.1.2.1) ∧ True)) ∧ ((x.2.2.1.1 == (3 : Int)) = false → True))) ∧ ((decide (x.2.2.1.2.2.2.2.2.1 > (1 : Int))) = false → ((0 ≤ x.2.1 ∧ x.2.1 < ((x.1.2.2.2.2.2.2.2).length : Int)) ∧ ((((Sp.K17_1 x).1 == (3 : Int)) = true → ((0 ≤ (Sp.K17_1 x).2.1) ∧ True)) ∧ (((Sp.K17_1 x).1 == (3 : Int)) = false → True))))))))) := by kernel_rfl
theorem sa17 (x : (Ty.pair ty32 (Ty.pair ty3 (Ty.pair ty28 (Ty.pair ty26 ty24)))).den) (fx : Fit (Ty.pair ty32 (Ty.pair ty3 (Ty.pair ty28 (Ty.pair ty26 ty24)))) x) : SafeW ((evFn (ctxG GmN3) Tryd.f17 (Ty.pair ty32 (Ty.pair ty3 (Ty.pair ty28 (Ty.pair ty26 ty24)))) [some 8, none, some 9, some 2, none] (Rsh.one (some 9)) none ty28 noL x)) := by
  refine ⟨?_⟩
  rw [se17]
  try dsimp only [Ty.den] at *
  refine ⟨fun _ => trivial, fun hc => ?_⟩
  simp only [Bool.or_eq_false_iff, Bool.not_eq_false', decide_eq_false_iff_not] at hc
  have hi := Sp.istate_b hc.1.1
  have hb := Sp.valid_b (Sp.fit_cars fx.1) hi.1
  have hfl := hb.fl
  refine ⟨by omega, fun _ => ⟨fun _ => ⟨hi.2, trivial⟩, fun _ => trivial⟩, fun _ => ⟨⟨by omega, by omega⟩, fun hw => ⟨?_, trivial⟩, fun _ => trivial⟩⟩
  have hw' := Sp.over_wait _ (of_decide_eq_true hw)
  exact (le_of_le_of_eq hi.2 hw'.symm)
theorem ok17 : CtOk Tryd.prog gdS 17 ct17 :=
  fn_okU (ctxOkF gokGmN3 []) rfl Tryd.func17 (p := (Ty.pair ty32 (Ty.pair ty3 (Ty.pair ty28 (Ty.pair ty26 ty24))))) (psh := [some 8, none, some 9, some 2, none]) (r := ty28) (rsh := (Rsh.one (some 9))) (pre := none) (fresh := none) (F := Sp.F17) (L := noL) (c := bodyOf Tryd.f17) (dflt := Ty.dflt ty28) rfl (no_loops)
    (safe_no @sa17) va17
def GmN4 : List (Nat × Ct) := (12, ct12) :: (17, ct17) :: GmN3
theorem gokGmN4 : GOk GmN4 := gok_cons ok12 ⟨_, Tryd.func12, by kernel_rfl, by kernel_rfl⟩ (gok_cons ok17 ⟨_, Tryd.func17, by kernel_rfl, by kernel_rfl⟩ (gokGmN3))
end Go.Proofs.YtpbljgpdhllklaaDoor.Sy
end

section
/- Contracts of functions, by the evaluator (own program gen.py): overlaylaw17.same, overlaylaw17.sane. -/
set_option linter.unusedVariables false
set_option linter.unusedSimpArgs false
set_option maxRecDepth 100000
namespace Go.Proofs.YtpbljgpdhllklaaDoor.Sy
open Go Go.RowKit Sp
/-! overlaylaw17.same -/
end Go.Proofs.YtpbljgpdhllklaaDoor.Sy
namespace Go.Proofs.YtpbljgpdhllklaaDoor.Sp
open Go Go.RowKit Sy
def F13 (x : (Int × Int × Int × Int × Nat × Nat × Nat × List (Int × Int × Int × Int × Int × Int × Int × Int × Int)) × Int × (Int × Int × Int × Int × Int × Int × (Int × Int) × Int) × (Int × Int) × Int) : Bool :=
  (((((Sp.F17 x).1 == (Sp.F18 x).1) && (((Sp.F17 x).2.1 == (Sp.F18 x).2.1) && (((Sp.F17 x).2.2.1 == (Sp.F18 x).2.2.1) && (((Sp.F17 x).2.2.2.1 == (Sp.F18 x).2.2.2.1) && (((Sp.F17 x).2.2.2.2.1 == (Sp.F18 x).2.2.2.2.1) && (((Sp.F17 x).2.2.2.2.2.1 == (Sp.F18 x).2.2.2.2.2.1) && ((((Sp.F17 x).2.2.2.2.2.2.1.1 == (Sp.F18 x).2.2.2.2.2.2.1.1) && ((Sp.F17 x).2.2.2.2.2.2.1.2 == (Sp.F18 x).2.2.2.2.2.2.1.2)) && ((Sp.F17 x).2.2.2.2.2.2.2 == (Sp.F18 x).2.2.2.2.2.2.2)))))))) && ((Sp.F19 (x.1, x.2.2.1)) == (Sp.F32 (x.1, x.2.2.1)))) && (((Sp.F22 x.2.2.1).1 == (Sp.F33 x.2.2.1).1) && (((Sp.F22 x.2.2.1).2.1 == (Sp.F33 x.2.2.1).2.1) && (((Sp.F22 x.2.2.1).2.2.1 == (Sp.F33 x.2.2.1).2.2.1) && (((Sp.F22 x.2.2.1).2.2.2.1 == (Sp.F33 x.2.2.1).2.2.2.1) && ((Sp.F22 x.2.2.1).2.2.2.2 == (Sp.F33 x.2.2.1).2.2.2.2))))))
end Go.Proofs.YtpbljgpdhllklaaDoor.Sp
namespace Go.Proofs.YtpbljgpdhllklaaDoor.Sy
def ct13 : Ct := { p := (Ty.pair ty32 (Ty.pair ty3 (Ty.pair ty28 (Ty.pair ty26 ty24)))), psh := [some 8, none, some 9, some 2, none], r := ty4, rsh := (Rsh.one (none)), pre := none, fresh := none, F := Sp.F13 }
theorem va13 (x : (Ty.pair ty32 (Ty.pair ty3 (Ty.pair ty28 (Ty.pair ty26 ty24)))).den) : ((evFn (ctxG GmN4) Tryd.f13 (Ty.pair ty32 (Ty.pair ty3 (Ty.pair ty28 (Ty.pair ty26 ty24)))) [some 8, none, some 9, some 2, none] (Rsh.one (none)) none ty4 noL x)).val (fun y => y) (Ty.dflt ty4) = Sp.F13 x := by kernel_rfl
theorem se13 (x : (Ty.pair ty32 (Ty.pair ty3 (Ty.pair ty28 (Ty.pair ty26 ty24)))).den) : ((evFn (ctxG GmN4) Tryd.f13 (Ty.pair ty32 (Ty.pair ty3 (Ty.pair ty28 (Ty.pair ty26 ty24)))) [some 8, none, some 9, some 2, none] (Rsh.one (none)) none ty4 noL x)).safe = (True) := by kernel_rfl
theorem sa13 (x : (Ty.pair ty32 (Ty.pair ty3 (Ty.pair ty28 (Ty.pair ty26 ty24)))).den) (fx : Fit (Ty.pair ty32 (Ty.pair ty3 (Ty.pair ty28 (Ty.pair ty26 ty24)))) x) : SafeW ((evFn (ctxG GmN4) Tryd.f13 (Ty.pair ty32 (Ty.pair ty3 (Ty.pair ty28 (Ty.pair ty26 ty24)))) [some 8, none, some 9, some 2, none] (Rsh.one (none)) none ty4 noL x)) := by
  refine ⟨?_⟩
  rw [se13]
  trivial
theorem ok13 : CtOk Tryd.prog gdS 13 ct13 :=
  fn_okU (ctxOkF gokGmN4 []) rfl Tryd.func13 (p := (Ty.pair ty32 (Ty.pair ty3 (Ty.pair ty28 (Ty.pair ty26 ty24))))) (psh := [some 8, none, some 9, some 2, none]) (r := ty4) (rsh := (Rsh.one (none))) (pre := none) (fresh := none) (F := Sp.F13) (L := noL) (c := bodyOf Tryd.f13) (dflt := Ty.dflt ty4) rfl (no_loops)
    (safe_no @sa13) va13
/-! overlaylaw17.sane -/
end Go.Proofs.YtpbljgpdhllklaaDoor.Sy
namespace Go.Proofs.YtpbljgpdhllklaaDoor.Sp
open Go Go.RowKit Sy
def in16_4 (k : (Int × Int × Int × Int × Nat × Nat × Nat × List (Int × Int × Int × Int × Int × Int × Int × Int × Int))) (x : (Int × Int × Int × Int × Int × Int × Int × (Int × Int) × Int)) : Prop := (0 : Int) ≤ x.1
def mu16_4 (k : (Int × Int × Int × Int × Nat × Nat × Nat × List (Int × Int × Int × Int × Int × Int × Int × Int × Int))) (x : (Int × Int × Int × Int × Int × Int × Int × (Int × Int) × Int)) : Nat := ((3 : Int) - x.1).toNat
def st16_4 (k : (Int × Int × Int × Int × Nat × Nat × Nat × List (Int × Int × Int × Int × Int × Int × Int × Int × Int))) (x : (Int × Int × Int × Int × Int × Int × Int × (Int × Int) × Int)) : BOut (Int × Int × Int × Int × Nat × Nat × Nat × List (Int × Int × Int × Int × Int × Int × Int × Int × Int)) (Int × Int × Int × Int × Int × Int × Int × (Int × Int) × Int) (Bool) :=
  bif (decide (x.1 < (3 : Int))) then
    (bif ((x.2.1 != (1 : Int)) || (x.2.2.1 != (0 : Int))) then
      BOut.ret false
    else
      BOut.next k ((IntKind.i64.wrap (x.1 + (1 : Int))), (Sp.F17 (k, (0 : Int), x.2, ((0 : Int), (0 : Int)), (0 : Int)))))
  else
    BOut.brk k x
def G16_4 (k : (Int × Int × Int × Int × Nat × Nat × Nat × List (Int × Int × Int × Int × Int × Int × Int × Int × Int))) (x : (Int × Int × Int × Int × Int × Int × Int × (Int × Int) × Int)) : (Int × Int × Int × Int × Int × Int × Int × (Int × Int) × Int) := endOf st16_4 k (Nat.succ (mu16_4 k x)) x
def R16_4 (k : (Int × Int × Int × Int × Nat × Nat × Nat × List (Int × Int × Int × Int × Int × Int × Int × Int × Int))) (x : (Int × Int × Int × Int × Int × Int × Int × (Int × Int) × Int)) : Option (Bool) := retOf st16_4 k (Nat.succ (mu16_4 k x)) x
end Go.Proofs.YtpbljgpdhllklaaDoor.Sp
namespace Go.Proofs.YtpbljgpdhllklaaDoor.Sy
def LS16_4 : LS ty4.den := mkLS ty32 (Ty.pair ty3 ty28)  [] [(1, 8)] [(3, none)] [(2, 9)] [] [4] [(1, 1), (2, 2)] 0 true Sp.in16_4 Sp.st16_4 Sp.mu16_4
theorem va16_4 (k : ty32.den) (x : (Ty.pair ty3 ty28).den) : ((evCode (ctxG GmN4) (lookL []) (bodyAt (bodyOf Tryd.f16) [0]) (tmpl LS16_4 (enc ty32 k) (enc (Ty.pair ty3 ty28) x)) (evRound LS16_4 (evRet (ctxG GmN4) Tryd.f16 (Rsh.one (none)) none ty4 .ret)))).val BOut.ret (BOut.brk (Ty.dflt ty32) (Ty.dflt (Ty.pair ty3 ty28))) = Sp.st16_4 k x := by kernel_rfl
theorem se16_4 (k : ty32.den) (x : (Ty.pair ty3 ty28).den) : ((evCode (ctxG GmN4) (lookL []) (bodyAt (bodyOf Tryd.f16) [0]) (tmpl LS16_4 (enc ty32 k) (enc (Ty.pair ty3 ty28) x)) (evRound LS16_4 (evRet (ctxG GmN4) Tryd.f16 (Rsh.one (none)) none ty4 .ret)))).safe = ((((decide (x.1 < (3 : Int))) = true → ((((x.2.1 != (1 : Int)) || (x.2.2.1 != (0 : Int))) = true → True) ∧ (((x.2.1 != (1 : Int)) || (x.2.2.1 != (0 : Int))) = false → True))) ∧ ((decide (x.1 < (3 : Int))) = false → True))) := by kernel_rfl
set_option maxHeartbeats 4000000 in
theorem sa16_4 (k : ty32.den) (x : (Ty.pair ty3 ty28).den) (fk : Fit ty32 k) (fx : Fit (Ty.pair ty3 ty28) x) (h : Sp.in16_4 k x) : SafeW ((evCode (ctxG GmN4) (lookL []) (bodyAt (bodyOf Tryd.f16) [0]) (tmpl LS16_4 (enc ty32 k) (enc (Ty.pair ty3 ty28) x)) (evRound LS16_4 (evRet (ctxG GmN4) Tryd.f16 (Rsh.one (none)) none ty4 .ret)))) := by
  refine ⟨?_⟩
  rw [se16_4]
  try dsimp only [Ty.den] at *
  simp only [Sp.in16_4, Fit, maxLen] at h fk fx
  simp only [IntKind.wrap_i64, IntKind.wrap_u8, IntKind.wrap_u32, IntKind.wrap_u64, Sp.tmod_lit, Sp.tdiv_lit, bne_eq_false_iff_eq, Int.natCast_inj, setE, copyL, sliceL, zrow, List.length_append, List.length_cons, List.length_nil, List.length_set, List.length_replicate, List.length_take, List.length_drop, decide_eq_true_eq, decide_eq_false_iff_not, Bool.or_eq_true, Bool.and_eq_true, Bool.or_eq_false_iff, Bool.and_eq_false_iff, Bool.not_eq_true', Bool.not_eq_false', Bool.not_eq_true, Bool.not_eq_false, beq_iff_eq, beq_eq_false_iff_ne, bne_iff_ne, ne_eq, implies_true, and_true, true_and] at *
  all_goals ((repeat' (first | exact trivial | apply And.intro | intro _)) <;> first | trivial | omega | exact Sp.tmod_nn (by omega) | exact Sp.tmod_lt (by omega) (by omega))
set_option maxHeartbeats 4000000 in
theorem so16_4 (k : ty32.den) (x : (Ty.pair ty3 ty28).den) (fk : Fit ty32 k) (h : Sp.in16_4 k x) : StepOk true Sp.in16_4 Sp.mu16_4 k x (Sp.st16_4 k x) := by
  try dsimp only [Ty.den] at *
  simp only [Sp.in16_4, Fit, maxLen] at h fk
  unfold Sp.st16_4
  (repeat' (first | exact rfl | (refine StepOk.cnd (fun hc => ?_) (fun hc => ?_) <;> (try simp only [IntKind.wrap_i64, IntKind.wrap_u8, IntKind.wrap_u32, IntKind.wrap_u64, bne_eq_false_iff_eq, Int.natCast_inj, setE, copyL, sliceL, zrow, List.length_append, List.length_cons, List.length_nil, List.length_set, List.length_replicate, List.length_take, List.length_drop, decide_eq_true_eq, decide_eq_false_iff_not, Bool.or_eq_true, Bool.and_eq_true, Bool.or_eq_false_iff, Bool.and_eq_false_iff, Bool.not_eq_true', Bool.not_eq_false', Bool.not_eq_true, Bool.not_eq_false, beq_iff_eq, beq_eq_false_iff_ne, bne_iff_ne, ne_eq] at hc)) | refine StepOk.opt (fun _ => ?_))) <;> (first | exact rfl | (refine ⟨rfl, ?_, ?_⟩ <;> simp only [Sp.in16_4, Sp.mu16_4, IntKind.wrap_i64, IntKind.wrap_u8, IntKind.wrap_u32, IntKind.wrap_u64, Sp.tmod_lit, Sp.tdiv_lit, bne_eq_false_iff_eq, Int.natCast_inj, setE, copyL, sliceL, zrow, List.length_append, List.length_cons, List.length_nil, List.length_set, List.length_replicate, List.length_take, List.length_drop, decide_eq_true_eq, decide_eq_false_iff_not, Bool.or_eq_true, Bool.and_eq_true, Bool.or_eq_false_iff, Bool.and_eq_false_iff, Bool.not_eq_true', Bool.not_eq_false', Bool.not_eq_true, Bool.not_eq_false, beq_iff_eq, beq_eq_false_iff_ne, bne_iff_ne, ne_eq] <;> first | omega | (and_intros <;> first | omega | exact h.1 | exact h.2 | exact h.2.1 | exact h.2.2 | exact h.2.2.1 | exact h.2.2.2 | exact h.2.2.2.1 | exact h.2.2.2.2 | exact h.2.2.2.2.1 | exact h.2.2.2.2.2 | exact h.2.2.2.2.2.1 | exact h.2.2.2.2.2.2)))
theorem lo16_4 : LoopOk Tryd.prog gdS (RetAt Tryd.prog Tryd.f16 (Rsh.one (none)) none ty4) (bodyAt (bodyOf Tryd.f16) [0]) LS16_4 :=
  loop_run (ctxOkF gokGmN4 []) (L := lookL []) (loops_of (l := []) (by kernel_rfl) (loops_nil)) sa16_4 va16_4 so16_4
end Go.Proofs.YtpbljgpdhllklaaDoor.Sy
namespace Go.Proofs.YtpbljgpdhllklaaDoor.Sp
open Go Go.RowKit Sy
def F16 (x : Unit) : Bool :=
  Sp.optR (Sp.R16_4 (Sp.F11 ((2 : Int), (2 : Int))) ((0 : Int), (Sp.F17 ((Sp.F11 ((2 : Int), (2 : Int))), (0 : Int), (Sp.F14 (0 : Int)), ((0 : Int), (2 : Int)), (0 : Int))))) (fun y => y)
  (((((((Sp.nthT ((Sp.F11 ((2 : Int), (2 : Int))).2.2.2.2.2.2.2) (0 : Int)).2.2.2.2.1 == (3 : Int)) && ((Sp.G16_4 (Sp.F11 ((2 : Int), (2 : Int))) ((0 : Int), (Sp.F17 ((Sp.F11 ((2 : Int), (2 : Int))), (0 : Int), (Sp.F14 (0 : Int)), ((0 : Int), (2 : Int)), (0 : Int))))).2.2.1 == (1 : Int))) && ((Sp.G16_4 (Sp.F11 ((2 : Int), (2 : Int))) ((0 : Int), (Sp.F17 ((Sp.F11 ((2 : Int), (2 : Int))), (0 : Int), (Sp.F14 (0 : Int)), ((0 : Int), (2 : Int)), (0 : Int))))).2.1 == (2 : Int))) && ((Sp.G16_4 (Sp.F11 ((2 : Int), (2 : Int))) ((0 : Int), (Sp.F17 ((Sp.F11 ((2 : Int), (2 : Int))), (0 : Int), (Sp.F14 (0 : Int)), ((0 : Int), (2 : Int)), (0 : Int))))).2.2.2.1 == (2 : Int))) && (((Sp.F22 ((Sp.G16_4 (Sp.F11 ((2 : Int), (2 : Int))) ((0 : Int), (Sp.F17 ((Sp.F11 ((2 : Int), (2 : Int))), (0 : Int), (Sp.F14 (0 : Int)), ((0 : Int), (2 : Int)), (0 : Int))))).2)).1 == (2 : Int)) && (((Sp.F22 ((Sp.G16_4 (Sp.F11 ((2 : Int), (2 : Int))) ((0 : Int), (Sp.F17 ((Sp.F11 ((2 : Int), (2 : Int))), (0 : Int), (Sp.F14 (0 : Int)), ((0 : Int), (2 : Int)), (0 : Int))))).2)).2.1 == false) && (((Sp.F22 ((Sp.G16_4 (Sp.F11 ((2 : Int), (2 : Int))) ((0 : Int), (Sp.F17 ((Sp.F11 ((2 : Int), (2 : Int))), (0 : Int), (Sp.F14 (0 : Int)), ((0 : Int), (2 : Int)), (0 : Int))))).2)).2.2.1 == true) && (((Sp.F22 ((Sp.G16_4 (Sp.F11 ((2 : Int), (2 : Int))) ((0 : Int), (Sp.F17 ((Sp.F11 ((2 : Int), (2 : Int))), (0 : Int), (Sp.F14 (0 : Int)), ((0 : Int), (2 : Int)), (0 : Int))))).2)).2.2.2.1 == false) && ((Sp.F22 ((Sp.G16_4 (Sp.F11 ((2 : Int), (2 : Int))) ((0 : Int), (Sp.F17 ((Sp.F11 ((2 : Int), (2 : Int))), (0 : Int), (Sp.F14 (0 : Int)), ((0 : Int), (2 : Int)), (0 : Int))))).2)).2.2.2.2 == false)))))))
end Go.Proofs.YtpbljgpdhllklaaDoor.Sp
namespace Go.Proofs.YtpbljgpdhllklaaDoor.Sy
def ct16 : Ct := { p := Ty.unit, psh := [], r := ty4, rsh := (Rsh.one (none)), pre := none, fresh := none, F := Sp.F16 }
theorem va16 (x : Ty.unit.den) : ((evFn (ctxG GmN4) Tryd.f16 Ty.unit [] (Rsh.one (none)) none ty4 (lookL [(4, LS16_4)]) x)).val (fun y => y) (Ty.dflt ty4) = Sp.F16 x := by kernel_rfl
theorem se16 (x : Ty.unit.den) : ((evFn (ctxG GmN4) Tryd.f16 Ty.unit [] (Rsh.one (none)) none ty4 (lookL [(4, LS16_4)]) x)).safe = (((Sp.pre11 ((2 : Int), (2 : Int))) ∧ ((Sp.in16_4 (Sp.F11 ((2 : Int), (2 : Int))) ((0 : Int), (Sp.F17 ((Sp.F11 ((2 : Int), (2 : Int))), (0 : Int), (Sp.F14 (0 : Int)), ((0 : Int), (2 : Int)), (0 : Int))))) ∧ ((Sp.R16_4 (Sp.F11 ((2 : Int), (2 : Int))) ((0 : Int), (Sp.F17 ((Sp.F11 ((2 : Int), (2 : Int))), (0 : Int), (Sp.F14 (0 : Int)), ((0 : Int), (2 : Int)), (0 : Int))))) = none → ((0 ≤ (0 : Int) ∧ (0 : Int) < (((Sp.F11 ((2 : Int), (2 : Int))).2.2.2.2.2.2.2).length : Int)) ∧ True))))) := by kernel_rfl
theorem sa16 (x : Ty.unit.den) (fx : Fit Ty.unit x) : SafeW ((evFn (ctxG GmN4) Tryd.f16 Ty.unit [] (Rsh.one (none)) none ty4 (lookL [(4, LS16_4)]) x)) := by
  refine ⟨?_⟩
  rw [se16]
  try dsimp only [Ty.den] at *
  simp only [Fit, maxLen] at fx
  simp only [Sp.in16_4, Sp.pre11, IntKind.wrap_i64, IntKind.wrap_u8, IntKind.wrap_u32, IntKind.wrap_u64, Sp.tmod_lit, Sp.tdiv_lit, bne_eq_false_iff_eq, Int.natCast_inj, setE, copyL, sliceL, zrow, List.length_append, List.length_cons, List.length_nil, List.length_set, List.length_replicate, List.length_take, List.length_drop, decide_eq_true_eq, decide_eq_false_iff_not, Bool.or_eq_true, Bool.and_eq_true, Bool.or_eq_false_iff, Bool.and_eq_false_iff, Bool.not_eq_true', Bool.not_eq_false', Bool.not_eq_true, Bool.not_eq_false, beq_iff_eq, beq_eq_false_iff_ne, bne_iff_ne, ne_eq, implies_true, and_true, true_and] at *
  all_goals ((repeat' (first | exact trivial | apply And.intro | intro _)) <;> first | trivial | omega | exact Sp.tmod_nn (by omega) | exact Sp.tmod_lt (by omega) (by omega))
theorem ok16 : CtOk Tryd.prog gdS 16 ct16 :=
  fn_okU (ctxOkF gokGmN4 []) rfl Tryd.func16 (p := Ty.unit) (psh := []) (r := ty4) (rsh := (Rsh.one (none))) (pre := none) (fresh := none) (F := Sp.F16) (L := (lookL [(4, LS16_4)])) (c := bodyOf Tryd.f16) (dflt := Ty.dflt ty4) rfl (loops_of (l := [bodyAt (bodyOf Tryd.f16) [0]]) (by kernel_rfl) (loops_cons (s0 := LS16_4) (by kernel_rfl) lo16_4 (loops_nil)))
    (safe_no @sa16) va16
def GmN5 : List (Nat × Ct) := (13, ct13) :: (16, ct16) :: GmN4
theorem gokGmN5 : GOk GmN5 := gok_cons ok13 ⟨_, Tryd.func13, by kernel_rfl, by kernel_rfl⟩ (gok_cons ok16 ⟨_, Tryd.func16, by kernel_rfl, by kernel_rfl⟩ (gokGmN4))
end Go.Proofs.YtpbljgpdhllklaaDoor.Sy
end

section
/- What the relay laws' loops need: a bound of the promise, contacts that fit (own work). -/
namespace Go.Proofs.YtpbljgpdhllklaaDoor.Sp
open Go Sy
/-- The promise of a valid building. -/
theorem promise_eq {b : BldT} (hb : IsB b) (hl : b.cars.length ≤ maxLen) {i : Int} (h0 : 0 ≤ i) (h1 : i < (b.2.2.2.2.2.2.2.length : Int)) :
    Sp.F20 (b, i) = (3 * b.1 + 1) * (3 * (2 * (nthT b.2.2.2.2.2.2.2 i).2.2.2.2.2.1 + (nthT b.2.2.2.2.2.2.2 i).2.2.2.2.2.2.1) + (nthT b.2.2.2.2.2.2.2 i).2.2.2.2.1 + 2) := by
  have hf := hb.fl
  have ht := car_times hb h0 h1
  unfold Sp.F20
  simp only [valid_of hb hl]
  have e1 : decide (i < 0) = false := by simp; omega
  have e2 : decide (i ≥ (b.2.2.2.2.2.2.2.length : Int)) = false := by simp; omega
  rw [e1, e2, show ((0 : Int) != 0) = false from rfl]
  simp only [Bool.or_false, cond_false]
  generalize (nthT b.2.2.2.2.2.2.2 i) = c at *
  rw [wrap_i64_of (x := 3 * b.1) (by omega) (by omega), wrap_i64_of (x := 3 * b.1 + 1) (by omega) (by omega), wrap_i64_of (x := 2 * c.2.2.2.2.2.1) (by omega) (by omega),
    wrap_i64_of (x := 2 * c.2.2.2.2.2.1 + c.2.2.2.2.2.2.1) (by omega) (by omega), wrap_i64_of (x := 3 * (2 * c.2.2.2.2.2.1 + c.2.2.2.2.2.2.1)) (by omega) (by omega),
    wrap_i64_of (x := 3 * (2 * c.2.2.2.2.2.1 + c.2.2.2.2.2.2.1) + c.2.2.2.2.1) (by omega) (by omega), wrap_i64_of (x := 3 * (2 * c.2.2.2.2.2.1 + c.2.2.2.2.2.2.1) + c.2.2.2.2.1 + 2) (by omega) (by omega)]
  generalize hA : 3 * b.1 + 1 = A
  generalize hB : 3 * (2 * c.2.2.2.2.2.1 + c.2.2.2.2.2.2.1) + c.2.2.2.2.1 + 2 = B
  have hA' : 0 ≤ A ∧ A ≤ 97 := by omega
  have hB' : 0 ≤ B ∧ B ≤ 1000000 := by omega
  have m1 : 0 ≤ A * B := Int.mul_nonneg hA'.1 hB'.1
  have m2 : A * B ≤ 97 * 1000000 := Int.mul_le_mul hA'.2 hB'.2 hB'.1 (by decide)
  exact wrap_i64_of (by omega) (by omega)
theorem promise_le (x : BldT × Int) (hl : x.1.cars.length ≤ maxLen) : Sp.F20 x ≤ 1000000000 := by
  by_cases hv : Sp.F44 x.1 = 0
  · have hb := valid_b hl hv
    by_cases h0 : 0 ≤ x.2
    · by_cases h1 : x.2 < (x.1.2.2.2.2.2.2.2.length : Int)
      · have := promise_eq hb hl h0 h1
        have hf := hb.fl
        have ht := car_times hb h0 h1
        rw [show x = (x.1, x.2) from rfl, this]
        generalize (nthT x.1.2.2.2.2.2.2.2 x.2) = c at *
        have m2 : (3 * x.1.1 + 1) * (3 * (2 * c.2.2.2.2.2.1 + c.2.2.2.2.2.2.1) + c.2.2.2.2.1 + 2) ≤ 97 * 1000000 := Int.mul_le_mul (by omega) (by omega) (by omega) (by decide)
        omega
      · unfold Sp.F20
        have e2 : decide (x.2 ≥ (x.1.2.2.2.2.2.2.2.length : Int)) = true := by simp; omega
        rw [e2, Bool.or_true, cond_true]; decide
    · unfold Sp.F20
      have e1 : decide (x.2 < 0) = true := by simp; omega
      rw [e1, Bool.or_true, Bool.true_or, cond_true]; decide
  · unfold Sp.F20
    have e1 : (Sp.F44 x.1 != 0) = true := by rw [bne_iff_ne]; exact hv
    rw [e1, Bool.true_or, Bool.true_or, cond_true]; decide
theorem contacts_u (x : Int × Int × Int × Int × Int × Int × (Int × Int) × Int) : 0 ≤ (Sp.F22 x).1 ∧ (Sp.F22 x).1 ≤ 4294967295 := by
  unfold Sp.F22
  rw [cond_eq_ite]
  split
  · simp only [IntKind.wrap_u32]; omega
  · simp
end Go.Proofs.YtpbljgpdhllklaaDoor.Sp
end

section
/- Contracts of functions, by the evaluator (own program gen.py): overlaylaw17.RelaySteps, overlaylaw17.RelayRuns, overlaylaw17.RelayCarries, overlaylaw17.RelayContacts, overlaylaw17.RelayHolds, overlaylaw17.RelayPromises. -/
set_option linter.unusedVariables false
set_option linter.unusedSimpArgs false
set_option maxRecDepth 100000
namespace Go.Proofs.YtpbljgpdhllklaaDoor.Sy
open Go Go.RowKit Sp
/-! overlaylaw17.RelaySteps -/
end Go.Proofs.YtpbljgpdhllklaaDoor.Sy
namespace Go.Proofs.YtpbljgpdhllklaaDoor.Sp
open Go Go.RowKit Sy
def in3_13 (k : ((Int × Int × Int × Int × Int × Int × (Int × Int) × Int) × (Int × Int × Int × Int × Nat × Nat × Nat × List (Int × Int × Int × Int × Int × Int × Int × Int × Int)) × Int × Int × Int × Int × Int × Int × (Int × Int) × Int)) (x : (Int)) : Prop := (-1 : Int) ≤ x ∧ k.2.1.2.2.2.2.2.2.2.length ≤ 100
def mu3_13 (k : ((Int × Int × Int × Int × Int × Int × (Int × Int) × Int) × (Int × Int × Int × Int × Nat × Nat × Nat × List (Int × Int × Int × Int × Int × Int × Int × Int × Int)) × Int × Int × Int × Int × Int × Int × (Int × Int) × Int)) (x : (Int)) : Nat := (((k.2.1.2.2.2.2.2.2.2).length : Int) - x + 1).toNat
def st3_13 (k : ((Int × Int × Int × Int × Int × Int × (Int × Int) × Int) × (Int × Int × Int × Int × Nat × Nat × Nat × List (Int × Int × Int × Int × Int × Int × Int × Int × Int)) × Int × Int × Int × Int × Int × Int × (Int × Int) × Int)) (x : (Int)) : BOut ((Int × Int × Int × Int × Int × Int × (Int × Int) × Int) × (Int × Int × Int × Int × Nat × Nat × Nat × List (Int × Int × Int × Int × Int × Int × Int × Int × Int)) × Int × Int × Int × Int × Int × Int × (Int × Int) × Int) (Int) (Bool) :=
  bif (decide (x ≤ ((k.2.1.2.2.2.2.2.2.2).length : Int))) then
    (bif ((!(Sp.F13 (k.2.1, x, k.2.2, k.1.2.2.2.2.2.2))) || (!(Sp.F13 (k.2.1, x, k.2.2, ((0 : Int), (0 : Int)), (0 : Int))))) then
      BOut.ret false
    else
      BOut.next k (IntKind.i64.wrap (x + (1 : Int))))
  else
    BOut.brk k x
def G3_13 (k : ((Int × Int × Int × Int × Int × Int × (Int × Int) × Int) × (Int × Int × Int × Int × Nat × Nat × Nat × List (Int × Int × Int × Int × Int × Int × Int × Int × Int)) × Int × Int × Int × Int × Int × Int × (Int × Int) × Int)) (x : (Int)) : (Int) := endOf st3_13 k (Nat.succ (mu3_13 k x)) x
def R3_13 (k : ((Int × Int × Int × Int × Int × Int × (Int × Int) × Int) × (Int × Int × Int × Int × Nat × Nat × Nat × List (Int × Int × Int × Int × Int × Int × Int × Int × Int)) × Int × Int × Int × Int × Int × Int × (Int × Int) × Int)) (x : (Int)) : Option (Bool) := retOf st3_13 k (Nat.succ (mu3_13 k x)) x
end Go.Proofs.YtpbljgpdhllklaaDoor.Sp
namespace Go.Proofs.YtpbljgpdhllklaaDoor.Sy
def LS3_13 : LS ty4.den := mkLS (Ty.pair ty28 (Ty.pair ty32 ty28)) ty3  [] [(5, 9), (7, 8), (10, 9)] [(11, none)] [] [] [] [(5, 5), (7, 7), (10, 10)] 2 true Sp.in3_13 Sp.st3_13 Sp.mu3_13
end Go.Proofs.YtpbljgpdhllklaaDoor.Sy
namespace Go.Proofs.YtpbljgpdhllklaaDoor.Sp
open Go Go.RowKit Sy
def in3_10 (k : ((List (Int × Int × Int × Int × Int × Int × (Int × Int) × Int)) × Int × (Int × Int × Int × Int × Int × Int × (Int × Int) × Int) × Int × Int × Int × Int × Nat × Nat × Nat × List (Int × Int × Int × Int × Int × Int × Int × Int × Int))) (x : (Int)) : Prop := (0 : Int) ≤ x ∧ k.2.1 = ((k.1).length : Int) ∧ k.2.2.2.2.2.2.2.2.2.2.length ≤ 100
def mu3_10 (k : ((List (Int × Int × Int × Int × Int × Int × (Int × Int) × Int)) × Int × (Int × Int × Int × Int × Int × Int × (Int × Int) × Int) × Int × Int × Int × Int × Nat × Nat × Nat × List (Int × Int × Int × Int × Int × Int × Int × Int × Int))) (x : (Int)) : Nat := (k.2.1 - x).toNat
def st3_10 (k : ((List (Int × Int × Int × Int × Int × Int × (Int × Int) × Int)) × Int × (Int × Int × Int × Int × Int × Int × (Int × Int) × Int) × Int × Int × Int × Int × Nat × Nat × Nat × List (Int × Int × Int × Int × Int × Int × Int × Int × Int))) (x : (Int)) : BOut ((List (Int × Int × Int × Int × Int × Int × (Int × Int) × Int)) × Int × (Int × Int × Int × Int × Int × Int × (Int × Int) × Int) × Int × Int × Int × Int × Nat × Nat × Nat × List (Int × Int × Int × Int × Int × Int × Int × Int × Int)) (Int) (Bool) :=
  bif (decide (x < k.2.1)) then
    (Sp.optR (Sp.R3_13 (k.2.2.1, k.2.2.2, (Sp.nthT k.1 x)) (-1 : Int)) BOut.ret
    (BOut.next k (IntKind.i64.wrap (x + (1 : Int)))))
  else
    BOut.brk k x
def G3_10 (k : ((List (Int × Int × Int × Int × Int × Int × (Int × Int) × Int)) × Int × (Int × Int × Int × Int × Int × Int × (Int × Int) × Int) × Int × Int × Int × Int × Nat × Nat × Nat × List (Int × Int × Int × Int × Int × Int × Int × Int × Int))) (x : (Int)) : (Int) := endOf st3_10 k (Nat.succ (mu3_10 k x)) x
def R3_10 (k : ((List (Int × Int × Int × Int × Int × Int × (Int × Int) × Int)) × Int × (Int × Int × Int × Int × Int × Int × (Int × Int) × Int) × Int × Int × Int × Int × Nat × Nat × Nat × List (Int × Int × Int × Int × Int × Int × Int × Int × Int))) (x : (Int)) : Option (Bool) := retOf st3_10 k (Nat.succ (mu3_10 k x)) x
end Go.Proofs.YtpbljgpdhllklaaDoor.Sp
namespace Go.Proofs.YtpbljgpdhllklaaDoor.Sy
def LS3_10 : LS ty4.den := mkLS (Ty.pair ty37 (Ty.pair ty3 (Ty.pair ty28 ty32))) ty3  [(93, none), (94, none)] [(5, 9), (7, 8)] [(95, none)] [] [] [16] [(5, 5), (7, 7)] 0 true Sp.in3_10 Sp.st3_10 Sp.mu3_10
theorem va3_13 (k : (Ty.pair ty28 (Ty.pair ty32 ty28)).den) (x : ty3.den) : ((evCode (ctxG GmN5) (lookL []) (bodyAt (bodyOf Tryd.f3) [0, 0]) (tmpl LS3_13 (enc (Ty.pair ty28 (Ty.pair ty32 ty28)) k) (enc ty3 x)) (evRound LS3_13 (evRet (ctxG GmN5) Tryd.f3 (Rsh.one (none)) none ty4 .ret)))).val BOut.ret (BOut.brk (Ty.dflt (Ty.pair ty28 (Ty.pair ty32 ty28))) (Ty.dflt ty3)) = Sp.st3_13 k x := by kernel_rfl
theorem se3_13 (k : (Ty.pair ty28 (Ty.pair ty32 ty28)).den) (x : ty3.den) : ((evCode (ctxG GmN5) (lookL []) (bodyAt (bodyOf Tryd.f3) [0, 0]) (tmpl LS3_13 (enc (Ty.pair ty28 (Ty.pair ty32 ty28)) k) (enc ty3 x)) (evRound LS3_13 (evRet (ctxG GmN5) Tryd.f3 (Rsh.one (none)) none ty4 .ret)))).safe = ((((decide (x ≤ ((k.2.1.2.2.2.2.2.2.2).length : Int))) = true → ((((!(Sp.F13 (k.2.1, x, k.2.2, k.1.2.2.2.2.2.2))) || (!(Sp.F13 (k.2.1, x, k.2.2, ((0 : Int), (0 : Int)), (0 : Int))))) = true → True) ∧ (((!(Sp.F13 (k.2.1, x, k.2.2, k.1.2.2.2.2.2.2))) || (!(Sp.F13 (k.2.1, x, k.2.2, ((0 : Int), (0 : Int)), (0 : Int))))) = false → True))) ∧ ((decide (x ≤ ((k.2.1.2.2.2.2.2.2.2).length : Int))) = false → True))) := by kernel_rfl
set_option maxHeartbeats 4000000 in
theorem sa3_13 (k : (Ty.pair ty28 (Ty.pair ty32 ty28)).den) (x : ty3.den) (fk : Fit (Ty.pair ty28 (Ty.pair ty32 ty28)) k) (fx : Fit ty3 x) (h : Sp.in3_13 k x) : SafeW ((evCode (ctxG GmN5) (lookL []) (bodyAt (bodyOf Tryd.f3) [0, 0]) (tmpl LS3_13 (enc (Ty.pair ty28 (Ty.pair ty32 ty28)) k) (enc ty3 x)) (evRound LS3_13 (evRet (ctxG GmN5) Tryd.f3 (Rsh.one (none)) none ty4 .ret)))) := by
  refine ⟨?_⟩
  rw [se3_13]
  try dsimp only [Ty.den] at *
  simp only [Sp.in3_13, Fit, maxLen] at h fk fx
  simp only [IntKind.wrap_i64, IntKind.wrap_u8, IntKind.wrap_u32, IntKind.wrap_u64, Sp.tmod_lit, Sp.tdiv_lit, bne_eq_false_iff_eq, Int.natCast_inj, setE, copyL, sliceL, zrow, List.length_append, List.length_cons, List.length_nil, List.length_set, List.length_replicate, List.length_take, List.length_drop, decide_eq_true_eq, decide_eq_false_iff_not, Bool.or_eq_true, Bool.and_eq_true, Bool.or_eq_false_iff, Bool.and_eq_false_iff, Bool.not_eq_true', Bool.not_eq_false', Bool.not_eq_true, Bool.not_eq_false, beq_iff_eq, beq_eq_false_iff_ne, bne_iff_ne, ne_eq, implies_true, and_true, true_and] at *
  all_goals ((repeat' (first | exact trivial | apply And.intro | intro _)) <;> first | trivial | omega | exact Sp.tmod_nn (by omega) | exact Sp.tmod_lt (by omega) (by omega))
set_option maxHeartbeats 4000000 in
theorem so3_13 (k : (Ty.pair ty28 (Ty.pair ty32 ty28)).den) (x : ty3.den) (fk : Fit (Ty.pair ty28 (Ty.pair ty32 ty28)) k) (h : Sp.in3_13 k x) : StepOk true Sp.in3_13 Sp.mu3_13 k x (Sp.st3_13 k x) := by
  try dsimp only [Ty.den] at *
  simp only [Sp.in3_13, Fit, maxLen] at h fk
  unfold Sp.st3_13
  (repeat' (first | exact rfl | (refine StepOk.cnd (fun hc => ?_) (fun hc => ?_) <;> (try simp only [IntKind.wrap_i64, IntKind.wrap_u8, IntKind.wrap_u32, IntKind.wrap_u64, bne_eq_false_iff_eq, Int.natCast_inj, setE, copyL, sliceL, zrow, List.length_append, List.length_cons, List.length_nil, List.length_set, List.length_replicate, List.length_take, List.length_drop, decide_eq_true_eq, decide_eq_false_iff_not, Bool.or_eq_true, Bool.and_eq_true, Bool.or_eq_false_iff, Bool.and_eq_false_iff, Bool.not_eq_true', Bool.not_eq_false', Bool.not_eq_true, Bool.not_eq_false, beq_iff_eq, beq_eq_false_iff_ne, bne_iff_ne, ne_eq] at hc)) | refine StepOk.opt (fun _ => ?_))) <;> (first | exact rfl | (refine ⟨rfl, ?_, ?_⟩ <;> simp only [Sp.in3_13, Sp.mu3_13, IntKind.wrap_i64, IntKind.wrap_u8, IntKind.wrap_u32, IntKind.wrap_u64, Sp.tmod_lit, Sp.tdiv_lit, bne_eq_false_iff_eq, Int.natCast_inj, setE, copyL, sliceL, zrow, List.length_append, List.length_cons, List.length_nil, List.length_set, List.length_replicate, List.length_take, List.length_drop, decide_eq_true_eq, decide_eq_false_iff_not, Bool.or_eq_true, Bool.and_eq_true, Bool.or_eq_false_iff, Bool.and_eq_false_iff, Bool.not_eq_true', Bool.not_eq_false', Bool.not_eq_true, Bool.not_eq_false, beq_iff_eq, beq_eq_false_iff_ne, bne_iff_ne, ne_eq] <;> first | omega | (and_intros <;> first | omega | exact h.1 | exact h.2 | exact h.2.1 | exact h.2.2 | exact h.2.2.1 | exact h.2.2.2 | exact h.2.2.2.1 | exact h.2.2.2.2 | exact h.2.2.2.2.1 | exact h.2.2.2.2.2 | exact h.2.2.2.2.2.1 | exact h.2.2.2.2.2.2)))
theorem lo3_13 : LoopOk Tryd.prog gdS (RetAt Tryd.prog Tryd.f3 (Rsh.one (none)) none ty4) (bodyAt (bodyOf Tryd.f3) [0, 0]) LS3_13 :=
  loop_run (ctxOkF gokGmN5 []) (L := lookL []) (loops_of (l := []) (by kernel_rfl) (loops_nil)) sa3_13 va3_13 so3_13
theorem va3_10 (k : (Ty.pair ty37 (Ty.pair ty3 (Ty.pair ty28 ty32))).den) (x : ty3.den) : ((evCode (ctxG GmN5) (lookL [(13, LS3_13)]) (bodyAt (bodyOf Tryd.f3) [0]) (tmpl LS3_10 (enc (Ty.pair ty37 (Ty.pair ty3 (Ty.pair ty28 ty32))) k) (enc ty3 x)) (evRound LS3_10 (evRet (ctxG GmN5) Tryd.f3 (Rsh.one (none)) none ty4 .ret)))).val BOut.ret (BOut.brk (Ty.dflt (Ty.pair ty37 (Ty.pair ty3 (Ty.pair ty28 ty32)))) (Ty.dflt ty3)) = Sp.st3_10 k x := by kernel_rfl
theorem se3_10 (k : (Ty.pair ty37 (Ty.pair ty3 (Ty.pair ty28 ty32))).den) (x : ty3.den) : ((evCode (ctxG GmN5) (lookL [(13, LS3_13)]) (bodyAt (bodyOf Tryd.f3) [0]) (tmpl LS3_10 (enc (Ty.pair ty37 (Ty.pair ty3 (Ty.pair ty28 ty32))) k) (enc ty3 x)) (evRound LS3_10 (evRet (ctxG GmN5) Tryd.f3 (Rsh.one (none)) none ty4 .ret)))).safe = ((((decide (x < k.2.1)) = true → ((0 ≤ x ∧ x < ((k.1).length : Int)) ∧ ((Sp.in3_13 (k.2.2.1, k.2.2.2, (Sp.nthT k.1 x)) (-1 : Int)) ∧ ((Sp.R3_13 (k.2.2.1, k.2.2.2, (Sp.nthT k.1 x)) (-1 : Int)) = none → True)))) ∧ ((decide (x < k.2.1)) = false → True))) := by kernel_rfl
set_option maxHeartbeats 4000000 in
theorem sa3_10 (k : (Ty.pair ty37 (Ty.pair ty3 (Ty.pair ty28 ty32))).den) (x : ty3.den) (fk : Fit (Ty.pair ty37 (Ty.pair ty3 (Ty.pair ty28 ty32))) k) (fx : Fit ty3 x) (h : Sp.in3_10 k x) : SafeW ((evCode (ctxG GmN5) (lookL [(13, LS3_13)]) (bodyAt (bodyOf Tryd.f3) [0]) (tmpl LS3_10 (enc (Ty.pair ty37 (Ty.pair ty3 (Ty.pair ty28 ty32))) k) (enc ty3 x)) (evRound LS3_10 (evRet (ctxG GmN5) Tryd.f3 (Rsh.one (none)) none ty4 .ret)))) := by
  refine ⟨?_⟩
  rw [se3_10]
  try dsimp only [Ty.den] at *
  simp only [Sp.in3_10, Fit, maxLen] at h fk fx
  simp only [Sp.in3_13, IntKind.wrap_i64, IntKind.wrap_u8, IntKind.wrap_u32, IntKind.wrap_u64, Sp.tmod_lit, Sp.tdiv_lit, bne_eq_false_iff_eq, Int.natCast_inj, setE, copyL, sliceL, zrow, List.length_append, List.length_cons, List.length_nil, List.length_set, List.length_replicate, List.length_take, List.length_drop, decide_eq_true_eq, decide_eq_false_iff_not, Bool.or_eq_true, Bool.and_eq_true, Bool.or_eq_false_iff, Bool.and_eq_false_iff, Bool.not_eq_true', Bool.not_eq_false', Bool.not_eq_true, Bool.not_eq_false, beq_iff_eq, beq_eq_false_iff_ne, bne_iff_ne, ne_eq, implies_true, and_true, true_and] at *
  all_goals ((repeat' (first | exact trivial | apply And.intro | intro _)) <;> first | trivial | omega | exact Sp.tmod_nn (by omega) | exact Sp.tmod_lt (by omega) (by omega))
set_option maxHeartbeats 4000000 in
theorem so3_10 (k : (Ty.pair ty37 (Ty.pair ty3 (Ty.pair ty28 ty32))).den) (x : ty3.den) (fk : Fit (Ty.pair ty37 (Ty.pair ty3 (Ty.pair ty28 ty32))) k) (h : Sp.in3_10 k x) : StepOk true Sp.in3_10 Sp.mu3_10 k x (Sp.st3_10 k x) := by
  try dsimp only [Ty.den] at *
  simp only [Sp.in3_10, Fit, maxLen] at h fk
  unfold Sp.st3_10
  (repeat' (first | exact rfl | (refine StepOk.cnd (fun hc => ?_) (fun hc => ?_) <;> (try simp only [IntKind.wrap_i64, IntKind.wrap_u8, IntKind.wrap_u32, IntKind.wrap_u64, bne_eq_false_iff_eq, Int.natCast_inj, setE, copyL, sliceL, zrow, List.length_append, List.length_cons, List.length_nil, List.length_set, List.length_replicate, List.length_take, List.length_drop, decide_eq_true_eq, decide_eq_false_iff_not, Bool.or_eq_true, Bool.and_eq_true, Bool.or_eq_false_iff, Bool.and_eq_false_iff, Bool.not_eq_true', Bool.not_eq_false', Bool.not_eq_true, Bool.not_eq_false, beq_iff_eq, beq_eq_false_iff_ne, bne_iff_ne, ne_eq] at hc)) | refine StepOk.opt (fun _ => ?_))) <;> (first | exact rfl | (refine ⟨rfl, ?_, ?_⟩ <;> simp only [Sp.in3_10, Sp.mu3_10, IntKind.wrap_i64, IntKind.wrap_u8, IntKind.wrap_u32, IntKind.wrap_u64, Sp.tmod_lit, Sp.tdiv_lit, bne_eq_false_iff_eq, Int.natCast_inj, setE, copyL, sliceL, zrow, List.length_append, List.length_cons, List.length_nil, List.length_set, List.length_replicate, List.length_take, List.length_drop, decide_eq_true_eq, decide_eq_false_iff_not, Bool.or_eq_true, Bool.and_eq_true, Bool.or_eq_false_iff, Bool.and_eq_false_iff, Bool.not_eq_true', Bool.not_eq_false', Bool.not_eq_true, Bool.not_eq_false, beq_iff_eq, beq_eq_false_iff_ne, bne_iff_ne, ne_eq] <;> first | omega | (and_intros <;> first | omega | exact h.1 | exact h.2 | exact h.2.1 | exact h.2.2 | exact h.2.2.1 | exact h.2.2.2 | exact h.2.2.2.1 | exact h.2.2.2.2 | exact h.2.2.2.2.1 | exact h.2.2.2.2.2 | exact h.2.2.2.2.2.1 | exact h.2.2.2.2.2.2)))
theorem lo3_10 : LoopOk Tryd.prog gdS (RetAt Tryd.prog Tryd.f3 (Rsh.one (none)) none ty4) (bodyAt (bodyOf Tryd.f3) [0]) LS3_10 :=
  loop_run (ctxOkF gokGmN5 []) (L := lookL [(13, LS3_13)]) (loops_of (l := [bodyAt (bodyOf Tryd.f3) [0, 0]]) (by kernel_rfl) (loops_cons (s0 := LS3_13) (by kernel_rfl) lo3_13 (loops_nil))) sa3_10 va3_10 so3_10
end Go.Proofs.YtpbljgpdhllklaaDoor.Sy
namespace Go.Proofs.YtpbljgpdhllklaaDoor.Sp
open Go Go.RowKit Sy
def K3_1 (x : (Int × Int) × (List Int) × Int × Int × Int × Int × Int × Int × (Int × Int) × Int) :=
  (Sp.G3_10 ([(Sp.F12 ((Sp.F11 x.1), (0 : Int), x.2.1)), x.2.2, ((IntKind.i64.wrap (Int.tmod (IntKind.u64.wrap x.2.2.1) (5 : Int))), (IntKind.i64.wrap (Int.tmod (IntKind.u64.wrap x.2.2.2.1) (IntKind.u64.wrap ((Sp.F11 x.1).1)))), (IntKind.i64.wrap (Int.tmod (IntKind.u64.wrap x.2.2.2.2.1) (3 : Int))), (IntKind.i64.wrap ((BitVec.ofInt IntKind.i64.bits x.2.2.2.2.2.1 &&& BitVec.ofInt IntKind.i64.bits (7 : Int)).toNat : Int)), (Sp.nthT [(2 : Int), (2 : Int), (0 : Int), (1 : Int), (0 : Int)] (IntKind.i64.wrap (Int.tmod (IntKind.u64.wrap x.2.2.1) (5 : Int)))), (0 : Int), ((IntKind.u32.wrap ((BitVec.ofInt IntKind.u32.bits x.2.2.2.2.2.2.2.2.1.1 &&& BitVec.ofInt IntKind.u32.bits (IntKind.u32.wrap ((IntKind.u32.wrap ((1 : Int) * 2 ^ (min ((IntKind.u64.wrap (IntKind.i64.wrap ((Sp.F11 x.1).1 - (1 : Int))))).toNat IntKind.u32.bits))) - (1 : Int)))).toNat : Int)), (IntKind.u32.wrap ((BitVec.ofInt IntKind.u32.bits x.2.2.2.2.2.2.2.2.1.2 &&& BitVec.ofInt IntKind.u32.bits (IntKind.u32.wrap ((IntKind.u32.wrap ((1 : Int) * 2 ^ (min ((IntKind.u64.wrap ((Sp.F11 x.1).1))).toNat IntKind.u32.bits))) - (2 : Int)))).toNat : Int))), (IntKind.u32.wrap ((BitVec.ofInt IntKind.u32.bits x.2.2.2.2.2.2.2.2.2 &&& BitVec.ofInt IntKind.u32.bits (IntKind.u32.wrap ((IntKind.u32.wrap ((1 : Int) * 2 ^ (min ((IntKind.u64.wrap ((Sp.F11 x.1).1))).toNat IntKind.u32.bits))) - (1 : Int)))).toNat : Int)))], (([(Sp.F12 ((Sp.F11 x.1), (0 : Int), x.2.1)), x.2.2, ((IntKind.i64.wrap (Int.tmod (IntKind.u64.wrap x.2.2.1) (5 : Int))), (IntKind.i64.wrap (Int.tmod (IntKind.u64.wrap x.2.2.2.1) (IntKind.u64.wrap ((Sp.F11 x.1).1)))), (IntKind.i64.wrap (Int.tmod (IntKind.u64.wrap x.2.2.2.2.1) (3 : Int))), (IntKind.i64.wrap ((BitVec.ofInt IntKind.i64.bits x.2.2.2.2.2.1 &&& BitVec.ofInt IntKind.i64.bits (7 : Int)).toNat : Int)), (Sp.nthT [(2 : Int), (2 : Int), (0 : Int), (1 : Int), (0 : Int)] (IntKind.i64.wrap (Int.tmod (IntKind.u64.wrap x.2.2.1) (5 : Int)))), (0 : Int), ((IntKind.u32.wrap ((BitVec.ofInt IntKind.u32.bits x.2.2.2.2.2.2.2.2.1.1 &&& BitVec.ofInt IntKind.u32.bits (IntKind.u32.wrap ((IntKind.u32.wrap ((1 : Int) * 2 ^ (min ((IntKind.u64.wrap (IntKind.i64.wrap ((Sp.F11 x.1).1 - (1 : Int))))).toNat IntKind.u32.bits))) - (1 : Int)))).toNat : Int)), (IntKind.u32.wrap ((BitVec.ofInt IntKind.u32.bits x.2.2.2.2.2.2.2.2.1.2 &&& BitVec.ofInt IntKind.u32.bits (IntKind.u32.wrap ((IntKind.u32.wrap ((1 : Int) * 2 ^ (min ((IntKind.u64.wrap ((Sp.F11 x.1).1))).toNat IntKind.u32.bits))) - (2 : Int)))).toNat : Int))), (IntKind.u32.wrap ((BitVec.ofInt IntKind.u32.bits x.2.2.2.2.2.2.2.2.2 &&& BitVec.ofInt IntKind.u32.bits (IntKind.u32.wrap ((IntKind.u32.wrap ((1 : Int) * 2 ^ (min ((IntKind.u64.wrap ((Sp.F11 x.1).1))).toNat IntKind.u32.bits))) - (1 : Int)))).toNat : Int)))]).length : Int), x.2.2, (Sp.F11 x.1)) (0 : Int))
def K3_2 (x : (Int × Int) × (List Int) × Int × Int × Int × Int × Int × Int × (Int × Int) × Int) :=
  (Sp.G3_10 ([(Sp.F12 ((Sp.F11 x.1), (0 : Int), x.2.1)), x.2.2, ((IntKind.i64.wrap (Int.tmod (IntKind.u64.wrap x.2.2.1) (5 : Int))), (IntKind.i64.wrap (Int.tmod (IntKind.u64.wrap x.2.2.2.1) (IntKind.u64.wrap ((Sp.F11 x.1).1)))), (IntKind.i64.wrap (Int.tmod (IntKind.u64.wrap x.2.2.2.2.1) (3 : Int))), (IntKind.i64.wrap ((BitVec.ofInt IntKind.i64.bits x.2.2.2.2.2.1 &&& BitVec.ofInt IntKind.i64.bits (7 : Int)).toNat : Int)), (Sp.nthT [(2 : Int), (2 : Int), (0 : Int), (1 : Int), (0 : Int)] (IntKind.i64.wrap (Int.tmod (IntKind.u64.wrap x.2.2.1) (5 : Int)))), (IntKind.i64.wrap ((1 : Int) + (IntKind.i64.wrap ((BitVec.ofInt IntKind.i64.bits x.2.2.2.2.2.2.2.1 &&& BitVec.ofInt IntKind.i64.bits (3 : Int)).toNat : Int)))), ((IntKind.u32.wrap ((BitVec.ofInt IntKind.u32.bits x.2.2.2.2.2.2.2.2.1.1 &&& BitVec.ofInt IntKind.u32.bits (IntKind.u32.wrap ((IntKind.u32.wrap ((1 : Int) * 2 ^ (min ((IntKind.u64.wrap (IntKind.i64.wrap ((Sp.F11 x.1).1 - (1 : Int))))).toNat IntKind.u32.bits))) - (1 : Int)))).toNat : Int)), (IntKind.u32.wrap ((BitVec.ofInt IntKind.u32.bits x.2.2.2.2.2.2.2.2.1.2 &&& BitVec.ofInt IntKind.u32.bits (IntKind.u32.wrap ((IntKind.u32.wrap ((1 : Int) * 2 ^ (min ((IntKind.u64.wrap ((Sp.F11 x.1).1))).toNat IntKind.u32.bits))) - (2 : Int)))).toNat : Int))), (IntKind.u32.wrap ((BitVec.ofInt IntKind.u32.bits x.2.2.2.2.2.2.2.2.2 &&& BitVec.ofInt IntKind.u32.bits (IntKind.u32.wrap ((IntKind.u32.wrap ((1 : Int) * 2 ^ (min ((IntKind.u64.wrap ((Sp.F11 x.1).1))).toNat IntKind.u32.bits))) - (1 : Int)))).toNat : Int)))], (([(Sp.F12 ((Sp.F11 x.1), (0 : Int), x.2.1)), x.2.2, ((IntKind.i64.wrap (Int.tmod (IntKind.u64.wrap x.2.2.1) (5 : Int))), (IntKind.i64.wrap (Int.tmod (IntKind.u64.wrap x.2.2.2.1) (IntKind.u64.wrap ((Sp.F11 x.1).1)))), (IntKind.i64.wrap (Int.tmod (IntKind.u64.wrap x.2.2.2.2.1) (3 : Int))), (IntKind.i64.wrap ((BitVec.ofInt IntKind.i64.bits x.2.2.2.2.2.1 &&& BitVec.ofInt IntKind.i64.bits (7 : Int)).toNat : Int)), (Sp.nthT [(2 : Int), (2 : Int), (0 : Int), (1 : Int), (0 : Int)] (IntKind.i64.wrap (Int.tmod (IntKind.u64.wrap x.2.2.1) (5 : Int)))), (IntKind.i64.wrap ((1 : Int) + (IntKind.i64.wrap ((BitVec.ofInt IntKind.i64.bits x.2.2.2.2.2.2.2.1 &&& BitVec.ofInt IntKind.i64.bits (3 : Int)).toNat : Int)))), ((IntKind.u32.wrap ((BitVec.ofInt IntKind.u32.bits x.2.2.2.2.2.2.2.2.1.1 &&& BitVec.ofInt IntKind.u32.bits (IntKind.u32.wrap ((IntKind.u32.wrap ((1 : Int) * 2 ^ (min ((IntKind.u64.wrap (IntKind.i64.wrap ((Sp.F11 x.1).1 - (1 : Int))))).toNat IntKind.u32.bits))) - (1 : Int)))).toNat : Int)), (IntKind.u32.wrap ((BitVec.ofInt IntKind.u32.bits x.2.2.2.2.2.2.2.2.1.2 &&& BitVec.ofInt IntKind.u32.bits (IntKind.u32.wrap ((IntKind.u32.wrap ((1 : Int) * 2 ^ (min ((IntKind.u64.wrap ((Sp.F11 x.1).1))).toNat IntKind.u32.bits))) - (2 : Int)))).toNat : Int))), (IntKind.u32.wrap ((BitVec.ofInt IntKind.u32.bits x.2.2.2.2.2.2.2.2.2 &&& BitVec.ofInt IntKind.u32.bits (IntKind.u32.wrap ((IntKind.u32.wrap ((1 : Int) * 2 ^ (min ((IntKind.u64.wrap ((Sp.F11 x.1).1))).toNat IntKind.u32.bits))) - (1 : Int)))).toNat : Int)))]).length : Int), x.2.2, (Sp.F11 x.1)) (0 : Int))
def F3 (x : (Int × Int) × (List Int) × Int × Int × Int × Int × Int × Int × (Int × Int) × Int) : Bool :=
  bif ((IntKind.i64.wrap (Int.tmod (IntKind.u64.wrap x.2.2.1) (5 : Int))) == (0 : Int)) then
    (Sp.optR (Sp.R3_10 ([(Sp.F12 ((Sp.F11 x.1), (0 : Int), x.2.1)), x.2.2, ((IntKind.i64.wrap (Int.tmod (IntKind.u64.wrap x.2.2.1) (5 : Int))), (IntKind.i64.wrap (Int.tmod (IntKind.u64.wrap x.2.2.2.1) (IntKind.u64.wrap ((Sp.F11 x.1).1)))), (IntKind.i64.wrap (Int.tmod (IntKind.u64.wrap x.2.2.2.2.1) (3 : Int))), (IntKind.i64.wrap ((BitVec.ofInt IntKind.i64.bits x.2.2.2.2.2.1 &&& BitVec.ofInt IntKind.i64.bits (7 : Int)).toNat : Int)), (Sp.nthT [(2 : Int), (2 : Int), (0 : Int), (1 : Int), (0 : Int)] (IntKind.i64.wrap (Int.tmod (IntKind.u64.wrap x.2.2.1) (5 : Int)))), (0 : Int), ((IntKind.u32.wrap ((BitVec.ofInt IntKind.u32.bits x.2.2.2.2.2.2.2.2.1.1 &&& BitVec.ofInt IntKind.u32.bits (IntKind.u32.wrap ((IntKind.u32.wrap ((1 : Int) * 2 ^ (min ((IntKind.u64.wrap (IntKind.i64.wrap ((Sp.F11 x.1).1 - (1 : Int))))).toNat IntKind.u32.bits))) - (1 : Int)))).toNat : Int)), (IntKind.u32.wrap ((BitVec.ofInt IntKind.u32.bits x.2.2.2.2.2.2.2.2.1.2 &&& BitVec.ofInt IntKind.u32.bits (IntKind.u32.wrap ((IntKind.u32.wrap ((1 : Int) * 2 ^ (min ((IntKind.u64.wrap ((Sp.F11 x.1).1))).toNat IntKind.u32.bits))) - (2 : Int)))).toNat : Int))), (IntKind.u32.wrap ((BitVec.ofInt IntKind.u32.bits x.2.2.2.2.2.2.2.2.2 &&& BitVec.ofInt IntKind.u32.bits (IntKind.u32.wrap ((IntKind.u32.wrap ((1 : Int) * 2 ^ (min ((IntKind.u64.wrap ((Sp.F11 x.1).1))).toNat IntKind.u32.bits))) - (1 : Int)))).toNat : Int)))], (([(Sp.F12 ((Sp.F11 x.1), (0 : Int), x.2.1)), x.2.2, ((IntKind.i64.wrap (Int.tmod (IntKind.u64.wrap x.2.2.1) (5 : Int))), (IntKind.i64.wrap (Int.tmod (IntKind.u64.wrap x.2.2.2.1) (IntKind.u64.wrap ((Sp.F11 x.1).1)))), (IntKind.i64.wrap (Int.tmod (IntKind.u64.wrap x.2.2.2.2.1) (3 : Int))), (IntKind.i64.wrap ((BitVec.ofInt IntKind.i64.bits x.2.2.2.2.2.1 &&& BitVec.ofInt IntKind.i64.bits (7 : Int)).toNat : Int)), (Sp.nthT [(2 : Int), (2 : Int), (0 : Int), (1 : Int), (0 : Int)] (IntKind.i64.wrap (Int.tmod (IntKind.u64.wrap x.2.2.1) (5 : Int)))), (0 : Int), ((IntKind.u32.wrap ((BitVec.ofInt IntKind.u32.bits x.2.2.2.2.2.2.2.2.1.1 &&& BitVec.ofInt IntKind.u32.bits (IntKind.u32.wrap ((IntKind.u32.wrap ((1 : Int) * 2 ^ (min ((IntKind.u64.wrap (IntKind.i64.wrap ((Sp.F11 x.1).1 - (1 : Int))))).toNat IntKind.u32.bits))) - (1 : Int)))).toNat : Int)), (IntKind.u32.wrap ((BitVec.ofInt IntKind.u32.bits x.2.2.2.2.2.2.2.2.1.2 &&& BitVec.ofInt IntKind.u32.bits (IntKind.u32.wrap ((IntKind.u32.wrap ((1 : Int) * 2 ^ (min ((IntKind.u64.wrap ((Sp.F11 x.1).1))).toNat IntKind.u32.bits))) - (2 : Int)))).toNat : Int))), (IntKind.u32.wrap ((BitVec.ofInt IntKind.u32.bits x.2.2.2.2.2.2.2.2.2 &&& BitVec.ofInt IntKind.u32.bits (IntKind.u32.wrap ((IntKind.u32.wrap ((1 : Int) * 2 ^ (min ((IntKind.u64.wrap ((Sp.F11 x.1).1))).toNat IntKind.u32.bits))) - (1 : Int)))).toNat : Int)))]).length : Int), x.2.2, (Sp.F11 x.1)) (0 : Int)) (fun y => y)
    ((((Sp.F13 (((0 : Int), (0 : Int), (0 : Int), (0 : Int), (0 : Nat), (0 : Nat), (0 : Nat), []), (0 : Int), x.2.2, x.2.2.2.2.2.2.2.2)) && (((Sp.F14 x.2.2.2.1).1 == (Sp.F15 x.2.2.2.1).1) && (((Sp.F14 x.2.2.2.1).2.1 == (Sp.F15 x.2.2.2.1).2.1) && (((Sp.F14 x.2.2.2.1).2.2.1 == (Sp.F15 x.2.2.2.1).2.2.1) && (((Sp.F14 x.2.2.2.1).2.2.2.1 == (Sp.F15 x.2.2.2.1).2.2.2.1) && (((Sp.F14 x.2.2.2.1).2.2.2.2.1 == (Sp.F15 x.2.2.2.1).2.2.2.2.1) && (((Sp.F14 x.2.2.2.1).2.2.2.2.2.1 == (Sp.F15 x.2.2.2.1).2.2.2.2.2.1) && ((((Sp.F14 x.2.2.2.1).2.2.2.2.2.2.1.1 == (Sp.F15 x.2.2.2.1).2.2.2.2.2.2.1.1) && ((Sp.F14 x.2.2.2.1).2.2.2.2.2.2.1.2 == (Sp.F15 x.2.2.2.1).2.2.2.2.2.2.1.2)) && ((Sp.F14 x.2.2.2.1).2.2.2.2.2.2.2 == (Sp.F15 x.2.2.2.1).2.2.2.2.2.2.2))))))))) && (Sp.F16 ()))))
  else
    Sp.optR (Sp.R3_10 ([(Sp.F12 ((Sp.F11 x.1), (0 : Int), x.2.1)), x.2.2, ((IntKind.i64.wrap (Int.tmod (IntKind.u64.wrap x.2.2.1) (5 : Int))), (IntKind.i64.wrap (Int.tmod (IntKind.u64.wrap x.2.2.2.1) (IntKind.u64.wrap ((Sp.F11 x.1).1)))), (IntKind.i64.wrap (Int.tmod (IntKind.u64.wrap x.2.2.2.2.1) (3 : Int))), (IntKind.i64.wrap ((BitVec.ofInt IntKind.i64.bits x.2.2.2.2.2.1 &&& BitVec.ofInt IntKind.i64.bits (7 : Int)).toNat : Int)), (Sp.nthT [(2 : Int), (2 : Int), (0 : Int), (1 : Int), (0 : Int)] (IntKind.i64.wrap (Int.tmod (IntKind.u64.wrap x.2.2.1) (5 : Int)))), (IntKind.i64.wrap ((1 : Int) + (IntKind.i64.wrap ((BitVec.ofInt IntKind.i64.bits x.2.2.2.2.2.2.2.1 &&& BitVec.ofInt IntKind.i64.bits (3 : Int)).toNat : Int)))), ((IntKind.u32.wrap ((BitVec.ofInt IntKind.u32.bits x.2.2.2.2.2.2.2.2.1.1 &&& BitVec.ofInt IntKind.u32.bits (IntKind.u32.wrap ((IntKind.u32.wrap ((1 : Int) * 2 ^ (min ((IntKind.u64.wrap (IntKind.i64.wrap ((Sp.F11 x.1).1 - (1 : Int))))).toNat IntKind.u32.bits))) - (1 : Int)))).toNat : Int)), (IntKind.u32.wrap ((BitVec.ofInt IntKind.u32.bits x.2.2.2.2.2.2.2.2.1.2 &&& BitVec.ofInt IntKind.u32.bits (IntKind.u32.wrap ((IntKind.u32.wrap ((1 : Int) * 2 ^ (min ((IntKind.u64.wrap ((Sp.F11 x.1).1))).toNat IntKind.u32.bits))) - (2 : Int)))).toNat : Int))), (IntKind.u32.wrap ((BitVec.ofInt IntKind.u32.bits x.2.2.2.2.2.2.2.2.2 &&& BitVec.ofInt IntKind.u32.bits (IntKind.u32.wrap ((IntKind.u32.wrap ((1 : Int) * 2 ^ (min ((IntKind.u64.wrap ((Sp.F11 x.1).1))).toNat IntKind.u32.bits))) - (1 : Int)))).toNat : Int)))], (([(Sp.F12 ((Sp.F11 x.1), (0 : Int), x.2.1)), x.2.2, ((IntKind.i64.wrap (Int.tmod (IntKind.u64.wrap x.2.2.1) (5 : Int))), (IntKind.i64.wrap (Int.tmod (IntKind.u64.wrap x.2.2.2.1) (IntKind.u64.wrap ((Sp.F11 x.1).1)))), (IntKind.i64.wrap (Int.tmod (IntKind.u64.wrap x.2.2.2.2.1) (3 : Int))), (IntKind.i64.wrap ((BitVec.ofInt IntKind.i64.bits x.2.2.2.2.2.1 &&& BitVec.ofInt IntKind.i64.bits (7 : Int)).toNat : Int)), (Sp.nthT [(2 : Int), (2 : Int), (0 : Int), (1 : Int), (0 : Int)] (IntKind.i64.wrap (Int.tmod (IntKind.u64.wrap x.2.2.1) (5 : Int)))), (IntKind.i64.wrap ((1 : Int) + (IntKind.i64.wrap ((BitVec.ofInt IntKind.i64.bits x.2.2.2.2.2.2.2.1 &&& BitVec.ofInt IntKind.i64.bits (3 : Int)).toNat : Int)))), ((IntKind.u32.wrap ((BitVec.ofInt IntKind.u32.bits x.2.2.2.2.2.2.2.2.1.1 &&& BitVec.ofInt IntKind.u32.bits (IntKind.u32.wrap ((IntKind.u32.wrap ((1 : Int) * 2 ^ (min ((IntKind.u64.wrap (IntKind.i64.wrap ((Sp.F11 x.1).1 - (1 : Int))))).toNat IntKind.u32.bits))) - (1 : Int)))).toNat : Int)), (IntKind.u32.wrap ((BitVec.ofInt IntKind.u32.bits x.2.2.2.2.2.2.2.2.1.2 &&& BitVec.ofInt IntKind.u32.bits (IntKind.u32.wrap ((IntKind.u32.wrap ((1 : Int) * 2 ^ (min ((IntKind.u64.wrap ((Sp.F11 x.1).1))).toNat IntKind.u32.bits))) - (2 : Int)))).toNat : Int))), (IntKind.u32.wrap ((BitVec.ofInt IntKind.u32.bits x.2.2.2.2.2.2.2.2.2 &&& BitVec.ofInt IntKind.u32.bits (IntKind.u32.wrap ((IntKind.u32.wrap ((1 : Int) * 2 ^ (min ((IntKind.u64.wrap ((Sp.F11 x.1).1))).toNat IntKind.u32.bits))) - (1 : Int)))).toNat : Int)))]).length : Int), x.2.2, (Sp.F11 x.1)) (0 : Int)) (fun y => y)
    ((((Sp.F13 (((0 : Int), (0 : Int), (0 : Int), (0 : Int), (0 : Nat), (0 : Nat), (0 : Nat), []), (0 : Int), x.2.2, x.2.2.2.2.2.2.2.2)) && (((Sp.F14 x.2.2.2.1).1 == (Sp.F15 x.2.2.2.1).1) && (((Sp.F14 x.2.2.2.1).2.1 == (Sp.F15 x.2.2.2.1).2.1) && (((Sp.F14 x.2.2.2.1).2.2.1 == (Sp.F15 x.2.2.2.1).2.2.1) && (((Sp.F14 x.2.2.2.1).2.2.2.1 == (Sp.F15 x.2.2.2.1).2.2.2.1) && (((Sp.F14 x.2.2.2.1).2.2.2.2.1 == (Sp.F15 x.2.2.2.1).2.2.2.2.1) && (((Sp.F14 x.2.2.2.1).2.2.2.2.2.1 == (Sp.F15 x.2.2.2.1).2.2.2.2.2.1) && ((((Sp.F14 x.2.2.2.1).2.2.2.2.2.2.1.1 == (Sp.F15 x.2.2.2.1).2.2.2.2.2.2.1.1) && ((Sp.F14 x.2.2.2.1).2.2.2.2.2.2.1.2 == (Sp.F15 x.2.2.2.1).2.2.2.2.2.2.1.2)) && ((Sp.F14 x.2.2.2.1).2.2.2.2.2.2.2 == (Sp.F15 x.2.2.2.1).2.2.2.2.2.2.2))))))))) && (Sp.F16 ())))
def pre3 (x : (Int × Int) × (List Int) × Int × Int × Int × Int × Int × Int × (Int × Int) × Int) : Prop := (0 ≤ x.1.1 ∧ x.1.1 ≤ 255) ∧ 0 ≤ x.1.2 ∧ x.1.2 ≤ 255
end Go.Proofs.YtpbljgpdhllklaaDoor.Sp
namespace Go.Proofs.YtpbljgpdhllklaaDoor.Sy
def ct3 : Ct := { p := (Ty.pair ty22 (Ty.pair ty23 ty28)), psh := [some 2, none, some 9], r := ty4, rsh := (Rsh.one (none)), pre := some Sp.pre3, fresh := none, F := Sp.F3 }
theorem va3 (x : (Ty.pair ty22 (Ty.pair ty23 ty28)).den) : ((evFn (ctxG GmN5) Tryd.f3 (Ty.pair ty22 (Ty.pair ty23 ty28)) [some 2, none, some 9] (Rsh.one (none)) none ty4 (lookL [(13, LS3_13), (10, LS3_10)]) x)).val (fun y => y) (Ty.dflt ty4) = Sp.F3 x := by kernel_rfl
theorem se3 (x : (Ty.pair ty22 (Ty.pair ty23 ty28)).den) : ((evFn (ctxG GmN5) Tryd.f3 (Ty.pair ty22 (Ty.pair ty23 ty28)) [some 2, none, some 9] (Rsh.one (none)) none ty4 (lookL [(13, LS3_13), (10, LS3_10)]) x)).safe = (((Sp.pre11 x.1) ∧ (((5 : Int) ≠ 0) ∧ (((IntKind.u64.wrap ((Sp.F11 x.1).1)) ≠ 0) ∧ (((3 : Int) ≠ 0) ∧ ((0 ≤ (IntKind.u64.wrap ((Sp.F11 x.1).1))) ∧ ((0 ≤ (IntKind.i64.wrap (Int.tmod (IntKind.u64.wrap x.2.2.1) (5 : Int))) ∧ (IntKind.i64.wrap (Int.tmod (IntKind.u64.wrap x.2.2.1) (5 : Int))) < (([(2 : Int), (2 : Int), (0 : Int), (1 : Int), (0 : Int)]).length : Int)) ∧ ((((IntKind.i64.wrap (Int.tmod (IntKind.u64.wrap x.2.2.1) (5 : Int))) == (0 : Int)) = true → ((0 ≤ (IntKind.u64.wrap (IntKind.i64.wrap ((Sp.F11 x.1).1 - (1 : Int))))) ∧ ((0 ≤ (IntKind.u64.wrap ((Sp.F11 x.1).1))) ∧ ((Sp.in3_10 ([(Sp.F12 ((Sp.F11 x.1), (0 : Int), x.2.1)), x.2.2, ((IntKind.i64.wrap (Int.tmod (IntKind.u64.wrap x.2.2.1) (5 : Int))), (IntKind.i64.wrap (Int.tmod (IntKind.u64.wrap x.2.2.2.1) (IntKind.u64.wrap ((Sp.F11 x.1).1)))), (IntKind.i64.wrap (Int.tmod (IntKind.u64.wrap x.2.2.2.2.1) (3 : Int))), (IntKind.i64.wrap ((BitVec.ofInt IntKind.i64.bits x.2.2.2.2.2.1 &&& BitVec.ofInt IntKind.i64.bits (7 : Int)).toNat : Int)), (Sp.nthT [(2 : Int), (2 : Int), (0 : Int), (1 : Int), (0 : Int)] (IntKind.i64.wrap (Int.tmod (IntKind.u64.wrap x.2.2.1) (5 : Int)))), (0 : Int), ((IntKind.u32.wrap ((BitVec.ofInt IntKind.u32.bits x.2.2.2.2.2.2.2.2.1.1 &&& BitVec.ofInt IntKind.u32.bits (IntKind.u32.wrap ((IntKind.u32.wrap ((1 : Int) * 2 ^ (min ((IntKind.u64.wrap (IntKind.i64.wrap ((Sp.F11 x.1).1 - (1 : Int))))).toNat IntKind.u32.bits))) - (1 : Int)))).toNat : Int)), (IntKind.u32.wrap ((BitVec.ofInt IntKind.u32.bits x.2.2.2.2.2.2.2.2.1.2 &&& BitVec.ofInt IntKind.u32.bits (IntKind.u32.wrap ((IntKind.u32.wrap ((1 : Int) * 2 ^ (min ((IntKind.u64.wrap ((Sp.F11 x.1).1))).toNat IntKind.u32.bits))) - (2 : Int)))).toNat : Int))), (IntKind.u32.wrap ((BitVec.ofInt IntKind.u32.bits x.2.2.2.2.2.2.2.2.2 &&& BitVec.ofInt IntKind.u32.bits (IntKind.u32.wrap ((IntKind.u32.wrap ((1 : Int) * 2 ^ (min ((IntKind.u64.wrap ((Sp.F11 x.1).1))).toNat IntKind.u32.bits))) - (1 : Int)))).toNat : Int)))], (([(Sp.F12 ((Sp.F11 x.1), (0 : Int), x.2.1)), x.2.2, ((IntKind.i64.wrap (Int.tmod (IntKind.u64.wrap x.2.2.1) (5 : Int))), (IntKind.i64.wrap (Int.tmod (IntKind.u64.wrap x.2.2.2.1) (IntKind.u64.wrap ((Sp.F11 x.1).1)))), (IntKind.i64.wrap (Int.tmod (IntKind.u64.wrap x.2.2.2.2.1) (3 : Int))), (IntKind.i64.wrap ((BitVec.ofInt IntKind.i64.bits x.2.2.2.2.2.1 &&& BitVec.ofInt IntKind.i64.bits (7 : Int)).toNat : Int)), (Sp.nthT [(2 : Int), (2 : Int), (0 : Int), (1 : Int), (0 : Int)] (IntKind.i64.wrap (Int.tmod (IntKind.u64.wrap x.2.2.1) (5 : Int)))), (0 : Int), ((IntKind.u32.wrap ((BitVec.ofInt IntKind.u32.bits x.2.2.2.2.2.2.2.2.1.1 &&& BitVec.ofInt IntKind.u32.bits (IntKind.u32.wrap ((IntKind.u32.wrap ((1 : Int) * 2 ^ (min ((IntKind.u64.wrap (IntKind.i64.wrap ((Sp.F11 x.1).1 - (1 : Int))))).toNat IntKind.u32.bits))) - (1 : Int)))).toNat : Int)), (IntKind.u32.wrap ((BitVec.ofInt IntKind.u32.bits x.2.2.2.2.2.2.2.2.1.2 &&& BitVec.ofInt IntKind.u32.bits (IntKind.u32.wrap ((IntKind.u32.wrap ((1 : Int) * 2 ^ (min ((IntKind.u64.wrap ((Sp.F11 x.1).1))).toNat IntKind.u32.bits))) - (2 : Int)))).toNat : Int))), (IntKind.u32.wrap ((BitVec.ofInt IntKind.u32.bits x.2.2.2.2.2.2.2.2.2 &&& BitVec.ofInt IntKind.u32.bits (IntKind.u32.wrap ((IntKind.u32.wrap ((1 : Int) * 2 ^ (min ((IntKind.u64.wrap ((Sp.F11 x.1).1))).toNat IntKind.u32.bits))) - (1 : Int)))).toNat : Int)))]).length : Int), x.2.2, (Sp.F11 x.1)) (0 : Int)) ∧ ((Sp.R3_10 ([(Sp.F12 ((Sp.F11 x.1), (0 : Int), x.2.1)), x.2.2, ((IntKind.i64.wrap (Int.tmod (IntKind.u64.wrap x.2.2.1) (5 : Int))), (IntKind.i64.wrap (Int.tmod (IntKind.u64.wrap x.2.2.2.1) (IntKind.u64.wrap ((Sp.F11 x.1).1)))), (IntKind.i64.wrap (Int.tmod (IntKind.u64.wrap x.2.2.2.2.1) (3 : Int))), (IntKind.i64.wrap ((BitVec.ofInt IntKind.i64.bits x.2.2.2.2.2.1 &&& BitVec.ofInt IntKind.i64.bits (7 : Int)).toNat : Int)), (Sp.nthT [(2 : Int), (2 : Int), (0 : Int), (1 : Int), (0 : Int)] (IntKind.i64.wrap (Int.tmod (IntKind.u64.wrap x.2.2.1) (5 : Int)))), (0 : Int), ((IntKind.u32.wrap ((BitVec.ofInt IntKind.u32.bits x.2.2.2.2.2.2.2.2.1.1 &&& BitVec.ofInt IntKind.u32.bits (IntKind.u32.wrap ((IntKind.u32.wrap ((1 : Int) * 2 ^ (min ((IntKind.u64.wrap (IntKind.i64.wrap ((Sp.F11 x.1).1 - (1 : Int))))).toNat IntKind.u32.bits))) - (1 : Int)))).toNat : Int)), (IntKind.u32.wrap ((BitVec.ofInt IntKind.u32.bits x.2.2.2.2.2.2.2.2.1.2 &&& BitVec.ofInt IntKind.u32.bits (IntKind.u32.wrap ((IntKind.u32.wrap ((1 : Int) * 2 ^ (min ((IntKind.u64.wrap ((Sp.F11 x.1).1))).toNat IntKind.u32.bits))) - (2 : Int)))).toNat : Int))), (IntKind.u32.wrap ((BitVec.ofInt IntKind.u32.bits x.2.2.2.2.2.2.2.2.2 &&& BitVec.ofInt IntKind.u32.bits (IntKind.u32.wrap ((IntKind.u32.wrap ((1 : Int) * 2 ^ (min ((IntKind.u64.wrap ((Sp.F11 x.1).1))).toNat IntKind.u32.bits))) - (1 : Int)))).toNat : Int)))], (([(Sp.F12 ((Sp.F11 x.1), (0 : Int), x.2.1)), x.2.2, ((IntKind.i64.wrap (Int.tmod (IntKind.u64.wrap x.2.2.1) (5 : Int))), (IntKind.i64.wrap (Int.tmod (IntKind.u64.wrap x.2.2.2.1) (IntKind.u64.wrap ((Sp.F11 x.1).1)))), (IntKind.i64.wrap (Int.tmod (IntKind.u64.wrap x.2.2.2.2.1) (3 : Int))), (IntKind.i64.wrap ((BitVec.ofInt IntKind.i64.bits x.2.2.2.2.2.1 &&& BitVec.ofInt IntKind.i64.bits (7 : Int)).toNat : Int)), (Sp.nthT [(2 : Int), (2 : Int), (0 : Int), (1 : Int), (0 : Int)] (IntKind.i64.wrap (Int.tmod (IntKind.u64.wrap x.2.2.1) (5 : Int)))), (0 : Int), ((IntKind.u32.wrap ((BitVec.ofInt IntKind.u32.bits x.2.2.2.2.2.2.2.2.1.1 &&& BitVec.ofInt IntKind.u32.bits (IntKind.u32.wrap ((IntKind.u32.wrap ((1 : Int) * 2 ^ (min ((IntKind.u64.wrap (IntKind.i64.wrap ((Sp.F11 x.1).1 - (1 : Int))))).toNat IntKind.u32.bits))) - (1 : Int)))).toNat : Int)), (IntKind.u32.wrap ((BitVec.ofInt IntKind.u32.bits x.2.2.2.2.2.2.2.2.1.2 &&& BitVec.ofInt IntKind.u32.bits (IntKind.u32.wrap ((IntKind.u32.wrap ((1 : Int) * 2 ^ (min ((IntKind.u64.wrap ((Sp.F11 x.1).1))).toNat IntKind.u32.bits))) - (2 : Int)))).toNat : Int))), (IntKind.u32.wrap ((BitVec.ofInt IntKind.u32.bits x.2.2.2.2.2.2.2.2.2 &&& BitVec.ofInt IntKind.u32.bits (IntKind.u32.wrap ((IntKind.u32.wrap ((1 : Int) * 2 ^ (min ((IntKind.u64.wrap ((Sp.F11 x.1).1))).toNat IntKind.u32.bits))) - (1 : Int)))).toNat : Int)))]).length : Int), x.2.2, (Sp.F11 x.1)) (0 : Int)) = none → True))))) ∧ (((IntKind.i64.wrap (Int.tmod (IntKind.u64.wrap x.2.2.1) (5 : Int))) == (0 : Int)) = false → ((0 ≤ (IntKind.u64.wrap (IntKind.i64.wrap ((Sp.F11 x.1).1 - (1 : Int))))) ∧ ((0 ≤ (IntKind.u64.wrap ((Sp.F11 x.1).1))) ∧ ((Sp.in3_10 ([(Sp.F12 ((Sp.F11 x.1), (0 : Int), x.2.1)), x.2.2, ((IntKind.i64.wrap (Int.tmod (IntKind.u64.wrap x.2.2.1) (5 : Int))), (IntKind.i64.wrap (Int.tmod (IntKind.u64.wrap x.2.2.2.1) (IntKind.u64.wrap ((Sp.F11 x.1).1)))), (IntKind.i64.wrap (Int.tmod (IntKind.u64.wrap x.2.2.2.2.1) (3 : Int))), (IntKind.i64.wrap ((BitVec.ofInt IntKind.i64.bits x.2.2.2.2.2.1 &&& BitVec.ofInt IntKind.i64.bits (7 : Int)).toNat : Int)), (Sp.nthT [(2 : Int), (2 : Int), (0 : Int), (1 : Int), (0 : Int)] (IntKind.i64.wrap (Int.tmod (IntKind.u64.wrap x.2.2.1) (5 : Int)))), (IntKind.i64.wrap ((1 : Int) + (IntKind.i64.wrap ((BitVec.ofInt IntKind.i64.bits x.2.2.2.2.2.2.2.1 &&& BitVec.ofInt IntKind.i64.bits (3 : Int)).toNat : Int)))), ((IntKind.u32.wrap ((BitVec.ofInt IntKind.u32.bits x.2.2.2.2.2.2.2.2.1.1 &&& BitVec.ofInt IntKind.u32.bits (IntKind.u32.wrap ((IntKind.u32.wrap ((1 : Int) * 2 ^ (min ((IntKind.u64.wrap (IntKind.i64.wrap ((Sp.F11 x.1).1 - (1 : Int))))).toNat IntKind.u32.bits))) - (1 : Int)))).toNat : Int)), (IntKind.u32.wrap ((BitVec.ofInt IntKind.u32.bits x.2.2.2.2.2.2.2.2.1.2 &&& BitVec.ofInt IntKind.u32.bits (IntKind.u32.wrap ((IntKind.u32.wrap ((1 : Int) * 2 ^ (min ((IntKind.u64.wrap ((Sp.F11 x.1).1))).toNat IntKind.u32.bits))) - (2 : Int)))).toNat : Int))), (IntKind.u32.wrap ((BitVec.ofInt IntKind.u32.bits x.2.2.2.2.2.2.2.2.2 &&& BitVec.ofInt IntKind.u32.bits (IntKind.u32.wrap ((IntKind.u32.wrap ((1 : Int) * 2 ^ (min ((IntKind.u64.wrap ((Sp.F11 x.1).1))).toNat IntKind.u32.bits))) - (1 : Int)))).toNat : Int)))], (([(Sp.F12 ((Sp.F11 x.1), (0 : Int), x.2.1)), x.2.2, ((IntKind.i64.wrap (Int.tmod (IntKind.u64.wrap x.2.2.1) (5 : Int))), (IntKind.i64.wrap (Int.tmod (IntKind.u64.wrap x.2.2.2.1) (IntKind.u64.wrap ((Sp.F11 x.1).1)))), (IntKind.i64.wrap (Int.tmod (IntKind.u64.wrap x.2.2.2.2.1) (3 : Int))), (IntKind.i64.wrap ((BitVec.ofInt IntKind.i64.bits x.2.2.2.2.2.1 &&& BitVec.ofInt IntKind.i64.bits (7 : Int)).toNat : Int)), (Sp.nthT [(2 : Int), (2 : Int), (0 : Int), (1 : Int), (0 : Int)] (IntKind.i64.wrap (Int.tmod (IntKind.u64.wrap x.2.2.1) (5 : Int)))), (IntKind.i64.wrap ((1 : Int) + (IntKind.i64.wrap ((BitVec.ofInt IntKind.i64.bits x.2.2.2.2.2.2.2.1 &&& BitVec.ofInt IntKind.i64.bits (3 : Int)).toNat : Int)))), ((IntKind.u32.wrap ((BitVec.ofInt IntKind.u32.bits x.2.2.2.2.2.2.2.2.1.1 &&& BitVec.ofInt IntKind.u32.bits (IntKind.u32.wrap ((IntKind.u32.wrap ((1 : Int) * 2 ^ (min ((IntKind.u64.wrap (IntKind.i64.wrap ((Sp.F11 x.1).1 - (1 : Int))))).toNat IntKind.u32.bits))) - (1 : Int)))).toNat : Int)), (IntKind.u32.wrap ((BitVec.ofInt IntKind.u32.bits x.2.2.2.2.2.2.2.2.1.2 &&& BitVec.ofInt IntKind.u32.bits (IntKind.u32.wrap ((IntKind.u32.wrap ((1 : Int) * 2 ^ (min ((IntKind.u64.wrap ((Sp.F11 x.1).1))).toNat IntKind.u32.bits))) - (2 : Int)))).toNat : Int))), (IntKind.u32.wrap ((BitVec.ofInt IntKind.u32.bits x.2.2.2.2.2.2.2.2.2 &&& BitVec.ofInt IntKind.u32.bits (IntKind.u32.wrap ((IntKind.u32.wrap ((1 : Int) * 2 ^ (min ((IntKind.u64.wrap ((Sp.F11 x.1).1))).toNat IntKind.u32.bits))) - (1 : Int)))).toNat : Int)))]).length : Int), x.2.2, (Sp.F11 x.1)) (0 : Int)) ∧ ((Sp.R3_10 ([(Sp.F12 ((Sp.F11 x.1), (0 : Int), x.2.1)), x.2.2, ((IntKind.i64.wrap (Int.tmod (IntKind.u64.wrap x.2.2.1) (5 : Int))), (IntKind.i64.wrap (Int.tmod (IntKind.u64.wrap x.2.2.2.1) (IntKind.u64.wrap ((Sp.F11 x.1).1)))), (IntKind.i64.wrap (Int.tmod (IntKind.u64.wrap x.2.2.2.2.1) (3 : Int))), (IntKind.i64.wrap ((BitVec.ofInt IntKind.i64.bits x.2.2.2.2.2.1 &&& BitVec.ofInt IntKind.i64.bits (7 : Int)).toNat : Int)), (Sp.nthT [(2 : Int), (2 : Int), (0 : Int), (1 : Int), (0 : Int)] (IntKind.i64.wrap (Int.tmod (IntKind.u64.wrap x.2.2.1) (5 : Int)))), (IntKind.i64.wrap ((1 : Int) + (IntKind.i64.wrap ((BitVec.ofInt IntKind.i64.bits x.2.2.2.2.2.2.2.1 &&& BitVec.ofInt IntKind.i64.bits (3 : Int)).toNat : Int)))), ((IntKind.u32.wrap ((BitVec.ofInt IntKind.u32.bits x.2.2.2.2.2.2.2.2.1.1 &&& BitVec.ofInt IntKind.u32.bits (IntKind.u32.wrap ((IntKind.u32.wrap ((1 : Int) * 2 ^ (min ((IntKind.u64.wrap (IntKind.i64.wrap ((Sp.F11 x.1).1 - (1 : Int))))).toNat IntKind.u32.bits))) - (1 : Int)))).toNat : Int)), (IntKind.u32.wrap ((BitVec.ofInt IntKind.u32.bits x.2.2.2.2.2.2.2.2.1.2 &&& BitVec.ofInt IntKind.u32.bits (IntKind.u32.wrap ((IntKind.u32.wrap ((1 : Int) * 2 ^ (min ((IntKind.u64.wrap ((Sp.F11 x.1).1))).toNat IntKind.u32.bits))) - (2 : Int)))).toNat : Int))), (IntKind.u32.wrap ((BitVec.ofInt IntKind.u32.bits x.2.2.2.2.2.2.2.2.2 &&& BitVec.ofInt IntKind.u32.bits (IntKind.u32.wrap ((IntKind.u32.wrap ((1 : Int) * 2 ^ (min ((IntKind.u64.wrap ((Sp.F11 x.1).1))).toNat IntKind.u32.bits))) - (1 : Int)))).toNat : Int)))], (([(Sp.F12 ((Sp.F11 x.1), (0 : Int), x.2.1)), x.2.2, ((IntKind.i64.wrap (Int.tmod (IntKind.u64.wrap x.2.2.1) (5 : Int))), (IntKind.i64.wrap (Int.tmod (IntKind.u64.wrap x.2.2.2.1) (IntKind.u64.wrap ((Sp.F11 x.1).1)))), (IntKind.i64.wrap (Int.tmod (IntKind.u64.wrap x.2.2.2.2.1) (3 : Int))), (IntKind.i64.wrap ((BitVec.ofInt IntKind.i64.bits x.2.2.2.2.2.1 &&& BitVec.ofInt IntKind.i64.bits (7 : Int)).toNat : Int)), (Sp.nthT [(2 : Int), (2 : Int), (0 : Int), (1 : Int), (0 : Int)] (IntKind.i64.wrap (Int.tmod (IntKind.u64.wrap x.2.2.1) (5 : Int)))), (IntKind.i64.wrap ((1 : Int) + (IntKind.i64.wrap ((BitVec.ofInt IntKind.i64.bits x.2.2.2.2.2.2.2.1 &&& BitVec.ofInt IntKind.i64.bits (3 : Int)).toNat : Int)))), ((IntKind.u32.wrap ((BitVec.ofInt IntKind.u32.bits x.2.2.2.2.2.2.2.2.1.1 &&& BitVec.ofInt IntKind.u32.bits (IntKind.u32.wrap ((IntKind.u32.wrap ((1 : Int) * 2 ^ (min ((IntKind.u64.wrap (IntKind.i64.wrap ((Sp.F11 x.1).1 - (1 : Int))))).toNat IntKind.u32.bits))) - (1 : Int)))).toNat : Int)), (IntKind.u32.wrap ((BitVec.ofInt IntKind.u32.bits x.2.2.2.2.2.2.2.2.1.2 &&& BitVec.ofInt IntKind.u32.bits (IntKind.u32.wrap ((IntKind.u32.wrap ((1 : Int) * 2 ^ (min ((IntKind.u64.wrap ((Sp.F11 x.1).1))).toNat IntKind.u32.bits))) - (2 : Int)))).toNat : Int))), (IntKind.u32.wrap ((BitVec.ofInt IntKind.u32.bits x.2.2.2.2.2.2.2.2.2 &&& BitVec.ofInt IntKind.u32.bits (IntKind.u32.wrap ((IntKind.u32.wrap ((1 : Int) * 2 ^ (min ((IntKind.u64.wrap ((Sp.F11 x.1).1))).toNat IntKind.u32.bits))) - (1 : Int)))).toNat : Int)))]).length : Int), x.2.2, (Sp.F11 x.1)) (0 : Int)) = none → True))))))))))))) := by kernel_rfl
theorem sa3 (x : (Ty.pair ty22 (Ty.pair ty23 ty28)).den) (fx : Fit (Ty.pair ty22 (Ty.pair ty23 ty28)) x) (h : Sp.pre3 x) : SafeW ((evFn (ctxG GmN5) Tryd.f3 (Ty.pair ty22 (Ty.pair ty23 ty28)) [some 2, none, some 9] (Rsh.one (none)) none ty4 (lookL [(13, LS3_13), (10, LS3_10)]) x)) := by
  refine ⟨?_⟩
  rw [se3]
  try dsimp only [Ty.den] at *
  unfold Sp.pre3 at h
  have hpre := h
  have hB := Sp.b15 (x := x.1) hpre
  have hf := hB.1.fl
  have hl := Sp.b15_len (x := x.1) hpre
  have hp := Sp.promise_le (Sp.F11 x.1, (0 : Int)) (Nat.le_trans hl (by decide))
  have hw : IntKind.u64.wrap (Sp.F11 x.1).1 = (Sp.F11 x.1).1 := by rw [IntKind.wrap_u64]; omega
  have hi : 0 ≤ IntKind.i64.wrap (Int.tmod (IntKind.u64.wrap x.2.2.1) (5 : Int)) ∧ IntKind.i64.wrap (Int.tmod (IntKind.u64.wrap x.2.2.1) (5 : Int)) < 5 := by
    have := Sp.u64_nn x.2.2.1
    rw [Int.tmod_eq_emod_of_nonneg this, IntKind.wrap_i64]; omega
  refine ⟨hpre, by decide, by omega, by decide, by omega, hi, ?_⟩
  all_goals (repeat' (first | exact trivial | exact h | exact h.1 | exact hpre | exact hl | exact hp | apply And.intro | intro _))
  all_goals first | exact trivial | (show (0 : Int) ≤ (0 : Int); decide) | omega | rfl | exact Sp.u64_nn _ | exact hl | exact hp
theorem ok3 : CtOk Tryd.prog gdS 3 ct3 :=
  fn_okU (ctxOkF gokGmN5 []) rfl Tryd.func3 (p := (Ty.pair ty22 (Ty.pair ty23 ty28))) (psh := [some 2, none, some 9]) (r := ty4) (rsh := (Rsh.one (none))) (pre := some Sp.pre3) (fresh := none) (F := Sp.F3) (L := (lookL [(13, LS3_13), (10, LS3_10)])) (c := bodyOf Tryd.f3) (dflt := Ty.dflt ty4) rfl (loops_of (l := [bodyAt (bodyOf Tryd.f3) [0]]) (by kernel_rfl) (loops_cons (s0 := LS3_10) (by kernel_rfl) lo3_10 (loops_nil)))
    (safe_pre @sa3) va3
/-! overlaylaw17.RelayRuns -/
end Go.Proofs.YtpbljgpdhllklaaDoor.Sy
namespace Go.Proofs.YtpbljgpdhllklaaDoor.Sp
open Go Go.RowKit Sy
def in4_4 (k : ((List Int) × Int × Int × Int × Int × Nat × Nat × Nat × List (Int × Int × Int × Int × Int × Int × Int × Int × Int))) (x : (Int × (Int × Int × Int × Int × Int × Int × (Int × Int) × Int) × Int × Int × Int × Int × Int × Int × (Int × Int) × Int)) : Prop := (0 : Int) ≤ x.1
def mu4_4 (k : ((List Int) × Int × Int × Int × Int × Nat × Nat × Nat × List (Int × Int × Int × Int × Int × Int × Int × Int × Int))) (x : (Int × (Int × Int × Int × Int × Int × Int × (Int × Int) × Int) × Int × Int × Int × Int × Int × Int × (Int × Int) × Int)) : Nat := (((k.1).length : Int) - x.1).toNat
def K4_4_1 (k : ((List Int) × Int × Int × Int × Int × Nat × Nat × Nat × List (Int × Int × Int × Int × Int × Int × Int × Int × Int))) (x : (Int × (Int × Int × Int × Int × Int × Int × (Int × Int) × Int) × Int × Int × Int × Int × Int × Int × (Int × Int) × Int)) :=
  (Sp.F17 (k.2, (0 : Int), x.2.1, ((IntKind.u32.wrap (Int.fdiv (IntKind.u8.wrap ((BitVec.ofInt IntKind.u8.bits (Sp.nthT k.1 x.1) &&& BitVec.ofInt IntKind.u8.bits (Sp.nthT k.1 x.1)).toNat : Int)) (2 ^ (min ((1 : Int)).toNat IntKind.u8.bits)))), (IntKind.u32.wrap (IntKind.u8.wrap ((BitVec.ofInt IntKind.u8.bits (Int.fdiv (Sp.nthT k.1 x.1) (2 ^ (min ((2 : Int)).toNat IntKind.u8.bits))) &&& BitVec.ofInt IntKind.u8.bits (Sp.nthT k.1 x.1)).toNat : Int)))), (IntKind.u32.wrap (IntKind.u8.wrap ((BitVec.ofInt IntKind.u8.bits (Int.fdiv (Sp.nthT k.1 x.1) (2 ^ (min ((3 : Int)).toNat IntKind.u8.bits))) &&& BitVec.ofInt IntKind.u8.bits (Sp.nthT k.1 x.1)).toNat : Int)))))
def K4_4_2 (k : ((List Int) × Int × Int × Int × Int × Nat × Nat × Nat × List (Int × Int × Int × Int × Int × Int × Int × Int × Int))) (x : (Int × (Int × Int × Int × Int × Int × Int × (Int × Int) × Int) × Int × Int × Int × Int × Int × Int × (Int × Int) × Int)) :=
  (Sp.F18 (k.2, (0 : Int), x.2.2, ((IntKind.u32.wrap (Int.fdiv (IntKind.u8.wrap ((BitVec.ofInt IntKind.u8.bits (Sp.nthT k.1 x.1) &&& BitVec.ofInt IntKind.u8.bits (Sp.nthT k.1 x.1)).toNat : Int)) (2 ^ (min ((1 : Int)).toNat IntKind.u8.bits)))), (IntKind.u32.wrap (IntKind.u8.wrap ((BitVec.ofInt IntKind.u8.bits (Int.fdiv (Sp.nthT k.1 x.1) (2 ^ (min ((2 : Int)).toNat IntKind.u8.bits))) &&& BitVec.ofInt IntKind.u8.bits (Sp.nthT k.1 x.1)).toNat : Int)))), (IntKind.u32.wrap (IntKind.u8.wrap ((BitVec.ofInt IntKind.u8.bits (Int.fdiv (Sp.nthT k.1 x.1) (2 ^ (min ((3 : Int)).toNat IntKind.u8.bits))) &&& BitVec.ofInt IntKind.u8.bits (Sp.nthT k.1 x.1)).toNat : Int)))))
def st4_4 (k : ((List Int) × Int × Int × Int × Int × Nat × Nat × Nat × List (Int × Int × Int × Int × Int × Int × Int × Int × Int))) (x : (Int × (Int × Int × Int × Int × Int × Int × (Int × Int) × Int) × Int × Int × Int × Int × Int × Int × (Int × Int) × Int)) : BOut ((List Int) × Int × Int × Int × Int × Nat × Nat × Nat × List (Int × Int × Int × Int × Int × Int × Int × Int × Int)) (Int × (Int × Int × Int × Int × Int × Int × (Int × Int) × Int) × Int × Int × Int × Int × Int × Int × (Int × Int) × Int) (Bool) :=
  bif ((decide (x.1 < ((k.1).length : Int))) && (decide (x.1 < (200 : Int)))) then
    (bif ((!(((Sp.K4_4_1 k x).1 == (Sp.K4_4_2 k x).1) && (((Sp.K4_4_1 k x).2.1 == (Sp.K4_4_2 k x).2.1) && (((Sp.K4_4_1 k x).2.2.1 == (Sp.K4_4_2 k x).2.2.1) && (((Sp.K4_4_1 k x).2.2.2.1 == (Sp.K4_4_2 k x).2.2.2.1) && (((Sp.K4_4_1 k x).2.2.2.2.1 == (Sp.K4_4_2 k x).2.2.2.2.1) && (((Sp.K4_4_1 k x).2.2.2.2.2.1 == (Sp.K4_4_2 k x).2.2.2.2.2.1) && ((((Sp.K4_4_1 k x).2.2.2.2.2.2.1.1 == (Sp.K4_4_2 k x).2.2.2.2.2.2.1.1) && ((Sp.K4_4_1 k x).2.2.2.2.2.2.1.2 == (Sp.K4_4_2 k x).2.2.2.2.2.2.1.2)) && ((Sp.K4_4_1 k x).2.2.2.2.2.2.2 == (Sp.K4_4_2 k x).2.2.2.2.2.2.2))))))))) || (!(Sp.F19 (k.2, (Sp.K4_4_1 k x))))) then
      BOut.ret false
    else
      BOut.next k ((IntKind.i64.wrap (x.1 + (1 : Int))), (Sp.K4_4_1 k x), (Sp.K4_4_2 k x)))
  else
    BOut.brk k x
def G4_4 (k : ((List Int) × Int × Int × Int × Int × Nat × Nat × Nat × List (Int × Int × Int × Int × Int × Int × Int × Int × Int))) (x : (Int × (Int × Int × Int × Int × Int × Int × (Int × Int) × Int) × Int × Int × Int × Int × Int × Int × (Int × Int) × Int)) : (Int × (Int × Int × Int × Int × Int × Int × (Int × Int) × Int) × Int × Int × Int × Int × Int × Int × (Int × Int) × Int) := endOf st4_4 k (Nat.succ (mu4_4 k x)) x
def R4_4 (k : ((List Int) × Int × Int × Int × Int × Nat × Nat × Nat × List (Int × Int × Int × Int × Int × Int × Int × Int × Int))) (x : (Int × (Int × Int × Int × Int × Int × Int × (Int × Int) × Int) × Int × Int × Int × Int × Int × Int × (Int × Int) × Int)) : Option (Bool) := retOf st4_4 k (Nat.succ (mu4_4 k x)) x
end Go.Proofs.YtpbljgpdhllklaaDoor.Sp
namespace Go.Proofs.YtpbljgpdhllklaaDoor.Sy
def LS4_4 : LS ty4.den := mkLS (Ty.pair ty23 ty32) (Ty.pair ty3 (Ty.pair ty28 ty28))  [(1, none)] [(5, 8)] [(8, none)] [(6, 9), (7, 9)] [] [15] [(5, 5), (6, 6), (7, 7)] 0 true Sp.in4_4 Sp.st4_4 Sp.mu4_4
theorem va4_4 (k : (Ty.pair ty23 ty32).den) (x : (Ty.pair ty3 (Ty.pair ty28 ty28)).den) : ((evCode (ctxG GmN5) (lookL []) (bodyAt (bodyOf Tryd.f4) [0]) (tmpl LS4_4 (enc (Ty.pair ty23 ty32) k) (enc (Ty.pair ty3 (Ty.pair ty28 ty28)) x)) (evRound LS4_4 (evRet (ctxG GmN5) Tryd.f4 (Rsh.one (none)) none ty4 .ret)))).val BOut.ret (BOut.brk (Ty.dflt (Ty.pair ty23 ty32)) (Ty.dflt (Ty.pair ty3 (Ty.pair ty28 ty28)))) = Sp.st4_4 k x := by kernel_rfl
theorem se4_4 (k : (Ty.pair ty23 ty32).den) (x : (Ty.pair ty3 (Ty.pair ty28 ty28)).den) : ((evCode (ctxG GmN5) (lookL []) (bodyAt (bodyOf Tryd.f4) [0]) (tmpl LS4_4 (enc (Ty.pair ty23 ty32) k) (enc (Ty.pair ty3 (Ty.pair ty28 ty28)) x)) (evRound LS4_4 (evRet (ctxG GmN5) Tryd.f4 (Rsh.one (none)) none ty4 .ret)))).safe = (((((decide (x.1 < ((k.1).length : Int))) && (decide (x.1 < (200 : Int)))) = true → ((0 ≤ x.1 ∧ x.1 < ((k.1).length : Int)) ∧ ((0 ≤ x.1 ∧ x.1 < ((k.1).length : Int)) ∧ ((0 ≤ (1 : Int)) ∧ ((0 ≤ x.1 ∧ x.1 < ((k.1).length : Int)) ∧ ((0 ≤ (2 : Int)) ∧ ((0 ≤ x.1 ∧ x.1 < ((k.1).length : Int)) ∧ ((0 ≤ x.1 ∧ x.1 < ((k.1).length : Int)) ∧ ((0 ≤ (3 : Int)) ∧ ((0 ≤ x.1 ∧ x.1 < ((k.1).length : Int)) ∧ ((((!(((Sp.K4_4_1 k x).1 == (Sp.K4_4_2 k x).1) && (((Sp.K4_4_1 k x).2.1 == (Sp.K4_4_2 k x).2.1) && (((Sp.K4_4_1 k x).2.2.1 == (Sp.K4_4_2 k x).2.2.1) && (((Sp.K4_4_1 k x).2.2.2.1 == (Sp.K4_4_2 k x).2.2.2.1) && (((Sp.K4_4_1 k x).2.2.2.2.1 == (Sp.K4_4_2 k x).2.2.2.2.1) && (((Sp.K4_4_1 k x).2.2.2.2.2.1 == (Sp.K4_4_2 k x).2.2.2.2.2.1) && ((((Sp.K4_4_1 k x).2.2.2.2.2.2.1.1 == (Sp.K4_4_2 k x).2.2.2.2.2.2.1.1) && ((Sp.K4_4_1 k x).2.2.2.2.2.2.1.2 == (Sp.K4_4_2 k x).2.2.2.2.2.2.1.2)) && ((Sp.K4_4_1 k x).2.2.2.2.2.2.2 == (Sp.K4_4_2 k x).2.2.2.2.2.2.2))))))))) || (!(Sp.F19 (k.2, (Sp.K4_4_1 k x))))) = true → True) ∧ (((!(((Sp.K4_4_1 k x).1 == (Sp.K4_4_2 k x).1) && (((Sp.K4_4_1 k x).2.1 == (Sp.K4_4_2 k x).2.1) && (((Sp.K4_4_1 k x).2.2.1 == (Sp.K4_4_2 k x).2.2.1) && (((Sp.K4_4_1 k x).2.2.2.1 == (Sp.K4_4_2 k x).2.2.2.1) && (((Sp.K4_4_1 k x).2.2.2.2.1 == (Sp.K4_4_2 k x).2.2.2.2.1) && (((Sp.K4_4_1 k x).2.2.2.2.2.1 == (Sp.K4_4_2 k x).2.2.2.2.2.1) && ((((Sp.K4_4_1 k x).2.2.2.2.2.2.1.1 == (Sp.K4_4_2 k x).2.2.2.2.2.2.1.1) && ((Sp.K4_4_1 k x).2.2.2.2.2.2.1.2 == (Sp.K4_4_2 k x).2.2.2.2.2.2.1.2)) && ((Sp.K4_4_1 k x).2.2.2.2.2.2.2 == (Sp.K4_4_2 k x).2.2.2.2.2.2.2))))))))) || (!(Sp.F19 (k.2, (Sp.K4_4_1 k x))))) = false → True)))))))))))) ∧ (((decide (x.1 < ((k.1).length : Int))) && (decide (x.1 < (200 : Int)))) = false → True))) := by kernel_rfl
set_option maxHeartbeats 4000000 in
theorem sa4_4 (k : (Ty.pair ty23 ty32).den) (x : (Ty.pair ty3 (Ty.pair ty28 ty28)).den) (fk : Fit (Ty.pair ty23 ty32) k) (fx : Fit (Ty.pair ty3 (Ty.pair ty28 ty28)) x) (h : Sp.in4_4 k x) : SafeW ((evCode (ctxG GmN5) (lookL []) (bodyAt (bodyOf Tryd.f4) [0]) (tmpl LS4_4 (enc (Ty.pair ty23 ty32) k) (enc (Ty.pair ty3 (Ty.pair ty28 ty28)) x)) (evRound LS4_4 (evRet (ctxG GmN5) Tryd.f4 (Rsh.one (none)) none ty4 .ret)))) := by
  refine ⟨?_⟩
  rw [se4_4]
  try dsimp only [Ty.den] at *
  simp only [Sp.in4_4, Fit, maxLen] at h fk fx
  simp only [IntKind.wrap_i64, IntKind.wrap_u8, IntKind.wrap_u32, IntKind.wrap_u64, Sp.tmod_lit, Sp.tdiv_lit, bne_eq_false_iff_eq, Int.natCast_inj, setE, copyL, sliceL, zrow, List.length_append, List.length_cons, List.length_nil, List.length_set, List.length_replicate, List.length_take, List.length_drop, decide_eq_true_eq, decide_eq_false_iff_not, Bool.or_eq_true, Bool.and_eq_true, Bool.or_eq_false_iff, Bool.and_eq_false_iff, Bool.not_eq_true', Bool.not_eq_false', Bool.not_eq_true, Bool.not_eq_false, beq_iff_eq, beq_eq_false_iff_ne, bne_iff_ne, ne_eq, implies_true, and_true, true_and] at *
  all_goals ((repeat' (first | exact trivial | apply And.intro | intro _)) <;> first | trivial | omega | exact Sp.tmod_nn (by omega) | exact Sp.tmod_lt (by omega) (by omega))
set_option maxHeartbeats 4000000 in
theorem so4_4 (k : (Ty.pair ty23 ty32).den) (x : (Ty.pair ty3 (Ty.pair ty28 ty28)).den) (fk : Fit (Ty.pair ty23 ty32) k) (h : Sp.in4_4 k x) : StepOk true Sp.in4_4 Sp.mu4_4 k x (Sp.st4_4 k x) := by
  try dsimp only [Ty.den] at *
  simp only [Sp.in4_4, Fit, maxLen] at h fk
  unfold Sp.st4_4
  (repeat' (first | exact rfl | (refine StepOk.cnd (fun hc => ?_) (fun hc => ?_) <;> (try simp only [IntKind.wrap_i64, IntKind.wrap_u8, IntKind.wrap_u32, IntKind.wrap_u64, bne_eq_false_iff_eq, Int.natCast_inj, setE, copyL, sliceL, zrow, List.length_append, List.length_cons, List.length_nil, List.length_set, List.length_replicate, List.length_take, List.length_drop, decide_eq_true_eq, decide_eq_false_iff_not, Bool.or_eq_true, Bool.and_eq_true, Bool.or_eq_false_iff, Bool.and_eq_false_iff, Bool.not_eq_true', Bool.not_eq_false', Bool.not_eq_true, Bool.not_eq_false, beq_iff_eq, beq_eq_false_iff_ne, bne_iff_ne, ne_eq] at hc)) | refine StepOk.opt (fun _ => ?_))) <;> (first | exact rfl | (refine ⟨rfl, ?_, ?_⟩ <;> simp only [Sp.in4_4, Sp.mu4_4, Sp.K4_4_1, Sp.K4_4_2, IntKind.wrap_i64, IntKind.wrap_u8, IntKind.wrap_u32, IntKind.wrap_u64, Sp.tmod_lit, Sp.tdiv_lit, bne_eq_false_iff_eq, Int.natCast_inj, setE, copyL, sliceL, zrow, List.length_append, List.length_cons, List.length_nil, List.length_set, List.length_replicate, List.length_take, List.length_drop, decide_eq_true_eq, decide_eq_false_iff_not, Bool.or_eq_true, Bool.and_eq_true, Bool.or_eq_false_iff, Bool.and_eq_false_iff, Bool.not_eq_true', Bool.not_eq_false', Bool.not_eq_true, Bool.not_eq_false, beq_iff_eq, beq_eq_false_iff_ne, bne_iff_ne, ne_eq] <;> first | omega | (and_intros <;> first | omega | exact h.1 | exact h.2 | exact h.2.1 | exact h.2.2 | exact h.2.2.1 | exact h.2.2.2 | exact h.2.2.2.1 | exact h.2.2.2.2 | exact h.2.2.2.2.1 | exact h.2.2.2.2.2 | exact h.2.2.2.2.2.1 | exact h.2.2.2.2.2.2)))
theorem lo4_4 : LoopOk Tryd.prog gdS (RetAt Tryd.prog Tryd.f4 (Rsh.one (none)) none ty4) (bodyAt (bodyOf Tryd.f4) [0]) LS4_4 :=
  loop_run (ctxOkF gokGmN5 []) (L := lookL []) (loops_of (l := []) (by kernel_rfl) (loops_nil)) sa4_4 va4_4 so4_4
end Go.Proofs.YtpbljgpdhllklaaDoor.Sy
namespace Go.Proofs.YtpbljgpdhllklaaDoor.Sp
open Go Go.RowKit Sy
def F4 (x : (Int × Int) × List Int) : Bool :=
  Sp.optR (Sp.R4_4 (x.2, (Sp.F11 x.1)) ((0 : Int), (Sp.F14 (0 : Int)), (Sp.F15 (0 : Int)))) (fun y => y)
  ((Sp.F16 ()))
def pre4 (x : (Int × Int) × List Int) : Prop := (0 ≤ x.1.1 ∧ x.1.1 ≤ 255) ∧ 0 ≤ x.1.2 ∧ x.1.2 ≤ 255
end Go.Proofs.YtpbljgpdhllklaaDoor.Sp
namespace Go.Proofs.YtpbljgpdhllklaaDoor.Sy
def ct4 : Ct := { p := (Ty.pair ty22 ty23), psh := [some 2, none], r := ty4, rsh := (Rsh.one (none)), pre := some Sp.pre4, fresh := none, F := Sp.F4 }
theorem va4 (x : (Ty.pair ty22 ty23).den) : ((evFn (ctxG GmN5) Tryd.f4 (Ty.pair ty22 ty23) [some 2, none] (Rsh.one (none)) none ty4 (lookL [(4, LS4_4)]) x)).val (fun y => y) (Ty.dflt ty4) = Sp.F4 x := by kernel_rfl
theorem se4 (x : (Ty.pair ty22 ty23).den) : ((evFn (ctxG GmN5) Tryd.f4 (Ty.pair ty22 ty23) [some 2, none] (Rsh.one (none)) none ty4 (lookL [(4, LS4_4)]) x)).safe = (((Sp.pre11 x.1) ∧ ((Sp.in4_4 (x.2, (Sp.F11 x.1)) ((0 : Int), (Sp.F14 (0 : Int)), (Sp.F15 (0 : Int)))) ∧ ((Sp.R4_4 (x.2, (Sp.F11 x.1)) ((0 : Int), (Sp.F14 (0 : Int)), (Sp.F15 (0 : Int)))) = none → True)))) := by kernel_rfl
theorem sa4 (x : (Ty.pair ty22 ty23).den) (fx : Fit (Ty.pair ty22 ty23) x) (h : Sp.pre4 x) : SafeW ((evFn (ctxG GmN5) Tryd.f4 (Ty.pair ty22 ty23) [some 2, none] (Rsh.one (none)) none ty4 (lookL [(4, LS4_4)]) x)) := by
  refine ⟨?_⟩
  rw [se4]
  try dsimp only [Ty.den] at *
  unfold Sp.pre4 at h
  have hpre := h
  have hB := Sp.b15 (x := x.1) hpre
  have hf := hB.1.fl
  have hl := Sp.b15_len (x := x.1) hpre
  have hp := Sp.promise_le (Sp.F11 x.1, (0 : Int)) (Nat.le_trans hl (by decide))
  refine ⟨hpre, ?_⟩
  all_goals (repeat' (first | exact trivial | exact h | exact h.1 | exact hpre | exact hl | exact hp | apply And.intro | intro _))
  all_goals first | exact trivial | (show (0 : Int) ≤ (0 : Int); decide) | omega | rfl | exact Sp.u64_nn _ | exact hl | exact hp
theorem ok4 : CtOk Tryd.prog gdS 4 ct4 :=
  fn_okU (ctxOkF gokGmN5 []) rfl Tryd.func4 (p := (Ty.pair ty22 ty23)) (psh := [some 2, none]) (r := ty4) (rsh := (Rsh.one (none))) (pre := some Sp.pre4) (fresh := none) (F := Sp.F4) (L := (lookL [(4, LS4_4)])) (c := bodyOf Tryd.f4) (dflt := Ty.dflt ty4) rfl (loops_of (l := [bodyAt (bodyOf Tryd.f4) [0]]) (by kernel_rfl) (loops_cons (s0 := LS4_4) (by kernel_rfl) lo4_4 (loops_nil)))
    (safe_pre @sa4) va4
/-! overlaylaw17.RelayCarries -/
end Go.Proofs.YtpbljgpdhllklaaDoor.Sy
namespace Go.Proofs.YtpbljgpdhllklaaDoor.Sp
open Go Go.RowKit Sy
def in5_9 (k : ((List Int) × Int)) (x : (Int × Int × Int × Int)) : Prop := (0 : Int) ≤ x.1 ∧ 0 ≤ k.2 ∧ k.2 ≤ 1000000000
def mu5_9 (k : ((List Int) × Int)) (x : (Int × Int × Int × Int)) : Nat := ((3 : Int) - x.1).toNat
def st5_9 (k : ((List Int) × Int)) (x : (Int × Int × Int × Int)) : BOut ((List Int) × Int) (Int × Int × Int × Int) (Bool) :=
  bif ((decide (x.1 < (3 : Int))) && (decide (((k.1).length : Int) > (0 : Int)))) then
    BOut.next k ((IntKind.i64.wrap (x.1 + (1 : Int))), (bif (x.1 == (0 : Int)) then (Sp.nthT k.1 (Int.tmod (IntKind.i64.wrap ((IntKind.i64.wrap ((3 : Int) * k.2)) + x.1)) ((k.1).length : Int))) else x.2.1), (bif (x.1 == (1 : Int)) then (Sp.nthT k.1 (Int.tmod (IntKind.i64.wrap ((IntKind.i64.wrap ((3 : Int) * k.2)) + x.1)) ((k.1).length : Int))) else x.2.2.1), (bif (x.1 == (2 : Int)) then (Sp.nthT k.1 (Int.tmod (IntKind.i64.wrap ((IntKind.i64.wrap ((3 : Int) * k.2)) + x.1)) ((k.1).length : Int))) else x.2.2.2))
  else
    BOut.brk k x
def G5_9 (k : ((List Int) × Int)) (x : (Int × Int × Int × Int)) : (Int × Int × Int × Int) := endOf st5_9 k (Nat.succ (mu5_9 k x)) x
end Go.Proofs.YtpbljgpdhllklaaDoor.Sp
namespace Go.Proofs.YtpbljgpdhllklaaDoor.Sy
def LS5_9 : LS ty4.den := mkLS (Ty.pair ty23 ty3) (Ty.pair ty3 ty45)  [(2, none), (10, none)] [] [(12, none)] [(11, 3)] [] [] [(11, 11)] 2 false Sp.in5_9 Sp.st5_9 Sp.mu5_9
end Go.Proofs.YtpbljgpdhllklaaDoor.Sy
namespace Go.Proofs.YtpbljgpdhllklaaDoor.Sp
open Go Go.RowKit Sy
def in5_5 (k : ((List Int) × Int × Int × Int × Int × Int × Nat × Nat × Nat × List (Int × Int × Int × Int × Int × Int × Int × Int × Int))) (x : (Int × Int × Int × Int × Int × Int × Int × (Int × Int) × Int)) : Prop := (0 : Int) ≤ x.1 ∧ Sp.F20 (k.2.2, (0 : Int)) ≤ 1000000000 ∧ 0 ≤ k.2.1
def mu5_5 (k : ((List Int) × Int × Int × Int × Int × Int × Nat × Nat × Nat × List (Int × Int × Int × Int × Int × Int × Int × Int × Int))) (x : (Int × Int × Int × Int × Int × Int × Int × (Int × Int) × Int)) : Nat := ((Sp.F20 (k.2.2, (0 : Int))) - x.1 + 1).toNat
def K5_5_1 (k : ((List Int) × Int × Int × Int × Int × Int × Nat × Nat × Nat × List (Int × Int × Int × Int × Int × Int × Int × Int × Int))) (x : (Int × Int × Int × Int × Int × Int × Int × (Int × Int) × Int)) :=
  (Sp.F17 (k.2.2, (0 : Int), x.2, ((IntKind.u32.wrap (IntKind.u8.wrap ((BitVec.ofInt IntKind.u8.bits ((Sp.G5_9 (k.1, x.1) ((0 : Int), (0 : Int), (0 : Int), (0 : Int))).2.1) &&& BitVec.ofInt IntKind.u8.bits ((Sp.G5_9 (k.1, x.1) ((0 : Int), (0 : Int), (0 : Int), (0 : Int))).2.2.1)).toNat : Int))), (IntKind.u32.wrap (IntKind.u8.wrap ((BitVec.ofInt IntKind.u8.bits ((Sp.G5_9 (k.1, x.1) ((0 : Int), (0 : Int), (0 : Int), (0 : Int))).2.2.1) &&& BitVec.ofInt IntKind.u8.bits ((Sp.G5_9 (k.1, x.1) ((0 : Int), (0 : Int), (0 : Int), (0 : Int))).2.2.2)).toNat : Int)))), (IntKind.u32.wrap ((BitVec.ofInt IntKind.u32.bits (IntKind.u32.wrap (IntKind.u8.wrap ((BitVec.ofInt IntKind.u8.bits ((Sp.G5_9 (k.1, x.1) ((0 : Int), (0 : Int), (0 : Int), (0 : Int))).2.2.2) &&& BitVec.ofInt IntKind.u8.bits ((Sp.G5_9 (k.1, x.1) ((0 : Int), (0 : Int), (0 : Int), (0 : Int))).2.1)).toNat : Int))) ||| BitVec.ofInt IntKind.u32.bits (IntKind.u32.wrap ((1 : Int) * 2 ^ (min ((IntKind.u64.wrap k.2.1)).toNat IntKind.u32.bits)))).toNat : Int))))
def K5_5_2 (k : ((List Int) × Int × Int × Int × Int × Int × Nat × Nat × Nat × List (Int × Int × Int × Int × Int × Int × Int × Int × Int))) (x : (Int × Int × Int × Int × Int × Int × Int × (Int × Int) × Int)) :=
  (Sp.F17 (k.2.2, (0 : Int), x.2, ((IntKind.u32.wrap (IntKind.u8.wrap ((BitVec.ofInt IntKind.u8.bits ((Sp.G5_9 (k.1, x.1) ((0 : Int), (0 : Int), (0 : Int), (0 : Int))).2.1) &&& BitVec.ofInt IntKind.u8.bits ((Sp.G5_9 (k.1, x.1) ((0 : Int), (0 : Int), (0 : Int), (0 : Int))).2.2.1)).toNat : Int))), (IntKind.u32.wrap (IntKind.u8.wrap ((BitVec.ofInt IntKind.u8.bits ((Sp.G5_9 (k.1, x.1) ((0 : Int), (0 : Int), (0 : Int), (0 : Int))).2.2.1) &&& BitVec.ofInt IntKind.u8.bits ((Sp.G5_9 (k.1, x.1) ((0 : Int), (0 : Int), (0 : Int), (0 : Int))).2.2.2)).toNat : Int)))), (IntKind.u32.wrap (IntKind.u8.wrap ((BitVec.ofInt IntKind.u8.bits ((Sp.G5_9 (k.1, x.1) ((0 : Int), (0 : Int), (0 : Int), (0 : Int))).2.2.2) &&& BitVec.ofInt IntKind.u8.bits ((Sp.G5_9 (k.1, x.1) ((0 : Int), (0 : Int), (0 : Int), (0 : Int))).2.1)).toNat : Int)))))
def st5_5 (k : ((List Int) × Int × Int × Int × Int × Int × Nat × Nat × Nat × List (Int × Int × Int × Int × Int × Int × Int × Int × Int))) (x : (Int × Int × Int × Int × Int × Int × Int × (Int × Int) × Int)) : BOut ((List Int) × Int × Int × Int × Int × Int × Nat × Nat × Nat × List (Int × Int × Int × Int × Int × Int × Int × Int × Int)) (Int × Int × Int × Int × Int × Int × Int × (Int × Int) × Int) (Bool) :=
  bif (decide (x.1 ≤ (Sp.F20 (k.2.2, (0 : Int))))) then
    (bif (x.1 == (0 : Int)) then
      (bif (((Sp.K5_5_1 k x).2.1 == k.2.1) && ((Sp.K5_5_1 k x).2.2.2.2.1 == (1 : Int))) then
        BOut.ret (Sp.F16 ())
      else
        BOut.next k ((IntKind.i64.wrap (x.1 + (1 : Int))), (Sp.K5_5_1 k x)))
    else
      bif (((Sp.K5_5_2 k x).2.1 == k.2.1) && ((Sp.K5_5_2 k x).2.2.2.2.1 == (1 : Int))) then
        BOut.ret (Sp.F16 ())
      else
        BOut.next k ((IntKind.i64.wrap (x.1 + (1 : Int))), (Sp.K5_5_2 k x)))
  else
    BOut.brk k x
def G5_5 (k : ((List Int) × Int × Int × Int × Int × Int × Nat × Nat × Nat × List (Int × Int × Int × Int × Int × Int × Int × Int × Int))) (x : (Int × Int × Int × Int × Int × Int × Int × (Int × Int) × Int)) : (Int × Int × Int × Int × Int × Int × Int × (Int × Int) × Int) := endOf st5_5 k (Nat.succ (mu5_5 k x)) x
def R5_5 (k : ((List Int) × Int × Int × Int × Int × Int × Nat × Nat × Nat × List (Int × Int × Int × Int × Int × Int × Int × Int × Int))) (x : (Int × Int × Int × Int × Int × Int × Int × (Int × Int) × Int)) : Option (Bool) := retOf st5_5 k (Nat.succ (mu5_5 k x)) x
end Go.Proofs.YtpbljgpdhllklaaDoor.Sp
namespace Go.Proofs.YtpbljgpdhllklaaDoor.Sy
def LS5_5 : LS ty4.den := mkLS (Ty.pair ty23 (Ty.pair ty3 ty32)) (Ty.pair ty3 ty28)  [(2, none), (9, none)] [(7, 8)] [(10, none)] [(8, 9)] [] [18] [(7, 7), (8, 8)] 0 true Sp.in5_5 Sp.st5_5 Sp.mu5_5
theorem va5_9 (k : (Ty.pair ty23 ty3).den) (x : (Ty.pair ty3 ty45).den) : ((evCode (ctxG GmN5) (lookL []) (bodyAt (bodyOf Tryd.f5) [0, 0]) (tmpl LS5_9 (enc (Ty.pair ty23 ty3) k) (enc (Ty.pair ty3 ty45) x)) (evRound LS5_9 (evRet (ctxG GmN5) Tryd.f5 (Rsh.one (none)) none ty4 .ret)))).val BOut.ret (BOut.brk (Ty.dflt (Ty.pair ty23 ty3)) (Ty.dflt (Ty.pair ty3 ty45))) = Sp.st5_9 k x := by kernel_rfl
theorem se5_9 (k : (Ty.pair ty23 ty3).den) (x : (Ty.pair ty3 ty45).den) : ((evCode (ctxG GmN5) (lookL []) (bodyAt (bodyOf Tryd.f5) [0, 0]) (tmpl LS5_9 (enc (Ty.pair ty23 ty3) k) (enc (Ty.pair ty3 ty45) x)) (evRound LS5_9 (evRet (ctxG GmN5) Tryd.f5 (Rsh.one (none)) none ty4 .ret)))).safe = (((((decide (x.1 < (3 : Int))) && (decide (((k.1).length : Int) > (0 : Int)))) = true → ((((k.1).length : Int) ≠ 0) ∧ ((0 ≤ (Int.tmod (IntKind.i64.wrap ((IntKind.i64.wrap ((3 : Int) * k.2)) + x.1)) ((k.1).length : Int)) ∧ (Int.tmod (IntKind.i64.wrap ((IntKind.i64.wrap ((3 : Int) * k.2)) + x.1)) ((k.1).length : Int)) < ((k.1).length : Int)) ∧ ((0 ≤ x.1 ∧ x.1 < (3 : Int)) ∧ True)))) ∧ (((decide (x.1 < (3 : Int))) && (decide (((k.1).length : Int) > (0 : Int)))) = false → True))) := by kernel_rfl
set_option maxHeartbeats 4000000 in
theorem sa5_9 (k : (Ty.pair ty23 ty3).den) (x : (Ty.pair ty3 ty45).den) (fk : Fit (Ty.pair ty23 ty3) k) (fx : Fit (Ty.pair ty3 ty45) x) (h : Sp.in5_9 k x) : SafeW ((evCode (ctxG GmN5) (lookL []) (bodyAt (bodyOf Tryd.f5) [0, 0]) (tmpl LS5_9 (enc (Ty.pair ty23 ty3) k) (enc (Ty.pair ty3 ty45) x)) (evRound LS5_9 (evRet (ctxG GmN5) Tryd.f5 (Rsh.one (none)) none ty4 .ret)))) := by
  refine ⟨?_⟩
  rw [se5_9]
  try dsimp only [Ty.den] at *
  simp only [Sp.in5_9] at h
  refine ⟨fun hc => ?_, fun _ => trivial⟩
  simp only [Bool.and_eq_true, decide_eq_true_eq] at hc
  have e1 : IntKind.i64.wrap ((3 : Int) * k.2) = 3 * k.2 := Sp.wrap_i64_of (by omega) (by omega)
  have e2 : IntKind.i64.wrap (3 * k.2 + x.1) = 3 * k.2 + x.1 := Sp.wrap_i64_of (by omega) (by omega)
  rw [e1, e2]
  exact ⟨by omega, ⟨Int.tmod_nonneg _ (by omega), Int.tmod_lt_of_pos _ (by omega)⟩, ⟨by omega, by omega⟩, trivial⟩
set_option maxHeartbeats 4000000 in
theorem so5_9 (k : (Ty.pair ty23 ty3).den) (x : (Ty.pair ty3 ty45).den) (fk : Fit (Ty.pair ty23 ty3) k) (h : Sp.in5_9 k x) : StepOk false Sp.in5_9 Sp.mu5_9 k x (Sp.st5_9 k x) := by
  try dsimp only [Ty.den] at *
  simp only [Sp.in5_9, Fit, maxLen] at h fk
  unfold Sp.st5_9
  (repeat' (first | exact rfl | (refine StepOk.cnd (fun hc => ?_) (fun hc => ?_) <;> (try simp only [IntKind.wrap_i64, IntKind.wrap_u8, IntKind.wrap_u32, IntKind.wrap_u64, bne_eq_false_iff_eq, Int.natCast_inj, setE, copyL, sliceL, zrow, List.length_append, List.length_cons, List.length_nil, List.length_set, List.length_replicate, List.length_take, List.length_drop, decide_eq_true_eq, decide_eq_false_iff_not, Bool.or_eq_true, Bool.and_eq_true, Bool.or_eq_false_iff, Bool.and_eq_false_iff, Bool.not_eq_true', Bool.not_eq_false', Bool.not_eq_true, Bool.not_eq_false, beq_iff_eq, beq_eq_false_iff_ne, bne_iff_ne, ne_eq] at hc)) | refine StepOk.opt (fun _ => ?_))) <;> (first | exact rfl | (refine ⟨rfl, ?_, ?_⟩ <;> simp only [Sp.in5_9, Sp.mu5_9, IntKind.wrap_i64, IntKind.wrap_u8, IntKind.wrap_u32, IntKind.wrap_u64, Sp.tmod_lit, Sp.tdiv_lit, bne_eq_false_iff_eq, Int.natCast_inj, setE, copyL, sliceL, zrow, List.length_append, List.length_cons, List.length_nil, List.length_set, List.length_replicate, List.length_take, List.length_drop, decide_eq_true_eq, decide_eq_false_iff_not, Bool.or_eq_true, Bool.and_eq_true, Bool.or_eq_false_iff, Bool.and_eq_false_iff, Bool.not_eq_true', Bool.not_eq_false', Bool.not_eq_true, Bool.not_eq_false, beq_iff_eq, beq_eq_false_iff_ne, bne_iff_ne, ne_eq] <;> first | omega | (and_intros <;> first | omega | exact h.1 | exact h.2 | exact h.2.1 | exact h.2.2 | exact h.2.2.1 | exact h.2.2.2 | exact h.2.2.2.1 | exact h.2.2.2.2 | exact h.2.2.2.2.1 | exact h.2.2.2.2.2 | exact h.2.2.2.2.2.1 | exact h.2.2.2.2.2.2)))
theorem lo5_9 : LoopOk Tryd.prog gdS (RetAt Tryd.prog Tryd.f5 (Rsh.one (none)) none ty4) (bodyAt (bodyOf Tryd.f5) [0, 0]) LS5_9 :=
  loop_run (ctxOkF gokGmN5 []) (L := lookL []) (loops_of (l := []) (by kernel_rfl) (loops_nil)) sa5_9 va5_9 so5_9
theorem va5_5 (k : (Ty.pair ty23 (Ty.pair ty3 ty32)).den) (x : (Ty.pair ty3 ty28).den) : ((evCode (ctxG GmN5) (lookL [(9, LS5_9)]) (bodyAt (bodyOf Tryd.f5) [0]) (tmpl LS5_5 (enc (Ty.pair ty23 (Ty.pair ty3 ty32)) k) (enc (Ty.pair ty3 ty28) x)) (evRound LS5_5 (evRet (ctxG GmN5) Tryd.f5 (Rsh.one (none)) none ty4 .ret)))).val BOut.ret (BOut.brk (Ty.dflt (Ty.pair ty23 (Ty.pair ty3 ty32))) (Ty.dflt (Ty.pair ty3 ty28))) = Sp.st5_5 k x := by kernel_rfl
theorem se5_5 (k : (Ty.pair ty23 (Ty.pair ty3 ty32)).den) (x : (Ty.pair ty3 ty28).den) : ((evCode (ctxG GmN5) (lookL [(9, LS5_9)]) (bodyAt (bodyOf Tryd.f5) [0]) (tmpl LS5_5 (enc (Ty.pair ty23 (Ty.pair ty3 ty32)) k) (enc (Ty.pair ty3 ty28) x)) (evRound LS5_5 (evRet (ctxG GmN5) Tryd.f5 (Rsh.one (none)) none ty4 .ret)))).safe = ((((decide (x.1 ≤ (Sp.F20 (k.2.2, (0 : Int))))) = true → ((Sp.in5_9 (k.1, x.1) ((0 : Int), (0 : Int), (0 : Int), (0 : Int))) ∧ (((x.1 == (0 : Int)) = true → ((0 ≤ (IntKind.u64.wrap k.2.1)) ∧ (((((Sp.K5_5_1 k x).2.1 == k.2.1) && ((Sp.K5_5_1 k x).2.2.2.2.1 == (1 : Int))) = true → True) ∧ ((((Sp.K5_5_1 k x).2.1 == k.2.1) && ((Sp.K5_5_1 k x).2.2.2.2.1 == (1 : Int))) = false → True)))) ∧ ((x.1 == (0 : Int)) = false → (((((Sp.K5_5_2 k x).2.1 == k.2.1) && ((Sp.K5_5_2 k x).2.2.2.2.1 == (1 : Int))) = true → True) ∧ ((((Sp.K5_5_2 k x).2.1 == k.2.1) && ((Sp.K5_5_2 k x).2.2.2.2.1 == (1 : Int))) = false → True)))))) ∧ ((decide (x.1 ≤ (Sp.F20 (k.2.2, (0 : Int))))) = false → True))) := by kernel_rfl
set_option maxHeartbeats 4000000 in
theorem sa5_5 (k : (Ty.pair ty23 (Ty.pair ty3 ty32)).den) (x : (Ty.pair ty3 ty28).den) (fk : Fit (Ty.pair ty23 (Ty.pair ty3 ty32)) k) (fx : Fit (Ty.pair ty3 ty28) x) (h : Sp.in5_5 k x) : SafeW ((evCode (ctxG GmN5) (lookL [(9, LS5_9)]) (bodyAt (bodyOf Tryd.f5) [0]) (tmpl LS5_5 (enc (Ty.pair ty23 (Ty.pair ty3 ty32)) k) (enc (Ty.pair ty3 ty28) x)) (evRound LS5_5 (evRet (ctxG GmN5) Tryd.f5 (Rsh.one (none)) none ty4 .ret)))) := by
  refine ⟨?_⟩
  rw [se5_5]
  try dsimp only [Ty.den] at *
  simp only [Sp.in5_5, Fit, maxLen] at h fk fx
  simp only [Sp.in5_9, IntKind.wrap_i64, IntKind.wrap_u8, IntKind.wrap_u32, IntKind.wrap_u64, Sp.tmod_lit, Sp.tdiv_lit, bne_eq_false_iff_eq, Int.natCast_inj, setE, copyL, sliceL, zrow, List.length_append, List.length_cons, List.length_nil, List.length_set, List.length_replicate, List.length_take, List.length_drop, decide_eq_true_eq, decide_eq_false_iff_not, Bool.or_eq_true, Bool.and_eq_true, Bool.or_eq_false_iff, Bool.and_eq_false_iff, Bool.not_eq_true', Bool.not_eq_false', Bool.not_eq_true, Bool.not_eq_false, beq_iff_eq, beq_eq_false_iff_ne, bne_iff_ne, ne_eq, implies_true, and_true, true_and] at *
  all_goals ((repeat' (first | exact trivial | apply And.intro | intro _)) <;> first | trivial | omega | exact Sp.tmod_nn (by omega) | exact Sp.tmod_lt (by omega) (by omega))
set_option maxHeartbeats 4000000 in
theorem so5_5 (k : (Ty.pair ty23 (Ty.pair ty3 ty32)).den) (x : (Ty.pair ty3 ty28).den) (fk : Fit (Ty.pair ty23 (Ty.pair ty3 ty32)) k) (h : Sp.in5_5 k x) : StepOk true Sp.in5_5 Sp.mu5_5 k x (Sp.st5_5 k x) := by
  try dsimp only [Ty.den] at *
  simp only [Sp.in5_5, Fit, maxLen] at h fk
  unfold Sp.st5_5
  (repeat' (first | exact rfl | (refine StepOk.cnd (fun hc => ?_) (fun hc => ?_) <;> (try simp only [IntKind.wrap_i64, IntKind.wrap_u8, IntKind.wrap_u32, IntKind.wrap_u64, bne_eq_false_iff_eq, Int.natCast_inj, setE, copyL, sliceL, zrow, List.length_append, List.length_cons, List.length_nil, List.length_set, List.length_replicate, List.length_take, List.length_drop, decide_eq_true_eq, decide_eq_false_iff_not, Bool.or_eq_true, Bool.and_eq_true, Bool.or_eq_false_iff, Bool.and_eq_false_iff, Bool.not_eq_true', Bool.not_eq_false', Bool.not_eq_true, Bool.not_eq_false, beq_iff_eq, beq_eq_false_iff_ne, bne_iff_ne, ne_eq] at hc)) | refine StepOk.opt (fun _ => ?_))) <;> (first | exact rfl | (refine ⟨rfl, ?_, ?_⟩ <;> simp only [Sp.in5_5, Sp.mu5_5, Sp.K5_5_1, Sp.K5_5_2, IntKind.wrap_i64, IntKind.wrap_u8, IntKind.wrap_u32, IntKind.wrap_u64, Sp.tmod_lit, Sp.tdiv_lit, bne_eq_false_iff_eq, Int.natCast_inj, setE, copyL, sliceL, zrow, List.length_append, List.length_cons, List.length_nil, List.length_set, List.length_replicate, List.length_take, List.length_drop, decide_eq_true_eq, decide_eq_false_iff_not, Bool.or_eq_true, Bool.and_eq_true, Bool.or_eq_false_iff, Bool.and_eq_false_iff, Bool.not_eq_true', Bool.not_eq_false', Bool.not_eq_true, Bool.not_eq_false, beq_iff_eq, beq_eq_false_iff_ne, bne_iff_ne, ne_eq] <;> first | omega | (and_intros <;> first | omega | exact h.1 | exact h.2 | exact h.2.1 | exact h.2.2 | exact h.2.2.1 | exact h.2.2.2 | exact h.2.2.2.1 | exact h.2.2.2.2 | exact h.2.2.2.2.1 | exact h.2.2.2.2.2 | exact h.2.2.2.2.2.1 | exact h.2.2.2.2.2.2)))
theorem lo5_5 : LoopOk Tryd.prog gdS (RetAt Tryd.prog Tryd.f5 (Rsh.one (none)) none ty4) (bodyAt (bodyOf Tryd.f5) [0]) LS5_5 :=
  loop_run (ctxOkF gokGmN5 []) (L := lookL [(9, LS5_9)]) (loops_of (l := [bodyAt (bodyOf Tryd.f5) [0, 0]]) (by kernel_rfl) (loops_cons (s0 := LS5_9) (by kernel_rfl) lo5_9 (loops_nil))) sa5_5 va5_5 so5_5
end Go.Proofs.YtpbljgpdhllklaaDoor.Sy
namespace Go.Proofs.YtpbljgpdhllklaaDoor.Sp
open Go Go.RowKit Sy
def F5 (x : (Int × Int × Int) × (List Int) × List Int) : Bool :=
  Sp.optR (Sp.R5_5 (x.2.2, (Int.tmod (IntKind.i64.wrap x.1.2.2) ((Sp.F11 (x.1.1, x.1.2.1)).1)), (Sp.F11 (x.1.1, x.1.2.1))) ((0 : Int), (Sp.F12 ((Sp.F11 (x.1.1, x.1.2.1)), (0 : Int), x.2.1)))) (fun y => y)
  (false)
def pre5 (x : (Int × Int × Int) × (List Int) × List Int) : Prop := (0 ≤ x.1.1 ∧ x.1.1 ≤ 255) ∧ (0 ≤ x.1.2.1 ∧ x.1.2.1 ≤ 255) ∧ 0 ≤ x.1.2.2 ∧ x.1.2.2 ≤ 255
end Go.Proofs.YtpbljgpdhllklaaDoor.Sp
namespace Go.Proofs.YtpbljgpdhllklaaDoor.Sy
def ct5 : Ct := { p := (Ty.pair ty45 (Ty.pair ty23 ty23)), psh := [some 3, none, none], r := ty4, rsh := (Rsh.one (none)), pre := some Sp.pre5, fresh := none, F := Sp.F5 }
theorem va5 (x : (Ty.pair ty45 (Ty.pair ty23 ty23)).den) : ((evFn (ctxG GmN5) Tryd.f5 (Ty.pair ty45 (Ty.pair ty23 ty23)) [some 3, none, none] (Rsh.one (none)) none ty4 (lookL [(9, LS5_9), (5, LS5_5)]) x)).val (fun y => y) (Ty.dflt ty4) = Sp.F5 x := by kernel_rfl
theorem se5 (x : (Ty.pair ty45 (Ty.pair ty23 ty23)).den) : ((evFn (ctxG GmN5) Tryd.f5 (Ty.pair ty45 (Ty.pair ty23 ty23)) [some 3, none, none] (Rsh.one (none)) none ty4 (lookL [(9, LS5_9), (5, LS5_5)]) x)).safe = (((Sp.pre11 (x.1.1, x.1.2.1)) ∧ (((Sp.F11 (x.1.1, x.1.2.1)).1 ≠ 0) ∧ ((Sp.in5_5 (x.2.2, (Int.tmod (IntKind.i64.wrap x.1.2.2) ((Sp.F11 (x.1.1, x.1.2.1)).1)), (Sp.F11 (x.1.1, x.1.2.1))) ((0 : Int), (Sp.F12 ((Sp.F11 (x.1.1, x.1.2.1)), (0 : Int), x.2.1)))) ∧ ((Sp.R5_5 (x.2.2, (Int.tmod (IntKind.i64.wrap x.1.2.2) ((Sp.F11 (x.1.1, x.1.2.1)).1)), (Sp.F11 (x.1.1, x.1.2.1))) ((0 : Int), (Sp.F12 ((Sp.F11 (x.1.1, x.1.2.1)), (0 : Int), x.2.1)))) = none → True))))) := by kernel_rfl
theorem sa5 (x : (Ty.pair ty45 (Ty.pair ty23 ty23)).den) (fx : Fit (Ty.pair ty45 (Ty.pair ty23 ty23)) x) (h : Sp.pre5 x) : SafeW ((evFn (ctxG GmN5) Tryd.f5 (Ty.pair ty45 (Ty.pair ty23 ty23)) [some 3, none, none] (Rsh.one (none)) none ty4 (lookL [(9, LS5_9), (5, LS5_5)]) x)) := by
  refine ⟨?_⟩
  rw [se5]
  try dsimp only [Ty.den] at *
  unfold Sp.pre5 at h
  have hpre := (⟨h.1, h.2.1⟩ : (0 ≤ x.1.1 ∧ x.1.1 ≤ 255) ∧ 0 ≤ x.1.2.1 ∧ x.1.2.1 ≤ 255)
  have hB := Sp.b15 (x := (x.1.1, x.1.2.1)) hpre
  have hf := hB.1.fl
  have hl := Sp.b15_len (x := (x.1.1, x.1.2.1)) hpre
  have hp := Sp.promise_le (Sp.F11 (x.1.1, x.1.2.1), (0 : Int)) (Nat.le_trans hl (by decide))
  have ht : 0 ≤ Int.tmod (IntKind.i64.wrap x.1.2.2) ((Sp.F11 (x.1.1, x.1.2.1)).1) := Int.tmod_nonneg _ (by rw [IntKind.wrap_i64]; omega)
  refine ⟨hpre, by omega, ⟨by show (0 : Int) ≤ 0; omega, hp, ht⟩, ?_⟩
  all_goals (repeat' (first | exact trivial | exact h | exact h.1 | exact hpre | exact hl | exact hp | apply And.intro | intro _))
  all_goals first | exact trivial | (show (0 : Int) ≤ (0 : Int); decide) | omega | rfl | exact Sp.u64_nn _ | exact hl | exact hp
theorem ok5 : CtOk Tryd.prog gdS 5 ct5 :=
  fn_okU (ctxOkF gokGmN5 []) rfl Tryd.func5 (p := (Ty.pair ty45 (Ty.pair ty23 ty23))) (psh := [some 3, none, none]) (r := ty4) (rsh := (Rsh.one (none))) (pre := some Sp.pre5) (fresh := none) (F := Sp.F5) (L := (lookL [(9, LS5_9), (5, LS5_5)])) (c := bodyOf Tryd.f5) (dflt := Ty.dflt ty4) rfl (loops_of (l := [bodyAt (bodyOf Tryd.f5) [0]]) (by kernel_rfl) (loops_cons (s0 := LS5_5) (by kernel_rfl) lo5_5 (loops_nil)))
    (safe_pre @sa5) va5
/-! overlaylaw17.RelayContacts -/
end Go.Proofs.YtpbljgpdhllklaaDoor.Sy
namespace Go.Proofs.YtpbljgpdhllklaaDoor.Sp
open Go Go.RowKit Sy
def F6 (x : (Int × Int) × List Int) : Bool :=
  bif ((Sp.F12 ((Sp.F11 x.1), (0 : Int), x.2)).1 == (1 : Int)) then
    ((((Sp.F21 ((Sp.F11 x.1).1, (Sp.F22 (Sp.F12 ((Sp.F11 x.1), (0 : Int), x.2))))).1 == (-1 : Int)) && (((Sp.F21 ((Sp.F11 x.1).1, (Sp.F22 (Sp.F12 ((Sp.F11 x.1), (0 : Int), x.2))))).2.1 == (Sp.F12 ((Sp.F11 x.1), (0 : Int), x.2)).2.2.1) && ((Sp.F21 ((Sp.F11 x.1).1, (Sp.F22 (Sp.F12 ((Sp.F11 x.1), (0 : Int), x.2))))).2.2 == (Sp.F12 ((Sp.F11 x.1), (0 : Int), x.2)).2.2.2.2.1))) && (Sp.F16 ()))
  else
    ((((Sp.F21 ((Sp.F11 x.1).1, (Sp.F22 (Sp.F12 ((Sp.F11 x.1), (0 : Int), x.2))))).1 == (Sp.F12 ((Sp.F11 x.1), (0 : Int), x.2)).2.1) && (((Sp.F21 ((Sp.F11 x.1).1, (Sp.F22 (Sp.F12 ((Sp.F11 x.1), (0 : Int), x.2))))).2.1 == (Sp.F12 ((Sp.F11 x.1), (0 : Int), x.2)).2.2.1) && ((Sp.F21 ((Sp.F11 x.1).1, (Sp.F22 (Sp.F12 ((Sp.F11 x.1), (0 : Int), x.2))))).2.2 == (Sp.F12 ((Sp.F11 x.1), (0 : Int), x.2)).2.2.2.2.1))) && (Sp.F16 ()))
def pre6 (x : (Int × Int) × List Int) : Prop := (0 ≤ x.1.1 ∧ x.1.1 ≤ 255) ∧ 0 ≤ x.1.2 ∧ x.1.2 ≤ 255
end Go.Proofs.YtpbljgpdhllklaaDoor.Sp
namespace Go.Proofs.YtpbljgpdhllklaaDoor.Sy
def ct6 : Ct := { p := (Ty.pair ty22 ty23), psh := [some 2, none], r := ty4, rsh := (Rsh.one (none)), pre := some Sp.pre6, fresh := none, F := Sp.F6 }
theorem va6 (x : (Ty.pair ty22 ty23).den) : ((evFn (ctxG GmN5) Tryd.f6 (Ty.pair ty22 ty23) [some 2, none] (Rsh.one (none)) none ty4 noL x)).val (fun y => y) (Ty.dflt ty4) = Sp.F6 x := by kernel_rfl
theorem se6 (x : (Ty.pair ty22 ty23).den) : ((evFn (ctxG GmN5) Tryd.f6 (Ty.pair ty22 ty23) [some 2, none] (Rsh.one (none)) none ty4 noL x)).safe = (((Sp.pre11 x.1) ∧ ((Sp.pre21 ((Sp.F11 x.1).1, (Sp.F22 (Sp.F12 ((Sp.F11 x.1), (0 : Int), x.2))))) ∧ ((((Sp.F12 ((Sp.F11 x.1), (0 : Int), x.2)).1 == (1 : Int)) = true → True) ∧ (((Sp.F12 ((Sp.F11 x.1), (0 : Int), x.2)).1 == (1 : Int)) = false → True))))) := by kernel_rfl
theorem sa6 (x : (Ty.pair ty22 ty23).den) (fx : Fit (Ty.pair ty22 ty23) x) (h : Sp.pre6 x) : SafeW ((evFn (ctxG GmN5) Tryd.f6 (Ty.pair ty22 ty23) [some 2, none] (Rsh.one (none)) none ty4 noL x)) := by
  refine ⟨?_⟩
  rw [se6]
  try dsimp only [Ty.den] at *
  unfold Sp.pre6 at h
  have hpre := h
  have hB := Sp.b15 (x := x.1) hpre
  have hf := hB.1.fl
  have hl := Sp.b15_len (x := x.1) hpre
  have hp := Sp.promise_le (Sp.F11 x.1, (0 : Int)) (Nat.le_trans hl (by decide))
  refine ⟨hpre, Sp.contacts_u _, ?_⟩
  all_goals (repeat' (first | exact trivial | exact h | exact h.1 | exact hpre | exact hl | exact hp | apply And.intro | intro _))
  all_goals first | exact trivial | (show (0 : Int) ≤ (0 : Int); decide) | omega | rfl | exact Sp.u64_nn _ | exact hl | exact hp
theorem ok6 : CtOk Tryd.prog gdS 6 ct6 :=
  fn_okU (ctxOkF gokGmN5 []) rfl Tryd.func6 (p := (Ty.pair ty22 ty23)) (psh := [some 2, none]) (r := ty4) (rsh := (Rsh.one (none))) (pre := some Sp.pre6) (fresh := none) (F := Sp.F6) (L := noL) (c := bodyOf Tryd.f6) (dflt := Ty.dflt ty4) rfl (no_loops)
    (safe_pre @sa6) va6
/-! overlaylaw17.RelayHolds -/
end Go.Proofs.YtpbljgpdhllklaaDoor.Sy
namespace Go.Proofs.YtpbljgpdhllklaaDoor.Sp
open Go Go.RowKit Sy
def in7_6 (k : ((Int × Int × Int × Int × Nat × Nat × Nat × List (Int × Int × Int × Int × Int × Int × Int × Int × Int)) × Int × Int)) (x : (Int × Int × Int × Int × Int × Int × Int × (Int × Int) × Int)) : Prop := (0 : Int) ≤ x.1
def mu7_6 (k : ((Int × Int × Int × Int × Nat × Nat × Nat × List (Int × Int × Int × Int × Int × Int × Int × Int × Int)) × Int × Int)) (x : (Int × Int × Int × Int × Int × Int × Int × (Int × Int) × Int)) : Nat := ((3000 : Int) - x.1).toNat
def st7_6 (k : ((Int × Int × Int × Int × Nat × Nat × Nat × List (Int × Int × Int × Int × Int × Int × Int × Int × Int)) × Int × Int)) (x : (Int × Int × Int × Int × Int × Int × Int × (Int × Int) × Int)) : BOut ((Int × Int × Int × Int × Nat × Nat × Nat × List (Int × Int × Int × Int × Int × Int × Int × Int × Int)) × Int × Int) (Int × Int × Int × Int × Int × Int × Int × (Int × Int) × Int) (Bool) :=
  bif (decide (x.1 < (3000 : Int))) then
    (bif ((!(((Sp.F24 (k.1.1, (Sp.F21 (k.1.1, (Sp.F22 x.2))))).1 == k.2.1) && ((Sp.F24 (k.1.1, (Sp.F21 (k.1.1, (Sp.F22 x.2))))).2 == k.2.2))) && (!(((Sp.F25 (x.2.2.2.2.2.2.2.1, k.2)).1 == k.2.1) && ((Sp.F25 (x.2.2.2.2.2.2.2.1, k.2)).2 == k.2.2)))) then
      BOut.ret false
    else
      bif (((Sp.F24 (k.1.1, (Sp.F21 (k.1.1, (Sp.F22 x.2))))).1 == k.2.1) && ((Sp.F24 (k.1.1, (Sp.F21 (k.1.1, (Sp.F22 x.2))))).2 == k.2.2)) then
        BOut.brk k x
      else
        BOut.next k ((IntKind.i64.wrap (x.1 + (1 : Int))), (Sp.F17 (k.1, (0 : Int), x.2, ((0 : Int), (0 : Int)), (0 : Int)))))
  else
    BOut.brk k x
def G7_6 (k : ((Int × Int × Int × Int × Nat × Nat × Nat × List (Int × Int × Int × Int × Int × Int × Int × Int × Int)) × Int × Int)) (x : (Int × Int × Int × Int × Int × Int × Int × (Int × Int) × Int)) : (Int × Int × Int × Int × Int × Int × Int × (Int × Int) × Int) := endOf st7_6 k (Nat.succ (mu7_6 k x)) x
def R7_6 (k : ((Int × Int × Int × Int × Nat × Nat × Nat × List (Int × Int × Int × Int × Int × Int × Int × Int × Int)) × Int × Int)) (x : (Int × Int × Int × Int × Int × Int × Int × (Int × Int) × Int)) : Option (Bool) := retOf st7_6 k (Nat.succ (mu7_6 k x)) x
end Go.Proofs.YtpbljgpdhllklaaDoor.Sp
namespace Go.Proofs.YtpbljgpdhllklaaDoor.Sy
def LS7_6 : LS ty4.den := mkLS (Ty.pair ty32 ty26) (Ty.pair ty3 ty28)  [] [(5, 8), (7, 2)] [(8, none)] [(6, 9)] [] [15] [(5, 5), (6, 6), (7, 7)] 0 true Sp.in7_6 Sp.st7_6 Sp.mu7_6
end Go.Proofs.YtpbljgpdhllklaaDoor.Sy
namespace Go.Proofs.YtpbljgpdhllklaaDoor.Sp
open Go Go.RowKit Sy
def in7_14 (k : (Int × Int × Int × Int × Nat × Nat × Nat × List (Int × Int × Int × Int × Int × Int × Int × Int × Int))) (x : (Int × Int × Int × Int × Int × Int × Int × (Int × Int) × Int)) : Prop := (0 : Int) ≤ x.1
def mu7_14 (k : (Int × Int × Int × Int × Nat × Nat × Nat × List (Int × Int × Int × Int × Int × Int × Int × Int × Int))) (x : (Int × Int × Int × Int × Int × Int × Int × (Int × Int) × Int)) : Nat := ((3000 : Int) - x.1).toNat
def st7_14 (k : (Int × Int × Int × Int × Nat × Nat × Nat × List (Int × Int × Int × Int × Int × Int × Int × Int × Int))) (x : (Int × Int × Int × Int × Int × Int × Int × (Int × Int) × Int)) : BOut (Int × Int × Int × Int × Nat × Nat × Nat × List (Int × Int × Int × Int × Int × Int × Int × Int × Int)) (Int × Int × Int × Int × Int × Int × Int × (Int × Int) × Int) (Bool) :=
  bif (decide (x.1 < (3000 : Int))) then
    BOut.next k ((IntKind.i64.wrap (x.1 + (1 : Int))), (Sp.F17 (k, (0 : Int), x.2, ((0 : Int), (0 : Int)), (0 : Int))))
  else
    BOut.brk k x
def G7_14 (k : (Int × Int × Int × Int × Nat × Nat × Nat × List (Int × Int × Int × Int × Int × Int × Int × Int × Int))) (x : (Int × Int × Int × Int × Int × Int × Int × (Int × Int) × Int)) : (Int × Int × Int × Int × Int × Int × Int × (Int × Int) × Int) := endOf st7_14 k (Nat.succ (mu7_14 k x)) x
end Go.Proofs.YtpbljgpdhllklaaDoor.Sp
namespace Go.Proofs.YtpbljgpdhllklaaDoor.Sy
def LS7_14 : LS ty4.den := mkLS ty32 (Ty.pair ty3 ty28)  [] [(5, 8)] [(10, none)] [(6, 9)] [] [] [(5, 5), (6, 6)] 2 false Sp.in7_14 Sp.st7_14 Sp.mu7_14
theorem va7_6 (k : (Ty.pair ty32 ty26).den) (x : (Ty.pair ty3 ty28).den) : ((evCode (ctxG GmN5) (lookL []) (bodyAt (bodyOf Tryd.f7) [0]) (tmpl LS7_6 (enc (Ty.pair ty32 ty26) k) (enc (Ty.pair ty3 ty28) x)) (evRound LS7_6 (evRet (ctxG GmN5) Tryd.f7 (Rsh.one (none)) none ty4 .ret)))).val BOut.ret (BOut.brk (Ty.dflt (Ty.pair ty32 ty26)) (Ty.dflt (Ty.pair ty3 ty28))) = Sp.st7_6 k x := by kernel_rfl
theorem se7_6 (k : (Ty.pair ty32 ty26).den) (x : (Ty.pair ty3 ty28).den) : ((evCode (ctxG GmN5) (lookL []) (bodyAt (bodyOf Tryd.f7) [0]) (tmpl LS7_6 (enc (Ty.pair ty32 ty26) k) (enc (Ty.pair ty3 ty28) x)) (evRound LS7_6 (evRet (ctxG GmN5) Tryd.f7 (Rsh.one (none)) none ty4 .ret)))).safe = ((((decide (x.1 < (3000 : Int))) = true → ((Sp.pre21 (k.1.1, (Sp.F22 x.2))) ∧ ((((!(((Sp.F24 (k.1.1, (Sp.F21 (k.1.1, (Sp.F22 x.2))))).1 == k.2.1) && ((Sp.F24 (k.1.1, (Sp.F21 (k.1.1, (Sp.F22 x.2))))).2 == k.2.2))) && (!(((Sp.F25 (x.2.2.2.2.2.2.2.1, k.2)).1 == k.2.1) && ((Sp.F25 (x.2.2.2.2.2.2.2.1, k.2)).2 == k.2.2)))) = true → True) ∧ (((!(((Sp.F24 (k.1.1, (Sp.F21 (k.1.1, (Sp.F22 x.2))))).1 == k.2.1) && ((Sp.F24 (k.1.1, (Sp.F21 (k.1.1, (Sp.F22 x.2))))).2 == k.2.2))) && (!(((Sp.F25 (x.2.2.2.2.2.2.2.1, k.2)).1 == k.2.1) && ((Sp.F25 (x.2.2.2.2.2.2.2.1, k.2)).2 == k.2.2)))) = false → (((((Sp.F24 (k.1.1, (Sp.F21 (k.1.1, (Sp.F22 x.2))))).1 == k.2.1) && ((Sp.F24 (k.1.1, (Sp.F21 (k.1.1, (Sp.F22 x.2))))).2 == k.2.2)) = true → True) ∧ ((((Sp.F24 (k.1.1, (Sp.F21 (k.1.1, (Sp.F22 x.2))))).1 == k.2.1) && ((Sp.F24 (k.1.1, (Sp.F21 (k.1.1, (Sp.F22 x.2))))).2 == k.2.2)) = false → True)))))) ∧ ((decide (x.1 < (3000 : Int))) = false → True))) := by kernel_rfl
set_option maxHeartbeats 4000000 in
theorem sa7_6 (k : (Ty.pair ty32 ty26).den) (x : (Ty.pair ty3 ty28).den) (fk : Fit (Ty.pair ty32 ty26) k) (fx : Fit (Ty.pair ty3 ty28) x) (h : Sp.in7_6 k x) : SafeW ((evCode (ctxG GmN5) (lookL []) (bodyAt (bodyOf Tryd.f7) [0]) (tmpl LS7_6 (enc (Ty.pair ty32 ty26) k) (enc (Ty.pair ty3 ty28) x)) (evRound LS7_6 (evRet (ctxG GmN5) Tryd.f7 (Rsh.one (none)) none ty4 .ret)))) := by
  refine ⟨?_⟩
  rw [se7_6]
  try dsimp only [Ty.den] at *
  repeat' (first | exact trivial | exact Sp.contacts_u _ | apply And.intro | intro _)
set_option maxHeartbeats 4000000 in
theorem so7_6 (k : (Ty.pair ty32 ty26).den) (x : (Ty.pair ty3 ty28).den) (fk : Fit (Ty.pair ty32 ty26) k) (h : Sp.in7_6 k x) : StepOk true Sp.in7_6 Sp.mu7_6 k x (Sp.st7_6 k x) := by
  try dsimp only [Ty.den] at *
  simp only [Sp.in7_6, Fit, maxLen] at h fk
  unfold Sp.st7_6
  (repeat' (first | exact rfl | (refine StepOk.cnd (fun hc => ?_) (fun hc => ?_) <;> (try simp only [IntKind.wrap_i64, IntKind.wrap_u8, IntKind.wrap_u32, IntKind.wrap_u64, bne_eq_false_iff_eq, Int.natCast_inj, setE, copyL, sliceL, zrow, List.length_append, List.length_cons, List.length_nil, List.length_set, List.length_replicate, List.length_take, List.length_drop, decide_eq_true_eq, decide_eq_false_iff_not, Bool.or_eq_true, Bool.and_eq_true, Bool.or_eq_false_iff, Bool.and_eq_false_iff, Bool.not_eq_true', Bool.not_eq_false', Bool.not_eq_true, Bool.not_eq_false, beq_iff_eq, beq_eq_false_iff_ne, bne_iff_ne, ne_eq] at hc)) | refine StepOk.opt (fun _ => ?_))) <;> (first | exact rfl | (refine ⟨rfl, ?_, ?_⟩ <;> simp only [Sp.in7_6, Sp.mu7_6, IntKind.wrap_i64, IntKind.wrap_u8, IntKind.wrap_u32, IntKind.wrap_u64, Sp.tmod_lit, Sp.tdiv_lit, bne_eq_false_iff_eq, Int.natCast_inj, setE, copyL, sliceL, zrow, List.length_append, List.length_cons, List.length_nil, List.length_set, List.length_replicate, List.length_take, List.length_drop, decide_eq_true_eq, decide_eq_false_iff_not, Bool.or_eq_true, Bool.and_eq_true, Bool.or_eq_false_iff, Bool.and_eq_false_iff, Bool.not_eq_true', Bool.not_eq_false', Bool.not_eq_true, Bool.not_eq_false, beq_iff_eq, beq_eq_false_iff_ne, bne_iff_ne, ne_eq] <;> first | omega | (and_intros <;> first | omega | exact h.1 | exact h.2 | exact h.2.1 | exact h.2.2 | exact h.2.2.1 | exact h.2.2.2 | exact h.2.2.2.1 | exact h.2.2.2.2 | exact h.2.2.2.2.1 | exact h.2.2.2.2.2 | exact h.2.2.2.2.2.1 | exact h.2.2.2.2.2.2)))
theorem lo7_6 : LoopOk Tryd.prog gdS (RetAt Tryd.prog Tryd.f7 (Rsh.one (none)) none ty4) (bodyAt (bodyOf Tryd.f7) [0]) LS7_6 :=
  loop_run (ctxOkF gokGmN5 []) (L := lookL []) (loops_of (l := []) (by kernel_rfl) (loops_nil)) sa7_6 va7_6 so7_6
theorem va7_14 (k : ty32.den) (x : (Ty.pair ty3 ty28).den) : ((evCode (ctxG GmN5) (lookL [(6, LS7_6)]) (bodyAt (bodyOf Tryd.f7) [1]) (tmpl LS7_14 (enc ty32 k) (enc (Ty.pair ty3 ty28) x)) (evRound LS7_14 (evRet (ctxG GmN5) Tryd.f7 (Rsh.one (none)) none ty4 .ret)))).val BOut.ret (BOut.brk (Ty.dflt ty32) (Ty.dflt (Ty.pair ty3 ty28))) = Sp.st7_14 k x := by kernel_rfl
theorem se7_14 (k : ty32.den) (x : (Ty.pair ty3 ty28).den) : ((evCode (ctxG GmN5) (lookL [(6, LS7_6)]) (bodyAt (bodyOf Tryd.f7) [1]) (tmpl LS7_14 (enc ty32 k) (enc (Ty.pair ty3 ty28) x)) (evRound LS7_14 (evRet (ctxG GmN5) Tryd.f7 (Rsh.one (none)) none ty4 .ret)))).safe = ((((decide (x.1 < (3000 : Int))) = true → True) ∧ ((decide (x.1 < (3000 : Int))) = false → True))) := by kernel_rfl
set_option maxHeartbeats 4000000 in
theorem sa7_14 (k : ty32.den) (x : (Ty.pair ty3 ty28).den) (fk : Fit ty32 k) (fx : Fit (Ty.pair ty3 ty28) x) (h : Sp.in7_14 k x) : SafeW ((evCode (ctxG GmN5) (lookL [(6, LS7_6)]) (bodyAt (bodyOf Tryd.f7) [1]) (tmpl LS7_14 (enc ty32 k) (enc (Ty.pair ty3 ty28) x)) (evRound LS7_14 (evRet (ctxG GmN5) Tryd.f7 (Rsh.one (none)) none ty4 .ret)))) := by
  refine ⟨?_⟩
  rw [se7_14]
  try dsimp only [Ty.den] at *
  simp only [Sp.in7_14, Fit, maxLen] at h fk fx
  simp only [IntKind.wrap_i64, IntKind.wrap_u8, IntKind.wrap_u32, IntKind.wrap_u64, Sp.tmod_lit, Sp.tdiv_lit, bne_eq_false_iff_eq, Int.natCast_inj, setE, copyL, sliceL, zrow, List.length_append, List.length_cons, List.length_nil, List.length_set, List.length_replicate, List.length_take, List.length_drop, decide_eq_true_eq, decide_eq_false_iff_not, Bool.or_eq_true, Bool.and_eq_true, Bool.or_eq_false_iff, Bool.and_eq_false_iff, Bool.not_eq_true', Bool.not_eq_false', Bool.not_eq_true, Bool.not_eq_false, beq_iff_eq, beq_eq_false_iff_ne, bne_iff_ne, ne_eq, implies_true, and_true, true_and] at *
  all_goals ((repeat' (first | exact trivial | apply And.intro | intro _)) <;> first | trivial | omega | exact Sp.tmod_nn (by omega) | exact Sp.tmod_lt (by omega) (by omega))
set_option maxHeartbeats 4000000 in
theorem so7_14 (k : ty32.den) (x : (Ty.pair ty3 ty28).den) (fk : Fit ty32 k) (h : Sp.in7_14 k x) : StepOk false Sp.in7_14 Sp.mu7_14 k x (Sp.st7_14 k x) := by
  try dsimp only [Ty.den] at *
  simp only [Sp.in7_14, Fit, maxLen] at h fk
  unfold Sp.st7_14
  (repeat' (first | exact rfl | (refine StepOk.cnd (fun hc => ?_) (fun hc => ?_) <;> (try simp only [IntKind.wrap_i64, IntKind.wrap_u8, IntKind.wrap_u32, IntKind.wrap_u64, bne_eq_false_iff_eq, Int.natCast_inj, setE, copyL, sliceL, zrow, List.length_append, List.length_cons, List.length_nil, List.length_set, List.length_replicate, List.length_take, List.length_drop, decide_eq_true_eq, decide_eq_false_iff_not, Bool.or_eq_true, Bool.and_eq_true, Bool.or_eq_false_iff, Bool.and_eq_false_iff, Bool.not_eq_true', Bool.not_eq_false', Bool.not_eq_true, Bool.not_eq_false, beq_iff_eq, beq_eq_false_iff_ne, bne_iff_ne, ne_eq] at hc)) | refine StepOk.opt (fun _ => ?_))) <;> (first | exact rfl | (refine ⟨rfl, ?_, ?_⟩ <;> simp only [Sp.in7_14, Sp.mu7_14, IntKind.wrap_i64, IntKind.wrap_u8, IntKind.wrap_u32, IntKind.wrap_u64, Sp.tmod_lit, Sp.tdiv_lit, bne_eq_false_iff_eq, Int.natCast_inj, setE, copyL, sliceL, zrow, List.length_append, List.length_cons, List.length_nil, List.length_set, List.length_replicate, List.length_take, List.length_drop, decide_eq_true_eq, decide_eq_false_iff_not, Bool.or_eq_true, Bool.and_eq_true, Bool.or_eq_false_iff, Bool.and_eq_false_iff, Bool.not_eq_true', Bool.not_eq_false', Bool.not_eq_true, Bool.not_eq_false, beq_iff_eq, beq_eq_false_iff_ne, bne_iff_ne, ne_eq] <;> first | omega | (and_intros <;> first | omega | exact h.1 | exact h.2 | exact h.2.1 | exact h.2.2 | exact h.2.2.1 | exact h.2.2.2 | exact h.2.2.2.1 | exact h.2.2.2.2 | exact h.2.2.2.2.1 | exact h.2.2.2.2.2 | exact h.2.2.2.2.2.1 | exact h.2.2.2.2.2.2)))
theorem lo7_14 : LoopOk Tryd.prog gdS (RetAt Tryd.prog Tryd.f7 (Rsh.one (none)) none ty4) (bodyAt (bodyOf Tryd.f7) [1]) LS7_14 :=
  loop_run (ctxOkF gokGmN5 []) (L := lookL [(6, LS7_6)]) (loops_of (l := []) (by kernel_rfl) (loops_nil)) sa7_14 va7_14 so7_14
end Go.Proofs.YtpbljgpdhllklaaDoor.Sy
namespace Go.Proofs.YtpbljgpdhllklaaDoor.Sp
open Go Go.RowKit Sy
def K7_1 (x : (Int × Int × Int) × List Int) :=
  (Sp.G7_6 ((Sp.F11 (x.1.1, x.1.2.1)), (Sp.F23 ((Int.tmod (IntKind.i64.wrap x.1.2.2) (IntKind.i64.wrap ((Sp.F11 (x.1.1, x.1.2.1)).1 - (1 : Int)))), (1 : Int)))) ((0 : Int), (Sp.F17 ((Sp.F11 (x.1.1, x.1.2.1)), (0 : Int), (Sp.F12 ((Sp.F11 (x.1.1, x.1.2.1)), (0 : Int), x.2)), (Sp.F23 ((Int.tmod (IntKind.i64.wrap x.1.2.2) (IntKind.i64.wrap ((Sp.F11 (x.1.1, x.1.2.1)).1 - (1 : Int)))), (1 : Int))), (0 : Int)))))
def F7 (x : (Int × Int × Int) × List Int) : Bool :=
  Sp.optR (Sp.R7_6 ((Sp.F11 (x.1.1, x.1.2.1)), (Sp.F23 ((Int.tmod (IntKind.i64.wrap x.1.2.2) (IntKind.i64.wrap ((Sp.F11 (x.1.1, x.1.2.1)).1 - (1 : Int)))), (1 : Int)))) ((0 : Int), (Sp.F17 ((Sp.F11 (x.1.1, x.1.2.1)), (0 : Int), (Sp.F12 ((Sp.F11 (x.1.1, x.1.2.1)), (0 : Int), x.2)), (Sp.F23 ((Int.tmod (IntKind.i64.wrap x.1.2.2) (IntKind.i64.wrap ((Sp.F11 (x.1.1, x.1.2.1)).1 - (1 : Int)))), (1 : Int))), (0 : Int))))) (fun y => y)
  (((((Sp.G7_14 (Sp.F11 (x.1.1, x.1.2.1)) ((0 : Int), (Sp.K7_1 x).2)).2.1 == (0 : Int)) && (((Sp.G7_14 (Sp.F11 (x.1.1, x.1.2.1)) ((0 : Int), (Sp.K7_1 x).2)).2.2.1 == (Sp.G7_14 (Sp.F11 (x.1.1, x.1.2.1)) ((0 : Int), (Sp.K7_1 x).2)).2.2.1) && (((Sp.G7_14 (Sp.F11 (x.1.1, x.1.2.1)) ((0 : Int), (Sp.K7_1 x).2)).2.2.2.1 == (0 : Int)) && (((Sp.G7_14 (Sp.F11 (x.1.1, x.1.2.1)) ((0 : Int), (Sp.K7_1 x).2)).2.2.2.2.1 == (Sp.G7_14 (Sp.F11 (x.1.1, x.1.2.1)) ((0 : Int), (Sp.K7_1 x).2)).2.2.2.2.1) && (((Sp.G7_14 (Sp.F11 (x.1.1, x.1.2.1)) ((0 : Int), (Sp.K7_1 x).2)).2.2.2.2.2.1 == (2 : Int)) && (((Sp.G7_14 (Sp.F11 (x.1.1, x.1.2.1)) ((0 : Int), (Sp.K7_1 x).2)).2.2.2.2.2.2.1 == (0 : Int)) && ((((Sp.G7_14 (Sp.F11 (x.1.1, x.1.2.1)) ((0 : Int), (Sp.K7_1 x).2)).2.2.2.2.2.2.2.1.1 == (0 : Int)) && ((Sp.G7_14 (Sp.F11 (x.1.1, x.1.2.1)) ((0 : Int), (Sp.K7_1 x).2)).2.2.2.2.2.2.2.1.2 == (0 : Int))) && ((Sp.G7_14 (Sp.F11 (x.1.1, x.1.2.1)) ((0 : Int), (Sp.K7_1 x).2)).2.2.2.2.2.2.2.2 == (0 : Int))))))))) && (Sp.F16 ())))
def pre7 (x : (Int × Int × Int) × List Int) : Prop := (0 ≤ x.1.1 ∧ x.1.1 ≤ 255) ∧ (0 ≤ x.1.2.1 ∧ x.1.2.1 ≤ 255) ∧ 0 ≤ x.1.2.2 ∧ x.1.2.2 ≤ 255
end Go.Proofs.YtpbljgpdhllklaaDoor.Sp
namespace Go.Proofs.YtpbljgpdhllklaaDoor.Sy
def ct7 : Ct := { p := (Ty.pair ty45 ty23), psh := [some 3, none], r := ty4, rsh := (Rsh.one (none)), pre := some Sp.pre7, fresh := none, F := Sp.F7 }
theorem va7 (x : (Ty.pair ty45 ty23).den) : ((evFn (ctxG GmN5) Tryd.f7 (Ty.pair ty45 ty23) [some 3, none] (Rsh.one (none)) none ty4 (lookL [(6, LS7_6), (14, LS7_14)]) x)).val (fun y => y) (Ty.dflt ty4) = Sp.F7 x := by kernel_rfl
theorem se7 (x : (Ty.pair ty45 ty23).den) : ((evFn (ctxG GmN5) Tryd.f7 (Ty.pair ty45 ty23) [some 3, none] (Rsh.one (none)) none ty4 (lookL [(6, LS7_6), (14, LS7_14)]) x)).safe = (((Sp.pre11 (x.1.1, x.1.2.1)) ∧ (((IntKind.i64.wrap ((Sp.F11 (x.1.1, x.1.2.1)).1 - (1 : Int))) ≠ 0) ∧ ((Sp.in7_6 ((Sp.F11 (x.1.1, x.1.2.1)), (Sp.F23 ((Int.tmod (IntKind.i64.wrap x.1.2.2) (IntKind.i64.wrap ((Sp.F11 (x.1.1, x.1.2.1)).1 - (1 : Int)))), (1 : Int)))) ((0 : Int), (Sp.F17 ((Sp.F11 (x.1.1, x.1.2.1)), (0 : Int), (Sp.F12 ((Sp.F11 (x.1.1, x.1.2.1)), (0 : Int), x.2)), (Sp.F23 ((Int.tmod (IntKind.i64.wrap x.1.2.2) (IntKind.i64.wrap ((Sp.F11 (x.1.1, x.1.2.1)).1 - (1 : Int)))), (1 : Int))), (0 : Int))))) ∧ ((Sp.R7_6 ((Sp.F11 (x.1.1, x.1.2.1)), (Sp.F23 ((Int.tmod (IntKind.i64.wrap x.1.2.2) (IntKind.i64.wrap ((Sp.F11 (x.1.1, x.1.2.1)).1 - (1 : Int)))), (1 : Int)))) ((0 : Int), (Sp.F17 ((Sp.F11 (x.1.1, x.1.2.1)), (0 : Int), (Sp.F12 ((Sp.F11 (x.1.1, x.1.2.1)), (0 : Int), x.2)), (Sp.F23 ((Int.tmod (IntKind.i64.wrap x.1.2.2) (IntKind.i64.wrap ((Sp.F11 (x.1.1, x.1.2.1)).1 - (1 : Int)))), (1 : Int))), (0 : Int))))) = none → ((Sp.in7_14 (Sp.F11 (x.1.1, x.1.2.1)) ((0 : Int), (Sp.K7_1 x).2)) ∧ True)))))) := by kernel_rfl
theorem sa7 (x : (Ty.pair ty45 ty23).den) (fx : Fit (Ty.pair ty45 ty23) x) (h : Sp.pre7 x) : SafeW ((evFn (ctxG GmN5) Tryd.f7 (Ty.pair ty45 ty23) [some 3, none] (Rsh.one (none)) none ty4 (lookL [(6, LS7_6), (14, LS7_14)]) x)) := by
  refine ⟨?_⟩
  rw [se7]
  try dsimp only [Ty.den] at *
  unfold Sp.pre7 at h
  have hpre := (⟨h.1, h.2.1⟩ : (0 ≤ x.1.1 ∧ x.1.1 ≤ 255) ∧ 0 ≤ x.1.2.1 ∧ x.1.2.1 ≤ 255)
  have hB := Sp.b15 (x := (x.1.1, x.1.2.1)) hpre
  have hf := hB.1.fl
  have hl := Sp.b15_len (x := (x.1.1, x.1.2.1)) hpre
  have hp := Sp.promise_le (Sp.F11 (x.1.1, x.1.2.1), (0 : Int)) (Nat.le_trans hl (by decide))
  have hw : IntKind.i64.wrap ((Sp.F11 (x.1.1, x.1.2.1)).1 - (1 : Int)) = (Sp.F11 (x.1.1, x.1.2.1)).1 - 1 := Sp.wrap_i64_of (by omega) (by omega)
  refine ⟨hpre, by omega, by show (0 : Int) ≤ 0; omega, fun _ => ⟨by show (0 : Int) ≤ 0; omega, trivial⟩⟩
theorem ok7 : CtOk Tryd.prog gdS 7 ct7 :=
  fn_okU (ctxOkF gokGmN5 []) rfl Tryd.func7 (p := (Ty.pair ty45 ty23)) (psh := [some 3, none]) (r := ty4) (rsh := (Rsh.one (none))) (pre := some Sp.pre7) (fresh := none) (F := Sp.F7) (L := (lookL [(6, LS7_6), (14, LS7_14)])) (c := bodyOf Tryd.f7) (dflt := Ty.dflt ty4) rfl (loops_of (l := [bodyAt (bodyOf Tryd.f7) [0], bodyAt (bodyOf Tryd.f7) [1]]) (by kernel_rfl) (loops_cons (s0 := LS7_6) (by kernel_rfl) lo7_6 (loops_cons (s0 := LS7_14) (by kernel_rfl) lo7_14 (loops_nil))))
    (safe_pre @sa7) va7
/-! overlaylaw17.RelayPromises -/
end Go.Proofs.YtpbljgpdhllklaaDoor.Sy
namespace Go.Proofs.YtpbljgpdhllklaaDoor.Sp
open Go Go.RowKit Sy
def in8_15 (k : ((List Int) × Int)) (x : (Int × Int × Int × Int)) : Prop := (0 : Int) ≤ x.1 ∧ 0 ≤ k.2 ∧ k.2 ≤ 1000000000
def mu8_15 (k : ((List Int) × Int)) (x : (Int × Int × Int × Int)) : Nat := ((3 : Int) - x.1).toNat
def st8_15 (k : ((List Int) × Int)) (x : (Int × Int × Int × Int)) : BOut ((List Int) × Int) (Int × Int × Int × Int) (Bool) :=
  bif ((decide (x.1 < (3 : Int))) && (decide (((k.1).length : Int) > (0 : Int)))) then
    BOut.next k ((IntKind.i64.wrap (x.1 + (1 : Int))), (bif (x.1 == (0 : Int)) then (Sp.nthT k.1 (Int.tmod (IntKind.i64.wrap ((IntKind.i64.wrap ((3 : Int) * k.2)) + x.1)) ((k.1).length : Int))) else x.2.1), (bif (x.1 == (1 : Int)) then (Sp.nthT k.1 (Int.tmod (IntKind.i64.wrap ((IntKind.i64.wrap ((3 : Int) * k.2)) + x.1)) ((k.1).length : Int))) else x.2.2.1), (bif (x.1 == (2 : Int)) then (Sp.nthT k.1 (Int.tmod (IntKind.i64.wrap ((IntKind.i64.wrap ((3 : Int) * k.2)) + x.1)) ((k.1).length : Int))) else x.2.2.2))
  else
    BOut.brk k x
def G8_15 (k : ((List Int) × Int)) (x : (Int × Int × Int × Int)) : (Int × Int × Int × Int) := endOf st8_15 k (Nat.succ (mu8_15 k x)) x
end Go.Proofs.YtpbljgpdhllklaaDoor.Sp
namespace Go.Proofs.YtpbljgpdhllklaaDoor.Sy
def LS8_15 : LS ty4.den := mkLS (Ty.pair ty23 ty3) (Ty.pair ty3 ty45)  [(2, none), (13, none)] [] [(15, none)] [(14, 3)] [] [] [(14, 14)] 2 false Sp.in8_15 Sp.st8_15 Sp.mu8_15
end Go.Proofs.YtpbljgpdhllklaaDoor.Sy
namespace Go.Proofs.YtpbljgpdhllklaaDoor.Sp
open Go Go.RowKit Sy
def in8_11 (k : ((List Int) × Int × (Int × Int × Int × Int × Nat × Nat × Nat × List (Int × Int × Int × Int × Int × Int × Int × Int × Int)) × Int × Int)) (x : (Int × Int × Int × Int × Int × Int × Int × (Int × Int) × Int)) : Prop := (0 : Int) ≤ x.1 ∧ k.2.1 ≤ 1000000000
def mu8_11 (k : ((List Int) × Int × (Int × Int × Int × Int × Nat × Nat × Nat × List (Int × Int × Int × Int × Int × Int × Int × Int × Int)) × Int × Int)) (x : (Int × Int × Int × Int × Int × Int × Int × (Int × Int) × Int)) : Nat := (k.2.1 - x.1 + 1).toNat
def K8_11_1 (k : ((List Int) × Int × (Int × Int × Int × Int × Nat × Nat × Nat × List (Int × Int × Int × Int × Int × Int × Int × Int × Int)) × Int × Int)) (x : (Int × Int × Int × Int × Int × Int × Int × (Int × Int) × Int)) :=
  (Sp.F27 (((IntKind.u32.wrap (IntKind.u8.wrap ((BitVec.ofInt IntKind.u8.bits ((Sp.G8_15 (k.1, x.1) ((0 : Int), (0 : Int), (0 : Int), (0 : Int))).2.1) &&& BitVec.ofInt IntKind.u8.bits ((Sp.G8_15 (k.1, x.1) ((0 : Int), (0 : Int), (0 : Int), (0 : Int))).2.2.1)).toNat : Int))), (IntKind.u32.wrap (IntKind.u8.wrap ((BitVec.ofInt IntKind.u8.bits ((Sp.G8_15 (k.1, x.1) ((0 : Int), (0 : Int), (0 : Int), (0 : Int))).2.2.1) &&& BitVec.ofInt IntKind.u8.bits ((Sp.G8_15 (k.1, x.1) ((0 : Int), (0 : Int), (0 : Int), (0 : Int))).2.2.2)).toNat : Int)))), k.2.2.2))
def K8_11_2 (k : ((List Int) × Int × (Int × Int × Int × Int × Nat × Nat × Nat × List (Int × Int × Int × Int × Int × Int × Int × Int × Int)) × Int × Int)) (x : (Int × Int × Int × Int × Int × Int × Int × (Int × Int) × Int)) :=
  (Sp.F17 (k.2.2.1, (0 : Int), x.2, (Sp.K8_11_1 k x), (IntKind.u32.wrap (IntKind.u8.wrap ((BitVec.ofInt IntKind.u8.bits ((Sp.G8_15 (k.1, x.1) ((0 : Int), (0 : Int), (0 : Int), (0 : Int))).2.2.2) &&& BitVec.ofInt IntKind.u8.bits ((Sp.G8_15 (k.1, x.1) ((0 : Int), (0 : Int), (0 : Int), (0 : Int))).2.1)).toNat : Int)))))
def K8_11_3 (k : ((List Int) × Int × (Int × Int × Int × Int × Nat × Nat × Nat × List (Int × Int × Int × Int × Int × Int × Int × Int × Int)) × Int × Int)) (x : (Int × Int × Int × Int × Int × Int × Int × (Int × Int) × Int)) :=
  (Sp.F17 (k.2.2.1, (0 : Int), x.2, ((IntKind.u32.wrap (IntKind.u8.wrap ((BitVec.ofInt IntKind.u8.bits ((Sp.G8_15 (k.1, x.1) ((0 : Int), (0 : Int), (0 : Int), (0 : Int))).2.1) &&& BitVec.ofInt IntKind.u8.bits ((Sp.G8_15 (k.1, x.1) ((0 : Int), (0 : Int), (0 : Int), (0 : Int))).2.2.1)).toNat : Int))), (IntKind.u32.wrap (IntKind.u8.wrap ((BitVec.ofInt IntKind.u8.bits ((Sp.G8_15 (k.1, x.1) ((0 : Int), (0 : Int), (0 : Int), (0 : Int))).2.2.1) &&& BitVec.ofInt IntKind.u8.bits ((Sp.G8_15 (k.1, x.1) ((0 : Int), (0 : Int), (0 : Int), (0 : Int))).2.2.2)).toNat : Int)))), (IntKind.u32.wrap (IntKind.u8.wrap ((BitVec.ofInt IntKind.u8.bits ((Sp.G8_15 (k.1, x.1) ((0 : Int), (0 : Int), (0 : Int), (0 : Int))).2.2.2) &&& BitVec.ofInt IntKind.u8.bits ((Sp.G8_15 (k.1, x.1) ((0 : Int), (0 : Int), (0 : Int), (0 : Int))).2.1)).toNat : Int)))))
def st8_11 (k : ((List Int) × Int × (Int × Int × Int × Int × Nat × Nat × Nat × List (Int × Int × Int × Int × Int × Int × Int × Int × Int)) × Int × Int)) (x : (Int × Int × Int × Int × Int × Int × Int × (Int × Int) × Int)) : BOut ((List Int) × Int × (Int × Int × Int × Int × Nat × Nat × Nat × List (Int × Int × Int × Int × Int × Int × Int × Int × Int)) × Int × Int) (Int × Int × Int × Int × Int × Int × Int × (Int × Int) × Int) (Bool) :=
  bif (decide (x.1 ≤ k.2.1)) then
    (bif (x.1 == (0 : Int)) then
      (bif (((Sp.F24 (k.2.2.1.1, (Sp.F21 (k.2.2.1.1, (Sp.F22 (Sp.K8_11_2 k x)))))).1 == k.2.2.2.1) && ((Sp.F24 (k.2.2.1.1, (Sp.F21 (k.2.2.1.1, (Sp.F22 (Sp.K8_11_2 k x)))))).2 == k.2.2.2.2)) then
        BOut.ret (Sp.F16 ())
      else
        BOut.next k ((IntKind.i64.wrap (x.1 + (1 : Int))), (Sp.K8_11_2 k x)))
    else
      bif (((Sp.F24 (k.2.2.1.1, (Sp.F21 (k.2.2.1.1, (Sp.F22 (Sp.K8_11_3 k x)))))).1 == k.2.2.2.1) && ((Sp.F24 (k.2.2.1.1, (Sp.F21 (k.2.2.1.1, (Sp.F22 (Sp.K8_11_3 k x)))))).2 == k.2.2.2.2)) then
        BOut.ret (Sp.F16 ())
      else
        BOut.next k ((IntKind.i64.wrap (x.1 + (1 : Int))), (Sp.K8_11_3 k x)))
  else
    BOut.brk k x
def G8_11 (k : ((List Int) × Int × (Int × Int × Int × Int × Nat × Nat × Nat × List (Int × Int × Int × Int × Int × Int × Int × Int × Int)) × Int × Int)) (x : (Int × Int × Int × Int × Int × Int × Int × (Int × Int) × Int)) : (Int × Int × Int × Int × Int × Int × Int × (Int × Int) × Int) := endOf st8_11 k (Nat.succ (mu8_11 k x)) x
def R8_11 (k : ((List Int) × Int × (Int × Int × Int × Int × Nat × Nat × Nat × List (Int × Int × Int × Int × Int × Int × Int × Int × Int)) × Int × Int)) (x : (Int × Int × Int × Int × Int × Int × Int × (Int × Int) × Int)) : Option (Bool) := retOf st8_11 k (Nat.succ (mu8_11 k x)) x
end Go.Proofs.YtpbljgpdhllklaaDoor.Sp
namespace Go.Proofs.YtpbljgpdhllklaaDoor.Sy
def LS8_11 : LS ty4.den := mkLS (Ty.pair ty23 (Ty.pair ty3 (Ty.pair ty32 ty26))) (Ty.pair ty3 ty28)  [(2, none), (12, none)] [(7, 8), (11, 2)] [(13, none)] [(8, 9)] [] [21] [(7, 7), (8, 8), (11, 11)] 0 true Sp.in8_11 Sp.st8_11 Sp.mu8_11
theorem va8_15 (k : (Ty.pair ty23 ty3).den) (x : (Ty.pair ty3 ty45).den) : ((evCode (ctxG GmN5) (lookL []) (bodyAt (bodyOf Tryd.f8) [0, 0]) (tmpl LS8_15 (enc (Ty.pair ty23 ty3) k) (enc (Ty.pair ty3 ty45) x)) (evRound LS8_15 (evRet (ctxG GmN5) Tryd.f8 (Rsh.one (none)) none ty4 .ret)))).val BOut.ret (BOut.brk (Ty.dflt (Ty.pair ty23 ty3)) (Ty.dflt (Ty.pair ty3 ty45))) = Sp.st8_15 k x := by kernel_rfl
theorem se8_15 (k : (Ty.pair ty23 ty3).den) (x : (Ty.pair ty3 ty45).den) : ((evCode (ctxG GmN5) (lookL []) (bodyAt (bodyOf Tryd.f8) [0, 0]) (tmpl LS8_15 (enc (Ty.pair ty23 ty3) k) (enc (Ty.pair ty3 ty45) x)) (evRound LS8_15 (evRet (ctxG GmN5) Tryd.f8 (Rsh.one (none)) none ty4 .ret)))).safe = (((((decide (x.1 < (3 : Int))) && (decide (((k.1).length : Int) > (0 : Int)))) = true → ((((k.1).length : Int) ≠ 0) ∧ ((0 ≤ (Int.tmod (IntKind.i64.wrap ((IntKind.i64.wrap ((3 : Int) * k.2)) + x.1)) ((k.1).length : Int)) ∧ (Int.tmod (IntKind.i64.wrap ((IntKind.i64.wrap ((3 : Int) * k.2)) + x.1)) ((k.1).length : Int)) < ((k.1).length : Int)) ∧ ((0 ≤ x.1 ∧ x.1 < (3 : Int)) ∧ True)))) ∧ (((decide (x.1 < (3 : Int))) && (decide (((k.1).length : Int) > (0 : Int)))) = false → True))) := by kernel_rfl
set_option maxHeartbeats 4000000 in
theorem sa8_15 (k : (Ty.pair ty23 ty3).den) (x : (Ty.pair ty3 ty45).den) (fk : Fit (Ty.pair ty23 ty3) k) (fx : Fit (Ty.pair ty3 ty45) x) (h : Sp.in8_15 k x) : SafeW ((evCode (ctxG GmN5) (lookL []) (bodyAt (bodyOf Tryd.f8) [0, 0]) (tmpl LS8_15 (enc (Ty.pair ty23 ty3) k) (enc (Ty.pair ty3 ty45) x)) (evRound LS8_15 (evRet (ctxG GmN5) Tryd.f8 (Rsh.one (none)) none ty4 .ret)))) := by
  refine ⟨?_⟩
  rw [se8_15]
  try dsimp only [Ty.den] at *
  simp only [Sp.in8_15] at h
  refine ⟨fun hc => ?_, fun _ => trivial⟩
  simp only [Bool.and_eq_true, decide_eq_true_eq] at hc
  have e1 : IntKind.i64.wrap ((3 : Int) * k.2) = 3 * k.2 := Sp.wrap_i64_of (by omega) (by omega)
  have e2 : IntKind.i64.wrap (3 * k.2 + x.1) = 3 * k.2 + x.1 := Sp.wrap_i64_of (by omega) (by omega)
  rw [e1, e2]
  exact ⟨by omega, ⟨Int.tmod_nonneg _ (by omega), Int.tmod_lt_of_pos _ (by omega)⟩, ⟨by omega, by omega⟩, trivial⟩
set_option maxHeartbeats 4000000 in
theorem so8_15 (k : (Ty.pair ty23 ty3).den) (x : (Ty.pair ty3 ty45).den) (fk : Fit (Ty.pair ty23 ty3) k) (h : Sp.in8_15 k x) : StepOk false Sp.in8_15 Sp.mu8_15 k x (Sp.st8_15 k x) := by
  try dsimp only [Ty.den] at *
  simp only [Sp.in8_15, Fit, maxLen] at h fk
  unfold Sp.st8_15
  (repeat' (first | exact rfl | (refine StepOk.cnd (fun hc => ?_) (fun hc => ?_) <;> (try simp only [IntKind.wrap_i64, IntKind.wrap_u8, IntKind.wrap_u32, IntKind.wrap_u64, bne_eq_false_iff_eq, Int.natCast_inj, setE, copyL, sliceL, zrow, List.length_append, List.length_cons, List.length_nil, List.length_set, List.length_replicate, List.length_take, List.length_drop, decide_eq_true_eq, decide_eq_false_iff_not, Bool.or_eq_true, Bool.and_eq_true, Bool.or_eq_false_iff, Bool.and_eq_false_iff, Bool.not_eq_true', Bool.not_eq_false', Bool.not_eq_true, Bool.not_eq_false, beq_iff_eq, beq_eq_false_iff_ne, bne_iff_ne, ne_eq] at hc)) | refine StepOk.opt (fun _ => ?_))) <;> (first | exact rfl | (refine ⟨rfl, ?_, ?_⟩ <;> simp only [Sp.in8_15, Sp.mu8_15, IntKind.wrap_i64, IntKind.wrap_u8, IntKind.wrap_u32, IntKind.wrap_u64, Sp.tmod_lit, Sp.tdiv_lit, bne_eq_false_iff_eq, Int.natCast_inj, setE, copyL, sliceL, zrow, List.length_append, List.length_cons, List.length_nil, List.length_set, List.length_replicate, List.length_take, List.length_drop, decide_eq_true_eq, decide_eq_false_iff_not, Bool.or_eq_true, Bool.and_eq_true, Bool.or_eq_false_iff, Bool.and_eq_false_iff, Bool.not_eq_true', Bool.not_eq_false', Bool.not_eq_true, Bool.not_eq_false, beq_iff_eq, beq_eq_false_iff_ne, bne_iff_ne, ne_eq] <;> first | omega | (and_intros <;> first | omega | exact h.1 | exact h.2 | exact h.2.1 | exact h.2.2 | exact h.2.2.1 | exact h.2.2.2 | exact h.2.2.2.1 | exact h.2.2.2.2 | exact h.2.2.2.2.1 | exact h.2.2.2.2.2 | exact h.2.2.2.2.2.1 | exact h.2.2.2.2.2.2)))
theorem lo8_15 : LoopOk Tryd.prog gdS (RetAt Tryd.prog Tryd.f8 (Rsh.one (none)) none ty4) (bodyAt (bodyOf Tryd.f8) [0, 0]) LS8_15 :=
  loop_run (ctxOkF gokGmN5 []) (L := lookL []) (loops_of (l := []) (by kernel_rfl) (loops_nil)) sa8_15 va8_15 so8_15
theorem va8_11 (k : (Ty.pair ty23 (Ty.pair ty3 (Ty.pair ty32 ty26))).den) (x : (Ty.pair ty3 ty28).den) : ((evCode (ctxG GmN5) (lookL [(15, LS8_15)]) (bodyAt (bodyOf Tryd.f8) [0]) (tmpl LS8_11 (enc (Ty.pair ty23 (Ty.pair ty3 (Ty.pair ty32 ty26))) k) (enc (Ty.pair ty3 ty28) x)) (evRound LS8_11 (evRet (ctxG GmN5) Tryd.f8 (Rsh.one (none)) none ty4 .ret)))).val BOut.ret (BOut.brk (Ty.dflt (Ty.pair ty23 (Ty.pair ty3 (Ty.pair ty32 ty26)))) (Ty.dflt (Ty.pair ty3 ty28))) = Sp.st8_11 k x := by kernel_rfl
theorem se8_11 (k : (Ty.pair ty23 (Ty.pair ty3 (Ty.pair ty32 ty26))).den) (x : (Ty.pair ty3 ty28).den) : ((evCode (ctxG GmN5) (lookL [(15, LS8_15)]) (bodyAt (bodyOf Tryd.f8) [0]) (tmpl LS8_11 (enc (Ty.pair ty23 (Ty.pair ty3 (Ty.pair ty32 ty26))) k) (enc (Ty.pair ty3 ty28) x)) (evRound LS8_11 (evRet (ctxG GmN5) Tryd.f8 (Rsh.one (none)) none ty4 .ret)))).safe = ((((decide (x.1 ≤ k.2.1)) = true → ((Sp.in8_15 (k.1, x.1) ((0 : Int), (0 : Int), (0 : Int), (0 : Int))) ∧ (((x.1 == (0 : Int)) = true → ((Sp.pre21 (k.2.2.1.1, (Sp.F22 (Sp.K8_11_2 k x)))) ∧ (((((Sp.F24 (k.2.2.1.1, (Sp.F21 (k.2.2.1.1, (Sp.F22 (Sp.K8_11_2 k x)))))).1 == k.2.2.2.1) && ((Sp.F24 (k.2.2.1.1, (Sp.F21 (k.2.2.1.1, (Sp.F22 (Sp.K8_11_2 k x)))))).2 == k.2.2.2.2)) = true → True) ∧ ((((Sp.F24 (k.2.2.1.1, (Sp.F21 (k.2.2.1.1, (Sp.F22 (Sp.K8_11_2 k x)))))).1 == k.2.2.2.1) && ((Sp.F24 (k.2.2.1.1, (Sp.F21 (k.2.2.1.1, (Sp.F22 (Sp.K8_11_2 k x)))))).2 == k.2.2.2.2)) = false → True)))) ∧ ((x.1 == (0 : Int)) = false → ((Sp.pre21 (k.2.2.1.1, (Sp.F22 (Sp.K8_11_3 k x)))) ∧ (((((Sp.F24 (k.2.2.1.1, (Sp.F21 (k.2.2.1.1, (Sp.F22 (Sp.K8_11_3 k x)))))).1 == k.2.2.2.1) && ((Sp.F24 (k.2.2.1.1, (Sp.F21 (k.2.2.1.1, (Sp.F22 (Sp.K8_11_3 k x)))))).2 == k.2.2.2.2)) = true → True) ∧ ((((Sp.F24 (k.2.2.1.1, (Sp.F21 (k.2.2.1.1, (Sp.F22 (Sp.K8_11_3 k x)))))).1 == k.2.2.2.1) && ((Sp.F24 (k.2.2.1.1, (Sp.F21 (k.2.2.1.1, (Sp.F22 (Sp.K8_11_3 k x)))))).2 == k.2.2.2.2)) = false → True))))))) ∧ ((decide (x.1 ≤ k.2.1)) = false → True))) := by kernel_rfl
set_option maxHeartbeats 4000000 in
theorem sa8_11 (k : (Ty.pair ty23 (Ty.pair ty3 (Ty.pair ty32 ty26))).den) (x : (Ty.pair ty3 ty28).den) (fk : Fit (Ty.pair ty23 (Ty.pair ty3 (Ty.pair ty32 ty26))) k) (fx : Fit (Ty.pair ty3 ty28) x) (h : Sp.in8_11 k x) : SafeW ((evCode (ctxG GmN5) (lookL [(15, LS8_15)]) (bodyAt (bodyOf Tryd.f8) [0]) (tmpl LS8_11 (enc (Ty.pair ty23 (Ty.pair ty3 (Ty.pair ty32 ty26))) k) (enc (Ty.pair ty3 ty28) x)) (evRound LS8_11 (evRet (ctxG GmN5) Tryd.f8 (Rsh.one (none)) none ty4 .ret)))) := by
  refine ⟨?_⟩
  rw [se8_11]
  try dsimp only [Ty.den] at *
  simp only [Sp.in8_11] at h
  refine ⟨fun hc => ?_, fun _ => trivial⟩
  rw [decide_eq_true_eq] at hc
  refine ⟨⟨by show (0 : Int) ≤ 0; omega, by show (0 : Int) ≤ x.1; omega, Int.le_trans hc h.2⟩, ?_⟩
  repeat' (first | exact trivial | exact Sp.contacts_u _ | apply And.intro | intro _)
set_option maxHeartbeats 4000000 in
theorem so8_11 (k : (Ty.pair ty23 (Ty.pair ty3 (Ty.pair ty32 ty26))).den) (x : (Ty.pair ty3 ty28).den) (fk : Fit (Ty.pair ty23 (Ty.pair ty3 (Ty.pair ty32 ty26))) k) (h : Sp.in8_11 k x) : StepOk true Sp.in8_11 Sp.mu8_11 k x (Sp.st8_11 k x) := by
  try dsimp only [Ty.den] at *
  simp only [Sp.in8_11, Fit, maxLen] at h fk
  unfold Sp.st8_11
  (repeat' (first | exact rfl | (refine StepOk.cnd (fun hc => ?_) (fun hc => ?_) <;> (try simp only [IntKind.wrap_i64, IntKind.wrap_u8, IntKind.wrap_u32, IntKind.wrap_u64, bne_eq_false_iff_eq, Int.natCast_inj, setE, copyL, sliceL, zrow, List.length_append, List.length_cons, List.length_nil, List.length_set, List.length_replicate, List.length_take, List.length_drop, decide_eq_true_eq, decide_eq_false_iff_not, Bool.or_eq_true, Bool.and_eq_true, Bool.or_eq_false_iff, Bool.and_eq_false_iff, Bool.not_eq_true', Bool.not_eq_false', Bool.not_eq_true, Bool.not_eq_false, beq_iff_eq, beq_eq_false_iff_ne, bne_iff_ne, ne_eq] at hc)) | refine StepOk.opt (fun _ => ?_))) <;> (first | exact rfl | (refine ⟨rfl, ?_, ?_⟩ <;> simp only [Sp.in8_11, Sp.mu8_11, Sp.K8_11_1, Sp.K8_11_2, Sp.K8_11_3, IntKind.wrap_i64, IntKind.wrap_u8, IntKind.wrap_u32, IntKind.wrap_u64, Sp.tmod_lit, Sp.tdiv_lit, bne_eq_false_iff_eq, Int.natCast_inj, setE, copyL, sliceL, zrow, List.length_append, List.length_cons, List.length_nil, List.length_set, List.length_replicate, List.length_take, List.length_drop, decide_eq_true_eq, decide_eq_false_iff_not, Bool.or_eq_true, Bool.and_eq_true, Bool.or_eq_false_iff, Bool.and_eq_false_iff, Bool.not_eq_true', Bool.not_eq_false', Bool.not_eq_true, Bool.not_eq_false, beq_iff_eq, beq_eq_false_iff_ne, bne_iff_ne, ne_eq] <;> first | omega | (and_intros <;> first | omega | exact h.1 | exact h.2 | exact h.2.1 | exact h.2.2 | exact h.2.2.1 | exact h.2.2.2 | exact h.2.2.2.1 | exact h.2.2.2.2 | exact h.2.2.2.2.1 | exact h.2.2.2.2.2 | exact h.2.2.2.2.2.1 | exact h.2.2.2.2.2.2)))
theorem lo8_11 : LoopOk Tryd.prog gdS (RetAt Tryd.prog Tryd.f8 (Rsh.one (none)) none ty4) (bodyAt (bodyOf Tryd.f8) [0]) LS8_11 :=
  loop_run (ctxOkF gokGmN5 []) (L := lookL [(15, LS8_15)]) (loops_of (l := [bodyAt (bodyOf Tryd.f8) [0, 0]]) (by kernel_rfl) (loops_cons (s0 := LS8_15) (by kernel_rfl) lo8_15 (loops_nil))) sa8_11 va8_11 so8_11
end Go.Proofs.YtpbljgpdhllklaaDoor.Sy
namespace Go.Proofs.YtpbljgpdhllklaaDoor.Sp
open Go Go.RowKit Sy
def K8_1 (x : (Int × Int × Int) × (List Int) × List Int) :=
  (Sp.G8_11 (x.2.2, (Sp.F20 ((Sp.F11 (x.1.1, x.1.2.1)), (0 : Int))), (Sp.F11 (x.1.1, x.1.2.1)), (Sp.F23 ((IntKind.i64.wrap ((Int.tmod (IntKind.i64.wrap x.1.2.2) (IntKind.i64.wrap ((Sp.F11 (x.1.1, x.1.2.1)).1 - (1 : Int)))) + (1 : Int))), (2 : Int)))) ((0 : Int), (Sp.F12 ((Sp.F11 (x.1.1, x.1.2.1)), (0 : Int), x.2.1))))
def K8_2 (x : (Int × Int × Int) × (List Int) × List Int) :=
  (Sp.G8_11 (x.2.2, (Sp.F20 ((Sp.F11 (x.1.1, x.1.2.1)), (0 : Int))), (Sp.F11 (x.1.1, x.1.2.1)), (Sp.F23 ((Int.tmod (IntKind.i64.wrap x.1.2.2) (IntKind.i64.wrap ((Sp.F11 (x.1.1, x.1.2.1)).1 - (1 : Int)))), (1 : Int)))) ((0 : Int), (Sp.F12 ((Sp.F11 (x.1.1, x.1.2.1)), (0 : Int), x.2.1))))
def F8 (x : (Int × Int × Int) × (List Int) × List Int) : Bool :=
  bif (decide (x.1.2.2 > (127 : Int))) then
    (bif ((((Sp.F20 ((Sp.F11 (x.1.1, x.1.2.1)), (0 : Int))) != (Sp.F26 ((Sp.F11 (x.1.1, x.1.2.1)), (0 : Int)))) || ((Sp.F20 ((Sp.F11 (x.1.1, x.1.2.1)), (-1 : Int))) != (0 : Int))) || ((Sp.F20 (((0 : Int), (0 : Int), (0 : Int), (0 : Int), (0 : Nat), (0 : Nat), (0 : Nat), []), (0 : Int))) != (0 : Int))) then
      false
    else
      Sp.optR (Sp.R8_11 (x.2.2, (Sp.F20 ((Sp.F11 (x.1.1, x.1.2.1)), (0 : Int))), (Sp.F11 (x.1.1, x.1.2.1)), (Sp.F23 ((IntKind.i64.wrap ((Int.tmod (IntKind.i64.wrap x.1.2.2) (IntKind.i64.wrap ((Sp.F11 (x.1.1, x.1.2.1)).1 - (1 : Int)))) + (1 : Int))), (2 : Int)))) ((0 : Int), (Sp.F12 ((Sp.F11 (x.1.1, x.1.2.1)), (0 : Int), x.2.1)))) (fun y => y)
      (false))
  else
    bif ((((Sp.F20 ((Sp.F11 (x.1.1, x.1.2.1)), (0 : Int))) != (Sp.F26 ((Sp.F11 (x.1.1, x.1.2.1)), (0 : Int)))) || ((Sp.F20 ((Sp.F11 (x.1.1, x.1.2.1)), (-1 : Int))) != (0 : Int))) || ((Sp.F20 (((0 : Int), (0 : Int), (0 : Int), (0 : Int), (0 : Nat), (0 : Nat), (0 : Nat), []), (0 : Int))) != (0 : Int))) then
      false
    else
      Sp.optR (Sp.R8_11 (x.2.2, (Sp.F20 ((Sp.F11 (x.1.1, x.1.2.1)), (0 : Int))), (Sp.F11 (x.1.1, x.1.2.1)), (Sp.F23 ((Int.tmod (IntKind.i64.wrap x.1.2.2) (IntKind.i64.wrap ((Sp.F11 (x.1.1, x.1.2.1)).1 - (1 : Int)))), (1 : Int)))) ((0 : Int), (Sp.F12 ((Sp.F11 (x.1.1, x.1.2.1)), (0 : Int), x.2.1)))) (fun y => y)
      (false)
def pre8 (x : (Int × Int × Int) × (List Int) × List Int) : Prop := (0 ≤ x.1.1 ∧ x.1.1 ≤ 255) ∧ (0 ≤ x.1.2.1 ∧ x.1.2.1 ≤ 255) ∧ 0 ≤ x.1.2.2 ∧ x.1.2.2 ≤ 255
end Go.Proofs.YtpbljgpdhllklaaDoor.Sp
namespace Go.Proofs.YtpbljgpdhllklaaDoor.Sy
def ct8 : Ct := { p := (Ty.pair ty45 (Ty.pair ty23 ty23)), psh := [some 3, none, none], r := ty4, rsh := (Rsh.one (none)), pre := some Sp.pre8, fresh := none, F := Sp.F8 }
theorem va8 (x : (Ty.pair ty45 (Ty.pair ty23 ty23)).den) : ((evFn (ctxG GmN5) Tryd.f8 (Ty.pair ty45 (Ty.pair ty23 ty23)) [some 3, none, none] (Rsh.one (none)) none ty4 (lookL [(15, LS8_15), (11, LS8_11)]) x)).val (fun y => y) (Ty.dflt ty4) = Sp.F8 x := by kernel_rfl
theorem se8 (x : (Ty.pair ty45 (Ty.pair ty23 ty23)).den) : ((evFn (ctxG GmN5) Tryd.f8 (Ty.pair ty45 (Ty.pair ty23 ty23)) [some 3, none, none] (Rsh.one (none)) none ty4 (lookL [(15, LS8_15), (11, LS8_11)]) x)).safe = (((Sp.pre11 (x.1.1, x.1.2.1)) ∧ (((IntKind.i64.wrap ((Sp.F11 (x.1.1, x.1.2.1)).1 - (1 : Int))) ≠ 0) ∧ (((decide (x.1.2.2 > (127 : Int))) = true → ((((((Sp.F20 ((Sp.F11 (x.1.1, x.1.2.1)), (0 : Int))) != (Sp.F26 ((Sp.F11 (x.1.1, x.1.2.1)), (0 : Int)))) || ((Sp.F20 ((Sp.F11 (x.1.1, x.1.2.1)), (-1 : Int))) != (0 : Int))) || ((Sp.F20 (((0 : Int), (0 : Int), (0 : Int), (0 : Int), (0 : Nat), (0 : Nat), (0 : Nat), []), (0 : Int))) != (0 : Int))) = true → True) ∧ (((((Sp.F20 ((Sp.F11 (x.1.1, x.1.2.1)), (0 : Int))) != (Sp.F26 ((Sp.F11 (x.1.1, x.1.2.1)), (0 : Int)))) || ((Sp.F20 ((Sp.F11 (x.1.1, x.1.2.1)), (-1 : Int))) != (0 : Int))) || ((Sp.F20 (((0 : Int), (0 : Int), (0 : Int), (0 : Int), (0 : Nat), (0 : Nat), (0 : Nat), []), (0 : Int))) != (0 : Int))) = false → ((Sp.in8_11 (x.2.2, (Sp.F20 ((Sp.F11 (x.1.1, x.1.2.1)), (0 : Int))), (Sp.F11 (x.1.1, x.1.2.1)), (Sp.F23 ((IntKind.i64.wrap ((Int.tmod (IntKind.i64.wrap x.1.2.2) (IntKind.i64.wrap ((Sp.F11 (x.1.1, x.1.2.1)).1 - (1 : Int)))) + (1 : Int))), (2 : Int)))) ((0 : Int), (Sp.F12 ((Sp.F11 (x.1.1, x.1.2.1)), (0 : Int), x.2.1)))) ∧ ((Sp.R8_11 (x.2.2, (Sp.F20 ((Sp.F11 (x.1.1, x.1.2.1)), (0 : Int))), (Sp.F11 (x.1.1, x.1.2.1)), (Sp.F23 ((IntKind.i64.wrap ((Int.tmod (IntKind.i64.wrap x.1.2.2) (IntKind.i64.wrap ((Sp.F11 (x.1.1, x.1.2.1)).1 - (1 : Int)))) + (1 : Int))), (2 : Int)))) ((0 : Int), (Sp.F12 ((Sp.F11 (x.1.1, x.1.2.1)), (0 : Int), x.2.1)))) = none → True))))) ∧ ((decide (x.1.2.2 > (127 : Int))) = false → ((((((Sp.F20 ((Sp.F11 (x.1.1, x.1.2.1)), (0 : Int))) != (Sp.F26 ((Sp.F11 (x.1.1, x.1.2.1)), (0 : Int)))) || ((Sp.F20 ((Sp.F11 (x.1.1, x.1.2.1)), (-1 : Int))) != (0 : Int))) || ((Sp.F20 (((0 : Int), (0 : Int), (0 : Int), (0 : Int), (0 : Nat), (0 : Nat), (0 : Nat), []), (0 : Int))) != (0 : Int))) = true → True) ∧ (((((Sp.F20 ((Sp.F11 (x.1.1, x.1.2.1)), (0 : Int))) != (Sp.F26 ((Sp.F11 (x.1.1, x.1.2.1)), (0 : Int)))) || ((Sp.F20 ((Sp.F11 (x.1.1, x.1.2.1)), (-1 : Int))) != (0 : Int))) || ((Sp.F20 (((0 : Int), (0 : Int), (0 : Int), (0 : Int), (0 : Nat), (0 : Nat), (0 : Nat), []), (0 : Int))) != (0 : Int))) = false → ((Sp.in8_11 (x.2.2, (Sp.F20 ((Sp.F11 (x.1.1, x.1.2.1)), (0 : Int))), (Sp.F11 (x.1.1, x.1.2.1)), (Sp.F23 ((Int.tmod (IntKind.i64.wrap x.1.2.2) (IntKind.i64.wrap ((Sp.F11 (x.1.1, x.1.2.1)).1 - (1 : Int)))), (1 : Int)))) ((0 : Int), (Sp.F12 ((Sp.F11 (x.1.1, x.1.2.1)), (0 : Int), x.2.1)))) ∧ ((Sp.R8_11 (x.2.2, (Sp.F20 ((Sp.F11 (x.1.1, x.1.2.1)), (0 : Int))), (Sp.F11 (x.1.1, x.1.2.1)), (Sp.F23 ((Int.tmod (IntKind.i64.wrap x.1.2.2) (IntKind.i64.wrap ((Sp.F11 (x.1.1, x.1.2.1)).1 - (1 : Int)))), (1 : Int)))) ((0 : Int), (Sp.F12 ((Sp.F11 (x.1.1, x.1.2.1)), (0 : Int), x.2.1)))) = none → True))))))))) := by kernel_rfl
theorem sa8 (x : (Ty.pair ty45 (Ty.pair ty23 ty23)).den) (fx : Fit (Ty.pair ty45 (Ty.pair ty23 ty23)) x) (h : Sp.pre8 x) : SafeW ((evFn (ctxG GmN5) Tryd.f8 (Ty.pair ty45 (Ty.pair ty23 ty23)) [some 3, none, none] (Rsh.one (none)) none ty4 (lookL [(15, LS8_15), (11, LS8_11)]) x)) := by
  refine ⟨?_⟩
  rw [se8]
  try dsimp only [Ty.den] at *
  unfold Sp.pre8 at h
  have hpre := (⟨h.1, h.2.1⟩ : (0 ≤ x.1.1 ∧ x.1.1 ≤ 255) ∧ 0 ≤ x.1.2.1 ∧ x.1.2.1 ≤ 255)
  have hB := Sp.b15 (x := (x.1.1, x.1.2.1)) hpre
  have hf := hB.1.fl
  have hl := Sp.b15_len (x := (x.1.1, x.1.2.1)) hpre
  have hp := Sp.promise_le (Sp.F11 (x.1.1, x.1.2.1), (0 : Int)) (Nat.le_trans hl (by decide))
  have hw : IntKind.i64.wrap ((Sp.F11 (x.1.1, x.1.2.1)).1 - (1 : Int)) = (Sp.F11 (x.1.1, x.1.2.1)).1 - 1 := Sp.wrap_i64_of (by omega) (by omega)
  refine ⟨hpre, by omega, ?_⟩
  all_goals (repeat' (first | exact trivial | exact hp | (show (0 : Int) ≤ 0; omega) | apply And.intro | intro _))
theorem ok8 : CtOk Tryd.prog gdS 8 ct8 :=
  fn_okU (ctxOkF gokGmN5 []) rfl Tryd.func8 (p := (Ty.pair ty45 (Ty.pair ty23 ty23))) (psh := [some 3, none, none]) (r := ty4) (rsh := (Rsh.one (none))) (pre := some Sp.pre8) (fresh := none) (F := Sp.F8) (L := (lookL [(15, LS8_15), (11, LS8_11)])) (c := bodyOf Tryd.f8) (dflt := Ty.dflt ty4) rfl (loops_of (l := [bodyAt (bodyOf Tryd.f8) [0]]) (by kernel_rfl) (loops_cons (s0 := LS8_11) (by kernel_rfl) lo8_11 (loops_nil)))
    (safe_pre @sa8) va8
def GmN6 : List (Nat × Ct) := (3, ct3) :: (4, ct4) :: (5, ct5) :: (6, ct6) :: (7, ct7) :: (8, ct8) :: GmN5
theorem gokGmN6 : GOk GmN6 := gok_cons ok3 ⟨_, Tryd.func3, by kernel_rfl, by kernel_rfl⟩ (gok_cons ok4 ⟨_, Tryd.func4, by kernel_rfl, by kernel_rfl⟩ (gok_cons ok5 ⟨_, Tryd.func5, by kernel_rfl, by kernel_rfl⟩ (gok_cons ok6 ⟨_, Tryd.func6, by kernel_rfl, by kernel_rfl⟩ (gok_cons ok7 ⟨_, Tryd.func7, by kernel_rfl, by kernel_rfl⟩ (gok_cons ok8 ⟨_, Tryd.func8, by kernel_rfl, by kernel_rfl⟩ (gokGmN5))))))
end Go.Proofs.YtpbljgpdhllklaaDoor.Sy
end

section
/- Collective: the program's scene and the reference's, the program is the reference, choices at every combination (own work; the part without law 11). -/
namespace Go.Proofs.YtpbljgpdhllklaaDoor.Sp
open Go Sy
set_option linter.unusedVariables false
set_option linter.unusedSimpArgs false
set_option maxRecDepth 10000

abbrev cA (n : Nat) (c : Int) : Int := and32 c (allm (n : Int))
abbrev cU (n : Nat) (u : Int) : Int := and32 u (shr32 (allm (n : Int)) 1)
abbrev cD (n : Nat) (d : Int) : Int := and32 d (nand32 (allm (n : Int)) 1)
abbrev cS (A U D : Int) : Int := or32 (or32 A U) D
theorem W_cS (A U D : Int) : W (cS A U D) := W_or _ _
theorem bit_cS {A U D : Int} (hA : W A) (hU : W U) (hD : W D) (i : Nat) (hi : i < 32) : bit (cS A U D) i = (bit A i || bit U i || bit D i) := by
  rw [bit_or (W_or _ _).1 hD.1 i hi, bit_or hA.1 hU.1 i hi]
theorem and_zero {a : Int} (ha : W a) : and32 a 0 = 0 := W.ext (W_and _ _) W.zero fun i hi => by rw [bit_and ha.1 (by omega) i hi, bit_zero, Bool.and_false]
theorem has_up {U D : Int} (hU : W U) (hD : W D) (f : Nat) (hf : f < 32) : F123 ((U, D), (f : Int), 1) = bit U f := by
  have h1 : F39 ((f : Int), 1) = (shl32 1 (f : Int), 0) := by
    unfold F39
    have : (decide ((f : Int) ≥ 0) && decide ((f : Int) < 32)) = true := by simp; omega
    rw [this]; rfl
  unfold F123
  rw [h1]
  show (!((and32 U (shl32 1 (f : Int)) == 0) && (and32 D 0 == 0))) = _
  rw [and_zero hD, and_shl hU f hf]
  cases hb : bit U f with
  | false => rfl
  | true =>
    rw [cond_true]
    have : shl32 1 (f : Int) ≠ 0 := ne_zero_of (i := f) (by rw [bit_one f f hf]; simp)
    simp [this]
theorem has_down {U D : Int} (hU : W U) (hD : W D) (f : Nat) (hf : f < 32) : F123 ((U, D), (f : Int), 2) = bit D f := by
  have h1 : F39 ((f : Int), 2) = (0, shl32 1 (f : Int)) := by
    unfold F39
    have : (decide ((f : Int) ≥ 0) && decide ((f : Int) < 32)) = true := by simp; omega
    rw [this]; rfl
  unfold F123
  rw [h1]
  show (!((and32 U 0 == 0) && (and32 D (shl32 1 (f : Int)) == 0))) = _
  rw [and_zero hU, and_shl hD f hf]
  cases hb : bit D f with
  | false => rfl
  | true =>
    rw [cond_true]
    have : shl32 1 (f : Int) ≠ 0 := ne_zero_of (i := f) (by rw [bit_one f f hf]; simp)
    simp [this]

theorem look_eq (n f : Nat) (w : Int × Int) (c u d : Int) : F118 ((n : Int), w, (f : Int), c, u, d) =
    bif (shr32 (shr32 (cS (cA n c) (cU n u) (cD n d)) (f : Int)) 1 != 0) then
      (bif (and32 (cS (cA n c) (cU n u) (cD n d)) (allm (f : Int)) != 0) then
        (and32 (shr32 c (f : Int)) 1 == 1, F123 ((cU n u, cD n d), (f : Int), 1), F123 ((cU n u, cD n d), (f : Int), 2), IntKind.i64.wrap (1 + F74 (shr32 (shr32 (cS (cA n c) (cU n u) (cD n d)) (f : Int)) 1)), IntKind.i64.wrap (IntKind.i64.wrap ((f : Int) - F124 (and32 (cS (cA n c) (cU n u) (cD n d)) (allm (f : Int)))) + 1), w.2)
      else (and32 (shr32 c (f : Int)) 1 == 1, F123 ((cU n u, cD n d), (f : Int), 1), F123 ((cU n u, cD n d), (f : Int), 2), IntKind.i64.wrap (1 + F74 (shr32 (shr32 (cS (cA n c) (cU n u) (cD n d)) (f : Int)) 1)), 0, w.2))
    else
      bif (and32 (cS (cA n c) (cU n u) (cD n d)) (allm (f : Int)) != 0) then
        (and32 (shr32 c (f : Int)) 1 == 1, F123 ((cU n u, cD n d), (f : Int), 1), F123 ((cU n u, cD n d), (f : Int), 2), 0, IntKind.i64.wrap (IntKind.i64.wrap ((f : Int) - F124 (and32 (cS (cA n c) (cU n u) (cD n d)) (allm (f : Int)))) + 1), w.2)
      else (and32 (shr32 c (f : Int)) 1 == 1, F123 ((cU n u, cD n d), (f : Int), 1), F123 ((cU n u, cD n d), (f : Int), 2), 0, 0, w.2) := by kernel_rfl
theorem look_val (n f : Nat) (hn : n ≤ 32) (hf : f < n) (w : Int × Int) (c u d : Int) (hc : W c) : ∃ ab be, AboveS (cS (cA n c) (cU n u) (cD n d)) f ab ∧ BelowS (cS (cA n c) (cU n u) (cD n d)) f be ∧
    F118 ((n : Int), w, (f : Int), c, u, d) = (bit (cA n c) f, bit (cU n u) f, bit (cD n d) f, ab, be, w.2) := by
  rw [look_eq, ask_bit hc f, has_up (W_and _ _) (W_and _ _) f (by omega), has_down (W_and _ _) (W_and _ _) f (by omega)]
  have hcA : bit c f = bit (cA n c) f := by
    rw [bit_and hc.1 (W_allm _).1 f (by omega), bit_allm n f hn]; simp [hf]
  rw [hcA]
  have hS : W (cS (cA n c) (cU n u) (cD n d)) := W_cS _ _ _
  generalize cS (cA n c) (cU n u) (cD n d) = S at hS
  obtain ⟨a1, a2⟩ := above_tz hS f (by omega)
  obtain ⟨b1, b2⟩ := below_len hS f (by omega)
  generalize shr32 (shr32 S (f : Int)) 1 = V at a1 a2
  generalize and32 S (allm (f : Int)) = B at b1 b2
  by_cases hV : V = 0
  · have hVb : (V != 0) = false := by simp [hV]
    rw [hVb, cond_false]
    by_cases hB : B = 0
    · have hBb : (B != 0) = false := by simp [hB]
      rw [hBb, cond_false]
      exact ⟨0, 0, .inl ⟨rfl, a1 hV⟩, .inl ⟨rfl, b1 hB⟩, rfl⟩
    · have hBb : (B != 0) = true := by simp [hB]
      rw [hBb, cond_true]
      obtain ⟨h1, h2, h3⟩ := b2 hB
      rw [wrap_i64_of (x := (f : Int) - _) (by omega) (by omega), wrap_i64_of (by omega) (by omega)]
      exact ⟨0, _, .inl ⟨rfl, a1 hV⟩, h1, rfl⟩
  · have hVb : (V != 0) = true := by simp [hV]
    rw [hVb, cond_true]
    obtain ⟨g1, g2, g3⟩ := a2 hV
    rw [wrap_i64_of (x := 1 + _) (by omega) (by omega)]
    by_cases hB : B = 0
    · have hBb : (B != 0) = false := by simp [hB]
      rw [hBb, cond_false]
      exact ⟨_, 0, g1, .inl ⟨rfl, b1 hB⟩, rfl⟩
    · have hBb : (B != 0) = true := by simp [hB]
      rw [hBb, cond_true]
      obtain ⟨h1, h2, h3⟩ := b2 hB
      rw [wrap_i64_of (x := (f : Int) - _) (by omega) (by omega), wrap_i64_of (x := (f : Int) - _ + 1) (by omega) (by omega)]
      exact ⟨_, _, g1, h1, rfl⟩

/-! The reference. -/
theorem proper_val (n : Nat) (h1 : 1 ≤ n) (hn : n ≤ 32) (c u d : Int) (hu : W u) (hd : W d) : F96 ((n : Int), c, u, d) = (cA n c, cU n u, cD n d) := by
  unfold F96
  have hb : (decide ((n : Int) < 1) || decide ((n : Int) > 32)) = false := by simp; omega
  simp only
  rw [hb, cond_false, wrap_i64_of (x := (n : Int) - 1) (by omega) (by omega), wrap_u64_of (x := (n : Int)) (by omega) (by omega), wrap_u64_of (x := (n : Int) - 1) (by omega) (by omega)]
  have e1 : nand32 (and32 u (allm (n : Int))) (shl32 1 ((n : Int) - 1)) = cU n u := by
    refine W.ext (W_nand _ _) (W_and _ _) fun i hi => ?_
    rw [show ((n : Int) - 1) = ((n - 1 : Nat) : Int) by omega]
    have hs := bit_shr (W_allm (n : Int)) 1 i
    rw [show (((1 : Nat) : Int)) = 1 from rfl] at hs
    rw [bit_nand (W_and _ _).1 (W_shl _ _).1 i hi, bit_and hu.1 (W_allm _).1 i hi, bit_and hu.1 (W_shr (W_allm _) 1 (by omega)).1 i hi, hs, bit_allm n _ hn, bit_allm n _ hn, bit_one _ i hi]
    by_cases h : i + 1 < n
    · have h2 : i < n := by omega
      have h3 : ¬ i = n - 1 := by omega
      simp [h2, h3, Nat.add_comm 1 i, h]
    · by_cases h2 : i = n - 1
      · simp [h2]; omega
      · have h3 : ¬ i < n := by omega
        simp [h3, Nat.add_comm 1 i, h]
  have e2 : nand32 (and32 d (allm (n : Int))) 1 = cD n d := by
    refine W.ext (W_nand _ _) (W_and _ _) fun i hi => ?_
    rw [bit_nand (W_and _ _).1 (by omega) i hi, bit_and hd.1 (W_allm _).1 i hi, bit_and hd.1 (W_nand _ _).1 i hi, bit_nand (W_allm _).1 (by omega) i hi, Bool.and_assoc]
  exact Prod.ext rfl (Prod.ext e1 e2)

theorem above_val {A U D : Int} (f : Nat) (hf : f < 32) {ab : Int} (h : AboveS (cS A U D) f ab) : F111 ((A, U, D), (f : Int)) = (decide (0 < ab), ab) := by
  have hS : W (cS A U D) := W_cS A U D
  unfold F111
  simp only
  rw [wrap_i64_of (x := (f : Int) + 1) (by omega) (by omega)]
  have hround : ∀ i : Nat, f + 1 + i < 32 → bit (cS A U D) (f + 1 + i) = false → st111_2 ((f : Int), A, U, D) ((f + 1 + i : Nat) : Int) = .next ((f : Int), A, U, D) ((f + 1 + (i + 1) : Nat) : Int) := fun i hi hb => by
    unfold st111_2
    simp only
    have hd : decide (((f + 1 + i : Nat) : Int) < 32) = true := by simp; omega
    rw [hd, cond_true, wrap_u64_of (x := ((f + 1 + i : Nat) : Int)) (by omega) (by omega)]
    have ha := ask_bit hS (f + 1 + i)
    rw [hb] at ha
    rw [ha, cond_false, wrap_i64_of (by omega) (by omega)]
    congr 1
  have hw : ((f : Int) + 1) = ((f + 1 + 0 : Nat) : Int) := by omega
  rcases h with ⟨h1, h2⟩ | ⟨k, h1, h2, h3, h4⟩
  · have hbrk : st111_2 ((f : Int), A, U, D) ((f + 1 + (31 - f) : Nat) : Int) = .brk ((f : Int), A, U, D) ((f + 1 + (31 - f) : Nat) : Int) := by
      unfold st111_2
      have hd : decide (((f + 1 + (31 - f) : Nat) : Int) < 32) = false := by simp; omega
      rw [hd, cond_false]
    have := (end_row_brk (step := st111_2) (fun i : Nat => ((f + 1 + i : Nat) : Int)) (31 - f) (fun i hi => ⟨_, hround i (by omega) (h2 _ (by omega))⟩) hbrk (fuel := Nat.succ (mu111_2 ((f : Int), A, U, D) ((f : Int) + 1))) (by unfold mu111_2; omega)).2
    unfold R111_2
    simp only [← hw] at this
    rw [this, h1]
    rfl
  · have hk := bit_lt hS h2
    have hret : st111_2 ((f : Int), A, U, D) ((f + 1 + (k - f - 1) : Nat) : Int) = .ret (true, ab) := by
      unfold st111_2
      simp only
      rw [show f + 1 + (k - f - 1) = k by omega]
      have hd : decide ((k : Int) < 32) = true := by simp; omega
      have ha := ask_bit hS k
      rw [h2] at ha
      rw [hd, cond_true, wrap_u64_of (x := (k : Int)) (by omega) (by omega), ha, cond_true, wrap_i64_of (by omega) (by omega), h4]
    have := end_row_ret (step := st111_2) (fun i : Nat => ((f + 1 + i : Nat) : Int)) (k - f - 1) (fun i hi => ⟨_, hround i (by omega) (h3 _ (by omega) (by omega))⟩) hret (fuel := Nat.succ (mu111_2 ((f : Int), A, U, D) ((f : Int) + 1))) (by unfold mu111_2; omega)
    unfold R111_2
    simp only [← hw] at this
    rw [this]
    have : decide (0 < ab) = true := by simp; omega
    rw [this]
    rfl
theorem below_val {A U D : Int} (f : Nat) (hf : f < 32) {be : Int} (h : BelowS (cS A U D) f be) : F112 ((A, U, D), (f : Int)) = (decide (0 < be), be) := by
  have hS : W (cS A U D) := W_cS A U D
  unfold F112
  simp only
  rw [wrap_i64_of (x := (f : Int) - 1) (by omega) (by omega)]
  have hround : ∀ i : Nat, i < f → bit (cS A U D) (f - 1 - i) = false → st112_2 ((f : Int), A, U, D) ((f : Int) - 1 - (i : Int)) = .next ((f : Int), A, U, D) ((f : Int) - 1 - ((i + 1 : Nat) : Int)) := fun i hi hb => by
    unfold st112_2
    simp only
    have he : (f : Int) - 1 - (i : Int) = ((f - 1 - i : Nat) : Int) := by omega
    have hd : decide ((f : Int) - 1 - (i : Int) ≥ 0) = true := by simp; omega
    rw [hd, cond_true, he, wrap_u64_of (x := ((f - 1 - i : Nat) : Int)) (by omega) (by omega)]
    have ha := ask_bit hS (f - 1 - i)
    rw [hb] at ha
    rw [ha, cond_false, wrap_i64_of (by omega) (by omega)]
    congr 1
    omega
  have hw : ((f : Int) - 1) = (f : Int) - 1 - ((0 : Nat) : Int) := by omega
  rcases h with ⟨h1, h2⟩ | ⟨k, h1, h2, h3, h4⟩
  · have hbrk : st112_2 ((f : Int), A, U, D) ((f : Int) - 1 - (f : Int)) = .brk ((f : Int), A, U, D) ((f : Int) - 1 - (f : Int)) := by
      unfold st112_2
      have hd : decide ((f : Int) - 1 - (f : Int) ≥ 0) = false := by simp; omega
      rw [hd, cond_false]
    have := (end_row_brk (step := st112_2) (fun i : Nat => (f : Int) - 1 - (i : Int)) f (fun i hi => ⟨_, hround i hi (h2 _ (by omega))⟩) hbrk (fuel := Nat.succ (mu112_2 ((f : Int), A, U, D) ((f : Int) - 1))) (by unfold mu112_2; omega)).2
    unfold R112_2
    simp only [← hw] at this
    rw [this, h1]
    rfl
  · have hret : st112_2 ((f : Int), A, U, D) ((f : Int) - 1 - ((f - 1 - k : Nat) : Int)) = .ret (true, be) := by
      unfold st112_2
      simp only
      rw [show (f : Int) - 1 - ((f - 1 - k : Nat) : Int) = (k : Int) by omega]
      have hd : decide ((k : Int) ≥ 0) = true := by simp
      have ha := ask_bit hS k
      rw [h2] at ha
      rw [hd, cond_true, wrap_u64_of (x := (k : Int)) (by omega) (by omega), ha, cond_true, wrap_i64_of (by omega) (by omega), h4]
    have := end_row_ret (step := st112_2) (fun i : Nat => (f : Int) - 1 - (i : Int)) (f - 1 - k) (fun i hi => ⟨_, hround i (by omega) (h3 _ (by omega) (by omega))⟩) hret (fuel := Nat.succ (mu112_2 ((f : Int), A, U, D) ((f : Int) - 1))) (by unfold mu112_2; omega)
    unfold R112_2
    simp only [← hw] at this
    rw [this]
    have : decide (0 < be) = true := by simp; omega
    rw [this]
    rfl

abbrev m2p (o : Int) : Bool := (IntKind.i64.wrap ((BitVec.ofInt IntKind.i64.bits (Int.fdiv o (2 ^ (min ((1 : Int)).toNat IntKind.i64.bits))) &&& BitVec.ofInt IntKind.i64.bits (1 : Int)).toNat : Int)) == (1 : Int)
abbrev m3p (o : Int) : Bool := (IntKind.i64.wrap ((BitVec.ofInt IntKind.i64.bits (Int.fdiv o (2 ^ (min ((2 : Int)).toNat IntKind.i64.bits))) &&& BitVec.ofInt IntKind.i64.bits (1 : Int)).toNat : Int)) == (1 : Int)
abbrev m2 (o : Int) : Bool := (IntKind.i64.wrap ((BitVec.ofInt IntKind.i64.bits o &&& BitVec.ofInt IntKind.i64.bits (2 : Int)).toNat : Int)) != (0 : Int)
abbrev m3 (o : Int) : Bool := (IntKind.i64.wrap ((BitVec.ofInt IntKind.i64.bits o &&& BitVec.ofInt IntKind.i64.bits (4 : Int)).toNat : Int)) != (0 : Int)
theorem m2_eq : ∀ o : Nat, o < 8 → m2p (o : Int) = m2 (o : Int) := by decide +kernel
theorem m3_eq : ∀ o : Nat, o < 8 → m3p (o : Int) = m3 (o : Int) := by decide +kernel
/-- Is there anything to do apart from what is marked? -/
def more (a u d : Bool) (ab be o : Int) : Bool := ((((a && (!(a && (o != 0)))) || (u && (!(u && m2 o)))) || (d && (!(d && m3 o)))) || decide (0 < ab)) || decide (0 < be)
def opd (a u d : Bool) (ab be o : Int) : Int := bif more a u d ab be o then o else 0
theorem without_val (a u d : Bool) (ab be : Int) (o : Nat) (ho : o < 8) : F119 (a, u, d, ab, be, (o : Int)) =
    ((a && (!(a && (opd a u d ab be o != 0))), u && (!(u && m2 (opd a u d ab be o))), d && (!(d && m3 (opd a u d ab be o))), ab, be, opd a u d ab be o),
      a && (opd a u d ab be o != 0), u && m2 (opd a u d ab be o), d && m3 (opd a u d ab be o), 0, 0, 0) := by
  have h : F119 (a, u, d, ab, be, (o : Int)) = bif ((((a && (!(a && ((o : Int) != 0)))) || (u && (!(u && m2p o)))) || (d && (!(d && m3p o)))) || decide (ab > 0)) || decide (be > 0) then
      ((a && (!(a && ((o : Int) != 0))), u && (!(u && m2p o)), d && (!(d && m3p o)), ab, be, (o : Int)), a && ((o : Int) != 0), u && m2p o, d && m3p o, 0, 0, 0) else ((a, u, d, ab, be, 0), false, false, false, 0, 0, 0) := rfl
  rw [h, m2_eq o ho, m3_eq o ho]
  show (bif more a u d ab be o then _ else _) = _
  unfold opd
  cases more a u d ab be o with
  | true => rfl
  | false =>
    rw [cond_false, cond_false]
    have h2 : m2 0 = false := by decide +kernel
    have h3 : m3 0 = false := by decide +kernel
    rw [h2, h3]
    cases a <;> cases u <;> cases d <;> rfl

theorem marked_val {A U D : Int} (hA : W A) (hU : W U) (hD : W D) (f : Nat) (hf : f < 32) (dir o : Int) : F113 ((dir, o), (f : Int), A, U, D) =
    (bif (bit A f && (o != 0)) then shl32 1 (f : Int) else 0, bif (bit U f && m2 o) then shl32 1 (f : Int) else 0, bif (bit D f && m3 o) then shl32 1 (f : Int) else 0) := by
  have h : F113 ((dir, o), (f : Int), A, U, D) = (bif (o != 0) then and32 A (shl32 1 (IntKind.u64.wrap (f : Int))) else 0, bif m2 o then and32 U (shl32 1 (IntKind.u64.wrap (f : Int))) else 0, bif m3 o then and32 D (shl32 1 (IntKind.u64.wrap (f : Int))) else 0) := by
    unfold F113
    unfold m2 m3
    simp only
    generalize ((IntKind.i64.wrap ((BitVec.ofInt IntKind.i64.bits o &&& BitVec.ofInt IntKind.i64.bits (2 : Int)).toNat : Int)) != (0 : Int)) = b2
    generalize ((IntKind.i64.wrap ((BitVec.ofInt IntKind.i64.bits o &&& BitVec.ofInt IntKind.i64.bits (4 : Int)).toNat : Int)) != (0 : Int)) = b3
    cases (o != 0) <;> cases b2 <;> cases b3 <;> rfl
  rw [h, wrap_u64_of (x := (f : Int)) (by omega) (by omega), and_shl hA f hf, and_shl hU f hf, and_shl hD f hf]
  generalize m2 o = b2
  generalize m3 o = b3
  generalize shl32 1 (f : Int) = q
  cases (o != 0) <;> cases b2 <;> cases b3 <;> cases bit A f <;> cases bit U f <;> cases bit D f <;> rfl
theorem mark_eq {A : Int} (hA : W A) (f : Nat) (hf : f < 32) (m : Bool) : ((bif (bit A f && m) then shl32 1 (f : Int) else 0) == A) = true ↔ (bit A f = true → m = true) ∧ ∀ i, i ≠ f → bit A i = false := by
  rw [beq_iff_eq]
  constructor
  · intro h
    refine ⟨fun hb => ?_, fun i hi => ?_⟩
    · cases m with
      | true => rfl
      | false =>
        rw [Bool.and_false, cond_false] at h
        rw [← h, bit_zero] at hb; cases hb
    · rcases Nat.lt_or_ge i 32 with h32 | h32
      · rw [← h]
        cases (bit A f && m) with
        | true => rw [cond_true, bit_one f i h32]; simpa using hi
        | false => exact bit_zero i
      · exact bit_hi hA h32
  · rintro ⟨h1, h2⟩
    refine W.ext (by cases (bit A f && m); exact W.zero; exact W_shl _ _) hA fun i hi => ?_
    by_cases hif : i = f
    · subst hif
      cases hb : bit A i with
      | true => rw [h1 hb]; simp [bit_one i i hi]
      | false => simp [bit_zero]
    · rw [h2 i hif]
      cases (bit A f && m) with
      | true => rw [cond_true, bit_one f i hi]; simpa using hif
      | false => exact bit_zero i
theorem counted_val {A U D : Int} (hA : W A) (hU : W U) (hD : W D) (f : Nat) (hf : f < 32) (dir o ab be : Int) (ha : AboveS (cS A U D) f ab) (hb : BelowS (cS A U D) f be) :
    F101 ((dir, o), (f : Int), A, U, D) = opd (bit A f) (bit U f) (bit D f) ab be o := by
  unfold F101 opd
  rw [marked_val hA hU hD f hf]
  have key : (((bif (bit A f && (o != 0)) then shl32 1 (f : Int) else 0) == A) && (((bif (bit U f && m2 o) then shl32 1 (f : Int) else 0) == U) && ((bif (bit D f && m3 o) then shl32 1 (f : Int) else 0) == D))) = !more (bit A f) (bit U f) (bit D f) ab be o := by
    rw [Bool.eq_iff_iff]
    rw [Bool.and_eq_true, Bool.and_eq_true, mark_eq hA f hf, mark_eq hU f hf, mark_eq hD f hf]
    unfold more
    simp only [Bool.not_eq_true', Bool.or_eq_false_iff, decide_eq_false_iff_not]
    rw [ha.none, hb.none]
    have hs : ∀ i, bit (cS A U D) i = false ↔ bit A i = false ∧ bit U i = false ∧ bit D i = false := fun i => by
      rcases Nat.lt_or_ge i 32 with h32 | h32
      · rw [bit_cS hA hU hD i h32]
        simp only [Bool.or_eq_false_iff]
        exact and_assoc
      · simp [bit_hi (W_cS A U D) h32, bit_hi hA h32, bit_hi hU h32, bit_hi hD h32]
    constructor
    · rintro ⟨⟨h1, h2⟩, ⟨h3, h4⟩, h5, h6⟩
      refine ⟨⟨⟨⟨?_, ?_⟩, ?_⟩, fun i hi => (hs i).2 ⟨h2 i (by omega), h4 i (by omega), h6 i (by omega)⟩⟩, fun i hi => (hs i).2 ⟨h2 i (by omega), h4 i (by omega), h6 i (by omega)⟩⟩
      · cases hx : bit A f with | false => rfl | true => rw [h1 hx]; rfl
      · cases hx : bit U f with | false => rfl | true => rw [h3 hx]; rfl
      · cases hx : bit D f with | false => rfl | true => rw [h5 hx]; rfl
    · rintro ⟨⟨⟨⟨h1, h2⟩, h3⟩, h4⟩, h5⟩
      have hne : ∀ i, i ≠ f → bit A i = false ∧ bit U i = false ∧ bit D i = false := fun i hi => by
        rcases Nat.lt_or_ge i f with h | h
        · exact (hs i).1 (h5 i h)
        · exact (hs i).1 (h4 i (by omega))
      refine ⟨⟨fun hx => ?_, fun i hi => (hne i hi).1⟩, ⟨fun hx => ?_, fun i hi => (hne i hi).2.1⟩, ⟨fun hx => ?_, fun i hi => (hne i hi).2.2⟩⟩
      · rw [hx] at h1; cases hm : (o != 0) with | true => rfl | false => rw [hm] at h1; cases h1
      · rw [hx] at h2; cases hm : m2 o with | true => rfl | false => rw [hm] at h2; cases h2
      · rw [hx] at h3; cases hm : m3 o with | true => rfl | false => rw [hm] at h3; cases h3
  show (bif (((bif (bit A f && (o != 0)) then shl32 1 (f : Int) else 0) == A) && (((bif (bit U f && m2 o) then shl32 1 (f : Int) else 0) == U) && ((bif (bit D f && m3 o) then shl32 1 (f : Int) else 0) == D))) then 0 else o) = _
  rw [key]
  cases more (bit A f) (bit U f) (bit D f) ab be o <;> rfl

/-- Arguments in order. -/
structure Ok (n f : Nat) (dir o : Int) (c u d : Int) : Prop where
  n2 : 2 ≤ n
  n32 : n ≤ 32
  f : f < n
  dir : 0 ≤ dir ∧ dir ≤ 2
  o : 0 ≤ o ∧ o ≤ 7
  c : W c
  u : W u
  d : W d
theorem Ok.proper {n f : Nat} {dir o c u d : Int} (h : Ok n f dir o c u d) : F107 ((n : Int), (dir, o), (f : Int)) = true := by
  have := h.n2; have := h.n32; have := h.f; have := h.dir; have := h.o
  unfold F107 F46
  simp only [Bool.and_eq_true, decide_eq_true_eq]
  omega
theorem Ok.guard {n f : Nat} {dir o c u d : Int} (h : Ok n f dir o c u d) : (((((decide ((n : Int) < (2 : Int))) || (decide ((n : Int) > (32 : Int)))) || (decide ((f : Int) < (0 : Int)))) || (decide ((f : Int) ≥ (n : Int)))) || (!(F94 (dir, o)))) = false := by
  have := h.n2; have := h.n32; have := h.f; have := h.dir; have := h.o
  unfold F94
  simp only [Bool.or_eq_false_iff, Bool.not_eq_false', Bool.and_eq_true, decide_eq_true_eq, decide_eq_false_iff_not]
  omega
theorem cA_idem (n : Nat) (hn : n ≤ 32) (c : Int) (hc : W c) : cA n (cA n c) = cA n c := by
  refine W.ext (W_and _ _) (W_and _ _) fun i hi => ?_
  rw [bit_and (W_and _ _).1 (W_allm _).1 i hi, bit_and hc.1 (W_allm _).1 i hi, Bool.and_assoc, Bool.and_self]
theorem and_idem (x y : Int) (hx : W x) (hy : W y) : and32 (and32 x y) y = and32 x y := by
  refine W.ext (W_and _ _) (W_and _ _) fun i hi => ?_
  rw [bit_and (W_and _ _).1 hy.1 i hi, bit_and hx.1 hy.1 i hi, Bool.and_assoc, Bool.and_self]

/-- What a choice depends on. -/
structure Sc (n f : Nat) (o c u d ab be : Int) : Prop where
  ab : AboveS (cS (cA n c) (cU n u) (cD n d)) f ab
  be : BelowS (cS (cA n c) (cU n u) (cD n d)) f be
abbrev oo (n f : Nat) (o c u d ab be : Int) : Int := opd (bit (cA n c) f) (bit (cU n u) f) (bit (cD n d) f) ab be o
abbrev rc (n f : Nat) (o c u d ab be : Int) : Bool := bit (cA n c) f && (!(bit (cA n c) f && (oo n f o c u d ab be != 0)))
abbrev ru (n f : Nat) (o c u d ab be : Int) : Bool := bit (cU n u) f && (!(bit (cU n u) f && m2 (oo n f o c u d ab be)))
abbrev rd (n f : Nat) (o c u d ab be : Int) : Bool := bit (cD n d) f && (!(bit (cD n d) f && m3 (oo n f o c u d ab be)))
theorem scene {n f : Nat} {dir o c u d : Int} (h : Ok n f dir o c u d) : ∃ ab be, Sc n f o c u d ab be ∧ F119 (F118 ((n : Int), (dir, o), (f : Int), c, u, d)) =
    ((rc n f o c u d ab be, ru n f o c u d ab be, rd n f o c u d ab be, ab, be, oo n f o c u d ab be), bit (cA n c) f && (oo n f o c u d ab be != 0), bit (cU n u) f && m2 (oo n f o c u d ab be), bit (cD n d) f && m3 (oo n f o c u d ab be), 0, 0, 0) := by
  obtain ⟨ab, be, h1, h2, h3⟩ := look_val n f h.n32 h.f (dir, o) c u d h.c
  refine ⟨ab, be, ⟨h1, h2⟩, ?_⟩
  rw [h3]
  obtain ⟨o', rfl⟩ := Int.eq_ofNat_of_zero_le h.o.1
  exact without_val _ _ _ ab be o' (by have := h.o; omega)
theorem uwrap (f : Nat) (hf : f < 32) : IntKind.u64.wrap (f : Int) = (f : Int) := wrap_u64_of (by omega) (by omega)
theorem rhas_up {U D : Int} (hU : W U) (f : Nat) (hf : f < 32) : F110 ((U, D), (f : Int), 1) = bit U f := by
  unfold F110
  have hb : (decide ((f : Int) < 0) || decide ((f : Int) > 31)) = false := by simp; omega
  simp only
  rw [hb, cond_false, uwrap f hf, show ((1 : Int) == 1) = true from rfl, show ((1 : Int) == 2) = false from rfl, Bool.true_and, Bool.false_and, Bool.or_false]
  exact ask_bit hU f
theorem rhas_down {U D : Int} (hD : W D) (f : Nat) (hf : f < 32) : F110 ((U, D), (f : Int), 2) = bit D f := by
  unfold F110
  have hb : (decide ((f : Int) < 0) || decide ((f : Int) > 31)) = false := by simp; omega
  simp only
  rw [hb, cond_false, uwrap f hf, show ((2 : Int) == 1) = false from rfl, show ((2 : Int) == 2) = true from rfl, Bool.true_and, Bool.false_and, Bool.false_or]
  exact ask_bit hD f
def near (ab be : Int) : Int := bif (decide (0 < ab) && ((!decide (0 < be)) || decide (be ≥ ab))) then 1 else bif decide (0 < be) then 2 else 0
theorem rspent {n f : Nat} {dir o c u d ab be : Int} (h : Ok n f dir o c u d) (s : Sc n f o c u d ab be) : F109 ((n : Int), (dir, o), (f : Int), cA n c, cU n u, cD n d) =
    (bif (bit (cA n c) f && (oo n f o c u d ab be != 0)) then shl32 1 (f : Int) else 0, bif (bit (cU n u) f && m2 (oo n f o c u d ab be)) then shl32 1 (f : Int) else 0, bif (bit (cD n d) f && m3 (oo n f o c u d ab be)) then shl32 1 (f : Int) else 0) := by
  have hn := h.n2; have hf := h.f; have h32 := h.n32
  have hp : F96 ((n : Int), cA n c, cU n u, cD n d) = (cA n c, cU n u, cD n d) := by
    rw [proper_val n (by omega) h32 _ _ _ (W_and _ _) (W_and _ _)]
    exact Prod.ext (and_idem _ _ h.c (W_allm _)) (Prod.ext (and_idem _ _ h.u (W_shr (W_allm _) 1 (by omega))) (and_idem _ _ h.d (W_nand _ _)))
  unfold F109
  simp only
  rw [h.guard, cond_false, hp]
  try simp only
  rw [counted_val (W_and _ _) (W_and _ _) (W_and _ _) f (by omega) dir o ab be s.ab s.be, marked_val (W_and _ _) (W_and _ _) (W_and _ _) f (by omega)]
theorem rspent' {n f : Nat} {dir o c u d ab be : Int} (h : Ok n f dir o c u d) (s : Sc n f o c u d ab be) : F109 ((n : Int), (dir, o), (f : Int), c, u, d) =
    (bif (bit (cA n c) f && (oo n f o c u d ab be != 0)) then shl32 1 (f : Int) else 0, bif (bit (cU n u) f && m2 (oo n f o c u d ab be)) then shl32 1 (f : Int) else 0, bif (bit (cD n d) f && m3 (oo n f o c u d ab be)) then shl32 1 (f : Int) else 0) := by
  have hn := h.n2; have hf := h.f; have h32 := h.n32
  unfold F109
  simp only
  rw [h.guard, cond_false, proper_val n (by omega) h32 _ _ _ h.u h.d]
  try simp only
  rw [counted_val (W_and _ _) (W_and _ _) (W_and _ _) f (by omega) dir o ab be s.ab s.be, marked_val (W_and _ _) (W_and _ _) (W_and _ _) f (by omega)]
theorem live_bit {A : Int} (hA : W A) (f : Nat) (hf : f < 32) (m : Bool) : bit (nand32 A (bif (bit A f && m) then shl32 1 (f : Int) else 0)) f = (bit A f && (!(bit A f && m))) := by
  have hW : W (bif (bit A f && m) then shl32 1 (f : Int) else 0) := by cases (bit A f && m); exact W.zero; exact W_shl _ _
  rw [bit_nand hA.1 hW.1 f hf]
  cases (bit A f && m) with
  | true => rw [cond_true, bit_one f f hf]; simp
  | false => rw [cond_false, bit_zero]
theorem rlook {n f : Nat} {dir o c u d ab be : Int} (h : Ok n f dir o c u d) (s : Sc n f o c u d ab be) : F95 ((n : Int), (dir, o), (f : Int), cA n c, cU n u, cD n d) =
    (ru n f o c u d ab be, rd n f o c u d ab be, rc n f o c u d ab be, decide (0 < ab), decide (0 < be), near ab be) := by
  have hn := h.n2; have hf := h.f; have h32 := h.n32
  unfold F95
  simp only
  rw [rspent h s, above_val f (by omega) s.ab, below_val f (by omega) s.be, uwrap f (by omega)]
  simp only
  have e1 : F65 ((cU n u, cD n d), (bif (bit (cU n u) f && m2 (oo n f o c u d ab be)) then shl32 1 (f : Int) else 0), (bif (bit (cD n d) f && m3 (oo n f o c u d ab be)) then shl32 1 (f : Int) else 0)) =
      (nand32 (cU n u) (bif (bit (cU n u) f && m2 (oo n f o c u d ab be)) then shl32 1 (f : Int) else 0), nand32 (cD n d) (bif (bit (cD n d) f && m3 (oo n f o c u d ab be)) then shl32 1 (f : Int) else 0)) := rfl
  rw [e1, rhas_up (W_nand _ _) f (by omega), rhas_down (W_nand _ _) f (by omega), live_bit (W_and _ _) f (by omega), live_bit (W_and _ _) f (by omega)]
  have e2 := ask_bit (W_nand (cA n c) (bif (bit (cA n c) f && (oo n f o c u d ab be != 0)) then shl32 1 (f : Int) else 0)) f
  rw [live_bit (W_and _ _) f (by omega)] at e2
  rw [e2]
  unfold near
  cases (decide (0 < ab) && ((!decide (0 < be)) || decide (be ≥ ab))) with
  | true => rfl
  | false =>
    rw [cond_false, cond_false]
    cases decide (0 < be) <;> rfl

theorem rising_ref (c u d : Bool) (ab be o : Int) : F121 (c, u, d, ab, be, o) =
    bif (F97 (1, 2, c, u, d, decide (0 < ab), decide (0 < be))).2 then (F97 (1, 2, c, u, d, decide (0 < ab), decide (0 < be))).1 else F98 (2, d, decide (0 < be)) := by
  unfold F121 F122 F97 F98 F127
  simp only [gt_iff_lt]
  generalize decide (0 < ab) = a
  generalize decide (0 < be) = b
  cases c <;> cases u <;> cases d <;> cases a <;> cases b <;> rfl
theorem falling_ref (c u d : Bool) (ab be o : Int) : F122 (c, u, d, ab, be, o) =
    bif (F97 (2, 1, c, d, u, decide (0 < be), decide (0 < ab))).2 then (F97 (2, 1, c, d, u, decide (0 < be), decide (0 < ab))).1 else F98 (1, u, decide (0 < ab)) := by
  unfold F122 F97 F98 F127
  simp only [gt_iff_lt]
  generalize decide (0 < ab) = a
  generalize decide (0 < be) = b
  cases c <;> cases u <;> cases d <;> cases a <;> cases b <;> rfl
theorem near_eq (c u d : Bool) (ab be o : Int) (ha : 0 ≤ ab) (hb : 0 ≤ be) : F125 (c, u, d, ab, be, o) = near ab be := by
  unfold F125 near
  simp only [gt_iff_lt]
  have : (be == 0) = !decide (0 < be) := by
    rw [Bool.eq_iff_iff]; simp; omega
  rw [this]
theorem near_cases (ab be : Int) : near ab be = 0 ∨ near ab be = 1 ∨ near ab be = 2 := by
  unfold near
  cases (decide (0 < ab) && ((!decide (0 < be)) || decide (be ≥ ab))) with
  | true => exact .inr (.inl rfl)
  | false =>
    rw [cond_false]
    cases decide (0 < be) with
    | true => exact .inr (.inr rfl)
    | false => exact .inl rfl
theorem resting_ref (c u d : Bool) (ab be o : Int) (ha : 0 ≤ ab) (hb : 0 ≤ be) : F120 (c, u, d, ab, be, o) =
    bif u then F99 1 else bif d then F99 2 else bif c then F99 (near ab be) else F100 (near ab be) := by
  unfold F120
  rw [near_eq c u d ab be o ha hb]
  unfold F100
  rcases near_cases ab be with h | h | h <;> rw [h] <;> cases c <;> cases u <;> cases d <;> rfl

section
variable {n f : Nat} {dir o c u d : Int}
theorem choose_val (h : Ok n f dir o c u d) : ∃ ab be, Sc n f o c u d ab be ∧ F108 ((n : Int), (dir, o), (f : Int), c, u, d) = (F69 ((n : Int), (dir, o), (f : Int), c, u, d), oo n f o c u d ab be) := by
  obtain ⟨ab, be, s, hv⟩ := scene h
  refine ⟨ab, be, s, ?_⟩
  unfold F108 F69 K69_1 K69_2
  rw [hv]
  simp only
  rw [h.guard, cond_false, proper_val n (by have := h.n2; omega) h.n32 _ _ _ h.u h.d, rlook h s]
  simp only
  have hd : dir = 0 ∨ dir = 1 ∨ dir = 2 := by have := h.dir; omega
  refine Prod.ext ?_ rfl
  rcases hd with rfl | rfl | rfl
  · rw [rules0, resting_ref _ _ _ _ _ _ s.ab.nn s.be.nn]; rfl
  · rw [rules1, rising_ref]; rfl
  · rw [rules2, falling_ref]; rfl
theorem Choose_eq (h : Ok n f dir o c u d) : F92 ((n : Int), (dir, o), (f : Int), c, u, d) = F69 ((n : Int), (dir, o), (f : Int), c, u, d) := by
  obtain ⟨ab, be, s, hv⟩ := choose_val h
  unfold F92
  simp only
  rw [h.proper, hv]; rfl
theorem Next_eq (h : Ok n f dir o c u d) : F93 ((n : Int), (dir, o), (f : Int), c, u, d) = F70 ((n : Int), (dir, o), (f : Int), c, u, d) := by
  obtain ⟨ab, be, s, hv⟩ := choose_val h
  have hb := choose_bd ((n : Int), (dir, o), (f : Int), c, u, d) h.dir.1 h.dir.2
  rw [hv] at hb
  simp only at hb
  unfold F93 F70
  simp only
  rw [h.proper, hv, h.guard, cond_false, proper_val n (by have := h.n2; omega) h.n32 _ _ _ h.u h.d]
  simp only
  rw [counted_val (W_and _ _) (W_and _ _) (W_and _ _) f (by have := h.f; have := h.n32; omega) dir o ab be s.ab s.be]
  rw [wrap_u64_of (x := (F69 ((n : Int), (dir, o), (f : Int), c, u, d)).2.2) (by omega) (by omega)]
  generalize F69 ((n : Int), (dir, o), (f : Int), c, u, d) = C
  rw [Bool.not_true, cond_false]
  cases h3 : (C.1 == 3) with
  | true => rw [show (C.1 != 3) = false from by rw [bne, h3]; rfl]; rfl
  | false => rw [show (C.1 != 3) = true from by rw [bne, h3]; rfl]; rfl
end
theorem proper_guard (n : Int) (w : Int × Int) (f : Int) : (((((decide (n < (2 : Int))) || (decide (n > (32 : Int)))) || (decide (f < (0 : Int)))) || (decide (f ≥ n))) || (!(F94 w))) = !F107 (n, w, f) := by
  rw [Bool.eq_iff_iff]
  unfold F94 F107 F46
  simp only [Bool.or_eq_true, Bool.not_eq_true', Bool.and_eq_false_iff, decide_eq_true_eq, decide_eq_false_iff_not]
  omega
theorem both_all (n dir o f c u d : Int) (hc : W c) (hu : W u) (hd : W d) : F92 (n, (dir, o), f, c, u, d) = F69 (n, (dir, o), f, c, u, d) ∧ F93 (n, (dir, o), f, c, u, d) = F70 (n, (dir, o), f, c, u, d) := by
    cases hp : F107 (n, (dir, o), f) with
    | false =>
      have hg := proper_guard n (dir, o) f
      rw [hp] at hg
      refine ⟨?_, ?_⟩
      · unfold F92 F69
        simp only
        rw [hp, hg]; rfl
      · unfold F93 F70
        simp only
        rw [hp, hg]; rfl
    | true =>
      unfold F107 F46 at hp
      simp only [Bool.and_eq_true, decide_eq_true_eq] at hp
      obtain ⟨n', rfl⟩ := Int.eq_ofNat_of_zero_le (show 0 ≤ n by omega)
      obtain ⟨f', rfl⟩ := Int.eq_ofNat_of_zero_le (show 0 ≤ f by omega)
      have hok : Ok n' f' dir o c u d := ⟨by omega, by omega, by omega, by omega, by omega, hc, hu, hd⟩
      exact ⟨Choose_eq hok, Next_eq hok⟩
theorem W_of {x : Int} (h : (Lit.int .u32 x).wf = true) : W x := by
  simp only [Lit.wf, Bool.and_eq_true, decide_eq_true_eq] at h
  have h1 : (0 : Int) ≤ x := h.1
  have h2 : x ≤ (4294967295 : Int) := h.2
  unfold W; omega
def chR (dir : Int) (c u d a b l : Bool) : Int × Int × Int :=
  bif dir == 1 then (bif (F97 (1, 2, c, u, d, a, b)).2 then (F97 (1, 2, c, u, d, a, b)).1 else F98 (2, d, b))
  else bif dir == 2 then (bif (F97 (2, 1, c, d, u, b, a)).2 then (F97 (2, 1, c, d, u, b, a)).1 else F98 (1, u, a))
  else bif u then F99 1 else bif d then F99 2 else bif c then F99 (bif a && (!b || l) then 1 else bif b then 2 else 0) else F100 (bif a && (!b || l) then 1 else bif b then 2 else 0)
/-- What counts as opened. -/
def chO (o : Int) (A U D a b : Bool) : Int := bif ((((A && (!(A && (o != 0)))) || (U && (!(U && m2 o)))) || (D && (!(D && m3 o)))) || a) || b then o else 0
def ch (dir o : Int) (A U D a b l : Bool) : Int × Int × Int :=
  chR dir (A && !(A && (chO o A U D a b != 0))) (U && !(U && m2 (chO o A U D a b))) (D && !(D && m3 (chO o A U D a b))) a b l
/-- The state behind it. -/
def chN (dir o : Int) (A U D a b l : Bool) : Int × Int :=
  bif (ch dir o A U D a b l).1 == 3 then ((ch dir o A U D a b l).2.1, (IntKind.i64.wrap ((BitVec.ofInt IntKind.i64.bits (chO o A U D a b) ||| BitVec.ofInt IntKind.i64.bits (IntKind.i64.wrap ((1 : Int) * (2 ^ (min (IntKind.u64.wrap (ch dir o A U D a b l).2.2).toNat IntKind.i64.bits))))).toNat : Int))) else ((ch dir o A U D a b l).2.1, 0)

section
variable {n f : Nat} {dir o c u d : Int}
theorem choose_ch (h : Ok n f dir o c u d) : ∃ ab be, Sc n f o c u d ab be ∧ F108 ((n : Int), (dir, o), (f : Int), c, u, d) =
    (ch dir o (bit (cA n c) f) (bit (cU n u) f) (bit (cD n d) f) (decide (0 < ab)) (decide (0 < be)) (decide (be ≥ ab)), chO o (bit (cA n c) f) (bit (cU n u) f) (bit (cD n d) f) (decide (0 < ab)) (decide (0 < be))) := by
  obtain ⟨ab, be, s, hv⟩ := scene h
  refine ⟨ab, be, s, ?_⟩
  unfold F108
  rw [hv]
  simp only
  have hd : dir = 0 ∨ dir = 1 ∨ dir = 2 := by have := h.dir; omega
  refine Prod.ext ?_ rfl
  rcases hd with rfl | rfl | rfl
  · rw [rules0, resting_ref _ _ _ _ _ _ s.ab.nn s.be.nn]; rfl
  · rw [rules1, rising_ref]; rfl
  · rw [rules2, falling_ref]; rfl
theorem Choose_ch (h : Ok n f dir o c u d) : ∃ ab be, Sc n f o c u d ab be ∧
    F92 ((n : Int), (dir, o), (f : Int), c, u, d) = ch dir o (bit (cA n c) f) (bit (cU n u) f) (bit (cD n d) f) (decide (0 < ab)) (decide (0 < be)) (decide (be ≥ ab)) ∧
    F93 ((n : Int), (dir, o), (f : Int), c, u, d) = chN dir o (bit (cA n c) f) (bit (cU n u) f) (bit (cD n d) f) (decide (0 < ab)) (decide (0 < be)) (decide (be ≥ ab)) := by
  obtain ⟨ab, be, s, hv⟩ := choose_ch h
  have hb := choose_bd ((n : Int), (dir, o), (f : Int), c, u, d) h.dir.1 h.dir.2
  refine ⟨ab, be, s, ?_, ?_⟩
  · unfold F92
    simp only
    rw [h.proper, hv]; rfl
  · unfold F93 chN
    simp only
    rw [h.proper, hv]
    rw [hv] at hb
    simp only at hb ⊢
    generalize hC : ch dir o (bit (cA n c) f) (bit (cU n u) f) (bit (cD n d) f) (decide (0 < ab)) (decide (0 < be)) (decide (be ≥ ab)) = C at hb ⊢
    rw [wrap_u64_of (x := C.2.2) (by omega) (by omega), Bool.not_true, cond_false]
    cases h3 : (C.1 == 3) with
    | true => rw [show (C.1 != 3) = false from by rw [bne, h3]; rfl]; rfl
    | false => rw [show (C.1 != 3) = true from by rw [bne, h3]; rfl]; rfl
/-- Above and below. -/
theorem Sc.up_iff {ab be : Int} (s : Sc n f o c u d ab be) : (decide (0 < ab) = true) ↔ ∃ i, f < i ∧ bit (cS (cA n c) (cU n u) (cD n d)) i = true := by
  rw [decide_eq_true_eq]
  rcases s.ab with ⟨h1, h2⟩ | ⟨k, h1, h2, _, h4⟩
  · exact ⟨fun h => by omega, fun ⟨i, hi, hb⟩ => by rw [h2 i hi] at hb; cases hb⟩
  · exact ⟨fun _ => ⟨k, h1, h2⟩, fun _ => by omega⟩
theorem Sc.down_iff {ab be : Int} (s : Sc n f o c u d ab be) : (decide (0 < be) = true) ↔ ∃ i, i < f ∧ bit (cS (cA n c) (cU n u) (cD n d)) i = true := by
  rw [decide_eq_true_eq]
  rcases s.be with ⟨h1, h2⟩ | ⟨k, h1, h2, _, h4⟩
  · exact ⟨fun h => by omega, fun ⟨i, hi, hb⟩ => by rw [h2 i hi] at hb; cases hb⟩
  · exact ⟨fun _ => ⟨k, h1, h2⟩, fun _ => by omega⟩
theorem bit_cA (hn : n ≤ 32) (hc : W c) (i : Nat) : bit (cA n c) i = (bit c i && decide (i < n)) := by
  rcases Nat.lt_or_ge i 32 with hi | hi
  · rw [bit_and hc.1 (W_allm _).1 i hi, bit_allm n i hn]
  · rw [bit_hi (W_and _ _) hi, bit_hi hc hi, Bool.false_and]
theorem bit_cU (hn : n ≤ 32) (hu : W u) (i : Nat) : bit (cU n u) i = (bit u i && decide (i + 1 < n)) := by
  rcases Nat.lt_or_ge i 32 with hi | hi
  · have e : bit (shr32 (allm (n : Int)) 1) i = bit (allm (n : Int)) (1 + i) := bit_shr (W_allm _) 1 i
    rw [bit_and hu.1 (W_shr (W_allm _) _ (by omega)).1 i hi, e, bit_allm n _ hn, Nat.add_comm 1 i]
  · rw [bit_hi (W_and _ _) hi, bit_hi hu hi, Bool.false_and]
theorem bit_cD (hn : n ≤ 32) (hd : W d) (i : Nat) : bit (cD n d) i = (bit d i && decide (0 < i ∧ i < n)) := by
  rcases Nat.lt_or_ge i 32 with hi | hi
  · rw [bit_and hd.1 (W_nand _ _).1 i hi, bit_nand (W_allm _).1 (by omega) i hi, bit_allm n _ hn, bit1 i hi]
    congr 1
    rw [Bool.eq_iff_iff]; simp; omega
  · rw [bit_hi (W_and _ _) hi, bit_hi hd hi, Bool.false_and]
end

/-! What the choice does, at every combination. -/
set_option synthInstance.maxHeartbeats 400000
set_option synthInstance.maxSize 4096
theorem S1 : ∀ dir, dir < 3 → ∀ o, o < 8 → ∀ A U D a b l : Bool, (a || b) = true →
    (ch ((dir : Nat) : Int) ((o : Nat) : Int) A U D a b l = (1, 1, 0) ∧ a = true ∧ ¬ (dir = 2 ∧ b = true) ∧ chN dir o A U D a b l = (1, 0)) ∨
    (ch dir o A U D a b l = (2, 2, 0) ∧ b = true ∧ ¬ (dir = 1 ∧ a = true) ∧ chN dir o A U D a b l = (2, 0)) ∨
    (ch dir o A U D a b l = (3, 1, 1) ∧ o % 4 < 2 ∧ ¬ (dir = 2 ∧ b = true) ∧ chN dir o A U D a b l = (1, (o : Int) + 2)) ∨
    (ch dir o A U D a b l = (3, 2, 2) ∧ o < 4 ∧ ¬ (dir = 1 ∧ a = true) ∧ chN dir o A U D a b l = (2, (o : Int) + 4)) := by decide +kernel
theorem S2u : ∀ dir, dir < 3 → ∀ o, o < 8 → ∀ A D a b l : Bool,
    ch ((dir : Nat) : Int) ((o : Nat) : Int) A true D a b l = (3, 1, 1) ∨
    (¬ (o % 4 < 2 ∧ dir ≠ 2) ∧ ch dir o A true D a b l = (3, 2, 2) ∧ o < 4 ∧ chN dir o A true D a b l = (2, (o : Int) + 4)) ∨
    (¬ (o % 4 < 2) ∧ ¬ (o < 4) ∧ ch dir o A true D a b l = (3, 2, 2) ∧ chN dir o A true D a b l = (2, 4)) ∨
    (¬ (o % 4 < 2 ∧ dir ≠ 2) ∧ ch dir o A true D a b l = (2, 2, 0) ∧ b = true ∧ chN dir o A true D a b l = (2, 0)) ∨
    (¬ (o % 4 < 2) ∧ ch dir o A true D a b l = (1, 1, 0) ∧ a = true ∧ chN dir o A true D a b l = (1, 0)) := by decide +kernel
theorem S2d : ∀ dir, dir < 3 → ∀ o, o < 8 → ∀ A U a b l : Bool,
    ch ((dir : Nat) : Int) ((o : Nat) : Int) A U true a b l = (3, 2, 2) ∨
    (¬ (o < 4 ∧ dir = 2) ∧ ch dir o A U true a b l = (3, 1, 1) ∧ o % 4 < 2 ∧ chN dir o A U true a b l = (1, (o : Int) + 2)) ∨
    (¬ (o < 4) ∧ ¬ (o % 4 < 2) ∧ ch dir o A U true a b l = (3, 1, 1) ∧ chN dir o A U true a b l = (1, 2)) ∨
    (¬ (o < 4 ∧ dir ≠ 1) ∧ ch dir o A U true a b l = (1, 1, 0) ∧ a = true ∧ chN dir o A U true a b l = (1, 0)) ∨
    (¬ (o < 4) ∧ ch dir o A U true a b l = (2, 2, 0) ∧ b = true ∧ chN dir o A U true a b l = (2, 0)) := by decide +kernel
theorem S3 : ∀ dir, dir < 3 → ∀ o, o < 8 → ∀ U D a b l : Bool,
    (ch ((dir : Nat) : Int) ((o : Nat) : Int) true U D a b l).1 = 3 ∨
    (o ≠ 0 ∧ ch dir o true U D a b l = (2, 2, 0) ∧ b = true ∧ chN dir o true U D a b l = (2, 0)) ∨
    (o ≠ 0 ∧ ch dir o true U D a b l = (1, 1, 0) ∧ a = true ∧ chN dir o true U D a b l = (1, 0)) := by decide +kernel
/-- What a move is for. -/
def okM (t e a b A U D : Bool) (o : Nat) (c : Int × Int × Int) : Bool :=
  (c.1 == 1 && (a && c.2.1 == 1 && c.2.2 == 0)) || (c.1 == 2 && (b && c.2.1 == 2 && c.2.2 == 0)) ||
  (c.1 == 3 && ((A || U || D) && c.2.1 == c.2.2 && !(c.2.2 == 1 && t) && !(c.2.2 == 2 && e) && !((a || b) && o.testBit c.2.2.toNat) && (0 ≤ c.2.2 && c.2.2 ≤ 2))) ||
  (c.1 == 0 && (!(A || U || D) && !a && !b && c == (0, 0, 0)))
theorem S4 : ∀ dir, dir < 3 → ∀ o, o < 8 → ∀ t e A U D a b l : Bool, (t && (U || a)) = false → (e && (D || b)) = false → okM t e a b A U D o (ch ((dir : Nat) : Int) ((o : Nat) : Int) A U D a b l) = true := by decide +kernel
/-- Up and down are alike. -/
def mirD (d : Int) : Int := bif d == 1 then 2 else bif d == 2 then 1 else d
def mirO (o : Nat) : Nat := o % 2 + (o / 2 % 2) * 4 + (o / 4 % 2) * 2
theorem S5 : ∀ o, o < 8 → ∀ A U D a b l l' : Bool,
    ch 2 ((mirO o : Nat) : Int) A D U b a l' = (mirD (ch 1 ((o : Nat) : Int) A U D a b l).1, mirD (ch 1 o A U D a b l).2.1, mirD (ch 1 o A U D a b l).2.2) ∧
    ch 1 (mirO o) A D U b a l' = (mirD (ch 2 o A U D a b l).1, mirD (ch 2 o A U D a b l).2.1, mirD (ch 2 o A U D a b l).2.2) := by decide +kernel
theorem S6 : ∀ dir, dir < 3 → ∀ o, o < 8 → ∀ A U D a b l : Bool,
    0 ≤ (ch ((dir : Nat) : Int) ((o : Nat) : Int) A U D a b l).1 ∧ (ch ((dir : Nat) : Int) ((o : Nat) : Int) A U D a b l).1 ≤ 3 ∧ 0 ≤ (ch ((dir : Nat) : Int) ((o : Nat) : Int) A U D a b l).2.1 ∧ (ch ((dir : Nat) : Int) ((o : Nat) : Int) A U D a b l).2.1 ≤ 2 ∧ 0 ≤ (ch ((dir : Nat) : Int) ((o : Nat) : Int) A U D a b l).2.2 ∧ (ch ((dir : Nat) : Int) ((o : Nat) : Int) A U D a b l).2.2 ≤ 2 := by decide +kernel
end Go.Proofs.YtpbljgpdhllklaaDoor.Sp
end

section
/- Which floors and directions are hall calls (own work; out of BuF, BuG and BuK, without the program's own IsCall). -/
namespace Go.Proofs.YtpbljgpdhllklaaDoor.Sp
open Go Sy
set_option linter.unusedVariables false
set_option linter.unusedSimpArgs false
instance (b : BldT) : Decidable (IsB b) := decidable_of_iff (vld b = 0) (vld_zero b)
theorem valid_cond (b : BldT) (hl : b.cars.length ≤ maxLen) : (F44 b != 0) = decide (¬ IsB b) := by
  rw [valid_eq b hl]
  by_cases h : IsB b
  · rw [(vld_zero b).2 h]; simp [h]
  · have : vld b ≠ 0 := fun h2 => h ((vld_zero b).1 h2)
    simp [h, this]
theorem rvalid_cond (b : BldT) (hl : b.cars.length ≤ maxLen) : (F52 b != 0) = decide (¬ IsB b) := by
  rw [rvalid_eq b hl, ← valid_eq b hl]; exact valid_cond b hl
def callOk (fl f d : Int) : Bool := ((d == 1) && (decide (0 ≤ f) && decide (f ≤ fl - 2))) || ((d == 2) && (decide (1 ≤ f) && decide (f ≤ fl - 1)))
theorem riscall_eq (b : BldT) (f d : Int) (hl : b.cars.length ≤ maxLen) : F68 (b, f, d) = (decide (IsB b) && callOk b.1 f d) := by
  unfold F68
  simp only [rvalid_cond b hl]
  by_cases hB : IsB b
  · have h1 := hB.fl
    simp only [hB, decide_true, not_true, decide_false, Bool.true_and, cond_false]
    unfold callOk
    simp only [in_eq]
    rw [wrap_i64_of (x := b.1 - 2) (by omega) (by omega), wrap_i64_of (x := b.1 - 1) (by omega) (by omega)]
  · simp [hB]
/-- The hall calls of so many floors. -/
def hallT (fl : Int) : Int × Int :=
  ((IntKind.u32.wrap ((IntKind.u32.wrap ((1 : Int) * 2 ^ (min ((IntKind.i64.wrap (fl - (1 : Int)))).toNat IntKind.u32.bits))) - (1 : Int))), (IntKind.u32.wrap ((IntKind.u32.wrap ((IntKind.u32.wrap ((1 : Int) * 2 ^ (min ((IntKind.i64.wrap (fl - (1 : Int)))).toNat IntKind.u32.bits))) - (1 : Int))) * 2 ^ (min ((1 : Int)).toNat IntKind.u32.bits))))
theorem hall_eq (b : BldT) (hl : b.cars.length ≤ maxLen) : F36 b = if IsB b then hallT b.1 else (0, 0) := by
  unfold F36
  simp only [valid_cond b hl]
  by_cases hB : IsB b <;> simp [hB, hallT]
def hstep (fl : Int) (x : Int × Int × Int) : BOut Unit (Int × Int × Int) (Int × Int) :=
  bif (decide (x.1 < (32 : Int))) then
    (bif callOk fl x.1 1 then
      (bif callOk fl x.1 2 then
        BOut.next () ((IntKind.i64.wrap (x.1 + (1 : Int))), (IntKind.u32.wrap ((BitVec.ofInt IntKind.u32.bits x.2.1 ||| BitVec.ofInt IntKind.u32.bits (IntKind.u32.wrap ((1 : Int) * 2 ^ (min ((IntKind.u64.wrap x.1)).toNat IntKind.u32.bits)))).toNat : Int)), (IntKind.u32.wrap ((BitVec.ofInt IntKind.u32.bits x.2.2 ||| BitVec.ofInt IntKind.u32.bits (IntKind.u32.wrap ((1 : Int) * 2 ^ (min ((IntKind.u64.wrap x.1)).toNat IntKind.u32.bits)))).toNat : Int)))
      else
        BOut.next () ((IntKind.i64.wrap (x.1 + (1 : Int))), (IntKind.u32.wrap ((BitVec.ofInt IntKind.u32.bits x.2.1 ||| BitVec.ofInt IntKind.u32.bits (IntKind.u32.wrap ((1 : Int) * 2 ^ (min ((IntKind.u64.wrap x.1)).toNat IntKind.u32.bits)))).toNat : Int)), x.2.2))
    else
      bif callOk fl x.1 2 then
        BOut.next () ((IntKind.i64.wrap (x.1 + (1 : Int))), x.2.1, (IntKind.u32.wrap ((BitVec.ofInt IntKind.u32.bits x.2.2 ||| BitVec.ofInt IntKind.u32.bits (IntKind.u32.wrap ((1 : Int) * 2 ^ (min ((IntKind.u64.wrap x.1)).toNat IntKind.u32.bits)))).toNat : Int)))
      else
        BOut.next () ((IntKind.i64.wrap (x.1 + (1 : Int))), x.2))
  else
    BOut.brk () x
theorem hall_all : (List.range 31).all (fun n => (endOf (fun (_ : Unit) => hstep (n + 2)) () 33 ((0 : Int), (0 : Int), (0 : Int))).2 == hallT (n + 2)) = true := by kernel_rfl
theorem hall_one {fl : Int} (h : 2 ≤ fl ∧ fl ≤ 32) : (endOf (fun (_ : Unit) => hstep fl) () 33 ((0 : Int), (0 : Int), (0 : Int))).2 = hallT fl := by
  have := List.all_eq_true.1 hall_all (fl - 2).toNat (by simp; omega)
  simp only [beq_iff_eq] at this
  rwa [show (((fl - 2).toNat : Int) + 2) = fl by omega] at this
theorem rhall_eq (b : BldT) (hl : b.cars.length ≤ maxLen) : F40 b = if IsB b then hallT b.1 else (0, 0) := by
  unfold F40 G40_3
  by_cases hB : IsB b
  · rw [if_pos hB, ← hall_one hB.fl]
    have h1 : Nat.succ (mu40_3 b ((0 : Int), (0 : Int), (0 : Int))) = 33 := by simp [mu40_3]
    rw [h1]
    refine congrArg Prod.snd (loop_sim (fun x y => x = y) (fun x y h => ?_) 33 _ _ rfl).1
    subst h
    simp only [st40_3, hstep, riscall_eq _ _ _ hl, hB, decide_true, Bool.true_and]
    cases decide (x.1 < 32) <;> cases callOk b.1 x.1 1 <;> cases callOk b.1 x.1 2 <;> rfl
  · rw [if_neg hB]
    have := loop_spec (step := st40_3) (k := b) (fun x => 0 ≤ x.1 ∧ x.2 = (0, 0)) (mu40_3 b) (fun o y => y.2 = (0, 0)) (fun x hx => ?_) _ (0, 0, 0) ⟨by simp, rfl⟩ (Nat.lt_succ_self _)
    · exact this
    · simp only [st40_3, riscall_eq _ _ _ hl, hB, decide_false, Bool.false_and, cond_false]
      by_cases h1 : x.1 < 32
      · simp only [h1, decide_true, cond_true]
        rw [wrap_i64_of (by omega) (by omega)]
        refine ⟨⟨by omega, hx.2⟩, ?_⟩
        simp only [mu40_3]; omega
      · simp only [h1, decide_false, cond_false]; exact hx.2
end Go.Proofs.YtpbljgpdhllklaaDoor.Sp
end

section
/- The relay car: the program is the reference (own work). -/
namespace Go.Proofs.YtpbljgpdhllklaaDoor.Sp
open Go Sy
set_option linter.unusedVariables false
set_option linter.unusedSimpArgs false
set_option maxRecDepth 10000
abbrev RelT := Int × Int × Int × Int × Int × Int × (Int × Int) × Int
theorem u64_of {x : Int} (h : 0 ≤ x ∧ x ≤ 4294967296) : IntKind.u64.wrap x = x := wrap_u64_of (by omega) (by omega)
theorem rone_eq (f d : Int) : F23 (f, d) = F39 (f, d) := by
  unfold F23 F39
  by_cases h : 0 ≤ f ∧ f < 32
  · have e1 : (decide (f < 0) || decide (f > 31)) = false := by simp; omega
    have e2 : (decide (f ≥ 0) && decide (f < 32)) = true := by simp; omega
    simp only [e1, e2, cond_false, cond_true, u64_of (x := f) (by omega)]
  · have e1 : (decide (f < 0) || decide (f > 31)) = true := by simp; omega
    have e2 : (decide (f ≥ 0) && decide (f < 32)) = false := by
      rw [Bool.and_eq_false_iff]; simp only [decide_eq_false_iff_not]; omega
    simp only [e1, e2, cond_false, cond_true]
theorem contacts_eq (s : RelT) : F22 s = F33 s := by
  obtain ⟨st, fl, dir, op, dr, tm, ⟨u, d⟩, car⟩ := s
  unfold F22 F33 F45
  simp only
  by_cases h : 0 ≤ fl ∧ fl < 32
  · have e1 : (decide (fl ≥ 0) && decide (fl ≤ 31)) = true := by simp; omega
    have e2 : decide (fl ≥ 0) = true := by simp; omega
    have e3 : decide (fl < 32) = true := by simp; omega
    rw [e1, e2, e3, u64_of (x := fl) (by omega)]
    simp only [Bool.and_true]
  · have e1 : (decide (fl ≥ 0) && decide (fl ≤ 31)) = false := by
      rw [Bool.and_eq_false_iff]; simp only [decide_eq_false_iff_not]; omega
    have e2 : ((st != 1) && decide (fl ≥ 0) && decide (fl < 32)) = false := by
      rw [Bool.and_assoc, Bool.and_eq_false_iff]; right; rw [Bool.and_eq_false_iff]; simp only [decide_eq_false_iff_not]; omega
    rw [e1, e2, Bool.and_false]
    simp only [cond_false]
theorem istate_eq (b : BldT) (s : RelT) (hl : b.cars.length ≤ maxLen) (hc : W s.2.2.2.2.2.2.2) : F19 (b, s) = F32 (b, s) := by
  obtain ⟨st, fl, dir, op, dr, tm, ⟨u, d⟩, car⟩ := s
  have hc : 0 ≤ car ∧ car < 4294967296 := hc
  unfold F19 F32
  simp only
  rw [valid_cond b hl, rvalid_cond b hl, hall_eq b hl, rhall_eq b hl]
  by_cases hB : IsB b
  · have hf := hB.fl
    simp only [hB, not_true, decide_false, Bool.false_or, if_true]
    have hm : ∀ z, F65 z = F38 z := fun _ => rfl
    rw [hm, u64_of (x := car) (by omega), u64_of (x := b.1) (by omega)]
    have hmin : min b.1.toNat IntKind.u64.bits = min b.1.toNat IntKind.u32.bits := by
      show min b.1.toNat 64 = min b.1.toNat 32
      omega
    rw [hmin]
    generalize (((F38 ((u, d), hallT b.1)).1 == 0) && ((F38 ((u, d), hallT b.1)).2 == 0)) = m
    generalize (Int.fdiv car (2 ^ min b.1.toNat IntKind.u32.bits) == 0) = c
    have ha : F47 (st, fl, dir, op, dr, tm, (u, d), car) = F42 (fl, dir) := rfl
    rw [ha]
    generalize F42 (fl, dir) = nx
    have hw : IntKind.i64.wrap (b.1 - 1) = b.1 - 1 := wrap_i64_of (by omega) (by omega)
    simp only [F45, F46, hw]
    by_cases hs : 0 ≤ st ∧ st ≤ 4
    · have h5 : st = 0 ∨ st = 1 ∨ st = 2 ∨ st = 3 ∨ st = 4 := by omega
      have d0 : F48 0 = 2 := rfl
      have d1 : F48 1 = 2 := rfl
      have d2 : F48 2 = 0 := rfl
      have d3 : F48 3 = 1 := rfl
      have d4 : F48 4 = 0 := rfl
      have n0 : nthT [(2 : Int), 2, 0, 1, 0] 0 = 2 := rfl
      have n1 : nthT [(2 : Int), 2, 0, 1, 0] 1 = 2 := rfl
      have n2 : nthT [(2 : Int), 2, 0, 1, 0] 2 = 0 := rfl
      have n3 : nthT [(2 : Int), 2, 0, 1, 0] 3 = 1 := rfl
      have n4 : nthT [(2 : Int), 2, 0, 1, 0] 4 = 0 := rfl
      rw [Bool.eq_iff_iff]
      rcases h5 with rfl | rfl | rfl | rfl | rfl
      all_goals simp only [d0, d1, d2, d3, d4, n0, n1, n2, n3, n4, cond_eq_ite, Bool.ite_eq_true_distrib, Bool.or_eq_true, Bool.and_eq_true, Bool.not_eq_true', Bool.and_eq_false_iff, decide_eq_true_eq, decide_eq_false_iff_not, beq_iff_eq, bne_iff_ne, ne_eq, Bool.false_eq_true]
      all_goals cases m <;> cases c <;> simp <;> omega
    · have e1 : (decide (st ≥ 0) && decide (st ≤ 4)) = false := by
        rw [Bool.and_eq_false_iff]; simp only [decide_eq_false_iff_not]; omega
      have e2 : (decide (st < 0) || decide (st > 4)) = true := by simp; omega
      rw [e1, e2]
      simp only [Bool.not_false, Bool.true_or, cond_true]
  · simp only [hB, not_false_eq_true, decide_true, Bool.true_or, cond_true]
theorem decide_eq' (b : BldT) (c : CarT) (s : RelT) (hu : W s.2.2.2.2.2.2.1.1) (hd : W s.2.2.2.2.2.2.1.2) (hc : W s.2.2.2.2.2.2.2) : F67 (b.1, c, s) = F43 (b, c, s) := by
  obtain ⟨st, fl, dir, op, dr, tm, ⟨u, d⟩, car⟩ := s
  have h2 := both_all b.1 dir op fl car u d hc hu hd
  unfold F67 F43 K67_1 K67_2 K67_3
  simp only
  rw [h2.1, h2.2]
  rfl
theorem istate_parts {b : BldT} {s : RelT} (hl : b.cars.length ≤ maxLen) (h : F19 (b, s) = true) : IsB b ∧ 0 ≤ s.2.1 ∧ s.2.1 < b.1 := by
  obtain ⟨st, fl, dir, op, dr, tm, ⟨u, d⟩, car⟩ := s
  have h0 := istate_b h
  have hB := valid_b hl h0.1
  have hf := hB.fl
  refine ⟨hB, h0.2, ?_⟩
  unfold F19 at h
  rw [cond_eq_ite] at h
  split at h
  · exact absurd h (by simp)
  · rename_i hv
    simp only [Bool.not_eq_true, Bool.or_eq_false_iff] at hv
    have h2 := hv.1.2
    unfold F45 at h2
    simp only [Bool.not_eq_false', Bool.and_eq_true, decide_eq_true_eq] at h2
    rw [wrap_i64_of (by omega) (by omega)] at h2
    show fl < b.1
    omega
theorem step_eq (b : BldT) (car : Int) (s : RelT) (inj : Int × Int) (press : Int) (hl : b.cars.length ≤ maxLen) (hc : W s.2.2.2.2.2.2.2) :
    F17 (b, car, s, inj, press) = F18 (b, car, s, inj, press) := by
  unfold F17 F18
  simp only
  rw [istate_eq b s hl hc]
  cases hg : (((!F32 (b, s)) || decide (car < 0)) || decide (car ≥ (b.2.2.2.2.2.2.2.length : Int))) with
  | true => simp only [cond_true]; rfl
  | false =>
    simp only [cond_false]
    simp only [Bool.or_eq_false_iff, Bool.not_eq_false', ← istate_eq b s hl hc] at hg
    obtain ⟨hB, h0, h1⟩ := istate_parts hl hg.1.1
    have hf := hB.fl
    obtain ⟨st, fl, dir, op, dr, tm, ⟨u, d⟩, cr⟩ := s
    simp only at h0 h1
    unfold K17_1 K18_1 K18_2 K18_3 K18_4 K18_5
    simp only
    rw [hall_eq b hl, rhall_eq b hl, u64_of (x := b.1) (by omega)]
    have hun : ∀ z, F27 z = F34 z := fun _ => rfl
    have hbo : ∀ z, F25 z = F35 z := fun _ => rfl
    rw [hun, hbo]
    have hwu : W (F34 ((u, d), F35 (inj, if IsB b then hallT b.1 else (0, 0)))).1 := W_wrap _
    have hwd : W (F34 ((u, d), F35 (inj, if IsB b then hallT b.1 else (0, 0)))).2 := W_wrap _
    generalize F34 ((u, d), F35 (inj, if IsB b then hallT b.1 else (0, 0))) = cl at *
    have hwc : W (IntKind.u32.wrap ((BitVec.ofInt IntKind.u32.bits cr ||| BitVec.ofInt IntKind.u32.bits (IntKind.u32.wrap ((BitVec.ofInt IntKind.u32.bits press &&& BitVec.ofInt IntKind.u32.bits (IntKind.u32.wrap ((IntKind.u32.wrap ((1 : Int) * 2 ^ (min (b.1).toNat IntKind.u32.bits))) - (1 : Int)))).toNat : Int))).toNat : Int)) := W_wrap _
    generalize (IntKind.u32.wrap ((BitVec.ofInt IntKind.u32.bits cr ||| BitVec.ofInt IntKind.u32.bits (IntKind.u32.wrap ((BitVec.ofInt IntKind.u32.bits press &&& BitVec.ofInt IntKind.u32.bits (IntKind.u32.wrap ((IntKind.u32.wrap ((1 : Int) * 2 ^ (min (b.1).toNat IntKind.u32.bits))) - (1 : Int)))).toNat : Int))).toNat : Int)) = cc at *
    have hsv : ∀ s' : RelT, s'.2.1 = fl → F41 s' = bif (s'.1 == 3) then (s'.1, s'.2.1, s'.2.2.1, s'.2.2.2.1, s'.2.2.2.2.1, s'.2.2.2.2.2.1, (F38 (s'.2.2.2.2.2.2.1, F39 (s'.2.1, s'.2.2.1))), (IntKind.u32.wrap ((BitVec.ofInt IntKind.u32.bits s'.2.2.2.2.2.2.2 &&& ~~~ BitVec.ofInt IntKind.u32.bits (IntKind.u32.wrap ((1 : Int) * 2 ^ (min (s'.2.1).toNat IntKind.u32.bits)))).toNat : Int))) else s' := by
      intro s' hs'
      unfold F41
      rw [rone_eq, hs', u64_of (x := fl) (by omega)]
      rfl
    cases ht : decide (tm > 1) with
    | true =>
      simp only [cond_true]
      rw [hsv _ rfl]
    | false =>
      simp only [cond_false]
      unfold F37
      simp only
      cases h2 : (st == 2) with
      | true =>
        have e1 : (st == 1) = false := by simp only [beq_iff_eq] at h2; subst h2; rfl
        simp only [e1, cond_true, cond_false]
        rw [hsv _ rfl]
        rfl
      | false =>
        cases h3 : (st == 3) with
        | true =>
          have e1 : (st == 1) = false := by simp only [beq_iff_eq] at h3; subst h3; rfl
          simp only [e1, cond_true, cond_false]
          rw [hsv _ rfl]
          rfl
        | false =>
          simp only [cond_false]
          cases h4 : (st == 1) with
          | true =>
            simp only [cond_true]
            rw [← decide_eq' b _ _ hwu hwd hwc]
            have hne := decide_stage (b.1, nthT b.2.2.2.2.2.2.2 car, st, F47 (st, fl, dir, op, dr, tm, cl, cc), dir, 0, dr, tm, cl, cc)
            have hne' : ((F67 (b.1, nthT b.2.2.2.2.2.2.2 car, st, F47 (st, fl, dir, op, dr, tm, cl, cc), dir, 0, dr, tm, cl, cc)).1 == 3) = false := by simpa using hne
            rw [hne', cond_false]
            rfl
          | false =>
            simp only [cond_false]
            rw [← decide_eq' b _ _ hwu hwd hwc]
            have hne := decide_stage (b.1, nthT b.2.2.2.2.2.2.2 car, st, fl, dir, op, dr, tm, cl, cc)
            have hne' : ((F67 (b.1, nthT b.2.2.2.2.2.2.2 car, st, fl, dir, op, dr, tm, cl, cc)).1 == 3) = false := by simpa using hne
            rw [hne', cond_false]
end Go.Proofs.YtpbljgpdhllklaaDoor.Sp
end
