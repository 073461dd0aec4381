/- Own texts joined by pk.py. -/
import Derived.Test.YtpbljgpdhllklaaDoorJ35023f0f
section
/- Contracts of functions, by the evaluator (own program gen.py): collective.choose, overlayref11.look. -/
set_option linter.unusedVariables false
set_option linter.unusedSimpArgs false
set_option maxRecDepth 100000
namespace Go.Proofs.YtpbljgpdhllklaaDoor.Sy
open Go Go.RowKit Sp
/-! collective.choose -/
end Go.Proofs.YtpbljgpdhllklaaDoor.Sy
namespace Go.Proofs.YtpbljgpdhllklaaDoor.Sp
open Go Go.RowKit Sy
def Rules (g : Nat) (x : Bool × Bool × Bool × Int × Int × Int) : Int × Int × Int := cnd (Nat.beq g 120) (Sp.F120 x) (cnd (Nat.beq g 121) (Sp.F121 x) (cnd (Nat.beq g 122) (Sp.F122 x) (Ty.dflt ty119)))
end Go.Proofs.YtpbljgpdhllklaaDoor.Sp
namespace Go.Proofs.YtpbljgpdhllklaaDoor.Sy
def fvRules : Fv := { p := ty166, psh := [some 6], r := ty119, rsh := (Rsh.one (some 3)), fs := [120, 121, 122], F := Sp.Rules }
theorem fvokRules : FVOk (some fvRules) := fvok_some (fun g hg => by
  simp only [fvRules, List.mem_cons, List.not_mem_nil, or_false] at hg
  rcases hg with rfl | rfl | rfl
  · exact ⟨ok120, _, Tryd.func120, by kernel_rfl, by kernel_rfl⟩
  · exact ⟨ok121, _, Tryd.func121, by kernel_rfl, by kernel_rfl⟩
  · exact ⟨ok122, _, Tryd.func122, by kernel_rfl, by kernel_rfl⟩)
end Go.Proofs.YtpbljgpdhllklaaDoor.Sy
namespace Go.Proofs.YtpbljgpdhllklaaDoor.Sp
open Go Go.RowKit Sy
def F108 (x : Int × (Int × Int) × Int × Int × Int × Int) : (Int × Int × Int) × Int :=
  ((Sp.Rules (Option.getD (Sp.nthT [(some 120), (some 121), (some 122)] x.2.1.1) 0) ((Sp.F119 (Sp.F118 x)).1)), (Sp.F119 (Sp.F118 x)).1.2.2.2.2.2)
def pre108 (x : Int × (Int × Int) × Int × Int × Int × Int) : Prop := 0 ≤ x.1 ∧ 0 ≤ x.2.2.1 ∧ 0 ≤ x.2.1.1 ∧ x.2.1.1 ≤ 2
end Go.Proofs.YtpbljgpdhllklaaDoor.Sp
namespace Go.Proofs.YtpbljgpdhllklaaDoor.Sy
def ct108 : Ct := { p := (Ty.pair ty3 (Ty.pair ty60 (Ty.pair ty3 ty117))), psh := [none, some 2, none, some 3], r := (Ty.pair ty119 ty3), rsh := (Rsh.tup [some 3, none]), pre := some Sp.pre108, fresh := none, F := Sp.F108 }
theorem va108 (x : (Ty.pair ty3 (Ty.pair ty60 (Ty.pair ty3 ty117))).den) : ((evFn (ctxP [] (some fvRules) GmC2 []) Tryd.f108 (Ty.pair ty3 (Ty.pair ty60 (Ty.pair ty3 ty117))) [none, some 2, none, some 3] (Rsh.tup [some 3, none]) none (Ty.pair ty119 ty3) noL x)).val (fun y => y) (Ty.dflt (Ty.pair ty119 ty3)) = Sp.F108 x := by kernel_rfl
theorem se108 (x : (Ty.pair ty3 (Ty.pair ty60 (Ty.pair ty3 ty117))).den) : ((evFn (ctxP [] (some fvRules) GmC2 []) Tryd.f108 (Ty.pair ty3 (Ty.pair ty60 (Ty.pair ty3 ty117))) [none, some 2, none, some 3] (Rsh.tup [some 3, none]) none (Ty.pair ty119 ty3) noL x)).safe = (((Sp.pre118 x) ∧ ((0 ≤ x.2.1.1 ∧ x.2.1.1 < (3 : Int)) ∧ ((∃ g, (Sp.nthT [(some 120), (some 121), (some 122)] x.2.1.1) = some g ∧ g ∈ [120, 121, 122]) ∧ True)))) := by kernel_rfl
theorem sa108 (x : (Ty.pair ty3 (Ty.pair ty60 (Ty.pair ty3 ty117))).den) (fx : Fit (Ty.pair ty3 (Ty.pair ty60 (Ty.pair ty3 ty117))) x) (h : Sp.pre108 x) : SafeW ((evFn (ctxP [] (some fvRules) GmC2 []) Tryd.f108 (Ty.pair ty3 (Ty.pair ty60 (Ty.pair ty3 ty117))) [none, some 2, none, some 3] (Rsh.tup [some 3, none]) none (Ty.pair ty119 ty3) noL x)) := by
  refine ⟨?_⟩
  rw [se108]
  try dsimp only [Ty.den] at *
  simp only [Sp.pre108, Sp.pre118] at *
  refine ⟨⟨by omega, by omega⟩, ⟨by omega, by omega⟩, Sp.nth3 _ _ _ _ (by omega) (by omega), trivial⟩
theorem ok108 : CtOk Tryd.prog gdS 108 ct108 :=
  fn_okU (ctxOkP pgok_nil fvokRules gokGmC2 []) rfl Tryd.func108 (p := (Ty.pair ty3 (Ty.pair ty60 (Ty.pair ty3 ty117)))) (psh := [none, some 2, none, some 3]) (r := (Ty.pair ty119 ty3)) (rsh := (Rsh.tup [some 3, none])) (pre := some Sp.pre108) (fresh := none) (F := Sp.F108) (L := noL) (c := bodyOf Tryd.f108) (dflt := Ty.dflt (Ty.pair ty119 ty3)) rfl (no_loops)
    (safe_pre @sa108) va108
/-! overlayref11.look -/
end Go.Proofs.YtpbljgpdhllklaaDoor.Sy
namespace Go.Proofs.YtpbljgpdhllklaaDoor.Sp
open Go Go.RowKit Sy
def F95 (x : Int × (Int × Int) × Int × Int × Int × Int) : Bool × Bool × Bool × Bool × Bool × Int :=
  bif ((Sp.F111 (x.2.2.2, x.2.2.1)).1 && ((!((Sp.F112 (x.2.2.2, x.2.2.1)).1)) || (decide ((Sp.F112 (x.2.2.2, x.2.2.1)).2 ≥ (Sp.F111 (x.2.2.2, x.2.2.1)).2)))) then
    ((Sp.F110 ((Sp.F65 (x.2.2.2.2, (Sp.F109 x).2)), x.2.2.1, (1 : Int))), (Sp.F110 ((Sp.F65 (x.2.2.2.2, (Sp.F109 x).2)), x.2.2.1, (2 : Int))), ((IntKind.u32.wrap ((BitVec.ofInt IntKind.u32.bits (Int.fdiv (IntKind.u32.wrap ((BitVec.ofInt IntKind.u32.bits x.2.2.2.1 &&& ~~~ BitVec.ofInt IntKind.u32.bits ((Sp.F109 x).1)).toNat : Int)) (2 ^ (min ((IntKind.u64.wrap x.2.2.1)).toNat IntKind.u32.bits))) &&& BitVec.ofInt IntKind.u32.bits (1 : Int)).toNat : Int)) == (1 : Int)), (Sp.F111 (x.2.2.2, x.2.2.1)).1, (Sp.F112 (x.2.2.2, x.2.2.1)).1, (1 : Int))
  else
    bif (Sp.F112 (x.2.2.2, x.2.2.1)).1 then
      ((Sp.F110 ((Sp.F65 (x.2.2.2.2, (Sp.F109 x).2)), x.2.2.1, (1 : Int))), (Sp.F110 ((Sp.F65 (x.2.2.2.2, (Sp.F109 x).2)), x.2.2.1, (2 : Int))), ((IntKind.u32.wrap ((BitVec.ofInt IntKind.u32.bits (Int.fdiv (IntKind.u32.wrap ((BitVec.ofInt IntKind.u32.bits x.2.2.2.1 &&& ~~~ BitVec.ofInt IntKind.u32.bits ((Sp.F109 x).1)).toNat : Int)) (2 ^ (min ((IntKind.u64.wrap x.2.2.1)).toNat IntKind.u32.bits))) &&& BitVec.ofInt IntKind.u32.bits (1 : Int)).toNat : Int)) == (1 : Int)), (Sp.F111 (x.2.2.2, x.2.2.1)).1, (Sp.F112 (x.2.2.2, x.2.2.1)).1, (2 : Int))
    else
      ((Sp.F110 ((Sp.F65 (x.2.2.2.2, (Sp.F109 x).2)), x.2.2.1, (1 : Int))), (Sp.F110 ((Sp.F65 (x.2.2.2.2, (Sp.F109 x).2)), x.2.2.1, (2 : Int))), ((IntKind.u32.wrap ((BitVec.ofInt IntKind.u32.bits (Int.fdiv (IntKind.u32.wrap ((BitVec.ofInt IntKind.u32.bits x.2.2.2.1 &&& ~~~ BitVec.ofInt IntKind.u32.bits ((Sp.F109 x).1)).toNat : Int)) (2 ^ (min ((IntKind.u64.wrap x.2.2.1)).toNat IntKind.u32.bits))) &&& BitVec.ofInt IntKind.u32.bits (1 : Int)).toNat : Int)) == (1 : Int)), (Sp.F111 (x.2.2.2, x.2.2.1)).1, (Sp.F112 (x.2.2.2, x.2.2.1)).1, (0 : Int))
end Go.Proofs.YtpbljgpdhllklaaDoor.Sp
namespace Go.Proofs.YtpbljgpdhllklaaDoor.Sy
def ct95 : Ct := { p := (Ty.pair ty3 (Ty.pair ty60 (Ty.pair ty3 ty117))), psh := [none, some 2, none, some 3], r := ty137, rsh := (Rsh.one (some 6)), pre := none, fresh := none, F := Sp.F95 }
theorem va95 (x : (Ty.pair ty3 (Ty.pair ty60 (Ty.pair ty3 ty117))).den) : ((evFn (ctxG GmC2) Tryd.f95 (Ty.pair ty3 (Ty.pair ty60 (Ty.pair ty3 ty117))) [none, some 2, none, some 3] (Rsh.one (some 6)) none ty137 noL x)).val (fun y => y) (Ty.dflt ty137) = Sp.F95 x := by kernel_rfl
theorem se95 (x : (Ty.pair ty3 (Ty.pair ty60 (Ty.pair ty3 ty117))).den) : ((evFn (ctxG GmC2) Tryd.f95 (Ty.pair ty3 (Ty.pair ty60 (Ty.pair ty3 ty117))) [none, some 2, none, some 3] (Rsh.one (some 6)) none ty137 noL x)).safe = (((0 ≤ (IntKind.u64.wrap x.2.2.1)) ∧ ((((Sp.F111 (x.2.2.2, x.2.2.1)).1 && ((!((Sp.F112 (x.2.2.2, x.2.2.1)).1)) || (decide ((Sp.F112 (x.2.2.2, x.2.2.1)).2 ≥ (Sp.F111 (x.2.2.2, x.2.2.1)).2)))) = true → True) ∧ (((Sp.F111 (x.2.2.2, x.2.2.1)).1 && ((!((Sp.F112 (x.2.2.2, x.2.2.1)).1)) || (decide ((Sp.F112 (x.2.2.2, x.2.2.1)).2 ≥ (Sp.F111 (x.2.2.2, x.2.2.1)).2)))) = false → (((Sp.F112 (x.2.2.2, x.2.2.1)).1 = true → True) ∧ ((Sp.F112 (x.2.2.2, x.2.2.1)).1 = false → True)))))) := by kernel_rfl
theorem sa95 (x : (Ty.pair ty3 (Ty.pair ty60 (Ty.pair ty3 ty117))).den) (fx : Fit (Ty.pair ty3 (Ty.pair ty60 (Ty.pair ty3 ty117))) x) : SafeW ((evFn (ctxG GmC2) Tryd.f95 (Ty.pair ty3 (Ty.pair ty60 (Ty.pair ty3 ty117))) [none, some 2, none, some 3] (Rsh.one (some 6)) none ty137 noL x)) := by
  refine ⟨?_⟩
  rw [se95]
  try dsimp only [Ty.den] at *
  simp only [Fit, maxLen] at fx
  simp only [true_and, IntKind.wrap_i64, IntKind.wrap_u8, IntKind.wrap_u32, IntKind.wrap_u64, Sp.tmod_lit, Sp.tdiv_lit, bne_eq_false_iff_eq, Int.natCast_inj, setE, copyL, sliceL, zrow, List.length_append, List.length_cons, List.length_nil, List.length_set, List.length_replicate, List.length_take, List.length_drop, decide_eq_true_eq, decide_eq_false_iff_not, Bool.or_eq_true, Bool.and_eq_true, Bool.or_eq_false_iff, Bool.and_eq_false_iff, Bool.not_eq_true', Bool.not_eq_false', Bool.not_eq_true, Bool.not_eq_false, beq_iff_eq, beq_eq_false_iff_ne, bne_iff_ne, ne_eq, implies_true, and_true, true_and] at *
  all_goals ((repeat' (first | exact trivial | apply And.intro | intro _)) <;> first | trivial | omega | exact Sp.tmod_nn (by omega) | exact Sp.tmod_lt (by omega) (by omega))
theorem ok95 : CtOk Tryd.prog gdS 95 ct95 :=
  fn_okU (ctxOkF gokGmC2 []) rfl Tryd.func95 (p := (Ty.pair ty3 (Ty.pair ty60 (Ty.pair ty3 ty117)))) (psh := [none, some 2, none, some 3]) (r := ty137) (rsh := (Rsh.one (some 6))) (pre := none) (fresh := none) (F := Sp.F95) (L := noL) (c := bodyOf Tryd.f95) (dflt := Ty.dflt ty137) rfl (no_loops)
    (safe_no @sa95) va95
def GmC3 : List (Nat × Ct) := (108, ct108) :: (95, ct95) :: GmC2
theorem gokGmC3 : GOk GmC3 := gok_cons ok108 ⟨_, Tryd.func108, by kernel_rfl, by kernel_rfl⟩ (gok_cons ok95 ⟨_, Tryd.func95, by kernel_rfl, by kernel_rfl⟩ (gokGmC2))
end Go.Proofs.YtpbljgpdhllklaaDoor.Sy
end

section
/- What a car shows (own work). -/
namespace Go.Proofs.YtpbljgpdhllklaaDoor.Sp
open Go Sy
set_option linter.unusedVariables false
set_option linter.unusedSimpArgs false

theorem open_val (d : Int) : F126 d = (3, d, d) := rfl
theorem nearer_bd (h : Bool × Bool × Bool × Int × Int × Int) : 0 ≤ F125 h ∧ F125 h ≤ 2 := by
  unfold F125
  simp only [cond_eq_ite]
  repeat' split
  all_goals omega
theorem shown_bd (x : Int × Bool × Int × Int × Bool × Int) (h1 : 0 ≤ x.1 ∧ x.1 ≤ 2) (h2 : 0 ≤ x.2.2.2.1 ∧ x.2.2.2.1 ≤ 2) : 0 ≤ F127 x ∧ F127 x ≤ 2 := by
  unfold F127
  simp only [cond_eq_ite]
  repeat' split
  all_goals omega
theorem falling_bd (h : Bool × Bool × Bool × Int × Int × Int) : 0 ≤ (F122 h).2.2 ∧ (F122 h).2.2 ≤ 2 := by
  unfold F122
  simp only [cond_eq_ite, open_val]
  repeat' split
  all_goals dsimp only
  all_goals first | (refine shown_bd _ ?_ ?_ <;> (dsimp only; omega)) | omega
theorem rising_bd (h : Bool × Bool × Bool × Int × Int × Int) : 0 ≤ (F121 h).2.2 ∧ (F121 h).2.2 ≤ 2 := by
  unfold F121
  simp only [cond_eq_ite, open_val]
  repeat' split
  all_goals (try dsimp only)
  all_goals first | exact falling_bd _ | (refine shown_bd _ ?_ ?_ <;> (dsimp only; omega)) | omega
theorem resting_bd (h : Bool × Bool × Bool × Int × Int × Int) : 0 ≤ (F120 h).2.2 ∧ (F120 h).2.2 ≤ 2 := by
  unfold F120
  simp only [cond_eq_ite, open_val]
  repeat' split
  all_goals dsimp only
  all_goals first | exact nearer_bd _ | omega
theorem rules0 (h : Bool × Bool × Bool × Int × Int × Int) : Rules (Option.getD (nthT [(some 120), (some 121), (some 122)] 0) 0) h = F120 h := rfl
theorem rules1 (h : Bool × Bool × Bool × Int × Int × Int) : Rules (Option.getD (nthT [(some 120), (some 121), (some 122)] 1) 0) h = F121 h := rfl
theorem rules2 (h : Bool × Bool × Bool × Int × Int × Int) : Rules (Option.getD (nthT [(some 120), (some 121), (some 122)] 2) 0) h = F122 h := rfl
theorem choose_bd (x : Int × (Int × Int) × Int × Int × Int × Int) (h0 : 0 ≤ x.2.1.1) (h2 : x.2.1.1 ≤ 2) : 0 ≤ (F108 x).1.2.2 ∧ (F108 x).1.2.2 ≤ 2 := by
  unfold F108
  have : x.2.1.1 = 0 ∨ x.2.1.1 = 1 ∨ x.2.1.1 = 2 := by omega
  rcases this with h | h | h <;> rw [h]
  · rw [rules0]; exact resting_bd _
  · rw [rules1]; exact rising_bd _
  · rw [rules2]; exact falling_bd _
end Go.Proofs.YtpbljgpdhllklaaDoor.Sp
end

section
/- Contracts of functions, by the evaluator (own program gen.py): collective.Choose, collective.Next, overlayref11.Choose. -/
set_option linter.unusedVariables false
set_option linter.unusedSimpArgs false
set_option maxRecDepth 100000
namespace Go.Proofs.YtpbljgpdhllklaaDoor.Sy
open Go Go.RowKit Sp
/-! collective.Choose -/
end Go.Proofs.YtpbljgpdhllklaaDoor.Sy
namespace Go.Proofs.YtpbljgpdhllklaaDoor.Sp
open Go Go.RowKit Sy
def F92 (x : Int × (Int × Int) × Int × Int × Int × Int) : Int × Int × Int :=
  bif (!(Sp.F107 (x.1, x.2.1, x.2.2.1))) then
    ((0 : Int), (0 : Int), (0 : Int))
  else
    (Sp.F108 x).1
end Go.Proofs.YtpbljgpdhllklaaDoor.Sp
namespace Go.Proofs.YtpbljgpdhllklaaDoor.Sy
def ct92 : Ct := { p := (Ty.pair ty3 (Ty.pair ty60 (Ty.pair ty3 ty117))), psh := [none, some 2, none, some 3], r := ty119, rsh := (Rsh.one (some 3)), pre := none, fresh := none, F := Sp.F92 }
theorem va92 (x : (Ty.pair ty3 (Ty.pair ty60 (Ty.pair ty3 ty117))).den) : ((evFn (ctxG GmC3) Tryd.f92 (Ty.pair ty3 (Ty.pair ty60 (Ty.pair ty3 ty117))) [none, some 2, none, some 3] (Rsh.one (some 3)) none ty119 noL x)).val (fun y => y) (Ty.dflt ty119) = Sp.F92 x := by kernel_rfl
theorem se92 (x : (Ty.pair ty3 (Ty.pair ty60 (Ty.pair ty3 ty117))).den) : ((evFn (ctxG GmC3) Tryd.f92 (Ty.pair ty3 (Ty.pair ty60 (Ty.pair ty3 ty117))) [none, some 2, none, some 3] (Rsh.one (some 3)) none ty119 noL x)).safe = ((((!(Sp.F107 (x.1, x.2.1, x.2.2.1))) = true → True) ∧ ((!(Sp.F107 (x.1, x.2.1, x.2.2.1))) = false → ((Sp.pre108 x) ∧ True)))) := by kernel_rfl
theorem sa92 (x : (Ty.pair ty3 (Ty.pair ty60 (Ty.pair ty3 ty117))).den) (fx : Fit (Ty.pair ty3 (Ty.pair ty60 (Ty.pair ty3 ty117))) x) : SafeW ((evFn (ctxG GmC3) Tryd.f92 (Ty.pair ty3 (Ty.pair ty60 (Ty.pair ty3 ty117))) [none, some 2, none, some 3] (Rsh.one (some 3)) none ty119 noL x)) := by
  refine ⟨?_⟩
  rw [se92]
  try dsimp only [Ty.den] at *
  simp only [Fit, maxLen] at fx
  simp only [Sp.pre108, Sp.F107, Sp.F46, IntKind.wrap_i64, IntKind.wrap_u8, IntKind.wrap_u32, IntKind.wrap_u64, Sp.tmod_lit, Sp.tdiv_lit, bne_eq_false_iff_eq, Int.natCast_inj, setE, copyL, sliceL, zrow, List.length_append, List.length_cons, List.length_nil, List.length_set, List.length_replicate, List.length_take, List.length_drop, decide_eq_true_eq, decide_eq_false_iff_not, Bool.or_eq_true, Bool.and_eq_true, Bool.or_eq_false_iff, Bool.and_eq_false_iff, Bool.not_eq_true', Bool.not_eq_false', Bool.not_eq_true, Bool.not_eq_false, beq_iff_eq, beq_eq_false_iff_ne, bne_iff_ne, ne_eq, implies_true, and_true, true_and] at *
  all_goals ((repeat' (first | exact trivial | apply And.intro | intro _)) <;> first | trivial | omega | exact Sp.tmod_nn (by omega) | exact Sp.tmod_lt (by omega) (by omega))
theorem ok92 : CtOk Tryd.prog gdS 92 ct92 :=
  fn_okU (ctxOkF gokGmC3 []) rfl Tryd.func92 (p := (Ty.pair ty3 (Ty.pair ty60 (Ty.pair ty3 ty117)))) (psh := [none, some 2, none, some 3]) (r := ty119) (rsh := (Rsh.one (some 3))) (pre := none) (fresh := none) (F := Sp.F92) (L := noL) (c := bodyOf Tryd.f92) (dflt := Ty.dflt ty119) rfl (no_loops)
    (safe_no @sa92) va92
/-! collective.Next -/
end Go.Proofs.YtpbljgpdhllklaaDoor.Sy
namespace Go.Proofs.YtpbljgpdhllklaaDoor.Sp
open Go Go.RowKit Sy
def F93 (x : Int × (Int × Int) × Int × Int × Int × Int) : Int × Int :=
  bif (!(Sp.F107 (x.1, x.2.1, x.2.2.1))) then
    ((0 : Int), (0 : Int))
  else
    bif ((Sp.F108 x).1.1 != (3 : Int)) then
      ((Sp.F108 x).1.2.1, (0 : Int))
    else
      ((Sp.F108 x).1.2.1, (IntKind.i64.wrap ((BitVec.ofInt IntKind.i64.bits ((Sp.F108 x).2) ||| BitVec.ofInt IntKind.i64.bits (IntKind.i64.wrap ((1 : Int) * 2 ^ (min ((Sp.F108 x).1.2.2).toNat IntKind.i64.bits)))).toNat : Int)))
end Go.Proofs.YtpbljgpdhllklaaDoor.Sp
namespace Go.Proofs.YtpbljgpdhllklaaDoor.Sy
def ct93 : Ct := { p := (Ty.pair ty3 (Ty.pair ty60 (Ty.pair ty3 ty117))), psh := [none, some 2, none, some 3], r := ty60, rsh := (Rsh.one (some 2)), pre := none, fresh := none, F := Sp.F93 }
theorem va93 (x : (Ty.pair ty3 (Ty.pair ty60 (Ty.pair ty3 ty117))).den) : ((evFn (ctxG GmC3) Tryd.f93 (Ty.pair ty3 (Ty.pair ty60 (Ty.pair ty3 ty117))) [none, some 2, none, some 3] (Rsh.one (some 2)) none ty60 noL x)).val (fun y => y) (Ty.dflt ty60) = Sp.F93 x := by kernel_rfl
theorem se93 (x : (Ty.pair ty3 (Ty.pair ty60 (Ty.pair ty3 ty117))).den) : ((evFn (ctxG GmC3) Tryd.f93 (Ty.pair ty3 (Ty.pair ty60 (Ty.pair ty3 ty117))) [none, some 2, none, some 3] (Rsh.one (some 2)) none ty60 noL x)).safe = ((((!(Sp.F107 (x.1, x.2.1, x.2.2.1))) = true → True) ∧ ((!(Sp.F107 (x.1, x.2.1, x.2.2.1))) = false → ((Sp.pre108 x) ∧ ((((Sp.F108 x).1.1 != (3 : Int)) = true → True) ∧ (((Sp.F108 x).1.1 != (3 : Int)) = false → ((0 ≤ (Sp.F108 x).1.2.2) ∧ True))))))) := by kernel_rfl
theorem sa93 (x : (Ty.pair ty3 (Ty.pair ty60 (Ty.pair ty3 ty117))).den) (fx : Fit (Ty.pair ty3 (Ty.pair ty60 (Ty.pair ty3 ty117))) x) : SafeW ((evFn (ctxG GmC3) Tryd.f93 (Ty.pair ty3 (Ty.pair ty60 (Ty.pair ty3 ty117))) [none, some 2, none, some 3] (Rsh.one (some 2)) none ty60 noL x)) := by
  refine ⟨?_⟩
  rw [se93]
  try dsimp only [Ty.den] at *
  refine ⟨fun _ => trivial, fun hp => ?_⟩
  simp only [Bool.not_eq_false', Sp.F107, Sp.F46, Bool.and_eq_true, decide_eq_true_eq] at hp
  have hb := Sp.choose_bd x (by omega) (by omega)
  simp only [Sp.pre108]
  repeat' (first | exact trivial | apply And.intro | intro _)
  all_goals omega
theorem ok93 : CtOk Tryd.prog gdS 93 ct93 :=
  fn_okU (ctxOkF gokGmC3 []) rfl Tryd.func93 (p := (Ty.pair ty3 (Ty.pair ty60 (Ty.pair ty3 ty117)))) (psh := [none, some 2, none, some 3]) (r := ty60) (rsh := (Rsh.one (some 2))) (pre := none) (fresh := none) (F := Sp.F93) (L := noL) (c := bodyOf Tryd.f93) (dflt := Ty.dflt ty60) rfl (no_loops)
    (safe_no @sa93) va93
/-! overlayref11.Choose -/
end Go.Proofs.YtpbljgpdhllklaaDoor.Sy
namespace Go.Proofs.YtpbljgpdhllklaaDoor.Sp
open Go Go.RowKit Sy
def K69_1 (x : Int × (Int × Int) × Int × Int × Int × Int) :=
  (Sp.F97 ((1 : Int), (2 : Int), (Sp.F95 (x.1, x.2.1, x.2.2.1, (Sp.F96 (x.1, x.2.2.2)))).2.2.1, (Sp.F95 (x.1, x.2.1, x.2.2.1, (Sp.F96 (x.1, x.2.2.2)))).1, (Sp.F95 (x.1, x.2.1, x.2.2.1, (Sp.F96 (x.1, x.2.2.2)))).2.1, (Sp.F95 (x.1, x.2.1, x.2.2.1, (Sp.F96 (x.1, x.2.2.2)))).2.2.2.1, (Sp.F95 (x.1, x.2.1, x.2.2.1, (Sp.F96 (x.1, x.2.2.2)))).2.2.2.2.1))
def K69_2 (x : Int × (Int × Int) × Int × Int × Int × Int) :=
  (Sp.F97 ((2 : Int), (1 : Int), (Sp.F95 (x.1, x.2.1, x.2.2.1, (Sp.F96 (x.1, x.2.2.2)))).2.2.1, (Sp.F95 (x.1, x.2.1, x.2.2.1, (Sp.F96 (x.1, x.2.2.2)))).2.1, (Sp.F95 (x.1, x.2.1, x.2.2.1, (Sp.F96 (x.1, x.2.2.2)))).1, (Sp.F95 (x.1, x.2.1, x.2.2.1, (Sp.F96 (x.1, x.2.2.2)))).2.2.2.2.1, (Sp.F95 (x.1, x.2.1, x.2.2.1, (Sp.F96 (x.1, x.2.2.2)))).2.2.2.1))
def F69 (x : Int × (Int × Int) × Int × Int × Int × Int) : Int × Int × Int :=
  bif (((((decide (x.1 < (2 : Int))) || (decide (x.1 > (32 : Int)))) || (decide (x.2.2.1 < (0 : Int)))) || (decide (x.2.2.1 ≥ x.1))) || (!(Sp.F94 x.2.1))) then
    ((0 : Int), (0 : Int), (0 : Int))
  else
    bif (x.2.1.1 == (1 : Int)) then
      (bif (Sp.K69_1 x).2 then
        (Sp.K69_1 x).1
      else
        (Sp.F98 ((2 : Int), (Sp.F95 (x.1, x.2.1, x.2.2.1, (Sp.F96 (x.1, x.2.2.2)))).2.1, (Sp.F95 (x.1, x.2.1, x.2.2.1, (Sp.F96 (x.1, x.2.2.2)))).2.2.2.2.1)))
    else
      bif (x.2.1.1 == (2 : Int)) then
        (bif (Sp.K69_2 x).2 then
          (Sp.K69_2 x).1
        else
          (Sp.F98 ((1 : Int), (Sp.F95 (x.1, x.2.1, x.2.2.1, (Sp.F96 (x.1, x.2.2.2)))).1, (Sp.F95 (x.1, x.2.1, x.2.2.1, (Sp.F96 (x.1, x.2.2.2)))).2.2.2.1)))
      else
        bif (Sp.F95 (x.1, x.2.1, x.2.2.1, (Sp.F96 (x.1, x.2.2.2)))).1 then
          (Sp.F99 (1 : Int))
        else
          bif (Sp.F95 (x.1, x.2.1, x.2.2.1, (Sp.F96 (x.1, x.2.2.2)))).2.1 then
            (Sp.F99 (2 : Int))
          else
            bif (Sp.F95 (x.1, x.2.1, x.2.2.1, (Sp.F96 (x.1, x.2.2.2)))).2.2.1 then
              (Sp.F99 ((Sp.F95 (x.1, x.2.1, x.2.2.1, (Sp.F96 (x.1, x.2.2.2)))).2.2.2.2.2))
            else
              (Sp.F100 ((Sp.F95 (x.1, x.2.1, x.2.2.1, (Sp.F96 (x.1, x.2.2.2)))).2.2.2.2.2))
end Go.Proofs.YtpbljgpdhllklaaDoor.Sp
namespace Go.Proofs.YtpbljgpdhllklaaDoor.Sy
def ct69 : Ct := { p := (Ty.pair ty3 (Ty.pair ty60 (Ty.pair ty3 ty117))), psh := [none, some 2, none, some 3], r := ty119, rsh := (Rsh.one (some 3)), pre := none, fresh := none, F := Sp.F69 }
theorem va69 (x : (Ty.pair ty3 (Ty.pair ty60 (Ty.pair ty3 ty117))).den) : ((evFn (ctxG GmC3) Tryd.f69 (Ty.pair ty3 (Ty.pair ty60 (Ty.pair ty3 ty117))) [none, some 2, none, some 3] (Rsh.one (some 3)) none ty119 noL x)).val (fun y => y) (Ty.dflt ty119) = Sp.F69 x := by kernel_rfl
theorem se69 (x : (Ty.pair ty3 (Ty.pair ty60 (Ty.pair ty3 ty117))).den) : ((evFn (ctxG GmC3) Tryd.f69 (Ty.pair ty3 (Ty.pair ty60 (Ty.pair ty3 ty117))) [none, some 2, none, some 3] (Rsh.one (some 3)) none ty119 noL x)).safe = ((((((((decide (x.1 < (2 : Int))) || (decide (x.1 > (32 : Int)))) || (decide (x.2.2.1 < (0 : Int)))) || (decide (x.2.2.1 ≥ x.1))) || (!(Sp.F94 x.2.1))) = true → True) ∧ ((((((decide (x.1 < (2 : Int))) || (decide (x.1 > (32 : Int)))) || (decide (x.2.2.1 < (0 : Int)))) || (decide (x.2.2.1 ≥ x.1))) || (!(Sp.F94 x.2.1))) = false → (((x.2.1.1 == (1 : Int)) = true → (((Sp.K69_1 x).2 = true → True) ∧ ((Sp.K69_1 x).2 = false → True))) ∧ ((x.2.1.1 == (1 : Int)) = false → (((x.2.1.1 == (2 : Int)) = true → (((Sp.K69_2 x).2 = true → True) ∧ ((Sp.K69_2 x).2 = false → True))) ∧ ((x.2.1.1 == (2 : Int)) = false → (((Sp.F95 (x.1, x.2.1, x.2.2.1, (Sp.F96 (x.1, x.2.2.2)))).1 = true → True) ∧ ((Sp.F95 (x.1, x.2.1, x.2.2.1, (Sp.F96 (x.1, x.2.2.2)))).1 = false → (((Sp.F95 (x.1, x.2.1, x.2.2.1, (Sp.F96 (x.1, x.2.2.2)))).2.1 = true → True) ∧ ((Sp.F95 (x.1, x.2.1, x.2.2.1, (Sp.F96 (x.1, x.2.2.2)))).2.1 = false → (((Sp.F95 (x.1, x.2.1, x.2.2.1, (Sp.F96 (x.1, x.2.2.2)))).2.2.1 = true → True) ∧ ((Sp.F95 (x.1, x.2.1, x.2.2.1, (Sp.F96 (x.1, x.2.2.2)))).2.2.1 = false → True))))))))))))) := by kernel_rfl
theorem sa69 (x : (Ty.pair ty3 (Ty.pair ty60 (Ty.pair ty3 ty117))).den) (fx : Fit (Ty.pair ty3 (Ty.pair ty60 (Ty.pair ty3 ty117))) x) : SafeW ((evFn (ctxG GmC3) Tryd.f69 (Ty.pair ty3 (Ty.pair ty60 (Ty.pair ty3 ty117))) [none, some 2, none, some 3] (Rsh.one (some 3)) none ty119 noL x)) := by
  refine ⟨?_⟩
  rw [se69]
  try dsimp only [Ty.den] at *
  simp only [Fit, maxLen] at fx
  simp only [true_and, IntKind.wrap_i64, IntKind.wrap_u8, IntKind.wrap_u32, IntKind.wrap_u64, Sp.tmod_lit, Sp.tdiv_lit, bne_eq_false_iff_eq, Int.natCast_inj, setE, copyL, sliceL, zrow, List.length_append, List.length_cons, List.length_nil, List.length_set, List.length_replicate, List.length_take, List.length_drop, decide_eq_true_eq, decide_eq_false_iff_not, Bool.or_eq_true, Bool.and_eq_true, Bool.or_eq_false_iff, Bool.and_eq_false_iff, Bool.not_eq_true', Bool.not_eq_false', Bool.not_eq_true, Bool.not_eq_false, beq_iff_eq, beq_eq_false_iff_ne, bne_iff_ne, ne_eq, implies_true, and_true, true_and] at *
  all_goals ((repeat' (first | exact trivial | apply And.intro | intro _)) <;> first | trivial | omega | exact Sp.tmod_nn (by omega) | exact Sp.tmod_lt (by omega) (by omega))
theorem ok69 : CtOk Tryd.prog gdS 69 ct69 :=
  fn_okU (ctxOkF gokGmC3 []) rfl Tryd.func69 (p := (Ty.pair ty3 (Ty.pair ty60 (Ty.pair ty3 ty117)))) (psh := [none, some 2, none, some 3]) (r := ty119) (rsh := (Rsh.one (some 3))) (pre := none) (fresh := none) (F := Sp.F69) (L := noL) (c := bodyOf Tryd.f69) (dflt := Ty.dflt ty119) rfl (no_loops)
    (safe_no @sa69) va69
def GmC4 : List (Nat × Ct) := (92, ct92) :: (93, ct93) :: (69, ct69) :: GmC3
theorem gokGmC4 : GOk GmC4 := gok_cons ok92 ⟨_, Tryd.func92, by kernel_rfl, by kernel_rfl⟩ (gok_cons ok93 ⟨_, Tryd.func93, by kernel_rfl, by kernel_rfl⟩ (gok_cons ok69 ⟨_, Tryd.func69, by kernel_rfl, by kernel_rfl⟩ (gokGmC3)))
end Go.Proofs.YtpbljgpdhllklaaDoor.Sy
end

section
/- Contracts of functions, by the evaluator (own program gen.py): overlayref11.Next. -/
set_option linter.unusedVariables false
set_option linter.unusedSimpArgs false
set_option maxRecDepth 100000
namespace Go.Proofs.YtpbljgpdhllklaaDoor.Sy
open Go Go.RowKit Sp
/-! overlayref11.Next -/
end Go.Proofs.YtpbljgpdhllklaaDoor.Sy
namespace Go.Proofs.YtpbljgpdhllklaaDoor.Sp
open Go Go.RowKit Sy
def F70 (x : Int × (Int × Int) × Int × Int × Int × Int) : Int × Int :=
  bif (((((decide (x.1 < (2 : Int))) || (decide (x.1 > (32 : Int)))) || (decide (x.2.2.1 < (0 : Int)))) || (decide (x.2.2.1 ≥ x.1))) || (!(Sp.F94 x.2.1))) then
    ((0 : Int), (0 : Int))
  else
    bif ((Sp.F69 x).1 == (3 : Int)) then
      ((Sp.F69 x).2.1, (IntKind.i64.wrap ((BitVec.ofInt IntKind.i64.bits (Sp.F101 (x.2.1, x.2.2.1, (Sp.F96 (x.1, x.2.2.2)))) ||| BitVec.ofInt IntKind.i64.bits (IntKind.i64.wrap ((1 : Int) * 2 ^ (min ((IntKind.u64.wrap ((Sp.F69 x).2.2))).toNat IntKind.i64.bits)))).toNat : Int)))
    else
      ((Sp.F69 x).2.1, (0 : Int))
end Go.Proofs.YtpbljgpdhllklaaDoor.Sp
namespace Go.Proofs.YtpbljgpdhllklaaDoor.Sy
def ct70 : Ct := { p := (Ty.pair ty3 (Ty.pair ty60 (Ty.pair ty3 ty117))), psh := [none, some 2, none, some 3], r := ty60, rsh := (Rsh.one (some 2)), pre := none, fresh := none, F := Sp.F70 }
theorem va70 (x : (Ty.pair ty3 (Ty.pair ty60 (Ty.pair ty3 ty117))).den) : ((evFn (ctxG GmC4) Tryd.f70 (Ty.pair ty3 (Ty.pair ty60 (Ty.pair ty3 ty117))) [none, some 2, none, some 3] (Rsh.one (some 2)) none ty60 noL x)).val (fun y => y) (Ty.dflt ty60) = Sp.F70 x := by kernel_rfl
theorem se70 (x : (Ty.pair ty3 (Ty.pair ty60 (Ty.pair ty3 ty117))).den) : ((evFn (ctxG GmC4) Tryd.f70 (Ty.pair ty3 (Ty.pair ty60 (Ty.pair ty3 ty117))) [none, some 2, none, some 3] (Rsh.one (some 2)) none ty60 noL x)).safe = ((((((((decide (x.1 < (2 : Int))) || (decide (x.1 > (32 : Int)))) || (decide (x.2.2.1 < (0 : Int)))) || (decide (x.2.2.1 ≥ x.1))) || (!(Sp.F94 x.2.1))) = true → True) ∧ ((((((decide (x.1 < (2 : Int))) || (decide (x.1 > (32 : Int)))) || (decide (x.2.2.1 < (0 : Int)))) || (decide (x.2.2.1 ≥ x.1))) || (!(Sp.F94 x.2.1))) = false → ((((Sp.F69 x).1 == (3 : Int)) = true → ((0 ≤ (IntKind.u64.wrap ((Sp.F69 x).2.2))) ∧ True)) ∧ (((Sp.F69 x).1 == (3 : Int)) = false → True))))) := by kernel_rfl
theorem sa70 (x : (Ty.pair ty3 (Ty.pair ty60 (Ty.pair ty3 ty117))).den) (fx : Fit (Ty.pair ty3 (Ty.pair ty60 (Ty.pair ty3 ty117))) x) : SafeW ((evFn (ctxG GmC4) Tryd.f70 (Ty.pair ty3 (Ty.pair ty60 (Ty.pair ty3 ty117))) [none, some 2, none, some 3] (Rsh.one (some 2)) none ty60 noL x)) := by
  refine ⟨?_⟩
  rw [se70]
  try dsimp only [Ty.den] at *
  simp only [Fit, maxLen] at fx
  simp only [true_and, IntKind.wrap_i64, IntKind.wrap_u8, IntKind.wrap_u32, IntKind.wrap_u64, Sp.tmod_lit, Sp.tdiv_lit, bne_eq_false_iff_eq, Int.natCast_inj, setE, copyL, sliceL, zrow, List.length_append, List.length_cons, List.length_nil, List.length_set, List.length_replicate, List.length_take, List.length_drop, decide_eq_true_eq, decide_eq_false_iff_not, Bool.or_eq_true, Bool.and_eq_true, Bool.or_eq_false_iff, Bool.and_eq_false_iff, Bool.not_eq_true', Bool.not_eq_false', Bool.not_eq_true, Bool.not_eq_false, beq_iff_eq, beq_eq_false_iff_ne, bne_iff_ne, ne_eq, implies_true, and_true, true_and] at *
  all_goals ((repeat' (first | exact trivial | apply And.intro | intro _)) <;> first | trivial | omega | exact Sp.tmod_nn (by omega) | exact Sp.tmod_lt (by omega) (by omega))
theorem ok70 : CtOk Tryd.prog gdS 70 ct70 :=
  fn_okU (ctxOkF gokGmC4 []) rfl Tryd.func70 (p := (Ty.pair ty3 (Ty.pair ty60 (Ty.pair ty3 ty117)))) (psh := [none, some 2, none, some 3]) (r := ty60) (rsh := (Rsh.one (some 2))) (pre := none) (fresh := none) (F := Sp.F70) (L := noL) (c := bodyOf Tryd.f70) (dflt := Ty.dflt ty60) rfl (no_loops)
    (safe_no @sa70) va70
def GmC5 : List (Nat × Ct) := (70, ct70) :: GmC4
theorem gokGmC5 : GOk GmC5 := gok_cons ok70 ⟨_, Tryd.func70, by kernel_rfl, by kernel_rfl⟩ (gokGmC4)
end Go.Proofs.YtpbljgpdhllklaaDoor.Sy
end

section
/- Contracts of functions, by the evaluator (own program gen.py): building.within, building.loads, overlayref01.in, overlaylaw01.Sample. -/
set_option linter.unusedVariables false
set_option linter.unusedSimpArgs false
set_option maxRecDepth 100000
namespace Go.Proofs.YtpbljgpdhllklaaDoor.Sy
open Go Go.RowKit Sp
/-! building.within -/
end Go.Proofs.YtpbljgpdhllklaaDoor.Sy
namespace Go.Proofs.YtpbljgpdhllklaaDoor.Sp
open Go Go.RowKit Sy
def in71_2 (k : (Int × Int × (List Int) × Int)) (x : (Int)) : Prop := (0 : Int) ≤ x ∧ k.2.2.2 = ((k.2.2.1).length : Int)
def mu71_2 (k : (Int × Int × (List Int) × Int)) (x : (Int)) : Nat := (k.2.2.2 - x).toNat
def st71_2 (k : (Int × Int × (List Int) × Int)) (x : (Int)) : BOut (Int × Int × (List Int) × Int) (Int) (Bool) :=
  bif (decide (x < k.2.2.2)) then
    (bif ((decide ((Sp.nthT k.2.2.1 x) < k.1)) || (decide ((Sp.nthT k.2.2.1 x) > k.2.1))) then
      BOut.ret false
    else
      BOut.next k (IntKind.i64.wrap (x + (1 : Int))))
  else
    BOut.brk k x
def G71_2 (k : (Int × Int × (List Int) × Int)) (x : (Int)) : (Int) := endOf st71_2 k (Nat.succ (mu71_2 k x)) x
def R71_2 (k : (Int × Int × (List Int) × Int)) (x : (Int)) : Option (Bool) := retOf st71_2 k (Nat.succ (mu71_2 k x)) x
end Go.Proofs.YtpbljgpdhllklaaDoor.Sp
namespace Go.Proofs.YtpbljgpdhllklaaDoor.Sy
def LS71_2 : LS ty4.den := mkLS (Ty.pair ty3 (Ty.pair ty3 (Ty.pair ty35 ty3))) ty3  [(0, none), (1, none), (9, none), (10, none)] [] [(11, none)] [] [] [] [] 0 true Sp.in71_2 Sp.st71_2 Sp.mu71_2
theorem va71_2 (k : (Ty.pair ty3 (Ty.pair ty3 (Ty.pair ty35 ty3))).den) (x : ty3.den) : ((evCode (ctxG GmC5) (lookL []) (bodyAt (bodyOf Tryd.f71) [0]) (tmpl LS71_2 (enc (Ty.pair ty3 (Ty.pair ty3 (Ty.pair ty35 ty3))) k) (enc ty3 x)) (evRound LS71_2 (evRet (ctxG GmC5) Tryd.f71 (Rsh.one (none)) none ty4 .ret)))).val BOut.ret (BOut.brk (Ty.dflt (Ty.pair ty3 (Ty.pair ty3 (Ty.pair ty35 ty3)))) (Ty.dflt ty3)) = Sp.st71_2 k x := by kernel_rfl
theorem se71_2 (k : (Ty.pair ty3 (Ty.pair ty3 (Ty.pair ty35 ty3))).den) (x : ty3.den) : ((evCode (ctxG GmC5) (lookL []) (bodyAt (bodyOf Tryd.f71) [0]) (tmpl LS71_2 (enc (Ty.pair ty3 (Ty.pair ty3 (Ty.pair ty35 ty3))) k) (enc ty3 x)) (evRound LS71_2 (evRet (ctxG GmC5) Tryd.f71 (Rsh.one (none)) none ty4 .ret)))).safe = ((((decide (x < k.2.2.2)) = true → ((0 ≤ x ∧ x < ((k.2.2.1).length : Int)) ∧ ((((decide ((Sp.nthT k.2.2.1 x) < k.1)) || (decide ((Sp.nthT k.2.2.1 x) > k.2.1))) = true → True) ∧ (((decide ((Sp.nthT k.2.2.1 x) < k.1)) || (decide ((Sp.nthT k.2.2.1 x) > k.2.1))) = false → True)))) ∧ ((decide (x < k.2.2.2)) = false → True))) := by kernel_rfl
set_option maxHeartbeats 4000000 in
theorem sa71_2 (k : (Ty.pair ty3 (Ty.pair ty3 (Ty.pair ty35 ty3))).den) (x : ty3.den) (fk : Fit (Ty.pair ty3 (Ty.pair ty3 (Ty.pair ty35 ty3))) k) (fx : Fit ty3 x) (h : Sp.in71_2 k x) : SafeW ((evCode (ctxG GmC5) (lookL []) (bodyAt (bodyOf Tryd.f71) [0]) (tmpl LS71_2 (enc (Ty.pair ty3 (Ty.pair ty3 (Ty.pair ty35 ty3))) k) (enc ty3 x)) (evRound LS71_2 (evRet (ctxG GmC5) Tryd.f71 (Rsh.one (none)) none ty4 .ret)))) := by
  refine ⟨?_⟩
  rw [se71_2]
  try dsimp only [Ty.den] at *
  simp only [Sp.in71_2, Fit, maxLen] at h fk fx
  simp only [IntKind.wrap_i64, IntKind.wrap_u8, IntKind.wrap_u32, IntKind.wrap_u64, Sp.tmod_lit, Sp.tdiv_lit, bne_eq_false_iff_eq, Int.natCast_inj, setE, copyL, sliceL, zrow, List.length_append, List.length_cons, List.length_nil, List.length_set, List.length_replicate, List.length_take, List.length_drop, decide_eq_true_eq, decide_eq_false_iff_not, Bool.or_eq_true, Bool.and_eq_true, Bool.or_eq_false_iff, Bool.and_eq_false_iff, Bool.not_eq_true', Bool.not_eq_false', Bool.not_eq_true, Bool.not_eq_false, beq_iff_eq, beq_eq_false_iff_ne, bne_iff_ne, ne_eq, implies_true, and_true, true_and] at *
  all_goals ((repeat' (first | exact trivial | apply And.intro | intro _)) <;> first | trivial | omega | exact Sp.tmod_nn (by omega) | exact Sp.tmod_lt (by omega) (by omega))
set_option maxHeartbeats 4000000 in
theorem so71_2 (k : (Ty.pair ty3 (Ty.pair ty3 (Ty.pair ty35 ty3))).den) (x : ty3.den) (fk : Fit (Ty.pair ty3 (Ty.pair ty3 (Ty.pair ty35 ty3))) k) (h : Sp.in71_2 k x) : StepOk true Sp.in71_2 Sp.mu71_2 k x (Sp.st71_2 k x) := by
  try dsimp only [Ty.den] at *
  simp only [Sp.in71_2, Fit, maxLen] at h fk
  unfold Sp.st71_2
  (repeat' (first | exact rfl | (refine StepOk.cnd (fun hc => ?_) (fun hc => ?_) <;> (try simp only [IntKind.wrap_i64, IntKind.wrap_u8, IntKind.wrap_u32, IntKind.wrap_u64, bne_eq_false_iff_eq, Int.natCast_inj, setE, copyL, sliceL, zrow, List.length_append, List.length_cons, List.length_nil, List.length_set, List.length_replicate, List.length_take, List.length_drop, decide_eq_true_eq, decide_eq_false_iff_not, Bool.or_eq_true, Bool.and_eq_true, Bool.or_eq_false_iff, Bool.and_eq_false_iff, Bool.not_eq_true', Bool.not_eq_false', Bool.not_eq_true, Bool.not_eq_false, beq_iff_eq, beq_eq_false_iff_ne, bne_iff_ne, ne_eq] at hc)) | refine StepOk.opt (fun _ => ?_))) <;> (first | exact rfl | (refine ⟨rfl, ?_, ?_⟩ <;> simp only [Sp.in71_2, Sp.mu71_2, IntKind.wrap_i64, IntKind.wrap_u8, IntKind.wrap_u32, IntKind.wrap_u64, Sp.tmod_lit, Sp.tdiv_lit, bne_eq_false_iff_eq, Int.natCast_inj, setE, copyL, sliceL, zrow, List.length_append, List.length_cons, List.length_nil, List.length_set, List.length_replicate, List.length_take, List.length_drop, decide_eq_true_eq, decide_eq_false_iff_not, Bool.or_eq_true, Bool.and_eq_true, Bool.or_eq_false_iff, Bool.and_eq_false_iff, Bool.not_eq_true', Bool.not_eq_false', Bool.not_eq_true, Bool.not_eq_false, beq_iff_eq, beq_eq_false_iff_ne, bne_iff_ne, ne_eq] <;> first | omega | (and_intros <;> first | omega | exact h.1 | exact h.2 | exact h.2.1 | exact h.2.2 | exact h.2.2.1 | exact h.2.2.2 | exact h.2.2.2.1 | exact h.2.2.2.2 | exact h.2.2.2.2.1 | exact h.2.2.2.2.2 | exact h.2.2.2.2.2.1 | exact h.2.2.2.2.2.2)))
theorem lo71_2 : LoopOk Tryd.prog gdS (RetAt Tryd.prog Tryd.f71 (Rsh.one (none)) none ty4) (bodyAt (bodyOf Tryd.f71) [0]) LS71_2 :=
  loop_run (ctxOkF gokGmC5 []) (L := lookL []) (loops_of (l := []) (by kernel_rfl) (loops_nil)) sa71_2 va71_2 so71_2
end Go.Proofs.YtpbljgpdhllklaaDoor.Sy
namespace Go.Proofs.YtpbljgpdhllklaaDoor.Sp
open Go Go.RowKit Sy
def F71 (x : Int × Int × List Int) : Bool :=
  Sp.optR (Sp.R71_2 (x.1, x.2.1, x.2.2, ((x.2.2).length : Int)) (0 : Int)) (fun y => y)
  (true)
end Go.Proofs.YtpbljgpdhllklaaDoor.Sp
namespace Go.Proofs.YtpbljgpdhllklaaDoor.Sy
def ct71 : Ct := { p := (Ty.pair ty3 (Ty.pair ty3 ty35)), psh := [none, none, none], r := ty4, rsh := (Rsh.one (none)), pre := none, fresh := none, F := Sp.F71 }
theorem va71 (x : (Ty.pair ty3 (Ty.pair ty3 ty35)).den) : ((evFn (ctxG GmC5) Tryd.f71 (Ty.pair ty3 (Ty.pair ty3 ty35)) [none, none, none] (Rsh.one (none)) none ty4 (lookL [(2, LS71_2)]) x)).val (fun y => y) (Ty.dflt ty4) = Sp.F71 x := by kernel_rfl
theorem se71 (x : (Ty.pair ty3 (Ty.pair ty3 ty35)).den) : ((evFn (ctxG GmC5) Tryd.f71 (Ty.pair ty3 (Ty.pair ty3 ty35)) [none, none, none] (Rsh.one (none)) none ty4 (lookL [(2, LS71_2)]) x)).safe = (((Sp.in71_2 (x.1, x.2.1, x.2.2, ((x.2.2).length : Int)) (0 : Int)) ∧ ((Sp.R71_2 (x.1, x.2.1, x.2.2, ((x.2.2).length : Int)) (0 : Int)) = none → True))) := by kernel_rfl
theorem sa71 (x : (Ty.pair ty3 (Ty.pair ty3 ty35)).den) (fx : Fit (Ty.pair ty3 (Ty.pair ty3 ty35)) x) : SafeW ((evFn (ctxG GmC5) Tryd.f71 (Ty.pair ty3 (Ty.pair ty3 ty35)) [none, none, none] (Rsh.one (none)) none ty4 (lookL [(2, LS71_2)]) x)) := by
  refine ⟨?_⟩
  rw [se71]
  try dsimp only [Ty.den] at *
  simp only [Fit, maxLen] at fx
  simp only [Sp.in71_2, IntKind.wrap_i64, IntKind.wrap_u8, IntKind.wrap_u32, IntKind.wrap_u64, Sp.tmod_lit, Sp.tdiv_lit, bne_eq_false_iff_eq, Int.natCast_inj, setE, copyL, sliceL, zrow, List.length_append, List.length_cons, List.length_nil, List.length_set, List.length_replicate, List.length_take, List.length_drop, decide_eq_true_eq, decide_eq_false_iff_not, Bool.or_eq_true, Bool.and_eq_true, Bool.or_eq_false_iff, Bool.and_eq_false_iff, Bool.not_eq_true', Bool.not_eq_false', Bool.not_eq_true, Bool.not_eq_false, beq_iff_eq, beq_eq_false_iff_ne, bne_iff_ne, ne_eq, implies_true, and_true, true_and] at *
  all_goals ((repeat' (first | exact trivial | apply And.intro | intro _)) <;> first | trivial | omega | exact Sp.tmod_nn (by omega) | exact Sp.tmod_lt (by omega) (by omega))
theorem ok71 : CtOk Tryd.prog gdS 71 ct71 :=
  fn_okU (ctxOkF gokGmC5 []) rfl Tryd.func71 (p := (Ty.pair ty3 (Ty.pair ty3 ty35))) (psh := [none, none, none]) (r := ty4) (rsh := (Rsh.one (none))) (pre := none) (fresh := none) (F := Sp.F71) (L := (lookL [(2, LS71_2)])) (c := bodyOf Tryd.f71) (dflt := Ty.dflt ty4) rfl (loops_of (l := [bodyAt (bodyOf Tryd.f71) [0]]) (by kernel_rfl) (loops_cons (s0 := LS71_2) (by kernel_rfl) lo71_2 (loops_nil)))
    (safe_no @sa71) va71
/-! building.loads -/
end Go.Proofs.YtpbljgpdhllklaaDoor.Sy
namespace Go.Proofs.YtpbljgpdhllklaaDoor.Sp
open Go Go.RowKit Sy
def F73 (x : Int × Int × Int × Int × Nat × Nat × Nat × List (Int × Int × Int × Int × Int × Int × Int × Int × Int)) : Bool :=
  (((((FloatKind.f64.format.order (0 : Nat) x.2.2.2.2.1) == some Ordering.lt) && ((FloatKind.f64.format.order x.2.2.2.2.1 x.2.2.2.2.2.1) == some Ordering.lt)) && ((FloatKind.f64.format.order x.2.2.2.2.2.1 x.2.2.2.2.2.2.1) == some Ordering.lt)) && ((FloatKind.f64.format.order x.2.2.2.2.2.2.1 (9218868437227405311 : Nat)) == some Ordering.lt || (FloatKind.f64.format.order x.2.2.2.2.2.2.1 (9218868437227405311 : Nat)) == some Ordering.eq))
end Go.Proofs.YtpbljgpdhllklaaDoor.Sp
namespace Go.Proofs.YtpbljgpdhllklaaDoor.Sy
def ct73 : Ct := { p := ty32, psh := [some 8], r := ty4, rsh := (Rsh.one (none)), pre := none, fresh := none, F := Sp.F73 }
theorem va73 (x : ty32.den) : ((evFn (ctxG GmC5) Tryd.f73 ty32 [some 8] (Rsh.one (none)) none ty4 noL x)).val (fun y => y) (Ty.dflt ty4) = Sp.F73 x := by kernel_rfl
theorem se73 (x : ty32.den) : ((evFn (ctxG GmC5) Tryd.f73 ty32 [some 8] (Rsh.one (none)) none ty4 noL x)).safe = (True) := by kernel_rfl
theorem sa73 (x : ty32.den) (fx : Fit ty32 x) : SafeW ((evFn (ctxG GmC5) Tryd.f73 ty32 [some 8] (Rsh.one (none)) none ty4 noL x)) := by
  refine ⟨?_⟩
  rw [se73]
  trivial
theorem ok73 : CtOk Tryd.prog gdS 73 ct73 :=
  fn_okU (ctxOkF gokGmC5 []) rfl Tryd.func73 (p := ty32) (psh := [some 8]) (r := ty4) (rsh := (Rsh.one (none))) (pre := none) (fresh := none) (F := Sp.F73) (L := noL) (c := bodyOf Tryd.f73) (dflt := Ty.dflt ty4) rfl (no_loops)
    (safe_no @sa73) va73
/-! overlayref01.in -/
end Go.Proofs.YtpbljgpdhllklaaDoor.Sy
namespace Go.Proofs.YtpbljgpdhllklaaDoor.Sp
open Go Go.RowKit Sy
def F77 (x : Int × Int × Int) : Bool :=
  ((decide (x.1 ≥ x.2.1)) && (decide (x.1 ≤ x.2.2)))
end Go.Proofs.YtpbljgpdhllklaaDoor.Sp
namespace Go.Proofs.YtpbljgpdhllklaaDoor.Sy
def ct77 : Ct := { p := (Ty.pair ty3 (Ty.pair ty3 ty3)), psh := [none, none, none], r := ty4, rsh := (Rsh.one (none)), pre := none, fresh := none, F := Sp.F77 }
theorem va77 (x : (Ty.pair ty3 (Ty.pair ty3 ty3)).den) : ((evFn (ctxG GmC5) Tryd.f77 (Ty.pair ty3 (Ty.pair ty3 ty3)) [none, none, none] (Rsh.one (none)) none ty4 noL x)).val (fun y => y) (Ty.dflt ty4) = Sp.F77 x := by kernel_rfl
theorem se77 (x : (Ty.pair ty3 (Ty.pair ty3 ty3)).den) : ((evFn (ctxG GmC5) Tryd.f77 (Ty.pair ty3 (Ty.pair ty3 ty3)) [none, none, none] (Rsh.one (none)) none ty4 noL x)).safe = (True) := by kernel_rfl
theorem sa77 (x : (Ty.pair ty3 (Ty.pair ty3 ty3)).den) (fx : Fit (Ty.pair ty3 (Ty.pair ty3 ty3)) x) : SafeW ((evFn (ctxG GmC5) Tryd.f77 (Ty.pair ty3 (Ty.pair ty3 ty3)) [none, none, none] (Rsh.one (none)) none ty4 noL x)) := by
  refine ⟨?_⟩
  rw [se77]
  trivial
theorem ok77 : CtOk Tryd.prog gdS 77 ct77 :=
  fn_okU (ctxOkF gokGmC5 []) rfl Tryd.func77 (p := (Ty.pair ty3 (Ty.pair ty3 ty3))) (psh := [none, none, none]) (r := ty4) (rsh := (Rsh.one (none))) (pre := none) (fresh := none) (F := Sp.F77) (L := noL) (c := bodyOf Tryd.f77) (dflt := Ty.dflt ty4) rfl (no_loops)
    (safe_no @sa77) va77
/-! overlaylaw01.Sample -/
end Go.Proofs.YtpbljgpdhllklaaDoor.Sy
namespace Go.Proofs.YtpbljgpdhllklaaDoor.Sp
open Go Go.RowKit Sy
def in31_3 (k : (Int × Int)) (x : (Int × Int × Int × Int × Int × Nat × Nat × Nat × List (Int × Int × Int × Int × Int × Int × Int × Int × Int))) : Prop := 0 ≤ x.1 ∧ x.1 ≤ 101 ∧ k.1 ≠ 0 ∧ k.2 ≤ 100 ∧ (x.2.2.2.2.2.2.2.2.length : Int) ≤ x.1
def mu31_3 (k : (Int × Int)) (x : (Int × Int × Int × Int × Int × Nat × Nat × Nat × List (Int × Int × Int × Int × Int × Int × Int × Int × Int))) : Nat := (k.2 - x.1).toNat
def st31_3 (k : (Int × Int)) (x : (Int × Int × Int × Int × Int × Nat × Nat × Nat × List (Int × Int × Int × Int × Int × Int × Int × Int × Int))) : BOut (Int × Int) (Int × Int × Int × Int × Int × Nat × Nat × Nat × List (Int × Int × Int × Int × Int × Int × Int × Int × Int)) (Int × Int × Int × Int × Nat × Nat × Nat × List (Int × Int × Int × Int × Int × Int × Int × Int × Int)) :=
  bif (decide (x.1 < k.2)) then
    BOut.next k ((IntKind.i64.wrap (x.1 + (1 : Int))), x.2.1, x.2.2.1, x.2.2.2.1, x.2.2.2.2.1, x.2.2.2.2.2.1, x.2.2.2.2.2.2.1, x.2.2.2.2.2.2.2.1, (x.2.2.2.2.2.2.2.2 ++ [((100 : Int), (2 : Int), (6 : Int), (5 : Int), (4 : Int), (2 : Int), (3 : Int), (10 : Int), (Int.tmod x.1 k.1))]))
  else
    BOut.brk k x
def G31_3 (k : (Int × Int)) (x : (Int × Int × Int × Int × Int × Nat × Nat × Nat × List (Int × Int × Int × Int × Int × Int × Int × Int × Int))) : (Int × Int × Int × Int × Int × Nat × Nat × Nat × List (Int × Int × Int × Int × Int × Int × Int × Int × Int)) := endOf st31_3 k (Nat.succ (mu31_3 k x)) x
end Go.Proofs.YtpbljgpdhllklaaDoor.Sp
namespace Go.Proofs.YtpbljgpdhllklaaDoor.Sy
def LS31_3 : LS ty32.den := mkLS (Ty.pair ty3 ty3) (Ty.pair ty3 ty32)  [(0, none), (1, none)] [] [(6, none)] [(5, 8)] [(8, 100308, true, 76)] [] [(5, 5)] 0 false Sp.in31_3 Sp.st31_3 Sp.mu31_3
theorem va31_3 (k : (Ty.pair ty3 ty3).den) (x : (Ty.pair ty3 ty32).den) : ((evCode (ctxG GmC5) (lookL []) (bodyAt (bodyOf Tryd.f31) [0]) (tmpl LS31_3 (enc (Ty.pair ty3 ty3) k) (enc (Ty.pair ty3 ty32) x)) (evRound LS31_3 (evRet (ctxG GmC5) Tryd.f31 (Rsh.one (some 8)) (some 76) ty32 .ret)))).val BOut.ret (BOut.brk (Ty.dflt (Ty.pair ty3 ty3)) (Ty.dflt (Ty.pair ty3 ty32))) = Sp.st31_3 k x := by kernel_rfl
theorem se31_3 (k : (Ty.pair ty3 ty3).den) (x : (Ty.pair ty3 ty32).den) : ((evCode (ctxG GmC5) (lookL []) (bodyAt (bodyOf Tryd.f31) [0]) (tmpl LS31_3 (enc (Ty.pair ty3 ty3) k) (enc (Ty.pair ty3 ty32) x)) (evRound LS31_3 (evRet (ctxG GmC5) Tryd.f31 (Rsh.one (some 8)) (some 76) ty32 .ret)))).safe = ((((decide (x.1 < k.2)) = true → ((k.1 ≠ 0) ∧ (((List.length (x.2.2.2.2.2.2.2.2 : List (Int × Int × Int × Int × Int × Int × Int × Int × Int)) + List.length ([((100 : Int), (2 : Int), (6 : Int), (5 : Int), (4 : Int), (2 : Int), (3 : Int), (10 : Int), (Int.tmod x.1 k.1))] : List (Int × Int × Int × Int × Int × Int × Int × Int × Int))) * 72 ≤ 140737488355328 ∧ List.length (x.2.2.2.2.2.2.2.2 : List (Int × Int × Int × Int × Int × Int × Int × Int × Int)) + List.length ([((100 : Int), (2 : Int), (6 : Int), (5 : Int), (4 : Int), (2 : Int), (3 : Int), (10 : Int), (Int.tmod x.1 k.1))] : List (Int × Int × Int × Int × Int × Int × Int × Int × Int)) ≤ 4611686018427387903) ∧ True))) ∧ ((decide (x.1 < k.2)) = false → True))) := by kernel_rfl
set_option maxHeartbeats 4000000 in
theorem sa31_3 (k : (Ty.pair ty3 ty3).den) (x : (Ty.pair ty3 ty32).den) (fk : Fit (Ty.pair ty3 ty3) k) (fx : Fit (Ty.pair ty3 ty32) x) (h : Sp.in31_3 k x) : SafeW ((evCode (ctxG GmC5) (lookL []) (bodyAt (bodyOf Tryd.f31) [0]) (tmpl LS31_3 (enc (Ty.pair ty3 ty3) k) (enc (Ty.pair ty3 ty32) x)) (evRound LS31_3 (evRet (ctxG GmC5) Tryd.f31 (Rsh.one (some 8)) (some 76) ty32 .ret)))) := by
  refine ⟨?_⟩
  rw [se31_3]
  try dsimp only [Ty.den] at *
  simp only [Sp.in31_3, Fit, maxLen] at h fk fx
  simp only [IntKind.wrap_i64, IntKind.wrap_u8, IntKind.wrap_u32, IntKind.wrap_u64, Sp.tmod_lit, Sp.tdiv_lit, bne_eq_false_iff_eq, Int.natCast_inj, setE, copyL, sliceL, zrow, List.length_append, List.length_cons, List.length_nil, List.length_set, List.length_replicate, List.length_take, List.length_drop, decide_eq_true_eq, decide_eq_false_iff_not, Bool.or_eq_true, Bool.and_eq_true, Bool.or_eq_false_iff, Bool.and_eq_false_iff, Bool.not_eq_true', Bool.not_eq_false', Bool.not_eq_true, Bool.not_eq_false, beq_iff_eq, beq_eq_false_iff_ne, bne_iff_ne, ne_eq, implies_true, and_true, true_and] at *
  all_goals ((repeat' (first | exact trivial | apply And.intro | intro _)) <;> first | trivial | omega | exact Sp.tmod_nn (by omega) | exact Sp.tmod_lt (by omega) (by omega))
set_option maxHeartbeats 4000000 in
theorem so31_3 (k : (Ty.pair ty3 ty3).den) (x : (Ty.pair ty3 ty32).den) (fk : Fit (Ty.pair ty3 ty3) k) (h : Sp.in31_3 k x) : StepOk false Sp.in31_3 Sp.mu31_3 k x (Sp.st31_3 k x) := by
  try dsimp only [Ty.den] at *
  simp only [Sp.in31_3, Fit, maxLen] at h fk
  unfold Sp.st31_3
  (repeat' (first | exact rfl | (refine StepOk.cnd (fun hc => ?_) (fun hc => ?_) <;> (try simp only [IntKind.wrap_i64, IntKind.wrap_u8, IntKind.wrap_u32, IntKind.wrap_u64, bne_eq_false_iff_eq, Int.natCast_inj, setE, copyL, sliceL, zrow, List.length_append, List.length_cons, List.length_nil, List.length_set, List.length_replicate, List.length_take, List.length_drop, decide_eq_true_eq, decide_eq_false_iff_not, Bool.or_eq_true, Bool.and_eq_true, Bool.or_eq_false_iff, Bool.and_eq_false_iff, Bool.not_eq_true', Bool.not_eq_false', Bool.not_eq_true, Bool.not_eq_false, beq_iff_eq, beq_eq_false_iff_ne, bne_iff_ne, ne_eq] at hc)) | refine StepOk.opt (fun _ => ?_))) <;> (first | exact rfl | (refine ⟨rfl, ?_, ?_⟩ <;> simp only [Sp.in31_3, Sp.mu31_3, IntKind.wrap_i64, IntKind.wrap_u8, IntKind.wrap_u32, IntKind.wrap_u64, Sp.tmod_lit, Sp.tdiv_lit, bne_eq_false_iff_eq, Int.natCast_inj, setE, copyL, sliceL, zrow, List.length_append, List.length_cons, List.length_nil, List.length_set, List.length_replicate, List.length_take, List.length_drop, decide_eq_true_eq, decide_eq_false_iff_not, Bool.or_eq_true, Bool.and_eq_true, Bool.or_eq_false_iff, Bool.and_eq_false_iff, Bool.not_eq_true', Bool.not_eq_false', Bool.not_eq_true, Bool.not_eq_false, beq_iff_eq, beq_eq_false_iff_ne, bne_iff_ne, ne_eq] <;> first | omega | (and_intros <;> first | omega | exact h.1 | exact h.2 | exact h.2.1 | exact h.2.2 | exact h.2.2.1 | exact h.2.2.2 | exact h.2.2.2.1 | exact h.2.2.2.2 | exact h.2.2.2.2.1 | exact h.2.2.2.2.2 | exact h.2.2.2.2.2.1 | exact h.2.2.2.2.2.2)))
theorem lo31_3 : LoopOk Tryd.prog gdS (RetAt Tryd.prog Tryd.f31 (Rsh.one (some 8)) (some 76) ty32) (bodyAt (bodyOf Tryd.f31) [0]) LS31_3 :=
  loop_run (ctxOkF gokGmC5 []) (L := lookL []) (loops_of (l := []) (by kernel_rfl) (loops_nil)) sa31_3 va31_3 so31_3
end Go.Proofs.YtpbljgpdhllklaaDoor.Sy
namespace Go.Proofs.YtpbljgpdhllklaaDoor.Sp
open Go Go.RowKit Sy
def F31 (x : Int × Int) : Int × Int × Int × Int × Nat × Nat × Nat × List (Int × Int × Int × Int × Int × Int × Int × Int × Int) :=
  (Sp.G31_3 x ((0 : Int), x.1, (1 : Int), (4000 : Int), (30 : Int), (4591870180066957722 : Nat), (4605380978949069210 : Nat), (4607632778762754458 : Nat), [])).2
def pre31 (x : Int × Int) : Prop := 1 ≤ x.1 ∧ x.1 ≤ 100 ∧ x.2 ≤ 100
end Go.Proofs.YtpbljgpdhllklaaDoor.Sp
namespace Go.Proofs.YtpbljgpdhllklaaDoor.Sy
def ct31 : Ct := { p := (Ty.pair ty3 ty3), psh := [none, none], r := ty32, rsh := (Rsh.one (some 8)), pre := some Sp.pre31, fresh := (some 76), F := Sp.F31 }
theorem va31 (x : (Ty.pair ty3 ty3).den) : ((evFn (ctxG GmC5) Tryd.f31 (Ty.pair ty3 ty3) [none, none] (Rsh.one (some 8)) (some 76) ty32 (lookL [(3, LS31_3)]) x)).val (fun y => y) (Ty.dflt ty32) = Sp.F31 x := by kernel_rfl
theorem se31 (x : (Ty.pair ty3 ty3).den) : ((evFn (ctxG GmC5) Tryd.f31 (Ty.pair ty3 ty3) [none, none] (Rsh.one (some 8)) (some 76) ty32 (lookL [(3, LS31_3)]) x)).safe = (((Sp.in31_3 x ((0 : Int), x.1, (1 : Int), (4000 : Int), (30 : Int), (4591870180066957722 : Nat), (4605380978949069210 : Nat), (4607632778762754458 : Nat), [])) ∧ True)) := by kernel_rfl
theorem sa31 (x : (Ty.pair ty3 ty3).den) (fx : Fit (Ty.pair ty3 ty3) x) (h : Sp.pre31 x) : SafeW ((evFn (ctxG GmC5) Tryd.f31 (Ty.pair ty3 ty3) [none, none] (Rsh.one (some 8)) (some 76) ty32 (lookL [(3, LS31_3)]) x)) := by
  refine ⟨?_⟩
  rw [se31]
  try dsimp only [Ty.den] at *
  simp only [Fit, maxLen] at fx
  simp only [Sp.in31_3, Sp.pre31, IntKind.wrap_i64, IntKind.wrap_u8, IntKind.wrap_u32, IntKind.wrap_u64, Sp.tmod_lit, Sp.tdiv_lit, bne_eq_false_iff_eq, Int.natCast_inj, setE, copyL, sliceL, zrow, List.length_append, List.length_cons, List.length_nil, List.length_set, List.length_replicate, List.length_take, List.length_drop, decide_eq_true_eq, decide_eq_false_iff_not, Bool.or_eq_true, Bool.and_eq_true, Bool.or_eq_false_iff, Bool.and_eq_false_iff, Bool.not_eq_true', Bool.not_eq_false', Bool.not_eq_true, Bool.not_eq_false, beq_iff_eq, beq_eq_false_iff_ne, bne_iff_ne, ne_eq, implies_true, and_true, true_and] at *
  all_goals ((repeat' (first | exact trivial | apply And.intro | intro _)) <;> first | trivial | omega | exact Sp.tmod_nn (by omega) | exact Sp.tmod_lt (by omega) (by omega))
theorem ok31 : CtOk Tryd.prog gdS 31 ct31 :=
  fn_okU (ctxOkF gokGmC5 []) rfl Tryd.func31 (p := (Ty.pair ty3 ty3)) (psh := [none, none]) (r := ty32) (rsh := (Rsh.one (some 8))) (pre := some Sp.pre31) (fresh := (some 76)) (F := Sp.F31) (L := (lookL [(3, LS31_3)])) (c := bodyOf Tryd.f31) (dflt := Ty.dflt ty32) rfl (loops_of (l := [bodyAt (bodyOf Tryd.f31) [0]]) (by kernel_rfl) (loops_cons (s0 := LS31_3) (by kernel_rfl) lo31_3 (loops_nil)))
    (safe_pre @sa31) va31
def GmT0 : List (Nat × Ct) := (71, ct71) :: (73, ct73) :: (77, ct77) :: (31, ct31) :: GmC5
theorem gokGmT0 : GOk GmT0 := gok_cons ok71 ⟨_, Tryd.func71, by kernel_rfl, by kernel_rfl⟩ (gok_cons ok73 ⟨_, Tryd.func73, by kernel_rfl, by kernel_rfl⟩ (gok_cons ok77 ⟨_, Tryd.func77, by kernel_rfl, by kernel_rfl⟩ (gok_cons ok31 ⟨_, Tryd.func31, by kernel_rfl, by kernel_rfl⟩ (gokGmC5))))
end Go.Proofs.YtpbljgpdhllklaaDoor.Sy
end

section
/- Contracts of functions, by the evaluator (own program gen.py): building.times, overlayref01.times. -/
set_option linter.unusedVariables false
set_option linter.unusedSimpArgs false
set_option maxRecDepth 100000
namespace Go.Proofs.YtpbljgpdhllklaaDoor.Sy
open Go Go.RowKit Sp
/-! building.times -/
end Go.Proofs.YtpbljgpdhllklaaDoor.Sy
namespace Go.Proofs.YtpbljgpdhllklaaDoor.Sp
open Go Go.RowKit Sy
def F72 (x : (Int × Int × Int × Int × Int × Int × Int × Int × Int) × Int) : Bool :=
  ((((Sp.F71 ((1 : Int), (10000 : Int), [x.1.1, x.1.2.1, x.1.2.2.1, x.1.2.2.2.2.1, x.1.2.2.2.2.2.1, x.1.2.2.2.2.2.2.1, x.1.2.2.2.2.2.2.2.1])) && (Sp.F71 ((0 : Int), (10000 : Int), [x.1.2.2.2.1]))) && (decide (x.1.2.2.2.2.2.2.2.1 ≥ x.1.2.2.2.2.2.2.1))) && (Sp.F71 ((0 : Int), (IntKind.i64.wrap (x.2 - (1 : Int))), [x.1.2.2.2.2.2.2.2.2])))
end Go.Proofs.YtpbljgpdhllklaaDoor.Sp
namespace Go.Proofs.YtpbljgpdhllklaaDoor.Sy
def ct72 : Ct := { p := (Ty.pair ty76 ty3), psh := [some 9, none], r := ty4, rsh := (Rsh.one (none)), pre := none, fresh := none, F := Sp.F72 }
theorem va72 (x : (Ty.pair ty76 ty3).den) : ((evFn (ctxG GmT0) Tryd.f72 (Ty.pair ty76 ty3) [some 9, none] (Rsh.one (none)) none ty4 noL x)).val (fun y => y) (Ty.dflt ty4) = Sp.F72 x := by kernel_rfl
theorem se72 (x : (Ty.pair ty76 ty3).den) : ((evFn (ctxG GmT0) Tryd.f72 (Ty.pair ty76 ty3) [some 9, none] (Rsh.one (none)) none ty4 noL x)).safe = (True) := by kernel_rfl
theorem sa72 (x : (Ty.pair ty76 ty3).den) (fx : Fit (Ty.pair ty76 ty3) x) : SafeW ((evFn (ctxG GmT0) Tryd.f72 (Ty.pair ty76 ty3) [some 9, none] (Rsh.one (none)) none ty4 noL x)) := by
  refine ⟨?_⟩
  rw [se72]
  trivial
theorem ok72 : CtOk Tryd.prog gdS 72 ct72 :=
  fn_okU (ctxOkF gokGmT0 []) rfl Tryd.func72 (p := (Ty.pair ty76 ty3)) (psh := [some 9, none]) (r := ty4) (rsh := (Rsh.one (none))) (pre := none) (fresh := none) (F := Sp.F72) (L := noL) (c := bodyOf Tryd.f72) (dflt := Ty.dflt ty4) rfl (no_loops)
    (safe_no @sa72) va72
/-! overlayref01.times -/
end Go.Proofs.YtpbljgpdhllklaaDoor.Sy
namespace Go.Proofs.YtpbljgpdhllklaaDoor.Sp
open Go Go.RowKit Sy
def in78_5 (k : (List Int)) (x : (Int)) : Prop := (0 : Int) ≤ x ∧ k.length = 8
def mu78_5 (k : (List Int)) (x : (Int)) : Nat := ((7 : Int) - x).toNat
def st78_5 (k : (List Int)) (x : (Int)) : BOut (List Int) (Int) (Bool) :=
  bif (decide (x < (7 : Int))) then
    (bif (!(Sp.F77 ((Sp.nthT k x), (1 : Int), (10000 : Int)))) then
      BOut.ret false
    else
      BOut.next k (IntKind.i64.wrap (x + (1 : Int))))
  else
    BOut.brk k x
def G78_5 (k : (List Int)) (x : (Int)) : (Int) := endOf st78_5 k (Nat.succ (mu78_5 k x)) x
def R78_5 (k : (List Int)) (x : (Int)) : Option (Bool) := retOf st78_5 k (Nat.succ (mu78_5 k x)) x
end Go.Proofs.YtpbljgpdhllklaaDoor.Sp
namespace Go.Proofs.YtpbljgpdhllklaaDoor.Sy
def LS78_5 : LS ty4.den := mkLS ty35 ty3  [(5, none)] [] [(6, none)] [] [] [] [] 0 true Sp.in78_5 Sp.st78_5 Sp.mu78_5
theorem va78_5 (k : ty35.den) (x : ty3.den) : ((evCode (ctxG GmT0) (lookL []) (bodyAt (bodyOf Tryd.f78) [0]) (tmpl LS78_5 (enc ty35 k) (enc ty3 x)) (evRound LS78_5 (evRet (ctxG GmT0) Tryd.f78 (Rsh.one (none)) none ty4 .ret)))).val BOut.ret (BOut.brk (Ty.dflt ty35) (Ty.dflt ty3)) = Sp.st78_5 k x := by kernel_rfl
theorem se78_5 (k : ty35.den) (x : ty3.den) : ((evCode (ctxG GmT0) (lookL []) (bodyAt (bodyOf Tryd.f78) [0]) (tmpl LS78_5 (enc ty35 k) (enc ty3 x)) (evRound LS78_5 (evRet (ctxG GmT0) Tryd.f78 (Rsh.one (none)) none ty4 .ret)))).safe = ((((decide (x < (7 : Int))) = true → ((0 ≤ x ∧ x < ((k).length : Int)) ∧ (((!(Sp.F77 ((Sp.nthT k x), (1 : Int), (10000 : Int)))) = true → True) ∧ ((!(Sp.F77 ((Sp.nthT k x), (1 : Int), (10000 : Int)))) = false → True)))) ∧ ((decide (x < (7 : Int))) = false → True))) := by kernel_rfl
set_option maxHeartbeats 4000000 in
theorem sa78_5 (k : ty35.den) (x : ty3.den) (fk : Fit ty35 k) (fx : Fit ty3 x) (h : Sp.in78_5 k x) : SafeW ((evCode (ctxG GmT0) (lookL []) (bodyAt (bodyOf Tryd.f78) [0]) (tmpl LS78_5 (enc ty35 k) (enc ty3 x)) (evRound LS78_5 (evRet (ctxG GmT0) Tryd.f78 (Rsh.one (none)) none ty4 .ret)))) := by
  refine ⟨?_⟩
  rw [se78_5]
  try dsimp only [Ty.den] at *
  simp only [Sp.in78_5, Fit, maxLen] at h fk fx
  simp only [IntKind.wrap_i64, IntKind.wrap_u8, IntKind.wrap_u32, IntKind.wrap_u64, Sp.tmod_lit, Sp.tdiv_lit, bne_eq_false_iff_eq, Int.natCast_inj, setE, copyL, sliceL, zrow, List.length_append, List.length_cons, List.length_nil, List.length_set, List.length_replicate, List.length_take, List.length_drop, decide_eq_true_eq, decide_eq_false_iff_not, Bool.or_eq_true, Bool.and_eq_true, Bool.or_eq_false_iff, Bool.and_eq_false_iff, Bool.not_eq_true', Bool.not_eq_false', Bool.not_eq_true, Bool.not_eq_false, beq_iff_eq, beq_eq_false_iff_ne, bne_iff_ne, ne_eq, implies_true, and_true, true_and] at *
  all_goals ((repeat' (first | exact trivial | apply And.intro | intro _)) <;> first | trivial | omega | exact Sp.tmod_nn (by omega) | exact Sp.tmod_lt (by omega) (by omega))
set_option maxHeartbeats 4000000 in
theorem so78_5 (k : ty35.den) (x : ty3.den) (fk : Fit ty35 k) (h : Sp.in78_5 k x) : StepOk true Sp.in78_5 Sp.mu78_5 k x (Sp.st78_5 k x) := by
  try dsimp only [Ty.den] at *
  simp only [Sp.in78_5, Fit, maxLen] at h fk
  unfold Sp.st78_5
  (repeat' (first | exact rfl | (refine StepOk.cnd (fun hc => ?_) (fun hc => ?_) <;> (try simp only [IntKind.wrap_i64, IntKind.wrap_u8, IntKind.wrap_u32, IntKind.wrap_u64, bne_eq_false_iff_eq, Int.natCast_inj, setE, copyL, sliceL, zrow, List.length_append, List.length_cons, List.length_nil, List.length_set, List.length_replicate, List.length_take, List.length_drop, decide_eq_true_eq, decide_eq_false_iff_not, Bool.or_eq_true, Bool.and_eq_true, Bool.or_eq_false_iff, Bool.and_eq_false_iff, Bool.not_eq_true', Bool.not_eq_false', Bool.not_eq_true, Bool.not_eq_false, beq_iff_eq, beq_eq_false_iff_ne, bne_iff_ne, ne_eq] at hc)) | refine StepOk.opt (fun _ => ?_))) <;> (first | exact rfl | (refine ⟨rfl, ?_, ?_⟩ <;> simp only [Sp.in78_5, Sp.mu78_5, IntKind.wrap_i64, IntKind.wrap_u8, IntKind.wrap_u32, IntKind.wrap_u64, Sp.tmod_lit, Sp.tdiv_lit, bne_eq_false_iff_eq, Int.natCast_inj, setE, copyL, sliceL, zrow, List.length_append, List.length_cons, List.length_nil, List.length_set, List.length_replicate, List.length_take, List.length_drop, decide_eq_true_eq, decide_eq_false_iff_not, Bool.or_eq_true, Bool.and_eq_true, Bool.or_eq_false_iff, Bool.and_eq_false_iff, Bool.not_eq_true', Bool.not_eq_false', Bool.not_eq_true, Bool.not_eq_false, beq_iff_eq, beq_eq_false_iff_ne, bne_iff_ne, ne_eq] <;> first | omega | (and_intros <;> first | omega | exact h.1 | exact h.2 | exact h.2.1 | exact h.2.2 | exact h.2.2.1 | exact h.2.2.2 | exact h.2.2.2.1 | exact h.2.2.2.2 | exact h.2.2.2.2.1 | exact h.2.2.2.2.2 | exact h.2.2.2.2.2.1 | exact h.2.2.2.2.2.2)))
theorem lo78_5 : LoopOk Tryd.prog gdS (RetAt Tryd.prog Tryd.f78 (Rsh.one (none)) none ty4) (bodyAt (bodyOf Tryd.f78) [0]) LS78_5 :=
  loop_run (ctxOkF gokGmT0 []) (L := lookL []) (loops_of (l := []) (by kernel_rfl) (loops_nil)) sa78_5 va78_5 so78_5
end Go.Proofs.YtpbljgpdhllklaaDoor.Sy
namespace Go.Proofs.YtpbljgpdhllklaaDoor.Sp
open Go Go.RowKit Sy
def F78 (x : (Int × Int × Int × Int × Nat × Nat × Nat × List (Int × Int × Int × Int × Int × Int × Int × Int × Int)) × Int × Int × Int × Int × Int × Int × Int × Int × Int) : Bool :=
  bif ((decide (x.2.2.2.2.1 < (0 : Int))) || (decide (x.2.2.2.2.1 > (10000 : Int)))) then
    false
  else
    Sp.optR (Sp.R78_5 [x.2.1, x.2.2.1, x.2.2.2.1, x.2.2.2.2.2.1, x.2.2.2.2.2.2.1, x.2.2.2.2.2.2.2.1, x.2.2.2.2.2.2.2.2.1, (IntKind.i64.wrap (x.2.2.2.2.1 + (1 : Int)))] (0 : Int)) (fun y => y)
    (((decide (x.2.2.2.2.2.2.2.2.1 ≥ x.2.2.2.2.2.2.2.1)) && (Sp.F77 (x.2.2.2.2.2.2.2.2.2, (0 : Int), (IntKind.i64.wrap (x.1.1 - (1 : Int)))))))
end Go.Proofs.YtpbljgpdhllklaaDoor.Sp
namespace Go.Proofs.YtpbljgpdhllklaaDoor.Sy
def ct78 : Ct := { p := (Ty.pair ty32 ty76), psh := [some 8, some 9], r := ty4, rsh := (Rsh.one (none)), pre := none, fresh := none, F := Sp.F78 }
theorem va78 (x : (Ty.pair ty32 ty76).den) : ((evFn (ctxG GmT0) Tryd.f78 (Ty.pair ty32 ty76) [some 8, some 9] (Rsh.one (none)) none ty4 (lookL [(5, LS78_5)]) x)).val (fun y => y) (Ty.dflt ty4) = Sp.F78 x := by kernel_rfl
theorem se78 (x : (Ty.pair ty32 ty76).den) : ((evFn (ctxG GmT0) Tryd.f78 (Ty.pair ty32 ty76) [some 8, some 9] (Rsh.one (none)) none ty4 (lookL [(5, LS78_5)]) x)).safe = (((((decide (x.2.2.2.2.1 < (0 : Int))) || (decide (x.2.2.2.2.1 > (10000 : Int)))) = true → True) ∧ (((decide (x.2.2.2.2.1 < (0 : Int))) || (decide (x.2.2.2.2.1 > (10000 : Int)))) = false → ((Sp.in78_5 [x.2.1, x.2.2.1, x.2.2.2.1, x.2.2.2.2.2.1, x.2.2.2.2.2.2.1, x.2.2.2.2.2.2.2.1, x.2.2.2.2.2.2.2.2.1, (IntKind.i64.wrap (x.2.2.2.2.1 + (1 : Int)))] (0 : Int)) ∧ ((Sp.R78_5 [x.2.1, x.2.2.1, x.2.2.2.1, x.2.2.2.2.2.1, x.2.2.2.2.2.2.1, x.2.2.2.2.2.2.2.1, x.2.2.2.2.2.2.2.2.1, (IntKind.i64.wrap (x.2.2.2.2.1 + (1 : Int)))] (0 : Int)) = none → True))))) := by kernel_rfl
theorem sa78 (x : (Ty.pair ty32 ty76).den) (fx : Fit (Ty.pair ty32 ty76) x) : SafeW ((evFn (ctxG GmT0) Tryd.f78 (Ty.pair ty32 ty76) [some 8, some 9] (Rsh.one (none)) none ty4 (lookL [(5, LS78_5)]) x)) := by
  refine ⟨?_⟩
  rw [se78]
  try dsimp only [Ty.den] at *
  simp only [Fit, maxLen] at fx
  simp only [Sp.in78_5, IntKind.wrap_i64, IntKind.wrap_u8, IntKind.wrap_u32, IntKind.wrap_u64, Sp.tmod_lit, Sp.tdiv_lit, bne_eq_false_iff_eq, Int.natCast_inj, setE, copyL, sliceL, zrow, List.length_append, List.length_cons, List.length_nil, List.length_set, List.length_replicate, List.length_take, List.length_drop, decide_eq_true_eq, decide_eq_false_iff_not, Bool.or_eq_true, Bool.and_eq_true, Bool.or_eq_false_iff, Bool.and_eq_false_iff, Bool.not_eq_true', Bool.not_eq_false', Bool.not_eq_true, Bool.not_eq_false, beq_iff_eq, beq_eq_false_iff_ne, bne_iff_ne, ne_eq, implies_true, and_true, true_and] at *
  all_goals ((repeat' (first | exact trivial | apply And.intro | intro _)) <;> first | trivial | omega | exact Sp.tmod_nn (by omega) | exact Sp.tmod_lt (by omega) (by omega))
theorem ok78 : CtOk Tryd.prog gdS 78 ct78 :=
  fn_okU (ctxOkF gokGmT0 []) rfl Tryd.func78 (p := (Ty.pair ty32 ty76)) (psh := [some 8, some 9]) (r := ty4) (rsh := (Rsh.one (none))) (pre := none) (fresh := none) (F := Sp.F78) (L := (lookL [(5, LS78_5)])) (c := bodyOf Tryd.f78) (dflt := Ty.dflt ty4) rfl (loops_of (l := [bodyAt (bodyOf Tryd.f78) [0]]) (by kernel_rfl) (loops_cons (s0 := LS78_5) (by kernel_rfl) lo78_5 (loops_nil)))
    (safe_no @sa78) va78
def GmT1 : List (Nat × Ct) := (72, ct72) :: (78, ct78) :: GmT0
theorem gokGmT1 : GOk GmT1 := gok_cons ok72 ⟨_, Tryd.func72, by kernel_rfl, by kernel_rfl⟩ (gok_cons ok78 ⟨_, Tryd.func78, by kernel_rfl, by kernel_rfl⟩ (gokGmT0))
end Go.Proofs.YtpbljgpdhllklaaDoor.Sy
end

section
/- Contracts of functions, by the evaluator (own program gen.py): building.Valid, overlayref01.Valid. -/
set_option linter.unusedVariables false
set_option linter.unusedSimpArgs false
set_option maxRecDepth 100000
namespace Go.Proofs.YtpbljgpdhllklaaDoor.Sy
open Go Go.RowKit Sp
/-! building.Valid -/
end Go.Proofs.YtpbljgpdhllklaaDoor.Sy
namespace Go.Proofs.YtpbljgpdhllklaaDoor.Sp
open Go Go.RowKit Sy
def in44_7 (k : ((List (Int × Int × Int × Int × Int × Int × Int × Int × Int)) × Int × Int × Int × Int × Int × Nat × Nat × Nat × List (Int × Int × Int × Int × Int × Int × Int × Int × Int))) (x : (Bool × Int)) : Prop := (0 : Int) ≤ x.2 ∧ k.2.1 = ((k.1).length : Int)
def mu44_7 (k : ((List (Int × Int × Int × Int × Int × Int × Int × Int × Int)) × Int × Int × Int × Int × Int × Nat × Nat × Nat × List (Int × Int × Int × Int × Int × Int × Int × Int × Int))) (x : (Bool × Int)) : Nat := (k.2.1 - x.2).toNat
def st44_7 (k : ((List (Int × Int × Int × Int × Int × Int × Int × Int × Int)) × Int × Int × Int × Int × Int × Nat × Nat × Nat × List (Int × Int × Int × Int × Int × Int × Int × Int × Int))) (x : (Bool × Int)) : BOut ((List (Int × Int × Int × Int × Int × Int × Int × Int × Int)) × Int × Int × Int × Int × Int × Nat × Nat × Nat × List (Int × Int × Int × Int × Int × Int × Int × Int × Int)) (Bool × Int) (Int) :=
  bif (decide (x.2 < k.2.1)) then
    BOut.next k ((x.1 && (Sp.F72 ((Sp.nthT k.1 x.2), k.2.2.1))), (IntKind.i64.wrap (x.2 + (1 : Int))))
  else
    BOut.brk k x
def G44_7 (k : ((List (Int × Int × Int × Int × Int × Int × Int × Int × Int)) × Int × Int × Int × Int × Int × Nat × Nat × Nat × List (Int × Int × Int × Int × Int × Int × Int × Int × Int))) (x : (Bool × Int)) : (Bool × Int) := endOf st44_7 k (Nat.succ (mu44_7 k x)) x
end Go.Proofs.YtpbljgpdhllklaaDoor.Sp
namespace Go.Proofs.YtpbljgpdhllklaaDoor.Sy
def LS44_7 : LS ty71.den := mkLS (Ty.pair ty30 (Ty.pair ty3 ty32)) (Ty.pair ty4 ty3)  [(28, none), (29, none)] [(1, 8)] [(3, none), (30, none)] [] [] [] [(1, 1)] 0 false Sp.in44_7 Sp.st44_7 Sp.mu44_7
theorem va44_7 (k : (Ty.pair ty30 (Ty.pair ty3 ty32)).den) (x : (Ty.pair ty4 ty3).den) : ((evCode (ctxG GmT1) (lookL []) (bodyAt (bodyOf Tryd.f44) [0]) (tmpl LS44_7 (enc (Ty.pair ty30 (Ty.pair ty3 ty32)) k) (enc (Ty.pair ty4 ty3) x)) (evRound LS44_7 (evRet (ctxG GmT1) Tryd.f44 (Rsh.one (none)) none ty71 .ret)))).val BOut.ret (BOut.brk (Ty.dflt (Ty.pair ty30 (Ty.pair ty3 ty32))) (Ty.dflt (Ty.pair ty4 ty3))) = Sp.st44_7 k x := by kernel_rfl
theorem se44_7 (k : (Ty.pair ty30 (Ty.pair ty3 ty32)).den) (x : (Ty.pair ty4 ty3).den) : ((evCode (ctxG GmT1) (lookL []) (bodyAt (bodyOf Tryd.f44) [0]) (tmpl LS44_7 (enc (Ty.pair ty30 (Ty.pair ty3 ty32)) k) (enc (Ty.pair ty4 ty3) x)) (evRound LS44_7 (evRet (ctxG GmT1) Tryd.f44 (Rsh.one (none)) none ty71 .ret)))).safe = ((((decide (x.2 < k.2.1)) = true → ((0 ≤ x.2 ∧ x.2 < ((k.1).length : Int)) ∧ True)) ∧ ((decide (x.2 < k.2.1)) = false → True))) := by kernel_rfl
set_option maxHeartbeats 4000000 in
theorem sa44_7 (k : (Ty.pair ty30 (Ty.pair ty3 ty32)).den) (x : (Ty.pair ty4 ty3).den) (fk : Fit (Ty.pair ty30 (Ty.pair ty3 ty32)) k) (fx : Fit (Ty.pair ty4 ty3) x) (h : Sp.in44_7 k x) : SafeW ((evCode (ctxG GmT1) (lookL []) (bodyAt (bodyOf Tryd.f44) [0]) (tmpl LS44_7 (enc (Ty.pair ty30 (Ty.pair ty3 ty32)) k) (enc (Ty.pair ty4 ty3) x)) (evRound LS44_7 (evRet (ctxG GmT1) Tryd.f44 (Rsh.one (none)) none ty71 .ret)))) := by
  refine ⟨?_⟩
  rw [se44_7]
  try dsimp only [Ty.den] at *
  simp only [Sp.in44_7, Fit, maxLen] at h fk fx
  simp only [IntKind.wrap_i64, IntKind.wrap_u8, IntKind.wrap_u32, IntKind.wrap_u64, Sp.tmod_lit, Sp.tdiv_lit, bne_eq_false_iff_eq, Int.natCast_inj, setE, copyL, sliceL, zrow, List.length_append, List.length_cons, List.length_nil, List.length_set, List.length_replicate, List.length_take, List.length_drop, decide_eq_true_eq, decide_eq_false_iff_not, Bool.or_eq_true, Bool.and_eq_true, Bool.or_eq_false_iff, Bool.and_eq_false_iff, Bool.not_eq_true', Bool.not_eq_false', Bool.not_eq_true, Bool.not_eq_false, beq_iff_eq, beq_eq_false_iff_ne, bne_iff_ne, ne_eq, implies_true, and_true, true_and] at *
  all_goals ((repeat' (first | exact trivial | apply And.intro | intro _)) <;> first | trivial | omega | exact Sp.tmod_nn (by omega) | exact Sp.tmod_lt (by omega) (by omega))
set_option maxHeartbeats 4000000 in
theorem so44_7 (k : (Ty.pair ty30 (Ty.pair ty3 ty32)).den) (x : (Ty.pair ty4 ty3).den) (fk : Fit (Ty.pair ty30 (Ty.pair ty3 ty32)) k) (h : Sp.in44_7 k x) : StepOk false Sp.in44_7 Sp.mu44_7 k x (Sp.st44_7 k x) := by
  try dsimp only [Ty.den] at *
  simp only [Sp.in44_7, Fit, maxLen] at h fk
  unfold Sp.st44_7
  (repeat' (first | exact rfl | (refine StepOk.cnd (fun hc => ?_) (fun hc => ?_) <;> (try simp only [IntKind.wrap_i64, IntKind.wrap_u8, IntKind.wrap_u32, IntKind.wrap_u64, bne_eq_false_iff_eq, Int.natCast_inj, setE, copyL, sliceL, zrow, List.length_append, List.length_cons, List.length_nil, List.length_set, List.length_replicate, List.length_take, List.length_drop, decide_eq_true_eq, decide_eq_false_iff_not, Bool.or_eq_true, Bool.and_eq_true, Bool.or_eq_false_iff, Bool.and_eq_false_iff, Bool.not_eq_true', Bool.not_eq_false', Bool.not_eq_true, Bool.not_eq_false, beq_iff_eq, beq_eq_false_iff_ne, bne_iff_ne, ne_eq] at hc)) | refine StepOk.opt (fun _ => ?_))) <;> (first | exact rfl | (refine ⟨rfl, ?_, ?_⟩ <;> simp only [Sp.in44_7, Sp.mu44_7, IntKind.wrap_i64, IntKind.wrap_u8, IntKind.wrap_u32, IntKind.wrap_u64, Sp.tmod_lit, Sp.tdiv_lit, bne_eq_false_iff_eq, Int.natCast_inj, setE, copyL, sliceL, zrow, List.length_append, List.length_cons, List.length_nil, List.length_set, List.length_replicate, List.length_take, List.length_drop, decide_eq_true_eq, decide_eq_false_iff_not, Bool.or_eq_true, Bool.and_eq_true, Bool.or_eq_false_iff, Bool.and_eq_false_iff, Bool.not_eq_true', Bool.not_eq_false', Bool.not_eq_true, Bool.not_eq_false, beq_iff_eq, beq_eq_false_iff_ne, bne_iff_ne, ne_eq] <;> first | omega | (and_intros <;> first | omega | exact h.1 | exact h.2 | exact h.2.1 | exact h.2.2 | exact h.2.2.1 | exact h.2.2.2 | exact h.2.2.2.1 | exact h.2.2.2.2 | exact h.2.2.2.2.1 | exact h.2.2.2.2.2 | exact h.2.2.2.2.2.1 | exact h.2.2.2.2.2.2)))
theorem lo44_7 : LoopOk Tryd.prog gdS (RetAt Tryd.prog Tryd.f44 (Rsh.one (none)) none ty71) (bodyAt (bodyOf Tryd.f44) [0]) LS44_7 :=
  loop_run (ctxOkF gokGmT1 []) (L := lookL []) (loops_of (l := []) (by kernel_rfl) (loops_nil)) sa44_7 va44_7 so44_7
end Go.Proofs.YtpbljgpdhllklaaDoor.Sy
namespace Go.Proofs.YtpbljgpdhllklaaDoor.Sp
open Go Go.RowKit Sy
def F44 (x : Int × Int × Int × Int × Nat × Nat × Nat × List (Int × Int × Int × Int × Int × Int × Int × Int × Int)) : Int :=
  bif (!(Sp.F71 ((2 : Int), (32 : Int), [x.1]))) then
    (10 : Int)
  else
    bif (!(Sp.F71 ((1 : Int), (8 : Int), [((x.2.2.2.2.2.2.2).length : Int)]))) then
      (11 : Int)
    else
      bif (!((Sp.G44_7 (x.2.2.2.2.2.2.2, ((x.2.2.2.2.2.2.2).length : Int), x) (((Sp.F71 ((1 : Int), (16 : Int), [x.2.1])) && (Sp.F71 ((1 : Int), (10000 : Int), [x.2.2.2.1]))), (0 : Int))).1)) then
        (12 : Int)
      else
        bif (!(Sp.F73 x)) then
          (13 : Int)
        else
          bif (!(Sp.F71 ((IntKind.i64.wrap ((IntKind.i64.wrap ((18 : Int) * ((x.2.2.2.2.2.2.2).length : Int))) + (24 : Int))), (65536 : Int), [x.2.2.1]))) then
            (14 : Int)
          else
            (0 : Int)
end Go.Proofs.YtpbljgpdhllklaaDoor.Sp
namespace Go.Proofs.YtpbljgpdhllklaaDoor.Sy
def ct44 : Ct := { p := ty32, psh := [some 8], r := ty71, rsh := (Rsh.one (none)), pre := none, fresh := none, F := Sp.F44 }
theorem va44 (x : ty32.den) : ((evFn (ctxG GmT1) Tryd.f44 ty32 [some 8] (Rsh.one (none)) none ty71 (lookL [(7, LS44_7)]) x)).val (fun y => y) (Ty.dflt ty71) = Sp.F44 x := by kernel_rfl
theorem se44 (x : ty32.den) : ((evFn (ctxG GmT1) Tryd.f44 ty32 [some 8] (Rsh.one (none)) none ty71 (lookL [(7, LS44_7)]) x)).safe = ((((!(Sp.F71 ((2 : Int), (32 : Int), [x.1]))) = true → True) ∧ ((!(Sp.F71 ((2 : Int), (32 : Int), [x.1]))) = false → (((!(Sp.F71 ((1 : Int), (8 : Int), [((x.2.2.2.2.2.2.2).length : Int)]))) = true → True) ∧ ((!(Sp.F71 ((1 : Int), (8 : Int), [((x.2.2.2.2.2.2.2).length : Int)]))) = false → ((Sp.in44_7 (x.2.2.2.2.2.2.2, ((x.2.2.2.2.2.2.2).length : Int), x) (((Sp.F71 ((1 : Int), (16 : Int), [x.2.1])) && (Sp.F71 ((1 : Int), (10000 : Int), [x.2.2.2.1]))), (0 : Int))) ∧ (((!((Sp.G44_7 (x.2.2.2.2.2.2.2, ((x.2.2.2.2.2.2.2).length : Int), x) (((Sp.F71 ((1 : Int), (16 : Int), [x.2.1])) && (Sp.F71 ((1 : Int), (10000 : Int), [x.2.2.2.1]))), (0 : Int))).1)) = true → True) ∧ ((!((Sp.G44_7 (x.2.2.2.2.2.2.2, ((x.2.2.2.2.2.2.2).length : Int), x) (((Sp.F71 ((1 : Int), (16 : Int), [x.2.1])) && (Sp.F71 ((1 : Int), (10000 : Int), [x.2.2.2.1]))), (0 : Int))).1)) = false → (((!(Sp.F73 x)) = true → True) ∧ ((!(Sp.F73 x)) = false → (((!(Sp.F71 ((IntKind.i64.wrap ((IntKind.i64.wrap ((18 : Int) * ((x.2.2.2.2.2.2.2).length : Int))) + (24 : Int))), (65536 : Int), [x.2.2.1]))) = true → True) ∧ ((!(Sp.F71 ((IntKind.i64.wrap ((IntKind.i64.wrap ((18 : Int) * ((x.2.2.2.2.2.2.2).length : Int))) + (24 : Int))), (65536 : Int), [x.2.2.1]))) = false → True)))))))))))) := by kernel_rfl
theorem sa44 (x : ty32.den) (fx : Fit ty32 x) : SafeW ((evFn (ctxG GmT1) Tryd.f44 ty32 [some 8] (Rsh.one (none)) none ty71 (lookL [(7, LS44_7)]) x)) := by
  refine ⟨?_⟩
  rw [se44]
  try dsimp only [Ty.den] at *
  simp only [Fit, maxLen] at fx
  simp only [Sp.in44_7, IntKind.wrap_i64, IntKind.wrap_u8, IntKind.wrap_u32, IntKind.wrap_u64, Sp.tmod_lit, Sp.tdiv_lit, bne_eq_false_iff_eq, Int.natCast_inj, setE, copyL, sliceL, zrow, List.length_append, List.length_cons, List.length_nil, List.length_set, List.length_replicate, List.length_take, List.length_drop, decide_eq_true_eq, decide_eq_false_iff_not, Bool.or_eq_true, Bool.and_eq_true, Bool.or_eq_false_iff, Bool.and_eq_false_iff, Bool.not_eq_true', Bool.not_eq_false', Bool.not_eq_true, Bool.not_eq_false, beq_iff_eq, beq_eq_false_iff_ne, bne_iff_ne, ne_eq, implies_true, and_true, true_and] at *
  all_goals ((repeat' (first | exact trivial | apply And.intro | intro _)) <;> first | trivial | omega | exact Sp.tmod_nn (by omega) | exact Sp.tmod_lt (by omega) (by omega))
theorem ok44 : CtOk Tryd.prog gdS 44 ct44 :=
  fn_okU (ctxOkF gokGmT1 []) rfl Tryd.func44 (p := ty32) (psh := [some 8]) (r := ty71) (rsh := (Rsh.one (none))) (pre := none) (fresh := none) (F := Sp.F44) (L := (lookL [(7, LS44_7)])) (c := bodyOf Tryd.f44) (dflt := Ty.dflt ty71) rfl (loops_of (l := [bodyAt (bodyOf Tryd.f44) [0]]) (by kernel_rfl) (loops_cons (s0 := LS44_7) (by kernel_rfl) lo44_7 (loops_nil)))
    (safe_no @sa44) va44
/-! overlayref01.Valid -/
end Go.Proofs.YtpbljgpdhllklaaDoor.Sy
namespace Go.Proofs.YtpbljgpdhllklaaDoor.Sp
open Go Go.RowKit Sy
def in52_7 (k : (Int × Int × Int × Int × Nat × Nat × Nat × List (Int × Int × Int × Int × Int × Int × Int × Int × Int))) (x : (Bool × Int)) : Prop := (0 : Int) ≤ x.2
def mu52_7 (k : (Int × Int × Int × Int × Nat × Nat × Nat × List (Int × Int × Int × Int × Int × Int × Int × Int × Int))) (x : (Bool × Int)) : Nat := (((k.2.2.2.2.2.2.2).length : Int) - x.2).toNat
def st52_7 (k : (Int × Int × Int × Int × Nat × Nat × Nat × List (Int × Int × Int × Int × Int × Int × Int × Int × Int))) (x : (Bool × Int)) : BOut (Int × Int × Int × Int × Nat × Nat × Nat × List (Int × Int × Int × Int × Int × Int × Int × Int × Int)) (Bool × Int) (Int) :=
  bif (decide (x.2 < ((k.2.2.2.2.2.2.2).length : Int))) then
    BOut.next k ((x.1 && (Sp.F78 (k, (Sp.nthT k.2.2.2.2.2.2.2 x.2)))), (IntKind.i64.wrap (x.2 + (1 : Int))))
  else
    BOut.brk k x
def G52_7 (k : (Int × Int × Int × Int × Nat × Nat × Nat × List (Int × Int × Int × Int × Int × Int × Int × Int × Int))) (x : (Bool × Int)) : (Bool × Int) := endOf st52_7 k (Nat.succ (mu52_7 k x)) x
end Go.Proofs.YtpbljgpdhllklaaDoor.Sp
namespace Go.Proofs.YtpbljgpdhllklaaDoor.Sy
def LS52_7 : LS ty71.den := mkLS ty32 (Ty.pair ty4 ty3)  [] [(1, 8)] [(3, none), (4, none)] [] [] [] [(1, 1)] 0 false Sp.in52_7 Sp.st52_7 Sp.mu52_7
theorem va52_7 (k : ty32.den) (x : (Ty.pair ty4 ty3).den) : ((evCode (ctxG GmT1) (lookL []) (bodyAt (bodyOf Tryd.f52) [0]) (tmpl LS52_7 (enc ty32 k) (enc (Ty.pair ty4 ty3) x)) (evRound LS52_7 (evRet (ctxG GmT1) Tryd.f52 (Rsh.one (none)) none ty71 .ret)))).val BOut.ret (BOut.brk (Ty.dflt ty32) (Ty.dflt (Ty.pair ty4 ty3))) = Sp.st52_7 k x := by kernel_rfl
theorem se52_7 (k : ty32.den) (x : (Ty.pair ty4 ty3).den) : ((evCode (ctxG GmT1) (lookL []) (bodyAt (bodyOf Tryd.f52) [0]) (tmpl LS52_7 (enc ty32 k) (enc (Ty.pair ty4 ty3) x)) (evRound LS52_7 (evRet (ctxG GmT1) Tryd.f52 (Rsh.one (none)) none ty71 .ret)))).safe = ((((decide (x.2 < ((k.2.2.2.2.2.2.2).length : Int))) = true → (((x.1 = true → 0 ≤ x.2 ∧ x.2 < ((k.2.2.2.2.2.2.2).length : Int))) ∧ True)) ∧ ((decide (x.2 < ((k.2.2.2.2.2.2.2).length : Int))) = false → True))) := by kernel_rfl
set_option maxHeartbeats 4000000 in
theorem sa52_7 (k : ty32.den) (x : (Ty.pair ty4 ty3).den) (fk : Fit ty32 k) (fx : Fit (Ty.pair ty4 ty3) x) (h : Sp.in52_7 k x) : SafeW ((evCode (ctxG GmT1) (lookL []) (bodyAt (bodyOf Tryd.f52) [0]) (tmpl LS52_7 (enc ty32 k) (enc (Ty.pair ty4 ty3) x)) (evRound LS52_7 (evRet (ctxG GmT1) Tryd.f52 (Rsh.one (none)) none ty71 .ret)))) := by
  refine ⟨?_⟩
  rw [se52_7]
  try dsimp only [Ty.den] at *
  simp only [Sp.in52_7, Fit, maxLen] at h fk fx
  simp only [IntKind.wrap_i64, IntKind.wrap_u8, IntKind.wrap_u32, IntKind.wrap_u64, Sp.tmod_lit, Sp.tdiv_lit, bne_eq_false_iff_eq, Int.natCast_inj, setE, copyL, sliceL, zrow, List.length_append, List.length_cons, List.length_nil, List.length_set, List.length_replicate, List.length_take, List.length_drop, decide_eq_true_eq, decide_eq_false_iff_not, Bool.or_eq_true, Bool.and_eq_true, Bool.or_eq_false_iff, Bool.and_eq_false_iff, Bool.not_eq_true', Bool.not_eq_false', Bool.not_eq_true, Bool.not_eq_false, beq_iff_eq, beq_eq_false_iff_ne, bne_iff_ne, ne_eq, implies_true, and_true, true_and] at *
  all_goals ((repeat' (first | exact trivial | apply And.intro | intro _)) <;> first | trivial | omega | exact Sp.tmod_nn (by omega) | exact Sp.tmod_lt (by omega) (by omega))
set_option maxHeartbeats 4000000 in
theorem so52_7 (k : ty32.den) (x : (Ty.pair ty4 ty3).den) (fk : Fit ty32 k) (h : Sp.in52_7 k x) : StepOk false Sp.in52_7 Sp.mu52_7 k x (Sp.st52_7 k x) := by
  try dsimp only [Ty.den] at *
  simp only [Sp.in52_7, Fit, maxLen] at h fk
  unfold Sp.st52_7
  (repeat' (first | exact rfl | (refine StepOk.cnd (fun hc => ?_) (fun hc => ?_) <;> (try simp only [IntKind.wrap_i64, IntKind.wrap_u8, IntKind.wrap_u32, IntKind.wrap_u64, bne_eq_false_iff_eq, Int.natCast_inj, setE, copyL, sliceL, zrow, List.length_append, List.length_cons, List.length_nil, List.length_set, List.length_replicate, List.length_take, List.length_drop, decide_eq_true_eq, decide_eq_false_iff_not, Bool.or_eq_true, Bool.and_eq_true, Bool.or_eq_false_iff, Bool.and_eq_false_iff, Bool.not_eq_true', Bool.not_eq_false', Bool.not_eq_true, Bool.not_eq_false, beq_iff_eq, beq_eq_false_iff_ne, bne_iff_ne, ne_eq] at hc)) | refine StepOk.opt (fun _ => ?_))) <;> (first | exact rfl | (refine ⟨rfl, ?_, ?_⟩ <;> simp only [Sp.in52_7, Sp.mu52_7, IntKind.wrap_i64, IntKind.wrap_u8, IntKind.wrap_u32, IntKind.wrap_u64, Sp.tmod_lit, Sp.tdiv_lit, bne_eq_false_iff_eq, Int.natCast_inj, setE, copyL, sliceL, zrow, List.length_append, List.length_cons, List.length_nil, List.length_set, List.length_replicate, List.length_take, List.length_drop, decide_eq_true_eq, decide_eq_false_iff_not, Bool.or_eq_true, Bool.and_eq_true, Bool.or_eq_false_iff, Bool.and_eq_false_iff, Bool.not_eq_true', Bool.not_eq_false', Bool.not_eq_true, Bool.not_eq_false, beq_iff_eq, beq_eq_false_iff_ne, bne_iff_ne, ne_eq] <;> first | omega | (and_intros <;> first | omega | exact h.1 | exact h.2 | exact h.2.1 | exact h.2.2 | exact h.2.2.1 | exact h.2.2.2 | exact h.2.2.2.1 | exact h.2.2.2.2 | exact h.2.2.2.2.1 | exact h.2.2.2.2.2 | exact h.2.2.2.2.2.1 | exact h.2.2.2.2.2.2)))
theorem lo52_7 : LoopOk Tryd.prog gdS (RetAt Tryd.prog Tryd.f52 (Rsh.one (none)) none ty71) (bodyAt (bodyOf Tryd.f52) [0]) LS52_7 :=
  loop_run (ctxOkF gokGmT1 []) (L := lookL []) (loops_of (l := []) (by kernel_rfl) (loops_nil)) sa52_7 va52_7 so52_7
end Go.Proofs.YtpbljgpdhllklaaDoor.Sy
namespace Go.Proofs.YtpbljgpdhllklaaDoor.Sp
open Go Go.RowKit Sy
def F52 (x : Int × Int × Int × Int × Nat × Nat × Nat × List (Int × Int × Int × Int × Int × Int × Int × Int × Int)) : Int :=
  bif (!(Sp.F77 (x.1, (2 : Int), (32 : Int)))) then
    (10 : Int)
  else
    bif (!(Sp.F77 (((x.2.2.2.2.2.2.2).length : Int), (1 : Int), (8 : Int)))) then
      (11 : Int)
    else
      bif (!((Sp.G52_7 x (((Sp.F77 (x.2.1, (1 : Int), (16 : Int))) && (Sp.F77 (x.2.2.2.1, (1 : Int), (10000 : Int)))), (0 : Int))).1)) then
        (12 : Int)
      else
        bif (!(((((FloatKind.f64.format.order (0 : Nat) x.2.2.2.2.1) == some Ordering.lt) && ((FloatKind.f64.format.order x.2.2.2.2.1 x.2.2.2.2.2.1) == some Ordering.lt)) && ((FloatKind.f64.format.order x.2.2.2.2.2.1 x.2.2.2.2.2.2.1) == some Ordering.lt)) && ((FloatKind.f64.format.order x.2.2.2.2.2.2.1 (9218868437227405311 : Nat)) == some Ordering.lt || (FloatKind.f64.format.order x.2.2.2.2.2.2.1 (9218868437227405311 : Nat)) == some Ordering.eq))) then
          (13 : Int)
        else
          bif (!(Sp.F77 (x.2.2.1, (IntKind.i64.wrap ((IntKind.i64.wrap ((18 : Int) * ((x.2.2.2.2.2.2.2).length : Int))) + (24 : Int))), (65536 : Int)))) then
            (14 : Int)
          else
            (0 : Int)
end Go.Proofs.YtpbljgpdhllklaaDoor.Sp
namespace Go.Proofs.YtpbljgpdhllklaaDoor.Sy
def ct52 : Ct := { p := ty32, psh := [some 8], r := ty71, rsh := (Rsh.one (none)), pre := none, fresh := none, F := Sp.F52 }
theorem va52 (x : ty32.den) : ((evFn (ctxG GmT1) Tryd.f52 ty32 [some 8] (Rsh.one (none)) none ty71 (lookL [(7, LS52_7)]) x)).val (fun y => y) (Ty.dflt ty71) = Sp.F52 x := by kernel_rfl
theorem se52 (x : ty32.den) : ((evFn (ctxG GmT1) Tryd.f52 ty32 [some 8] (Rsh.one (none)) none ty71 (lookL [(7, LS52_7)]) x)).safe = ((((!(Sp.F77 (x.1, (2 : Int), (32 : Int)))) = true → True) ∧ ((!(Sp.F77 (x.1, (2 : Int), (32 : Int)))) = false → (((!(Sp.F77 (((x.2.2.2.2.2.2.2).length : Int), (1 : Int), (8 : Int)))) = true → True) ∧ ((!(Sp.F77 (((x.2.2.2.2.2.2.2).length : Int), (1 : Int), (8 : Int)))) = false → ((Sp.in52_7 x (((Sp.F77 (x.2.1, (1 : Int), (16 : Int))) && (Sp.F77 (x.2.2.2.1, (1 : Int), (10000 : Int)))), (0 : Int))) ∧ (((!((Sp.G52_7 x (((Sp.F77 (x.2.1, (1 : Int), (16 : Int))) && (Sp.F77 (x.2.2.2.1, (1 : Int), (10000 : Int)))), (0 : Int))).1)) = true → True) ∧ ((!((Sp.G52_7 x (((Sp.F77 (x.2.1, (1 : Int), (16 : Int))) && (Sp.F77 (x.2.2.2.1, (1 : Int), (10000 : Int)))), (0 : Int))).1)) = false → (((!(((((FloatKind.f64.format.order (0 : Nat) x.2.2.2.2.1) == some Ordering.lt) && ((FloatKind.f64.format.order x.2.2.2.2.1 x.2.2.2.2.2.1) == some Ordering.lt)) && ((FloatKind.f64.format.order x.2.2.2.2.2.1 x.2.2.2.2.2.2.1) == some Ordering.lt)) && ((FloatKind.f64.format.order x.2.2.2.2.2.2.1 (9218868437227405311 : Nat)) == some Ordering.lt || (FloatKind.f64.format.order x.2.2.2.2.2.2.1 (9218868437227405311 : Nat)) == some Ordering.eq))) = true → True) ∧ ((!(((((FloatKind.f64.format.order (0 : Nat) x.2.2.2.2.1) == some Ordering.lt) && ((FloatKind.f64.format.order x.2.2.2.2.1 x.2.2.2.2.2.1) == some Ordering.lt)) && ((FloatKind.f64.format.order x.2.2.2.2.2.1 x.2.2.2.2.2.2.1) == some Ordering.lt)) && ((FloatKind.f64.format.order x.2.2.2.2.2.2.1 (9218868437227405311 : Nat)) == some Ordering.lt || (FloatKind.f64.format.order x.2.2.2.2.2.2.1 (9218868437227405311 : Nat)) == some Ordering.eq))) = false → (((!(Sp.F77 (x.2.2.1, (IntKind.i64.wrap ((IntKind.i64.wrap ((18 : Int) * ((x.2.2.2.2.2.2.2).length : Int))) + (24 : Int))), (65536 : Int)))) = true → True) ∧ ((!(Sp.F77 (x.2.2.1, (IntKind.i64.wrap ((IntKind.i64.wrap ((18 : Int) * ((x.2.2.2.2.2.2.2).length : Int))) + (24 : Int))), (65536 : Int)))) = false → True)))))))))))) := by kernel_rfl
theorem sa52 (x : ty32.den) (fx : Fit ty32 x) : SafeW ((evFn (ctxG GmT1) Tryd.f52 ty32 [some 8] (Rsh.one (none)) none ty71 (lookL [(7, LS52_7)]) x)) := by
  refine ⟨?_⟩
  rw [se52]
  try dsimp only [Ty.den] at *
  simp only [Fit, maxLen] at fx
  simp only [Sp.in52_7, IntKind.wrap_i64, IntKind.wrap_u8, IntKind.wrap_u32, IntKind.wrap_u64, Sp.tmod_lit, Sp.tdiv_lit, bne_eq_false_iff_eq, Int.natCast_inj, setE, copyL, sliceL, zrow, List.length_append, List.length_cons, List.length_nil, List.length_set, List.length_replicate, List.length_take, List.length_drop, decide_eq_true_eq, decide_eq_false_iff_not, Bool.or_eq_true, Bool.and_eq_true, Bool.or_eq_false_iff, Bool.and_eq_false_iff, Bool.not_eq_true', Bool.not_eq_false', Bool.not_eq_true, Bool.not_eq_false, beq_iff_eq, beq_eq_false_iff_ne, bne_iff_ne, ne_eq, implies_true, and_true, true_and] at *
  all_goals ((repeat' (first | exact trivial | apply And.intro | intro _)) <;> first | trivial | omega | exact Sp.tmod_nn (by omega) | exact Sp.tmod_lt (by omega) (by omega))
theorem ok52 : CtOk Tryd.prog gdS 52 ct52 :=
  fn_okU (ctxOkF gokGmT1 []) rfl Tryd.func52 (p := ty32) (psh := [some 8]) (r := ty71) (rsh := (Rsh.one (none))) (pre := none) (fresh := none) (F := Sp.F52) (L := (lookL [(7, LS52_7)])) (c := bodyOf Tryd.f52) (dflt := Ty.dflt ty71) rfl (loops_of (l := [bodyAt (bodyOf Tryd.f52) [0]]) (by kernel_rfl) (loops_cons (s0 := LS52_7) (by kernel_rfl) lo52_7 (loops_nil)))
    (safe_no @sa52) va52
def GmT2 : List (Nat × Ct) := (44, ct44) :: (52, ct52) :: GmT1
theorem gokGmT2 : GOk GmT2 := gok_cons ok44 ⟨_, Tryd.func44, by kernel_rfl, by kernel_rfl⟩ (gok_cons ok52 ⟨_, Tryd.func52, by kernel_rfl, by kernel_rfl⟩ (gokGmT1))
end Go.Proofs.YtpbljgpdhllklaaDoor.Sy
end

section
/- What building's smallest functions say (own work). -/
namespace Go.Proofs.YtpbljgpdhllklaaDoor.Sp
open Go Sy
set_option linter.unusedVariables false
set_option linter.unusedSimpArgs false
theorem within_eq (lo hi : Int) (l : List Int) (hl : l.length ≤ maxLen) : F71 (lo, hi, l) = l.all fun n => decide (lo ≤ n) && decide (n ≤ hi) := by
  unfold F71
  rw [← findSome_all]
  congr 1
  simp only [R71_2]
  rw [← findSome_range l]
  have := ret_row (step := st71_2) (k := (lo, hi, l, (l.length : Int))) (fun i => (i : Int)) (fun i => (fun n => if (decide (lo ≤ n) && decide (n ≤ hi)) = true then none else some false) (nthT l (i : Int))) l.length (fun i hi' => ?_) (k' := (lo, hi, l, (l.length : Int))) (y := (l.length : Int)) ?_ (fuel := Nat.succ (mu71_2 (lo, hi, l, (l.length : Int)) 0)) ?_
  · exact this
  · simp only [maxLen] at hl
    by_cases h : (decide (lo ≤ nthT l (i : Int)) && decide (nthT l (i : Int) ≤ hi)) = true
    · simp only [h, if_true]
      refine ⟨(lo, hi, l, (l.length : Int)), ?_⟩
      simp only [Bool.and_eq_true, decide_eq_true_eq] at h
      have h1 : ¬ nthT l (i : Int) < lo := by omega
      have h2 : ¬ nthT l (i : Int) > hi := by omega
      have h3 : IntKind.i64.wrap ((i : Int) + 1) = ((i + 1 : Nat) : Int) := by rw [IntKind.wrap_i64]; omega
      simp [st71_2, hi', h1, h2, h3]
    · simp only [h]
      simp only [Bool.and_eq_true, decide_eq_true_eq] at h
      have h1 : nthT l (i : Int) < lo ∨ nthT l (i : Int) > hi := by omega
      have h2 : (decide (nthT l (i : Int) < lo) || decide (nthT l (i : Int) > hi)) = true := by simpa using h1
      simp only [st71_2]
      have h3 : decide ((i : Int) < (l.length : Int)) = true := by simp; omega
      rw [h3, h2]; rfl
  · simp [st71_2]
  · simp [mu71_2]
theorem within_one (lo hi n : Int) : F71 (lo, hi, [n]) = (decide (lo ≤ n) && decide (n ≤ hi)) := by
  rw [within_eq _ _ _ (by simp [maxLen])]; simp
end Go.Proofs.YtpbljgpdhllklaaDoor.Sp
end

section
/- Which buildings are valid, for the program and the reference (own work). -/
namespace Go.Proofs.YtpbljgpdhllklaaDoor.Sp
open Go Sy
set_option linter.unusedVariables false
set_option linter.unusedSimpArgs false
abbrev CarT := Int × Int × Int × Int × Int × Int × Int × Int × Int
abbrev BldT := Int × Int × Int × Int × Nat × Nat × Nat × List CarT
abbrev BldT.cars (b : BldT) : List CarT := b.2.2.2.2.2.2.2

def tOk (n : Int) : Bool := decide (1 ≤ n) && decide (n ≤ 10000)
def carOk (fl : Int) (c : CarT) : Bool :=
  tOk c.1 && tOk c.2.1 && tOk c.2.2.1 && tOk c.2.2.2.2.1 && tOk c.2.2.2.2.2.1 && tOk c.2.2.2.2.2.2.1 && tOk c.2.2.2.2.2.2.2.1 && (decide (0 ≤ c.2.2.2.1) && decide (c.2.2.2.1 ≤ 10000)) &&
    decide (c.2.2.2.2.2.2.2.1 ≥ c.2.2.2.2.2.2.1) && (decide (0 ≤ c.2.2.2.2.2.2.2.2) && decide (c.2.2.2.2.2.2.2.2 ≤ fl - 1))
def loadsOk (b : BldT) : Bool := F73 b
def vld (b : BldT) : Int :=
  if ¬ (2 ≤ b.1 ∧ b.1 ≤ 32) then 10
  else if ¬ (1 ≤ b.cars.length ∧ b.cars.length ≤ 8) then 11
  else if ((decide (1 ≤ b.2.1) && decide (b.2.1 ≤ 16)) && (decide (1 ≤ b.2.2.2.1) && decide (b.2.2.2.1 ≤ 10000)) && b.cars.all (carOk b.1)) = false then 12
  else if loadsOk b = false then 13
  else if ¬ (18 * (b.cars.length : Int) + 24 ≤ b.2.2.1 ∧ b.2.2.1 ≤ 65536) then 14
  else 0

theorem in_eq (n lo hi : Int) : F77 (n, lo, hi) = (decide (lo ≤ n) && decide (n ≤ hi)) := rfl

theorem times_eq (c : CarT) (fl : Int) (h : 2 ≤ fl ∧ fl ≤ 32) : F72 (c, fl) = carOk fl c := by
  unfold F72 carOk tOk
  rw [within_eq _ _ _ (by simp [maxLen]), within_one, within_one, wrap_i64_of (by omega) (by omega)]
  simp only [List.all_cons, List.all_nil, Bool.and_true, Bool.and_assoc]

theorem rtimes_eq (b : BldT) (c : CarT) (h : 2 ≤ b.1 ∧ b.1 ≤ 32) : F78 (b, c) = carOk b.1 c := by
  unfold F78
  simp only [in_eq]
  rw [wrap_i64_of (x := b.1 - 1) (by omega) (by omega)]
  by_cases hs : c.2.2.2.1 < 0 ∨ c.2.2.2.1 > 10000
  · have h1 : (decide (c.2.2.2.1 < 0) || decide (c.2.2.2.1 > 10000)) = true := by simpa using hs
    rw [h1]
    have h2 : (decide (0 ≤ c.2.2.2.1) && decide (c.2.2.2.1 ≤ 10000)) = false := by
      simp only [Bool.and_eq_false_iff, decide_eq_false_iff_not]; omega
    unfold carOk
    rw [h2]
    simp
  · have h1 : (decide (c.2.2.2.1 < 0) || decide (c.2.2.2.1 > 10000)) = false := by simpa using hs
    have h2 : (decide (0 ≤ c.2.2.2.1) && decide (c.2.2.2.1 ≤ 10000)) = true := by
      simp only [Bool.and_eq_true, decide_eq_true_eq]; omega
    rw [h1]
    simp only [cond_false]
    let l : List Int := [c.1, c.2.1, c.2.2.1, c.2.2.2.2.1, c.2.2.2.2.2.1, c.2.2.2.2.2.2.1, c.2.2.2.2.2.2.2.1]
    have hR : R78_5 (l ++ [IntKind.i64.wrap (c.2.2.2.1 + 1)]) 0 = l.findSome? (fun n => if tOk n then none else some false) := by
      simp only [R78_5]
      rw [← findSome_range l]
      have := ret_row (step := st78_5) (k := l ++ [IntKind.i64.wrap (c.2.2.2.1 + 1)]) (fun i => (i : Int)) (fun i => (fun n => if tOk n then none else some false) (nthT l (i : Int))) 7 (fun i hi => ?_) (k' := l ++ [IntKind.i64.wrap (c.2.2.2.1 + 1)]) (y := (7 : Int)) ?_ (fuel := Nat.succ (mu78_5 (l ++ [IntKind.i64.wrap (c.2.2.2.1 + 1)]) 0)) ?_
      · exact this
      · have hn : nthT (l ++ [IntKind.i64.wrap (c.2.2.2.1 + 1)]) (i : Int) = nthT l (i : Int) := by
          rw [nthT_nat _ i (by simp [l]; omega), nthT_nat l i (by simpa [l] using hi), List.getElem_append_left]
        have h3 : decide ((i : Int) < 7) = true := by simp; omega
        simp only [st78_5, hn, h3, cond_true, in_eq]
        have h4 : (decide (1 ≤ nthT l (i : Int)) && decide (nthT l (i : Int) ≤ 10000)) = tOk (nthT l (i : Int)) := rfl
        rw [h4, wrap_succ hi (by simp [maxLen])]
        cases tOk (nthT l (i : Int)) with
        | true => exact ⟨_, rfl⟩
        | false => rfl
      · simp [st78_5]
      · simp [mu78_5]
    have hR' : R78_5 [c.1, c.2.1, c.2.2.1, c.2.2.2.2.1, c.2.2.2.2.2.1, c.2.2.2.2.2.2.1, c.2.2.2.2.2.2.2.1, IntKind.i64.wrap (c.2.2.2.1 + 1)] 0 = l.findSome? (fun n => if tOk n then none else some false) := hR
    rw [hR']
    have h5 := findSome_all l tOk
    have h6 : ∀ d : Bool, optR (l.findSome? (fun n => if tOk n then none else some false)) (fun y => y) d = (l.all tOk && d) := by
      intro d
      cases hq : l.findSome? (fun n => if tOk n then none else some false) with
      | none =>
        rw [hq, optR_none] at h5
        rw [optR_none, ← h5]; rfl
      | some r =>
        rw [hq, optR_some] at h5
        rw [optR_some]
        have : r = false := by
          obtain ⟨x, _, hx⟩ := List.exists_of_findSome?_eq_some hq
          split at hx
          · cases hx
          · simpa using hx.symm
        rw [← h5, this]; rfl
    rw [h6]
    unfold carOk
    rw [h2]
    simp only [l, List.all_cons, List.all_nil, Bool.and_true, Bool.and_assoc]

theorem valid_eq (b : BldT) (hl : b.cars.length ≤ maxLen) : F44 b = vld b := by
  unfold F44 vld
  simp only [within_one]
  by_cases h1 : 2 ≤ b.1 ∧ b.1 ≤ 32
  · have e1 : (!(decide (2 ≤ b.1) && decide (b.1 ≤ 32))) = false := by simp [h1]
    rw [e1, if_neg (by simpa using h1)]
    simp only [cond_false]
    by_cases h2 : 1 ≤ b.cars.length ∧ b.cars.length ≤ 8
    · have e2 : (!(decide ((1 : Int) ≤ (b.cars.length : Int)) && decide ((b.cars.length : Int) ≤ 8))) = false := by simp; omega
      rw [e2, if_neg (by simpa using h2)]
      simp only [cond_false]
      have e3 : ∀ b0 : Bool, (G44_7 (b.cars, (b.cars.length : Int), b) (b0, 0)).1 = (b0 && b.cars.all (carOk b.1)) := by
        intro b0
        unfold G44_7
        refine end_all b.cars (carOk b.1) hl (fun b' i => ?_) b0 (by simp [mu44_7])
        simp only [st44_7, times_eq _ _ h1]
      rw [e3]
      rw [wrap_i64_of (x := 18 * (b.cars.length : Int)) (by omega) (by omega), wrap_i64_of (by omega) (by omega)]
      cases h3 : ((decide (1 ≤ b.2.1) && decide (b.2.1 ≤ 16)) && (decide (1 ≤ b.2.2.2.1) && decide (b.2.2.2.1 ≤ 10000)) && b.cars.all (carOk b.1)) with
      | false => rfl
      | true =>
        simp only [Bool.not_true, cond_false, Bool.true_eq_false, if_false]
        show (bif !loadsOk b then _ else _) = _
        cases h4 : loadsOk b with
        | false => rfl
        | true =>
          simp only [Bool.not_true, cond_false, Bool.true_eq_false, if_false]
          by_cases h5 : 18 * (b.cars.length : Int) + 24 ≤ b.2.2.1 ∧ b.2.2.1 ≤ 65536
          · rw [if_neg (by simpa using h5)]; simp [h5]
          · rw [if_pos h5]
            have : (decide (18 * (b.cars.length : Int) + 24 ≤ b.2.2.1) && decide (b.2.2.1 ≤ 65536)) = false := by
              simp only [Bool.and_eq_false_iff, decide_eq_false_iff_not]; omega
            rw [this]; rfl
    · have e2 : (!(decide ((1 : Int) ≤ (b.cars.length : Int)) && decide ((b.cars.length : Int) ≤ 8))) = true := by
        simp only [Bool.not_eq_true', Bool.and_eq_false_iff, decide_eq_false_iff_not]; omega
      rw [e2, if_pos h2]; rfl
  · have e1 : (!(decide (2 ≤ b.1) && decide (b.1 ≤ 32))) = true := by
      simp only [Bool.not_eq_true', Bool.and_eq_false_iff, decide_eq_false_iff_not]; omega
    rw [e1, if_pos h1]; rfl

theorem rvalid_eq (b : BldT) (hl : b.cars.length ≤ maxLen) : F52 b = vld b := by
  unfold F52 vld
  simp only [in_eq]
  by_cases h1 : 2 ≤ b.1 ∧ b.1 ≤ 32
  · have e1 : (!(decide (2 ≤ b.1) && decide (b.1 ≤ 32))) = false := by simp [h1]
    rw [e1, if_neg (by simpa using h1)]
    simp only [cond_false]
    by_cases h2 : 1 ≤ b.cars.length ∧ b.cars.length ≤ 8
    · have e2 : (!(decide ((1 : Int) ≤ (b.cars.length : Int)) && decide ((b.cars.length : Int) ≤ 8))) = false := by simp; omega
      rw [e2, if_neg (by simpa using h2)]
      simp only [cond_false]
      have e3 : ∀ b0 : Bool, (G52_7 b (b0, 0)).1 = (b0 && b.cars.all (carOk b.1)) := by
        intro b0
        unfold G52_7
        refine end_all b.cars (carOk b.1) hl (fun b' i => ?_) b0 (by simp [mu52_7])
        simp only [st52_7, rtimes_eq _ _ h1]
      rw [e3]
      rw [wrap_i64_of (x := 18 * (b.cars.length : Int)) (by omega) (by omega), wrap_i64_of (by omega) (by omega)]
      cases h3 : ((decide (1 ≤ b.2.1) && decide (b.2.1 ≤ 16)) && (decide (1 ≤ b.2.2.2.1) && decide (b.2.2.2.1 ≤ 10000)) && b.cars.all (carOk b.1)) with
      | false => rfl
      | true =>
        simp only [Bool.not_true, cond_false, Bool.true_eq_false, if_false]
        show (bif !loadsOk b then _ else _) = _
        cases h4 : loadsOk b with
        | false => rfl
        | true =>
          simp only [Bool.not_true, cond_false, Bool.true_eq_false, if_false]
          by_cases h5 : 18 * (b.cars.length : Int) + 24 ≤ b.2.2.1 ∧ b.2.2.1 ≤ 65536
          · rw [if_neg (by simpa using h5)]; simp [h5]
          · rw [if_pos h5]
            have : (decide (18 * (b.cars.length : Int) + 24 ≤ b.2.2.1) && decide (b.2.2.1 ≤ 65536)) = false := by
              simp only [Bool.and_eq_false_iff, decide_eq_false_iff_not]; omega
            rw [this]; rfl
    · have e2 : (!(decide ((1 : Int) ≤ (b.cars.length : Int)) && decide ((b.cars.length : Int) ≤ 8))) = true := by
        simp only [Bool.not_eq_true', Bool.and_eq_false_iff, decide_eq_false_iff_not]; omega
      rw [e2, if_pos h2]; rfl
  · have e1 : (!(decide (2 ≤ b.1) && decide (b.1 ≤ 32))) = true := by
      simp only [Bool.not_eq_true', Bool.and_eq_false_iff, decide_eq_false_iff_not]; omega
    rw [e1, if_pos h1]; rfl

/-- What a valid building is. -/
structure IsB (b : BldT) : Prop where
  fl : 2 ≤ b.1 ∧ b.1 ≤ 32
  cn : 1 ≤ b.cars.length ∧ b.cars.length ≤ 8
  deb : 1 ≤ b.2.1 ∧ b.2.1 ≤ 16
  park : 1 ≤ b.2.2.2.1 ∧ b.2.2.2.1 ≤ 10000
  car : ∀ c ∈ b.cars, carOk b.1 c = true
  loads : loadsOk b = true
  room : 18 * (b.cars.length : Int) + 24 ≤ b.2.2.1 ∧ b.2.2.1 ≤ 65536

theorem vld_zero (b : BldT) : vld b = 0 ↔ IsB b := by
  unfold vld
  constructor
  · intro h
    split at h
    · cases h
    · rename_i h1
      split at h
      · cases h
      · rename_i h2
        split at h
        · cases h
        · rename_i h3
          split at h
          · cases h
          · rename_i h4
            split at h
            · cases h
            · rename_i h5
              simp only [Bool.not_eq_false, Bool.and_eq_true, decide_eq_true_eq, List.all_eq_true] at h3
              exact ⟨by omega, by omega, h3.1.1, h3.1.2, h3.2, by simpa using h4, by omega⟩
  · intro h
    rw [if_neg (by simpa using h.fl), if_neg (by simpa using h.cn), if_neg, if_neg (by simp [h.loads]), if_neg (by simpa using h.room)]
    simp only [Bool.not_eq_false, Bool.and_eq_true, decide_eq_true_eq, List.all_eq_true]
    exact ⟨⟨h.deb, h.park⟩, h.car⟩
theorem fit_cars {b : BldT} (h : Fit ty32 b) : b.cars.length ≤ maxLen := h.2.2.2.2.2.2.2.1
theorem valid_b {b : BldT} (hl : b.cars.length ≤ maxLen) (h : F44 b = 0) : IsB b := (vld_zero b).1 (by rw [← valid_eq b hl]; exact h)
theorem rvalid_b {b : BldT} (hl : b.cars.length ≤ maxLen) (h : F52 b = 0) : IsB b := (vld_zero b).1 (by rw [← rvalid_eq b hl]; exact h)
end Go.Proofs.YtpbljgpdhllklaaDoor.Sp
end

section
/- The sample buildings, and bounds (own work). -/
namespace Go.Proofs.YtpbljgpdhllklaaDoor.Sp
open Go Sy
set_option linter.unusedVariables false
set_option linter.unusedSimpArgs false
def sampleCar (fl : Int) (i : Nat) : CarT := (100, 2, 6, 5, 4, 2, 3, 10, (i : Int) % fl)
def sampleB (fl : Int) (n : Nat) : BldT := (fl, 1, 4000, 30, 4591870180066957722, 4605380978949069210, 4607632778762754458, (List.range n).map (sampleCar fl))
theorem sample_eq (fl : Int) (n : Nat) (h0 : 1 ≤ fl) (hn : n ≤ 100) : F31 (fl, (n : Int)) = sampleB fl n := by
  unfold F31 G31_3
  have hs : ∀ i, i < n → ∃ k', st31_3 (fl, (n : Int)) ((fun i : Nat => ((i : Int), sampleB fl i)) i) = .next k' ((fun i : Nat => ((i : Int), sampleB fl i)) (i + 1)) := by
    intro i hi
    refine ⟨(fl, (n : Int)), ?_⟩
    have h1 : decide ((i : Int) < (n : Int)) = true := by simp; omega
    simp only [st31_3, sampleB, h1, cond_true, wrap_succ hi (show n ≤ maxLen by simp [maxLen]; omega), List.range_succ, List.map_append, List.map_cons, List.map_nil, sampleCar,
      Int.tmod_eq_emod_of_nonneg (Int.natCast_nonneg i)]
  have hb : st31_3 (fl, (n : Int)) ((fun i : Nat => ((i : Int), sampleB fl i)) n) = .brk (fl, (n : Int)) ((n : Int), sampleB fl n) := by
    simp [st31_3]
  have := (end_row_brk _ n hs hb (fuel := Nat.succ (mu31_3 (fl, (n : Int)) (0, sampleB fl 0))) (by simp [mu31_3])).1
  exact congrArg Prod.snd this
theorem sample_cars (fl : Int) (n : Nat) : (sampleB fl n).cars = (List.range n).map (sampleCar fl) := rfl
theorem sample_len (fl : Int) (n : Nat) : (sampleB fl n).cars.length = n := by simp [sample_cars]
theorem sample_isB (fl : Int) (n : Nat) (h : 2 ≤ fl ∧ fl ≤ 32) (hn : 1 ≤ n ∧ n ≤ 8) : IsB (sampleB fl n) where
  fl := h
  cn := by rw [sample_len]; exact hn
  deb := by show (1 : Int) ≤ 1 ∧ (1 : Int) ≤ 16; decide
  park := by show (1 : Int) ≤ 30 ∧ (30 : Int) ≤ 10000; decide
  car := by
    intro c hc
    rw [sample_cars, List.mem_map] at hc
    obtain ⟨i, hi, rfl⟩ := hc
    have h1 : 0 ≤ (i : Int) % fl := Int.emod_nonneg _ (by omega)
    have h2 : (i : Int) % fl < fl := Int.emod_lt_of_pos _ (by omega)
    have h3 : (i : Int) % fl ≤ fl - 1 := by omega
    simp only [carOk, sampleCar, tOk, sampleB]
    simp [h1, h3]
  loads := by simp only [loadsOk, sampleB]; kernel_rfl
  room := by rw [sample_len]; simp only [sampleB]; omega
end Go.Proofs.YtpbljgpdhllklaaDoor.Sp
end

section
/- What TrailingZeros32 comes to (own work). -/
namespace Go.Proofs.YtpbljgpdhllklaaDoor.Sp
open Go Sy
set_option linter.unusedVariables false
set_option linter.unusedSimpArgs false

theorem tabB_map : tabB = Lib.deBruijn32tab.map (fun (n : Nat) => (n : Int)) := rfl
theorem tabB_at (j : Nat) : tabB.getD j 0 = ((Lib.deBruijn32tab.getD j 0 : Nat) : Int) := by
  rw [tabB_map]
  simp only [List.getD_eq_getElem?_getD, List.getElem?_map]
  cases Lib.deBruijn32tab[j]? <;> rfl
theorem tz_nat (n : Nat) (h0 : n ≠ 0) (hn : n < 4294967296) : F74 (n : Int) = ((Lib.ctz 32 n : Nat) : Int) ∧ Lib.ctz 32 n < 32 := by
  obtain ⟨hl, hc⟩ := Lib.lowest_bit 32 n h0 hn
  generalize Lib.ctz 32 n = c at hl hc ⊢
  refine ⟨?_, hc⟩
  obtain ⟨d1, d2⟩ := Lib.deBruijn32_at c hc
  have hw : IntKind.u32.wrap (0 - (n : Int)) = ((2 ^ 32 - n : Nat) : Int) := by rw [IntKind.wrap_u32]; omega
  have ha : and32 (n : Int) (IntKind.u32.wrap (0 - (n : Int))) = ((2 ^ c : Nat) : Int) := by rw [hw, and_nat n _ hn (by omega), hl]
  have he : ((n : Int) == 0) = false := by simp; omega
  unfold F74
  have ha' : IntKind.u32.wrap ((BitVec.ofInt IntKind.u32.bits (n : Int) &&& BitVec.ofInt IntKind.u32.bits (IntKind.u32.wrap (0 - (n : Int)))).toNat : Int) = ((2 ^ c : Nat) : Int) := ha
  rw [he, cond_false, ha', d27]
  have hi : IntKind.u32.wrap (((2 ^ c : Nat) : Int) * 125613361) / 134217728 = ((2 ^ c * 125613361 % 4294967296 / 134217728 : Nat) : Int) := by
    generalize 2 ^ c = q
    rw [IntKind.wrap_u32]
    omega
  rw [hi]
  generalize 2 ^ c * 125613361 % 4294967296 / 134217728 = j at d1 d2 ⊢
  have : nthT tabB (j : Int) = (c : Int) := by
    have := tabB_at j
    rw [d2] at this
    unfold nthT
    rw [Int.toNat_natCast, show (default : Int) = 0 from rfl, this]
  rw [this]
  exact wrap_i64_of (by omega) (by omega)
theorem tz_zero : F74 0 = 32 := rfl
/-- The lowest bit. -/
theorem tz_spec {x : Int} (hx : W x) (hne : x ≠ 0) : ∃ k : Nat, k < 32 ∧ F74 x = (k : Int) ∧ bit x k = true ∧ ∀ i, i < k → bit x i = false := by
  obtain ⟨n, rfl⟩ := Int.eq_ofNat_of_zero_le hx.1
  have hn : n < 4294967296 := by have := hx.2; omega
  have h0 : n ≠ 0 := by omega
  obtain ⟨h1, h2⟩ := tz_nat n h0 hn
  refine ⟨_, h2, h1, ?_⟩
  have hc : Lib.ctz 32 n = Lib.ctzFrom 32 n := by unfold Lib.ctz; rw [if_neg h0]
  obtain ⟨q, hq, _⟩ := Lib.ctzFrom_spec 32 n (by omega) hn
  rw [← hc] at hq
  generalize Lib.ctz 32 n = c at hq ⊢
  simp only [bit, Int.toNat_natCast]
  constructor
  · rw [hq, Nat.testBit_two_pow_mul]
    simp [Nat.testBit_zero]
  · intro i hi
    rw [hq, Nat.testBit_two_pow_mul]
    have : ¬ c ≤ i := by omega
    simp [this]
theorem tz_nonneg {x : Int} (hx : W x) : 0 ≤ F74 x := by
  by_cases h : x = 0
  · subst h; rw [tz_zero]; omega
  · obtain ⟨k, _, h2, _⟩ := tz_spec hx h; omega

end Go.Proofs.YtpbljgpdhllklaaDoor.Sp
end

section
/- Sets of floors: the next one above, the next one below (own work). -/
namespace Go.Proofs.YtpbljgpdhllklaaDoor.Sp
open Go Sy
set_option linter.unusedVariables false
set_option linter.unusedSimpArgs false

abbrev allm (n : Int) : Int := IntKind.u32.wrap (shl32 1 n - 1)
theorem allm_val : ∀ n : Nat, n < 33 → allm (n : Int) = ((2 ^ n - 1 : Nat) : Int) := by decide +kernel
theorem bit_allm (n i : Nat) (hn : n ≤ 32) : bit (allm (n : Int)) i = decide (i < n) := by
  rw [allm_val n (by omega)]
  simp [bit, Nat.testBit_two_pow_sub_one]
theorem W_allm (n : Int) : W (allm n) := W_wrap _
theorem bit1 (i : Nat) (hi : i < 32) : bit 1 i = decide (i = 0) := by
  have := bit_one 0 i hi
  rwa [show shl32 1 ((0 : Nat) : Int) = 1 from rfl] at this
theorem W.one : W 1 := by unfold W; omega
theorem ne_zero_of {x : Int} {i : Nat} (h : bit x i = true) : x ≠ 0 := by
  intro h0; subst h0; rw [bit_zero] at h; cases h
theorem bit_lt {x : Int} (hx : W x) {i : Nat} (h : bit x i = true) : i < 32 := by
  rcases Nat.lt_or_ge i 32 with hi | hi
  · exact hi
  · rw [bit_hi hx hi] at h; cases h

/-- How far the next one above is; 0: there is none. -/
def AboveS (s : Int) (f : Nat) (d : Int) : Prop := (d = 0 ∧ ∀ i, f < i → bit s i = false) ∨ ∃ k, f < k ∧ bit s k = true ∧ (∀ i, f < i → i < k → bit s i = false) ∧ d = (k : Int) - f
def BelowS (s : Int) (f : Nat) (d : Int) : Prop := (d = 0 ∧ ∀ i, i < f → bit s i = false) ∨ ∃ k, k < f ∧ bit s k = true ∧ (∀ i, k < i → i < f → bit s i = false) ∧ d = (f : Int) - k
theorem AboveS.uniq {s : Int} {f : Nat} {d e : Int} (h : AboveS s f d) (h' : AboveS s f e) : d = e := by
  rcases h with ⟨h1, h2⟩ | ⟨k, h1, h2, h3, h4⟩ <;> rcases h' with ⟨g1, g2⟩ | ⟨j, g1, g2, g3, g4⟩
  · omega
  · rw [h2 j g1] at g2; cases g2
  · rw [g2 k h1] at h2; cases h2
  · rcases Nat.lt_trichotomy k j with h | h | h
    · rw [g3 k h1 h] at h2; cases h2
    · omega
    · rw [h3 j g1 h] at g2; cases g2
theorem BelowS.uniq {s : Int} {f : Nat} {d e : Int} (h : BelowS s f d) (h' : BelowS s f e) : d = e := by
  rcases h with ⟨h1, h2⟩ | ⟨k, h1, h2, h3, h4⟩ <;> rcases h' with ⟨g1, g2⟩ | ⟨j, g1, g2, g3, g4⟩
  · omega
  · rw [h2 j g1] at g2; cases g2
  · rw [g2 k h1] at h2; cases h2
  · rcases Nat.lt_trichotomy k j with h | h | h
    · rw [h3 j h g1] at g2; cases g2
    · omega
    · rw [g3 k h h1] at h2; cases h2
theorem AboveS.nn {s : Int} {f : Nat} {d : Int} (h : AboveS s f d) : 0 ≤ d := by rcases h with ⟨h1, _⟩ | ⟨k, h1, _, _, h4⟩ <;> omega
theorem BelowS.nn {s : Int} {f : Nat} {d : Int} (h : BelowS s f d) : 0 ≤ d := by rcases h with ⟨h1, _⟩ | ⟨k, h1, _, _, h4⟩ <;> omega
theorem AboveS.none {s : Int} {f : Nat} {d : Int} (h : AboveS s f d) : ¬ 0 < d ↔ ∀ i, f < i → bit s i = false := by
  rcases h with ⟨h1, h2⟩ | ⟨k, h1, h2, _, h4⟩
  · exact ⟨fun _ => h2, fun _ => by omega⟩
  · refine ⟨fun h => by omega, fun h => ?_⟩
    rw [h k h1] at h2; cases h2
theorem BelowS.none {s : Int} {f : Nat} {d : Int} (h : BelowS s f d) : ¬ 0 < d ↔ ∀ i, i < f → bit s i = false := by
  rcases h with ⟨h1, h2⟩ | ⟨k, h1, h2, _, h4⟩
  · exact ⟨fun _ => h2, fun _ => by omega⟩
  · refine ⟨fun h => by omega, fun h => ?_⟩
    rw [h k h1] at h2; cases h2
theorem AboveS.le {s : Int} (hs : W s) {f : Nat} {d : Int} (h : AboveS s f d) : d ≤ 32 := by
  rcases h with ⟨h1, h2⟩ | ⟨k, h1, h2, _, h4⟩
  · omega
  · have := bit_lt hs h2; omega

theorem above_tz {s : Int} (hs : W s) (f : Nat) (hf : f < 32) :
    (shr32 (shr32 s (f : Int)) 1 = 0 → ∀ i, f < i → bit s i = false) ∧ (shr32 (shr32 s (f : Int)) 1 ≠ 0 → AboveS s f (1 + F74 (shr32 (shr32 s (f : Int)) 1)) ∧ 0 ≤ F74 (shr32 (shr32 s (f : Int)) 1) ∧ F74 (shr32 (shr32 s (f : Int)) 1) < 32) := by
  have hw : W (shr32 s (f : Int)) := W_shr hs _ (by omega)
  have hv : W (shr32 (shr32 s (f : Int)) 1) := W_shr hw _ (by omega)
  have hb : ∀ i, bit (shr32 (shr32 s (f : Int)) 1) i = bit s (f + (1 + i)) := fun i => by
    have := bit_shr hw 1 i
    rw [show (((1 : Nat) : Int)) = 1 from rfl] at this
    rw [this, bit_shr hs]
  constructor
  · intro h0 i hi
    have := hb (i - f - 1)
    rw [h0, bit_zero, show f + (1 + (i - f - 1)) = i by omega] at this
    exact this.symm
  · intro hne
    obtain ⟨k, hk, h1, h2, h3⟩ := tz_spec hv hne
    rw [h1]
    refine ⟨.inr ⟨f + (1 + k), by omega, by rw [← hb]; exact h2, fun i h4 h5 => ?_, by omega⟩, by omega, by omega⟩
    have := h3 (i - f - 1) (by omega)
    rw [hb, show f + (1 + (i - f - 1)) = i by omega] at this
    exact this
theorem below_len {s : Int} (hs : W s) (f : Nat) (hf : f < 32) :
    (and32 s (allm (f : Int)) = 0 → ∀ i, i < f → bit s i = false) ∧ (and32 s (allm (f : Int)) ≠ 0 → BelowS s f ((f : Int) - F124 (and32 s (allm (f : Int))) + 1) ∧ 0 ≤ F124 (and32 s (allm (f : Int))) ∧ F124 (and32 s (allm (f : Int))) ≤ 32) := by
  have hv : W (and32 s (allm (f : Int))) := W_and _ _
  have hb : ∀ i, i < 32 → bit (and32 s (allm (f : Int))) i = (bit s i && decide (i < f)) := fun i hi => by
    rw [bit_and hs.1 (W_allm _).1 i hi, bit_allm f i (by omega)]
  constructor
  · intro h0 i hi
    have := hb i (by omega)
    rw [h0, bit_zero] at this
    simpa [hi] using this.symm
  · intro hne
    obtain ⟨k, hk, h1, h2, h3⟩ := len_spec hv hne
    rw [h1]
    rw [hb k hk] at h2
    simp only [Bool.and_eq_true, decide_eq_true_eq] at h2
    refine ⟨.inr ⟨k, h2.2, h2.1, fun i h4 h5 => ?_, by omega⟩, by omega, by omega⟩
    have := h3 i h4
    rw [hb i (by omega)] at this
    simpa [h5] using this
/-- The first of a row. -/
theorem first_of (p : Nat → Bool) : (∀ i, p i = false) ∨ ∃ k, p k = true ∧ ∀ i, i < k → p i = false := by
  by_cases h : ∃ k, p k = true
  · right
    obtain ⟨k, hk⟩ := h
    induction k using Nat.strongRecOn with
    | _ k ih =>
      by_cases h2 : ∃ i, i < k ∧ p i = true
      · obtain ⟨i, h3, h4⟩ := h2; exact ih i h3 h4
      · exact ⟨k, hk, fun i hi => by cases hp : p i with | false => rfl | true => exact absurd ⟨i, hi, hp⟩ h2⟩
  · left
    intro i
    cases hp : p i with | false => rfl | true => exact absurd ⟨i, hp⟩ h
/-- One bit of a word. -/
theorem and_shl {a : Int} (ha : W a) (f : Nat) (hf : f < 32) : and32 a (shl32 1 (f : Int)) = bif bit a f then shl32 1 (f : Int) else 0 := by
  refine W.ext (W_and _ _) (by cases bit a f; exact W.zero; exact W_shl _ _) fun i hi => ?_
  rw [bit_and ha.1 (W_shl _ _).1 i hi, bit_one f i hi]
  by_cases h : i = f
  · subst h; cases hb : bit a i <;> simp [hb, bit_zero, bit_one i i hi]
  · cases hb : bit a f <;> simp [h, bit_zero, bit_one f i hi]
end Go.Proofs.YtpbljgpdhllklaaDoor.Sp
end

section
/- Buildings and sets of floors together; what the control of a car always meets (own work). -/
namespace Go.Proofs.YtpbljgpdhllklaaDoor.Sp
open Go Sy
abbrev SweepT := Int × Int
abbrev DoorT := Int × Int × Int × Bool × Int
abbrev MotT := Int × Int × Int
abbrev CarS := SweepT × DoorT × MotT × Int × Int × Int × Bool
abbrev FbT := Int × Bool × Int × Bool
abbrev CtlT := BldT × Int × CarS × FbT × Int
/-- The control of a car in a tick. -/
def CtlOk (c : CtlT) : Prop := 0 ≤ c.1.1 ∧ 0 ≤ c.2.1 ∧ c.2.1 < (c.1.2.2.2.2.2.2.2.length : Int) ∧ 0 ≤ c.2.2.2.1.1
/-- What stays. -/
def CtlEq (c d : CtlT) : Prop := d.1 = c.1 ∧ d.2.1 = c.2.1 ∧ d.2.2.2.1 = c.2.2.2.1
theorem CtlEq.ok {c d : CtlT} (h : CtlEq c d) (hc : CtlOk c) : CtlOk d := by
  obtain ⟨h1, h2, h3⟩ := h
  unfold CtlOk at *
  rw [h1, h2, h3]; exact hc
theorem CtlEq.trans {c d e : CtlT} (h : CtlEq c d) (k : CtlEq d e) : CtlEq c e := ⟨k.1.trans h.1, k.2.1.trans h.2.1, k.2.2.trans h.2.2⟩
end Go.Proofs.YtpbljgpdhllklaaDoor.Sp
end

section
/- Contracts of functions, by the evaluator (own program gen.py): overlaylaw15.Building, overlayplay.New, overlayplay.Report, door.isCount, motion.beside, newcar.isFeedback, <*newcar.control>.press, <*newcar.control>.config, door.more, door.enter, park.Move, door.Late, motion.Late, indicator.isFloors, overlayplay.in, overlayplay.arrived, motion.Skip. -/
set_option linter.unusedVariables false
set_option linter.unusedSimpArgs false
set_option maxRecDepth 100000
namespace Go.Proofs.YtpbljgpdhllklaaDoor.Sy
open Go Go.RowKit Sp
/-! overlaylaw15.Building -/
end Go.Proofs.YtpbljgpdhllklaaDoor.Sy
namespace Go.Proofs.YtpbljgpdhllklaaDoor.Sp
open Go Go.RowKit Sy
def in11_3 (k : (Int)) (x : (Int × Int × Int × Int × Int × Nat × Nat × Nat × List (Int × Int × Int × Int × Int × Int × Int × Int × Int))) : Prop := (0 : Int) ≤ x.1 ∧ x.2.1 ≠ 0 ∧ x.2.2.2.2.2.2.2.2.length ≤ 100
def mu11_3 (k : (Int)) (x : (Int × Int × Int × Int × Int × Nat × Nat × Nat × List (Int × Int × Int × Int × Int × Int × Int × Int × Int))) : Nat := (((x.2.2.2.2.2.2.2.2).length : Int) - x.1).toNat
def K11_3_1 (k : (Int)) (x : (Int × Int × Int × Int × Int × Nat × Nat × Nat × List (Int × Int × Int × Int × Int × Int × Int × Int × Int))) :=
  (setE ty76 x.2.2.2.2.2.2.2.2 x.1 ((Sp.nthT x.2.2.2.2.2.2.2.2 x.1).1, (Sp.nthT x.2.2.2.2.2.2.2.2 x.1).2.1, (Sp.nthT x.2.2.2.2.2.2.2.2 x.1).2.2.1, (Sp.nthT x.2.2.2.2.2.2.2.2 x.1).2.2.2.1, (IntKind.i64.wrap ((1 : Int) + (IntKind.i64.wrap (Int.tmod k (3 : Int))))), (Sp.nthT x.2.2.2.2.2.2.2.2 x.1).2.2.2.2.2))
def K11_3_2 (k : (Int)) (x : (Int × Int × Int × Int × Int × Nat × Nat × Nat × List (Int × Int × Int × Int × Int × Int × Int × Int × Int))) :=
  (setE ty76 (Sp.K11_3_1 k x) x.1 ((Sp.nthT (Sp.K11_3_1 k x) x.1).1, (Sp.nthT (Sp.K11_3_1 k x) x.1).2.1, (Sp.nthT (Sp.K11_3_1 k x) x.1).2.2.1, (Sp.nthT (Sp.K11_3_1 k x) x.1).2.2.2.1, (Sp.nthT (Sp.K11_3_1 k x) x.1).2.2.2.2.1, (IntKind.i64.wrap ((1 : Int) + (IntKind.i64.wrap (Int.tmod (IntKind.u8.wrap (Int.tdiv k (3 : Int))) (3 : Int))))), (Sp.nthT (Sp.K11_3_1 k x) x.1).2.2.2.2.2.2))
def K11_3_3 (k : (Int)) (x : (Int × Int × Int × Int × Int × Nat × Nat × Nat × List (Int × Int × Int × Int × Int × Int × Int × Int × Int))) :=
  (setE ty76 (Sp.K11_3_2 k x) x.1 ((Sp.nthT (Sp.K11_3_2 k x) x.1).1, (Sp.nthT (Sp.K11_3_2 k x) x.1).2.1, (Sp.nthT (Sp.K11_3_2 k x) x.1).2.2.1, (Sp.nthT (Sp.K11_3_2 k x) x.1).2.2.2.1, (Sp.nthT (Sp.K11_3_2 k x) x.1).2.2.2.2.1, (Sp.nthT (Sp.K11_3_2 k x) x.1).2.2.2.2.2.1, (IntKind.i64.wrap ((1 : Int) + (IntKind.i64.wrap (Int.tmod (IntKind.u8.wrap (Int.tdiv k (9 : Int))) (3 : Int))))), (Sp.nthT (Sp.K11_3_2 k x) x.1).2.2.2.2.2.2.2))
def K11_3_4 (k : (Int)) (x : (Int × Int × Int × Int × Int × Nat × Nat × Nat × List (Int × Int × Int × Int × Int × Int × Int × Int × Int))) :=
  (setE ty76 (Sp.K11_3_3 k x) x.1 ((Sp.nthT (Sp.K11_3_3 k x) x.1).1, (Sp.nthT (Sp.K11_3_3 k x) x.1).2.1, (Sp.nthT (Sp.K11_3_3 k x) x.1).2.2.1, (Sp.nthT (Sp.K11_3_3 k x) x.1).2.2.2.1, (Sp.nthT (Sp.K11_3_3 k x) x.1).2.2.2.2.1, (Sp.nthT (Sp.K11_3_3 k x) x.1).2.2.2.2.2.1, (Sp.nthT (Sp.K11_3_3 k x) x.1).2.2.2.2.2.2.1, (IntKind.i64.wrap ((Sp.nthT (Sp.K11_3_3 k x) x.1).2.2.2.2.2.2.1 + (IntKind.i64.wrap (Int.tmod (IntKind.u8.wrap (Int.tdiv k (27 : Int))) (5 : Int))))), (Sp.nthT (Sp.K11_3_3 k x) x.1).2.2.2.2.2.2.2.2))
def K11_3_5 (k : (Int)) (x : (Int × Int × Int × Int × Int × Nat × Nat × Nat × List (Int × Int × Int × Int × Int × Int × Int × Int × Int))) :=
  (setE ty76 (Sp.K11_3_4 k x) x.1 ((Sp.nthT (Sp.K11_3_4 k x) x.1).1, (Sp.nthT (Sp.K11_3_4 k x) x.1).2.1, (Sp.nthT (Sp.K11_3_4 k x) x.1).2.2.1, (Sp.nthT (Sp.K11_3_4 k x) x.1).2.2.2.1, (Sp.nthT (Sp.K11_3_4 k x) x.1).2.2.2.2.1, (Sp.nthT (Sp.K11_3_4 k x) x.1).2.2.2.2.2.1, (Sp.nthT (Sp.K11_3_4 k x) x.1).2.2.2.2.2.2.1, (Sp.nthT (Sp.K11_3_4 k x) x.1).2.2.2.2.2.2.2.1, (Int.tmod (IntKind.i64.wrap (x.1 + (IntKind.i64.wrap k))) x.2.1)))
def st11_3 (k : (Int)) (x : (Int × Int × Int × Int × Int × Nat × Nat × Nat × List (Int × Int × Int × Int × Int × Int × Int × Int × Int))) : BOut (Int) (Int × Int × Int × Int × Int × Nat × Nat × Nat × List (Int × Int × Int × Int × Int × Int × Int × Int × Int)) (Int × Int × Int × Int × Nat × Nat × Nat × List (Int × Int × Int × Int × Int × Int × Int × Int × Int)) :=
  bif (decide (x.1 < ((x.2.2.2.2.2.2.2.2).length : Int))) then
    BOut.next k ((IntKind.i64.wrap (x.1 + (1 : Int))), x.2.1, x.2.2.1, x.2.2.2.1, x.2.2.2.2.1, x.2.2.2.2.2.1, x.2.2.2.2.2.2.1, x.2.2.2.2.2.2.2.1, (Sp.K11_3_5 k x))
  else
    BOut.brk k x
def G11_3 (k : (Int)) (x : (Int × Int × Int × Int × Int × Nat × Nat × Nat × List (Int × Int × Int × Int × Int × Int × Int × Int × Int))) : (Int × Int × Int × Int × Int × Nat × Nat × Nat × List (Int × Int × Int × Int × Int × Int × Int × Int × Int)) := endOf st11_3 k (Nat.succ (mu11_3 k x)) x
end Go.Proofs.YtpbljgpdhllklaaDoor.Sp
namespace Go.Proofs.YtpbljgpdhllklaaDoor.Sy
def LS11_3 : LS ty32.den := mkLS ty5 (Ty.pair ty3 ty32)  [(1, none)] [] [(6, none)] [(5, 8)] [(8, 100308, true, 76)] [] [(5, 5)] 0 false Sp.in11_3 Sp.st11_3 Sp.mu11_3
theorem va11_3 (k : ty5.den) (x : (Ty.pair ty3 ty32).den) : ((evCode (ctxG GmT2) (lookL []) (bodyAt (bodyOf Tryd.f11) [0]) (tmpl LS11_3 (enc ty5 k) (enc (Ty.pair ty3 ty32) x)) (evRound LS11_3 (evRet (ctxG GmT2) Tryd.f11 (Rsh.one (some 8)) (some 76) ty32 .ret)))).val BOut.ret (BOut.brk (Ty.dflt ty5) (Ty.dflt (Ty.pair ty3 ty32))) = Sp.st11_3 k x := by kernel_rfl
theorem se11_3 (k : ty5.den) (x : (Ty.pair ty3 ty32).den) : ((evCode (ctxG GmT2) (lookL []) (bodyAt (bodyOf Tryd.f11) [0]) (tmpl LS11_3 (enc ty5 k) (enc (Ty.pair ty3 ty32) x)) (evRound LS11_3 (evRet (ctxG GmT2) Tryd.f11 (Rsh.one (some 8)) (some 76) ty32 .ret)))).safe = ((((decide (x.1 < ((x.2.2.2.2.2.2.2.2).length : Int))) = true → ((0 ≤ x.1 ∧ x.1 < ((x.2.2.2.2.2.2.2.2).length : Int)) ∧ (((3 : Int) ≠ 0) ∧ (((3 : Int) ≠ 0) ∧ (((3 : Int) ≠ 0) ∧ (((9 : Int) ≠ 0) ∧ (((3 : Int) ≠ 0) ∧ (((27 : Int) ≠ 0) ∧ (((5 : Int) ≠ 0) ∧ ((x.2.1 ≠ 0) ∧ True)))))))))) ∧ ((decide (x.1 < ((x.2.2.2.2.2.2.2.2).length : Int))) = false → True))) := by kernel_rfl
set_option maxHeartbeats 4000000 in
theorem sa11_3 (k : ty5.den) (x : (Ty.pair ty3 ty32).den) (fk : Fit ty5 k) (fx : Fit (Ty.pair ty3 ty32) x) (h : Sp.in11_3 k x) : SafeW ((evCode (ctxG GmT2) (lookL []) (bodyAt (bodyOf Tryd.f11) [0]) (tmpl LS11_3 (enc ty5 k) (enc (Ty.pair ty3 ty32) x)) (evRound LS11_3 (evRet (ctxG GmT2) Tryd.f11 (Rsh.one (some 8)) (some 76) ty32 .ret)))) := by
  refine ⟨?_⟩
  rw [se11_3]
  try dsimp only [Ty.den] at *
  simp only [Sp.in11_3, Fit, maxLen] at h fk fx
  simp only [IntKind.wrap_i64, IntKind.wrap_u8, IntKind.wrap_u32, IntKind.wrap_u64, Sp.tmod_lit, Sp.tdiv_lit, bne_eq_false_iff_eq, Int.natCast_inj, setE, copyL, sliceL, zrow, List.length_append, List.length_cons, List.length_nil, List.length_set, List.length_replicate, List.length_take, List.length_drop, decide_eq_true_eq, decide_eq_false_iff_not, Bool.or_eq_true, Bool.and_eq_true, Bool.or_eq_false_iff, Bool.and_eq_false_iff, Bool.not_eq_true', Bool.not_eq_false', Bool.not_eq_true, Bool.not_eq_false, beq_iff_eq, beq_eq_false_iff_ne, bne_iff_ne, ne_eq, implies_true, and_true, true_and] at *
  all_goals ((repeat' (first | exact trivial | apply And.intro | intro _)) <;> first | trivial | omega | exact Sp.tmod_nn (by omega) | exact Sp.tmod_lt (by omega) (by omega))
set_option maxHeartbeats 4000000 in
theorem so11_3 (k : ty5.den) (x : (Ty.pair ty3 ty32).den) (fk : Fit ty5 k) (h : Sp.in11_3 k x) : StepOk false Sp.in11_3 Sp.mu11_3 k x (Sp.st11_3 k x) := by
  try dsimp only [Ty.den] at *
  unfold Sp.in11_3 at h
  unfold Sp.st11_3
  have hlen : (Sp.K11_3_5 k x).length = x.2.2.2.2.2.2.2.2.length := by
    simp only [Sp.K11_3_5, Sp.K11_3_4, Sp.K11_3_3, Sp.K11_3_2, Sp.K11_3_1, setE, List.length_set]
  refine StepOk.cnd (fun hc => ?_) (fun hc => ?_)
  · rw [decide_eq_true_eq] at hc
    refine ⟨rfl, ?_, ?_⟩
    · unfold Sp.in11_3
      simp only
      rw [Sp.wrap_i64_of (x := x.1 + 1) (by omega) (by omega)]
      exact ⟨by omega, h.2.1, by rw [hlen]; exact h.2.2⟩
    · unfold Sp.mu11_3
      simp only
      rw [hlen, Sp.wrap_i64_of (x := x.1 + 1) (by omega) (by omega)]
      omega
  · exact rfl
theorem lo11_3 : LoopOk Tryd.prog gdS (RetAt Tryd.prog Tryd.f11 (Rsh.one (some 8)) (some 76) ty32) (bodyAt (bodyOf Tryd.f11) [0]) LS11_3 :=
  loop_run (ctxOkF gokGmT2 []) (L := lookL []) (loops_of (l := []) (by kernel_rfl) (loops_nil)) sa11_3 va11_3 so11_3
end Go.Proofs.YtpbljgpdhllklaaDoor.Sy
namespace Go.Proofs.YtpbljgpdhllklaaDoor.Sp
open Go Go.RowKit Sy
def F11 (x : Int × Int) : Int × Int × Int × Int × Nat × Nat × Nat × List (Int × Int × Int × Int × Int × Int × Int × Int × Int) :=
  ((Sp.G11_3 x.2 ((0 : Int), (Sp.F31 ((IntKind.i64.wrap ((2 : Int) + (IntKind.i64.wrap (Int.tmod x.1 (5 : Int))))), (IntKind.i64.wrap ((1 : Int) + (IntKind.i64.wrap (Int.tmod (IntKind.u8.wrap (Int.tdiv x.1 (5 : Int))) (3 : Int))))))))).2.1, (Sp.G11_3 x.2 ((0 : Int), (Sp.F31 ((IntKind.i64.wrap ((2 : Int) + (IntKind.i64.wrap (Int.tmod x.1 (5 : Int))))), (IntKind.i64.wrap ((1 : Int) + (IntKind.i64.wrap (Int.tmod (IntKind.u8.wrap (Int.tdiv x.1 (5 : Int))) (3 : Int))))))))).2.2.1, (Sp.G11_3 x.2 ((0 : Int), (Sp.F31 ((IntKind.i64.wrap ((2 : Int) + (IntKind.i64.wrap (Int.tmod x.1 (5 : Int))))), (IntKind.i64.wrap ((1 : Int) + (IntKind.i64.wrap (Int.tmod (IntKind.u8.wrap (Int.tdiv x.1 (5 : Int))) (3 : Int))))))))).2.2.2.1, (IntKind.i64.wrap ((1 : Int) + (IntKind.i64.wrap (Int.tmod x.2 (7 : Int))))), (Sp.G11_3 x.2 ((0 : Int), (Sp.F31 ((IntKind.i64.wrap ((2 : Int) + (IntKind.i64.wrap (Int.tmod x.1 (5 : Int))))), (IntKind.i64.wrap ((1 : Int) + (IntKind.i64.wrap (Int.tmod (IntKind.u8.wrap (Int.tdiv x.1 (5 : Int))) (3 : Int))))))))).2.2.2.2.2)
def pre11 (x : Int × Int) : Prop := (0 ≤ x.1 ∧ x.1 ≤ 255) ∧ 0 ≤ x.2 ∧ x.2 ≤ 255
end Go.Proofs.YtpbljgpdhllklaaDoor.Sp
namespace Go.Proofs.YtpbljgpdhllklaaDoor.Sy
def ct11 : Ct := { p := (Ty.pair ty5 ty5), psh := [none, none], r := ty32, rsh := (Rsh.one (some 8)), pre := some Sp.pre11, fresh := (some 76), F := Sp.F11 }
theorem va11 (x : (Ty.pair ty5 ty5).den) : ((evFn (ctxG GmT2) Tryd.f11 (Ty.pair ty5 ty5) [none, none] (Rsh.one (some 8)) (some 76) ty32 (lookL [(3, LS11_3)]) x)).val (fun y => y) (Ty.dflt ty32) = Sp.F11 x := by kernel_rfl
theorem se11 (x : (Ty.pair ty5 ty5).den) : ((evFn (ctxG GmT2) Tryd.f11 (Ty.pair ty5 ty5) [none, none] (Rsh.one (some 8)) (some 76) ty32 (lookL [(3, LS11_3)]) x)).safe = ((((5 : Int) ≠ 0) ∧ (((5 : Int) ≠ 0) ∧ (((3 : Int) ≠ 0) ∧ ((Sp.pre31 ((IntKind.i64.wrap ((2 : Int) + (IntKind.i64.wrap (Int.tmod x.1 (5 : Int))))), (IntKind.i64.wrap ((1 : Int) + (IntKind.i64.wrap (Int.tmod (IntKind.u8.wrap (Int.tdiv x.1 (5 : Int))) (3 : Int))))))) ∧ ((Sp.in11_3 x.2 ((0 : Int), (Sp.F31 ((IntKind.i64.wrap ((2 : Int) + (IntKind.i64.wrap (Int.tmod x.1 (5 : Int))))), (IntKind.i64.wrap ((1 : Int) + (IntKind.i64.wrap (Int.tmod (IntKind.u8.wrap (Int.tdiv x.1 (5 : Int))) (3 : Int))))))))) ∧ (((7 : Int) ≠ 0) ∧ True))))))) := by kernel_rfl
theorem sa11 (x : (Ty.pair ty5 ty5).den) (fx : Fit (Ty.pair ty5 ty5) x) (h : Sp.pre11 x) : SafeW ((evFn (ctxG GmT2) Tryd.f11 (Ty.pair ty5 ty5) [none, none] (Rsh.one (some 8)) (some 76) ty32 (lookL [(3, LS11_3)]) x)) := by
  refine ⟨?_⟩
  rw [se11]
  try dsimp only [Ty.den] at *
  unfold Sp.pre11 at h
  have h1 : IntKind.i64.wrap ((2 : Int) + (IntKind.i64.wrap (Int.tmod x.1 (5 : Int)))) = 2 + x.1 % 5 := by simp only [Sp.tmod_ite, IntKind.wrap_i64]; omega
  have h2 : IntKind.i64.wrap ((1 : Int) + (IntKind.i64.wrap (Int.tmod (IntKind.u8.wrap (Int.tdiv x.1 (5 : Int))) (3 : Int)))) = ((1 + x.1 / 5 % 3).toNat : Int) := by simp only [Sp.tmod_ite, Sp.tdiv_ite, IntKind.wrap_i64, IntKind.wrap_u8]; omega
  rw [h1, h2, Sp.sample_eq _ _ (by omega) (by omega)]
  refine ⟨by omega, by omega, by omega, ?_, ?_, by omega, trivial⟩
  · unfold Sp.pre31; simp only; omega
  · unfold Sp.in11_3
    refine ⟨by simp, ?_, ?_⟩
    · show (2 + x.1 % 5 : Int) ≠ 0; omega
    · show (Sp.sampleB (2 + x.1 % 5) (1 + x.1 / 5 % 3).toNat).cars.length ≤ 100
      rw [Sp.sample_len]; omega
theorem ok11 : CtOk Tryd.prog gdS 11 ct11 :=
  fn_okU (ctxOkF gokGmT2 []) rfl Tryd.func11 (p := (Ty.pair ty5 ty5)) (psh := [none, none]) (r := ty32) (rsh := (Rsh.one (some 8))) (pre := some Sp.pre11) (fresh := (some 76)) (F := Sp.F11) (L := (lookL [(3, LS11_3)])) (c := bodyOf Tryd.f11) (dflt := Ty.dflt ty32) rfl (loops_of (l := [bodyAt (bodyOf Tryd.f11) [0]]) (by kernel_rfl) (loops_cons (s0 := LS11_3) (by kernel_rfl) lo11_3 (loops_nil)))
    (safe_pre @sa11) va11
/-! overlayplay.New -/
end Go.Proofs.YtpbljgpdhllklaaDoor.Sy
namespace Go.Proofs.YtpbljgpdhllklaaDoor.Sp
open Go Go.RowKit Sy
def F53 (x : Int) : Int × Int × Int × Int × Int × Int :=
  (x, x, (0 : Int), (2 : Int), (0 : Int), (0 : Int))
end Go.Proofs.YtpbljgpdhllklaaDoor.Sp
namespace Go.Proofs.YtpbljgpdhllklaaDoor.Sy
def ct53 : Ct := { p := ty3, psh := [none], r := ty96, rsh := (Rsh.one (some 6)), pre := none, fresh := none, F := Sp.F53 }
theorem va53 (x : ty3.den) : ((evFn (ctxG GmT2) Tryd.f53 ty3 [none] (Rsh.one (some 6)) none ty96 noL x)).val (fun y => y) (Ty.dflt ty96) = Sp.F53 x := by kernel_rfl
theorem se53 (x : ty3.den) : ((evFn (ctxG GmT2) Tryd.f53 ty3 [none] (Rsh.one (some 6)) none ty96 noL x)).safe = (True) := by kernel_rfl
theorem sa53 (x : ty3.den) (fx : Fit ty3 x) : SafeW ((evFn (ctxG GmT2) Tryd.f53 ty3 [none] (Rsh.one (some 6)) none ty96 noL x)) := by
  refine ⟨?_⟩
  rw [se53]
  trivial
theorem ok53 : CtOk Tryd.prog gdS 53 ct53 :=
  fn_okU (ctxOkF gokGmT2 []) rfl Tryd.func53 (p := ty3) (psh := [none]) (r := ty96) (rsh := (Rsh.one (some 6))) (pre := none) (fresh := none) (F := Sp.F53) (L := noL) (c := bodyOf Tryd.f53) (dflt := Ty.dflt ty96) rfl (no_loops)
    (safe_no @sa53) va53
/-! overlayplay.Report -/
end Go.Proofs.YtpbljgpdhllklaaDoor.Sy
namespace Go.Proofs.YtpbljgpdhllklaaDoor.Sp
open Go Go.RowKit Sy
def F54 (x : (Int × Int × Int × Int × Int × Int) × Bool) : Int × Bool × Int × Bool :=
  (x.1.1, (x.1.2.2.1 == (0 : Int)), x.1.2.2.2.1, x.2)
end Go.Proofs.YtpbljgpdhllklaaDoor.Sp
namespace Go.Proofs.YtpbljgpdhllklaaDoor.Sy
def ct54 : Ct := { p := (Ty.pair ty96 ty4), psh := [some 6, none], r := ty68, rsh := (Rsh.one (some 4)), pre := none, fresh := none, F := Sp.F54 }
theorem va54 (x : (Ty.pair ty96 ty4).den) : ((evFn (ctxG GmT2) Tryd.f54 (Ty.pair ty96 ty4) [some 6, none] (Rsh.one (some 4)) none ty68 noL x)).val (fun y => y) (Ty.dflt ty68) = Sp.F54 x := by kernel_rfl
theorem se54 (x : (Ty.pair ty96 ty4).den) : ((evFn (ctxG GmT2) Tryd.f54 (Ty.pair ty96 ty4) [some 6, none] (Rsh.one (some 4)) none ty68 noL x)).safe = (True) := by kernel_rfl
theorem sa54 (x : (Ty.pair ty96 ty4).den) (fx : Fit (Ty.pair ty96 ty4) x) : SafeW ((evFn (ctxG GmT2) Tryd.f54 (Ty.pair ty96 ty4) [some 6, none] (Rsh.one (some 4)) none ty68 noL x)) := by
  refine ⟨?_⟩
  rw [se54]
  trivial
theorem ok54 : CtOk Tryd.prog gdS 54 ct54 :=
  fn_okU (ctxOkF gokGmT2 []) rfl Tryd.func54 (p := (Ty.pair ty96 ty4)) (psh := [some 6, none]) (r := ty68) (rsh := (Rsh.one (some 4))) (pre := none) (fresh := none) (F := Sp.F54) (L := noL) (c := bodyOf Tryd.f54) (dflt := Ty.dflt ty68) rfl (no_loops)
    (safe_no @sa54) va54
/-! door.isCount -/
end Go.Proofs.YtpbljgpdhllklaaDoor.Sy
namespace Go.Proofs.YtpbljgpdhllklaaDoor.Sp
open Go Go.RowKit Sy
def F102 (x : Int) : Bool :=
  ((decide (x ≥ (0 : Int))) && (decide (x ≤ (1000000 : Int))))
end Go.Proofs.YtpbljgpdhllklaaDoor.Sp
namespace Go.Proofs.YtpbljgpdhllklaaDoor.Sy
def ct102 : Ct := { p := ty3, psh := [none], r := ty4, rsh := (Rsh.one (none)), pre := none, fresh := none, F := Sp.F102 }
theorem va102 (x : ty3.den) : ((evFn (ctxG GmT2) Tryd.f102 ty3 [none] (Rsh.one (none)) none ty4 noL x)).val (fun y => y) (Ty.dflt ty4) = Sp.F102 x := by kernel_rfl
theorem se102 (x : ty3.den) : ((evFn (ctxG GmT2) Tryd.f102 ty3 [none] (Rsh.one (none)) none ty4 noL x)).safe = (True) := by kernel_rfl
theorem sa102 (x : ty3.den) (fx : Fit ty3 x) : SafeW ((evFn (ctxG GmT2) Tryd.f102 ty3 [none] (Rsh.one (none)) none ty4 noL x)) := by
  refine ⟨?_⟩
  rw [se102]
  trivial
theorem ok102 : CtOk Tryd.prog gdS 102 ct102 :=
  fn_okU (ctxOkF gokGmT2 []) rfl Tryd.func102 (p := ty3) (psh := [none]) (r := ty4) (rsh := (Rsh.one (none))) (pre := none) (fresh := none) (F := Sp.F102) (L := noL) (c := bodyOf Tryd.f102) (dflt := Ty.dflt ty4) rfl (no_loops)
    (safe_no @sa102) va102
/-! motion.beside -/
end Go.Proofs.YtpbljgpdhllklaaDoor.Sy
namespace Go.Proofs.YtpbljgpdhllklaaDoor.Sp
open Go Go.RowKit Sy
def F103 (x : Int × Int × Int) : Int × Bool :=
  bif ((x.2.2 != (1 : Int)) && (x.2.2 != (2 : Int))) then
    ((0 : Int), false)
  else
    ((IntKind.i64.wrap (x.2.1 + (Sp.nthT [(0 : Int), (1 : Int), (-1 : Int)] x.2.2))), ((decide ((IntKind.i64.wrap (x.2.1 + (Sp.nthT [(0 : Int), (1 : Int), (-1 : Int)] x.2.2))) ≥ (0 : Int))) && (decide ((IntKind.i64.wrap (x.2.1 + (Sp.nthT [(0 : Int), (1 : Int), (-1 : Int)] x.2.2))) < x.1))))
end Go.Proofs.YtpbljgpdhllklaaDoor.Sp
namespace Go.Proofs.YtpbljgpdhllklaaDoor.Sy
def ct103 : Ct := { p := (Ty.pair ty3 (Ty.pair ty3 ty3)), psh := [none, none, none], r := (Ty.pair ty3 ty4), rsh := (Rsh.tup [none, none]), pre := none, fresh := none, F := Sp.F103 }
theorem va103 (x : (Ty.pair ty3 (Ty.pair ty3 ty3)).den) : ((evFn (ctxG GmT2) Tryd.f103 (Ty.pair ty3 (Ty.pair ty3 ty3)) [none, none, none] (Rsh.tup [none, none]) none (Ty.pair ty3 ty4) noL x)).val (fun y => y) (Ty.dflt (Ty.pair ty3 ty4)) = Sp.F103 x := by kernel_rfl
theorem se103 (x : (Ty.pair ty3 (Ty.pair ty3 ty3)).den) : ((evFn (ctxG GmT2) Tryd.f103 (Ty.pair ty3 (Ty.pair ty3 ty3)) [none, none, none] (Rsh.tup [none, none]) none (Ty.pair ty3 ty4) noL x)).safe = (((((x.2.2 != (1 : Int)) && (x.2.2 != (2 : Int))) = true → True) ∧ (((x.2.2 != (1 : Int)) && (x.2.2 != (2 : Int))) = false → ((0 ≤ x.2.2 ∧ x.2.2 < (3 : Int)) ∧ True)))) := by kernel_rfl
theorem sa103 (x : (Ty.pair ty3 (Ty.pair ty3 ty3)).den) (fx : Fit (Ty.pair ty3 (Ty.pair ty3 ty3)) x) : SafeW ((evFn (ctxG GmT2) Tryd.f103 (Ty.pair ty3 (Ty.pair ty3 ty3)) [none, none, none] (Rsh.tup [none, none]) none (Ty.pair ty3 ty4) noL x)) := by
  refine ⟨?_⟩
  rw [se103]
  try dsimp only [Ty.den] at *
  simp only [Fit, maxLen] at fx
  simp only [true_and, IntKind.wrap_i64, IntKind.wrap_u8, IntKind.wrap_u32, IntKind.wrap_u64, Sp.tmod_lit, Sp.tdiv_lit, bne_eq_false_iff_eq, Int.natCast_inj, setE, copyL, sliceL, zrow, List.length_append, List.length_cons, List.length_nil, List.length_set, List.length_replicate, List.length_take, List.length_drop, decide_eq_true_eq, decide_eq_false_iff_not, Bool.or_eq_true, Bool.and_eq_true, Bool.or_eq_false_iff, Bool.and_eq_false_iff, Bool.not_eq_true', Bool.not_eq_false', Bool.not_eq_true, Bool.not_eq_false, beq_iff_eq, beq_eq_false_iff_ne, bne_iff_ne, ne_eq, implies_true, and_true, true_and] at *
  all_goals ((repeat' (first | exact trivial | apply And.intro | intro _)) <;> first | trivial | omega | exact Sp.tmod_nn (by omega) | exact Sp.tmod_lt (by omega) (by omega))
theorem ok103 : CtOk Tryd.prog gdS 103 ct103 :=
  fn_okU (ctxOkF gokGmT2 []) rfl Tryd.func103 (p := (Ty.pair ty3 (Ty.pair ty3 ty3))) (psh := [none, none, none]) (r := (Ty.pair ty3 ty4)) (rsh := (Rsh.tup [none, none])) (pre := none) (fresh := none) (F := Sp.F103) (L := noL) (c := bodyOf Tryd.f103) (dflt := Ty.dflt (Ty.pair ty3 ty4)) rfl (no_loops)
    (safe_no @sa103) va103
/-! newcar.isFeedback -/
end Go.Proofs.YtpbljgpdhllklaaDoor.Sy
namespace Go.Proofs.YtpbljgpdhllklaaDoor.Sp
open Go Go.RowKit Sy
def F59 (x : (Int × Int × Int × Int × Nat × Nat × Nat × List (Int × Int × Int × Int × Int × Int × Int × Int × Int)) × Int × Bool × Int × Bool) : Bool :=
  ((((decide (x.2.1 ≥ (0 : Int))) && (decide (x.2.1 < x.1.1))) && (decide (x.2.2.2.1 ≥ (0 : Int)))) && (decide (x.2.2.2.1 ≤ (2 : Int))))
end Go.Proofs.YtpbljgpdhllklaaDoor.Sp
namespace Go.Proofs.YtpbljgpdhllklaaDoor.Sy
def ct59 : Ct := { p := (Ty.pair ty32 ty68), psh := [some 8, some 4], r := ty4, rsh := (Rsh.one (none)), pre := none, fresh := none, F := Sp.F59 }
theorem va59 (x : (Ty.pair ty32 ty68).den) : ((evFn (ctxG GmT2) Tryd.f59 (Ty.pair ty32 ty68) [some 8, some 4] (Rsh.one (none)) none ty4 noL x)).val (fun y => y) (Ty.dflt ty4) = Sp.F59 x := by kernel_rfl
theorem se59 (x : (Ty.pair ty32 ty68).den) : ((evFn (ctxG GmT2) Tryd.f59 (Ty.pair ty32 ty68) [some 8, some 4] (Rsh.one (none)) none ty4 noL x)).safe = (True) := by kernel_rfl
theorem sa59 (x : (Ty.pair ty32 ty68).den) (fx : Fit (Ty.pair ty32 ty68) x) : SafeW ((evFn (ctxG GmT2) Tryd.f59 (Ty.pair ty32 ty68) [some 8, some 4] (Rsh.one (none)) none ty4 noL x)) := by
  refine ⟨?_⟩
  rw [se59]
  trivial
theorem ok59 : CtOk Tryd.prog gdS 59 ct59 :=
  fn_okU (ctxOkF gokGmT2 []) rfl Tryd.func59 (p := (Ty.pair ty32 ty68)) (psh := [some 8, some 4]) (r := ty4) (rsh := (Rsh.one (none))) (pre := none) (fresh := none) (F := Sp.F59) (L := noL) (c := bodyOf Tryd.f59) (dflt := Ty.dflt ty4) rfl (no_loops)
    (safe_no @sa59) va59
/-! <*newcar.control>.press -/
end Go.Proofs.YtpbljgpdhllklaaDoor.Sy
namespace Go.Proofs.YtpbljgpdhllklaaDoor.Sp
open Go Go.RowKit Sy
def F84 (x : Int × (Int × Int × Int × Int × Nat × Nat × Nat × List (Int × Int × Int × Int × Int × Int × Int × Int × Int)) × Int × ((Int × Int) × (Int × Int × Int × Bool × Int) × (Int × Int × Int) × Int × Int × Int × Bool) × (Int × Bool × Int × Bool) × Int) : (Unit) × ((Int × Int × Int × Int × Nat × Nat × Nat × List (Int × Int × Int × Int × Int × Int × Int × Int × Int)) × Int × ((Int × Int) × (Int × Int × Int × Bool × Int) × (Int × Int × Int) × Int × Int × Int × Bool) × (Int × Bool × Int × Bool) × Int) :=
  bif (x.2.2.2.1.2.1.1 != (0 : Int)) then
    ((), (x.2.1, x.2.2.1, (x.2.2.2.1.1, x.2.2.2.1.2.1, x.2.2.2.1.2.2.1, (IntKind.u32.wrap ((BitVec.ofInt IntKind.u32.bits x.2.2.2.1.2.2.2.1 ||| BitVec.ofInt IntKind.u32.bits (IntKind.u32.wrap ((BitVec.ofInt IntKind.u32.bits (IntKind.u32.wrap ((BitVec.ofInt IntKind.u32.bits x.1 &&& BitVec.ofInt IntKind.u32.bits (IntKind.u32.wrap ((IntKind.u32.wrap ((1 : Int) * 2 ^ (min (x.2.1.1).toNat IntKind.u32.bits))) - (1 : Int)))).toNat : Int)) &&& ~~~ BitVec.ofInt IntKind.u32.bits (IntKind.u32.wrap ((1 : Int) * 2 ^ (min (x.2.2.2.2.1.1).toNat IntKind.u32.bits)))).toNat : Int))).toNat : Int)), x.2.2.2.1.2.2.2.2), x.2.2.2.2))
  else
    ((), (x.2.1, x.2.2.1, (x.2.2.2.1.1, x.2.2.2.1.2.1, x.2.2.2.1.2.2.1, (IntKind.u32.wrap ((BitVec.ofInt IntKind.u32.bits x.2.2.2.1.2.2.2.1 ||| BitVec.ofInt IntKind.u32.bits (IntKind.u32.wrap ((BitVec.ofInt IntKind.u32.bits x.1 &&& BitVec.ofInt IntKind.u32.bits (IntKind.u32.wrap ((IntKind.u32.wrap ((1 : Int) * 2 ^ (min (x.2.1.1).toNat IntKind.u32.bits))) - (1 : Int)))).toNat : Int))).toNat : Int)), x.2.2.2.1.2.2.2.2), x.2.2.2.2))
def pre84 (x : Int × (Int × Int × Int × Int × Nat × Nat × Nat × List (Int × Int × Int × Int × Int × Int × Int × Int × Int)) × Int × ((Int × Int) × (Int × Int × Int × Bool × Int) × (Int × Int × Int) × Int × Int × Int × Bool) × (Int × Bool × Int × Bool) × Int) : Prop := Sp.CtlOk x.2
end Go.Proofs.YtpbljgpdhllklaaDoor.Sp
namespace Go.Proofs.YtpbljgpdhllklaaDoor.Sy
def cp84 : Cp := { p := (Ty.pair ty24 ty106), psh := [none], mask := [true, false], sz := [28], ro := false, ex := false, q := ty106, r := Ty.unit, rsh := Rsh.none, pre := some Sp.pre84, F := Sp.F84 }
theorem va84 (x : (Ty.pair ty24 ty106).den) : ((evFnP (ctxG GmT2) Tryd.f84 (Ty.pair ty24 ty106) [none] [true, false] [28] false false ty106 Rsh.none Ty.unit noL x)).val (fun _ => (Ty.dflt Ty.unit, Ty.dflt ty106)) (Ty.dflt Ty.unit, Ty.dflt ty106) = Sp.F84 x := by kernel_rfl
theorem se84 (x : (Ty.pair ty24 ty106).den) : ((evFnP (ctxG GmT2) Tryd.f84 (Ty.pair ty24 ty106) [none] [true, false] [28] false false ty106 Rsh.none Ty.unit noL x)).safe = (((0 ≤ x.2.1.1) ∧ (((x.2.2.2.1.2.1.1 != (0 : Int)) = true → ((0 ≤ x.2.2.2.2.1.1) ∧ True)) ∧ ((x.2.2.2.1.2.1.1 != (0 : Int)) = false → True)))) := by kernel_rfl
theorem sa84 (x : (Ty.pair ty24 ty106).den) (fx : Fit (Ty.pair ty24 ty106) x) (h : Sp.pre84 x) : SafeW ((evFnP (ctxG GmT2) Tryd.f84 (Ty.pair ty24 ty106) [none] [true, false] [28] false false ty106 Rsh.none Ty.unit noL x)) := by
  refine ⟨?_⟩
  rw [se84]
  try dsimp only [Ty.den] at *
  unfold Sp.pre84 Sp.CtlOk at h
  exact ⟨h.1, fun _ => ⟨h.2.2.2, trivial⟩, fun _ => trivial⟩
theorem ok84 : CpOk Tryd.prog gdS 84 cp84 :=
  fn_okPU (ctxOkF gokGmT2 []) rfl Tryd.func84 cp84 (L := noL) (c := bodyOf Tryd.f84) (dflt := (Ty.dflt Ty.unit, Ty.dflt ty106)) rfl (no_loops)
    (safe_preP rfl @sa84) va84
/-! <*newcar.control>.config -/
end Go.Proofs.YtpbljgpdhllklaaDoor.Sy
namespace Go.Proofs.YtpbljgpdhllklaaDoor.Sp
open Go Go.RowKit Sy
def F62 (x : (Int × Int × Int × Int × Nat × Nat × Nat × List (Int × Int × Int × Int × Int × Int × Int × Int × Int)) × Int × ((Int × Int) × (Int × Int × Int × Bool × Int) × (Int × Int × Int) × Int × Int × Int × Bool) × (Int × Bool × Int × Bool) × Int) : (Int × Int × Int × Int × Int × Int × Int × Int × Int) × ((Int × Int × Int × Int × Nat × Nat × Nat × List (Int × Int × Int × Int × Int × Int × Int × Int × Int)) × Int × ((Int × Int) × (Int × Int × Int × Bool × Int) × (Int × Int × Int) × Int × Int × Int × Bool) × (Int × Bool × Int × Bool) × Int) :=
  ((Sp.nthT x.1.2.2.2.2.2.2.2 x.2.1), x)
def pre62 (x : (Int × Int × Int × Int × Nat × Nat × Nat × List (Int × Int × Int × Int × Int × Int × Int × Int × Int)) × Int × ((Int × Int) × (Int × Int × Int × Bool × Int) × (Int × Int × Int) × Int × Int × Int × Bool) × (Int × Bool × Int × Bool) × Int) : Prop := Sp.CtlOk x
end Go.Proofs.YtpbljgpdhllklaaDoor.Sp
namespace Go.Proofs.YtpbljgpdhllklaaDoor.Sy
def cp62 : Cp := { p := ty106, psh := [], mask := [true], sz := [28], ro := true, ex := false, q := ty106, r := ty76, rsh := (Rsh.one (some 9)), pre := some Sp.pre62, F := Sp.F62 }
theorem va62 (x : ty106.den) : ((evFnP (ctxG GmT2) Tryd.f62 ty106 [] [true] [28] true false ty106 (Rsh.one (some 9)) ty76 noL x)).val (fun _ => (Ty.dflt ty76, Ty.dflt ty106)) (Ty.dflt ty76, Ty.dflt ty106) = Sp.F62 x := by kernel_rfl
theorem se62 (x : ty106.den) : ((evFnP (ctxG GmT2) Tryd.f62 ty106 [] [true] [28] true false ty106 (Rsh.one (some 9)) ty76 noL x)).safe = (((0 ≤ x.2.1 ∧ x.2.1 < ((x.1.2.2.2.2.2.2.2).length : Int)) ∧ True)) := by kernel_rfl
theorem sa62 (x : ty106.den) (fx : Fit ty106 x) (h : Sp.pre62 x) : SafeW ((evFnP (ctxG GmT2) Tryd.f62 ty106 [] [true] [28] true false ty106 (Rsh.one (some 9)) ty76 noL x)) := by
  refine ⟨?_⟩
  rw [se62]
  try dsimp only [Ty.den] at *
  unfold Sp.pre62 Sp.CtlOk at h
  exact ⟨⟨h.2.1, h.2.2.1⟩, trivial⟩
theorem ok62 : CpOk Tryd.prog gdS 62 cp62 :=
  fn_okPU (ctxOkF gokGmT2 []) rfl Tryd.func62 cp62 (L := noL) (c := bodyOf Tryd.f62) (dflt := (Ty.dflt ty76, Ty.dflt ty106)) rfl (no_loops)
    (safe_preP rfl @sa62) va62
/-! door.more -/
end Go.Proofs.YtpbljgpdhllklaaDoor.Sy
namespace Go.Proofs.YtpbljgpdhllklaaDoor.Sp
open Go Go.RowKit Sy
def F91 (x : Int) : Int :=
  (min (IntKind.i64.wrap (x + (1 : Int))) (1000000 : Int))
end Go.Proofs.YtpbljgpdhllklaaDoor.Sp
namespace Go.Proofs.YtpbljgpdhllklaaDoor.Sy
def ct91 : Ct := { p := ty3, psh := [none], r := ty3, rsh := (Rsh.one (none)), pre := none, fresh := none, F := Sp.F91 }
theorem va91 (x : ty3.den) : ((evFn (ctxG GmT2) Tryd.f91 ty3 [none] (Rsh.one (none)) none ty3 noL x)).val (fun y => y) (Ty.dflt ty3) = Sp.F91 x := by kernel_rfl
theorem se91 (x : ty3.den) : ((evFn (ctxG GmT2) Tryd.f91 ty3 [none] (Rsh.one (none)) none ty3 noL x)).safe = (True) := by kernel_rfl
theorem sa91 (x : ty3.den) (fx : Fit ty3 x) : SafeW ((evFn (ctxG GmT2) Tryd.f91 ty3 [none] (Rsh.one (none)) none ty3 noL x)) := by
  refine ⟨?_⟩
  rw [se91]
  trivial
theorem ok91 : CtOk Tryd.prog gdS 91 ct91 :=
  fn_okU (ctxOkF gokGmT2 []) rfl Tryd.func91 (p := ty3) (psh := [none]) (r := ty3) (rsh := (Rsh.one (none))) (pre := none) (fresh := none) (F := Sp.F91) (L := noL) (c := bodyOf Tryd.f91) (dflt := Ty.dflt ty3) rfl (no_loops)
    (safe_no @sa91) va91
/-! door.enter -/
end Go.Proofs.YtpbljgpdhllklaaDoor.Sy
namespace Go.Proofs.YtpbljgpdhllklaaDoor.Sp
open Go Go.RowKit Sy
def F115 (x : (Int × Int × Int × Bool × Int) × Int) : Int × Int × Int × Bool × Int :=
  (x.2, (0 : Int), x.1.2.2)
end Go.Proofs.YtpbljgpdhllklaaDoor.Sp
namespace Go.Proofs.YtpbljgpdhllklaaDoor.Sy
def ct115 : Ct := { p := (Ty.pair ty62 ty3), psh := [some 5, none], r := ty62, rsh := (Rsh.one (some 5)), pre := none, fresh := none, F := Sp.F115 }
theorem va115 (x : (Ty.pair ty62 ty3).den) : ((evFn (ctxG GmT2) Tryd.f115 (Ty.pair ty62 ty3) [some 5, none] (Rsh.one (some 5)) none ty62 noL x)).val (fun y => y) (Ty.dflt ty62) = Sp.F115 x := by kernel_rfl
theorem se115 (x : (Ty.pair ty62 ty3).den) : ((evFn (ctxG GmT2) Tryd.f115 (Ty.pair ty62 ty3) [some 5, none] (Rsh.one (some 5)) none ty62 noL x)).safe = (True) := by kernel_rfl
theorem sa115 (x : (Ty.pair ty62 ty3).den) (fx : Fit (Ty.pair ty62 ty3) x) : SafeW ((evFn (ctxG GmT2) Tryd.f115 (Ty.pair ty62 ty3) [some 5, none] (Rsh.one (some 5)) none ty62 noL x)) := by
  refine ⟨?_⟩
  rw [se115]
  trivial
theorem ok115 : CtOk Tryd.prog gdS 115 ct115 :=
  fn_okU (ctxOkF gokGmT2 []) rfl Tryd.func115 (p := (Ty.pair ty62 ty3)) (psh := [some 5, none]) (r := ty62) (rsh := (Rsh.one (some 5))) (pre := none) (fresh := none) (F := Sp.F115) (L := noL) (c := bodyOf Tryd.f115) (dflt := Ty.dflt ty62) rfl (no_loops)
    (safe_no @sa115) va115
/-! park.Move -/
end Go.Proofs.YtpbljgpdhllklaaDoor.Sy
namespace Go.Proofs.YtpbljgpdhllklaaDoor.Sp
open Go Go.RowKit Sy
def F106 (x : (Int × Int × Int × Int × Nat × Nat × Nat × List (Int × Int × Int × Int × Int × Int × Int × Int × Int)) × Int × Int × Int) : Int :=
  bif (((((((Sp.F44 x.1) != (0 : Int)) || (decide (x.2.1 < (0 : Int)))) || (decide (x.2.1 ≥ ((x.1.2.2.2.2.2.2.2).length : Int)))) || (decide (x.2.2.2 < (0 : Int)))) || (decide (x.2.2.2 ≥ x.1.1))) || (decide (x.2.2.1 < x.1.2.2.2.1))) then
    (0 : Int)
  else
    bif (decide ((Sp.nthT x.1.2.2.2.2.2.2.2 x.2.1).2.2.2.2.2.2.2.2 > x.2.2.2)) then
      (1 : Int)
    else
      bif (decide ((Sp.nthT x.1.2.2.2.2.2.2.2 x.2.1).2.2.2.2.2.2.2.2 < x.2.2.2)) then
        (2 : Int)
      else
        (0 : Int)
end Go.Proofs.YtpbljgpdhllklaaDoor.Sp
namespace Go.Proofs.YtpbljgpdhllklaaDoor.Sy
def ct106 : Ct := { p := (Ty.pair ty32 (Ty.pair ty3 (Ty.pair ty3 ty3))), psh := [some 8, none, none, none], r := ty3, rsh := (Rsh.one (none)), pre := none, fresh := none, F := Sp.F106 }
theorem va106 (x : (Ty.pair ty32 (Ty.pair ty3 (Ty.pair ty3 ty3))).den) : ((evFn (ctxG GmT2) Tryd.f106 (Ty.pair ty32 (Ty.pair ty3 (Ty.pair ty3 ty3))) [some 8, none, none, none] (Rsh.one (none)) none ty3 noL x)).val (fun y => y) (Ty.dflt ty3) = Sp.F106 x := by kernel_rfl
theorem se106 (x : (Ty.pair ty32 (Ty.pair ty3 (Ty.pair ty3 ty3))).den) : ((evFn (ctxG GmT2) Tryd.f106 (Ty.pair ty32 (Ty.pair ty3 (Ty.pair ty3 ty3))) [some 8, none, none, none] (Rsh.one (none)) none ty3 noL x)).safe = ((((((((((Sp.F44 x.1) != (0 : Int)) || (decide (x.2.1 < (0 : Int)))) || (decide (x.2.1 ≥ ((x.1.2.2.2.2.2.2.2).length : Int)))) || (decide (x.2.2.2 < (0 : Int)))) || (decide (x.2.2.2 ≥ x.1.1))) || (decide (x.2.2.1 < x.1.2.2.2.1))) = true → True) ∧ ((((((((Sp.F44 x.1) != (0 : Int)) || (decide (x.2.1 < (0 : Int)))) || (decide (x.2.1 ≥ ((x.1.2.2.2.2.2.2.2).length : Int)))) || (decide (x.2.2.2 < (0 : Int)))) || (decide (x.2.2.2 ≥ x.1.1))) || (decide (x.2.2.1 < x.1.2.2.2.1))) = false → ((0 ≤ x.2.1 ∧ x.2.1 < ((x.1.2.2.2.2.2.2.2).length : Int)) ∧ (((decide ((Sp.nthT x.1.2.2.2.2.2.2.2 x.2.1).2.2.2.2.2.2.2.2 > x.2.2.2)) = true → True) ∧ ((decide ((Sp.nthT x.1.2.2.2.2.2.2.2 x.2.1).2.2.2.2.2.2.2.2 > x.2.2.2)) = false → (((decide ((Sp.nthT x.1.2.2.2.2.2.2.2 x.2.1).2.2.2.2.2.2.2.2 < x.2.2.2)) = true → True) ∧ ((decide ((Sp.nthT x.1.2.2.2.2.2.2.2 x.2.1).2.2.2.2.2.2.2.2 < x.2.2.2)) = false → True)))))))) := by kernel_rfl
theorem sa106 (x : (Ty.pair ty32 (Ty.pair ty3 (Ty.pair ty3 ty3))).den) (fx : Fit (Ty.pair ty32 (Ty.pair ty3 (Ty.pair ty3 ty3))) x) : SafeW ((evFn (ctxG GmT2) Tryd.f106 (Ty.pair ty32 (Ty.pair ty3 (Ty.pair ty3 ty3))) [some 8, none, none, none] (Rsh.one (none)) none ty3 noL x)) := by
  refine ⟨?_⟩
  rw [se106]
  try dsimp only [Ty.den] at *
  simp only [Fit, maxLen] at fx
  simp only [true_and, IntKind.wrap_i64, IntKind.wrap_u8, IntKind.wrap_u32, IntKind.wrap_u64, Sp.tmod_lit, Sp.tdiv_lit, bne_eq_false_iff_eq, Int.natCast_inj, setE, copyL, sliceL, zrow, List.length_append, List.length_cons, List.length_nil, List.length_set, List.length_replicate, List.length_take, List.length_drop, decide_eq_true_eq, decide_eq_false_iff_not, Bool.or_eq_true, Bool.and_eq_true, Bool.or_eq_false_iff, Bool.and_eq_false_iff, Bool.not_eq_true', Bool.not_eq_false', Bool.not_eq_true, Bool.not_eq_false, beq_iff_eq, beq_eq_false_iff_ne, bne_iff_ne, ne_eq, implies_true, and_true, true_and] at *
  all_goals ((repeat' (first | exact trivial | apply And.intro | intro _)) <;> first | trivial | omega | exact Sp.tmod_nn (by omega) | exact Sp.tmod_lt (by omega) (by omega))
theorem ok106 : CtOk Tryd.prog gdS 106 ct106 :=
  fn_okU (ctxOkF gokGmT2 []) rfl Tryd.func106 (p := (Ty.pair ty32 (Ty.pair ty3 (Ty.pair ty3 ty3)))) (psh := [some 8, none, none, none]) (r := ty3) (rsh := (Rsh.one (none))) (pre := none) (fresh := none) (F := Sp.F106) (L := noL) (c := bodyOf Tryd.f106) (dflt := Ty.dflt ty3) rfl (no_loops)
    (safe_no @sa106) va106
/-! door.Late -/
end Go.Proofs.YtpbljgpdhllklaaDoor.Sy
namespace Go.Proofs.YtpbljgpdhllklaaDoor.Sp
open Go Go.RowKit Sy
def F88 (x : (Int × Int × Int × Int × Int × Int × Int × Int × Int) × Int × Int × Int × Bool × Int) : Bool :=
  (((x.2.1 == (1 : Int)) || (x.2.1 == (3 : Int))) && (decide (x.2.2.1 > x.1.2.2.2.2.2.1)))
end Go.Proofs.YtpbljgpdhllklaaDoor.Sp
namespace Go.Proofs.YtpbljgpdhllklaaDoor.Sy
def ct88 : Ct := { p := (Ty.pair ty76 ty62), psh := [some 9, some 5], r := ty4, rsh := (Rsh.one (none)), pre := none, fresh := none, F := Sp.F88 }
theorem va88 (x : (Ty.pair ty76 ty62).den) : ((evFn (ctxG GmT2) Tryd.f88 (Ty.pair ty76 ty62) [some 9, some 5] (Rsh.one (none)) none ty4 noL x)).val (fun y => y) (Ty.dflt ty4) = Sp.F88 x := by kernel_rfl
theorem se88 (x : (Ty.pair ty76 ty62).den) : ((evFn (ctxG GmT2) Tryd.f88 (Ty.pair ty76 ty62) [some 9, some 5] (Rsh.one (none)) none ty4 noL x)).safe = (True) := by kernel_rfl
theorem sa88 (x : (Ty.pair ty76 ty62).den) (fx : Fit (Ty.pair ty76 ty62) x) : SafeW ((evFn (ctxG GmT2) Tryd.f88 (Ty.pair ty76 ty62) [some 9, some 5] (Rsh.one (none)) none ty4 noL x)) := by
  refine ⟨?_⟩
  rw [se88]
  trivial
theorem ok88 : CtOk Tryd.prog gdS 88 ct88 :=
  fn_okU (ctxOkF gokGmT2 []) rfl Tryd.func88 (p := (Ty.pair ty76 ty62)) (psh := [some 9, some 5]) (r := ty4) (rsh := (Rsh.one (none))) (pre := none) (fresh := none) (F := Sp.F88) (L := noL) (c := bodyOf Tryd.f88) (dflt := Ty.dflt ty4) rfl (no_loops)
    (safe_no @sa88) va88
/-! motion.Late -/
end Go.Proofs.YtpbljgpdhllklaaDoor.Sy
namespace Go.Proofs.YtpbljgpdhllklaaDoor.Sp
open Go Go.RowKit Sy
def F89 (x : (Int × Int × Int × Int × Int × Int × Int × Int × Int) × Int × Int × Int) : Bool :=
  (decide (x.2.2.1 > x.1.2.2.2.2.1))
end Go.Proofs.YtpbljgpdhllklaaDoor.Sp
namespace Go.Proofs.YtpbljgpdhllklaaDoor.Sy
def ct89 : Ct := { p := (Ty.pair ty76 ty64), psh := [some 9, some 3], r := ty4, rsh := (Rsh.one (none)), pre := none, fresh := none, F := Sp.F89 }
theorem va89 (x : (Ty.pair ty76 ty64).den) : ((evFn (ctxG GmT2) Tryd.f89 (Ty.pair ty76 ty64) [some 9, some 3] (Rsh.one (none)) none ty4 noL x)).val (fun y => y) (Ty.dflt ty4) = Sp.F89 x := by kernel_rfl
theorem se89 (x : (Ty.pair ty76 ty64).den) : ((evFn (ctxG GmT2) Tryd.f89 (Ty.pair ty76 ty64) [some 9, some 3] (Rsh.one (none)) none ty4 noL x)).safe = (True) := by kernel_rfl
theorem sa89 (x : (Ty.pair ty76 ty64).den) (fx : Fit (Ty.pair ty76 ty64) x) : SafeW ((evFn (ctxG GmT2) Tryd.f89 (Ty.pair ty76 ty64) [some 9, some 3] (Rsh.one (none)) none ty4 noL x)) := by
  refine ⟨?_⟩
  rw [se89]
  trivial
theorem ok89 : CtOk Tryd.prog gdS 89 ct89 :=
  fn_okU (ctxOkF gokGmT2 []) rfl Tryd.func89 (p := (Ty.pair ty76 ty64)) (psh := [some 9, some 3]) (r := ty4) (rsh := (Rsh.one (none))) (pre := none) (fresh := none) (F := Sp.F89) (L := noL) (c := bodyOf Tryd.f89) (dflt := Ty.dflt ty4) rfl (no_loops)
    (safe_no @sa89) va89
/-! indicator.isFloors -/
end Go.Proofs.YtpbljgpdhllklaaDoor.Sy
namespace Go.Proofs.YtpbljgpdhllklaaDoor.Sp
open Go Go.RowKit Sy
def F75 (x : Int) : Bool :=
  ((decide (x ≥ (2 : Int))) && (decide (x ≤ (32 : Int))))
end Go.Proofs.YtpbljgpdhllklaaDoor.Sp
namespace Go.Proofs.YtpbljgpdhllklaaDoor.Sy
def ct75 : Ct := { p := ty3, psh := [none], r := ty4, rsh := (Rsh.one (none)), pre := none, fresh := none, F := Sp.F75 }
theorem va75 (x : ty3.den) : ((evFn (ctxG GmT2) Tryd.f75 ty3 [none] (Rsh.one (none)) none ty4 noL x)).val (fun y => y) (Ty.dflt ty4) = Sp.F75 x := by kernel_rfl
theorem se75 (x : ty3.den) : ((evFn (ctxG GmT2) Tryd.f75 ty3 [none] (Rsh.one (none)) none ty4 noL x)).safe = (True) := by kernel_rfl
theorem sa75 (x : ty3.den) (fx : Fit ty3 x) : SafeW ((evFn (ctxG GmT2) Tryd.f75 ty3 [none] (Rsh.one (none)) none ty4 noL x)) := by
  refine ⟨?_⟩
  rw [se75]
  trivial
theorem ok75 : CtOk Tryd.prog gdS 75 ct75 :=
  fn_okU (ctxOkF gokGmT2 []) rfl Tryd.func75 (p := ty3) (psh := [none]) (r := ty4) (rsh := (Rsh.one (none))) (pre := none) (fresh := none) (F := Sp.F75) (L := noL) (c := bodyOf Tryd.f75) (dflt := Ty.dflt ty4) rfl (no_loops)
    (safe_no @sa75) va75
/-! overlayplay.in -/
end Go.Proofs.YtpbljgpdhllklaaDoor.Sy
namespace Go.Proofs.YtpbljgpdhllklaaDoor.Sp
open Go Go.RowKit Sy
def F81 (x : Int × Int × Int) : Bool :=
  ((decide (x.1 ≥ x.2.1)) && (decide (x.1 ≤ x.2.2)))
end Go.Proofs.YtpbljgpdhllklaaDoor.Sp
namespace Go.Proofs.YtpbljgpdhllklaaDoor.Sy
def ct81 : Ct := { p := (Ty.pair ty3 (Ty.pair ty3 ty3)), psh := [none, none, none], r := ty4, rsh := (Rsh.one (none)), pre := none, fresh := none, F := Sp.F81 }
theorem va81 (x : (Ty.pair ty3 (Ty.pair ty3 ty3)).den) : ((evFn (ctxG GmT2) Tryd.f81 (Ty.pair ty3 (Ty.pair ty3 ty3)) [none, none, none] (Rsh.one (none)) none ty4 noL x)).val (fun y => y) (Ty.dflt ty4) = Sp.F81 x := by kernel_rfl
theorem se81 (x : (Ty.pair ty3 (Ty.pair ty3 ty3)).den) : ((evFn (ctxG GmT2) Tryd.f81 (Ty.pair ty3 (Ty.pair ty3 ty3)) [none, none, none] (Rsh.one (none)) none ty4 noL x)).safe = (True) := by kernel_rfl
theorem sa81 (x : (Ty.pair ty3 (Ty.pair ty3 ty3)).den) (fx : Fit (Ty.pair ty3 (Ty.pair ty3 ty3)) x) : SafeW ((evFn (ctxG GmT2) Tryd.f81 (Ty.pair ty3 (Ty.pair ty3 ty3)) [none, none, none] (Rsh.one (none)) none ty4 noL x)) := by
  refine ⟨?_⟩
  rw [se81]
  trivial
theorem ok81 : CtOk Tryd.prog gdS 81 ct81 :=
  fn_okU (ctxOkF gokGmT2 []) rfl Tryd.func81 (p := (Ty.pair ty3 (Ty.pair ty3 ty3))) (psh := [none, none, none]) (r := ty4) (rsh := (Rsh.one (none))) (pre := none) (fresh := none) (F := Sp.F81) (L := noL) (c := bodyOf Tryd.f81) (dflt := Ty.dflt ty4) rfl (no_loops)
    (safe_no @sa81) va81
/-! overlayplay.arrived -/
end Go.Proofs.YtpbljgpdhllklaaDoor.Sy
namespace Go.Proofs.YtpbljgpdhllklaaDoor.Sp
open Go Go.RowKit Sy
def F80 (x : Int × Int × Int × Int × Int × Int) : Int × Int × Int × Int × Int × Int :=
  bif (x.2.2.1 == (0 : Int)) then
    (x.2.1, x.2)
  else
    x
end Go.Proofs.YtpbljgpdhllklaaDoor.Sp
namespace Go.Proofs.YtpbljgpdhllklaaDoor.Sy
def ct80 : Ct := { p := ty96, psh := [some 6], r := ty96, rsh := (Rsh.one (some 6)), pre := none, fresh := none, F := Sp.F80 }
theorem va80 (x : ty96.den) : ((evFn (ctxG GmT2) Tryd.f80 ty96 [some 6] (Rsh.one (some 6)) none ty96 noL x)).val (fun y => y) (Ty.dflt ty96) = Sp.F80 x := by kernel_rfl
theorem se80 (x : ty96.den) : ((evFn (ctxG GmT2) Tryd.f80 ty96 [some 6] (Rsh.one (some 6)) none ty96 noL x)).safe = ((((x.2.2.1 == (0 : Int)) = true → True) ∧ ((x.2.2.1 == (0 : Int)) = false → True))) := by kernel_rfl
theorem sa80 (x : ty96.den) (fx : Fit ty96 x) : SafeW ((evFn (ctxG GmT2) Tryd.f80 ty96 [some 6] (Rsh.one (some 6)) none ty96 noL x)) := by
  refine ⟨?_⟩
  rw [se80]
  try dsimp only [Ty.den] at *
  simp only [Fit, maxLen] at fx
  simp only [true_and, IntKind.wrap_i64, IntKind.wrap_u8, IntKind.wrap_u32, IntKind.wrap_u64, Sp.tmod_lit, Sp.tdiv_lit, bne_eq_false_iff_eq, Int.natCast_inj, setE, copyL, sliceL, zrow, List.length_append, List.length_cons, List.length_nil, List.length_set, List.length_replicate, List.length_take, List.length_drop, decide_eq_true_eq, decide_eq_false_iff_not, Bool.or_eq_true, Bool.and_eq_true, Bool.or_eq_false_iff, Bool.and_eq_false_iff, Bool.not_eq_true', Bool.not_eq_false', Bool.not_eq_true, Bool.not_eq_false, beq_iff_eq, beq_eq_false_iff_ne, bne_iff_ne, ne_eq, implies_true, and_true, true_and] at *
  all_goals ((repeat' (first | exact trivial | apply And.intro | intro _)) <;> first | trivial | omega | exact Sp.tmod_nn (by omega) | exact Sp.tmod_lt (by omega) (by omega))
theorem ok80 : CtOk Tryd.prog gdS 80 ct80 :=
  fn_okU (ctxOkF gokGmT2 []) rfl Tryd.func80 (p := ty96) (psh := [some 6]) (r := ty96) (rsh := (Rsh.one (some 6))) (pre := none) (fresh := none) (F := Sp.F80) (L := noL) (c := bodyOf Tryd.f80) (dflt := Ty.dflt ty96) rfl (no_loops)
    (safe_no @sa80) va80
/-! motion.Skip -/
end Go.Proofs.YtpbljgpdhllklaaDoor.Sy
namespace Go.Proofs.YtpbljgpdhllklaaDoor.Sp
open Go Go.RowKit Sy
def F64 (x : Int × Int × Int) : Int × Int × Int :=
  bif ((((x.1 != (0 : Int)) || (x.2.1 != (0 : Int))) && (decide (x.2.1 ≥ (0 : Int)))) && (decide (x.2.1 < (1000000 : Int)))) then
    (x.1, (IntKind.i64.wrap (x.2.1 + (1 : Int))), x.2.2)
  else
    x
end Go.Proofs.YtpbljgpdhllklaaDoor.Sp
namespace Go.Proofs.YtpbljgpdhllklaaDoor.Sy
def ct64 : Ct := { p := ty64, psh := [some 3], r := ty64, rsh := (Rsh.one (some 3)), pre := none, fresh := none, F := Sp.F64 }
theorem va64 (x : ty64.den) : ((evFn (ctxG GmT2) Tryd.f64 ty64 [some 3] (Rsh.one (some 3)) none ty64 noL x)).val (fun y => y) (Ty.dflt ty64) = Sp.F64 x := by kernel_rfl
theorem se64 (x : ty64.den) : ((evFn (ctxG GmT2) Tryd.f64 ty64 [some 3] (Rsh.one (some 3)) none ty64 noL x)).safe = (((((((x.1 != (0 : Int)) || (x.2.1 != (0 : Int))) && (decide (x.2.1 ≥ (0 : Int)))) && (decide (x.2.1 < (1000000 : Int)))) = true → True) ∧ (((((x.1 != (0 : Int)) || (x.2.1 != (0 : Int))) && (decide (x.2.1 ≥ (0 : Int)))) && (decide (x.2.1 < (1000000 : Int)))) = false → True))) := by kernel_rfl
theorem sa64 (x : ty64.den) (fx : Fit ty64 x) : SafeW ((evFn (ctxG GmT2) Tryd.f64 ty64 [some 3] (Rsh.one (some 3)) none ty64 noL x)) := by
  refine ⟨?_⟩
  rw [se64]
  try dsimp only [Ty.den] at *
  simp only [Fit, maxLen] at fx
  simp only [true_and, IntKind.wrap_i64, IntKind.wrap_u8, IntKind.wrap_u32, IntKind.wrap_u64, Sp.tmod_lit, Sp.tdiv_lit, bne_eq_false_iff_eq, Int.natCast_inj, setE, copyL, sliceL, zrow, List.length_append, List.length_cons, List.length_nil, List.length_set, List.length_replicate, List.length_take, List.length_drop, decide_eq_true_eq, decide_eq_false_iff_not, Bool.or_eq_true, Bool.and_eq_true, Bool.or_eq_false_iff, Bool.and_eq_false_iff, Bool.not_eq_true', Bool.not_eq_false', Bool.not_eq_true, Bool.not_eq_false, beq_iff_eq, beq_eq_false_iff_ne, bne_iff_ne, ne_eq, implies_true, and_true, true_and] at *
  all_goals ((repeat' (first | exact trivial | apply And.intro | intro _)) <;> first | trivial | omega | exact Sp.tmod_nn (by omega) | exact Sp.tmod_lt (by omega) (by omega))
theorem ok64 : CtOk Tryd.prog gdS 64 ct64 :=
  fn_okU (ctxOkF gokGmT2 []) rfl Tryd.func64 (p := ty64) (psh := [some 3]) (r := ty64) (rsh := (Rsh.one (some 3))) (pre := none) (fresh := none) (F := Sp.F64) (L := noL) (c := bodyOf Tryd.f64) (dflt := Ty.dflt ty64) rfl (no_loops)
    (safe_no @sa64) va64
def PmV0 : List (Nat × Cp) := (84, cp84) :: (62, cp62) :: []
theorem pgokPmV0 : PGOk PmV0 := pgok_cons ok84 ⟨_, Tryd.func84, by kernel_rfl, by kernel_rfl⟩ (pgok_cons ok62 ⟨_, Tryd.func62, by kernel_rfl, by kernel_rfl⟩ (pgok_nil))
def GmV0 : List (Nat × Ct) := (11, ct11) :: (53, ct53) :: (54, ct54) :: (102, ct102) :: (103, ct103) :: (59, ct59) :: (91, ct91) :: (115, ct115) :: (106, ct106) :: (88, ct88) :: (89, ct89) :: (75, ct75) :: (81, ct81) :: (80, ct80) :: (64, ct64) :: GmT2
theorem gokGmV0 : GOk GmV0 := gok_cons ok11 ⟨_, Tryd.func11, by kernel_rfl, by kernel_rfl⟩ (gok_cons ok53 ⟨_, Tryd.func53, by kernel_rfl, by kernel_rfl⟩ (gok_cons ok54 ⟨_, Tryd.func54, by kernel_rfl, by kernel_rfl⟩ (gok_cons ok102 ⟨_, Tryd.func102, by kernel_rfl, by kernel_rfl⟩ (gok_cons ok103 ⟨_, Tryd.func103, by kernel_rfl, by kernel_rfl⟩ (gok_cons ok59 ⟨_, Tryd.func59, by kernel_rfl, by kernel_rfl⟩ (gok_cons ok91 ⟨_, Tryd.func91, by kernel_rfl, by kernel_rfl⟩ (gok_cons ok115 ⟨_, Tryd.func115, by kernel_rfl, by kernel_rfl⟩ (gok_cons ok106 ⟨_, Tryd.func106, by kernel_rfl, by kernel_rfl⟩ (gok_cons ok88 ⟨_, Tryd.func88, by kernel_rfl, by kernel_rfl⟩ (gok_cons ok89 ⟨_, Tryd.func89, by kernel_rfl, by kernel_rfl⟩ (gok_cons ok75 ⟨_, Tryd.func75, by kernel_rfl, by kernel_rfl⟩ (gok_cons ok81 ⟨_, Tryd.func81, by kernel_rfl, by kernel_rfl⟩ (gok_cons ok80 ⟨_, Tryd.func80, by kernel_rfl, by kernel_rfl⟩ (gok_cons ok64 ⟨_, Tryd.func64, by kernel_rfl, by kernel_rfl⟩ (gokGmT2)))))))))))))))
end Go.Proofs.YtpbljgpdhllklaaDoor.Sy
end

section
/- The law's building with small times, whole (own work). -/
namespace Go.Proofs.YtpbljgpdhllklaaDoor.Sp
open Go Sy
set_option maxRecDepth 10000
set_option linter.unusedVariables false
def smallCar (fl t : Int) (i : Nat) : CarT := (100, 2, 6, 5, 1 + t % 3, 1 + t / 3 % 3, 1 + t / 9 % 3, 1 + t / 9 % 3 + t / 27 % 5, ((i : Int) + t) % fl)
def midCars (fl t : Int) (n i : Nat) : List CarT := (List.range n).map (fun j => if j < i then smallCar fl t j else sampleCar fl j)
theorem mid_len (fl t : Int) (n i : Nat) : (midCars fl t n i).length = n := by simp [midCars]
def midB (fl t : Int) (n i : Nat) : BldT := (fl, 1, 4000, 30, 4591870180066957722, 4605380978949069210, 4607632778762754458, midCars fl t n i)
def smallB (fl t : Int) (n : Nat) : BldT := (fl, 1, 4000, 1 + t % 7, 4591870180066957722, 4605380978949069210, 4607632778762754458, (List.range n).map (smallCar fl t))
theorem nth_setE (l : List CarT) (i : Nat) (v : CarT) (h : i < l.length) : nthT (setE ty76 l (i : Int) v) (i : Int) = v := by
  show nthT (l.set i v) (i : Int) = v
  rw [nthT_nat _ _ (by rw [List.length_set]; exact h), List.getElem_set_self]
theorem setE_setE (l : List CarT) (i : Nat) (v w : CarT) : setE ty76 (setE ty76 l (i : Int) v) (i : Int) w = setE ty76 l (i : Int) w := by
  show (l.set i v).set i w = l.set i w
  rw [List.set_set]
theorem mid_nth (fl t : Int) (n i : Nat) (h : i < n) : nthT (midCars fl t n i) (i : Int) = sampleCar fl i := by
  rw [nthT_nat _ _ (by rw [mid_len]; exact h)]
  simp [midCars]
theorem mid_set (fl t : Int) (n i : Nat) : setE ty76 (midCars fl t n i) (i : Int) (smallCar fl t i) = midCars fl t n (i + 1) := by
  show (midCars fl t n i).set i (smallCar fl t i) = _
  apply List.ext_getElem
  · rw [List.length_set, mid_len, mid_len]
  · intro j h1 h2
    rw [List.getElem_set]
    simp only [midCars, List.getElem_map, List.getElem_range]
    split
    · rename_i e; subst e; simp
    · by_cases hj : j < i
      · rw [if_pos hj, if_pos (by omega)]
      · rw [if_neg hj, if_neg (by omega)]
theorem small_eq {x : Int × Int} (h : (0 ≤ x.1 ∧ x.1 ≤ 255) ∧ 0 ≤ x.2 ∧ x.2 ≤ 255) :
    F11 x = smallB (2 + x.1 % 5) x.2 (1 + x.1 / 5 % 3).toNat := by
  obtain ⟨a, t⟩ := x
  simp only at h
  have h1 : IntKind.i64.wrap ((2 : Int) + (IntKind.i64.wrap (Int.tmod a (5 : Int)))) = 2 + a % 5 := by simp only [tmod_ite, IntKind.wrap_i64]; omega
  have h2 : IntKind.i64.wrap ((1 : Int) + (IntKind.i64.wrap (Int.tmod (IntKind.u8.wrap (Int.tdiv a (5 : Int))) (3 : Int)))) = ((1 + a / 5 % 3).toNat : Int) := by simp only [tmod_ite, tdiv_ite, IntKind.wrap_i64, IntKind.wrap_u8]; omega
  have h7 : IntKind.i64.wrap ((1 : Int) + (IntKind.i64.wrap (Int.tmod t (7 : Int)))) = 1 + t % 7 := by simp only [tmod_ite, IntKind.wrap_i64]; omega
  unfold F11
  simp only
  rw [h1, h2, h7, sample_eq _ _ (by omega) (by omega)]
  generalize hfl : 2 + a % 5 = fl
  generalize hnn : (1 + a / 5 % 3).toNat = n
  have hf : 2 ≤ fl ∧ fl ≤ 6 := by omega
  have hn : 1 ≤ n ∧ n ≤ 3 := by omega
  have m0 : sampleB fl n = midB fl t n 0 := by simp [sampleB, midB, midCars]
  have d0 : Int.tmod t 3 = t % 3 := Int.tmod_eq_emod_of_nonneg h.2.1
  have d3 : IntKind.u8.wrap (Int.tdiv t (3 : Int)) = t / 3 := by rw [Int.tdiv_eq_ediv_of_nonneg h.2.1, IntKind.wrap_u8]; omega
  have d9 : IntKind.u8.wrap (Int.tdiv t (9 : Int)) = t / 9 := by rw [Int.tdiv_eq_ediv_of_nonneg h.2.1, IntKind.wrap_u8]; omega
  have d27 : IntKind.u8.wrap (Int.tdiv t (27 : Int)) = t / 27 := by rw [Int.tdiv_eq_ediv_of_nonneg h.2.1, IntKind.wrap_u8]; omega
  have m3 : Int.tmod (t / 3) 3 = t / 3 % 3 := Int.tmod_eq_emod_of_nonneg (by omega)
  have m9 : Int.tmod (t / 9) 3 = t / 9 % 3 := Int.tmod_eq_emod_of_nonneg (by omega)
  have m27 : Int.tmod (t / 27) 5 = t / 27 % 5 := Int.tmod_eq_emod_of_nonneg (by omega)
  have c1 : IntKind.i64.wrap ((1 : Int) + (IntKind.i64.wrap (Int.tmod t (3 : Int)))) = 1 + t % 3 := by rw [d0]; simp only [IntKind.wrap_i64]; omega
  have c2 : IntKind.i64.wrap ((1 : Int) + (IntKind.i64.wrap (Int.tmod (IntKind.u8.wrap (Int.tdiv t (3 : Int))) (3 : Int)))) = 1 + t / 3 % 3 := by rw [d3, m3]; simp only [IntKind.wrap_i64]; omega
  have c3 : IntKind.i64.wrap ((1 : Int) + (IntKind.i64.wrap (Int.tmod (IntKind.u8.wrap (Int.tdiv t (9 : Int))) (3 : Int)))) = 1 + t / 9 % 3 := by rw [d9, m9]; simp only [IntKind.wrap_i64]; omega
  have c4 : IntKind.i64.wrap ((1 + t / 9 % 3) + (IntKind.i64.wrap (Int.tmod (IntKind.u8.wrap (Int.tdiv t (27 : Int))) (5 : Int)))) = 1 + t / 9 % 3 + t / 27 % 5 := by rw [d27, m27]; simp only [IntKind.wrap_i64]; omega
  have hK : ∀ i : Nat, i < n → K11_3_5 t ((i : Int), midB fl t n i) = midCars fl t n (i + 1) := by
    intro i hi
    have c5 : Int.tmod (IntKind.i64.wrap ((i : Int) + IntKind.i64.wrap t)) fl = ((i : Int) + t) % fl := by
      have e1 : IntKind.i64.wrap t = t := by simp only [IntKind.wrap_i64]; omega
      have e2 : IntKind.i64.wrap ((i : Int) + t) = (i : Int) + t := by simp only [IntKind.wrap_i64]; omega
      rw [e1, e2, Int.tmod_eq_emod_of_nonneg (by omega)]
    have hl : i < (midCars fl t n i).length := by rw [mid_len]; exact hi
    have hl' : ∀ v, i < (setE ty76 (midCars fl t n i) (i : Int) v).length := by intro v; show i < (List.set _ _ _).length; rw [List.length_set]; exact hl
    simp only [K11_3_5, K11_3_4, K11_3_3, K11_3_2, K11_3_1, midB]
    rw [mid_nth _ _ _ _ hi]
    simp only [setE_setE, nth_setE _ _ _ hl, c1, c2, c3, c4, c5, sampleCar]
    exact mid_set fl t n i
  have hs : ∀ i, i < n → ∃ k', st11_3 t ((fun i : Nat => ((i : Int), midB fl t n i)) i) = .next k' ((fun i : Nat => ((i : Int), midB fl t n i)) (i + 1)) := by
    intro i hi
    refine ⟨t, ?_⟩
    have e1 : decide ((i : Int) < ((midB fl t n i).2.2.2.2.2.2.2.length : Int)) = true := by
      show decide ((i : Int) < ((midCars fl t n i).length : Int)) = true
      rw [mid_len]; simp; omega
    simp only [st11_3, e1, cond_true, wrap_succ hi (show n ≤ maxLen by simp [maxLen]; omega)]
    rw [hK i hi]
    simp only [midB]
  have hb : st11_3 t ((fun i : Nat => ((i : Int), midB fl t n i)) n) = .brk t ((n : Int), midB fl t n n) := by
    have e1 : decide ((n : Int) < ((midB fl t n n).2.2.2.2.2.2.2.length : Int)) = false := by
      show decide ((n : Int) < ((midCars fl t n n).length : Int)) = false
      rw [mid_len]; simp
    simp only [st11_3, e1, cond_false]
  have key : G11_3 t (0, midB fl t n 0) = ((n : Int), midB fl t n n) := by
    unfold G11_3
    exact (end_row_brk _ n hs hb (fuel := Nat.succ (mu11_3 t (0, midB fl t n 0))) (by simp [mu11_3, midB, mid_len])).1
  rw [m0, key]
  have e2 : midCars fl t n n = (List.range n).map (smallCar fl t) := by
    unfold midCars
    apply List.map_congr_left
    intro j hj
    rw [if_pos (List.mem_range.mp hj)]
  simp only [midB, smallB, e2]
theorem small_len (fl t : Int) (n : Nat) : (smallB fl t n).cars.length = n := by
  show ((List.range n).map (smallCar fl t)).length = n
  rw [List.length_map, List.length_range]
theorem small_isB (fl t : Int) (n : Nat) (h : 2 ≤ fl ∧ fl ≤ 32) (hn : 1 ≤ n ∧ n ≤ 8) (ht : 0 ≤ t ∧ t ≤ 255) : IsB (smallB fl t n) where
  fl := h
  cn := by rw [small_len]; exact hn
  deb := by show (1 : Int) ≤ 1 ∧ (1 : Int) ≤ 16; decide
  park := by show (1 : Int) ≤ 1 + t % 7 ∧ 1 + t % 7 ≤ 10000; omega
  car := by
    intro c hc
    have hc : c ∈ (List.range n).map (smallCar fl t) := hc
    rw [List.mem_map] at hc
    obtain ⟨i, hi, rfl⟩ := hc
    have h1 : 0 ≤ ((i : Int) + t) % fl := Int.emod_nonneg _ (by omega)
    have h2 : ((i : Int) + t) % fl < fl := Int.emod_lt_of_pos _ (by omega)
    have e1 : 1 ≤ 1 + t % 3 ∧ 1 + t % 3 ≤ 10000 := by omega
    have e2 : 1 ≤ 1 + t / 3 % 3 ∧ 1 + t / 3 % 3 ≤ 10000 := by omega
    have e3 : 1 ≤ 1 + t / 9 % 3 ∧ 1 + t / 9 % 3 ≤ 10000 := by omega
    have e4 : 1 ≤ 1 + t / 9 % 3 + t / 27 % 5 ∧ 1 + t / 9 % 3 + t / 27 % 5 ≤ 10000 := by omega
    have e5 : 1 + t / 9 % 3 ≤ 1 + t / 9 % 3 + t / 27 % 5 := by omega
    have e6 : ((i : Int) + t) % fl ≤ fl - 1 := by omega
    simp only [carOk, smallCar, tOk, smallB, Bool.and_eq_true]
    have dt : ∀ {p q : Prop} [Decidable p] [Decidable q], p ∧ q → decide p = true ∧ decide q = true := fun h => ⟨decide_eq_true h.1, decide_eq_true h.2⟩
    exact ⟨⟨⟨⟨⟨⟨⟨⟨⟨dt (by decide), dt (by decide)⟩, dt (by decide)⟩, dt e1⟩, dt e2⟩, dt e3⟩, dt e4⟩, dt (by decide)⟩, decide_eq_true e5⟩, dt ⟨h1, e6⟩⟩
  loads := by simp only [loadsOk, smallB]; kernel_rfl
  room := by rw [small_len]; show 18 * (n : Int) + 24 ≤ 4000 ∧ (4000 : Int) ≤ 65536; omega
/-- The building of the laws. -/
theorem b15 {x : Int × Int} (h : (0 ≤ x.1 ∧ x.1 ≤ 255) ∧ 0 ≤ x.2 ∧ x.2 ≤ 255) : IsB (F11 x) ∧ (F11 x).1 ≤ 6 := by
  rw [small_eq h]
  exact ⟨small_isB _ _ _ (by omega) (by omega) (by omega), by show 2 + x.1 % 5 ≤ 6; omega⟩
end Go.Proofs.YtpbljgpdhllklaaDoor.Sp
end

section
/- What every law with this building needs (own work). -/
namespace Go.Proofs.YtpbljgpdhllklaaDoor.Sp
open Go Sy
theorem valid_of {b : BldT} (hb : IsB b) (hl : b.cars.length ≤ maxLen) : Sp.F44 b = 0 := by
  rw [valid_eq b hl]; exact (vld_zero b).2 hb
theorem car_at {b : BldT} (hb : IsB b) {i : Int} (h0 : 0 ≤ i) (h1 : i < (b.2.2.2.2.2.2.2.length : Int)) : carOk b.1 (nthT b.2.2.2.2.2.2.2 i) = true := by
  rw [nthT_of _ _ h0 (by omega)]
  exact hb.car _ (List.getElem_mem _)
theorem car_times {b : BldT} (hb : IsB b) {i : Int} (h0 : 0 ≤ i) (h1 : i < (b.2.2.2.2.2.2.2.length : Int)) :
    (1 ≤ (nthT b.2.2.2.2.2.2.2 i).2.2.2.2.1 ∧ (nthT b.2.2.2.2.2.2.2 i).2.2.2.2.1 ≤ 10000) ∧
    (1 ≤ (nthT b.2.2.2.2.2.2.2 i).2.2.2.2.2.1 ∧ (nthT b.2.2.2.2.2.2.2 i).2.2.2.2.2.1 ≤ 10000) ∧
    (1 ≤ (nthT b.2.2.2.2.2.2.2 i).2.2.2.2.2.2.1 ∧ (nthT b.2.2.2.2.2.2.2 i).2.2.2.2.2.2.1 ≤ 10000) ∧
    (1 ≤ (nthT b.2.2.2.2.2.2.2 i).2.2.2.2.2.2.2.1 ∧ (nthT b.2.2.2.2.2.2.2 i).2.2.2.2.2.2.2.1 ≤ 10000) := by
  have h := car_at hb h0 h1
  simp only [carOk, tOk, Bool.and_eq_true, decide_eq_true_eq] at h
  exact ⟨h.1.1.1.1.1.1.2, h.1.1.1.1.1.2, h.1.1.1.1.2, h.1.1.1.2⟩
theorem u64_nn (z : Int) : 0 ≤ IntKind.u64.wrap z := by rw [IntKind.wrap_u64]; omega
theorem b15_len {x : Int × Int} (h : (0 ≤ x.1 ∧ x.1 ≤ 255) ∧ 0 ≤ x.2 ∧ x.2 ≤ 255) : (F11 x).2.2.2.2.2.2.2.length ≤ 100 := by
  have := (b15 h).1.cn.2
  exact Nat.le_trans this (by decide)
end Go.Proofs.YtpbljgpdhllklaaDoor.Sp
end

section
/- Contracts of functions, by the evaluator (own program gen.py): door.IsState, motion.IsState, door.counted, door.stay, door.nudge, newcar.watched, indicator.IsObs, overlayplay.IsState. -/
set_option linter.unusedVariables false
set_option linter.unusedSimpArgs false
set_option maxRecDepth 100000
namespace Go.Proofs.YtpbljgpdhllklaaDoor.Sy
open Go Go.RowKit Sp
/-! door.IsState -/
end Go.Proofs.YtpbljgpdhllklaaDoor.Sy
namespace Go.Proofs.YtpbljgpdhllklaaDoor.Sp
open Go Go.RowKit Sy
def F82 (x : Int × Int × Int × Bool × Int) : Bool :=
  bif (x.1 == (0 : Int)) then
    ((x.1 == (0 : Int)) && ((x.2.1 == (0 : Int)) && ((x.2.2.1 == (0 : Int)) && ((x.2.2.2.1 == false) && (x.2.2.2.2 == (0 : Int))))))
  else
    (((((decide (x.1 ≥ (0 : Int))) && (decide (x.1 ≤ (3 : Int)))) && (Sp.F102 x.2.1)) && (Sp.F102 x.2.2.1)) && (Sp.F102 x.2.2.2.2))
end Go.Proofs.YtpbljgpdhllklaaDoor.Sp
namespace Go.Proofs.YtpbljgpdhllklaaDoor.Sy
def ct82 : Ct := { p := ty62, psh := [some 5], r := ty4, rsh := (Rsh.one (none)), pre := none, fresh := none, F := Sp.F82 }
theorem va82 (x : ty62.den) : ((evFn (ctxP PmV0 none GmV0 []) Tryd.f82 ty62 [some 5] (Rsh.one (none)) none ty4 noL x)).val (fun y => y) (Ty.dflt ty4) = Sp.F82 x := by kernel_rfl
theorem se82 (x : ty62.den) : ((evFn (ctxP PmV0 none GmV0 []) Tryd.f82 ty62 [some 5] (Rsh.one (none)) none ty4 noL x)).safe = ((((x.1 == (0 : Int)) = true → True) ∧ ((x.1 == (0 : Int)) = false → True))) := by kernel_rfl
theorem sa82 (x : ty62.den) (fx : Fit ty62 x) : SafeW ((evFn (ctxP PmV0 none GmV0 []) Tryd.f82 ty62 [some 5] (Rsh.one (none)) none ty4 noL x)) := by
  refine ⟨?_⟩
  rw [se82]
  try dsimp only [Ty.den] at *
  simp only [Fit, maxLen] at fx
  simp only [true_and, IntKind.wrap_i64, IntKind.wrap_u8, IntKind.wrap_u32, IntKind.wrap_u64, Sp.tmod_lit, Sp.tdiv_lit, bne_eq_false_iff_eq, Int.natCast_inj, setE, copyL, sliceL, zrow, List.length_append, List.length_cons, List.length_nil, List.length_set, List.length_replicate, List.length_take, List.length_drop, decide_eq_true_eq, decide_eq_false_iff_not, Bool.or_eq_true, Bool.and_eq_true, Bool.or_eq_false_iff, Bool.and_eq_false_iff, Bool.not_eq_true', Bool.not_eq_false', Bool.not_eq_true, Bool.not_eq_false, beq_iff_eq, beq_eq_false_iff_ne, bne_iff_ne, ne_eq, implies_true, and_true, true_and] at *
  all_goals ((repeat' (first | exact trivial | apply And.intro | intro _)) <;> first | trivial | omega | exact Sp.tmod_nn (by omega) | exact Sp.tmod_lt (by omega) (by omega))
theorem ok82 : CtOk Tryd.prog gdS 82 ct82 :=
  fn_okU (ctxOkP pgokPmV0 fvok_none gokGmV0 []) rfl Tryd.func82 (p := ty62) (psh := [some 5]) (r := ty4) (rsh := (Rsh.one (none))) (pre := none) (fresh := none) (F := Sp.F82) (L := noL) (c := bodyOf Tryd.f82) (dflt := Ty.dflt ty4) rfl (no_loops)
    (safe_no @sa82) va82
/-! motion.IsState -/
end Go.Proofs.YtpbljgpdhllklaaDoor.Sy
namespace Go.Proofs.YtpbljgpdhllklaaDoor.Sp
open Go Go.RowKit Sy
def F83 (x : Int × Int × Int × Int) : Bool :=
  bif ((((((decide (x.1 < (2 : Int))) || (decide (x.1 > (32 : Int)))) || (decide (x.2.2.1 < (0 : Int)))) || (decide (x.2.2.1 > (1000000 : Int)))) || (decide (x.2.2.2 < (0 : Int)))) || (decide (x.2.2.2 ≥ x.1))) then
    false
  else
    bif (x.2.1 == (0 : Int)) then
      (x.2.2.2 == (0 : Int))
    else
      (Sp.F103 (x.1, x.2.2.2, x.2.1)).2
end Go.Proofs.YtpbljgpdhllklaaDoor.Sp
namespace Go.Proofs.YtpbljgpdhllklaaDoor.Sy
def ct83 : Ct := { p := (Ty.pair ty3 ty64), psh := [none, some 3], r := ty4, rsh := (Rsh.one (none)), pre := none, fresh := none, F := Sp.F83 }
theorem va83 (x : (Ty.pair ty3 ty64).den) : ((evFn (ctxP PmV0 none GmV0 []) Tryd.f83 (Ty.pair ty3 ty64) [none, some 3] (Rsh.one (none)) none ty4 noL x)).val (fun y => y) (Ty.dflt ty4) = Sp.F83 x := by kernel_rfl
theorem se83 (x : (Ty.pair ty3 ty64).den) : ((evFn (ctxP PmV0 none GmV0 []) Tryd.f83 (Ty.pair ty3 ty64) [none, some 3] (Rsh.one (none)) none ty4 noL x)).safe = (((((((((decide (x.1 < (2 : Int))) || (decide (x.1 > (32 : Int)))) || (decide (x.2.2.1 < (0 : Int)))) || (decide (x.2.2.1 > (1000000 : Int)))) || (decide (x.2.2.2 < (0 : Int)))) || (decide (x.2.2.2 ≥ x.1))) = true → True) ∧ (((((((decide (x.1 < (2 : Int))) || (decide (x.1 > (32 : Int)))) || (decide (x.2.2.1 < (0 : Int)))) || (decide (x.2.2.1 > (1000000 : Int)))) || (decide (x.2.2.2 < (0 : Int)))) || (decide (x.2.2.2 ≥ x.1))) = false → (((x.2.1 == (0 : Int)) = true → True) ∧ ((x.2.1 == (0 : Int)) = false → True))))) := by kernel_rfl
theorem sa83 (x : (Ty.pair ty3 ty64).den) (fx : Fit (Ty.pair ty3 ty64) x) : SafeW ((evFn (ctxP PmV0 none GmV0 []) Tryd.f83 (Ty.pair ty3 ty64) [none, some 3] (Rsh.one (none)) none ty4 noL x)) := by
  refine ⟨?_⟩
  rw [se83]
  try dsimp only [Ty.den] at *
  simp only [Fit, maxLen] at fx
  simp only [true_and, IntKind.wrap_i64, IntKind.wrap_u8, IntKind.wrap_u32, IntKind.wrap_u64, Sp.tmod_lit, Sp.tdiv_lit, bne_eq_false_iff_eq, Int.natCast_inj, setE, copyL, sliceL, zrow, List.length_append, List.length_cons, List.length_nil, List.length_set, List.length_replicate, List.length_take, List.length_drop, decide_eq_true_eq, decide_eq_false_iff_not, Bool.or_eq_true, Bool.and_eq_true, Bool.or_eq_false_iff, Bool.and_eq_false_iff, Bool.not_eq_true', Bool.not_eq_false', Bool.not_eq_true, Bool.not_eq_false, beq_iff_eq, beq_eq_false_iff_ne, bne_iff_ne, ne_eq, implies_true, and_true, true_and] at *
  all_goals ((repeat' (first | exact trivial | apply And.intro | intro _)) <;> first | trivial | omega | exact Sp.tmod_nn (by omega) | exact Sp.tmod_lt (by omega) (by omega))
theorem ok83 : CtOk Tryd.prog gdS 83 ct83 :=
  fn_okU (ctxOkP pgokPmV0 fvok_none gokGmV0 []) rfl Tryd.func83 (p := (Ty.pair ty3 ty64)) (psh := [none, some 3]) (r := ty4) (rsh := (Rsh.one (none))) (pre := none) (fresh := none) (F := Sp.F83) (L := noL) (c := bodyOf Tryd.f83) (dflt := Ty.dflt ty4) rfl (no_loops)
    (safe_no @sa83) va83
/-! door.counted -/
end Go.Proofs.YtpbljgpdhllklaaDoor.Sy
namespace Go.Proofs.YtpbljgpdhllklaaDoor.Sp
open Go Go.RowKit Sy
def F90 (x : Int × Int × Int × Bool × Int) : Int × Int × Int × Bool × Int :=
  bif (x.2.2.1 != (0 : Int)) then
    (x.1, x.2.1, (Sp.F91 x.2.2.1), x.2.2.2)
  else
    x
end Go.Proofs.YtpbljgpdhllklaaDoor.Sp
namespace Go.Proofs.YtpbljgpdhllklaaDoor.Sy
def ct90 : Ct := { p := ty62, psh := [some 5], r := ty62, rsh := (Rsh.one (some 5)), pre := none, fresh := none, F := Sp.F90 }
theorem va90 (x : ty62.den) : ((evFn (ctxP PmV0 none GmV0 []) Tryd.f90 ty62 [some 5] (Rsh.one (some 5)) none ty62 noL x)).val (fun y => y) (Ty.dflt ty62) = Sp.F90 x := by kernel_rfl
theorem se90 (x : ty62.den) : ((evFn (ctxP PmV0 none GmV0 []) Tryd.f90 ty62 [some 5] (Rsh.one (some 5)) none ty62 noL x)).safe = ((((x.2.2.1 != (0 : Int)) = true → True) ∧ ((x.2.2.1 != (0 : Int)) = false → True))) := by kernel_rfl
theorem sa90 (x : ty62.den) (fx : Fit ty62 x) : SafeW ((evFn (ctxP PmV0 none GmV0 []) Tryd.f90 ty62 [some 5] (Rsh.one (some 5)) none ty62 noL x)) := by
  refine ⟨?_⟩
  rw [se90]
  try dsimp only [Ty.den] at *
  simp only [Fit, maxLen] at fx
  simp only [true_and, IntKind.wrap_i64, IntKind.wrap_u8, IntKind.wrap_u32, IntKind.wrap_u64, Sp.tmod_lit, Sp.tdiv_lit, bne_eq_false_iff_eq, Int.natCast_inj, setE, copyL, sliceL, zrow, List.length_append, List.length_cons, List.length_nil, List.length_set, List.length_replicate, List.length_take, List.length_drop, decide_eq_true_eq, decide_eq_false_iff_not, Bool.or_eq_true, Bool.and_eq_true, Bool.or_eq_false_iff, Bool.and_eq_false_iff, Bool.not_eq_true', Bool.not_eq_false', Bool.not_eq_true, Bool.not_eq_false, beq_iff_eq, beq_eq_false_iff_ne, bne_iff_ne, ne_eq, implies_true, and_true, true_and] at *
  all_goals ((repeat' (first | exact trivial | apply And.intro | intro _)) <;> first | trivial | omega | exact Sp.tmod_nn (by omega) | exact Sp.tmod_lt (by omega) (by omega))
theorem ok90 : CtOk Tryd.prog gdS 90 ct90 :=
  fn_okU (ctxOkP pgokPmV0 fvok_none gokGmV0 []) rfl Tryd.func90 (p := ty62) (psh := [some 5]) (r := ty62) (rsh := (Rsh.one (some 5))) (pre := none) (fresh := none) (F := Sp.F90) (L := noL) (c := bodyOf Tryd.f90) (dflt := Ty.dflt ty62) rfl (no_loops)
    (safe_no @sa90) va90
/-! door.stay -/
end Go.Proofs.YtpbljgpdhllklaaDoor.Sy
namespace Go.Proofs.YtpbljgpdhllklaaDoor.Sp
open Go Go.RowKit Sy
def F116 (x : (Int × Int × Int × Bool × Int) × Int) : (Int × Int × Int × Bool × Int) × Int :=
  ((x.1.1, (Sp.F91 x.1.2.1), x.1.2.2), x.2)
end Go.Proofs.YtpbljgpdhllklaaDoor.Sp
namespace Go.Proofs.YtpbljgpdhllklaaDoor.Sy
def ct116 : Ct := { p := (Ty.pair ty62 ty3), psh := [some 5, none], r := (Ty.pair ty62 ty3), rsh := (Rsh.tup [some 5, none]), pre := none, fresh := none, F := Sp.F116 }
theorem va116 (x : (Ty.pair ty62 ty3).den) : ((evFn (ctxP PmV0 none GmV0 []) Tryd.f116 (Ty.pair ty62 ty3) [some 5, none] (Rsh.tup [some 5, none]) none (Ty.pair ty62 ty3) noL x)).val (fun y => y) (Ty.dflt (Ty.pair ty62 ty3)) = Sp.F116 x := by kernel_rfl
theorem se116 (x : (Ty.pair ty62 ty3).den) : ((evFn (ctxP PmV0 none GmV0 []) Tryd.f116 (Ty.pair ty62 ty3) [some 5, none] (Rsh.tup [some 5, none]) none (Ty.pair ty62 ty3) noL x)).safe = (True) := by kernel_rfl
theorem sa116 (x : (Ty.pair ty62 ty3).den) (fx : Fit (Ty.pair ty62 ty3) x) : SafeW ((evFn (ctxP PmV0 none GmV0 []) Tryd.f116 (Ty.pair ty62 ty3) [some 5, none] (Rsh.tup [some 5, none]) none (Ty.pair ty62 ty3) noL x)) := by
  refine ⟨?_⟩
  rw [se116]
  trivial
theorem ok116 : CtOk Tryd.prog gdS 116 ct116 :=
  fn_okU (ctxOkP pgokPmV0 fvok_none gokGmV0 []) rfl Tryd.func116 (p := (Ty.pair ty62 ty3)) (psh := [some 5, none]) (r := (Ty.pair ty62 ty3)) (rsh := (Rsh.tup [some 5, none])) (pre := none) (fresh := none) (F := Sp.F116) (L := noL) (c := bodyOf Tryd.f116) (dflt := Ty.dflt (Ty.pair ty62 ty3)) rfl (no_loops)
    (safe_no @sa116) va116
/-! door.nudge -/
end Go.Proofs.YtpbljgpdhllklaaDoor.Sy
namespace Go.Proofs.YtpbljgpdhllklaaDoor.Sp
open Go Go.RowKit Sy
def F117 (x : Int × Int × Int × Bool × Int) : (Int × Int × Int × Bool × Int) × Int :=
  (((Sp.F115 (x, (3 : Int))).1, (Sp.F115 (x, (3 : Int))).2.1, (Sp.F115 (x, (3 : Int))).2.2.1, true, (Sp.F115 (x, (3 : Int))).2.2.2.2), (5 : Int))
end Go.Proofs.YtpbljgpdhllklaaDoor.Sp
namespace Go.Proofs.YtpbljgpdhllklaaDoor.Sy
def ct117 : Ct := { p := ty62, psh := [some 5], r := (Ty.pair ty62 ty3), rsh := (Rsh.tup [some 5, none]), pre := none, fresh := none, F := Sp.F117 }
theorem va117 (x : ty62.den) : ((evFn (ctxP PmV0 none GmV0 []) Tryd.f117 ty62 [some 5] (Rsh.tup [some 5, none]) none (Ty.pair ty62 ty3) noL x)).val (fun y => y) (Ty.dflt (Ty.pair ty62 ty3)) = Sp.F117 x := by kernel_rfl
theorem se117 (x : ty62.den) : ((evFn (ctxP PmV0 none GmV0 []) Tryd.f117 ty62 [some 5] (Rsh.tup [some 5, none]) none (Ty.pair ty62 ty3) noL x)).safe = (True) := by kernel_rfl
theorem sa117 (x : ty62.den) (fx : Fit ty62 x) : SafeW ((evFn (ctxP PmV0 none GmV0 []) Tryd.f117 ty62 [some 5] (Rsh.tup [some 5, none]) none (Ty.pair ty62 ty3) noL x)) := by
  refine ⟨?_⟩
  rw [se117]
  trivial
theorem ok117 : CtOk Tryd.prog gdS 117 ct117 :=
  fn_okU (ctxOkP pgokPmV0 fvok_none gokGmV0 []) rfl Tryd.func117 (p := ty62) (psh := [some 5]) (r := (Ty.pair ty62 ty3)) (rsh := (Rsh.tup [some 5, none])) (pre := none) (fresh := none) (F := Sp.F117) (L := noL) (c := bodyOf Tryd.f117) (dflt := Ty.dflt (Ty.pair ty62 ty3)) rfl (no_loops)
    (safe_no @sa117) va117
/-! newcar.watched -/
end Go.Proofs.YtpbljgpdhllklaaDoor.Sy
namespace Go.Proofs.YtpbljgpdhllklaaDoor.Sp
open Go Go.RowKit Sy
def F61 (x : (Int × Int × Int × Int × Int × Int × Int × Int × Int) × ((Int × Int) × (Int × Int × Int × Bool × Int) × (Int × Int × Int) × Int × Int × Int × Bool) × Int) : ((Int × Int) × (Int × Int × Int × Bool × Int) × (Int × Int × Int) × Int × Int × Int × Bool) × Int :=
  bif ((Sp.F88 (x.1, x.2.1.2.1)) || (Sp.F89 (x.1, x.2.1.2.2.1))) then
    ((((0 : Int), (0 : Int)), ((0 : Int), (0 : Int), (0 : Int), false, (0 : Int)), ((0 : Int), (0 : Int), (0 : Int)), (0 : Int), (0 : Int), (0 : Int), true), (0 : Int))
  else
    x.2
end Go.Proofs.YtpbljgpdhllklaaDoor.Sp
namespace Go.Proofs.YtpbljgpdhllklaaDoor.Sy
def ct61 : Ct := { p := (Ty.pair ty76 (Ty.pair ty66 ty3)), psh := [some 9, some 14, none], r := (Ty.pair ty66 ty3), rsh := (Rsh.tup [some 14, none]), pre := none, fresh := none, F := Sp.F61 }
theorem va61 (x : (Ty.pair ty76 (Ty.pair ty66 ty3)).den) : ((evFn (ctxP PmV0 none GmV0 []) Tryd.f61 (Ty.pair ty76 (Ty.pair ty66 ty3)) [some 9, some 14, none] (Rsh.tup [some 14, none]) none (Ty.pair ty66 ty3) noL x)).val (fun y => y) (Ty.dflt (Ty.pair ty66 ty3)) = Sp.F61 x := by kernel_rfl
theorem se61 (x : (Ty.pair ty76 (Ty.pair ty66 ty3)).den) : ((evFn (ctxP PmV0 none GmV0 []) Tryd.f61 (Ty.pair ty76 (Ty.pair ty66 ty3)) [some 9, some 14, none] (Rsh.tup [some 14, none]) none (Ty.pair ty66 ty3) noL x)).safe = (((((Sp.F88 (x.1, x.2.1.2.1)) || (Sp.F89 (x.1, x.2.1.2.2.1))) = true → True) ∧ (((Sp.F88 (x.1, x.2.1.2.1)) || (Sp.F89 (x.1, x.2.1.2.2.1))) = false → True))) := by kernel_rfl
theorem sa61 (x : (Ty.pair ty76 (Ty.pair ty66 ty3)).den) (fx : Fit (Ty.pair ty76 (Ty.pair ty66 ty3)) x) : SafeW ((evFn (ctxP PmV0 none GmV0 []) Tryd.f61 (Ty.pair ty76 (Ty.pair ty66 ty3)) [some 9, some 14, none] (Rsh.tup [some 14, none]) none (Ty.pair ty66 ty3) noL x)) := by
  refine ⟨?_⟩
  rw [se61]
  try dsimp only [Ty.den] at *
  simp only [Fit, maxLen] at fx
  simp only [true_and, IntKind.wrap_i64, IntKind.wrap_u8, IntKind.wrap_u32, IntKind.wrap_u64, Sp.tmod_lit, Sp.tdiv_lit, bne_eq_false_iff_eq, Int.natCast_inj, setE, copyL, sliceL, zrow, List.length_append, List.length_cons, List.length_nil, List.length_set, List.length_replicate, List.length_take, List.length_drop, decide_eq_true_eq, decide_eq_false_iff_not, Bool.or_eq_true, Bool.and_eq_true, Bool.or_eq_false_iff, Bool.and_eq_false_iff, Bool.not_eq_true', Bool.not_eq_false', Bool.not_eq_true, Bool.not_eq_false, beq_iff_eq, beq_eq_false_iff_ne, bne_iff_ne, ne_eq, implies_true, and_true, true_and] at *
  all_goals ((repeat' (first | exact trivial | apply And.intro | intro _)) <;> first | trivial | omega | exact Sp.tmod_nn (by omega) | exact Sp.tmod_lt (by omega) (by omega))
theorem ok61 : CtOk Tryd.prog gdS 61 ct61 :=
  fn_okU (ctxOkP pgokPmV0 fvok_none gokGmV0 []) rfl Tryd.func61 (p := (Ty.pair ty76 (Ty.pair ty66 ty3))) (psh := [some 9, some 14, none]) (r := (Ty.pair ty66 ty3)) (rsh := (Rsh.tup [some 14, none])) (pre := none) (fresh := none) (F := Sp.F61) (L := noL) (c := bodyOf Tryd.f61) (dflt := Ty.dflt (Ty.pair ty66 ty3)) rfl (no_loops)
    (safe_no @sa61) va61
/-! indicator.IsObs -/
end Go.Proofs.YtpbljgpdhllklaaDoor.Sy
namespace Go.Proofs.YtpbljgpdhllklaaDoor.Sp
open Go Go.RowKit Sy
def F51 (x : Int × Int × Int × Int) : Bool :=
  (((((((Sp.F75 x.1) && (decide (x.2.1 ≥ (-1 : Int)))) && (decide (x.2.1 < x.1))) && (decide (x.2.2.1 ≥ (0 : Int)))) && (decide (x.2.2.1 ≤ (3 : Int)))) && (decide (x.2.2.2 ≥ (0 : Int)))) && (decide (x.2.2.2 ≤ (3 : Int))))
end Go.Proofs.YtpbljgpdhllklaaDoor.Sp
namespace Go.Proofs.YtpbljgpdhllklaaDoor.Sy
def ct51 : Ct := { p := (Ty.pair ty3 ty49), psh := [none, some 3], r := ty4, rsh := (Rsh.one (none)), pre := none, fresh := none, F := Sp.F51 }
theorem va51 (x : (Ty.pair ty3 ty49).den) : ((evFn (ctxP PmV0 none GmV0 []) Tryd.f51 (Ty.pair ty3 ty49) [none, some 3] (Rsh.one (none)) none ty4 noL x)).val (fun y => y) (Ty.dflt ty4) = Sp.F51 x := by kernel_rfl
theorem se51 (x : (Ty.pair ty3 ty49).den) : ((evFn (ctxP PmV0 none GmV0 []) Tryd.f51 (Ty.pair ty3 ty49) [none, some 3] (Rsh.one (none)) none ty4 noL x)).safe = (True) := by kernel_rfl
theorem sa51 (x : (Ty.pair ty3 ty49).den) (fx : Fit (Ty.pair ty3 ty49) x) : SafeW ((evFn (ctxP PmV0 none GmV0 []) Tryd.f51 (Ty.pair ty3 ty49) [none, some 3] (Rsh.one (none)) none ty4 noL x)) := by
  refine ⟨?_⟩
  rw [se51]
  trivial
theorem ok51 : CtOk Tryd.prog gdS 51 ct51 :=
  fn_okU (ctxOkP pgokPmV0 fvok_none gokGmV0 []) rfl Tryd.func51 (p := (Ty.pair ty3 ty49)) (psh := [none, some 3]) (r := ty4) (rsh := (Rsh.one (none))) (pre := none) (fresh := none) (F := Sp.F51) (L := noL) (c := bodyOf Tryd.f51) (dflt := Ty.dflt ty4) rfl (no_loops)
    (safe_no @sa51) va51
/-! overlayplay.IsState -/
end Go.Proofs.YtpbljgpdhllklaaDoor.Sy
namespace Go.Proofs.YtpbljgpdhllklaaDoor.Sp
open Go Go.RowKit Sy
def F79 (x : Int × Int × Int × Int × Int × Int × Int) : Bool :=
  bif (((((!(Sp.F81 (x.1, (2 : Int), (32 : Int)))) || (!(Sp.F81 (x.2.1, (0 : Int), (IntKind.i64.wrap (x.1 - (1 : Int))))))) || (!(Sp.F81 (x.2.2.1, (0 : Int), (IntKind.i64.wrap (x.1 - (1 : Int))))))) || (!(Sp.F81 ((IntKind.i64.wrap (x.2.2.1 - x.2.1)), (-1 : Int), (1 : Int))))) || (!(Sp.F81 (x.2.2.2.2.1, (0 : Int), (2 : Int))))) then
    false
  else
    bif (((x.2.2.1 == x.2.1) && (x.2.2.2.1 != (0 : Int))) || ((x.2.2.1 != x.2.1) && ((!(Sp.F81 (x.2.2.2.1, (1 : Int), (10000 : Int)))) || (x.2.2.2.2.1 != (2 : Int))))) then
      false
    else
      bif (x.2.2.2.2.1 == (0 : Int)) then
        ((Sp.F81 (x.2.2.2.2.2.1, (1 : Int), (2 : Int))) && (Sp.F81 (x.2.2.2.2.2.2, (1 : Int), (10000 : Int))))
      else
        ((x.2.2.2.2.2.1 == (0 : Int)) && (x.2.2.2.2.2.2 == (0 : Int)))
end Go.Proofs.YtpbljgpdhllklaaDoor.Sp
namespace Go.Proofs.YtpbljgpdhllklaaDoor.Sy
def ct79 : Ct := { p := (Ty.pair ty3 ty96), psh := [none, some 6], r := ty4, rsh := (Rsh.one (none)), pre := none, fresh := none, F := Sp.F79 }
theorem va79 (x : (Ty.pair ty3 ty96).den) : ((evFn (ctxP PmV0 none GmV0 []) Tryd.f79 (Ty.pair ty3 ty96) [none, some 6] (Rsh.one (none)) none ty4 noL x)).val (fun y => y) (Ty.dflt ty4) = Sp.F79 x := by kernel_rfl
theorem se79 (x : (Ty.pair ty3 ty96).den) : ((evFn (ctxP PmV0 none GmV0 []) Tryd.f79 (Ty.pair ty3 ty96) [none, some 6] (Rsh.one (none)) none ty4 noL x)).safe = ((((((((!(Sp.F81 (x.1, (2 : Int), (32 : Int)))) || (!(Sp.F81 (x.2.1, (0 : Int), (IntKind.i64.wrap (x.1 - (1 : Int))))))) || (!(Sp.F81 (x.2.2.1, (0 : Int), (IntKind.i64.wrap (x.1 - (1 : Int))))))) || (!(Sp.F81 ((IntKind.i64.wrap (x.2.2.1 - x.2.1)), (-1 : Int), (1 : Int))))) || (!(Sp.F81 (x.2.2.2.2.1, (0 : Int), (2 : Int))))) = true → True) ∧ ((((((!(Sp.F81 (x.1, (2 : Int), (32 : Int)))) || (!(Sp.F81 (x.2.1, (0 : Int), (IntKind.i64.wrap (x.1 - (1 : Int))))))) || (!(Sp.F81 (x.2.2.1, (0 : Int), (IntKind.i64.wrap (x.1 - (1 : Int))))))) || (!(Sp.F81 ((IntKind.i64.wrap (x.2.2.1 - x.2.1)), (-1 : Int), (1 : Int))))) || (!(Sp.F81 (x.2.2.2.2.1, (0 : Int), (2 : Int))))) = false → (((((x.2.2.1 == x.2.1) && (x.2.2.2.1 != (0 : Int))) || ((x.2.2.1 != x.2.1) && ((!(Sp.F81 (x.2.2.2.1, (1 : Int), (10000 : Int)))) || (x.2.2.2.2.1 != (2 : Int))))) = true → True) ∧ ((((x.2.2.1 == x.2.1) && (x.2.2.2.1 != (0 : Int))) || ((x.2.2.1 != x.2.1) && ((!(Sp.F81 (x.2.2.2.1, (1 : Int), (10000 : Int)))) || (x.2.2.2.2.1 != (2 : Int))))) = false → (((x.2.2.2.2.1 == (0 : Int)) = true → True) ∧ ((x.2.2.2.2.1 == (0 : Int)) = false → True))))))) := by kernel_rfl
theorem sa79 (x : (Ty.pair ty3 ty96).den) (fx : Fit (Ty.pair ty3 ty96) x) : SafeW ((evFn (ctxP PmV0 none GmV0 []) Tryd.f79 (Ty.pair ty3 ty96) [none, some 6] (Rsh.one (none)) none ty4 noL x)) := by
  refine ⟨?_⟩
  rw [se79]
  try dsimp only [Ty.den] at *
  simp only [Fit, maxLen] at fx
  simp only [true_and, IntKind.wrap_i64, IntKind.wrap_u8, IntKind.wrap_u32, IntKind.wrap_u64, Sp.tmod_lit, Sp.tdiv_lit, bne_eq_false_iff_eq, Int.natCast_inj, setE, copyL, sliceL, zrow, List.length_append, List.length_cons, List.length_nil, List.length_set, List.length_replicate, List.length_take, List.length_drop, decide_eq_true_eq, decide_eq_false_iff_not, Bool.or_eq_true, Bool.and_eq_true, Bool.or_eq_false_iff, Bool.and_eq_false_iff, Bool.not_eq_true', Bool.not_eq_false', Bool.not_eq_true, Bool.not_eq_false, beq_iff_eq, beq_eq_false_iff_ne, bne_iff_ne, ne_eq, implies_true, and_true, true_and] at *
  all_goals ((repeat' (first | exact trivial | apply And.intro | intro _)) <;> first | trivial | omega | exact Sp.tmod_nn (by omega) | exact Sp.tmod_lt (by omega) (by omega))
theorem ok79 : CtOk Tryd.prog gdS 79 ct79 :=
  fn_okU (ctxOkP pgokPmV0 fvok_none gokGmV0 []) rfl Tryd.func79 (p := (Ty.pair ty3 ty96)) (psh := [none, some 6]) (r := ty4) (rsh := (Rsh.one (none))) (pre := none) (fresh := none) (F := Sp.F79) (L := noL) (c := bodyOf Tryd.f79) (dflt := Ty.dflt ty4) rfl (no_loops)
    (safe_no @sa79) va79
def GmV1 : List (Nat × Ct) := (82, ct82) :: (83, ct83) :: (90, ct90) :: (116, ct116) :: (117, ct117) :: (61, ct61) :: (51, ct51) :: (79, ct79) :: GmV0
theorem gokGmV1 : GOk GmV1 := gok_cons ok82 ⟨_, Tryd.func82, by kernel_rfl, by kernel_rfl⟩ (gok_cons ok83 ⟨_, Tryd.func83, by kernel_rfl, by kernel_rfl⟩ (gok_cons ok90 ⟨_, Tryd.func90, by kernel_rfl, by kernel_rfl⟩ (gok_cons ok116 ⟨_, Tryd.func116, by kernel_rfl, by kernel_rfl⟩ (gok_cons ok117 ⟨_, Tryd.func117, by kernel_rfl, by kernel_rfl⟩ (gok_cons ok61 ⟨_, Tryd.func61, by kernel_rfl, by kernel_rfl⟩ (gok_cons ok51 ⟨_, Tryd.func51, by kernel_rfl, by kernel_rfl⟩ (gok_cons ok79 ⟨_, Tryd.func79, by kernel_rfl, by kernel_rfl⟩ (gokGmV0))))))))
end Go.Proofs.YtpbljgpdhllklaaDoor.Sy
end
