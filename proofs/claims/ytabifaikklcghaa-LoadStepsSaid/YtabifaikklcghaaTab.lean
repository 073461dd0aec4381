/- The types of this seat, for the evaluator; written by own program mktab.py. -/
import Derived.Test.YtabifaikklcghaaProg
import Derived.Lib.Tables
import Derived.Test.YtabifaikklcghaaSg
namespace Go.Proofs.Ytabifaikklcghaa.Sy
open Go
set_option linter.unusedVariables false
set_option linter.unusedSimpArgs false

abbrev ty3 : Ty := (.int .i64)
abbrev ty4 : Ty := .bool
abbrev ty5 : Ty := (.int .u8)
abbrev ty9 : Ty := .str
abbrev ty23 : Ty := (.pair (.int .i64) (.pair (.int .i64) (.pair (.int .i64) (.pair (.int .i64) (.int .i64)))))
abbrev ty25 : Ty := (.flt .f64)
abbrev ty26 : Ty := (.sl (.pair (.int .i64) (.pair (.int .i64) (.pair (.int .i64) (.pair (.int .i64) (.pair (.int .i64) (.pair (.int .i64) (.pair (.int .i64) (.pair (.int .i64) (.int .i64))))))))))
abbrev ty28 : Ty := (.pair (.int .i64) (.pair (.int .i64) (.pair (.int .i64) (.pair (.int .i64) (.pair (.flt .f64) (.pair (.flt .f64) (.pair (.flt .f64) (.sl (.pair (.int .i64) (.pair (.int .i64) (.pair (.int .i64) (.pair (.int .i64) (.pair (.int .i64) (.pair (.int .i64) (.pair (.int .i64) (.pair (.int .i64) (.int .i64)))))))))))))))))
abbrev ty30 : Ty := (.int .i64)
abbrev ty35 : Ty := (.sl (.int .u8))
abbrev ty36 : Ty := (.sl .str)
abbrev ty40 : Ty := (.sl (.pair (.int .i64) (.pair (.int .i64) (.pair (.int .i64) (.pair (.int .i64) (.int .i64))))))
abbrev ty44 : Ty := (.sl (.flt .f64))
abbrev ty45 : Ty := (.pair (.flt .f64) (.pair (.flt .f64) (.flt .f64)))
abbrev ty47 : Ty := (.sl (.int .i64))
abbrev ty50 : Ty := (.int .i64)
abbrev ty57 : Ty := (.int .u64)
abbrev ty72 : Ty := (.pair (.int .i64) (.pair (.int .i64) (.pair (.int .i64) (.pair (.int .i64) (.pair (.int .i64) (.pair (.int .i64) (.pair (.int .i64) (.pair (.int .i64) (.int .i64)))))))))
abbrev ty78 : Ty := (.int .u64)
def td3 : TD := { kind := .prim, ty := ty3, agg := false, bytes := 8, eq := false }
def td4 : TD := { kind := .prim, ty := ty4, agg := false, bytes := 1, eq := false }
def td5 : TD := { kind := .prim, ty := ty5, agg := false, bytes := 1, eq := false }
def td9 : TD := { kind := .prim, ty := ty9, agg := false, bytes := 16, eq := false }
def td23 : TD := { kind := .struct [(3, 0), (3, 1), (3, 2), (3, 3), (3, 4)], ty := ty23, agg := true, bytes := 40, eq := true }
def td25 : TD := { kind := .prim, ty := ty25, agg := false, bytes := 8, eq := false }
def td26 : TD := { kind := .slice 72, ty := ty26, agg := false, bytes := 24, eq := false }
def td28 : TD := { kind := .struct [(3, 0), (3, 1), (3, 2), (3, 3), (25, 4), (25, 5), (25, 6), (26, 7)], ty := ty28, agg := true, bytes := 80, eq := false }
def td30 : TD := { kind := .prim, ty := ty30, agg := false, bytes := 8, eq := false }
def td35 : TD := { kind := .slice 5, ty := ty35, agg := false, bytes := 24, eq := false }
def td36 : TD := { kind := .slice 9, ty := ty36, agg := false, bytes := 24, eq := false }
def td40 : TD := { kind := .slice 23, ty := ty40, agg := false, bytes := 24, eq := false }
def td44 : TD := { kind := .slice 25, ty := ty44, agg := false, bytes := 24, eq := false }
def td45 : TD := { kind := .array 3 25, ty := ty45, agg := true, bytes := 24, eq := false }
def td47 : TD := { kind := .slice 3, ty := ty47, agg := false, bytes := 24, eq := false }
def td50 : TD := { kind := .struct [(3, 0)], ty := ty50, agg := true, bytes := 8, eq := true }
def td57 : TD := { kind := .prim, ty := ty57, agg := false, bytes := 8, eq := false }
def td72 : TD := { kind := .struct [(3, 0), (3, 1), (3, 2), (3, 3), (3, 4), (3, 5), (3, 6), (3, 7), (3, 8)], ty := ty72, agg := true, bytes := 72, eq := true }
def td78 : TD := { kind := .prim, ty := ty78, agg := false, bytes := 8, eq := false }
def tabL : List (Nat × TD) := [(3, td3), (4, td4), (5, td5), (9, td9), (23, td23), (25, td25), (26, td26), (28, td28), (30, td30), (35, td35), (36, td36), (40, td40), (44, td44), (45, td45), (47, td47), (50, td50), (57, td57), (72, td72), (78, td78)]
theorem io3 : InfoOk Try.prog 3 ty3 false := infoOk_mk (by kernel_rfl)
theorem io4 : InfoOk Try.prog 4 ty4 false := infoOk_mk (by kernel_rfl)
theorem io5 : InfoOk Try.prog 5 ty5 false := infoOk_mk (by kernel_rfl)
theorem io9 : InfoOk Try.prog 9 ty9 false := infoOk_mk (by kernel_rfl)
theorem io23 : InfoOk Try.prog 23 ty23 true := infoOk_mk (by kernel_rfl)
theorem io25 : InfoOk Try.prog 25 ty25 false := infoOk_mk (by kernel_rfl)
theorem io26 : InfoOk Try.prog 26 ty26 false := infoOk_mk (by kernel_rfl)
theorem io28 : InfoOk Try.prog 28 ty28 true := infoOk_mk (by kernel_rfl)
theorem io30 : InfoOk Try.prog 30 ty30 false := infoOk_mk (by kernel_rfl)
theorem io35 : InfoOk Try.prog 35 ty35 false := infoOk_mk (by kernel_rfl)
theorem io36 : InfoOk Try.prog 36 ty36 false := infoOk_mk (by kernel_rfl)
theorem io40 : InfoOk Try.prog 40 ty40 false := infoOk_mk (by kernel_rfl)
theorem io44 : InfoOk Try.prog 44 ty44 false := infoOk_mk (by kernel_rfl)
theorem io45 : InfoOk Try.prog 45 ty45 true := infoOk_mk (by kernel_rfl)
theorem io47 : InfoOk Try.prog 47 ty47 false := infoOk_mk (by kernel_rfl)
theorem io50 : InfoOk Try.prog 50 ty50 true := infoOk_mk (by kernel_rfl)
theorem io57 : InfoOk Try.prog 57 ty57 false := infoOk_mk (by kernel_rfl)
theorem io72 : InfoOk Try.prog 72 ty72 true := infoOk_mk (by kernel_rfl)
theorem io78 : InfoOk Try.prog 78 ty78 false := infoOk_mk (by kernel_rfl)
theorem to3 : TDOk Try.prog 3 td3 := tdOk_mk (d := td3) Try.underlying3 io3 rfl rfl (fun _ => rfl) (fun _ => rfl)
theorem to4 : TDOk Try.prog 4 td4 := tdOk_mk (d := td4) Try.underlying4 io4 rfl rfl (fun _ => rfl) (fun _ => rfl)
theorem to5 : TDOk Try.prog 5 td5 := tdOk_mk (d := td5) Try.underlying5 io5 rfl rfl (fun _ => rfl) (fun _ => rfl)
theorem to9 : TDOk Try.prog 9 td9 := tdOk_mk (d := td9) Try.underlying9 io9 rfl rfl (fun _ => rfl) (fun _ => rfl)
theorem to23 : TDOk Try.prog 23 td23 := tdOk_mk (d := td23) Try.underlying23 io23 rfl ⟨rfl, _, rfl, rfl, all_info (by kernel_rfl)⟩ (fun h => by cases h) (fun h => by cases h)
theorem to25 : TDOk Try.prog 25 td25 := tdOk_mk (d := td25) Try.underlying25 io25 rfl rfl (fun _ => rfl) (fun _ => rfl)
theorem to26 : TDOk Try.prog 26 td26 := tdOk_mk (d := td26) Try.underlying26 io26 rfl ⟨rfl, rfl, _, _, rfl, io72⟩ (fun _ => ⟨_, rfl⟩) (fun _ => rfl)
theorem to28 : TDOk Try.prog 28 td28 := tdOk_mk (d := td28) Try.underlying28 io28 rfl ⟨rfl, _, rfl, rfl, all_info (by kernel_rfl)⟩ (fun h => by cases h) (fun h => by cases h)
theorem to30 : TDOk Try.prog 30 td30 := tdOk_mk (d := td30) Try.underlying30 io30 rfl rfl (fun _ => rfl) (fun _ => rfl)
theorem to35 : TDOk Try.prog 35 td35 := tdOk_mk (d := td35) Try.underlying35 io35 rfl ⟨rfl, rfl, _, _, rfl, io5⟩ (fun _ => ⟨_, rfl⟩) (fun _ => rfl)
theorem to36 : TDOk Try.prog 36 td36 := tdOk_mk (d := td36) Try.underlying36 io36 rfl ⟨rfl, rfl, _, _, rfl, io9⟩ (fun _ => ⟨_, rfl⟩) (fun _ => rfl)
theorem to40 : TDOk Try.prog 40 td40 := tdOk_mk (d := td40) Try.underlying40 io40 rfl ⟨rfl, rfl, _, _, rfl, io23⟩ (fun _ => ⟨_, rfl⟩) (fun _ => rfl)
theorem to44 : TDOk Try.prog 44 td44 := tdOk_mk (d := td44) Try.underlying44 io44 rfl ⟨rfl, rfl, _, _, rfl, io25⟩ (fun _ => ⟨_, rfl⟩) (fun _ => rfl)
theorem to45 : TDOk Try.prog 45 td45 := tdOk_mk (d := td45) Try.underlying45 io45 rfl ⟨rfl, rfl⟩ (fun h => by cases h) (fun h => by cases h)
theorem to47 : TDOk Try.prog 47 td47 := tdOk_mk (d := td47) Try.underlying47 io47 rfl ⟨rfl, rfl, _, _, rfl, io3⟩ (fun _ => ⟨_, rfl⟩) (fun _ => rfl)
theorem to50 : TDOk Try.prog 50 td50 := tdOk_mk (d := td50) Try.underlying50 io50 rfl ⟨rfl, _, rfl, rfl, all_info (by kernel_rfl)⟩ (fun h => by cases h) (fun h => by cases h)
theorem to57 : TDOk Try.prog 57 td57 := tdOk_mk (d := td57) Try.underlying57 io57 rfl rfl (fun _ => rfl) (fun _ => rfl)
theorem to72 : TDOk Try.prog 72 td72 := tdOk_mk (d := td72) Try.underlying72 io72 rfl ⟨rfl, _, rfl, rfl, all_info (by kernel_rfl)⟩ (fun h => by cases h) (fun h => by cases h)
theorem to78 : TDOk Try.prog 78 td78 := tdOk_mk (d := td78) Try.underlying78 io78 rfl rfl (fun _ => rfl) (fun _ => rfl)
theorem eq3 (dd : Nat) : EqT Try.prog (dd + 1) 3 ty3 false := eqT_int Try.underlying3 dd
theorem eq23 (dd : Nat) : EqT Try.prog (dd + 2) 23 ty23 true := eqT_struct Try.underlying23 Try.stoodInHeld23 (dd := dd + 1) ⟨by decide, rfl, ⟨td3, to3, rfl, eq3 (dd + 0)⟩, ⟨by decide, rfl, ⟨td3, to3, rfl, eq3 (dd + 0)⟩, ⟨by decide, rfl, ⟨td3, to3, rfl, eq3 (dd + 0)⟩, ⟨by decide, rfl, ⟨td3, to3, rfl, eq3 (dd + 0)⟩, ⟨by decide, rfl, td3, to3, rfl, eq3 (dd + 0)⟩⟩⟩⟩⟩
theorem eq50 (dd : Nat) : EqT Try.prog (dd + 2) 50 ty50 true := eqT_struct Try.underlying50 Try.stoodInHeld50 (dd := dd + 1) ⟨by decide, rfl, td3, to3, rfl, eq3 (dd + 0)⟩
theorem eq72 (dd : Nat) : EqT Try.prog (dd + 2) 72 ty72 true := eqT_struct Try.underlying72 Try.stoodInHeld72 (dd := dd + 1) ⟨by decide, rfl, ⟨td3, to3, rfl, eq3 (dd + 0)⟩, ⟨by decide, rfl, ⟨td3, to3, rfl, eq3 (dd + 0)⟩, ⟨by decide, rfl, ⟨td3, to3, rfl, eq3 (dd + 0)⟩, ⟨by decide, rfl, ⟨td3, to3, rfl, eq3 (dd + 0)⟩, ⟨by decide, rfl, ⟨td3, to3, rfl, eq3 (dd + 0)⟩, ⟨by decide, rfl, ⟨td3, to3, rfl, eq3 (dd + 0)⟩, ⟨by decide, rfl, ⟨td3, to3, rfl, eq3 (dd + 0)⟩, ⟨by decide, rfl, ⟨td3, to3, rfl, eq3 (dd + 0)⟩, ⟨by decide, rfl, td3, to3, rfl, eq3 (dd + 0)⟩⟩⟩⟩⟩⟩⟩⟩⟩
theorem tabOk : ∀ t d, lookupD tabL t = some d → TDOk Try.prog t d := by
  intro t d h
  have h := lookupD_mem h
  simp only [tabL, List.mem_cons, Prod.mk.injEq, List.not_mem_nil, or_false] at h
  rcases h with ⟨rfl, rfl⟩ | ⟨rfl, rfl⟩ | ⟨rfl, rfl⟩ | ⟨rfl, rfl⟩ | ⟨rfl, rfl⟩ | ⟨rfl, rfl⟩ | ⟨rfl, rfl⟩ | ⟨rfl, rfl⟩ | ⟨rfl, rfl⟩ | ⟨rfl, rfl⟩ | ⟨rfl, rfl⟩ | ⟨rfl, rfl⟩ | ⟨rfl, rfl⟩ | ⟨rfl, rfl⟩ | ⟨rfl, rfl⟩ | ⟨rfl, rfl⟩ | ⟨rfl, rfl⟩ | ⟨rfl, rfl⟩ | ⟨rfl, rfl⟩
  · exact to3
  · exact to4
  · exact to5
  · exact to9
  · exact to23
  · exact to25
  · exact to26
  · exact to28
  · exact to30
  · exact to35
  · exact to36
  · exact to40
  · exact to44
  · exact to45
  · exact to47
  · exact to50
  · exact to57
  · exact to72
  · exact to78
theorem bytesOk : ∀ t d i, lookupD tabL t = some d → Try.prog.info? t = some i → 0 < d.ty.n → i.bytes = d.bytes := by
  intro t d i h hi _
  have h := lookupD_mem h
  simp only [tabL, List.mem_cons, Prod.mk.injEq, List.not_mem_nil, or_false] at h
  rcases h with ⟨rfl, rfl⟩ | ⟨rfl, rfl⟩ | ⟨rfl, rfl⟩ | ⟨rfl, rfl⟩ | ⟨rfl, rfl⟩ | ⟨rfl, rfl⟩ | ⟨rfl, rfl⟩ | ⟨rfl, rfl⟩ | ⟨rfl, rfl⟩ | ⟨rfl, rfl⟩ | ⟨rfl, rfl⟩ | ⟨rfl, rfl⟩ | ⟨rfl, rfl⟩ | ⟨rfl, rfl⟩ | ⟨rfl, rfl⟩ | ⟨rfl, rfl⟩ | ⟨rfl, rfl⟩ | ⟨rfl, rfl⟩ | ⟨rfl, rfl⟩
  · exact bytes_mk (by kernel_rfl) i hi
  · exact bytes_mk (by kernel_rfl) i hi
  · exact bytes_mk (by kernel_rfl) i hi
  · exact bytes_mk (by kernel_rfl) i hi
  · exact bytes_mk (by kernel_rfl) i hi
  · exact bytes_mk (by kernel_rfl) i hi
  · exact bytes_mk (by kernel_rfl) i hi
  · exact bytes_mk (by kernel_rfl) i hi
  · exact bytes_mk (by kernel_rfl) i hi
  · exact bytes_mk (by kernel_rfl) i hi
  · exact bytes_mk (by kernel_rfl) i hi
  · exact bytes_mk (by kernel_rfl) i hi
  · exact bytes_mk (by kernel_rfl) i hi
  · exact bytes_mk (by kernel_rfl) i hi
  · exact bytes_mk (by kernel_rfl) i hi
  · exact bytes_mk (by kernel_rfl) i hi
  · exact bytes_mk (by kernel_rfl) i hi
  · exact bytes_mk (by kernel_rfl) i hi
  · exact bytes_mk (by kernel_rfl) i hi
def xtL : List (Nat × Xt) := [(54, .f64from), (55, .f64bits)]
theorem xt54 : XtOk Try.prog 54 .f64from := fun _ _ => by kernel_rfl
theorem xt55 : XtOk Try.prog 55 .f64bits := fun _ _ => by kernel_rfl
theorem xtOk : ∀ f x, lookXt xtL f = some x → XtOk Try.prog f x := lookXt_cons xt54 (lookXt_cons xt55 (fun _ _ h => by cases h))
def gdS : Gd := gdNone
def gvS : Nat → Option (Sigma fun e : Ty => List e.den) := fun _ => none
theorem gvOk : ∀ g e l, gvS g = some ⟨e, l⟩ → ∃ b, gdS.gl b ∧ ∀ (a : Act) (w : World) (X : Nat → Nat → Prop), gdS.H w → (∀ b p, X b p → ¬ gdS.gl b) → a.eval (.global g) = .pointer (some ⟨b, 0, none⟩) ∧ RowsOk w X e.n (TR w X e) l b 0 := fun g e l h => by cases h
theorem eqOk : ∀ t d, lookupD tabL t = some d → d.eq = true → ∀ (m : Map) (X : Nat → Nat → Prop) (w : World) (xs ys : List Cell) (r : Bool) (us vs : List Value), eqTy d.ty xs ys = some r → CRs m X w xs us → CRs m X w ys vs →
    xs.length = d.ty.n → ys.length = d.ty.n →
    (eqGuard .eql t (.tmp 0) (.tmp 0) (.agg us.toArray) (.agg vs.toArray) >>= fun _ => binOp .eql t (.agg us.toArray) (.agg vs.toArray)).run Try.prog w = .ok (.bool r) w ∧
    (eqGuard .neq t (.tmp 0) (.tmp 0) (.agg us.toArray) (.agg vs.toArray) >>= fun _ => binOp .neq t (.agg us.toArray) (.agg vs.toArray)).run Try.prog w = .ok (.bool (!r)) w := by
  intro t d h he
  have h := lookupD_mem h
  simp only [tabL, List.mem_cons, Prod.mk.injEq, List.not_mem_nil, or_false] at h
  rcases h with ⟨rfl, rfl⟩ | ⟨rfl, rfl⟩ | ⟨rfl, rfl⟩ | ⟨rfl, rfl⟩ | ⟨rfl, rfl⟩ | ⟨rfl, rfl⟩ | ⟨rfl, rfl⟩ | ⟨rfl, rfl⟩ | ⟨rfl, rfl⟩ | ⟨rfl, rfl⟩ | ⟨rfl, rfl⟩ | ⟨rfl, rfl⟩ | ⟨rfl, rfl⟩ | ⟨rfl, rfl⟩ | ⟨rfl, rfl⟩ | ⟨rfl, rfl⟩ | ⟨rfl, rfl⟩ | ⟨rfl, rfl⟩ | ⟨rfl, rfl⟩
  · cases he
  · cases he
  · cases he
  · cases he
  · exact fun m X w xs ys r us vs h1 h2 h3 _ _ => eqFact (eq23 9998) Try.eqGuardType23 m X w xs ys r us vs h1 h2 h3
  · cases he
  · cases he
  · cases he
  · cases he
  · cases he
  · cases he
  · cases he
  · cases he
  · cases he
  · cases he
  · exact fun m X w xs ys r us vs h1 h2 h3 _ _ => eqFact (eq50 9998) Try.eqGuardType50 m X w xs ys r us vs h1 h2 h3
  · cases he
  · exact fun m X w xs ys r us vs h1 h2 h3 _ _ => eqFact (eq72 9998) Try.eqGuardType72 m X w xs ys r us vs h1 h2 h3
  · cases he
end Go.Proofs.Ytabifaikklcghaa.Sy
