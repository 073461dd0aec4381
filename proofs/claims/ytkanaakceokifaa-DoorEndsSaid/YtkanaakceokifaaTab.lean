/- The types of this seat, for the evaluator; written by own program mktab.py. -/
import Derived.Test.YtkanaakceokifaaProg
import Derived.Test.YtkanaakceokifaaSg
namespace Go.Proofs.Ytkanaakceokifaa.Sy
open Go
set_option linter.unusedVariables false
set_option linter.unusedSimpArgs false

abbrev ty3 : Ty := (.int .i64)
abbrev ty4 : Ty := .bool
abbrev ty5 : Ty := (.int .u8)
abbrev ty22 : Ty := (.flt .f64)
abbrev ty23 : Ty := (.sl (.pair (.int .i64) (.pair (.int .i64) (.pair (.int .i64) (.pair (.int .i64) (.pair (.int .i64) (.pair (.int .i64) (.pair (.int .i64) (.pair (.int .i64) (.int .i64))))))))))
abbrev ty25 : Ty := (.pair (.int .i64) (.pair (.int .i64) (.pair (.int .i64) (.pair (.int .i64) (.pair (.flt .f64) (.pair (.flt .f64) (.pair (.flt .f64) (.sl (.pair (.int .i64) (.pair (.int .i64) (.pair (.int .i64) (.pair (.int .i64) (.pair (.int .i64) (.pair (.int .i64) (.pair (.int .i64) (.pair (.int .i64) (.int .i64)))))))))))))))))
abbrev ty26 : Ty := (.int .i64)
abbrev ty33 : Ty := (.pair (.int .i64) (.pair (.int .i64) (.pair (.int .i64) (.pair (.int .i64) (.pair (.int .i64) (.pair (.int .i64) (.pair (.int .i64) (.pair (.int .i64) (.int .i64)))))))))
abbrev ty36 : Ty := (.pair (.int .u8) (.pair (.int .u8) (.int .u8)))
abbrev ty40 : Ty := (.sl (.pair (.int .i64) (.pair .bool .bool)))
abbrev ty42 : Ty := (.pair (.int .i64) (.pair (.int .i64) (.pair (.int .i64) (.pair .bool (.int .i64)))))
abbrev ty46 : Ty := (.pair (.int .i64) (.pair .bool .bool))
abbrev ty48 : Ty := (.pair (.int .u8) (.int .u8))
abbrev ty50 : Ty := (.sl (.int .u8))
abbrev ty51 : Ty := (.sl (.int .i64))
abbrev ty54 : Ty := (.int .u64)
abbrev ty55 : Ty := (.int .u32)
abbrev ty57 : Ty := (.pair (.int .u32) (.int .u32))
abbrev ty66 : Ty := (.sl (.flt .f64))
abbrev ty79 : Ty := (.int .u64)
def td3 : TD := { kind := .prim, ty := ty3, agg := false, bytes := 8, eq := false }
def td4 : TD := { kind := .prim, ty := ty4, agg := false, bytes := 1, eq := false }
def td5 : TD := { kind := .prim, ty := ty5, agg := false, bytes := 1, eq := false }
def td22 : TD := { kind := .prim, ty := ty22, agg := false, bytes := 8, eq := false }
def td23 : TD := { kind := .slice 33, ty := ty23, agg := false, bytes := 24, eq := false }
def td25 : TD := { kind := .struct [(3, 0), (3, 1), (3, 2), (3, 3), (22, 4), (22, 5), (22, 6), (23, 7)], ty := ty25, agg := true, bytes := 80, eq := false }
def td26 : TD := { kind := .prim, ty := ty26, agg := false, bytes := 8, eq := false }
def td33 : TD := { kind := .struct [(3, 0), (3, 1), (3, 2), (3, 3), (3, 4), (3, 5), (3, 6), (3, 7), (3, 8)], ty := ty33, agg := true, bytes := 72, eq := true }
def td36 : TD := { kind := .array 3 5, ty := ty36, agg := true, bytes := 3, eq := false }
def td40 : TD := { kind := .slice 46, ty := ty40, agg := false, bytes := 24, eq := false }
def td42 : TD := { kind := .struct [(3, 0), (3, 1), (3, 2), (4, 3), (3, 4)], ty := ty42, agg := true, bytes := 40, eq := true }
def td46 : TD := { kind := .struct [(3, 0), (4, 1), (4, 2)], ty := ty46, agg := true, bytes := 16, eq := true }
def td48 : TD := { kind := .array 2 5, ty := ty48, agg := true, bytes := 2, eq := false }
def td50 : TD := { kind := .slice 5, ty := ty50, agg := false, bytes := 24, eq := false }
def td51 : TD := { kind := .slice 3, ty := ty51, agg := false, bytes := 24, eq := false }
def td54 : TD := { kind := .prim, ty := ty54, agg := false, bytes := 8, eq := false }
def td55 : TD := { kind := .prim, ty := ty55, agg := false, bytes := 4, eq := false }
def td57 : TD := { kind := .struct [(55, 0), (55, 1)], ty := ty57, agg := true, bytes := 8, eq := true }
def td66 : TD := { kind := .slice 22, ty := ty66, agg := false, bytes := 24, eq := false }
def td79 : TD := { kind := .prim, ty := ty79, agg := false, bytes := 8, eq := false }
def tabL : List (Nat × TD) := [(3, td3), (4, td4), (5, td5), (22, td22), (23, td23), (25, td25), (26, td26), (33, td33), (36, td36), (40, td40), (42, td42), (46, td46), (48, td48), (50, td50), (51, td51), (54, td54), (55, td55), (57, td57), (66, td66), (79, td79)]
theorem io3 : InfoOk Try.prog 3 ty3 false := infoOk_mk (by kernel_rfl)
theorem io4 : InfoOk Try.prog 4 ty4 false := infoOk_mk (by kernel_rfl)
theorem io5 : InfoOk Try.prog 5 ty5 false := infoOk_mk (by kernel_rfl)
theorem io22 : InfoOk Try.prog 22 ty22 false := infoOk_mk (by kernel_rfl)
theorem io23 : InfoOk Try.prog 23 ty23 false := infoOk_mk (by kernel_rfl)
theorem io25 : InfoOk Try.prog 25 ty25 true := infoOk_mk (by kernel_rfl)
theorem io26 : InfoOk Try.prog 26 ty26 false := infoOk_mk (by kernel_rfl)
theorem io33 : InfoOk Try.prog 33 ty33 true := infoOk_mk (by kernel_rfl)
theorem io36 : InfoOk Try.prog 36 ty36 true := infoOk_mk (by kernel_rfl)
theorem io40 : InfoOk Try.prog 40 ty40 false := infoOk_mk (by kernel_rfl)
theorem io42 : InfoOk Try.prog 42 ty42 true := infoOk_mk (by kernel_rfl)
theorem io46 : InfoOk Try.prog 46 ty46 true := infoOk_mk (by kernel_rfl)
theorem io48 : InfoOk Try.prog 48 ty48 true := infoOk_mk (by kernel_rfl)
theorem io50 : InfoOk Try.prog 50 ty50 false := infoOk_mk (by kernel_rfl)
theorem io51 : InfoOk Try.prog 51 ty51 false := infoOk_mk (by kernel_rfl)
theorem io54 : InfoOk Try.prog 54 ty54 false := infoOk_mk (by kernel_rfl)
theorem io55 : InfoOk Try.prog 55 ty55 false := infoOk_mk (by kernel_rfl)
theorem io57 : InfoOk Try.prog 57 ty57 true := infoOk_mk (by kernel_rfl)
theorem io66 : InfoOk Try.prog 66 ty66 false := infoOk_mk (by kernel_rfl)
theorem io79 : InfoOk Try.prog 79 ty79 false := infoOk_mk (by kernel_rfl)
theorem to3 : TDOk Try.prog 3 td3 := tdOk_mk (d := td3) Try.underlying3 io3 rfl rfl (fun _ => rfl) (fun _ => rfl)
theorem to4 : TDOk Try.prog 4 td4 := tdOk_mk (d := td4) Try.underlying4 io4 rfl rfl (fun _ => rfl) (fun _ => rfl)
theorem to5 : TDOk Try.prog 5 td5 := tdOk_mk (d := td5) Try.underlying5 io5 rfl rfl (fun _ => rfl) (fun _ => rfl)
theorem to22 : TDOk Try.prog 22 td22 := tdOk_mk (d := td22) Try.underlying22 io22 rfl rfl (fun _ => rfl) (fun _ => rfl)
theorem to23 : TDOk Try.prog 23 td23 := tdOk_mk (d := td23) Try.underlying23 io23 rfl ⟨rfl, rfl, _, _, rfl, io33⟩ (fun _ => ⟨_, rfl⟩) (fun _ => rfl)
theorem to25 : TDOk Try.prog 25 td25 := tdOk_mk (d := td25) Try.underlying25 io25 rfl ⟨rfl, _, rfl, rfl, all_info (by kernel_rfl)⟩ (fun h => by cases h) (fun h => by cases h)
theorem to26 : TDOk Try.prog 26 td26 := tdOk_mk (d := td26) Try.underlying26 io26 rfl rfl (fun _ => rfl) (fun _ => rfl)
theorem to33 : TDOk Try.prog 33 td33 := tdOk_mk (d := td33) Try.underlying33 io33 rfl ⟨rfl, _, rfl, rfl, all_info (by kernel_rfl)⟩ (fun h => by cases h) (fun h => by cases h)
theorem to36 : TDOk Try.prog 36 td36 := tdOk_mk (d := td36) Try.underlying36 io36 rfl ⟨rfl, rfl⟩ (fun h => by cases h) (fun h => by cases h)
theorem to40 : TDOk Try.prog 40 td40 := tdOk_mk (d := td40) Try.underlying40 io40 rfl ⟨rfl, rfl, _, _, rfl, io46⟩ (fun _ => ⟨_, rfl⟩) (fun _ => rfl)
theorem to42 : TDOk Try.prog 42 td42 := tdOk_mk (d := td42) Try.underlying42 io42 rfl ⟨rfl, _, rfl, rfl, all_info (by kernel_rfl)⟩ (fun h => by cases h) (fun h => by cases h)
theorem to46 : TDOk Try.prog 46 td46 := tdOk_mk (d := td46) Try.underlying46 io46 rfl ⟨rfl, _, rfl, rfl, all_info (by kernel_rfl)⟩ (fun h => by cases h) (fun h => by cases h)
theorem to48 : TDOk Try.prog 48 td48 := tdOk_mk (d := td48) Try.underlying48 io48 rfl ⟨rfl, rfl⟩ (fun h => by cases h) (fun h => by cases h)
theorem to50 : TDOk Try.prog 50 td50 := tdOk_mk (d := td50) Try.underlying50 io50 rfl ⟨rfl, rfl, _, _, rfl, io5⟩ (fun _ => ⟨_, rfl⟩) (fun _ => rfl)
theorem to51 : TDOk Try.prog 51 td51 := tdOk_mk (d := td51) Try.underlying51 io51 rfl ⟨rfl, rfl, _, _, rfl, io3⟩ (fun _ => ⟨_, rfl⟩) (fun _ => rfl)
theorem to54 : TDOk Try.prog 54 td54 := tdOk_mk (d := td54) Try.underlying54 io54 rfl rfl (fun _ => rfl) (fun _ => rfl)
theorem to55 : TDOk Try.prog 55 td55 := tdOk_mk (d := td55) Try.underlying55 io55 rfl rfl (fun _ => rfl) (fun _ => rfl)
theorem to57 : TDOk Try.prog 57 td57 := tdOk_mk (d := td57) Try.underlying57 io57 rfl ⟨rfl, _, rfl, rfl, all_info (by kernel_rfl)⟩ (fun h => by cases h) (fun h => by cases h)
theorem to66 : TDOk Try.prog 66 td66 := tdOk_mk (d := td66) Try.underlying66 io66 rfl ⟨rfl, rfl, _, _, rfl, io22⟩ (fun _ => ⟨_, rfl⟩) (fun _ => rfl)
theorem to79 : TDOk Try.prog 79 td79 := tdOk_mk (d := td79) Try.underlying79 io79 rfl rfl (fun _ => rfl) (fun _ => rfl)
theorem eq3 (dd : Nat) : EqT Try.prog (dd + 1) 3 ty3 false := eqT_int Try.underlying3 dd
theorem eq33 (dd : Nat) : EqT Try.prog (dd + 2) 33 ty33 true := eqT_struct Try.underlying33 Try.stoodInHeld33 (dd := dd + 1) ⟨by decide, rfl, ⟨td3, to3, rfl, eq3 (dd + 0)⟩, ⟨by decide, rfl, ⟨td3, to3, rfl, eq3 (dd + 0)⟩, ⟨by decide, rfl, ⟨td3, to3, rfl, eq3 (dd + 0)⟩, ⟨by decide, rfl, ⟨td3, to3, rfl, eq3 (dd + 0)⟩, ⟨by decide, rfl, ⟨td3, to3, rfl, eq3 (dd + 0)⟩, ⟨by decide, rfl, ⟨td3, to3, rfl, eq3 (dd + 0)⟩, ⟨by decide, rfl, ⟨td3, to3, rfl, eq3 (dd + 0)⟩, ⟨by decide, rfl, ⟨td3, to3, rfl, eq3 (dd + 0)⟩, ⟨by decide, rfl, td3, to3, rfl, eq3 (dd + 0)⟩⟩⟩⟩⟩⟩⟩⟩⟩
theorem eq4 (dd : Nat) : EqT Try.prog (dd + 1) 4 ty4 false := eqT_bool Try.underlying4 dd
theorem eq42 (dd : Nat) : EqT Try.prog (dd + 2) 42 ty42 true := eqT_struct Try.underlying42 Try.stoodInHeld42 (dd := dd + 1) ⟨by decide, rfl, ⟨td3, to3, rfl, eq3 (dd + 0)⟩, ⟨by decide, rfl, ⟨td3, to3, rfl, eq3 (dd + 0)⟩, ⟨by decide, rfl, ⟨td3, to3, rfl, eq3 (dd + 0)⟩, ⟨by decide, rfl, ⟨td4, to4, rfl, eq4 (dd + 0)⟩, ⟨by decide, rfl, td3, to3, rfl, eq3 (dd + 0)⟩⟩⟩⟩⟩
theorem eq46 (dd : Nat) : EqT Try.prog (dd + 2) 46 ty46 true := eqT_struct Try.underlying46 Try.stoodInHeld46 (dd := dd + 1) ⟨by decide, rfl, ⟨td3, to3, rfl, eq3 (dd + 0)⟩, ⟨by decide, rfl, ⟨td4, to4, rfl, eq4 (dd + 0)⟩, ⟨by decide, rfl, td4, to4, rfl, eq4 (dd + 0)⟩⟩⟩
theorem eq55 (dd : Nat) : EqT Try.prog (dd + 1) 55 ty55 false := eqT_int Try.underlying55 dd
theorem eq57 (dd : Nat) : EqT Try.prog (dd + 2) 57 ty57 true := eqT_struct Try.underlying57 Try.stoodInHeld57 (dd := dd + 1) ⟨by decide, rfl, ⟨td55, to55, rfl, eq55 (dd + 0)⟩, ⟨by decide, rfl, td55, to55, rfl, eq55 (dd + 0)⟩⟩
theorem tabOk : ∀ t d, lookupD tabL t = some d → TDOk Try.prog t d := by
  intro t d h
  have h := lookupD_mem h
  simp only [tabL, List.mem_cons, Prod.mk.injEq, List.not_mem_nil, or_false] at h
  rcases h with ⟨rfl, rfl⟩ | ⟨rfl, rfl⟩ | ⟨rfl, rfl⟩ | ⟨rfl, rfl⟩ | ⟨rfl, rfl⟩ | ⟨rfl, rfl⟩ | ⟨rfl, rfl⟩ | ⟨rfl, rfl⟩ | ⟨rfl, rfl⟩ | ⟨rfl, rfl⟩ | ⟨rfl, rfl⟩ | ⟨rfl, rfl⟩ | ⟨rfl, rfl⟩ | ⟨rfl, rfl⟩ | ⟨rfl, rfl⟩ | ⟨rfl, rfl⟩ | ⟨rfl, rfl⟩ | ⟨rfl, rfl⟩ | ⟨rfl, rfl⟩ | ⟨rfl, rfl⟩
  · exact to3
  · exact to4
  · exact to5
  · exact to22
  · exact to23
  · exact to25
  · exact to26
  · exact to33
  · exact to36
  · exact to40
  · exact to42
  · exact to46
  · exact to48
  · exact to50
  · exact to51
  · exact to54
  · exact to55
  · exact to57
  · exact to66
  · exact to79
theorem bytesOk : ∀ t d i, lookupD tabL t = some d → Try.prog.info? t = some i → 0 < d.ty.n → i.bytes = d.bytes := by
  intro t d i h hi _
  have h := lookupD_mem h
  simp only [tabL, List.mem_cons, Prod.mk.injEq, List.not_mem_nil, or_false] at h
  rcases h with ⟨rfl, rfl⟩ | ⟨rfl, rfl⟩ | ⟨rfl, rfl⟩ | ⟨rfl, rfl⟩ | ⟨rfl, rfl⟩ | ⟨rfl, rfl⟩ | ⟨rfl, rfl⟩ | ⟨rfl, rfl⟩ | ⟨rfl, rfl⟩ | ⟨rfl, rfl⟩ | ⟨rfl, rfl⟩ | ⟨rfl, rfl⟩ | ⟨rfl, rfl⟩ | ⟨rfl, rfl⟩ | ⟨rfl, rfl⟩ | ⟨rfl, rfl⟩ | ⟨rfl, rfl⟩ | ⟨rfl, rfl⟩ | ⟨rfl, rfl⟩ | ⟨rfl, rfl⟩
  · exact bytes_mk (by kernel_rfl) i hi
  · exact bytes_mk (by kernel_rfl) i hi
  · exact bytes_mk (by kernel_rfl) i hi
  · exact bytes_mk (by kernel_rfl) i hi
  · exact bytes_mk (by kernel_rfl) i hi
  · exact bytes_mk (by kernel_rfl) i hi
  · exact bytes_mk (by kernel_rfl) i hi
  · exact bytes_mk (by kernel_rfl) i hi
  · exact bytes_mk (by kernel_rfl) i hi
  · exact bytes_mk (by kernel_rfl) i hi
  · exact bytes_mk (by kernel_rfl) i hi
  · exact bytes_mk (by kernel_rfl) i hi
  · exact bytes_mk (by kernel_rfl) i hi
  · exact bytes_mk (by kernel_rfl) i hi
  · exact bytes_mk (by kernel_rfl) i hi
  · exact bytes_mk (by kernel_rfl) i hi
  · exact bytes_mk (by kernel_rfl) i hi
  · exact bytes_mk (by kernel_rfl) i hi
  · exact bytes_mk (by kernel_rfl) i hi
  · exact bytes_mk (by kernel_rfl) i hi
def gdS : Gd := gdNone
def gvS : Nat → Option (Sigma fun e : Ty => List e.den) := fun _ => none
theorem gvOk : ∀ g e l, gvS g = some ⟨e, l⟩ → ∃ b, gdS.gl b ∧ ∀ (a : Act) (w : World) (X : Nat → Nat → Prop), gdS.H w → (∀ b p, X b p → ¬ gdS.gl b) → a.eval (.global g) = .pointer (some ⟨b, 0, none⟩) ∧ RowsOk w X e.n (TR w X e) l b 0 := fun g e l h => by cases h
theorem eqOk : ∀ t d, lookupD tabL t = some d → d.eq = true → ∀ (m : Map) (X : Nat → Nat → Prop) (w : World) (xs ys : List Cell) (r : Bool) (us vs : List Value), eqTy d.ty xs ys = some r → CRs m X w xs us → CRs m X w ys vs →
    xs.length = d.ty.n → ys.length = d.ty.n →
    (eqGuard .eql t (.tmp 0) (.tmp 0) (.agg us.toArray) (.agg vs.toArray) >>= fun _ => binOp .eql t (.agg us.toArray) (.agg vs.toArray)).run Try.prog w = .ok (.bool r) w ∧
    (eqGuard .neq t (.tmp 0) (.tmp 0) (.agg us.toArray) (.agg vs.toArray) >>= fun _ => binOp .neq t (.agg us.toArray) (.agg vs.toArray)).run Try.prog w = .ok (.bool (!r)) w := by
  intro t d h he
  have h := lookupD_mem h
  simp only [tabL, List.mem_cons, Prod.mk.injEq, List.not_mem_nil, or_false] at h
  rcases h with ⟨rfl, rfl⟩ | ⟨rfl, rfl⟩ | ⟨rfl, rfl⟩ | ⟨rfl, rfl⟩ | ⟨rfl, rfl⟩ | ⟨rfl, rfl⟩ | ⟨rfl, rfl⟩ | ⟨rfl, rfl⟩ | ⟨rfl, rfl⟩ | ⟨rfl, rfl⟩ | ⟨rfl, rfl⟩ | ⟨rfl, rfl⟩ | ⟨rfl, rfl⟩ | ⟨rfl, rfl⟩ | ⟨rfl, rfl⟩ | ⟨rfl, rfl⟩ | ⟨rfl, rfl⟩ | ⟨rfl, rfl⟩ | ⟨rfl, rfl⟩ | ⟨rfl, rfl⟩
  · cases he
  · cases he
  · cases he
  · cases he
  · cases he
  · cases he
  · cases he
  · exact fun m X w xs ys r us vs h1 h2 h3 _ _ => eqFact (eq33 9998) Try.eqGuardType33 m X w xs ys r us vs h1 h2 h3
  · cases he
  · cases he
  · exact fun m X w xs ys r us vs h1 h2 h3 _ _ => eqFact (eq42 9998) Try.eqGuardType42 m X w xs ys r us vs h1 h2 h3
  · exact fun m X w xs ys r us vs h1 h2 h3 _ _ => eqFact (eq46 9998) Try.eqGuardType46 m X w xs ys r us vs h1 h2 h3
  · cases he
  · cases he
  · cases he
  · cases he
  · cases he
  · exact fun m X w xs ys r us vs h1 h2 h3 _ _ => eqFact (eq57 9998) Try.eqGuardType57 m X w xs ys r us vs h1 h2 h3
  · cases he
  · cases he
end Go.Proofs.Ytkanaakceokifaa.Sy
