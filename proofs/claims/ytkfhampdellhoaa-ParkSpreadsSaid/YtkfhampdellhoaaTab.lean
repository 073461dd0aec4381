/- The types of this seat, for the evaluator; written by own program mktab.py. -/
import Derived.Test.YtkfhampdellhoaaProg
import Derived.Test.YtkfhampdellhoaaSg
namespace Go.Proofs.Ytkfhampdellhoaa.Sy
open Go
set_option linter.unusedVariables false
set_option linter.unusedSimpArgs false

abbrev ty3 : Ty := (.int .i64)
abbrev ty4 : Ty := .bool
abbrev ty5 : Ty := (.int .u8)
abbrev ty22 : Ty := (.pair (.int .u8) (.pair (.int .u8) (.int .u8)))
abbrev ty23 : Ty := (.sl (.int .u8))
abbrev ty25 : Ty := (.pair (.int .i64) (.pair (.int .i64) (.pair (.int .i64) (.pair (.int .i64) (.pair (.int .i64) (.pair (.int .i64) (.pair (.int .i64) (.pair (.int .i64) (.int .i64)))))))))
abbrev ty27 : Ty := (.pair (.int .i64) (.pair (.int .i64) (.int .i64)))
abbrev ty31 : Ty := (.pair (.int .i64) (.pair .bool (.pair (.int .i64) .bool)))
abbrev ty37 : Ty := (.pair (.pair (.int .i64) (.pair .bool (.pair (.int .i64) .bool))) (.pair (.int .i64) (.pair (.int .i64) (.pair (.int .i64) (.pair (.int .i64) (.pair (.int .i64) (.pair (.int .i64) (.pair (.int .i64) (.pair (.int .i64) (.pair (.int .i64) (.int .i64)))))))))))
abbrev ty38 : Ty := (.int .u64)
abbrev ty43 : Ty := (.flt .f64)
abbrev ty44 : Ty := (.sl (.pair (.int .i64) (.pair (.int .i64) (.pair (.int .i64) (.pair (.int .i64) (.pair (.int .i64) (.pair (.int .i64) (.pair (.int .i64) (.pair (.int .i64) (.int .i64))))))))))
abbrev ty46 : Ty := (.pair (.int .i64) (.pair (.int .i64) (.pair (.int .i64) (.pair (.int .i64) (.pair (.flt .f64) (.pair (.flt .f64) (.pair (.flt .f64) (.sl (.pair (.int .i64) (.pair (.int .i64) (.pair (.int .i64) (.pair (.int .i64) (.pair (.int .i64) (.pair (.int .i64) (.pair (.int .i64) (.pair (.int .i64) (.int .i64)))))))))))))))))
abbrev ty47 : Ty := (.pair (.int .i64) (.pair (.int .i64) (.int .i64)))
abbrev ty49 : Ty := (.sl (.int .i64))
abbrev ty53 : Ty := (.sl (.pair (.int .i64) (.pair (.int .i64) (.pair (.int .i64) (.pair (.int .i64) (.pair (.flt .f64) (.pair (.flt .f64) (.pair (.flt .f64) (.sl (.pair (.int .i64) (.pair (.int .i64) (.pair (.int .i64) (.pair (.int .i64) (.pair (.int .i64) (.pair (.int .i64) (.pair (.int .i64) (.pair (.int .i64) (.int .i64))))))))))))))))))
abbrev ty60 : Ty := (.int .i64)
def td3 : TD := { kind := .prim, ty := ty3, agg := false, bytes := 8, eq := false }
def td4 : TD := { kind := .prim, ty := ty4, agg := false, bytes := 1, eq := false }
def td5 : TD := { kind := .prim, ty := ty5, agg := false, bytes := 1, eq := false }
def td22 : TD := { kind := .array 3 5, ty := ty22, agg := true, bytes := 3, eq := false }
def td23 : TD := { kind := .slice 5, ty := ty23, agg := false, bytes := 24, eq := false }
def td25 : TD := { kind := .struct [(3, 0), (3, 1), (3, 2), (3, 3), (3, 4), (3, 5), (3, 6), (3, 7), (3, 8)], ty := ty25, agg := true, bytes := 72, eq := true }
def td27 : TD := { kind := .struct [(3, 0), (3, 1), (3, 2)], ty := ty27, agg := true, bytes := 24, eq := true }
def td31 : TD := { kind := .struct [(3, 0), (4, 1), (3, 2), (4, 3)], ty := ty31, agg := true, bytes := 32, eq := true }
def td37 : TD := { kind := .struct [(31, 0), (3, 4), (25, 5)], ty := ty37, agg := true, bytes := 112, eq := true }
def td38 : TD := { kind := .prim, ty := ty38, agg := false, bytes := 8, eq := false }
def td43 : TD := { kind := .prim, ty := ty43, agg := false, bytes := 8, eq := false }
def td44 : TD := { kind := .slice 25, ty := ty44, agg := false, bytes := 24, eq := false }
def td46 : TD := { kind := .struct [(3, 0), (3, 1), (3, 2), (3, 3), (43, 4), (43, 5), (43, 6), (44, 7)], ty := ty46, agg := true, bytes := 80, eq := false }
def td47 : TD := { kind := .array 3 3, ty := ty47, agg := true, bytes := 24, eq := false }
def td49 : TD := { kind := .slice 3, ty := ty49, agg := false, bytes := 24, eq := false }
def td53 : TD := { kind := .slice 46, ty := ty53, agg := false, bytes := 24, eq := false }
def td60 : TD := { kind := .prim, ty := ty60, agg := false, bytes := 8, eq := false }
def tabL : List (Nat × TD) := [(3, td3), (4, td4), (5, td5), (22, td22), (23, td23), (25, td25), (27, td27), (31, td31), (37, td37), (38, td38), (43, td43), (44, td44), (46, td46), (47, td47), (49, td49), (53, td53), (60, td60)]
theorem io3 : InfoOk Try.prog 3 ty3 false := infoOk_mk (by kernel_rfl)
theorem io4 : InfoOk Try.prog 4 ty4 false := infoOk_mk (by kernel_rfl)
theorem io5 : InfoOk Try.prog 5 ty5 false := infoOk_mk (by kernel_rfl)
theorem io22 : InfoOk Try.prog 22 ty22 true := infoOk_mk (by kernel_rfl)
theorem io23 : InfoOk Try.prog 23 ty23 false := infoOk_mk (by kernel_rfl)
theorem io25 : InfoOk Try.prog 25 ty25 true := infoOk_mk (by kernel_rfl)
theorem io27 : InfoOk Try.prog 27 ty27 true := infoOk_mk (by kernel_rfl)
theorem io31 : InfoOk Try.prog 31 ty31 true := infoOk_mk (by kernel_rfl)
theorem io37 : InfoOk Try.prog 37 ty37 true := infoOk_mk (by kernel_rfl)
theorem io38 : InfoOk Try.prog 38 ty38 false := infoOk_mk (by kernel_rfl)
theorem io43 : InfoOk Try.prog 43 ty43 false := infoOk_mk (by kernel_rfl)
theorem io44 : InfoOk Try.prog 44 ty44 false := infoOk_mk (by kernel_rfl)
theorem io46 : InfoOk Try.prog 46 ty46 true := infoOk_mk (by kernel_rfl)
theorem io47 : InfoOk Try.prog 47 ty47 true := infoOk_mk (by kernel_rfl)
theorem io49 : InfoOk Try.prog 49 ty49 false := infoOk_mk (by kernel_rfl)
theorem io53 : InfoOk Try.prog 53 ty53 false := infoOk_mk (by kernel_rfl)
theorem io60 : InfoOk Try.prog 60 ty60 false := infoOk_mk (by kernel_rfl)
theorem to3 : TDOk Try.prog 3 td3 := tdOk_mk (d := td3) Try.underlying3 io3 rfl rfl (fun _ => rfl) (fun _ => rfl)
theorem to4 : TDOk Try.prog 4 td4 := tdOk_mk (d := td4) Try.underlying4 io4 rfl rfl (fun _ => rfl) (fun _ => rfl)
theorem to5 : TDOk Try.prog 5 td5 := tdOk_mk (d := td5) Try.underlying5 io5 rfl rfl (fun _ => rfl) (fun _ => rfl)
theorem to22 : TDOk Try.prog 22 td22 := tdOk_mk (d := td22) Try.underlying22 io22 rfl ⟨rfl, rfl⟩ (fun h => by cases h) (fun h => by cases h)
theorem to23 : TDOk Try.prog 23 td23 := tdOk_mk (d := td23) Try.underlying23 io23 rfl ⟨rfl, rfl, _, _, rfl, io5⟩ (fun _ => ⟨_, rfl⟩) (fun _ => rfl)
theorem to25 : TDOk Try.prog 25 td25 := tdOk_mk (d := td25) Try.underlying25 io25 rfl ⟨rfl, _, rfl, rfl, all_info (by kernel_rfl)⟩ (fun h => by cases h) (fun h => by cases h)
theorem to27 : TDOk Try.prog 27 td27 := tdOk_mk (d := td27) Try.underlying27 io27 rfl ⟨rfl, _, rfl, rfl, all_info (by kernel_rfl)⟩ (fun h => by cases h) (fun h => by cases h)
theorem to31 : TDOk Try.prog 31 td31 := tdOk_mk (d := td31) Try.underlying31 io31 rfl ⟨rfl, _, rfl, rfl, all_info (by kernel_rfl)⟩ (fun h => by cases h) (fun h => by cases h)
theorem to37 : TDOk Try.prog 37 td37 := tdOk_mk (d := td37) Try.underlying37 io37 rfl ⟨rfl, _, rfl, rfl, all_info (by kernel_rfl)⟩ (fun h => by cases h) (fun h => by cases h)
theorem to38 : TDOk Try.prog 38 td38 := tdOk_mk (d := td38) Try.underlying38 io38 rfl rfl (fun _ => rfl) (fun _ => rfl)
theorem to43 : TDOk Try.prog 43 td43 := tdOk_mk (d := td43) Try.underlying43 io43 rfl rfl (fun _ => rfl) (fun _ => rfl)
theorem to44 : TDOk Try.prog 44 td44 := tdOk_mk (d := td44) Try.underlying44 io44 rfl ⟨rfl, rfl, _, _, rfl, io25⟩ (fun _ => ⟨_, rfl⟩) (fun _ => rfl)
theorem to46 : TDOk Try.prog 46 td46 := tdOk_mk (d := td46) Try.underlying46 io46 rfl ⟨rfl, _, rfl, rfl, all_info (by kernel_rfl)⟩ (fun h => by cases h) (fun h => by cases h)
theorem to47 : TDOk Try.prog 47 td47 := tdOk_mk (d := td47) Try.underlying47 io47 rfl ⟨rfl, rfl⟩ (fun h => by cases h) (fun h => by cases h)
theorem to49 : TDOk Try.prog 49 td49 := tdOk_mk (d := td49) Try.underlying49 io49 rfl ⟨rfl, rfl, _, _, rfl, io3⟩ (fun _ => ⟨_, rfl⟩) (fun _ => rfl)
theorem to53 : TDOk Try.prog 53 td53 := tdOk_mk (d := td53) Try.underlying53 io53 rfl ⟨rfl, rfl, _, _, rfl, io46⟩ (fun _ => ⟨_, rfl⟩) (fun _ => rfl)
theorem to60 : TDOk Try.prog 60 td60 := tdOk_mk (d := td60) Try.underlying60 io60 rfl rfl (fun _ => rfl) (fun _ => rfl)
theorem eq3 (dd : Nat) : EqT Try.prog (dd + 1) 3 ty3 false := eqT_int Try.underlying3 dd
theorem eq25 (dd : Nat) : EqT Try.prog (dd + 2) 25 ty25 true := eqT_struct Try.underlying25 Try.stoodInHeld25 (dd := dd + 1) ⟨by decide, rfl, ⟨td3, to3, rfl, eq3 (dd + 0)⟩, ⟨by decide, rfl, ⟨td3, to3, rfl, eq3 (dd + 0)⟩, ⟨by decide, rfl, ⟨td3, to3, rfl, eq3 (dd + 0)⟩, ⟨by decide, rfl, ⟨td3, to3, rfl, eq3 (dd + 0)⟩, ⟨by decide, rfl, ⟨td3, to3, rfl, eq3 (dd + 0)⟩, ⟨by decide, rfl, ⟨td3, to3, rfl, eq3 (dd + 0)⟩, ⟨by decide, rfl, ⟨td3, to3, rfl, eq3 (dd + 0)⟩, ⟨by decide, rfl, ⟨td3, to3, rfl, eq3 (dd + 0)⟩, ⟨by decide, rfl, td3, to3, rfl, eq3 (dd + 0)⟩⟩⟩⟩⟩⟩⟩⟩⟩
theorem eq27 (dd : Nat) : EqT Try.prog (dd + 2) 27 ty27 true := eqT_struct Try.underlying27 Try.stoodInHeld27 (dd := dd + 1) ⟨by decide, rfl, ⟨td3, to3, rfl, eq3 (dd + 0)⟩, ⟨by decide, rfl, ⟨td3, to3, rfl, eq3 (dd + 0)⟩, ⟨by decide, rfl, td3, to3, rfl, eq3 (dd + 0)⟩⟩⟩
theorem eq4 (dd : Nat) : EqT Try.prog (dd + 1) 4 ty4 false := eqT_bool Try.underlying4 dd
theorem eq31 (dd : Nat) : EqT Try.prog (dd + 2) 31 ty31 true := eqT_struct Try.underlying31 Try.stoodInHeld31 (dd := dd + 1) ⟨by decide, rfl, ⟨td3, to3, rfl, eq3 (dd + 0)⟩, ⟨by decide, rfl, ⟨td4, to4, rfl, eq4 (dd + 0)⟩, ⟨by decide, rfl, ⟨td3, to3, rfl, eq3 (dd + 0)⟩, ⟨by decide, rfl, td4, to4, rfl, eq4 (dd + 0)⟩⟩⟩⟩
theorem eq37 (dd : Nat) : EqT Try.prog (dd + 3) 37 ty37 true := eqT_struct Try.underlying37 Try.stoodInHeld37 (dd := dd + 2) ⟨by decide, rfl, ⟨td31, to31, rfl, eq31 (dd + 0)⟩, ⟨by decide, rfl, ⟨td3, to3, rfl, eq3 (dd + 1)⟩, ⟨by decide, rfl, td25, to25, rfl, eq25 (dd + 0)⟩⟩⟩
theorem tabOk : ∀ t d, lookupD tabL t = some d → TDOk Try.prog t d := by
  intro t d h
  have h := lookupD_mem h
  simp only [tabL, List.mem_cons, Prod.mk.injEq, List.not_mem_nil, or_false] at h
  rcases h with ⟨rfl, rfl⟩ | ⟨rfl, rfl⟩ | ⟨rfl, rfl⟩ | ⟨rfl, rfl⟩ | ⟨rfl, rfl⟩ | ⟨rfl, rfl⟩ | ⟨rfl, rfl⟩ | ⟨rfl, rfl⟩ | ⟨rfl, rfl⟩ | ⟨rfl, rfl⟩ | ⟨rfl, rfl⟩ | ⟨rfl, rfl⟩ | ⟨rfl, rfl⟩ | ⟨rfl, rfl⟩ | ⟨rfl, rfl⟩ | ⟨rfl, rfl⟩ | ⟨rfl, rfl⟩
  · exact to3
  · exact to4
  · exact to5
  · exact to22
  · exact to23
  · exact to25
  · exact to27
  · exact to31
  · exact to37
  · exact to38
  · exact to43
  · exact to44
  · exact to46
  · exact to47
  · exact to49
  · exact to53
  · exact to60
theorem bytesOk : ∀ t d i, lookupD tabL t = some d → Try.prog.info? t = some i → 0 < d.ty.n → i.bytes = d.bytes := by
  intro t d i h hi _
  have h := lookupD_mem h
  simp only [tabL, List.mem_cons, Prod.mk.injEq, List.not_mem_nil, or_false] at h
  rcases h with ⟨rfl, rfl⟩ | ⟨rfl, rfl⟩ | ⟨rfl, rfl⟩ | ⟨rfl, rfl⟩ | ⟨rfl, rfl⟩ | ⟨rfl, rfl⟩ | ⟨rfl, rfl⟩ | ⟨rfl, rfl⟩ | ⟨rfl, rfl⟩ | ⟨rfl, rfl⟩ | ⟨rfl, rfl⟩ | ⟨rfl, rfl⟩ | ⟨rfl, rfl⟩ | ⟨rfl, rfl⟩ | ⟨rfl, rfl⟩ | ⟨rfl, rfl⟩ | ⟨rfl, rfl⟩
  · exact bytes_mk (by kernel_rfl) i hi
  · exact bytes_mk (by kernel_rfl) i hi
  · exact bytes_mk (by kernel_rfl) i hi
  · exact bytes_mk (by kernel_rfl) i hi
  · exact bytes_mk (by kernel_rfl) i hi
  · exact bytes_mk (by kernel_rfl) i hi
  · exact bytes_mk (by kernel_rfl) i hi
  · exact bytes_mk (by kernel_rfl) i hi
  · exact bytes_mk (by kernel_rfl) i hi
  · exact bytes_mk (by kernel_rfl) i hi
  · exact bytes_mk (by kernel_rfl) i hi
  · exact bytes_mk (by kernel_rfl) i hi
  · exact bytes_mk (by kernel_rfl) i hi
  · exact bytes_mk (by kernel_rfl) i hi
  · exact bytes_mk (by kernel_rfl) i hi
  · exact bytes_mk (by kernel_rfl) i hi
  · exact bytes_mk (by kernel_rfl) i hi
def gdS : Gd := gdNone
def gvS : Nat → Option (Sigma fun e : Ty => List e.den) := fun _ => none
theorem gvOk : ∀ g e l, gvS g = some ⟨e, l⟩ → ∃ b, gdS.gl b ∧ ∀ (a : Act) (w : World) (X : Nat → Nat → Prop), gdS.H w → (∀ b p, X b p → ¬ gdS.gl b) → a.eval (.global g) = .pointer (some ⟨b, 0, none⟩) ∧ RowsOk w X e.n (TR w X e) l b 0 := fun g e l h => by cases h
theorem eqOk : ∀ t d, lookupD tabL t = some d → d.eq = true → ∀ (m : Map) (X : Nat → Nat → Prop) (w : World) (xs ys : List Cell) (r : Bool) (us vs : List Value), eqTy d.ty xs ys = some r → CRs m X w xs us → CRs m X w ys vs →
    xs.length = d.ty.n → ys.length = d.ty.n →
    (eqGuard .eql t (.tmp 0) (.tmp 0) (.agg us.toArray) (.agg vs.toArray) >>= fun _ => binOp .eql t (.agg us.toArray) (.agg vs.toArray)).run Try.prog w = .ok (.bool r) w ∧
    (eqGuard .neq t (.tmp 0) (.tmp 0) (.agg us.toArray) (.agg vs.toArray) >>= fun _ => binOp .neq t (.agg us.toArray) (.agg vs.toArray)).run Try.prog w = .ok (.bool (!r)) w := by
  intro t d h he
  have h := lookupD_mem h
  simp only [tabL, List.mem_cons, Prod.mk.injEq, List.not_mem_nil, or_false] at h
  rcases h with ⟨rfl, rfl⟩ | ⟨rfl, rfl⟩ | ⟨rfl, rfl⟩ | ⟨rfl, rfl⟩ | ⟨rfl, rfl⟩ | ⟨rfl, rfl⟩ | ⟨rfl, rfl⟩ | ⟨rfl, rfl⟩ | ⟨rfl, rfl⟩ | ⟨rfl, rfl⟩ | ⟨rfl, rfl⟩ | ⟨rfl, rfl⟩ | ⟨rfl, rfl⟩ | ⟨rfl, rfl⟩ | ⟨rfl, rfl⟩ | ⟨rfl, rfl⟩ | ⟨rfl, rfl⟩
  · cases he
  · cases he
  · cases he
  · cases he
  · cases he
  · exact fun m X w xs ys r us vs h1 h2 h3 _ _ => eqFact (eq25 9998) Try.eqGuardType25 m X w xs ys r us vs h1 h2 h3
  · exact fun m X w xs ys r us vs h1 h2 h3 _ _ => eqFact (eq27 9998) Try.eqGuardType27 m X w xs ys r us vs h1 h2 h3
  · exact fun m X w xs ys r us vs h1 h2 h3 _ _ => eqFact (eq31 9998) Try.eqGuardType31 m X w xs ys r us vs h1 h2 h3
  · exact fun m X w xs ys r us vs h1 h2 h3 _ _ => eqFact (eq37 9997) Try.eqGuardType37 m X w xs ys r us vs h1 h2 h3
  · cases he
  · cases he
  · cases he
  · cases he
  · cases he
  · cases he
  · cases he
  · cases he
end Go.Proofs.Ytkfhampdellhoaa.Sy
