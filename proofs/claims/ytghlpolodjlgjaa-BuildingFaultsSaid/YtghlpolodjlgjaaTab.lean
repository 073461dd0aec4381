/- The types of this seat, for the evaluator; written by own program mktab.py. -/
import Derived.Test.YtghlpolodjlgjaaProg
import Derived.Lib.Tables
import Derived.Test.YtghlpolodjlgjaaSg
namespace Go.Proofs.Ytghlpolodjlgjaa.Sy
open Go
set_option linter.unusedVariables false
set_option linter.unusedSimpArgs false

abbrev ty3 : Ty := (.int .i64)
abbrev ty4 : Ty := .bool
abbrev ty5 : Ty := (.int .u8)
abbrev ty22 : Ty := (.pair (.int .u8) (.int .u8))
abbrev ty23 : Ty := (.flt .f64)
abbrev ty24 : Ty := (.sl (.pair (.int .i64) (.pair (.int .i64) (.pair (.int .i64) (.pair (.int .i64) (.pair (.int .i64) (.pair (.int .i64) (.pair (.int .i64) (.pair (.int .i64) (.int .i64))))))))))
abbrev ty26 : Ty := (.pair (.int .i64) (.pair (.int .i64) (.pair (.int .i64) (.pair (.int .i64) (.pair (.flt .f64) (.pair (.flt .f64) (.pair (.flt .f64) (.sl (.pair (.int .i64) (.pair (.int .i64) (.pair (.int .i64) (.pair (.int .i64) (.pair (.int .i64) (.pair (.int .i64) (.pair (.int .i64) (.pair (.int .i64) (.int .i64)))))))))))))))))
abbrev ty30 : Ty := (.pair (.int .i64) (.pair (.int .i64) (.pair (.int .i64) (.pair (.int .i64) (.pair (.int .i64) (.pair (.int .i64) (.pair (.int .i64) (.pair (.int .i64) (.int .i64)))))))))
abbrev ty34 : Ty := (.sl (.flt .f64))
abbrev ty35 : Ty := (.int .i64)
abbrev ty37 : Ty := (.int .u32)
abbrev ty39 : Ty := (.pair (.int .u32) (.int .u32))
abbrev ty45 : Ty := (.int .u64)
abbrev ty52 : Ty := (.int .u64)
abbrev ty57 : Ty := (.sl (.int .i64))
def td3 : TD := { kind := .prim, ty := ty3, agg := false, bytes := 8, eq := false }
def td4 : TD := { kind := .prim, ty := ty4, agg := false, bytes := 1, eq := false }
def td5 : TD := { kind := .prim, ty := ty5, agg := false, bytes := 1, eq := false }
def td22 : TD := { kind := .array 2 5, ty := ty22, agg := true, bytes := 2, eq := false }
def td23 : TD := { kind := .prim, ty := ty23, agg := false, bytes := 8, eq := false }
def td24 : TD := { kind := .slice 30, ty := ty24, agg := false, bytes := 24, eq := false }
def td26 : TD := { kind := .struct [(3, 0), (3, 1), (3, 2), (3, 3), (23, 4), (23, 5), (23, 6), (24, 7)], ty := ty26, agg := true, bytes := 80, eq := false }
def td30 : TD := { kind := .struct [(3, 0), (3, 1), (3, 2), (3, 3), (3, 4), (3, 5), (3, 6), (3, 7), (3, 8)], ty := ty30, agg := true, bytes := 72, eq := true }
def td34 : TD := { kind := .slice 23, ty := ty34, agg := false, bytes := 24, eq := false }
def td35 : TD := { kind := .prim, ty := ty35, agg := false, bytes := 8, eq := false }
def td37 : TD := { kind := .prim, ty := ty37, agg := false, bytes := 4, eq := false }
def td39 : TD := { kind := .struct [(37, 0), (37, 1)], ty := ty39, agg := true, bytes := 8, eq := true }
def td45 : TD := { kind := .prim, ty := ty45, agg := false, bytes := 8, eq := false }
def td52 : TD := { kind := .prim, ty := ty52, agg := false, bytes := 8, eq := false }
def td57 : TD := { kind := .slice 3, ty := ty57, agg := false, bytes := 24, eq := false }
def tabL : List (Nat × TD) := [(3, td3), (4, td4), (5, td5), (22, td22), (23, td23), (24, td24), (26, td26), (30, td30), (34, td34), (35, td35), (37, td37), (39, td39), (45, td45), (52, td52), (57, td57)]
theorem io3 : InfoOk Try.prog 3 ty3 false := infoOk_mk (by kernel_rfl)
theorem io4 : InfoOk Try.prog 4 ty4 false := infoOk_mk (by kernel_rfl)
theorem io5 : InfoOk Try.prog 5 ty5 false := infoOk_mk (by kernel_rfl)
theorem io22 : InfoOk Try.prog 22 ty22 true := infoOk_mk (by kernel_rfl)
theorem io23 : InfoOk Try.prog 23 ty23 false := infoOk_mk (by kernel_rfl)
theorem io24 : InfoOk Try.prog 24 ty24 false := infoOk_mk (by kernel_rfl)
theorem io26 : InfoOk Try.prog 26 ty26 true := infoOk_mk (by kernel_rfl)
theorem io30 : InfoOk Try.prog 30 ty30 true := infoOk_mk (by kernel_rfl)
theorem io34 : InfoOk Try.prog 34 ty34 false := infoOk_mk (by kernel_rfl)
theorem io35 : InfoOk Try.prog 35 ty35 false := infoOk_mk (by kernel_rfl)
theorem io37 : InfoOk Try.prog 37 ty37 false := infoOk_mk (by kernel_rfl)
theorem io39 : InfoOk Try.prog 39 ty39 true := infoOk_mk (by kernel_rfl)
theorem io45 : InfoOk Try.prog 45 ty45 false := infoOk_mk (by kernel_rfl)
theorem io52 : InfoOk Try.prog 52 ty52 false := infoOk_mk (by kernel_rfl)
theorem io57 : InfoOk Try.prog 57 ty57 false := infoOk_mk (by kernel_rfl)
theorem to3 : TDOk Try.prog 3 td3 := tdOk_mk (d := td3) Try.underlying3 io3 rfl rfl (fun _ => rfl) (fun _ => rfl)
theorem to4 : TDOk Try.prog 4 td4 := tdOk_mk (d := td4) Try.underlying4 io4 rfl rfl (fun _ => rfl) (fun _ => rfl)
theorem to5 : TDOk Try.prog 5 td5 := tdOk_mk (d := td5) Try.underlying5 io5 rfl rfl (fun _ => rfl) (fun _ => rfl)
theorem to22 : TDOk Try.prog 22 td22 := tdOk_mk (d := td22) Try.underlying22 io22 rfl ⟨rfl, rfl⟩ (fun h => by cases h) (fun h => by cases h)
theorem to23 : TDOk Try.prog 23 td23 := tdOk_mk (d := td23) Try.underlying23 io23 rfl rfl (fun _ => rfl) (fun _ => rfl)
theorem to24 : TDOk Try.prog 24 td24 := tdOk_mk (d := td24) Try.underlying24 io24 rfl ⟨rfl, rfl, _, _, rfl, io30⟩ (fun _ => ⟨_, rfl⟩) (fun _ => rfl)
theorem to26 : TDOk Try.prog 26 td26 := tdOk_mk (d := td26) Try.underlying26 io26 rfl ⟨rfl, _, rfl, rfl, all_info (by kernel_rfl)⟩ (fun h => by cases h) (fun h => by cases h)
theorem to30 : TDOk Try.prog 30 td30 := tdOk_mk (d := td30) Try.underlying30 io30 rfl ⟨rfl, _, rfl, rfl, all_info (by kernel_rfl)⟩ (fun h => by cases h) (fun h => by cases h)
theorem to34 : TDOk Try.prog 34 td34 := tdOk_mk (d := td34) Try.underlying34 io34 rfl ⟨rfl, rfl, _, _, rfl, io23⟩ (fun _ => ⟨_, rfl⟩) (fun _ => rfl)
theorem to35 : TDOk Try.prog 35 td35 := tdOk_mk (d := td35) Try.underlying35 io35 rfl rfl (fun _ => rfl) (fun _ => rfl)
theorem to37 : TDOk Try.prog 37 td37 := tdOk_mk (d := td37) Try.underlying37 io37 rfl rfl (fun _ => rfl) (fun _ => rfl)
theorem to39 : TDOk Try.prog 39 td39 := tdOk_mk (d := td39) Try.underlying39 io39 rfl ⟨rfl, _, rfl, rfl, all_info (by kernel_rfl)⟩ (fun h => by cases h) (fun h => by cases h)
theorem to45 : TDOk Try.prog 45 td45 := tdOk_mk (d := td45) Try.underlying45 io45 rfl rfl (fun _ => rfl) (fun _ => rfl)
theorem to52 : TDOk Try.prog 52 td52 := tdOk_mk (d := td52) Try.underlying52 io52 rfl rfl (fun _ => rfl) (fun _ => rfl)
theorem to57 : TDOk Try.prog 57 td57 := tdOk_mk (d := td57) Try.underlying57 io57 rfl ⟨rfl, rfl, _, _, rfl, io3⟩ (fun _ => ⟨_, rfl⟩) (fun _ => rfl)
theorem eq3 (dd : Nat) : EqT Try.prog (dd + 1) 3 ty3 false := eqT_int Try.underlying3 dd
theorem eq30 (dd : Nat) : EqT Try.prog (dd + 2) 30 ty30 true := eqT_struct Try.underlying30 Try.stoodInHeld30 (dd := dd + 1) ⟨by decide, rfl, ⟨td3, to3, rfl, eq3 (dd + 0)⟩, ⟨by decide, rfl, ⟨td3, to3, rfl, eq3 (dd + 0)⟩, ⟨by decide, rfl, ⟨td3, to3, rfl, eq3 (dd + 0)⟩, ⟨by decide, rfl, ⟨td3, to3, rfl, eq3 (dd + 0)⟩, ⟨by decide, rfl, ⟨td3, to3, rfl, eq3 (dd + 0)⟩, ⟨by decide, rfl, ⟨td3, to3, rfl, eq3 (dd + 0)⟩, ⟨by decide, rfl, ⟨td3, to3, rfl, eq3 (dd + 0)⟩, ⟨by decide, rfl, ⟨td3, to3, rfl, eq3 (dd + 0)⟩, ⟨by decide, rfl, td3, to3, rfl, eq3 (dd + 0)⟩⟩⟩⟩⟩⟩⟩⟩⟩
theorem eq37 (dd : Nat) : EqT Try.prog (dd + 1) 37 ty37 false := eqT_int Try.underlying37 dd
theorem eq39 (dd : Nat) : EqT Try.prog (dd + 2) 39 ty39 true := eqT_struct Try.underlying39 Try.stoodInHeld39 (dd := dd + 1) ⟨by decide, rfl, ⟨td37, to37, rfl, eq37 (dd + 0)⟩, ⟨by decide, rfl, td37, to37, rfl, eq37 (dd + 0)⟩⟩
theorem tabOk : ∀ t d, lookupD tabL t = some d → TDOk Try.prog t d := by
  intro t d h
  have h := lookupD_mem h
  simp only [tabL, List.mem_cons, Prod.mk.injEq, List.not_mem_nil, or_false] at h
  rcases h with ⟨rfl, rfl⟩ | ⟨rfl, rfl⟩ | ⟨rfl, rfl⟩ | ⟨rfl, rfl⟩ | ⟨rfl, rfl⟩ | ⟨rfl, rfl⟩ | ⟨rfl, rfl⟩ | ⟨rfl, rfl⟩ | ⟨rfl, rfl⟩ | ⟨rfl, rfl⟩ | ⟨rfl, rfl⟩ | ⟨rfl, rfl⟩ | ⟨rfl, rfl⟩ | ⟨rfl, rfl⟩ | ⟨rfl, rfl⟩
  · exact to3
  · exact to4
  · exact to5
  · exact to22
  · exact to23
  · exact to24
  · exact to26
  · exact to30
  · exact to34
  · exact to35
  · exact to37
  · exact to39
  · exact to45
  · exact to52
  · exact to57
theorem bytesOk : ∀ t d i, lookupD tabL t = some d → Try.prog.info? t = some i → 0 < d.ty.n → i.bytes = d.bytes := by
  intro t d i h hi _
  have h := lookupD_mem h
  simp only [tabL, List.mem_cons, Prod.mk.injEq, List.not_mem_nil, or_false] at h
  rcases h with ⟨rfl, rfl⟩ | ⟨rfl, rfl⟩ | ⟨rfl, rfl⟩ | ⟨rfl, rfl⟩ | ⟨rfl, rfl⟩ | ⟨rfl, rfl⟩ | ⟨rfl, rfl⟩ | ⟨rfl, rfl⟩ | ⟨rfl, rfl⟩ | ⟨rfl, rfl⟩ | ⟨rfl, rfl⟩ | ⟨rfl, rfl⟩ | ⟨rfl, rfl⟩ | ⟨rfl, rfl⟩ | ⟨rfl, rfl⟩
  · exact bytes_mk (by kernel_rfl) i hi
  · exact bytes_mk (by kernel_rfl) i hi
  · exact bytes_mk (by kernel_rfl) i hi
  · exact bytes_mk (by kernel_rfl) i hi
  · exact bytes_mk (by kernel_rfl) i hi
  · exact bytes_mk (by kernel_rfl) i hi
  · exact bytes_mk (by kernel_rfl) i hi
  · exact bytes_mk (by kernel_rfl) i hi
  · exact bytes_mk (by kernel_rfl) i hi
  · exact bytes_mk (by kernel_rfl) i hi
  · exact bytes_mk (by kernel_rfl) i hi
  · exact bytes_mk (by kernel_rfl) i hi
  · exact bytes_mk (by kernel_rfl) i hi
  · exact bytes_mk (by kernel_rfl) i hi
  · exact bytes_mk (by kernel_rfl) i hi
def xtL : List (Nat × Xt) := [(15, .f64from), (16, .f64bits)]
theorem xt15 : XtOk Try.prog 15 .f64from := fun _ _ => by kernel_rfl
theorem xt16 : XtOk Try.prog 16 .f64bits := fun _ _ => by kernel_rfl
theorem xtOk : ∀ f x, lookXt xtL f = some x → XtOk Try.prog f x := lookXt_cons xt15 (lookXt_cons xt16 (fun _ _ h => by cases h))
def gdS : Gd := gdNone
def gvS : Nat → Option (Sigma fun e : Ty => List e.den) := fun _ => none
theorem gvOk : ∀ g e l, gvS g = some ⟨e, l⟩ → ∃ b, gdS.gl b ∧ ∀ (a : Act) (w : World) (X : Nat → Nat → Prop), gdS.H w → (∀ b p, X b p → ¬ gdS.gl b) → a.eval (.global g) = .pointer (some ⟨b, 0, none⟩) ∧ RowsOk w X e.n (TR w X e) l b 0 := fun g e l h => by cases h
theorem eqOk : ∀ t d, lookupD tabL t = some d → d.eq = true → ∀ (m : Map) (X : Nat → Nat → Prop) (w : World) (xs ys : List Cell) (r : Bool) (us vs : List Value), eqTy d.ty xs ys = some r → CRs m X w xs us → CRs m X w ys vs →
    xs.length = d.ty.n → ys.length = d.ty.n →
    (eqGuard .eql t (.tmp 0) (.tmp 0) (.agg us.toArray) (.agg vs.toArray) >>= fun _ => binOp .eql t (.agg us.toArray) (.agg vs.toArray)).run Try.prog w = .ok (.bool r) w ∧
    (eqGuard .neq t (.tmp 0) (.tmp 0) (.agg us.toArray) (.agg vs.toArray) >>= fun _ => binOp .neq t (.agg us.toArray) (.agg vs.toArray)).run Try.prog w = .ok (.bool (!r)) w := by
  intro t d h he
  have h := lookupD_mem h
  simp only [tabL, List.mem_cons, Prod.mk.injEq, List.not_mem_nil, or_false] at h
  rcases h with ⟨rfl, rfl⟩ | ⟨rfl, rfl⟩ | ⟨rfl, rfl⟩ | ⟨rfl, rfl⟩ | ⟨rfl, rfl⟩ | ⟨rfl, rfl⟩ | ⟨rfl, rfl⟩ | ⟨rfl, rfl⟩ | ⟨rfl, rfl⟩ | ⟨rfl, rfl⟩ | ⟨rfl, rfl⟩ | ⟨rfl, rfl⟩ | ⟨rfl, rfl⟩ | ⟨rfl, rfl⟩ | ⟨rfl, rfl⟩
  · cases he
  · cases he
  · cases he
  · cases he
  · cases he
  · cases he
  · cases he
  · exact fun m X w xs ys r us vs h1 h2 h3 _ _ => eqFact (eq30 9998) Try.eqGuardType30 m X w xs ys r us vs h1 h2 h3
  · cases he
  · cases he
  · cases he
  · exact fun m X w xs ys r us vs h1 h2 h3 _ _ => eqFact (eq39 9998) Try.eqGuardType39 m X w xs ys r us vs h1 h2 h3
  · cases he
  · cases he
  · cases he
end Go.Proofs.Ytghlpolodjlgjaa.Sy
