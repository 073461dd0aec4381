/- The types of this seat, for the evaluator; written by own program mktab.py. -/
import Derived.Test.YtjdaplmlmmnokaaProg
import Derived.Test.YtjdaplmlmmnokaaSg
namespace Go.Proofs.Ytjdaplmlmmnokaa.Sy
open Go
set_option linter.unusedVariables false
set_option linter.unusedSimpArgs false

abbrev ty3 : Ty := (.int .i64)
abbrev ty4 : Ty := .bool
abbrev ty5 : Ty := (.int .u8)
abbrev ty23 : Ty := (.pair (.int .i64) (.pair (.int .i64) (.pair (.int .i64) (.pair (.int .i64) (.pair (.int .i64) (.int .i64))))))
abbrev ty24 : Ty := (.sl (.pair (.int .i64) (.int .i64)))
abbrev ty26 : Ty := (.int .u64)
abbrev ty30 : Ty := (.pair (.int .i64) (.int .i64))
abbrev ty32 : Ty := (.pair (.int .i64) (.pair .bool (.pair (.int .i64) .bool)))
abbrev ty36 : Ty := (.pair (.int .u8) (.int .u8))
abbrev ty37 : Ty := (.sl (.int .i64))
abbrev ty40 : Ty := (.pair (.int .u8) (.pair (.int .u8) (.int .u8)))
def td3 : TD := { kind := .prim, ty := ty3, agg := false, bytes := 8, eq := false }
def td4 : TD := { kind := .prim, ty := ty4, agg := false, bytes := 1, eq := false }
def td5 : TD := { kind := .prim, ty := ty5, agg := false, bytes := 1, eq := false }
def td23 : TD := { kind := .struct [(3, 0), (3, 1), (3, 2), (3, 3), (3, 4), (3, 5)], ty := ty23, agg := true, bytes := 48, eq := true }
def td24 : TD := { kind := .slice 30, ty := ty24, agg := false, bytes := 24, eq := false }
def td26 : TD := { kind := .prim, ty := ty26, agg := false, bytes := 8, eq := false }
def td30 : TD := { kind := .struct [(3, 0), (3, 1)], ty := ty30, agg := true, bytes := 16, eq := true }
def td32 : TD := { kind := .struct [(3, 0), (4, 1), (3, 2), (4, 3)], ty := ty32, agg := true, bytes := 32, eq := true }
def td36 : TD := { kind := .array 2 5, ty := ty36, agg := true, bytes := 2, eq := false }
def td37 : TD := { kind := .slice 3, ty := ty37, agg := false, bytes := 24, eq := false }
def td40 : TD := { kind := .array 3 5, ty := ty40, agg := true, bytes := 3, eq := false }
def tabL : List (Nat × TD) := [(3, td3), (4, td4), (5, td5), (23, td23), (24, td24), (26, td26), (30, td30), (32, td32), (36, td36), (37, td37), (40, td40)]
theorem io3 : InfoOk Try.prog 3 ty3 false := infoOk_mk (by kernel_rfl)
theorem io4 : InfoOk Try.prog 4 ty4 false := infoOk_mk (by kernel_rfl)
theorem io5 : InfoOk Try.prog 5 ty5 false := infoOk_mk (by kernel_rfl)
theorem io23 : InfoOk Try.prog 23 ty23 true := infoOk_mk (by kernel_rfl)
theorem io24 : InfoOk Try.prog 24 ty24 false := infoOk_mk (by kernel_rfl)
theorem io26 : InfoOk Try.prog 26 ty26 false := infoOk_mk (by kernel_rfl)
theorem io30 : InfoOk Try.prog 30 ty30 true := infoOk_mk (by kernel_rfl)
theorem io32 : InfoOk Try.prog 32 ty32 true := infoOk_mk (by kernel_rfl)
theorem io36 : InfoOk Try.prog 36 ty36 true := infoOk_mk (by kernel_rfl)
theorem io37 : InfoOk Try.prog 37 ty37 false := infoOk_mk (by kernel_rfl)
theorem io40 : InfoOk Try.prog 40 ty40 true := infoOk_mk (by kernel_rfl)
theorem to3 : TDOk Try.prog 3 td3 := tdOk_mk (d := td3) Try.underlying3 io3 rfl rfl (fun _ => rfl) (fun _ => rfl)
theorem to4 : TDOk Try.prog 4 td4 := tdOk_mk (d := td4) Try.underlying4 io4 rfl rfl (fun _ => rfl) (fun _ => rfl)
theorem to5 : TDOk Try.prog 5 td5 := tdOk_mk (d := td5) Try.underlying5 io5 rfl rfl (fun _ => rfl) (fun _ => rfl)
theorem to23 : TDOk Try.prog 23 td23 := tdOk_mk (d := td23) Try.underlying23 io23 rfl ⟨rfl, _, rfl, rfl, all_info (by kernel_rfl)⟩ (fun h => by cases h) (fun h => by cases h)
theorem to24 : TDOk Try.prog 24 td24 := tdOk_mk (d := td24) Try.underlying24 io24 rfl ⟨rfl, rfl, _, _, rfl, io30⟩ (fun _ => ⟨_, rfl⟩) (fun _ => rfl)
theorem to26 : TDOk Try.prog 26 td26 := tdOk_mk (d := td26) Try.underlying26 io26 rfl rfl (fun _ => rfl) (fun _ => rfl)
theorem to30 : TDOk Try.prog 30 td30 := tdOk_mk (d := td30) Try.underlying30 io30 rfl ⟨rfl, _, rfl, rfl, all_info (by kernel_rfl)⟩ (fun h => by cases h) (fun h => by cases h)
theorem to32 : TDOk Try.prog 32 td32 := tdOk_mk (d := td32) Try.underlying32 io32 rfl ⟨rfl, _, rfl, rfl, all_info (by kernel_rfl)⟩ (fun h => by cases h) (fun h => by cases h)
theorem to36 : TDOk Try.prog 36 td36 := tdOk_mk (d := td36) Try.underlying36 io36 rfl ⟨rfl, rfl⟩ (fun h => by cases h) (fun h => by cases h)
theorem to37 : TDOk Try.prog 37 td37 := tdOk_mk (d := td37) Try.underlying37 io37 rfl ⟨rfl, rfl, _, _, rfl, io3⟩ (fun _ => ⟨_, rfl⟩) (fun _ => rfl)
theorem to40 : TDOk Try.prog 40 td40 := tdOk_mk (d := td40) Try.underlying40 io40 rfl ⟨rfl, rfl⟩ (fun h => by cases h) (fun h => by cases h)
theorem eq3 (dd : Nat) : EqT Try.prog (dd + 1) 3 ty3 false := eqT_int Try.underlying3 dd
theorem eq23 (dd : Nat) : EqT Try.prog (dd + 2) 23 ty23 true := eqT_struct Try.underlying23 Try.stoodInHeld23 (dd := dd + 1) ⟨by decide, rfl, ⟨td3, to3, rfl, eq3 (dd + 0)⟩, ⟨by decide, rfl, ⟨td3, to3, rfl, eq3 (dd + 0)⟩, ⟨by decide, rfl, ⟨td3, to3, rfl, eq3 (dd + 0)⟩, ⟨by decide, rfl, ⟨td3, to3, rfl, eq3 (dd + 0)⟩, ⟨by decide, rfl, ⟨td3, to3, rfl, eq3 (dd + 0)⟩, ⟨by decide, rfl, td3, to3, rfl, eq3 (dd + 0)⟩⟩⟩⟩⟩⟩
theorem eq30 (dd : Nat) : EqT Try.prog (dd + 2) 30 ty30 true := eqT_struct Try.underlying30 Try.stoodInHeld30 (dd := dd + 1) ⟨by decide, rfl, ⟨td3, to3, rfl, eq3 (dd + 0)⟩, ⟨by decide, rfl, td3, to3, rfl, eq3 (dd + 0)⟩⟩
theorem eq4 (dd : Nat) : EqT Try.prog (dd + 1) 4 ty4 false := eqT_bool Try.underlying4 dd
theorem eq32 (dd : Nat) : EqT Try.prog (dd + 2) 32 ty32 true := eqT_struct Try.underlying32 Try.stoodInHeld32 (dd := dd + 1) ⟨by decide, rfl, ⟨td3, to3, rfl, eq3 (dd + 0)⟩, ⟨by decide, rfl, ⟨td4, to4, rfl, eq4 (dd + 0)⟩, ⟨by decide, rfl, ⟨td3, to3, rfl, eq3 (dd + 0)⟩, ⟨by decide, rfl, td4, to4, rfl, eq4 (dd + 0)⟩⟩⟩⟩
theorem tabOk : ∀ t d, lookupD tabL t = some d → TDOk Try.prog t d := by
  intro t d h
  have h := lookupD_mem h
  simp only [tabL, List.mem_cons, Prod.mk.injEq, List.not_mem_nil, or_false] at h
  rcases h with ⟨rfl, rfl⟩ | ⟨rfl, rfl⟩ | ⟨rfl, rfl⟩ | ⟨rfl, rfl⟩ | ⟨rfl, rfl⟩ | ⟨rfl, rfl⟩ | ⟨rfl, rfl⟩ | ⟨rfl, rfl⟩ | ⟨rfl, rfl⟩ | ⟨rfl, rfl⟩ | ⟨rfl, rfl⟩
  · exact to3
  · exact to4
  · exact to5
  · exact to23
  · exact to24
  · exact to26
  · exact to30
  · exact to32
  · exact to36
  · exact to37
  · exact to40
theorem bytesOk : ∀ t d i, lookupD tabL t = some d → Try.prog.info? t = some i → 0 < d.ty.n → i.bytes = d.bytes := by
  intro t d i h hi _
  have h := lookupD_mem h
  simp only [tabL, List.mem_cons, Prod.mk.injEq, List.not_mem_nil, or_false] at h
  rcases h with ⟨rfl, rfl⟩ | ⟨rfl, rfl⟩ | ⟨rfl, rfl⟩ | ⟨rfl, rfl⟩ | ⟨rfl, rfl⟩ | ⟨rfl, rfl⟩ | ⟨rfl, rfl⟩ | ⟨rfl, rfl⟩ | ⟨rfl, rfl⟩ | ⟨rfl, rfl⟩ | ⟨rfl, rfl⟩
  · exact bytes_mk (by kernel_rfl) i hi
  · exact bytes_mk (by kernel_rfl) i hi
  · exact bytes_mk (by kernel_rfl) i hi
  · exact bytes_mk (by kernel_rfl) i hi
  · exact bytes_mk (by kernel_rfl) i hi
  · exact bytes_mk (by kernel_rfl) i hi
  · exact bytes_mk (by kernel_rfl) i hi
  · exact bytes_mk (by kernel_rfl) i hi
  · exact bytes_mk (by kernel_rfl) i hi
  · exact bytes_mk (by kernel_rfl) i hi
  · exact bytes_mk (by kernel_rfl) i hi
def gdS : Gd := gdNone
def gvS : Nat → Option (Sigma fun e : Ty => List e.den) := fun _ => none
theorem gvOk : ∀ g e l, gvS g = some ⟨e, l⟩ → ∃ b, gdS.gl b ∧ ∀ (a : Act) (w : World) (X : Nat → Nat → Prop), gdS.H w → (∀ b p, X b p → ¬ gdS.gl b) → a.eval (.global g) = .pointer (some ⟨b, 0, none⟩) ∧ RowsOk w X e.n (TR w X e) l b 0 := fun g e l h => by cases h
theorem eqOk : ∀ t d, lookupD tabL t = some d → d.eq = true → ∀ (m : Map) (X : Nat → Nat → Prop) (w : World) (xs ys : List Cell) (r : Bool) (us vs : List Value), eqTy d.ty xs ys = some r → CRs m X w xs us → CRs m X w ys vs →
    xs.length = d.ty.n → ys.length = d.ty.n →
    (eqGuard .eql t (.tmp 0) (.tmp 0) (.agg us.toArray) (.agg vs.toArray) >>= fun _ => binOp .eql t (.agg us.toArray) (.agg vs.toArray)).run Try.prog w = .ok (.bool r) w ∧
    (eqGuard .neq t (.tmp 0) (.tmp 0) (.agg us.toArray) (.agg vs.toArray) >>= fun _ => binOp .neq t (.agg us.toArray) (.agg vs.toArray)).run Try.prog w = .ok (.bool (!r)) w := by
  intro t d h he
  have h := lookupD_mem h
  simp only [tabL, List.mem_cons, Prod.mk.injEq, List.not_mem_nil, or_false] at h
  rcases h with ⟨rfl, rfl⟩ | ⟨rfl, rfl⟩ | ⟨rfl, rfl⟩ | ⟨rfl, rfl⟩ | ⟨rfl, rfl⟩ | ⟨rfl, rfl⟩ | ⟨rfl, rfl⟩ | ⟨rfl, rfl⟩ | ⟨rfl, rfl⟩ | ⟨rfl, rfl⟩ | ⟨rfl, rfl⟩
  · cases he
  · cases he
  · cases he
  · exact fun m X w xs ys r us vs h1 h2 h3 _ _ => eqFact (eq23 9998) Try.eqGuardType23 m X w xs ys r us vs h1 h2 h3
  · cases he
  · cases he
  · exact fun m X w xs ys r us vs h1 h2 h3 _ _ => eqFact (eq30 9998) Try.eqGuardType30 m X w xs ys r us vs h1 h2 h3
  · exact fun m X w xs ys r us vs h1 h2 h3 _ _ => eqFact (eq32 9998) Try.eqGuardType32 m X w xs ys r us vs h1 h2 h3
  · cases he
  · cases he
  · cases he
end Go.Proofs.Ytjdaplmlmmnokaa.Sy
