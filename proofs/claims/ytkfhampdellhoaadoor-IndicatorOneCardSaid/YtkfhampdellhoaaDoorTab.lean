/- The types of this seat, for the evaluator; written by own program mktab.py. -/
import Derived.Test.YtkfhampdellhoaaDoorProg
import Derived.Lib.Tables
import Derived.Test.YtkfhampdellhoaaDoorSg
namespace Go.Proofs.YtkfhampdellhoaaDoor.Sy
open Go
set_option linter.unusedVariables false
set_option linter.unusedSimpArgs false

abbrev ty3 : Ty := (.int .i64)
abbrev ty4 : Ty := .bool
abbrev ty5 : Ty := (.int .u8)
abbrev ty9 : Ty := .str
abbrev ty22 : Ty := (.int .u32)
abbrev ty23 : Ty := (.int .u64)
abbrev ty28 : Ty := (.pair (.int .u32) (.pair .bool (.pair .bool (.pair .bool .bool))))
abbrev ty29 : Ty := (.sl (.pair (.int .u32) (.pair .bool (.pair .bool (.pair .bool .bool)))))
abbrev ty31 : Ty := (.pair (.int .i64) (.pair (.int .i64) (.int .i64)))
abbrev ty36 : Ty := (.pair (.int .u32) (.int .u32))
abbrev ty39 : Ty := (.pair (.int .u8) (.int .u8))
abbrev ty44 : Ty := (.pair (.int .i64) (.pair (.int .i64) (.pair (.int .i64) (.int .i64))))
abbrev ty45 : Ty := (.pair (.int .u8) (.pair (.int .u8) (.pair (.int .u8) (.pair (.int .u8) (.pair (.int .u8) (.pair (.int .u8) (.pair (.int .u8) (.pair (.int .u8) (.pair (.int .u8) (.pair (.int .u8) (.pair (.int .u8) (.pair (.int .u8) (.pair (.int .u8) (.pair (.int .u8) (.pair (.int .u8) (.pair (.int .u8) (.pair (.int .u8) (.pair (.int .u8) (.pair (.int .u8) (.pair (.int .u8) (.pair (.int .u8) (.pair (.int .u8) (.pair (.int .u8) (.pair (.int .u8) (.pair (.int .u8) (.pair (.int .u8) (.pair (.int .u8) (.pair (.int .u8) (.pair (.int .u8) (.pair (.int .u8) (.pair (.int .u8) (.int .u8))))))))))))))))))))))))))))))))
def td3 : TD := { kind := .prim, ty := ty3, agg := false, bytes := 8, eq := false }
def td4 : TD := { kind := .prim, ty := ty4, agg := false, bytes := 1, eq := false }
def td5 : TD := { kind := .prim, ty := ty5, agg := false, bytes := 1, eq := false }
def td9 : TD := { kind := .prim, ty := ty9, agg := false, bytes := 16, eq := false }
def td22 : TD := { kind := .prim, ty := ty22, agg := false, bytes := 4, eq := false }
def td23 : TD := { kind := .prim, ty := ty23, agg := false, bytes := 8, eq := false }
def td28 : TD := { kind := .struct [(22, 0), (4, 1), (4, 2), (4, 3), (4, 4)], ty := ty28, agg := true, bytes := 8, eq := true }
def td29 : TD := { kind := .slice 28, ty := ty29, agg := false, bytes := 24, eq := false }
def td31 : TD := { kind := .struct [(3, 0), (3, 1), (3, 2)], ty := ty31, agg := true, bytes := 24, eq := true }
def td36 : TD := { kind := .struct [(22, 0), (22, 1)], ty := ty36, agg := true, bytes := 8, eq := true }
def td39 : TD := { kind := .array 2 5, ty := ty39, agg := true, bytes := 2, eq := false }
def td44 : TD := { kind := .array 4 3, ty := ty44, agg := true, bytes := 32, eq := false }
def td45 : TD := { kind := .array 32 5, ty := ty45, agg := true, bytes := 32, eq := false }
def tabL : List (Nat × TD) := [(3, td3), (4, td4), (5, td5), (9, td9), (22, td22), (23, td23), (28, td28), (29, td29), (31, td31), (36, td36), (39, td39), (44, td44), (45, td45)]
theorem io3 : InfoOk Tryd.prog 3 ty3 false := infoOk_mk (by kernel_rfl)
theorem io4 : InfoOk Tryd.prog 4 ty4 false := infoOk_mk (by kernel_rfl)
theorem io5 : InfoOk Tryd.prog 5 ty5 false := infoOk_mk (by kernel_rfl)
theorem io9 : InfoOk Tryd.prog 9 ty9 false := infoOk_mk (by kernel_rfl)
theorem io22 : InfoOk Tryd.prog 22 ty22 false := infoOk_mk (by kernel_rfl)
theorem io23 : InfoOk Tryd.prog 23 ty23 false := infoOk_mk (by kernel_rfl)
theorem io28 : InfoOk Tryd.prog 28 ty28 true := infoOk_mk (by kernel_rfl)
theorem io29 : InfoOk Tryd.prog 29 ty29 false := infoOk_mk (by kernel_rfl)
theorem io31 : InfoOk Tryd.prog 31 ty31 true := infoOk_mk (by kernel_rfl)
theorem io36 : InfoOk Tryd.prog 36 ty36 true := infoOk_mk (by kernel_rfl)
theorem io39 : InfoOk Tryd.prog 39 ty39 true := infoOk_mk (by kernel_rfl)
theorem io44 : InfoOk Tryd.prog 44 ty44 true := infoOk_mk (by kernel_rfl)
theorem io45 : InfoOk Tryd.prog 45 ty45 true := infoOk_mk (by kernel_rfl)
theorem to3 : TDOk Tryd.prog 3 td3 := tdOk_mk (d := td3) Tryd.underlying3 io3 rfl rfl (fun _ => rfl) (fun _ => rfl)
theorem to4 : TDOk Tryd.prog 4 td4 := tdOk_mk (d := td4) Tryd.underlying4 io4 rfl rfl (fun _ => rfl) (fun _ => rfl)
theorem to5 : TDOk Tryd.prog 5 td5 := tdOk_mk (d := td5) Tryd.underlying5 io5 rfl rfl (fun _ => rfl) (fun _ => rfl)
theorem to9 : TDOk Tryd.prog 9 td9 := tdOk_mk (d := td9) Tryd.underlying9 io9 rfl rfl (fun _ => rfl) (fun _ => rfl)
theorem to22 : TDOk Tryd.prog 22 td22 := tdOk_mk (d := td22) Tryd.underlying22 io22 rfl rfl (fun _ => rfl) (fun _ => rfl)
theorem to23 : TDOk Tryd.prog 23 td23 := tdOk_mk (d := td23) Tryd.underlying23 io23 rfl rfl (fun _ => rfl) (fun _ => rfl)
theorem to28 : TDOk Tryd.prog 28 td28 := tdOk_mk (d := td28) Tryd.underlying28 io28 rfl ⟨rfl, _, rfl, rfl, all_info (by kernel_rfl)⟩ (fun h => by cases h) (fun h => by cases h)
theorem to29 : TDOk Tryd.prog 29 td29 := tdOk_mk (d := td29) Tryd.underlying29 io29 rfl ⟨rfl, rfl, _, _, rfl, io28⟩ (fun _ => ⟨_, rfl⟩) (fun _ => rfl)
theorem to31 : TDOk Tryd.prog 31 td31 := tdOk_mk (d := td31) Tryd.underlying31 io31 rfl ⟨rfl, _, rfl, rfl, all_info (by kernel_rfl)⟩ (fun h => by cases h) (fun h => by cases h)
theorem to36 : TDOk Tryd.prog 36 td36 := tdOk_mk (d := td36) Tryd.underlying36 io36 rfl ⟨rfl, _, rfl, rfl, all_info (by kernel_rfl)⟩ (fun h => by cases h) (fun h => by cases h)
theorem to39 : TDOk Tryd.prog 39 td39 := tdOk_mk (d := td39) Tryd.underlying39 io39 rfl ⟨rfl, rfl⟩ (fun h => by cases h) (fun h => by cases h)
theorem to44 : TDOk Tryd.prog 44 td44 := tdOk_mk (d := td44) Tryd.underlying44 io44 rfl ⟨rfl, rfl⟩ (fun h => by cases h) (fun h => by cases h)
theorem to45 : TDOk Tryd.prog 45 td45 := tdOk_mk (d := td45) Tryd.underlying45 io45 rfl ⟨rfl, rfl⟩ (fun h => by cases h) (fun h => by cases h)
theorem eq22 (dd : Nat) : EqT Tryd.prog (dd + 1) 22 ty22 false := eqT_int Tryd.underlying22 dd
theorem eq4 (dd : Nat) : EqT Tryd.prog (dd + 1) 4 ty4 false := eqT_bool Tryd.underlying4 dd
theorem eq28 (dd : Nat) : EqT Tryd.prog (dd + 2) 28 ty28 true := eqT_struct Tryd.underlying28 Tryd.stoodInHeld28 (dd := dd + 1) ⟨by decide, rfl, ⟨td22, to22, rfl, eq22 (dd + 0)⟩, ⟨by decide, rfl, ⟨td4, to4, rfl, eq4 (dd + 0)⟩, ⟨by decide, rfl, ⟨td4, to4, rfl, eq4 (dd + 0)⟩, ⟨by decide, rfl, ⟨td4, to4, rfl, eq4 (dd + 0)⟩, ⟨by decide, rfl, td4, to4, rfl, eq4 (dd + 0)⟩⟩⟩⟩⟩
theorem eq3 (dd : Nat) : EqT Tryd.prog (dd + 1) 3 ty3 false := eqT_int Tryd.underlying3 dd
theorem eq31 (dd : Nat) : EqT Tryd.prog (dd + 2) 31 ty31 true := eqT_struct Tryd.underlying31 Tryd.stoodInHeld31 (dd := dd + 1) ⟨by decide, rfl, ⟨td3, to3, rfl, eq3 (dd + 0)⟩, ⟨by decide, rfl, ⟨td3, to3, rfl, eq3 (dd + 0)⟩, ⟨by decide, rfl, td3, to3, rfl, eq3 (dd + 0)⟩⟩⟩
theorem eq36 (dd : Nat) : EqT Tryd.prog (dd + 2) 36 ty36 true := eqT_struct Tryd.underlying36 Tryd.stoodInHeld36 (dd := dd + 1) ⟨by decide, rfl, ⟨td22, to22, rfl, eq22 (dd + 0)⟩, ⟨by decide, rfl, td22, to22, rfl, eq22 (dd + 0)⟩⟩
theorem tabOk : ∀ t d, lookupD tabL t = some d → TDOk Tryd.prog t d := by
  intro t d h
  have h := lookupD_mem h
  simp only [tabL, List.mem_cons, Prod.mk.injEq, List.not_mem_nil, or_false] at h
  rcases h with ⟨rfl, rfl⟩ | ⟨rfl, rfl⟩ | ⟨rfl, rfl⟩ | ⟨rfl, rfl⟩ | ⟨rfl, rfl⟩ | ⟨rfl, rfl⟩ | ⟨rfl, rfl⟩ | ⟨rfl, rfl⟩ | ⟨rfl, rfl⟩ | ⟨rfl, rfl⟩ | ⟨rfl, rfl⟩ | ⟨rfl, rfl⟩ | ⟨rfl, rfl⟩
  · exact to3
  · exact to4
  · exact to5
  · exact to9
  · exact to22
  · exact to23
  · exact to28
  · exact to29
  · exact to31
  · exact to36
  · exact to39
  · exact to44
  · exact to45
theorem bytesOk : ∀ t d i, lookupD tabL t = some d → Tryd.prog.info? t = some i → 0 < d.ty.n → i.bytes = d.bytes := by
  intro t d i h hi _
  have h := lookupD_mem h
  simp only [tabL, List.mem_cons, Prod.mk.injEq, List.not_mem_nil, or_false] at h
  rcases h with ⟨rfl, rfl⟩ | ⟨rfl, rfl⟩ | ⟨rfl, rfl⟩ | ⟨rfl, rfl⟩ | ⟨rfl, rfl⟩ | ⟨rfl, rfl⟩ | ⟨rfl, rfl⟩ | ⟨rfl, rfl⟩ | ⟨rfl, rfl⟩ | ⟨rfl, rfl⟩ | ⟨rfl, rfl⟩ | ⟨rfl, rfl⟩ | ⟨rfl, rfl⟩
  · exact bytes_mk (by kernel_rfl) i hi
  · exact bytes_mk (by kernel_rfl) i hi
  · exact bytes_mk (by kernel_rfl) i hi
  · exact bytes_mk (by kernel_rfl) i hi
  · exact bytes_mk (by kernel_rfl) i hi
  · exact bytes_mk (by kernel_rfl) i hi
  · exact bytes_mk (by kernel_rfl) i hi
  · exact bytes_mk (by kernel_rfl) i hi
  · exact bytes_mk (by kernel_rfl) i hi
  · exact bytes_mk (by kernel_rfl) i hi
  · exact bytes_mk (by kernel_rfl) i hi
  · exact bytes_mk (by kernel_rfl) i hi
  · exact bytes_mk (by kernel_rfl) i hi
def xtL : List (Nat × Xt) := []
theorem xtOk : ∀ f x, lookXt xtL f = some x → XtOk Tryd.prog f x := fun _ _ h => by cases h
def tabB : List Int := [0, 1, 28, 2, 29, 14, 24, 3, 30, 22, 20, 15, 25, 17, 4, 8, 31, 27, 13, 23, 21, 19, 16, 7, 26, 12, 18, 6, 11, 5, 10, 9]
/-- Block 0 is the table of math/bits. -/
def gdS : Gd where
  H w := ∀ k, k < 32 → w.cell? ⟨0, k, none⟩ = some (.int .u8 (tabB.getD k 0))
  gl b := b = 0
  mono := by
    intro u v hk hu k hlt
    have h1 := (hk.block 0 rfl).2
    have h := hu k hlt
    unfold World.cell? at h ⊢
    rw [h1]
    exact h
  low := by
    intro u b hu hb
    subst hb
    exact cell_lt (hu 0 (by decide))
def gvS : Nat → Option (Sigma fun e : Ty => List e.den) := fun g => cnd (Nat.beq g 0) (some ⟨.int .u8, tabB⟩) none
theorem gvOk : ∀ g e l, gvS g = some ⟨e, l⟩ → ∃ b, gdS.gl b ∧ ∀ (a : Act) (w : World) (X : Nat → Nat → Prop), gdS.H w → (∀ b p, X b p → ¬ gdS.gl b) → a.eval (.global g) = .pointer (some ⟨b, 0, none⟩) ∧ RowsOk w X e.n (TR w X e) l b 0 := by
  intro g e l h
  obtain ⟨h1, h2⟩ := cnd_some h
  have hg := beq_eq h1
  subst hg
  cases h2
  refine ⟨0, rfl, fun a w X hH hX => ⟨rfl, fun i hi => ⟨[.int .u8 tabB[i]], rfl, fun j hj => ?_, rfl⟩, fun p _ _ hx => hX _ _ hx rfl⟩⟩
  have hj : j = 0 := by simp only [Ty.n] at hj; omega
  subst hj
  have := hH i hi
  simp only [Ty.n, Nat.mul_one, Nat.add_zero, Nat.zero_add]
  rw [this]
  simp [List.getD, hi]
theorem eqOk : ∀ t d, lookupD tabL t = some d → d.eq = true → ∀ (m : Map) (X : Nat → Nat → Prop) (w : World) (xs ys : List Cell) (r : Bool) (us vs : List Value), eqTy d.ty xs ys = some r → CRs m X w xs us → CRs m X w ys vs →
    xs.length = d.ty.n → ys.length = d.ty.n →
    (eqGuard .eql t (.tmp 0) (.tmp 0) (.agg us.toArray) (.agg vs.toArray) >>= fun _ => binOp .eql t (.agg us.toArray) (.agg vs.toArray)).run Tryd.prog w = .ok (.bool r) w ∧
    (eqGuard .neq t (.tmp 0) (.tmp 0) (.agg us.toArray) (.agg vs.toArray) >>= fun _ => binOp .neq t (.agg us.toArray) (.agg vs.toArray)).run Tryd.prog w = .ok (.bool (!r)) w := by
  intro t d h he
  have h := lookupD_mem h
  simp only [tabL, List.mem_cons, Prod.mk.injEq, List.not_mem_nil, or_false] at h
  rcases h with ⟨rfl, rfl⟩ | ⟨rfl, rfl⟩ | ⟨rfl, rfl⟩ | ⟨rfl, rfl⟩ | ⟨rfl, rfl⟩ | ⟨rfl, rfl⟩ | ⟨rfl, rfl⟩ | ⟨rfl, rfl⟩ | ⟨rfl, rfl⟩ | ⟨rfl, rfl⟩ | ⟨rfl, rfl⟩ | ⟨rfl, rfl⟩ | ⟨rfl, rfl⟩
  · cases he
  · cases he
  · cases he
  · cases he
  · cases he
  · cases he
  · exact fun m X w xs ys r us vs h1 h2 h3 _ _ => eqFact (eq28 9998) Tryd.eqGuardType28 m X w xs ys r us vs h1 h2 h3
  · cases he
  · exact fun m X w xs ys r us vs h1 h2 h3 _ _ => eqFact (eq31 9998) Tryd.eqGuardType31 m X w xs ys r us vs h1 h2 h3
  · exact fun m X w xs ys r us vs h1 h2 h3 _ _ => eqFact (eq36 9998) Tryd.eqGuardType36 m X w xs ys r us vs h1 h2 h3
  · cases he
  · cases he
  · cases he
end Go.Proofs.YtkfhampdellhoaaDoor.Sy
