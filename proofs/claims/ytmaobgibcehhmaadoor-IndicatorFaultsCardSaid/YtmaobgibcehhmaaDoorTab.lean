/- The types of this seat, for the evaluator; written by own program mktab.py. -/
import Derived.Test.YtmaobgibcehhmaaDoorProg
import Derived.Lib.Tables
import Derived.Test.YtmaobgibcehhmaaDoorSg
namespace Go.Proofs.YtmaobgibcehhmaaDoor.Sy
open Go
set_option linter.unusedVariables false
set_option linter.unusedSimpArgs false

abbrev ty3 : Ty := (.int .i64)
abbrev ty4 : Ty := .bool
abbrev ty5 : Ty := (.int .u8)
abbrev ty9 : Ty := .str
abbrev ty22 : Ty := (.int .u32)
abbrev ty24 : Ty := (.pair (.int .u32) (.pair .bool (.pair .bool (.pair .bool .bool))))
abbrev ty25 : Ty := (.pair (.int .u8) (.int .u8))
abbrev ty26 : Ty := (.int .u64)
abbrev ty27 : Ty := (.sl (.pair (.int .u32) (.pair .bool (.pair .bool (.pair .bool .bool)))))
abbrev ty29 : Ty := (.pair (.int .u32) (.int .u32))
abbrev ty32 : Ty := (.pair (.int .i64) (.pair (.int .i64) (.int .i64)))
abbrev ty39 : Ty := (.pair (.int .i64) (.pair (.int .i64) (.pair (.int .i64) (.int .i64))))
abbrev ty42 : Ty := (.pair (.int .u8) (.pair (.int .u8) (.pair (.int .u8) (.pair (.int .u8) (.pair (.int .u8) (.pair (.int .u8) (.pair (.int .u8) (.pair (.int .u8) (.pair (.int .u8) (.pair (.int .u8) (.pair (.int .u8) (.pair (.int .u8) (.pair (.int .u8) (.pair (.int .u8) (.pair (.int .u8) (.pair (.int .u8) (.pair (.int .u8) (.pair (.int .u8) (.pair (.int .u8) (.pair (.int .u8) (.pair (.int .u8) (.pair (.int .u8) (.pair (.int .u8) (.pair (.int .u8) (.pair (.int .u8) (.pair (.int .u8) (.pair (.int .u8) (.pair (.int .u8) (.pair (.int .u8) (.pair (.int .u8) (.pair (.int .u8) (.int .u8))))))))))))))))))))))))))))))))
def td3 : TD := { kind := .prim, ty := ty3, agg := false, bytes := 8, eq := false }
def td4 : TD := { kind := .prim, ty := ty4, agg := false, bytes := 1, eq := false }
def td5 : TD := { kind := .prim, ty := ty5, agg := false, bytes := 1, eq := false }
def td9 : TD := { kind := .prim, ty := ty9, agg := false, bytes := 16, eq := false }
def td22 : TD := { kind := .prim, ty := ty22, agg := false, bytes := 4, eq := false }
def td24 : TD := { kind := .struct [(22, 0), (4, 1), (4, 2), (4, 3), (4, 4)], ty := ty24, agg := true, bytes := 8, eq := true }
def td25 : TD := { kind := .array 2 5, ty := ty25, agg := true, bytes := 2, eq := false }
def td26 : TD := { kind := .prim, ty := ty26, agg := false, bytes := 8, eq := false }
def td27 : TD := { kind := .slice 24, ty := ty27, agg := false, bytes := 24, eq := false }
def td29 : TD := { kind := .struct [(22, 0), (22, 1)], ty := ty29, agg := true, bytes := 8, eq := true }
def td32 : TD := { kind := .struct [(3, 0), (3, 1), (3, 2)], ty := ty32, agg := true, bytes := 24, eq := true }
def td39 : TD := { kind := .array 4 3, ty := ty39, agg := true, bytes := 32, eq := false }
def td42 : TD := { kind := .array 32 5, ty := ty42, agg := true, bytes := 32, eq := false }
def tabL : List (Nat × TD) := [(3, td3), (4, td4), (5, td5), (9, td9), (22, td22), (24, td24), (25, td25), (26, td26), (27, td27), (29, td29), (32, td32), (39, td39), (42, td42)]
theorem io3 : InfoOk Tryd.prog 3 ty3 false := infoOk_mk (by kernel_rfl)
theorem io4 : InfoOk Tryd.prog 4 ty4 false := infoOk_mk (by kernel_rfl)
theorem io5 : InfoOk Tryd.prog 5 ty5 false := infoOk_mk (by kernel_rfl)
theorem io9 : InfoOk Tryd.prog 9 ty9 false := infoOk_mk (by kernel_rfl)
theorem io22 : InfoOk Tryd.prog 22 ty22 false := infoOk_mk (by kernel_rfl)
theorem io24 : InfoOk Tryd.prog 24 ty24 true := infoOk_mk (by kernel_rfl)
theorem io25 : InfoOk Tryd.prog 25 ty25 true := infoOk_mk (by kernel_rfl)
theorem io26 : InfoOk Tryd.prog 26 ty26 false := infoOk_mk (by kernel_rfl)
theorem io27 : InfoOk Tryd.prog 27 ty27 false := infoOk_mk (by kernel_rfl)
theorem io29 : InfoOk Tryd.prog 29 ty29 true := infoOk_mk (by kernel_rfl)
theorem io32 : InfoOk Tryd.prog 32 ty32 true := infoOk_mk (by kernel_rfl)
theorem io39 : InfoOk Tryd.prog 39 ty39 true := infoOk_mk (by kernel_rfl)
theorem io42 : InfoOk Tryd.prog 42 ty42 true := infoOk_mk (by kernel_rfl)
theorem to3 : TDOk Tryd.prog 3 td3 := tdOk_mk (d := td3) Tryd.underlying3 io3 rfl rfl (fun _ => rfl) (fun _ => rfl)
theorem to4 : TDOk Tryd.prog 4 td4 := tdOk_mk (d := td4) Tryd.underlying4 io4 rfl rfl (fun _ => rfl) (fun _ => rfl)
theorem to5 : TDOk Tryd.prog 5 td5 := tdOk_mk (d := td5) Tryd.underlying5 io5 rfl rfl (fun _ => rfl) (fun _ => rfl)
theorem to9 : TDOk Tryd.prog 9 td9 := tdOk_mk (d := td9) Tryd.underlying9 io9 rfl rfl (fun _ => rfl) (fun _ => rfl)
theorem to22 : TDOk Tryd.prog 22 td22 := tdOk_mk (d := td22) Tryd.underlying22 io22 rfl rfl (fun _ => rfl) (fun _ => rfl)
theorem to24 : TDOk Tryd.prog 24 td24 := tdOk_mk (d := td24) Tryd.underlying24 io24 rfl ⟨rfl, _, rfl, rfl, all_info (by kernel_rfl)⟩ (fun h => by cases h) (fun h => by cases h)
theorem to25 : TDOk Tryd.prog 25 td25 := tdOk_mk (d := td25) Tryd.underlying25 io25 rfl ⟨rfl, rfl⟩ (fun h => by cases h) (fun h => by cases h)
theorem to26 : TDOk Tryd.prog 26 td26 := tdOk_mk (d := td26) Tryd.underlying26 io26 rfl rfl (fun _ => rfl) (fun _ => rfl)
theorem to27 : TDOk Tryd.prog 27 td27 := tdOk_mk (d := td27) Tryd.underlying27 io27 rfl ⟨rfl, rfl, _, _, rfl, io24⟩ (fun _ => ⟨_, rfl⟩) (fun _ => rfl)
theorem to29 : TDOk Tryd.prog 29 td29 := tdOk_mk (d := td29) Tryd.underlying29 io29 rfl ⟨rfl, _, rfl, rfl, all_info (by kernel_rfl)⟩ (fun h => by cases h) (fun h => by cases h)
theorem to32 : TDOk Tryd.prog 32 td32 := tdOk_mk (d := td32) Tryd.underlying32 io32 rfl ⟨rfl, _, rfl, rfl, all_info (by kernel_rfl)⟩ (fun h => by cases h) (fun h => by cases h)
theorem to39 : TDOk Tryd.prog 39 td39 := tdOk_mk (d := td39) Tryd.underlying39 io39 rfl ⟨rfl, rfl⟩ (fun h => by cases h) (fun h => by cases h)
theorem to42 : TDOk Tryd.prog 42 td42 := tdOk_mk (d := td42) Tryd.underlying42 io42 rfl ⟨rfl, rfl⟩ (fun h => by cases h) (fun h => by cases h)
theorem eq22 (dd : Nat) : EqT Tryd.prog (dd + 1) 22 ty22 false := eqT_int Tryd.underlying22 dd
theorem eq4 (dd : Nat) : EqT Tryd.prog (dd + 1) 4 ty4 false := eqT_bool Tryd.underlying4 dd
theorem eq24 (dd : Nat) : EqT Tryd.prog (dd + 2) 24 ty24 true := eqT_struct Tryd.underlying24 Tryd.stoodInHeld24 (dd := dd + 1) ⟨by decide, rfl, ⟨td22, to22, rfl, eq22 (dd + 0)⟩, ⟨by decide, rfl, ⟨td4, to4, rfl, eq4 (dd + 0)⟩, ⟨by decide, rfl, ⟨td4, to4, rfl, eq4 (dd + 0)⟩, ⟨by decide, rfl, ⟨td4, to4, rfl, eq4 (dd + 0)⟩, ⟨by decide, rfl, td4, to4, rfl, eq4 (dd + 0)⟩⟩⟩⟩⟩
theorem eq29 (dd : Nat) : EqT Tryd.prog (dd + 2) 29 ty29 true := eqT_struct Tryd.underlying29 Tryd.stoodInHeld29 (dd := dd + 1) ⟨by decide, rfl, ⟨td22, to22, rfl, eq22 (dd + 0)⟩, ⟨by decide, rfl, td22, to22, rfl, eq22 (dd + 0)⟩⟩
theorem eq3 (dd : Nat) : EqT Tryd.prog (dd + 1) 3 ty3 false := eqT_int Tryd.underlying3 dd
theorem eq32 (dd : Nat) : EqT Tryd.prog (dd + 2) 32 ty32 true := eqT_struct Tryd.underlying32 Tryd.stoodInHeld32 (dd := dd + 1) ⟨by decide, rfl, ⟨td3, to3, rfl, eq3 (dd + 0)⟩, ⟨by decide, rfl, ⟨td3, to3, rfl, eq3 (dd + 0)⟩, ⟨by decide, rfl, td3, to3, rfl, eq3 (dd + 0)⟩⟩⟩
theorem tabOk : ∀ t d, lookupD tabL t = some d → TDOk Tryd.prog t d := by
  intro t d h
  have h := lookupD_mem h
  simp only [tabL, List.mem_cons, Prod.mk.injEq, List.not_mem_nil, or_false] at h
  rcases h with ⟨rfl, rfl⟩ | ⟨rfl, rfl⟩ | ⟨rfl, rfl⟩ | ⟨rfl, rfl⟩ | ⟨rfl, rfl⟩ | ⟨rfl, rfl⟩ | ⟨rfl, rfl⟩ | ⟨rfl, rfl⟩ | ⟨rfl, rfl⟩ | ⟨rfl, rfl⟩ | ⟨rfl, rfl⟩ | ⟨rfl, rfl⟩ | ⟨rfl, rfl⟩
  · exact to3
  · exact to4
  · exact to5
  · exact to9
  · exact to22
  · exact to24
  · exact to25
  · exact to26
  · exact to27
  · exact to29
  · exact to32
  · exact to39
  · exact to42
theorem bytesOk : ∀ t d i, lookupD tabL t = some d → Tryd.prog.info? t = some i → 0 < d.ty.n → i.bytes = d.bytes := by
  intro t d i h hi _
  have h := lookupD_mem h
  simp only [tabL, List.mem_cons, Prod.mk.injEq, List.not_mem_nil, or_false] at h
  rcases h with ⟨rfl, rfl⟩ | ⟨rfl, rfl⟩ | ⟨rfl, rfl⟩ | ⟨rfl, rfl⟩ | ⟨rfl, rfl⟩ | ⟨rfl, rfl⟩ | ⟨rfl, rfl⟩ | ⟨rfl, rfl⟩ | ⟨rfl, rfl⟩ | ⟨rfl, rfl⟩ | ⟨rfl, rfl⟩ | ⟨rfl, rfl⟩ | ⟨rfl, rfl⟩
  · exact bytes_mk (by kernel_rfl) i hi
  · exact bytes_mk (by kernel_rfl) i hi
  · exact bytes_mk (by kernel_rfl) i hi
  · exact bytes_mk (by kernel_rfl) i hi
  · exact bytes_mk (by kernel_rfl) i hi
  · exact bytes_mk (by kernel_rfl) i hi
  · exact bytes_mk (by kernel_rfl) i hi
  · exact bytes_mk (by kernel_rfl) i hi
  · exact bytes_mk (by kernel_rfl) i hi
  · exact bytes_mk (by kernel_rfl) i hi
  · exact bytes_mk (by kernel_rfl) i hi
  · exact bytes_mk (by kernel_rfl) i hi
  · exact bytes_mk (by kernel_rfl) i hi
def xtL : List (Nat × Xt) := []
theorem xtOk : ∀ f x, lookXt xtL f = some x → XtOk Tryd.prog f x := fun _ _ h => by cases h
def tabB : List Int := [0, 1, 28, 2, 29, 14, 24, 3, 30, 22, 20, 15, 25, 17, 4, 8, 31, 27, 13, 23, 21, 19, 16, 7, 26, 12, 18, 6, 11, 5, 10, 9]
/-- Block 0 is the table of math/bits. -/
def gdS : Gd where
  H w := ∀ k, k < 32 → w.cell? ⟨0, k, none⟩ = some (.int .u8 (tabB.getD k 0))
  gl b := b = 0
  mono := by
    intro u v hk hu k hlt
    have h1 := (hk.block 0 rfl).2
    have h := hu k hlt
    unfold World.cell? at h ⊢
    rw [h1]
    exact h
  low := by
    intro u b hu hb
    subst hb
    exact cell_lt (hu 0 (by decide))
def gvS : Nat → Option (Sigma fun e : Ty => List e.den) := fun g => cnd (Nat.beq g 0) (some ⟨.int .u8, tabB⟩) none
theorem gvOk : ∀ g e l, gvS g = some ⟨e, l⟩ → ∃ b, gdS.gl b ∧ ∀ (a : Act) (w : World) (X : Nat → Nat → Prop), gdS.H w → (∀ b p, X b p → ¬ gdS.gl b) → a.eval (.global g) = .pointer (some ⟨b, 0, none⟩) ∧ RowsOk w X e.n (TR w X e) l b 0 := by
  intro g e l h
  obtain ⟨h1, h2⟩ := cnd_some h
  have hg := beq_eq h1
  subst hg
  cases h2
  refine ⟨0, rfl, fun a w X hH hX => ⟨rfl, fun i hi => ⟨[.int .u8 tabB[i]], rfl, fun j hj => ?_, rfl⟩, fun p _ _ hx => hX _ _ hx rfl⟩⟩
  have hj : j = 0 := by simp only [Ty.n] at hj; omega
  subst hj
  have := hH i hi
  simp only [Ty.n, Nat.mul_one, Nat.add_zero, Nat.zero_add]
  rw [this]
  simp [List.getD, hi]
theorem eqOk : ∀ t d, lookupD tabL t = some d → d.eq = true → ∀ (m : Map) (X : Nat → Nat → Prop) (w : World) (xs ys : List Cell) (r : Bool) (us vs : List Value), eqTy d.ty xs ys = some r → CRs m X w xs us → CRs m X w ys vs →
    xs.length = d.ty.n → ys.length = d.ty.n →
    (eqGuard .eql t (.tmp 0) (.tmp 0) (.agg us.toArray) (.agg vs.toArray) >>= fun _ => binOp .eql t (.agg us.toArray) (.agg vs.toArray)).run Tryd.prog w = .ok (.bool r) w ∧
    (eqGuard .neq t (.tmp 0) (.tmp 0) (.agg us.toArray) (.agg vs.toArray) >>= fun _ => binOp .neq t (.agg us.toArray) (.agg vs.toArray)).run Tryd.prog w = .ok (.bool (!r)) w := by
  intro t d h he
  have h := lookupD_mem h
  simp only [tabL, List.mem_cons, Prod.mk.injEq, List.not_mem_nil, or_false] at h
  rcases h with ⟨rfl, rfl⟩ | ⟨rfl, rfl⟩ | ⟨rfl, rfl⟩ | ⟨rfl, rfl⟩ | ⟨rfl, rfl⟩ | ⟨rfl, rfl⟩ | ⟨rfl, rfl⟩ | ⟨rfl, rfl⟩ | ⟨rfl, rfl⟩ | ⟨rfl, rfl⟩ | ⟨rfl, rfl⟩ | ⟨rfl, rfl⟩ | ⟨rfl, rfl⟩
  · cases he
  · cases he
  · cases he
  · cases he
  · cases he
  · exact fun m X w xs ys r us vs h1 h2 h3 _ _ => eqFact (eq24 9998) Tryd.eqGuardType24 m X w xs ys r us vs h1 h2 h3
  · cases he
  · cases he
  · cases he
  · exact fun m X w xs ys r us vs h1 h2 h3 _ _ => eqFact (eq29 9998) Tryd.eqGuardType29 m X w xs ys r us vs h1 h2 h3
  · exact fun m X w xs ys r us vs h1 h2 h3 _ _ => eqFact (eq32 9998) Tryd.eqGuardType32 m X w xs ys r us vs h1 h2 h3
  · cases he
  · cases he
end Go.Proofs.YtmaobgibcehhmaaDoor.Sy
