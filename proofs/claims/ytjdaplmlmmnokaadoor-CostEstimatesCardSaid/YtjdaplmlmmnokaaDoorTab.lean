/- The types of this seat, for the evaluator; written by own program mktab.py. -/
import Derived.Test.YtjdaplmlmmnokaaDoorProg
import Derived.Lib.Tables
import Derived.Test.YtjdaplmlmmnokaaDoorSg
namespace Go.Proofs.YtjdaplmlmmnokaaDoor.Sy
open Go
set_option linter.unusedVariables false
set_option linter.unusedSimpArgs false

abbrev ty3 : Ty := (.int .i64)
abbrev ty4 : Ty := .bool
abbrev ty5 : Ty := (.int .u8)
abbrev ty9 : Ty := .str
abbrev ty22 : Ty := (.int .u32)
abbrev ty24 : Ty := (.pair (.int .u32) (.int .u32))
abbrev ty26 : Ty := (.pair (.int .u32) (.pair (.int .u32) (.int .u32)))
abbrev ty28 : Ty := (.pair (.int .i64) (.pair (.int .i64) (.pair (.int .i64) (.int .i64))))
abbrev ty29 : Ty := (.int .u64)
abbrev ty35 : Ty := (.sl (.int .i64))
abbrev ty36 : Ty := (.pair (.int .u8) (.int .u8))
abbrev ty38 : Ty := (.pair .bool (.pair .bool (.pair .bool (.pair .bool (.pair (.int .i64) (.pair (.int .i64) (.pair (.int .i64) (.pair (.pair (.int .u32) (.int .u32)) (.pair (.int .u32) (.pair (.int .u32) (.int .u32)))))))))))
abbrev ty39 : Ty := (.flt .f64)
abbrev ty40 : Ty := (.sl (.pair (.int .i64) (.pair (.int .i64) (.pair (.int .i64) (.pair (.int .i64) (.pair (.int .i64) (.pair (.int .i64) (.pair (.int .i64) (.pair (.int .i64) (.int .i64))))))))))
abbrev ty42 : Ty := (.pair (.int .i64) (.pair (.int .i64) (.pair (.int .i64) (.pair (.int .i64) (.pair (.flt .f64) (.pair (.flt .f64) (.pair (.flt .f64) (.sl (.pair (.int .i64) (.pair (.int .i64) (.pair (.int .i64) (.pair (.int .i64) (.pair (.int .i64) (.pair (.int .i64) (.pair (.int .i64) (.pair (.int .i64) (.int .i64)))))))))))))))))
abbrev ty46 : Ty := (.pair (.int .i64) (.pair (.int .i64) (.pair (.int .i64) (.pair (.int .i64) (.pair (.int .i64) (.pair (.int .i64) (.pair (.int .i64) (.pair (.int .i64) (.int .i64)))))))))
abbrev ty53 : Ty := .fnt
abbrev ty58 : Ty := (.int .i64)
abbrev ty61 : Ty := (.pair (.int .u8) (.pair (.int .u8) (.pair (.int .u8) (.pair (.int .u8) (.pair (.int .u8) (.pair (.int .u8) (.pair (.int .u8) (.pair (.int .u8) (.pair (.int .u8) (.pair (.int .u8) (.pair (.int .u8) (.pair (.int .u8) (.pair (.int .u8) (.pair (.int .u8) (.pair (.int .u8) (.pair (.int .u8) (.pair (.int .u8) (.pair (.int .u8) (.pair (.int .u8) (.pair (.int .u8) (.pair (.int .u8) (.pair (.int .u8) (.pair (.int .u8) (.pair (.int .u8) (.pair (.int .u8) (.pair (.int .u8) (.pair (.int .u8) (.pair (.int .u8) (.pair (.int .u8) (.pair (.int .u8) (.pair (.int .u8) (.int .u8))))))))))))))))))))))))))))))))
def td3 : TD := { kind := .prim, ty := ty3, agg := false, bytes := 8, eq := false }
def td4 : TD := { kind := .prim, ty := ty4, agg := false, bytes := 1, eq := false }
def td5 : TD := { kind := .prim, ty := ty5, agg := false, bytes := 1, eq := false }
def td9 : TD := { kind := .prim, ty := ty9, agg := false, bytes := 16, eq := false }
def td22 : TD := { kind := .prim, ty := ty22, agg := false, bytes := 4, eq := false }
def td24 : TD := { kind := .struct [(22, 0), (22, 1)], ty := ty24, agg := true, bytes := 8, eq := true }
def td26 : TD := { kind := .struct [(22, 0), (24, 1)], ty := ty26, agg := true, bytes := 12, eq := true }
def td28 : TD := { kind := .struct [(3, 0), (3, 1), (3, 2), (3, 3)], ty := ty28, agg := true, bytes := 32, eq := true }
def td29 : TD := { kind := .prim, ty := ty29, agg := false, bytes := 8, eq := false }
def td35 : TD := { kind := .slice 3, ty := ty35, agg := false, bytes := 24, eq := false }
def td36 : TD := { kind := .array 2 5, ty := ty36, agg := true, bytes := 2, eq := false }
def td38 : TD := { kind := .struct [(4, 0), (4, 1), (4, 2), (4, 3), (3, 4), (3, 5), (3, 6), (24, 7), (26, 9)], ty := ty38, agg := true, bytes := 56, eq := true }
def td39 : TD := { kind := .prim, ty := ty39, agg := false, bytes := 8, eq := false }
def td40 : TD := { kind := .slice 46, ty := ty40, agg := false, bytes := 24, eq := false }
def td42 : TD := { kind := .struct [(3, 0), (3, 1), (3, 2), (3, 3), (39, 4), (39, 5), (39, 6), (40, 7)], ty := ty42, agg := true, bytes := 80, eq := false }
def td46 : TD := { kind := .struct [(3, 0), (3, 1), (3, 2), (3, 3), (3, 4), (3, 5), (3, 6), (3, 7), (3, 8)], ty := ty46, agg := true, bytes := 72, eq := true }
def td53 : TD := { kind := .prim, ty := ty53, agg := false, bytes := 8, eq := false }
def td58 : TD := { kind := .prim, ty := ty58, agg := false, bytes := 8, eq := false }
def td61 : TD := { kind := .array 32 5, ty := ty61, agg := true, bytes := 32, eq := false }
def tabL : List (Nat × TD) := [(3, td3), (4, td4), (5, td5), (9, td9), (22, td22), (24, td24), (26, td26), (28, td28), (29, td29), (35, td35), (36, td36), (38, td38), (39, td39), (40, td40), (42, td42), (46, td46), (53, td53), (58, td58), (61, td61)]
theorem io3 : InfoOk Tryd.prog 3 ty3 false := infoOk_mk (by kernel_rfl)
theorem io4 : InfoOk Tryd.prog 4 ty4 false := infoOk_mk (by kernel_rfl)
theorem io5 : InfoOk Tryd.prog 5 ty5 false := infoOk_mk (by kernel_rfl)
theorem io9 : InfoOk Tryd.prog 9 ty9 false := infoOk_mk (by kernel_rfl)
theorem io22 : InfoOk Tryd.prog 22 ty22 false := infoOk_mk (by kernel_rfl)
theorem io24 : InfoOk Tryd.prog 24 ty24 true := infoOk_mk (by kernel_rfl)
theorem io26 : InfoOk Tryd.prog 26 ty26 true := infoOk_mk (by kernel_rfl)
theorem io28 : InfoOk Tryd.prog 28 ty28 true := infoOk_mk (by kernel_rfl)
theorem io29 : InfoOk Tryd.prog 29 ty29 false := infoOk_mk (by kernel_rfl)
theorem io35 : InfoOk Tryd.prog 35 ty35 false := infoOk_mk (by kernel_rfl)
theorem io36 : InfoOk Tryd.prog 36 ty36 true := infoOk_mk (by kernel_rfl)
theorem io38 : InfoOk Tryd.prog 38 ty38 true := infoOk_mk (by kernel_rfl)
theorem io39 : InfoOk Tryd.prog 39 ty39 false := infoOk_mk (by kernel_rfl)
theorem io40 : InfoOk Tryd.prog 40 ty40 false := infoOk_mk (by kernel_rfl)
theorem io42 : InfoOk Tryd.prog 42 ty42 true := infoOk_mk (by kernel_rfl)
theorem io46 : InfoOk Tryd.prog 46 ty46 true := infoOk_mk (by kernel_rfl)
theorem io53 : InfoOk Tryd.prog 53 ty53 false := infoOk_mk (by kernel_rfl)
theorem io58 : InfoOk Tryd.prog 58 ty58 false := infoOk_mk (by kernel_rfl)
theorem io61 : InfoOk Tryd.prog 61 ty61 true := infoOk_mk (by kernel_rfl)
theorem to3 : TDOk Tryd.prog 3 td3 := tdOk_mk (d := td3) Tryd.underlying3 io3 rfl rfl (fun _ => rfl) (fun _ => rfl)
theorem to4 : TDOk Tryd.prog 4 td4 := tdOk_mk (d := td4) Tryd.underlying4 io4 rfl rfl (fun _ => rfl) (fun _ => rfl)
theorem to5 : TDOk Tryd.prog 5 td5 := tdOk_mk (d := td5) Tryd.underlying5 io5 rfl rfl (fun _ => rfl) (fun _ => rfl)
theorem to9 : TDOk Tryd.prog 9 td9 := tdOk_mk (d := td9) Tryd.underlying9 io9 rfl rfl (fun _ => rfl) (fun _ => rfl)
theorem to22 : TDOk Tryd.prog 22 td22 := tdOk_mk (d := td22) Tryd.underlying22 io22 rfl rfl (fun _ => rfl) (fun _ => rfl)
theorem to24 : TDOk Tryd.prog 24 td24 := tdOk_mk (d := td24) Tryd.underlying24 io24 rfl ⟨rfl, _, rfl, rfl, all_info (by kernel_rfl)⟩ (fun h => by cases h) (fun h => by cases h)
theorem to26 : TDOk Tryd.prog 26 td26 := tdOk_mk (d := td26) Tryd.underlying26 io26 rfl ⟨rfl, _, rfl, rfl, all_info (by kernel_rfl)⟩ (fun h => by cases h) (fun h => by cases h)
theorem to28 : TDOk Tryd.prog 28 td28 := tdOk_mk (d := td28) Tryd.underlying28 io28 rfl ⟨rfl, _, rfl, rfl, all_info (by kernel_rfl)⟩ (fun h => by cases h) (fun h => by cases h)
theorem to29 : TDOk Tryd.prog 29 td29 := tdOk_mk (d := td29) Tryd.underlying29 io29 rfl rfl (fun _ => rfl) (fun _ => rfl)
theorem to35 : TDOk Tryd.prog 35 td35 := tdOk_mk (d := td35) Tryd.underlying35 io35 rfl ⟨rfl, rfl, _, _, rfl, io3⟩ (fun _ => ⟨_, rfl⟩) (fun _ => rfl)
theorem to36 : TDOk Tryd.prog 36 td36 := tdOk_mk (d := td36) Tryd.underlying36 io36 rfl ⟨rfl, rfl⟩ (fun h => by cases h) (fun h => by cases h)
theorem to38 : TDOk Tryd.prog 38 td38 := tdOk_mk (d := td38) Tryd.underlying38 io38 rfl ⟨rfl, _, rfl, rfl, all_info (by kernel_rfl)⟩ (fun h => by cases h) (fun h => by cases h)
theorem to39 : TDOk Tryd.prog 39 td39 := tdOk_mk (d := td39) Tryd.underlying39 io39 rfl rfl (fun _ => rfl) (fun _ => rfl)
theorem to40 : TDOk Tryd.prog 40 td40 := tdOk_mk (d := td40) Tryd.underlying40 io40 rfl ⟨rfl, rfl, _, _, rfl, io46⟩ (fun _ => ⟨_, rfl⟩) (fun _ => rfl)
theorem to42 : TDOk Tryd.prog 42 td42 := tdOk_mk (d := td42) Tryd.underlying42 io42 rfl ⟨rfl, _, rfl, rfl, all_info (by kernel_rfl)⟩ (fun h => by cases h) (fun h => by cases h)
theorem to46 : TDOk Tryd.prog 46 td46 := tdOk_mk (d := td46) Tryd.underlying46 io46 rfl ⟨rfl, _, rfl, rfl, all_info (by kernel_rfl)⟩ (fun h => by cases h) (fun h => by cases h)
theorem to53 : TDOk Tryd.prog 53 td53 := tdOk_mk (d := td53) Tryd.underlying53 io53 rfl rfl (fun _ => trivial) (fun _ => rfl)
theorem to58 : TDOk Tryd.prog 58 td58 := tdOk_mk (d := td58) Tryd.underlying58 io58 rfl rfl (fun _ => rfl) (fun _ => rfl)
theorem to61 : TDOk Tryd.prog 61 td61 := tdOk_mk (d := td61) Tryd.underlying61 io61 rfl ⟨rfl, rfl⟩ (fun h => by cases h) (fun h => by cases h)
theorem eq22 (dd : Nat) : EqT Tryd.prog (dd + 1) 22 ty22 false := eqT_int Tryd.underlying22 dd
theorem eq24 (dd : Nat) : EqT Tryd.prog (dd + 2) 24 ty24 true := eqT_struct Tryd.underlying24 Tryd.stoodInHeld24 (dd := dd + 1) ⟨by decide, rfl, ⟨td22, to22, rfl, eq22 (dd + 0)⟩, ⟨by decide, rfl, td22, to22, rfl, eq22 (dd + 0)⟩⟩
theorem eq26 (dd : Nat) : EqT Tryd.prog (dd + 3) 26 ty26 true := eqT_struct Tryd.underlying26 Tryd.stoodInHeld26 (dd := dd + 2) ⟨by decide, rfl, ⟨td22, to22, rfl, eq22 (dd + 1)⟩, ⟨by decide, rfl, td24, to24, rfl, eq24 (dd + 0)⟩⟩
theorem eq3 (dd : Nat) : EqT Tryd.prog (dd + 1) 3 ty3 false := eqT_int Tryd.underlying3 dd
theorem eq28 (dd : Nat) : EqT Tryd.prog (dd + 2) 28 ty28 true := eqT_struct Tryd.underlying28 Tryd.stoodInHeld28 (dd := dd + 1) ⟨by decide, rfl, ⟨td3, to3, rfl, eq3 (dd + 0)⟩, ⟨by decide, rfl, ⟨td3, to3, rfl, eq3 (dd + 0)⟩, ⟨by decide, rfl, ⟨td3, to3, rfl, eq3 (dd + 0)⟩, ⟨by decide, rfl, td3, to3, rfl, eq3 (dd + 0)⟩⟩⟩⟩
theorem eq4 (dd : Nat) : EqT Tryd.prog (dd + 1) 4 ty4 false := eqT_bool Tryd.underlying4 dd
theorem eq38 (dd : Nat) : EqT Tryd.prog (dd + 4) 38 ty38 true := eqT_struct Tryd.underlying38 Tryd.stoodInHeld38 (dd := dd + 3) ⟨by decide, rfl, ⟨td4, to4, rfl, eq4 (dd + 2)⟩, ⟨by decide, rfl, ⟨td4, to4, rfl, eq4 (dd + 2)⟩, ⟨by decide, rfl, ⟨td4, to4, rfl, eq4 (dd + 2)⟩, ⟨by decide, rfl, ⟨td4, to4, rfl, eq4 (dd + 2)⟩, ⟨by decide, rfl, ⟨td3, to3, rfl, eq3 (dd + 2)⟩, ⟨by decide, rfl, ⟨td3, to3, rfl, eq3 (dd + 2)⟩, ⟨by decide, rfl, ⟨td3, to3, rfl, eq3 (dd + 2)⟩, ⟨by decide, rfl, ⟨td24, to24, rfl, eq24 (dd + 1)⟩, ⟨by decide, rfl, td26, to26, rfl, eq26 (dd + 0)⟩⟩⟩⟩⟩⟩⟩⟩⟩
theorem eq46 (dd : Nat) : EqT Tryd.prog (dd + 2) 46 ty46 true := eqT_struct Tryd.underlying46 Tryd.stoodInHeld46 (dd := dd + 1) ⟨by decide, rfl, ⟨td3, to3, rfl, eq3 (dd + 0)⟩, ⟨by decide, rfl, ⟨td3, to3, rfl, eq3 (dd + 0)⟩, ⟨by decide, rfl, ⟨td3, to3, rfl, eq3 (dd + 0)⟩, ⟨by decide, rfl, ⟨td3, to3, rfl, eq3 (dd + 0)⟩, ⟨by decide, rfl, ⟨td3, to3, rfl, eq3 (dd + 0)⟩, ⟨by decide, rfl, ⟨td3, to3, rfl, eq3 (dd + 0)⟩, ⟨by decide, rfl, ⟨td3, to3, rfl, eq3 (dd + 0)⟩, ⟨by decide, rfl, ⟨td3, to3, rfl, eq3 (dd + 0)⟩, ⟨by decide, rfl, td3, to3, rfl, eq3 (dd + 0)⟩⟩⟩⟩⟩⟩⟩⟩⟩
theorem tabOk : ∀ t d, lookupD tabL t = some d → TDOk Tryd.prog t d := by
  intro t d h
  have h := lookupD_mem h
  simp only [tabL, List.mem_cons, Prod.mk.injEq, List.not_mem_nil, or_false] at h
  rcases h with ⟨rfl, rfl⟩ | ⟨rfl, rfl⟩ | ⟨rfl, rfl⟩ | ⟨rfl, rfl⟩ | ⟨rfl, rfl⟩ | ⟨rfl, rfl⟩ | ⟨rfl, rfl⟩ | ⟨rfl, rfl⟩ | ⟨rfl, rfl⟩ | ⟨rfl, rfl⟩ | ⟨rfl, rfl⟩ | ⟨rfl, rfl⟩ | ⟨rfl, rfl⟩ | ⟨rfl, rfl⟩ | ⟨rfl, rfl⟩ | ⟨rfl, rfl⟩ | ⟨rfl, rfl⟩ | ⟨rfl, rfl⟩ | ⟨rfl, rfl⟩
  · exact to3
  · exact to4
  · exact to5
  · exact to9
  · exact to22
  · exact to24
  · exact to26
  · exact to28
  · exact to29
  · exact to35
  · exact to36
  · exact to38
  · exact to39
  · exact to40
  · exact to42
  · exact to46
  · exact to53
  · exact to58
  · exact to61
theorem bytesOk : ∀ t d i, lookupD tabL t = some d → Tryd.prog.info? t = some i → 0 < d.ty.n → i.bytes = d.bytes := by
  intro t d i h hi _
  have h := lookupD_mem h
  simp only [tabL, List.mem_cons, Prod.mk.injEq, List.not_mem_nil, or_false] at h
  rcases h with ⟨rfl, rfl⟩ | ⟨rfl, rfl⟩ | ⟨rfl, rfl⟩ | ⟨rfl, rfl⟩ | ⟨rfl, rfl⟩ | ⟨rfl, rfl⟩ | ⟨rfl, rfl⟩ | ⟨rfl, rfl⟩ | ⟨rfl, rfl⟩ | ⟨rfl, rfl⟩ | ⟨rfl, rfl⟩ | ⟨rfl, rfl⟩ | ⟨rfl, rfl⟩ | ⟨rfl, rfl⟩ | ⟨rfl, rfl⟩ | ⟨rfl, rfl⟩ | ⟨rfl, rfl⟩ | ⟨rfl, rfl⟩ | ⟨rfl, rfl⟩
  · exact bytes_mk (by kernel_rfl) i hi
  · exact bytes_mk (by kernel_rfl) i hi
  · exact bytes_mk (by kernel_rfl) i hi
  · exact bytes_mk (by kernel_rfl) i hi
  · exact bytes_mk (by kernel_rfl) i hi
  · exact bytes_mk (by kernel_rfl) i hi
  · exact bytes_mk (by kernel_rfl) i hi
  · exact bytes_mk (by kernel_rfl) i hi
  · exact bytes_mk (by kernel_rfl) i hi
  · exact bytes_mk (by kernel_rfl) i hi
  · exact bytes_mk (by kernel_rfl) i hi
  · exact bytes_mk (by kernel_rfl) i hi
  · exact bytes_mk (by kernel_rfl) i hi
  · exact bytes_mk (by kernel_rfl) i hi
  · exact bytes_mk (by kernel_rfl) i hi
  · exact bytes_mk (by kernel_rfl) i hi
  · exact bytes_mk (by kernel_rfl) i hi
  · exact bytes_mk (by kernel_rfl) i hi
  · exact bytes_mk (by kernel_rfl) i hi
def xtL : List (Nat × Xt) := []
theorem xtOk : ∀ f x, lookXt xtL f = some x → XtOk Tryd.prog f x := fun _ _ h => by cases h
def tabB : List Int := [0, 1, 28, 2, 29, 14, 24, 3, 30, 22, 20, 15, 25, 17, 4, 8, 31, 27, 13, 23, 21, 19, 16, 7, 26, 12, 18, 6, 11, 5, 10, 9]
/-- Block 0 is the table of math/bits. -/
def gdS : Gd where
  H w := ∀ k, k < 32 → w.cell? ⟨0, k, none⟩ = some (.int .u8 (tabB.getD k 0))
  gl b := b = 0
  mono := by
    intro u v hk hu k hlt
    have h1 := (hk.block 0 rfl).2
    have h := hu k hlt
    unfold World.cell? at h ⊢
    rw [h1]
    exact h
  low := by
    intro u b hu hb
    subst hb
    exact cell_lt (hu 0 (by decide))
def gvS : Nat → Option (Sigma fun e : Ty => List e.den) := fun g => cnd (Nat.beq g 0) (some ⟨.int .u8, tabB⟩) none
theorem gvOk : ∀ g e l, gvS g = some ⟨e, l⟩ → ∃ b, gdS.gl b ∧ ∀ (a : Act) (w : World) (X : Nat → Nat → Prop), gdS.H w → (∀ b p, X b p → ¬ gdS.gl b) → a.eval (.global g) = .pointer (some ⟨b, 0, none⟩) ∧ RowsOk w X e.n (TR w X e) l b 0 := by
  intro g e l h
  obtain ⟨h1, h2⟩ := cnd_some h
  have hg := beq_eq h1
  subst hg
  cases h2
  refine ⟨0, rfl, fun a w X hH hX => ⟨rfl, fun i hi => ⟨[.int .u8 tabB[i]], rfl, fun j hj => ?_, rfl⟩, fun p _ _ hx => hX _ _ hx rfl⟩⟩
  have hj : j = 0 := by simp only [Ty.n] at hj; omega
  subst hj
  have := hH i hi
  simp only [Ty.n, Nat.mul_one, Nat.add_zero, Nat.zero_add]
  rw [this]
  simp [List.getD, hi]
theorem eqOk : ∀ t d, lookupD tabL t = some d → d.eq = true → ∀ (m : Map) (X : Nat → Nat → Prop) (w : World) (xs ys : List Cell) (r : Bool) (us vs : List Value), eqTy d.ty xs ys = some r → CRs m X w xs us → CRs m X w ys vs →
    xs.length = d.ty.n → ys.length = d.ty.n →
    (eqGuard .eql t (.tmp 0) (.tmp 0) (.agg us.toArray) (.agg vs.toArray) >>= fun _ => binOp .eql t (.agg us.toArray) (.agg vs.toArray)).run Tryd.prog w = .ok (.bool r) w ∧
    (eqGuard .neq t (.tmp 0) (.tmp 0) (.agg us.toArray) (.agg vs.toArray) >>= fun _ => binOp .neq t (.agg us.toArray) (.agg vs.toArray)).run Tryd.prog w = .ok (.bool (!r)) w := by
  intro t d h he
  have h := lookupD_mem h
  simp only [tabL, List.mem_cons, Prod.mk.injEq, List.not_mem_nil, or_false] at h
  rcases h with ⟨rfl, rfl⟩ | ⟨rfl, rfl⟩ | ⟨rfl, rfl⟩ | ⟨rfl, rfl⟩ | ⟨rfl, rfl⟩ | ⟨rfl, rfl⟩ | ⟨rfl, rfl⟩ | ⟨rfl, rfl⟩ | ⟨rfl, rfl⟩ | ⟨rfl, rfl⟩ | ⟨rfl, rfl⟩ | ⟨rfl, rfl⟩ | ⟨rfl, rfl⟩ | ⟨rfl, rfl⟩ | ⟨rfl, rfl⟩ | ⟨rfl, rfl⟩ | ⟨rfl, rfl⟩ | ⟨rfl, rfl⟩ | ⟨rfl, rfl⟩
  · cases he
  · cases he
  · cases he
  · cases he
  · cases he
  · exact fun m X w xs ys r us vs h1 h2 h3 _ _ => eqFact (eq24 9998) Tryd.eqGuardType24 m X w xs ys r us vs h1 h2 h3
  · exact fun m X w xs ys r us vs h1 h2 h3 _ _ => eqFact (eq26 9997) Tryd.eqGuardType26 m X w xs ys r us vs h1 h2 h3
  · exact fun m X w xs ys r us vs h1 h2 h3 _ _ => eqFact (eq28 9998) Tryd.eqGuardType28 m X w xs ys r us vs h1 h2 h3
  · cases he
  · cases he
  · cases he
  · exact fun m X w xs ys r us vs h1 h2 h3 _ _ => eqFact (eq38 9996) Tryd.eqGuardType38 m X w xs ys r us vs h1 h2 h3
  · cases he
  · cases he
  · cases he
  · exact fun m X w xs ys r us vs h1 h2 h3 _ _ => eqFact (eq46 9998) Tryd.eqGuardType46 m X w xs ys r us vs h1 h2 h3
  · cases he
  · cases he
  · cases he
end Go.Proofs.YtjdaplmlmmnokaaDoor.Sy
