/- The types of this seat, for the evaluator; written by own program mktab.py. -/
import Derived.Test.YtidnlehjabhclaaDoorProg
import Derived.Lib.Tables
import Derived.Test.YtidnlehjabhclaaDoorSg
namespace Go.Proofs.YtidnlehjabhclaaDoor.Sy
open Go
set_option linter.unusedVariables false
set_option linter.unusedSimpArgs false

abbrev ty3 : Ty := (.int .i64)
abbrev ty4 : Ty := .bool
abbrev ty5 : Ty := (.int .u8)
abbrev ty9 : Ty := .str
abbrev ty23 : Ty := (.pair (.int .i64) (.int .i64))
abbrev ty25 : Ty := (.pair (.pair (.int .i64) (.int .i64)) (.int .i64))
abbrev ty26 : Ty := (.int .u32)
abbrev ty28 : Ty := (.pair (.int .u32) (.int .u32))
abbrev ty30 : Ty := (.pair (.int .u32) (.pair (.int .u32) (.int .u32)))
abbrev ty31 : Ty := (.int .u64)
abbrev ty33 : Ty := (.sl (.pair (.int .u32) (.pair (.int .u32) (.int .u32))))
abbrev ty35 : Ty := (.pair (.int .i64) (.pair (.int .i64) (.int .i64)))
abbrev ty41 : Ty := (.sl (.int .i64))
abbrev ty42 : Ty := (.pair (.int .u8) (.pair (.int .u8) (.int .u8)))
abbrev ty47 : Ty := (.pair (.int .u8) (.int .u8))
abbrev ty57 : Ty := (.pair .bool (.pair .bool (.pair .bool (.pair (.int .i64) (.pair (.int .i64) (.int .i64))))))
abbrev ty61 : Ty := .fnt
abbrev ty63 : Ty := (.pair .fnt (.pair .fnt .fnt))
abbrev ty65 : Ty := (.pair .bool (.pair .bool (.pair .bool (.pair .bool (.pair .bool (.int .i64))))))
abbrev ty79 : Ty := (.pair (.int .u8) (.pair (.int .u8) (.pair (.int .u8) (.pair (.int .u8) (.pair (.int .u8) (.pair (.int .u8) (.pair (.int .u8) (.pair (.int .u8) (.pair (.int .u8) (.pair (.int .u8) (.pair (.int .u8) (.pair (.int .u8) (.pair (.int .u8) (.pair (.int .u8) (.pair (.int .u8) (.pair (.int .u8) (.pair (.int .u8) (.pair (.int .u8) (.pair (.int .u8) (.pair (.int .u8) (.pair (.int .u8) (.pair (.int .u8) (.pair (.int .u8) (.pair (.int .u8) (.pair (.int .u8) (.pair (.int .u8) (.pair (.int .u8) (.pair (.int .u8) (.pair (.int .u8) (.pair (.int .u8) (.pair (.int .u8) (.int .u8))))))))))))))))))))))))))))))))
def td3 : TD := { kind := .prim, ty := ty3, agg := false, bytes := 8, eq := false }
def td4 : TD := { kind := .prim, ty := ty4, agg := false, bytes := 1, eq := false }
def td5 : TD := { kind := .prim, ty := ty5, agg := false, bytes := 1, eq := false }
def td9 : TD := { kind := .prim, ty := ty9, agg := false, bytes := 16, eq := false }
def td23 : TD := { kind := .struct [(3, 0), (3, 1)], ty := ty23, agg := true, bytes := 16, eq := true }
def td25 : TD := { kind := .struct [(23, 0), (3, 2)], ty := ty25, agg := true, bytes := 24, eq := true }
def td26 : TD := { kind := .prim, ty := ty26, agg := false, bytes := 4, eq := false }
def td28 : TD := { kind := .struct [(26, 0), (26, 1)], ty := ty28, agg := true, bytes := 8, eq := true }
def td30 : TD := { kind := .struct [(26, 0), (28, 1)], ty := ty30, agg := true, bytes := 12, eq := true }
def td31 : TD := { kind := .prim, ty := ty31, agg := false, bytes := 8, eq := false }
def td33 : TD := { kind := .slice 30, ty := ty33, agg := false, bytes := 24, eq := false }
def td35 : TD := { kind := .struct [(3, 0), (3, 1), (3, 2)], ty := ty35, agg := true, bytes := 24, eq := true }
def td41 : TD := { kind := .slice 3, ty := ty41, agg := false, bytes := 24, eq := false }
def td42 : TD := { kind := .array 3 5, ty := ty42, agg := true, bytes := 3, eq := false }
def td47 : TD := { kind := .array 2 5, ty := ty47, agg := true, bytes := 2, eq := false }
def td57 : TD := { kind := .struct [(4, 0), (4, 1), (4, 2), (3, 3), (3, 4), (3, 5)], ty := ty57, agg := true, bytes := 32, eq := true }
def td61 : TD := { kind := .prim, ty := ty61, agg := false, bytes := 8, eq := false }
def td63 : TD := { kind := .array 3 61, ty := ty63, agg := true, bytes := 24, eq := false }
def td65 : TD := { kind := .struct [(4, 0), (4, 1), (4, 2), (4, 3), (4, 4), (3, 5)], ty := ty65, agg := true, bytes := 16, eq := true }
def td79 : TD := { kind := .array 32 5, ty := ty79, agg := true, bytes := 32, eq := false }
def tabL : List (Nat × TD) := [(3, td3), (4, td4), (5, td5), (9, td9), (23, td23), (25, td25), (26, td26), (28, td28), (30, td30), (31, td31), (33, td33), (35, td35), (41, td41), (42, td42), (47, td47), (57, td57), (61, td61), (63, td63), (65, td65), (79, td79)]
theorem io3 : InfoOk Tryd.prog 3 ty3 false := infoOk_mk (by kernel_rfl)
theorem io4 : InfoOk Tryd.prog 4 ty4 false := infoOk_mk (by kernel_rfl)
theorem io5 : InfoOk Tryd.prog 5 ty5 false := infoOk_mk (by kernel_rfl)
theorem io9 : InfoOk Tryd.prog 9 ty9 false := infoOk_mk (by kernel_rfl)
theorem io23 : InfoOk Tryd.prog 23 ty23 true := infoOk_mk (by kernel_rfl)
theorem io25 : InfoOk Tryd.prog 25 ty25 true := infoOk_mk (by kernel_rfl)
theorem io26 : InfoOk Tryd.prog 26 ty26 false := infoOk_mk (by kernel_rfl)
theorem io28 : InfoOk Tryd.prog 28 ty28 true := infoOk_mk (by kernel_rfl)
theorem io30 : InfoOk Tryd.prog 30 ty30 true := infoOk_mk (by kernel_rfl)
theorem io31 : InfoOk Tryd.prog 31 ty31 false := infoOk_mk (by kernel_rfl)
theorem io33 : InfoOk Tryd.prog 33 ty33 false := infoOk_mk (by kernel_rfl)
theorem io35 : InfoOk Tryd.prog 35 ty35 true := infoOk_mk (by kernel_rfl)
theorem io41 : InfoOk Tryd.prog 41 ty41 false := infoOk_mk (by kernel_rfl)
theorem io42 : InfoOk Tryd.prog 42 ty42 true := infoOk_mk (by kernel_rfl)
theorem io47 : InfoOk Tryd.prog 47 ty47 true := infoOk_mk (by kernel_rfl)
theorem io57 : InfoOk Tryd.prog 57 ty57 true := infoOk_mk (by kernel_rfl)
theorem io61 : InfoOk Tryd.prog 61 ty61 false := infoOk_mk (by kernel_rfl)
theorem io63 : InfoOk Tryd.prog 63 ty63 true := infoOk_mk (by kernel_rfl)
theorem io65 : InfoOk Tryd.prog 65 ty65 true := infoOk_mk (by kernel_rfl)
theorem io79 : InfoOk Tryd.prog 79 ty79 true := infoOk_mk (by kernel_rfl)
theorem to3 : TDOk Tryd.prog 3 td3 := tdOk_mk (d := td3) Tryd.underlying3 io3 rfl rfl (fun _ => rfl) (fun _ => rfl)
theorem to4 : TDOk Tryd.prog 4 td4 := tdOk_mk (d := td4) Tryd.underlying4 io4 rfl rfl (fun _ => rfl) (fun _ => rfl)
theorem to5 : TDOk Tryd.prog 5 td5 := tdOk_mk (d := td5) Tryd.underlying5 io5 rfl rfl (fun _ => rfl) (fun _ => rfl)
theorem to9 : TDOk Tryd.prog 9 td9 := tdOk_mk (d := td9) Tryd.underlying9 io9 rfl rfl (fun _ => rfl) (fun _ => rfl)
theorem to23 : TDOk Tryd.prog 23 td23 := tdOk_mk (d := td23) Tryd.underlying23 io23 rfl ⟨rfl, _, rfl, rfl, all_info (by kernel_rfl)⟩ (fun h => by cases h) (fun h => by cases h)
theorem to25 : TDOk Tryd.prog 25 td25 := tdOk_mk (d := td25) Tryd.underlying25 io25 rfl ⟨rfl, _, rfl, rfl, all_info (by kernel_rfl)⟩ (fun h => by cases h) (fun h => by cases h)
theorem to26 : TDOk Tryd.prog 26 td26 := tdOk_mk (d := td26) Tryd.underlying26 io26 rfl rfl (fun _ => rfl) (fun _ => rfl)
theorem to28 : TDOk Tryd.prog 28 td28 := tdOk_mk (d := td28) Tryd.underlying28 io28 rfl ⟨rfl, _, rfl, rfl, all_info (by kernel_rfl)⟩ (fun h => by cases h) (fun h => by cases h)
theorem to30 : TDOk Tryd.prog 30 td30 := tdOk_mk (d := td30) Tryd.underlying30 io30 rfl ⟨rfl, _, rfl, rfl, all_info (by kernel_rfl)⟩ (fun h => by cases h) (fun h => by cases h)
theorem to31 : TDOk Tryd.prog 31 td31 := tdOk_mk (d := td31) Tryd.underlying31 io31 rfl rfl (fun _ => rfl) (fun _ => rfl)
theorem to33 : TDOk Tryd.prog 33 td33 := tdOk_mk (d := td33) Tryd.underlying33 io33 rfl ⟨rfl, rfl, _, _, rfl, io30⟩ (fun _ => ⟨_, rfl⟩) (fun _ => rfl)
theorem to35 : TDOk Tryd.prog 35 td35 := tdOk_mk (d := td35) Tryd.underlying35 io35 rfl ⟨rfl, _, rfl, rfl, all_info (by kernel_rfl)⟩ (fun h => by cases h) (fun h => by cases h)
theorem to41 : TDOk Tryd.prog 41 td41 := tdOk_mk (d := td41) Tryd.underlying41 io41 rfl ⟨rfl, rfl, _, _, rfl, io3⟩ (fun _ => ⟨_, rfl⟩) (fun _ => rfl)
theorem to42 : TDOk Tryd.prog 42 td42 := tdOk_mk (d := td42) Tryd.underlying42 io42 rfl ⟨rfl, rfl⟩ (fun h => by cases h) (fun h => by cases h)
theorem to47 : TDOk Tryd.prog 47 td47 := tdOk_mk (d := td47) Tryd.underlying47 io47 rfl ⟨rfl, rfl⟩ (fun h => by cases h) (fun h => by cases h)
theorem to57 : TDOk Tryd.prog 57 td57 := tdOk_mk (d := td57) Tryd.underlying57 io57 rfl ⟨rfl, _, rfl, rfl, all_info (by kernel_rfl)⟩ (fun h => by cases h) (fun h => by cases h)
theorem to61 : TDOk Tryd.prog 61 td61 := tdOk_mk (d := td61) Tryd.underlying61 io61 rfl rfl (fun _ => trivial) (fun _ => rfl)
theorem to63 : TDOk Tryd.prog 63 td63 := tdOk_mk (d := td63) Tryd.underlying63 io63 rfl ⟨rfl, rfl⟩ (fun h => by cases h) (fun h => by cases h)
theorem to65 : TDOk Tryd.prog 65 td65 := tdOk_mk (d := td65) Tryd.underlying65 io65 rfl ⟨rfl, _, rfl, rfl, all_info (by kernel_rfl)⟩ (fun h => by cases h) (fun h => by cases h)
theorem to79 : TDOk Tryd.prog 79 td79 := tdOk_mk (d := td79) Tryd.underlying79 io79 rfl ⟨rfl, rfl⟩ (fun h => by cases h) (fun h => by cases h)
theorem eq3 (dd : Nat) : EqT Tryd.prog (dd + 1) 3 ty3 false := eqT_int Tryd.underlying3 dd
theorem eq23 (dd : Nat) : EqT Tryd.prog (dd + 2) 23 ty23 true := eqT_struct Tryd.underlying23 Tryd.stoodInHeld23 (dd := dd + 1) ⟨by decide, rfl, ⟨td3, to3, rfl, eq3 (dd + 0)⟩, ⟨by decide, rfl, td3, to3, rfl, eq3 (dd + 0)⟩⟩
theorem eq25 (dd : Nat) : EqT Tryd.prog (dd + 3) 25 ty25 true := eqT_struct Tryd.underlying25 Tryd.stoodInHeld25 (dd := dd + 2) ⟨by decide, rfl, ⟨td23, to23, rfl, eq23 (dd + 0)⟩, ⟨by decide, rfl, td3, to3, rfl, eq3 (dd + 1)⟩⟩
theorem eq26 (dd : Nat) : EqT Tryd.prog (dd + 1) 26 ty26 false := eqT_int Tryd.underlying26 dd
theorem eq28 (dd : Nat) : EqT Tryd.prog (dd + 2) 28 ty28 true := eqT_struct Tryd.underlying28 Tryd.stoodInHeld28 (dd := dd + 1) ⟨by decide, rfl, ⟨td26, to26, rfl, eq26 (dd + 0)⟩, ⟨by decide, rfl, td26, to26, rfl, eq26 (dd + 0)⟩⟩
theorem eq30 (dd : Nat) : EqT Tryd.prog (dd + 3) 30 ty30 true := eqT_struct Tryd.underlying30 Tryd.stoodInHeld30 (dd := dd + 2) ⟨by decide, rfl, ⟨td26, to26, rfl, eq26 (dd + 1)⟩, ⟨by decide, rfl, td28, to28, rfl, eq28 (dd + 0)⟩⟩
theorem eq35 (dd : Nat) : EqT Tryd.prog (dd + 2) 35 ty35 true := eqT_struct Tryd.underlying35 Tryd.stoodInHeld35 (dd := dd + 1) ⟨by decide, rfl, ⟨td3, to3, rfl, eq3 (dd + 0)⟩, ⟨by decide, rfl, ⟨td3, to3, rfl, eq3 (dd + 0)⟩, ⟨by decide, rfl, td3, to3, rfl, eq3 (dd + 0)⟩⟩⟩
theorem eq4 (dd : Nat) : EqT Tryd.prog (dd + 1) 4 ty4 false := eqT_bool Tryd.underlying4 dd
theorem eq57 (dd : Nat) : EqT Tryd.prog (dd + 2) 57 ty57 true := eqT_struct Tryd.underlying57 Tryd.stoodInHeld57 (dd := dd + 1) ⟨by decide, rfl, ⟨td4, to4, rfl, eq4 (dd + 0)⟩, ⟨by decide, rfl, ⟨td4, to4, rfl, eq4 (dd + 0)⟩, ⟨by decide, rfl, ⟨td4, to4, rfl, eq4 (dd + 0)⟩, ⟨by decide, rfl, ⟨td3, to3, rfl, eq3 (dd + 0)⟩, ⟨by decide, rfl, ⟨td3, to3, rfl, eq3 (dd + 0)⟩, ⟨by decide, rfl, td3, to3, rfl, eq3 (dd + 0)⟩⟩⟩⟩⟩⟩
theorem eq65 (dd : Nat) : EqT Tryd.prog (dd + 2) 65 ty65 true := eqT_struct Tryd.underlying65 Tryd.stoodInHeld65 (dd := dd + 1) ⟨by decide, rfl, ⟨td4, to4, rfl, eq4 (dd + 0)⟩, ⟨by decide, rfl, ⟨td4, to4, rfl, eq4 (dd + 0)⟩, ⟨by decide, rfl, ⟨td4, to4, rfl, eq4 (dd + 0)⟩, ⟨by decide, rfl, ⟨td4, to4, rfl, eq4 (dd + 0)⟩, ⟨by decide, rfl, ⟨td4, to4, rfl, eq4 (dd + 0)⟩, ⟨by decide, rfl, td3, to3, rfl, eq3 (dd + 0)⟩⟩⟩⟩⟩⟩
theorem tabOk : ∀ t d, lookupD tabL t = some d → TDOk Tryd.prog t d := by
  intro t d h
  have h := lookupD_mem h
  simp only [tabL, List.mem_cons, Prod.mk.injEq, List.not_mem_nil, or_false] at h
  rcases h with ⟨rfl, rfl⟩ | ⟨rfl, rfl⟩ | ⟨rfl, rfl⟩ | ⟨rfl, rfl⟩ | ⟨rfl, rfl⟩ | ⟨rfl, rfl⟩ | ⟨rfl, rfl⟩ | ⟨rfl, rfl⟩ | ⟨rfl, rfl⟩ | ⟨rfl, rfl⟩ | ⟨rfl, rfl⟩ | ⟨rfl, rfl⟩ | ⟨rfl, rfl⟩ | ⟨rfl, rfl⟩ | ⟨rfl, rfl⟩ | ⟨rfl, rfl⟩ | ⟨rfl, rfl⟩ | ⟨rfl, rfl⟩ | ⟨rfl, rfl⟩ | ⟨rfl, rfl⟩
  · exact to3
  · exact to4
  · exact to5
  · exact to9
  · exact to23
  · exact to25
  · exact to26
  · exact to28
  · exact to30
  · exact to31
  · exact to33
  · exact to35
  · exact to41
  · exact to42
  · exact to47
  · exact to57
  · exact to61
  · exact to63
  · exact to65
  · exact to79
theorem bytesOk : ∀ t d i, lookupD tabL t = some d → Tryd.prog.info? t = some i → 0 < d.ty.n → i.bytes = d.bytes := by
  intro t d i h hi _
  have h := lookupD_mem h
  simp only [tabL, List.mem_cons, Prod.mk.injEq, List.not_mem_nil, or_false] at h
  rcases h with ⟨rfl, rfl⟩ | ⟨rfl, rfl⟩ | ⟨rfl, rfl⟩ | ⟨rfl, rfl⟩ | ⟨rfl, rfl⟩ | ⟨rfl, rfl⟩ | ⟨rfl, rfl⟩ | ⟨rfl, rfl⟩ | ⟨rfl, rfl⟩ | ⟨rfl, rfl⟩ | ⟨rfl, rfl⟩ | ⟨rfl, rfl⟩ | ⟨rfl, rfl⟩ | ⟨rfl, rfl⟩ | ⟨rfl, rfl⟩ | ⟨rfl, rfl⟩ | ⟨rfl, rfl⟩ | ⟨rfl, rfl⟩ | ⟨rfl, rfl⟩ | ⟨rfl, rfl⟩
  · exact bytes_mk (by kernel_rfl) i hi
  · exact bytes_mk (by kernel_rfl) i hi
  · exact bytes_mk (by kernel_rfl) i hi
  · exact bytes_mk (by kernel_rfl) i hi
  · exact bytes_mk (by kernel_rfl) i hi
  · exact bytes_mk (by kernel_rfl) i hi
  · exact bytes_mk (by kernel_rfl) i hi
  · exact bytes_mk (by kernel_rfl) i hi
  · exact bytes_mk (by kernel_rfl) i hi
  · exact bytes_mk (by kernel_rfl) i hi
  · exact bytes_mk (by kernel_rfl) i hi
  · exact bytes_mk (by kernel_rfl) i hi
  · exact bytes_mk (by kernel_rfl) i hi
  · exact bytes_mk (by kernel_rfl) i hi
  · exact bytes_mk (by kernel_rfl) i hi
  · exact bytes_mk (by kernel_rfl) i hi
  · exact bytes_mk (by kernel_rfl) i hi
  · exact bytes_mk (by kernel_rfl) i hi
  · exact bytes_mk (by kernel_rfl) i hi
  · exact bytes_mk (by kernel_rfl) i hi
def xtL : List (Nat × Xt) := []
theorem xtOk : ∀ f x, lookXt xtL f = some x → XtOk Tryd.prog f x := fun _ _ h => by cases h
def tabB : List Int := [0, 1, 28, 2, 29, 14, 24, 3, 30, 22, 20, 15, 25, 17, 4, 8, 31, 27, 13, 23, 21, 19, 16, 7, 26, 12, 18, 6, 11, 5, 10, 9]
/-- Block 0 is the table of math/bits. -/
def gdS : Gd where
  H w := ∀ k, k < 32 → w.cell? ⟨0, k, none⟩ = some (.int .u8 (tabB.getD k 0))
  gl b := b = 0
  mono := by
    intro u v hk hu k hlt
    have h1 := (hk.block 0 rfl).2
    have h := hu k hlt
    unfold World.cell? at h ⊢
    rw [h1]
    exact h
  low := by
    intro u b hu hb
    subst hb
    exact cell_lt (hu 0 (by decide))
def gvS : Nat → Option (Sigma fun e : Ty => List e.den) := fun g => cnd (Nat.beq g 0) (some ⟨.int .u8, tabB⟩) none
theorem gvOk : ∀ g e l, gvS g = some ⟨e, l⟩ → ∃ b, gdS.gl b ∧ ∀ (a : Act) (w : World) (X : Nat → Nat → Prop), gdS.H w → (∀ b p, X b p → ¬ gdS.gl b) → a.eval (.global g) = .pointer (some ⟨b, 0, none⟩) ∧ RowsOk w X e.n (TR w X e) l b 0 := by
  intro g e l h
  obtain ⟨h1, h2⟩ := cnd_some h
  have hg := beq_eq h1
  subst hg
  cases h2
  refine ⟨0, rfl, fun a w X hH hX => ⟨rfl, fun i hi => ⟨[.int .u8 tabB[i]], rfl, fun j hj => ?_, rfl⟩, fun p _ _ hx => hX _ _ hx rfl⟩⟩
  have hj : j = 0 := by simp only [Ty.n] at hj; omega
  subst hj
  have := hH i hi
  simp only [Ty.n, Nat.mul_one, Nat.add_zero, Nat.zero_add]
  rw [this]
  simp [List.getD, hi]
theorem eqOk : ∀ t d, lookupD tabL t = some d → d.eq = true → ∀ (m : Map) (X : Nat → Nat → Prop) (w : World) (xs ys : List Cell) (r : Bool) (us vs : List Value), eqTy d.ty xs ys = some r → CRs m X w xs us → CRs m X w ys vs →
    xs.length = d.ty.n → ys.length = d.ty.n →
    (eqGuard .eql t (.tmp 0) (.tmp 0) (.agg us.toArray) (.agg vs.toArray) >>= fun _ => binOp .eql t (.agg us.toArray) (.agg vs.toArray)).run Tryd.prog w = .ok (.bool r) w ∧
    (eqGuard .neq t (.tmp 0) (.tmp 0) (.agg us.toArray) (.agg vs.toArray) >>= fun _ => binOp .neq t (.agg us.toArray) (.agg vs.toArray)).run Tryd.prog w = .ok (.bool (!r)) w := by
  intro t d h he
  have h := lookupD_mem h
  simp only [tabL, List.mem_cons, Prod.mk.injEq, List.not_mem_nil, or_false] at h
  rcases h with ⟨rfl, rfl⟩ | ⟨rfl, rfl⟩ | ⟨rfl, rfl⟩ | ⟨rfl, rfl⟩ | ⟨rfl, rfl⟩ | ⟨rfl, rfl⟩ | ⟨rfl, rfl⟩ | ⟨rfl, rfl⟩ | ⟨rfl, rfl⟩ | ⟨rfl, rfl⟩ | ⟨rfl, rfl⟩ | ⟨rfl, rfl⟩ | ⟨rfl, rfl⟩ | ⟨rfl, rfl⟩ | ⟨rfl, rfl⟩ | ⟨rfl, rfl⟩ | ⟨rfl, rfl⟩ | ⟨rfl, rfl⟩ | ⟨rfl, rfl⟩ | ⟨rfl, rfl⟩
  · cases he
  · cases he
  · cases he
  · cases he
  · exact fun m X w xs ys r us vs h1 h2 h3 _ _ => eqFact (eq23 9998) Tryd.eqGuardType23 m X w xs ys r us vs h1 h2 h3
  · exact fun m X w xs ys r us vs h1 h2 h3 _ _ => eqFact (eq25 9997) Tryd.eqGuardType25 m X w xs ys r us vs h1 h2 h3
  · cases he
  · exact fun m X w xs ys r us vs h1 h2 h3 _ _ => eqFact (eq28 9998) Tryd.eqGuardType28 m X w xs ys r us vs h1 h2 h3
  · exact fun m X w xs ys r us vs h1 h2 h3 _ _ => eqFact (eq30 9997) Tryd.eqGuardType30 m X w xs ys r us vs h1 h2 h3
  · cases he
  · cases he
  · exact fun m X w xs ys r us vs h1 h2 h3 _ _ => eqFact (eq35 9998) Tryd.eqGuardType35 m X w xs ys r us vs h1 h2 h3
  · cases he
  · cases he
  · cases he
  · exact fun m X w xs ys r us vs h1 h2 h3 _ _ => eqFact (eq57 9998) Tryd.eqGuardType57 m X w xs ys r us vs h1 h2 h3
  · cases he
  · cases he
  · exact fun m X w xs ys r us vs h1 h2 h3 _ _ => eqFact (eq65 9998) Tryd.eqGuardType65 m X w xs ys r us vs h1 h2 h3
  · cases he
end Go.Proofs.YtidnlehjabhclaaDoor.Sy
