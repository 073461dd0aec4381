/- Own texts joined by pk.py. -/
import Derived.Test.YtbnihoioblmgkaaProg
import Derived.Lib.Tables
import Derived.Test.YtbnihoioblmgkaaJ5ea51247
import Derived.WalkKit
import Derived.WalkSpells
import Derived.WalkLawsBesides
import Derived.Handy
import Derived.Outline
import Derived.BigQuiet
import Derived.RegionTactic
import Derived.ChangeAlike
import Derived.Lib.Hide
import Derived.ProofKit
import Derived.OpenShut
import Derived.Deep.Slices
import Derived.Laws.Cover2
import Derived.Below
import Derived.Carry
import Derived.ChangeOld
import Derived.Test.YtbnihoioblmgkaaChecked
import Derived.Recover
section
/- The types of this seat, for the evaluator; written by own program mktab.py. -/
namespace Go.Proofs.Ytbnihoioblmgkaa.Sy
open Go
set_option linter.unusedVariables false
set_option linter.unusedSimpArgs false
abbrev ty3 : Ty := (.int .i64)
abbrev ty4 : Ty := .bool
abbrev ty5 : Ty := (.int .u8)
abbrev ty9 : Ty := .str
abbrev ty22 : Ty := (.flt .f64)
abbrev ty23 : Ty := (.sl (.pair (.int .i64) (.pair (.int .i64) (.pair (.int .i64) (.pair (.int .i64) (.pair (.int .i64) (.pair (.int .i64) (.pair (.int .i64) (.pair (.int .i64) (.int .i64))))))))))
abbrev ty25 : Ty := (.pair (.int .i64) (.pair (.int .i64) (.pair (.int .i64) (.pair (.int .i64) (.pair (.flt .f64) (.pair (.flt .f64) (.pair (.flt .f64) (.sl (.pair (.int .i64) (.pair (.int .i64) (.pair (.int .i64) (.pair (.int .i64) (.pair (.int .i64) (.pair (.int .i64) (.pair (.int .i64) (.pair (.int .i64) (.int .i64)))))))))))))))))
abbrev ty26 : Ty := (.int .u32)
abbrev ty28 : Ty := (.pair (.int .u32) (.int .u32))
abbrev ty30 : Ty := (.pair (.int .i64) (.int .i64))
abbrev ty31 : Ty := (.sl (.pair (.pair (.int .u32) (.pair .bool (.pair .bool (.pair .bool .bool)))) (.pair (.pair (.int .i64) (.pair .bool (.pair (.int .i64) .bool))) (.pair (.int .u32) (.flt .f64)))))
abbrev ty33 : Ty := (.pair (.pair (.int .u32) (.int .u32)) (.pair (.pair (.int .i64) (.int .i64)) (.sl (.pair (.pair (.int .u32) (.pair .bool (.pair .bool (.pair .bool .bool)))) (.pair (.pair (.int .i64) (.pair .bool (.pair (.int .i64) .bool))) (.pair (.int .u32) (.flt .f64)))))))
abbrev ty37 : Ty := (.int .i64)
abbrev ty44 : Ty := (.sl (.int .u8))
abbrev ty50 : Ty := (.sl (.pair (.pair (.pair (.int .u32) (.int .u32)) .bool) (.pair (.pair (.int .u32) (.int .u32)) (.pair .bool (.pair (.int .i64) (.pair (.int .i64) .bool))))))
abbrev ty52 : Ty := (.pair (.pair (.int .u32) (.int .u32)) (.pair (.pair (.int .u32) (.int .u32)) (.pair .bool (.pair .bool (.pair (.int .i64) (.sl (.pair (.pair (.pair (.int .u32) (.int .u32)) .bool) (.pair (.pair (.int .u32) (.int .u32)) (.pair .bool (.pair (.int .i64) (.pair (.int .i64) .bool)))))))))))
abbrev ty54 : Ty := (.sl .str)
abbrev ty59 : Ty := (.int .u16)
abbrev ty60 : Ty := (.pair (.int .u16) (.int .u16))
abbrev ty61 : Ty := (.int .u64)
abbrev ty67 : Ty := (.pair (.int .u32) (.pair .bool (.pair .bool (.pair .bool .bool))))
abbrev ty69 : Ty := (.pair (.int .i64) (.pair .bool (.pair (.int .i64) .bool)))
abbrev ty71 : Ty := (.pair (.pair (.int .u32) (.pair .bool (.pair .bool (.pair .bool .bool)))) (.pair (.pair (.int .i64) (.pair .bool (.pair (.int .i64) .bool))) (.pair (.int .u32) (.flt .f64))))
abbrev ty77 : Ty := (.sl (.int .u8))
abbrev ty80 : Ty := (.int .u64)
abbrev ty93 : Ty := (.pair (.pair (.int .u32) (.int .u32)) .bool)
abbrev ty95 : Ty := (.pair (.pair (.pair (.int .u32) (.int .u32)) .bool) (.pair (.pair (.int .u32) (.int .u32)) (.pair .bool (.pair (.int .i64) (.pair (.int .i64) .bool)))))
abbrev ty104 : Ty := (.pair (.int .i64) (.pair (.int .i64) (.pair (.int .i64) (.pair (.int .i64) (.pair (.int .i64) (.pair (.int .i64) (.pair (.int .i64) (.pair (.int .i64) (.int .i64)))))))))
abbrev ty111 : Ty := (.sl (.pair (.int .u32) (.int .u32)))
abbrev ty112 : Ty := (.sl .bool)
abbrev ty117 : Ty := (.pair .str (.pair (.int .i64) (.pair (.int .i64) (.pair (.int .i64) (.pair (.int .i64) (.pair (.flt .f64) (.pair (.flt .f64) (.pair (.flt .f64) (.sl (.pair (.int .i64) (.pair (.int .i64) (.pair (.int .i64) (.pair (.int .i64) (.pair (.int .i64) (.pair (.int .i64) (.pair (.int .i64) (.pair (.int .i64) (.int .i64))))))))))))))))))
abbrev ty127 : Ty := (.sl (.int .i64))
abbrev ty130 : Ty := .unit
def td3 : TD := { kind := .prim, ty := ty3, agg := false, bytes := 8, eq := false }
def td4 : TD := { kind := .prim, ty := ty4, agg := false, bytes := 1, eq := false }
def td5 : TD := { kind := .prim, ty := ty5, agg := false, bytes := 1, eq := false }
def td9 : TD := { kind := .prim, ty := ty9, agg := false, bytes := 16, eq := false }
def td22 : TD := { kind := .prim, ty := ty22, agg := false, bytes := 8, eq := false }
def td23 : TD := { kind := .slice 104, ty := ty23, agg := false, bytes := 24, eq := false }
def td25 : TD := { kind := .struct [(3, 0), (3, 1), (3, 2), (3, 3), (22, 4), (22, 5), (22, 6), (23, 7)], ty := ty25, agg := true, bytes := 80, eq := false }
def td26 : TD := { kind := .prim, ty := ty26, agg := false, bytes := 4, eq := false }
def td28 : TD := { kind := .struct [(26, 0), (26, 1)], ty := ty28, agg := true, bytes := 8, eq := true }
def td30 : TD := { kind := .struct [(3, 0), (3, 1)], ty := ty30, agg := true, bytes := 16, eq := true }
def td31 : TD := { kind := .slice 71, ty := ty31, agg := false, bytes := 24, eq := false }
def td33 : TD := { kind := .struct [(28, 0), (30, 2), (31, 4)], ty := ty33, agg := true, bytes := 48, eq := false }
def td37 : TD := { kind := .prim, ty := ty37, agg := false, bytes := 8, eq := false }
def td44 : TD := { kind := .slice 5, ty := ty44, agg := false, bytes := 24, eq := false }
def td50 : TD := { kind := .slice 95, ty := ty50, agg := false, bytes := 24, eq := false }
def td52 : TD := { kind := .struct [(28, 0), (28, 2), (4, 4), (4, 5), (37, 6), (50, 7)], ty := ty52, agg := true, bytes := 56, eq := false }
def td54 : TD := { kind := .slice 9, ty := ty54, agg := false, bytes := 24, eq := false }
def td59 : TD := { kind := .prim, ty := ty59, agg := false, bytes := 2, eq := false }
def td60 : TD := { kind := .array 2 59, ty := ty60, agg := true, bytes := 4, eq := false }
def td61 : TD := { kind := .prim, ty := ty61, agg := false, bytes := 8, eq := false }
def td67 : TD := { kind := .struct [(26, 0), (4, 1), (4, 2), (4, 3), (4, 4)], ty := ty67, agg := true, bytes := 8, eq := true }
def td69 : TD := { kind := .struct [(3, 0), (4, 1), (3, 2), (4, 3)], ty := ty69, agg := true, bytes := 32, eq := true }
def td71 : TD := { kind := .struct [(67, 0), (69, 5), (26, 9), (22, 10)], ty := ty71, agg := true, bytes := 56, eq := false }
def td77 : TD := { kind := .struct [(44, 0)], ty := ty77, agg := true, bytes := 24, eq := false }
def td80 : TD := { kind := .prim, ty := ty80, agg := false, bytes := 8, eq := false }
def td93 : TD := { kind := .struct [(28, 0), (4, 2)], ty := ty93, agg := true, bytes := 12, eq := true }
def td95 : TD := { kind := .struct [(93, 0), (28, 3), (4, 5), (3, 6), (3, 7), (4, 8)], ty := ty95, agg := true, bytes := 48, eq := true }
def td104 : TD := { kind := .struct [(3, 0), (3, 1), (3, 2), (3, 3), (3, 4), (3, 5), (3, 6), (3, 7), (3, 8)], ty := ty104, agg := true, bytes := 72, eq := true }
def td111 : TD := { kind := .slice 28, ty := ty111, agg := false, bytes := 24, eq := false }
def td112 : TD := { kind := .slice 4, ty := ty112, agg := false, bytes := 24, eq := false }
def td117 : TD := { kind := .struct [(9, 0), (25, 1)], ty := ty117, agg := true, bytes := 96, eq := false }
def td127 : TD := { kind := .slice 3, ty := ty127, agg := false, bytes := 24, eq := false }
def td130 : TD := { kind := .struct [], ty := ty130, agg := true, bytes := 0, eq := false }
def tabL : List (Nat × TD) := [(3, td3), (4, td4), (5, td5), (9, td9), (22, td22), (23, td23), (25, td25), (26, td26), (28, td28), (30, td30), (31, td31), (33, td33), (37, td37), (44, td44), (50, td50), (52, td52), (54, td54), (59, td59), (60, td60), (61, td61), (67, td67), (69, td69), (71, td71), (77, td77), (80, td80), (93, td93), (95, td95), (104, td104), (111, td111), (112, td112), (117, td117), (127, td127), (130, td130)]
theorem io3 : InfoOk Try.prog 3 ty3 false := infoOk_mk (by kernel_rfl)
theorem io4 : InfoOk Try.prog 4 ty4 false := infoOk_mk (by kernel_rfl)
theorem io5 : InfoOk Try.prog 5 ty5 false := infoOk_mk (by kernel_rfl)
theorem io9 : InfoOk Try.prog 9 ty9 false := infoOk_mk (by kernel_rfl)
theorem io22 : InfoOk Try.prog 22 ty22 false := infoOk_mk (by kernel_rfl)
theorem io23 : InfoOk Try.prog 23 ty23 false := infoOk_mk (by kernel_rfl)
theorem io25 : InfoOk Try.prog 25 ty25 true := infoOk_mk (by kernel_rfl)
theorem io26 : InfoOk Try.prog 26 ty26 false := infoOk_mk (by kernel_rfl)
theorem io28 : InfoOk Try.prog 28 ty28 true := infoOk_mk (by kernel_rfl)
theorem io30 : InfoOk Try.prog 30 ty30 true := infoOk_mk (by kernel_rfl)
theorem io31 : InfoOk Try.prog 31 ty31 false := infoOk_mk (by kernel_rfl)
theorem io33 : InfoOk Try.prog 33 ty33 true := infoOk_mk (by kernel_rfl)
theorem io37 : InfoOk Try.prog 37 ty37 false := infoOk_mk (by kernel_rfl)
theorem io44 : InfoOk Try.prog 44 ty44 false := infoOk_mk (by kernel_rfl)
theorem io50 : InfoOk Try.prog 50 ty50 false := infoOk_mk (by kernel_rfl)
theorem io52 : InfoOk Try.prog 52 ty52 true := infoOk_mk (by kernel_rfl)
theorem io54 : InfoOk Try.prog 54 ty54 false := infoOk_mk (by kernel_rfl)
theorem io59 : InfoOk Try.prog 59 ty59 false := infoOk_mk (by kernel_rfl)
theorem io60 : InfoOk Try.prog 60 ty60 true := infoOk_mk (by kernel_rfl)
theorem io61 : InfoOk Try.prog 61 ty61 false := infoOk_mk (by kernel_rfl)
theorem io67 : InfoOk Try.prog 67 ty67 true := infoOk_mk (by kernel_rfl)
theorem io69 : InfoOk Try.prog 69 ty69 true := infoOk_mk (by kernel_rfl)
theorem io71 : InfoOk Try.prog 71 ty71 true := infoOk_mk (by kernel_rfl)
theorem io77 : InfoOk Try.prog 77 ty77 true := infoOk_mk (by kernel_rfl)
theorem io80 : InfoOk Try.prog 80 ty80 false := infoOk_mk (by kernel_rfl)
theorem io93 : InfoOk Try.prog 93 ty93 true := infoOk_mk (by kernel_rfl)
theorem io95 : InfoOk Try.prog 95 ty95 true := infoOk_mk (by kernel_rfl)
theorem io104 : InfoOk Try.prog 104 ty104 true := infoOk_mk (by kernel_rfl)
theorem io111 : InfoOk Try.prog 111 ty111 false := infoOk_mk (by kernel_rfl)
theorem io112 : InfoOk Try.prog 112 ty112 false := infoOk_mk (by kernel_rfl)
theorem io117 : InfoOk Try.prog 117 ty117 true := infoOk_mk (by kernel_rfl)
theorem io127 : InfoOk Try.prog 127 ty127 false := infoOk_mk (by kernel_rfl)
theorem io130 : InfoOk Try.prog 130 ty130 true := infoOk_mk (by kernel_rfl)
theorem to3 : TDOk Try.prog 3 td3 := tdOk_mk (d := td3) Try.underlying3 io3 rfl rfl (fun _ => rfl) (fun _ => rfl)
theorem to4 : TDOk Try.prog 4 td4 := tdOk_mk (d := td4) Try.underlying4 io4 rfl rfl (fun _ => rfl) (fun _ => rfl)
theorem to5 : TDOk Try.prog 5 td5 := tdOk_mk (d := td5) Try.underlying5 io5 rfl rfl (fun _ => rfl) (fun _ => rfl)
theorem to9 : TDOk Try.prog 9 td9 := tdOk_mk (d := td9) Try.underlying9 io9 rfl rfl (fun _ => rfl) (fun _ => rfl)
theorem to22 : TDOk Try.prog 22 td22 := tdOk_mk (d := td22) Try.underlying22 io22 rfl rfl (fun _ => rfl) (fun _ => rfl)
theorem to23 : TDOk Try.prog 23 td23 := tdOk_mk (d := td23) Try.underlying23 io23 rfl ⟨rfl, rfl, _, _, rfl, io104⟩ (fun _ => ⟨_, rfl⟩) (fun _ => rfl)
theorem to25 : TDOk Try.prog 25 td25 := tdOk_mk (d := td25) Try.underlying25 io25 rfl ⟨rfl, _, rfl, rfl, all_info (by kernel_rfl)⟩ (fun h => by cases h) (fun h => by cases h)
theorem to26 : TDOk Try.prog 26 td26 := tdOk_mk (d := td26) Try.underlying26 io26 rfl rfl (fun _ => rfl) (fun _ => rfl)
theorem to28 : TDOk Try.prog 28 td28 := tdOk_mk (d := td28) Try.underlying28 io28 rfl ⟨rfl, _, rfl, rfl, all_info (by kernel_rfl)⟩ (fun h => by cases h) (fun h => by cases h)
theorem to30 : TDOk Try.prog 30 td30 := tdOk_mk (d := td30) Try.underlying30 io30 rfl ⟨rfl, _, rfl, rfl, all_info (by kernel_rfl)⟩ (fun h => by cases h) (fun h => by cases h)
theorem to31 : TDOk Try.prog 31 td31 := tdOk_mk (d := td31) Try.underlying31 io31 rfl ⟨rfl, rfl, _, _, rfl, io71⟩ (fun _ => ⟨_, rfl⟩) (fun _ => rfl)
theorem to33 : TDOk Try.prog 33 td33 := tdOk_mk (d := td33) Try.underlying33 io33 rfl ⟨rfl, _, rfl, rfl, all_info (by kernel_rfl)⟩ (fun h => by cases h) (fun h => by cases h)
theorem to37 : TDOk Try.prog 37 td37 := tdOk_mk (d := td37) Try.underlying37 io37 rfl rfl (fun _ => rfl) (fun _ => rfl)
theorem to44 : TDOk Try.prog 44 td44 := tdOk_mk (d := td44) Try.underlying44 io44 rfl ⟨rfl, rfl, _, _, rfl, io5⟩ (fun _ => ⟨_, rfl⟩) (fun _ => rfl)
theorem to50 : TDOk Try.prog 50 td50 := tdOk_mk (d := td50) Try.underlying50 io50 rfl ⟨rfl, rfl, _, _, rfl, io95⟩ (fun _ => ⟨_, rfl⟩) (fun _ => rfl)
theorem to52 : TDOk Try.prog 52 td52 := tdOk_mk (d := td52) Try.underlying52 io52 rfl ⟨rfl, _, rfl, rfl, all_info (by kernel_rfl)⟩ (fun h => by cases h) (fun h => by cases h)
theorem to54 : TDOk Try.prog 54 td54 := tdOk_mk (d := td54) Try.underlying54 io54 rfl ⟨rfl, rfl, _, _, rfl, io9⟩ (fun _ => ⟨_, rfl⟩) (fun _ => rfl)
theorem to59 : TDOk Try.prog 59 td59 := tdOk_mk (d := td59) Try.underlying59 io59 rfl rfl (fun _ => rfl) (fun _ => rfl)
theorem to60 : TDOk Try.prog 60 td60 := tdOk_mk (d := td60) Try.underlying60 io60 rfl ⟨rfl, rfl⟩ (fun h => by cases h) (fun h => by cases h)
theorem to61 : TDOk Try.prog 61 td61 := tdOk_mk (d := td61) Try.underlying61 io61 rfl rfl (fun _ => rfl) (fun _ => rfl)
theorem to67 : TDOk Try.prog 67 td67 := tdOk_mk (d := td67) Try.underlying67 io67 rfl ⟨rfl, _, rfl, rfl, all_info (by kernel_rfl)⟩ (fun h => by cases h) (fun h => by cases h)
theorem to69 : TDOk Try.prog 69 td69 := tdOk_mk (d := td69) Try.underlying69 io69 rfl ⟨rfl, _, rfl, rfl, all_info (by kernel_rfl)⟩ (fun h => by cases h) (fun h => by cases h)
theorem to71 : TDOk Try.prog 71 td71 := tdOk_mk (d := td71) Try.underlying71 io71 rfl ⟨rfl, _, rfl, rfl, all_info (by kernel_rfl)⟩ (fun h => by cases h) (fun h => by cases h)
theorem to77 : TDOk Try.prog 77 td77 := tdOk_mk (d := td77) Try.underlying77 io77 rfl ⟨rfl, _, rfl, rfl, all_info (by kernel_rfl)⟩ (fun h => by cases h) (fun h => by cases h)
theorem to80 : TDOk Try.prog 80 td80 := tdOk_mk (d := td80) Try.underlying80 io80 rfl rfl (fun _ => rfl) (fun _ => rfl)
theorem to93 : TDOk Try.prog 93 td93 := tdOk_mk (d := td93) Try.underlying93 io93 rfl ⟨rfl, _, rfl, rfl, all_info (by kernel_rfl)⟩ (fun h => by cases h) (fun h => by cases h)
theorem to95 : TDOk Try.prog 95 td95 := tdOk_mk (d := td95) Try.underlying95 io95 rfl ⟨rfl, _, rfl, rfl, all_info (by kernel_rfl)⟩ (fun h => by cases h) (fun h => by cases h)
theorem to104 : TDOk Try.prog 104 td104 := tdOk_mk (d := td104) Try.underlying104 io104 rfl ⟨rfl, _, rfl, rfl, all_info (by kernel_rfl)⟩ (fun h => by cases h) (fun h => by cases h)
theorem to111 : TDOk Try.prog 111 td111 := tdOk_mk (d := td111) Try.underlying111 io111 rfl ⟨rfl, rfl, _, _, rfl, io28⟩ (fun _ => ⟨_, rfl⟩) (fun _ => rfl)
theorem to112 : TDOk Try.prog 112 td112 := tdOk_mk (d := td112) Try.underlying112 io112 rfl ⟨rfl, rfl, _, _, rfl, io4⟩ (fun _ => ⟨_, rfl⟩) (fun _ => rfl)
theorem to117 : TDOk Try.prog 117 td117 := tdOk_mk (d := td117) Try.underlying117 io117 rfl ⟨rfl, _, rfl, rfl, all_info (by kernel_rfl)⟩ (fun h => by cases h) (fun h => by cases h)
theorem to127 : TDOk Try.prog 127 td127 := tdOk_mk (d := td127) Try.underlying127 io127 rfl ⟨rfl, rfl, _, _, rfl, io3⟩ (fun _ => ⟨_, rfl⟩) (fun _ => rfl)
theorem to130 : TDOk Try.prog 130 td130 := tdOk_mk (d := td130) Try.underlying130 io130 rfl ⟨rfl, _, rfl, rfl, all_info (by kernel_rfl)⟩ (fun h => by cases h) (fun h => by cases h)
theorem eq26 (dd : Nat) : EqT Try.prog (dd + 1) 26 ty26 false := eqT_int Try.underlying26 dd
theorem eq28 (dd : Nat) : EqT Try.prog (dd + 2) 28 ty28 true := eqT_struct Try.underlying28 Try.stoodInHeld28 (dd := dd + 1) ⟨by decide, rfl, ⟨td26, to26, rfl, eq26 (dd + 0)⟩, ⟨by decide, rfl, td26, to26, rfl, eq26 (dd + 0)⟩⟩
theorem eq3 (dd : Nat) : EqT Try.prog (dd + 1) 3 ty3 false := eqT_int Try.underlying3 dd
theorem eq30 (dd : Nat) : EqT Try.prog (dd + 2) 30 ty30 true := eqT_struct Try.underlying30 Try.stoodInHeld30 (dd := dd + 1) ⟨by decide, rfl, ⟨td3, to3, rfl, eq3 (dd + 0)⟩, ⟨by decide, rfl, td3, to3, rfl, eq3 (dd + 0)⟩⟩
theorem eq4 (dd : Nat) : EqT Try.prog (dd + 1) 4 ty4 false := eqT_bool Try.underlying4 dd
theorem eq67 (dd : Nat) : EqT Try.prog (dd + 2) 67 ty67 true := eqT_struct Try.underlying67 Try.stoodInHeld67 (dd := dd + 1) ⟨by decide, rfl, ⟨td26, to26, rfl, eq26 (dd + 0)⟩, ⟨by decide, rfl, ⟨td4, to4, rfl, eq4 (dd + 0)⟩, ⟨by decide, rfl, ⟨td4, to4, rfl, eq4 (dd + 0)⟩, ⟨by decide, rfl, ⟨td4, to4, rfl, eq4 (dd + 0)⟩, ⟨by decide, rfl, td4, to4, rfl, eq4 (dd + 0)⟩⟩⟩⟩⟩
theorem eq69 (dd : Nat) : EqT Try.prog (dd + 2) 69 ty69 true := eqT_struct Try.underlying69 Try.stoodInHeld69 (dd := dd + 1) ⟨by decide, rfl, ⟨td3, to3, rfl, eq3 (dd + 0)⟩, ⟨by decide, rfl, ⟨td4, to4, rfl, eq4 (dd + 0)⟩, ⟨by decide, rfl, ⟨td3, to3, rfl, eq3 (dd + 0)⟩, ⟨by decide, rfl, td4, to4, rfl, eq4 (dd + 0)⟩⟩⟩⟩
theorem eq93 (dd : Nat) : EqT Try.prog (dd + 3) 93 ty93 true := eqT_struct Try.underlying93 Try.stoodInHeld93 (dd := dd + 2) ⟨by decide, rfl, ⟨td28, to28, rfl, eq28 (dd + 0)⟩, ⟨by decide, rfl, td4, to4, rfl, eq4 (dd + 1)⟩⟩
theorem eq95 (dd : Nat) : EqT Try.prog (dd + 4) 95 ty95 true := eqT_struct Try.underlying95 Try.stoodInHeld95 (dd := dd + 3) ⟨by decide, rfl, ⟨td93, to93, rfl, eq93 (dd + 0)⟩, ⟨by decide, rfl, ⟨td28, to28, rfl, eq28 (dd + 1)⟩, ⟨by decide, rfl, ⟨td4, to4, rfl, eq4 (dd + 2)⟩, ⟨by decide, rfl, ⟨td3, to3, rfl, eq3 (dd + 2)⟩, ⟨by decide, rfl, ⟨td3, to3, rfl, eq3 (dd + 2)⟩, ⟨by decide, rfl, td4, to4, rfl, eq4 (dd + 2)⟩⟩⟩⟩⟩⟩
theorem eq104 (dd : Nat) : EqT Try.prog (dd + 2) 104 ty104 true := eqT_struct Try.underlying104 Try.stoodInHeld104 (dd := dd + 1) ⟨by decide, rfl, ⟨td3, to3, rfl, eq3 (dd + 0)⟩, ⟨by decide, rfl, ⟨td3, to3, rfl, eq3 (dd + 0)⟩, ⟨by decide, rfl, ⟨td3, to3, rfl, eq3 (dd + 0)⟩, ⟨by decide, rfl, ⟨td3, to3, rfl, eq3 (dd + 0)⟩, ⟨by decide, rfl, ⟨td3, to3, rfl, eq3 (dd + 0)⟩, ⟨by decide, rfl, ⟨td3, to3, rfl, eq3 (dd + 0)⟩, ⟨by decide, rfl, ⟨td3, to3, rfl, eq3 (dd + 0)⟩, ⟨by decide, rfl, ⟨td3, to3, rfl, eq3 (dd + 0)⟩, ⟨by decide, rfl, td3, to3, rfl, eq3 (dd + 0)⟩⟩⟩⟩⟩⟩⟩⟩⟩
theorem tabOk : ∀ t d, lookupD tabL t = some d → TDOk Try.prog t d := by
  intro t d h
  have h := lookupD_mem h
  simp only [tabL, List.mem_cons, Prod.mk.injEq, List.not_mem_nil, or_false] at h
  rcases h with ⟨rfl, rfl⟩ | ⟨rfl, rfl⟩ | ⟨rfl, rfl⟩ | ⟨rfl, rfl⟩ | ⟨rfl, rfl⟩ | ⟨rfl, rfl⟩ | ⟨rfl, rfl⟩ | ⟨rfl, rfl⟩ | ⟨rfl, rfl⟩ | ⟨rfl, rfl⟩ | ⟨rfl, rfl⟩ | ⟨rfl, rfl⟩ | ⟨rfl, rfl⟩ | ⟨rfl, rfl⟩ | ⟨rfl, rfl⟩ | ⟨rfl, rfl⟩ | ⟨rfl, rfl⟩ | ⟨rfl, rfl⟩ | ⟨rfl, rfl⟩ | ⟨rfl, rfl⟩ | ⟨rfl, rfl⟩ | ⟨rfl, rfl⟩ | ⟨rfl, rfl⟩ | ⟨rfl, rfl⟩ | ⟨rfl, rfl⟩ | ⟨rfl, rfl⟩ | ⟨rfl, rfl⟩ | ⟨rfl, rfl⟩ | ⟨rfl, rfl⟩ | ⟨rfl, rfl⟩ | ⟨rfl, rfl⟩ | ⟨rfl, rfl⟩ | ⟨rfl, rfl⟩
  · exact to3
  · exact to4
  · exact to5
  · exact to9
  · exact to22
  · exact to23
  · exact to25
  · exact to26
  · exact to28
  · exact to30
  · exact to31
  · exact to33
  · exact to37
  · exact to44
  · exact to50
  · exact to52
  · exact to54
  · exact to59
  · exact to60
  · exact to61
  · exact to67
  · exact to69
  · exact to71
  · exact to77
  · exact to80
  · exact to93
  · exact to95
  · exact to104
  · exact to111
  · exact to112
  · exact to117
  · exact to127
  · exact to130
theorem bytesOk : ∀ t d i, lookupD tabL t = some d → Try.prog.info? t = some i → 0 < d.ty.n → i.bytes = d.bytes := by
  intro t d i h hi _
  have h := lookupD_mem h
  simp only [tabL, List.mem_cons, Prod.mk.injEq, List.not_mem_nil, or_false] at h
  rcases h with ⟨rfl, rfl⟩ | ⟨rfl, rfl⟩ | ⟨rfl, rfl⟩ | ⟨rfl, rfl⟩ | ⟨rfl, rfl⟩ | ⟨rfl, rfl⟩ | ⟨rfl, rfl⟩ | ⟨rfl, rfl⟩ | ⟨rfl, rfl⟩ | ⟨rfl, rfl⟩ | ⟨rfl, rfl⟩ | ⟨rfl, rfl⟩ | ⟨rfl, rfl⟩ | ⟨rfl, rfl⟩ | ⟨rfl, rfl⟩ | ⟨rfl, rfl⟩ | ⟨rfl, rfl⟩ | ⟨rfl, rfl⟩ | ⟨rfl, rfl⟩ | ⟨rfl, rfl⟩ | ⟨rfl, rfl⟩ | ⟨rfl, rfl⟩ | ⟨rfl, rfl⟩ | ⟨rfl, rfl⟩ | ⟨rfl, rfl⟩ | ⟨rfl, rfl⟩ | ⟨rfl, rfl⟩ | ⟨rfl, rfl⟩ | ⟨rfl, rfl⟩ | ⟨rfl, rfl⟩ | ⟨rfl, rfl⟩ | ⟨rfl, rfl⟩ | ⟨rfl, rfl⟩
  · exact bytes_mk (by kernel_rfl) i hi
  · exact bytes_mk (by kernel_rfl) i hi
  · exact bytes_mk (by kernel_rfl) i hi
  · exact bytes_mk (by kernel_rfl) i hi
  · exact bytes_mk (by kernel_rfl) i hi
  · exact bytes_mk (by kernel_rfl) i hi
  · exact bytes_mk (by kernel_rfl) i hi
  · exact bytes_mk (by kernel_rfl) i hi
  · exact bytes_mk (by kernel_rfl) i hi
  · exact bytes_mk (by kernel_rfl) i hi
  · exact bytes_mk (by kernel_rfl) i hi
  · exact bytes_mk (by kernel_rfl) i hi
  · exact bytes_mk (by kernel_rfl) i hi
  · exact bytes_mk (by kernel_rfl) i hi
  · exact bytes_mk (by kernel_rfl) i hi
  · exact bytes_mk (by kernel_rfl) i hi
  · exact bytes_mk (by kernel_rfl) i hi
  · exact bytes_mk (by kernel_rfl) i hi
  · exact bytes_mk (by kernel_rfl) i hi
  · exact bytes_mk (by kernel_rfl) i hi
  · exact bytes_mk (by kernel_rfl) i hi
  · exact bytes_mk (by kernel_rfl) i hi
  · exact bytes_mk (by kernel_rfl) i hi
  · exact bytes_mk (by kernel_rfl) i hi
  · exact bytes_mk (by kernel_rfl) i hi
  · exact bytes_mk (by kernel_rfl) i hi
  · exact bytes_mk (by kernel_rfl) i hi
  · exact bytes_mk (by kernel_rfl) i hi
  · exact bytes_mk (by kernel_rfl) i hi
  · exact bytes_mk (by kernel_rfl) i hi
  · exact bytes_mk (by kernel_rfl) i hi
  · exact bytes_mk (by kernel_rfl) i hi
  · exact bytes_mk (by kernel_rfl) i hi
def xtL : List (Nat × Xt) := [(32, .f64bits), (47, .f64from)]
theorem xt32 : XtOk Try.prog 32 .f64bits := fun _ _ => by kernel_rfl
theorem xt47 : XtOk Try.prog 47 .f64from := fun _ _ => by kernel_rfl
theorem xtOk : ∀ f x, lookXt xtL f = some x → XtOk Try.prog f x := lookXt_cons xt32 (lookXt_cons xt47 (fun _ _ h => by cases h))
def gdS : Gd := gdNone
def gvS : Nat → Option (Sigma fun e : Ty => List e.den) := fun _ => none
theorem gvOk : ∀ g e l, gvS g = some ⟨e, l⟩ → ∃ b, gdS.gl b ∧ ∀ (a : Act) (w : World) (X : Nat → Nat → Prop), gdS.H w → (∀ b p, X b p → ¬ gdS.gl b) → a.eval (.global g) = .pointer (some ⟨b, 0, none⟩) ∧ RowsOk w X e.n (TR w X e) l b 0 := fun g e l h => by cases h
theorem eqOk : ∀ t d, lookupD tabL t = some d → d.eq = true → ∀ (m : Map) (X : Nat → Nat → Prop) (w : World) (xs ys : List Cell) (r : Bool) (us vs : List Value), eqTy d.ty xs ys = some r → CRs m X w xs us → CRs m X w ys vs →
    xs.length = d.ty.n → ys.length = d.ty.n →
    (eqGuard .eql t (.tmp 0) (.tmp 0) (.agg us.toArray) (.agg vs.toArray) >>= fun _ => binOp .eql t (.agg us.toArray) (.agg vs.toArray)).run Try.prog w = .ok (.bool r) w ∧
    (eqGuard .neq t (.tmp 0) (.tmp 0) (.agg us.toArray) (.agg vs.toArray) >>= fun _ => binOp .neq t (.agg us.toArray) (.agg vs.toArray)).run Try.prog w = .ok (.bool (!r)) w := by
  intro t d h he
  have h := lookupD_mem h
  simp only [tabL, List.mem_cons, Prod.mk.injEq, List.not_mem_nil, or_false] at h
  rcases h with ⟨rfl, rfl⟩ | ⟨rfl, rfl⟩ | ⟨rfl, rfl⟩ | ⟨rfl, rfl⟩ | ⟨rfl, rfl⟩ | ⟨rfl, rfl⟩ | ⟨rfl, rfl⟩ | ⟨rfl, rfl⟩ | ⟨rfl, rfl⟩ | ⟨rfl, rfl⟩ | ⟨rfl, rfl⟩ | ⟨rfl, rfl⟩ | ⟨rfl, rfl⟩ | ⟨rfl, rfl⟩ | ⟨rfl, rfl⟩ | ⟨rfl, rfl⟩ | ⟨rfl, rfl⟩ | ⟨rfl, rfl⟩ | ⟨rfl, rfl⟩ | ⟨rfl, rfl⟩ | ⟨rfl, rfl⟩ | ⟨rfl, rfl⟩ | ⟨rfl, rfl⟩ | ⟨rfl, rfl⟩ | ⟨rfl, rfl⟩ | ⟨rfl, rfl⟩ | ⟨rfl, rfl⟩ | ⟨rfl, rfl⟩ | ⟨rfl, rfl⟩ | ⟨rfl, rfl⟩ | ⟨rfl, rfl⟩ | ⟨rfl, rfl⟩ | ⟨rfl, rfl⟩
  · cases he
  · cases he
  · cases he
  · cases he
  · cases he
  · cases he
  · cases he
  · cases he
  · exact fun m X w xs ys r us vs h1 h2 h3 _ _ => eqFact (eq28 9998) Try.eqGuardType28 m X w xs ys r us vs h1 h2 h3
  · exact fun m X w xs ys r us vs h1 h2 h3 _ _ => eqFact (eq30 9998) Try.eqGuardType30 m X w xs ys r us vs h1 h2 h3
  · cases he
  · cases he
  · cases he
  · cases he
  · cases he
  · cases he
  · cases he
  · cases he
  · cases he
  · cases he
  · exact fun m X w xs ys r us vs h1 h2 h3 _ _ => eqFact (eq67 9998) Try.eqGuardType67 m X w xs ys r us vs h1 h2 h3
  · exact fun m X w xs ys r us vs h1 h2 h3 _ _ => eqFact (eq69 9998) Try.eqGuardType69 m X w xs ys r us vs h1 h2 h3
  · cases he
  · cases he
  · cases he
  · exact fun m X w xs ys r us vs h1 h2 h3 _ _ => eqFact (eq93 9997) Try.eqGuardType93 m X w xs ys r us vs h1 h2 h3
  · exact fun m X w xs ys r us vs h1 h2 h3 _ _ => eqFact (eq95 9996) Try.eqGuardType95 m X w xs ys r us vs h1 h2 h3
  · exact fun m X w xs ys r us vs h1 h2 h3 _ _ => eqFact (eq104 9998) Try.eqGuardType104 m X w xs ys r us vs h1 h2 h3
  · cases he
  · cases he
  · cases he
  · cases he
  · cases he
end Go.Proofs.Ytbnihoioblmgkaa.Sy
end

section
/- The symbolic evaluator is sound: functions that are given pointers and may panic (own work). -/
namespace Go.Proofs.Ytbnihoioblmgkaa.Sy
open Go Go.RowKit
set_option linter.unusedVariables false
set_option linter.unusedSimpArgs false
def rdBoxes (st : ASt) (fr : Bool) (q : Ty) (ptr : List (Nat × Nat)) : Option q.den := match rdW st ptr, chkP st [] [] (firsts ptr) (selfs ptr) with
  | some qc0, true => match unvL fr st qc0 with | some qc => dec q qc | none => none
  | _, _ => none
def wrapQ {α β : Type} : Tr Unit (α × β) → Tr Unit (Bool × (α × β))
  | .ret y => .ret (false, y) | _ => .bad
def evRetQ (C : Ctx) (fn : Func) (rsh : Rsh) (r q : Ty) (pv : Value) (ptr : List (Nat × Nat)) (dr : r.den) (x : Ex) (st : ASt) : Tr Unit (Bool × (r.den × q.den)) :=
  match x with
  | .pan v => match rdBoxes st true q ptr with | some z => .need (v = pv) (.ret (true, (dr, z))) | none => .bad
  | x => wrapQ (evRetP C fn rsh r q false ptr x st)
def evFnQ (C : Ctx) (fn : Func) (p : Ty) (psh : List (Option Nat)) (mask : List Bool) (sz : List Nat) (ex : Bool) (q : Ty) (rsh : Rsh) (r : Ty) (pv : Value) (L : Nat → Option (LS Unit)) (x : p.den) : Tr Unit (Bool × (r.den × q.den)) :=
  match fn.body with
  | some c => evFnK C fn p psh mask sz false ex L c c (evRetQ C fn rsh r q pv (zipN (posIn mask 0) sz) r.dflt) x
  | none => .bad
section
variable {φ : Fr} {ν ν' : Nat → Bool} {m : Map} {st : ASt} {a : Act} {w w' : World} {own : List (Nat × Bool)} {W : List Nat} {P : Program} {C : Ctx} {o : Oper} {e : Eff}
  {K : Act → World → Prop}
theorem rdBoxes_ok (hs : SatM φ ν m st a w) {q : Ty} {ptr : List (Nat × Nat)} {z : q.den} (h : rdBoxes st true q ptr = some z) :
    (∃ qv, BoxVals m w ptr qv ∧ TR w (XA φ m) q z qv) ∧ (∀ k ∈ firsts ptr, ∃ b, m k = some (b, 0) ∧ a.tmps.getD k undef = .pointer (some ⟨b, 0, none⟩)) := by
  unfold rdBoxes at h
  split at h
  case h_2 => cases h
  rename_i qc0 hqc0 hchk
  split at h
  case h_2 => cases h
  rename_i qc hqc
  obtain ⟨qv, hbv, hqr, _⟩ := rdW_ok hs hqc0
  have hqr2 := unvL_ok hs hqc hqr (ks := []) (fun h => by cases h)
  have hX0 : Xc φ m [] = XA φ m := by funext b q; simp [Xc]
  rw [hX0] at hqr2
  have hP := chkP_spec hchk
  refine ⟨⟨qv, hbv, dec_ok h hqr2⟩, fun k hk => ?_⟩
  obtain ⟨g1, _, _, _⟩ := hP k k (selfs_mem hk)
  obtain ⟨b, g2, g3⟩ := hs.slot k _ g1 (fun x hx => by cases hx)
  exact ⟨b, g2, g3⟩
theorem fnK_len {ρ₀ ρ : Type} {fn : Func} {p : Ty} {psh : List (Option Nat)} {mask : List Bool} {sz : List Nat} {ro ex : Bool} {L : Nat → Option (LS ρ₀)} {c c1 : Code} {k : Ex → ASt → Tr ρ₀ ρ} {x : p.den} {rt : ρ₀ → ρ} {Post : ρ → Prop}
    (hA : (evFnK C fn p psh mask sz ro ex L c c1 k x).All rt Post) : (posIn mask 0).length = sz.length := by
  unfold evFnK at hA
  split at hA
  case h_2 => exact hA.elim
  cases hck : andd (allB (fun d => Nat.ble (Nat.succ d) fn.ntmps) (dsts c)) (andd (allB (fun d => nott (mem d (posIn mask 0))) (dsts c)) (Nat.beq (lenL (posIn mask 0)) (lenL sz))) with
  | false => rw [hck] at hA; exact hA.elim
  | true =>
    obtain ⟨h1, h2⟩ := andd_true hck
    obtain ⟨h2, h3⟩ := andd_true h2
    have h3 := beq_eq h3
    rwa [lenL_eq, lenL_eq] at h3
theorem tr_args {cp : Cp} {X : Nat → Nat → Prop} {x : cp.p.den} {cv pc : List Value} (hcs : CRs (fun _ => none) X w (exC cp.ex (enc cp.p x)) (cv ++ pc)) : TR w X cp.p x (cv ++ pc) := by
  have hno := enc_no cp.p x
  have hTR : TR w X cp.p x (cv ++ pc) := by
    have h1 := exC_no hcs
    rw [hno.1] at h1
    exact dec_ok (t := cp.p) (x := x) (by
      have key : ∀ (t : Ty) (x : t.den), dec t (enc t x) = some x := by
        intro t
        induction t with
        | pair a b iha ihb =>
          intro x
          simp only [enc, dec, app_eq]
          have h1 := enc_len a x.1
          rw [List.take_append_of_le_length (by omega), List.take_of_length_le (by omega), List.drop_append_of_le_length (by omega), List.drop_of_length_le (by omega), List.nil_append, iha, ihb]
        | int k => intro x; cases k <;> rfl
        | flt k => intro x; cases k <;> rfl
        | sl e ih =>
          intro l
          simp only [enc, dec]
          unfold castL
          have : tyeq e e = true := by
            clear ih l
            induction e with
            | int k => cases k <;> rfl
            | flt k => cases k <;> rfl
            | pair x y ihx ihy => simp only [tyeq, ihx, ihy]
            | sl x ih => exact ih
            | _ => rfl
          split
          · rfl
          · rename_i h; rw [this] at h; cases h
        | _ => intro x; rfl
      exact key _ _) h1
  exact hTR
theorem fn_okQ (hC : CtxOk P C) {f : FuncId} {fn : Func} (hf : P.funcs[f]? = some fn) {cp : Cp} {L : Nat → Option (LS Unit)} {c : Code} (hb : fn.body = some c) {dflt : Bool × (cp.r.den × cp.q.den)} {FQ : cp.p.den → Bool × (cp.r.den × cp.q.den)}
    (hro : cp.ro = false) (hpn : cp.pn = some fun x => (FQ x).1) (hF : ∀ x, cp.F x = (FQ x).2)
    (hL : ∀ body ∈ loopsIn c, ∀ s, L (codeId body) = some s → LoopOk P C.G (fun _ _ _ (_ : Unit) _ _ => False) body s)
    (hsafe : ∀ x, (cp.ex = false → Fit cp.p x) → (∀ q, cp.pre = some q → q x) → (evFnQ C fn cp.p cp.psh cp.mask cp.sz cp.ex cp.q cp.rsh cp.r cp.pv L x).safe)
    (hval : ∀ x, (evFnQ C fn cp.p cp.psh cp.mask cp.sz cp.ex cp.q cp.rsh cp.r cp.pv L x).val (fun _ => dflt) dflt = FQ x) : CpOk P C.G f cp := by
  intro x w X args cv pc bs hH hX hpre hsize hbn hsh hpv hcs
  have hA := all_of_safe (rt := fun _ => dflt) (d := dflt) (hsafe x (fun _ => fit_of (tr_args hcs)) hpre)
  rw [hval] at hA
  unfold evFnQ at hA
  rw [hb] at hA
  have hfz : firsts (zipN (posIn cp.mask 0) cp.sz) = posIn cp.mask 0 := firsts_zip (fnK_len hA)
  have hpb : pnB cp x = (FQ x).1 := by unfold pnB; rw [hpn]
  refine calls_of_wp hf hb (fn_core hC (fun d h => h) (Ret := fun _ _ _ _ _ _ => False) (fun e n X X' r a w h hr => hr) hL hH hX hsize hbn hsh hpv hcs (by rw [hro]; exact hA) (fun φ hin hd0 e st' a' w' m' hm' hp' hA' => ?_) (fun φ hin hd0 e he r a' w' hp hr hk hd => hr.elim))
  have hne : ∀ e : Ex, (∀ v, e ≠ .pan v) → (wrapQ (evRetP C fn cp.rsh cp.r cp.q false (zipN (posIn cp.mask 0) cp.sz) e st')).All (fun _ => dflt) (fun r => r = FQ x) →
      (∀ id, e ≠ .exit id) ∧ bodyPost P fn (fun e w' => (pnB cp x = false ∧ ∃ v, e = .returned v ∧ BelowBut (if cp.ro then [] else bs) w w' ∧ RetF w.heap.size none w' X cp.rsh cp.r (cp.F x).1 v ∧
        ∃ pc', PtrVals w' X bs cp.sz (ptrsIn cp.mask args.toList) pc' ∧ TR w' X cp.q (cp.F x).2 pc') ∨
        (pnB cp x = true ∧ e = .panicked [{ v := cp.pv, recovered := false }] ∧ BelowBut (if cp.ro then [] else bs) w w' ∧ ∃ pc', PtrVals w' X bs cp.sz (ptrsIn cp.mask args.toList) pc' ∧ TR w' X cp.q (cp.F x).2 pc')) .ret a' w' := by
    intro e hnp hA'
    unfold wrapQ at hA'
    split at hA'
    case h_2 => exact hA'.elim
    rename_i y0 hy0
    have hA2 : (evRetP C fn cp.rsh cp.r cp.q false (zipN (posIn cp.mask 0) cp.sz) e st').All (fun _ => dflt.2) (fun r => (false, r) = FQ x) := by rw [hy0]; exact hA'
    obtain ⟨hne, _, y, z, ks2, hPost, ⟨v, rv, hrun, hrr, hrs⟩, ⟨qv, hqb, hqr⟩, hsl⟩ := evRetP_ok hC hm' hA2
    rw [hfz] at hsl
    have hkb' := hin.ptrs m' a' hm'.keepA hsl
    refine ⟨hne, hm'.defers.trans hd0, v, hrun, .inl ⟨by rw [hpb, ← hPost], v, rfl, hin.below w' hm'.keepW, ⟨rv, ?_, (fun T hT => by cases hT), hrs⟩, qv, ptrs_again hkb' hpv hqb, ?_⟩⟩
    · rw [hF, ← hPost]; exact hrr.mono (keeps_refl _ _) (hin.noC hm' hkb') _ _ _
    · rw [hF, ← hPost]; exact hqr.mono (keeps_refl _ _) (hin.noA hm' hkb') _ _ _
  cases e with
  | exit id => exact absurd rfl ((hne (.exit id) (fun v h => by cases h) hA').1 id)
  | normal => exact (hne .normal (fun v h => by cases h) hA').2
  | ret => exact (hne .ret (fun v h => by cases h) hA').2
  | pan v =>
    simp only [evRetQ] at hA'
    split at hA'
    case h_2 => exact hA'.elim
    rename_i z hz
    obtain ⟨rfl, hPost⟩ := hA'
    obtain ⟨⟨qv, hqb, hqr⟩, hsl⟩ := rdBoxes_ok hm' hz
    rw [hfz] at hsl
    have hkb' := hin.ptrs m' a' hm'.keepA hsl
    have hPost : (true, (cp.r.dflt, z)) = FQ x := hPost
    refine ⟨hm'.defers.trans hd0, .inr ⟨by rw [hpb, ← hPost], rfl, hin.below w' hm'.keepW, qv, ptrs_again hkb' hpv hqb, ?_⟩⟩
    rw [hF, ← hPost]; exact hqr.mono (keeps_refl _ _) (hin.noA hm' hkb') _ _ _
end
end Go.Proofs.Ytbnihoioblmgkaa.Sy
end

section
/- Contracts of functions, one behind the other (own work). -/
namespace Go.Proofs.Ytbnihoioblmgkaa.Sy
open Go Go.RowKit
set_option linter.unusedVariables false
set_option linter.unusedSimpArgs false
def lookG : List (Nat × Ct) → Nat → Option Ct
  | [], _ => none
  | (i, c) :: r, t => cnd (Nat.beq t i) (some c) (lookG r t)
def lookF : List (Nat × List Nat) → Nat → List Nat
  | [], _ => []
  | (i, l) :: r, t => cnd (Nat.beq t i) l (lookF r t)
def lookP : List (Nat × Cp) → Nat → Option Cp
  | [], _ => none
  | (i, c) :: r, t => cnd (Nat.beq t i) (some c) (lookP r t)
def lookZ : List (Nat × Zc) → Nat → Option Zc
  | [], _ => none
  | (i, c) :: r, t => cnd (Nat.beq t i) (some c) (lookZ r t)
def ctxZ (zl : List (Nat × Zc)) (pl : List (Nat × Cp)) (fv : Option Fv) (l : List (Nat × Ct)) (fz : List (Nat × List Nat)) : Ctx := { D := lookupD tabL, xt := lookXt xtL, Γ := lookG l, G := gdS, gv := gvS, fz := lookF fz, pg := lookP pl, fv := fv, zk := lookZ zl }
abbrev ctxP (pl : List (Nat × Cp)) (fv : Option Fv) (l : List (Nat × Ct)) (fz : List (Nat × List Nat)) : Ctx := ctxZ [] pl fv l fz
abbrev ctxF (l : List (Nat × Ct)) (fz : List (Nat × List Nat)) : Ctx := ctxP [] none l fz
abbrev ctxG (l : List (Nat × Ct)) : Ctx := ctxF l []
def HasBody (P : Program) (f : FuncId) : Prop := ∃ fn, P.funcs[f]? = some fn ∧ (fn.name == "runtime.NumGoroutine") = false ∧ fn.body.isNone = false
def GOk (l : List (Nat × Ct)) : Prop := ∀ f ct, lookG l f = some ct → CtOk Try.prog gdS f ct ∧ HasBody Try.prog f
theorem gok_nil : GOk [] := fun f ct h => by cases h
theorem gok_cons {f : FuncId} {ct : Ct} {l : List (Nat × Ct)} (h1 : CtOk Try.prog gdS f ct) (h2 : HasBody Try.prog f) (h : GOk l) : GOk ((f, ct) :: l) := by
  intro g ct' hg
  simp only [lookG] at hg
  by_cases hgf : g = f
  · rw [cnd_beq_true hgf] at hg; cases hg; subst hgf; exact ⟨h1, h2⟩
  · rw [cnd_beq_false hgf] at hg; exact h g ct' hg
def PGOk (l : List (Nat × Cp)) : Prop := ∀ f cp, lookP l f = some cp → CpOk Try.prog gdS f cp ∧ HasBody Try.prog f
theorem pgok_nil : PGOk [] := fun f cp h => by cases h
theorem pgok_cons {f : FuncId} {cp : Cp} {l : List (Nat × Cp)} (h1 : CpOk Try.prog gdS f cp) (h2 : HasBody Try.prog f) (h : PGOk l) : PGOk ((f, cp) :: l) := by
  intro g cp' hg
  simp only [lookP] at hg
  by_cases hgf : g = f
  · rw [cnd_beq_true hgf] at hg; cases hg; subst hgf; exact ⟨h1, h2⟩
  · rw [cnd_beq_false hgf] at hg; exact h g cp' hg
def FvOk (cv : Fv) (g : Nat) : Prop := CtOk Try.prog gdS g { p := cv.p, psh := cv.psh, r := cv.r, rsh := cv.rsh, pre := none, fresh := none, F := cv.F g } ∧ HasBody Try.prog g
def FVOk (fv : Option Fv) : Prop := ∀ cv, fv = some cv → ∀ g ∈ cv.fs, FvOk cv g
theorem fvok_none : FVOk none := fun cv h => by cases h
theorem fvok_some {cv : Fv} (h : ∀ g ∈ cv.fs, FvOk cv g) : FVOk (some cv) := fun cv' h' => by cases h'; exact h
def ZKOk (l : List (Nat × Zc)) : Prop := ∀ f z, lookZ l f = some z → ZcOk Try.prog gdS f z ∧ HasBody Try.prog f
theorem zkok_nil : ZKOk [] := fun f z h => by cases h
theorem zkok_cons {f : FuncId} {z : Zc} {l : List (Nat × Zc)} (h1 : ZcOk Try.prog gdS f z) (h2 : HasBody Try.prog f) (h : ZKOk l) : ZKOk ((f, z) :: l) := by
  intro g z' hg
  simp only [lookZ] at hg
  by_cases hgf : g = f
  · rw [cnd_beq_true hgf] at hg; cases hg; subst hgf; exact ⟨h1, h2⟩
  · rw [cnd_beq_false hgf] at hg; exact h g z' hg
theorem ctxOkZ {zl : List (Nat × Zc)} {pl : List (Nat × Cp)} {fv : Option Fv} {l : List (Nat × Ct)} (hz : ZKOk zl) (hp : PGOk pl) (hv : FVOk fv) (h : GOk l) (fz : List (Nat × List Nat)) : CtxOk Try.prog (ctxZ zl pl fv l fz) where
  zk := hz
  xt := xtOk
  pg := hp
  fv := hv
  mixed := by kernel_rfl
  D := tabOk
  Γ := h
  bytes := bytesOk
  gv := gvOk
  eq := eqOk
theorem ctxOkP {pl : List (Nat × Cp)} {fv : Option Fv} {l : List (Nat × Ct)} (hp : PGOk pl) (hv : FVOk fv) (h : GOk l) (fz : List (Nat × List Nat)) : CtxOk Try.prog (ctxP pl fv l fz) := ctxOkZ zkok_nil hp hv h fz
theorem ctxOkF {l : List (Nat × Ct)} (h : GOk l) (fz : List (Nat × List Nat)) : CtxOk Try.prog (ctxF l fz) := ctxOkP pgok_nil fvok_none h fz
theorem ctxOk {l : List (Nat × Ct)} (h : GOk l) : CtxOk Try.prog (ctxG l) := ctxOkF h []
structure SafeW {ρ₀ ρ : Type} (t : Tr ρ₀ ρ) : Prop where
  safe : t.safe
def Tr.triv {ρ₀ ρ : Type} : Tr ρ₀ ρ → Bool
  | .ret _ => true | .ite _ t e => andd t.triv e.triv | .need _ _ => false | .opt _ t => t.triv | .bad => false
def Tr.slim {ρ₀ ρ : Type} : Tr ρ₀ ρ → Prop
  | .ret _ => True
  | .ite c t e => match t.triv, e.triv with | true, true => True | true, false => (c = false → e.slim) | false, true => (c = true → t.slim) | false, false => (c = true → t.slim) ∧ (c = false → e.slim)
  | .need p t => match t.triv with | true => p | false => p ∧ t.slim
  | .opt o t => match t.triv with | true => True | false => (o = none → t.slim)
  | .bad => False
theorem Tr.triv_safe {ρ₀ ρ : Type} : ∀ {t : Tr ρ₀ ρ}, t.triv = true → t.safe
  | .ret _, _ => trivial
  | .ite c t e, h => by
    cases ht : t.triv with
    | false => simp [Tr.triv, ht, andd] at h
    | true =>
      cases he : e.triv with
      | false => simp [Tr.triv, ht, he, andd] at h
      | true => exact ⟨fun _ => Tr.triv_safe ht, fun _ => Tr.triv_safe he⟩
  | .need _ _, h => by cases h
  | .opt o t, h => fun _ => Tr.triv_safe h
  | .bad, h => by cases h
theorem Tr.slim_safe {ρ₀ ρ : Type} : ∀ {t : Tr ρ₀ ρ}, t.slim → t.safe
  | .ret _, _ => trivial
  | .ite c t e, h => by
    cases ht : t.triv with
    | false =>
      cases he : e.triv with
      | false =>
        simp only [Tr.slim, ht, he] at h
        exact ⟨fun z => Tr.slim_safe (h.1 z), fun z => Tr.slim_safe (h.2 z)⟩
      | true =>
        simp only [Tr.slim, ht, he] at h
        exact ⟨fun z => Tr.slim_safe (h z), fun _ => Tr.triv_safe he⟩
    | true =>
      cases he : e.triv with
      | false =>
        simp only [Tr.slim, ht, he] at h
        exact ⟨fun _ => Tr.triv_safe ht, fun z => Tr.slim_safe (h z)⟩
      | true => exact ⟨fun _ => Tr.triv_safe ht, fun _ => Tr.triv_safe he⟩
  | .need p t, h => by
    cases ht : t.triv with
    | false =>
      simp only [Tr.slim, ht] at h
      exact ⟨h.1, Tr.slim_safe h.2⟩
    | true =>
      simp only [Tr.slim, ht] at h
      exact ⟨h, Tr.triv_safe ht⟩
  | .opt o t, h => by
    cases ht : t.triv with
    | false =>
      simp only [Tr.slim, ht] at h
      exact fun z => Tr.slim_safe (h z)
    | true => exact fun _ => Tr.triv_safe ht
  | .bad, h => h.elim
theorem triv_of {ρ₀ ρ : Type} {t : Tr ρ₀ ρ} (h : t.triv = true) : SafeW t := SafeW.mk (Tr.triv_safe h)
theorem slim_of {ρ₀ ρ : Type} {t : Tr ρ₀ ρ} {S : Prop} (h : t.slim = S) (k : S) : SafeW t := ⟨Tr.slim_safe (h ▸ k)⟩
theorem safe_of {ρ₀ ρ : Type} {t : Tr ρ₀ ρ} {S : Prop} (h : t.safe = S) (k : S) : SafeW t := ⟨h ▸ k⟩
theorem safe_pre {α : Type} {A pre Q : α → Prop} (h : ∀ x, A x → pre x → Q x) : ∀ x, A x → (∀ q, some pre = some q → q x) → Q x := fun x fx hq => h x fx (hq _ rfl)
theorem safe_no {α : Type} {A Q : α → Prop} {pre : Option (α → Prop)} (h : ∀ x, A x → Q x) : ∀ x, A x → (∀ q, pre = some q → q x) → Q x := fun x fx _ => h x fx
theorem fn_okU {C : Ctx} (hC : CtxOk Try.prog C) (hG : C.G = gdS) {f : FuncId} {fn : Func} (hf : Try.prog.funcs[f]? = some fn) {p : Ty} {psh : List (Option Nat)} {r : Ty} {rsh : Rsh} {pre : Option (p.den → Prop)} {fresh : Option Nat} {F : p.den → r.den} {L : Nat → Option (LS r.den)} {c : Code} (hb : fn.body = some c) {dflt : r.den}
    (hL : ∀ body ∈ loopsIn c, ∀ s, L (codeId body) = some s → LoopOk Try.prog C.G (RetAt Try.prog fn rsh fresh r) body s)
    (hsafe : ∀ x, Fit p x → (∀ q, pre = some q → q x) → SafeW (evFn C fn p psh rsh fresh r L x))
    (hval : ∀ x, (evFn C fn p psh rsh fresh r L x).val (fun y => y) dflt = F x) : CtOk Try.prog gdS f { p := p, psh := psh, r := r, rsh := rsh, pre := pre, fresh := fresh, F := F } :=
  hG ▸ fn_ok (ct := { p := p, psh := psh, r := r, rsh := rsh, pre := pre, fresh := fresh, F := F }) hC hf hb hL (fun x h1 h2 => (hsafe x h1 h2).safe) hval
theorem safe_preP {α : Type} {A Q : α → Prop} {B : Prop} {pre : α → Prop} (hb : B) (h : ∀ x, A x → pre x → Q x) : ∀ x, (B → A x) → (∀ q, some pre = some q → q x) → Q x := fun x fx hq => h x (fx hb) (hq _ rfl)
theorem safe_noP {α : Type} {A Q : α → Prop} {B : Prop} {pre : Option (α → Prop)} (hb : B) (h : ∀ x, A x → Q x) : ∀ x, (B → A x) → (∀ q, pre = some q → q x) → Q x := fun x fx _ => h x (fx hb)
theorem safe_preX {α : Type} {A Q : α → Prop} {B : Prop} {pre : α → Prop} (h : ∀ x, pre x → Q x) : ∀ x, (B → A x) → (∀ q, some pre = some q → q x) → Q x := fun x _ hq => h x (hq _ rfl)
theorem safe_noX {α : Type} {A Q : α → Prop} {B : Prop} {pre : Option (α → Prop)} (h : ∀ x, Q x) : ∀ x, (B → A x) → (∀ q, pre = some q → q x) → Q x := fun x _ _ => h x
theorem fn_okPU {C : Ctx} (hC : CtxOk Try.prog C) (hG : C.G = gdS) {f : FuncId} {fn : Func} (hf : Try.prog.funcs[f]? = some fn) (cp : Cp) {L : Nat → Option (LS Unit)} {c : Code} (hb : fn.body = some c) {dflt : cp.r.den × cp.q.den}
    (hL : ∀ body ∈ loopsIn c, ∀ s, L (codeId body) = some s → LoopOk Try.prog C.G (fun _ _ _ (_ : Unit) _ _ => False) body s)
    (hsafe : ∀ x, (cp.ex = false → Fit cp.p x) → (∀ q, cp.pre = some q → q x) → SafeW (evFnP C fn cp.p cp.psh cp.mask cp.sz cp.ro cp.ex cp.q cp.rsh cp.r L x))
    (hval : ∀ x, (evFnP C fn cp.p cp.psh cp.mask cp.sz cp.ro cp.ex cp.q cp.rsh cp.r L x).val (fun _ => dflt) dflt = cp.F x) (hpn : cp.pn = none := by rfl) : CpOk Try.prog gdS f cp :=
  hG ▸ fn_okP hC hf hb hL (fun x h1 h2 => (hsafe x h1 h2).safe) hval hpn
theorem fn_okQU {C : Ctx} (hC : CtxOk Try.prog C) (hG : C.G = gdS) {f : FuncId} {fn : Func} (hf : Try.prog.funcs[f]? = some fn) (cp : Cp) {L : Nat → Option (LS Unit)} {c : Code} (hb : fn.body = some c) {dflt : Bool × (cp.r.den × cp.q.den)} {FQ : cp.p.den → Bool × (cp.r.den × cp.q.den)}
    (hro : cp.ro = false) (hpn : cp.pn = some fun x => (FQ x).1) (hF : ∀ x, cp.F x = (FQ x).2)
    (hL : ∀ body ∈ loopsIn c, ∀ s, L (codeId body) = some s → LoopOk Try.prog C.G (fun _ _ _ (_ : Unit) _ _ => False) body s)
    (hsafe : ∀ x, (cp.ex = false → Fit cp.p x) → (∀ q, cp.pre = some q → q x) → SafeW (evFnQ C fn cp.p cp.psh cp.mask cp.sz cp.ex cp.q cp.rsh cp.r cp.pv L x))
    (hval : ∀ x, (evFnQ C fn cp.p cp.psh cp.mask cp.sz cp.ex cp.q cp.rsh cp.r cp.pv L x).val (fun _ => dflt) dflt = FQ x) : CpOk Try.prog gdS f cp :=
  hG ▸ fn_okQ hC hf hb hro hpn hF hL (fun x h1 h2 => (hsafe x h1 h2).safe) hval
end Go.Proofs.Ytbnihoioblmgkaa.Sy
namespace Go.Proofs.Ytbnihoioblmgkaa.Sp
open Go Go.Proofs.Ytbnihoioblmgkaa.Sy
theorem wrap_i64_of {x : Int} (h0 : -9223372036854775808 ≤ x) (h1 : x ≤ 9223372036854775807) : IntKind.i64.wrap x = x := by rw [IntKind.wrap_i64]; omega
theorem tmod_ite (a n : Int) : Int.tmod a n = if 0 ≤ a then a % n else -((-a) % n) := by
  split
  · exact Int.tmod_eq_emod_of_nonneg (by assumption)
  · have h : a = -(-a) := by omega
    conv => lhs; rw [h]
    rw [Int.neg_tmod, Int.tmod_eq_emod_of_nonneg (by omega)]
theorem tdiv_ite (a n : Int) : Int.tdiv a n = if 0 ≤ a then a / n else -((-a) / n) := by
  split
  · exact Int.tdiv_eq_ediv_of_nonneg (by assumption)
  · have h : a = -(-a) := by omega
    conv => lhs; rw [h]
    rw [Int.neg_tdiv, Int.tdiv_eq_ediv_of_nonneg (by omega)]
theorem tmod_nn {a b : Int} (h : 0 ≤ a) : 0 ≤ Int.tmod a b := by rw [Int.tmod_eq_emod_of_nonneg h]; exact (Int.lt_or_le 0 b).elim (fun hb => Int.emod_nonneg _ (by omega)) (fun hb => by
  by_cases h0 : b = 0
  · subst h0; simpa using h
  · exact Int.emod_nonneg _ h0)
theorem tmod_lt {a b : Int} (h : 0 ≤ a) (hb : 0 < b) : Int.tmod a b < b := by rw [Int.tmod_eq_emod_of_nonneg h]; exact Int.emod_lt_of_pos _ hb
theorem tmod_lit (a : Int) (n : Nat) {inst : OfNat Int n} : Int.tmod a (no_index (@OfNat.ofNat Int n inst)) = if 0 ≤ a then a % (@OfNat.ofNat Int n inst) else -((-a) % (@OfNat.ofNat Int n inst)) := tmod_ite _ _
theorem tdiv_lit (a : Int) (n : Nat) {inst : OfNat Int n} : Int.tdiv a (no_index (@OfNat.ofNat Int n inst)) = if 0 ≤ a then a / (@OfNat.ofNat Int n inst) else -((-a) / (@OfNat.ofNat Int n inst)) := tdiv_ite _ _
theorem wrap_u8_of {x : Int} (h0 : 0 ≤ x) (h1 : x ≤ 255) : IntKind.u8.wrap x = x := by rw [IntKind.wrap_u8]; omega
theorem wrap_u32_of {x : Int} (h0 : 0 ≤ x) (h1 : x ≤ 4294967295) : IntKind.u32.wrap x = x := by rw [IntKind.wrap_u32]; omega
theorem wrap_u64_of {x : Int} (h0 : 0 ≤ x) (h1 : x ≤ 18446744073709551615) : IntKind.u64.wrap x = x := by rw [IntKind.wrap_u64]; omega
def endOf {K X ρ : Type} (step : K → X → BOut K X ρ) (k : K) : Nat → X → X
  | 0, x => x
  | n + 1, x => match step k x with | .next _ y => endOf step k n y | .brk _ y => y | .ret _ => x
def retOf {K X ρ : Type} (step : K → X → BOut K X ρ) (k : K) : Nat → X → Option ρ
  | 0, _ => none
  | n + 1, x => match step k x with | .next _ y => retOf step k n y | .brk _ _ => none | .ret r => some r
end Go.Proofs.Ytbnihoioblmgkaa.Sp
namespace Go.Proofs.Ytbnihoioblmgkaa.Sy
open Go Go.RowKit Sp
theorem endOf_more {K X ρ : Type} {step : K → X → BOut K X ρ} {k : K} {I : X → Prop} {μ : X → Nat} (h : ∀ x k' y, I x → step k x = .next k' y → I y ∧ μ y < μ x) :
    ∀ (n m : Nat) (x : X), I x → μ x < n → μ x < m → endOf step k n x = endOf step k m x ∧ retOf step k n x = retOf step k m x
  | 0, _, x, _, hn, _ => by omega
  | _ + 1, 0, x, _, _, hm => by omega
  | n + 1, m + 1, x, hi, hn, hm => by
    simp only [endOf, retOf]
    cases hs : step k x with
    | next k' y =>
      obtain ⟨h1, h2⟩ := h x k' y hi hs
      exact endOf_more h n m y h1 (by omega) (by omega)
    | brk k' y => exact ⟨rfl, rfl⟩
    | ret r => exact ⟨rfl, rfl⟩
def mkLS {ρ : Type} (K X : Ty) (ks : List (Nat × Option Nat)) (kb : List (Nat × Nat)) (xs : List (Nat × Option Nat)) (xb : List (Nat × Nat)) (vecs : List (Nat × Nat × Bool × Nat)) (fz : List Nat) (ptrs : List (Nat × Nat)) (exit : Nat) (rets : Bool)
    (inv : K.den → X.den → Prop) (step : K.den → X.den → BOut K.den X.den ρ) (μ : K.den → X.den → Nat) : LS ρ :=
  { K := K, X := X, ks := ks, kb := kb, xs := xs, xb := xb, vecs := vecs, fz := fz, ptrs := ptrs, exit := exit, inv := some inv,
    G := fun k x => endOf step k (Nat.succ (μ k x)) x, R := cnd rets (some fun k x => retOf step k (Nat.succ (μ k x)) x) none }
def StepOk {K X ρ : Type} (rets : Bool) (inv : K → X → Prop) (μ : K → X → Nat) (k : K) (x : X) : BOut K X ρ → Prop
  | .next k' y => k' = k ∧ inv k y ∧ μ k y < μ k x
  | .brk k' _ => k' = k
  | .ret _ => rets = true
theorem StepOk.cnd {K X ρ : Type} {rets : Bool} {inv : K → X → Prop} {μ : K → X → Nat} {k : K} {x : X} {c : Bool} {a b : BOut K X ρ} (ha : c = true → StepOk rets inv μ k x a) (hb : c = false → StepOk rets inv μ k x b) :
    StepOk rets inv μ k x (bif c then a else b) := by cases c; exact hb rfl; exact ha rfl
theorem StepOk.opt {K X ρ : Type} {inv : K → X → Prop} {μ : K → X → Nat} {k : K} {x : X} {o : Option ρ} {a : BOut K X ρ} (ha : o = none → StepOk true inv μ k x a) :
    StepOk true inv μ k x (Sp.optR o BOut.ret a) := by cases o; exact ha rfl; exact rfl
theorem loop_run0 {P : Program} {C : Ctx} (hC : CtxOk P C) {ρ : Type} {Ret : Exit → Nat → (Nat → Nat → Prop) → ρ → Act → World → Prop} {ret : Ex → ASt → Tr ρ ρ} (hmono : ∀ e n X X' r a w, (∀ b p, X' b p → X b p) → Ret e n X r a w → Ret e n X' r a w)
    (hret : ∀ (φ : Fr) x st a w r, (x = .ret ∨ ∃ v, x = .pan v) → Sat φ ν0 st a w → ret x st = .ret r → Ret (exOf x) φ.n0 φ.X0 r a w) {L : Nat → Option (LS ρ)} {body : Code} {K X : Ty} {ks : List (Nat × Option Nat)} {kb : List (Nat × Nat)} {xs : List (Nat × Option Nat)} {xb : List (Nat × Nat)} {vecs : List (Nat × Nat × Bool × Nat)} {fz : List Nat} {ptrs : List (Nat × Nat)} {exit : Nat} {rets : Bool}
    {inv : K.den → X.den → Prop} {step : K.den → X.den → BOut K.den X.den ρ} {μ : K.den → X.den → Nat} {d : BOut K.den X.den ρ}
    (hL : ∀ b ∈ loopsIn body, ∀ s', L (codeId b) = some s' → LoopOk P C.G Ret b s')
    (hsafe : ∀ kv xv, Fit K kv → Fit X xv → inv kv xv → SafeW (evCode C L body (tmpl (mkLS K X ks kb xs xb vecs fz ptrs exit rets inv step μ) (enc K kv) (enc X xv)) (evRound (mkLS K X ks kb xs xb vecs fz ptrs exit rets inv step μ) ret)))
    (hval : ∀ kv xv, (evCode C L body (tmpl (mkLS K X ks kb xs xb vecs fz ptrs exit rets inv step μ) (enc K kv) (enc X xv)) (evRound (mkLS K X ks kb xs xb vecs fz ptrs exit rets inv step μ) ret)).val BOut.ret d = step kv xv)
    (hstep : ∀ kv xv, Fit K kv → inv kv xv → StepOk rets inv μ kv xv (step kv xv)) :
    LoopOk P C.G Ret body (mkLS K X ks kb xs xb vecs fz ptrs exit rets inv step μ) := by
  have key : ∀ (kv : K.den) (xv : X.den), Fit K kv → Fit X xv → inv kv xv → (evCode C L body (tmpl (mkLS K X ks kb xs xb vecs fz ptrs exit rets inv step μ) (enc K kv) (enc X xv)) (evRound (mkLS K X ks kb xs xb vecs fz ptrs exit rets inv step μ) ret)).All BOut.ret
      (RoundOk (mkLS K X ks kb xs xb vecs fz ptrs exit rets inv step μ) μ kv xv) := by
    intro kv xv hfK hfX hi
    refine All.mono (fun o ho => ?_) (all_of_safe (rt := BOut.ret) (d := d) (hsafe kv xv hfK hfX hi).safe)
    have ho : o = step kv xv := ho.trans (hval kv xv)
    subst ho
    have hs := hstep kv xv hfK hi
    have hmore : ∀ y, inv kv y → μ kv y < μ kv xv → endOf step kv (Nat.succ (μ kv y)) y = endOf step kv (μ kv xv) y ∧ retOf step kv (Nat.succ (μ kv y)) y = retOf step kv (μ kv xv) y := fun y hy hlt =>
      endOf_more (I := inv kv) (μ := μ kv) (fun x k' z hx hz => by have := hstep kv x hfK hx; rw [hz] at this; exact this.2) _ _ y hy (by omega) (by omega)
    cases hc : step kv xv with
    | next k y =>
      rw [hc] at hs
      obtain ⟨h1, h2, h3⟩ := hs
      refine ⟨h1, fun p hp => by cases hp; exact h2, h3, ?_, fun R hR => ?_⟩
      · show endOf step kv (Nat.succ (μ kv y)) y = endOf step kv (Nat.succ (μ kv xv)) xv
        rw [(hmore y h2 h3).1]
        simp only [endOf, hc]
      · cases rets with
        | false => cases hR
        | true =>
          cases hR
          show retOf step kv (Nat.succ (μ kv y)) y = retOf step kv (Nat.succ (μ kv xv)) xv
          rw [(hmore y h2 h3).2]
          simp only [retOf, hc]
    | brk k y =>
      rw [hc] at hs
      refine ⟨hs, ?_, fun R hR => ?_⟩
      · show endOf step kv (Nat.succ (μ kv xv)) xv = y
        simp only [endOf, hc]
      · cases rets with
        | false => cases hR
        | true =>
          cases hR
          show retOf step kv (Nat.succ (μ kv xv)) xv = none
          simp only [retOf, hc]
    | ret z =>
      rw [hc] at hs
      cases rets with
      | false => cases hs
      | true =>
        refine ⟨_, rfl, ?_⟩
        show retOf step kv (Nat.succ (μ kv xv)) xv = some z
        simp only [retOf, hc]
  exact loop_ok hC hmono (ret := ret) hret hL μ (fun kv xv hfK hfX hi => key kv xv hfK hfX (hi inv rfl))
theorem loop_run {P : Program} {C : Ctx} (hC : CtxOk P C) {fn : Func} {rsh : Rsh} {fr : Option Nat} {r : Ty} {L : Nat → Option (LS r.den)} {body : Code} {K X : Ty} {ks : List (Nat × Option Nat)} {kb : List (Nat × Nat)} {xs : List (Nat × Option Nat)} {xb : List (Nat × Nat)} {vecs : List (Nat × Nat × Bool × Nat)} {fz : List Nat} {ptrs : List (Nat × Nat)} {exit : Nat} {rets : Bool}
    {inv : K.den → X.den → Prop} {step : K.den → X.den → BOut K.den X.den r.den} {μ : K.den → X.den → Nat} {d : BOut K.den X.den r.den}
    (hL : ∀ b ∈ loopsIn body, ∀ s', L (codeId b) = some s' → LoopOk P C.G (RetAt P fn rsh fr r) b s')
    (hsafe : ∀ kv xv, Fit K kv → Fit X xv → inv kv xv → SafeW (evCode C L body (tmpl (mkLS K X ks kb xs xb vecs fz ptrs exit rets inv step μ) (enc K kv) (enc X xv)) (evRound (mkLS K X ks kb xs xb vecs fz ptrs exit rets inv step μ) (evRet C fn rsh fr r))))
    (hval : ∀ kv xv, (evCode C L body (tmpl (mkLS K X ks kb xs xb vecs fz ptrs exit rets inv step μ) (enc K kv) (enc X xv)) (evRound (mkLS K X ks kb xs xb vecs fz ptrs exit rets inv step μ) (evRet C fn rsh fr r))).val BOut.ret d = step kv xv)
    (hstep : ∀ kv xv, Fit K kv → inv kv xv → StepOk rets inv μ kv xv (step kv xv)) :
    LoopOk P C.G (RetAt P fn rsh fr r) body (mkLS K X ks kb xs xb vecs fz ptrs exit rets inv step μ) :=
  loop_run0 hC (fun e n X X' r a w h hr => hr.mono h) (ret := evRet C fn rsh fr r) (fun φ x st a w r hx hs hr => by
    obtain ⟨m, hm⟩ := hs
    obtain ⟨_, hnp, y, hy, h⟩ := evRet_ok (Post := fun y => y = r) hC hm (by rw [hr]; exact rfl)
    subst hy
    rcases hx with rfl | ⟨v, rfl⟩
    · exact h
    · exact absurd rfl (hnp v)) hL hsafe hval hstep
theorem loop_runP {P : Program} {C : Ctx} (hC : CtxOk P C) {L : Nat → Option (LS Unit)} {body : Code} {K X : Ty} {ks : List (Nat × Option Nat)} {kb : List (Nat × Nat)} {xs : List (Nat × Option Nat)} {xb : List (Nat × Nat)} {vecs : List (Nat × Nat × Bool × Nat)} {fz : List Nat} {ptrs : List (Nat × Nat)} {exit : Nat} {rets : Bool}
    {inv : K.den → X.den → Prop} {step : K.den → X.den → BOut K.den X.den Unit} {μ : K.den → X.den → Nat} {d : BOut K.den X.den Unit}
    (hL : ∀ b ∈ loopsIn body, ∀ s', L (codeId b) = some s' → LoopOk P C.G (fun _ _ _ (_ : Unit) _ _ => False) b s')
    (hsafe : ∀ kv xv, Fit K kv → Fit X xv → inv kv xv → SafeW (evCode C L body (tmpl (mkLS K X ks kb xs xb vecs fz ptrs exit rets inv step μ) (enc K kv) (enc X xv)) (evRound (mkLS K X ks kb xs xb vecs fz ptrs exit rets inv step μ) (fun _ _ => .bad))))
    (hval : ∀ kv xv, (evCode C L body (tmpl (mkLS K X ks kb xs xb vecs fz ptrs exit rets inv step μ) (enc K kv) (enc X xv)) (evRound (mkLS K X ks kb xs xb vecs fz ptrs exit rets inv step μ) (fun _ _ => .bad))).val BOut.ret d = step kv xv)
    (hstep : ∀ kv xv, Fit K kv → inv kv xv → StepOk rets inv μ kv xv (step kv xv)) :
    LoopOk P C.G (fun _ _ _ (_ : Unit) _ _ => False) body (mkLS K X ks kb xs xb vecs fz ptrs exit rets inv step μ) :=
  loop_run0 hC (fun e n X X' r a w h hr => hr.elim) (ret := fun _ _ => .bad) (fun φ x st a w r hx hs hr => by cases hr) hL hsafe hval hstep
def noL {ρ : Type} : Nat → Option (LS ρ) := fun _ => none
theorem no_loops {ρ : Type} {c : Code} {Q : Code → LS ρ → Prop} : ∀ body ∈ loopsIn c, ∀ s, noL (codeId body) = some s → Q body s := fun _ _ _ h => by cases h
def lookL {ρ : Type} : List (Nat × LS ρ) → Nat → Option (LS ρ)
  | [], _ => none
  | (i, s) :: r, t => cnd (Nat.beq t i) (some s) (lookL r t)
def bodyAt : Code → List Nat → Code
  | c, [] => c
  | c, i :: r => bodyAt ((loopsIn c).getD i .skip) r
def bodyOf (fn : Func) : Code := fn.body.getD .skip
section
variable {P : Program} {G : Gd} {ρ : Type} {Ret : Exit → Nat → (Nat → Nat → Prop) → ρ → Act → World → Prop} {L : Nat → Option (LS ρ)}
theorem loops_nil : ∀ body ∈ ([] : List Code), ∀ s, L (codeId body) = some s → LoopOk P G Ret body s := fun _ h => by cases h
theorem loops_cons {b : Code} {s0 : LS ρ} {rest : List Code} (h0 : L (codeId b) = some s0) (h1 : LoopOk P G Ret b s0)
    (h : ∀ body ∈ rest, ∀ s, L (codeId body) = some s → LoopOk P G Ret body s) : ∀ body ∈ b :: rest, ∀ s, L (codeId body) = some s → LoopOk P G Ret body s := by
  intro body hb s hs
  rcases List.mem_cons.1 hb with rfl | hb
  · rw [h0] at hs; cases hs; exact h1
  · exact h body hb s hs
theorem loops_of {c : Code} {l : List Code} (he : loopsIn c = l) (h : ∀ body ∈ l, ∀ s, L (codeId body) = some s → LoopOk P G Ret body s) : ∀ body ∈ loopsIn c, ∀ s, L (codeId body) = some s → LoopOk P G Ret body s := by rw [he]; exact h
end
end Go.Proofs.Ytbnihoioblmgkaa.Sy
end

section
/- Small lemmas on worlds that have grown (own work): a call that keeps all old blocks leaves the old world with new blocks behind it. -/
namespace Go.Proofs.Ytbnihoioblmgkaa
open Go.RowKit
structure Gr where
  xs : Array Obj
  d : Nat
instance : Inhabited Gr := ⟨⟨#[], 0⟩⟩
def Gr.n (g : Gr) : Nat := g.xs.size
def Gr.drew (g : Gr) : Gr := ⟨g.xs, g.d + 1⟩
def Gr.add (g h : Gr) : Gr := ⟨g.xs ++ h.xs, h.d⟩
def ext (w : World) (g : Gr) : World := { w with heap := w.heap ++ g.xs, drawn := g.d }
@[simp, go_sem] theorem size_ext (w : World) (g : Gr) : (ext w g).heap.size = w.heap.size + g.n := by simp [ext, Gr.n]
@[simp high, go_sem high] theorem size_ext_add (w : World) (g h : Gr) : (ext w (g.add h)).heap.size = (ext w g).heap.size + h.n := by simp [ext, Gr.add, Gr.n, Nat.add_assoc]
@[simp high, go_sem high] theorem size_ext_drew (w : World) (g : Gr) : (ext w g.drew).heap.size = (ext w g).heap.size := by simp [ext, Gr.drew]
@[simp, go_sem] theorem add_add_n (a : Nat) (g h : Gr) : a + (g.add h).n = a + g.n + h.n := by simp [Gr.add, Gr.n, Nat.add_assoc]
@[simp, go_sem] theorem add_drew_n (a : Nat) (g : Gr) : a + g.drew.n = a + g.n := by simp [Gr.drew, Gr.n]
@[go_sem] theorem drew_ext (w : World) (g : Gr) : (ext w g).drew = ext w g.drew := rfl
@[go_sem] theorem ext_drew (w : World) (g : Gr) : ext w.drew g = ext w g := rfl
@[go_sem] theorem ext_ext (w : World) (g h : Gr) : ext (ext w g) h = ext w (g.add h) := by simp [ext, Gr.add]
theorem heap_ext (w : World) (g : Gr) (k : Nat) (h : k < w.heap.size) : (ext w g).heap[k]? = w.heap[k]? := by
  simp [ext, Array.getElem?_append, h]
@[go_sem] theorem cell_ext (w : World) (g : Gr) (b i : Nat) (h : b < w.heap.size) : (ext w g).cell? ⟨b, i, none⟩ = w.cell? ⟨b, i, none⟩ := by
  unfold World.cell?; rw [heap_ext w g b h]
@[go_sem] theorem frozen_ext (w : World) (g : Gr) (b i : Nat) (h : b < w.heap.size) : (ext w g).frozen? ⟨b, i, none⟩ = w.frozen? ⟨b, i, none⟩ := by
  unfold World.frozen?; rw [heap_ext w g b h]
@[go_sem] theorem shape_ext (w : World) (g : Gr) (b : Nat) (h : b < w.heap.size) : (ext w g).shape? b = w.shape? b := by
  unfold World.shape?; rw [heap_ext w g b h]
@[go_sem] theorem setCell_ext (w : World) (g : Gr) (b i : Nat) (v : Value) (h : b < w.heap.size) : (ext w g).setCell ⟨b, i, none⟩ v = ext (w.setCell ⟨b, i, none⟩ v) g := by
  unfold World.setCell ext
  congr 1
  apply Array.ext_getElem?
  intro k
  simp only [Array.getElem?_modify, Array.getElem?_append, Array.size_modify]
  by_cases hk : k < w.heap.size
  · simp [hk]
  · simp [hk, show ¬ b = k by omega]
@[go_sem] theorem lt_size1 (a : Nat) (x0 : Nat) : (a < a + 1 + x0) = True := eq_true (by omega)
@[go_sem] theorem lt_size2 (a : Nat) (x0 x1 : Nat) : (a < a + 1 + x0 + x1) = True := eq_true (by omega)
@[go_sem] theorem lt_size3 (a : Nat) (x0 x1 x2 : Nat) : (a < a + 1 + x0 + x1 + x2) = True := eq_true (by omega)
@[go_sem] theorem lt_size4 (a : Nat) (x0 x1 x2 x3 : Nat) : (a < a + 1 + x0 + x1 + x2 + x3) = True := eq_true (by omega)
@[go_sem] theorem lt_size5 (a : Nat) (x0 x1 x2 x3 x4 : Nat) : (a < a + 1 + x0 + x1 + x2 + x3 + x4) = True := eq_true (by omega)
@[go_sem] theorem lt_size6 (a : Nat) (x0 x1 x2 x3 x4 x5 : Nat) : (a < a + 1 + x0 + x1 + x2 + x3 + x4 + x5) = True := eq_true (by omega)
@[go_sem] theorem lt_size7 (a : Nat) (x0 x1 x2 x3 x4 x5 x6 : Nat) : (a < a + 1 + x0 + x1 + x2 + x3 + x4 + x5 + x6) = True := eq_true (by omega)
@[go_sem] theorem lt_size8 (a : Nat) (x0 x1 x2 x3 x4 x5 x6 x7 : Nat) : (a < a + 1 + x0 + x1 + x2 + x3 + x4 + x5 + x6 + x7) = True := eq_true (by omega)
@[go_sem] theorem lt_size9 (a : Nat) (x0 x1 x2 x3 x4 x5 x6 x7 x8 : Nat) : (a < a + 1 + x0 + x1 + x2 + x3 + x4 + x5 + x6 + x7 + x8) = True := eq_true (by omega)
@[go_sem] theorem lt_size10 (a : Nat) (x0 x1 x2 x3 x4 x5 x6 x7 x8 x9 : Nat) : (a < a + 1 + x0 + x1 + x2 + x3 + x4 + x5 + x6 + x7 + x8 + x9) = True := eq_true (by omega)
@[go_sem] theorem lt_size11 (a : Nat) (x0 x1 x2 x3 x4 x5 x6 x7 x8 x9 x10 : Nat) : (a < a + 1 + x0 + x1 + x2 + x3 + x4 + x5 + x6 + x7 + x8 + x9 + x10) = True := eq_true (by omega)
@[go_sem] theorem lt_size12 (a : Nat) (x0 x1 x2 x3 x4 x5 x6 x7 x8 x9 x10 x11 : Nat) : (a < a + 1 + x0 + x1 + x2 + x3 + x4 + x5 + x6 + x7 + x8 + x9 + x10 + x11) = True := eq_true (by omega)
@[go_sem] theorem lt_size13 (a : Nat) (x0 x1 x2 x3 x4 x5 x6 x7 x8 x9 x10 x11 x12 : Nat) : (a < a + 1 + x0 + x1 + x2 + x3 + x4 + x5 + x6 + x7 + x8 + x9 + x10 + x11 + x12) = True := eq_true (by omega)
@[go_sem] theorem lt_size14 (a : Nat) (x0 x1 x2 x3 x4 x5 x6 x7 x8 x9 x10 x11 x12 x13 : Nat) : (a < a + 1 + x0 + x1 + x2 + x3 + x4 + x5 + x6 + x7 + x8 + x9 + x10 + x11 + x12 + x13) = True := eq_true (by omega)
@[go_sem] theorem lt_size15 (a : Nat) (x0 x1 x2 x3 x4 x5 x6 x7 x8 x9 x10 x11 x12 x13 x14 : Nat) : (a < a + 1 + x0 + x1 + x2 + x3 + x4 + x5 + x6 + x7 + x8 + x9 + x10 + x11 + x12 + x13 + x14) = True := eq_true (by omega)
@[go_sem low] theorem lt_base1 {b s : Nat} (h : b < s) (x0 : Nat) : (b < s + x0) = True := eq_true (by omega)
@[go_sem low] theorem lt_base2 {b s : Nat} (h : b < s) (x0 x1 : Nat) : (b < s + x0 + x1) = True := eq_true (by omega)
@[go_sem low] theorem lt_base3 {b s : Nat} (h : b < s) (x0 x1 x2 : Nat) : (b < s + x0 + x1 + x2) = True := eq_true (by omega)
@[go_sem low] theorem lt_base4 {b s : Nat} (h : b < s) (x0 x1 x2 x3 : Nat) : (b < s + x0 + x1 + x2 + x3) = True := eq_true (by omega)
@[go_sem low] theorem lt_base5 {b s : Nat} (h : b < s) (x0 x1 x2 x3 x4 : Nat) : (b < s + x0 + x1 + x2 + x3 + x4) = True := eq_true (by omega)
@[go_sem low] theorem lt_base6 {b s : Nat} (h : b < s) (x0 x1 x2 x3 x4 x5 : Nat) : (b < s + x0 + x1 + x2 + x3 + x4 + x5) = True := eq_true (by omega)
@[go_sem low] theorem lt_base7 {b s : Nat} (h : b < s) (x0 x1 x2 x3 x4 x5 x6 : Nat) : (b < s + x0 + x1 + x2 + x3 + x4 + x5 + x6) = True := eq_true (by omega)
@[go_sem low] theorem lt_base8 {b s : Nat} (h : b < s) (x0 x1 x2 x3 x4 x5 x6 x7 : Nat) : (b < s + x0 + x1 + x2 + x3 + x4 + x5 + x6 + x7) = True := eq_true (by omega)
@[go_sem low] theorem lt_base9 {b s : Nat} (h : b < s) (x0 x1 x2 x3 x4 x5 x6 x7 x8 : Nat) : (b < s + x0 + x1 + x2 + x3 + x4 + x5 + x6 + x7 + x8) = True := eq_true (by omega)
@[go_sem low] theorem lt_base10 {b s : Nat} (h : b < s) (x0 x1 x2 x3 x4 x5 x6 x7 x8 x9 : Nat) : (b < s + x0 + x1 + x2 + x3 + x4 + x5 + x6 + x7 + x8 + x9) = True := eq_true (by omega)
@[go_sem low] theorem lt_base11 {b s : Nat} (h : b < s) (x0 x1 x2 x3 x4 x5 x6 x7 x8 x9 x10 : Nat) : (b < s + x0 + x1 + x2 + x3 + x4 + x5 + x6 + x7 + x8 + x9 + x10) = True := eq_true (by omega)
@[go_sem low] theorem lt_base12 {b s : Nat} (h : b < s) (x0 x1 x2 x3 x4 x5 x6 x7 x8 x9 x10 x11 : Nat) : (b < s + x0 + x1 + x2 + x3 + x4 + x5 + x6 + x7 + x8 + x9 + x10 + x11) = True := eq_true (by omega)
@[go_sem low] theorem lt_base13 {b s : Nat} (h : b < s) (x0 x1 x2 x3 x4 x5 x6 x7 x8 x9 x10 x11 x12 : Nat) : (b < s + x0 + x1 + x2 + x3 + x4 + x5 + x6 + x7 + x8 + x9 + x10 + x11 + x12) = True := eq_true (by omega)
theorem below_ext {B : Nat} {a w : World} (h : Below B a w) (hB : B ≤ w.heap.size) (g : Gr) : Below B a (ext w g) :=
  h.trans ⟨rfl, rfl, rfl, by simp, fun k hk => heap_ext _ _ _ (by omega)⟩
theorem ext_of {w w' : World} (h : Below w.heap.size w w') : ∃ g, w' = ext w g := by
  refine ⟨⟨w'.heap.extract w.heap.size w'.heap.size, w'.drawn⟩, ?_⟩
  obtain ⟨h1, h2, h3, h4, h5⟩ := h
  cases w'; cases w
  simp only [ext] at *
  subst h1 h2 h3
  congr 1
  apply Array.ext_getElem?
  intro k
  rw [Array.getElem?_append]
  split
  · exact h5 k ‹_›
  · rw [Array.getElem?_extract]
    simp
    split
    · congr 1; omega
    · rw [Array.getElem?_eq_none_iff]; omega
theorem drew_is_ext (w : World) : w.drew = ext w ⟨#[], w.drawn + 1⟩ := by unfold ext; simp only [Array.append_empty]; rfl
theorem same_is_ext (w : World) : w = ext w ⟨#[], w.drawn⟩ := by unfold ext; simp only [Array.append_empty]
theorem wp_region_ext {P : Program} {id : Nat} {Q : Exit → Act → World → Prop} {a : Act} {w : World} {l : List Oper} (hm : P.follows .mixedOrders = true) (hB : Region.lexB .any l.toArray = true)
    (h : wpQuiet P l.toArray (fun w' => ∃ g, w' = ext w g) (fun a' => ∀ w', (∃ g, w' = ext w g) → Q .normal a' w') l a) : (Code.region id l.toArray true).wp P Q a w :=
  wp_region_quiet (C := fun w' => ∃ g, w' = ext w g) hm hB ⟨_, drew_is_ext w⟩ (by simpa using h)
theorem call_ext {P : Program} {f : FuncId} {args : Array Value} {w : World} {g : Gr} {v : Value}
    (h : Calls P f args (ext w g) fun e w' => e = .returned v ∧ Below (ext w g).heap.size (ext w g) w') : Calls P f args (ext w g) fun e w'' => e = .returned v ∧ ∃ g', w'' = ext w g' :=
  h.mono fun _ _ ⟨he, hb⟩ => by obtain ⟨g', rfl⟩ := ext_of hb; exact ⟨he, _, ext_ext w g g'⟩
theorem Gr.add_assoc (a b c : Gr) : (a.add b).add c = a.add (b.add c) := by simp [Gr.add, Array.append_assoc]
theorem call_ext2 {P : Program} {f : FuncId} {args : Array Value} {w : World} {A g : Gr} {v : Value}
    (h : Calls P f args (ext w (A.add g)) fun e w' => e = .returned v ∧ Below (ext w (A.add g)).heap.size (ext w (A.add g)) w') : Calls P f args (ext w (A.add g)) fun e w'' => e = .returned v ∧ ∃ g', w'' = ext w (A.add g') :=
  h.mono fun _ _ ⟨he, hb⟩ => by obtain ⟨g', rfl⟩ := ext_of hb; exact ⟨he, g.add g', by rw [ext_ext, Gr.add_assoc]⟩
theorem call_same2 {P : Program} {f : FuncId} {args : Array Value} {w : World} {A g : Gr} {v : Value}
    (h : Calls P f args (ext w (A.add g)) fun e w' => e = .returned v ∧ ext w (A.add g) = w') : Calls P f args (ext w (A.add g)) fun e w'' => e = .returned v ∧ ∃ g', w'' = ext w (A.add g') :=
  h.mono fun _ _ ⟨he, hb⟩ => ⟨he, g, hb.symm⟩
theorem call_same {P : Program} {f : FuncId} {args : Array Value} {w : World} {g : Gr} {v : Value}
    (h : Calls P f args (ext w g) fun e w' => e = .returned v ∧ ext w g = w') : Calls P f args (ext w g) fun e w'' => e = .returned v ∧ ∃ g', w'' = ext w g' :=
  h.mono fun _ _ ⟨he, hb⟩ => ⟨he, g, hb.symm⟩
theorem ret_bool {a b : Bool} (h : a = b) : Ending.returned (.bool a) = .returned (.bool b) := by rw [h]
theorem ret_iff {a : Bool} {p : Prop} [Decidable p] (h : a = true ↔ p) : Ending.returned (.bool a) = .returned (.bool (decide p)) := by
  rw [show a = decide p from by rw [Bool.eq_iff_iff]; simpa using h]
theorem ret_int {k : IntKind} {a b : Int} (h : a = b) : Ending.returned (.int k a) = .returned (.int k b) := by rw [h]
end Go.Proofs.Ytbnihoioblmgkaa
end

section
/- Opening arguments of any flat make: own lemmas on the readings of structs, arrays and slices. -/
namespace Go.Proofs.Ytbnihoioblmgkaa
open Go.ChangeShapes Go.WideShapes Go.ChangeAt Go.RowKit Go.Deep
def IsSlice (w : World) (C : Nat) (E : List Value → Prop) (v : Value) : Prop :=
  v = .slice none 0 0 ∨ ∃ (a : Addr) (len cap : Nat), v = .slice (some a) len cap ∧ len ≤ cap ∧ cap ≤ maxLen ∧
    ∀ i, i < len → ∃ cs : List Value, cs.length = C ∧ E cs ∧ a.spot = none ∧ a.block < w.heap.size ∧ ∀ j, j < C → w.cell? ⟨a.block, a.off + (i * C + j), none⟩ = some (cs.getD j undef)
section
variable {H : Type} {enc : TypeId × Value → H} {P : Program} {w : World} {base : Nat} {spare : Nat → Bool} {held : Bool}
theorem okWide_array {r : Reach} {b0 : Nat} {t : TypeId} {v : Value} {n : Nat} {e : TypeId} (ht : P.underlying t = some (.array n e)) (h : Value.okWide P w r b0 t v) : ∃ cs, v = .agg cs ∧ cs.size = P.cellsOf t := by
  simp only [Value.okWide, ht] at h
  obtain ⟨cs, h1, h2, _⟩ := h
  exact ⟨cs, h1, h2⟩
theorem struct_fields {t : TypeId} {fs : Array Field} {fuel : Nat} {cs : List Value} {x : DataW H × List MemPlace} (ht : P.underlying t = some (.struct fs)) (h : DataW.trod enc P w base spare held fuel t cs = some x) :
    cs.length = P.cellsOf t ∧ ∃ n, ∀ (i : Nat) (f : Field), fs[i]? = some f → ∃ y, DataW.trod enc P w base spare held n f.type ((cs.drop f.offset).take (P.cellsOf f.type)) = some y := by
  obtain ⟨xs, n, _, _, hl, hx, hg⟩ := DataW.trod_struct ht h
  refine ⟨hl, n, fun i f hf => ?_⟩
  have hi : i < xs.length := by rw [hx]; exact (Array.getElem?_eq_some_iff.1 hf).1
  exact ⟨xs[i], (hg i f hf).trans (List.getElem?_eq_getElem hi)⟩
theorem array_elems {t e : TypeId} {m fuel : Nat} {cs : List Value} {x : DataW H × List MemPlace} (ht : P.underlying t = some (.array m e)) (h : DataW.trod enc P w base spare held fuel t cs = some x) :
    cs.length = P.cellsOf t ∧ ∃ n, ∀ (i : Nat), i < m → ∃ y, DataW.trod enc P w base spare held n e ((cs.drop (i * P.cellsOf e)).take (P.cellsOf e)) = some y := by
  obtain ⟨xs, n, _, _, hl, hx, hg⟩ := DataW.trod_array ht h
  refine ⟨hl, n, fun i hi => ?_⟩
  have hi' : i < xs.length := by omega
  exact ⟨xs[i], (hg i hi).trans (List.getElem?_eq_getElem hi')⟩
theorem trod_float {t : TypeId} {k : FloatKind} {fuel : Nat} {cs : List Value} {x : DataW H × List MemPlace} (ht : P.underlying t = some (.float k)) (h : DataW.trod enc P w base spare held fuel t cs = some x) : ∃ n, cs = [.float k n] ∧ (Lit.float k n).wf = true := by
  cases fuel with
  | zero => simp [DataW.trod] at h
  | succ n =>
    unfold DataW.trod at h
    rw [ht] at h
    split at h <;> simp_all
theorem slice_is {t e : TypeId} {C fuel : Nat} {cs : List Value} {x : DataW H × List MemPlace} (E : List Value → Prop) (ht : P.underlying t = some (.slice e)) (hC : P.cellsOf e = C) (hC0 : 0 < C)
    (hE : ∀ (n : Nat) (cs' : List Value) y, DataW.trod enc P w base spare held n e cs' = some y → E cs') (h : DataW.trod enc P w base spare held fuel t cs = some x) : ∃ v, cs = [v] ∧ IsSlice w C E v := by
  rcases open_slice ht h with ⟨rfl, _⟩ | ⟨a, len, cap, m, n, D, Pl, rfl, _, hl, hm, hmm, _, hg⟩
  · exact ⟨_, rfl, .inl rfl⟩
  · refine ⟨_, rfl, .inr ⟨a, len, cap, rfl, hl, hm, fun i hi => ?_⟩⟩
    obtain ⟨cs', h1, h2⟩ := hg i (by rw [hmm]; split <;> omega)
    rw [hC] at h1
    obtain ⟨_, hlen, hcell⟩ := World.cells?_some h1
    obtain ⟨cs0, h10, _⟩ := hg 0 (by rw [hmm]; split <;> omega)
    rw [hC] at h10
    obtain ⟨_, hlen0, hcell0⟩ := World.cells?_some h10
    have hc0 := hcell0 0 hC0
    rw [List.getElem?_eq_getElem (by omega)] at hc0
    have ha : (a.add (0 * C)).add 0 = a := by simp [Addr.add]
    rw [ha] at hc0
    have hs : a.spot = none := World.cell?_spot hc0
    have hb : a.block < w.heap.size := World.block_lt_of_cell? w a hc0
    refine ⟨cs', hlen, hE n cs' _ h2, hs, hb, fun j hj => ?_⟩
    have hcj := hcell j hj
    rw [List.getElem?_eq_getElem (by omega)] at hcj
    rw [List.getD_eq_getElem?_getD, List.getElem?_eq_getElem (by omega), Option.getD_some]
    rw [← hcj]
    congr 1
    obtain ⟨b, o, s⟩ := a
    simp only at hs
    subst hs
    unfold Addr.add
    by_cases h0 : i * C = 0 <;> by_cases hj0 : j = 0 <;> simp [h0, hj0, Nat.add_assoc]
end
end Go.Proofs.Ytbnihoioblmgkaa
end

section
/- Written by own program mkopen.py: the parameter types of this seat, opened to their cells. -/
namespace Go.Proofs.Ytbnihoioblmgkaa
open Go.ChangeShapes Go.WideShapes Go.ChangeAt Go.RowKit Go.Deep
set_option linter.unusedSimpArgs false
set_option linter.unusedVariables false
set_option maxRecDepth 100000
theorem cells_T5 : Try.prog.cellsOf 5 = 1 := by kernel_rfl
def E_T5 (cs : List Value) : Prop := ∃ (a0 : Int), cs = [.int .u8 a0] ∧ (Lit.int .u8 a0).wf = true
theorem open_T5 {H : Type} {enc : TypeId × Value → H} {w : World} {base : Nat} {spare : Nat → Bool} {held : Bool} {fuel : Nat} {cs : List Value} {x : DataW H × List MemPlace} (h : DataW.trod enc Try.prog w base spare held fuel 5 cs = some x) : E_T5 cs := by
  obtain ⟨n, rfl, _, hw⟩ := DataW.trod_int Try.underlying5 h
  exact ⟨n, rfl, hw⟩
theorem cells_T3 : Try.prog.cellsOf 3 = 1 := by kernel_rfl
def E_T3 (cs : List Value) : Prop := ∃ (a0 : Int), cs = [.int .i64 a0] ∧ (Lit.int .i64 a0).wf = true
theorem open_T3 {H : Type} {enc : TypeId × Value → H} {w : World} {base : Nat} {spare : Nat → Bool} {held : Bool} {fuel : Nat} {cs : List Value} {x : DataW H × List MemPlace} (h : DataW.trod enc Try.prog w base spare held fuel 3 cs = some x) : E_T3 cs := by
  obtain ⟨n, rfl, _, hw⟩ := DataW.trod_int Try.underlying3 h
  exact ⟨n, rfl, hw⟩
theorem cells_T22 : Try.prog.cellsOf 22 = 1 := by kernel_rfl
def E_T22 (cs : List Value) : Prop := ∃ (a0 : Nat), cs = [.float .f64 a0] ∧ (Lit.float .f64 a0).wf = true
theorem open_T22 {H : Type} {enc : TypeId × Value → H} {w : World} {base : Nat} {spare : Nat → Bool} {held : Bool} {fuel : Nat} {cs : List Value} {x : DataW H × List MemPlace} (h : DataW.trod enc Try.prog w base spare held fuel 22 cs = some x) : E_T22 cs := by
  exact trod_float Try.underlying22 h
theorem cells_T104 : Try.prog.cellsOf 104 = 9 := by kernel_rfl
def E_T104 (cs : List Value) : Prop := ∃ (a0 : Int) (a1 : Int) (a2 : Int) (a3 : Int) (a4 : Int) (a5 : Int) (a6 : Int) (a7 : Int) (a8 : Int), cs = [.int .i64 a0, .int .i64 a1, .int .i64 a2, .int .i64 a3, .int .i64 a4, .int .i64 a5, .int .i64 a6, .int .i64 a7, .int .i64 a8] ∧ (Lit.int .i64 a0).wf = true ∧ (Lit.int .i64 a1).wf = true ∧ (Lit.int .i64 a2).wf = true ∧ (Lit.int .i64 a3).wf = true ∧ (Lit.int .i64 a4).wf = true ∧ (Lit.int .i64 a5).wf = true ∧ (Lit.int .i64 a6).wf = true ∧ (Lit.int .i64 a7).wf = true ∧ (Lit.int .i64 a8).wf = true
theorem open_T104 {H : Type} {enc : TypeId × Value → H} {w : World} {base : Nat} {spare : Nat → Bool} {held : Bool} {fuel : Nat} {cs : List Value} {x : DataW H × List MemPlace} (h : DataW.trod enc Try.prog w base spare held fuel 104 cs = some x) : E_T104 cs := by
  obtain ⟨hl, n, hg⟩ := struct_fields Try.underlying104 h
  rw [cells_T104] at hl
  match cs, hl with
  | [c0, c1, c2, c3, c4, c5, c6, c7, c8], _ =>
    obtain ⟨y0, g0⟩ := hg 0 _ rfl
    simp only [List.getElem_toArray, List.getElem_cons_zero, List.getElem_cons_succ, cells_T3, Nat.zero_mul, Nat.one_mul, Nat.reduceMul, List.drop_zero, List.drop_succ_cons, List.take_succ_cons, List.take_zero] at g0
    obtain ⟨a0, q0, w0⟩ := open_T3 g0
    simp only [List.cons.injEq, and_true] at q0
    subst q0
    obtain ⟨y1, g1⟩ := hg 1 _ rfl
    simp only [List.getElem_toArray, List.getElem_cons_zero, List.getElem_cons_succ, cells_T3, Nat.zero_mul, Nat.one_mul, Nat.reduceMul, List.drop_zero, List.drop_succ_cons, List.take_succ_cons, List.take_zero] at g1
    obtain ⟨a1, q1, w1⟩ := open_T3 g1
    simp only [List.cons.injEq, and_true] at q1
    subst q1
    obtain ⟨y2, g2⟩ := hg 2 _ rfl
    simp only [List.getElem_toArray, List.getElem_cons_zero, List.getElem_cons_succ, cells_T3, Nat.zero_mul, Nat.one_mul, Nat.reduceMul, List.drop_zero, List.drop_succ_cons, List.take_succ_cons, List.take_zero] at g2
    obtain ⟨a2, q2, w2⟩ := open_T3 g2
    simp only [List.cons.injEq, and_true] at q2
    subst q2
    obtain ⟨y3, g3⟩ := hg 3 _ rfl
    simp only [List.getElem_toArray, List.getElem_cons_zero, List.getElem_cons_succ, cells_T3, Nat.zero_mul, Nat.one_mul, Nat.reduceMul, List.drop_zero, List.drop_succ_cons, List.take_succ_cons, List.take_zero] at g3
    obtain ⟨a3, q3, w3⟩ := open_T3 g3
    simp only [List.cons.injEq, and_true] at q3
    subst q3
    obtain ⟨y4, g4⟩ := hg 4 _ rfl
    simp only [List.getElem_toArray, List.getElem_cons_zero, List.getElem_cons_succ, cells_T3, Nat.zero_mul, Nat.one_mul, Nat.reduceMul, List.drop_zero, List.drop_succ_cons, List.take_succ_cons, List.take_zero] at g4
    obtain ⟨a4, q4, w4⟩ := open_T3 g4
    simp only [List.cons.injEq, and_true] at q4
    subst q4
    obtain ⟨y5, g5⟩ := hg 5 _ rfl
    simp only [List.getElem_toArray, List.getElem_cons_zero, List.getElem_cons_succ, cells_T3, Nat.zero_mul, Nat.one_mul, Nat.reduceMul, List.drop_zero, List.drop_succ_cons, List.take_succ_cons, List.take_zero] at g5
    obtain ⟨a5, q5, w5⟩ := open_T3 g5
    simp only [List.cons.injEq, and_true] at q5
    subst q5
    obtain ⟨y6, g6⟩ := hg 6 _ rfl
    simp only [List.getElem_toArray, List.getElem_cons_zero, List.getElem_cons_succ, cells_T3, Nat.zero_mul, Nat.one_mul, Nat.reduceMul, List.drop_zero, List.drop_succ_cons, List.take_succ_cons, List.take_zero] at g6
    obtain ⟨a6, q6, w6⟩ := open_T3 g6
    simp only [List.cons.injEq, and_true] at q6
    subst q6
    obtain ⟨y7, g7⟩ := hg 7 _ rfl
    simp only [List.getElem_toArray, List.getElem_cons_zero, List.getElem_cons_succ, cells_T3, Nat.zero_mul, Nat.one_mul, Nat.reduceMul, List.drop_zero, List.drop_succ_cons, List.take_succ_cons, List.take_zero] at g7
    obtain ⟨a7, q7, w7⟩ := open_T3 g7
    simp only [List.cons.injEq, and_true] at q7
    subst q7
    obtain ⟨y8, g8⟩ := hg 8 _ rfl
    simp only [List.getElem_toArray, List.getElem_cons_zero, List.getElem_cons_succ, cells_T3, Nat.zero_mul, Nat.one_mul, Nat.reduceMul, List.drop_zero, List.drop_succ_cons, List.take_succ_cons, List.take_zero] at g8
    obtain ⟨a8, q8, w8⟩ := open_T3 g8
    simp only [List.cons.injEq, and_true] at q8
    subst q8
    exact ⟨a0, a1, a2, a3, a4, a5, a6, a7, a8, rfl, w0, w1, w2, w3, w4, w5, w6, w7, w8⟩
theorem cells_T23 : Try.prog.cellsOf 23 = 1 := by kernel_rfl
theorem open_T23 {H : Type} {enc : TypeId × Value → H} {w : World} {base : Nat} {spare : Nat → Bool} {held : Bool} {fuel : Nat} {cs : List Value} {x : DataW H × List MemPlace} (h : DataW.trod enc Try.prog w base spare held fuel 23 cs = some x) : ∃ (a0 : Value), cs = [a0] ∧ IsSlice w 9 E_T104 a0 := by
  exact slice_is E_T104 Try.underlying23 cells_T104 (by decide) (fun _ _ _ h => open_T104 h) h
theorem cells_T25 : Try.prog.cellsOf 25 = 8 := by kernel_rfl
theorem open_T25 {H : Type} {enc : TypeId × Value → H} {w : World} {base : Nat} {spare : Nat → Bool} {held : Bool} {fuel : Nat} {cs : List Value} {x : DataW H × List MemPlace} (h : DataW.trod enc Try.prog w base spare held fuel 25 cs = some x) : ∃ (a0 : Int) (a1 : Int) (a2 : Int) (a3 : Int) (a4 : Nat) (a5 : Nat) (a6 : Nat) (a7 : Value), cs = [.int .i64 a0, .int .i64 a1, .int .i64 a2, .int .i64 a3, .float .f64 a4, .float .f64 a5, .float .f64 a6, a7] ∧ (Lit.int .i64 a0).wf = true ∧ (Lit.int .i64 a1).wf = true ∧ (Lit.int .i64 a2).wf = true ∧ (Lit.int .i64 a3).wf = true ∧ (Lit.float .f64 a4).wf = true ∧ (Lit.float .f64 a5).wf = true ∧ (Lit.float .f64 a6).wf = true ∧ IsSlice w 9 E_T104 a7 := by
  obtain ⟨hl, n, hg⟩ := struct_fields Try.underlying25 h
  rw [cells_T25] at hl
  match cs, hl with
  | [c0, c1, c2, c3, c4, c5, c6, c7], _ =>
    obtain ⟨y0, g0⟩ := hg 0 _ rfl
    simp only [List.getElem_toArray, List.getElem_cons_zero, List.getElem_cons_succ, cells_T3, Nat.zero_mul, Nat.one_mul, Nat.reduceMul, List.drop_zero, List.drop_succ_cons, List.take_succ_cons, List.take_zero] at g0
    obtain ⟨a0, q0, w0⟩ := open_T3 g0
    simp only [List.cons.injEq, and_true] at q0
    subst q0
    obtain ⟨y1, g1⟩ := hg 1 _ rfl
    simp only [List.getElem_toArray, List.getElem_cons_zero, List.getElem_cons_succ, cells_T3, Nat.zero_mul, Nat.one_mul, Nat.reduceMul, List.drop_zero, List.drop_succ_cons, List.take_succ_cons, List.take_zero] at g1
    obtain ⟨a1, q1, w1⟩ := open_T3 g1
    simp only [List.cons.injEq, and_true] at q1
    subst q1
    obtain ⟨y2, g2⟩ := hg 2 _ rfl
    simp only [List.getElem_toArray, List.getElem_cons_zero, List.getElem_cons_succ, cells_T3, Nat.zero_mul, Nat.one_mul, Nat.reduceMul, List.drop_zero, List.drop_succ_cons, List.take_succ_cons, List.take_zero] at g2
    obtain ⟨a2, q2, w2⟩ := open_T3 g2
    simp only [List.cons.injEq, and_true] at q2
    subst q2
    obtain ⟨y3, g3⟩ := hg 3 _ rfl
    simp only [List.getElem_toArray, List.getElem_cons_zero, List.getElem_cons_succ, cells_T3, Nat.zero_mul, Nat.one_mul, Nat.reduceMul, List.drop_zero, List.drop_succ_cons, List.take_succ_cons, List.take_zero] at g3
    obtain ⟨a3, q3, w3⟩ := open_T3 g3
    simp only [List.cons.injEq, and_true] at q3
    subst q3
    obtain ⟨y4, g4⟩ := hg 4 _ rfl
    simp only [List.getElem_toArray, List.getElem_cons_zero, List.getElem_cons_succ, cells_T22, Nat.zero_mul, Nat.one_mul, Nat.reduceMul, List.drop_zero, List.drop_succ_cons, List.take_succ_cons, List.take_zero] at g4
    obtain ⟨a4, q4, w4⟩ := open_T22 g4
    simp only [List.cons.injEq, and_true] at q4
    subst q4
    obtain ⟨y5, g5⟩ := hg 5 _ rfl
    simp only [List.getElem_toArray, List.getElem_cons_zero, List.getElem_cons_succ, cells_T22, Nat.zero_mul, Nat.one_mul, Nat.reduceMul, List.drop_zero, List.drop_succ_cons, List.take_succ_cons, List.take_zero] at g5
    obtain ⟨a5, q5, w5⟩ := open_T22 g5
    simp only [List.cons.injEq, and_true] at q5
    subst q5
    obtain ⟨y6, g6⟩ := hg 6 _ rfl
    simp only [List.getElem_toArray, List.getElem_cons_zero, List.getElem_cons_succ, cells_T22, Nat.zero_mul, Nat.one_mul, Nat.reduceMul, List.drop_zero, List.drop_succ_cons, List.take_succ_cons, List.take_zero] at g6
    obtain ⟨a6, q6, w6⟩ := open_T22 g6
    simp only [List.cons.injEq, and_true] at q6
    subst q6
    obtain ⟨y7, g7⟩ := hg 7 _ rfl
    simp only [List.getElem_toArray, List.getElem_cons_zero, List.getElem_cons_succ, cells_T23, Nat.zero_mul, Nat.one_mul, Nat.reduceMul, List.drop_zero, List.drop_succ_cons, List.take_succ_cons, List.take_zero] at g7
    obtain ⟨a7, q7, w7⟩ := open_T23 g7
    simp only [List.cons.injEq, and_true] at q7
    subst q7
    exact ⟨a0, a1, a2, a3, a4, a5, a6, c7, rfl, w0, w1, w2, w3, w4, w5, w6, w7⟩
theorem cells_T26 : Try.prog.cellsOf 26 = 1 := by kernel_rfl
def E_T26 (cs : List Value) : Prop := ∃ (a0 : Int), cs = [.int .u32 a0] ∧ (Lit.int .u32 a0).wf = true
theorem open_T26 {H : Type} {enc : TypeId × Value → H} {w : World} {base : Nat} {spare : Nat → Bool} {held : Bool} {fuel : Nat} {cs : List Value} {x : DataW H × List MemPlace} (h : DataW.trod enc Try.prog w base spare held fuel 26 cs = some x) : E_T26 cs := by
  obtain ⟨n, rfl, _, hw⟩ := DataW.trod_int Try.underlying26 h
  exact ⟨n, rfl, hw⟩
theorem cells_T28 : Try.prog.cellsOf 28 = 2 := by kernel_rfl
def E_T28 (cs : List Value) : Prop := ∃ (a0 : Int) (a1 : Int), cs = [.int .u32 a0, .int .u32 a1] ∧ (Lit.int .u32 a0).wf = true ∧ (Lit.int .u32 a1).wf = true
theorem open_T28 {H : Type} {enc : TypeId × Value → H} {w : World} {base : Nat} {spare : Nat → Bool} {held : Bool} {fuel : Nat} {cs : List Value} {x : DataW H × List MemPlace} (h : DataW.trod enc Try.prog w base spare held fuel 28 cs = some x) : E_T28 cs := by
  obtain ⟨hl, n, hg⟩ := struct_fields Try.underlying28 h
  rw [cells_T28] at hl
  match cs, hl with
  | [c0, c1], _ =>
    obtain ⟨y0, g0⟩ := hg 0 _ rfl
    simp only [List.getElem_toArray, List.getElem_cons_zero, List.getElem_cons_succ, cells_T26, Nat.zero_mul, Nat.one_mul, Nat.reduceMul, List.drop_zero, List.drop_succ_cons, List.take_succ_cons, List.take_zero] at g0
    obtain ⟨a0, q0, w0⟩ := open_T26 g0
    simp only [List.cons.injEq, and_true] at q0
    subst q0
    obtain ⟨y1, g1⟩ := hg 1 _ rfl
    simp only [List.getElem_toArray, List.getElem_cons_zero, List.getElem_cons_succ, cells_T26, Nat.zero_mul, Nat.one_mul, Nat.reduceMul, List.drop_zero, List.drop_succ_cons, List.take_succ_cons, List.take_zero] at g1
    obtain ⟨a1, q1, w1⟩ := open_T26 g1
    simp only [List.cons.injEq, and_true] at q1
    subst q1
    exact ⟨a0, a1, rfl, w0, w1⟩
theorem cells_T30 : Try.prog.cellsOf 30 = 2 := by kernel_rfl
def E_T30 (cs : List Value) : Prop := ∃ (a0 : Int) (a1 : Int), cs = [.int .i64 a0, .int .i64 a1] ∧ (Lit.int .i64 a0).wf = true ∧ (Lit.int .i64 a1).wf = true
theorem open_T30 {H : Type} {enc : TypeId × Value → H} {w : World} {base : Nat} {spare : Nat → Bool} {held : Bool} {fuel : Nat} {cs : List Value} {x : DataW H × List MemPlace} (h : DataW.trod enc Try.prog w base spare held fuel 30 cs = some x) : E_T30 cs := by
  obtain ⟨hl, n, hg⟩ := struct_fields Try.underlying30 h
  rw [cells_T30] at hl
  match cs, hl with
  | [c0, c1], _ =>
    obtain ⟨y0, g0⟩ := hg 0 _ rfl
    simp only [List.getElem_toArray, List.getElem_cons_zero, List.getElem_cons_succ, cells_T3, Nat.zero_mul, Nat.one_mul, Nat.reduceMul, List.drop_zero, List.drop_succ_cons, List.take_succ_cons, List.take_zero] at g0
    obtain ⟨a0, q0, w0⟩ := open_T3 g0
    simp only [List.cons.injEq, and_true] at q0
    subst q0
    obtain ⟨y1, g1⟩ := hg 1 _ rfl
    simp only [List.getElem_toArray, List.getElem_cons_zero, List.getElem_cons_succ, cells_T3, Nat.zero_mul, Nat.one_mul, Nat.reduceMul, List.drop_zero, List.drop_succ_cons, List.take_succ_cons, List.take_zero] at g1
    obtain ⟨a1, q1, w1⟩ := open_T3 g1
    simp only [List.cons.injEq, and_true] at q1
    subst q1
    exact ⟨a0, a1, rfl, w0, w1⟩
theorem cells_T4 : Try.prog.cellsOf 4 = 1 := by kernel_rfl
def E_T4 (cs : List Value) : Prop := ∃ (a0 : Bool), cs = [.bool a0]
theorem open_T4 {H : Type} {enc : TypeId × Value → H} {w : World} {base : Nat} {spare : Nat → Bool} {held : Bool} {fuel : Nat} {cs : List Value} {x : DataW H × List MemPlace} (h : DataW.trod enc Try.prog w base spare held fuel 4 cs = some x) : E_T4 cs := by
  obtain ⟨b, rfl, _⟩ := DataW.trod_bool Try.underlying4 h
  exact ⟨b, rfl⟩
theorem cells_T67 : Try.prog.cellsOf 67 = 5 := by kernel_rfl
def E_T67 (cs : List Value) : Prop := ∃ (a0 : Int) (a1 : Bool) (a2 : Bool) (a3 : Bool) (a4 : Bool), cs = [.int .u32 a0, .bool a1, .bool a2, .bool a3, .bool a4] ∧ (Lit.int .u32 a0).wf = true
theorem open_T67 {H : Type} {enc : TypeId × Value → H} {w : World} {base : Nat} {spare : Nat → Bool} {held : Bool} {fuel : Nat} {cs : List Value} {x : DataW H × List MemPlace} (h : DataW.trod enc Try.prog w base spare held fuel 67 cs = some x) : E_T67 cs := by
  obtain ⟨hl, n, hg⟩ := struct_fields Try.underlying67 h
  rw [cells_T67] at hl
  match cs, hl with
  | [c0, c1, c2, c3, c4], _ =>
    obtain ⟨y0, g0⟩ := hg 0 _ rfl
    simp only [List.getElem_toArray, List.getElem_cons_zero, List.getElem_cons_succ, cells_T26, Nat.zero_mul, Nat.one_mul, Nat.reduceMul, List.drop_zero, List.drop_succ_cons, List.take_succ_cons, List.take_zero] at g0
    obtain ⟨a0, q0, w0⟩ := open_T26 g0
    simp only [List.cons.injEq, and_true] at q0
    subst q0
    obtain ⟨y1, g1⟩ := hg 1 _ rfl
    simp only [List.getElem_toArray, List.getElem_cons_zero, List.getElem_cons_succ, cells_T4, Nat.zero_mul, Nat.one_mul, Nat.reduceMul, List.drop_zero, List.drop_succ_cons, List.take_succ_cons, List.take_zero] at g1
    obtain ⟨a1, q1⟩ := open_T4 g1
    simp only [List.cons.injEq, and_true] at q1
    subst q1
    obtain ⟨y2, g2⟩ := hg 2 _ rfl
    simp only [List.getElem_toArray, List.getElem_cons_zero, List.getElem_cons_succ, cells_T4, Nat.zero_mul, Nat.one_mul, Nat.reduceMul, List.drop_zero, List.drop_succ_cons, List.take_succ_cons, List.take_zero] at g2
    obtain ⟨a2, q2⟩ := open_T4 g2
    simp only [List.cons.injEq, and_true] at q2
    subst q2
    obtain ⟨y3, g3⟩ := hg 3 _ rfl
    simp only [List.getElem_toArray, List.getElem_cons_zero, List.getElem_cons_succ, cells_T4, Nat.zero_mul, Nat.one_mul, Nat.reduceMul, List.drop_zero, List.drop_succ_cons, List.take_succ_cons, List.take_zero] at g3
    obtain ⟨a3, q3⟩ := open_T4 g3
    simp only [List.cons.injEq, and_true] at q3
    subst q3
    obtain ⟨y4, g4⟩ := hg 4 _ rfl
    simp only [List.getElem_toArray, List.getElem_cons_zero, List.getElem_cons_succ, cells_T4, Nat.zero_mul, Nat.one_mul, Nat.reduceMul, List.drop_zero, List.drop_succ_cons, List.take_succ_cons, List.take_zero] at g4
    obtain ⟨a4, q4⟩ := open_T4 g4
    simp only [List.cons.injEq, and_true] at q4
    subst q4
    exact ⟨a0, a1, a2, a3, a4, rfl, w0⟩
theorem cells_T69 : Try.prog.cellsOf 69 = 4 := by kernel_rfl
def E_T69 (cs : List Value) : Prop := ∃ (a0 : Int) (a1 : Bool) (a2 : Int) (a3 : Bool), cs = [.int .i64 a0, .bool a1, .int .i64 a2, .bool a3] ∧ (Lit.int .i64 a0).wf = true ∧ (Lit.int .i64 a2).wf = true
theorem open_T69 {H : Type} {enc : TypeId × Value → H} {w : World} {base : Nat} {spare : Nat → Bool} {held : Bool} {fuel : Nat} {cs : List Value} {x : DataW H × List MemPlace} (h : DataW.trod enc Try.prog w base spare held fuel 69 cs = some x) : E_T69 cs := by
  obtain ⟨hl, n, hg⟩ := struct_fields Try.underlying69 h
  rw [cells_T69] at hl
  match cs, hl with
  | [c0, c1, c2, c3], _ =>
    obtain ⟨y0, g0⟩ := hg 0 _ rfl
    simp only [List.getElem_toArray, List.getElem_cons_zero, List.getElem_cons_succ, cells_T3, Nat.zero_mul, Nat.one_mul, Nat.reduceMul, List.drop_zero, List.drop_succ_cons, List.take_succ_cons, List.take_zero] at g0
    obtain ⟨a0, q0, w0⟩ := open_T3 g0
    simp only [List.cons.injEq, and_true] at q0
    subst q0
    obtain ⟨y1, g1⟩ := hg 1 _ rfl
    simp only [List.getElem_toArray, List.getElem_cons_zero, List.getElem_cons_succ, cells_T4, Nat.zero_mul, Nat.one_mul, Nat.reduceMul, List.drop_zero, List.drop_succ_cons, List.take_succ_cons, List.take_zero] at g1
    obtain ⟨a1, q1⟩ := open_T4 g1
    simp only [List.cons.injEq, and_true] at q1
    subst q1
    obtain ⟨y2, g2⟩ := hg 2 _ rfl
    simp only [List.getElem_toArray, List.getElem_cons_zero, List.getElem_cons_succ, cells_T3, Nat.zero_mul, Nat.one_mul, Nat.reduceMul, List.drop_zero, List.drop_succ_cons, List.take_succ_cons, List.take_zero] at g2
    obtain ⟨a2, q2, w2⟩ := open_T3 g2
    simp only [List.cons.injEq, and_true] at q2
    subst q2
    obtain ⟨y3, g3⟩ := hg 3 _ rfl
    simp only [List.getElem_toArray, List.getElem_cons_zero, List.getElem_cons_succ, cells_T4, Nat.zero_mul, Nat.one_mul, Nat.reduceMul, List.drop_zero, List.drop_succ_cons, List.take_succ_cons, List.take_zero] at g3
    obtain ⟨a3, q3⟩ := open_T4 g3
    simp only [List.cons.injEq, and_true] at q3
    subst q3
    exact ⟨a0, a1, a2, a3, rfl, w0, w2⟩
theorem cells_T71 : Try.prog.cellsOf 71 = 11 := by kernel_rfl
def E_T71 (cs : List Value) : Prop := ∃ (a0 : Int) (a1 : Bool) (a2 : Bool) (a3 : Bool) (a4 : Bool) (a5 : Int) (a6 : Bool) (a7 : Int) (a8 : Bool) (a9 : Int) (a10 : Nat), cs = [.int .u32 a0, .bool a1, .bool a2, .bool a3, .bool a4, .int .i64 a5, .bool a6, .int .i64 a7, .bool a8, .int .u32 a9, .float .f64 a10] ∧ (Lit.int .u32 a0).wf = true ∧ (Lit.int .i64 a5).wf = true ∧ (Lit.int .i64 a7).wf = true ∧ (Lit.int .u32 a9).wf = true ∧ (Lit.float .f64 a10).wf = true
theorem open_T71 {H : Type} {enc : TypeId × Value → H} {w : World} {base : Nat} {spare : Nat → Bool} {held : Bool} {fuel : Nat} {cs : List Value} {x : DataW H × List MemPlace} (h : DataW.trod enc Try.prog w base spare held fuel 71 cs = some x) : E_T71 cs := by
  obtain ⟨hl, n, hg⟩ := struct_fields Try.underlying71 h
  rw [cells_T71] at hl
  match cs, hl with
  | [c0, c1, c2, c3, c4, c5, c6, c7, c8, c9, c10], _ =>
    obtain ⟨y0, g0⟩ := hg 0 _ rfl
    simp only [List.getElem_toArray, List.getElem_cons_zero, List.getElem_cons_succ, cells_T67, Nat.zero_mul, Nat.one_mul, Nat.reduceMul, List.drop_zero, List.drop_succ_cons, List.take_succ_cons, List.take_zero] at g0
    obtain ⟨a0, a1, a2, a3, a4, q0, w0⟩ := open_T67 g0
    simp only [List.cons.injEq, and_true] at q0
    obtain ⟨rfl, rfl, rfl, rfl, rfl⟩ := q0
    obtain ⟨y1, g1⟩ := hg 1 _ rfl
    simp only [List.getElem_toArray, List.getElem_cons_zero, List.getElem_cons_succ, cells_T69, Nat.zero_mul, Nat.one_mul, Nat.reduceMul, List.drop_zero, List.drop_succ_cons, List.take_succ_cons, List.take_zero] at g1
    obtain ⟨a5, a6, a7, a8, q1, w5, w7⟩ := open_T69 g1
    simp only [List.cons.injEq, and_true] at q1
    obtain ⟨rfl, rfl, rfl, rfl⟩ := q1
    obtain ⟨y2, g2⟩ := hg 2 _ rfl
    simp only [List.getElem_toArray, List.getElem_cons_zero, List.getElem_cons_succ, cells_T26, Nat.zero_mul, Nat.one_mul, Nat.reduceMul, List.drop_zero, List.drop_succ_cons, List.take_succ_cons, List.take_zero] at g2
    obtain ⟨a9, q2, w9⟩ := open_T26 g2
    simp only [List.cons.injEq, and_true] at q2
    subst q2
    obtain ⟨y3, g3⟩ := hg 3 _ rfl
    simp only [List.getElem_toArray, List.getElem_cons_zero, List.getElem_cons_succ, cells_T22, Nat.zero_mul, Nat.one_mul, Nat.reduceMul, List.drop_zero, List.drop_succ_cons, List.take_succ_cons, List.take_zero] at g3
    obtain ⟨a10, q3, w10⟩ := open_T22 g3
    simp only [List.cons.injEq, and_true] at q3
    subst q3
    exact ⟨a0, a1, a2, a3, a4, a5, a6, a7, a8, a9, a10, rfl, w0, w5, w7, w9, w10⟩
theorem cells_T31 : Try.prog.cellsOf 31 = 1 := by kernel_rfl
theorem open_T31 {H : Type} {enc : TypeId × Value → H} {w : World} {base : Nat} {spare : Nat → Bool} {held : Bool} {fuel : Nat} {cs : List Value} {x : DataW H × List MemPlace} (h : DataW.trod enc Try.prog w base spare held fuel 31 cs = some x) : ∃ (a0 : Value), cs = [a0] ∧ IsSlice w 11 E_T71 a0 := by
  exact slice_is E_T71 Try.underlying31 cells_T71 (by decide) (fun _ _ _ h => open_T71 h) h
theorem cells_T33 : Try.prog.cellsOf 33 = 5 := by kernel_rfl
theorem open_T33 {H : Type} {enc : TypeId × Value → H} {w : World} {base : Nat} {spare : Nat → Bool} {held : Bool} {fuel : Nat} {cs : List Value} {x : DataW H × List MemPlace} (h : DataW.trod enc Try.prog w base spare held fuel 33 cs = some x) : ∃ (a0 : Int) (a1 : Int) (a2 : Int) (a3 : Int) (a4 : Value), cs = [.int .u32 a0, .int .u32 a1, .int .i64 a2, .int .i64 a3, a4] ∧ (Lit.int .u32 a0).wf = true ∧ (Lit.int .u32 a1).wf = true ∧ (Lit.int .i64 a2).wf = true ∧ (Lit.int .i64 a3).wf = true ∧ IsSlice w 11 E_T71 a4 := by
  obtain ⟨hl, n, hg⟩ := struct_fields Try.underlying33 h
  rw [cells_T33] at hl
  match cs, hl with
  | [c0, c1, c2, c3, c4], _ =>
    obtain ⟨y0, g0⟩ := hg 0 _ rfl
    simp only [List.getElem_toArray, List.getElem_cons_zero, List.getElem_cons_succ, cells_T28, Nat.zero_mul, Nat.one_mul, Nat.reduceMul, List.drop_zero, List.drop_succ_cons, List.take_succ_cons, List.take_zero] at g0
    obtain ⟨a0, a1, q0, w0, w1⟩ := open_T28 g0
    simp only [List.cons.injEq, and_true] at q0
    obtain ⟨rfl, rfl⟩ := q0
    obtain ⟨y1, g1⟩ := hg 1 _ rfl
    simp only [List.getElem_toArray, List.getElem_cons_zero, List.getElem_cons_succ, cells_T30, Nat.zero_mul, Nat.one_mul, Nat.reduceMul, List.drop_zero, List.drop_succ_cons, List.take_succ_cons, List.take_zero] at g1
    obtain ⟨a2, a3, q1, w2, w3⟩ := open_T30 g1
    simp only [List.cons.injEq, and_true] at q1
    obtain ⟨rfl, rfl⟩ := q1
    obtain ⟨y2, g2⟩ := hg 2 _ rfl
    simp only [List.getElem_toArray, List.getElem_cons_zero, List.getElem_cons_succ, cells_T31, Nat.zero_mul, Nat.one_mul, Nat.reduceMul, List.drop_zero, List.drop_succ_cons, List.take_succ_cons, List.take_zero] at g2
    obtain ⟨a4, q2, w4⟩ := open_T31 g2
    simp only [List.cons.injEq, and_true] at q2
    subst q2
    exact ⟨a0, a1, a2, a3, c4, rfl, w0, w1, w2, w3, w4⟩
theorem cells_T44 : Try.prog.cellsOf 44 = 1 := by kernel_rfl
theorem open_T44 {H : Type} {enc : TypeId × Value → H} {w : World} {base : Nat} {spare : Nat → Bool} {held : Bool} {fuel : Nat} {cs : List Value} {x : DataW H × List MemPlace} (h : DataW.trod enc Try.prog w base spare held fuel 44 cs = some x) : ∃ (a0 : Value), cs = [a0] ∧ IsSlice w 1 E_T5 a0 := by
  exact slice_is E_T5 Try.underlying44 cells_T5 (by decide) (fun _ _ _ h => open_T5 h) h
theorem cells_T59 : Try.prog.cellsOf 59 = 1 := by kernel_rfl
def E_T59 (cs : List Value) : Prop := ∃ (a0 : Int), cs = [.int .u16 a0] ∧ (Lit.int .u16 a0).wf = true
theorem open_T59 {H : Type} {enc : TypeId × Value → H} {w : World} {base : Nat} {spare : Nat → Bool} {held : Bool} {fuel : Nat} {cs : List Value} {x : DataW H × List MemPlace} (h : DataW.trod enc Try.prog w base spare held fuel 59 cs = some x) : E_T59 cs := by
  obtain ⟨n, rfl, _, hw⟩ := DataW.trod_int Try.underlying59 h
  exact ⟨n, rfl, hw⟩
theorem cells_T60 : Try.prog.cellsOf 60 = 2 := by kernel_rfl
def E_T60 (cs : List Value) : Prop := ∃ (a0 : Int) (a1 : Int), cs = [.int .u16 a0, .int .u16 a1] ∧ (Lit.int .u16 a0).wf = true ∧ (Lit.int .u16 a1).wf = true
theorem open_T60 {H : Type} {enc : TypeId × Value → H} {w : World} {base : Nat} {spare : Nat → Bool} {held : Bool} {fuel : Nat} {cs : List Value} {x : DataW H × List MemPlace} (h : DataW.trod enc Try.prog w base spare held fuel 60 cs = some x) : E_T60 cs := by
  obtain ⟨hl, n, hg⟩ := array_elems Try.underlying60 h
  rw [cells_T60] at hl
  match cs, hl with
  | [c0, c1], _ =>
    obtain ⟨y0, g0⟩ := hg 0 (by decide)
    simp only [List.getElem_toArray, List.getElem_cons_zero, List.getElem_cons_succ, cells_T59, Nat.zero_mul, Nat.one_mul, Nat.reduceMul, List.drop_zero, List.drop_succ_cons, List.take_succ_cons, List.take_zero] at g0
    obtain ⟨a0, q0, w0⟩ := open_T59 g0
    simp only [List.cons.injEq, and_true] at q0
    subst q0
    obtain ⟨y1, g1⟩ := hg 1 (by decide)
    simp only [List.getElem_toArray, List.getElem_cons_zero, List.getElem_cons_succ, cells_T59, Nat.zero_mul, Nat.one_mul, Nat.reduceMul, List.drop_zero, List.drop_succ_cons, List.take_succ_cons, List.take_zero] at g1
    obtain ⟨a1, q1, w1⟩ := open_T59 g1
    simp only [List.cons.injEq, and_true] at q1
    subst q1
    exact ⟨a0, a1, rfl, w0, w1⟩
theorem cells_T37 : Try.prog.cellsOf 37 = 1 := by kernel_rfl
def E_T37 (cs : List Value) : Prop := ∃ (a0 : Int), cs = [.int .i64 a0] ∧ (Lit.int .i64 a0).wf = true
theorem open_T37 {H : Type} {enc : TypeId × Value → H} {w : World} {base : Nat} {spare : Nat → Bool} {held : Bool} {fuel : Nat} {cs : List Value} {x : DataW H × List MemPlace} (h : DataW.trod enc Try.prog w base spare held fuel 37 cs = some x) : E_T37 cs := by
  obtain ⟨n, rfl, _, hw⟩ := DataW.trod_int Try.underlying37 h
  exact ⟨n, rfl, hw⟩
theorem cells_T93 : Try.prog.cellsOf 93 = 3 := by kernel_rfl
def E_T93 (cs : List Value) : Prop := ∃ (a0 : Int) (a1 : Int) (a2 : Bool), cs = [.int .u32 a0, .int .u32 a1, .bool a2] ∧ (Lit.int .u32 a0).wf = true ∧ (Lit.int .u32 a1).wf = true
theorem open_T93 {H : Type} {enc : TypeId × Value → H} {w : World} {base : Nat} {spare : Nat → Bool} {held : Bool} {fuel : Nat} {cs : List Value} {x : DataW H × List MemPlace} (h : DataW.trod enc Try.prog w base spare held fuel 93 cs = some x) : E_T93 cs := by
  obtain ⟨hl, n, hg⟩ := struct_fields Try.underlying93 h
  rw [cells_T93] at hl
  match cs, hl with
  | [c0, c1, c2], _ =>
    obtain ⟨y0, g0⟩ := hg 0 _ rfl
    simp only [List.getElem_toArray, List.getElem_cons_zero, List.getElem_cons_succ, cells_T28, Nat.zero_mul, Nat.one_mul, Nat.reduceMul, List.drop_zero, List.drop_succ_cons, List.take_succ_cons, List.take_zero] at g0
    obtain ⟨a0, a1, q0, w0, w1⟩ := open_T28 g0
    simp only [List.cons.injEq, and_true] at q0
    obtain ⟨rfl, rfl⟩ := q0
    obtain ⟨y1, g1⟩ := hg 1 _ rfl
    simp only [List.getElem_toArray, List.getElem_cons_zero, List.getElem_cons_succ, cells_T4, Nat.zero_mul, Nat.one_mul, Nat.reduceMul, List.drop_zero, List.drop_succ_cons, List.take_succ_cons, List.take_zero] at g1
    obtain ⟨a2, q1⟩ := open_T4 g1
    simp only [List.cons.injEq, and_true] at q1
    subst q1
    exact ⟨a0, a1, a2, rfl, w0, w1⟩
theorem cells_T95 : Try.prog.cellsOf 95 = 9 := by kernel_rfl
def E_T95 (cs : List Value) : Prop := ∃ (a0 : Int) (a1 : Int) (a2 : Bool) (a3 : Int) (a4 : Int) (a5 : Bool) (a6 : Int) (a7 : Int) (a8 : Bool), cs = [.int .u32 a0, .int .u32 a1, .bool a2, .int .u32 a3, .int .u32 a4, .bool a5, .int .i64 a6, .int .i64 a7, .bool a8] ∧ (Lit.int .u32 a0).wf = true ∧ (Lit.int .u32 a1).wf = true ∧ (Lit.int .u32 a3).wf = true ∧ (Lit.int .u32 a4).wf = true ∧ (Lit.int .i64 a6).wf = true ∧ (Lit.int .i64 a7).wf = true
theorem open_T95 {H : Type} {enc : TypeId × Value → H} {w : World} {base : Nat} {spare : Nat → Bool} {held : Bool} {fuel : Nat} {cs : List Value} {x : DataW H × List MemPlace} (h : DataW.trod enc Try.prog w base spare held fuel 95 cs = some x) : E_T95 cs := by
  obtain ⟨hl, n, hg⟩ := struct_fields Try.underlying95 h
  rw [cells_T95] at hl
  match cs, hl with
  | [c0, c1, c2, c3, c4, c5, c6, c7, c8], _ =>
    obtain ⟨y0, g0⟩ := hg 0 _ rfl
    simp only [List.getElem_toArray, List.getElem_cons_zero, List.getElem_cons_succ, cells_T93, Nat.zero_mul, Nat.one_mul, Nat.reduceMul, List.drop_zero, List.drop_succ_cons, List.take_succ_cons, List.take_zero] at g0
    obtain ⟨a0, a1, a2, q0, w0, w1⟩ := open_T93 g0
    simp only [List.cons.injEq, and_true] at q0
    obtain ⟨rfl, rfl, rfl⟩ := q0
    obtain ⟨y1, g1⟩ := hg 1 _ rfl
    simp only [List.getElem_toArray, List.getElem_cons_zero, List.getElem_cons_succ, cells_T28, Nat.zero_mul, Nat.one_mul, Nat.reduceMul, List.drop_zero, List.drop_succ_cons, List.take_succ_cons, List.take_zero] at g1
    obtain ⟨a3, a4, q1, w3, w4⟩ := open_T28 g1
    simp only [List.cons.injEq, and_true] at q1
    obtain ⟨rfl, rfl⟩ := q1
    obtain ⟨y2, g2⟩ := hg 2 _ rfl
    simp only [List.getElem_toArray, List.getElem_cons_zero, List.getElem_cons_succ, cells_T4, Nat.zero_mul, Nat.one_mul, Nat.reduceMul, List.drop_zero, List.drop_succ_cons, List.take_succ_cons, List.take_zero] at g2
    obtain ⟨a5, q2⟩ := open_T4 g2
    simp only [List.cons.injEq, and_true] at q2
    subst q2
    obtain ⟨y3, g3⟩ := hg 3 _ rfl
    simp only [List.getElem_toArray, List.getElem_cons_zero, List.getElem_cons_succ, cells_T3, Nat.zero_mul, Nat.one_mul, Nat.reduceMul, List.drop_zero, List.drop_succ_cons, List.take_succ_cons, List.take_zero] at g3
    obtain ⟨a6, q3, w6⟩ := open_T3 g3
    simp only [List.cons.injEq, and_true] at q3
    subst q3
    obtain ⟨y4, g4⟩ := hg 4 _ rfl
    simp only [List.getElem_toArray, List.getElem_cons_zero, List.getElem_cons_succ, cells_T3, Nat.zero_mul, Nat.one_mul, Nat.reduceMul, List.drop_zero, List.drop_succ_cons, List.take_succ_cons, List.take_zero] at g4
    obtain ⟨a7, q4, w7⟩ := open_T3 g4
    simp only [List.cons.injEq, and_true] at q4
    subst q4
    obtain ⟨y5, g5⟩ := hg 5 _ rfl
    simp only [List.getElem_toArray, List.getElem_cons_zero, List.getElem_cons_succ, cells_T4, Nat.zero_mul, Nat.one_mul, Nat.reduceMul, List.drop_zero, List.drop_succ_cons, List.take_succ_cons, List.take_zero] at g5
    obtain ⟨a8, q5⟩ := open_T4 g5
    simp only [List.cons.injEq, and_true] at q5
    subst q5
    exact ⟨a0, a1, a2, a3, a4, a5, a6, a7, a8, rfl, w0, w1, w3, w4, w6, w7⟩
theorem cells_T50 : Try.prog.cellsOf 50 = 1 := by kernel_rfl
theorem open_T50 {H : Type} {enc : TypeId × Value → H} {w : World} {base : Nat} {spare : Nat → Bool} {held : Bool} {fuel : Nat} {cs : List Value} {x : DataW H × List MemPlace} (h : DataW.trod enc Try.prog w base spare held fuel 50 cs = some x) : ∃ (a0 : Value), cs = [a0] ∧ IsSlice w 9 E_T95 a0 := by
  exact slice_is E_T95 Try.underlying50 cells_T95 (by decide) (fun _ _ _ h => open_T95 h) h
theorem cells_T52 : Try.prog.cellsOf 52 = 8 := by kernel_rfl
theorem open_T52 {H : Type} {enc : TypeId × Value → H} {w : World} {base : Nat} {spare : Nat → Bool} {held : Bool} {fuel : Nat} {cs : List Value} {x : DataW H × List MemPlace} (h : DataW.trod enc Try.prog w base spare held fuel 52 cs = some x) : ∃ (a0 : Int) (a1 : Int) (a2 : Int) (a3 : Int) (a4 : Bool) (a5 : Bool) (a6 : Int) (a7 : Value), cs = [.int .u32 a0, .int .u32 a1, .int .u32 a2, .int .u32 a3, .bool a4, .bool a5, .int .i64 a6, a7] ∧ (Lit.int .u32 a0).wf = true ∧ (Lit.int .u32 a1).wf = true ∧ (Lit.int .u32 a2).wf = true ∧ (Lit.int .u32 a3).wf = true ∧ (Lit.int .i64 a6).wf = true ∧ IsSlice w 9 E_T95 a7 := by
  obtain ⟨hl, n, hg⟩ := struct_fields Try.underlying52 h
  rw [cells_T52] at hl
  match cs, hl with
  | [c0, c1, c2, c3, c4, c5, c6, c7], _ =>
    obtain ⟨y0, g0⟩ := hg 0 _ rfl
    simp only [List.getElem_toArray, List.getElem_cons_zero, List.getElem_cons_succ, cells_T28, Nat.zero_mul, Nat.one_mul, Nat.reduceMul, List.drop_zero, List.drop_succ_cons, List.take_succ_cons, List.take_zero] at g0
    obtain ⟨a0, a1, q0, w0, w1⟩ := open_T28 g0
    simp only [List.cons.injEq, and_true] at q0
    obtain ⟨rfl, rfl⟩ := q0
    obtain ⟨y1, g1⟩ := hg 1 _ rfl
    simp only [List.getElem_toArray, List.getElem_cons_zero, List.getElem_cons_succ, cells_T28, Nat.zero_mul, Nat.one_mul, Nat.reduceMul, List.drop_zero, List.drop_succ_cons, List.take_succ_cons, List.take_zero] at g1
    obtain ⟨a2, a3, q1, w2, w3⟩ := open_T28 g1
    simp only [List.cons.injEq, and_true] at q1
    obtain ⟨rfl, rfl⟩ := q1
    obtain ⟨y2, g2⟩ := hg 2 _ rfl
    simp only [List.getElem_toArray, List.getElem_cons_zero, List.getElem_cons_succ, cells_T4, Nat.zero_mul, Nat.one_mul, Nat.reduceMul, List.drop_zero, List.drop_succ_cons, List.take_succ_cons, List.take_zero] at g2
    obtain ⟨a4, q2⟩ := open_T4 g2
    simp only [List.cons.injEq, and_true] at q2
    subst q2
    obtain ⟨y3, g3⟩ := hg 3 _ rfl
    simp only [List.getElem_toArray, List.getElem_cons_zero, List.getElem_cons_succ, cells_T4, Nat.zero_mul, Nat.one_mul, Nat.reduceMul, List.drop_zero, List.drop_succ_cons, List.take_succ_cons, List.take_zero] at g3
    obtain ⟨a5, q3⟩ := open_T4 g3
    simp only [List.cons.injEq, and_true] at q3
    subst q3
    obtain ⟨y4, g4⟩ := hg 4 _ rfl
    simp only [List.getElem_toArray, List.getElem_cons_zero, List.getElem_cons_succ, cells_T37, Nat.zero_mul, Nat.one_mul, Nat.reduceMul, List.drop_zero, List.drop_succ_cons, List.take_succ_cons, List.take_zero] at g4
    obtain ⟨a6, q4, w6⟩ := open_T37 g4
    simp only [List.cons.injEq, and_true] at q4
    subst q4
    obtain ⟨y5, g5⟩ := hg 5 _ rfl
    simp only [List.getElem_toArray, List.getElem_cons_zero, List.getElem_cons_succ, cells_T50, Nat.zero_mul, Nat.one_mul, Nat.reduceMul, List.drop_zero, List.drop_succ_cons, List.take_succ_cons, List.take_zero] at g5
    obtain ⟨a7, q5, w7⟩ := open_T50 g5
    simp only [List.cons.injEq, and_true] at q5
    subst q5
    exact ⟨a0, a1, a2, a3, a4, a5, a6, c7, rfl, w0, w1, w2, w3, w6, w7⟩
end Go.Proofs.Ytbnihoioblmgkaa
end

section
/- From what came in to typed values, and from a contract to a call (own work). -/
namespace Go.Proofs.Ytbnihoioblmgkaa.Sy
open Go Go.RowKit
set_option linter.unusedVariables false
set_option linter.unusedSimpArgs false
def InR : (t : Ty) → t.den → Prop
  | .int k, x => (Lit.int k x).wf = true | .flt k, x => (Lit.float k x).wf = true | .str, s => s.size ≤ maxLen
  | .pair a b, x => InR a x.1 ∧ InR b x.2 | .sl e, l => l.length ≤ maxLen ∧ ∀ x ∈ l, InR e x | _, _ => True
theorem castL_refl (a : Ty) (l : List a.den) : castL a a l = some l := by
  unfold castL
  have : tyeq a a = true := by
    induction a with
    | int k => cases k <;> rfl
    | flt k => cases k <;> rfl
    | pair x y ihx ihy =>
      simp only [tyeq]
      rw [ihx ([] : List x.den)]
      exact ihy ([] : List y.den)
    | sl x ih => simp only [tyeq]; exact ih []
    | _ => rfl
  split
  · rfl
  · rename_i h; rw [this] at h; cases h
theorem keq_refl (k : IntKind) : keq k k = true := by cases k <;> rfl
theorem feq_refl (k : FloatKind) : feq k k = true := by cases k <;> rfl
theorem dec_enc : ∀ (t : Ty) (x : t.den), dec t (enc t x) = some x := by
  intro t
  induction t with
  | pair a b iha ihb =>
    intro x
    simp only [enc, dec, app_eq]
    have h1 := enc_len a x.1
    rw [List.take_append_of_le_length (by omega), List.take_of_length_le (by omega), List.drop_append_of_le_length (by omega), List.drop_of_length_le (by omega), List.nil_append, iha, ihb]
  | int k => intro x; simp only [enc, dec, keq_refl, cnd]
  | flt k => intro x; simp only [enc, dec, feq_refl, cnd]
  | sl e ih => intro l; simp only [enc, dec]; exact castL_refl e l
  | _ => intro x; rfl
theorem tr_of {w : World} {X : Nat → Nat → Prop} {t : Ty} {x : t.den} {vs : List Value} (h : CRs (fun _ => none) X w (enc t x) vs) : TR w X t x vs := dec_ok (dec_enc t x) h
theorem slice_tr {w : World} {C : Nat} {E : List Value → Prop} {e : Ty} (hC : C = e.n) (hE : ∀ cs, E cs → ∃ x : e.den, TR w (fun _ _ => False) e x cs ∧ InR e x) {v : Value} (h : IsSlice w C E v) :
    ∃ l : List e.den, LR w (fun _ _ => False) e.n (TR w (fun _ _ => False) e) l v ∧ l.length ≤ maxLen ∧ ∀ x ∈ l, InR e x := by
  subst hC
  rcases h with rfl | ⟨ad, len, cap, rfl, hle, hmax, hel⟩
  · exact ⟨[], .inl ⟨rfl, rfl⟩, Nat.zero_le _, fun x hx => by cases hx⟩
  · have hch : ∀ i : Fin len, ∃ x : e.den, (∃ cs : List Value, cs.length = e.n ∧ (∀ j, j < e.n → w.cell? ⟨ad.block, ad.off + (i.1 * e.n + j), none⟩ = some (cs.getD j undef)) ∧ TR w (fun _ _ => False) e x cs) ∧ InR e x := by
      intro i
      obtain ⟨cs, h1, h2, _, _, h5⟩ := hel i.1 i.2
      obtain ⟨x, h6, h7⟩ := hE cs h2
      exact ⟨x, ⟨cs, h1, h5, h6⟩, h7⟩
    let f : Fin len → e.den := fun i => Classical.choose (hch i)
    have hf : ∀ i, _ := fun i => Classical.choose_spec (hch i)
    refine ⟨List.ofFn f, .inr ⟨ad, cap, by rw [List.length_ofFn], by rw [List.length_ofFn]; exact hle, hmax, fun hne => ?_, fun i hi => ?_, fun p _ _ h => h⟩, by rw [List.length_ofFn]; omega, fun x hx => ?_⟩
    · have : 0 < len := by
        have := List.length_pos_iff.2 hne
        rwa [List.length_ofFn] at this
      obtain ⟨_, _, _, h3, _⟩ := hel 0 this
      exact h3
    · rw [List.length_ofFn] at hi
      obtain ⟨cs, h1, h2, h3⟩ := (hf ⟨i, hi⟩).1
      refine ⟨cs, h1, h2, ?_⟩
      rw [List.getElem_ofFn]
      exact h3
    · obtain ⟨i, rfl⟩ := (List.mem_ofFn.1 hx)
      exact (hf i).2
theorem call_true {f : FuncId} {p : Ty} {psh : List (Option Nat)} {pre : Option (p.den → Prop)} {F : p.den → Bool} (h : CtOk Try.prog gdS f { p := p, psh := psh, r := .bool, rsh := .one none, pre := pre, fresh := none, F := F })
    (x : p.den) (w : World) (args : Array Value) (cs : List Value) (hH : gdS.H w) (hpre : ∀ q, pre = some q → q x) (hsh : ShapeR psh args.toList cs) (hx : TR w (fun _ _ => False) p x cs) (hT : F x = true) :
    Calls Try.prog f args w fun e w' => e = .returned (.bool true) ∧ Below w.heap.size w w' := by
  refine (h x w (fun _ _ => False) args cs hH (fun _ _ h => h.elim) hpre hsh hx).mono fun e w' ⟨v, he, hb, cs', h1, _, h2⟩ => ⟨?_, hb⟩
  rw [he]
  have h1 : cs' = [.bool (F x)] := h1
  rw [h1, hT] at h2
  obtain ⟨cs2, h3, h4⟩ := h2
  cases h3
  rfl
end Go.Proofs.Ytbnihoioblmgkaa.Sy
end

section
/- Contracts of functions, by the evaluator (own program gen.py): building.within, building.loads, overlayref01.in, overlaylaw01.Sample. -/
set_option linter.unusedVariables false
set_option linter.unusedSimpArgs false
set_option maxRecDepth 100000
namespace Go.Proofs.Ytbnihoioblmgkaa.Sp
open Go Go.RowKit Sy
def in50_2 (k : (Int × Int × (List Int) × Int)) (x : (Int)) : Prop := (0 : Int) ≤ x ∧ k.2.2.2 = ((k.2.2.1).length : Int)
def mu50_2 (k : (Int × Int × (List Int) × Int)) (x : (Int)) : Nat := (k.2.2.2 - x).toNat
def st50_2 (k : (Int × Int × (List Int) × Int)) (x : (Int)) : BOut (Int × Int × (List Int) × Int) (Int) (Bool) :=
  bif (decide (x < k.2.2.2)) then
    (bif ((decide ((Sp.nthT k.2.2.1 x) < k.1)) || (decide ((Sp.nthT k.2.2.1 x) > k.2.1))) then
      BOut.ret false
    else
      BOut.next k (IntKind.i64.wrap (x + (1 : Int))))
  else
    BOut.brk k x
def G50_2 (k : (Int × Int × (List Int) × Int)) (x : (Int)) : (Int) := endOf st50_2 k (Nat.succ (mu50_2 k x)) x
def R50_2 (k : (Int × Int × (List Int) × Int)) (x : (Int)) : Option (Bool) := retOf st50_2 k (Nat.succ (mu50_2 k x)) x
def F50 (x : Int × Int × List Int) : Bool :=
  Sp.optR (Sp.R50_2 (x.1, x.2.1, x.2.2, ((x.2.2).length : Int)) (0 : Int)) (fun y => y)
  (true)
def F52 (x : Int × Int × Int × Int × Nat × Nat × Nat × List (Int × Int × Int × Int × Int × Int × Int × Int × Int)) : Bool :=
  (((((FloatKind.f64.format.order (0 : Nat) x.2.2.2.2.1) == some Ordering.lt) && ((FloatKind.f64.format.order x.2.2.2.2.1 x.2.2.2.2.2.1) == some Ordering.lt)) && ((FloatKind.f64.format.order x.2.2.2.2.2.1 x.2.2.2.2.2.2.1) == some Ordering.lt)) && ((FloatKind.f64.format.order x.2.2.2.2.2.2.1 (9218868437227405311 : Nat)) == some Ordering.lt || (FloatKind.f64.format.order x.2.2.2.2.2.2.1 (9218868437227405311 : Nat)) == some Ordering.eq))
def F68 (x : Int × Int × Int) : Bool :=
  ((decide (x.1 ≥ x.2.1)) && (decide (x.1 ≤ x.2.2)))
def in25_3 (k : (Int × Int)) (x : (Int × Int × Int × Int × Int × Nat × Nat × Nat × List (Int × Int × Int × Int × Int × Int × Int × Int × Int))) : Prop := 0 ≤ x.1 ∧ x.1 ≤ 101 ∧ k.1 ≠ 0 ∧ k.2 ≤ 100 ∧ (x.2.2.2.2.2.2.2.2.length : Int) ≤ x.1
def mu25_3 (k : (Int × Int)) (x : (Int × Int × Int × Int × Int × Nat × Nat × Nat × List (Int × Int × Int × Int × Int × Int × Int × Int × Int))) : Nat := (k.2 - x.1).toNat
def st25_3 (k : (Int × Int)) (x : (Int × Int × Int × Int × Int × Nat × Nat × Nat × List (Int × Int × Int × Int × Int × Int × Int × Int × Int))) : BOut (Int × Int) (Int × Int × Int × Int × Int × Nat × Nat × Nat × List (Int × Int × Int × Int × Int × Int × Int × Int × Int)) (Int × Int × Int × Int × Nat × Nat × Nat × List (Int × Int × Int × Int × Int × Int × Int × Int × Int)) :=
  bif (decide (x.1 < k.2)) then
    BOut.next k ((IntKind.i64.wrap (x.1 + (1 : Int))), x.2.1, x.2.2.1, x.2.2.2.1, x.2.2.2.2.1, x.2.2.2.2.2.1, x.2.2.2.2.2.2.1, x.2.2.2.2.2.2.2.1, (x.2.2.2.2.2.2.2.2 ++ [((100 : Int), (2 : Int), (6 : Int), (5 : Int), (4 : Int), (2 : Int), (3 : Int), (10 : Int), (Int.tmod x.1 k.1))]))
  else
    BOut.brk k x
def G25_3 (k : (Int × Int)) (x : (Int × Int × Int × Int × Int × Nat × Nat × Nat × List (Int × Int × Int × Int × Int × Int × Int × Int × Int))) : (Int × Int × Int × Int × Int × Nat × Nat × Nat × List (Int × Int × Int × Int × Int × Int × Int × Int × Int)) := endOf st25_3 k (Nat.succ (mu25_3 k x)) x
def F25 (x : Int × Int) : Int × Int × Int × Int × Nat × Nat × Nat × List (Int × Int × Int × Int × Int × Int × Int × Int × Int) :=
  (Sp.G25_3 x ((0 : Int), x.1, (1 : Int), (4000 : Int), (30 : Int), (4591870180066957722 : Nat), (4605380978949069210 : Nat), (4607632778762754458 : Nat), [])).2
def pre25 (x : Int × Int) : Prop := 1 ≤ x.1 ∧ x.1 ≤ 100 ∧ x.2 ≤ 100
end Go.Proofs.Ytbnihoioblmgkaa.Sp
namespace Go.Proofs.Ytbnihoioblmgkaa.Sy
open Go Go.RowKit Sp
def LS50_2 : LS ty4.den := mkLS (Ty.pair ty3 (Ty.pair ty3 (Ty.pair ty127 ty3))) ty3  [(0, none), (1, none), (9, none), (10, none)] [] [(11, none)] [] [] [] [] 0 true Sp.in50_2 Sp.st50_2 Sp.mu50_2
set_option maxHeartbeats 4000000 in
theorem so50_2 (k : (Ty.pair ty3 (Ty.pair ty3 (Ty.pair ty127 ty3))).den) (x : ty3.den) (fk : Fit (Ty.pair ty3 (Ty.pair ty3 (Ty.pair ty127 ty3))) k) (h : Sp.in50_2 k x) : StepOk true Sp.in50_2 Sp.mu50_2 k x (Sp.st50_2 k x) := by
  try dsimp only [Ty.den] at *
  simp only [Sp.in50_2, Fit, maxLen] at h fk
  unfold Sp.st50_2
  (repeat' (first | exact rfl | (refine StepOk.cnd (fun hc => ?_) (fun hc => ?_) <;> (try simp only [IntKind.wrap_i64, IntKind.wrap_u8, IntKind.wrap_u32, IntKind.wrap_u64, bne_eq_false_iff_eq, Int.natCast_inj, setE, copyL, sliceL, zrow, List.length_append, List.length_cons, List.length_nil, List.length_set, List.length_replicate, List.length_take, List.length_drop, decide_eq_true_eq, decide_eq_false_iff_not, Bool.or_eq_true, Bool.and_eq_true, Bool.or_eq_false_iff, Bool.and_eq_false_iff, Bool.not_eq_true', Bool.not_eq_false', Bool.not_eq_true, Bool.not_eq_false, beq_iff_eq, beq_eq_false_iff_ne, bne_iff_ne, ne_eq] at hc)) | refine StepOk.opt (fun _ => ?_))) <;> (first | exact rfl | (refine ⟨rfl, ?_, ?_⟩ <;> simp only [Sp.in50_2, Sp.mu50_2, IntKind.wrap_i64, IntKind.wrap_u8, IntKind.wrap_u32, IntKind.wrap_u64, Sp.tmod_lit, Sp.tdiv_lit, bne_eq_false_iff_eq, Int.natCast_inj, setE, copyL, sliceL, zrow, List.length_append, List.length_cons, List.length_nil, List.length_set, List.length_replicate, List.length_take, List.length_drop, decide_eq_true_eq, decide_eq_false_iff_not, Bool.or_eq_true, Bool.and_eq_true, Bool.or_eq_false_iff, Bool.and_eq_false_iff, Bool.not_eq_true', Bool.not_eq_false', Bool.not_eq_true, Bool.not_eq_false, beq_iff_eq, beq_eq_false_iff_ne, bne_iff_ne, ne_eq] <;> first | omega | (and_intros <;> first | omega | exact h.1 | exact h.2 | exact h.2.1 | exact h.2.2 | exact h.2.2.1 | exact h.2.2.2 | exact h.2.2.2.1 | exact h.2.2.2.2 | exact h.2.2.2.2.1 | exact h.2.2.2.2.2 | exact h.2.2.2.2.2.1 | exact h.2.2.2.2.2.2)))
set_option maxHeartbeats 4000000 in
theorem lo50_2 : LoopOk Try.prog gdS (RetAt Try.prog Try.f50 (Rsh.one (none)) none ty4) (bodyAt (bodyOf Try.f50) [0]) LS50_2 :=
  loop_run (ctxOkF gok_nil []) (L := lookL []) (d := BOut.brk (Ty.dflt (Ty.pair ty3 (Ty.pair ty3 (Ty.pair ty127 ty3)))) (Ty.dflt ty3)) (loops_of (l := []) (by kernel_rfl) (loops_nil)) (fun k x fk fx h => slim_of (S := (((decide (x < k.2.2.2)) = true → (0 ≤ x ∧ x < ((k.2.2.1).length : Int))))) (by kernel_rfl) (by
  try dsimp only [Ty.den] at *
  simp only [Sp.in50_2, Fit, maxLen] at h fk fx
  simp only [IntKind.wrap_i64, IntKind.wrap_u8, IntKind.wrap_u32, IntKind.wrap_u64, Sp.tmod_lit, Sp.tdiv_lit, bne_eq_false_iff_eq, Int.natCast_inj, setE, copyL, sliceL, zrow, List.length_append, List.length_cons, List.length_nil, List.length_set, List.length_replicate, List.length_take, List.length_drop, decide_eq_true_eq, decide_eq_false_iff_not, Bool.or_eq_true, Bool.and_eq_true, Bool.or_eq_false_iff, Bool.and_eq_false_iff, Bool.not_eq_true', Bool.not_eq_false', Bool.not_eq_true, Bool.not_eq_false, beq_iff_eq, beq_eq_false_iff_ne, bne_iff_ne, ne_eq, implies_true, and_true, true_and] at *
  all_goals ((repeat' (first | exact trivial | apply And.intro | intro _)) <;> first | trivial | omega | exact Sp.tmod_nn (by omega) | exact Sp.tmod_lt (by omega) (by omega)))) (fun k x => by kernel_rfl) so50_2
def ct50 : Ct := { p := (Ty.pair ty3 (Ty.pair ty3 ty127)), psh := [none, none, none], r := ty4, rsh := (Rsh.one (none)), pre := none, fresh := none, F := Sp.F50 }
theorem ok50 : CtOk Try.prog gdS 50 ct50 :=
  fn_okU (ctxOkF gok_nil []) rfl Try.func50 (p := (Ty.pair ty3 (Ty.pair ty3 ty127))) (psh := [none, none, none]) (r := ty4) (rsh := (Rsh.one (none))) (pre := none) (fresh := none) (F := Sp.F50) (L := (lookL [(2, LS50_2)])) (c := bodyOf Try.f50) (dflt := Ty.dflt ty4) rfl (loops_of (l := [bodyAt (bodyOf Try.f50) [0]]) (by kernel_rfl) (loops_cons (s0 := LS50_2) (by kernel_rfl) lo50_2 (loops_nil)))
    (fun x fx _ => slim_of (S := ((Sp.in50_2 (x.1, x.2.1, x.2.2, ((x.2.2).length : Int)) (0 : Int)))) (by kernel_rfl) (by
  try dsimp only [Ty.den] at *
  simp only [Fit, maxLen] at fx
  simp only [Sp.in50_2, IntKind.wrap_i64, IntKind.wrap_u8, IntKind.wrap_u32, IntKind.wrap_u64, Sp.tmod_lit, Sp.tdiv_lit, bne_eq_false_iff_eq, Int.natCast_inj, setE, copyL, sliceL, zrow, List.length_append, List.length_cons, List.length_nil, List.length_set, List.length_replicate, List.length_take, List.length_drop, decide_eq_true_eq, decide_eq_false_iff_not, Bool.or_eq_true, Bool.and_eq_true, Bool.or_eq_false_iff, Bool.and_eq_false_iff, Bool.not_eq_true', Bool.not_eq_false', Bool.not_eq_true, Bool.not_eq_false, beq_iff_eq, beq_eq_false_iff_ne, bne_iff_ne, ne_eq, implies_true, and_true, true_and] at *
  all_goals ((repeat' (first | exact trivial | apply And.intro | intro _)) <;> first | trivial | omega | exact Sp.tmod_nn (by omega) | exact Sp.tmod_lt (by omega) (by omega)))) (fun x => by kernel_rfl)
def ct52 : Ct := { p := ty25, psh := [some 8], r := ty4, rsh := (Rsh.one (none)), pre := none, fresh := none, F := Sp.F52 }
theorem ok52 : CtOk Try.prog gdS 52 ct52 :=
  fn_okU (ctxOkF gok_nil []) rfl Try.func52 (p := ty25) (psh := [some 8]) (r := ty4) (rsh := (Rsh.one (none))) (pre := none) (fresh := none) (F := Sp.F52) (L := noL) (c := bodyOf Try.f52) (dflt := Ty.dflt ty4) rfl (no_loops)
    (fun x fx _ => triv_of (by kernel_rfl)) (fun x => by kernel_rfl)
def ct68 : Ct := { p := (Ty.pair ty3 (Ty.pair ty3 ty3)), psh := [none, none, none], r := ty4, rsh := (Rsh.one (none)), pre := none, fresh := none, F := Sp.F68 }
theorem ok68 : CtOk Try.prog gdS 68 ct68 :=
  fn_okU (ctxOkF gok_nil []) rfl Try.func68 (p := (Ty.pair ty3 (Ty.pair ty3 ty3))) (psh := [none, none, none]) (r := ty4) (rsh := (Rsh.one (none))) (pre := none) (fresh := none) (F := Sp.F68) (L := noL) (c := bodyOf Try.f68) (dflt := Ty.dflt ty4) rfl (no_loops)
    (fun x fx _ => triv_of (by kernel_rfl)) (fun x => by kernel_rfl)
def LS25_3 : LS ty25.den := mkLS (Ty.pair ty3 ty3) (Ty.pair ty3 ty25)  [(0, none), (1, none)] [] [(6, none)] [(5, 8)] [(8, 100308, true, 104)] [] [(5, 5)] 0 false Sp.in25_3 Sp.st25_3 Sp.mu25_3
set_option maxHeartbeats 4000000 in
theorem so25_3 (k : (Ty.pair ty3 ty3).den) (x : (Ty.pair ty3 ty25).den) (fk : Fit (Ty.pair ty3 ty3) k) (h : Sp.in25_3 k x) : StepOk false Sp.in25_3 Sp.mu25_3 k x (Sp.st25_3 k x) := by
  try dsimp only [Ty.den] at *
  simp only [Sp.in25_3, Fit, maxLen] at h fk
  unfold Sp.st25_3
  (repeat' (first | exact rfl | (refine StepOk.cnd (fun hc => ?_) (fun hc => ?_) <;> (try simp only [IntKind.wrap_i64, IntKind.wrap_u8, IntKind.wrap_u32, IntKind.wrap_u64, bne_eq_false_iff_eq, Int.natCast_inj, setE, copyL, sliceL, zrow, List.length_append, List.length_cons, List.length_nil, List.length_set, List.length_replicate, List.length_take, List.length_drop, decide_eq_true_eq, decide_eq_false_iff_not, Bool.or_eq_true, Bool.and_eq_true, Bool.or_eq_false_iff, Bool.and_eq_false_iff, Bool.not_eq_true', Bool.not_eq_false', Bool.not_eq_true, Bool.not_eq_false, beq_iff_eq, beq_eq_false_iff_ne, bne_iff_ne, ne_eq] at hc)) | refine StepOk.opt (fun _ => ?_))) <;> (first | exact rfl | (refine ⟨rfl, ?_, ?_⟩ <;> simp only [Sp.in25_3, Sp.mu25_3, IntKind.wrap_i64, IntKind.wrap_u8, IntKind.wrap_u32, IntKind.wrap_u64, Sp.tmod_lit, Sp.tdiv_lit, bne_eq_false_iff_eq, Int.natCast_inj, setE, copyL, sliceL, zrow, List.length_append, List.length_cons, List.length_nil, List.length_set, List.length_replicate, List.length_take, List.length_drop, decide_eq_true_eq, decide_eq_false_iff_not, Bool.or_eq_true, Bool.and_eq_true, Bool.or_eq_false_iff, Bool.and_eq_false_iff, Bool.not_eq_true', Bool.not_eq_false', Bool.not_eq_true, Bool.not_eq_false, beq_iff_eq, beq_eq_false_iff_ne, bne_iff_ne, ne_eq] <;> first | omega | (and_intros <;> first | omega | exact h.1 | exact h.2 | exact h.2.1 | exact h.2.2 | exact h.2.2.1 | exact h.2.2.2 | exact h.2.2.2.1 | exact h.2.2.2.2 | exact h.2.2.2.2.1 | exact h.2.2.2.2.2 | exact h.2.2.2.2.2.1 | exact h.2.2.2.2.2.2)))
set_option maxHeartbeats 4000000 in
theorem lo25_3 : LoopOk Try.prog gdS (RetAt Try.prog Try.f25 (Rsh.one (some 8)) (some 104) ty25) (bodyAt (bodyOf Try.f25) [0]) LS25_3 :=
  loop_run (ctxOkF gok_nil []) (L := lookL []) (d := BOut.brk (Ty.dflt (Ty.pair ty3 ty3)) (Ty.dflt (Ty.pair ty3 ty25))) (loops_of (l := []) (by kernel_rfl) (loops_nil)) (fun k x fk fx h => slim_of (S := (((decide (x.1 < k.2)) = true → ((k.1 ≠ 0) ∧ ((List.length (x.2.2.2.2.2.2.2.2 : List (Int × Int × Int × Int × Int × Int × Int × Int × Int)) + List.length ([((100 : Int), (2 : Int), (6 : Int), (5 : Int), (4 : Int), (2 : Int), (3 : Int), (10 : Int), (Int.tmod x.1 k.1))] : List (Int × Int × Int × Int × Int × Int × Int × Int × Int))) * 72 ≤ 140737488355328 ∧ List.length (x.2.2.2.2.2.2.2.2 : List (Int × Int × Int × Int × Int × Int × Int × Int × Int)) + List.length ([((100 : Int), (2 : Int), (6 : Int), (5 : Int), (4 : Int), (2 : Int), (3 : Int), (10 : Int), (Int.tmod x.1 k.1))] : List (Int × Int × Int × Int × Int × Int × Int × Int × Int)) ≤ 4611686018427387903))))) (by kernel_rfl) (by
  try dsimp only [Ty.den] at *
  simp only [Sp.in25_3, Fit, maxLen] at h fk fx
  simp only [IntKind.wrap_i64, IntKind.wrap_u8, IntKind.wrap_u32, IntKind.wrap_u64, Sp.tmod_lit, Sp.tdiv_lit, bne_eq_false_iff_eq, Int.natCast_inj, setE, copyL, sliceL, zrow, List.length_append, List.length_cons, List.length_nil, List.length_set, List.length_replicate, List.length_take, List.length_drop, decide_eq_true_eq, decide_eq_false_iff_not, Bool.or_eq_true, Bool.and_eq_true, Bool.or_eq_false_iff, Bool.and_eq_false_iff, Bool.not_eq_true', Bool.not_eq_false', Bool.not_eq_true, Bool.not_eq_false, beq_iff_eq, beq_eq_false_iff_ne, bne_iff_ne, ne_eq, implies_true, and_true, true_and] at *
  all_goals ((repeat' (first | exact trivial | apply And.intro | intro _)) <;> first | trivial | omega | exact Sp.tmod_nn (by omega) | exact Sp.tmod_lt (by omega) (by omega)))) (fun k x => by kernel_rfl) so25_3
def ct25 : Ct := { p := (Ty.pair ty3 ty3), psh := [none, none], r := ty25, rsh := (Rsh.one (some 8)), pre := some Sp.pre25, fresh := (some 104), F := Sp.F25 }
theorem ok25 : CtOk Try.prog gdS 25 ct25 :=
  fn_okU (ctxOkF gok_nil []) rfl Try.func25 (p := (Ty.pair ty3 ty3)) (psh := [none, none]) (r := ty25) (rsh := (Rsh.one (some 8))) (pre := some Sp.pre25) (fresh := (some 104)) (F := Sp.F25) (L := (lookL [(3, LS25_3)])) (c := bodyOf Try.f25) (dflt := Ty.dflt ty25) rfl (loops_of (l := [bodyAt (bodyOf Try.f25) [0]]) (by kernel_rfl) (loops_cons (s0 := LS25_3) (by kernel_rfl) lo25_3 (loops_nil)))
    (fun x fx hq => have h := hq _ rfl; slim_of (S := ((Sp.in25_3 x ((0 : Int), x.1, (1 : Int), (4000 : Int), (30 : Int), (4591870180066957722 : Nat), (4605380978949069210 : Nat), (4607632778762754458 : Nat), [])))) (by kernel_rfl) (by
  try dsimp only [Ty.den] at *
  simp only [Fit, maxLen] at fx
  simp only [Sp.in25_3, Sp.pre25, IntKind.wrap_i64, IntKind.wrap_u8, IntKind.wrap_u32, IntKind.wrap_u64, Sp.tmod_lit, Sp.tdiv_lit, bne_eq_false_iff_eq, Int.natCast_inj, setE, copyL, sliceL, zrow, List.length_append, List.length_cons, List.length_nil, List.length_set, List.length_replicate, List.length_take, List.length_drop, decide_eq_true_eq, decide_eq_false_iff_not, Bool.or_eq_true, Bool.and_eq_true, Bool.or_eq_false_iff, Bool.and_eq_false_iff, Bool.not_eq_true', Bool.not_eq_false', Bool.not_eq_true, Bool.not_eq_false, beq_iff_eq, beq_eq_false_iff_ne, bne_iff_ne, ne_eq, implies_true, and_true, true_and] at *
  all_goals ((repeat' (first | exact trivial | apply And.intro | intro _)) <;> first | trivial | omega | exact Sp.tmod_nn (by omega) | exact Sp.tmod_lt (by omega) (by omega)))) (fun x => by kernel_rfl)
def GmT0 : List (Nat × Ct) := (50, ct50) :: (52, ct52) :: (68, ct68) :: (25, ct25) :: []
theorem gokGmT0 : GOk GmT0 := gok_cons ok50 ⟨_, Try.func50, by kernel_rfl, by kernel_rfl⟩ (gok_cons ok52 ⟨_, Try.func52, by kernel_rfl, by kernel_rfl⟩ (gok_cons ok68 ⟨_, Try.func68, by kernel_rfl, by kernel_rfl⟩ (gok_cons ok25 ⟨_, Try.func25, by kernel_rfl, by kernel_rfl⟩ (gok_nil))))
end Go.Proofs.Ytbnihoioblmgkaa.Sy
end

section
/- Contracts of functions, by the evaluator (own program gen.py): building.times, overlayref01.times, overlaylaw03.Building. -/
set_option linter.unusedVariables false
set_option linter.unusedSimpArgs false
set_option maxRecDepth 100000
namespace Go.Proofs.Ytbnihoioblmgkaa.Sp
open Go Go.RowKit Sy
def F51 (x : (Int × Int × Int × Int × Int × Int × Int × Int × Int) × Int) : Bool :=
  ((((Sp.F50 ((1 : Int), (10000 : Int), [x.1.1, x.1.2.1, x.1.2.2.1, x.1.2.2.2.2.1, x.1.2.2.2.2.2.1, x.1.2.2.2.2.2.2.1, x.1.2.2.2.2.2.2.2.1])) && (Sp.F50 ((0 : Int), (10000 : Int), [x.1.2.2.2.1]))) && (decide (x.1.2.2.2.2.2.2.2.1 ≥ x.1.2.2.2.2.2.2.1))) && (Sp.F50 ((0 : Int), (IntKind.i64.wrap (x.2 - (1 : Int))), [x.1.2.2.2.2.2.2.2.2])))
def in69_5 (k : (List Int)) (x : (Int)) : Prop := (0 : Int) ≤ x ∧ k.length = 8
def mu69_5 (k : (List Int)) (x : (Int)) : Nat := ((7 : Int) - x).toNat
def st69_5 (k : (List Int)) (x : (Int)) : BOut (List Int) (Int) (Bool) :=
  bif (decide (x < (7 : Int))) then
    (bif (!(Sp.F68 ((Sp.nthT k x), (1 : Int), (10000 : Int)))) then
      BOut.ret false
    else
      BOut.next k (IntKind.i64.wrap (x + (1 : Int))))
  else
    BOut.brk k x
def G69_5 (k : (List Int)) (x : (Int)) : (Int) := endOf st69_5 k (Nat.succ (mu69_5 k x)) x
def R69_5 (k : (List Int)) (x : (Int)) : Option (Bool) := retOf st69_5 k (Nat.succ (mu69_5 k x)) x
def F69 (x : (Int × Int × Int × Int × Nat × Nat × Nat × List (Int × Int × Int × Int × Int × Int × Int × Int × Int)) × Int × Int × Int × Int × Int × Int × Int × Int × Int) : Bool :=
  bif ((decide (x.2.2.2.2.1 < (0 : Int))) || (decide (x.2.2.2.2.1 > (10000 : Int)))) then
    false
  else
    Sp.optR (Sp.R69_5 [x.2.1, x.2.2.1, x.2.2.2.1, x.2.2.2.2.2.1, x.2.2.2.2.2.2.1, x.2.2.2.2.2.2.2.1, x.2.2.2.2.2.2.2.2.1, (IntKind.i64.wrap (x.2.2.2.2.1 + (1 : Int)))] (0 : Int)) (fun y => y)
    (((decide (x.2.2.2.2.2.2.2.2.1 ≥ x.2.2.2.2.2.2.2.1)) && (Sp.F68 (x.2.2.2.2.2.2.2.2.2, (0 : Int), (IntKind.i64.wrap (x.1.1 - (1 : Int)))))))
def F9 (x : Int) : Int × Int × Int × Int × Nat × Nat × Nat × List (Int × Int × Int × Int × Int × Int × Int × Int × Int) :=
  (Sp.F25 ((IntKind.i64.wrap ((2 : Int) + (IntKind.i64.wrap (Int.tmod x (31 : Int))))), (IntKind.i64.wrap ((1 : Int) + (IntKind.i64.wrap (Int.tmod (IntKind.u8.wrap (Int.tdiv x (31 : Int))) (8 : Int)))))))
def pre9 (x : Int) : Prop := 0 ≤ x ∧ x ≤ 255
end Go.Proofs.Ytbnihoioblmgkaa.Sp
namespace Go.Proofs.Ytbnihoioblmgkaa.Sy
open Go Go.RowKit Sp
def ct51 : Ct := { p := (Ty.pair ty104 ty3), psh := [some 9, none], r := ty4, rsh := (Rsh.one (none)), pre := none, fresh := none, F := Sp.F51 }
theorem ok51 : CtOk Try.prog gdS 51 ct51 :=
  fn_okU (ctxOkF gokGmT0 []) rfl Try.func51 (p := (Ty.pair ty104 ty3)) (psh := [some 9, none]) (r := ty4) (rsh := (Rsh.one (none))) (pre := none) (fresh := none) (F := Sp.F51) (L := noL) (c := bodyOf Try.f51) (dflt := Ty.dflt ty4) rfl (no_loops)
    (fun x fx _ => triv_of (by kernel_rfl)) (fun x => by kernel_rfl)
def LS69_5 : LS ty4.den := mkLS ty127 ty3  [(5, none)] [] [(6, none)] [] [] [] [] 0 true Sp.in69_5 Sp.st69_5 Sp.mu69_5
set_option maxHeartbeats 4000000 in
theorem so69_5 (k : ty127.den) (x : ty3.den) (fk : Fit ty127 k) (h : Sp.in69_5 k x) : StepOk true Sp.in69_5 Sp.mu69_5 k x (Sp.st69_5 k x) := by
  try dsimp only [Ty.den] at *
  simp only [Sp.in69_5, Fit, maxLen] at h fk
  unfold Sp.st69_5
  (repeat' (first | exact rfl | (refine StepOk.cnd (fun hc => ?_) (fun hc => ?_) <;> (try simp only [IntKind.wrap_i64, IntKind.wrap_u8, IntKind.wrap_u32, IntKind.wrap_u64, bne_eq_false_iff_eq, Int.natCast_inj, setE, copyL, sliceL, zrow, List.length_append, List.length_cons, List.length_nil, List.length_set, List.length_replicate, List.length_take, List.length_drop, decide_eq_true_eq, decide_eq_false_iff_not, Bool.or_eq_true, Bool.and_eq_true, Bool.or_eq_false_iff, Bool.and_eq_false_iff, Bool.not_eq_true', Bool.not_eq_false', Bool.not_eq_true, Bool.not_eq_false, beq_iff_eq, beq_eq_false_iff_ne, bne_iff_ne, ne_eq] at hc)) | refine StepOk.opt (fun _ => ?_))) <;> (first | exact rfl | (refine ⟨rfl, ?_, ?_⟩ <;> simp only [Sp.in69_5, Sp.mu69_5, IntKind.wrap_i64, IntKind.wrap_u8, IntKind.wrap_u32, IntKind.wrap_u64, Sp.tmod_lit, Sp.tdiv_lit, bne_eq_false_iff_eq, Int.natCast_inj, setE, copyL, sliceL, zrow, List.length_append, List.length_cons, List.length_nil, List.length_set, List.length_replicate, List.length_take, List.length_drop, decide_eq_true_eq, decide_eq_false_iff_not, Bool.or_eq_true, Bool.and_eq_true, Bool.or_eq_false_iff, Bool.and_eq_false_iff, Bool.not_eq_true', Bool.not_eq_false', Bool.not_eq_true, Bool.not_eq_false, beq_iff_eq, beq_eq_false_iff_ne, bne_iff_ne, ne_eq] <;> first | omega | (and_intros <;> first | omega | exact h.1 | exact h.2 | exact h.2.1 | exact h.2.2 | exact h.2.2.1 | exact h.2.2.2 | exact h.2.2.2.1 | exact h.2.2.2.2 | exact h.2.2.2.2.1 | exact h.2.2.2.2.2 | exact h.2.2.2.2.2.1 | exact h.2.2.2.2.2.2)))
set_option maxHeartbeats 4000000 in
theorem lo69_5 : LoopOk Try.prog gdS (RetAt Try.prog Try.f69 (Rsh.one (none)) none ty4) (bodyAt (bodyOf Try.f69) [0]) LS69_5 :=
  loop_run (ctxOkF gokGmT0 []) (L := lookL []) (d := BOut.brk (Ty.dflt ty127) (Ty.dflt ty3)) (loops_of (l := []) (by kernel_rfl) (loops_nil)) (fun k x fk fx h => slim_of (S := (((decide (x < (7 : Int))) = true → (0 ≤ x ∧ x < ((k).length : Int))))) (by kernel_rfl) (by
  try dsimp only [Ty.den] at *
  simp only [Sp.in69_5, Fit, maxLen] at h fk fx
  simp only [IntKind.wrap_i64, IntKind.wrap_u8, IntKind.wrap_u32, IntKind.wrap_u64, Sp.tmod_lit, Sp.tdiv_lit, bne_eq_false_iff_eq, Int.natCast_inj, setE, copyL, sliceL, zrow, List.length_append, List.length_cons, List.length_nil, List.length_set, List.length_replicate, List.length_take, List.length_drop, decide_eq_true_eq, decide_eq_false_iff_not, Bool.or_eq_true, Bool.and_eq_true, Bool.or_eq_false_iff, Bool.and_eq_false_iff, Bool.not_eq_true', Bool.not_eq_false', Bool.not_eq_true, Bool.not_eq_false, beq_iff_eq, beq_eq_false_iff_ne, bne_iff_ne, ne_eq, implies_true, and_true, true_and] at *
  all_goals ((repeat' (first | exact trivial | apply And.intro | intro _)) <;> first | trivial | omega | exact Sp.tmod_nn (by omega) | exact Sp.tmod_lt (by omega) (by omega)))) (fun k x => by kernel_rfl) so69_5
def ct69 : Ct := { p := (Ty.pair ty25 ty104), psh := [some 8, some 9], r := ty4, rsh := (Rsh.one (none)), pre := none, fresh := none, F := Sp.F69 }
theorem ok69 : CtOk Try.prog gdS 69 ct69 :=
  fn_okU (ctxOkF gokGmT0 []) rfl Try.func69 (p := (Ty.pair ty25 ty104)) (psh := [some 8, some 9]) (r := ty4) (rsh := (Rsh.one (none))) (pre := none) (fresh := none) (F := Sp.F69) (L := (lookL [(5, LS69_5)])) (c := bodyOf Try.f69) (dflt := Ty.dflt ty4) rfl (loops_of (l := [bodyAt (bodyOf Try.f69) [0]]) (by kernel_rfl) (loops_cons (s0 := LS69_5) (by kernel_rfl) lo69_5 (loops_nil)))
    (fun x fx _ => slim_of (S := ((((decide (x.2.2.2.2.1 < (0 : Int))) || (decide (x.2.2.2.2.1 > (10000 : Int)))) = false → (Sp.in69_5 [x.2.1, x.2.2.1, x.2.2.2.1, x.2.2.2.2.2.1, x.2.2.2.2.2.2.1, x.2.2.2.2.2.2.2.1, x.2.2.2.2.2.2.2.2.1, (IntKind.i64.wrap (x.2.2.2.2.1 + (1 : Int)))] (0 : Int))))) (by kernel_rfl) (by
  try dsimp only [Ty.den] at *
  simp only [Fit, maxLen] at fx
  simp only [Sp.in69_5, IntKind.wrap_i64, IntKind.wrap_u8, IntKind.wrap_u32, IntKind.wrap_u64, Sp.tmod_lit, Sp.tdiv_lit, bne_eq_false_iff_eq, Int.natCast_inj, setE, copyL, sliceL, zrow, List.length_append, List.length_cons, List.length_nil, List.length_set, List.length_replicate, List.length_take, List.length_drop, decide_eq_true_eq, decide_eq_false_iff_not, Bool.or_eq_true, Bool.and_eq_true, Bool.or_eq_false_iff, Bool.and_eq_false_iff, Bool.not_eq_true', Bool.not_eq_false', Bool.not_eq_true, Bool.not_eq_false, beq_iff_eq, beq_eq_false_iff_ne, bne_iff_ne, ne_eq, implies_true, and_true, true_and] at *
  all_goals ((repeat' (first | exact trivial | apply And.intro | intro _)) <;> first | trivial | omega | exact Sp.tmod_nn (by omega) | exact Sp.tmod_lt (by omega) (by omega)))) (fun x => by kernel_rfl)
def ct9 : Ct := { p := ty5, psh := [none], r := ty25, rsh := (Rsh.one (some 8)), pre := some Sp.pre9, fresh := (some 104), F := Sp.F9 }
theorem ok9 : CtOk Try.prog gdS 9 ct9 :=
  fn_okU (ctxOkF gokGmT0 []) rfl Try.func9 (p := ty5) (psh := [none]) (r := ty25) (rsh := (Rsh.one (some 8))) (pre := some Sp.pre9) (fresh := (some 104)) (F := Sp.F9) (L := noL) (c := bodyOf Try.f9) (dflt := Ty.dflt ty25) rfl (no_loops)
    (fun x fx hq => have h := hq _ rfl; slim_of (S := ((((31 : Int) ≠ 0) ∧ (((31 : Int) ≠ 0) ∧ (((8 : Int) ≠ 0) ∧ (Sp.pre25 ((IntKind.i64.wrap ((2 : Int) + (IntKind.i64.wrap (Int.tmod x (31 : Int))))), (IntKind.i64.wrap ((1 : Int) + (IntKind.i64.wrap (Int.tmod (IntKind.u8.wrap (Int.tdiv x (31 : Int))) (8 : Int)))))))))))) (by kernel_rfl) (by
  try dsimp only [Ty.den] at *
  simp only [Fit, maxLen] at fx
  simp only [Sp.pre9, Sp.pre25, IntKind.wrap_i64, IntKind.wrap_u8, IntKind.wrap_u32, IntKind.wrap_u64, Sp.tmod_lit, Sp.tdiv_lit, bne_eq_false_iff_eq, Int.natCast_inj, setE, copyL, sliceL, zrow, List.length_append, List.length_cons, List.length_nil, List.length_set, List.length_replicate, List.length_take, List.length_drop, decide_eq_true_eq, decide_eq_false_iff_not, Bool.or_eq_true, Bool.and_eq_true, Bool.or_eq_false_iff, Bool.and_eq_false_iff, Bool.not_eq_true', Bool.not_eq_false', Bool.not_eq_true, Bool.not_eq_false, beq_iff_eq, beq_eq_false_iff_ne, bne_iff_ne, ne_eq, implies_true, and_true, true_and] at *
  all_goals ((repeat' (first | exact trivial | apply And.intro | intro _)) <;> first | trivial | omega | exact Sp.tmod_nn (by omega) | exact Sp.tmod_lt (by omega) (by omega)))) (fun x => by kernel_rfl)
def GmT1 : List (Nat × Ct) := (51, ct51) :: (69, ct69) :: (9, ct9) :: GmT0
theorem gokGmT1 : GOk GmT1 := gok_cons ok51 ⟨_, Try.func51, by kernel_rfl, by kernel_rfl⟩ (gok_cons ok69 ⟨_, Try.func69, by kernel_rfl, by kernel_rfl⟩ (gok_cons ok9 ⟨_, Try.func9, by kernel_rfl, by kernel_rfl⟩ (gokGmT0)))
end Go.Proofs.Ytbnihoioblmgkaa.Sy
end

section
/- Contracts of functions, by the evaluator (own program gen.py): building.Valid, overlayref01.Valid. -/
set_option linter.unusedVariables false
set_option linter.unusedSimpArgs false
set_option maxRecDepth 100000
namespace Go.Proofs.Ytbnihoioblmgkaa.Sp
open Go Go.RowKit Sy
def in27_7 (k : ((List (Int × Int × Int × Int × Int × Int × Int × Int × Int)) × Int × Int × Int × Int × Int × Nat × Nat × Nat × List (Int × Int × Int × Int × Int × Int × Int × Int × Int))) (x : (Bool × Int)) : Prop := (0 : Int) ≤ x.2 ∧ k.2.1 = ((k.1).length : Int)
def mu27_7 (k : ((List (Int × Int × Int × Int × Int × Int × Int × Int × Int)) × Int × Int × Int × Int × Int × Nat × Nat × Nat × List (Int × Int × Int × Int × Int × Int × Int × Int × Int))) (x : (Bool × Int)) : Nat := (k.2.1 - x.2).toNat
def st27_7 (k : ((List (Int × Int × Int × Int × Int × Int × Int × Int × Int)) × Int × Int × Int × Int × Int × Nat × Nat × Nat × List (Int × Int × Int × Int × Int × Int × Int × Int × Int))) (x : (Bool × Int)) : BOut ((List (Int × Int × Int × Int × Int × Int × Int × Int × Int)) × Int × Int × Int × Int × Int × Nat × Nat × Nat × List (Int × Int × Int × Int × Int × Int × Int × Int × Int)) (Bool × Int) (Int) :=
  bif (decide (x.2 < k.2.1)) then
    BOut.next k ((x.1 && (Sp.F51 ((Sp.nthT k.1 x.2), k.2.2.1))), (IntKind.i64.wrap (x.2 + (1 : Int))))
  else
    BOut.brk k x
def G27_7 (k : ((List (Int × Int × Int × Int × Int × Int × Int × Int × Int)) × Int × Int × Int × Int × Int × Nat × Nat × Nat × List (Int × Int × Int × Int × Int × Int × Int × Int × Int))) (x : (Bool × Int)) : (Bool × Int) := endOf st27_7 k (Nat.succ (mu27_7 k x)) x
def F27 (x : Int × Int × Int × Int × Nat × Nat × Nat × List (Int × Int × Int × Int × Int × Int × Int × Int × Int)) : Int :=
  bif (!(Sp.F50 ((2 : Int), (32 : Int), [x.1]))) then
    (10 : Int)
  else
    bif (!(Sp.F50 ((1 : Int), (8 : Int), [((x.2.2.2.2.2.2.2).length : Int)]))) then
      (11 : Int)
    else
      bif (!((Sp.G27_7 (x.2.2.2.2.2.2.2, ((x.2.2.2.2.2.2.2).length : Int), x) (((Sp.F50 ((1 : Int), (16 : Int), [x.2.1])) && (Sp.F50 ((1 : Int), (10000 : Int), [x.2.2.2.1]))), (0 : Int))).1)) then
        (12 : Int)
      else
        bif (!(Sp.F52 x)) then
          (13 : Int)
        else
          bif (!(Sp.F50 ((IntKind.i64.wrap ((IntKind.i64.wrap ((18 : Int) * ((x.2.2.2.2.2.2.2).length : Int))) + (24 : Int))), (65536 : Int), [x.2.2.1]))) then
            (14 : Int)
          else
            (0 : Int)
def in40_7 (k : (Int × Int × Int × Int × Nat × Nat × Nat × List (Int × Int × Int × Int × Int × Int × Int × Int × Int))) (x : (Bool × Int)) : Prop := (0 : Int) ≤ x.2
def mu40_7 (k : (Int × Int × Int × Int × Nat × Nat × Nat × List (Int × Int × Int × Int × Int × Int × Int × Int × Int))) (x : (Bool × Int)) : Nat := (((k.2.2.2.2.2.2.2).length : Int) - x.2).toNat
def st40_7 (k : (Int × Int × Int × Int × Nat × Nat × Nat × List (Int × Int × Int × Int × Int × Int × Int × Int × Int))) (x : (Bool × Int)) : BOut (Int × Int × Int × Int × Nat × Nat × Nat × List (Int × Int × Int × Int × Int × Int × Int × Int × Int)) (Bool × Int) (Int) :=
  bif (decide (x.2 < ((k.2.2.2.2.2.2.2).length : Int))) then
    BOut.next k ((x.1 && (Sp.F69 (k, (Sp.nthT k.2.2.2.2.2.2.2 x.2)))), (IntKind.i64.wrap (x.2 + (1 : Int))))
  else
    BOut.brk k x
def G40_7 (k : (Int × Int × Int × Int × Nat × Nat × Nat × List (Int × Int × Int × Int × Int × Int × Int × Int × Int))) (x : (Bool × Int)) : (Bool × Int) := endOf st40_7 k (Nat.succ (mu40_7 k x)) x
def F40 (x : Int × Int × Int × Int × Nat × Nat × Nat × List (Int × Int × Int × Int × Int × Int × Int × Int × Int)) : Int :=
  bif (!(Sp.F68 (x.1, (2 : Int), (32 : Int)))) then
    (10 : Int)
  else
    bif (!(Sp.F68 (((x.2.2.2.2.2.2.2).length : Int), (1 : Int), (8 : Int)))) then
      (11 : Int)
    else
      bif (!((Sp.G40_7 x (((Sp.F68 (x.2.1, (1 : Int), (16 : Int))) && (Sp.F68 (x.2.2.2.1, (1 : Int), (10000 : Int)))), (0 : Int))).1)) then
        (12 : Int)
      else
        bif (!(((((FloatKind.f64.format.order (0 : Nat) x.2.2.2.2.1) == some Ordering.lt) && ((FloatKind.f64.format.order x.2.2.2.2.1 x.2.2.2.2.2.1) == some Ordering.lt)) && ((FloatKind.f64.format.order x.2.2.2.2.2.1 x.2.2.2.2.2.2.1) == some Ordering.lt)) && ((FloatKind.f64.format.order x.2.2.2.2.2.2.1 (9218868437227405311 : Nat)) == some Ordering.lt || (FloatKind.f64.format.order x.2.2.2.2.2.2.1 (9218868437227405311 : Nat)) == some Ordering.eq))) then
          (13 : Int)
        else
          bif (!(Sp.F68 (x.2.2.1, (IntKind.i64.wrap ((IntKind.i64.wrap ((18 : Int) * ((x.2.2.2.2.2.2.2).length : Int))) + (24 : Int))), (65536 : Int)))) then
            (14 : Int)
          else
            (0 : Int)
end Go.Proofs.Ytbnihoioblmgkaa.Sp
namespace Go.Proofs.Ytbnihoioblmgkaa.Sy
open Go Go.RowKit Sp
def LS27_7 : LS ty37.den := mkLS (Ty.pair ty23 (Ty.pair ty3 ty25)) (Ty.pair ty4 ty3)  [(28, none), (29, none)] [(1, 8)] [(3, none), (30, none)] [] [] [] [(1, 1)] 0 false Sp.in27_7 Sp.st27_7 Sp.mu27_7
set_option maxHeartbeats 4000000 in
theorem so27_7 (k : (Ty.pair ty23 (Ty.pair ty3 ty25)).den) (x : (Ty.pair ty4 ty3).den) (fk : Fit (Ty.pair ty23 (Ty.pair ty3 ty25)) k) (h : Sp.in27_7 k x) : StepOk false Sp.in27_7 Sp.mu27_7 k x (Sp.st27_7 k x) := by
  try dsimp only [Ty.den] at *
  simp only [Sp.in27_7, Fit, maxLen] at h fk
  unfold Sp.st27_7
  (repeat' (first | exact rfl | (refine StepOk.cnd (fun hc => ?_) (fun hc => ?_) <;> (try simp only [IntKind.wrap_i64, IntKind.wrap_u8, IntKind.wrap_u32, IntKind.wrap_u64, bne_eq_false_iff_eq, Int.natCast_inj, setE, copyL, sliceL, zrow, List.length_append, List.length_cons, List.length_nil, List.length_set, List.length_replicate, List.length_take, List.length_drop, decide_eq_true_eq, decide_eq_false_iff_not, Bool.or_eq_true, Bool.and_eq_true, Bool.or_eq_false_iff, Bool.and_eq_false_iff, Bool.not_eq_true', Bool.not_eq_false', Bool.not_eq_true, Bool.not_eq_false, beq_iff_eq, beq_eq_false_iff_ne, bne_iff_ne, ne_eq] at hc)) | refine StepOk.opt (fun _ => ?_))) <;> (first | exact rfl | (refine ⟨rfl, ?_, ?_⟩ <;> simp only [Sp.in27_7, Sp.mu27_7, IntKind.wrap_i64, IntKind.wrap_u8, IntKind.wrap_u32, IntKind.wrap_u64, Sp.tmod_lit, Sp.tdiv_lit, bne_eq_false_iff_eq, Int.natCast_inj, setE, copyL, sliceL, zrow, List.length_append, List.length_cons, List.length_nil, List.length_set, List.length_replicate, List.length_take, List.length_drop, decide_eq_true_eq, decide_eq_false_iff_not, Bool.or_eq_true, Bool.and_eq_true, Bool.or_eq_false_iff, Bool.and_eq_false_iff, Bool.not_eq_true', Bool.not_eq_false', Bool.not_eq_true, Bool.not_eq_false, beq_iff_eq, beq_eq_false_iff_ne, bne_iff_ne, ne_eq] <;> first | omega | (and_intros <;> first | omega | exact h.1 | exact h.2 | exact h.2.1 | exact h.2.2 | exact h.2.2.1 | exact h.2.2.2 | exact h.2.2.2.1 | exact h.2.2.2.2 | exact h.2.2.2.2.1 | exact h.2.2.2.2.2 | exact h.2.2.2.2.2.1 | exact h.2.2.2.2.2.2)))
set_option maxHeartbeats 4000000 in
theorem lo27_7 : LoopOk Try.prog gdS (RetAt Try.prog Try.f27 (Rsh.one (none)) none ty37) (bodyAt (bodyOf Try.f27) [0]) LS27_7 :=
  loop_run (ctxOkF gokGmT1 []) (L := lookL []) (d := BOut.brk (Ty.dflt (Ty.pair ty23 (Ty.pair ty3 ty25))) (Ty.dflt (Ty.pair ty4 ty3))) (loops_of (l := []) (by kernel_rfl) (loops_nil)) (fun k x fk fx h => slim_of (S := (((decide (x.2 < k.2.1)) = true → (0 ≤ x.2 ∧ x.2 < ((k.1).length : Int))))) (by kernel_rfl) (by
  try dsimp only [Ty.den] at *
  simp only [Sp.in27_7, Fit, maxLen] at h fk fx
  simp only [IntKind.wrap_i64, IntKind.wrap_u8, IntKind.wrap_u32, IntKind.wrap_u64, Sp.tmod_lit, Sp.tdiv_lit, bne_eq_false_iff_eq, Int.natCast_inj, setE, copyL, sliceL, zrow, List.length_append, List.length_cons, List.length_nil, List.length_set, List.length_replicate, List.length_take, List.length_drop, decide_eq_true_eq, decide_eq_false_iff_not, Bool.or_eq_true, Bool.and_eq_true, Bool.or_eq_false_iff, Bool.and_eq_false_iff, Bool.not_eq_true', Bool.not_eq_false', Bool.not_eq_true, Bool.not_eq_false, beq_iff_eq, beq_eq_false_iff_ne, bne_iff_ne, ne_eq, implies_true, and_true, true_and] at *
  all_goals ((repeat' (first | exact trivial | apply And.intro | intro _)) <;> first | trivial | omega | exact Sp.tmod_nn (by omega) | exact Sp.tmod_lt (by omega) (by omega)))) (fun k x => by kernel_rfl) so27_7
def ct27 : Ct := { p := ty25, psh := [some 8], r := ty37, rsh := (Rsh.one (none)), pre := none, fresh := none, F := Sp.F27 }
theorem ok27 : CtOk Try.prog gdS 27 ct27 :=
  fn_okU (ctxOkF gokGmT1 []) rfl Try.func27 (p := ty25) (psh := [some 8]) (r := ty37) (rsh := (Rsh.one (none))) (pre := none) (fresh := none) (F := Sp.F27) (L := (lookL [(7, LS27_7)])) (c := bodyOf Try.f27) (dflt := Ty.dflt ty37) rfl (loops_of (l := [bodyAt (bodyOf Try.f27) [0]]) (by kernel_rfl) (loops_cons (s0 := LS27_7) (by kernel_rfl) lo27_7 (loops_nil)))
    (fun x fx _ => slim_of (S := (((!(Sp.F50 ((2 : Int), (32 : Int), [x.1]))) = false → ((!(Sp.F50 ((1 : Int), (8 : Int), [((x.2.2.2.2.2.2.2).length : Int)]))) = false → (Sp.in27_7 (x.2.2.2.2.2.2.2, ((x.2.2.2.2.2.2.2).length : Int), x) (((Sp.F50 ((1 : Int), (16 : Int), [x.2.1])) && (Sp.F50 ((1 : Int), (10000 : Int), [x.2.2.2.1]))), (0 : Int))))))) (by kernel_rfl) (by
  try dsimp only [Ty.den] at *
  simp only [Fit, maxLen] at fx
  simp only [Sp.in27_7, IntKind.wrap_i64, IntKind.wrap_u8, IntKind.wrap_u32, IntKind.wrap_u64, Sp.tmod_lit, Sp.tdiv_lit, bne_eq_false_iff_eq, Int.natCast_inj, setE, copyL, sliceL, zrow, List.length_append, List.length_cons, List.length_nil, List.length_set, List.length_replicate, List.length_take, List.length_drop, decide_eq_true_eq, decide_eq_false_iff_not, Bool.or_eq_true, Bool.and_eq_true, Bool.or_eq_false_iff, Bool.and_eq_false_iff, Bool.not_eq_true', Bool.not_eq_false', Bool.not_eq_true, Bool.not_eq_false, beq_iff_eq, beq_eq_false_iff_ne, bne_iff_ne, ne_eq, implies_true, and_true, true_and] at *
  all_goals ((repeat' (first | exact trivial | apply And.intro | intro _)) <;> first | trivial | omega | exact Sp.tmod_nn (by omega) | exact Sp.tmod_lt (by omega) (by omega)))) (fun x => by kernel_rfl)
def LS40_7 : LS ty37.den := mkLS ty25 (Ty.pair ty4 ty3)  [] [(1, 8)] [(3, none), (4, none)] [] [] [] [(1, 1)] 0 false Sp.in40_7 Sp.st40_7 Sp.mu40_7
set_option maxHeartbeats 4000000 in
theorem so40_7 (k : ty25.den) (x : (Ty.pair ty4 ty3).den) (fk : Fit ty25 k) (h : Sp.in40_7 k x) : StepOk false Sp.in40_7 Sp.mu40_7 k x (Sp.st40_7 k x) := by
  try dsimp only [Ty.den] at *
  simp only [Sp.in40_7, Fit, maxLen] at h fk
  unfold Sp.st40_7
  (repeat' (first | exact rfl | (refine StepOk.cnd (fun hc => ?_) (fun hc => ?_) <;> (try simp only [IntKind.wrap_i64, IntKind.wrap_u8, IntKind.wrap_u32, IntKind.wrap_u64, bne_eq_false_iff_eq, Int.natCast_inj, setE, copyL, sliceL, zrow, List.length_append, List.length_cons, List.length_nil, List.length_set, List.length_replicate, List.length_take, List.length_drop, decide_eq_true_eq, decide_eq_false_iff_not, Bool.or_eq_true, Bool.and_eq_true, Bool.or_eq_false_iff, Bool.and_eq_false_iff, Bool.not_eq_true', Bool.not_eq_false', Bool.not_eq_true, Bool.not_eq_false, beq_iff_eq, beq_eq_false_iff_ne, bne_iff_ne, ne_eq] at hc)) | refine StepOk.opt (fun _ => ?_))) <;> (first | exact rfl | (refine ⟨rfl, ?_, ?_⟩ <;> simp only [Sp.in40_7, Sp.mu40_7, IntKind.wrap_i64, IntKind.wrap_u8, IntKind.wrap_u32, IntKind.wrap_u64, Sp.tmod_lit, Sp.tdiv_lit, bne_eq_false_iff_eq, Int.natCast_inj, setE, copyL, sliceL, zrow, List.length_append, List.length_cons, List.length_nil, List.length_set, List.length_replicate, List.length_take, List.length_drop, decide_eq_true_eq, decide_eq_false_iff_not, Bool.or_eq_true, Bool.and_eq_true, Bool.or_eq_false_iff, Bool.and_eq_false_iff, Bool.not_eq_true', Bool.not_eq_false', Bool.not_eq_true, Bool.not_eq_false, beq_iff_eq, beq_eq_false_iff_ne, bne_iff_ne, ne_eq] <;> first | omega | (and_intros <;> first | omega | exact h.1 | exact h.2 | exact h.2.1 | exact h.2.2 | exact h.2.2.1 | exact h.2.2.2 | exact h.2.2.2.1 | exact h.2.2.2.2 | exact h.2.2.2.2.1 | exact h.2.2.2.2.2 | exact h.2.2.2.2.2.1 | exact h.2.2.2.2.2.2)))
set_option maxHeartbeats 4000000 in
theorem lo40_7 : LoopOk Try.prog gdS (RetAt Try.prog Try.f40 (Rsh.one (none)) none ty37) (bodyAt (bodyOf Try.f40) [0]) LS40_7 :=
  loop_run (ctxOkF gokGmT1 []) (L := lookL []) (d := BOut.brk (Ty.dflt ty25) (Ty.dflt (Ty.pair ty4 ty3))) (loops_of (l := []) (by kernel_rfl) (loops_nil)) (fun k x fk fx h => slim_of (S := (((decide (x.2 < ((k.2.2.2.2.2.2.2).length : Int))) = true → ((x.1 = true → 0 ≤ x.2 ∧ x.2 < ((k.2.2.2.2.2.2.2).length : Int)))))) (by kernel_rfl) (by
  try dsimp only [Ty.den] at *
  simp only [Sp.in40_7, Fit, maxLen] at h fk fx
  simp only [IntKind.wrap_i64, IntKind.wrap_u8, IntKind.wrap_u32, IntKind.wrap_u64, Sp.tmod_lit, Sp.tdiv_lit, bne_eq_false_iff_eq, Int.natCast_inj, setE, copyL, sliceL, zrow, List.length_append, List.length_cons, List.length_nil, List.length_set, List.length_replicate, List.length_take, List.length_drop, decide_eq_true_eq, decide_eq_false_iff_not, Bool.or_eq_true, Bool.and_eq_true, Bool.or_eq_false_iff, Bool.and_eq_false_iff, Bool.not_eq_true', Bool.not_eq_false', Bool.not_eq_true, Bool.not_eq_false, beq_iff_eq, beq_eq_false_iff_ne, bne_iff_ne, ne_eq, implies_true, and_true, true_and] at *
  all_goals ((repeat' (first | exact trivial | apply And.intro | intro _)) <;> first | trivial | omega | exact Sp.tmod_nn (by omega) | exact Sp.tmod_lt (by omega) (by omega)))) (fun k x => by kernel_rfl) so40_7
def ct40 : Ct := { p := ty25, psh := [some 8], r := ty37, rsh := (Rsh.one (none)), pre := none, fresh := none, F := Sp.F40 }
theorem ok40 : CtOk Try.prog gdS 40 ct40 :=
  fn_okU (ctxOkF gokGmT1 []) rfl Try.func40 (p := ty25) (psh := [some 8]) (r := ty37) (rsh := (Rsh.one (none))) (pre := none) (fresh := none) (F := Sp.F40) (L := (lookL [(7, LS40_7)])) (c := bodyOf Try.f40) (dflt := Ty.dflt ty37) rfl (loops_of (l := [bodyAt (bodyOf Try.f40) [0]]) (by kernel_rfl) (loops_cons (s0 := LS40_7) (by kernel_rfl) lo40_7 (loops_nil)))
    (fun x fx _ => slim_of (S := (((!(Sp.F68 (x.1, (2 : Int), (32 : Int)))) = false → ((!(Sp.F68 (((x.2.2.2.2.2.2.2).length : Int), (1 : Int), (8 : Int)))) = false → (Sp.in40_7 x (((Sp.F68 (x.2.1, (1 : Int), (16 : Int))) && (Sp.F68 (x.2.2.2.1, (1 : Int), (10000 : Int)))), (0 : Int))))))) (by kernel_rfl) (by
  try dsimp only [Ty.den] at *
  simp only [Fit, maxLen] at fx
  simp only [Sp.in40_7, IntKind.wrap_i64, IntKind.wrap_u8, IntKind.wrap_u32, IntKind.wrap_u64, Sp.tmod_lit, Sp.tdiv_lit, bne_eq_false_iff_eq, Int.natCast_inj, setE, copyL, sliceL, zrow, List.length_append, List.length_cons, List.length_nil, List.length_set, List.length_replicate, List.length_take, List.length_drop, decide_eq_true_eq, decide_eq_false_iff_not, Bool.or_eq_true, Bool.and_eq_true, Bool.or_eq_false_iff, Bool.and_eq_false_iff, Bool.not_eq_true', Bool.not_eq_false', Bool.not_eq_true, Bool.not_eq_false, beq_iff_eq, beq_eq_false_iff_ne, bne_iff_ne, ne_eq, implies_true, and_true, true_and] at *
  all_goals ((repeat' (first | exact trivial | apply And.intro | intro _)) <;> first | trivial | omega | exact Sp.tmod_nn (by omega) | exact Sp.tmod_lt (by omega) (by omega)))) (fun x => by kernel_rfl)
def GmT2 : List (Nat × Ct) := (27, ct27) :: (40, ct40) :: GmT1
theorem gokGmT2 : GOk GmT2 := gok_cons ok27 ⟨_, Try.func27, by kernel_rfl, by kernel_rfl⟩ (gok_cons ok40 ⟨_, Try.func40, by kernel_rfl, by kernel_rfl⟩ (gokGmT1))
end Go.Proofs.Ytbnihoioblmgkaa.Sy
end

section
/- Laws of rounds (own work): what a loop comes to. -/
namespace Go.Proofs.Ytbnihoioblmgkaa.Sp
open Go Sy
set_option linter.unusedVariables false
set_option linter.unusedSimpArgs false
section
variable {K X ρ : Type} {step : K → X → BOut K X ρ} {k : K}
theorem ret_none (I : X → Prop) (h : ∀ x, I x → match step k x with | .next _ y => I y | .brk _ _ => True | .ret _ => False) : ∀ (n : Nat) (x : X), I x → retOf step k n x = none
  | 0, _, _ => rfl
  | n + 1, x, hx => by
    have := h x hx
    simp only [retOf]
    cases hs : step k x with
    | next k' y => rw [hs] at this; exact ret_none I h n _ this
    | brk k' y => rfl
    | ret r => rw [hs] at this; exact this.elim
theorem end_row (s : Nat → X) (n : Nat) (h : ∀ i, i < n → ∃ k', step k (s i) = .next k' (s (i + 1))) : ∀ (i fuel : Nat), i ≤ n →
    endOf step k (fuel + (n - i)) (s i) = endOf step k fuel (s n) ∧ retOf step k (fuel + (n - i)) (s i) = retOf step k fuel (s n) := by
  intro i fuel hi
  induction hd : n - i generalizing i with
  | zero => have : i = n := by omega
            subst this; exact ⟨rfl, rfl⟩
  | succ d ih =>
    obtain ⟨k', h1⟩ := h i (by omega)
    have := ih (i + 1) (by omega) (by omega)
    rw [show fuel + (d + 1) = (fuel + d) + 1 by omega]
    simp only [endOf, retOf, h1]
    exact this
theorem end_row_brk (s : Nat → X) (n : Nat) (h : ∀ i, i < n → ∃ k', step k (s i) = .next k' (s (i + 1))) {k' : K} {y : X} (hb : step k (s n) = .brk k' y) {fuel : Nat} (hf : n < fuel) :
    endOf step k fuel (s 0) = y ∧ retOf step k fuel (s 0) = none := by
  have := end_row s n h 0 (fuel - n) (by omega)
  rw [show fuel - n + (n - 0) = fuel by omega] at this
  rw [this.1, this.2, show fuel - n = (fuel - n - 1) + 1 by omega]
  simp only [endOf, retOf, hb, and_self]
theorem end_row_ret (s : Nat → X) (n : Nat) (h : ∀ i, i < n → ∃ k', step k (s i) = .next k' (s (i + 1))) {r : ρ} (hb : step k (s n) = .ret r) {fuel : Nat} (hf : n < fuel) :
    retOf step k fuel (s 0) = some r := by
  have := end_row s n h 0 (fuel - n) (by omega)
  rw [show fuel - n + (n - 0) = fuel by omega] at this
  rw [this.2, show fuel - n = (fuel - n - 1) + 1 by omega]
  simp only [retOf, hb]
theorem ret_row (s : Nat → X) (f : Nat → Option ρ) (n : Nat) (h : ∀ i, i < n → match f i with | some r => step k (s i) = .ret r | none => ∃ k', step k (s i) = .next k' (s (i + 1)))
    {k' : K} {y : X} (hb : step k (s n) = .brk k' y) : ∀ {fuel : Nat}, n < fuel → retOf step k fuel (s 0) = (List.range n).findSome? f := by
  have key : ∀ d i fuel, n - i = d → i ≤ n → d < fuel → retOf step k fuel (s i) = (List.range' i d).findSome? f := by
    intro d
    induction d with
    | zero =>
      intro i fuel hd hi hf
      have : i = n := by omega
      subst this
      obtain ⟨g, rfl⟩ : ∃ g, fuel = g + 1 := ⟨fuel - 1, by omega⟩
      simp only [retOf, hb]; rfl
    | succ d ih =>
      intro i fuel hd hi hf
      obtain ⟨g, rfl⟩ : ∃ g, fuel = g + 1 := ⟨fuel - 1, by omega⟩
      have := h i (by omega)
      rw [List.range'_succ, List.findSome?_cons]
      cases hfi : f i with
      | some r => rw [hfi] at this; simp only at this; simp only [retOf, this]
      | none =>
        rw [hfi] at this
        obtain ⟨k'', h1⟩ := this
        simp only [retOf, h1]
        exact ih (i + 1) g (by omega) (by omega) (by omega)
  intro fuel hf
  rw [key n 0 fuel rfl (by omega) hf, List.range_eq_range']
theorem loop_spec (I : X → Prop) (mu : X → Nat) (Q : Option ρ → X → Prop)
    (h : ∀ x, I x → match step k x with | .next _ y => I y ∧ mu y < mu x | .brk _ y => Q none y | .ret r => Q (some r) x) : ∀ (n : Nat) (x : X), I x → mu x < n → Q (retOf step k n x) (endOf step k n x)
  | 0, _, _, hn => by omega
  | n + 1, x, hx, hn => by
    have := h x hx
    simp only [retOf, endOf]
    cases hs : step k x with
    | next k' y => rw [hs] at this; exact loop_spec I mu Q h n _ this.1 (by have := this.2; omega)
    | brk k' y => rw [hs] at this; exact this
    | ret r => rw [hs] at this; exact this
theorem loop_sim {K' X' : Type} {step' : K' → X' → BOut K' X' ρ} {k' : K'} (I : X → X' → Prop)
    (h : ∀ x x', I x x' → match step k x, step' k' x' with | .next _ y, .next _ y' => I y y' | .brk _ y, .brk _ y' => I y y' | .ret r, .ret r' => r = r' | _, _ => False) :
    ∀ (n : Nat) (x : X) (x' : X'), I x x' → I (endOf step k n x) (endOf step' k' n x') ∧ retOf step k n x = retOf step' k' n x'
  | 0, _, _, hx => ⟨hx, rfl⟩
  | n + 1, x, x', hx => by
    have := h x x' hx
    simp only [retOf, endOf]
    cases hs : step k x <;> cases hs' : step' k' x' <;> rw [hs, hs'] at this
    · exact loop_sim I h n _ _ this
    · exact this.elim
    · exact this.elim
    · exact this.elim
    · exact ⟨this, rfl⟩
    · exact this.elim
    · exact this.elim
    · exact this.elim
    · exact ⟨hx, by rw [this]⟩
theorem end_fold {α β : Type} {step : K → β × Int → BOut K (β × Int) ρ} (l : List α) (f : β → α → β) (hl : l.length ≤ maxLen)
    (h : ∀ m (i : Nat) (hi : i < l.length), ∃ k', step k (m, (i : Int)) = .next k' (f m l[i], IntKind.i64.wrap ((i : Int) + 1)))
    (hb : ∀ m, ∃ k', step k (m, (l.length : Int)) = .brk k' (m, (l.length : Int))) (m0 : β) {fuel : Nat} (hf : l.length < fuel) :
    endOf step k fuel (m0, 0) = (l.foldl f m0, (l.length : Int)) ∧ retOf step k fuel (m0, 0) = none := by
  have hs : ∀ i, i < l.length → ∃ k', step k ((fun i : Nat => ((l.take i).foldl f m0, (i : Int))) i) = .next k' ((fun i : Nat => ((l.take i).foldl f m0, (i : Int))) (i + 1)) := by
    intro i hi
    obtain ⟨k', h1⟩ := h ((l.take i).foldl f m0) i hi
    refine ⟨k', ?_⟩
    simp only [h1]
    have h2 : IntKind.i64.wrap ((i : Int) + 1) = ((i + 1 : Nat) : Int) := by simp only [maxLen] at hl; rw [IntKind.wrap_i64]; omega
    rw [h2, List.take_add_one, List.getElem?_eq_getElem hi, List.foldl_append]; rfl
  obtain ⟨k', hb'⟩ := hb (l.foldl f m0)
  have h0 := end_row_brk _ l.length hs (k' := k') (y := (l.foldl f m0, (l.length : Int))) (by simp only [List.take_length]; exact hb') hf
  simpa using h0
theorem nthT_nat {α : Type} [Inhabited α] (l : List α) (i : Nat) (h : i < l.length) : nthT l (i : Int) = l[i] := by
  simp [nthT, List.getD_eq_getElem?_getD, List.getElem?_eq_getElem h]
theorem nthT_of {α : Type} [Inhabited α] (l : List α) (i : Int) (h0 : 0 ≤ i) (h : i < l.length) : nthT l i = l[i.toNat]'(by omega) := by
  have : i.toNat < l.length := by omega
  simp [nthT, List.getD_eq_getElem?_getD, List.getElem?_eq_getElem this]
theorem findSome_range {α : Type} [Inhabited α] (l : List α) (g : α → Option ρ) : (List.range l.length).findSome? (fun (i : Nat) => g (nthT l (i : Int))) = l.findSome? g := by
  have : (List.range l.length).map (fun (i : Nat) => nthT l (i : Int)) = l := by
    apply List.ext_getElem
    · simp
    · intro i h1 h2; simp at h1; simp [nthT_nat l i h1]
  calc _ = ((List.range l.length).map (fun (i : Nat) => nthT l (i : Int))).findSome? g := by rw [List.findSome?_map]; rfl
    _ = _ := by rw [this]
theorem optR_none {α β : Type} (f : α → β) (d : β) : optR none f d = d := rfl
theorem optR_some {α β : Type} (r : α) (f : α → β) (d : β) : optR (some r) f d = f r := rfl
theorem findSome_all {α : Type} (l : List α) (p : α → Bool) : optR (l.findSome? (fun n => if p n then none else some false)) (fun y => y) true = l.all p := by
  induction l with
  | nil => rfl
  | cons a l ih =>
    rw [List.findSome?_cons]
    cases hp : p a with
    | true => simp only [if_true]; rw [ih]; simp [hp]
    | false => simp [hp, optR]
end
end Go.Proofs.Ytbnihoioblmgkaa.Sp
namespace Go.Proofs.Ytbnihoioblmgkaa.Sp
open Go Sy
theorem wrap_succ {i n : Nat} (hi : i < n) (hn : n ≤ maxLen) : IntKind.i64.wrap ((i : Int) + 1) = ((i + 1 : Nat) : Int) := by
  simp only [maxLen] at hn
  rw [IntKind.wrap_i64]; omega
section
variable {K ρ : Type} {k : K}
theorem end_all {α : Type} [Inhabited α] {step : K → Bool × Int → BOut K (Bool × Int) ρ} (l : List α) (p : α → Bool) (hl : l.length ≤ maxLen)
    (h : ∀ b i, step k (b, i) = bif decide (i < (l.length : Int)) then .next k (b && p (nthT l i), IntKind.i64.wrap (i + 1)) else .brk k (b, i)) (b0 : Bool) {fuel : Nat} (hf : l.length < fuel) :
    (endOf step k fuel (b0, 0)).1 = (b0 && l.all p) := by
  have hs : ∀ i, i < l.length → ∃ k', step k ((fun i : Nat => (b0 && (l.take i).all p, (i : Int))) i) = .next k' ((fun i : Nat => (b0 && (l.take i).all p, (i : Int))) (i + 1)) := by
    intro i hi
    refine ⟨k, ?_⟩
    simp only [h]
    have h1 : decide ((i : Int) < (l.length : Int)) = true := by simp; omega
    have h2 : (l.take (i + 1)).all p = ((l.take i).all p && p l[i]) := by rw [List.take_add_one, List.getElem?_eq_getElem hi, List.all_append]; simp only [Option.toList_some, List.all_cons, List.all_nil, Bool.and_true]
    rw [h1, wrap_succ hi hl, nthT_nat l i hi, h2]
    simp [Bool.and_assoc]
  have hb : step k ((fun i : Nat => (b0 && (l.take i).all p, (i : Int))) l.length) = .brk k (b0 && l.all p, (l.length : Int)) := by
    simp only [h]
    have h1 : decide ((l.length : Int) < (l.length : Int)) = false := by simp
    rw [h1]; simp
  have := (end_row_brk _ l.length hs hb hf).1
  simp only [List.take_zero, List.all_nil, Bool.and_true, Int.ofNat_zero] at this
  have h3 : endOf step k fuel (b0, 0) = (b0 && l.all p, (l.length : Int)) := this
  rw [h3]
end
end Go.Proofs.Ytbnihoioblmgkaa.Sp
end

section
/- What building's smallest functions say (own work). -/
namespace Go.Proofs.Ytbnihoioblmgkaa.Sp
open Go Sy
set_option linter.unusedVariables false
set_option linter.unusedSimpArgs false
theorem within_eq (lo hi : Int) (l : List Int) (hl : l.length ≤ maxLen) : F50 (lo, hi, l) = l.all fun n => decide (lo ≤ n) && decide (n ≤ hi) := by
  unfold F50
  rw [← findSome_all]
  congr 1
  simp only [R50_2]
  rw [← findSome_range l]
  have := ret_row (step := st50_2) (k := (lo, hi, l, (l.length : Int))) (fun i => (i : Int)) (fun i => (fun n => if (decide (lo ≤ n) && decide (n ≤ hi)) = true then none else some false) (nthT l (i : Int))) l.length (fun i hi' => ?_) (k' := (lo, hi, l, (l.length : Int))) (y := (l.length : Int)) ?_ (fuel := Nat.succ (mu50_2 (lo, hi, l, (l.length : Int)) 0)) ?_
  · exact this
  · simp only [maxLen] at hl
    by_cases h : (decide (lo ≤ nthT l (i : Int)) && decide (nthT l (i : Int) ≤ hi)) = true
    · simp only [h, if_true]
      refine ⟨(lo, hi, l, (l.length : Int)), ?_⟩
      simp only [Bool.and_eq_true, decide_eq_true_eq] at h
      have h1 : ¬ nthT l (i : Int) < lo := by omega
      have h2 : ¬ nthT l (i : Int) > hi := by omega
      have h3 : IntKind.i64.wrap ((i : Int) + 1) = ((i + 1 : Nat) : Int) := by rw [IntKind.wrap_i64]; omega
      simp [st50_2, hi', h1, h2, h3]
    · simp only [h]
      simp only [Bool.and_eq_true, decide_eq_true_eq] at h
      have h1 : nthT l (i : Int) < lo ∨ nthT l (i : Int) > hi := by omega
      have h2 : (decide (nthT l (i : Int) < lo) || decide (nthT l (i : Int) > hi)) = true := by simpa using h1
      simp only [st50_2]
      have h3 : decide ((i : Int) < (l.length : Int)) = true := by simp; omega
      rw [h3, h2]; rfl
  · simp [st50_2]
  · simp [mu50_2]
theorem within_one (lo hi n : Int) : F50 (lo, hi, [n]) = (decide (lo ≤ n) && decide (n ≤ hi)) := by
  rw [within_eq _ _ _ (by simp [maxLen])]; simp
end Go.Proofs.Ytbnihoioblmgkaa.Sp
end

section
/- Which buildings are valid, for the program and the reference (own work). -/
namespace Go.Proofs.Ytbnihoioblmgkaa.Sp
open Go Sy
set_option linter.unusedVariables false
set_option linter.unusedSimpArgs false
abbrev CarT := Int × Int × Int × Int × Int × Int × Int × Int × Int
abbrev BldT := Int × Int × Int × Int × Nat × Nat × Nat × List CarT
abbrev BldT.cars (b : BldT) : List CarT := b.2.2.2.2.2.2.2
def tOk (n : Int) : Bool := decide (1 ≤ n) && decide (n ≤ 10000)
def carOk (fl : Int) (c : CarT) : Bool :=
  tOk c.1 && tOk c.2.1 && tOk c.2.2.1 && tOk c.2.2.2.2.1 && tOk c.2.2.2.2.2.1 && tOk c.2.2.2.2.2.2.1 && tOk c.2.2.2.2.2.2.2.1 && (decide (0 ≤ c.2.2.2.1) && decide (c.2.2.2.1 ≤ 10000)) &&
    decide (c.2.2.2.2.2.2.2.1 ≥ c.2.2.2.2.2.2.1) && (decide (0 ≤ c.2.2.2.2.2.2.2.2) && decide (c.2.2.2.2.2.2.2.2 ≤ fl - 1))
def loadsOk (b : BldT) : Bool := F52 b
def vld (b : BldT) : Int :=
  if ¬ (2 ≤ b.1 ∧ b.1 ≤ 32) then 10
  else if ¬ (1 ≤ b.cars.length ∧ b.cars.length ≤ 8) then 11
  else if ((decide (1 ≤ b.2.1) && decide (b.2.1 ≤ 16)) && (decide (1 ≤ b.2.2.2.1) && decide (b.2.2.2.1 ≤ 10000)) && b.cars.all (carOk b.1)) = false then 12
  else if loadsOk b = false then 13
  else if ¬ (18 * (b.cars.length : Int) + 24 ≤ b.2.2.1 ∧ b.2.2.1 ≤ 65536) then 14
  else 0
theorem in_eq (n lo hi : Int) : F68 (n, lo, hi) = (decide (lo ≤ n) && decide (n ≤ hi)) := rfl
theorem times_eq (c : CarT) (fl : Int) (h : 2 ≤ fl ∧ fl ≤ 32) : F51 (c, fl) = carOk fl c := by
  unfold F51 carOk tOk
  rw [within_eq _ _ _ (by simp [maxLen]), within_one, within_one, wrap_i64_of (by omega) (by omega)]
  simp only [List.all_cons, List.all_nil, Bool.and_true, Bool.and_assoc]
theorem rtimes_eq (b : BldT) (c : CarT) (h : 2 ≤ b.1 ∧ b.1 ≤ 32) : F69 (b, c) = carOk b.1 c := by
  unfold F69
  simp only [in_eq]
  rw [wrap_i64_of (x := b.1 - 1) (by omega) (by omega)]
  by_cases hs : c.2.2.2.1 < 0 ∨ c.2.2.2.1 > 10000
  · have h1 : (decide (c.2.2.2.1 < 0) || decide (c.2.2.2.1 > 10000)) = true := by simpa using hs
    rw [h1]
    have h2 : (decide (0 ≤ c.2.2.2.1) && decide (c.2.2.2.1 ≤ 10000)) = false := by
      simp only [Bool.and_eq_false_iff, decide_eq_false_iff_not]; omega
    unfold carOk
    rw [h2]
    simp
  · have h1 : (decide (c.2.2.2.1 < 0) || decide (c.2.2.2.1 > 10000)) = false := by simpa using hs
    have h2 : (decide (0 ≤ c.2.2.2.1) && decide (c.2.2.2.1 ≤ 10000)) = true := by
      simp only [Bool.and_eq_true, decide_eq_true_eq]; omega
    rw [h1]
    simp only [cond_false]
    let l : List Int := [c.1, c.2.1, c.2.2.1, c.2.2.2.2.1, c.2.2.2.2.2.1, c.2.2.2.2.2.2.1, c.2.2.2.2.2.2.2.1]
    have hR : R69_5 (l ++ [IntKind.i64.wrap (c.2.2.2.1 + 1)]) 0 = l.findSome? (fun n => if tOk n then none else some false) := by
      simp only [R69_5]
      rw [← findSome_range l]
      have := ret_row (step := st69_5) (k := l ++ [IntKind.i64.wrap (c.2.2.2.1 + 1)]) (fun i => (i : Int)) (fun i => (fun n => if tOk n then none else some false) (nthT l (i : Int))) 7 (fun i hi => ?_) (k' := l ++ [IntKind.i64.wrap (c.2.2.2.1 + 1)]) (y := (7 : Int)) ?_ (fuel := Nat.succ (mu69_5 (l ++ [IntKind.i64.wrap (c.2.2.2.1 + 1)]) 0)) ?_
      · exact this
      · have hn : nthT (l ++ [IntKind.i64.wrap (c.2.2.2.1 + 1)]) (i : Int) = nthT l (i : Int) := by
          rw [nthT_nat _ i (by simp [l]; omega), nthT_nat l i (by simpa [l] using hi), List.getElem_append_left]
        have h3 : decide ((i : Int) < 7) = true := by simp; omega
        simp only [st69_5, hn, h3, cond_true, in_eq]
        have h4 : (decide (1 ≤ nthT l (i : Int)) && decide (nthT l (i : Int) ≤ 10000)) = tOk (nthT l (i : Int)) := rfl
        rw [h4, wrap_succ hi (by simp [maxLen])]
        cases tOk (nthT l (i : Int)) with
        | true => exact ⟨_, rfl⟩
        | false => rfl
      · simp [st69_5]
      · simp [mu69_5]
    have hR' : R69_5 [c.1, c.2.1, c.2.2.1, c.2.2.2.2.1, c.2.2.2.2.2.1, c.2.2.2.2.2.2.1, c.2.2.2.2.2.2.2.1, IntKind.i64.wrap (c.2.2.2.1 + 1)] 0 = l.findSome? (fun n => if tOk n then none else some false) := hR
    rw [hR']
    have h5 := findSome_all l tOk
    have h6 : ∀ d : Bool, optR (l.findSome? (fun n => if tOk n then none else some false)) (fun y => y) d = (l.all tOk && d) := by
      intro d
      cases hq : l.findSome? (fun n => if tOk n then none else some false) with
      | none =>
        rw [hq, optR_none] at h5
        rw [optR_none, ← h5]; rfl
      | some r =>
        rw [hq, optR_some] at h5
        rw [optR_some]
        have : r = false := by
          obtain ⟨x, _, hx⟩ := List.exists_of_findSome?_eq_some hq
          split at hx
          · cases hx
          · simpa using hx.symm
        rw [← h5, this]; rfl
    rw [h6]
    unfold carOk
    rw [h2]
    simp only [l, List.all_cons, List.all_nil, Bool.and_true, Bool.and_assoc]
theorem valid_eq (b : BldT) (hl : b.cars.length ≤ maxLen) : F27 b = vld b := by
  unfold F27 vld
  simp only [within_one]
  by_cases h1 : 2 ≤ b.1 ∧ b.1 ≤ 32
  · have e1 : (!(decide (2 ≤ b.1) && decide (b.1 ≤ 32))) = false := by simp [h1]
    rw [e1, if_neg (by simpa using h1)]
    simp only [cond_false]
    by_cases h2 : 1 ≤ b.cars.length ∧ b.cars.length ≤ 8
    · have e2 : (!(decide ((1 : Int) ≤ (b.cars.length : Int)) && decide ((b.cars.length : Int) ≤ 8))) = false := by simp; omega
      rw [e2, if_neg (by simpa using h2)]
      simp only [cond_false]
      have e3 : ∀ b0 : Bool, (G27_7 (b.cars, (b.cars.length : Int), b) (b0, 0)).1 = (b0 && b.cars.all (carOk b.1)) := by
        intro b0
        unfold G27_7
        refine end_all b.cars (carOk b.1) hl (fun b' i => ?_) b0 (by simp [mu27_7])
        simp only [st27_7, times_eq _ _ h1]
      rw [e3]
      rw [wrap_i64_of (x := 18 * (b.cars.length : Int)) (by omega) (by omega), wrap_i64_of (by omega) (by omega)]
      cases h3 : ((decide (1 ≤ b.2.1) && decide (b.2.1 ≤ 16)) && (decide (1 ≤ b.2.2.2.1) && decide (b.2.2.2.1 ≤ 10000)) && b.cars.all (carOk b.1)) with
      | false => rfl
      | true =>
        simp only [Bool.not_true, cond_false, Bool.true_eq_false, if_false]
        show (bif !loadsOk b then _ else _) = _
        cases h4 : loadsOk b with
        | false => rfl
        | true =>
          simp only [Bool.not_true, cond_false, Bool.true_eq_false, if_false]
          by_cases h5 : 18 * (b.cars.length : Int) + 24 ≤ b.2.2.1 ∧ b.2.2.1 ≤ 65536
          · rw [if_neg (by simpa using h5)]; simp [h5]
          · rw [if_pos h5]
            have : (decide (18 * (b.cars.length : Int) + 24 ≤ b.2.2.1) && decide (b.2.2.1 ≤ 65536)) = false := by
              simp only [Bool.and_eq_false_iff, decide_eq_false_iff_not]; omega
            rw [this]; rfl
    · have e2 : (!(decide ((1 : Int) ≤ (b.cars.length : Int)) && decide ((b.cars.length : Int) ≤ 8))) = true := by
        simp only [Bool.not_eq_true', Bool.and_eq_false_iff, decide_eq_false_iff_not]; omega
      rw [e2, if_pos h2]; rfl
  · have e1 : (!(decide (2 ≤ b.1) && decide (b.1 ≤ 32))) = true := by
      simp only [Bool.not_eq_true', Bool.and_eq_false_iff, decide_eq_false_iff_not]; omega
    rw [e1, if_pos h1]; rfl
theorem rvalid_eq (b : BldT) (hl : b.cars.length ≤ maxLen) : F40 b = vld b := by
  unfold F40 vld
  simp only [in_eq]
  by_cases h1 : 2 ≤ b.1 ∧ b.1 ≤ 32
  · have e1 : (!(decide (2 ≤ b.1) && decide (b.1 ≤ 32))) = false := by simp [h1]
    rw [e1, if_neg (by simpa using h1)]
    simp only [cond_false]
    by_cases h2 : 1 ≤ b.cars.length ∧ b.cars.length ≤ 8
    · have e2 : (!(decide ((1 : Int) ≤ (b.cars.length : Int)) && decide ((b.cars.length : Int) ≤ 8))) = false := by simp; omega
      rw [e2, if_neg (by simpa using h2)]
      simp only [cond_false]
      have e3 : ∀ b0 : Bool, (G40_7 b (b0, 0)).1 = (b0 && b.cars.all (carOk b.1)) := by
        intro b0
        unfold G40_7
        refine end_all b.cars (carOk b.1) hl (fun b' i => ?_) b0 (by simp [mu40_7])
        simp only [st40_7, rtimes_eq _ _ h1]
      rw [e3]
      rw [wrap_i64_of (x := 18 * (b.cars.length : Int)) (by omega) (by omega), wrap_i64_of (by omega) (by omega)]
      cases h3 : ((decide (1 ≤ b.2.1) && decide (b.2.1 ≤ 16)) && (decide (1 ≤ b.2.2.2.1) && decide (b.2.2.2.1 ≤ 10000)) && b.cars.all (carOk b.1)) with
      | false => rfl
      | true =>
        simp only [Bool.not_true, cond_false, Bool.true_eq_false, if_false]
        show (bif !loadsOk b then _ else _) = _
        cases h4 : loadsOk b with
        | false => rfl
        | true =>
          simp only [Bool.not_true, cond_false, Bool.true_eq_false, if_false]
          by_cases h5 : 18 * (b.cars.length : Int) + 24 ≤ b.2.2.1 ∧ b.2.2.1 ≤ 65536
          · rw [if_neg (by simpa using h5)]; simp [h5]
          · rw [if_pos h5]
            have : (decide (18 * (b.cars.length : Int) + 24 ≤ b.2.2.1) && decide (b.2.2.1 ≤ 65536)) = false := by
              simp only [Bool.and_eq_false_iff, decide_eq_false_iff_not]; omega
            rw [this]; rfl
    · have e2 : (!(decide ((1 : Int) ≤ (b.cars.length : Int)) && decide ((b.cars.length : Int) ≤ 8))) = true := by
        simp only [Bool.not_eq_true', Bool.and_eq_false_iff, decide_eq_false_iff_not]; omega
      rw [e2, if_pos h2]; rfl
  · have e1 : (!(decide (2 ≤ b.1) && decide (b.1 ≤ 32))) = true := by
      simp only [Bool.not_eq_true', Bool.and_eq_false_iff, decide_eq_false_iff_not]; omega
    rw [e1, if_pos h1]; rfl
structure IsB (b : BldT) : Prop where
  fl : 2 ≤ b.1 ∧ b.1 ≤ 32
  cn : 1 ≤ b.cars.length ∧ b.cars.length ≤ 8
  deb : 1 ≤ b.2.1 ∧ b.2.1 ≤ 16
  park : 1 ≤ b.2.2.2.1 ∧ b.2.2.2.1 ≤ 10000
  car : ∀ c ∈ b.cars, carOk b.1 c = true
  loads : loadsOk b = true
  room : 18 * (b.cars.length : Int) + 24 ≤ b.2.2.1 ∧ b.2.2.1 ≤ 65536
theorem vld_zero (b : BldT) : vld b = 0 ↔ IsB b := by
  unfold vld
  constructor
  · intro h
    split at h
    · cases h
    · rename_i h1
      split at h
      · cases h
      · rename_i h2
        split at h
        · cases h
        · rename_i h3
          split at h
          · cases h
          · rename_i h4
            split at h
            · cases h
            · rename_i h5
              simp only [Bool.not_eq_false, Bool.and_eq_true, decide_eq_true_eq, List.all_eq_true] at h3
              exact ⟨by omega, by omega, h3.1.1, h3.1.2, h3.2, by simpa using h4, by omega⟩
  · intro h
    rw [if_neg (by simpa using h.fl), if_neg (by simpa using h.cn), if_neg, if_neg (by simp [h.loads]), if_neg (by simpa using h.room)]
    simp only [Bool.not_eq_false, Bool.and_eq_true, decide_eq_true_eq, List.all_eq_true]
    exact ⟨⟨h.deb, h.park⟩, h.car⟩
theorem fit_cars {b : BldT} (h : Fit ty25 b) : b.cars.length ≤ maxLen := h.2.2.2.2.2.2.2.1
theorem valid_b {b : BldT} (hl : b.cars.length ≤ maxLen) (h : F27 b = 0) : IsB b := (vld_zero b).1 (by rw [← valid_eq b hl]; exact h)
theorem rvalid_b {b : BldT} (hl : b.cars.length ≤ maxLen) (h : F40 b = 0) : IsB b := (vld_zero b).1 (by rw [← rvalid_eq b hl]; exact h)
end Go.Proofs.Ytbnihoioblmgkaa.Sp
end

section
/- The sample buildings, and bounds (own work). -/
namespace Go.Proofs.Ytbnihoioblmgkaa.Sp
open Go Sy
set_option linter.unusedVariables false
set_option linter.unusedSimpArgs false
def sampleCar (fl : Int) (i : Nat) : CarT := (100, 2, 6, 5, 4, 2, 3, 10, (i : Int) % fl)
def sampleB (fl : Int) (n : Nat) : BldT := (fl, 1, 4000, 30, 4591870180066957722, 4605380978949069210, 4607632778762754458, (List.range n).map (sampleCar fl))
theorem sample_eq (fl : Int) (n : Nat) (h0 : 1 ≤ fl) (hn : n ≤ 100) : F25 (fl, (n : Int)) = sampleB fl n := by
  unfold F25 G25_3
  have hs : ∀ i, i < n → ∃ k', st25_3 (fl, (n : Int)) ((fun i : Nat => ((i : Int), sampleB fl i)) i) = .next k' ((fun i : Nat => ((i : Int), sampleB fl i)) (i + 1)) := by
    intro i hi
    refine ⟨(fl, (n : Int)), ?_⟩
    have h1 : decide ((i : Int) < (n : Int)) = true := by simp; omega
    simp only [st25_3, sampleB, h1, cond_true, wrap_succ hi (show n ≤ maxLen by simp [maxLen]; omega), List.range_succ, List.map_append, List.map_cons, List.map_nil, sampleCar,
      Int.tmod_eq_emod_of_nonneg (Int.natCast_nonneg i)]
  have hb : st25_3 (fl, (n : Int)) ((fun i : Nat => ((i : Int), sampleB fl i)) n) = .brk (fl, (n : Int)) ((n : Int), sampleB fl n) := by
    simp [st25_3]
  have := (end_row_brk _ n hs hb (fuel := Nat.succ (mu25_3 (fl, (n : Int)) (0, sampleB fl 0))) (by simp [mu25_3])).1
  exact congrArg Prod.snd this
theorem sample_cars (fl : Int) (n : Nat) : (sampleB fl n).cars = (List.range n).map (sampleCar fl) := rfl
theorem sample_len (fl : Int) (n : Nat) : (sampleB fl n).cars.length = n := by simp [sample_cars]
theorem sample_isB (fl : Int) (n : Nat) (h : 2 ≤ fl ∧ fl ≤ 32) (hn : 1 ≤ n ∧ n ≤ 8) : IsB (sampleB fl n) where
  fl := h
  cn := by rw [sample_len]; exact hn
  deb := by show (1 : Int) ≤ 1 ∧ (1 : Int) ≤ 16; decide
  park := by show (1 : Int) ≤ 30 ∧ (30 : Int) ≤ 10000; decide
  car := by
    intro c hc
    rw [sample_cars, List.mem_map] at hc
    obtain ⟨i, hi, rfl⟩ := hc
    have h1 : 0 ≤ (i : Int) % fl := Int.emod_nonneg _ (by omega)
    have h2 : (i : Int) % fl < fl := Int.emod_lt_of_pos _ (by omega)
    have h3 : (i : Int) % fl ≤ fl - 1 := by omega
    simp only [carOk, sampleCar, tOk, sampleB]
    simp [h1, h3]
  loads := by simp only [loadsOk, sampleB]; kernel_rfl
  room := by rw [sample_len]; simp only [sampleB]; omega
end Go.Proofs.Ytbnihoioblmgkaa.Sp
end

section
/- The buildings of the laws (own work). -/
namespace Go.Proofs.Ytbnihoioblmgkaa.Sp
open Go Sy
set_option linter.unusedVariables false
set_option linter.unusedSimpArgs false
theorem build_eq {x : Int} (h : 0 ≤ x ∧ x ≤ 255) : F9 x = sampleB (2 + x % 31) (1 + x / 31 % 8).toNat := by
  unfold F9
  rw [← sample_eq _ _ (by omega) (by omega)]
  congr 1
  have h1 : IntKind.i64.wrap ((2 : Int) + (IntKind.i64.wrap (Int.tmod x (31 : Int)))) = 2 + x % 31 := by simp only [tmod_ite, IntKind.wrap_i64]; omega
  have h2 : IntKind.i64.wrap ((1 : Int) + (IntKind.i64.wrap (Int.tmod (IntKind.u8.wrap (Int.tdiv x (31 : Int))) (8 : Int)))) = ((1 + x / 31 % 8).toNat : Int) := by simp only [tmod_ite, tdiv_ite, IntKind.wrap_i64, IntKind.wrap_u8]; omega
  rw [h1, h2]
theorem build_isB {x : Int} (h : 0 ≤ x ∧ x ≤ 255) : IsB (F9 x) := by
  rw [build_eq h]; exact sample_isB _ _ (by omega) (by omega)
theorem IsB.home {b : BldT} (hb : IsB b) {i : Int} (h0 : 0 ≤ i) (h1 : i < b.2.2.2.2.2.2.2.length) : 0 ≤ (nthT b.2.2.2.2.2.2.2 i).2.2.2.2.2.2.2.2 ∧ (nthT b.2.2.2.2.2.2.2 i).2.2.2.2.2.2.2.2 ≤ b.1 - 1 := by
  have h2 : nthT b.2.2.2.2.2.2.2 i ∈ b.cars := by rw [nthT_of _ i h0 h1]; exact List.getElem_mem _
  have h3 := hb.car _ h2
  simp only [carOk, Bool.and_eq_true, decide_eq_true_eq] at h3
  exact h3.2
end Go.Proofs.Ytbnihoioblmgkaa.Sp
end

section
/- want: it panics if what is said does not hold (own work). -/
namespace Go.Proofs.Ytbnihoioblmgkaa.Sy
open Go Go.RowKit
set_option linter.unusedVariables false
set_option linter.unusedSimpArgs false
def wrongV : Value := .iface 130 (.agg #[])
def _root_.Go.Proofs.Ytbnihoioblmgkaa.Sp.FQ64 (x : Bool) : Bool × (Unit × Unit) := (!x, ((), ()))
def cp64 : Cp := { p := .bool, psh := [none], mask := [false], sz := [], ro := false, ex := true, q := .unit, r := .unit, rsh := Rsh.none, pre := none, F := fun x => (Sp.FQ64 x).2, pn := some fun x => (Sp.FQ64 x).1, pv := wrongV }
theorem want_calls (x : Bool) (w : World) : Calls Try.prog 64 #[.bool x] w fun e w' => w' = w ∧ e = if x then .returned (.tuple #[]) else .panicked [{ v := wrongV, recovered := false }] := by
  go_enter Try.func64, Try.ntmps64
  cases x with
  | true =>
    go_wp2
    exact ⟨rfl, .tuple #[], (by first | kernel_rfl | rfl | (unfold results Try.f64; simp)), rfl, rfl⟩
  | false =>
    go_wp2
    exact ⟨rfl, rfl, rfl⟩
theorem ok64 : CpOk Try.prog gdS 64 cp64 := by
  intro x w X args cv pc bs hH hX hpre hsize hbn hsh hpv hcs
  obtain ⟨l⟩ := args
  match l, hsize with
  | [v], _ =>
    have hbs : bs = [] ∧ pc = [] := by
      cases bs with
      | nil => exact ⟨rfl, hpv⟩
      | cons b bs => exact hpv.elim
    obtain ⟨rfl, rfl⟩ := hbs
    obtain ⟨cs', rfl, h2⟩ := hsh
    have hcs : CRs (fun _ => none) X w [.bool x] (v :: cs' ++ []) := hcs
    have hv : v = .bool x := hcs.1
    subst hv
    refine (want_calls x w).mono fun e w' ⟨h1, h2⟩ => ?_
    subst h1 h2
    cases x with
    | true => exact .inl ⟨rfl, _, rfl, ⟨rfl, rfl, rfl, Nat.le_refl _, fun _ _ _ => rfl, fun _ _ => rfl, fun _ _ _ => rfl⟩, ⟨[], rfl, (fun T hT => by cases hT), rfl⟩, [], rfl, rfl⟩
    | false => exact .inr ⟨rfl, rfl, ⟨rfl, rfl, rfl, Nat.le_refl _, fun _ _ _ => rfl, fun _ _ => rfl, fun _ _ _ => rfl⟩, [], rfl, rfl⟩
def PmFw : List (Nat × Cp) := [(64, cp64)]
theorem pgokPmFw : PGOk PmFw := pgok_cons ok64 ⟨_, Try.func64, by kernel_rfl, by kernel_rfl⟩ pgok_nil
end Go.Proofs.Ytbnihoioblmgkaa.Sy
end

section
/- The symbolic evaluator is sound: a function with one deferred call that recovers (own work). -/
namespace Go.Proofs.Ytbnihoioblmgkaa.Sy
open Go Go.RowKit
set_option linter.unusedVariables false
set_option linter.unusedSimpArgs false
def isPv (v pv : Value) : Bool := match v, pv with
  | .iface t (.agg a), .iface t' (.agg a') => andd (Nat.beq t t') (andd (isNilB a.toList) (isNilB a'.toList))
  | _, _ => false
theorem isPv_eq {v pv : Value} (h : isPv v pv = true) : v = pv := by
  unfold isPv at h
  split at h
  case h_2 => cases h
  rename_i t a t' a'
  obtain ⟨h1, h2⟩ := andd_true h
  obtain ⟨h2, h3⟩ := andd_true h2
  have key : ∀ a : Array Value, isNilB a.toList = true → a = #[] := by
    rintro ⟨l⟩ h
    cases l with
    | nil => rfl
    | cons => cases h
  rw [beq_eq h1, key a h2, key a' h3]
def retD (pv : Value) (Q : Ty) (ptr : List (Nat × Nat)) (x : Ex) (st : ASt) : Tr Q.den Q.den := match x with
  | .pan v => cnd (isPv v pv) (match rdBoxes st false Q ptr with | some y => .ret y | none => .bad) .bad
  | _ => .bad
def wrapY {α : Type} (o : Option α) : Tr α α := match o with | some y => .ret y | none => .bad
def kD (pv : Value) (Q : Ty) (ptr : List (Nat × Nat)) (fix : Q.den → Q.den) (x : Ex) (st : ASt) : Tr Q.den Q.den := match x with
  | .exit _ => .bad
  | .pan v => cnd (isPv v pv) (match rdBoxes st false Q ptr with | some y => .ret (fix y) | none => .bad) .bad
  | _ => wrapY (rdBoxes st false Q ptr)
def fixD {q A : Ty} (n : Int) (y : (Ty.pair q (.pair A (.int .i64))).den) : (Ty.pair q (.pair A (.int .i64))).den := (y.1, (y.2.1, n))
def ptrD (mask : List Bool) (sz : List Nat) (tx nA te : Nat) : List (Nat × Nat) := app (zipN (posIn mask 0) sz) [(tx, nA), (te, 1)]
def evFnD (C : Ctx) (fn : Func) (p : Ty) (psh : List (Option Nat)) (mask : List Bool) (sz : List Nat) (ex : Bool) (q A : Ty) (tx te : Nat) (n : Int) (pv : Value) (L : Nat → Option (LS (Ty.pair q (.pair A (.int .i64))).den)) (x : p.den) :
    Tr (Ty.pair q (.pair A (.int .i64))).den (Ty.pair q (.pair A (.int .i64))).den :=
  match fn.body with
  | some (.seq c0 (.seq (.region id ops d) c1)) => evFnK C fn p psh mask sz false ex L (.seq c0 (.seq (.region id ops d) c1)) c0 (fun e st => match e with
    | .normal => cnd (andd (Nat.beq q.n (sumN sz)) (andd (nodupN (firsts (ptrD mask sz tx A.n te))) (andd (isSomeB (rdW st (ptrD mask sz tx A.n te))) (chkP st (dsts c1) [] (firsts (ptrD mask sz tx A.n te)) (selfs (ptrD mask sz tx A.n te))))))
        (evCode C L c1 st (kD pv _ (ptrD mask sz tx A.n te) (fixD n))) .bad
    | _ => .bad) x
  | _ => .bad
section
variable {φ : Fr} {ν ν' : Nat → Bool} {m : Map} {st : ASt} {a : Act} {w w' : World} {own : List (Nat × Bool)} {W : List Nat} {P : Program} {C : Ctx} {o : Oper} {e : Eff}
  {K : Act → World → Prop}
def BoxesAt (Q : Ty) (ptr : List (Nat × Nat)) (X : Nat → Nat → Prop) (y : Q.den) (a : Act) (w : World) : Prop :=
  ∃ (m : Map) (qv : List Value), BoxVals m w ptr qv ∧ (∀ k ∈ firsts ptr, ∃ b, m k = some (b, 0) ∧ a.tmps.getD k undef = .pointer (some ⟨b, 0, none⟩)) ∧
    (∀ k ∈ firsts ptr, ∀ k' ∈ firsts ptr, ∀ b, m k = some (b, 0) → m k' = some (b, 0) → k = k') ∧ TR w (fun b p => X b p ∨ ∃ k ∈ firsts ptr, m k = some (b, 0)) Q y qv
def RetD (pv : Value) (Q : Ty) (ptr : List (Nat × Nat)) (e : Exit) (n0 : Nat) (X : Nat → Nat → Prop) (y : Q.den) (a : Act) (w : World) : Prop :=
  e = .panic [{ v := pv, recovered := false }] ∧ BoxesAt Q ptr X y a w
theorem BoxesAt.mono {Q : Ty} {ptr : List (Nat × Nat)} {X X' : Nat → Nat → Prop} {y : Q.den} (hX : ∀ b p, X' b p → X b p) (h : BoxesAt Q ptr X y a w) : BoxesAt Q ptr X' y a w := by
  obtain ⟨m, qv, h1, h2, h3, h4⟩ := h
  exact ⟨m, qv, h1, h2, h3, h4.mono keeps_same (fun b p _ h => h.elim (fun h => .inl (hX b p h)) .inr) _ _ _⟩
theorem RetD.mono {pv : Value} {Q : Ty} {ptr : List (Nat × Nat)} {e : Exit} {n0 : Nat} {X X' : Nat → Nat → Prop} {y : Q.den} (hX : ∀ b p, X' b p → X b p) (h : RetD pv Q ptr e n0 X y a w) : RetD pv Q ptr e n0 X' y a w := ⟨h.1, h.2.mono hX⟩
theorem boxes_ok (hs : SatM φ ν m st a w) {Q : Ty} {ptr : List (Nat × Nat)} {y : Q.den} (h : rdBoxes st false Q ptr = some y) : BoxesAt Q ptr φ.X0 y a w := by
  unfold rdBoxes at h
  split at h
  case h_2 => cases h
  rename_i qc0 hqc0 hchk
  split at h
  case h_2 => cases h
  rename_i qc hqc
  obtain ⟨qv, hbv, hqr, _⟩ := rdW_ok hs hqc0
  have hqr2 := unvL_ok hs hqc hqr (ks := vksL qc0) (fun _ k hk => hk)
  have hP := chkP_spec hchk
  have hsl : ∀ k ∈ firsts ptr, ∃ b, m k = some (b, 0) ∧ a.tmps.getD k undef = .pointer (some ⟨b, 0, none⟩) := fun k hk => by
    obtain ⟨g1, _, _, _⟩ := hP k k (selfs_mem hk)
    obtain ⟨b, g2, g3⟩ := hs.slot k _ g1 (fun x hx => by cases hx)
    exact ⟨b, g2, g3⟩
  refine ⟨m, qv, hbv, hsl, fun k _ k' _ b h1 h2 => hs.inj _ _ _ _ _ h1 h2 rfl rfl, (dec_ok h hqr2).mono keeps_same (fun b q _ hx => ?_) _ _ _⟩
  rcases hx with hx | ⟨k, hk, hmk⟩
  · refine ⟨.inl hx, fun k hk p hp0 hp1 hm => ?_⟩
    obtain ⟨h6, h7, _⟩ := hs.x0 _ _ hx
    cases hb0 : st.box k with
    | none => rw [hs.dom k hb0] at hm; cases hm
    | some bx0 =>
      have hro : bx0.isRo = false := by
        cases bx0 with
        | ro cs =>
          obtain ⟨b2, _, _, h9, _⟩ := hs.box k _ hb0
          rw [hm] at h9; cases h9; omega
        | _ => rfl
      rcases hs.own k bx0 b p hb0 hro hm hp0 with h8 | h8
      · exact h7 h8
      · omega
  · refine ⟨.inr ⟨k, 0, hmk, rfl⟩, fun j _ p hp hp0 hmj => ?_⟩
    have := hs.inj k j b 0 p hmk hmj rfl hp
    subst this
    rw [hmk] at hmj
    cases hmj
    omega
theorem boxVals_app : ∀ {l1 l2 : List (Nat × Nat)} {vs : List Value}, BoxVals m w (app l1 l2) vs → ∃ v1 v2, vs = v1 ++ v2 ∧ BoxVals m w l1 v1 ∧ BoxVals m w l2 v2
  | [], l2, vs, h => ⟨[], vs, rfl, rfl, h⟩
  | (k, n) :: r, l2, vs, h => by
    rw [app_eq, List.cons_append, ← app_eq] at h
    obtain ⟨b, us, T, vs', h1, h2, h3, rfl, h4⟩ := h
    obtain ⟨v1, v2, rfl, h5, h6⟩ := boxVals_app h4
    exact ⟨us.toList ++ v1, v2, by simp, ⟨b, us, T, v1, h1, h2, h3, rfl, h5⟩, h6⟩
theorem boxVals_len : ∀ {l : List (Nat × Nat)} {ks sz : List Nat} {vs : List Value}, BoxVals m w (zipN ks sz) vs → ks.length = sz.length → vs.length = sumN sz
  | _, [], [], vs, h, _ => by have h : vs = [] := h; subst h; rfl
  | l, k :: ks, n :: sz, vs, h, hl => by
    obtain ⟨b, us, T, vs', h1, h2, h3, rfl, h4⟩ := h
    have := boxVals_len (l := l) h4 (by simpa using hl)
    simp [sumN, this, h3]
  | _, [], _ :: _, _, _, hl => by simp at hl
  | _, _ :: _, [], _, _, hl => by simp at hl
theorem firsts_app : ∀ {l1 l2 : List (Nat × Nat)}, firsts (app l1 l2) = firsts l1 ++ firsts l2
  | [], l2 => rfl
  | (k, n) :: r, l2 => by rw [app_eq, List.cons_append, ← app_eq]; simp only [firsts, List.cons_append, firsts_app]
theorem BelowBut.one {b : Nat} {us vs : Array Value} {T : TypeId} {z : Nat × Nat} {ob : Obj} (hw : w.heap[b]? = some (.cells us T z)) (hs : vs.size = us.size) : BelowBut [b] w ((w.setRow b vs).alloc ob) := by
  have hb : Below (w.setRow b vs).heap.size (w.setRow b vs) ((w.setRow b vs).alloc ob) := Below.alloc (Below.refl _ _) (Nat.le_refl _) _
  have hsz : (w.setRow b vs).heap.size = w.heap.size := by simp
  have hblk : ∀ k, k < w.heap.size → ((w.setRow b vs).alloc ob).heap[k]? = (w.setRow b vs).heap[k]? := fun k hk => hb.block k (by rw [hsz]; exact hk)
  refine ⟨hb.os, hb.tape, hb.output, ?_, fun k hk hne => ?_, fun k hk => ?_, fun k p hk => ?_⟩
  · have := hb.size; rw [hsz] at this; exact this
  · rw [hblk k hk, setRow_other _ _ _ _ (by simpa using hne)]
  · unfold World.shape?
    rw [hblk k hk]
    by_cases e : k = b
    · subst e; rw [setRow_heap _ _ _ _ _ _ hw, hw]; simp [hs]
    · rw [setRow_other _ _ _ _ e]
  · unfold World.frozen?
    simp only []
    rw [hblk k hk]
    by_cases e : k = b
    · subst e; rw [setRow_heap _ _ _ _ _ _ hw, hw]
    · rw [setRow_other _ _ _ _ e]
theorem BelowBut.trans {bs cs : List Nat} {u : World} (h1 : BelowBut bs w u) (h2 : BelowBut cs u w') (hc : ∀ k ∈ cs, k ∈ bs ∨ w.heap.size ≤ k) : BelowBut bs w w' := by
  refine ⟨h2.os.trans h1.os, h2.tape.trans h1.tape, h2.output.trans h1.output, Nat.le_trans h1.size h2.size, fun k hk hn => ?_, fun k hk => (h2.shape k (Nat.lt_of_lt_of_le hk h1.size)).trans (h1.shape k hk), fun k p hk => (h2.frozen k p (Nat.lt_of_lt_of_le hk h1.size)).trans (h1.frozen k p hk)⟩
  refine (h2.block k (Nat.lt_of_lt_of_le hk h1.size) fun hm => ?_).trans (h1.block k hk hn)
  rcases hc k hm with h | h
  · exact hn h
  · omega
theorem BelowBut.keeps {bs : List Nat} {X : Nat → Nat → Prop} (h : BelowBut bs w w') (hX : ∀ b ∈ bs, ∀ p, X b p) : Keeps X w w' :=
  ⟨h.size, fun b p hb hx => by unfold World.cell?; rw [h.block b hb (fun hm => hx (hX b hm p))], h.shape, h.frozen⟩
theorem results_boxes {fn : Func} {q A : Ty} {mask : List Bool} {sz : List Nat} {tx te : Nat} {TX TE : TypeId} {dX dE : TD} (hTX : TDOk P TX dX) (hX1 : dX.agg = true) (hX2 : dX.ty.n = A.n) (hTE : TDOk P TE dE) (hE1 : dE.agg = false)
    (hres : fn.results.toList = [.cell tx TX, .cell te TE]) (hq : q.n = sumN sz) (hps : (posIn mask 0).length = sz.length) {X : Nat → Nat → Prop} {y : (Ty.pair q (.pair A (.int .i64))).den} (h : BoxesAt (.pair q (.pair A (.int .i64))) (ptrD mask sz tx A.n te) X y a w) :
    ∃ (v : Value) (cv : List Value) (m : Map) (qv : List Value), (results fn a.tmps).run P w = .ok v w ∧ TR w X (.pair A (.int .i64)) y.2 cv ∧ ShapeV (.tup [some A.n, none]) cv v ∧ BoxVals m w (zipN (posIn mask 0) sz) qv ∧
      TR w (fun b p => X b p ∨ ∃ k ∈ firsts (ptrD mask sz tx A.n te), m k = some (b, 0)) q y.1 qv ∧ (∀ k ∈ posIn mask 0, ∃ b, m k = some (b, 0) ∧ a.tmps.getD k undef = .pointer (some ⟨b, 0, none⟩)) ∧
      TR w (fun b p => X b p ∨ ∃ k ∈ firsts (ptrD mask sz tx A.n te), m k = some (b, 0)) (.pair A (.int .i64)) y.2 cv := by
  obtain ⟨m, qv0, h1, h2, h3, h4⟩ := h
  obtain ⟨qv, rv, rfl, hb1, hb2⟩ := boxVals_app h1
  obtain ⟨bx, ux, Tx, rv', hmx, hhx, hlx, rfl, hb3⟩ := hb2
  obtain ⟨be, ue, Te, rv'', hme, hhe, hle, rfl, hb4⟩ := hb3
  have hb4 : rv'' = [] := hb4
  subst hb4
  obtain ⟨v1, v2, hv, hq1, hr1⟩ := h4
  have hlen : qv.length = v1.length := by rw [boxVals_len (l := []) hb1 hps, ← hq, hq1.len]
  obtain ⟨rfl, rfl⟩ := List.append_inj hv hlen
  obtain ⟨va, ve, hva, ha1, he1⟩ := hr1
  have hlen2 : ux.toList.length = va.length := by rw [ha1.len]; simpa using hlx
  obtain ⟨rfl, hue⟩ := List.append_inj hva hlen2
  rw [List.append_nil] at hue
  have he1' : ve = [.int .i64 y.2.2] := he1
  subst he1'
  have hmem : tx ∈ firsts (ptrD mask sz tx A.n te) ∧ te ∈ firsts (ptrD mask sz tx A.n te) := by
    unfold ptrD; rw [firsts_app]; simp [firsts]
  obtain ⟨b1, g1, g2⟩ := h2 tx hmem.1
  rw [hmx] at g1
  cases g1
  obtain ⟨b2, g3, g4⟩ := h2 te hmem.2
  rw [hme] at g3
  cases g3
  have hl1 : (loadVar TX ⟨bx, 0, none⟩).run P w = .ok (.agg ux) w := by
    have := run_loadVar hTX (b := bx) (o := 0) (vs := ux.toList) (w := w) (by simp [hlx, hX2]) (fun j hj => by
      rw [Nat.zero_add, cell_heap hhx, List.getD_eq_getElem?_getD, Array.getElem?_toList, Array.getElem?_eq_getElem (by omega)]
      rfl) hTX.one
    rw [this]
    unfold mkV
    rw [hX1]
    simp
  have hl2 : (loadVar TE ⟨be, 0, none⟩).run P w = .ok (.int .i64 y.2.2) w := by
    have hn := hTE.one hE1
    have := run_loadVar hTE (b := be) (o := 0) (vs := [.int .i64 y.2.2]) (w := w) (by simp [hn]) (fun j hj => by
      have hj0 : j = 0 := by omega
      subst hj0
      rw [cell_heap hhe, ← Array.getElem?_toList, hue]
      rfl) hTE.one
    rw [this]
    unfold mkV
    rw [hE1]
    rfl
  refine ⟨.tuple #[.agg ux, .int .i64 y.2.2], ux.toList ++ [.int .i64 y.2.2], m, qv, ?_, ⟨ux.toList, [.int .i64 y.2.2], rfl, ha1.mono keeps_same (fun b p _ h => .inl h) _ _ _, he1⟩, ⟨[.agg ux, .int .i64 y.2.2], rfl, ux.toList, [.int .i64 y.2.2], by simp, by simpa using hlx, rfl, [], rfl, rfl⟩, hb1, hq1, fun k hk => h2 k ?_, ⟨ux.toList, [.int .i64 y.2.2], rfl, ha1, he1⟩⟩
  · unfold results
    rw [Sem.run_bind, Array.mapM_eq_mapM_toList, hres]
    have : (List.toArray <$> [ResultVar.cell tx TX, ResultVar.cell te TE].mapM fun x => (match x with | .tmp t => pure (a.tmps.getD t undef) | .cell b t => do loadVar t (← asAddr (a.tmps.getD b undef)) : Sem Value)).run P w = .ok #[.agg ux, .int .i64 y.2.2] w := by
      rw [map_eq_pure_bind, Sem.run_bind, List.mapM_cons, Sem.run_bind]
      simp only []
      have e1 : ((asAddr (a.tmps.getD tx undef)) >>= fun x => loadVar TX x).run P w = .ok (.agg ux) w := by rw [Sem.run_bind, g2]; exact hl1
      have e2 : ((asAddr (a.tmps.getD te undef)) >>= fun x => loadVar TE x).run P w = .ok (.int .i64 y.2.2) w := by rw [Sem.run_bind, g4]; exact hl2
      rw [e1, Result.andThen_ok, Sem.run_bind, List.mapM_cons, Sem.run_bind]
      simp only []
      rw [e2]
      rfl
    exact Eq.trans (congrArg (fun q => Result.andThen q _) this) rfl
  · unfold ptrD
    rw [firsts_app, firsts_zip hps]
    simp [hk]
structure CatchOk (P : Program) (g : FuncId) (pv : Value) (n : Int) : Prop where
  fn : ∃ fn, P.funcs[g]? = some fn ∧ (fn.name == "runtime.NumGoroutine") = false ∧ fn.body.isNone = false
  idle : ∀ (p : Addr) (w : World), CallsD P g #[.pointer (some p)] .returning w fun e u' w' => e = .returned (.tuple #[]) ∧ u' = .returning ∧ w' = w
  pan : ∀ (b : Nat) (u0 : Value) (T : TypeId) (w : World), w.heap[b]? = some (.cells #[u0] T (0, 0)) → CallsD P g #[.pointer (some ⟨b, 0, none⟩)] (.panicking [{ v := pv, recovered := false }]) w fun e u' w' =>
    e = .returned (.tuple #[]) ∧ u' = .panicking [{ v := pv, recovered := true }] ∧ ∃ ob, w' = (w.setRow b #[.int .i64 n]).alloc ob
theorem BoxesAt.set {q A : Ty} {mask : List Bool} {sz : List Nat} {tx te : Nat} {X : Nat → Nat → Prop} {y : (Ty.pair q (.pair A (.int .i64))).den} {n : Int} {b : Nat} {ob : Obj} (hps : (posIn mask 0).length = sz.length) (hq : q.n = sumN sz) (hnd : (firsts (ptrD mask sz tx A.n te)).Nodup)
    (h : BoxesAt (.pair q (.pair A (.int .i64))) (ptrD mask sz tx A.n te) X y a w) (hte : a.tmps.getD te undef = .pointer (some ⟨b, 0, none⟩)) :
    (∃ u0 T, w.heap[b]? = some (.cells #[u0] T (0, 0))) ∧ BoxesAt (.pair q (.pair A (.int .i64))) (ptrD mask sz tx A.n te) X (fixD n y) a ((w.setRow b #[.int .i64 n]).alloc ob) := by
  obtain ⟨m, qv0, h1, h2, h3, h4⟩ := h
  have hmem : te ∈ firsts (ptrD mask sz tx A.n te) := by unfold ptrD; rw [firsts_app]; simp [firsts]
  obtain ⟨b2, hmb, hb2⟩ := h2 te hmem
  rw [hte] at hb2
  cases hb2
  obtain ⟨qv, rv, rfl, hb1, hb2⟩ := boxVals_app h1
  obtain ⟨bx, ux, Tx, rv', hmx, hhx, hlx, rfl, hb3⟩ := hb2
  obtain ⟨be, ue, Te, rv'', hme, hhe, hle, rfl, hb4⟩ := hb3
  have hb4 : rv'' = [] := hb4
  subst hb4
  rw [hmb] at hme
  cases hme
  obtain ⟨u0, rfl⟩ : ∃ u0, ue = #[u0] := by
    obtain ⟨l⟩ := ue
    match l, hle with
    | [u], _ => exact ⟨u, rfl⟩
  refine ⟨⟨u0, Te, hhe⟩, ?_⟩
  have hBB : BelowBut [b] w ((w.setRow b #[.int .i64 n]).alloc ob) := BelowBut.one hhe rfl
  have hkeep : Keeps (fun b p => X b p ∨ ∃ k ∈ firsts (ptrD mask sz tx A.n te), m k = some (b, 0)) w ((w.setRow b #[.int .i64 n]).alloc ob) := hBB.keeps (fun b' hb' p => by
    have : b' = b := by simpa using hb'
    subst this
    exact .inr ⟨te, hmem, hmb⟩)
  have hother : ∀ (l : List (Nat × Nat)) (vs : List Value), (∀ k ∈ firsts l, k ∈ firsts (ptrD mask sz tx A.n te) ∧ k ≠ te) → BoxVals m w l vs → BoxVals m ((w.setRow b #[.int .i64 n]).alloc ob) l vs := by
    intro l
    induction l with
    | nil => intro vs _ h; exact h
    | cons x r ih =>
      obtain ⟨k, nn⟩ := x
      intro vs hk h
      obtain ⟨b', us, T, vs', g1, g2, g3, rfl, g4⟩ := h
      obtain ⟨k1, k2⟩ := hk k (by simp [firsts])
      refine ⟨b', us, T, vs', g1, ?_, g3, rfl, ih vs' (fun k' hk' => hk k' (by simp [firsts, hk'])) g4⟩
      have hlt : b' < w.heap.size := (Array.getElem?_eq_some_iff.1 g2).1
      rw [hBB.block b' hlt (by
        simp only [List.mem_singleton]
        intro e
        subst e
        exact k2 (h3 k k1 te hmem b' g1 hmb))]
      exact g2
  have hfst : firsts (ptrD mask sz tx A.n te) = posIn mask 0 ++ [tx, te] := by unfold ptrD; rw [firsts_app, firsts_zip hps]; rfl
  have hte_nin : te ∉ posIn mask 0 ∧ te ≠ tx := by
    rw [hfst] at hnd
    have := List.nodup_append.1 hnd
    exact ⟨fun hm => this.2.2 te hm te (by simp) rfl, fun e => by have := (List.nodup_cons.1 this.2.1).1; simp [e] at this⟩
  obtain ⟨v1, v2, hv, hq1, hr1⟩ := h4
  have hlen : qv.length = v1.length := by rw [boxVals_len (l := []) hb1 hps, ← hq, hq1.len]
  obtain ⟨rfl, rfl⟩ := List.append_inj hv hlen
  obtain ⟨va, ve, hva, ha1, he1⟩ := hr1
  have hlen2 : ux.toList.length = va.length := by rw [ha1.len]; simpa using hlx
  obtain ⟨rfl, hue⟩ := List.append_inj hva hlen2
  have hbv : BoxVals m ((w.setRow b #[.int .i64 n]).alloc ob) (ptrD mask sz tx A.n te) (qv ++ (ux.toList ++ [.int .i64 n])) := by
    have e1 := hother (zipN (posIn mask 0) sz) qv (fun k hk => by
      rw [firsts_zip hps] at hk
      exact ⟨by rw [hfst]; simp [hk], fun e => hte_nin.1 (e ▸ hk)⟩) hb1
    have e2 := hother [(tx, A.n)] ux.toList (fun k hk => by
      have : k = tx := by simpa [firsts] using hk
      subst this
      exact ⟨by rw [hfst]; simp, fun e => hte_nin.2 e.symm⟩) ⟨bx, ux, Tx, [], hmx, hhx, hlx, by simp, rfl⟩
    obtain ⟨bx', ux', Tx', z, f1, f2, f3, f4, f5⟩ := e2
    have f5 : z = [] := f5
    subst f5
    rw [List.append_nil] at f4
    have hble : b < w.heap.size := (Array.getElem?_eq_some_iff.1 hhe).1
    have hnewb : ((w.setRow b #[.int .i64 n]).alloc ob).heap[b]? = some (.cells #[.int .i64 n] Te (0, 0)) := by
      rw [Below.heap_alloc _ _ _ (by simpa using hble)]
      exact setRow_heap _ _ _ _ _ _ hhe
    have key : ∀ (l : List (Nat × Nat)) (vs : List Value) (l2 : List (Nat × Nat)) (vs2 : List Value), BoxVals m ((w.setRow b #[.int .i64 n]).alloc ob) l vs → BoxVals m ((w.setRow b #[.int .i64 n]).alloc ob) l2 vs2 → BoxVals m ((w.setRow b #[.int .i64 n]).alloc ob) (app l l2) (vs ++ vs2) := by
      intro l
      induction l with
      | nil => intro vs l2 vs2 h h'; have h : vs = [] := h; subst h; exact h'
      | cons x r ih =>
        obtain ⟨k, nn⟩ := x
        intro vs l2 vs2 h h'
        obtain ⟨b', us, T, vs', g1, g2, g3, rfl, g4⟩ := h
        rw [app_eq, List.cons_append, ← app_eq, List.append_assoc]
        exact ⟨b', us, T, vs' ++ vs2, g1, g2, g3, rfl, ih vs' l2 vs2 g4 h'⟩
    exact key _ _ _ _ e1 ⟨bx', ux', Tx', [.int .i64 n], f1, f2, f3, by rw [f4], ⟨b, #[.int .i64 n], Te, [], hmb, hnewb, rfl, rfl, rfl⟩⟩
  exact ⟨m, _, hbv, h2, h3, qv, _, rfl, hq1.mono hkeep noMore_refl _ _ _, ux.toList, [.int .i64 n], rfl, ha1.mono hkeep noMore_refl _ _ _, rfl⟩
theorem fn_okD (hC : CtxOk P C) {f g : FuncId} {fn : Func} (hf : P.funcs[f]? = some fn) {p q A : Ty} {psh : List (Option Nat)} {mask : List Bool} {sz : List Nat} {ex : Bool} {pre : Option (p.den → Prop)} {tx te : Nat} {TX TE : TypeId} {dX dE : TD} {n : Int} {pv : Value}
    {L : Nat → Option (LS (Ty.pair q (.pair A (.int .i64))).den)} {c0 c1 : Code} {id : Nat} {od : Oper} {call : Call} (hb : fn.body = some (.seq c0 (.seq (.region id #[od] false) c1)))
    (hod : od.op = .defer call) (hcal : call.callee = .value (.func g)) (hargs : call.args = #[.tmp te]) (hdn : od.dst = none) (hgn : od.guard = none) (hcatch : CatchOk P g pv n)
    (hTX : TDOk P TX dX) (hX1 : dX.agg = true) (hX2 : dX.ty.n = A.n) (hTE : TDOk P TE dE) (hE1 : dE.agg = false) (hres : fn.results.toList = [.cell tx TX, .cell te TE])
    {FD : p.den → (Ty.pair q (.pair A (.int .i64))).den} {dflt : (Ty.pair q (.pair A (.int .i64))).den}
    (hL0 : loopsIn c0 = []) (hL : ∀ body ∈ loopsIn c1, ∀ s, L (codeId body) = some s → LoopOk P C.G (RetD pv (.pair q (.pair A (.int .i64))) (ptrD mask sz tx A.n te)) body s)
    (hsafe : ∀ x, (ex = false → Fit p x) → (∀ q, pre = some q → q x) → (evFnD C fn p psh mask sz ex q A tx te n pv L x).safe)
    (hval : ∀ x, (evFnD C fn p psh mask sz ex q A tx te n pv L x).val (fixD n) dflt = FD x) :
    CpOk P C.G f { p := p, psh := psh, mask := mask, sz := sz, ro := false, ex := ex, q := q, r := .pair A (.int .i64), rsh := .tup [some A.n, none], pre := pre, F := fun x => ((FD x).2, (FD x).1) } := by
  intro x w X args cv pc bs hH hX hpre hsize hbn hsh hpv hcs
  have hA := all_of_safe (rt := fixD n) (d := dflt) (hsafe x (fun _ => fit_of (tr_args hcs)) hpre)
  rw [hval] at hA
  unfold evFnD at hA
  rw [hb] at hA
  simp only at hA
  have hps := fnK_len hA
  refine calls_of_wp_defers hf hb (wp_seq (fn_core hC (fun d hd => by simp only [dsts, app_eq, List.mem_append]; exact .inl hd) (Ret := fun _ _ _ _ _ _ => False) (fun e n X X' r a w h hr => hr) (by rw [hL0]; intro b hb; cases hb) hH hX hsize hbn hsh hpv hcs hA
    (fun φ hin hd0 e st' a' w' m' hm' hp' hA' => ?_) (fun φ hin hd0 e he r a' w' hp hr hk hd => hr.elim)))
  cases e with
  | exit id => exact hA'.elim
  | ret => exact hA'.elim
  | pan v => exact hA'.elim
  | normal =>
  simp only at hA'
  obtain ⟨hq, hnd, hrdw, hchk, hA'⟩ : q.n = sumN sz ∧ (firsts (ptrD mask sz tx A.n te)).Nodup ∧ isSomeB (rdW st' (ptrD mask sz tx A.n te)) = true ∧ chkP st' (dsts c1) [] (firsts (ptrD mask sz tx A.n te)) (selfs (ptrD mask sz tx A.n te)) = true ∧
      (evCode C L c1 st' (kD pv _ (ptrD mask sz tx A.n te) (fixD n))).All (fixD n) (fun r => r = FD x) := by
    cases hck : andd (Nat.beq q.n (sumN sz)) (andd (nodupN (firsts (ptrD mask sz tx A.n te))) (andd (isSomeB (rdW st' (ptrD mask sz tx A.n te))) (chkP st' (dsts c1) [] (firsts (ptrD mask sz tx A.n te)) (selfs (ptrD mask sz tx A.n te))))) with
    | false => rw [hck] at hA'; exact hA'.elim
    | true =>
      rw [hck] at hA'
      obtain ⟨h1, h2⟩ := andd_true hck
      obtain ⟨h2, h3⟩ := andd_true h2
      obtain ⟨h3, h4⟩ := andd_true h3
      exact ⟨beq_eq h1, nodupN_spec h2, h3, h4, hA'⟩
  have hP := chkP_spec hchk
  have hfst : firsts (ptrD mask sz tx A.n te) = posIn mask 0 ++ [tx, te] := by unfold ptrD; rw [firsts_app, firsts_zip hps]; rfl
  have hslot : ∀ k ∈ firsts (ptrD mask sz tx A.n te), k ∉ dsts c1 ∧ ∃ b, m' k = some (b, 0) ∧ a'.tmps.getD k undef = .pointer (some ⟨b, 0, none⟩) := fun k hk => by
    obtain ⟨g1, g0, _, _⟩ := hP k k (selfs_mem hk)
    obtain ⟨b, g2, g3⟩ := hm'.slot k _ g1 (fun x hx => by cases hx)
    exact ⟨g0, b, g2, g3⟩
  obtain ⟨hte1, bte, hmte, hate⟩ := hslot te (by rw [hfst]; simp)
  have hbs0 : All2 (fun k b => m' k = some (b, 0)) (posIn mask 0) bs := hin.ptrs m' a' hm'.keepA (fun k hk => (hslot k (by rw [hfst]; simp [hk])).2)
  have hbte : w.heap.size ≤ bte := by
    obtain ⟨cs, hcs'⟩ : ∃ cs, rdW st' (ptrD mask sz tx A.n te) = some cs := by
      cases hr : rdW st' (ptrD mask sz tx A.n te) with
      | none => rw [hr] at hrdw; cases hrdw
      | some cs => exact ⟨cs, rfl⟩
    obtain ⟨_, _, _, hcell⟩ := rdW_ok hm' hcs'
    obtain ⟨ds, hbx⟩ := hcell te (by rw [hfst]; simp)
    rcases hm'.own te _ bte 0 hbx rfl hmte rfl with h | h
    · exfalso
      obtain ⟨k, hk1, hk2⟩ := hbs0.mem_right bte (hin.B bte h)
      have := hm'.inj _ _ _ _ _ hk2 hmte rfl rfl
      subst this
      rw [hfst] at hnd
      exact (List.nodup_append.1 hnd).2.2 k hk1 k (by simp) rfl
    · rw [hin.w0] at h; exact h
  -- the deferred call
  have hd1 : a'.defers = [] := hm'.defers.trans hd0
  let d : Deferred := { target := .fn (.func g) #[], args := #[.pointer (some ⟨bte, 0, none⟩)] }
  have hrun : (execOp a'.eval od).run P w' = .ok (.defer d) w' := by
    have hae : a'.eval (.tmp te) = .pointer (some ⟨bte, 0, none⟩) := hate
    simp only [execOp, hod, resolve, hcal, Act.eval, Deferred.ofValue, Sem.run_bind, Sem.run_pure, Result.andThen_ok, hargs]
    simp [Act.eval, hate, d]
  let φ2 : Fr := { φ with a0 := { a' with defers := [d] }, D := fun t => mem t (dsts c1) }
  have hm2 : SatM φ2 ν0 m' st' { a' with defers := [d] } w' :=
    { tmps := hm'.tmps, defers := rfl, slot := hm'.slot, skip := hm'.skip, box := hm'.box, inj := hm'.inj, low := hm'.low, dom := hm'.dom, own := hm'.own, vn := hm'.vn, ngl := hm'.ngl, n0 := hm'.n0, glob := hm'.glob, old := hm'.old, keep := hm'.keep, keepS := hm'.keepS, x0 := hm'.x0, keepT := fun t _ => rfl }
  have hkA : ∀ a2, KeepA φ2 a2 → KeepA φ { a2 with defers := [] } := fun a2 hk => ⟨hd0.symm, fun t ht => (hk.2 t (by
    show mem t (dsts c1) = false
    cases hq : mem t (dsts c1) with
    | false => rfl
    | true =>
      have := (hin.dsts t (by simp only [dsts, app_eq, List.mem_append]; exact .inr (.inr (mem_spec.1 hq)))).2
      rw [ht] at this; cases this)).trans (hm'.keepT t ht)⟩
  have hkW : ∀ w2, KeepW φ2 w2 → BelowBut bs w w2 := fun w2 hk => hin.below w2 ⟨hk.old, hk.keep, hk.keepS⟩
  let R : Ending → World → Prop := (fun e w' => (pnB { p := p, psh := psh, mask := mask, sz := sz, ro := false, ex := ex, q := q, r := .pair A (.int .i64), rsh := .tup [some A.n, none], pre := pre, F := fun x => ((FD x).2, (FD x).1) : Cp } x = false ∧ ∃ v, e = .returned v ∧ BelowBut (if false then [] else bs) w w' ∧ RetF w.heap.size none w' X (.tup [some A.n, none]) (.pair A (.int .i64)) (FD x).2 v ∧
        ∃ pc', PtrVals w' X bs sz (ptrsIn mask args.toList) pc' ∧ TR w' X q (FD x).1 pc') ∨
        (pnB { p := p, psh := psh, mask := mask, sz := sz, ro := false, ex := ex, q := q, r := .pair A (.int .i64), rsh := .tup [some A.n, none], pre := pre, F := fun x => ((FD x).2, (FD x).1) : Cp } x = true ∧ e = .panicked [{ v := undef, recovered := false }] ∧ BelowBut (if false then [] else bs) w w' ∧ ∃ pc', PtrVals w' X bs sz (ptrsIn mask args.toList) pc' ∧ TR w' X q (FD x).1 pc'))
  -- the end
  have hend : ∀ (y : (Ty.pair q (.pair A (.int .i64))).den) (a2 : Act) (w2 w3 : World), y = FD x → KeepW φ2 w2 → KeepA φ2 a2 → BelowBut bs w w3 → BoxesAt (.pair q (.pair A (.int .i64))) (ptrD mask sz tx A.n te) φ2.X0 y a2 w3 →
      Leaves P fn a2.tmps R [] .returning w3 := by
    intro y a2 w2 w3 hy hkw hka hbb hbox
    subst hy
    obtain ⟨v, cv, m3, qv, h1, h2, h3, h4, h5, h6, h7⟩ := results_boxes hTX hX1 hX2 hTE hE1 hres hq hps hbox
    have hbs := hin.ptrs m3 { a2 with defers := [] } (hkA a2 hka) h6
    have hX' : NoMore w3 (fun b p => φ2.X0 b p ∨ ∃ k ∈ firsts (ptrD mask sz tx A.n te), m3 k = some (b, 0)) X := fun b p _ hx => by
      rcases hin.x0 b p hx with h | h
      · obtain ⟨k, hk1, hk2⟩ := hbs.mem_right b h
        exact .inr ⟨k, by rw [hfst]; simp [hk1], hk2⟩
      · exact .inl h
    exact ⟨v, h1, .inl ⟨rfl, v, rfl, hbb, ⟨cv, h7.mono keeps_same hX' _ _ _, (fun T hT => by cases hT), h3⟩, qv, ptrs_again hbs hpv h4, h5.mono keeps_same hX' _ _ _⟩⟩
  have hinv : ∀ w2, (invoke (.fn (.func g) #[]) #[.pointer (some ⟨bte, 0, none⟩)]).run P w2 = .ok (.enter g #[.pointer (some ⟨bte, 0, none⟩)]) w2 := fun w2 => by
    obtain ⟨fng, h1, h2, h3⟩ := hcatch.fn
    simp only [invoke]
    rw [run_callF h1 h2 h3]
    simp
  have hpan : ∀ (y : (Ty.pair q (.pair A (.int .i64))).den) (a2 : Act) (w2 : World), fixD n y = FD x → BoxesAt (.pair q (.pair A (.int .i64))) (ptrD mask sz tx A.n te) φ2.X0 y a2 w2 → KeepW φ2 w2 → KeepA φ2 a2 → Leaves P fn a2.tmps R a2.defers (.panicking [{ v := pv, recovered := false }]) w2 := by
    intro y a2 w2 hy hbox hkw hka
    rw [show a2.defers = [d] from hka.1]
    have hte2 : a2.tmps.getD te undef = .pointer (some ⟨bte, 0, none⟩) := (hka.2 te (by
      show mem te (dsts c1) = false
      cases hq : mem te (dsts c1) with
      | false => rfl
      | true => exact absurd (mem_spec.1 hq) hte1)).trans hate
    obtain ⟨⟨u0, T, hh⟩, _⟩ := BoxesAt.set (n := n) (ob := .cells #[] 0) hps hq hnd hbox hte2
    refine leaves_cons (by simp) (hinv w2) ((hcatch.pan bte u0 T w2 hh).mono fun e u' w3 ⟨h1, h2, ob, h3⟩ => ?_)
    subst h1 h2 h3
    obtain ⟨_, hbox'⟩ := BoxesAt.set (n := n) (ob := ob) hps hq hnd hbox hte2
    exact hend _ a2 w2 _ hy hkw hka ((hkW w2 hkw).trans (BelowBut.one hh rfl) (fun k hk => .inr (by simp at hk; rw [hk]; exact hbte))) hbox'
  have hidle : ∀ (y : (Ty.pair q (.pair A (.int .i64))).den) (a2 : Act) (w2 : World), y = FD x → BoxesAt (.pair q (.pair A (.int .i64))) (ptrD mask sz tx A.n te) φ2.X0 y a2 w2 → KeepW φ2 w2 → KeepA φ2 a2 → Leaves P fn a2.tmps R a2.defers .returning w2 := by
    intro y a2 w2 hy hbox hkw hka
    rw [show a2.defers = [d] from hka.1]
    refine leaves_cons (by simp) (hinv w2) ((hcatch.idle ⟨bte, 0, none⟩ w2).mono fun e u' w3 ⟨h1, h2, h3⟩ => ?_)
    subst h1 h2 h3
    exact hend y a2 _ _ hy hkw hka (hkW _ hkw) hbox
  show ((Code.region id #[od] false).seq c1).wp P _ a' w'
  refine wp_seq (wp_region ?_)
  show wpOps P #[od] _ [0] a' w'
  rw [wpOps_cons]
  unfold wpOp
  simp only [List.getElem?_toArray, List.getElem?_cons_zero]
  rw [if_pos (by unfold Region.wanted; rw [hgn])]
  refine .inl ?_
  unfold Oper.wp
  rw [hrun, Oper.upon_defer, hdn, hd1]
  show c1.wp P _ { a' with defers := [d] } w'
  refine evCode_ok (φ := φ2) hC ⟨hin.ok.wok, hin.ok.gl⟩ (Ret := RetD pv _ (ptrD mask sz tx A.n te)) (fun e n X X' r a w h hr => hr.mono h) c1 _ _ _ _ w' hp' ⟨m', hm2⟩
    (fun d hd => ⟨(hin.dsts d (by simp only [dsts, app_eq, List.mem_append]; exact .inr (.inr hd))).1, mem_spec.2 hd⟩) hL hA' (fun e st2 a2 w2 hp2 ⟨m2, hm2⟩ hA2 => ?_) (fun e he r a2 w2 hp hr hk hd => ?_)
  · have hnorm : (wrapY (rdBoxes st2 false (.pair q (.pair A (.int .i64))) (ptrD mask sz tx A.n te))).All (fixD n) (fun r => r = FD x) → ∃ y, rdBoxes st2 false (.pair q (.pair A (.int .i64))) (ptrD mask sz tx A.n te) = some y ∧ y = FD x := by
      intro h
      cases hr : rdBoxes st2 false (.pair q (.pair A (.int .i64))) (ptrD mask sz tx A.n te) with
      | none => rw [hr] at h; exact h.elim
      | some y => rw [hr] at h; exact ⟨y, rfl, h⟩
    cases e with
    | exit id => exact hA2.elim
    | normal =>
      obtain ⟨y, h1, h2⟩ := hnorm hA2
      exact hidle y a2 w2 h2 (boxes_ok hm2 h1) hm2.keepW hm2.keepA
    | ret =>
      obtain ⟨y, h1, h2⟩ := hnorm hA2
      exact hidle y a2 w2 h2 (boxes_ok hm2 h1) hm2.keepW hm2.keepA
    | pan v =>
      simp only [kD] at hA2
      cases hv : isPv v pv with
      | false => rw [hv] at hA2; exact hA2.elim
      | true =>
        rw [hv] at hA2
        simp only [cnd] at hA2
        cases hr : rdBoxes st2 false (.pair q (.pair A (.int .i64))) (ptrD mask sz tx A.n te) with
        | none => rw [hr] at hA2; exact hA2.elim
        | some y =>
          rw [hr] at hA2
          rw [isPv_eq hv]
          exact hpan y a2 w2 hA2 (boxes_ok hm2 hr) hm2.keepW hm2.keepA
  · obtain ⟨rfl, hbox⟩ := hr
    exact hpan r a2 w2 hp hbox hk hd
end
theorem fn_okDU {C : Ctx} (hC : CtxOk Try.prog C) (hG : C.G = gdS) {f g : FuncId} {fn : Func} (hf : Try.prog.funcs[f]? = some fn) {p q A : Ty} {psh : List (Option Nat)} {mask : List Bool} {sz : List Nat} {ex : Bool} {pre : Option (p.den → Prop)} {tx te : Nat} {TX TE : TypeId} {dX dE : TD} {n : Int} {pv : Value}
    {L : Nat → Option (LS (Ty.pair q (.pair A (.int .i64))).den)} {c0 c1 : Code} {id : Nat} {od : Oper} {call : Call} (hb : fn.body = some (.seq c0 (.seq (.region id #[od] false) c1)))
    (hod : od.op = .defer call) (hcal : call.callee = .value (.func g)) (hargs : call.args = #[.tmp te]) (hdn : od.dst = none) (hgn : od.guard = none) (hcatch : CatchOk Try.prog g pv n)
    (hTX : TDOk Try.prog TX dX) (hX1 : dX.agg = true) (hX2 : dX.ty.n = A.n) (hTE : TDOk Try.prog TE dE) (hE1 : dE.agg = false) (hres : fn.results.toList = [.cell tx TX, .cell te TE])
    {FD : p.den → (Ty.pair q (.pair A (.int .i64))).den} {dflt : (Ty.pair q (.pair A (.int .i64))).den}
    (hL0 : loopsIn c0 = []) (hL : ∀ body ∈ loopsIn c1, ∀ s, L (codeId body) = some s → LoopOk Try.prog C.G (RetD pv (.pair q (.pair A (.int .i64))) (ptrD mask sz tx A.n te)) body s)
    (hsafe : ∀ x, (ex = false → Fit p x) → (∀ q, pre = some q → q x) → SafeW (evFnD C fn p psh mask sz ex q A tx te n pv L x))
    (hval : ∀ x, (evFnD C fn p psh mask sz ex q A tx te n pv L x).val (fixD n) dflt = FD x) :
    CpOk Try.prog gdS f { p := p, psh := psh, mask := mask, sz := sz, ro := false, ex := ex, q := q, r := .pair A (.int .i64), rsh := .tup [some A.n, none], pre := pre, F := fun x => ((FD x).2, (FD x).1) } :=
  hG ▸ fn_okD hC hf hb hod hcal hargs hdn hgn hcatch hTX hX1 hX2 hTE hE1 hres hL0 hL (fun x h1 h2 => (hsafe x h1 h2).safe) hval
theorem loop_runD {P : Program} {C : Ctx} (hC : CtxOk P C) {pv : Value} {Q : Ty} {pl : List (Nat × Nat)} {L : Nat → Option (LS Q.den)} {body : Code} {K X : Ty} {ks : List (Nat × Option Nat)} {kb : List (Nat × Nat)} {xs : List (Nat × Option Nat)} {xb : List (Nat × Nat)} {vecs : List (Nat × Nat × Bool × Nat)} {fz : List Nat} {ptrs : List (Nat × Nat)} {exit : Nat} {rets : Bool}
    {inv : K.den → X.den → Prop} {step : K.den → X.den → BOut K.den X.den Q.den} {μ : K.den → X.den → Nat} {d : BOut K.den X.den Q.den}
    (hL : ∀ b ∈ loopsIn body, ∀ s', L (codeId b) = some s' → LoopOk P C.G (RetD pv Q pl) b s')
    (hsafe : ∀ kv xv, Fit K kv → Fit X xv → inv kv xv → SafeW (evCode C L body (tmpl (mkLS K X ks kb xs xb vecs fz ptrs exit rets inv step μ) (enc K kv) (enc X xv)) (evRound (mkLS K X ks kb xs xb vecs fz ptrs exit rets inv step μ) (retD pv Q pl))))
    (hval : ∀ kv xv, (evCode C L body (tmpl (mkLS K X ks kb xs xb vecs fz ptrs exit rets inv step μ) (enc K kv) (enc X xv)) (evRound (mkLS K X ks kb xs xb vecs fz ptrs exit rets inv step μ) (retD pv Q pl))).val BOut.ret d = step kv xv)
    (hstep : ∀ kv xv, Fit K kv → inv kv xv → StepOk rets inv μ kv xv (step kv xv)) :
    LoopOk P C.G (RetD pv Q pl) body (mkLS K X ks kb xs xb vecs fz ptrs exit rets inv step μ) :=
  loop_run0 hC (fun e n X X' r a w h hr => hr.mono h) (ret := retD pv Q pl) (fun φ x st a w r hx hs hr => by
    obtain ⟨m, hm⟩ := hs
    rcases hx with rfl | ⟨v, rfl⟩
    · cases hr
    · simp only [retD] at hr
      cases hv : isPv v pv with
      | false => rw [hv] at hr; cases hr
      | true =>
        rw [hv] at hr
        simp only [cnd] at hr
        cases hb : rdBoxes st false Q pl with
        | none => rw [hb] at hr; cases hr
        | some y =>
          rw [hb] at hr
          cases hr
          rw [isPv_eq hv]
          exact ⟨rfl, boxes_ok hm hb⟩) hL hsafe hval hstep
end Go.Proofs.Ytbnihoioblmgkaa.Sy
end

section
/- caught: what a deferred call of it comes to (own work). -/
namespace Go.Proofs.Ytbnihoioblmgkaa.Sy
open Go Go.RowKit
set_option linter.unusedVariables false
set_option linter.unusedSimpArgs false
theorem caught_idle (p : Addr) (w : World) :
    CallsD Try.prog 61 #[.pointer (some p)] .returning w fun e u' w' => e = .returned (.tuple #[]) ∧ u' = .returning ∧ w' = w := by
  refine callsD_of_wpS Try.func61 rfl fun c₀ cs hu => ?_
  apply wpS_seq
  apply wpS_region
  simp [wpOpsS, go_sem, recoverD, hu, Try.ntmps61, Exit.thenS]
  apply wpS_seq
  refine wpS_of_wp ?_
  go_wp2
  simp only [Exit.thenS]
  refine wpS_cond (t := false) (by simp [Act.eval, Array.replicate]) ?_
  simp only [Bool.false_eq_true, if_false]
  refine wpS_of_wp ?_
  go_wp2
  cases c₀
  simp_all [bodyPostS, results, Try.f61, Exit.thenS]
theorem wrong_is : ∀ w, (Instr.typeAssert (.iface 130 (.agg #[])) 20 130 true).run Try.prog w = .ok (.tuple #[.agg #[], .bool true]) w := by
  intro w
  have hu : ∃ fs, Try.prog.underlying 130 = some (.struct fs) := ⟨#[], by kernel_rfl⟩
  obtain ⟨fs, hu⟩ := hu
  unfold Instr.typeAssert underlying
  have hp : Sem.run Try.prog program w = .ok Try.prog w := rfl
  simp only [Sem.run_bind, hp, Result.andThen_ok, hu, Sem.run_pure, if_true]
set_option maxRecDepth 20000 in
theorem caught_pan (b : Nat) (u0 : Value) (T : TypeId) (w : World) (hb : w.heap[b]? = some (.cells #[u0] T (0, 0))) :
    CallsD Try.prog 61 #[.pointer (some ⟨b, 0, none⟩)] (.panicking [{ v := wrongV, recovered := false }]) w fun e u' w' => e = .returned (.tuple #[]) ∧ u' = .panicking [{ v := wrongV, recovered := true }] ∧ w' = (w.setCell ⟨b, 0, none⟩ (.int .i64 31)).alloc (Obj.cells #[] 130) := by
  have hbl : b < w.heap.size := (Array.getElem?_eq_some_iff.1 hb).1
  have hb1 : (w.alloc (Obj.cells #[] 130)).heap[b]? = some (.cells #[u0] T (0, 0)) := (Below.heap_alloc w _ b hbl).trans hb
  have hc1 : (w.alloc (Obj.cells #[] 130)).cell? ⟨b, 0, none⟩ = some u0 := by rw [cell_heap hb1]; rfl
  have hz1 : (w.alloc (Obj.cells #[] 130)).frozen? ⟨b, 0, none⟩ = false := by
    simp only [World.frozen?, hb1]
    simp
  refine callsD_of_wpS Try.func61 rfl fun c₀ cs hu => ?_
  apply wpS_seq
  apply wpS_region
  simp [wpOpsS, go_sem, recoverD, hu, Try.ntmps61, Exit.thenS, wrongV]
  refine Eq.mp (congrArg (fun t => Code.wpS _ _ _ { tmps := t, defers := [] } _ _) (show #[.pointer (some ⟨b, 0, none⟩), undef, (.iface 130 (.agg #[])), undef, undef, (.iface 130 (.agg #[])), undef, undef, undef, undef, undef, undef, undef, undef, undef, undef, undef, undef] = _ from rfl)) ?_
  apply wpS_seq
  refine wpS_of_wp ?_
  go_wp2
  simp only [Exit.thenS]
  refine wpS_cond (t := true) (by simp [Act.eval, Array.replicate]) ?_
  simp only [if_true]
  refine wpS_of_wp ?_
  go_wp2
  rw [wrong_is]
  simp only [Result.andThen_ok, Oper.upon_value]
  go_wp2
  cases c₀
  simp_all [bodyPostS, results, Try.f61, Exit.thenS]
theorem catchOk : CatchOk Try.prog 61 wrongV 31 where
  fn := ⟨_, Try.func61, by kernel_rfl, by kernel_rfl⟩
  idle := caught_idle
  pan := fun b u0 T w hb => (caught_pan b u0 T w hb).mono fun e u' w' ⟨h1, h2, h3⟩ => ⟨h1, h2, .cells #[] 130, by rw [h3, setCell_eq_setRow w b 0 #[u0] T (0, 0) _ hb]; rfl⟩
end Go.Proofs.Ytbnihoioblmgkaa.Sy
end
