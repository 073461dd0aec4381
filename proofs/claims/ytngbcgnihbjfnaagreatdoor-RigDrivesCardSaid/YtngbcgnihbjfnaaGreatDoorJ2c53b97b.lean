/- Own texts joined by pk.py. -/
import Derived.Test.YtngbcgnihbjfnaaGreatDoorProg
import Derived.Lib.Tables
import Derived.Test.YtngbcgnihbjfnaaGreatDoorJef623dfb
import Derived.WalkKit
import Derived.WalkSpells
import Derived.WalkLawsBesides
import Derived.Handy
import Derived.Outline
import Derived.BigQuiet
import Derived.RegionTactic
import Derived.ChangeAlike
import Derived.Lib.Hide
import Derived.ProofKit
import Derived.OpenShut
import Derived.Deep.Slices
import Derived.Laws.Cover2
import Derived.Below
import Derived.Carry
import Derived.ChangeOld
import Derived.Test.YtngbcgnihbjfnaaGreatDoorChecked
import Derived.Lib.TrailingZeros
import Derived.Lib.BitFns
section
/- The types of this seat, for the evaluator; written by own program mktab.py. -/
namespace Go.Proofs.YtngbcgnihbjfnaaGreatDoor.Sy
open Go
set_option linter.unusedVariables false
set_option linter.unusedSimpArgs false
abbrev ty3 : Ty := (.int .i64)
abbrev ty4 : Ty := .bool
abbrev ty5 : Ty := (.int .u8)
abbrev ty9 : Ty := .str
abbrev ty22 : Ty := (.pair (.int .u8) (.int .u8))
abbrev ty23 : Ty := (.sl (.int .u8))
abbrev ty24 : Ty := (.flt .f64)
abbrev ty25 : Ty := (.sl (.pair (.int .i64) (.pair (.int .i64) (.pair (.int .i64) (.pair (.int .i64) (.pair (.int .i64) (.pair (.int .i64) (.pair (.int .i64) (.pair (.int .i64) (.int .i64))))))))))
abbrev ty27 : Ty := (.pair (.int .i64) (.pair (.int .i64) (.pair (.int .i64) (.pair (.int .i64) (.pair (.flt .f64) (.pair (.flt .f64) (.pair (.flt .f64) (.sl (.pair (.int .i64) (.pair (.int .i64) (.pair (.int .i64) (.pair (.int .i64) (.pair (.int .i64) (.pair (.int .i64) (.pair (.int .i64) (.pair (.int .i64) (.int .i64)))))))))))))))))
abbrev ty30 : Ty := (.pair (.int .i64) (.int .i64))
abbrev ty32 : Ty := (.pair (.int .i64) (.pair (.int .i64) (.pair (.int .i64) (.pair .bool (.int .i64)))))
abbrev ty34 : Ty := (.pair (.int .i64) (.pair (.int .i64) (.int .i64)))
abbrev ty35 : Ty := (.int .u32)
abbrev ty37 : Ty := (.pair (.pair (.int .i64) (.int .i64)) (.pair (.pair (.int .i64) (.pair (.int .i64) (.pair (.int .i64) (.pair .bool (.int .i64))))) (.pair (.pair (.int .i64) (.pair (.int .i64) (.int .i64))) (.pair (.int .u32) (.pair (.int .i64) (.pair (.int .i64) .bool))))))
abbrev ty39 : Ty := (.pair (.int .i64) (.pair (.int .i64) (.pair (.int .i64) (.pair (.int .i64) (.pair (.int .i64) (.int .i64))))))
abbrev ty42 : Ty := (.int .u64)
abbrev ty44 : Ty := (.pair (.int .u32) (.int .u32))
abbrev ty45 : Ty := (.int .i64)
abbrev ty53 : Ty := (.pair (.int .i64) (.pair (.int .i64) (.pair (.int .i64) (.pair (.int .i64) (.pair (.int .i64) (.pair (.int .i64) (.pair (.int .i64) (.pair (.int .i64) (.int .i64)))))))))
abbrev ty59 : Ty := (.pair (.int .i64) (.pair .bool (.pair (.int .i64) .bool)))
abbrev ty67 : Ty := (.pair (.pair (.int .i64) (.pair (.int .i64) (.pair (.int .i64) (.pair (.int .i64) (.pair (.flt .f64) (.pair (.flt .f64) (.pair (.flt .f64) (.sl (.pair (.int .i64) (.pair (.int .i64) (.pair (.int .i64) (.pair (.int .i64) (.pair (.int .i64) (.pair (.int .i64) (.pair (.int .i64) (.pair (.int .i64) (.int .i64))))))))))))))))) (.pair (.int .i64) (.pair (.pair (.pair (.int .i64) (.int .i64)) (.pair (.pair (.int .i64) (.pair (.int .i64) (.pair (.int .i64) (.pair .bool (.int .i64))))) (.pair (.pair (.int .i64) (.pair (.int .i64) (.int .i64))) (.pair (.int .u32) (.pair (.int .i64) (.pair (.int .i64) .bool)))))) (.pair (.pair (.int .i64) (.pair .bool (.pair (.int .i64) .bool))) (.int .i64)))))
abbrev ty91 : Ty := (.pair (.int .u32) (.pair (.int .u32) (.int .u32)))
abbrev ty93 : Ty := (.pair (.int .i64) (.pair (.int .i64) (.int .i64)))
abbrev ty101 : Ty := (.sl (.int .i64))
abbrev ty105 : Ty := (.int .u64)
abbrev ty107 : Ty := (.pair .bool (.pair .bool (.pair .bool (.pair .bool (.pair .bool (.int .i64))))))
abbrev ty132 : Ty := (.pair (.int .i64) (.pair (.int .i64) (.int .i64)))
abbrev ty134 : Ty := (.pair .bool (.pair .bool (.pair .bool (.pair (.int .i64) (.pair (.int .i64) (.int .i64))))))
abbrev ty138 : Ty := .fnt
abbrev ty140 : Ty := (.pair .fnt (.pair .fnt .fnt))
abbrev ty145 : Ty := (.pair (.int .u8) (.pair (.int .u8) (.pair (.int .u8) (.pair (.int .u8) (.pair (.int .u8) (.pair (.int .u8) (.pair (.int .u8) (.pair (.int .u8) (.pair (.int .u8) (.pair (.int .u8) (.pair (.int .u8) (.pair (.int .u8) (.pair (.int .u8) (.pair (.int .u8) (.pair (.int .u8) (.pair (.int .u8) (.pair (.int .u8) (.pair (.int .u8) (.pair (.int .u8) (.pair (.int .u8) (.pair (.int .u8) (.pair (.int .u8) (.pair (.int .u8) (.pair (.int .u8) (.pair (.int .u8) (.pair (.int .u8) (.pair (.int .u8) (.pair (.int .u8) (.pair (.int .u8) (.pair (.int .u8) (.pair (.int .u8) (.int .u8))))))))))))))))))))))))))))))))
def td3 : TD := { kind := .prim, ty := ty3, agg := false, bytes := 8, eq := false }
def td4 : TD := { kind := .prim, ty := ty4, agg := false, bytes := 1, eq := false }
def td5 : TD := { kind := .prim, ty := ty5, agg := false, bytes := 1, eq := false }
def td9 : TD := { kind := .prim, ty := ty9, agg := false, bytes := 16, eq := false }
def td22 : TD := { kind := .array 2 5, ty := ty22, agg := true, bytes := 2, eq := false }
def td23 : TD := { kind := .slice 5, ty := ty23, agg := false, bytes := 24, eq := false }
def td24 : TD := { kind := .prim, ty := ty24, agg := false, bytes := 8, eq := false }
def td25 : TD := { kind := .slice 53, ty := ty25, agg := false, bytes := 24, eq := false }
def td27 : TD := { kind := .struct [(3, 0), (3, 1), (3, 2), (3, 3), (24, 4), (24, 5), (24, 6), (25, 7)], ty := ty27, agg := true, bytes := 80, eq := false }
def td30 : TD := { kind := .struct [(3, 0), (3, 1)], ty := ty30, agg := true, bytes := 16, eq := true }
def td32 : TD := { kind := .struct [(3, 0), (3, 1), (3, 2), (4, 3), (3, 4)], ty := ty32, agg := true, bytes := 40, eq := true }
def td34 : TD := { kind := .struct [(3, 0), (3, 1), (3, 2)], ty := ty34, agg := true, bytes := 24, eq := true }
def td35 : TD := { kind := .prim, ty := ty35, agg := false, bytes := 4, eq := false }
def td37 : TD := { kind := .struct [(30, 0), (32, 2), (34, 7), (35, 10), (3, 11), (3, 12), (4, 13)], ty := ty37, agg := true, bytes := 112, eq := true }
def td39 : TD := { kind := .struct [(3, 0), (3, 1), (3, 2), (3, 3), (3, 4), (3, 5)], ty := ty39, agg := true, bytes := 48, eq := true }
def td42 : TD := { kind := .prim, ty := ty42, agg := false, bytes := 8, eq := false }
def td44 : TD := { kind := .struct [(35, 0), (35, 1)], ty := ty44, agg := true, bytes := 8, eq := true }
def td45 : TD := { kind := .prim, ty := ty45, agg := false, bytes := 8, eq := false }
def td53 : TD := { kind := .struct [(3, 0), (3, 1), (3, 2), (3, 3), (3, 4), (3, 5), (3, 6), (3, 7), (3, 8)], ty := ty53, agg := true, bytes := 72, eq := true }
def td59 : TD := { kind := .struct [(3, 0), (4, 1), (3, 2), (4, 3)], ty := ty59, agg := true, bytes := 32, eq := true }
def td67 : TD := { kind := .struct [(27, 0), (3, 8), (37, 9), (59, 23), (3, 27)], ty := ty67, agg := true, bytes := 240, eq := false }
def td91 : TD := { kind := .struct [(35, 0), (44, 1)], ty := ty91, agg := true, bytes := 12, eq := true }
def td93 : TD := { kind := .struct [(3, 0), (3, 1), (3, 2)], ty := ty93, agg := true, bytes := 24, eq := true }
def td101 : TD := { kind := .slice 3, ty := ty101, agg := false, bytes := 24, eq := false }
def td105 : TD := { kind := .prim, ty := ty105, agg := false, bytes := 8, eq := false }
def td107 : TD := { kind := .struct [(4, 0), (4, 1), (4, 2), (4, 3), (4, 4), (3, 5)], ty := ty107, agg := true, bytes := 16, eq := true }
def td132 : TD := { kind := .array 3 3, ty := ty132, agg := true, bytes := 24, eq := false }
def td134 : TD := { kind := .struct [(4, 0), (4, 1), (4, 2), (3, 3), (3, 4), (3, 5)], ty := ty134, agg := true, bytes := 32, eq := true }
def td138 : TD := { kind := .prim, ty := ty138, agg := false, bytes := 8, eq := false }
def td140 : TD := { kind := .array 3 138, ty := ty140, agg := true, bytes := 24, eq := false }
def td145 : TD := { kind := .array 32 5, ty := ty145, agg := true, bytes := 32, eq := false }
def tabL : List (Nat × TD) := [(3, td3), (4, td4), (5, td5), (9, td9), (22, td22), (23, td23), (24, td24), (25, td25), (27, td27), (30, td30), (32, td32), (34, td34), (35, td35), (37, td37), (39, td39), (42, td42), (44, td44), (45, td45), (53, td53), (59, td59), (67, td67), (91, td91), (93, td93), (101, td101), (105, td105), (107, td107), (132, td132), (134, td134), (138, td138), (140, td140), (145, td145)]
theorem io3 : InfoOk Tryz.prog 3 ty3 false := infoOk_mk (by kernel_rfl)
theorem io4 : InfoOk Tryz.prog 4 ty4 false := infoOk_mk (by kernel_rfl)
theorem io5 : InfoOk Tryz.prog 5 ty5 false := infoOk_mk (by kernel_rfl)
theorem io9 : InfoOk Tryz.prog 9 ty9 false := infoOk_mk (by kernel_rfl)
theorem io22 : InfoOk Tryz.prog 22 ty22 true := infoOk_mk (by kernel_rfl)
theorem io23 : InfoOk Tryz.prog 23 ty23 false := infoOk_mk (by kernel_rfl)
theorem io24 : InfoOk Tryz.prog 24 ty24 false := infoOk_mk (by kernel_rfl)
theorem io25 : InfoOk Tryz.prog 25 ty25 false := infoOk_mk (by kernel_rfl)
theorem io27 : InfoOk Tryz.prog 27 ty27 true := infoOk_mk (by kernel_rfl)
theorem io30 : InfoOk Tryz.prog 30 ty30 true := infoOk_mk (by kernel_rfl)
theorem io32 : InfoOk Tryz.prog 32 ty32 true := infoOk_mk (by kernel_rfl)
theorem io34 : InfoOk Tryz.prog 34 ty34 true := infoOk_mk (by kernel_rfl)
theorem io35 : InfoOk Tryz.prog 35 ty35 false := infoOk_mk (by kernel_rfl)
theorem io37 : InfoOk Tryz.prog 37 ty37 true := infoOk_mk (by kernel_rfl)
theorem io39 : InfoOk Tryz.prog 39 ty39 true := infoOk_mk (by kernel_rfl)
theorem io42 : InfoOk Tryz.prog 42 ty42 false := infoOk_mk (by kernel_rfl)
theorem io44 : InfoOk Tryz.prog 44 ty44 true := infoOk_mk (by kernel_rfl)
theorem io45 : InfoOk Tryz.prog 45 ty45 false := infoOk_mk (by kernel_rfl)
theorem io53 : InfoOk Tryz.prog 53 ty53 true := infoOk_mk (by kernel_rfl)
theorem io59 : InfoOk Tryz.prog 59 ty59 true := infoOk_mk (by kernel_rfl)
theorem io67 : InfoOk Tryz.prog 67 ty67 true := infoOk_mk (by kernel_rfl)
theorem io91 : InfoOk Tryz.prog 91 ty91 true := infoOk_mk (by kernel_rfl)
theorem io93 : InfoOk Tryz.prog 93 ty93 true := infoOk_mk (by kernel_rfl)
theorem io101 : InfoOk Tryz.prog 101 ty101 false := infoOk_mk (by kernel_rfl)
theorem io105 : InfoOk Tryz.prog 105 ty105 false := infoOk_mk (by kernel_rfl)
theorem io107 : InfoOk Tryz.prog 107 ty107 true := infoOk_mk (by kernel_rfl)
theorem io132 : InfoOk Tryz.prog 132 ty132 true := infoOk_mk (by kernel_rfl)
theorem io134 : InfoOk Tryz.prog 134 ty134 true := infoOk_mk (by kernel_rfl)
theorem io138 : InfoOk Tryz.prog 138 ty138 false := infoOk_mk (by kernel_rfl)
theorem io140 : InfoOk Tryz.prog 140 ty140 true := infoOk_mk (by kernel_rfl)
theorem io145 : InfoOk Tryz.prog 145 ty145 true := infoOk_mk (by kernel_rfl)
theorem to3 : TDOk Tryz.prog 3 td3 := tdOk_mk (d := td3) Tryz.underlying3 io3 rfl rfl (fun _ => rfl) (fun _ => rfl)
theorem to4 : TDOk Tryz.prog 4 td4 := tdOk_mk (d := td4) Tryz.underlying4 io4 rfl rfl (fun _ => rfl) (fun _ => rfl)
theorem to5 : TDOk Tryz.prog 5 td5 := tdOk_mk (d := td5) Tryz.underlying5 io5 rfl rfl (fun _ => rfl) (fun _ => rfl)
theorem to9 : TDOk Tryz.prog 9 td9 := tdOk_mk (d := td9) Tryz.underlying9 io9 rfl rfl (fun _ => rfl) (fun _ => rfl)
theorem to22 : TDOk Tryz.prog 22 td22 := tdOk_mk (d := td22) Tryz.underlying22 io22 rfl ⟨rfl, rfl⟩ (fun h => by cases h) (fun h => by cases h)
theorem to23 : TDOk Tryz.prog 23 td23 := tdOk_mk (d := td23) Tryz.underlying23 io23 rfl ⟨rfl, rfl, _, _, rfl, io5⟩ (fun _ => ⟨_, rfl⟩) (fun _ => rfl)
theorem to24 : TDOk Tryz.prog 24 td24 := tdOk_mk (d := td24) Tryz.underlying24 io24 rfl rfl (fun _ => rfl) (fun _ => rfl)
theorem to25 : TDOk Tryz.prog 25 td25 := tdOk_mk (d := td25) Tryz.underlying25 io25 rfl ⟨rfl, rfl, _, _, rfl, io53⟩ (fun _ => ⟨_, rfl⟩) (fun _ => rfl)
theorem to27 : TDOk Tryz.prog 27 td27 := tdOk_mk (d := td27) Tryz.underlying27 io27 rfl ⟨rfl, _, rfl, rfl, all_info (by kernel_rfl)⟩ (fun h => by cases h) (fun h => by cases h)
theorem to30 : TDOk Tryz.prog 30 td30 := tdOk_mk (d := td30) Tryz.underlying30 io30 rfl ⟨rfl, _, rfl, rfl, all_info (by kernel_rfl)⟩ (fun h => by cases h) (fun h => by cases h)
theorem to32 : TDOk Tryz.prog 32 td32 := tdOk_mk (d := td32) Tryz.underlying32 io32 rfl ⟨rfl, _, rfl, rfl, all_info (by kernel_rfl)⟩ (fun h => by cases h) (fun h => by cases h)
theorem to34 : TDOk Tryz.prog 34 td34 := tdOk_mk (d := td34) Tryz.underlying34 io34 rfl ⟨rfl, _, rfl, rfl, all_info (by kernel_rfl)⟩ (fun h => by cases h) (fun h => by cases h)
theorem to35 : TDOk Tryz.prog 35 td35 := tdOk_mk (d := td35) Tryz.underlying35 io35 rfl rfl (fun _ => rfl) (fun _ => rfl)
theorem to37 : TDOk Tryz.prog 37 td37 := tdOk_mk (d := td37) Tryz.underlying37 io37 rfl ⟨rfl, _, rfl, rfl, all_info (by kernel_rfl)⟩ (fun h => by cases h) (fun h => by cases h)
theorem to39 : TDOk Tryz.prog 39 td39 := tdOk_mk (d := td39) Tryz.underlying39 io39 rfl ⟨rfl, _, rfl, rfl, all_info (by kernel_rfl)⟩ (fun h => by cases h) (fun h => by cases h)
theorem to42 : TDOk Tryz.prog 42 td42 := tdOk_mk (d := td42) Tryz.underlying42 io42 rfl rfl (fun _ => rfl) (fun _ => rfl)
theorem to44 : TDOk Tryz.prog 44 td44 := tdOk_mk (d := td44) Tryz.underlying44 io44 rfl ⟨rfl, _, rfl, rfl, all_info (by kernel_rfl)⟩ (fun h => by cases h) (fun h => by cases h)
theorem to45 : TDOk Tryz.prog 45 td45 := tdOk_mk (d := td45) Tryz.underlying45 io45 rfl rfl (fun _ => rfl) (fun _ => rfl)
theorem to53 : TDOk Tryz.prog 53 td53 := tdOk_mk (d := td53) Tryz.underlying53 io53 rfl ⟨rfl, _, rfl, rfl, all_info (by kernel_rfl)⟩ (fun h => by cases h) (fun h => by cases h)
theorem to59 : TDOk Tryz.prog 59 td59 := tdOk_mk (d := td59) Tryz.underlying59 io59 rfl ⟨rfl, _, rfl, rfl, all_info (by kernel_rfl)⟩ (fun h => by cases h) (fun h => by cases h)
theorem to67 : TDOk Tryz.prog 67 td67 := tdOk_mk (d := td67) Tryz.underlying67 io67 rfl ⟨rfl, _, rfl, rfl, all_info (by kernel_rfl)⟩ (fun h => by cases h) (fun h => by cases h)
theorem to91 : TDOk Tryz.prog 91 td91 := tdOk_mk (d := td91) Tryz.underlying91 io91 rfl ⟨rfl, _, rfl, rfl, all_info (by kernel_rfl)⟩ (fun h => by cases h) (fun h => by cases h)
theorem to93 : TDOk Tryz.prog 93 td93 := tdOk_mk (d := td93) Tryz.underlying93 io93 rfl ⟨rfl, _, rfl, rfl, all_info (by kernel_rfl)⟩ (fun h => by cases h) (fun h => by cases h)
theorem to101 : TDOk Tryz.prog 101 td101 := tdOk_mk (d := td101) Tryz.underlying101 io101 rfl ⟨rfl, rfl, _, _, rfl, io3⟩ (fun _ => ⟨_, rfl⟩) (fun _ => rfl)
theorem to105 : TDOk Tryz.prog 105 td105 := tdOk_mk (d := td105) Tryz.underlying105 io105 rfl rfl (fun _ => rfl) (fun _ => rfl)
theorem to107 : TDOk Tryz.prog 107 td107 := tdOk_mk (d := td107) Tryz.underlying107 io107 rfl ⟨rfl, _, rfl, rfl, all_info (by kernel_rfl)⟩ (fun h => by cases h) (fun h => by cases h)
theorem to132 : TDOk Tryz.prog 132 td132 := tdOk_mk (d := td132) Tryz.underlying132 io132 rfl ⟨rfl, rfl⟩ (fun h => by cases h) (fun h => by cases h)
theorem to134 : TDOk Tryz.prog 134 td134 := tdOk_mk (d := td134) Tryz.underlying134 io134 rfl ⟨rfl, _, rfl, rfl, all_info (by kernel_rfl)⟩ (fun h => by cases h) (fun h => by cases h)
theorem to138 : TDOk Tryz.prog 138 td138 := tdOk_mk (d := td138) Tryz.underlying138 io138 rfl rfl (fun _ => trivial) (fun _ => rfl)
theorem to140 : TDOk Tryz.prog 140 td140 := tdOk_mk (d := td140) Tryz.underlying140 io140 rfl ⟨rfl, rfl⟩ (fun h => by cases h) (fun h => by cases h)
theorem to145 : TDOk Tryz.prog 145 td145 := tdOk_mk (d := td145) Tryz.underlying145 io145 rfl ⟨rfl, rfl⟩ (fun h => by cases h) (fun h => by cases h)
theorem eq3 (dd : Nat) : EqT Tryz.prog (dd + 1) 3 ty3 false := eqT_int Tryz.underlying3 dd
theorem eq30 (dd : Nat) : EqT Tryz.prog (dd + 2) 30 ty30 true := eqT_struct Tryz.underlying30 Tryz.stoodInHeld30 (dd := dd + 1) ⟨by decide, rfl, ⟨td3, to3, rfl, eq3 (dd + 0)⟩, ⟨by decide, rfl, td3, to3, rfl, eq3 (dd + 0)⟩⟩
theorem eq4 (dd : Nat) : EqT Tryz.prog (dd + 1) 4 ty4 false := eqT_bool Tryz.underlying4 dd
theorem eq32 (dd : Nat) : EqT Tryz.prog (dd + 2) 32 ty32 true := eqT_struct Tryz.underlying32 Tryz.stoodInHeld32 (dd := dd + 1) ⟨by decide, rfl, ⟨td3, to3, rfl, eq3 (dd + 0)⟩, ⟨by decide, rfl, ⟨td3, to3, rfl, eq3 (dd + 0)⟩, ⟨by decide, rfl, ⟨td3, to3, rfl, eq3 (dd + 0)⟩, ⟨by decide, rfl, ⟨td4, to4, rfl, eq4 (dd + 0)⟩, ⟨by decide, rfl, td3, to3, rfl, eq3 (dd + 0)⟩⟩⟩⟩⟩
theorem eq34 (dd : Nat) : EqT Tryz.prog (dd + 2) 34 ty34 true := eqT_struct Tryz.underlying34 Tryz.stoodInHeld34 (dd := dd + 1) ⟨by decide, rfl, ⟨td3, to3, rfl, eq3 (dd + 0)⟩, ⟨by decide, rfl, ⟨td3, to3, rfl, eq3 (dd + 0)⟩, ⟨by decide, rfl, td3, to3, rfl, eq3 (dd + 0)⟩⟩⟩
theorem eq35 (dd : Nat) : EqT Tryz.prog (dd + 1) 35 ty35 false := eqT_int Tryz.underlying35 dd
theorem eq37 (dd : Nat) : EqT Tryz.prog (dd + 3) 37 ty37 true := eqT_struct Tryz.underlying37 Tryz.stoodInHeld37 (dd := dd + 2) ⟨by decide, rfl, ⟨td30, to30, rfl, eq30 (dd + 0)⟩, ⟨by decide, rfl, ⟨td32, to32, rfl, eq32 (dd + 0)⟩, ⟨by decide, rfl, ⟨td34, to34, rfl, eq34 (dd + 0)⟩, ⟨by decide, rfl, ⟨td35, to35, rfl, eq35 (dd + 1)⟩, ⟨by decide, rfl, ⟨td3, to3, rfl, eq3 (dd + 1)⟩, ⟨by decide, rfl, ⟨td3, to3, rfl, eq3 (dd + 1)⟩, ⟨by decide, rfl, td4, to4, rfl, eq4 (dd + 1)⟩⟩⟩⟩⟩⟩⟩
theorem eq39 (dd : Nat) : EqT Tryz.prog (dd + 2) 39 ty39 true := eqT_struct Tryz.underlying39 Tryz.stoodInHeld39 (dd := dd + 1) ⟨by decide, rfl, ⟨td3, to3, rfl, eq3 (dd + 0)⟩, ⟨by decide, rfl, ⟨td3, to3, rfl, eq3 (dd + 0)⟩, ⟨by decide, rfl, ⟨td3, to3, rfl, eq3 (dd + 0)⟩, ⟨by decide, rfl, ⟨td3, to3, rfl, eq3 (dd + 0)⟩, ⟨by decide, rfl, ⟨td3, to3, rfl, eq3 (dd + 0)⟩, ⟨by decide, rfl, td3, to3, rfl, eq3 (dd + 0)⟩⟩⟩⟩⟩⟩
theorem eq44 (dd : Nat) : EqT Tryz.prog (dd + 2) 44 ty44 true := eqT_struct Tryz.underlying44 Tryz.stoodInHeld44 (dd := dd + 1) ⟨by decide, rfl, ⟨td35, to35, rfl, eq35 (dd + 0)⟩, ⟨by decide, rfl, td35, to35, rfl, eq35 (dd + 0)⟩⟩
theorem eq53 (dd : Nat) : EqT Tryz.prog (dd + 2) 53 ty53 true := eqT_struct Tryz.underlying53 Tryz.stoodInHeld53 (dd := dd + 1) ⟨by decide, rfl, ⟨td3, to3, rfl, eq3 (dd + 0)⟩, ⟨by decide, rfl, ⟨td3, to3, rfl, eq3 (dd + 0)⟩, ⟨by decide, rfl, ⟨td3, to3, rfl, eq3 (dd + 0)⟩, ⟨by decide, rfl, ⟨td3, to3, rfl, eq3 (dd + 0)⟩, ⟨by decide, rfl, ⟨td3, to3, rfl, eq3 (dd + 0)⟩, ⟨by decide, rfl, ⟨td3, to3, rfl, eq3 (dd + 0)⟩, ⟨by decide, rfl, ⟨td3, to3, rfl, eq3 (dd + 0)⟩, ⟨by decide, rfl, ⟨td3, to3, rfl, eq3 (dd + 0)⟩, ⟨by decide, rfl, td3, to3, rfl, eq3 (dd + 0)⟩⟩⟩⟩⟩⟩⟩⟩⟩
theorem eq59 (dd : Nat) : EqT Tryz.prog (dd + 2) 59 ty59 true := eqT_struct Tryz.underlying59 Tryz.stoodInHeld59 (dd := dd + 1) ⟨by decide, rfl, ⟨td3, to3, rfl, eq3 (dd + 0)⟩, ⟨by decide, rfl, ⟨td4, to4, rfl, eq4 (dd + 0)⟩, ⟨by decide, rfl, ⟨td3, to3, rfl, eq3 (dd + 0)⟩, ⟨by decide, rfl, td4, to4, rfl, eq4 (dd + 0)⟩⟩⟩⟩
theorem eq91 (dd : Nat) : EqT Tryz.prog (dd + 3) 91 ty91 true := eqT_struct Tryz.underlying91 Tryz.stoodInHeld91 (dd := dd + 2) ⟨by decide, rfl, ⟨td35, to35, rfl, eq35 (dd + 1)⟩, ⟨by decide, rfl, td44, to44, rfl, eq44 (dd + 0)⟩⟩
theorem eq93 (dd : Nat) : EqT Tryz.prog (dd + 2) 93 ty93 true := eqT_struct Tryz.underlying93 Tryz.stoodInHeld93 (dd := dd + 1) ⟨by decide, rfl, ⟨td3, to3, rfl, eq3 (dd + 0)⟩, ⟨by decide, rfl, ⟨td3, to3, rfl, eq3 (dd + 0)⟩, ⟨by decide, rfl, td3, to3, rfl, eq3 (dd + 0)⟩⟩⟩
theorem eq107 (dd : Nat) : EqT Tryz.prog (dd + 2) 107 ty107 true := eqT_struct Tryz.underlying107 Tryz.stoodInHeld107 (dd := dd + 1) ⟨by decide, rfl, ⟨td4, to4, rfl, eq4 (dd + 0)⟩, ⟨by decide, rfl, ⟨td4, to4, rfl, eq4 (dd + 0)⟩, ⟨by decide, rfl, ⟨td4, to4, rfl, eq4 (dd + 0)⟩, ⟨by decide, rfl, ⟨td4, to4, rfl, eq4 (dd + 0)⟩, ⟨by decide, rfl, ⟨td4, to4, rfl, eq4 (dd + 0)⟩, ⟨by decide, rfl, td3, to3, rfl, eq3 (dd + 0)⟩⟩⟩⟩⟩⟩
theorem eq134 (dd : Nat) : EqT Tryz.prog (dd + 2) 134 ty134 true := eqT_struct Tryz.underlying134 Tryz.stoodInHeld134 (dd := dd + 1) ⟨by decide, rfl, ⟨td4, to4, rfl, eq4 (dd + 0)⟩, ⟨by decide, rfl, ⟨td4, to4, rfl, eq4 (dd + 0)⟩, ⟨by decide, rfl, ⟨td4, to4, rfl, eq4 (dd + 0)⟩, ⟨by decide, rfl, ⟨td3, to3, rfl, eq3 (dd + 0)⟩, ⟨by decide, rfl, ⟨td3, to3, rfl, eq3 (dd + 0)⟩, ⟨by decide, rfl, td3, to3, rfl, eq3 (dd + 0)⟩⟩⟩⟩⟩⟩
theorem tabOk : ∀ t d, lookupD tabL t = some d → TDOk Tryz.prog t d := by
  intro t d h
  have h := lookupD_mem h
  simp only [tabL, List.mem_cons, Prod.mk.injEq, List.not_mem_nil, or_false] at h
  rcases h with ⟨rfl, rfl⟩ | ⟨rfl, rfl⟩ | ⟨rfl, rfl⟩ | ⟨rfl, rfl⟩ | ⟨rfl, rfl⟩ | ⟨rfl, rfl⟩ | ⟨rfl, rfl⟩ | ⟨rfl, rfl⟩ | ⟨rfl, rfl⟩ | ⟨rfl, rfl⟩ | ⟨rfl, rfl⟩ | ⟨rfl, rfl⟩ | ⟨rfl, rfl⟩ | ⟨rfl, rfl⟩ | ⟨rfl, rfl⟩ | ⟨rfl, rfl⟩ | ⟨rfl, rfl⟩ | ⟨rfl, rfl⟩ | ⟨rfl, rfl⟩ | ⟨rfl, rfl⟩ | ⟨rfl, rfl⟩ | ⟨rfl, rfl⟩ | ⟨rfl, rfl⟩ | ⟨rfl, rfl⟩ | ⟨rfl, rfl⟩ | ⟨rfl, rfl⟩ | ⟨rfl, rfl⟩ | ⟨rfl, rfl⟩ | ⟨rfl, rfl⟩ | ⟨rfl, rfl⟩ | ⟨rfl, rfl⟩
  · exact to3
  · exact to4
  · exact to5
  · exact to9
  · exact to22
  · exact to23
  · exact to24
  · exact to25
  · exact to27
  · exact to30
  · exact to32
  · exact to34
  · exact to35
  · exact to37
  · exact to39
  · exact to42
  · exact to44
  · exact to45
  · exact to53
  · exact to59
  · exact to67
  · exact to91
  · exact to93
  · exact to101
  · exact to105
  · exact to107
  · exact to132
  · exact to134
  · exact to138
  · exact to140
  · exact to145
theorem bytesOk : ∀ t d i, lookupD tabL t = some d → Tryz.prog.info? t = some i → 0 < d.ty.n → i.bytes = d.bytes := by
  intro t d i h hi _
  have h := lookupD_mem h
  simp only [tabL, List.mem_cons, Prod.mk.injEq, List.not_mem_nil, or_false] at h
  rcases h with ⟨rfl, rfl⟩ | ⟨rfl, rfl⟩ | ⟨rfl, rfl⟩ | ⟨rfl, rfl⟩ | ⟨rfl, rfl⟩ | ⟨rfl, rfl⟩ | ⟨rfl, rfl⟩ | ⟨rfl, rfl⟩ | ⟨rfl, rfl⟩ | ⟨rfl, rfl⟩ | ⟨rfl, rfl⟩ | ⟨rfl, rfl⟩ | ⟨rfl, rfl⟩ | ⟨rfl, rfl⟩ | ⟨rfl, rfl⟩ | ⟨rfl, rfl⟩ | ⟨rfl, rfl⟩ | ⟨rfl, rfl⟩ | ⟨rfl, rfl⟩ | ⟨rfl, rfl⟩ | ⟨rfl, rfl⟩ | ⟨rfl, rfl⟩ | ⟨rfl, rfl⟩ | ⟨rfl, rfl⟩ | ⟨rfl, rfl⟩ | ⟨rfl, rfl⟩ | ⟨rfl, rfl⟩ | ⟨rfl, rfl⟩ | ⟨rfl, rfl⟩ | ⟨rfl, rfl⟩ | ⟨rfl, rfl⟩
  · exact bytes_mk (by kernel_rfl) i hi
  · exact bytes_mk (by kernel_rfl) i hi
  · exact bytes_mk (by kernel_rfl) i hi
  · exact bytes_mk (by kernel_rfl) i hi
  · exact bytes_mk (by kernel_rfl) i hi
  · exact bytes_mk (by kernel_rfl) i hi
  · exact bytes_mk (by kernel_rfl) i hi
  · exact bytes_mk (by kernel_rfl) i hi
  · exact bytes_mk (by kernel_rfl) i hi
  · exact bytes_mk (by kernel_rfl) i hi
  · exact bytes_mk (by kernel_rfl) i hi
  · exact bytes_mk (by kernel_rfl) i hi
  · exact bytes_mk (by kernel_rfl) i hi
  · exact bytes_mk (by kernel_rfl) i hi
  · exact bytes_mk (by kernel_rfl) i hi
  · exact bytes_mk (by kernel_rfl) i hi
  · exact bytes_mk (by kernel_rfl) i hi
  · exact bytes_mk (by kernel_rfl) i hi
  · exact bytes_mk (by kernel_rfl) i hi
  · exact bytes_mk (by kernel_rfl) i hi
  · exact bytes_mk (by kernel_rfl) i hi
  · exact bytes_mk (by kernel_rfl) i hi
  · exact bytes_mk (by kernel_rfl) i hi
  · exact bytes_mk (by kernel_rfl) i hi
  · exact bytes_mk (by kernel_rfl) i hi
  · exact bytes_mk (by kernel_rfl) i hi
  · exact bytes_mk (by kernel_rfl) i hi
  · exact bytes_mk (by kernel_rfl) i hi
  · exact bytes_mk (by kernel_rfl) i hi
  · exact bytes_mk (by kernel_rfl) i hi
  · exact bytes_mk (by kernel_rfl) i hi
def xtL : List (Nat × Xt) := []
theorem xtOk : ∀ f x, lookXt xtL f = some x → XtOk Tryz.prog f x := fun _ _ h => by cases h
def tabB : List Int := [0, 1, 28, 2, 29, 14, 24, 3, 30, 22, 20, 15, 25, 17, 4, 8, 31, 27, 13, 23, 21, 19, 16, 7, 26, 12, 18, 6, 11, 5, 10, 9]
def gdS : Gd where
  H w := ∀ k, k < 32 → w.cell? ⟨0, k, none⟩ = some (.int .u8 (tabB.getD k 0))
  gl b := b = 0
  mono := by
    intro u v hk hu k hlt
    have h1 := (hk.block 0 rfl).2
    have h := hu k hlt
    unfold World.cell? at h ⊢
    rw [h1]
    exact h
  low := by
    intro u b hu hb
    subst hb
    exact cell_lt (hu 0 (by decide))
def gvS : Nat → Option (Sigma fun e : Ty => List e.den) := fun g => cnd (Nat.beq g 0) (some ⟨.int .u8, tabB⟩) none
theorem gvOk : ∀ g e l, gvS g = some ⟨e, l⟩ → ∃ b, gdS.gl b ∧ ∀ (a : Act) (w : World) (X : Nat → Nat → Prop), gdS.H w → (∀ b p, X b p → ¬ gdS.gl b) → a.eval (.global g) = .pointer (some ⟨b, 0, none⟩) ∧ RowsOk w X e.n (TR w X e) l b 0 := by
  intro g e l h
  obtain ⟨h1, h2⟩ := cnd_some h
  have hg := beq_eq h1
  subst hg
  cases h2
  refine ⟨0, rfl, fun a w X hH hX => ⟨rfl, fun i hi => ⟨[.int .u8 tabB[i]], rfl, fun j hj => ?_, rfl⟩, fun p _ _ hx => hX _ _ hx rfl⟩⟩
  have hj : j = 0 := by simp only [Ty.n] at hj; omega
  subst hj
  have := hH i hi
  simp only [Ty.n, Nat.mul_one, Nat.add_zero, Nat.zero_add]
  rw [this]
  simp [List.getD, hi]
theorem eqOk : ∀ t d, lookupD tabL t = some d → d.eq = true → ∀ (m : Map) (X : Nat → Nat → Prop) (w : World) (xs ys : List Cell) (r : Bool) (us vs : List Value), eqTy d.ty xs ys = some r → CRs m X w xs us → CRs m X w ys vs →
    xs.length = d.ty.n → ys.length = d.ty.n →
    (eqGuard .eql t (.tmp 0) (.tmp 0) (.agg us.toArray) (.agg vs.toArray) >>= fun _ => binOp .eql t (.agg us.toArray) (.agg vs.toArray)).run Tryz.prog w = .ok (.bool r) w ∧
    (eqGuard .neq t (.tmp 0) (.tmp 0) (.agg us.toArray) (.agg vs.toArray) >>= fun _ => binOp .neq t (.agg us.toArray) (.agg vs.toArray)).run Tryz.prog w = .ok (.bool (!r)) w := by
  intro t d h he
  have h := lookupD_mem h
  simp only [tabL, List.mem_cons, Prod.mk.injEq, List.not_mem_nil, or_false] at h
  rcases h with ⟨rfl, rfl⟩ | ⟨rfl, rfl⟩ | ⟨rfl, rfl⟩ | ⟨rfl, rfl⟩ | ⟨rfl, rfl⟩ | ⟨rfl, rfl⟩ | ⟨rfl, rfl⟩ | ⟨rfl, rfl⟩ | ⟨rfl, rfl⟩ | ⟨rfl, rfl⟩ | ⟨rfl, rfl⟩ | ⟨rfl, rfl⟩ | ⟨rfl, rfl⟩ | ⟨rfl, rfl⟩ | ⟨rfl, rfl⟩ | ⟨rfl, rfl⟩ | ⟨rfl, rfl⟩ | ⟨rfl, rfl⟩ | ⟨rfl, rfl⟩ | ⟨rfl, rfl⟩ | ⟨rfl, rfl⟩ | ⟨rfl, rfl⟩ | ⟨rfl, rfl⟩ | ⟨rfl, rfl⟩ | ⟨rfl, rfl⟩ | ⟨rfl, rfl⟩ | ⟨rfl, rfl⟩ | ⟨rfl, rfl⟩ | ⟨rfl, rfl⟩ | ⟨rfl, rfl⟩ | ⟨rfl, rfl⟩
  · cases he
  · cases he
  · cases he
  · cases he
  · cases he
  · cases he
  · cases he
  · cases he
  · cases he
  · exact fun m X w xs ys r us vs h1 h2 h3 _ _ => eqFact (eq30 9998) Tryz.eqGuardType30 m X w xs ys r us vs h1 h2 h3
  · exact fun m X w xs ys r us vs h1 h2 h3 _ _ => eqFact (eq32 9998) Tryz.eqGuardType32 m X w xs ys r us vs h1 h2 h3
  · exact fun m X w xs ys r us vs h1 h2 h3 _ _ => eqFact (eq34 9998) Tryz.eqGuardType34 m X w xs ys r us vs h1 h2 h3
  · cases he
  · exact fun m X w xs ys r us vs h1 h2 h3 _ _ => eqFact (eq37 9997) Tryz.eqGuardType37 m X w xs ys r us vs h1 h2 h3
  · exact fun m X w xs ys r us vs h1 h2 h3 _ _ => eqFact (eq39 9998) Tryz.eqGuardType39 m X w xs ys r us vs h1 h2 h3
  · cases he
  · exact fun m X w xs ys r us vs h1 h2 h3 _ _ => eqFact (eq44 9998) Tryz.eqGuardType44 m X w xs ys r us vs h1 h2 h3
  · cases he
  · exact fun m X w xs ys r us vs h1 h2 h3 _ _ => eqFact (eq53 9998) Tryz.eqGuardType53 m X w xs ys r us vs h1 h2 h3
  · exact fun m X w xs ys r us vs h1 h2 h3 _ _ => eqFact (eq59 9998) Tryz.eqGuardType59 m X w xs ys r us vs h1 h2 h3
  · cases he
  · exact fun m X w xs ys r us vs h1 h2 h3 _ _ => eqFact (eq91 9997) Tryz.eqGuardType91 m X w xs ys r us vs h1 h2 h3
  · exact fun m X w xs ys r us vs h1 h2 h3 _ _ => eqFact (eq93 9998) Tryz.eqGuardType93 m X w xs ys r us vs h1 h2 h3
  · cases he
  · cases he
  · exact fun m X w xs ys r us vs h1 h2 h3 _ _ => eqFact (eq107 9998) Tryz.eqGuardType107 m X w xs ys r us vs h1 h2 h3
  · cases he
  · exact fun m X w xs ys r us vs h1 h2 h3 _ _ => eqFact (eq134 9998) Tryz.eqGuardType134 m X w xs ys r us vs h1 h2 h3
  · cases he
  · cases he
  · cases he
end Go.Proofs.YtngbcgnihbjfnaaGreatDoor.Sy
end

section
/- Contracts of functions, one behind the other (own work). -/
namespace Go.Proofs.YtngbcgnihbjfnaaGreatDoor.Sy
open Go Go.RowKit
set_option linter.unusedVariables false
set_option linter.unusedSimpArgs false
def lookG : List (Nat × Ct) → Nat → Option Ct
  | [], _ => none
  | (i, c) :: r, t => cnd (Nat.beq t i) (some c) (lookG r t)
def lookF : List (Nat × List Nat) → Nat → List Nat
  | [], _ => []
  | (i, l) :: r, t => cnd (Nat.beq t i) l (lookF r t)
def lookP : List (Nat × Cp) → Nat → Option Cp
  | [], _ => none
  | (i, c) :: r, t => cnd (Nat.beq t i) (some c) (lookP r t)
def ctxP (pl : List (Nat × Cp)) (fv : Option Fv) (l : List (Nat × Ct)) (fz : List (Nat × List Nat)) : Ctx := { D := lookupD tabL, xt := lookXt xtL, Γ := lookG l, G := gdS, gv := gvS, fz := lookF fz, pg := lookP pl, fv := fv }
abbrev ctxF (l : List (Nat × Ct)) (fz : List (Nat × List Nat)) : Ctx := ctxP [] none l fz
abbrev ctxG (l : List (Nat × Ct)) : Ctx := ctxF l []
def HasBody (P : Program) (f : FuncId) : Prop := ∃ fn, P.funcs[f]? = some fn ∧ (fn.name == "runtime.NumGoroutine") = false ∧ fn.body.isNone = false
def GOk (l : List (Nat × Ct)) : Prop := ∀ f ct, lookG l f = some ct → CtOk Tryz.prog gdS f ct ∧ HasBody Tryz.prog f
theorem gok_nil : GOk [] := fun f ct h => by cases h
theorem gok_cons {f : FuncId} {ct : Ct} {l : List (Nat × Ct)} (h1 : CtOk Tryz.prog gdS f ct) (h2 : HasBody Tryz.prog f) (h : GOk l) : GOk ((f, ct) :: l) := by
  intro g ct' hg
  simp only [lookG] at hg
  by_cases hgf : g = f
  · rw [cnd_beq_true hgf] at hg; cases hg; subst hgf; exact ⟨h1, h2⟩
  · rw [cnd_beq_false hgf] at hg; exact h g ct' hg
def PGOk (l : List (Nat × Cp)) : Prop := ∀ f cp, lookP l f = some cp → CpOk Tryz.prog gdS f cp ∧ HasBody Tryz.prog f
theorem pgok_nil : PGOk [] := fun f cp h => by cases h
theorem pgok_cons {f : FuncId} {cp : Cp} {l : List (Nat × Cp)} (h1 : CpOk Tryz.prog gdS f cp) (h2 : HasBody Tryz.prog f) (h : PGOk l) : PGOk ((f, cp) :: l) := by
  intro g cp' hg
  simp only [lookP] at hg
  by_cases hgf : g = f
  · rw [cnd_beq_true hgf] at hg; cases hg; subst hgf; exact ⟨h1, h2⟩
  · rw [cnd_beq_false hgf] at hg; exact h g cp' hg
def FvOk (cv : Fv) (g : Nat) : Prop := CtOk Tryz.prog gdS g { p := cv.p, psh := cv.psh, r := cv.r, rsh := cv.rsh, pre := none, fresh := none, F := cv.F g } ∧ HasBody Tryz.prog g
def FVOk (fv : Option Fv) : Prop := ∀ cv, fv = some cv → ∀ g ∈ cv.fs, FvOk cv g
theorem fvok_none : FVOk none := fun cv h => by cases h
theorem fvok_some {cv : Fv} (h : ∀ g ∈ cv.fs, FvOk cv g) : FVOk (some cv) := fun cv' h' => by cases h'; exact h
theorem ctxOkP {pl : List (Nat × Cp)} {fv : Option Fv} {l : List (Nat × Ct)} (hp : PGOk pl) (hv : FVOk fv) (h : GOk l) (fz : List (Nat × List Nat)) : CtxOk Tryz.prog (ctxP pl fv l fz) where
  xt := xtOk
  pg := hp
  fv := hv
  mixed := by kernel_rfl
  D := tabOk
  Γ := h
  bytes := bytesOk
  gv := gvOk
  eq := eqOk
theorem ctxOkF {l : List (Nat × Ct)} (h : GOk l) (fz : List (Nat × List Nat)) : CtxOk Tryz.prog (ctxF l fz) := ctxOkP pgok_nil fvok_none h fz
theorem ctxOk {l : List (Nat × Ct)} (h : GOk l) : CtxOk Tryz.prog (ctxG l) := ctxOkF h []
structure SafeW {ρ₀ ρ : Type} (t : Tr ρ₀ ρ) : Prop where
  safe : t.safe
def Tr.triv {ρ₀ ρ : Type} : Tr ρ₀ ρ → Bool
  | .ret _ => true | .ite _ t e => andd t.triv e.triv | .need _ _ => false | .opt _ t => t.triv | .bad => false
def Tr.slim {ρ₀ ρ : Type} : Tr ρ₀ ρ → Prop
  | .ret _ => True
  | .ite c t e => match t.triv, e.triv with | true, true => True | true, false => (c = false → e.slim) | false, true => (c = true → t.slim) | false, false => (c = true → t.slim) ∧ (c = false → e.slim)
  | .need p t => match t.triv with | true => p | false => p ∧ t.slim
  | .opt o t => match t.triv with | true => True | false => (o = none → t.slim)
  | .bad => False
theorem Tr.triv_safe {ρ₀ ρ : Type} : ∀ {t : Tr ρ₀ ρ}, t.triv = true → t.safe
  | .ret _, _ => trivial
  | .ite c t e, h => by
    cases ht : t.triv with
    | false => simp [Tr.triv, ht, andd] at h
    | true =>
      cases he : e.triv with
      | false => simp [Tr.triv, ht, he, andd] at h
      | true => exact ⟨fun _ => Tr.triv_safe ht, fun _ => Tr.triv_safe he⟩
  | .need _ _, h => by cases h
  | .opt o t, h => fun _ => Tr.triv_safe h
  | .bad, h => by cases h
theorem Tr.slim_safe {ρ₀ ρ : Type} : ∀ {t : Tr ρ₀ ρ}, t.slim → t.safe
  | .ret _, _ => trivial
  | .ite c t e, h => by
    cases ht : t.triv with
    | false =>
      cases he : e.triv with
      | false =>
        simp only [Tr.slim, ht, he] at h
        exact ⟨fun z => Tr.slim_safe (h.1 z), fun z => Tr.slim_safe (h.2 z)⟩
      | true =>
        simp only [Tr.slim, ht, he] at h
        exact ⟨fun z => Tr.slim_safe (h z), fun _ => Tr.triv_safe he⟩
    | true =>
      cases he : e.triv with
      | false =>
        simp only [Tr.slim, ht, he] at h
        exact ⟨fun _ => Tr.triv_safe ht, fun z => Tr.slim_safe (h z)⟩
      | true => exact ⟨fun _ => Tr.triv_safe ht, fun _ => Tr.triv_safe he⟩
  | .need p t, h => by
    cases ht : t.triv with
    | false =>
      simp only [Tr.slim, ht] at h
      exact ⟨h.1, Tr.slim_safe h.2⟩
    | true =>
      simp only [Tr.slim, ht] at h
      exact ⟨h, Tr.triv_safe ht⟩
  | .opt o t, h => by
    cases ht : t.triv with
    | false =>
      simp only [Tr.slim, ht] at h
      exact fun z => Tr.slim_safe (h z)
    | true => exact fun _ => Tr.triv_safe ht
  | .bad, h => h.elim
theorem triv_of {ρ₀ ρ : Type} {t : Tr ρ₀ ρ} (h : t.triv = true) : SafeW t := SafeW.mk (Tr.triv_safe h)
theorem slim_of {ρ₀ ρ : Type} {t : Tr ρ₀ ρ} {S : Prop} (h : t.slim = S) (k : S) : SafeW t := ⟨Tr.slim_safe (h ▸ k)⟩
theorem safe_of {ρ₀ ρ : Type} {t : Tr ρ₀ ρ} {S : Prop} (h : t.safe = S) (k : S) : SafeW t := ⟨h ▸ k⟩
theorem safe_pre {α : Type} {A pre Q : α → Prop} (h : ∀ x, A x → pre x → Q x) : ∀ x, A x → (∀ q, some pre = some q → q x) → Q x := fun x fx hq => h x fx (hq _ rfl)
theorem safe_no {α : Type} {A Q : α → Prop} {pre : Option (α → Prop)} (h : ∀ x, A x → Q x) : ∀ x, A x → (∀ q, pre = some q → q x) → Q x := fun x fx _ => h x fx
theorem fn_okU {C : Ctx} (hC : CtxOk Tryz.prog C) (hG : C.G = gdS) {f : FuncId} {fn : Func} (hf : Tryz.prog.funcs[f]? = some fn) {p : Ty} {psh : List (Option Nat)} {r : Ty} {rsh : Rsh} {pre : Option (p.den → Prop)} {fresh : Option Nat} {F : p.den → r.den} {L : Nat → Option (LS r.den)} {c : Code} (hb : fn.body = some c) {dflt : r.den}
    (hL : ∀ body ∈ loopsIn c, ∀ s, L (codeId body) = some s → LoopOk Tryz.prog C.G (RetAt Tryz.prog fn rsh fresh r) body s)
    (hsafe : ∀ x, Fit p x → (∀ q, pre = some q → q x) → SafeW (evFn C fn p psh rsh fresh r L x))
    (hval : ∀ x, (evFn C fn p psh rsh fresh r L x).val (fun y => y) dflt = F x) : CtOk Tryz.prog gdS f { p := p, psh := psh, r := r, rsh := rsh, pre := pre, fresh := fresh, F := F } :=
  hG ▸ fn_ok (ct := { p := p, psh := psh, r := r, rsh := rsh, pre := pre, fresh := fresh, F := F }) hC hf hb hL (fun x h1 h2 => (hsafe x h1 h2).safe) hval
theorem safe_preP {α : Type} {A Q : α → Prop} {B : Prop} {pre : α → Prop} (hb : B) (h : ∀ x, A x → pre x → Q x) : ∀ x, (B → A x) → (∀ q, some pre = some q → q x) → Q x := fun x fx hq => h x (fx hb) (hq _ rfl)
theorem safe_noP {α : Type} {A Q : α → Prop} {B : Prop} {pre : Option (α → Prop)} (hb : B) (h : ∀ x, A x → Q x) : ∀ x, (B → A x) → (∀ q, pre = some q → q x) → Q x := fun x fx _ => h x (fx hb)
theorem safe_preX {α : Type} {A Q : α → Prop} {B : Prop} {pre : α → Prop} (h : ∀ x, pre x → Q x) : ∀ x, (B → A x) → (∀ q, some pre = some q → q x) → Q x := fun x _ hq => h x (hq _ rfl)
theorem safe_noX {α : Type} {A Q : α → Prop} {B : Prop} {pre : Option (α → Prop)} (h : ∀ x, Q x) : ∀ x, (B → A x) → (∀ q, pre = some q → q x) → Q x := fun x _ _ => h x
theorem fn_okPU {C : Ctx} (hC : CtxOk Tryz.prog C) (hG : C.G = gdS) {f : FuncId} {fn : Func} (hf : Tryz.prog.funcs[f]? = some fn) (cp : Cp) {L : Nat → Option (LS Unit)} {c : Code} (hb : fn.body = some c) {dflt : cp.r.den × cp.q.den}
    (hL : ∀ body ∈ loopsIn c, ∀ s, L (codeId body) = some s → LoopOk Tryz.prog C.G (fun _ _ (_ : Unit) _ _ => False) body s)
    (hsafe : ∀ x, (cp.ex = false → Fit cp.p x) → (∀ q, cp.pre = some q → q x) → SafeW (evFnP C fn cp.p cp.psh cp.mask cp.sz cp.ro cp.ex cp.q cp.rsh cp.r L x))
    (hval : ∀ x, (evFnP C fn cp.p cp.psh cp.mask cp.sz cp.ro cp.ex cp.q cp.rsh cp.r L x).val (fun _ => dflt) dflt = cp.F x) : CpOk Tryz.prog gdS f cp :=
  hG ▸ fn_okP hC hf hb hL (fun x h1 h2 => (hsafe x h1 h2).safe) hval
end Go.Proofs.YtngbcgnihbjfnaaGreatDoor.Sy
namespace Go.Proofs.YtngbcgnihbjfnaaGreatDoor.Sp
open Go Go.Proofs.YtngbcgnihbjfnaaGreatDoor.Sy
theorem wrap_i64_of {x : Int} (h0 : -9223372036854775808 ≤ x) (h1 : x ≤ 9223372036854775807) : IntKind.i64.wrap x = x := by rw [IntKind.wrap_i64]; omega
theorem tmod_ite (a n : Int) : Int.tmod a n = if 0 ≤ a then a % n else -((-a) % n) := by
  split
  · exact Int.tmod_eq_emod_of_nonneg (by assumption)
  · have h : a = -(-a) := by omega
    conv => lhs; rw [h]
    rw [Int.neg_tmod, Int.tmod_eq_emod_of_nonneg (by omega)]
theorem tdiv_ite (a n : Int) : Int.tdiv a n = if 0 ≤ a then a / n else -((-a) / n) := by
  split
  · exact Int.tdiv_eq_ediv_of_nonneg (by assumption)
  · have h : a = -(-a) := by omega
    conv => lhs; rw [h]
    rw [Int.neg_tdiv, Int.tdiv_eq_ediv_of_nonneg (by omega)]
theorem tmod_nn {a b : Int} (h : 0 ≤ a) : 0 ≤ Int.tmod a b := by rw [Int.tmod_eq_emod_of_nonneg h]; exact (Int.lt_or_le 0 b).elim (fun hb => Int.emod_nonneg _ (by omega)) (fun hb => by
  by_cases h0 : b = 0
  · subst h0; simpa using h
  · exact Int.emod_nonneg _ h0)
theorem tmod_lt {a b : Int} (h : 0 ≤ a) (hb : 0 < b) : Int.tmod a b < b := by rw [Int.tmod_eq_emod_of_nonneg h]; exact Int.emod_lt_of_pos _ hb
theorem tmod_lit (a : Int) (n : Nat) {inst : OfNat Int n} : Int.tmod a (no_index (@OfNat.ofNat Int n inst)) = if 0 ≤ a then a % (@OfNat.ofNat Int n inst) else -((-a) % (@OfNat.ofNat Int n inst)) := tmod_ite _ _
theorem tdiv_lit (a : Int) (n : Nat) {inst : OfNat Int n} : Int.tdiv a (no_index (@OfNat.ofNat Int n inst)) = if 0 ≤ a then a / (@OfNat.ofNat Int n inst) else -((-a) / (@OfNat.ofNat Int n inst)) := tdiv_ite _ _
theorem wrap_u8_of {x : Int} (h0 : 0 ≤ x) (h1 : x ≤ 255) : IntKind.u8.wrap x = x := by rw [IntKind.wrap_u8]; omega
theorem wrap_u32_of {x : Int} (h0 : 0 ≤ x) (h1 : x ≤ 4294967295) : IntKind.u32.wrap x = x := by rw [IntKind.wrap_u32]; omega
theorem wrap_u64_of {x : Int} (h0 : 0 ≤ x) (h1 : x ≤ 18446744073709551615) : IntKind.u64.wrap x = x := by rw [IntKind.wrap_u64]; omega
def endOf {K X ρ : Type} (step : K → X → BOut K X ρ) (k : K) : Nat → X → X
  | 0, x => x
  | n + 1, x => match step k x with | .next _ y => endOf step k n y | .brk _ y => y | .ret _ => x
def retOf {K X ρ : Type} (step : K → X → BOut K X ρ) (k : K) : Nat → X → Option ρ
  | 0, _ => none
  | n + 1, x => match step k x with | .next _ y => retOf step k n y | .brk _ _ => none | .ret r => some r
end Go.Proofs.YtngbcgnihbjfnaaGreatDoor.Sp
namespace Go.Proofs.YtngbcgnihbjfnaaGreatDoor.Sy
open Go Go.RowKit Sp
theorem endOf_more {K X ρ : Type} {step : K → X → BOut K X ρ} {k : K} {I : X → Prop} {μ : X → Nat} (h : ∀ x k' y, I x → step k x = .next k' y → I y ∧ μ y < μ x) :
    ∀ (n m : Nat) (x : X), I x → μ x < n → μ x < m → endOf step k n x = endOf step k m x ∧ retOf step k n x = retOf step k m x
  | 0, _, x, _, hn, _ => by omega
  | _ + 1, 0, x, _, _, hm => by omega
  | n + 1, m + 1, x, hi, hn, hm => by
    simp only [endOf, retOf]
    cases hs : step k x with
    | next k' y =>
      obtain ⟨h1, h2⟩ := h x k' y hi hs
      exact endOf_more h n m y h1 (by omega) (by omega)
    | brk k' y => exact ⟨rfl, rfl⟩
    | ret r => exact ⟨rfl, rfl⟩
def mkLS {ρ : Type} (K X : Ty) (ks : List (Nat × Option Nat)) (kb : List (Nat × Nat)) (xs : List (Nat × Option Nat)) (xb : List (Nat × Nat)) (vecs : List (Nat × Nat × Bool × Nat)) (fz : List Nat) (ptrs : List (Nat × Nat)) (exit : Nat) (rets : Bool)
    (inv : K.den → X.den → Prop) (step : K.den → X.den → BOut K.den X.den ρ) (μ : K.den → X.den → Nat) : LS ρ :=
  { K := K, X := X, ks := ks, kb := kb, xs := xs, xb := xb, vecs := vecs, fz := fz, ptrs := ptrs, exit := exit, inv := some inv,
    G := fun k x => endOf step k (Nat.succ (μ k x)) x, R := cnd rets (some fun k x => retOf step k (Nat.succ (μ k x)) x) none }
def StepOk {K X ρ : Type} (rets : Bool) (inv : K → X → Prop) (μ : K → X → Nat) (k : K) (x : X) : BOut K X ρ → Prop
  | .next k' y => k' = k ∧ inv k y ∧ μ k y < μ k x
  | .brk k' _ => k' = k
  | .ret _ => rets = true
theorem StepOk.cnd {K X ρ : Type} {rets : Bool} {inv : K → X → Prop} {μ : K → X → Nat} {k : K} {x : X} {c : Bool} {a b : BOut K X ρ} (ha : c = true → StepOk rets inv μ k x a) (hb : c = false → StepOk rets inv μ k x b) :
    StepOk rets inv μ k x (bif c then a else b) := by cases c; exact hb rfl; exact ha rfl
theorem StepOk.opt {K X ρ : Type} {inv : K → X → Prop} {μ : K → X → Nat} {k : K} {x : X} {o : Option ρ} {a : BOut K X ρ} (ha : o = none → StepOk true inv μ k x a) :
    StepOk true inv μ k x (Sp.optR o BOut.ret a) := by cases o; exact ha rfl; exact rfl
theorem loop_run0 {P : Program} {C : Ctx} (hC : CtxOk P C) {ρ : Type} {Ret : Nat → (Nat → Nat → Prop) → ρ → Act → World → Prop} {ret : ASt → Tr ρ ρ} (hmono : ∀ n X X' r a w, (∀ b p, X' b p → X b p) → Ret n X r a w → Ret n X' r a w)
    (hret : ∀ (φ : Fr) st a w r, Sat φ ν0 st a w → ret st = .ret r → Ret φ.n0 φ.X0 r a w) {L : Nat → Option (LS ρ)} {body : Code} {K X : Ty} {ks : List (Nat × Option Nat)} {kb : List (Nat × Nat)} {xs : List (Nat × Option Nat)} {xb : List (Nat × Nat)} {vecs : List (Nat × Nat × Bool × Nat)} {fz : List Nat} {ptrs : List (Nat × Nat)} {exit : Nat} {rets : Bool}
    {inv : K.den → X.den → Prop} {step : K.den → X.den → BOut K.den X.den ρ} {μ : K.den → X.den → Nat} {d : BOut K.den X.den ρ}
    (hL : ∀ b ∈ loopsIn body, ∀ s', L (codeId b) = some s' → LoopOk P C.G Ret b s')
    (hsafe : ∀ kv xv, Fit K kv → Fit X xv → inv kv xv → SafeW (evCode C L body (tmpl (mkLS K X ks kb xs xb vecs fz ptrs exit rets inv step μ) (enc K kv) (enc X xv)) (evRound (mkLS K X ks kb xs xb vecs fz ptrs exit rets inv step μ) ret)))
    (hval : ∀ kv xv, (evCode C L body (tmpl (mkLS K X ks kb xs xb vecs fz ptrs exit rets inv step μ) (enc K kv) (enc X xv)) (evRound (mkLS K X ks kb xs xb vecs fz ptrs exit rets inv step μ) ret)).val BOut.ret d = step kv xv)
    (hstep : ∀ kv xv, Fit K kv → inv kv xv → StepOk rets inv μ kv xv (step kv xv)) :
    LoopOk P C.G Ret body (mkLS K X ks kb xs xb vecs fz ptrs exit rets inv step μ) := by
  have key : ∀ (kv : K.den) (xv : X.den), Fit K kv → Fit X xv → inv kv xv → (evCode C L body (tmpl (mkLS K X ks kb xs xb vecs fz ptrs exit rets inv step μ) (enc K kv) (enc X xv)) (evRound (mkLS K X ks kb xs xb vecs fz ptrs exit rets inv step μ) ret)).All BOut.ret
      (RoundOk (mkLS K X ks kb xs xb vecs fz ptrs exit rets inv step μ) μ kv xv) := by
    intro kv xv hfK hfX hi
    refine All.mono (fun o ho => ?_) (all_of_safe (rt := BOut.ret) (d := d) (hsafe kv xv hfK hfX hi).safe)
    have ho : o = step kv xv := ho.trans (hval kv xv)
    subst ho
    have hs := hstep kv xv hfK hi
    have hmore : ∀ y, inv kv y → μ kv y < μ kv xv → endOf step kv (Nat.succ (μ kv y)) y = endOf step kv (μ kv xv) y ∧ retOf step kv (Nat.succ (μ kv y)) y = retOf step kv (μ kv xv) y := fun y hy hlt =>
      endOf_more (I := inv kv) (μ := μ kv) (fun x k' z hx hz => by have := hstep kv x hfK hx; rw [hz] at this; exact this.2) _ _ y hy (by omega) (by omega)
    cases hc : step kv xv with
    | next k y =>
      rw [hc] at hs
      obtain ⟨h1, h2, h3⟩ := hs
      refine ⟨h1, fun p hp => by cases hp; exact h2, h3, ?_, fun R hR => ?_⟩
      · show endOf step kv (Nat.succ (μ kv y)) y = endOf step kv (Nat.succ (μ kv xv)) xv
        rw [(hmore y h2 h3).1]
        simp only [endOf, hc]
      · cases rets with
        | false => cases hR
        | true =>
          cases hR
          show retOf step kv (Nat.succ (μ kv y)) y = retOf step kv (Nat.succ (μ kv xv)) xv
          rw [(hmore y h2 h3).2]
          simp only [retOf, hc]
    | brk k y =>
      rw [hc] at hs
      refine ⟨hs, ?_, fun R hR => ?_⟩
      · show endOf step kv (Nat.succ (μ kv xv)) xv = y
        simp only [endOf, hc]
      · cases rets with
        | false => cases hR
        | true =>
          cases hR
          show retOf step kv (Nat.succ (μ kv xv)) xv = none
          simp only [retOf, hc]
    | ret z =>
      rw [hc] at hs
      cases rets with
      | false => cases hs
      | true =>
        refine ⟨_, rfl, ?_⟩
        show retOf step kv (Nat.succ (μ kv xv)) xv = some z
        simp only [retOf, hc]
  exact loop_ok hC hmono (ret := ret) hret hL μ (fun kv xv hfK hfX hi => key kv xv hfK hfX (hi inv rfl))
theorem loop_run {P : Program} {C : Ctx} (hC : CtxOk P C) {fn : Func} {rsh : Rsh} {fr : Option Nat} {r : Ty} {L : Nat → Option (LS r.den)} {body : Code} {K X : Ty} {ks : List (Nat × Option Nat)} {kb : List (Nat × Nat)} {xs : List (Nat × Option Nat)} {xb : List (Nat × Nat)} {vecs : List (Nat × Nat × Bool × Nat)} {fz : List Nat} {ptrs : List (Nat × Nat)} {exit : Nat} {rets : Bool}
    {inv : K.den → X.den → Prop} {step : K.den → X.den → BOut K.den X.den r.den} {μ : K.den → X.den → Nat} {d : BOut K.den X.den r.den}
    (hL : ∀ b ∈ loopsIn body, ∀ s', L (codeId b) = some s' → LoopOk P C.G (RetAt P fn rsh fr r) b s')
    (hsafe : ∀ kv xv, Fit K kv → Fit X xv → inv kv xv → SafeW (evCode C L body (tmpl (mkLS K X ks kb xs xb vecs fz ptrs exit rets inv step μ) (enc K kv) (enc X xv)) (evRound (mkLS K X ks kb xs xb vecs fz ptrs exit rets inv step μ) (evRet C fn rsh fr r .ret))))
    (hval : ∀ kv xv, (evCode C L body (tmpl (mkLS K X ks kb xs xb vecs fz ptrs exit rets inv step μ) (enc K kv) (enc X xv)) (evRound (mkLS K X ks kb xs xb vecs fz ptrs exit rets inv step μ) (evRet C fn rsh fr r .ret))).val BOut.ret d = step kv xv)
    (hstep : ∀ kv xv, Fit K kv → inv kv xv → StepOk rets inv μ kv xv (step kv xv)) :
    LoopOk P C.G (RetAt P fn rsh fr r) body (mkLS K X ks kb xs xb vecs fz ptrs exit rets inv step μ) :=
  loop_run0 hC (fun n X X' r a w h hr => hr.mono h) (ret := evRet C fn rsh fr r .ret) (fun φ st a w r hs hr => by
    obtain ⟨m, hm⟩ := hs
    obtain ⟨_, y, hy, h⟩ := evRet_ok (Post := fun y => y = r) hC hm (by rw [hr]; exact rfl)
    subst hy
    exact h) hL hsafe hval hstep
theorem loop_runP {P : Program} {C : Ctx} (hC : CtxOk P C) {L : Nat → Option (LS Unit)} {body : Code} {K X : Ty} {ks : List (Nat × Option Nat)} {kb : List (Nat × Nat)} {xs : List (Nat × Option Nat)} {xb : List (Nat × Nat)} {vecs : List (Nat × Nat × Bool × Nat)} {fz : List Nat} {ptrs : List (Nat × Nat)} {exit : Nat} {rets : Bool}
    {inv : K.den → X.den → Prop} {step : K.den → X.den → BOut K.den X.den Unit} {μ : K.den → X.den → Nat} {d : BOut K.den X.den Unit}
    (hL : ∀ b ∈ loopsIn body, ∀ s', L (codeId b) = some s' → LoopOk P C.G (fun _ _ (_ : Unit) _ _ => False) b s')
    (hsafe : ∀ kv xv, Fit K kv → Fit X xv → inv kv xv → SafeW (evCode C L body (tmpl (mkLS K X ks kb xs xb vecs fz ptrs exit rets inv step μ) (enc K kv) (enc X xv)) (evRound (mkLS K X ks kb xs xb vecs fz ptrs exit rets inv step μ) (fun _ => .bad))))
    (hval : ∀ kv xv, (evCode C L body (tmpl (mkLS K X ks kb xs xb vecs fz ptrs exit rets inv step μ) (enc K kv) (enc X xv)) (evRound (mkLS K X ks kb xs xb vecs fz ptrs exit rets inv step μ) (fun _ => .bad))).val BOut.ret d = step kv xv)
    (hstep : ∀ kv xv, Fit K kv → inv kv xv → StepOk rets inv μ kv xv (step kv xv)) :
    LoopOk P C.G (fun _ _ (_ : Unit) _ _ => False) body (mkLS K X ks kb xs xb vecs fz ptrs exit rets inv step μ) :=
  loop_run0 hC (fun n X X' r a w h hr => hr.elim) (ret := fun _ => .bad) (fun φ st a w r hs hr => by cases hr) hL hsafe hval hstep
def noL {ρ : Type} : Nat → Option (LS ρ) := fun _ => none
theorem no_loops {ρ : Type} {c : Code} {Q : Code → LS ρ → Prop} : ∀ body ∈ loopsIn c, ∀ s, noL (codeId body) = some s → Q body s := fun _ _ _ h => by cases h
def lookL {ρ : Type} : List (Nat × LS ρ) → Nat → Option (LS ρ)
  | [], _ => none
  | (i, s) :: r, t => cnd (Nat.beq t i) (some s) (lookL r t)
def bodyAt : Code → List Nat → Code
  | c, [] => c
  | c, i :: r => bodyAt ((loopsIn c).getD i .skip) r
def bodyOf (fn : Func) : Code := fn.body.getD .skip
section
variable {P : Program} {G : Gd} {ρ : Type} {Ret : Nat → (Nat → Nat → Prop) → ρ → Act → World → Prop} {L : Nat → Option (LS ρ)}
theorem loops_nil : ∀ body ∈ ([] : List Code), ∀ s, L (codeId body) = some s → LoopOk P G Ret body s := fun _ h => by cases h
theorem loops_cons {b : Code} {s0 : LS ρ} {rest : List Code} (h0 : L (codeId b) = some s0) (h1 : LoopOk P G Ret b s0)
    (h : ∀ body ∈ rest, ∀ s, L (codeId body) = some s → LoopOk P G Ret body s) : ∀ body ∈ b :: rest, ∀ s, L (codeId body) = some s → LoopOk P G Ret body s := by
  intro body hb s hs
  rcases List.mem_cons.1 hb with rfl | hb
  · rw [h0] at hs; cases hs; exact h1
  · exact h body hb s hs
theorem loops_of {c : Code} {l : List Code} (he : loopsIn c = l) (h : ∀ body ∈ l, ∀ s, L (codeId body) = some s → LoopOk P G Ret body s) : ∀ body ∈ loopsIn c, ∀ s, L (codeId body) = some s → LoopOk P G Ret body s := by rw [he]; exact h
end
end Go.Proofs.YtngbcgnihbjfnaaGreatDoor.Sy
end

section
/- Small lemmas on worlds that have grown (own work): a call that keeps all old blocks leaves the old world with new blocks behind it. -/
namespace Go.Proofs.YtngbcgnihbjfnaaGreatDoor
open Go.RowKit
structure Gr where
  xs : Array Obj
  d : Nat
instance : Inhabited Gr := ⟨⟨#[], 0⟩⟩
def Gr.n (g : Gr) : Nat := g.xs.size
def Gr.drew (g : Gr) : Gr := ⟨g.xs, g.d + 1⟩
def Gr.add (g h : Gr) : Gr := ⟨g.xs ++ h.xs, h.d⟩
def ext (w : World) (g : Gr) : World := { w with heap := w.heap ++ g.xs, drawn := g.d }
@[simp, go_sem] theorem size_ext (w : World) (g : Gr) : (ext w g).heap.size = w.heap.size + g.n := by simp [ext, Gr.n]
@[simp high, go_sem high] theorem size_ext_add (w : World) (g h : Gr) : (ext w (g.add h)).heap.size = (ext w g).heap.size + h.n := by simp [ext, Gr.add, Gr.n, Nat.add_assoc]
@[simp high, go_sem high] theorem size_ext_drew (w : World) (g : Gr) : (ext w g.drew).heap.size = (ext w g).heap.size := by simp [ext, Gr.drew]
@[simp, go_sem] theorem add_add_n (a : Nat) (g h : Gr) : a + (g.add h).n = a + g.n + h.n := by simp [Gr.add, Gr.n, Nat.add_assoc]
@[simp, go_sem] theorem add_drew_n (a : Nat) (g : Gr) : a + g.drew.n = a + g.n := by simp [Gr.drew, Gr.n]
@[go_sem] theorem drew_ext (w : World) (g : Gr) : (ext w g).drew = ext w g.drew := rfl
@[go_sem] theorem ext_drew (w : World) (g : Gr) : ext w.drew g = ext w g := rfl
@[go_sem] theorem ext_ext (w : World) (g h : Gr) : ext (ext w g) h = ext w (g.add h) := by simp [ext, Gr.add]
theorem heap_ext (w : World) (g : Gr) (k : Nat) (h : k < w.heap.size) : (ext w g).heap[k]? = w.heap[k]? := by
  simp [ext, Array.getElem?_append, h]
@[go_sem] theorem cell_ext (w : World) (g : Gr) (b i : Nat) (h : b < w.heap.size) : (ext w g).cell? ⟨b, i, none⟩ = w.cell? ⟨b, i, none⟩ := by
  unfold World.cell?; rw [heap_ext w g b h]
@[go_sem] theorem frozen_ext (w : World) (g : Gr) (b i : Nat) (h : b < w.heap.size) : (ext w g).frozen? ⟨b, i, none⟩ = w.frozen? ⟨b, i, none⟩ := by
  unfold World.frozen?; rw [heap_ext w g b h]
@[go_sem] theorem shape_ext (w : World) (g : Gr) (b : Nat) (h : b < w.heap.size) : (ext w g).shape? b = w.shape? b := by
  unfold World.shape?; rw [heap_ext w g b h]
@[go_sem] theorem setCell_ext (w : World) (g : Gr) (b i : Nat) (v : Value) (h : b < w.heap.size) : (ext w g).setCell ⟨b, i, none⟩ v = ext (w.setCell ⟨b, i, none⟩ v) g := by
  unfold World.setCell ext
  congr 1
  apply Array.ext_getElem?
  intro k
  simp only [Array.getElem?_modify, Array.getElem?_append, Array.size_modify]
  by_cases hk : k < w.heap.size
  · simp [hk]
  · simp [hk, show ¬ b = k by omega]
@[go_sem] theorem lt_size1 (a : Nat) (x0 : Nat) : (a < a + 1 + x0) = True := eq_true (by omega)
@[go_sem] theorem lt_size2 (a : Nat) (x0 x1 : Nat) : (a < a + 1 + x0 + x1) = True := eq_true (by omega)
@[go_sem] theorem lt_size3 (a : Nat) (x0 x1 x2 : Nat) : (a < a + 1 + x0 + x1 + x2) = True := eq_true (by omega)
@[go_sem] theorem lt_size4 (a : Nat) (x0 x1 x2 x3 : Nat) : (a < a + 1 + x0 + x1 + x2 + x3) = True := eq_true (by omega)
@[go_sem] theorem lt_size5 (a : Nat) (x0 x1 x2 x3 x4 : Nat) : (a < a + 1 + x0 + x1 + x2 + x3 + x4) = True := eq_true (by omega)
@[go_sem] theorem lt_size6 (a : Nat) (x0 x1 x2 x3 x4 x5 : Nat) : (a < a + 1 + x0 + x1 + x2 + x3 + x4 + x5) = True := eq_true (by omega)
@[go_sem] theorem lt_size7 (a : Nat) (x0 x1 x2 x3 x4 x5 x6 : Nat) : (a < a + 1 + x0 + x1 + x2 + x3 + x4 + x5 + x6) = True := eq_true (by omega)
@[go_sem] theorem lt_size8 (a : Nat) (x0 x1 x2 x3 x4 x5 x6 x7 : Nat) : (a < a + 1 + x0 + x1 + x2 + x3 + x4 + x5 + x6 + x7) = True := eq_true (by omega)
@[go_sem] theorem lt_size9 (a : Nat) (x0 x1 x2 x3 x4 x5 x6 x7 x8 : Nat) : (a < a + 1 + x0 + x1 + x2 + x3 + x4 + x5 + x6 + x7 + x8) = True := eq_true (by omega)
@[go_sem] theorem lt_size10 (a : Nat) (x0 x1 x2 x3 x4 x5 x6 x7 x8 x9 : Nat) : (a < a + 1 + x0 + x1 + x2 + x3 + x4 + x5 + x6 + x7 + x8 + x9) = True := eq_true (by omega)
@[go_sem] theorem lt_size11 (a : Nat) (x0 x1 x2 x3 x4 x5 x6 x7 x8 x9 x10 : Nat) : (a < a + 1 + x0 + x1 + x2 + x3 + x4 + x5 + x6 + x7 + x8 + x9 + x10) = True := eq_true (by omega)
@[go_sem] theorem lt_size12 (a : Nat) (x0 x1 x2 x3 x4 x5 x6 x7 x8 x9 x10 x11 : Nat) : (a < a + 1 + x0 + x1 + x2 + x3 + x4 + x5 + x6 + x7 + x8 + x9 + x10 + x11) = True := eq_true (by omega)
@[go_sem] theorem lt_size13 (a : Nat) (x0 x1 x2 x3 x4 x5 x6 x7 x8 x9 x10 x11 x12 : Nat) : (a < a + 1 + x0 + x1 + x2 + x3 + x4 + x5 + x6 + x7 + x8 + x9 + x10 + x11 + x12) = True := eq_true (by omega)
@[go_sem] theorem lt_size14 (a : Nat) (x0 x1 x2 x3 x4 x5 x6 x7 x8 x9 x10 x11 x12 x13 : Nat) : (a < a + 1 + x0 + x1 + x2 + x3 + x4 + x5 + x6 + x7 + x8 + x9 + x10 + x11 + x12 + x13) = True := eq_true (by omega)
@[go_sem] theorem lt_size15 (a : Nat) (x0 x1 x2 x3 x4 x5 x6 x7 x8 x9 x10 x11 x12 x13 x14 : Nat) : (a < a + 1 + x0 + x1 + x2 + x3 + x4 + x5 + x6 + x7 + x8 + x9 + x10 + x11 + x12 + x13 + x14) = True := eq_true (by omega)
@[go_sem low] theorem lt_base1 {b s : Nat} (h : b < s) (x0 : Nat) : (b < s + x0) = True := eq_true (by omega)
@[go_sem low] theorem lt_base2 {b s : Nat} (h : b < s) (x0 x1 : Nat) : (b < s + x0 + x1) = True := eq_true (by omega)
@[go_sem low] theorem lt_base3 {b s : Nat} (h : b < s) (x0 x1 x2 : Nat) : (b < s + x0 + x1 + x2) = True := eq_true (by omega)
@[go_sem low] theorem lt_base4 {b s : Nat} (h : b < s) (x0 x1 x2 x3 : Nat) : (b < s + x0 + x1 + x2 + x3) = True := eq_true (by omega)
@[go_sem low] theorem lt_base5 {b s : Nat} (h : b < s) (x0 x1 x2 x3 x4 : Nat) : (b < s + x0 + x1 + x2 + x3 + x4) = True := eq_true (by omega)
@[go_sem low] theorem lt_base6 {b s : Nat} (h : b < s) (x0 x1 x2 x3 x4 x5 : Nat) : (b < s + x0 + x1 + x2 + x3 + x4 + x5) = True := eq_true (by omega)
@[go_sem low] theorem lt_base7 {b s : Nat} (h : b < s) (x0 x1 x2 x3 x4 x5 x6 : Nat) : (b < s + x0 + x1 + x2 + x3 + x4 + x5 + x6) = True := eq_true (by omega)
@[go_sem low] theorem lt_base8 {b s : Nat} (h : b < s) (x0 x1 x2 x3 x4 x5 x6 x7 : Nat) : (b < s + x0 + x1 + x2 + x3 + x4 + x5 + x6 + x7) = True := eq_true (by omega)
@[go_sem low] theorem lt_base9 {b s : Nat} (h : b < s) (x0 x1 x2 x3 x4 x5 x6 x7 x8 : Nat) : (b < s + x0 + x1 + x2 + x3 + x4 + x5 + x6 + x7 + x8) = True := eq_true (by omega)
@[go_sem low] theorem lt_base10 {b s : Nat} (h : b < s) (x0 x1 x2 x3 x4 x5 x6 x7 x8 x9 : Nat) : (b < s + x0 + x1 + x2 + x3 + x4 + x5 + x6 + x7 + x8 + x9) = True := eq_true (by omega)
@[go_sem low] theorem lt_base11 {b s : Nat} (h : b < s) (x0 x1 x2 x3 x4 x5 x6 x7 x8 x9 x10 : Nat) : (b < s + x0 + x1 + x2 + x3 + x4 + x5 + x6 + x7 + x8 + x9 + x10) = True := eq_true (by omega)
@[go_sem low] theorem lt_base12 {b s : Nat} (h : b < s) (x0 x1 x2 x3 x4 x5 x6 x7 x8 x9 x10 x11 : Nat) : (b < s + x0 + x1 + x2 + x3 + x4 + x5 + x6 + x7 + x8 + x9 + x10 + x11) = True := eq_true (by omega)
@[go_sem low] theorem lt_base13 {b s : Nat} (h : b < s) (x0 x1 x2 x3 x4 x5 x6 x7 x8 x9 x10 x11 x12 : Nat) : (b < s + x0 + x1 + x2 + x3 + x4 + x5 + x6 + x7 + x8 + x9 + x10 + x11 + x12) = True := eq_true (by omega)
theorem below_ext {B : Nat} {a w : World} (h : Below B a w) (hB : B ≤ w.heap.size) (g : Gr) : Below B a (ext w g) :=
  h.trans ⟨rfl, rfl, rfl, by simp, fun k hk => heap_ext _ _ _ (by omega)⟩
theorem ext_of {w w' : World} (h : Below w.heap.size w w') : ∃ g, w' = ext w g := by
  refine ⟨⟨w'.heap.extract w.heap.size w'.heap.size, w'.drawn⟩, ?_⟩
  obtain ⟨h1, h2, h3, h4, h5⟩ := h
  cases w'; cases w
  simp only [ext] at *
  subst h1 h2 h3
  congr 1
  apply Array.ext_getElem?
  intro k
  rw [Array.getElem?_append]
  split
  · exact h5 k ‹_›
  · rw [Array.getElem?_extract]
    simp
    split
    · congr 1; omega
    · rw [Array.getElem?_eq_none_iff]; omega
theorem drew_is_ext (w : World) : w.drew = ext w ⟨#[], w.drawn + 1⟩ := by unfold ext; simp only [Array.append_empty]; rfl
theorem same_is_ext (w : World) : w = ext w ⟨#[], w.drawn⟩ := by unfold ext; simp only [Array.append_empty]
theorem wp_region_ext {P : Program} {id : Nat} {Q : Exit → Act → World → Prop} {a : Act} {w : World} {l : List Oper} (hm : P.follows .mixedOrders = true) (hB : Region.lexB .any l.toArray = true)
    (h : wpQuiet P l.toArray (fun w' => ∃ g, w' = ext w g) (fun a' => ∀ w', (∃ g, w' = ext w g) → Q .normal a' w') l a) : (Code.region id l.toArray true).wp P Q a w :=
  wp_region_quiet (C := fun w' => ∃ g, w' = ext w g) hm hB ⟨_, drew_is_ext w⟩ (by simpa using h)
theorem call_ext {P : Program} {f : FuncId} {args : Array Value} {w : World} {g : Gr} {v : Value}
    (h : Calls P f args (ext w g) fun e w' => e = .returned v ∧ Below (ext w g).heap.size (ext w g) w') : Calls P f args (ext w g) fun e w'' => e = .returned v ∧ ∃ g', w'' = ext w g' :=
  h.mono fun _ _ ⟨he, hb⟩ => by obtain ⟨g', rfl⟩ := ext_of hb; exact ⟨he, _, ext_ext w g g'⟩
theorem Gr.add_assoc (a b c : Gr) : (a.add b).add c = a.add (b.add c) := by simp [Gr.add, Array.append_assoc]
theorem call_ext2 {P : Program} {f : FuncId} {args : Array Value} {w : World} {A g : Gr} {v : Value}
    (h : Calls P f args (ext w (A.add g)) fun e w' => e = .returned v ∧ Below (ext w (A.add g)).heap.size (ext w (A.add g)) w') : Calls P f args (ext w (A.add g)) fun e w'' => e = .returned v ∧ ∃ g', w'' = ext w (A.add g') :=
  h.mono fun _ _ ⟨he, hb⟩ => by obtain ⟨g', rfl⟩ := ext_of hb; exact ⟨he, g.add g', by rw [ext_ext, Gr.add_assoc]⟩
theorem call_same2 {P : Program} {f : FuncId} {args : Array Value} {w : World} {A g : Gr} {v : Value}
    (h : Calls P f args (ext w (A.add g)) fun e w' => e = .returned v ∧ ext w (A.add g) = w') : Calls P f args (ext w (A.add g)) fun e w'' => e = .returned v ∧ ∃ g', w'' = ext w (A.add g') :=
  h.mono fun _ _ ⟨he, hb⟩ => ⟨he, g, hb.symm⟩
theorem call_same {P : Program} {f : FuncId} {args : Array Value} {w : World} {g : Gr} {v : Value}
    (h : Calls P f args (ext w g) fun e w' => e = .returned v ∧ ext w g = w') : Calls P f args (ext w g) fun e w'' => e = .returned v ∧ ∃ g', w'' = ext w g' :=
  h.mono fun _ _ ⟨he, hb⟩ => ⟨he, g, hb.symm⟩
theorem ret_bool {a b : Bool} (h : a = b) : Ending.returned (.bool a) = .returned (.bool b) := by rw [h]
theorem ret_iff {a : Bool} {p : Prop} [Decidable p] (h : a = true ↔ p) : Ending.returned (.bool a) = .returned (.bool (decide p)) := by
  rw [show a = decide p from by rw [Bool.eq_iff_iff]; simpa using h]
theorem ret_int {k : IntKind} {a b : Int} (h : a = b) : Ending.returned (.int k a) = .returned (.int k b) := by rw [h]
end Go.Proofs.YtngbcgnihbjfnaaGreatDoor
end

section
/- Opening arguments of any flat make: own lemmas on the readings of structs, arrays and slices. -/
namespace Go.Proofs.YtngbcgnihbjfnaaGreatDoor
open Go.ChangeShapes Go.WideShapes Go.ChangeAt Go.RowKit Go.Deep
def IsSlice (w : World) (C : Nat) (E : List Value → Prop) (v : Value) : Prop :=
  v = .slice none 0 0 ∨ ∃ (a : Addr) (len cap : Nat), v = .slice (some a) len cap ∧ len ≤ cap ∧ cap ≤ maxLen ∧
    ∀ i, i < len → ∃ cs : List Value, cs.length = C ∧ E cs ∧ a.spot = none ∧ a.block < w.heap.size ∧ ∀ j, j < C → w.cell? ⟨a.block, a.off + (i * C + j), none⟩ = some (cs.getD j undef)
section
variable {H : Type} {enc : TypeId × Value → H} {P : Program} {w : World} {base : Nat} {spare : Nat → Bool} {held : Bool}
theorem okWide_array {r : Reach} {b0 : Nat} {t : TypeId} {v : Value} {n : Nat} {e : TypeId} (ht : P.underlying t = some (.array n e)) (h : Value.okWide P w r b0 t v) : ∃ cs, v = .agg cs ∧ cs.size = P.cellsOf t := by
  simp only [Value.okWide, ht] at h
  obtain ⟨cs, h1, h2, _⟩ := h
  exact ⟨cs, h1, h2⟩
theorem struct_fields {t : TypeId} {fs : Array Field} {fuel : Nat} {cs : List Value} {x : DataW H × List MemPlace} (ht : P.underlying t = some (.struct fs)) (h : DataW.trod enc P w base spare held fuel t cs = some x) :
    cs.length = P.cellsOf t ∧ ∃ n, ∀ (i : Nat) (f : Field), fs[i]? = some f → ∃ y, DataW.trod enc P w base spare held n f.type ((cs.drop f.offset).take (P.cellsOf f.type)) = some y := by
  obtain ⟨xs, n, _, _, hl, hx, hg⟩ := DataW.trod_struct ht h
  refine ⟨hl, n, fun i f hf => ?_⟩
  have hi : i < xs.length := by rw [hx]; exact (Array.getElem?_eq_some_iff.1 hf).1
  exact ⟨xs[i], (hg i f hf).trans (List.getElem?_eq_getElem hi)⟩
theorem array_elems {t e : TypeId} {m fuel : Nat} {cs : List Value} {x : DataW H × List MemPlace} (ht : P.underlying t = some (.array m e)) (h : DataW.trod enc P w base spare held fuel t cs = some x) :
    cs.length = P.cellsOf t ∧ ∃ n, ∀ (i : Nat), i < m → ∃ y, DataW.trod enc P w base spare held n e ((cs.drop (i * P.cellsOf e)).take (P.cellsOf e)) = some y := by
  obtain ⟨xs, n, _, _, hl, hx, hg⟩ := DataW.trod_array ht h
  refine ⟨hl, n, fun i hi => ?_⟩
  have hi' : i < xs.length := by omega
  exact ⟨xs[i], (hg i hi).trans (List.getElem?_eq_getElem hi')⟩
theorem trod_float {t : TypeId} {k : FloatKind} {fuel : Nat} {cs : List Value} {x : DataW H × List MemPlace} (ht : P.underlying t = some (.float k)) (h : DataW.trod enc P w base spare held fuel t cs = some x) : ∃ n, cs = [.float k n] ∧ (Lit.float k n).wf = true := by
  cases fuel with
  | zero => simp [DataW.trod] at h
  | succ n =>
    unfold DataW.trod at h
    rw [ht] at h
    split at h <;> simp_all
theorem slice_is {t e : TypeId} {C fuel : Nat} {cs : List Value} {x : DataW H × List MemPlace} (E : List Value → Prop) (ht : P.underlying t = some (.slice e)) (hC : P.cellsOf e = C) (hC0 : 0 < C)
    (hE : ∀ (n : Nat) (cs' : List Value) y, DataW.trod enc P w base spare held n e cs' = some y → E cs') (h : DataW.trod enc P w base spare held fuel t cs = some x) : ∃ v, cs = [v] ∧ IsSlice w C E v := by
  rcases open_slice ht h with ⟨rfl, _⟩ | ⟨a, len, cap, m, n, D, Pl, rfl, _, hl, hm, hmm, _, hg⟩
  · exact ⟨_, rfl, .inl rfl⟩
  · refine ⟨_, rfl, .inr ⟨a, len, cap, rfl, hl, hm, fun i hi => ?_⟩⟩
    obtain ⟨cs', h1, h2⟩ := hg i (by rw [hmm]; split <;> omega)
    rw [hC] at h1
    obtain ⟨_, hlen, hcell⟩ := World.cells?_some h1
    obtain ⟨cs0, h10, _⟩ := hg 0 (by rw [hmm]; split <;> omega)
    rw [hC] at h10
    obtain ⟨_, hlen0, hcell0⟩ := World.cells?_some h10
    have hc0 := hcell0 0 hC0
    rw [List.getElem?_eq_getElem (by omega)] at hc0
    have ha : (a.add (0 * C)).add 0 = a := by simp [Addr.add]
    rw [ha] at hc0
    have hs : a.spot = none := World.cell?_spot hc0
    have hb : a.block < w.heap.size := World.block_lt_of_cell? w a hc0
    refine ⟨cs', hlen, hE n cs' _ h2, hs, hb, fun j hj => ?_⟩
    have hcj := hcell j hj
    rw [List.getElem?_eq_getElem (by omega)] at hcj
    rw [List.getD_eq_getElem?_getD, List.getElem?_eq_getElem (by omega), Option.getD_some]
    rw [← hcj]
    congr 1
    obtain ⟨b, o, s⟩ := a
    simp only at hs
    subst hs
    unfold Addr.add
    by_cases h0 : i * C = 0 <;> by_cases hj0 : j = 0 <;> simp [h0, hj0, Nat.add_assoc]
end
end Go.Proofs.YtngbcgnihbjfnaaGreatDoor
end

section
/- Written by own program mkopen.py: the parameter types of this seat, opened to their cells. -/
namespace Go.Proofs.YtngbcgnihbjfnaaGreatDoor
open Go.ChangeShapes Go.WideShapes Go.ChangeAt Go.RowKit Go.Deep
set_option linter.unusedSimpArgs false
set_option linter.unusedVariables false
set_option maxRecDepth 100000
theorem cells_T5 : Tryz.prog.cellsOf 5 = 1 := by kernel_rfl
def E_T5 (cs : List Value) : Prop := ∃ (a0 : Int), cs = [.int .u8 a0] ∧ (Lit.int .u8 a0).wf = true
theorem open_T5 {H : Type} {enc : TypeId × Value → H} {w : World} {base : Nat} {spare : Nat → Bool} {held : Bool} {fuel : Nat} {cs : List Value} {x : DataW H × List MemPlace} (h : DataW.trod enc Tryz.prog w base spare held fuel 5 cs = some x) : E_T5 cs := by
  obtain ⟨n, rfl, _, hw⟩ := DataW.trod_int Tryz.underlying5 h
  exact ⟨n, rfl, hw⟩
theorem cells_T22 : Tryz.prog.cellsOf 22 = 2 := by kernel_rfl
def E_T22 (cs : List Value) : Prop := ∃ (a0 : Int) (a1 : Int), cs = [.int .u8 a0, .int .u8 a1] ∧ (Lit.int .u8 a0).wf = true ∧ (Lit.int .u8 a1).wf = true
theorem open_T22 {H : Type} {enc : TypeId × Value → H} {w : World} {base : Nat} {spare : Nat → Bool} {held : Bool} {fuel : Nat} {cs : List Value} {x : DataW H × List MemPlace} (h : DataW.trod enc Tryz.prog w base spare held fuel 22 cs = some x) : E_T22 cs := by
  obtain ⟨hl, n, hg⟩ := array_elems Tryz.underlying22 h
  rw [cells_T22] at hl
  match cs, hl with
  | [c0, c1], _ =>
    obtain ⟨y0, g0⟩ := hg 0 (by decide)
    simp only [List.getElem_toArray, List.getElem_cons_zero, List.getElem_cons_succ, cells_T5, Nat.zero_mul, Nat.one_mul, Nat.reduceMul, List.drop_zero, List.drop_succ_cons, List.take_succ_cons, List.take_zero] at g0
    obtain ⟨a0, q0, w0⟩ := open_T5 g0
    simp only [List.cons.injEq, and_true] at q0
    subst q0
    obtain ⟨y1, g1⟩ := hg 1 (by decide)
    simp only [List.getElem_toArray, List.getElem_cons_zero, List.getElem_cons_succ, cells_T5, Nat.zero_mul, Nat.one_mul, Nat.reduceMul, List.drop_zero, List.drop_succ_cons, List.take_succ_cons, List.take_zero] at g1
    obtain ⟨a1, q1, w1⟩ := open_T5 g1
    simp only [List.cons.injEq, and_true] at q1
    subst q1
    exact ⟨a0, a1, rfl, w0, w1⟩
theorem cells_T23 : Tryz.prog.cellsOf 23 = 1 := by kernel_rfl
theorem open_T23 {H : Type} {enc : TypeId × Value → H} {w : World} {base : Nat} {spare : Nat → Bool} {held : Bool} {fuel : Nat} {cs : List Value} {x : DataW H × List MemPlace} (h : DataW.trod enc Tryz.prog w base spare held fuel 23 cs = some x) : ∃ (a0 : Value), cs = [a0] ∧ IsSlice w 1 E_T5 a0 := by
  exact slice_is E_T5 Tryz.underlying23 cells_T5 (by decide) (fun _ _ _ h => open_T5 h) h
end Go.Proofs.YtngbcgnihbjfnaaGreatDoor
end

section
/- From what came in to typed values, and from a contract to a call (own work). -/
namespace Go.Proofs.YtngbcgnihbjfnaaGreatDoor.Sy
open Go Go.RowKit
set_option linter.unusedVariables false
set_option linter.unusedSimpArgs false
def InR : (t : Ty) → t.den → Prop
  | .int k, x => (Lit.int k x).wf = true | .flt k, x => (Lit.float k x).wf = true | .str, s => s.size ≤ maxLen
  | .pair a b, x => InR a x.1 ∧ InR b x.2 | .sl e, l => l.length ≤ maxLen ∧ ∀ x ∈ l, InR e x | _, _ => True
theorem castL_refl (a : Ty) (l : List a.den) : castL a a l = some l := by
  unfold castL
  have : tyeq a a = true := by
    induction a with
    | int k => cases k <;> rfl
    | flt k => cases k <;> rfl
    | pair x y ihx ihy =>
      simp only [tyeq]
      rw [ihx ([] : List x.den)]
      exact ihy ([] : List y.den)
    | sl x ih => simp only [tyeq]; exact ih []
    | _ => rfl
  split
  · rfl
  · rename_i h; rw [this] at h; cases h
theorem keq_refl (k : IntKind) : keq k k = true := by cases k <;> rfl
theorem feq_refl (k : FloatKind) : feq k k = true := by cases k <;> rfl
theorem dec_enc : ∀ (t : Ty) (x : t.den), dec t (enc t x) = some x := by
  intro t
  induction t with
  | pair a b iha ihb =>
    intro x
    simp only [enc, dec, app_eq]
    have h1 := enc_len a x.1
    rw [List.take_append_of_le_length (by omega), List.take_of_length_le (by omega), List.drop_append_of_le_length (by omega), List.drop_of_length_le (by omega), List.nil_append, iha, ihb]
  | int k => intro x; simp only [enc, dec, keq_refl, cnd]
  | flt k => intro x; simp only [enc, dec, feq_refl, cnd]
  | sl e ih => intro l; simp only [enc, dec]; exact castL_refl e l
  | _ => intro x; rfl
theorem tr_of {w : World} {X : Nat → Nat → Prop} {t : Ty} {x : t.den} {vs : List Value} (h : CRs (fun _ => none) X w (enc t x) vs) : TR w X t x vs := dec_ok (dec_enc t x) h
theorem slice_tr {w : World} {C : Nat} {E : List Value → Prop} {e : Ty} (hC : C = e.n) (hE : ∀ cs, E cs → ∃ x : e.den, TR w (fun _ _ => False) e x cs ∧ InR e x) {v : Value} (h : IsSlice w C E v) :
    ∃ l : List e.den, LR w (fun _ _ => False) e.n (TR w (fun _ _ => False) e) l v ∧ l.length ≤ maxLen ∧ ∀ x ∈ l, InR e x := by
  subst hC
  rcases h with rfl | ⟨ad, len, cap, rfl, hle, hmax, hel⟩
  · exact ⟨[], .inl ⟨rfl, rfl⟩, Nat.zero_le _, fun x hx => by cases hx⟩
  · have hch : ∀ i : Fin len, ∃ x : e.den, (∃ cs : List Value, cs.length = e.n ∧ (∀ j, j < e.n → w.cell? ⟨ad.block, ad.off + (i.1 * e.n + j), none⟩ = some (cs.getD j undef)) ∧ TR w (fun _ _ => False) e x cs) ∧ InR e x := by
      intro i
      obtain ⟨cs, h1, h2, _, _, h5⟩ := hel i.1 i.2
      obtain ⟨x, h6, h7⟩ := hE cs h2
      exact ⟨x, ⟨cs, h1, h5, h6⟩, h7⟩
    let f : Fin len → e.den := fun i => Classical.choose (hch i)
    have hf : ∀ i, _ := fun i => Classical.choose_spec (hch i)
    refine ⟨List.ofFn f, .inr ⟨ad, cap, by rw [List.length_ofFn], by rw [List.length_ofFn]; exact hle, hmax, fun hne => ?_, fun i hi => ?_, fun p _ _ h => h⟩, by rw [List.length_ofFn]; omega, fun x hx => ?_⟩
    · have : 0 < len := by
        have := List.length_pos_iff.2 hne
        rwa [List.length_ofFn] at this
      obtain ⟨_, _, _, h3, _⟩ := hel 0 this
      exact h3
    · rw [List.length_ofFn] at hi
      obtain ⟨cs, h1, h2, h3⟩ := (hf ⟨i, hi⟩).1
      refine ⟨cs, h1, h2, ?_⟩
      rw [List.getElem_ofFn]
      exact h3
    · obtain ⟨i, rfl⟩ := (List.mem_ofFn.1 hx)
      exact (hf i).2
theorem call_true {f : FuncId} {p : Ty} {psh : List (Option Nat)} {pre : Option (p.den → Prop)} {F : p.den → Bool} (h : CtOk Tryz.prog gdS f { p := p, psh := psh, r := .bool, rsh := .one none, pre := pre, fresh := none, F := F })
    (x : p.den) (w : World) (args : Array Value) (cs : List Value) (hH : gdS.H w) (hpre : ∀ q, pre = some q → q x) (hsh : ShapeR psh args.toList cs) (hx : TR w (fun _ _ => False) p x cs) (hT : F x = true) :
    Calls Tryz.prog f args w fun e w' => e = .returned (.bool true) ∧ Below w.heap.size w w' := by
  refine (h x w (fun _ _ => False) args cs hH (fun _ _ h => h.elim) hpre hsh hx).mono fun e w' ⟨v, he, hb, cs', h1, _, h2⟩ => ⟨?_, hb⟩
  rw [he]
  have h1 : cs' = [.bool (F x)] := h1
  rw [h1, hT] at h2
  obtain ⟨cs2, h3, h4⟩ := h2
  cases h3
  rfl
end Go.Proofs.YtngbcgnihbjfnaaGreatDoor.Sy
end

section
/- Laws of rounds (own work): what a loop comes to. -/
namespace Go.Proofs.YtngbcgnihbjfnaaGreatDoor.Sp
open Go Sy
set_option linter.unusedVariables false
set_option linter.unusedSimpArgs false
section
variable {K X ρ : Type} {step : K → X → BOut K X ρ} {k : K}
theorem ret_none (I : X → Prop) (h : ∀ x, I x → match step k x with | .next _ y => I y | .brk _ _ => True | .ret _ => False) : ∀ (n : Nat) (x : X), I x → retOf step k n x = none
  | 0, _, _ => rfl
  | n + 1, x, hx => by
    have := h x hx
    simp only [retOf]
    cases hs : step k x with
    | next k' y => rw [hs] at this; exact ret_none I h n _ this
    | brk k' y => rfl
    | ret r => rw [hs] at this; exact this.elim
theorem end_row (s : Nat → X) (n : Nat) (h : ∀ i, i < n → ∃ k', step k (s i) = .next k' (s (i + 1))) : ∀ (i fuel : Nat), i ≤ n →
    endOf step k (fuel + (n - i)) (s i) = endOf step k fuel (s n) ∧ retOf step k (fuel + (n - i)) (s i) = retOf step k fuel (s n) := by
  intro i fuel hi
  induction hd : n - i generalizing i with
  | zero => have : i = n := by omega
            subst this; exact ⟨rfl, rfl⟩
  | succ d ih =>
    obtain ⟨k', h1⟩ := h i (by omega)
    have := ih (i + 1) (by omega) (by omega)
    rw [show fuel + (d + 1) = (fuel + d) + 1 by omega]
    simp only [endOf, retOf, h1]
    exact this
theorem end_row_brk (s : Nat → X) (n : Nat) (h : ∀ i, i < n → ∃ k', step k (s i) = .next k' (s (i + 1))) {k' : K} {y : X} (hb : step k (s n) = .brk k' y) {fuel : Nat} (hf : n < fuel) :
    endOf step k fuel (s 0) = y ∧ retOf step k fuel (s 0) = none := by
  have := end_row s n h 0 (fuel - n) (by omega)
  rw [show fuel - n + (n - 0) = fuel by omega] at this
  rw [this.1, this.2, show fuel - n = (fuel - n - 1) + 1 by omega]
  simp only [endOf, retOf, hb, and_self]
theorem end_row_ret (s : Nat → X) (n : Nat) (h : ∀ i, i < n → ∃ k', step k (s i) = .next k' (s (i + 1))) {r : ρ} (hb : step k (s n) = .ret r) {fuel : Nat} (hf : n < fuel) :
    retOf step k fuel (s 0) = some r := by
  have := end_row s n h 0 (fuel - n) (by omega)
  rw [show fuel - n + (n - 0) = fuel by omega] at this
  rw [this.2, show fuel - n = (fuel - n - 1) + 1 by omega]
  simp only [retOf, hb]
theorem ret_row (s : Nat → X) (f : Nat → Option ρ) (n : Nat) (h : ∀ i, i < n → match f i with | some r => step k (s i) = .ret r | none => ∃ k', step k (s i) = .next k' (s (i + 1)))
    {k' : K} {y : X} (hb : step k (s n) = .brk k' y) : ∀ {fuel : Nat}, n < fuel → retOf step k fuel (s 0) = (List.range n).findSome? f := by
  have key : ∀ d i fuel, n - i = d → i ≤ n → d < fuel → retOf step k fuel (s i) = (List.range' i d).findSome? f := by
    intro d
    induction d with
    | zero =>
      intro i fuel hd hi hf
      have : i = n := by omega
      subst this
      obtain ⟨g, rfl⟩ : ∃ g, fuel = g + 1 := ⟨fuel - 1, by omega⟩
      simp only [retOf, hb]; rfl
    | succ d ih =>
      intro i fuel hd hi hf
      obtain ⟨g, rfl⟩ : ∃ g, fuel = g + 1 := ⟨fuel - 1, by omega⟩
      have := h i (by omega)
      rw [List.range'_succ, List.findSome?_cons]
      cases hfi : f i with
      | some r => rw [hfi] at this; simp only at this; simp only [retOf, this]
      | none =>
        rw [hfi] at this
        obtain ⟨k'', h1⟩ := this
        simp only [retOf, h1]
        exact ih (i + 1) g (by omega) (by omega) (by omega)
  intro fuel hf
  rw [key n 0 fuel rfl (by omega) hf, List.range_eq_range']
theorem loop_spec (I : X → Prop) (mu : X → Nat) (Q : Option ρ → X → Prop)
    (h : ∀ x, I x → match step k x with | .next _ y => I y ∧ mu y < mu x | .brk _ y => Q none y | .ret r => Q (some r) x) : ∀ (n : Nat) (x : X), I x → mu x < n → Q (retOf step k n x) (endOf step k n x)
  | 0, _, _, hn => by omega
  | n + 1, x, hx, hn => by
    have := h x hx
    simp only [retOf, endOf]
    cases hs : step k x with
    | next k' y => rw [hs] at this; exact loop_spec I mu Q h n _ this.1 (by have := this.2; omega)
    | brk k' y => rw [hs] at this; exact this
    | ret r => rw [hs] at this; exact this
theorem loop_sim {K' X' : Type} {step' : K' → X' → BOut K' X' ρ} {k' : K'} (I : X → X' → Prop)
    (h : ∀ x x', I x x' → match step k x, step' k' x' with | .next _ y, .next _ y' => I y y' | .brk _ y, .brk _ y' => I y y' | .ret r, .ret r' => r = r' | _, _ => False) :
    ∀ (n : Nat) (x : X) (x' : X'), I x x' → I (endOf step k n x) (endOf step' k' n x') ∧ retOf step k n x = retOf step' k' n x'
  | 0, _, _, hx => ⟨hx, rfl⟩
  | n + 1, x, x', hx => by
    have := h x x' hx
    simp only [retOf, endOf]
    cases hs : step k x <;> cases hs' : step' k' x' <;> rw [hs, hs'] at this
    · exact loop_sim I h n _ _ this
    · exact this.elim
    · exact this.elim
    · exact this.elim
    · exact ⟨this, rfl⟩
    · exact this.elim
    · exact this.elim
    · exact this.elim
    · exact ⟨hx, by rw [this]⟩
theorem end_fold {α β : Type} {step : K → β × Int → BOut K (β × Int) ρ} (l : List α) (f : β → α → β) (hl : l.length ≤ maxLen)
    (h : ∀ m (i : Nat) (hi : i < l.length), ∃ k', step k (m, (i : Int)) = .next k' (f m l[i], IntKind.i64.wrap ((i : Int) + 1)))
    (hb : ∀ m, ∃ k', step k (m, (l.length : Int)) = .brk k' (m, (l.length : Int))) (m0 : β) {fuel : Nat} (hf : l.length < fuel) :
    endOf step k fuel (m0, 0) = (l.foldl f m0, (l.length : Int)) ∧ retOf step k fuel (m0, 0) = none := by
  have hs : ∀ i, i < l.length → ∃ k', step k ((fun i : Nat => ((l.take i).foldl f m0, (i : Int))) i) = .next k' ((fun i : Nat => ((l.take i).foldl f m0, (i : Int))) (i + 1)) := by
    intro i hi
    obtain ⟨k', h1⟩ := h ((l.take i).foldl f m0) i hi
    refine ⟨k', ?_⟩
    simp only [h1]
    have h2 : IntKind.i64.wrap ((i : Int) + 1) = ((i + 1 : Nat) : Int) := by simp only [maxLen] at hl; rw [IntKind.wrap_i64]; omega
    rw [h2, List.take_add_one, List.getElem?_eq_getElem hi, List.foldl_append]; rfl
  obtain ⟨k', hb'⟩ := hb (l.foldl f m0)
  have h0 := end_row_brk _ l.length hs (k' := k') (y := (l.foldl f m0, (l.length : Int))) (by simp only [List.take_length]; exact hb') hf
  simpa using h0
theorem nthT_nat {α : Type} [Inhabited α] (l : List α) (i : Nat) (h : i < l.length) : nthT l (i : Int) = l[i] := by
  simp [nthT, List.getD_eq_getElem?_getD, List.getElem?_eq_getElem h]
theorem nthT_of {α : Type} [Inhabited α] (l : List α) (i : Int) (h0 : 0 ≤ i) (h : i < l.length) : nthT l i = l[i.toNat]'(by omega) := by
  have : i.toNat < l.length := by omega
  simp [nthT, List.getD_eq_getElem?_getD, List.getElem?_eq_getElem this]
theorem findSome_range {α : Type} [Inhabited α] (l : List α) (g : α → Option ρ) : (List.range l.length).findSome? (fun (i : Nat) => g (nthT l (i : Int))) = l.findSome? g := by
  have : (List.range l.length).map (fun (i : Nat) => nthT l (i : Int)) = l := by
    apply List.ext_getElem
    · simp
    · intro i h1 h2; simp at h1; simp [nthT_nat l i h1]
  calc _ = ((List.range l.length).map (fun (i : Nat) => nthT l (i : Int))).findSome? g := by rw [List.findSome?_map]; rfl
    _ = _ := by rw [this]
theorem optR_none {α β : Type} (f : α → β) (d : β) : optR none f d = d := rfl
theorem optR_some {α β : Type} (r : α) (f : α → β) (d : β) : optR (some r) f d = f r := rfl
theorem findSome_all {α : Type} (l : List α) (p : α → Bool) : optR (l.findSome? (fun n => if p n then none else some false)) (fun y => y) true = l.all p := by
  induction l with
  | nil => rfl
  | cons a l ih =>
    rw [List.findSome?_cons]
    cases hp : p a with
    | true => simp only [if_true]; rw [ih]; simp [hp]
    | false => simp [hp, optR]
end
end Go.Proofs.YtngbcgnihbjfnaaGreatDoor.Sp
namespace Go.Proofs.YtngbcgnihbjfnaaGreatDoor.Sp
open Go Sy
theorem wrap_succ {i n : Nat} (hi : i < n) (hn : n ≤ maxLen) : IntKind.i64.wrap ((i : Int) + 1) = ((i + 1 : Nat) : Int) := by
  simp only [maxLen] at hn
  rw [IntKind.wrap_i64]; omega
section
variable {K ρ : Type} {k : K}
theorem end_all {α : Type} [Inhabited α] {step : K → Bool × Int → BOut K (Bool × Int) ρ} (l : List α) (p : α → Bool) (hl : l.length ≤ maxLen)
    (h : ∀ b i, step k (b, i) = bif decide (i < (l.length : Int)) then .next k (b && p (nthT l i), IntKind.i64.wrap (i + 1)) else .brk k (b, i)) (b0 : Bool) {fuel : Nat} (hf : l.length < fuel) :
    (endOf step k fuel (b0, 0)).1 = (b0 && l.all p) := by
  have hs : ∀ i, i < l.length → ∃ k', step k ((fun i : Nat => (b0 && (l.take i).all p, (i : Int))) i) = .next k' ((fun i : Nat => (b0 && (l.take i).all p, (i : Int))) (i + 1)) := by
    intro i hi
    refine ⟨k, ?_⟩
    simp only [h]
    have h1 : decide ((i : Int) < (l.length : Int)) = true := by simp; omega
    have h2 : (l.take (i + 1)).all p = ((l.take i).all p && p l[i]) := by rw [List.take_add_one, List.getElem?_eq_getElem hi, List.all_append]; simp only [Option.toList_some, List.all_cons, List.all_nil, Bool.and_true]
    rw [h1, wrap_succ hi hl, nthT_nat l i hi, h2]
    simp [Bool.and_assoc]
  have hb : step k ((fun i : Nat => (b0 && (l.take i).all p, (i : Int))) l.length) = .brk k (b0 && l.all p, (l.length : Int)) := by
    simp only [h]
    have h1 : decide ((l.length : Int) < (l.length : Int)) = false := by simp
    rw [h1]; simp
  have := (end_row_brk _ l.length hs hb hf).1
  simp only [List.take_zero, List.all_nil, Bool.and_true, Int.ofNat_zero] at this
  have h3 : endOf step k fuel (b0, 0) = (b0 && l.all p, (l.length : Int)) := this
  rw [h3]
end
end Go.Proofs.YtngbcgnihbjfnaaGreatDoor.Sp
end

section
/- Sets of bits: what the evaluator's words for & | &^ << >> say of single bits (own work). -/
namespace Go.Proofs.YtngbcgnihbjfnaaGreatDoor.Sp
open Go Sy
set_option linter.unusedVariables false
set_option linter.unusedSimpArgs false
def W (x : Int) : Prop := 0 ≤ x ∧ x < 4294967296
def bit (x : Int) (i : Nat) : Bool := x.toNat.testBit i
theorem W.ext {x y : Int} (hx : W x) (hy : W y) (h : ∀ i, i < 32 → bit x i = bit y i) : x = y := by
  have hn : x.toNat = y.toNat := by
    apply Nat.eq_of_testBit_eq
    intro i
    by_cases hi : i < 32
    · exact h i hi
    · rw [Nat.testBit_lt_two_pow (x := x.toNat) (Nat.lt_of_lt_of_le (show x.toNat < 2 ^ 32 by have := hx.2; omega) (Nat.pow_le_pow_right (by omega) (by omega))),
        Nat.testBit_lt_two_pow (x := y.toNat) (Nat.lt_of_lt_of_le (show y.toNat < 2 ^ 32 by have := hy.2; omega) (Nat.pow_le_pow_right (by omega) (by omega)))]
  have := hx.1; have := hy.1; omega
theorem bit_hi {x : Int} (hx : W x) {i : Nat} (hi : 32 ≤ i) : bit x i = false :=
  Nat.testBit_lt_two_pow (Nat.lt_of_lt_of_le (show x.toNat < 2 ^ 32 by have := hx.2; omega) (Nat.pow_le_pow_right (by omega) hi))
theorem W.zero : W 0 := by unfold W; omega
theorem bit_zero (i : Nat) : bit 0 i = false := by simp [bit]
theorem wrap32 (v : BitVec 32) : IntKind.u32.wrap (v.toNat : Int) = (v.toNat : Int) := by have := v.isLt; rw [IntKind.wrap_u32]; omega
theorem W_bv (v : BitVec 32) : W (v.toNat : Int) := by have := v.isLt; unfold W; omega
theorem bit_bv (v : BitVec 32) (i : Nat) : bit (v.toNat : Int) i = v.getLsbD i := by simp [bit, BitVec.testBit_toNat]
theorem bv_bit {x : Int} (hx : 0 ≤ x) (i : Nat) (hi : i < 32) : (BitVec.ofInt 32 x).getLsbD i = bit x i := by
  obtain ⟨n, rfl⟩ := Int.eq_ofNat_of_zero_le hx
  rw [BitVec.ofInt_natCast, BitVec.getLsbD_ofNat]
  simp [hi, bit]
section
variable {x y : Int}
abbrev and32 (x y : Int) : Int := IntKind.u32.wrap ((BitVec.ofInt IntKind.u32.bits x &&& BitVec.ofInt IntKind.u32.bits y).toNat : Int)
abbrev or32 (x y : Int) : Int := IntKind.u32.wrap ((BitVec.ofInt IntKind.u32.bits x ||| BitVec.ofInt IntKind.u32.bits y).toNat : Int)
abbrev nand32 (x y : Int) : Int := IntKind.u32.wrap ((BitVec.ofInt IntKind.u32.bits x &&& ~~~ BitVec.ofInt IntKind.u32.bits y).toNat : Int)
abbrev shl32 (x k : Int) : Int := IntKind.u32.wrap (x * 2 ^ (min k.toNat IntKind.u32.bits))
abbrev shr32 (x k : Int) : Int := Int.fdiv x (2 ^ (min k.toNat IntKind.u32.bits))
theorem W_and (x y : Int) : W (and32 x y) := by show W (IntKind.u32.wrap ((BitVec.ofInt 32 x &&& BitVec.ofInt 32 y).toNat : Int)); rw [wrap32]; exact W_bv _
theorem W_or (x y : Int) : W (or32 x y) := by show W (IntKind.u32.wrap ((BitVec.ofInt 32 x ||| BitVec.ofInt 32 y).toNat : Int)); rw [wrap32]; exact W_bv _
theorem W_nand (x y : Int) : W (nand32 x y) := by show W (IntKind.u32.wrap ((BitVec.ofInt 32 x &&& ~~~ BitVec.ofInt 32 y).toNat : Int)); rw [wrap32]; exact W_bv _
theorem W_wrap (x : Int) : W (IntKind.u32.wrap x) := by unfold W; rw [IntKind.wrap_u32]; omega
theorem nth3 (a b c : Nat) (i : Int) (h0 : 0 ≤ i) (h2 : i ≤ 2) : ∃ g, nthT [some a, some b, some c] i = some g ∧ g ∈ [a, b, c] := by
  have : i = 0 ∨ i = 1 ∨ i = 2 := by omega
  rcases this with rfl | rfl | rfl
  · exact ⟨a, rfl, by simp⟩
  · exact ⟨b, rfl, by simp⟩
  · exact ⟨c, rfl, by simp⟩
theorem W.lo {x : Int} (h : W x) : 0 ≤ x := h.1
theorem W.hi {x : Int} (h : W x) : x ≤ 4294967295 := by have := h.2; omega
theorem W_shl (x k : Int) : W (shl32 x k) := W_wrap _
theorem bit_and (hx : 0 ≤ x) (hy : 0 ≤ y) (i : Nat) (hi : i < 32) : bit (and32 x y) i = (bit x i && bit y i) := by
  show bit (IntKind.u32.wrap ((BitVec.ofInt 32 x &&& BitVec.ofInt 32 y).toNat : Int)) i = _
  rw [wrap32, bit_bv, BitVec.getLsbD_and, bv_bit hx i hi, bv_bit hy i hi]
theorem bit_or (hx : 0 ≤ x) (hy : 0 ≤ y) (i : Nat) (hi : i < 32) : bit (or32 x y) i = (bit x i || bit y i) := by
  show bit (IntKind.u32.wrap ((BitVec.ofInt 32 x ||| BitVec.ofInt 32 y).toNat : Int)) i = _
  rw [wrap32, bit_bv, BitVec.getLsbD_or, bv_bit hx i hi, bv_bit hy i hi]
theorem bit_nand (hx : 0 ≤ x) (hy : 0 ≤ y) (i : Nat) (hi : i < 32) : bit (nand32 x y) i = (bit x i && !bit y i) := by
  show bit (IntKind.u32.wrap ((BitVec.ofInt 32 x &&& ~~~ BitVec.ofInt 32 y).toNat : Int)) i = _
  rw [wrap32, bit_bv, BitVec.getLsbD_and, BitVec.getLsbD_not, bv_bit hx i hi, bv_bit hy i hi]
  simp [hi]
theorem shl_nat (x k : Nat) : shl32 (x : Int) (k : Int) = ((x * 2 ^ min k 32 % 4294967296 : Nat) : Int) := by
  show IntKind.u32.wrap ((x : Int) * 2 ^ (min (k : Int).toNat 32)) = _
  rw [IntKind.wrap_u32, Int.toNat_natCast]
  have h : (x : Int) * 2 ^ min k 32 = ((x * 2 ^ min k 32 : Nat) : Int) := by rw [Int.natCast_mul, Int.natCast_pow]; rfl
  rw [h]
  generalize x * 2 ^ min k 32 = q
  omega
theorem shr_nat (x k : Nat) : shr32 (x : Int) (k : Int) = ((x / 2 ^ min k 32 : Nat) : Int) := by
  show Int.fdiv (x : Int) (2 ^ (min (k : Int).toNat 32)) = _
  rw [Int.toNat_natCast, Int.fdiv_eq_ediv_of_nonneg _ (by exact Int.le_of_lt (Int.pow_pos (by omega)))]
  norm_cast
theorem W_shr (hx : W x) (k : Int) (hk : 0 ≤ k) : W (shr32 x k) := by
  obtain ⟨n, rfl⟩ := Int.eq_ofNat_of_zero_le hx.1
  obtain ⟨j, rfl⟩ := Int.eq_ofNat_of_zero_le hk
  rw [shr_nat]
  have h2 := hx.2
  have h3 := Nat.div_le_self n (2 ^ min j 32)
  generalize n / 2 ^ min j 32 = q at *
  unfold W; omega
theorem bit_shl (hx : 0 ≤ x) (k : Nat) (i : Nat) (hi : i < 32) : bit (shl32 x (k : Int)) i = (decide (k ≤ i) && bit x (i - k)) := by
  obtain ⟨n, rfl⟩ := Int.eq_ofNat_of_zero_le hx
  rw [shl_nat]
  simp only [bit, Int.toNat_natCast]
  rw [show (4294967296 : Nat) = 2 ^ 32 from rfl, Nat.testBit_mod_two_pow, Nat.testBit_mul_two_pow]
  by_cases hk : k ≤ 32
  · rw [Nat.min_eq_left hk]
    by_cases h2 : k ≤ i <;> simp [hi, h2]
  · rw [Nat.min_eq_right (by omega)]
    have h1 : ¬ 32 ≤ i := by omega
    have h2 : ¬ k ≤ i := by omega
    simp [h1, h2, hi]
theorem bit_shr (hx : W x) (k : Nat) (i : Nat) : bit (shr32 x (k : Int)) i = bit x (k + i) := by
  obtain ⟨n, rfl⟩ := Int.eq_ofNat_of_zero_le hx.1
  by_cases hk : k ≤ 32
  · rw [shr_nat, Nat.min_eq_left hk]
    simp only [bit, Int.toNat_natCast]
    rw [Nat.testBit_div_two_pow, Nat.add_comm]
  · rw [bit_hi hx (by omega), shr_nat, Nat.min_eq_right (by omega)]
    simp only [bit, Int.toNat_natCast]
    rw [Nat.testBit_div_two_pow]
    exact bit_hi hx (by omega)
theorem bit_one (k i : Nat) (hi : i < 32) : bit (shl32 1 (k : Int)) i = decide (i = k) := by
  rw [bit_shl (by omega) k i hi]
  have h1 : bit 1 (i - k) = decide (i - k = 0) := by
    simp only [bit]
    show Nat.testBit 1 (i - k) = _
    by_cases h0 : i - k = 0
    · rw [h0]; rfl
    · have : Nat.testBit 1 (i - k) = false := by
        cases h : Nat.testBit 1 (i - k) with
        | false => rfl
        | true => exact absurd (Nat.testBit_one_eq_true_iff_self_eq_zero.1 h) h0
      rw [this]; simpa using h0
  rw [h1]
  by_cases h : i = k <;> by_cases h2 : k ≤ i <;> simp_all <;> omega
theorem ask_bit (hx : W x) (k : Nat) : (and32 (shr32 x (k : Int)) 1 == 1) = bit x k := by
  have h0 : W (shr32 x (k : Int)) := W_shr hx _ (by omega)
  have h1 : and32 (shr32 x (k : Int)) 1 = if bit x k then 1 else 0 := by
    refine W.ext (W_and _ _) (by split <;> unfold W <;> omega) fun i hi => ?_
    rw [bit_and h0.1 (by omega) i hi, bit_shr hx]
    by_cases hi0 : i = 0
    · subst hi0
      have : bit 1 0 = true := rfl
      rw [Nat.add_zero, this, Bool.and_true]
      cases bit x k <;> rfl
    · have : bit 1 i = false := by
        have := bit_one 0 i hi
        rw [show shl32 1 ((0 : Nat) : Int) = 1 from rfl] at this
        rw [this]; simpa using hi0
      rw [this, Bool.and_false]
      cases bit x k
      · simp [bit_zero]
      · simp [this]
  rw [h1]
  cases bit x k <;> rfl
end
theorem pop_size : Lib.pop8tab.size = 256 := Lib.pop8tab_size
theorem len_size : Lib.len8tab.size = 256 := Lib.len8tab_size
theorem and_nat (x y : Nat) (hx : x < 4294967296) (hy : y < 4294967296) : and32 (x : Int) (y : Int) = ((x &&& y : Nat) : Int) := by
  have h : x &&& y < 4294967296 := Nat.lt_of_le_of_lt Nat.and_le_left hx
  refine W.ext (W_and _ _) (by unfold W; omega) fun i hi => ?_
  rw [bit_and (by omega) (by omega) i hi]
  simp [bit]
theorem and_255 (a : Int) (h0 : 0 ≤ a) (h1 : a < 4294967296) : and32 a 255 = a % 256 := by
  obtain ⟨n, rfl⟩ := Int.eq_ofNat_of_zero_le h0
  rw [show (255 : Int) = ((255 : Nat) : Int) from rfl, and_nat n 255 (by omega) (by omega), Nat.and_two_pow_sub_one_eq_mod n 8]
  omega
theorem a255 (a : Int) (h0 : 0 ≤ a) (h1 : a < 4294967296) : IntKind.u32.wrap ((BitVec.ofInt IntKind.u32.bits a &&& BitVec.ofInt IntKind.u32.bits (255 : Int)).toNat : Int) = a % 256 := and_255 a h0 h1
theorem d24 (x : Int) : Int.fdiv x (2 ^ (min ((24 : Int)).toNat IntKind.u32.bits)) = x / 16777216 := Int.fdiv_eq_ediv_of_nonneg _ (by decide)
theorem d16 (x : Int) : Int.fdiv x (2 ^ (min ((16 : Int)).toNat IntKind.u32.bits)) = x / 65536 := Int.fdiv_eq_ediv_of_nonneg _ (by decide)
theorem d8 (x : Int) : Int.fdiv x (2 ^ (min ((8 : Int)).toNat IntKind.u32.bits)) = x / 256 := Int.fdiv_eq_ediv_of_nonneg _ (by decide)
theorem d27 (x : Int) : Int.fdiv x (2 ^ (min ((27 : Int)).toNat IntKind.u32.bits)) = x / 134217728 := Int.fdiv_eq_ediv_of_nonneg _ (by decide)
end Go.Proofs.YtngbcgnihbjfnaaGreatDoor.Sp
end

section
/- Contracts of functions, by the evaluator (own program gen.py): math/bits.TrailingZeros32, math/bits.Len32. -/
set_option linter.unusedVariables false
set_option linter.unusedSimpArgs false
set_option maxRecDepth 100000
namespace Go.Proofs.YtngbcgnihbjfnaaGreatDoor.Sp
open Go Go.RowKit Sy
def F107 (x : Int) : Int :=
  bif (x == (0 : Int)) then
    (32 : Int)
  else
    (IntKind.i64.wrap (Sp.nthT tabB (Int.fdiv (IntKind.u32.wrap ((IntKind.u32.wrap ((BitVec.ofInt IntKind.u32.bits x &&& BitVec.ofInt IntKind.u32.bits (IntKind.u32.wrap (0 - x))).toNat : Int)) * (125613361 : Int))) (2 ^ (min ((27 : Int)).toNat IntKind.u32.bits)))))
def pre107 (x : Int) : Prop := 0 ≤ x ∧ x ≤ 4294967295
def F108 (x : Int) : Int :=
  bif (decide (x ≥ (65536 : Int))) then
    (bif (decide ((Int.fdiv x (2 ^ (min ((16 : Int)).toNat IntKind.u32.bits))) ≥ (256 : Int))) then
      (IntKind.i64.wrap ((IntKind.i64.wrap ((16 : Int) + (8 : Int))) + (IntKind.i64.wrap (strAt Lib.len8tab (IntKind.u8.wrap (Int.fdiv (Int.fdiv x (2 ^ (min ((16 : Int)).toNat IntKind.u32.bits))) (2 ^ (min ((8 : Int)).toNat IntKind.u32.bits))))))))
    else
      (IntKind.i64.wrap ((16 : Int) + (IntKind.i64.wrap (strAt Lib.len8tab (IntKind.u8.wrap (Int.fdiv x (2 ^ (min ((16 : Int)).toNat IntKind.u32.bits)))))))))
  else
    bif (decide (x ≥ (256 : Int))) then
      (IntKind.i64.wrap ((IntKind.i64.wrap ((0 : Int) + (8 : Int))) + (IntKind.i64.wrap (strAt Lib.len8tab (IntKind.u8.wrap (Int.fdiv x (2 ^ (min ((8 : Int)).toNat IntKind.u32.bits))))))))
    else
      (IntKind.i64.wrap ((0 : Int) + (IntKind.i64.wrap (strAt Lib.len8tab (IntKind.u8.wrap x)))))
def pre108 (x : Int) : Prop := 0 ≤ x ∧ x ≤ 4294967295
end Go.Proofs.YtngbcgnihbjfnaaGreatDoor.Sp
namespace Go.Proofs.YtngbcgnihbjfnaaGreatDoor.Sy
open Go Go.RowKit Sp
def ct107 : Ct := { p := ty35, psh := [none], r := ty3, rsh := (Rsh.one (none)), pre := some Sp.pre107, fresh := none, F := Sp.F107 }
theorem ok107 : CtOk Tryz.prog gdS 107 ct107 :=
  fn_okU (ctxOkF gok_nil []) rfl Tryz.func107 (p := ty35) (psh := [none]) (r := ty3) (rsh := (Rsh.one (none))) (pre := some Sp.pre107) (fresh := none) (F := Sp.F107) (L := noL) (c := bodyOf Tryz.f107) (dflt := Ty.dflt ty3) rfl (no_loops)
    (fun x fx hq => have h := hq _ rfl; safe_of (S := ((((x == (0 : Int)) = true → True) ∧ ((x == (0 : Int)) = false → ((0 ≤ (27 : Int)) ∧ ((0 ≤ (Int.fdiv (IntKind.u32.wrap ((IntKind.u32.wrap ((BitVec.ofInt IntKind.u32.bits x &&& BitVec.ofInt IntKind.u32.bits (IntKind.u32.wrap (0 - x))).toNat : Int)) * (125613361 : Int))) (2 ^ (min ((27 : Int)).toNat IntKind.u32.bits))) ∧ (Int.fdiv (IntKind.u32.wrap ((IntKind.u32.wrap ((BitVec.ofInt IntKind.u32.bits x &&& BitVec.ofInt IntKind.u32.bits (IntKind.u32.wrap (0 - x))).toNat : Int)) * (125613361 : Int))) (2 ^ (min ((27 : Int)).toNat IntKind.u32.bits))) < (32 : Int)) ∧ True)))))) (by kernel_rfl) (by
  try dsimp only [Ty.den] at *
  simp only [Sp.pre107] at h
  refine ⟨fun _ => trivial, fun _ => ⟨by omega, ?_, trivial⟩⟩
  rw [Sp.d27, IntKind.wrap_u32]
  omega)) (fun x => by kernel_rfl)
def ct108 : Ct := { p := ty35, psh := [none], r := ty3, rsh := (Rsh.one (none)), pre := some Sp.pre108, fresh := none, F := Sp.F108 }
theorem ok108 : CtOk Tryz.prog gdS 108 ct108 :=
  fn_okU (ctxOkF gok_nil []) rfl Tryz.func108 (p := ty35) (psh := [none]) (r := ty3) (rsh := (Rsh.one (none))) (pre := some Sp.pre108) (fresh := none) (F := Sp.F108) (L := noL) (c := bodyOf Tryz.f108) (dflt := Ty.dflt ty3) rfl (no_loops)
    (fun x fx hq => have h := hq _ rfl; safe_of (S := ((((decide (x ≥ (65536 : Int))) = true → ((0 ≤ (16 : Int)) ∧ (((decide ((Int.fdiv x (2 ^ (min ((16 : Int)).toNat IntKind.u32.bits))) ≥ (256 : Int))) = true → ((0 ≤ (8 : Int)) ∧ ((0 ≤ (IntKind.u8.wrap (Int.fdiv (Int.fdiv x (2 ^ (min ((16 : Int)).toNat IntKind.u32.bits))) (2 ^ (min ((8 : Int)).toNat IntKind.u32.bits)))) ∧ (IntKind.u8.wrap (Int.fdiv (Int.fdiv x (2 ^ (min ((16 : Int)).toNat IntKind.u32.bits))) (2 ^ (min ((8 : Int)).toNat IntKind.u32.bits)))) < ((Lib.len8tab).size : Int)) ∧ True))) ∧ ((decide ((Int.fdiv x (2 ^ (min ((16 : Int)).toNat IntKind.u32.bits))) ≥ (256 : Int))) = false → ((0 ≤ (IntKind.u8.wrap (Int.fdiv x (2 ^ (min ((16 : Int)).toNat IntKind.u32.bits)))) ∧ (IntKind.u8.wrap (Int.fdiv x (2 ^ (min ((16 : Int)).toNat IntKind.u32.bits)))) < ((Lib.len8tab).size : Int)) ∧ True))))) ∧ ((decide (x ≥ (65536 : Int))) = false → (((decide (x ≥ (256 : Int))) = true → ((0 ≤ (8 : Int)) ∧ ((0 ≤ (IntKind.u8.wrap (Int.fdiv x (2 ^ (min ((8 : Int)).toNat IntKind.u32.bits)))) ∧ (IntKind.u8.wrap (Int.fdiv x (2 ^ (min ((8 : Int)).toNat IntKind.u32.bits)))) < ((Lib.len8tab).size : Int)) ∧ True))) ∧ ((decide (x ≥ (256 : Int))) = false → ((0 ≤ (IntKind.u8.wrap x) ∧ (IntKind.u8.wrap x) < ((Lib.len8tab).size : Int)) ∧ True))))))) (by kernel_rfl) (by
  try dsimp only [Ty.den] at *
  simp only [Sp.pre108] at h
  have hs : ((Lib.len8tab).size : Int) = 256 := by rw [Sp.len_size]; rfl
  simp only [hs, Sp.d16, Sp.d8, IntKind.wrap_u8, decide_eq_true_eq, decide_eq_false_iff_not]
  repeat' (first | exact trivial | apply And.intro | intro _)
  all_goals omega)) (fun x => by kernel_rfl)
def GmM0 : List (Nat × Ct) := (107, ct107) :: (108, ct108) :: []
theorem gokGmM0 : GOk GmM0 := gok_cons ok107 ⟨_, Tryz.func107, by kernel_rfl, by kernel_rfl⟩ (gok_cons ok108 ⟨_, Tryz.func108, by kernel_rfl, by kernel_rfl⟩ (gok_nil))
end Go.Proofs.YtngbcgnihbjfnaaGreatDoor.Sy
end

section
/- What Len32 comes to (own work). -/
namespace Go.Proofs.YtngbcgnihbjfnaaGreatDoor.Sp
open Go Sy
set_option linter.unusedVariables false
set_option linter.unusedSimpArgs false
theorem len8_at : ∀ n, n < 256 → (n = 0 → (Lib.len8tab.data.getD n 0).toNat = 0) ∧ (n ≠ 0 → 1 ≤ (Lib.len8tab.data.getD n 0).toNat ∧ (Lib.len8tab.data.getD n 0).toNat ≤ 8 ∧ 2 ^ ((Lib.len8tab.data.getD n 0).toNat - 1) ≤ n ∧ n < 2 ^ (Lib.len8tab.data.getD n 0).toNat) := by decide +kernel
theorem strAt_len (n : Nat) (h : n < 256) : ∃ m : Nat, strAt Lib.len8tab (n : Int) = (m : Int) ∧ (n = 0 → m = 0) ∧ (n ≠ 0 → 1 ≤ m ∧ m ≤ 8 ∧ 2 ^ (m - 1) ≤ n ∧ n < 2 ^ m) := by
  refine ⟨_, ?_, len8_at n h⟩
  unfold strAt
  rw [Int.toNat_natCast]
theorem len_zero : F108 0 = 0 := by kernel_rfl
theorem len_nat (n : Nat) (hn : n < 4294967296) (h0 : n ≠ 0) : ∃ k : Nat, k < 32 ∧ F108 (n : Int) = (k : Int) + 1 ∧ 2 ^ k ≤ n ∧ n < 2 ^ (k + 1) := by
  have hd1 : Int.fdiv (n : Int) (2 ^ (min ((16 : Int)).toNat IntKind.u32.bits)) = ((n / 65536 : Nat) : Int) := by rw [d16]; omega
  have hd2 : ∀ q : Nat, Int.fdiv (q : Int) (2 ^ (min ((8 : Int)).toNat IntKind.u32.bits)) = ((q / 256 : Nat) : Int) := fun q => by rw [d8]; omega
  have hb : ∀ q : Nat, q < 256 → IntKind.u8.wrap (q : Int) = (q : Int) := fun q h => wrap_u8_of (by omega) (by omega)
  have key : ∀ (q s : Nat), q ≠ 0 → q < 256 → n / 2 ^ s = q → s ≤ 24 → ∀ m : Nat, (q ≠ 0 → 1 ≤ m ∧ m ≤ 8 ∧ 2 ^ (m - 1) ≤ q ∧ q < 2 ^ m) → m - 1 + s < 32 ∧ ((s : Int) + (m : Int)) = ((m - 1 + s : Nat) : Int) + 1 ∧ 2 ^ (m - 1 + s) ≤ n ∧ n < 2 ^ (m - 1 + s + 1) := by
    intro q s hq hq2 hns hs m hm
    obtain ⟨h1, h2, h3, h4⟩ := hm hq
    refine ⟨by omega, by omega, ?_, ?_⟩
    · rw [Nat.pow_add]
      calc 2 ^ (m - 1) * 2 ^ s ≤ q * 2 ^ s := Nat.mul_le_mul_right _ h3
        _ ≤ n := by rw [← hns]; exact Nat.div_mul_le_self _ _
    · rw [show m - 1 + s + 1 = m + s by omega, Nat.pow_add]
      have : n / 2 ^ s < 2 ^ m := by rw [hns]; exact h4
      exact (Nat.div_lt_iff_lt_mul (Nat.two_pow_pos s)).1 this
  have hw : ∀ a b : Int, 0 ≤ a → a ≤ 100 → 0 ≤ b → b ≤ 100 → IntKind.i64.wrap (a + b) = a + b := fun a b _ _ _ _ => wrap_i64_of (by omega) (by omega)
  have hw1 : ∀ a : Int, 0 ≤ a → a ≤ 100 → IntKind.i64.wrap a = a := fun a _ _ => wrap_i64_of (by omega) (by omega)
  unfold F108
  by_cases c1 : n < 65536
  · have e1 : decide ((n : Int) ≥ 65536) = false := by simp; omega
    rw [e1, cond_false]
    by_cases c2 : n < 256
    · have e2 : decide ((n : Int) ≥ 256) = false := by simp; omega
      rw [e2, cond_false, hb n c2]
      obtain ⟨m, h1, _, h3⟩ := strAt_len n c2
      have hm := h3 h0
      obtain ⟨k1, k2, k3, k4⟩ := key n 0 h0 c2 (by simp) (by omega) m h3
      refine ⟨_, k1, ?_, k3, k4⟩
      rw [h1, ← k2]
      try rw [hw1 (m : Int) (by omega) (by omega)]
      rw [hw _ _ (by omega) (by omega) (by omega) (by omega)]
      omega
    · have e2 : decide ((n : Int) ≥ 256) = true := by simp; omega
      rw [e2, cond_true, hd2, hb _ (by omega)]
      obtain ⟨m, h1, _, h3⟩ := strAt_len (n / 256) (by omega)
      have hm := h3 (by omega)
      obtain ⟨k1, k2, k3, k4⟩ := key (n / 256) 8 (by omega) (by omega) rfl (by omega) m h3
      refine ⟨_, k1, ?_, k3, k4⟩
      rw [h1, ← k2]
      try rw [hw1 (m : Int) (by omega) (by omega)]
      rw [hw 0 8 (by omega) (by omega) (by omega) (by omega), hw _ _ (by omega) (by omega) (by omega) (by omega)]
      omega
  · have e1 : decide ((n : Int) ≥ 65536) = true := by simp; omega
    rw [e1, cond_true, hd1]
    by_cases c2 : n / 65536 < 256
    · have e2 : decide (((n / 65536 : Nat) : Int) ≥ 256) = false := by simp; omega
      rw [e2, cond_false, hb _ c2]
      obtain ⟨m, h1, _, h3⟩ := strAt_len (n / 65536) c2
      have hm := h3 (by omega)
      obtain ⟨k1, k2, k3, k4⟩ := key (n / 65536) 16 (by omega) (by omega) rfl (by omega) m h3
      refine ⟨_, k1, ?_, k3, k4⟩
      rw [h1, ← k2]
      try rw [hw1 (m : Int) (by omega) (by omega)]
      rw [hw _ _ (by omega) (by omega) (by omega) (by omega)]
      omega
    · have e2 : decide (((n / 65536 : Nat) : Int) ≥ 256) = true := by simp; omega
      rw [e2, cond_true, hd2, hb _ (by omega)]
      obtain ⟨m, h1, _, h3⟩ := strAt_len (n / 65536 / 256) (by omega)
      have hm := h3 (by omega)
      obtain ⟨k1, k2, k3, k4⟩ := key (n / 65536 / 256) 24 (by omega) (by omega) (by rw [Nat.div_div_eq_div_mul]) (by omega) m h3
      refine ⟨_, k1, ?_, k3, k4⟩
      rw [h1, ← k2]
      try rw [hw1 (m : Int) (by omega) (by omega)]
      rw [hw 16 8 (by omega) (by omega) (by omega) (by omega), hw _ _ (by omega) (by omega) (by omega) (by omega)]
      omega
theorem len_spec {x : Int} (hx : W x) (hne : x ≠ 0) : ∃ k : Nat, k < 32 ∧ F108 x = (k : Int) + 1 ∧ bit x k = true ∧ ∀ i, k < i → bit x i = false := by
  obtain ⟨n, rfl⟩ := Int.eq_ofNat_of_zero_le hx.1
  have hn : n < 4294967296 := by have := hx.2; omega
  obtain ⟨k, h1, h2, h3, h4⟩ := len_nat n hn (by omega)
  refine ⟨k, h1, h2, ?_, fun i hi => ?_⟩
  · simp only [bit, Int.toNat_natCast]
    rw [Nat.testBit_eq_decide_div_mod_eq]
    have : n / 2 ^ k = 1 := by
      apply Nat.div_eq_of_lt_le
      · omega
      · rw [Nat.pow_succ] at h4; omega
    rw [this]; rfl
  · simp only [bit, Int.toNat_natCast]
    exact Nat.testBit_lt_two_pow (Nat.lt_of_lt_of_le h4 (Nat.pow_le_pow_right (by omega) (by omega)))
end Go.Proofs.YtngbcgnihbjfnaaGreatDoor.Sp
end

section
/- Contracts of functions, by the evaluator (own program gen.py): collective.IsSweep, calls.Both, calls.One, <collective.here>.without, <collective.here>.nearer, collective.open, collective.shown, overlayref11.IsSweep, overlayref11.proper, overlayref11.marked, overlayref07.Minus, overlayref07.Has, overlayref11.above, overlayref11.below, overlayref11.open, overlayref11.move. -/
set_option linter.unusedVariables false
set_option linter.unusedSimpArgs false
set_option maxRecDepth 100000
namespace Go.Proofs.YtngbcgnihbjfnaaGreatDoor.Sp
open Go Go.RowKit Sy
def F61 (x : Int × Int) : Bool :=
  ((((decide (x.1 ≥ (0 : Int))) && (decide (x.1 ≤ (2 : Int)))) && (decide (x.2 ≥ (0 : Int)))) && (decide (x.2 ≤ (7 : Int))))
def F105 (x : (Int × Int) × Int × Int) : Int × Int :=
  ((IntKind.u32.wrap ((BitVec.ofInt IntKind.u32.bits x.1.1 &&& BitVec.ofInt IntKind.u32.bits x.2.1).toNat : Int)), (IntKind.u32.wrap ((BitVec.ofInt IntKind.u32.bits x.1.2 &&& BitVec.ofInt IntKind.u32.bits x.2.2).toNat : Int)))
def F112 (x : Int × Int) : Int × Int :=
  bif ((decide (x.1 ≥ (0 : Int))) && (decide (x.1 < (32 : Int)))) then
    (bif (x.2 == (1 : Int)) then
      ((IntKind.u32.wrap ((1 : Int) * 2 ^ (min (x.1).toNat IntKind.u32.bits))), (0 : Int))
    else
      bif (x.2 == (2 : Int)) then
        ((0 : Int), (IntKind.u32.wrap ((1 : Int) * 2 ^ (min (x.1).toNat IntKind.u32.bits))))
      else
        ((0 : Int), (0 : Int)))
  else
    ((0 : Int), (0 : Int))
def F101 (x : Bool × Bool × Bool × Int × Int × Int) : (Bool × Bool × Bool × Int × Int × Int) × Bool × Bool × Bool × Int × Int × Int :=
  bif (((((x.1 && (!(x.1 && (x.2.2.2.2.2 != (0 : Int))))) || (x.2.1 && (!(x.2.1 && ((IntKind.i64.wrap ((BitVec.ofInt IntKind.i64.bits (Int.fdiv x.2.2.2.2.2 (2 ^ (min ((1 : Int)).toNat IntKind.i64.bits))) &&& BitVec.ofInt IntKind.i64.bits (1 : Int)).toNat : Int)) == (1 : Int)))))) || (x.2.2.1 && (!(x.2.2.1 && ((IntKind.i64.wrap ((BitVec.ofInt IntKind.i64.bits (Int.fdiv x.2.2.2.2.2 (2 ^ (min ((2 : Int)).toNat IntKind.i64.bits))) &&& BitVec.ofInt IntKind.i64.bits (1 : Int)).toNat : Int)) == (1 : Int)))))) || (decide (x.2.2.2.1 > (0 : Int)))) || (decide (x.2.2.2.2.1 > (0 : Int)))) then
    (((x.1 && (!(x.1 && (x.2.2.2.2.2 != (0 : Int))))), (x.2.1 && (!(x.2.1 && ((IntKind.i64.wrap ((BitVec.ofInt IntKind.i64.bits (Int.fdiv x.2.2.2.2.2 (2 ^ (min ((1 : Int)).toNat IntKind.i64.bits))) &&& BitVec.ofInt IntKind.i64.bits (1 : Int)).toNat : Int)) == (1 : Int))))), (x.2.2.1 && (!(x.2.2.1 && ((IntKind.i64.wrap ((BitVec.ofInt IntKind.i64.bits (Int.fdiv x.2.2.2.2.2 (2 ^ (min ((2 : Int)).toNat IntKind.i64.bits))) &&& BitVec.ofInt IntKind.i64.bits (1 : Int)).toNat : Int)) == (1 : Int))))), x.2.2.2), (x.1 && (x.2.2.2.2.2 != (0 : Int))), (x.2.1 && ((IntKind.i64.wrap ((BitVec.ofInt IntKind.i64.bits (Int.fdiv x.2.2.2.2.2 (2 ^ (min ((1 : Int)).toNat IntKind.i64.bits))) &&& BitVec.ofInt IntKind.i64.bits (1 : Int)).toNat : Int)) == (1 : Int))), (x.2.2.1 && ((IntKind.i64.wrap ((BitVec.ofInt IntKind.i64.bits (Int.fdiv x.2.2.2.2.2 (2 ^ (min ((2 : Int)).toNat IntKind.i64.bits))) &&& BitVec.ofInt IntKind.i64.bits (1 : Int)).toNat : Int)) == (1 : Int))), (0 : Int), (0 : Int), (0 : Int))
  else
    ((x.1, x.2.1, x.2.2.1, x.2.2.2.1, x.2.2.2.2.1, (0 : Int)), false, false, false, (0 : Int), (0 : Int), (0 : Int))
def F109 (x : Bool × Bool × Bool × Int × Int × Int) : Int :=
  bif ((decide (x.2.2.2.1 > (0 : Int))) && ((x.2.2.2.2.1 == (0 : Int)) || (decide (x.2.2.2.2.1 ≥ x.2.2.2.1)))) then
    (1 : Int)
  else
    bif (decide (x.2.2.2.2.1 > (0 : Int))) then
      (2 : Int)
    else
      (0 : Int)
def F110 (x : Int) : Int × Int × Int :=
  ((3 : Int), x, x)
def F111 (x : Int × Bool × Int × Int × Bool × Int) : Int :=
  bif (x.2.1 || (decide (x.2.2.1 > (0 : Int)))) then
    x.1
  else
    bif (x.2.2.2.2.1 || (decide (x.2.2.2.2.2 > (0 : Int)))) then
      x.2.2.2.1
    else
      (0 : Int)
def F70 (x : Int × Int) : Bool :=
  ((((decide (x.1 ≥ (0 : Int))) && (decide (x.1 ≤ (2 : Int)))) && (decide (x.2 ≥ (0 : Int)))) && (decide (x.2 ≤ (7 : Int))))
def F72 (x : Int × Int × Int × Int) : Int × Int × Int :=
  bif ((decide (x.1 < (1 : Int))) || (decide (x.1 > (32 : Int)))) then
    ((0 : Int), (0 : Int), (0 : Int))
  else
    ((IntKind.u32.wrap ((BitVec.ofInt IntKind.u32.bits x.2.1 &&& BitVec.ofInt IntKind.u32.bits (IntKind.u32.wrap ((IntKind.u32.wrap ((1 : Int) * 2 ^ (min ((IntKind.u64.wrap x.1)).toNat IntKind.u32.bits))) - (1 : Int)))).toNat : Int)), (IntKind.u32.wrap ((BitVec.ofInt IntKind.u32.bits (IntKind.u32.wrap ((BitVec.ofInt IntKind.u32.bits x.2.2.1 &&& BitVec.ofInt IntKind.u32.bits (IntKind.u32.wrap ((IntKind.u32.wrap ((1 : Int) * 2 ^ (min ((IntKind.u64.wrap x.1)).toNat IntKind.u32.bits))) - (1 : Int)))).toNat : Int)) &&& ~~~ BitVec.ofInt IntKind.u32.bits (IntKind.u32.wrap ((1 : Int) * 2 ^ (min ((IntKind.u64.wrap (IntKind.i64.wrap (x.1 - (1 : Int))))).toNat IntKind.u32.bits)))).toNat : Int)), (IntKind.u32.wrap ((BitVec.ofInt IntKind.u32.bits (IntKind.u32.wrap ((BitVec.ofInt IntKind.u32.bits x.2.2.2 &&& BitVec.ofInt IntKind.u32.bits (IntKind.u32.wrap ((IntKind.u32.wrap ((1 : Int) * 2 ^ (min ((IntKind.u64.wrap x.1)).toNat IntKind.u32.bits))) - (1 : Int)))).toNat : Int)) &&& ~~~ BitVec.ofInt IntKind.u32.bits (1 : Int)).toNat : Int)))
def F99 (x : (Int × Int) × Int × Int × Int × Int) : Int × Int × Int :=
  bif (x.1.2 != (0 : Int)) then
    (bif ((IntKind.i64.wrap ((BitVec.ofInt IntKind.i64.bits x.1.2 &&& BitVec.ofInt IntKind.i64.bits (2 : Int)).toNat : Int)) != (0 : Int)) then
      (bif ((IntKind.i64.wrap ((BitVec.ofInt IntKind.i64.bits x.1.2 &&& BitVec.ofInt IntKind.i64.bits (4 : Int)).toNat : Int)) != (0 : Int)) then
        ((IntKind.u32.wrap ((BitVec.ofInt IntKind.u32.bits x.2.2.1 &&& BitVec.ofInt IntKind.u32.bits (IntKind.u32.wrap ((1 : Int) * 2 ^ (min ((IntKind.u64.wrap x.2.1)).toNat IntKind.u32.bits)))).toNat : Int)), (IntKind.u32.wrap ((BitVec.ofInt IntKind.u32.bits x.2.2.2.1 &&& BitVec.ofInt IntKind.u32.bits (IntKind.u32.wrap ((1 : Int) * 2 ^ (min ((IntKind.u64.wrap x.2.1)).toNat IntKind.u32.bits)))).toNat : Int)), (IntKind.u32.wrap ((BitVec.ofInt IntKind.u32.bits x.2.2.2.2 &&& BitVec.ofInt IntKind.u32.bits (IntKind.u32.wrap ((1 : Int) * 2 ^ (min ((IntKind.u64.wrap x.2.1)).toNat IntKind.u32.bits)))).toNat : Int)))
      else
        ((IntKind.u32.wrap ((BitVec.ofInt IntKind.u32.bits x.2.2.1 &&& BitVec.ofInt IntKind.u32.bits (IntKind.u32.wrap ((1 : Int) * 2 ^ (min ((IntKind.u64.wrap x.2.1)).toNat IntKind.u32.bits)))).toNat : Int)), (IntKind.u32.wrap ((BitVec.ofInt IntKind.u32.bits x.2.2.2.1 &&& BitVec.ofInt IntKind.u32.bits (IntKind.u32.wrap ((1 : Int) * 2 ^ (min ((IntKind.u64.wrap x.2.1)).toNat IntKind.u32.bits)))).toNat : Int)), (0 : Int)))
    else
      bif ((IntKind.i64.wrap ((BitVec.ofInt IntKind.i64.bits x.1.2 &&& BitVec.ofInt IntKind.i64.bits (4 : Int)).toNat : Int)) != (0 : Int)) then
        ((IntKind.u32.wrap ((BitVec.ofInt IntKind.u32.bits x.2.2.1 &&& BitVec.ofInt IntKind.u32.bits (IntKind.u32.wrap ((1 : Int) * 2 ^ (min ((IntKind.u64.wrap x.2.1)).toNat IntKind.u32.bits)))).toNat : Int)), (0 : Int), (IntKind.u32.wrap ((BitVec.ofInt IntKind.u32.bits x.2.2.2.2 &&& BitVec.ofInt IntKind.u32.bits (IntKind.u32.wrap ((1 : Int) * 2 ^ (min ((IntKind.u64.wrap x.2.1)).toNat IntKind.u32.bits)))).toNat : Int)))
      else
        ((IntKind.u32.wrap ((BitVec.ofInt IntKind.u32.bits x.2.2.1 &&& BitVec.ofInt IntKind.u32.bits (IntKind.u32.wrap ((1 : Int) * 2 ^ (min ((IntKind.u64.wrap x.2.1)).toNat IntKind.u32.bits)))).toNat : Int)), (0 : Int), (0 : Int)))
  else
    bif ((IntKind.i64.wrap ((BitVec.ofInt IntKind.i64.bits x.1.2 &&& BitVec.ofInt IntKind.i64.bits (2 : Int)).toNat : Int)) != (0 : Int)) then
      (bif ((IntKind.i64.wrap ((BitVec.ofInt IntKind.i64.bits x.1.2 &&& BitVec.ofInt IntKind.i64.bits (4 : Int)).toNat : Int)) != (0 : Int)) then
        ((0 : Int), (IntKind.u32.wrap ((BitVec.ofInt IntKind.u32.bits x.2.2.2.1 &&& BitVec.ofInt IntKind.u32.bits (IntKind.u32.wrap ((1 : Int) * 2 ^ (min ((IntKind.u64.wrap x.2.1)).toNat IntKind.u32.bits)))).toNat : Int)), (IntKind.u32.wrap ((BitVec.ofInt IntKind.u32.bits x.2.2.2.2 &&& BitVec.ofInt IntKind.u32.bits (IntKind.u32.wrap ((1 : Int) * 2 ^ (min ((IntKind.u64.wrap x.2.1)).toNat IntKind.u32.bits)))).toNat : Int)))
      else
        ((0 : Int), (IntKind.u32.wrap ((BitVec.ofInt IntKind.u32.bits x.2.2.2.1 &&& BitVec.ofInt IntKind.u32.bits (IntKind.u32.wrap ((1 : Int) * 2 ^ (min ((IntKind.u64.wrap x.2.1)).toNat IntKind.u32.bits)))).toNat : Int)), (0 : Int)))
    else
      bif ((IntKind.i64.wrap ((BitVec.ofInt IntKind.i64.bits x.1.2 &&& BitVec.ofInt IntKind.i64.bits (4 : Int)).toNat : Int)) != (0 : Int)) then
        ((0 : Int), (0 : Int), (IntKind.u32.wrap ((BitVec.ofInt IntKind.u32.bits x.2.2.2.2 &&& BitVec.ofInt IntKind.u32.bits (IntKind.u32.wrap ((1 : Int) * 2 ^ (min ((IntKind.u64.wrap x.2.1)).toNat IntKind.u32.bits)))).toNat : Int)))
      else
        ((0 : Int), (0 : Int), (0 : Int))
def F95 (x : (Int × Int) × Int × Int) : Int × Int :=
  ((IntKind.u32.wrap ((BitVec.ofInt IntKind.u32.bits x.1.1 &&& ~~~ BitVec.ofInt IntKind.u32.bits x.2.1).toNat : Int)), (IntKind.u32.wrap ((BitVec.ofInt IntKind.u32.bits x.1.2 &&& ~~~ BitVec.ofInt IntKind.u32.bits x.2.2).toNat : Int)))
def F96 (x : (Int × Int) × Int × Int) : Bool :=
  bif ((decide (x.2.1 < (0 : Int))) || (decide (x.2.1 > (31 : Int)))) then
    false
  else
    (((x.2.2 == (1 : Int)) && ((IntKind.u32.wrap ((BitVec.ofInt IntKind.u32.bits (Int.fdiv x.1.1 (2 ^ (min ((IntKind.u64.wrap x.2.1)).toNat IntKind.u32.bits))) &&& BitVec.ofInt IntKind.u32.bits (1 : Int)).toNat : Int)) == (1 : Int))) || ((x.2.2 == (2 : Int)) && ((IntKind.u32.wrap ((BitVec.ofInt IntKind.u32.bits (Int.fdiv x.1.2 (2 ^ (min ((IntKind.u64.wrap x.2.1)).toNat IntKind.u32.bits))) &&& BitVec.ofInt IntKind.u32.bits (1 : Int)).toNat : Int)) == (1 : Int))))
def in97_2 (k : (Int × Int × Int × Int)) (x : (Int)) : Prop := True
def mu97_2 (k : (Int × Int × Int × Int)) (x : (Int)) : Nat := ((32 : Int) - x).toNat
def st97_2 (k : (Int × Int × Int × Int)) (x : (Int)) : BOut (Int × Int × Int × Int) (Int) (Bool × Int) :=
  bif (decide (x < (32 : Int))) then
    (bif ((IntKind.u32.wrap ((BitVec.ofInt IntKind.u32.bits (Int.fdiv (IntKind.u32.wrap ((BitVec.ofInt IntKind.u32.bits (IntKind.u32.wrap ((BitVec.ofInt IntKind.u32.bits k.2.1 ||| BitVec.ofInt IntKind.u32.bits k.2.2.1).toNat : Int)) ||| BitVec.ofInt IntKind.u32.bits k.2.2.2).toNat : Int)) (2 ^ (min ((IntKind.u64.wrap x)).toNat IntKind.u32.bits))) &&& BitVec.ofInt IntKind.u32.bits (1 : Int)).toNat : Int)) == (1 : Int)) then
      BOut.ret (true, (IntKind.i64.wrap (x - k.1)))
    else
      BOut.next k (IntKind.i64.wrap (x + (1 : Int))))
  else
    BOut.brk k x
def G97_2 (k : (Int × Int × Int × Int)) (x : (Int)) : (Int) := endOf st97_2 k (Nat.succ (mu97_2 k x)) x
def R97_2 (k : (Int × Int × Int × Int)) (x : (Int)) : Option (Bool × Int) := retOf st97_2 k (Nat.succ (mu97_2 k x)) x
def F97 (x : (Int × Int × Int) × Int) : Bool × Int :=
  Sp.optR (Sp.R97_2 (x.2, x.1) (IntKind.i64.wrap (x.2 + (1 : Int)))) (fun y => y)
  ((false, (0 : Int)))
def in98_2 (k : (Int × Int × Int × Int)) (x : (Int)) : Prop := -9223372036854775808 ≤ x ∧ x ≤ 9223372036854775807
def mu98_2 (k : (Int × Int × Int × Int)) (x : (Int)) : Nat := (x + 1).toNat
def st98_2 (k : (Int × Int × Int × Int)) (x : (Int)) : BOut (Int × Int × Int × Int) (Int) (Bool × Int) :=
  bif (decide (x ≥ (0 : Int))) then
    (bif ((IntKind.u32.wrap ((BitVec.ofInt IntKind.u32.bits (Int.fdiv (IntKind.u32.wrap ((BitVec.ofInt IntKind.u32.bits (IntKind.u32.wrap ((BitVec.ofInt IntKind.u32.bits k.2.1 ||| BitVec.ofInt IntKind.u32.bits k.2.2.1).toNat : Int)) ||| BitVec.ofInt IntKind.u32.bits k.2.2.2).toNat : Int)) (2 ^ (min ((IntKind.u64.wrap x)).toNat IntKind.u32.bits))) &&& BitVec.ofInt IntKind.u32.bits (1 : Int)).toNat : Int)) == (1 : Int)) then
      BOut.ret (true, (IntKind.i64.wrap (k.1 - x)))
    else
      BOut.next k (IntKind.i64.wrap (x - (1 : Int))))
  else
    BOut.brk k x
def G98_2 (k : (Int × Int × Int × Int)) (x : (Int)) : (Int) := endOf st98_2 k (Nat.succ (mu98_2 k x)) x
def R98_2 (k : (Int × Int × Int × Int)) (x : (Int)) : Option (Bool × Int) := retOf st98_2 k (Nat.succ (mu98_2 k x)) x
def F98 (x : (Int × Int × Int) × Int) : Bool × Int :=
  Sp.optR (Sp.R98_2 (x.2, x.1) (IntKind.i64.wrap (x.2 - (1 : Int)))) (fun y => y)
  ((false, (0 : Int)))
def F75 (x : Int) : Int × Int × Int :=
  ((3 : Int), x, x)
def F76 (x : Int) : Int × Int × Int :=
  bif (x == (1 : Int)) then
    ((1 : Int), x, (0 : Int))
  else
    bif (x == (2 : Int)) then
      ((2 : Int), x, (0 : Int))
    else
      ((0 : Int), (0 : Int), (0 : Int))
end Go.Proofs.YtngbcgnihbjfnaaGreatDoor.Sp
namespace Go.Proofs.YtngbcgnihbjfnaaGreatDoor.Sy
open Go Go.RowKit Sp
def ct61 : Ct := { p := ty30, psh := [some 2], r := ty4, rsh := (Rsh.one (none)), pre := none, fresh := none, F := Sp.F61 }
theorem ok61 : CtOk Tryz.prog gdS 61 ct61 :=
  fn_okU (ctxOkF gokGmM0 []) rfl Tryz.func61 (p := ty30) (psh := [some 2]) (r := ty4) (rsh := (Rsh.one (none))) (pre := none) (fresh := none) (F := Sp.F61) (L := noL) (c := bodyOf Tryz.f61) (dflt := Ty.dflt ty4) rfl (no_loops)
    (fun x fx _ => triv_of (by kernel_rfl)) (fun x => by kernel_rfl)
def ct105 : Ct := { p := (Ty.pair ty44 ty44), psh := [some 2, some 2], r := ty44, rsh := (Rsh.one (some 2)), pre := none, fresh := none, F := Sp.F105 }
theorem ok105 : CtOk Tryz.prog gdS 105 ct105 :=
  fn_okU (ctxOkF gokGmM0 []) rfl Tryz.func105 (p := (Ty.pair ty44 ty44)) (psh := [some 2, some 2]) (r := ty44) (rsh := (Rsh.one (some 2))) (pre := none) (fresh := none) (F := Sp.F105) (L := noL) (c := bodyOf Tryz.f105) (dflt := Ty.dflt ty44) rfl (no_loops)
    (fun x fx _ => triv_of (by kernel_rfl)) (fun x => by kernel_rfl)
def ct112 : Ct := { p := (Ty.pair ty3 ty3), psh := [none, none], r := ty44, rsh := (Rsh.one (some 2)), pre := none, fresh := none, F := Sp.F112 }
theorem ok112 : CtOk Tryz.prog gdS 112 ct112 :=
  fn_okU (ctxOkF gokGmM0 []) rfl Tryz.func112 (p := (Ty.pair ty3 ty3)) (psh := [none, none]) (r := ty44) (rsh := (Rsh.one (some 2))) (pre := none) (fresh := none) (F := Sp.F112) (L := noL) (c := bodyOf Tryz.f112) (dflt := Ty.dflt ty44) rfl (no_loops)
    (fun x fx _ => slim_of (S := ((((decide (x.1 ≥ (0 : Int))) && (decide (x.1 < (32 : Int)))) = true → (((x.2 == (1 : Int)) = true → (0 ≤ x.1)) ∧ ((x.2 == (1 : Int)) = false → ((x.2 == (2 : Int)) = true → (0 ≤ x.1))))))) (by kernel_rfl) (by
  try dsimp only [Ty.den] at *
  simp only [Fit, maxLen] at fx
  simp only [true_and, IntKind.wrap_i64, IntKind.wrap_u8, IntKind.wrap_u32, IntKind.wrap_u64, Sp.tmod_lit, Sp.tdiv_lit, bne_eq_false_iff_eq, Int.natCast_inj, setE, copyL, sliceL, zrow, List.length_append, List.length_cons, List.length_nil, List.length_set, List.length_replicate, List.length_take, List.length_drop, decide_eq_true_eq, decide_eq_false_iff_not, Bool.or_eq_true, Bool.and_eq_true, Bool.or_eq_false_iff, Bool.and_eq_false_iff, Bool.not_eq_true', Bool.not_eq_false', Bool.not_eq_true, Bool.not_eq_false, beq_iff_eq, beq_eq_false_iff_ne, bne_iff_ne, ne_eq, implies_true, and_true, true_and] at *
  all_goals ((repeat' (first | exact trivial | apply And.intro | intro _)) <;> first | trivial | omega | exact Sp.tmod_nn (by omega) | exact Sp.tmod_lt (by omega) (by omega)))) (fun x => by kernel_rfl)
def ct101 : Ct := { p := ty134, psh := [some 6], r := (Ty.pair ty134 ty134), rsh := (Rsh.tup [some 6, some 6]), pre := none, fresh := none, F := Sp.F101 }
theorem ok101 : CtOk Tryz.prog gdS 101 ct101 :=
  fn_okU (ctxOkF gokGmM0 []) rfl Tryz.func101 (p := ty134) (psh := [some 6]) (r := (Ty.pair ty134 ty134)) (rsh := (Rsh.tup [some 6, some 6])) (pre := none) (fresh := none) (F := Sp.F101) (L := noL) (c := bodyOf Tryz.f101) (dflt := Ty.dflt (Ty.pair ty134 ty134)) rfl (no_loops)
    (fun x fx _ => slim_of (S := ((((x.2.1 = true → 0 ≤ (1 : Int))) ∧ ((x.2.2.1 = true → 0 ≤ (2 : Int)))))) (by kernel_rfl) (by
  try dsimp only [Ty.den] at *
  simp only [Fit, maxLen] at fx
  simp only [true_and, IntKind.wrap_i64, IntKind.wrap_u8, IntKind.wrap_u32, IntKind.wrap_u64, Sp.tmod_lit, Sp.tdiv_lit, bne_eq_false_iff_eq, Int.natCast_inj, setE, copyL, sliceL, zrow, List.length_append, List.length_cons, List.length_nil, List.length_set, List.length_replicate, List.length_take, List.length_drop, decide_eq_true_eq, decide_eq_false_iff_not, Bool.or_eq_true, Bool.and_eq_true, Bool.or_eq_false_iff, Bool.and_eq_false_iff, Bool.not_eq_true', Bool.not_eq_false', Bool.not_eq_true, Bool.not_eq_false, beq_iff_eq, beq_eq_false_iff_ne, bne_iff_ne, ne_eq, implies_true, and_true, true_and] at *
  all_goals ((repeat' (first | exact trivial | apply And.intro | intro _)) <;> first | trivial | omega | exact Sp.tmod_nn (by omega) | exact Sp.tmod_lt (by omega) (by omega)))) (fun x => by kernel_rfl)
def ct109 : Ct := { p := ty134, psh := [some 6], r := ty3, rsh := (Rsh.one (none)), pre := none, fresh := none, F := Sp.F109 }
theorem ok109 : CtOk Tryz.prog gdS 109 ct109 :=
  fn_okU (ctxOkF gokGmM0 []) rfl Tryz.func109 (p := ty134) (psh := [some 6]) (r := ty3) (rsh := (Rsh.one (none))) (pre := none) (fresh := none) (F := Sp.F109) (L := noL) (c := bodyOf Tryz.f109) (dflt := Ty.dflt ty3) rfl (no_loops)
    (fun x fx _ => triv_of (by kernel_rfl)) (fun x => by kernel_rfl)
def ct110 : Ct := { p := ty3, psh := [none], r := ty93, rsh := (Rsh.one (some 3)), pre := none, fresh := none, F := Sp.F110 }
theorem ok110 : CtOk Tryz.prog gdS 110 ct110 :=
  fn_okU (ctxOkF gokGmM0 []) rfl Tryz.func110 (p := ty3) (psh := [none]) (r := ty93) (rsh := (Rsh.one (some 3))) (pre := none) (fresh := none) (F := Sp.F110) (L := noL) (c := bodyOf Tryz.f110) (dflt := Ty.dflt ty93) rfl (no_loops)
    (fun x fx _ => triv_of (by kernel_rfl)) (fun x => by kernel_rfl)
def ct111 : Ct := { p := (Ty.pair ty3 (Ty.pair ty4 (Ty.pair ty3 (Ty.pair ty3 (Ty.pair ty4 ty3))))), psh := [none, none, none, none, none, none], r := ty3, rsh := (Rsh.one (none)), pre := none, fresh := none, F := Sp.F111 }
theorem ok111 : CtOk Tryz.prog gdS 111 ct111 :=
  fn_okU (ctxOkF gokGmM0 []) rfl Tryz.func111 (p := (Ty.pair ty3 (Ty.pair ty4 (Ty.pair ty3 (Ty.pair ty3 (Ty.pair ty4 ty3)))))) (psh := [none, none, none, none, none, none]) (r := ty3) (rsh := (Rsh.one (none))) (pre := none) (fresh := none) (F := Sp.F111) (L := noL) (c := bodyOf Tryz.f111) (dflt := Ty.dflt ty3) rfl (no_loops)
    (fun x fx _ => triv_of (by kernel_rfl)) (fun x => by kernel_rfl)
def ct70 : Ct := { p := ty30, psh := [some 2], r := ty4, rsh := (Rsh.one (none)), pre := none, fresh := none, F := Sp.F70 }
theorem ok70 : CtOk Tryz.prog gdS 70 ct70 :=
  fn_okU (ctxOkF gokGmM0 []) rfl Tryz.func70 (p := ty30) (psh := [some 2]) (r := ty4) (rsh := (Rsh.one (none))) (pre := none) (fresh := none) (F := Sp.F70) (L := noL) (c := bodyOf Tryz.f70) (dflt := Ty.dflt ty4) rfl (no_loops)
    (fun x fx _ => triv_of (by kernel_rfl)) (fun x => by kernel_rfl)
def ct72 : Ct := { p := (Ty.pair ty3 ty91), psh := [none, some 3], r := ty91, rsh := (Rsh.one (some 3)), pre := none, fresh := none, F := Sp.F72 }
theorem ok72 : CtOk Tryz.prog gdS 72 ct72 :=
  fn_okU (ctxOkF gokGmM0 []) rfl Tryz.func72 (p := (Ty.pair ty3 ty91)) (psh := [none, some 3]) (r := ty91) (rsh := (Rsh.one (some 3))) (pre := none) (fresh := none) (F := Sp.F72) (L := noL) (c := bodyOf Tryz.f72) (dflt := Ty.dflt ty91) rfl (no_loops)
    (fun x fx _ => slim_of (S := ((((decide (x.1 < (1 : Int))) || (decide (x.1 > (32 : Int)))) = false → ((0 ≤ (IntKind.u64.wrap x.1)) ∧ (0 ≤ (IntKind.u64.wrap (IntKind.i64.wrap (x.1 - (1 : Int))))))))) (by kernel_rfl) (by
  try dsimp only [Ty.den] at *
  simp only [Fit, maxLen] at fx
  simp only [true_and, IntKind.wrap_i64, IntKind.wrap_u8, IntKind.wrap_u32, IntKind.wrap_u64, Sp.tmod_lit, Sp.tdiv_lit, bne_eq_false_iff_eq, Int.natCast_inj, setE, copyL, sliceL, zrow, List.length_append, List.length_cons, List.length_nil, List.length_set, List.length_replicate, List.length_take, List.length_drop, decide_eq_true_eq, decide_eq_false_iff_not, Bool.or_eq_true, Bool.and_eq_true, Bool.or_eq_false_iff, Bool.and_eq_false_iff, Bool.not_eq_true', Bool.not_eq_false', Bool.not_eq_true, Bool.not_eq_false, beq_iff_eq, beq_eq_false_iff_ne, bne_iff_ne, ne_eq, implies_true, and_true, true_and] at *
  all_goals ((repeat' (first | exact trivial | apply And.intro | intro _)) <;> first | trivial | omega | exact Sp.tmod_nn (by omega) | exact Sp.tmod_lt (by omega) (by omega)))) (fun x => by kernel_rfl)
def ct99 : Ct := { p := (Ty.pair ty30 (Ty.pair ty3 ty91)), psh := [some 2, none, some 3], r := ty91, rsh := (Rsh.one (some 3)), pre := none, fresh := none, F := Sp.F99 }
theorem ok99 : CtOk Tryz.prog gdS 99 ct99 :=
  fn_okU (ctxOkF gokGmM0 []) rfl Tryz.func99 (p := (Ty.pair ty30 (Ty.pair ty3 ty91))) (psh := [some 2, none, some 3]) (r := ty91) (rsh := (Rsh.one (some 3))) (pre := none) (fresh := none) (F := Sp.F99) (L := noL) (c := bodyOf Tryz.f99) (dflt := Ty.dflt ty91) rfl (no_loops)
    (fun x fx _ => slim_of (S := ((0 ≤ (IntKind.u64.wrap x.2.1)))) (by kernel_rfl) (by
  try dsimp only [Ty.den] at *
  simp only [Fit, maxLen] at fx
  simp only [true_and, IntKind.wrap_i64, IntKind.wrap_u8, IntKind.wrap_u32, IntKind.wrap_u64, Sp.tmod_lit, Sp.tdiv_lit, bne_eq_false_iff_eq, Int.natCast_inj, setE, copyL, sliceL, zrow, List.length_append, List.length_cons, List.length_nil, List.length_set, List.length_replicate, List.length_take, List.length_drop, decide_eq_true_eq, decide_eq_false_iff_not, Bool.or_eq_true, Bool.and_eq_true, Bool.or_eq_false_iff, Bool.and_eq_false_iff, Bool.not_eq_true', Bool.not_eq_false', Bool.not_eq_true, Bool.not_eq_false, beq_iff_eq, beq_eq_false_iff_ne, bne_iff_ne, ne_eq, implies_true, and_true, true_and] at *
  all_goals ((repeat' (first | exact trivial | apply And.intro | intro _)) <;> first | trivial | omega | exact Sp.tmod_nn (by omega) | exact Sp.tmod_lt (by omega) (by omega)))) (fun x => by kernel_rfl)
def ct95 : Ct := { p := (Ty.pair ty44 ty44), psh := [some 2, some 2], r := ty44, rsh := (Rsh.one (some 2)), pre := none, fresh := none, F := Sp.F95 }
theorem ok95 : CtOk Tryz.prog gdS 95 ct95 :=
  fn_okU (ctxOkF gokGmM0 []) rfl Tryz.func95 (p := (Ty.pair ty44 ty44)) (psh := [some 2, some 2]) (r := ty44) (rsh := (Rsh.one (some 2))) (pre := none) (fresh := none) (F := Sp.F95) (L := noL) (c := bodyOf Tryz.f95) (dflt := Ty.dflt ty44) rfl (no_loops)
    (fun x fx _ => triv_of (by kernel_rfl)) (fun x => by kernel_rfl)
def ct96 : Ct := { p := (Ty.pair ty44 (Ty.pair ty3 ty3)), psh := [some 2, none, none], r := ty4, rsh := (Rsh.one (none)), pre := none, fresh := none, F := Sp.F96 }
theorem ok96 : CtOk Tryz.prog gdS 96 ct96 :=
  fn_okU (ctxOkF gokGmM0 []) rfl Tryz.func96 (p := (Ty.pair ty44 (Ty.pair ty3 ty3))) (psh := [some 2, none, none]) (r := ty4) (rsh := (Rsh.one (none))) (pre := none) (fresh := none) (F := Sp.F96) (L := noL) (c := bodyOf Tryz.f96) (dflt := Ty.dflt ty4) rfl (no_loops)
    (fun x fx _ => slim_of (S := ((((decide (x.2.1 < (0 : Int))) || (decide (x.2.1 > (31 : Int)))) = false → ((((x.2.2 == (1 : Int)) = true → 0 ≤ (IntKind.u64.wrap x.2.1))) ∧ ((((x.2.2 == (1 : Int)) && ((IntKind.u32.wrap ((BitVec.ofInt IntKind.u32.bits (Int.fdiv x.1.1 (2 ^ (min ((IntKind.u64.wrap x.2.1)).toNat IntKind.u32.bits))) &&& BitVec.ofInt IntKind.u32.bits (1 : Int)).toNat : Int)) == (1 : Int))) = false → ((x.2.2 == (2 : Int)) = true → 0 ≤ (IntKind.u64.wrap x.2.1)))))))) (by kernel_rfl) (by
  try dsimp only [Ty.den] at *
  simp only [Fit, maxLen] at fx
  simp only [true_and, IntKind.wrap_i64, IntKind.wrap_u8, IntKind.wrap_u32, IntKind.wrap_u64, Sp.tmod_lit, Sp.tdiv_lit, bne_eq_false_iff_eq, Int.natCast_inj, setE, copyL, sliceL, zrow, List.length_append, List.length_cons, List.length_nil, List.length_set, List.length_replicate, List.length_take, List.length_drop, decide_eq_true_eq, decide_eq_false_iff_not, Bool.or_eq_true, Bool.and_eq_true, Bool.or_eq_false_iff, Bool.and_eq_false_iff, Bool.not_eq_true', Bool.not_eq_false', Bool.not_eq_true, Bool.not_eq_false, beq_iff_eq, beq_eq_false_iff_ne, bne_iff_ne, ne_eq, implies_true, and_true, true_and] at *
  all_goals ((repeat' (first | exact trivial | apply And.intro | intro _)) <;> first | trivial | omega | exact Sp.tmod_nn (by omega) | exact Sp.tmod_lt (by omega) (by omega)))) (fun x => by kernel_rfl)
def LS97_2 : LS (Ty.pair ty4 ty3).den := mkLS (Ty.pair ty3 ty91) ty3  [(1, none)] [(2, 3)] [(6, none)] [] [] [] [(2, 2)] 0 true Sp.in97_2 Sp.st97_2 Sp.mu97_2
set_option maxHeartbeats 4000000 in
theorem so97_2 (k : (Ty.pair ty3 ty91).den) (x : ty3.den) (fk : Fit (Ty.pair ty3 ty91) k) (h : Sp.in97_2 k x) : StepOk true Sp.in97_2 Sp.mu97_2 k x (Sp.st97_2 k x) := by
  try dsimp only [Ty.den] at *
  simp only [Sp.in97_2, Fit, maxLen] at h fk
  unfold Sp.st97_2
  (repeat' (first | exact rfl | (refine StepOk.cnd (fun hc => ?_) (fun hc => ?_) <;> (try simp only [IntKind.wrap_i64, IntKind.wrap_u8, IntKind.wrap_u32, IntKind.wrap_u64, bne_eq_false_iff_eq, Int.natCast_inj, setE, copyL, sliceL, zrow, List.length_append, List.length_cons, List.length_nil, List.length_set, List.length_replicate, List.length_take, List.length_drop, decide_eq_true_eq, decide_eq_false_iff_not, Bool.or_eq_true, Bool.and_eq_true, Bool.or_eq_false_iff, Bool.and_eq_false_iff, Bool.not_eq_true', Bool.not_eq_false', Bool.not_eq_true, Bool.not_eq_false, beq_iff_eq, beq_eq_false_iff_ne, bne_iff_ne, ne_eq] at hc)) | refine StepOk.opt (fun _ => ?_))) <;> (first | exact rfl | (refine ⟨rfl, ?_, ?_⟩ <;> simp only [Sp.in97_2, Sp.mu97_2, IntKind.wrap_i64, IntKind.wrap_u8, IntKind.wrap_u32, IntKind.wrap_u64, Sp.tmod_lit, Sp.tdiv_lit, bne_eq_false_iff_eq, Int.natCast_inj, setE, copyL, sliceL, zrow, List.length_append, List.length_cons, List.length_nil, List.length_set, List.length_replicate, List.length_take, List.length_drop, decide_eq_true_eq, decide_eq_false_iff_not, Bool.or_eq_true, Bool.and_eq_true, Bool.or_eq_false_iff, Bool.and_eq_false_iff, Bool.not_eq_true', Bool.not_eq_false', Bool.not_eq_true, Bool.not_eq_false, beq_iff_eq, beq_eq_false_iff_ne, bne_iff_ne, ne_eq] <;> first | omega | (and_intros <;> first | omega | exact h.1 | exact h.2 | exact h.2.1 | exact h.2.2 | exact h.2.2.1 | exact h.2.2.2 | exact h.2.2.2.1 | exact h.2.2.2.2 | exact h.2.2.2.2.1 | exact h.2.2.2.2.2 | exact h.2.2.2.2.2.1 | exact h.2.2.2.2.2.2)))
set_option maxHeartbeats 4000000 in
theorem lo97_2 : LoopOk Tryz.prog gdS (RetAt Tryz.prog Tryz.f97 (Rsh.tup [none, none]) none (Ty.pair ty4 ty3)) (bodyAt (bodyOf Tryz.f97) [0]) LS97_2 :=
  loop_run (ctxOkF gokGmM0 []) (L := lookL []) (d := BOut.brk (Ty.dflt (Ty.pair ty3 ty91)) (Ty.dflt ty3)) (loops_of (l := []) (by kernel_rfl) (loops_nil)) (fun k x fk fx h => slim_of (S := (((decide (x < (32 : Int))) = true → (0 ≤ (IntKind.u64.wrap x))))) (by kernel_rfl) (by
  try dsimp only [Ty.den] at *
  simp only [Sp.in97_2, Fit, maxLen] at h fk fx
  simp only [IntKind.wrap_i64, IntKind.wrap_u8, IntKind.wrap_u32, IntKind.wrap_u64, Sp.tmod_lit, Sp.tdiv_lit, bne_eq_false_iff_eq, Int.natCast_inj, setE, copyL, sliceL, zrow, List.length_append, List.length_cons, List.length_nil, List.length_set, List.length_replicate, List.length_take, List.length_drop, decide_eq_true_eq, decide_eq_false_iff_not, Bool.or_eq_true, Bool.and_eq_true, Bool.or_eq_false_iff, Bool.and_eq_false_iff, Bool.not_eq_true', Bool.not_eq_false', Bool.not_eq_true, Bool.not_eq_false, beq_iff_eq, beq_eq_false_iff_ne, bne_iff_ne, ne_eq, implies_true, and_true, true_and] at *
  all_goals ((repeat' (first | exact trivial | apply And.intro | intro _)) <;> first | trivial | omega | exact Sp.tmod_nn (by omega) | exact Sp.tmod_lt (by omega) (by omega)))) (fun k x => by kernel_rfl) so97_2
def ct97 : Ct := { p := (Ty.pair ty91 ty3), psh := [some 3, none], r := (Ty.pair ty4 ty3), rsh := (Rsh.tup [none, none]), pre := none, fresh := none, F := Sp.F97 }
theorem ok97 : CtOk Tryz.prog gdS 97 ct97 :=
  fn_okU (ctxOkF gokGmM0 []) rfl Tryz.func97 (p := (Ty.pair ty91 ty3)) (psh := [some 3, none]) (r := (Ty.pair ty4 ty3)) (rsh := (Rsh.tup [none, none])) (pre := none) (fresh := none) (F := Sp.F97) (L := (lookL [(2, LS97_2)])) (c := bodyOf Tryz.f97) (dflt := Ty.dflt (Ty.pair ty4 ty3)) rfl (loops_of (l := [bodyAt (bodyOf Tryz.f97) [0]]) (by kernel_rfl) (loops_cons (s0 := LS97_2) (by kernel_rfl) lo97_2 (loops_nil)))
    (fun x fx _ => slim_of (S := ((Sp.in97_2 (x.2, x.1) (IntKind.i64.wrap (x.2 + (1 : Int)))))) (by kernel_rfl) (by
  try dsimp only [Ty.den] at *
  simp only [Fit, maxLen] at fx
  simp only [Sp.in97_2, IntKind.wrap_i64, IntKind.wrap_u8, IntKind.wrap_u32, IntKind.wrap_u64, Sp.tmod_lit, Sp.tdiv_lit, bne_eq_false_iff_eq, Int.natCast_inj, setE, copyL, sliceL, zrow, List.length_append, List.length_cons, List.length_nil, List.length_set, List.length_replicate, List.length_take, List.length_drop, decide_eq_true_eq, decide_eq_false_iff_not, Bool.or_eq_true, Bool.and_eq_true, Bool.or_eq_false_iff, Bool.and_eq_false_iff, Bool.not_eq_true', Bool.not_eq_false', Bool.not_eq_true, Bool.not_eq_false, beq_iff_eq, beq_eq_false_iff_ne, bne_iff_ne, ne_eq, implies_true, and_true, true_and] at *
  all_goals ((repeat' (first | exact trivial | apply And.intro | intro _)) <;> first | trivial | omega | exact Sp.tmod_nn (by omega) | exact Sp.tmod_lt (by omega) (by omega)))) (fun x => by kernel_rfl)
def LS98_2 : LS (Ty.pair ty4 ty3).den := mkLS (Ty.pair ty3 ty91) ty3  [(1, none)] [(2, 3)] [(6, none)] [] [] [] [(2, 2)] 0 true Sp.in98_2 Sp.st98_2 Sp.mu98_2
set_option maxHeartbeats 4000000 in
theorem so98_2 (k : (Ty.pair ty3 ty91).den) (x : ty3.den) (fk : Fit (Ty.pair ty3 ty91) k) (h : Sp.in98_2 k x) : StepOk true Sp.in98_2 Sp.mu98_2 k x (Sp.st98_2 k x) := by
  try dsimp only [Ty.den] at *
  simp only [Sp.in98_2, Fit, maxLen] at h fk
  unfold Sp.st98_2
  (repeat' (first | exact rfl | (refine StepOk.cnd (fun hc => ?_) (fun hc => ?_) <;> (try simp only [IntKind.wrap_i64, IntKind.wrap_u8, IntKind.wrap_u32, IntKind.wrap_u64, bne_eq_false_iff_eq, Int.natCast_inj, setE, copyL, sliceL, zrow, List.length_append, List.length_cons, List.length_nil, List.length_set, List.length_replicate, List.length_take, List.length_drop, decide_eq_true_eq, decide_eq_false_iff_not, Bool.or_eq_true, Bool.and_eq_true, Bool.or_eq_false_iff, Bool.and_eq_false_iff, Bool.not_eq_true', Bool.not_eq_false', Bool.not_eq_true, Bool.not_eq_false, beq_iff_eq, beq_eq_false_iff_ne, bne_iff_ne, ne_eq] at hc)) | refine StepOk.opt (fun _ => ?_))) <;> (first | exact rfl | (refine ⟨rfl, ?_, ?_⟩ <;> simp only [Sp.in98_2, Sp.mu98_2, IntKind.wrap_i64, IntKind.wrap_u8, IntKind.wrap_u32, IntKind.wrap_u64, Sp.tmod_lit, Sp.tdiv_lit, bne_eq_false_iff_eq, Int.natCast_inj, setE, copyL, sliceL, zrow, List.length_append, List.length_cons, List.length_nil, List.length_set, List.length_replicate, List.length_take, List.length_drop, decide_eq_true_eq, decide_eq_false_iff_not, Bool.or_eq_true, Bool.and_eq_true, Bool.or_eq_false_iff, Bool.and_eq_false_iff, Bool.not_eq_true', Bool.not_eq_false', Bool.not_eq_true, Bool.not_eq_false, beq_iff_eq, beq_eq_false_iff_ne, bne_iff_ne, ne_eq] <;> first | omega | (and_intros <;> first | omega | exact h.1 | exact h.2 | exact h.2.1 | exact h.2.2 | exact h.2.2.1 | exact h.2.2.2 | exact h.2.2.2.1 | exact h.2.2.2.2 | exact h.2.2.2.2.1 | exact h.2.2.2.2.2 | exact h.2.2.2.2.2.1 | exact h.2.2.2.2.2.2)))
set_option maxHeartbeats 4000000 in
theorem lo98_2 : LoopOk Tryz.prog gdS (RetAt Tryz.prog Tryz.f98 (Rsh.tup [none, none]) none (Ty.pair ty4 ty3)) (bodyAt (bodyOf Tryz.f98) [0]) LS98_2 :=
  loop_run (ctxOkF gokGmM0 []) (L := lookL []) (d := BOut.brk (Ty.dflt (Ty.pair ty3 ty91)) (Ty.dflt ty3)) (loops_of (l := []) (by kernel_rfl) (loops_nil)) (fun k x fk fx h => slim_of (S := (((decide (x ≥ (0 : Int))) = true → (0 ≤ (IntKind.u64.wrap x))))) (by kernel_rfl) (by
  try dsimp only [Ty.den] at *
  simp only [Sp.in98_2, Fit, maxLen] at h fk fx
  simp only [IntKind.wrap_i64, IntKind.wrap_u8, IntKind.wrap_u32, IntKind.wrap_u64, Sp.tmod_lit, Sp.tdiv_lit, bne_eq_false_iff_eq, Int.natCast_inj, setE, copyL, sliceL, zrow, List.length_append, List.length_cons, List.length_nil, List.length_set, List.length_replicate, List.length_take, List.length_drop, decide_eq_true_eq, decide_eq_false_iff_not, Bool.or_eq_true, Bool.and_eq_true, Bool.or_eq_false_iff, Bool.and_eq_false_iff, Bool.not_eq_true', Bool.not_eq_false', Bool.not_eq_true, Bool.not_eq_false, beq_iff_eq, beq_eq_false_iff_ne, bne_iff_ne, ne_eq, implies_true, and_true, true_and] at *
  all_goals ((repeat' (first | exact trivial | apply And.intro | intro _)) <;> first | trivial | omega | exact Sp.tmod_nn (by omega) | exact Sp.tmod_lt (by omega) (by omega)))) (fun k x => by kernel_rfl) so98_2
def ct98 : Ct := { p := (Ty.pair ty91 ty3), psh := [some 3, none], r := (Ty.pair ty4 ty3), rsh := (Rsh.tup [none, none]), pre := none, fresh := none, F := Sp.F98 }
theorem ok98 : CtOk Tryz.prog gdS 98 ct98 :=
  fn_okU (ctxOkF gokGmM0 []) rfl Tryz.func98 (p := (Ty.pair ty91 ty3)) (psh := [some 3, none]) (r := (Ty.pair ty4 ty3)) (rsh := (Rsh.tup [none, none])) (pre := none) (fresh := none) (F := Sp.F98) (L := (lookL [(2, LS98_2)])) (c := bodyOf Tryz.f98) (dflt := Ty.dflt (Ty.pair ty4 ty3)) rfl (loops_of (l := [bodyAt (bodyOf Tryz.f98) [0]]) (by kernel_rfl) (loops_cons (s0 := LS98_2) (by kernel_rfl) lo98_2 (loops_nil)))
    (fun x fx _ => slim_of (S := ((Sp.in98_2 (x.2, x.1) (IntKind.i64.wrap (x.2 - (1 : Int)))))) (by kernel_rfl) (by
  try dsimp only [Ty.den] at *
  simp only [Fit, maxLen] at fx
  simp only [Sp.in98_2, IntKind.wrap_i64, IntKind.wrap_u8, IntKind.wrap_u32, IntKind.wrap_u64, Sp.tmod_lit, Sp.tdiv_lit, bne_eq_false_iff_eq, Int.natCast_inj, setE, copyL, sliceL, zrow, List.length_append, List.length_cons, List.length_nil, List.length_set, List.length_replicate, List.length_take, List.length_drop, decide_eq_true_eq, decide_eq_false_iff_not, Bool.or_eq_true, Bool.and_eq_true, Bool.or_eq_false_iff, Bool.and_eq_false_iff, Bool.not_eq_true', Bool.not_eq_false', Bool.not_eq_true, Bool.not_eq_false, beq_iff_eq, beq_eq_false_iff_ne, bne_iff_ne, ne_eq, implies_true, and_true, true_and] at *
  all_goals ((repeat' (first | exact trivial | apply And.intro | intro _)) <;> first | trivial | omega | exact Sp.tmod_nn (by omega) | exact Sp.tmod_lt (by omega) (by omega)))) (fun x => by kernel_rfl)
def ct75 : Ct := { p := ty3, psh := [none], r := ty93, rsh := (Rsh.one (some 3)), pre := none, fresh := none, F := Sp.F75 }
theorem ok75 : CtOk Tryz.prog gdS 75 ct75 :=
  fn_okU (ctxOkF gokGmM0 []) rfl Tryz.func75 (p := ty3) (psh := [none]) (r := ty93) (rsh := (Rsh.one (some 3))) (pre := none) (fresh := none) (F := Sp.F75) (L := noL) (c := bodyOf Tryz.f75) (dflt := Ty.dflt ty93) rfl (no_loops)
    (fun x fx _ => triv_of (by kernel_rfl)) (fun x => by kernel_rfl)
def ct76 : Ct := { p := ty3, psh := [none], r := ty93, rsh := (Rsh.one (some 3)), pre := none, fresh := none, F := Sp.F76 }
theorem ok76 : CtOk Tryz.prog gdS 76 ct76 :=
  fn_okU (ctxOkF gokGmM0 []) rfl Tryz.func76 (p := ty3) (psh := [none]) (r := ty93) (rsh := (Rsh.one (some 3))) (pre := none) (fresh := none) (F := Sp.F76) (L := noL) (c := bodyOf Tryz.f76) (dflt := Ty.dflt ty93) rfl (no_loops)
    (fun x fx _ => triv_of (by kernel_rfl)) (fun x => by kernel_rfl)
def GmC0 : List (Nat × Ct) := (61, ct61) :: (105, ct105) :: (112, ct112) :: (101, ct101) :: (109, ct109) :: (110, ct110) :: (111, ct111) :: (70, ct70) :: (72, ct72) :: (99, ct99) :: (95, ct95) :: (96, ct96) :: (97, ct97) :: (98, ct98) :: (75, ct75) :: (76, ct76) :: GmM0
theorem gokGmC0 : GOk GmC0 := gok_cons ok61 ⟨_, Tryz.func61, by kernel_rfl, by kernel_rfl⟩ (gok_cons ok105 ⟨_, Tryz.func105, by kernel_rfl, by kernel_rfl⟩ (gok_cons ok112 ⟨_, Tryz.func112, by kernel_rfl, by kernel_rfl⟩ (gok_cons ok101 ⟨_, Tryz.func101, by kernel_rfl, by kernel_rfl⟩ (gok_cons ok109 ⟨_, Tryz.func109, by kernel_rfl, by kernel_rfl⟩ (gok_cons ok110 ⟨_, Tryz.func110, by kernel_rfl, by kernel_rfl⟩ (gok_cons ok111 ⟨_, Tryz.func111, by kernel_rfl, by kernel_rfl⟩ (gok_cons ok70 ⟨_, Tryz.func70, by kernel_rfl, by kernel_rfl⟩ (gok_cons ok72 ⟨_, Tryz.func72, by kernel_rfl, by kernel_rfl⟩ (gok_cons ok99 ⟨_, Tryz.func99, by kernel_rfl, by kernel_rfl⟩ (gok_cons ok95 ⟨_, Tryz.func95, by kernel_rfl, by kernel_rfl⟩ (gok_cons ok96 ⟨_, Tryz.func96, by kernel_rfl, by kernel_rfl⟩ (gok_cons ok97 ⟨_, Tryz.func97, by kernel_rfl, by kernel_rfl⟩ (gok_cons ok98 ⟨_, Tryz.func98, by kernel_rfl, by kernel_rfl⟩ (gok_cons ok75 ⟨_, Tryz.func75, by kernel_rfl, by kernel_rfl⟩ (gok_cons ok76 ⟨_, Tryz.func76, by kernel_rfl, by kernel_rfl⟩ (gokGmM0))))))))))))))))
end Go.Proofs.YtngbcgnihbjfnaaGreatDoor.Sy
end

section
/- Contracts of functions, by the evaluator (own program gen.py): collective.proper, calls.Has, <collective.here>.resting, <collective.here>.falling, overlayref11.counted, overlayref11.sweeping, overlayref11.turning. -/
set_option linter.unusedVariables false
set_option linter.unusedSimpArgs false
set_option maxRecDepth 100000
namespace Go.Proofs.YtngbcgnihbjfnaaGreatDoor.Sp
open Go Go.RowKit Sy
def F90 (x : Int × (Int × Int) × Int) : Bool :=
  (((((decide (x.1 ≥ (2 : Int))) && (decide (x.1 ≤ (32 : Int)))) && (decide (x.2.2 ≥ (0 : Int)))) && (decide (x.2.2 < x.1))) && (Sp.F61 x.2.1))
def F106 (x : (Int × Int) × Int × Int) : Bool :=
  (!(((Sp.F105 (x.1, (Sp.F112 x.2))).1 == (0 : Int)) && ((Sp.F105 (x.1, (Sp.F112 x.2))).2 == (0 : Int))))
def F102 (x : Bool × Bool × Bool × Int × Int × Int) : Int × Int × Int :=
  bif x.2.1 then
    (Sp.F110 (1 : Int))
  else
    bif x.2.2.1 then
      (Sp.F110 (2 : Int))
    else
      bif x.1 then
        (Sp.F110 (Sp.F109 x))
      else
        bif ((Sp.F109 x) == (1 : Int)) then
          ((1 : Int), (Sp.F109 x), (0 : Int))
        else
          bif ((Sp.F109 x) == (2 : Int)) then
            ((2 : Int), (Sp.F109 x), (0 : Int))
          else
            ((0 : Int), (0 : Int), (0 : Int))
def F104 (x : Bool × Bool × Bool × Int × Int × Int) : Int × Int × Int :=
  bif (x.1 || x.2.2.1) then
    (Sp.F110 (Sp.F111 ((2 : Int), x.2.2.1, x.2.2.2.2.1, (1 : Int), x.2.1, x.2.2.2.1)))
  else
    bif (decide (x.2.2.2.2.1 > (0 : Int))) then
      ((2 : Int), (2 : Int), (0 : Int))
    else
      bif x.2.1 then
        (Sp.F110 (1 : Int))
      else
        bif (decide (x.2.2.2.1 > (0 : Int))) then
          ((1 : Int), (1 : Int), (0 : Int))
        else
          ((0 : Int), (0 : Int), (0 : Int))
def F77 (x : (Int × Int) × Int × Int × Int × Int) : Int :=
  bif (((Sp.F99 x).1 == x.2.2.1) && (((Sp.F99 x).2.1 == x.2.2.2.1) && ((Sp.F99 x).2.2 == x.2.2.2.2))) then
    (0 : Int)
  else
    x.1.2
def F73 (x : Int × Int × Bool × Bool × Bool × Bool × Bool) : (Int × Int × Int) × Bool :=
  bif ((x.2.2.1 || x.2.2.2.1) && (x.2.2.2.1 || x.2.2.2.2.2.1)) then
    ((Sp.F75 x.1), true)
  else
    bif (x.2.2.1 && (x.2.2.2.2.1 || x.2.2.2.2.2.2)) then
      ((Sp.F75 x.2.1), true)
    else
      bif x.2.2.1 then
        ((Sp.F75 (0 : Int)), true)
      else
        bif x.2.2.2.2.2.1 then
          ((Sp.F76 x.1), true)
        else
          (((0 : Int), (0 : Int), (0 : Int)), false)
def F74 (x : Int × Bool × Bool) : Int × Int × Int :=
  bif x.2.1 then
    (Sp.F75 x.1)
  else
    bif x.2.2 then
      (Sp.F76 x.1)
    else
      ((0 : Int), (0 : Int), (0 : Int))
end Go.Proofs.YtngbcgnihbjfnaaGreatDoor.Sp
namespace Go.Proofs.YtngbcgnihbjfnaaGreatDoor.Sy
open Go Go.RowKit Sp
def ct90 : Ct := { p := (Ty.pair ty3 (Ty.pair ty30 ty3)), psh := [none, some 2, none], r := ty4, rsh := (Rsh.one (none)), pre := none, fresh := none, F := Sp.F90 }
theorem ok90 : CtOk Tryz.prog gdS 90 ct90 :=
  fn_okU (ctxOkF gokGmC0 []) rfl Tryz.func90 (p := (Ty.pair ty3 (Ty.pair ty30 ty3))) (psh := [none, some 2, none]) (r := ty4) (rsh := (Rsh.one (none))) (pre := none) (fresh := none) (F := Sp.F90) (L := noL) (c := bodyOf Tryz.f90) (dflt := Ty.dflt ty4) rfl (no_loops)
    (fun x fx _ => triv_of (by kernel_rfl)) (fun x => by kernel_rfl)
def ct106 : Ct := { p := (Ty.pair ty44 (Ty.pair ty3 ty3)), psh := [some 2, none, none], r := ty4, rsh := (Rsh.one (none)), pre := none, fresh := none, F := Sp.F106 }
theorem ok106 : CtOk Tryz.prog gdS 106 ct106 :=
  fn_okU (ctxOkF gokGmC0 []) rfl Tryz.func106 (p := (Ty.pair ty44 (Ty.pair ty3 ty3))) (psh := [some 2, none, none]) (r := ty4) (rsh := (Rsh.one (none))) (pre := none) (fresh := none) (F := Sp.F106) (L := noL) (c := bodyOf Tryz.f106) (dflt := Ty.dflt ty4) rfl (no_loops)
    (fun x fx _ => triv_of (by kernel_rfl)) (fun x => by kernel_rfl)
def ct102 : Ct := { p := ty134, psh := [some 6], r := ty93, rsh := (Rsh.one (some 3)), pre := none, fresh := none, F := Sp.F102 }
theorem ok102 : CtOk Tryz.prog gdS 102 ct102 :=
  fn_okU (ctxOkF gokGmC0 []) rfl Tryz.func102 (p := ty134) (psh := [some 6]) (r := ty93) (rsh := (Rsh.one (some 3))) (pre := none) (fresh := none) (F := Sp.F102) (L := noL) (c := bodyOf Tryz.f102) (dflt := Ty.dflt ty93) rfl (no_loops)
    (fun x fx _ => triv_of (by kernel_rfl)) (fun x => by kernel_rfl)
def ct104 : Ct := { p := ty134, psh := [some 6], r := ty93, rsh := (Rsh.one (some 3)), pre := none, fresh := none, F := Sp.F104 }
theorem ok104 : CtOk Tryz.prog gdS 104 ct104 :=
  fn_okU (ctxOkF gokGmC0 []) rfl Tryz.func104 (p := ty134) (psh := [some 6]) (r := ty93) (rsh := (Rsh.one (some 3))) (pre := none) (fresh := none) (F := Sp.F104) (L := noL) (c := bodyOf Tryz.f104) (dflt := Ty.dflt ty93) rfl (no_loops)
    (fun x fx _ => triv_of (by kernel_rfl)) (fun x => by kernel_rfl)
def ct77 : Ct := { p := (Ty.pair ty30 (Ty.pair ty3 ty91)), psh := [some 2, none, some 3], r := ty3, rsh := (Rsh.one (none)), pre := none, fresh := none, F := Sp.F77 }
theorem ok77 : CtOk Tryz.prog gdS 77 ct77 :=
  fn_okU (ctxOkF gokGmC0 []) rfl Tryz.func77 (p := (Ty.pair ty30 (Ty.pair ty3 ty91))) (psh := [some 2, none, some 3]) (r := ty3) (rsh := (Rsh.one (none))) (pre := none) (fresh := none) (F := Sp.F77) (L := noL) (c := bodyOf Tryz.f77) (dflt := Ty.dflt ty3) rfl (no_loops)
    (fun x fx _ => triv_of (by kernel_rfl)) (fun x => by kernel_rfl)
def ct73 : Ct := { p := (Ty.pair ty3 (Ty.pair ty3 (Ty.pair ty4 (Ty.pair ty4 (Ty.pair ty4 (Ty.pair ty4 ty4)))))), psh := [none, none, none, none, none, none, none], r := (Ty.pair ty93 ty4), rsh := (Rsh.tup [some 3, none]), pre := none, fresh := none, F := Sp.F73 }
theorem ok73 : CtOk Tryz.prog gdS 73 ct73 :=
  fn_okU (ctxOkF gokGmC0 []) rfl Tryz.func73 (p := (Ty.pair ty3 (Ty.pair ty3 (Ty.pair ty4 (Ty.pair ty4 (Ty.pair ty4 (Ty.pair ty4 ty4))))))) (psh := [none, none, none, none, none, none, none]) (r := (Ty.pair ty93 ty4)) (rsh := (Rsh.tup [some 3, none])) (pre := none) (fresh := none) (F := Sp.F73) (L := noL) (c := bodyOf Tryz.f73) (dflt := Ty.dflt (Ty.pair ty93 ty4)) rfl (no_loops)
    (fun x fx _ => triv_of (by kernel_rfl)) (fun x => by kernel_rfl)
def ct74 : Ct := { p := (Ty.pair ty3 (Ty.pair ty4 ty4)), psh := [none, none, none], r := ty93, rsh := (Rsh.one (some 3)), pre := none, fresh := none, F := Sp.F74 }
theorem ok74 : CtOk Tryz.prog gdS 74 ct74 :=
  fn_okU (ctxOkF gokGmC0 []) rfl Tryz.func74 (p := (Ty.pair ty3 (Ty.pair ty4 ty4))) (psh := [none, none, none]) (r := ty93) (rsh := (Rsh.one (some 3))) (pre := none) (fresh := none) (F := Sp.F74) (L := noL) (c := bodyOf Tryz.f74) (dflt := Ty.dflt ty93) rfl (no_loops)
    (fun x fx _ => triv_of (by kernel_rfl)) (fun x => by kernel_rfl)
def GmC1 : List (Nat × Ct) := (90, ct90) :: (106, ct106) :: (102, ct102) :: (104, ct104) :: (77, ct77) :: (73, ct73) :: (74, ct74) :: GmC0
theorem gokGmC1 : GOk GmC1 := gok_cons ok90 ⟨_, Tryz.func90, by kernel_rfl, by kernel_rfl⟩ (gok_cons ok106 ⟨_, Tryz.func106, by kernel_rfl, by kernel_rfl⟩ (gok_cons ok102 ⟨_, Tryz.func102, by kernel_rfl, by kernel_rfl⟩ (gok_cons ok104 ⟨_, Tryz.func104, by kernel_rfl, by kernel_rfl⟩ (gok_cons ok77 ⟨_, Tryz.func77, by kernel_rfl, by kernel_rfl⟩ (gok_cons ok73 ⟨_, Tryz.func73, by kernel_rfl, by kernel_rfl⟩ (gok_cons ok74 ⟨_, Tryz.func74, by kernel_rfl, by kernel_rfl⟩ (gokGmC0)))))))
end Go.Proofs.YtngbcgnihbjfnaaGreatDoor.Sy
end

section
/- Contracts of functions, by the evaluator (own program gen.py): collective.look, <collective.here>.rising, overlayref11.Spent. -/
set_option linter.unusedVariables false
set_option linter.unusedSimpArgs false
set_option maxRecDepth 100000
namespace Go.Proofs.YtngbcgnihbjfnaaGreatDoor.Sp
open Go Go.RowKit Sy
def K100_1 (x : Int × (Int × Int) × Int × Int × Int × Int) :=
  (Sp.F105 (x.2.2.2.2, (Int.fdiv (IntKind.u32.wrap ((IntKind.u32.wrap ((1 : Int) * 2 ^ (min (x.1).toNat IntKind.u32.bits))) - (1 : Int))) (2 ^ (min ((1 : Int)).toNat IntKind.u32.bits))), (IntKind.u32.wrap ((BitVec.ofInt IntKind.u32.bits (IntKind.u32.wrap ((IntKind.u32.wrap ((1 : Int) * 2 ^ (min (x.1).toNat IntKind.u32.bits))) - (1 : Int))) &&& ~~~ BitVec.ofInt IntKind.u32.bits (1 : Int)).toNat : Int))))
def K100_2 (x : Int × (Int × Int) × Int × Int × Int × Int) :=
  (Sp.F107 (Int.fdiv (Int.fdiv (IntKind.u32.wrap ((BitVec.ofInt IntKind.u32.bits (IntKind.u32.wrap ((BitVec.ofInt IntKind.u32.bits (IntKind.u32.wrap ((BitVec.ofInt IntKind.u32.bits x.2.2.2.1 &&& BitVec.ofInt IntKind.u32.bits (IntKind.u32.wrap ((IntKind.u32.wrap ((1 : Int) * 2 ^ (min (x.1).toNat IntKind.u32.bits))) - (1 : Int)))).toNat : Int)) ||| BitVec.ofInt IntKind.u32.bits ((Sp.K100_1 x).1)).toNat : Int)) ||| BitVec.ofInt IntKind.u32.bits ((Sp.K100_1 x).2)).toNat : Int)) (2 ^ (min (x.2.2.1).toNat IntKind.u32.bits))) (2 ^ (min ((1 : Int)).toNat IntKind.u32.bits))))
def K100_3 (x : Int × (Int × Int) × Int × Int × Int × Int) :=
  (Sp.F108 (IntKind.u32.wrap ((BitVec.ofInt IntKind.u32.bits (IntKind.u32.wrap ((BitVec.ofInt IntKind.u32.bits (IntKind.u32.wrap ((BitVec.ofInt IntKind.u32.bits (IntKind.u32.wrap ((BitVec.ofInt IntKind.u32.bits x.2.2.2.1 &&& BitVec.ofInt IntKind.u32.bits (IntKind.u32.wrap ((IntKind.u32.wrap ((1 : Int) * 2 ^ (min (x.1).toNat IntKind.u32.bits))) - (1 : Int)))).toNat : Int)) ||| BitVec.ofInt IntKind.u32.bits ((Sp.K100_1 x).1)).toNat : Int)) ||| BitVec.ofInt IntKind.u32.bits ((Sp.K100_1 x).2)).toNat : Int)) &&& BitVec.ofInt IntKind.u32.bits (IntKind.u32.wrap ((IntKind.u32.wrap ((1 : Int) * 2 ^ (min (x.2.2.1).toNat IntKind.u32.bits))) - (1 : Int)))).toNat : Int)))
def F100 (x : Int × (Int × Int) × Int × Int × Int × Int) : Bool × Bool × Bool × Int × Int × Int :=
  bif ((Int.fdiv (Int.fdiv (IntKind.u32.wrap ((BitVec.ofInt IntKind.u32.bits (IntKind.u32.wrap ((BitVec.ofInt IntKind.u32.bits (IntKind.u32.wrap ((BitVec.ofInt IntKind.u32.bits x.2.2.2.1 &&& BitVec.ofInt IntKind.u32.bits (IntKind.u32.wrap ((IntKind.u32.wrap ((1 : Int) * 2 ^ (min (x.1).toNat IntKind.u32.bits))) - (1 : Int)))).toNat : Int)) ||| BitVec.ofInt IntKind.u32.bits ((Sp.K100_1 x).1)).toNat : Int)) ||| BitVec.ofInt IntKind.u32.bits ((Sp.K100_1 x).2)).toNat : Int)) (2 ^ (min (x.2.2.1).toNat IntKind.u32.bits))) (2 ^ (min ((1 : Int)).toNat IntKind.u32.bits))) != (0 : Int)) then
    (bif ((IntKind.u32.wrap ((BitVec.ofInt IntKind.u32.bits (IntKind.u32.wrap ((BitVec.ofInt IntKind.u32.bits (IntKind.u32.wrap ((BitVec.ofInt IntKind.u32.bits (IntKind.u32.wrap ((BitVec.ofInt IntKind.u32.bits x.2.2.2.1 &&& BitVec.ofInt IntKind.u32.bits (IntKind.u32.wrap ((IntKind.u32.wrap ((1 : Int) * 2 ^ (min (x.1).toNat IntKind.u32.bits))) - (1 : Int)))).toNat : Int)) ||| BitVec.ofInt IntKind.u32.bits ((Sp.K100_1 x).1)).toNat : Int)) ||| BitVec.ofInt IntKind.u32.bits ((Sp.K100_1 x).2)).toNat : Int)) &&& BitVec.ofInt IntKind.u32.bits (IntKind.u32.wrap ((IntKind.u32.wrap ((1 : Int) * 2 ^ (min (x.2.2.1).toNat IntKind.u32.bits))) - (1 : Int)))).toNat : Int)) != (0 : Int)) then
      (((IntKind.u32.wrap ((BitVec.ofInt IntKind.u32.bits (Int.fdiv x.2.2.2.1 (2 ^ (min (x.2.2.1).toNat IntKind.u32.bits))) &&& BitVec.ofInt IntKind.u32.bits (1 : Int)).toNat : Int)) == (1 : Int)), (Sp.F106 ((Sp.K100_1 x), x.2.2.1, (1 : Int))), (Sp.F106 ((Sp.K100_1 x), x.2.2.1, (2 : Int))), (IntKind.i64.wrap ((1 : Int) + (Sp.K100_2 x))), (IntKind.i64.wrap ((IntKind.i64.wrap (x.2.2.1 - (Sp.K100_3 x))) + (1 : Int))), x.2.1.2)
    else
      (((IntKind.u32.wrap ((BitVec.ofInt IntKind.u32.bits (Int.fdiv x.2.2.2.1 (2 ^ (min (x.2.2.1).toNat IntKind.u32.bits))) &&& BitVec.ofInt IntKind.u32.bits (1 : Int)).toNat : Int)) == (1 : Int)), (Sp.F106 ((Sp.K100_1 x), x.2.2.1, (1 : Int))), (Sp.F106 ((Sp.K100_1 x), x.2.2.1, (2 : Int))), (IntKind.i64.wrap ((1 : Int) + (Sp.K100_2 x))), (0 : Int), x.2.1.2))
  else
    bif ((IntKind.u32.wrap ((BitVec.ofInt IntKind.u32.bits (IntKind.u32.wrap ((BitVec.ofInt IntKind.u32.bits (IntKind.u32.wrap ((BitVec.ofInt IntKind.u32.bits (IntKind.u32.wrap ((BitVec.ofInt IntKind.u32.bits x.2.2.2.1 &&& BitVec.ofInt IntKind.u32.bits (IntKind.u32.wrap ((IntKind.u32.wrap ((1 : Int) * 2 ^ (min (x.1).toNat IntKind.u32.bits))) - (1 : Int)))).toNat : Int)) ||| BitVec.ofInt IntKind.u32.bits ((Sp.K100_1 x).1)).toNat : Int)) ||| BitVec.ofInt IntKind.u32.bits ((Sp.K100_1 x).2)).toNat : Int)) &&& BitVec.ofInt IntKind.u32.bits (IntKind.u32.wrap ((IntKind.u32.wrap ((1 : Int) * 2 ^ (min (x.2.2.1).toNat IntKind.u32.bits))) - (1 : Int)))).toNat : Int)) != (0 : Int)) then
      (((IntKind.u32.wrap ((BitVec.ofInt IntKind.u32.bits (Int.fdiv x.2.2.2.1 (2 ^ (min (x.2.2.1).toNat IntKind.u32.bits))) &&& BitVec.ofInt IntKind.u32.bits (1 : Int)).toNat : Int)) == (1 : Int)), (Sp.F106 ((Sp.K100_1 x), x.2.2.1, (1 : Int))), (Sp.F106 ((Sp.K100_1 x), x.2.2.1, (2 : Int))), (0 : Int), (IntKind.i64.wrap ((IntKind.i64.wrap (x.2.2.1 - (Sp.K100_3 x))) + (1 : Int))), x.2.1.2)
    else
      (((IntKind.u32.wrap ((BitVec.ofInt IntKind.u32.bits (Int.fdiv x.2.2.2.1 (2 ^ (min (x.2.2.1).toNat IntKind.u32.bits))) &&& BitVec.ofInt IntKind.u32.bits (1 : Int)).toNat : Int)) == (1 : Int)), (Sp.F106 ((Sp.K100_1 x), x.2.2.1, (1 : Int))), (Sp.F106 ((Sp.K100_1 x), x.2.2.1, (2 : Int))), (0 : Int), (0 : Int), x.2.1.2)
def pre100 (x : Int × (Int × Int) × Int × Int × Int × Int) : Prop := 0 ≤ x.1 ∧ 0 ≤ x.2.2.1
def F103 (x : Bool × Bool × Bool × Int × Int × Int) : Int × Int × Int :=
  bif (x.1 || x.2.1) then
    (Sp.F110 (Sp.F111 ((1 : Int), x.2.1, x.2.2.2.1, (2 : Int), x.2.2.1, x.2.2.2.2.1)))
  else
    bif (decide (x.2.2.2.1 > (0 : Int))) then
      ((1 : Int), (1 : Int), (0 : Int))
    else
      (Sp.F104 x)
def F94 (x : Int × (Int × Int) × Int × Int × Int × Int) : Int × Int × Int :=
  bif (((((decide (x.1 < (2 : Int))) || (decide (x.1 > (32 : Int)))) || (decide (x.2.2.1 < (0 : Int)))) || (decide (x.2.2.1 ≥ x.1))) || (!(Sp.F70 x.2.1))) then
    ((0 : Int), (0 : Int), (0 : Int))
  else
    (Sp.F99 ((x.2.1.1, (Sp.F77 (x.2.1, x.2.2.1, (Sp.F72 (x.1, x.2.2.2))))), x.2.2.1, (Sp.F72 (x.1, x.2.2.2))))
end Go.Proofs.YtngbcgnihbjfnaaGreatDoor.Sp
namespace Go.Proofs.YtngbcgnihbjfnaaGreatDoor.Sy
open Go Go.RowKit Sp
def ct100 : Ct := { p := (Ty.pair ty3 (Ty.pair ty30 (Ty.pair ty3 ty91))), psh := [none, some 2, none, some 3], r := ty134, rsh := (Rsh.one (some 6)), pre := some Sp.pre100, fresh := none, F := Sp.F100 }
theorem ok100 : CtOk Tryz.prog gdS 100 ct100 :=
  fn_okU (ctxOkF gokGmC1 []) rfl Tryz.func100 (p := (Ty.pair ty3 (Ty.pair ty30 (Ty.pair ty3 ty91)))) (psh := [none, some 2, none, some 3]) (r := ty134) (rsh := (Rsh.one (some 6))) (pre := some Sp.pre100) (fresh := none) (F := Sp.F100) (L := noL) (c := bodyOf Tryz.f100) (dflt := Ty.dflt ty134) rfl (no_loops)
    (fun x fx hq => have h := hq _ rfl; safe_of (S := (((0 ≤ x.1) ∧ ((0 ≤ (1 : Int)) ∧ ((0 ≤ x.2.2.1) ∧ ((0 ≤ x.2.2.1) ∧ ((0 ≤ (1 : Int)) ∧ ((((Int.fdiv (Int.fdiv (IntKind.u32.wrap ((BitVec.ofInt IntKind.u32.bits (IntKind.u32.wrap ((BitVec.ofInt IntKind.u32.bits (IntKind.u32.wrap ((BitVec.ofInt IntKind.u32.bits x.2.2.2.1 &&& BitVec.ofInt IntKind.u32.bits (IntKind.u32.wrap ((IntKind.u32.wrap ((1 : Int) * 2 ^ (min (x.1).toNat IntKind.u32.bits))) - (1 : Int)))).toNat : Int)) ||| BitVec.ofInt IntKind.u32.bits ((Sp.K100_1 x).1)).toNat : Int)) ||| BitVec.ofInt IntKind.u32.bits ((Sp.K100_1 x).2)).toNat : Int)) (2 ^ (min (x.2.2.1).toNat IntKind.u32.bits))) (2 ^ (min ((1 : Int)).toNat IntKind.u32.bits))) != (0 : Int)) = true → ((Sp.pre107 (Int.fdiv (Int.fdiv (IntKind.u32.wrap ((BitVec.ofInt IntKind.u32.bits (IntKind.u32.wrap ((BitVec.ofInt IntKind.u32.bits (IntKind.u32.wrap ((BitVec.ofInt IntKind.u32.bits x.2.2.2.1 &&& BitVec.ofInt IntKind.u32.bits (IntKind.u32.wrap ((IntKind.u32.wrap ((1 : Int) * 2 ^ (min (x.1).toNat IntKind.u32.bits))) - (1 : Int)))).toNat : Int)) ||| BitVec.ofInt IntKind.u32.bits ((Sp.K100_1 x).1)).toNat : Int)) ||| BitVec.ofInt IntKind.u32.bits ((Sp.K100_1 x).2)).toNat : Int)) (2 ^ (min (x.2.2.1).toNat IntKind.u32.bits))) (2 ^ (min ((1 : Int)).toNat IntKind.u32.bits)))) ∧ ((0 ≤ x.2.2.1) ∧ ((((IntKind.u32.wrap ((BitVec.ofInt IntKind.u32.bits (IntKind.u32.wrap ((BitVec.ofInt IntKind.u32.bits (IntKind.u32.wrap ((BitVec.ofInt IntKind.u32.bits (IntKind.u32.wrap ((BitVec.ofInt IntKind.u32.bits x.2.2.2.1 &&& BitVec.ofInt IntKind.u32.bits (IntKind.u32.wrap ((IntKind.u32.wrap ((1 : Int) * 2 ^ (min (x.1).toNat IntKind.u32.bits))) - (1 : Int)))).toNat : Int)) ||| BitVec.ofInt IntKind.u32.bits ((Sp.K100_1 x).1)).toNat : Int)) ||| BitVec.ofInt IntKind.u32.bits ((Sp.K100_1 x).2)).toNat : Int)) &&& BitVec.ofInt IntKind.u32.bits (IntKind.u32.wrap ((IntKind.u32.wrap ((1 : Int) * 2 ^ (min (x.2.2.1).toNat IntKind.u32.bits))) - (1 : Int)))).toNat : Int)) != (0 : Int)) = true → ((Sp.pre108 (IntKind.u32.wrap ((BitVec.ofInt IntKind.u32.bits (IntKind.u32.wrap ((BitVec.ofInt IntKind.u32.bits (IntKind.u32.wrap ((BitVec.ofInt IntKind.u32.bits (IntKind.u32.wrap ((BitVec.ofInt IntKind.u32.bits x.2.2.2.1 &&& BitVec.ofInt IntKind.u32.bits (IntKind.u32.wrap ((IntKind.u32.wrap ((1 : Int) * 2 ^ (min (x.1).toNat IntKind.u32.bits))) - (1 : Int)))).toNat : Int)) ||| BitVec.ofInt IntKind.u32.bits ((Sp.K100_1 x).1)).toNat : Int)) ||| BitVec.ofInt IntKind.u32.bits ((Sp.K100_1 x).2)).toNat : Int)) &&& BitVec.ofInt IntKind.u32.bits (IntKind.u32.wrap ((IntKind.u32.wrap ((1 : Int) * 2 ^ (min (x.2.2.1).toNat IntKind.u32.bits))) - (1 : Int)))).toNat : Int))) ∧ True)) ∧ (((IntKind.u32.wrap ((BitVec.ofInt IntKind.u32.bits (IntKind.u32.wrap ((BitVec.ofInt IntKind.u32.bits (IntKind.u32.wrap ((BitVec.ofInt IntKind.u32.bits (IntKind.u32.wrap ((BitVec.ofInt IntKind.u32.bits x.2.2.2.1 &&& BitVec.ofInt IntKind.u32.bits (IntKind.u32.wrap ((IntKind.u32.wrap ((1 : Int) * 2 ^ (min (x.1).toNat IntKind.u32.bits))) - (1 : Int)))).toNat : Int)) ||| BitVec.ofInt IntKind.u32.bits ((Sp.K100_1 x).1)).toNat : Int)) ||| BitVec.ofInt IntKind.u32.bits ((Sp.K100_1 x).2)).toNat : Int)) &&& BitVec.ofInt IntKind.u32.bits (IntKind.u32.wrap ((IntKind.u32.wrap ((1 : Int) * 2 ^ (min (x.2.2.1).toNat IntKind.u32.bits))) - (1 : Int)))).toNat : Int)) != (0 : Int)) = false → True))))) ∧ (((Int.fdiv (Int.fdiv (IntKind.u32.wrap ((BitVec.ofInt IntKind.u32.bits (IntKind.u32.wrap ((BitVec.ofInt IntKind.u32.bits (IntKind.u32.wrap ((BitVec.ofInt IntKind.u32.bits x.2.2.2.1 &&& BitVec.ofInt IntKind.u32.bits (IntKind.u32.wrap ((IntKind.u32.wrap ((1 : Int) * 2 ^ (min (x.1).toNat IntKind.u32.bits))) - (1 : Int)))).toNat : Int)) ||| BitVec.ofInt IntKind.u32.bits ((Sp.K100_1 x).1)).toNat : Int)) ||| BitVec.ofInt IntKind.u32.bits ((Sp.K100_1 x).2)).toNat : Int)) (2 ^ (min (x.2.2.1).toNat IntKind.u32.bits))) (2 ^ (min ((1 : Int)).toNat IntKind.u32.bits))) != (0 : Int)) = false → ((0 ≤ x.2.2.1) ∧ ((((IntKind.u32.wrap ((BitVec.ofInt IntKind.u32.bits (IntKind.u32.wrap ((BitVec.ofInt IntKind.u32.bits (IntKind.u32.wrap ((BitVec.ofInt IntKind.u32.bits (IntKind.u32.wrap ((BitVec.ofInt IntKind.u32.bits x.2.2.2.1 &&& BitVec.ofInt IntKind.u32.bits (IntKind.u32.wrap ((IntKind.u32.wrap ((1 : Int) * 2 ^ (min (x.1).toNat IntKind.u32.bits))) - (1 : Int)))).toNat : Int)) ||| BitVec.ofInt IntKind.u32.bits ((Sp.K100_1 x).1)).toNat : Int)) ||| BitVec.ofInt IntKind.u32.bits ((Sp.K100_1 x).2)).toNat : Int)) &&& BitVec.ofInt IntKind.u32.bits (IntKind.u32.wrap ((IntKind.u32.wrap ((1 : Int) * 2 ^ (min (x.2.2.1).toNat IntKind.u32.bits))) - (1 : Int)))).toNat : Int)) != (0 : Int)) = true → ((Sp.pre108 (IntKind.u32.wrap ((BitVec.ofInt IntKind.u32.bits (IntKind.u32.wrap ((BitVec.ofInt IntKind.u32.bits (IntKind.u32.wrap ((BitVec.ofInt IntKind.u32.bits (IntKind.u32.wrap ((BitVec.ofInt IntKind.u32.bits x.2.2.2.1 &&& BitVec.ofInt IntKind.u32.bits (IntKind.u32.wrap ((IntKind.u32.wrap ((1 : Int) * 2 ^ (min (x.1).toNat IntKind.u32.bits))) - (1 : Int)))).toNat : Int)) ||| BitVec.ofInt IntKind.u32.bits ((Sp.K100_1 x).1)).toNat : Int)) ||| BitVec.ofInt IntKind.u32.bits ((Sp.K100_1 x).2)).toNat : Int)) &&& BitVec.ofInt IntKind.u32.bits (IntKind.u32.wrap ((IntKind.u32.wrap ((1 : Int) * 2 ^ (min (x.2.2.1).toNat IntKind.u32.bits))) - (1 : Int)))).toNat : Int))) ∧ True)) ∧ (((IntKind.u32.wrap ((BitVec.ofInt IntKind.u32.bits (IntKind.u32.wrap ((BitVec.ofInt IntKind.u32.bits (IntKind.u32.wrap ((BitVec.ofInt IntKind.u32.bits (IntKind.u32.wrap ((BitVec.ofInt IntKind.u32.bits x.2.2.2.1 &&& BitVec.ofInt IntKind.u32.bits (IntKind.u32.wrap ((IntKind.u32.wrap ((1 : Int) * 2 ^ (min (x.1).toNat IntKind.u32.bits))) - (1 : Int)))).toNat : Int)) ||| BitVec.ofInt IntKind.u32.bits ((Sp.K100_1 x).1)).toNat : Int)) ||| BitVec.ofInt IntKind.u32.bits ((Sp.K100_1 x).2)).toNat : Int)) &&& BitVec.ofInt IntKind.u32.bits (IntKind.u32.wrap ((IntKind.u32.wrap ((1 : Int) * 2 ^ (min (x.2.2.1).toNat IntKind.u32.bits))) - (1 : Int)))).toNat : Int)) != (0 : Int)) = false → True)))))))))))) (by kernel_rfl) (by
  try dsimp only [Ty.den] at *
  simp only [Sp.pre100, Sp.pre107, Sp.pre108] at *
  repeat' (first | exact trivial | apply And.intro | intro _)
  all_goals first | omega | exact Sp.W.lo (Sp.W_wrap _) | exact Sp.W.hi (Sp.W_wrap _) | exact Sp.W.lo (Sp.W_shr (Sp.W_shr (Sp.W_wrap _) _ (by omega)) _ (by omega)) | exact Sp.W.hi (Sp.W_shr (Sp.W_shr (Sp.W_wrap _) _ (by omega)) _ (by omega)))) (fun x => by kernel_rfl)
def ct103 : Ct := { p := ty134, psh := [some 6], r := ty93, rsh := (Rsh.one (some 3)), pre := none, fresh := none, F := Sp.F103 }
theorem ok103 : CtOk Tryz.prog gdS 103 ct103 :=
  fn_okU (ctxOkF gokGmC1 []) rfl Tryz.func103 (p := ty134) (psh := [some 6]) (r := ty93) (rsh := (Rsh.one (some 3))) (pre := none) (fresh := none) (F := Sp.F103) (L := noL) (c := bodyOf Tryz.f103) (dflt := Ty.dflt ty93) rfl (no_loops)
    (fun x fx _ => triv_of (by kernel_rfl)) (fun x => by kernel_rfl)
def ct94 : Ct := { p := (Ty.pair ty3 (Ty.pair ty30 (Ty.pair ty3 ty91))), psh := [none, some 2, none, some 3], r := ty91, rsh := (Rsh.one (some 3)), pre := none, fresh := none, F := Sp.F94 }
theorem ok94 : CtOk Tryz.prog gdS 94 ct94 :=
  fn_okU (ctxOkF gokGmC1 []) rfl Tryz.func94 (p := (Ty.pair ty3 (Ty.pair ty30 (Ty.pair ty3 ty91)))) (psh := [none, some 2, none, some 3]) (r := ty91) (rsh := (Rsh.one (some 3))) (pre := none) (fresh := none) (F := Sp.F94) (L := noL) (c := bodyOf Tryz.f94) (dflt := Ty.dflt ty91) rfl (no_loops)
    (fun x fx _ => triv_of (by kernel_rfl)) (fun x => by kernel_rfl)
def GmC2 : List (Nat × Ct) := (100, ct100) :: (103, ct103) :: (94, ct94) :: GmC1
theorem gokGmC2 : GOk GmC2 := gok_cons ok100 ⟨_, Tryz.func100, by kernel_rfl, by kernel_rfl⟩ (gok_cons ok103 ⟨_, Tryz.func103, by kernel_rfl, by kernel_rfl⟩ (gok_cons ok94 ⟨_, Tryz.func94, by kernel_rfl, by kernel_rfl⟩ (gokGmC1)))
end Go.Proofs.YtngbcgnihbjfnaaGreatDoor.Sy
end

section
/- Contracts of functions, by the evaluator (own program gen.py): collective.choose, overlayref11.look. -/
set_option linter.unusedVariables false
set_option linter.unusedSimpArgs false
set_option maxRecDepth 100000
namespace Go.Proofs.YtngbcgnihbjfnaaGreatDoor.Sp
open Go Go.RowKit Sy
def Rules (g : Nat) (x : Bool × Bool × Bool × Int × Int × Int) : Int × Int × Int := cnd (Nat.beq g 102) (Sp.F102 x) (cnd (Nat.beq g 103) (Sp.F103 x) (cnd (Nat.beq g 104) (Sp.F104 x) (Ty.dflt ty93)))
def F91 (x : Int × (Int × Int) × Int × Int × Int × Int) : (Int × Int × Int) × Int :=
  ((Sp.Rules (Option.getD (Sp.nthT [(some 102), (some 103), (some 104)] x.2.1.1) 0) ((Sp.F101 (Sp.F100 x)).1)), (Sp.F101 (Sp.F100 x)).1.2.2.2.2.2)
def pre91 (x : Int × (Int × Int) × Int × Int × Int × Int) : Prop := 0 ≤ x.1 ∧ 0 ≤ x.2.2.1 ∧ 0 ≤ x.2.1.1 ∧ x.2.1.1 ≤ 2
def F71 (x : Int × (Int × Int) × Int × Int × Int × Int) : Bool × Bool × Bool × Bool × Bool × Int :=
  bif ((Sp.F97 (x.2.2.2, x.2.2.1)).1 && ((!((Sp.F98 (x.2.2.2, x.2.2.1)).1)) || (decide ((Sp.F98 (x.2.2.2, x.2.2.1)).2 ≥ (Sp.F97 (x.2.2.2, x.2.2.1)).2)))) then
    ((Sp.F96 ((Sp.F95 (x.2.2.2.2, (Sp.F94 x).2)), x.2.2.1, (1 : Int))), (Sp.F96 ((Sp.F95 (x.2.2.2.2, (Sp.F94 x).2)), x.2.2.1, (2 : Int))), ((IntKind.u32.wrap ((BitVec.ofInt IntKind.u32.bits (Int.fdiv (IntKind.u32.wrap ((BitVec.ofInt IntKind.u32.bits x.2.2.2.1 &&& ~~~ BitVec.ofInt IntKind.u32.bits ((Sp.F94 x).1)).toNat : Int)) (2 ^ (min ((IntKind.u64.wrap x.2.2.1)).toNat IntKind.u32.bits))) &&& BitVec.ofInt IntKind.u32.bits (1 : Int)).toNat : Int)) == (1 : Int)), (Sp.F97 (x.2.2.2, x.2.2.1)).1, (Sp.F98 (x.2.2.2, x.2.2.1)).1, (1 : Int))
  else
    bif (Sp.F98 (x.2.2.2, x.2.2.1)).1 then
      ((Sp.F96 ((Sp.F95 (x.2.2.2.2, (Sp.F94 x).2)), x.2.2.1, (1 : Int))), (Sp.F96 ((Sp.F95 (x.2.2.2.2, (Sp.F94 x).2)), x.2.2.1, (2 : Int))), ((IntKind.u32.wrap ((BitVec.ofInt IntKind.u32.bits (Int.fdiv (IntKind.u32.wrap ((BitVec.ofInt IntKind.u32.bits x.2.2.2.1 &&& ~~~ BitVec.ofInt IntKind.u32.bits ((Sp.F94 x).1)).toNat : Int)) (2 ^ (min ((IntKind.u64.wrap x.2.2.1)).toNat IntKind.u32.bits))) &&& BitVec.ofInt IntKind.u32.bits (1 : Int)).toNat : Int)) == (1 : Int)), (Sp.F97 (x.2.2.2, x.2.2.1)).1, (Sp.F98 (x.2.2.2, x.2.2.1)).1, (2 : Int))
    else
      ((Sp.F96 ((Sp.F95 (x.2.2.2.2, (Sp.F94 x).2)), x.2.2.1, (1 : Int))), (Sp.F96 ((Sp.F95 (x.2.2.2.2, (Sp.F94 x).2)), x.2.2.1, (2 : Int))), ((IntKind.u32.wrap ((BitVec.ofInt IntKind.u32.bits (Int.fdiv (IntKind.u32.wrap ((BitVec.ofInt IntKind.u32.bits x.2.2.2.1 &&& ~~~ BitVec.ofInt IntKind.u32.bits ((Sp.F94 x).1)).toNat : Int)) (2 ^ (min ((IntKind.u64.wrap x.2.2.1)).toNat IntKind.u32.bits))) &&& BitVec.ofInt IntKind.u32.bits (1 : Int)).toNat : Int)) == (1 : Int)), (Sp.F97 (x.2.2.2, x.2.2.1)).1, (Sp.F98 (x.2.2.2, x.2.2.1)).1, (0 : Int))
end Go.Proofs.YtngbcgnihbjfnaaGreatDoor.Sp
namespace Go.Proofs.YtngbcgnihbjfnaaGreatDoor.Sy
open Go Go.RowKit Sp
def fvRules : Fv := { p := ty134, psh := [some 6], r := ty93, rsh := (Rsh.one (some 3)), fs := [102, 103, 104], F := Sp.Rules }
theorem fvokRules : FVOk (some fvRules) := fvok_some (fun g hg => by
  simp only [fvRules, List.mem_cons, List.not_mem_nil, or_false] at hg
  rcases hg with rfl | rfl | rfl
  · exact ⟨ok102, _, Tryz.func102, by kernel_rfl, by kernel_rfl⟩
  · exact ⟨ok103, _, Tryz.func103, by kernel_rfl, by kernel_rfl⟩
  · exact ⟨ok104, _, Tryz.func104, by kernel_rfl, by kernel_rfl⟩)
def ct91 : Ct := { p := (Ty.pair ty3 (Ty.pair ty30 (Ty.pair ty3 ty91))), psh := [none, some 2, none, some 3], r := (Ty.pair ty93 ty3), rsh := (Rsh.tup [some 3, none]), pre := some Sp.pre91, fresh := none, F := Sp.F91 }
theorem ok91 : CtOk Tryz.prog gdS 91 ct91 :=
  fn_okU (ctxOkP pgok_nil fvokRules gokGmC2 []) rfl Tryz.func91 (p := (Ty.pair ty3 (Ty.pair ty30 (Ty.pair ty3 ty91)))) (psh := [none, some 2, none, some 3]) (r := (Ty.pair ty93 ty3)) (rsh := (Rsh.tup [some 3, none])) (pre := some Sp.pre91) (fresh := none) (F := Sp.F91) (L := noL) (c := bodyOf Tryz.f91) (dflt := Ty.dflt (Ty.pair ty93 ty3)) rfl (no_loops)
    (fun x fx hq => have h := hq _ rfl; safe_of (S := (((Sp.pre100 x) ∧ ((0 ≤ x.2.1.1 ∧ x.2.1.1 < (3 : Int)) ∧ ((∃ g, (Sp.nthT [(some 102), (some 103), (some 104)] x.2.1.1) = some g ∧ g ∈ [102, 103, 104]) ∧ True))))) (by kernel_rfl) (by
  try dsimp only [Ty.den] at *
  simp only [Sp.pre91, Sp.pre100] at *
  refine ⟨⟨by omega, by omega⟩, ⟨by omega, by omega⟩, Sp.nth3 _ _ _ _ (by omega) (by omega), trivial⟩)) (fun x => by kernel_rfl)
def ct71 : Ct := { p := (Ty.pair ty3 (Ty.pair ty30 (Ty.pair ty3 ty91))), psh := [none, some 2, none, some 3], r := ty107, rsh := (Rsh.one (some 6)), pre := none, fresh := none, F := Sp.F71 }
theorem ok71 : CtOk Tryz.prog gdS 71 ct71 :=
  fn_okU (ctxOkF gokGmC2 []) rfl Tryz.func71 (p := (Ty.pair ty3 (Ty.pair ty30 (Ty.pair ty3 ty91)))) (psh := [none, some 2, none, some 3]) (r := ty107) (rsh := (Rsh.one (some 6))) (pre := none) (fresh := none) (F := Sp.F71) (L := noL) (c := bodyOf Tryz.f71) (dflt := Ty.dflt ty107) rfl (no_loops)
    (fun x fx _ => slim_of (S := ((0 ≤ (IntKind.u64.wrap x.2.2.1)))) (by kernel_rfl) (by
  try dsimp only [Ty.den] at *
  simp only [Fit, maxLen] at fx
  simp only [true_and, IntKind.wrap_i64, IntKind.wrap_u8, IntKind.wrap_u32, IntKind.wrap_u64, Sp.tmod_lit, Sp.tdiv_lit, bne_eq_false_iff_eq, Int.natCast_inj, setE, copyL, sliceL, zrow, List.length_append, List.length_cons, List.length_nil, List.length_set, List.length_replicate, List.length_take, List.length_drop, decide_eq_true_eq, decide_eq_false_iff_not, Bool.or_eq_true, Bool.and_eq_true, Bool.or_eq_false_iff, Bool.and_eq_false_iff, Bool.not_eq_true', Bool.not_eq_false', Bool.not_eq_true, Bool.not_eq_false, beq_iff_eq, beq_eq_false_iff_ne, bne_iff_ne, ne_eq, implies_true, and_true, true_and] at *
  all_goals ((repeat' (first | exact trivial | apply And.intro | intro _)) <;> first | trivial | omega | exact Sp.tmod_nn (by omega) | exact Sp.tmod_lt (by omega) (by omega)))) (fun x => by kernel_rfl)
def GmC3 : List (Nat × Ct) := (91, ct91) :: (71, ct71) :: GmC2
theorem gokGmC3 : GOk GmC3 := gok_cons ok91 ⟨_, Tryz.func91, by kernel_rfl, by kernel_rfl⟩ (gok_cons ok71 ⟨_, Tryz.func71, by kernel_rfl, by kernel_rfl⟩ (gokGmC2))
end Go.Proofs.YtngbcgnihbjfnaaGreatDoor.Sy
end

section
/- What a car shows (own work). -/
namespace Go.Proofs.YtngbcgnihbjfnaaGreatDoor.Sp
open Go Sy
set_option linter.unusedVariables false
set_option linter.unusedSimpArgs false
theorem open_val (d : Int) : F110 d = (3, d, d) := rfl
theorem nearer_bd (h : Bool × Bool × Bool × Int × Int × Int) : 0 ≤ F109 h ∧ F109 h ≤ 2 := by
  unfold F109
  simp only [cond_eq_ite]
  repeat' split
  all_goals omega
theorem shown_bd (x : Int × Bool × Int × Int × Bool × Int) (h1 : 0 ≤ x.1 ∧ x.1 ≤ 2) (h2 : 0 ≤ x.2.2.2.1 ∧ x.2.2.2.1 ≤ 2) : 0 ≤ F111 x ∧ F111 x ≤ 2 := by
  unfold F111
  simp only [cond_eq_ite]
  repeat' split
  all_goals omega
theorem falling_bd (h : Bool × Bool × Bool × Int × Int × Int) : 0 ≤ (F104 h).2.2 ∧ (F104 h).2.2 ≤ 2 := by
  unfold F104
  simp only [cond_eq_ite, open_val]
  repeat' split
  all_goals dsimp only
  all_goals first | (refine shown_bd _ ?_ ?_ <;> (dsimp only; omega)) | omega
theorem rising_bd (h : Bool × Bool × Bool × Int × Int × Int) : 0 ≤ (F103 h).2.2 ∧ (F103 h).2.2 ≤ 2 := by
  unfold F103
  simp only [cond_eq_ite, open_val]
  repeat' split
  all_goals (try dsimp only)
  all_goals first | exact falling_bd _ | (refine shown_bd _ ?_ ?_ <;> (dsimp only; omega)) | omega
theorem resting_bd (h : Bool × Bool × Bool × Int × Int × Int) : 0 ≤ (F102 h).2.2 ∧ (F102 h).2.2 ≤ 2 := by
  unfold F102
  simp only [cond_eq_ite, open_val]
  repeat' split
  all_goals dsimp only
  all_goals first | exact nearer_bd _ | omega
theorem rules0 (h : Bool × Bool × Bool × Int × Int × Int) : Rules (Option.getD (nthT [(some 102), (some 103), (some 104)] 0) 0) h = F102 h := rfl
theorem rules1 (h : Bool × Bool × Bool × Int × Int × Int) : Rules (Option.getD (nthT [(some 102), (some 103), (some 104)] 1) 0) h = F103 h := rfl
theorem rules2 (h : Bool × Bool × Bool × Int × Int × Int) : Rules (Option.getD (nthT [(some 102), (some 103), (some 104)] 2) 0) h = F104 h := rfl
theorem choose_bd (x : Int × (Int × Int) × Int × Int × Int × Int) (h0 : 0 ≤ x.2.1.1) (h2 : x.2.1.1 ≤ 2) : 0 ≤ (F91 x).1.2.2 ∧ (F91 x).1.2.2 ≤ 2 := by
  unfold F91
  have : x.2.1.1 = 0 ∨ x.2.1.1 = 1 ∨ x.2.1.1 = 2 := by omega
  rcases this with h | h | h <;> rw [h]
  · rw [rules0]; exact resting_bd _
  · rw [rules1]; exact rising_bd _
  · rw [rules2]; exact falling_bd _
end Go.Proofs.YtngbcgnihbjfnaaGreatDoor.Sp
end

section
/- Contracts of functions, by the evaluator (own program gen.py): collective.Choose, collective.Next, overlayref11.Choose. -/
set_option linter.unusedVariables false
set_option linter.unusedSimpArgs false
set_option maxRecDepth 100000
namespace Go.Proofs.YtngbcgnihbjfnaaGreatDoor.Sp
open Go Go.RowKit Sy
def F66 (x : Int × (Int × Int) × Int × Int × Int × Int) : Int × Int × Int :=
  bif (!(Sp.F90 (x.1, x.2.1, x.2.2.1))) then
    ((0 : Int), (0 : Int), (0 : Int))
  else
    (Sp.F91 x).1
def F67 (x : Int × (Int × Int) × Int × Int × Int × Int) : Int × Int :=
  bif (!(Sp.F90 (x.1, x.2.1, x.2.2.1))) then
    ((0 : Int), (0 : Int))
  else
    bif ((Sp.F91 x).1.1 != (3 : Int)) then
      ((Sp.F91 x).1.2.1, (0 : Int))
    else
      ((Sp.F91 x).1.2.1, (IntKind.i64.wrap ((BitVec.ofInt IntKind.i64.bits ((Sp.F91 x).2) ||| BitVec.ofInt IntKind.i64.bits (IntKind.i64.wrap ((1 : Int) * 2 ^ (min ((Sp.F91 x).1.2.2).toNat IntKind.i64.bits)))).toNat : Int)))
def K53_1 (x : Int × (Int × Int) × Int × Int × Int × Int) :=
  (Sp.F73 ((1 : Int), (2 : Int), (Sp.F71 (x.1, x.2.1, x.2.2.1, (Sp.F72 (x.1, x.2.2.2)))).2.2.1, (Sp.F71 (x.1, x.2.1, x.2.2.1, (Sp.F72 (x.1, x.2.2.2)))).1, (Sp.F71 (x.1, x.2.1, x.2.2.1, (Sp.F72 (x.1, x.2.2.2)))).2.1, (Sp.F71 (x.1, x.2.1, x.2.2.1, (Sp.F72 (x.1, x.2.2.2)))).2.2.2.1, (Sp.F71 (x.1, x.2.1, x.2.2.1, (Sp.F72 (x.1, x.2.2.2)))).2.2.2.2.1))
def K53_2 (x : Int × (Int × Int) × Int × Int × Int × Int) :=
  (Sp.F73 ((2 : Int), (1 : Int), (Sp.F71 (x.1, x.2.1, x.2.2.1, (Sp.F72 (x.1, x.2.2.2)))).2.2.1, (Sp.F71 (x.1, x.2.1, x.2.2.1, (Sp.F72 (x.1, x.2.2.2)))).2.1, (Sp.F71 (x.1, x.2.1, x.2.2.1, (Sp.F72 (x.1, x.2.2.2)))).1, (Sp.F71 (x.1, x.2.1, x.2.2.1, (Sp.F72 (x.1, x.2.2.2)))).2.2.2.2.1, (Sp.F71 (x.1, x.2.1, x.2.2.1, (Sp.F72 (x.1, x.2.2.2)))).2.2.2.1))
def F53 (x : Int × (Int × Int) × Int × Int × Int × Int) : Int × Int × Int :=
  bif (((((decide (x.1 < (2 : Int))) || (decide (x.1 > (32 : Int)))) || (decide (x.2.2.1 < (0 : Int)))) || (decide (x.2.2.1 ≥ x.1))) || (!(Sp.F70 x.2.1))) then
    ((0 : Int), (0 : Int), (0 : Int))
  else
    bif (x.2.1.1 == (1 : Int)) then
      (bif (Sp.K53_1 x).2 then
        (Sp.K53_1 x).1
      else
        (Sp.F74 ((2 : Int), (Sp.F71 (x.1, x.2.1, x.2.2.1, (Sp.F72 (x.1, x.2.2.2)))).2.1, (Sp.F71 (x.1, x.2.1, x.2.2.1, (Sp.F72 (x.1, x.2.2.2)))).2.2.2.2.1)))
    else
      bif (x.2.1.1 == (2 : Int)) then
        (bif (Sp.K53_2 x).2 then
          (Sp.K53_2 x).1
        else
          (Sp.F74 ((1 : Int), (Sp.F71 (x.1, x.2.1, x.2.2.1, (Sp.F72 (x.1, x.2.2.2)))).1, (Sp.F71 (x.1, x.2.1, x.2.2.1, (Sp.F72 (x.1, x.2.2.2)))).2.2.2.1)))
      else
        bif (Sp.F71 (x.1, x.2.1, x.2.2.1, (Sp.F72 (x.1, x.2.2.2)))).1 then
          (Sp.F75 (1 : Int))
        else
          bif (Sp.F71 (x.1, x.2.1, x.2.2.1, (Sp.F72 (x.1, x.2.2.2)))).2.1 then
            (Sp.F75 (2 : Int))
          else
            bif (Sp.F71 (x.1, x.2.1, x.2.2.1, (Sp.F72 (x.1, x.2.2.2)))).2.2.1 then
              (Sp.F75 ((Sp.F71 (x.1, x.2.1, x.2.2.1, (Sp.F72 (x.1, x.2.2.2)))).2.2.2.2.2))
            else
              (Sp.F76 ((Sp.F71 (x.1, x.2.1, x.2.2.1, (Sp.F72 (x.1, x.2.2.2)))).2.2.2.2.2))
end Go.Proofs.YtngbcgnihbjfnaaGreatDoor.Sp
namespace Go.Proofs.YtngbcgnihbjfnaaGreatDoor.Sy
open Go Go.RowKit Sp
def ct66 : Ct := { p := (Ty.pair ty3 (Ty.pair ty30 (Ty.pair ty3 ty91))), psh := [none, some 2, none, some 3], r := ty93, rsh := (Rsh.one (some 3)), pre := none, fresh := none, F := Sp.F66 }
theorem ok66 : CtOk Tryz.prog gdS 66 ct66 :=
  fn_okU (ctxOkF gokGmC3 []) rfl Tryz.func66 (p := (Ty.pair ty3 (Ty.pair ty30 (Ty.pair ty3 ty91)))) (psh := [none, some 2, none, some 3]) (r := ty93) (rsh := (Rsh.one (some 3))) (pre := none) (fresh := none) (F := Sp.F66) (L := noL) (c := bodyOf Tryz.f66) (dflt := Ty.dflt ty93) rfl (no_loops)
    (fun x fx _ => slim_of (S := (((!(Sp.F90 (x.1, x.2.1, x.2.2.1))) = false → (Sp.pre91 x)))) (by kernel_rfl) (by
  try dsimp only [Ty.den] at *
  simp only [Fit, maxLen] at fx
  simp only [Sp.pre91, Sp.F90, Sp.F61, IntKind.wrap_i64, IntKind.wrap_u8, IntKind.wrap_u32, IntKind.wrap_u64, Sp.tmod_lit, Sp.tdiv_lit, bne_eq_false_iff_eq, Int.natCast_inj, setE, copyL, sliceL, zrow, List.length_append, List.length_cons, List.length_nil, List.length_set, List.length_replicate, List.length_take, List.length_drop, decide_eq_true_eq, decide_eq_false_iff_not, Bool.or_eq_true, Bool.and_eq_true, Bool.or_eq_false_iff, Bool.and_eq_false_iff, Bool.not_eq_true', Bool.not_eq_false', Bool.not_eq_true, Bool.not_eq_false, beq_iff_eq, beq_eq_false_iff_ne, bne_iff_ne, ne_eq, implies_true, and_true, true_and] at *
  all_goals ((repeat' (first | exact trivial | apply And.intro | intro _)) <;> first | trivial | omega | exact Sp.tmod_nn (by omega) | exact Sp.tmod_lt (by omega) (by omega)))) (fun x => by kernel_rfl)
def ct67 : Ct := { p := (Ty.pair ty3 (Ty.pair ty30 (Ty.pair ty3 ty91))), psh := [none, some 2, none, some 3], r := ty30, rsh := (Rsh.one (some 2)), pre := none, fresh := none, F := Sp.F67 }
theorem ok67 : CtOk Tryz.prog gdS 67 ct67 :=
  fn_okU (ctxOkF gokGmC3 []) rfl Tryz.func67 (p := (Ty.pair ty3 (Ty.pair ty30 (Ty.pair ty3 ty91)))) (psh := [none, some 2, none, some 3]) (r := ty30) (rsh := (Rsh.one (some 2))) (pre := none) (fresh := none) (F := Sp.F67) (L := noL) (c := bodyOf Tryz.f67) (dflt := Ty.dflt ty30) rfl (no_loops)
    (fun x fx _ => safe_of (S := ((((!(Sp.F90 (x.1, x.2.1, x.2.2.1))) = true → True) ∧ ((!(Sp.F90 (x.1, x.2.1, x.2.2.1))) = false → ((Sp.pre91 x) ∧ ((((Sp.F91 x).1.1 != (3 : Int)) = true → True) ∧ (((Sp.F91 x).1.1 != (3 : Int)) = false → ((0 ≤ (Sp.F91 x).1.2.2) ∧ True)))))))) (by kernel_rfl) (by
  try dsimp only [Ty.den] at *
  refine ⟨fun _ => trivial, fun hp => ?_⟩
  simp only [Bool.not_eq_false', Sp.F90, Sp.F61, Bool.and_eq_true, decide_eq_true_eq] at hp
  have hb := Sp.choose_bd x (by omega) (by omega)
  simp only [Sp.pre91]
  repeat' (first | exact trivial | apply And.intro | intro _)
  all_goals omega)) (fun x => by kernel_rfl)
def ct53 : Ct := { p := (Ty.pair ty3 (Ty.pair ty30 (Ty.pair ty3 ty91))), psh := [none, some 2, none, some 3], r := ty93, rsh := (Rsh.one (some 3)), pre := none, fresh := none, F := Sp.F53 }
theorem ok53 : CtOk Tryz.prog gdS 53 ct53 :=
  fn_okU (ctxOkF gokGmC3 []) rfl Tryz.func53 (p := (Ty.pair ty3 (Ty.pair ty30 (Ty.pair ty3 ty91)))) (psh := [none, some 2, none, some 3]) (r := ty93) (rsh := (Rsh.one (some 3))) (pre := none) (fresh := none) (F := Sp.F53) (L := noL) (c := bodyOf Tryz.f53) (dflt := Ty.dflt ty93) rfl (no_loops)
    (fun x fx _ => triv_of (by kernel_rfl)) (fun x => by kernel_rfl)
def GmC4 : List (Nat × Ct) := (66, ct66) :: (67, ct67) :: (53, ct53) :: GmC3
theorem gokGmC4 : GOk GmC4 := gok_cons ok66 ⟨_, Tryz.func66, by kernel_rfl, by kernel_rfl⟩ (gok_cons ok67 ⟨_, Tryz.func67, by kernel_rfl, by kernel_rfl⟩ (gok_cons ok53 ⟨_, Tryz.func53, by kernel_rfl, by kernel_rfl⟩ (gokGmC3)))
end Go.Proofs.YtngbcgnihbjfnaaGreatDoor.Sy
end

section
/- Contracts of functions, by the evaluator (own program gen.py): overlayref11.Next. -/
set_option linter.unusedVariables false
set_option linter.unusedSimpArgs false
set_option maxRecDepth 100000
namespace Go.Proofs.YtngbcgnihbjfnaaGreatDoor.Sp
open Go Go.RowKit Sy
def F54 (x : Int × (Int × Int) × Int × Int × Int × Int) : Int × Int :=
  bif (((((decide (x.1 < (2 : Int))) || (decide (x.1 > (32 : Int)))) || (decide (x.2.2.1 < (0 : Int)))) || (decide (x.2.2.1 ≥ x.1))) || (!(Sp.F70 x.2.1))) then
    ((0 : Int), (0 : Int))
  else
    bif ((Sp.F53 x).1 == (3 : Int)) then
      ((Sp.F53 x).2.1, (IntKind.i64.wrap ((BitVec.ofInt IntKind.i64.bits (Sp.F77 (x.2.1, x.2.2.1, (Sp.F72 (x.1, x.2.2.2)))) ||| BitVec.ofInt IntKind.i64.bits (IntKind.i64.wrap ((1 : Int) * 2 ^ (min ((IntKind.u64.wrap ((Sp.F53 x).2.2))).toNat IntKind.i64.bits)))).toNat : Int)))
    else
      ((Sp.F53 x).2.1, (0 : Int))
end Go.Proofs.YtngbcgnihbjfnaaGreatDoor.Sp
namespace Go.Proofs.YtngbcgnihbjfnaaGreatDoor.Sy
open Go Go.RowKit Sp
def ct54 : Ct := { p := (Ty.pair ty3 (Ty.pair ty30 (Ty.pair ty3 ty91))), psh := [none, some 2, none, some 3], r := ty30, rsh := (Rsh.one (some 2)), pre := none, fresh := none, F := Sp.F54 }
theorem ok54 : CtOk Tryz.prog gdS 54 ct54 :=
  fn_okU (ctxOkF gokGmC4 []) rfl Tryz.func54 (p := (Ty.pair ty3 (Ty.pair ty30 (Ty.pair ty3 ty91)))) (psh := [none, some 2, none, some 3]) (r := ty30) (rsh := (Rsh.one (some 2))) (pre := none) (fresh := none) (F := Sp.F54) (L := noL) (c := bodyOf Tryz.f54) (dflt := Ty.dflt ty30) rfl (no_loops)
    (fun x fx _ => slim_of (S := (((((((decide (x.1 < (2 : Int))) || (decide (x.1 > (32 : Int)))) || (decide (x.2.2.1 < (0 : Int)))) || (decide (x.2.2.1 ≥ x.1))) || (!(Sp.F70 x.2.1))) = false → (((Sp.F53 x).1 == (3 : Int)) = true → (0 ≤ (IntKind.u64.wrap ((Sp.F53 x).2.2))))))) (by kernel_rfl) (by
  try dsimp only [Ty.den] at *
  simp only [Fit, maxLen] at fx
  simp only [true_and, IntKind.wrap_i64, IntKind.wrap_u8, IntKind.wrap_u32, IntKind.wrap_u64, Sp.tmod_lit, Sp.tdiv_lit, bne_eq_false_iff_eq, Int.natCast_inj, setE, copyL, sliceL, zrow, List.length_append, List.length_cons, List.length_nil, List.length_set, List.length_replicate, List.length_take, List.length_drop, decide_eq_true_eq, decide_eq_false_iff_not, Bool.or_eq_true, Bool.and_eq_true, Bool.or_eq_false_iff, Bool.and_eq_false_iff, Bool.not_eq_true', Bool.not_eq_false', Bool.not_eq_true, Bool.not_eq_false, beq_iff_eq, beq_eq_false_iff_ne, bne_iff_ne, ne_eq, implies_true, and_true, true_and] at *
  all_goals ((repeat' (first | exact trivial | apply And.intro | intro _)) <;> first | trivial | omega | exact Sp.tmod_nn (by omega) | exact Sp.tmod_lt (by omega) (by omega)))) (fun x => by kernel_rfl)
def GmC5 : List (Nat × Ct) := (54, ct54) :: GmC4
theorem gokGmC5 : GOk GmC5 := gok_cons ok54 ⟨_, Tryz.func54, by kernel_rfl, by kernel_rfl⟩ (gokGmC4)
end Go.Proofs.YtngbcgnihbjfnaaGreatDoor.Sy
end

section
/- Contracts of functions, by the evaluator (own program gen.py): building.within, building.loads, overlayref01.in, overlaylaw01.Sample. -/
set_option linter.unusedVariables false
set_option linter.unusedSimpArgs false
set_option maxRecDepth 100000
namespace Go.Proofs.YtngbcgnihbjfnaaGreatDoor.Sp
open Go Go.RowKit Sy
def in79_2 (k : (Int × Int × (List Int) × Int)) (x : (Int)) : Prop := (0 : Int) ≤ x ∧ k.2.2.2 = ((k.2.2.1).length : Int)
def mu79_2 (k : (Int × Int × (List Int) × Int)) (x : (Int)) : Nat := (k.2.2.2 - x).toNat
def st79_2 (k : (Int × Int × (List Int) × Int)) (x : (Int)) : BOut (Int × Int × (List Int) × Int) (Int) (Bool) :=
  bif (decide (x < k.2.2.2)) then
    (bif ((decide ((Sp.nthT k.2.2.1 x) < k.1)) || (decide ((Sp.nthT k.2.2.1 x) > k.2.1))) then
      BOut.ret false
    else
      BOut.next k (IntKind.i64.wrap (x + (1 : Int))))
  else
    BOut.brk k x
def G79_2 (k : (Int × Int × (List Int) × Int)) (x : (Int)) : (Int) := endOf st79_2 k (Nat.succ (mu79_2 k x)) x
def R79_2 (k : (Int × Int × (List Int) × Int)) (x : (Int)) : Option (Bool) := retOf st79_2 k (Nat.succ (mu79_2 k x)) x
def F79 (x : Int × Int × List Int) : Bool :=
  Sp.optR (Sp.R79_2 (x.1, x.2.1, x.2.2, ((x.2.2).length : Int)) (0 : Int)) (fun y => y)
  (true)
def F81 (x : Int × Int × Int × Int × Nat × Nat × Nat × List (Int × Int × Int × Int × Int × Int × Int × Int × Int)) : Bool :=
  (((((FloatKind.f64.format.order (0 : Nat) x.2.2.2.2.1) == some Ordering.lt) && ((FloatKind.f64.format.order x.2.2.2.2.1 x.2.2.2.2.2.1) == some Ordering.lt)) && ((FloatKind.f64.format.order x.2.2.2.2.2.1 x.2.2.2.2.2.2.1) == some Ordering.lt)) && ((FloatKind.f64.format.order x.2.2.2.2.2.2.1 (9218868437227405311 : Nat)) == some Ordering.lt || (FloatKind.f64.format.order x.2.2.2.2.2.2.1 (9218868437227405311 : Nat)) == some Ordering.eq))
def F92 (x : Int × Int × Int) : Bool :=
  ((decide (x.1 ≥ x.2.1)) && (decide (x.1 ≤ x.2.2)))
def in9_3 (k : (Int × Int)) (x : (Int × Int × Int × Int × Int × Nat × Nat × Nat × List (Int × Int × Int × Int × Int × Int × Int × Int × Int))) : Prop := 0 ≤ x.1 ∧ x.1 ≤ 101 ∧ k.1 ≠ 0 ∧ k.2 ≤ 100 ∧ (x.2.2.2.2.2.2.2.2.length : Int) ≤ x.1
def mu9_3 (k : (Int × Int)) (x : (Int × Int × Int × Int × Int × Nat × Nat × Nat × List (Int × Int × Int × Int × Int × Int × Int × Int × Int))) : Nat := (k.2 - x.1).toNat
def st9_3 (k : (Int × Int)) (x : (Int × Int × Int × Int × Int × Nat × Nat × Nat × List (Int × Int × Int × Int × Int × Int × Int × Int × Int))) : BOut (Int × Int) (Int × Int × Int × Int × Int × Nat × Nat × Nat × List (Int × Int × Int × Int × Int × Int × Int × Int × Int)) (Int × Int × Int × Int × Nat × Nat × Nat × List (Int × Int × Int × Int × Int × Int × Int × Int × Int)) :=
  bif (decide (x.1 < k.2)) then
    BOut.next k ((IntKind.i64.wrap (x.1 + (1 : Int))), x.2.1, x.2.2.1, x.2.2.2.1, x.2.2.2.2.1, x.2.2.2.2.2.1, x.2.2.2.2.2.2.1, x.2.2.2.2.2.2.2.1, (x.2.2.2.2.2.2.2.2 ++ [((100 : Int), (2 : Int), (6 : Int), (5 : Int), (4 : Int), (2 : Int), (3 : Int), (10 : Int), (Int.tmod x.1 k.1))]))
  else
    BOut.brk k x
def G9_3 (k : (Int × Int)) (x : (Int × Int × Int × Int × Int × Nat × Nat × Nat × List (Int × Int × Int × Int × Int × Int × Int × Int × Int))) : (Int × Int × Int × Int × Int × Nat × Nat × Nat × List (Int × Int × Int × Int × Int × Int × Int × Int × Int)) := endOf st9_3 k (Nat.succ (mu9_3 k x)) x
def F9 (x : Int × Int) : Int × Int × Int × Int × Nat × Nat × Nat × List (Int × Int × Int × Int × Int × Int × Int × Int × Int) :=
  (Sp.G9_3 x ((0 : Int), x.1, (1 : Int), (4000 : Int), (30 : Int), (4591870180066957722 : Nat), (4605380978949069210 : Nat), (4607632778762754458 : Nat), [])).2
def pre9 (x : Int × Int) : Prop := 1 ≤ x.1 ∧ x.1 ≤ 100 ∧ x.2 ≤ 100
end Go.Proofs.YtngbcgnihbjfnaaGreatDoor.Sp
namespace Go.Proofs.YtngbcgnihbjfnaaGreatDoor.Sy
open Go Go.RowKit Sp
def LS79_2 : LS ty4.den := mkLS (Ty.pair ty3 (Ty.pair ty3 (Ty.pair ty101 ty3))) ty3  [(0, none), (1, none), (9, none), (10, none)] [] [(11, none)] [] [] [] [] 0 true Sp.in79_2 Sp.st79_2 Sp.mu79_2
set_option maxHeartbeats 4000000 in
theorem so79_2 (k : (Ty.pair ty3 (Ty.pair ty3 (Ty.pair ty101 ty3))).den) (x : ty3.den) (fk : Fit (Ty.pair ty3 (Ty.pair ty3 (Ty.pair ty101 ty3))) k) (h : Sp.in79_2 k x) : StepOk true Sp.in79_2 Sp.mu79_2 k x (Sp.st79_2 k x) := by
  try dsimp only [Ty.den] at *
  simp only [Sp.in79_2, Fit, maxLen] at h fk
  unfold Sp.st79_2
  (repeat' (first | exact rfl | (refine StepOk.cnd (fun hc => ?_) (fun hc => ?_) <;> (try simp only [IntKind.wrap_i64, IntKind.wrap_u8, IntKind.wrap_u32, IntKind.wrap_u64, bne_eq_false_iff_eq, Int.natCast_inj, setE, copyL, sliceL, zrow, List.length_append, List.length_cons, List.length_nil, List.length_set, List.length_replicate, List.length_take, List.length_drop, decide_eq_true_eq, decide_eq_false_iff_not, Bool.or_eq_true, Bool.and_eq_true, Bool.or_eq_false_iff, Bool.and_eq_false_iff, Bool.not_eq_true', Bool.not_eq_false', Bool.not_eq_true, Bool.not_eq_false, beq_iff_eq, beq_eq_false_iff_ne, bne_iff_ne, ne_eq] at hc)) | refine StepOk.opt (fun _ => ?_))) <;> (first | exact rfl | (refine ⟨rfl, ?_, ?_⟩ <;> simp only [Sp.in79_2, Sp.mu79_2, IntKind.wrap_i64, IntKind.wrap_u8, IntKind.wrap_u32, IntKind.wrap_u64, Sp.tmod_lit, Sp.tdiv_lit, bne_eq_false_iff_eq, Int.natCast_inj, setE, copyL, sliceL, zrow, List.length_append, List.length_cons, List.length_nil, List.length_set, List.length_replicate, List.length_take, List.length_drop, decide_eq_true_eq, decide_eq_false_iff_not, Bool.or_eq_true, Bool.and_eq_true, Bool.or_eq_false_iff, Bool.and_eq_false_iff, Bool.not_eq_true', Bool.not_eq_false', Bool.not_eq_true, Bool.not_eq_false, beq_iff_eq, beq_eq_false_iff_ne, bne_iff_ne, ne_eq] <;> first | omega | (and_intros <;> first | omega | exact h.1 | exact h.2 | exact h.2.1 | exact h.2.2 | exact h.2.2.1 | exact h.2.2.2 | exact h.2.2.2.1 | exact h.2.2.2.2 | exact h.2.2.2.2.1 | exact h.2.2.2.2.2 | exact h.2.2.2.2.2.1 | exact h.2.2.2.2.2.2)))
set_option maxHeartbeats 4000000 in
theorem lo79_2 : LoopOk Tryz.prog gdS (RetAt Tryz.prog Tryz.f79 (Rsh.one (none)) none ty4) (bodyAt (bodyOf Tryz.f79) [0]) LS79_2 :=
  loop_run (ctxOkF gokGmC5 []) (L := lookL []) (d := BOut.brk (Ty.dflt (Ty.pair ty3 (Ty.pair ty3 (Ty.pair ty101 ty3)))) (Ty.dflt ty3)) (loops_of (l := []) (by kernel_rfl) (loops_nil)) (fun k x fk fx h => slim_of (S := (((decide (x < k.2.2.2)) = true → (0 ≤ x ∧ x < ((k.2.2.1).length : Int))))) (by kernel_rfl) (by
  try dsimp only [Ty.den] at *
  simp only [Sp.in79_2, Fit, maxLen] at h fk fx
  simp only [IntKind.wrap_i64, IntKind.wrap_u8, IntKind.wrap_u32, IntKind.wrap_u64, Sp.tmod_lit, Sp.tdiv_lit, bne_eq_false_iff_eq, Int.natCast_inj, setE, copyL, sliceL, zrow, List.length_append, List.length_cons, List.length_nil, List.length_set, List.length_replicate, List.length_take, List.length_drop, decide_eq_true_eq, decide_eq_false_iff_not, Bool.or_eq_true, Bool.and_eq_true, Bool.or_eq_false_iff, Bool.and_eq_false_iff, Bool.not_eq_true', Bool.not_eq_false', Bool.not_eq_true, Bool.not_eq_false, beq_iff_eq, beq_eq_false_iff_ne, bne_iff_ne, ne_eq, implies_true, and_true, true_and] at *
  all_goals ((repeat' (first | exact trivial | apply And.intro | intro _)) <;> first | trivial | omega | exact Sp.tmod_nn (by omega) | exact Sp.tmod_lt (by omega) (by omega)))) (fun k x => by kernel_rfl) so79_2
def ct79 : Ct := { p := (Ty.pair ty3 (Ty.pair ty3 ty101)), psh := [none, none, none], r := ty4, rsh := (Rsh.one (none)), pre := none, fresh := none, F := Sp.F79 }
theorem ok79 : CtOk Tryz.prog gdS 79 ct79 :=
  fn_okU (ctxOkF gokGmC5 []) rfl Tryz.func79 (p := (Ty.pair ty3 (Ty.pair ty3 ty101))) (psh := [none, none, none]) (r := ty4) (rsh := (Rsh.one (none))) (pre := none) (fresh := none) (F := Sp.F79) (L := (lookL [(2, LS79_2)])) (c := bodyOf Tryz.f79) (dflt := Ty.dflt ty4) rfl (loops_of (l := [bodyAt (bodyOf Tryz.f79) [0]]) (by kernel_rfl) (loops_cons (s0 := LS79_2) (by kernel_rfl) lo79_2 (loops_nil)))
    (fun x fx _ => slim_of (S := ((Sp.in79_2 (x.1, x.2.1, x.2.2, ((x.2.2).length : Int)) (0 : Int)))) (by kernel_rfl) (by
  try dsimp only [Ty.den] at *
  simp only [Fit, maxLen] at fx
  simp only [Sp.in79_2, IntKind.wrap_i64, IntKind.wrap_u8, IntKind.wrap_u32, IntKind.wrap_u64, Sp.tmod_lit, Sp.tdiv_lit, bne_eq_false_iff_eq, Int.natCast_inj, setE, copyL, sliceL, zrow, List.length_append, List.length_cons, List.length_nil, List.length_set, List.length_replicate, List.length_take, List.length_drop, decide_eq_true_eq, decide_eq_false_iff_not, Bool.or_eq_true, Bool.and_eq_true, Bool.or_eq_false_iff, Bool.and_eq_false_iff, Bool.not_eq_true', Bool.not_eq_false', Bool.not_eq_true, Bool.not_eq_false, beq_iff_eq, beq_eq_false_iff_ne, bne_iff_ne, ne_eq, implies_true, and_true, true_and] at *
  all_goals ((repeat' (first | exact trivial | apply And.intro | intro _)) <;> first | trivial | omega | exact Sp.tmod_nn (by omega) | exact Sp.tmod_lt (by omega) (by omega)))) (fun x => by kernel_rfl)
def ct81 : Ct := { p := ty27, psh := [some 8], r := ty4, rsh := (Rsh.one (none)), pre := none, fresh := none, F := Sp.F81 }
theorem ok81 : CtOk Tryz.prog gdS 81 ct81 :=
  fn_okU (ctxOkF gokGmC5 []) rfl Tryz.func81 (p := ty27) (psh := [some 8]) (r := ty4) (rsh := (Rsh.one (none))) (pre := none) (fresh := none) (F := Sp.F81) (L := noL) (c := bodyOf Tryz.f81) (dflt := Ty.dflt ty4) rfl (no_loops)
    (fun x fx _ => triv_of (by kernel_rfl)) (fun x => by kernel_rfl)
def ct92 : Ct := { p := (Ty.pair ty3 (Ty.pair ty3 ty3)), psh := [none, none, none], r := ty4, rsh := (Rsh.one (none)), pre := none, fresh := none, F := Sp.F92 }
theorem ok92 : CtOk Tryz.prog gdS 92 ct92 :=
  fn_okU (ctxOkF gokGmC5 []) rfl Tryz.func92 (p := (Ty.pair ty3 (Ty.pair ty3 ty3))) (psh := [none, none, none]) (r := ty4) (rsh := (Rsh.one (none))) (pre := none) (fresh := none) (F := Sp.F92) (L := noL) (c := bodyOf Tryz.f92) (dflt := Ty.dflt ty4) rfl (no_loops)
    (fun x fx _ => triv_of (by kernel_rfl)) (fun x => by kernel_rfl)
def LS9_3 : LS ty27.den := mkLS (Ty.pair ty3 ty3) (Ty.pair ty3 ty27)  [(0, none), (1, none)] [] [(6, none)] [(5, 8)] [(8, 100308, true, 53)] [] [(5, 5)] 0 false Sp.in9_3 Sp.st9_3 Sp.mu9_3
set_option maxHeartbeats 4000000 in
theorem so9_3 (k : (Ty.pair ty3 ty3).den) (x : (Ty.pair ty3 ty27).den) (fk : Fit (Ty.pair ty3 ty3) k) (h : Sp.in9_3 k x) : StepOk false Sp.in9_3 Sp.mu9_3 k x (Sp.st9_3 k x) := by
  try dsimp only [Ty.den] at *
  simp only [Sp.in9_3, Fit, maxLen] at h fk
  unfold Sp.st9_3
  (repeat' (first | exact rfl | (refine StepOk.cnd (fun hc => ?_) (fun hc => ?_) <;> (try simp only [IntKind.wrap_i64, IntKind.wrap_u8, IntKind.wrap_u32, IntKind.wrap_u64, bne_eq_false_iff_eq, Int.natCast_inj, setE, copyL, sliceL, zrow, List.length_append, List.length_cons, List.length_nil, List.length_set, List.length_replicate, List.length_take, List.length_drop, decide_eq_true_eq, decide_eq_false_iff_not, Bool.or_eq_true, Bool.and_eq_true, Bool.or_eq_false_iff, Bool.and_eq_false_iff, Bool.not_eq_true', Bool.not_eq_false', Bool.not_eq_true, Bool.not_eq_false, beq_iff_eq, beq_eq_false_iff_ne, bne_iff_ne, ne_eq] at hc)) | refine StepOk.opt (fun _ => ?_))) <;> (first | exact rfl | (refine ⟨rfl, ?_, ?_⟩ <;> simp only [Sp.in9_3, Sp.mu9_3, IntKind.wrap_i64, IntKind.wrap_u8, IntKind.wrap_u32, IntKind.wrap_u64, Sp.tmod_lit, Sp.tdiv_lit, bne_eq_false_iff_eq, Int.natCast_inj, setE, copyL, sliceL, zrow, List.length_append, List.length_cons, List.length_nil, List.length_set, List.length_replicate, List.length_take, List.length_drop, decide_eq_true_eq, decide_eq_false_iff_not, Bool.or_eq_true, Bool.and_eq_true, Bool.or_eq_false_iff, Bool.and_eq_false_iff, Bool.not_eq_true', Bool.not_eq_false', Bool.not_eq_true, Bool.not_eq_false, beq_iff_eq, beq_eq_false_iff_ne, bne_iff_ne, ne_eq] <;> first | omega | (and_intros <;> first | omega | exact h.1 | exact h.2 | exact h.2.1 | exact h.2.2 | exact h.2.2.1 | exact h.2.2.2 | exact h.2.2.2.1 | exact h.2.2.2.2 | exact h.2.2.2.2.1 | exact h.2.2.2.2.2 | exact h.2.2.2.2.2.1 | exact h.2.2.2.2.2.2)))
set_option maxHeartbeats 4000000 in
theorem lo9_3 : LoopOk Tryz.prog gdS (RetAt Tryz.prog Tryz.f9 (Rsh.one (some 8)) (some 53) ty27) (bodyAt (bodyOf Tryz.f9) [0]) LS9_3 :=
  loop_run (ctxOkF gokGmC5 []) (L := lookL []) (d := BOut.brk (Ty.dflt (Ty.pair ty3 ty3)) (Ty.dflt (Ty.pair ty3 ty27))) (loops_of (l := []) (by kernel_rfl) (loops_nil)) (fun k x fk fx h => slim_of (S := (((decide (x.1 < k.2)) = true → ((k.1 ≠ 0) ∧ ((List.length (x.2.2.2.2.2.2.2.2 : List (Int × Int × Int × Int × Int × Int × Int × Int × Int)) + List.length ([((100 : Int), (2 : Int), (6 : Int), (5 : Int), (4 : Int), (2 : Int), (3 : Int), (10 : Int), (Int.tmod x.1 k.1))] : List (Int × Int × Int × Int × Int × Int × Int × Int × Int))) * 72 ≤ 140737488355328 ∧ List.length (x.2.2.2.2.2.2.2.2 : List (Int × Int × Int × Int × Int × Int × Int × Int × Int)) + List.length ([((100 : Int), (2 : Int), (6 : Int), (5 : Int), (4 : Int), (2 : Int), (3 : Int), (10 : Int), (Int.tmod x.1 k.1))] : List (Int × Int × Int × Int × Int × Int × Int × Int × Int)) ≤ 4611686018427387903))))) (by kernel_rfl) (by
  try dsimp only [Ty.den] at *
  simp only [Sp.in9_3, Fit, maxLen] at h fk fx
  simp only [IntKind.wrap_i64, IntKind.wrap_u8, IntKind.wrap_u32, IntKind.wrap_u64, Sp.tmod_lit, Sp.tdiv_lit, bne_eq_false_iff_eq, Int.natCast_inj, setE, copyL, sliceL, zrow, List.length_append, List.length_cons, List.length_nil, List.length_set, List.length_replicate, List.length_take, List.length_drop, decide_eq_true_eq, decide_eq_false_iff_not, Bool.or_eq_true, Bool.and_eq_true, Bool.or_eq_false_iff, Bool.and_eq_false_iff, Bool.not_eq_true', Bool.not_eq_false', Bool.not_eq_true, Bool.not_eq_false, beq_iff_eq, beq_eq_false_iff_ne, bne_iff_ne, ne_eq, implies_true, and_true, true_and] at *
  all_goals ((repeat' (first | exact trivial | apply And.intro | intro _)) <;> first | trivial | omega | exact Sp.tmod_nn (by omega) | exact Sp.tmod_lt (by omega) (by omega)))) (fun k x => by kernel_rfl) so9_3
def ct9 : Ct := { p := (Ty.pair ty3 ty3), psh := [none, none], r := ty27, rsh := (Rsh.one (some 8)), pre := some Sp.pre9, fresh := (some 53), F := Sp.F9 }
theorem ok9 : CtOk Tryz.prog gdS 9 ct9 :=
  fn_okU (ctxOkF gokGmC5 []) rfl Tryz.func9 (p := (Ty.pair ty3 ty3)) (psh := [none, none]) (r := ty27) (rsh := (Rsh.one (some 8))) (pre := some Sp.pre9) (fresh := (some 53)) (F := Sp.F9) (L := (lookL [(3, LS9_3)])) (c := bodyOf Tryz.f9) (dflt := Ty.dflt ty27) rfl (loops_of (l := [bodyAt (bodyOf Tryz.f9) [0]]) (by kernel_rfl) (loops_cons (s0 := LS9_3) (by kernel_rfl) lo9_3 (loops_nil)))
    (fun x fx hq => have h := hq _ rfl; slim_of (S := ((Sp.in9_3 x ((0 : Int), x.1, (1 : Int), (4000 : Int), (30 : Int), (4591870180066957722 : Nat), (4605380978949069210 : Nat), (4607632778762754458 : Nat), [])))) (by kernel_rfl) (by
  try dsimp only [Ty.den] at *
  simp only [Fit, maxLen] at fx
  simp only [Sp.in9_3, Sp.pre9, IntKind.wrap_i64, IntKind.wrap_u8, IntKind.wrap_u32, IntKind.wrap_u64, Sp.tmod_lit, Sp.tdiv_lit, bne_eq_false_iff_eq, Int.natCast_inj, setE, copyL, sliceL, zrow, List.length_append, List.length_cons, List.length_nil, List.length_set, List.length_replicate, List.length_take, List.length_drop, decide_eq_true_eq, decide_eq_false_iff_not, Bool.or_eq_true, Bool.and_eq_true, Bool.or_eq_false_iff, Bool.and_eq_false_iff, Bool.not_eq_true', Bool.not_eq_false', Bool.not_eq_true, Bool.not_eq_false, beq_iff_eq, beq_eq_false_iff_ne, bne_iff_ne, ne_eq, implies_true, and_true, true_and] at *
  all_goals ((repeat' (first | exact trivial | apply And.intro | intro _)) <;> first | trivial | omega | exact Sp.tmod_nn (by omega) | exact Sp.tmod_lt (by omega) (by omega)))) (fun x => by kernel_rfl)
def GmT0 : List (Nat × Ct) := (79, ct79) :: (81, ct81) :: (92, ct92) :: (9, ct9) :: GmC5
theorem gokGmT0 : GOk GmT0 := gok_cons ok79 ⟨_, Tryz.func79, by kernel_rfl, by kernel_rfl⟩ (gok_cons ok81 ⟨_, Tryz.func81, by kernel_rfl, by kernel_rfl⟩ (gok_cons ok92 ⟨_, Tryz.func92, by kernel_rfl, by kernel_rfl⟩ (gok_cons ok9 ⟨_, Tryz.func9, by kernel_rfl, by kernel_rfl⟩ (gokGmC5))))
end Go.Proofs.YtngbcgnihbjfnaaGreatDoor.Sy
end

section
/- Contracts of functions, by the evaluator (own program gen.py): building.times, overlayref01.times. -/
set_option linter.unusedVariables false
set_option linter.unusedSimpArgs false
set_option maxRecDepth 100000
namespace Go.Proofs.YtngbcgnihbjfnaaGreatDoor.Sp
open Go Go.RowKit Sy
def F80 (x : (Int × Int × Int × Int × Int × Int × Int × Int × Int) × Int) : Bool :=
  ((((Sp.F79 ((1 : Int), (10000 : Int), [x.1.1, x.1.2.1, x.1.2.2.1, x.1.2.2.2.2.1, x.1.2.2.2.2.2.1, x.1.2.2.2.2.2.2.1, x.1.2.2.2.2.2.2.2.1])) && (Sp.F79 ((0 : Int), (10000 : Int), [x.1.2.2.2.1]))) && (decide (x.1.2.2.2.2.2.2.2.1 ≥ x.1.2.2.2.2.2.2.1))) && (Sp.F79 ((0 : Int), (IntKind.i64.wrap (x.2 - (1 : Int))), [x.1.2.2.2.2.2.2.2.2])))
def in93_5 (k : (List Int)) (x : (Int)) : Prop := (0 : Int) ≤ x ∧ k.length = 8
def mu93_5 (k : (List Int)) (x : (Int)) : Nat := ((7 : Int) - x).toNat
def st93_5 (k : (List Int)) (x : (Int)) : BOut (List Int) (Int) (Bool) :=
  bif (decide (x < (7 : Int))) then
    (bif (!(Sp.F92 ((Sp.nthT k x), (1 : Int), (10000 : Int)))) then
      BOut.ret false
    else
      BOut.next k (IntKind.i64.wrap (x + (1 : Int))))
  else
    BOut.brk k x
def G93_5 (k : (List Int)) (x : (Int)) : (Int) := endOf st93_5 k (Nat.succ (mu93_5 k x)) x
def R93_5 (k : (List Int)) (x : (Int)) : Option (Bool) := retOf st93_5 k (Nat.succ (mu93_5 k x)) x
def F93 (x : (Int × Int × Int × Int × Nat × Nat × Nat × List (Int × Int × Int × Int × Int × Int × Int × Int × Int)) × Int × Int × Int × Int × Int × Int × Int × Int × Int) : Bool :=
  bif ((decide (x.2.2.2.2.1 < (0 : Int))) || (decide (x.2.2.2.2.1 > (10000 : Int)))) then
    false
  else
    Sp.optR (Sp.R93_5 [x.2.1, x.2.2.1, x.2.2.2.1, x.2.2.2.2.2.1, x.2.2.2.2.2.2.1, x.2.2.2.2.2.2.2.1, x.2.2.2.2.2.2.2.2.1, (IntKind.i64.wrap (x.2.2.2.2.1 + (1 : Int)))] (0 : Int)) (fun y => y)
    (((decide (x.2.2.2.2.2.2.2.2.1 ≥ x.2.2.2.2.2.2.2.1)) && (Sp.F92 (x.2.2.2.2.2.2.2.2.2, (0 : Int), (IntKind.i64.wrap (x.1.1 - (1 : Int)))))))
end Go.Proofs.YtngbcgnihbjfnaaGreatDoor.Sp
namespace Go.Proofs.YtngbcgnihbjfnaaGreatDoor.Sy
open Go Go.RowKit Sp
def ct80 : Ct := { p := (Ty.pair ty53 ty3), psh := [some 9, none], r := ty4, rsh := (Rsh.one (none)), pre := none, fresh := none, F := Sp.F80 }
theorem ok80 : CtOk Tryz.prog gdS 80 ct80 :=
  fn_okU (ctxOkF gokGmT0 []) rfl Tryz.func80 (p := (Ty.pair ty53 ty3)) (psh := [some 9, none]) (r := ty4) (rsh := (Rsh.one (none))) (pre := none) (fresh := none) (F := Sp.F80) (L := noL) (c := bodyOf Tryz.f80) (dflt := Ty.dflt ty4) rfl (no_loops)
    (fun x fx _ => triv_of (by kernel_rfl)) (fun x => by kernel_rfl)
def LS93_5 : LS ty4.den := mkLS ty101 ty3  [(5, none)] [] [(6, none)] [] [] [] [] 0 true Sp.in93_5 Sp.st93_5 Sp.mu93_5
set_option maxHeartbeats 4000000 in
theorem so93_5 (k : ty101.den) (x : ty3.den) (fk : Fit ty101 k) (h : Sp.in93_5 k x) : StepOk true Sp.in93_5 Sp.mu93_5 k x (Sp.st93_5 k x) := by
  try dsimp only [Ty.den] at *
  simp only [Sp.in93_5, Fit, maxLen] at h fk
  unfold Sp.st93_5
  (repeat' (first | exact rfl | (refine StepOk.cnd (fun hc => ?_) (fun hc => ?_) <;> (try simp only [IntKind.wrap_i64, IntKind.wrap_u8, IntKind.wrap_u32, IntKind.wrap_u64, bne_eq_false_iff_eq, Int.natCast_inj, setE, copyL, sliceL, zrow, List.length_append, List.length_cons, List.length_nil, List.length_set, List.length_replicate, List.length_take, List.length_drop, decide_eq_true_eq, decide_eq_false_iff_not, Bool.or_eq_true, Bool.and_eq_true, Bool.or_eq_false_iff, Bool.and_eq_false_iff, Bool.not_eq_true', Bool.not_eq_false', Bool.not_eq_true, Bool.not_eq_false, beq_iff_eq, beq_eq_false_iff_ne, bne_iff_ne, ne_eq] at hc)) | refine StepOk.opt (fun _ => ?_))) <;> (first | exact rfl | (refine ⟨rfl, ?_, ?_⟩ <;> simp only [Sp.in93_5, Sp.mu93_5, IntKind.wrap_i64, IntKind.wrap_u8, IntKind.wrap_u32, IntKind.wrap_u64, Sp.tmod_lit, Sp.tdiv_lit, bne_eq_false_iff_eq, Int.natCast_inj, setE, copyL, sliceL, zrow, List.length_append, List.length_cons, List.length_nil, List.length_set, List.length_replicate, List.length_take, List.length_drop, decide_eq_true_eq, decide_eq_false_iff_not, Bool.or_eq_true, Bool.and_eq_true, Bool.or_eq_false_iff, Bool.and_eq_false_iff, Bool.not_eq_true', Bool.not_eq_false', Bool.not_eq_true, Bool.not_eq_false, beq_iff_eq, beq_eq_false_iff_ne, bne_iff_ne, ne_eq] <;> first | omega | (and_intros <;> first | omega | exact h.1 | exact h.2 | exact h.2.1 | exact h.2.2 | exact h.2.2.1 | exact h.2.2.2 | exact h.2.2.2.1 | exact h.2.2.2.2 | exact h.2.2.2.2.1 | exact h.2.2.2.2.2 | exact h.2.2.2.2.2.1 | exact h.2.2.2.2.2.2)))
set_option maxHeartbeats 4000000 in
theorem lo93_5 : LoopOk Tryz.prog gdS (RetAt Tryz.prog Tryz.f93 (Rsh.one (none)) none ty4) (bodyAt (bodyOf Tryz.f93) [0]) LS93_5 :=
  loop_run (ctxOkF gokGmT0 []) (L := lookL []) (d := BOut.brk (Ty.dflt ty101) (Ty.dflt ty3)) (loops_of (l := []) (by kernel_rfl) (loops_nil)) (fun k x fk fx h => slim_of (S := (((decide (x < (7 : Int))) = true → (0 ≤ x ∧ x < ((k).length : Int))))) (by kernel_rfl) (by
  try dsimp only [Ty.den] at *
  simp only [Sp.in93_5, Fit, maxLen] at h fk fx
  simp only [IntKind.wrap_i64, IntKind.wrap_u8, IntKind.wrap_u32, IntKind.wrap_u64, Sp.tmod_lit, Sp.tdiv_lit, bne_eq_false_iff_eq, Int.natCast_inj, setE, copyL, sliceL, zrow, List.length_append, List.length_cons, List.length_nil, List.length_set, List.length_replicate, List.length_take, List.length_drop, decide_eq_true_eq, decide_eq_false_iff_not, Bool.or_eq_true, Bool.and_eq_true, Bool.or_eq_false_iff, Bool.and_eq_false_iff, Bool.not_eq_true', Bool.not_eq_false', Bool.not_eq_true, Bool.not_eq_false, beq_iff_eq, beq_eq_false_iff_ne, bne_iff_ne, ne_eq, implies_true, and_true, true_and] at *
  all_goals ((repeat' (first | exact trivial | apply And.intro | intro _)) <;> first | trivial | omega | exact Sp.tmod_nn (by omega) | exact Sp.tmod_lt (by omega) (by omega)))) (fun k x => by kernel_rfl) so93_5
def ct93 : Ct := { p := (Ty.pair ty27 ty53), psh := [some 8, some 9], r := ty4, rsh := (Rsh.one (none)), pre := none, fresh := none, F := Sp.F93 }
theorem ok93 : CtOk Tryz.prog gdS 93 ct93 :=
  fn_okU (ctxOkF gokGmT0 []) rfl Tryz.func93 (p := (Ty.pair ty27 ty53)) (psh := [some 8, some 9]) (r := ty4) (rsh := (Rsh.one (none))) (pre := none) (fresh := none) (F := Sp.F93) (L := (lookL [(5, LS93_5)])) (c := bodyOf Tryz.f93) (dflt := Ty.dflt ty4) rfl (loops_of (l := [bodyAt (bodyOf Tryz.f93) [0]]) (by kernel_rfl) (loops_cons (s0 := LS93_5) (by kernel_rfl) lo93_5 (loops_nil)))
    (fun x fx _ => slim_of (S := ((((decide (x.2.2.2.2.1 < (0 : Int))) || (decide (x.2.2.2.2.1 > (10000 : Int)))) = false → (Sp.in93_5 [x.2.1, x.2.2.1, x.2.2.2.1, x.2.2.2.2.2.1, x.2.2.2.2.2.2.1, x.2.2.2.2.2.2.2.1, x.2.2.2.2.2.2.2.2.1, (IntKind.i64.wrap (x.2.2.2.2.1 + (1 : Int)))] (0 : Int))))) (by kernel_rfl) (by
  try dsimp only [Ty.den] at *
  simp only [Fit, maxLen] at fx
  simp only [Sp.in93_5, IntKind.wrap_i64, IntKind.wrap_u8, IntKind.wrap_u32, IntKind.wrap_u64, Sp.tmod_lit, Sp.tdiv_lit, bne_eq_false_iff_eq, Int.natCast_inj, setE, copyL, sliceL, zrow, List.length_append, List.length_cons, List.length_nil, List.length_set, List.length_replicate, List.length_take, List.length_drop, decide_eq_true_eq, decide_eq_false_iff_not, Bool.or_eq_true, Bool.and_eq_true, Bool.or_eq_false_iff, Bool.and_eq_false_iff, Bool.not_eq_true', Bool.not_eq_false', Bool.not_eq_true, Bool.not_eq_false, beq_iff_eq, beq_eq_false_iff_ne, bne_iff_ne, ne_eq, implies_true, and_true, true_and] at *
  all_goals ((repeat' (first | exact trivial | apply And.intro | intro _)) <;> first | trivial | omega | exact Sp.tmod_nn (by omega) | exact Sp.tmod_lt (by omega) (by omega)))) (fun x => by kernel_rfl)
def GmT1 : List (Nat × Ct) := (80, ct80) :: (93, ct93) :: GmT0
theorem gokGmT1 : GOk GmT1 := gok_cons ok80 ⟨_, Tryz.func80, by kernel_rfl, by kernel_rfl⟩ (gok_cons ok93 ⟨_, Tryz.func93, by kernel_rfl, by kernel_rfl⟩ (gokGmT0))
end Go.Proofs.YtngbcgnihbjfnaaGreatDoor.Sy
end

section
/- Contracts of functions, by the evaluator (own program gen.py): building.Valid, overlayref01.Valid. -/
set_option linter.unusedVariables false
set_option linter.unusedSimpArgs false
set_option maxRecDepth 100000
namespace Go.Proofs.YtngbcgnihbjfnaaGreatDoor.Sp
open Go Go.RowKit Sy
def in60_7 (k : ((List (Int × Int × Int × Int × Int × Int × Int × Int × Int)) × Int × Int × Int × Int × Int × Nat × Nat × Nat × List (Int × Int × Int × Int × Int × Int × Int × Int × Int))) (x : (Bool × Int)) : Prop := (0 : Int) ≤ x.2 ∧ k.2.1 = ((k.1).length : Int)
def mu60_7 (k : ((List (Int × Int × Int × Int × Int × Int × Int × Int × Int)) × Int × Int × Int × Int × Int × Nat × Nat × Nat × List (Int × Int × Int × Int × Int × Int × Int × Int × Int))) (x : (Bool × Int)) : Nat := (k.2.1 - x.2).toNat
def st60_7 (k : ((List (Int × Int × Int × Int × Int × Int × Int × Int × Int)) × Int × Int × Int × Int × Int × Nat × Nat × Nat × List (Int × Int × Int × Int × Int × Int × Int × Int × Int))) (x : (Bool × Int)) : BOut ((List (Int × Int × Int × Int × Int × Int × Int × Int × Int)) × Int × Int × Int × Int × Int × Nat × Nat × Nat × List (Int × Int × Int × Int × Int × Int × Int × Int × Int)) (Bool × Int) (Int) :=
  bif (decide (x.2 < k.2.1)) then
    BOut.next k ((x.1 && (Sp.F80 ((Sp.nthT k.1 x.2), k.2.2.1))), (IntKind.i64.wrap (x.2 + (1 : Int))))
  else
    BOut.brk k x
def G60_7 (k : ((List (Int × Int × Int × Int × Int × Int × Int × Int × Int)) × Int × Int × Int × Int × Int × Nat × Nat × Nat × List (Int × Int × Int × Int × Int × Int × Int × Int × Int))) (x : (Bool × Int)) : (Bool × Int) := endOf st60_7 k (Nat.succ (mu60_7 k x)) x
def F60 (x : Int × Int × Int × Int × Nat × Nat × Nat × List (Int × Int × Int × Int × Int × Int × Int × Int × Int)) : Int :=
  bif (!(Sp.F79 ((2 : Int), (32 : Int), [x.1]))) then
    (10 : Int)
  else
    bif (!(Sp.F79 ((1 : Int), (8 : Int), [((x.2.2.2.2.2.2.2).length : Int)]))) then
      (11 : Int)
    else
      bif (!((Sp.G60_7 (x.2.2.2.2.2.2.2, ((x.2.2.2.2.2.2.2).length : Int), x) (((Sp.F79 ((1 : Int), (16 : Int), [x.2.1])) && (Sp.F79 ((1 : Int), (10000 : Int), [x.2.2.2.1]))), (0 : Int))).1)) then
        (12 : Int)
      else
        bif (!(Sp.F81 x)) then
          (13 : Int)
        else
          bif (!(Sp.F79 ((IntKind.i64.wrap ((IntKind.i64.wrap ((18 : Int) * ((x.2.2.2.2.2.2.2).length : Int))) + (24 : Int))), (65536 : Int), [x.2.2.1]))) then
            (14 : Int)
          else
            (0 : Int)
def in69_7 (k : (Int × Int × Int × Int × Nat × Nat × Nat × List (Int × Int × Int × Int × Int × Int × Int × Int × Int))) (x : (Bool × Int)) : Prop := (0 : Int) ≤ x.2
def mu69_7 (k : (Int × Int × Int × Int × Nat × Nat × Nat × List (Int × Int × Int × Int × Int × Int × Int × Int × Int))) (x : (Bool × Int)) : Nat := (((k.2.2.2.2.2.2.2).length : Int) - x.2).toNat
def st69_7 (k : (Int × Int × Int × Int × Nat × Nat × Nat × List (Int × Int × Int × Int × Int × Int × Int × Int × Int))) (x : (Bool × Int)) : BOut (Int × Int × Int × Int × Nat × Nat × Nat × List (Int × Int × Int × Int × Int × Int × Int × Int × Int)) (Bool × Int) (Int) :=
  bif (decide (x.2 < ((k.2.2.2.2.2.2.2).length : Int))) then
    BOut.next k ((x.1 && (Sp.F93 (k, (Sp.nthT k.2.2.2.2.2.2.2 x.2)))), (IntKind.i64.wrap (x.2 + (1 : Int))))
  else
    BOut.brk k x
def G69_7 (k : (Int × Int × Int × Int × Nat × Nat × Nat × List (Int × Int × Int × Int × Int × Int × Int × Int × Int))) (x : (Bool × Int)) : (Bool × Int) := endOf st69_7 k (Nat.succ (mu69_7 k x)) x
def F69 (x : Int × Int × Int × Int × Nat × Nat × Nat × List (Int × Int × Int × Int × Int × Int × Int × Int × Int)) : Int :=
  bif (!(Sp.F92 (x.1, (2 : Int), (32 : Int)))) then
    (10 : Int)
  else
    bif (!(Sp.F92 (((x.2.2.2.2.2.2.2).length : Int), (1 : Int), (8 : Int)))) then
      (11 : Int)
    else
      bif (!((Sp.G69_7 x (((Sp.F92 (x.2.1, (1 : Int), (16 : Int))) && (Sp.F92 (x.2.2.2.1, (1 : Int), (10000 : Int)))), (0 : Int))).1)) then
        (12 : Int)
      else
        bif (!(((((FloatKind.f64.format.order (0 : Nat) x.2.2.2.2.1) == some Ordering.lt) && ((FloatKind.f64.format.order x.2.2.2.2.1 x.2.2.2.2.2.1) == some Ordering.lt)) && ((FloatKind.f64.format.order x.2.2.2.2.2.1 x.2.2.2.2.2.2.1) == some Ordering.lt)) && ((FloatKind.f64.format.order x.2.2.2.2.2.2.1 (9218868437227405311 : Nat)) == some Ordering.lt || (FloatKind.f64.format.order x.2.2.2.2.2.2.1 (9218868437227405311 : Nat)) == some Ordering.eq))) then
          (13 : Int)
        else
          bif (!(Sp.F92 (x.2.2.1, (IntKind.i64.wrap ((IntKind.i64.wrap ((18 : Int) * ((x.2.2.2.2.2.2.2).length : Int))) + (24 : Int))), (65536 : Int)))) then
            (14 : Int)
          else
            (0 : Int)
end Go.Proofs.YtngbcgnihbjfnaaGreatDoor.Sp
namespace Go.Proofs.YtngbcgnihbjfnaaGreatDoor.Sy
open Go Go.RowKit Sp
def LS60_7 : LS ty45.den := mkLS (Ty.pair ty25 (Ty.pair ty3 ty27)) (Ty.pair ty4 ty3)  [(28, none), (29, none)] [(1, 8)] [(3, none), (30, none)] [] [] [] [(1, 1)] 0 false Sp.in60_7 Sp.st60_7 Sp.mu60_7
set_option maxHeartbeats 4000000 in
theorem so60_7 (k : (Ty.pair ty25 (Ty.pair ty3 ty27)).den) (x : (Ty.pair ty4 ty3).den) (fk : Fit (Ty.pair ty25 (Ty.pair ty3 ty27)) k) (h : Sp.in60_7 k x) : StepOk false Sp.in60_7 Sp.mu60_7 k x (Sp.st60_7 k x) := by
  try dsimp only [Ty.den] at *
  simp only [Sp.in60_7, Fit, maxLen] at h fk
  unfold Sp.st60_7
  (repeat' (first | exact rfl | (refine StepOk.cnd (fun hc => ?_) (fun hc => ?_) <;> (try simp only [IntKind.wrap_i64, IntKind.wrap_u8, IntKind.wrap_u32, IntKind.wrap_u64, bne_eq_false_iff_eq, Int.natCast_inj, setE, copyL, sliceL, zrow, List.length_append, List.length_cons, List.length_nil, List.length_set, List.length_replicate, List.length_take, List.length_drop, decide_eq_true_eq, decide_eq_false_iff_not, Bool.or_eq_true, Bool.and_eq_true, Bool.or_eq_false_iff, Bool.and_eq_false_iff, Bool.not_eq_true', Bool.not_eq_false', Bool.not_eq_true, Bool.not_eq_false, beq_iff_eq, beq_eq_false_iff_ne, bne_iff_ne, ne_eq] at hc)) | refine StepOk.opt (fun _ => ?_))) <;> (first | exact rfl | (refine ⟨rfl, ?_, ?_⟩ <;> simp only [Sp.in60_7, Sp.mu60_7, IntKind.wrap_i64, IntKind.wrap_u8, IntKind.wrap_u32, IntKind.wrap_u64, Sp.tmod_lit, Sp.tdiv_lit, bne_eq_false_iff_eq, Int.natCast_inj, setE, copyL, sliceL, zrow, List.length_append, List.length_cons, List.length_nil, List.length_set, List.length_replicate, List.length_take, List.length_drop, decide_eq_true_eq, decide_eq_false_iff_not, Bool.or_eq_true, Bool.and_eq_true, Bool.or_eq_false_iff, Bool.and_eq_false_iff, Bool.not_eq_true', Bool.not_eq_false', Bool.not_eq_true, Bool.not_eq_false, beq_iff_eq, beq_eq_false_iff_ne, bne_iff_ne, ne_eq] <;> first | omega | (and_intros <;> first | omega | exact h.1 | exact h.2 | exact h.2.1 | exact h.2.2 | exact h.2.2.1 | exact h.2.2.2 | exact h.2.2.2.1 | exact h.2.2.2.2 | exact h.2.2.2.2.1 | exact h.2.2.2.2.2 | exact h.2.2.2.2.2.1 | exact h.2.2.2.2.2.2)))
set_option maxHeartbeats 4000000 in
theorem lo60_7 : LoopOk Tryz.prog gdS (RetAt Tryz.prog Tryz.f60 (Rsh.one (none)) none ty45) (bodyAt (bodyOf Tryz.f60) [0]) LS60_7 :=
  loop_run (ctxOkF gokGmT1 []) (L := lookL []) (d := BOut.brk (Ty.dflt (Ty.pair ty25 (Ty.pair ty3 ty27))) (Ty.dflt (Ty.pair ty4 ty3))) (loops_of (l := []) (by kernel_rfl) (loops_nil)) (fun k x fk fx h => slim_of (S := (((decide (x.2 < k.2.1)) = true → (0 ≤ x.2 ∧ x.2 < ((k.1).length : Int))))) (by kernel_rfl) (by
  try dsimp only [Ty.den] at *
  simp only [Sp.in60_7, Fit, maxLen] at h fk fx
  simp only [IntKind.wrap_i64, IntKind.wrap_u8, IntKind.wrap_u32, IntKind.wrap_u64, Sp.tmod_lit, Sp.tdiv_lit, bne_eq_false_iff_eq, Int.natCast_inj, setE, copyL, sliceL, zrow, List.length_append, List.length_cons, List.length_nil, List.length_set, List.length_replicate, List.length_take, List.length_drop, decide_eq_true_eq, decide_eq_false_iff_not, Bool.or_eq_true, Bool.and_eq_true, Bool.or_eq_false_iff, Bool.and_eq_false_iff, Bool.not_eq_true', Bool.not_eq_false', Bool.not_eq_true, Bool.not_eq_false, beq_iff_eq, beq_eq_false_iff_ne, bne_iff_ne, ne_eq, implies_true, and_true, true_and] at *
  all_goals ((repeat' (first | exact trivial | apply And.intro | intro _)) <;> first | trivial | omega | exact Sp.tmod_nn (by omega) | exact Sp.tmod_lt (by omega) (by omega)))) (fun k x => by kernel_rfl) so60_7
def ct60 : Ct := { p := ty27, psh := [some 8], r := ty45, rsh := (Rsh.one (none)), pre := none, fresh := none, F := Sp.F60 }
theorem ok60 : CtOk Tryz.prog gdS 60 ct60 :=
  fn_okU (ctxOkF gokGmT1 []) rfl Tryz.func60 (p := ty27) (psh := [some 8]) (r := ty45) (rsh := (Rsh.one (none))) (pre := none) (fresh := none) (F := Sp.F60) (L := (lookL [(7, LS60_7)])) (c := bodyOf Tryz.f60) (dflt := Ty.dflt ty45) rfl (loops_of (l := [bodyAt (bodyOf Tryz.f60) [0]]) (by kernel_rfl) (loops_cons (s0 := LS60_7) (by kernel_rfl) lo60_7 (loops_nil)))
    (fun x fx _ => slim_of (S := (((!(Sp.F79 ((2 : Int), (32 : Int), [x.1]))) = false → ((!(Sp.F79 ((1 : Int), (8 : Int), [((x.2.2.2.2.2.2.2).length : Int)]))) = false → (Sp.in60_7 (x.2.2.2.2.2.2.2, ((x.2.2.2.2.2.2.2).length : Int), x) (((Sp.F79 ((1 : Int), (16 : Int), [x.2.1])) && (Sp.F79 ((1 : Int), (10000 : Int), [x.2.2.2.1]))), (0 : Int))))))) (by kernel_rfl) (by
  try dsimp only [Ty.den] at *
  simp only [Fit, maxLen] at fx
  simp only [Sp.in60_7, IntKind.wrap_i64, IntKind.wrap_u8, IntKind.wrap_u32, IntKind.wrap_u64, Sp.tmod_lit, Sp.tdiv_lit, bne_eq_false_iff_eq, Int.natCast_inj, setE, copyL, sliceL, zrow, List.length_append, List.length_cons, List.length_nil, List.length_set, List.length_replicate, List.length_take, List.length_drop, decide_eq_true_eq, decide_eq_false_iff_not, Bool.or_eq_true, Bool.and_eq_true, Bool.or_eq_false_iff, Bool.and_eq_false_iff, Bool.not_eq_true', Bool.not_eq_false', Bool.not_eq_true, Bool.not_eq_false, beq_iff_eq, beq_eq_false_iff_ne, bne_iff_ne, ne_eq, implies_true, and_true, true_and] at *
  all_goals ((repeat' (first | exact trivial | apply And.intro | intro _)) <;> first | trivial | omega | exact Sp.tmod_nn (by omega) | exact Sp.tmod_lt (by omega) (by omega)))) (fun x => by kernel_rfl)
def LS69_7 : LS ty45.den := mkLS ty27 (Ty.pair ty4 ty3)  [] [(1, 8)] [(3, none), (4, none)] [] [] [] [(1, 1)] 0 false Sp.in69_7 Sp.st69_7 Sp.mu69_7
set_option maxHeartbeats 4000000 in
theorem so69_7 (k : ty27.den) (x : (Ty.pair ty4 ty3).den) (fk : Fit ty27 k) (h : Sp.in69_7 k x) : StepOk false Sp.in69_7 Sp.mu69_7 k x (Sp.st69_7 k x) := by
  try dsimp only [Ty.den] at *
  simp only [Sp.in69_7, Fit, maxLen] at h fk
  unfold Sp.st69_7
  (repeat' (first | exact rfl | (refine StepOk.cnd (fun hc => ?_) (fun hc => ?_) <;> (try simp only [IntKind.wrap_i64, IntKind.wrap_u8, IntKind.wrap_u32, IntKind.wrap_u64, bne_eq_false_iff_eq, Int.natCast_inj, setE, copyL, sliceL, zrow, List.length_append, List.length_cons, List.length_nil, List.length_set, List.length_replicate, List.length_take, List.length_drop, decide_eq_true_eq, decide_eq_false_iff_not, Bool.or_eq_true, Bool.and_eq_true, Bool.or_eq_false_iff, Bool.and_eq_false_iff, Bool.not_eq_true', Bool.not_eq_false', Bool.not_eq_true, Bool.not_eq_false, beq_iff_eq, beq_eq_false_iff_ne, bne_iff_ne, ne_eq] at hc)) | refine StepOk.opt (fun _ => ?_))) <;> (first | exact rfl | (refine ⟨rfl, ?_, ?_⟩ <;> simp only [Sp.in69_7, Sp.mu69_7, IntKind.wrap_i64, IntKind.wrap_u8, IntKind.wrap_u32, IntKind.wrap_u64, Sp.tmod_lit, Sp.tdiv_lit, bne_eq_false_iff_eq, Int.natCast_inj, setE, copyL, sliceL, zrow, List.length_append, List.length_cons, List.length_nil, List.length_set, List.length_replicate, List.length_take, List.length_drop, decide_eq_true_eq, decide_eq_false_iff_not, Bool.or_eq_true, Bool.and_eq_true, Bool.or_eq_false_iff, Bool.and_eq_false_iff, Bool.not_eq_true', Bool.not_eq_false', Bool.not_eq_true, Bool.not_eq_false, beq_iff_eq, beq_eq_false_iff_ne, bne_iff_ne, ne_eq] <;> first | omega | (and_intros <;> first | omega | exact h.1 | exact h.2 | exact h.2.1 | exact h.2.2 | exact h.2.2.1 | exact h.2.2.2 | exact h.2.2.2.1 | exact h.2.2.2.2 | exact h.2.2.2.2.1 | exact h.2.2.2.2.2 | exact h.2.2.2.2.2.1 | exact h.2.2.2.2.2.2)))
set_option maxHeartbeats 4000000 in
theorem lo69_7 : LoopOk Tryz.prog gdS (RetAt Tryz.prog Tryz.f69 (Rsh.one (none)) none ty45) (bodyAt (bodyOf Tryz.f69) [0]) LS69_7 :=
  loop_run (ctxOkF gokGmT1 []) (L := lookL []) (d := BOut.brk (Ty.dflt ty27) (Ty.dflt (Ty.pair ty4 ty3))) (loops_of (l := []) (by kernel_rfl) (loops_nil)) (fun k x fk fx h => slim_of (S := (((decide (x.2 < ((k.2.2.2.2.2.2.2).length : Int))) = true → ((x.1 = true → 0 ≤ x.2 ∧ x.2 < ((k.2.2.2.2.2.2.2).length : Int)))))) (by kernel_rfl) (by
  try dsimp only [Ty.den] at *
  simp only [Sp.in69_7, Fit, maxLen] at h fk fx
  simp only [IntKind.wrap_i64, IntKind.wrap_u8, IntKind.wrap_u32, IntKind.wrap_u64, Sp.tmod_lit, Sp.tdiv_lit, bne_eq_false_iff_eq, Int.natCast_inj, setE, copyL, sliceL, zrow, List.length_append, List.length_cons, List.length_nil, List.length_set, List.length_replicate, List.length_take, List.length_drop, decide_eq_true_eq, decide_eq_false_iff_not, Bool.or_eq_true, Bool.and_eq_true, Bool.or_eq_false_iff, Bool.and_eq_false_iff, Bool.not_eq_true', Bool.not_eq_false', Bool.not_eq_true, Bool.not_eq_false, beq_iff_eq, beq_eq_false_iff_ne, bne_iff_ne, ne_eq, implies_true, and_true, true_and] at *
  all_goals ((repeat' (first | exact trivial | apply And.intro | intro _)) <;> first | trivial | omega | exact Sp.tmod_nn (by omega) | exact Sp.tmod_lt (by omega) (by omega)))) (fun k x => by kernel_rfl) so69_7
def ct69 : Ct := { p := ty27, psh := [some 8], r := ty45, rsh := (Rsh.one (none)), pre := none, fresh := none, F := Sp.F69 }
theorem ok69 : CtOk Tryz.prog gdS 69 ct69 :=
  fn_okU (ctxOkF gokGmT1 []) rfl Tryz.func69 (p := ty27) (psh := [some 8]) (r := ty45) (rsh := (Rsh.one (none))) (pre := none) (fresh := none) (F := Sp.F69) (L := (lookL [(7, LS69_7)])) (c := bodyOf Tryz.f69) (dflt := Ty.dflt ty45) rfl (loops_of (l := [bodyAt (bodyOf Tryz.f69) [0]]) (by kernel_rfl) (loops_cons (s0 := LS69_7) (by kernel_rfl) lo69_7 (loops_nil)))
    (fun x fx _ => slim_of (S := (((!(Sp.F92 (x.1, (2 : Int), (32 : Int)))) = false → ((!(Sp.F92 (((x.2.2.2.2.2.2.2).length : Int), (1 : Int), (8 : Int)))) = false → (Sp.in69_7 x (((Sp.F92 (x.2.1, (1 : Int), (16 : Int))) && (Sp.F92 (x.2.2.2.1, (1 : Int), (10000 : Int)))), (0 : Int))))))) (by kernel_rfl) (by
  try dsimp only [Ty.den] at *
  simp only [Fit, maxLen] at fx
  simp only [Sp.in69_7, IntKind.wrap_i64, IntKind.wrap_u8, IntKind.wrap_u32, IntKind.wrap_u64, Sp.tmod_lit, Sp.tdiv_lit, bne_eq_false_iff_eq, Int.natCast_inj, setE, copyL, sliceL, zrow, List.length_append, List.length_cons, List.length_nil, List.length_set, List.length_replicate, List.length_take, List.length_drop, decide_eq_true_eq, decide_eq_false_iff_not, Bool.or_eq_true, Bool.and_eq_true, Bool.or_eq_false_iff, Bool.and_eq_false_iff, Bool.not_eq_true', Bool.not_eq_false', Bool.not_eq_true, Bool.not_eq_false, beq_iff_eq, beq_eq_false_iff_ne, bne_iff_ne, ne_eq, implies_true, and_true, true_and] at *
  all_goals ((repeat' (first | exact trivial | apply And.intro | intro _)) <;> first | trivial | omega | exact Sp.tmod_nn (by omega) | exact Sp.tmod_lt (by omega) (by omega)))) (fun x => by kernel_rfl)
def GmT2 : List (Nat × Ct) := (60, ct60) :: (69, ct69) :: GmT1
theorem gokGmT2 : GOk GmT2 := gok_cons ok60 ⟨_, Tryz.func60, by kernel_rfl, by kernel_rfl⟩ (gok_cons ok69 ⟨_, Tryz.func69, by kernel_rfl, by kernel_rfl⟩ (gokGmT1))
end Go.Proofs.YtngbcgnihbjfnaaGreatDoor.Sy
end

section
/- What building's smallest functions say (own work). -/
namespace Go.Proofs.YtngbcgnihbjfnaaGreatDoor.Sp
open Go Sy
set_option linter.unusedVariables false
set_option linter.unusedSimpArgs false
theorem within_eq (lo hi : Int) (l : List Int) (hl : l.length ≤ maxLen) : F79 (lo, hi, l) = l.all fun n => decide (lo ≤ n) && decide (n ≤ hi) := by
  unfold F79
  rw [← findSome_all]
  congr 1
  simp only [R79_2]
  rw [← findSome_range l]
  have := ret_row (step := st79_2) (k := (lo, hi, l, (l.length : Int))) (fun i => (i : Int)) (fun i => (fun n => if (decide (lo ≤ n) && decide (n ≤ hi)) = true then none else some false) (nthT l (i : Int))) l.length (fun i hi' => ?_) (k' := (lo, hi, l, (l.length : Int))) (y := (l.length : Int)) ?_ (fuel := Nat.succ (mu79_2 (lo, hi, l, (l.length : Int)) 0)) ?_
  · exact this
  · simp only [maxLen] at hl
    by_cases h : (decide (lo ≤ nthT l (i : Int)) && decide (nthT l (i : Int) ≤ hi)) = true
    · simp only [h, if_true]
      refine ⟨(lo, hi, l, (l.length : Int)), ?_⟩
      simp only [Bool.and_eq_true, decide_eq_true_eq] at h
      have h1 : ¬ nthT l (i : Int) < lo := by omega
      have h2 : ¬ nthT l (i : Int) > hi := by omega
      have h3 : IntKind.i64.wrap ((i : Int) + 1) = ((i + 1 : Nat) : Int) := by rw [IntKind.wrap_i64]; omega
      simp [st79_2, hi', h1, h2, h3]
    · simp only [h]
      simp only [Bool.and_eq_true, decide_eq_true_eq] at h
      have h1 : nthT l (i : Int) < lo ∨ nthT l (i : Int) > hi := by omega
      have h2 : (decide (nthT l (i : Int) < lo) || decide (nthT l (i : Int) > hi)) = true := by simpa using h1
      simp only [st79_2]
      have h3 : decide ((i : Int) < (l.length : Int)) = true := by simp; omega
      rw [h3, h2]; rfl
  · simp [st79_2]
  · simp [mu79_2]
theorem within_one (lo hi n : Int) : F79 (lo, hi, [n]) = (decide (lo ≤ n) && decide (n ≤ hi)) := by
  rw [within_eq _ _ _ (by simp [maxLen])]; simp
end Go.Proofs.YtngbcgnihbjfnaaGreatDoor.Sp
end
