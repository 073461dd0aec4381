/- Own texts joined by pk.py. -/
import Derived.Test.YtpbljgpdhllklaaDoorProg
import Derived.Lib.Tables
import Derived.Test.YtpbljgpdhllklaaDoorJ5abfe668
import Derived.WalkKit
import Derived.WalkSpells
import Derived.WalkLawsBesides
import Derived.Handy
import Derived.Outline
import Derived.BigQuiet
import Derived.RegionTactic
import Derived.ChangeAlike
import Derived.Lib.Hide
import Derived.ProofKit
import Derived.OpenShut
import Derived.Deep.Slices
import Derived.Laws.Cover2
import Derived.Below
import Derived.Carry
import Derived.ChangeOld
import Derived.Test.YtpbljgpdhllklaaDoorChecked
import Derived.Lib.TrailingZeros
import Derived.Lib.BitFns
section
/- The types of this seat, for the evaluator; written by own program mktab.py. -/
namespace Go.Proofs.YtpbljgpdhllklaaDoor.Sy
open Go
set_option linter.unusedVariables false
set_option linter.unusedSimpArgs false

abbrev ty3 : Ty := (.int .i64)
abbrev ty4 : Ty := .bool
abbrev ty5 : Ty := (.int .u8)
abbrev ty9 : Ty := .str
abbrev ty22 : Ty := (.pair (.int .u8) (.int .u8))
abbrev ty23 : Ty := (.sl (.int .u8))
abbrev ty24 : Ty := (.int .u32)
abbrev ty26 : Ty := (.pair (.int .u32) (.int .u32))
abbrev ty28 : Ty := (.pair (.int .i64) (.pair (.int .i64) (.pair (.int .i64) (.pair (.int .i64) (.pair (.int .i64) (.pair (.int .i64) (.pair (.pair (.int .u32) (.int .u32)) (.int .u32))))))))
abbrev ty29 : Ty := (.flt .f64)
abbrev ty30 : Ty := (.sl (.pair (.int .i64) (.pair (.int .i64) (.pair (.int .i64) (.pair (.int .i64) (.pair (.int .i64) (.pair (.int .i64) (.pair (.int .i64) (.pair (.int .i64) (.int .i64))))))))))
abbrev ty32 : Ty := (.pair (.int .i64) (.pair (.int .i64) (.pair (.int .i64) (.pair (.int .i64) (.pair (.flt .f64) (.pair (.flt .f64) (.pair (.flt .f64) (.sl (.pair (.int .i64) (.pair (.int .i64) (.pair (.int .i64) (.pair (.int .i64) (.pair (.int .i64) (.pair (.int .i64) (.pair (.int .i64) (.pair (.int .i64) (.int .i64)))))))))))))))))
abbrev ty34 : Ty := (.int .u64)
abbrev ty35 : Ty := (.sl (.int .i64))
abbrev ty37 : Ty := (.sl (.pair (.int .i64) (.pair (.int .i64) (.pair (.int .i64) (.pair (.int .i64) (.pair (.int .i64) (.pair (.int .i64) (.pair (.pair (.int .u32) (.int .u32)) (.int .u32)))))))))
abbrev ty45 : Ty := (.pair (.int .u8) (.pair (.int .u8) (.int .u8)))
abbrev ty49 : Ty := (.pair (.int .i64) (.pair (.int .i64) (.int .i64)))
abbrev ty52 : Ty := (.pair (.int .u32) (.pair .bool (.pair .bool (.pair .bool .bool))))
abbrev ty58 : Ty := (.sl (.pair (.pair (.int .i64) (.pair .bool (.pair (.int .i64) .bool))) (.pair (.int .u32) (.pair (.int .u32) (.int .u32)))))
abbrev ty60 : Ty := (.pair (.int .i64) (.int .i64))
abbrev ty62 : Ty := (.pair (.int .i64) (.pair (.int .i64) (.pair (.int .i64) (.pair .bool (.int .i64)))))
abbrev ty64 : Ty := (.pair (.int .i64) (.pair (.int .i64) (.int .i64)))
abbrev ty66 : Ty := (.pair (.pair (.int .i64) (.int .i64)) (.pair (.pair (.int .i64) (.pair (.int .i64) (.pair (.int .i64) (.pair .bool (.int .i64))))) (.pair (.pair (.int .i64) (.pair (.int .i64) (.int .i64))) (.pair (.int .u32) (.pair (.int .i64) (.pair (.int .i64) .bool))))))
abbrev ty68 : Ty := (.pair (.int .i64) (.pair .bool (.pair (.int .i64) .bool)))
abbrev ty70 : Ty := (.pair (.pair (.int .i64) (.pair .bool (.pair (.int .i64) .bool))) (.pair (.int .u32) (.pair (.int .u32) (.int .u32))))
abbrev ty71 : Ty := (.int .i64)
abbrev ty76 : Ty := (.pair (.int .i64) (.pair (.int .i64) (.pair (.int .i64) (.pair (.int .i64) (.pair (.int .i64) (.pair (.int .i64) (.pair (.int .i64) (.pair (.int .i64) (.int .i64)))))))))
abbrev ty93 : Ty := (.pair (.int .i64) (.pair (.int .i64) (.pair (.int .i64) (.int .i64))))
abbrev ty96 : Ty := (.pair (.int .i64) (.pair (.int .i64) (.pair (.int .i64) (.pair (.int .i64) (.pair (.int .i64) (.int .i64))))))
abbrev ty106 : Ty := (.pair (.pair (.int .i64) (.pair (.int .i64) (.pair (.int .i64) (.pair (.int .i64) (.pair (.flt .f64) (.pair (.flt .f64) (.pair (.flt .f64) (.sl (.pair (.int .i64) (.pair (.int .i64) (.pair (.int .i64) (.pair (.int .i64) (.pair (.int .i64) (.pair (.int .i64) (.pair (.int .i64) (.pair (.int .i64) (.int .i64))))))))))))))))) (.pair (.int .i64) (.pair (.pair (.pair (.int .i64) (.int .i64)) (.pair (.pair (.int .i64) (.pair (.int .i64) (.pair (.int .i64) (.pair .bool (.int .i64))))) (.pair (.pair (.int .i64) (.pair (.int .i64) (.int .i64))) (.pair (.int .u32) (.pair (.int .i64) (.pair (.int .i64) .bool)))))) (.pair (.pair (.int .i64) (.pair .bool (.pair (.int .i64) .bool))) (.int .i64)))))
abbrev ty113 : Ty := (.int .u64)
abbrev ty117 : Ty := (.pair (.int .u32) (.pair (.int .u32) (.int .u32)))
abbrev ty119 : Ty := (.pair (.int .i64) (.pair (.int .i64) (.int .i64)))
abbrev ty137 : Ty := (.pair .bool (.pair .bool (.pair .bool (.pair .bool (.pair .bool (.int .i64))))))
abbrev ty145 : Ty := (.pair (.int .u8) (.pair (.int .u8) (.pair (.int .u8) (.pair (.int .u8) (.pair (.int .u8) (.pair (.int .u8) (.pair (.int .u8) (.pair (.int .u8) (.pair (.int .u8) (.pair (.int .u8) (.pair (.int .u8) (.pair (.int .u8) (.pair (.int .u8) (.pair (.int .u8) (.pair (.int .u8) (.pair (.int .u8) (.pair (.int .u8) (.pair (.int .u8) (.pair (.int .u8) (.pair (.int .u8) (.pair (.int .u8) (.pair (.int .u8) (.pair (.int .u8) (.pair (.int .u8) (.pair (.int .u8) (.pair (.int .u8) (.pair (.int .u8) (.pair (.int .u8) (.pair (.int .u8) (.pair (.int .u8) (.pair (.int .u8) (.int .u8))))))))))))))))))))))))))))))))
abbrev ty159 : Ty := (.pair (.int .i64) (.pair (.int .i64) (.int .i64)))
abbrev ty166 : Ty := (.pair .bool (.pair .bool (.pair .bool (.pair (.int .i64) (.pair (.int .i64) (.int .i64))))))
abbrev ty170 : Ty := .fnt
abbrev ty172 : Ty := (.pair .fnt (.pair .fnt .fnt))
def td3 : TD := { kind := .prim, ty := ty3, agg := false, bytes := 8, eq := false }
def td4 : TD := { kind := .prim, ty := ty4, agg := false, bytes := 1, eq := false }
def td5 : TD := { kind := .prim, ty := ty5, agg := false, bytes := 1, eq := false }
def td9 : TD := { kind := .prim, ty := ty9, agg := false, bytes := 16, eq := false }
def td22 : TD := { kind := .array 2 5, ty := ty22, agg := true, bytes := 2, eq := false }
def td23 : TD := { kind := .slice 5, ty := ty23, agg := false, bytes := 24, eq := false }
def td24 : TD := { kind := .prim, ty := ty24, agg := false, bytes := 4, eq := false }
def td26 : TD := { kind := .struct [(24, 0), (24, 1)], ty := ty26, agg := true, bytes := 8, eq := true }
def td28 : TD := { kind := .struct [(3, 0), (3, 1), (3, 2), (3, 3), (3, 4), (3, 5), (26, 6), (24, 8)], ty := ty28, agg := true, bytes := 64, eq := true }
def td29 : TD := { kind := .prim, ty := ty29, agg := false, bytes := 8, eq := false }
def td30 : TD := { kind := .slice 76, ty := ty30, agg := false, bytes := 24, eq := false }
def td32 : TD := { kind := .struct [(3, 0), (3, 1), (3, 2), (3, 3), (29, 4), (29, 5), (29, 6), (30, 7)], ty := ty32, agg := true, bytes := 80, eq := false }
def td34 : TD := { kind := .prim, ty := ty34, agg := false, bytes := 8, eq := false }
def td35 : TD := { kind := .slice 3, ty := ty35, agg := false, bytes := 24, eq := false }
def td37 : TD := { kind := .slice 28, ty := ty37, agg := false, bytes := 24, eq := false }
def td45 : TD := { kind := .array 3 5, ty := ty45, agg := true, bytes := 3, eq := false }
def td49 : TD := { kind := .struct [(3, 0), (3, 1), (3, 2)], ty := ty49, agg := true, bytes := 24, eq := true }
def td52 : TD := { kind := .struct [(24, 0), (4, 1), (4, 2), (4, 3), (4, 4)], ty := ty52, agg := true, bytes := 8, eq := true }
def td58 : TD := { kind := .slice 70, ty := ty58, agg := false, bytes := 24, eq := false }
def td60 : TD := { kind := .struct [(3, 0), (3, 1)], ty := ty60, agg := true, bytes := 16, eq := true }
def td62 : TD := { kind := .struct [(3, 0), (3, 1), (3, 2), (4, 3), (3, 4)], ty := ty62, agg := true, bytes := 40, eq := true }
def td64 : TD := { kind := .struct [(3, 0), (3, 1), (3, 2)], ty := ty64, agg := true, bytes := 24, eq := true }
def td66 : TD := { kind := .struct [(60, 0), (62, 2), (64, 7), (24, 10), (3, 11), (3, 12), (4, 13)], ty := ty66, agg := true, bytes := 112, eq := true }
def td68 : TD := { kind := .struct [(3, 0), (4, 1), (3, 2), (4, 3)], ty := ty68, agg := true, bytes := 32, eq := true }
def td70 : TD := { kind := .struct [(68, 0), (24, 4), (26, 5)], ty := ty70, agg := true, bytes := 48, eq := true }
def td71 : TD := { kind := .prim, ty := ty71, agg := false, bytes := 8, eq := false }
def td76 : TD := { kind := .struct [(3, 0), (3, 1), (3, 2), (3, 3), (3, 4), (3, 5), (3, 6), (3, 7), (3, 8)], ty := ty76, agg := true, bytes := 72, eq := true }
def td93 : TD := { kind := .array 4 3, ty := ty93, agg := true, bytes := 32, eq := false }
def td96 : TD := { kind := .struct [(3, 0), (3, 1), (3, 2), (3, 3), (3, 4), (3, 5)], ty := ty96, agg := true, bytes := 48, eq := true }
def td106 : TD := { kind := .struct [(32, 0), (3, 8), (66, 9), (68, 23), (3, 27)], ty := ty106, agg := true, bytes := 240, eq := false }
def td113 : TD := { kind := .prim, ty := ty113, agg := false, bytes := 8, eq := false }
def td117 : TD := { kind := .struct [(24, 0), (26, 1)], ty := ty117, agg := true, bytes := 12, eq := true }
def td119 : TD := { kind := .struct [(3, 0), (3, 1), (3, 2)], ty := ty119, agg := true, bytes := 24, eq := true }
def td137 : TD := { kind := .struct [(4, 0), (4, 1), (4, 2), (4, 3), (4, 4), (3, 5)], ty := ty137, agg := true, bytes := 16, eq := true }
def td145 : TD := { kind := .array 32 5, ty := ty145, agg := true, bytes := 32, eq := false }
def td159 : TD := { kind := .array 3 3, ty := ty159, agg := true, bytes := 24, eq := false }
def td166 : TD := { kind := .struct [(4, 0), (4, 1), (4, 2), (3, 3), (3, 4), (3, 5)], ty := ty166, agg := true, bytes := 32, eq := true }
def td170 : TD := { kind := .prim, ty := ty170, agg := false, bytes := 8, eq := false }
def td172 : TD := { kind := .array 3 170, ty := ty172, agg := true, bytes := 24, eq := false }
def tabL : List (Nat × TD) := [(3, td3), (4, td4), (5, td5), (9, td9), (22, td22), (23, td23), (24, td24), (26, td26), (28, td28), (29, td29), (30, td30), (32, td32), (34, td34), (35, td35), (37, td37), (45, td45), (49, td49), (52, td52), (58, td58), (60, td60), (62, td62), (64, td64), (66, td66), (68, td68), (70, td70), (71, td71), (76, td76), (93, td93), (96, td96), (106, td106), (113, td113), (117, td117), (119, td119), (137, td137), (145, td145), (159, td159), (166, td166), (170, td170), (172, td172)]
theorem io3 : InfoOk Tryd.prog 3 ty3 false := infoOk_mk (by kernel_rfl)
theorem io4 : InfoOk Tryd.prog 4 ty4 false := infoOk_mk (by kernel_rfl)
theorem io5 : InfoOk Tryd.prog 5 ty5 false := infoOk_mk (by kernel_rfl)
theorem io9 : InfoOk Tryd.prog 9 ty9 false := infoOk_mk (by kernel_rfl)
theorem io22 : InfoOk Tryd.prog 22 ty22 true := infoOk_mk (by kernel_rfl)
theorem io23 : InfoOk Tryd.prog 23 ty23 false := infoOk_mk (by kernel_rfl)
theorem io24 : InfoOk Tryd.prog 24 ty24 false := infoOk_mk (by kernel_rfl)
theorem io26 : InfoOk Tryd.prog 26 ty26 true := infoOk_mk (by kernel_rfl)
theorem io28 : InfoOk Tryd.prog 28 ty28 true := infoOk_mk (by kernel_rfl)
theorem io29 : InfoOk Tryd.prog 29 ty29 false := infoOk_mk (by kernel_rfl)
theorem io30 : InfoOk Tryd.prog 30 ty30 false := infoOk_mk (by kernel_rfl)
theorem io32 : InfoOk Tryd.prog 32 ty32 true := infoOk_mk (by kernel_rfl)
theorem io34 : InfoOk Tryd.prog 34 ty34 false := infoOk_mk (by kernel_rfl)
theorem io35 : InfoOk Tryd.prog 35 ty35 false := infoOk_mk (by kernel_rfl)
theorem io37 : InfoOk Tryd.prog 37 ty37 false := infoOk_mk (by kernel_rfl)
theorem io45 : InfoOk Tryd.prog 45 ty45 true := infoOk_mk (by kernel_rfl)
theorem io49 : InfoOk Tryd.prog 49 ty49 true := infoOk_mk (by kernel_rfl)
theorem io52 : InfoOk Tryd.prog 52 ty52 true := infoOk_mk (by kernel_rfl)
theorem io58 : InfoOk Tryd.prog 58 ty58 false := infoOk_mk (by kernel_rfl)
theorem io60 : InfoOk Tryd.prog 60 ty60 true := infoOk_mk (by kernel_rfl)
theorem io62 : InfoOk Tryd.prog 62 ty62 true := infoOk_mk (by kernel_rfl)
theorem io64 : InfoOk Tryd.prog 64 ty64 true := infoOk_mk (by kernel_rfl)
theorem io66 : InfoOk Tryd.prog 66 ty66 true := infoOk_mk (by kernel_rfl)
theorem io68 : InfoOk Tryd.prog 68 ty68 true := infoOk_mk (by kernel_rfl)
theorem io70 : InfoOk Tryd.prog 70 ty70 true := infoOk_mk (by kernel_rfl)
theorem io71 : InfoOk Tryd.prog 71 ty71 false := infoOk_mk (by kernel_rfl)
theorem io76 : InfoOk Tryd.prog 76 ty76 true := infoOk_mk (by kernel_rfl)
theorem io93 : InfoOk Tryd.prog 93 ty93 true := infoOk_mk (by kernel_rfl)
theorem io96 : InfoOk Tryd.prog 96 ty96 true := infoOk_mk (by kernel_rfl)
theorem io106 : InfoOk Tryd.prog 106 ty106 true := infoOk_mk (by kernel_rfl)
theorem io113 : InfoOk Tryd.prog 113 ty113 false := infoOk_mk (by kernel_rfl)
theorem io117 : InfoOk Tryd.prog 117 ty117 true := infoOk_mk (by kernel_rfl)
theorem io119 : InfoOk Tryd.prog 119 ty119 true := infoOk_mk (by kernel_rfl)
theorem io137 : InfoOk Tryd.prog 137 ty137 true := infoOk_mk (by kernel_rfl)
theorem io145 : InfoOk Tryd.prog 145 ty145 true := infoOk_mk (by kernel_rfl)
theorem io159 : InfoOk Tryd.prog 159 ty159 true := infoOk_mk (by kernel_rfl)
theorem io166 : InfoOk Tryd.prog 166 ty166 true := infoOk_mk (by kernel_rfl)
theorem io170 : InfoOk Tryd.prog 170 ty170 false := infoOk_mk (by kernel_rfl)
theorem io172 : InfoOk Tryd.prog 172 ty172 true := infoOk_mk (by kernel_rfl)
theorem to3 : TDOk Tryd.prog 3 td3 := tdOk_mk (d := td3) Tryd.underlying3 io3 rfl rfl (fun _ => rfl) (fun _ => rfl)
theorem to4 : TDOk Tryd.prog 4 td4 := tdOk_mk (d := td4) Tryd.underlying4 io4 rfl rfl (fun _ => rfl) (fun _ => rfl)
theorem to5 : TDOk Tryd.prog 5 td5 := tdOk_mk (d := td5) Tryd.underlying5 io5 rfl rfl (fun _ => rfl) (fun _ => rfl)
theorem to9 : TDOk Tryd.prog 9 td9 := tdOk_mk (d := td9) Tryd.underlying9 io9 rfl rfl (fun _ => rfl) (fun _ => rfl)
theorem to22 : TDOk Tryd.prog 22 td22 := tdOk_mk (d := td22) Tryd.underlying22 io22 rfl ⟨rfl, rfl⟩ (fun h => by cases h) (fun h => by cases h)
theorem to23 : TDOk Tryd.prog 23 td23 := tdOk_mk (d := td23) Tryd.underlying23 io23 rfl ⟨rfl, rfl, _, _, rfl, io5⟩ (fun _ => ⟨_, rfl⟩) (fun _ => rfl)
theorem to24 : TDOk Tryd.prog 24 td24 := tdOk_mk (d := td24) Tryd.underlying24 io24 rfl rfl (fun _ => rfl) (fun _ => rfl)
theorem to26 : TDOk Tryd.prog 26 td26 := tdOk_mk (d := td26) Tryd.underlying26 io26 rfl ⟨rfl, _, rfl, rfl, all_info (by kernel_rfl)⟩ (fun h => by cases h) (fun h => by cases h)
theorem to28 : TDOk Tryd.prog 28 td28 := tdOk_mk (d := td28) Tryd.underlying28 io28 rfl ⟨rfl, _, rfl, rfl, all_info (by kernel_rfl)⟩ (fun h => by cases h) (fun h => by cases h)
theorem to29 : TDOk Tryd.prog 29 td29 := tdOk_mk (d := td29) Tryd.underlying29 io29 rfl rfl (fun _ => rfl) (fun _ => rfl)
theorem to30 : TDOk Tryd.prog 30 td30 := tdOk_mk (d := td30) Tryd.underlying30 io30 rfl ⟨rfl, rfl, _, _, rfl, io76⟩ (fun _ => ⟨_, rfl⟩) (fun _ => rfl)
theorem to32 : TDOk Tryd.prog 32 td32 := tdOk_mk (d := td32) Tryd.underlying32 io32 rfl ⟨rfl, _, rfl, rfl, all_info (by kernel_rfl)⟩ (fun h => by cases h) (fun h => by cases h)
theorem to34 : TDOk Tryd.prog 34 td34 := tdOk_mk (d := td34) Tryd.underlying34 io34 rfl rfl (fun _ => rfl) (fun _ => rfl)
theorem to35 : TDOk Tryd.prog 35 td35 := tdOk_mk (d := td35) Tryd.underlying35 io35 rfl ⟨rfl, rfl, _, _, rfl, io3⟩ (fun _ => ⟨_, rfl⟩) (fun _ => rfl)
theorem to37 : TDOk Tryd.prog 37 td37 := tdOk_mk (d := td37) Tryd.underlying37 io37 rfl ⟨rfl, rfl, _, _, rfl, io28⟩ (fun _ => ⟨_, rfl⟩) (fun _ => rfl)
theorem to45 : TDOk Tryd.prog 45 td45 := tdOk_mk (d := td45) Tryd.underlying45 io45 rfl ⟨rfl, rfl⟩ (fun h => by cases h) (fun h => by cases h)
theorem to49 : TDOk Tryd.prog 49 td49 := tdOk_mk (d := td49) Tryd.underlying49 io49 rfl ⟨rfl, _, rfl, rfl, all_info (by kernel_rfl)⟩ (fun h => by cases h) (fun h => by cases h)
theorem to52 : TDOk Tryd.prog 52 td52 := tdOk_mk (d := td52) Tryd.underlying52 io52 rfl ⟨rfl, _, rfl, rfl, all_info (by kernel_rfl)⟩ (fun h => by cases h) (fun h => by cases h)
theorem to58 : TDOk Tryd.prog 58 td58 := tdOk_mk (d := td58) Tryd.underlying58 io58 rfl ⟨rfl, rfl, _, _, rfl, io70⟩ (fun _ => ⟨_, rfl⟩) (fun _ => rfl)
theorem to60 : TDOk Tryd.prog 60 td60 := tdOk_mk (d := td60) Tryd.underlying60 io60 rfl ⟨rfl, _, rfl, rfl, all_info (by kernel_rfl)⟩ (fun h => by cases h) (fun h => by cases h)
theorem to62 : TDOk Tryd.prog 62 td62 := tdOk_mk (d := td62) Tryd.underlying62 io62 rfl ⟨rfl, _, rfl, rfl, all_info (by kernel_rfl)⟩ (fun h => by cases h) (fun h => by cases h)
theorem to64 : TDOk Tryd.prog 64 td64 := tdOk_mk (d := td64) Tryd.underlying64 io64 rfl ⟨rfl, _, rfl, rfl, all_info (by kernel_rfl)⟩ (fun h => by cases h) (fun h => by cases h)
theorem to66 : TDOk Tryd.prog 66 td66 := tdOk_mk (d := td66) Tryd.underlying66 io66 rfl ⟨rfl, _, rfl, rfl, all_info (by kernel_rfl)⟩ (fun h => by cases h) (fun h => by cases h)
theorem to68 : TDOk Tryd.prog 68 td68 := tdOk_mk (d := td68) Tryd.underlying68 io68 rfl ⟨rfl, _, rfl, rfl, all_info (by kernel_rfl)⟩ (fun h => by cases h) (fun h => by cases h)
theorem to70 : TDOk Tryd.prog 70 td70 := tdOk_mk (d := td70) Tryd.underlying70 io70 rfl ⟨rfl, _, rfl, rfl, all_info (by kernel_rfl)⟩ (fun h => by cases h) (fun h => by cases h)
theorem to71 : TDOk Tryd.prog 71 td71 := tdOk_mk (d := td71) Tryd.underlying71 io71 rfl rfl (fun _ => rfl) (fun _ => rfl)
theorem to76 : TDOk Tryd.prog 76 td76 := tdOk_mk (d := td76) Tryd.underlying76 io76 rfl ⟨rfl, _, rfl, rfl, all_info (by kernel_rfl)⟩ (fun h => by cases h) (fun h => by cases h)
theorem to93 : TDOk Tryd.prog 93 td93 := tdOk_mk (d := td93) Tryd.underlying93 io93 rfl ⟨rfl, rfl⟩ (fun h => by cases h) (fun h => by cases h)
theorem to96 : TDOk Tryd.prog 96 td96 := tdOk_mk (d := td96) Tryd.underlying96 io96 rfl ⟨rfl, _, rfl, rfl, all_info (by kernel_rfl)⟩ (fun h => by cases h) (fun h => by cases h)
theorem to106 : TDOk Tryd.prog 106 td106 := tdOk_mk (d := td106) Tryd.underlying106 io106 rfl ⟨rfl, _, rfl, rfl, all_info (by kernel_rfl)⟩ (fun h => by cases h) (fun h => by cases h)
theorem to113 : TDOk Tryd.prog 113 td113 := tdOk_mk (d := td113) Tryd.underlying113 io113 rfl rfl (fun _ => rfl) (fun _ => rfl)
theorem to117 : TDOk Tryd.prog 117 td117 := tdOk_mk (d := td117) Tryd.underlying117 io117 rfl ⟨rfl, _, rfl, rfl, all_info (by kernel_rfl)⟩ (fun h => by cases h) (fun h => by cases h)
theorem to119 : TDOk Tryd.prog 119 td119 := tdOk_mk (d := td119) Tryd.underlying119 io119 rfl ⟨rfl, _, rfl, rfl, all_info (by kernel_rfl)⟩ (fun h => by cases h) (fun h => by cases h)
theorem to137 : TDOk Tryd.prog 137 td137 := tdOk_mk (d := td137) Tryd.underlying137 io137 rfl ⟨rfl, _, rfl, rfl, all_info (by kernel_rfl)⟩ (fun h => by cases h) (fun h => by cases h)
theorem to145 : TDOk Tryd.prog 145 td145 := tdOk_mk (d := td145) Tryd.underlying145 io145 rfl ⟨rfl, rfl⟩ (fun h => by cases h) (fun h => by cases h)
theorem to159 : TDOk Tryd.prog 159 td159 := tdOk_mk (d := td159) Tryd.underlying159 io159 rfl ⟨rfl, rfl⟩ (fun h => by cases h) (fun h => by cases h)
theorem to166 : TDOk Tryd.prog 166 td166 := tdOk_mk (d := td166) Tryd.underlying166 io166 rfl ⟨rfl, _, rfl, rfl, all_info (by kernel_rfl)⟩ (fun h => by cases h) (fun h => by cases h)
theorem to170 : TDOk Tryd.prog 170 td170 := tdOk_mk (d := td170) Tryd.underlying170 io170 rfl rfl (fun _ => trivial) (fun _ => rfl)
theorem to172 : TDOk Tryd.prog 172 td172 := tdOk_mk (d := td172) Tryd.underlying172 io172 rfl ⟨rfl, rfl⟩ (fun h => by cases h) (fun h => by cases h)
theorem eq24 (dd : Nat) : EqT Tryd.prog (dd + 1) 24 ty24 false := eqT_int Tryd.underlying24 dd
theorem eq26 (dd : Nat) : EqT Tryd.prog (dd + 2) 26 ty26 true := eqT_struct Tryd.underlying26 Tryd.stoodInHeld26 (dd := dd + 1) ⟨by decide, rfl, ⟨td24, to24, rfl, eq24 (dd + 0)⟩, ⟨by decide, rfl, td24, to24, rfl, eq24 (dd + 0)⟩⟩
theorem eq3 (dd : Nat) : EqT Tryd.prog (dd + 1) 3 ty3 false := eqT_int Tryd.underlying3 dd
theorem eq28 (dd : Nat) : EqT Tryd.prog (dd + 3) 28 ty28 true := eqT_struct Tryd.underlying28 Tryd.stoodInHeld28 (dd := dd + 2) ⟨by decide, rfl, ⟨td3, to3, rfl, eq3 (dd + 1)⟩, ⟨by decide, rfl, ⟨td3, to3, rfl, eq3 (dd + 1)⟩, ⟨by decide, rfl, ⟨td3, to3, rfl, eq3 (dd + 1)⟩, ⟨by decide, rfl, ⟨td3, to3, rfl, eq3 (dd + 1)⟩, ⟨by decide, rfl, ⟨td3, to3, rfl, eq3 (dd + 1)⟩, ⟨by decide, rfl, ⟨td3, to3, rfl, eq3 (dd + 1)⟩, ⟨by decide, rfl, ⟨td26, to26, rfl, eq26 (dd + 0)⟩, ⟨by decide, rfl, td24, to24, rfl, eq24 (dd + 1)⟩⟩⟩⟩⟩⟩⟩⟩
theorem eq49 (dd : Nat) : EqT Tryd.prog (dd + 2) 49 ty49 true := eqT_struct Tryd.underlying49 Tryd.stoodInHeld49 (dd := dd + 1) ⟨by decide, rfl, ⟨td3, to3, rfl, eq3 (dd + 0)⟩, ⟨by decide, rfl, ⟨td3, to3, rfl, eq3 (dd + 0)⟩, ⟨by decide, rfl, td3, to3, rfl, eq3 (dd + 0)⟩⟩⟩
theorem eq4 (dd : Nat) : EqT Tryd.prog (dd + 1) 4 ty4 false := eqT_bool Tryd.underlying4 dd
theorem eq52 (dd : Nat) : EqT Tryd.prog (dd + 2) 52 ty52 true := eqT_struct Tryd.underlying52 Tryd.stoodInHeld52 (dd := dd + 1) ⟨by decide, rfl, ⟨td24, to24, rfl, eq24 (dd + 0)⟩, ⟨by decide, rfl, ⟨td4, to4, rfl, eq4 (dd + 0)⟩, ⟨by decide, rfl, ⟨td4, to4, rfl, eq4 (dd + 0)⟩, ⟨by decide, rfl, ⟨td4, to4, rfl, eq4 (dd + 0)⟩, ⟨by decide, rfl, td4, to4, rfl, eq4 (dd + 0)⟩⟩⟩⟩⟩
theorem eq60 (dd : Nat) : EqT Tryd.prog (dd + 2) 60 ty60 true := eqT_struct Tryd.underlying60 Tryd.stoodInHeld60 (dd := dd + 1) ⟨by decide, rfl, ⟨td3, to3, rfl, eq3 (dd + 0)⟩, ⟨by decide, rfl, td3, to3, rfl, eq3 (dd + 0)⟩⟩
theorem eq62 (dd : Nat) : EqT Tryd.prog (dd + 2) 62 ty62 true := eqT_struct Tryd.underlying62 Tryd.stoodInHeld62 (dd := dd + 1) ⟨by decide, rfl, ⟨td3, to3, rfl, eq3 (dd + 0)⟩, ⟨by decide, rfl, ⟨td3, to3, rfl, eq3 (dd + 0)⟩, ⟨by decide, rfl, ⟨td3, to3, rfl, eq3 (dd + 0)⟩, ⟨by decide, rfl, ⟨td4, to4, rfl, eq4 (dd + 0)⟩, ⟨by decide, rfl, td3, to3, rfl, eq3 (dd + 0)⟩⟩⟩⟩⟩
theorem eq64 (dd : Nat) : EqT Tryd.prog (dd + 2) 64 ty64 true := eqT_struct Tryd.underlying64 Tryd.stoodInHeld64 (dd := dd + 1) ⟨by decide, rfl, ⟨td3, to3, rfl, eq3 (dd + 0)⟩, ⟨by decide, rfl, ⟨td3, to3, rfl, eq3 (dd + 0)⟩, ⟨by decide, rfl, td3, to3, rfl, eq3 (dd + 0)⟩⟩⟩
theorem eq66 (dd : Nat) : EqT Tryd.prog (dd + 3) 66 ty66 true := eqT_struct Tryd.underlying66 Tryd.stoodInHeld66 (dd := dd + 2) ⟨by decide, rfl, ⟨td60, to60, rfl, eq60 (dd + 0)⟩, ⟨by decide, rfl, ⟨td62, to62, rfl, eq62 (dd + 0)⟩, ⟨by decide, rfl, ⟨td64, to64, rfl, eq64 (dd + 0)⟩, ⟨by decide, rfl, ⟨td24, to24, rfl, eq24 (dd + 1)⟩, ⟨by decide, rfl, ⟨td3, to3, rfl, eq3 (dd + 1)⟩, ⟨by decide, rfl, ⟨td3, to3, rfl, eq3 (dd + 1)⟩, ⟨by decide, rfl, td4, to4, rfl, eq4 (dd + 1)⟩⟩⟩⟩⟩⟩⟩
theorem eq68 (dd : Nat) : EqT Tryd.prog (dd + 2) 68 ty68 true := eqT_struct Tryd.underlying68 Tryd.stoodInHeld68 (dd := dd + 1) ⟨by decide, rfl, ⟨td3, to3, rfl, eq3 (dd + 0)⟩, ⟨by decide, rfl, ⟨td4, to4, rfl, eq4 (dd + 0)⟩, ⟨by decide, rfl, ⟨td3, to3, rfl, eq3 (dd + 0)⟩, ⟨by decide, rfl, td4, to4, rfl, eq4 (dd + 0)⟩⟩⟩⟩
theorem eq70 (dd : Nat) : EqT Tryd.prog (dd + 3) 70 ty70 true := eqT_struct Tryd.underlying70 Tryd.stoodInHeld70 (dd := dd + 2) ⟨by decide, rfl, ⟨td68, to68, rfl, eq68 (dd + 0)⟩, ⟨by decide, rfl, ⟨td24, to24, rfl, eq24 (dd + 1)⟩, ⟨by decide, rfl, td26, to26, rfl, eq26 (dd + 0)⟩⟩⟩
theorem eq76 (dd : Nat) : EqT Tryd.prog (dd + 2) 76 ty76 true := eqT_struct Tryd.underlying76 Tryd.stoodInHeld76 (dd := dd + 1) ⟨by decide, rfl, ⟨td3, to3, rfl, eq3 (dd + 0)⟩, ⟨by decide, rfl, ⟨td3, to3, rfl, eq3 (dd + 0)⟩, ⟨by decide, rfl, ⟨td3, to3, rfl, eq3 (dd + 0)⟩, ⟨by decide, rfl, ⟨td3, to3, rfl, eq3 (dd + 0)⟩, ⟨by decide, rfl, ⟨td3, to3, rfl, eq3 (dd + 0)⟩, ⟨by decide, rfl, ⟨td3, to3, rfl, eq3 (dd + 0)⟩, ⟨by decide, rfl, ⟨td3, to3, rfl, eq3 (dd + 0)⟩, ⟨by decide, rfl, ⟨td3, to3, rfl, eq3 (dd + 0)⟩, ⟨by decide, rfl, td3, to3, rfl, eq3 (dd + 0)⟩⟩⟩⟩⟩⟩⟩⟩⟩
theorem eq96 (dd : Nat) : EqT Tryd.prog (dd + 2) 96 ty96 true := eqT_struct Tryd.underlying96 Tryd.stoodInHeld96 (dd := dd + 1) ⟨by decide, rfl, ⟨td3, to3, rfl, eq3 (dd + 0)⟩, ⟨by decide, rfl, ⟨td3, to3, rfl, eq3 (dd + 0)⟩, ⟨by decide, rfl, ⟨td3, to3, rfl, eq3 (dd + 0)⟩, ⟨by decide, rfl, ⟨td3, to3, rfl, eq3 (dd + 0)⟩, ⟨by decide, rfl, ⟨td3, to3, rfl, eq3 (dd + 0)⟩, ⟨by decide, rfl, td3, to3, rfl, eq3 (dd + 0)⟩⟩⟩⟩⟩⟩
theorem eq117 (dd : Nat) : EqT Tryd.prog (dd + 3) 117 ty117 true := eqT_struct Tryd.underlying117 Tryd.stoodInHeld117 (dd := dd + 2) ⟨by decide, rfl, ⟨td24, to24, rfl, eq24 (dd + 1)⟩, ⟨by decide, rfl, td26, to26, rfl, eq26 (dd + 0)⟩⟩
theorem eq119 (dd : Nat) : EqT Tryd.prog (dd + 2) 119 ty119 true := eqT_struct Tryd.underlying119 Tryd.stoodInHeld119 (dd := dd + 1) ⟨by decide, rfl, ⟨td3, to3, rfl, eq3 (dd + 0)⟩, ⟨by decide, rfl, ⟨td3, to3, rfl, eq3 (dd + 0)⟩, ⟨by decide, rfl, td3, to3, rfl, eq3 (dd + 0)⟩⟩⟩
theorem eq137 (dd : Nat) : EqT Tryd.prog (dd + 2) 137 ty137 true := eqT_struct Tryd.underlying137 Tryd.stoodInHeld137 (dd := dd + 1) ⟨by decide, rfl, ⟨td4, to4, rfl, eq4 (dd + 0)⟩, ⟨by decide, rfl, ⟨td4, to4, rfl, eq4 (dd + 0)⟩, ⟨by decide, rfl, ⟨td4, to4, rfl, eq4 (dd + 0)⟩, ⟨by decide, rfl, ⟨td4, to4, rfl, eq4 (dd + 0)⟩, ⟨by decide, rfl, ⟨td4, to4, rfl, eq4 (dd + 0)⟩, ⟨by decide, rfl, td3, to3, rfl, eq3 (dd + 0)⟩⟩⟩⟩⟩⟩
theorem eq166 (dd : Nat) : EqT Tryd.prog (dd + 2) 166 ty166 true := eqT_struct Tryd.underlying166 Tryd.stoodInHeld166 (dd := dd + 1) ⟨by decide, rfl, ⟨td4, to4, rfl, eq4 (dd + 0)⟩, ⟨by decide, rfl, ⟨td4, to4, rfl, eq4 (dd + 0)⟩, ⟨by decide, rfl, ⟨td4, to4, rfl, eq4 (dd + 0)⟩, ⟨by decide, rfl, ⟨td3, to3, rfl, eq3 (dd + 0)⟩, ⟨by decide, rfl, ⟨td3, to3, rfl, eq3 (dd + 0)⟩, ⟨by decide, rfl, td3, to3, rfl, eq3 (dd + 0)⟩⟩⟩⟩⟩⟩
theorem tabOk : ∀ t d, lookupD tabL t = some d → TDOk Tryd.prog t d := by
  intro t d h
  have h := lookupD_mem h
  simp only [tabL, List.mem_cons, Prod.mk.injEq, List.not_mem_nil, or_false] at h
  rcases h with ⟨rfl, rfl⟩ | ⟨rfl, rfl⟩ | ⟨rfl, rfl⟩ | ⟨rfl, rfl⟩ | ⟨rfl, rfl⟩ | ⟨rfl, rfl⟩ | ⟨rfl, rfl⟩ | ⟨rfl, rfl⟩ | ⟨rfl, rfl⟩ | ⟨rfl, rfl⟩ | ⟨rfl, rfl⟩ | ⟨rfl, rfl⟩ | ⟨rfl, rfl⟩ | ⟨rfl, rfl⟩ | ⟨rfl, rfl⟩ | ⟨rfl, rfl⟩ | ⟨rfl, rfl⟩ | ⟨rfl, rfl⟩ | ⟨rfl, rfl⟩ | ⟨rfl, rfl⟩ | ⟨rfl, rfl⟩ | ⟨rfl, rfl⟩ | ⟨rfl, rfl⟩ | ⟨rfl, rfl⟩ | ⟨rfl, rfl⟩ | ⟨rfl, rfl⟩ | ⟨rfl, rfl⟩ | ⟨rfl, rfl⟩ | ⟨rfl, rfl⟩ | ⟨rfl, rfl⟩ | ⟨rfl, rfl⟩ | ⟨rfl, rfl⟩ | ⟨rfl, rfl⟩ | ⟨rfl, rfl⟩ | ⟨rfl, rfl⟩ | ⟨rfl, rfl⟩ | ⟨rfl, rfl⟩ | ⟨rfl, rfl⟩ | ⟨rfl, rfl⟩
  · exact to3
  · exact to4
  · exact to5
  · exact to9
  · exact to22
  · exact to23
  · exact to24
  · exact to26
  · exact to28
  · exact to29
  · exact to30
  · exact to32
  · exact to34
  · exact to35
  · exact to37
  · exact to45
  · exact to49
  · exact to52
  · exact to58
  · exact to60
  · exact to62
  · exact to64
  · exact to66
  · exact to68
  · exact to70
  · exact to71
  · exact to76
  · exact to93
  · exact to96
  · exact to106
  · exact to113
  · exact to117
  · exact to119
  · exact to137
  · exact to145
  · exact to159
  · exact to166
  · exact to170
  · exact to172
theorem bytesOk : ∀ t d i, lookupD tabL t = some d → Tryd.prog.info? t = some i → 0 < d.ty.n → i.bytes = d.bytes := by
  intro t d i h hi _
  have h := lookupD_mem h
  simp only [tabL, List.mem_cons, Prod.mk.injEq, List.not_mem_nil, or_false] at h
  rcases h with ⟨rfl, rfl⟩ | ⟨rfl, rfl⟩ | ⟨rfl, rfl⟩ | ⟨rfl, rfl⟩ | ⟨rfl, rfl⟩ | ⟨rfl, rfl⟩ | ⟨rfl, rfl⟩ | ⟨rfl, rfl⟩ | ⟨rfl, rfl⟩ | ⟨rfl, rfl⟩ | ⟨rfl, rfl⟩ | ⟨rfl, rfl⟩ | ⟨rfl, rfl⟩ | ⟨rfl, rfl⟩ | ⟨rfl, rfl⟩ | ⟨rfl, rfl⟩ | ⟨rfl, rfl⟩ | ⟨rfl, rfl⟩ | ⟨rfl, rfl⟩ | ⟨rfl, rfl⟩ | ⟨rfl, rfl⟩ | ⟨rfl, rfl⟩ | ⟨rfl, rfl⟩ | ⟨rfl, rfl⟩ | ⟨rfl, rfl⟩ | ⟨rfl, rfl⟩ | ⟨rfl, rfl⟩ | ⟨rfl, rfl⟩ | ⟨rfl, rfl⟩ | ⟨rfl, rfl⟩ | ⟨rfl, rfl⟩ | ⟨rfl, rfl⟩ | ⟨rfl, rfl⟩ | ⟨rfl, rfl⟩ | ⟨rfl, rfl⟩ | ⟨rfl, rfl⟩ | ⟨rfl, rfl⟩ | ⟨rfl, rfl⟩ | ⟨rfl, rfl⟩
  · exact bytes_mk (by kernel_rfl) i hi
  · exact bytes_mk (by kernel_rfl) i hi
  · exact bytes_mk (by kernel_rfl) i hi
  · exact bytes_mk (by kernel_rfl) i hi
  · exact bytes_mk (by kernel_rfl) i hi
  · exact bytes_mk (by kernel_rfl) i hi
  · exact bytes_mk (by kernel_rfl) i hi
  · exact bytes_mk (by kernel_rfl) i hi
  · exact bytes_mk (by kernel_rfl) i hi
  · exact bytes_mk (by kernel_rfl) i hi
  · exact bytes_mk (by kernel_rfl) i hi
  · exact bytes_mk (by kernel_rfl) i hi
  · exact bytes_mk (by kernel_rfl) i hi
  · exact bytes_mk (by kernel_rfl) i hi
  · exact bytes_mk (by kernel_rfl) i hi
  · exact bytes_mk (by kernel_rfl) i hi
  · exact bytes_mk (by kernel_rfl) i hi
  · exact bytes_mk (by kernel_rfl) i hi
  · exact bytes_mk (by kernel_rfl) i hi
  · exact bytes_mk (by kernel_rfl) i hi
  · exact bytes_mk (by kernel_rfl) i hi
  · exact bytes_mk (by kernel_rfl) i hi
  · exact bytes_mk (by kernel_rfl) i hi
  · exact bytes_mk (by kernel_rfl) i hi
  · exact bytes_mk (by kernel_rfl) i hi
  · exact bytes_mk (by kernel_rfl) i hi
  · exact bytes_mk (by kernel_rfl) i hi
  · exact bytes_mk (by kernel_rfl) i hi
  · exact bytes_mk (by kernel_rfl) i hi
  · exact bytes_mk (by kernel_rfl) i hi
  · exact bytes_mk (by kernel_rfl) i hi
  · exact bytes_mk (by kernel_rfl) i hi
  · exact bytes_mk (by kernel_rfl) i hi
  · exact bytes_mk (by kernel_rfl) i hi
  · exact bytes_mk (by kernel_rfl) i hi
  · exact bytes_mk (by kernel_rfl) i hi
  · exact bytes_mk (by kernel_rfl) i hi
  · exact bytes_mk (by kernel_rfl) i hi
  · exact bytes_mk (by kernel_rfl) i hi
def xtL : List (Nat × Xt) := []
theorem xtOk : ∀ f x, lookXt xtL f = some x → XtOk Tryd.prog f x := fun _ _ h => by cases h
def tabB : List Int := [0, 1, 28, 2, 29, 14, 24, 3, 30, 22, 20, 15, 25, 17, 4, 8, 31, 27, 13, 23, 21, 19, 16, 7, 26, 12, 18, 6, 11, 5, 10, 9]
/-- Block 0 is the table of math/bits. -/
def gdS : Gd where
  H w := ∀ k, k < 32 → w.cell? ⟨0, k, none⟩ = some (.int .u8 (tabB.getD k 0))
  gl b := b = 0
  mono := by
    intro u v hk hu k hlt
    have h1 := (hk.block 0 rfl).2
    have h := hu k hlt
    unfold World.cell? at h ⊢
    rw [h1]
    exact h
  low := by
    intro u b hu hb
    subst hb
    exact cell_lt (hu 0 (by decide))
def gvS : Nat → Option (Sigma fun e : Ty => List e.den) := fun g => cnd (Nat.beq g 0) (some ⟨.int .u8, tabB⟩) none
theorem gvOk : ∀ g e l, gvS g = some ⟨e, l⟩ → ∃ b, gdS.gl b ∧ ∀ (a : Act) (w : World) (X : Nat → Nat → Prop), gdS.H w → (∀ b p, X b p → ¬ gdS.gl b) → a.eval (.global g) = .pointer (some ⟨b, 0, none⟩) ∧ RowsOk w X e.n (TR w X e) l b 0 := by
  intro g e l h
  obtain ⟨h1, h2⟩ := cnd_some h
  have hg := beq_eq h1
  subst hg
  cases h2
  refine ⟨0, rfl, fun a w X hH hX => ⟨rfl, fun i hi => ⟨[.int .u8 tabB[i]], rfl, fun j hj => ?_, rfl⟩, fun p _ _ hx => hX _ _ hx rfl⟩⟩
  have hj : j = 0 := by simp only [Ty.n] at hj; omega
  subst hj
  have := hH i hi
  simp only [Ty.n, Nat.mul_one, Nat.add_zero, Nat.zero_add]
  rw [this]
  simp [List.getD, hi]
theorem eqOk : ∀ t d, lookupD tabL t = some d → d.eq = true → ∀ (m : Map) (X : Nat → Nat → Prop) (w : World) (xs ys : List Cell) (r : Bool) (us vs : List Value), eqTy d.ty xs ys = some r → CRs m X w xs us → CRs m X w ys vs →
    xs.length = d.ty.n → ys.length = d.ty.n →
    (eqGuard .eql t (.tmp 0) (.tmp 0) (.agg us.toArray) (.agg vs.toArray) >>= fun _ => binOp .eql t (.agg us.toArray) (.agg vs.toArray)).run Tryd.prog w = .ok (.bool r) w ∧
    (eqGuard .neq t (.tmp 0) (.tmp 0) (.agg us.toArray) (.agg vs.toArray) >>= fun _ => binOp .neq t (.agg us.toArray) (.agg vs.toArray)).run Tryd.prog w = .ok (.bool (!r)) w := by
  intro t d h he
  have h := lookupD_mem h
  simp only [tabL, List.mem_cons, Prod.mk.injEq, List.not_mem_nil, or_false] at h
  rcases h with ⟨rfl, rfl⟩ | ⟨rfl, rfl⟩ | ⟨rfl, rfl⟩ | ⟨rfl, rfl⟩ | ⟨rfl, rfl⟩ | ⟨rfl, rfl⟩ | ⟨rfl, rfl⟩ | ⟨rfl, rfl⟩ | ⟨rfl, rfl⟩ | ⟨rfl, rfl⟩ | ⟨rfl, rfl⟩ | ⟨rfl, rfl⟩ | ⟨rfl, rfl⟩ | ⟨rfl, rfl⟩ | ⟨rfl, rfl⟩ | ⟨rfl, rfl⟩ | ⟨rfl, rfl⟩ | ⟨rfl, rfl⟩ | ⟨rfl, rfl⟩ | ⟨rfl, rfl⟩ | ⟨rfl, rfl⟩ | ⟨rfl, rfl⟩ | ⟨rfl, rfl⟩ | ⟨rfl, rfl⟩ | ⟨rfl, rfl⟩ | ⟨rfl, rfl⟩ | ⟨rfl, rfl⟩ | ⟨rfl, rfl⟩ | ⟨rfl, rfl⟩ | ⟨rfl, rfl⟩ | ⟨rfl, rfl⟩ | ⟨rfl, rfl⟩ | ⟨rfl, rfl⟩ | ⟨rfl, rfl⟩ | ⟨rfl, rfl⟩ | ⟨rfl, rfl⟩ | ⟨rfl, rfl⟩ | ⟨rfl, rfl⟩ | ⟨rfl, rfl⟩
  · cases he
  · cases he
  · cases he
  · cases he
  · cases he
  · cases he
  · cases he
  · exact fun m X w xs ys r us vs h1 h2 h3 _ _ => eqFact (eq26 9998) Tryd.eqGuardType26 m X w xs ys r us vs h1 h2 h3
  · exact fun m X w xs ys r us vs h1 h2 h3 _ _ => eqFact (eq28 9997) Tryd.eqGuardType28 m X w xs ys r us vs h1 h2 h3
  · cases he
  · cases he
  · cases he
  · cases he
  · cases he
  · cases he
  · cases he
  · exact fun m X w xs ys r us vs h1 h2 h3 _ _ => eqFact (eq49 9998) Tryd.eqGuardType49 m X w xs ys r us vs h1 h2 h3
  · exact fun m X w xs ys r us vs h1 h2 h3 _ _ => eqFact (eq52 9998) Tryd.eqGuardType52 m X w xs ys r us vs h1 h2 h3
  · cases he
  · exact fun m X w xs ys r us vs h1 h2 h3 _ _ => eqFact (eq60 9998) Tryd.eqGuardType60 m X w xs ys r us vs h1 h2 h3
  · exact fun m X w xs ys r us vs h1 h2 h3 _ _ => eqFact (eq62 9998) Tryd.eqGuardType62 m X w xs ys r us vs h1 h2 h3
  · exact fun m X w xs ys r us vs h1 h2 h3 _ _ => eqFact (eq64 9998) Tryd.eqGuardType64 m X w xs ys r us vs h1 h2 h3
  · exact fun m X w xs ys r us vs h1 h2 h3 _ _ => eqFact (eq66 9997) Tryd.eqGuardType66 m X w xs ys r us vs h1 h2 h3
  · exact fun m X w xs ys r us vs h1 h2 h3 _ _ => eqFact (eq68 9998) Tryd.eqGuardType68 m X w xs ys r us vs h1 h2 h3
  · exact fun m X w xs ys r us vs h1 h2 h3 _ _ => eqFact (eq70 9997) Tryd.eqGuardType70 m X w xs ys r us vs h1 h2 h3
  · cases he
  · exact fun m X w xs ys r us vs h1 h2 h3 _ _ => eqFact (eq76 9998) Tryd.eqGuardType76 m X w xs ys r us vs h1 h2 h3
  · cases he
  · exact fun m X w xs ys r us vs h1 h2 h3 _ _ => eqFact (eq96 9998) Tryd.eqGuardType96 m X w xs ys r us vs h1 h2 h3
  · cases he
  · cases he
  · exact fun m X w xs ys r us vs h1 h2 h3 _ _ => eqFact (eq117 9997) Tryd.eqGuardType117 m X w xs ys r us vs h1 h2 h3
  · exact fun m X w xs ys r us vs h1 h2 h3 _ _ => eqFact (eq119 9998) Tryd.eqGuardType119 m X w xs ys r us vs h1 h2 h3
  · exact fun m X w xs ys r us vs h1 h2 h3 _ _ => eqFact (eq137 9998) Tryd.eqGuardType137 m X w xs ys r us vs h1 h2 h3
  · cases he
  · cases he
  · exact fun m X w xs ys r us vs h1 h2 h3 _ _ => eqFact (eq166 9998) Tryd.eqGuardType166 m X w xs ys r us vs h1 h2 h3
  · cases he
  · cases he
end Go.Proofs.YtpbljgpdhllklaaDoor.Sy
end

section
/- Contracts of functions, one behind the other (own work). -/
namespace Go.Proofs.YtpbljgpdhllklaaDoor.Sy
open Go Go.RowKit
set_option linter.unusedVariables false
set_option linter.unusedSimpArgs false

def lookG : List (Nat × Ct) → Nat → Option Ct
  | [], _ => none
  | (i, c) :: r, t => cnd (Nat.beq t i) (some c) (lookG r t)
def lookF : List (Nat × List Nat) → Nat → List Nat
  | [], _ => []
  | (i, l) :: r, t => cnd (Nat.beq t i) l (lookF r t)
/-- The evaluator's knowledge: types, contracts; fz: rows that nobody owns any more, ahead of a region. -/
def lookP : List (Nat × Cp) → Nat → Option Cp
  | [], _ => none
  | (i, c) :: r, t => cnd (Nat.beq t i) (some c) (lookP r t)
def ctxP (pl : List (Nat × Cp)) (fv : Option Fv) (l : List (Nat × Ct)) (fz : List (Nat × List Nat)) : Ctx := { D := lookupD tabL, xt := lookXt xtL, Γ := lookG l, G := gdS, gv := gvS, fz := lookF fz, pg := lookP pl, fv := fv }
abbrev ctxF (l : List (Nat × Ct)) (fz : List (Nat × List Nat)) : Ctx := ctxP [] none l fz
abbrev ctxG (l : List (Nat × Ct)) : Ctx := ctxF l []
def HasBody (P : Program) (f : FuncId) : Prop := ∃ fn, P.funcs[f]? = some fn ∧ (fn.name == "runtime.NumGoroutine") = false ∧ fn.body.isNone = false
def GOk (l : List (Nat × Ct)) : Prop := ∀ f ct, lookG l f = some ct → CtOk Tryd.prog gdS f ct ∧ HasBody Tryd.prog f
theorem gok_nil : GOk [] := fun f ct h => by cases h
theorem gok_cons {f : FuncId} {ct : Ct} {l : List (Nat × Ct)} (h1 : CtOk Tryd.prog gdS f ct) (h2 : HasBody Tryd.prog f) (h : GOk l) : GOk ((f, ct) :: l) := by
  intro g ct' hg
  simp only [lookG] at hg
  by_cases hgf : g = f
  · rw [cnd_beq_true hgf] at hg; cases hg; subst hgf; exact ⟨h1, h2⟩
  · rw [cnd_beq_false hgf] at hg; exact h g ct' hg
def PGOk (l : List (Nat × Cp)) : Prop := ∀ f cp, lookP l f = some cp → CpOk Tryd.prog gdS f cp ∧ HasBody Tryd.prog f
theorem pgok_nil : PGOk [] := fun f cp h => by cases h
theorem pgok_cons {f : FuncId} {cp : Cp} {l : List (Nat × Cp)} (h1 : CpOk Tryd.prog gdS f cp) (h2 : HasBody Tryd.prog f) (h : PGOk l) : PGOk ((f, cp) :: l) := by
  intro g cp' hg
  simp only [lookP] at hg
  by_cases hgf : g = f
  · rw [cnd_beq_true hgf] at hg; cases hg; subst hgf; exact ⟨h1, h2⟩
  · rw [cnd_beq_false hgf] at hg; exact h g cp' hg
def FvOk (cv : Fv) (g : Nat) : Prop := CtOk Tryd.prog gdS g { p := cv.p, psh := cv.psh, r := cv.r, rsh := cv.rsh, pre := none, fresh := none, F := cv.F g } ∧ HasBody Tryd.prog g
def FVOk (fv : Option Fv) : Prop := ∀ cv, fv = some cv → ∀ g ∈ cv.fs, FvOk cv g
theorem fvok_none : FVOk none := fun cv h => by cases h
theorem fvok_some {cv : Fv} (h : ∀ g ∈ cv.fs, FvOk cv g) : FVOk (some cv) := fun cv' h' => by cases h'; exact h
theorem ctxOkP {pl : List (Nat × Cp)} {fv : Option Fv} {l : List (Nat × Ct)} (hp : PGOk pl) (hv : FVOk fv) (h : GOk l) (fz : List (Nat × List Nat)) : CtxOk Tryd.prog (ctxP pl fv l fz) where
  xt := xtOk
  pg := hp
  fv := hv
  mixed := by kernel_rfl
  D := tabOk
  Γ := h
  bytes := bytesOk
  gv := gvOk
  eq := eqOk
theorem ctxOkF {l : List (Nat × Ct)} (h : GOk l) (fz : List (Nat × List Nat)) : CtxOk Tryd.prog (ctxF l fz) := ctxOkP pgok_nil fvok_none h fz
theorem ctxOk {l : List (Nat × Ct)} (h : GOk l) : CtxOk Tryd.prog (ctxG l) := ctxOkF h []

/-- Safe, as a word that nobody unfolds. -/
structure SafeW {ρ₀ ρ : Type} (t : Tr ρ₀ ρ) : Prop where
  safe : t.safe
theorem safe_pre {α : Type} {A pre Q : α → Prop} (h : ∀ x, A x → pre x → Q x) : ∀ x, A x → (∀ q, some pre = some q → q x) → Q x := fun x fx hq => h x fx (hq _ rfl)
theorem safe_no {α : Type} {A Q : α → Prop} {pre : Option (α → Prop)} (h : ∀ x, A x → Q x) : ∀ x, A x → (∀ q, pre = some q → q x) → Q x := fun x fx _ => h x fx
theorem fn_okU {C : Ctx} (hC : CtxOk Tryd.prog C) (hG : C.G = gdS) {f : FuncId} {fn : Func} (hf : Tryd.prog.funcs[f]? = some fn) {p : Ty} {psh : List (Option Nat)} {r : Ty} {rsh : Rsh} {pre : Option (p.den → Prop)} {fresh : Option Nat} {F : p.den → r.den} {L : Nat → Option (LS r.den)} {c : Code} (hb : fn.body = some c) {dflt : r.den}
    (hL : ∀ body ∈ loopsIn c, ∀ s, L (codeId body) = some s → LoopOk Tryd.prog C.G (RetAt Tryd.prog fn rsh fresh r) body s)
    (hsafe : ∀ x, Fit p x → (∀ q, pre = some q → q x) → SafeW (evFn C fn p psh rsh fresh r L x))
    (hval : ∀ x, (evFn C fn p psh rsh fresh r L x).val (fun y => y) dflt = F x) : CtOk Tryd.prog gdS f { p := p, psh := psh, r := r, rsh := rsh, pre := pre, fresh := fresh, F := F } :=
  hG ▸ fn_ok (ct := { p := p, psh := psh, r := r, rsh := rsh, pre := pre, fresh := fresh, F := F }) hC hf hb hL (fun x h1 h2 => (hsafe x h1 h2).safe) hval

theorem safe_preP {α : Type} {A Q : α → Prop} {B : Prop} {pre : α → Prop} (hb : B) (h : ∀ x, A x → pre x → Q x) : ∀ x, (B → A x) → (∀ q, some pre = some q → q x) → Q x := fun x fx hq => h x (fx hb) (hq _ rfl)
theorem safe_noP {α : Type} {A Q : α → Prop} {B : Prop} {pre : Option (α → Prop)} (hb : B) (h : ∀ x, A x → Q x) : ∀ x, (B → A x) → (∀ q, pre = some q → q x) → Q x := fun x fx _ => h x (fx hb)
theorem safe_preX {α : Type} {A Q : α → Prop} {B : Prop} {pre : α → Prop} (h : ∀ x, pre x → Q x) : ∀ x, (B → A x) → (∀ q, some pre = some q → q x) → Q x := fun x _ hq => h x (hq _ rfl)
theorem safe_noX {α : Type} {A Q : α → Prop} {B : Prop} {pre : Option (α → Prop)} (h : ∀ x, Q x) : ∀ x, (B → A x) → (∀ q, pre = some q → q x) → Q x := fun x _ _ => h x
theorem fn_okPU {C : Ctx} (hC : CtxOk Tryd.prog C) (hG : C.G = gdS) {f : FuncId} {fn : Func} (hf : Tryd.prog.funcs[f]? = some fn) (cp : Cp) {L : Nat → Option (LS Unit)} {c : Code} (hb : fn.body = some c) {dflt : cp.r.den × cp.q.den}
    (hL : ∀ body ∈ loopsIn c, ∀ s, L (codeId body) = some s → LoopOk Tryd.prog C.G (fun _ _ (_ : Unit) _ _ => False) body s)
    (hsafe : ∀ x, (cp.ex = false → Fit cp.p x) → (∀ q, cp.pre = some q → q x) → SafeW (evFnP C fn cp.p cp.psh cp.mask cp.sz cp.ro cp.ex cp.q cp.rsh cp.r L x))
    (hval : ∀ x, (evFnP C fn cp.p cp.psh cp.mask cp.sz cp.ro cp.ex cp.q cp.rsh cp.r L x).val (fun _ => dflt) dflt = cp.F x) : CpOk Tryd.prog gdS f cp :=
  hG ▸ fn_okP hC hf hb hL (fun x h1 h2 => (hsafe x h1 h2).safe) hval

/-! ### Loops by their rounds -/
end Go.Proofs.YtpbljgpdhllklaaDoor.Sy
namespace Go.Proofs.YtpbljgpdhllklaaDoor.Sp
open Go Go.Proofs.YtpbljgpdhllklaaDoor.Sy
theorem wrap_i64_of {x : Int} (h0 : -9223372036854775808 ≤ x) (h1 : x ≤ 9223372036854775807) : IntKind.i64.wrap x = x := by rw [IntKind.wrap_i64]; omega
theorem tmod_ite (a n : Int) : Int.tmod a n = if 0 ≤ a then a % n else -((-a) % n) := by
  split
  · exact Int.tmod_eq_emod_of_nonneg (by assumption)
  · have h : a = -(-a) := by omega
    conv => lhs; rw [h]
    rw [Int.neg_tmod, Int.tmod_eq_emod_of_nonneg (by omega)]
theorem tdiv_ite (a n : Int) : Int.tdiv a n = if 0 ≤ a then a / n else -((-a) / n) := by
  split
  · exact Int.tdiv_eq_ediv_of_nonneg (by assumption)
  · have h : a = -(-a) := by omega
    conv => lhs; rw [h]
    rw [Int.neg_tdiv, Int.tdiv_eq_ediv_of_nonneg (by omega)]
theorem tmod_nn {a b : Int} (h : 0 ≤ a) : 0 ≤ Int.tmod a b := by rw [Int.tmod_eq_emod_of_nonneg h]; exact (Int.lt_or_le 0 b).elim (fun hb => Int.emod_nonneg _ (by omega)) (fun hb => by
  by_cases h0 : b = 0
  · subst h0; simpa using h
  · exact Int.emod_nonneg _ h0)
theorem tmod_lt {a b : Int} (h : 0 ≤ a) (hb : 0 < b) : Int.tmod a b < b := by rw [Int.tmod_eq_emod_of_nonneg h]; exact Int.emod_lt_of_pos _ hb
theorem tmod_lit (a : Int) (n : Nat) {inst : OfNat Int n} : Int.tmod a (no_index (@OfNat.ofNat Int n inst)) = if 0 ≤ a then a % (@OfNat.ofNat Int n inst) else -((-a) % (@OfNat.ofNat Int n inst)) := tmod_ite _ _
theorem tdiv_lit (a : Int) (n : Nat) {inst : OfNat Int n} : Int.tdiv a (no_index (@OfNat.ofNat Int n inst)) = if 0 ≤ a then a / (@OfNat.ofNat Int n inst) else -((-a) / (@OfNat.ofNat Int n inst)) := tdiv_ite _ _
theorem wrap_u8_of {x : Int} (h0 : 0 ≤ x) (h1 : x ≤ 255) : IntKind.u8.wrap x = x := by rw [IntKind.wrap_u8]; omega
theorem wrap_u32_of {x : Int} (h0 : 0 ≤ x) (h1 : x ≤ 4294967295) : IntKind.u32.wrap x = x := by rw [IntKind.wrap_u32]; omega
theorem wrap_u64_of {x : Int} (h0 : 0 ≤ x) (h1 : x ≤ 18446744073709551615) : IntKind.u64.wrap x = x := by rw [IntKind.wrap_u64]; omega
/-- The variables behind so many rounds. -/
def endOf {K X ρ : Type} (step : K → X → BOut K X ρ) (k : K) : Nat → X → X
  | 0, x => x
  | n + 1, x => match step k x with | .next _ y => endOf step k n y | .brk _ y => y | .ret _ => x
/-- What a round returned. -/
def retOf {K X ρ : Type} (step : K → X → BOut K X ρ) (k : K) : Nat → X → Option ρ
  | 0, _ => none
  | n + 1, x => match step k x with | .next _ y => retOf step k n y | .brk _ _ => none | .ret r => some r
end Go.Proofs.YtpbljgpdhllklaaDoor.Sp
namespace Go.Proofs.YtpbljgpdhllklaaDoor.Sy
open Go Go.RowKit Sp

theorem endOf_more {K X ρ : Type} {step : K → X → BOut K X ρ} {k : K} {I : X → Prop} {μ : X → Nat} (h : ∀ x k' y, I x → step k x = .next k' y → I y ∧ μ y < μ x) :
    ∀ (n m : Nat) (x : X), I x → μ x < n → μ x < m → endOf step k n x = endOf step k m x ∧ retOf step k n x = retOf step k m x
  | 0, _, x, _, hn, _ => by omega
  | _ + 1, 0, x, _, _, hm => by omega
  | n + 1, m + 1, x, hi, hn, hm => by
    simp only [endOf, retOf]
    cases hs : step k x with
    | next k' y =>
      obtain ⟨h1, h2⟩ := h x k' y hi hs
      exact endOf_more h n m y h1 (by omega) (by omega)
    | brk k' y => exact ⟨rfl, rfl⟩
    | ret r => exact ⟨rfl, rfl⟩

/-- A loop as its rounds say. -/
def mkLS {ρ : Type} (K X : Ty) (ks : List (Nat × Option Nat)) (kb : List (Nat × Nat)) (xs : List (Nat × Option Nat)) (xb : List (Nat × Nat)) (vecs : List (Nat × Nat × Bool × Nat)) (fz : List Nat) (ptrs : List (Nat × Nat)) (exit : Nat) (rets : Bool)
    (inv : K.den → X.den → Prop) (step : K.den → X.den → BOut K.den X.den ρ) (μ : K.den → X.den → Nat) : LS ρ :=
  { K := K, X := X, ks := ks, kb := kb, xs := xs, xb := xb, vecs := vecs, fz := fz, ptrs := ptrs, exit := exit, inv := some inv,
    G := fun k x => endOf step k (Nat.succ (μ k x)) x, R := cnd rets (some fun k x => retOf step k (Nat.succ (μ k x)) x) none }

def StepOk {K X ρ : Type} (rets : Bool) (inv : K → X → Prop) (μ : K → X → Nat) (k : K) (x : X) : BOut K X ρ → Prop
  | .next k' y => k' = k ∧ inv k y ∧ μ k y < μ k x
  | .brk k' _ => k' = k
  | .ret _ => rets = true

theorem StepOk.cnd {K X ρ : Type} {rets : Bool} {inv : K → X → Prop} {μ : K → X → Nat} {k : K} {x : X} {c : Bool} {a b : BOut K X ρ} (ha : c = true → StepOk rets inv μ k x a) (hb : c = false → StepOk rets inv μ k x b) :
    StepOk rets inv μ k x (bif c then a else b) := by cases c; exact hb rfl; exact ha rfl
theorem StepOk.opt {K X ρ : Type} {inv : K → X → Prop} {μ : K → X → Nat} {k : K} {x : X} {o : Option ρ} {a : BOut K X ρ} (ha : o = none → StepOk true inv μ k x a) :
    StepOk true inv μ k x (Sp.optR o BOut.ret a) := by cases o; exact ha rfl; exact rfl

theorem loop_run0 {P : Program} {C : Ctx} (hC : CtxOk P C) {ρ : Type} {Ret : Nat → (Nat → Nat → Prop) → ρ → Act → World → Prop} {ret : ASt → Tr ρ ρ} (hmono : ∀ n X X' r a w, (∀ b p, X' b p → X b p) → Ret n X r a w → Ret n X' r a w)
    (hret : ∀ (φ : Fr) st a w r, Sat φ ν0 st a w → ret st = .ret r → Ret φ.n0 φ.X0 r a w) {L : Nat → Option (LS ρ)} {body : Code} {K X : Ty} {ks : List (Nat × Option Nat)} {kb : List (Nat × Nat)} {xs : List (Nat × Option Nat)} {xb : List (Nat × Nat)} {vecs : List (Nat × Nat × Bool × Nat)} {fz : List Nat} {ptrs : List (Nat × Nat)} {exit : Nat} {rets : Bool}
    {inv : K.den → X.den → Prop} {step : K.den → X.den → BOut K.den X.den ρ} {μ : K.den → X.den → Nat} {d : BOut K.den X.den ρ}
    (hL : ∀ b ∈ loopsIn body, ∀ s', L (codeId b) = some s' → LoopOk P C.G Ret b s')
    (hsafe : ∀ kv xv, Fit K kv → Fit X xv → inv kv xv → SafeW (evCode C L body (tmpl (mkLS K X ks kb xs xb vecs fz ptrs exit rets inv step μ) (enc K kv) (enc X xv)) (evRound (mkLS K X ks kb xs xb vecs fz ptrs exit rets inv step μ) ret)))
    (hval : ∀ kv xv, (evCode C L body (tmpl (mkLS K X ks kb xs xb vecs fz ptrs exit rets inv step μ) (enc K kv) (enc X xv)) (evRound (mkLS K X ks kb xs xb vecs fz ptrs exit rets inv step μ) ret)).val BOut.ret d = step kv xv)
    (hstep : ∀ kv xv, Fit K kv → inv kv xv → StepOk rets inv μ kv xv (step kv xv)) :
    LoopOk P C.G Ret body (mkLS K X ks kb xs xb vecs fz ptrs exit rets inv step μ) := by
  have key : ∀ (kv : K.den) (xv : X.den), Fit K kv → Fit X xv → inv kv xv → (evCode C L body (tmpl (mkLS K X ks kb xs xb vecs fz ptrs exit rets inv step μ) (enc K kv) (enc X xv)) (evRound (mkLS K X ks kb xs xb vecs fz ptrs exit rets inv step μ) ret)).All BOut.ret
      (RoundOk (mkLS K X ks kb xs xb vecs fz ptrs exit rets inv step μ) μ kv xv) := by
    intro kv xv hfK hfX hi
    refine All.mono (fun o ho => ?_) (all_of_safe (rt := BOut.ret) (d := d) (hsafe kv xv hfK hfX hi).safe)
    have ho : o = step kv xv := ho.trans (hval kv xv)
    subst ho
    have hs := hstep kv xv hfK hi
    have hmore : ∀ y, inv kv y → μ kv y < μ kv xv → endOf step kv (Nat.succ (μ kv y)) y = endOf step kv (μ kv xv) y ∧ retOf step kv (Nat.succ (μ kv y)) y = retOf step kv (μ kv xv) y := fun y hy hlt =>
      endOf_more (I := inv kv) (μ := μ kv) (fun x k' z hx hz => by have := hstep kv x hfK hx; rw [hz] at this; exact this.2) _ _ y hy (by omega) (by omega)
    cases hc : step kv xv with
    | next k y =>
      rw [hc] at hs
      obtain ⟨h1, h2, h3⟩ := hs
      refine ⟨h1, fun p hp => by cases hp; exact h2, h3, ?_, fun R hR => ?_⟩
      · show endOf step kv (Nat.succ (μ kv y)) y = endOf step kv (Nat.succ (μ kv xv)) xv
        rw [(hmore y h2 h3).1]
        simp only [endOf, hc]
      · cases rets with
        | false => cases hR
        | true =>
          cases hR
          show retOf step kv (Nat.succ (μ kv y)) y = retOf step kv (Nat.succ (μ kv xv)) xv
          rw [(hmore y h2 h3).2]
          simp only [retOf, hc]
    | brk k y =>
      rw [hc] at hs
      refine ⟨hs, ?_, fun R hR => ?_⟩
      · show endOf step kv (Nat.succ (μ kv xv)) xv = y
        simp only [endOf, hc]
      · cases rets with
        | false => cases hR
        | true =>
          cases hR
          show retOf step kv (Nat.succ (μ kv xv)) xv = none
          simp only [retOf, hc]
    | ret z =>
      rw [hc] at hs
      cases rets with
      | false => cases hs
      | true =>
        refine ⟨_, rfl, ?_⟩
        show retOf step kv (Nat.succ (μ kv xv)) xv = some z
        simp only [retOf, hc]
  exact loop_ok hC hmono (ret := ret) hret hL μ (fun kv xv hfK hfX hi => key kv xv hfK hfX (hi inv rfl))

theorem loop_run {P : Program} {C : Ctx} (hC : CtxOk P C) {fn : Func} {rsh : Rsh} {fr : Option Nat} {r : Ty} {L : Nat → Option (LS r.den)} {body : Code} {K X : Ty} {ks : List (Nat × Option Nat)} {kb : List (Nat × Nat)} {xs : List (Nat × Option Nat)} {xb : List (Nat × Nat)} {vecs : List (Nat × Nat × Bool × Nat)} {fz : List Nat} {ptrs : List (Nat × Nat)} {exit : Nat} {rets : Bool}
    {inv : K.den → X.den → Prop} {step : K.den → X.den → BOut K.den X.den r.den} {μ : K.den → X.den → Nat} {d : BOut K.den X.den r.den}
    (hL : ∀ b ∈ loopsIn body, ∀ s', L (codeId b) = some s' → LoopOk P C.G (RetAt P fn rsh fr r) b s')
    (hsafe : ∀ kv xv, Fit K kv → Fit X xv → inv kv xv → SafeW (evCode C L body (tmpl (mkLS K X ks kb xs xb vecs fz ptrs exit rets inv step μ) (enc K kv) (enc X xv)) (evRound (mkLS K X ks kb xs xb vecs fz ptrs exit rets inv step μ) (evRet C fn rsh fr r .ret))))
    (hval : ∀ kv xv, (evCode C L body (tmpl (mkLS K X ks kb xs xb vecs fz ptrs exit rets inv step μ) (enc K kv) (enc X xv)) (evRound (mkLS K X ks kb xs xb vecs fz ptrs exit rets inv step μ) (evRet C fn rsh fr r .ret))).val BOut.ret d = step kv xv)
    (hstep : ∀ kv xv, Fit K kv → inv kv xv → StepOk rets inv μ kv xv (step kv xv)) :
    LoopOk P C.G (RetAt P fn rsh fr r) body (mkLS K X ks kb xs xb vecs fz ptrs exit rets inv step μ) :=
  loop_run0 hC (fun n X X' r a w h hr => hr.mono h) (ret := evRet C fn rsh fr r .ret) (fun φ st a w r hs hr => by
    obtain ⟨m, hm⟩ := hs
    obtain ⟨_, y, hy, h⟩ := evRet_ok (Post := fun y => y = r) hC hm (by rw [hr]; exact rfl)
    subst hy
    exact h) hL hsafe hval hstep

theorem loop_runP {P : Program} {C : Ctx} (hC : CtxOk P C) {L : Nat → Option (LS Unit)} {body : Code} {K X : Ty} {ks : List (Nat × Option Nat)} {kb : List (Nat × Nat)} {xs : List (Nat × Option Nat)} {xb : List (Nat × Nat)} {vecs : List (Nat × Nat × Bool × Nat)} {fz : List Nat} {ptrs : List (Nat × Nat)} {exit : Nat} {rets : Bool}
    {inv : K.den → X.den → Prop} {step : K.den → X.den → BOut K.den X.den Unit} {μ : K.den → X.den → Nat} {d : BOut K.den X.den Unit}
    (hL : ∀ b ∈ loopsIn body, ∀ s', L (codeId b) = some s' → LoopOk P C.G (fun _ _ (_ : Unit) _ _ => False) b s')
    (hsafe : ∀ kv xv, Fit K kv → Fit X xv → inv kv xv → SafeW (evCode C L body (tmpl (mkLS K X ks kb xs xb vecs fz ptrs exit rets inv step μ) (enc K kv) (enc X xv)) (evRound (mkLS K X ks kb xs xb vecs fz ptrs exit rets inv step μ) (fun _ => .bad))))
    (hval : ∀ kv xv, (evCode C L body (tmpl (mkLS K X ks kb xs xb vecs fz ptrs exit rets inv step μ) (enc K kv) (enc X xv)) (evRound (mkLS K X ks kb xs xb vecs fz ptrs exit rets inv step μ) (fun _ => .bad))).val BOut.ret d = step kv xv)
    (hstep : ∀ kv xv, Fit K kv → inv kv xv → StepOk rets inv μ kv xv (step kv xv)) :
    LoopOk P C.G (fun _ _ (_ : Unit) _ _ => False) body (mkLS K X ks kb xs xb vecs fz ptrs exit rets inv step μ) :=
  loop_run0 hC (fun n X X' r a w h hr => hr.elim) (ret := fun _ => .bad) (fun φ st a w r hs hr => by cases hr) hL hsafe hval hstep

def noL {ρ : Type} : Nat → Option (LS ρ) := fun _ => none
theorem no_loops {ρ : Type} {c : Code} {Q : Code → LS ρ → Prop} : ∀ body ∈ loopsIn c, ∀ s, noL (codeId body) = some s → Q body s := fun _ _ _ h => by cases h
def lookL {ρ : Type} : List (Nat × LS ρ) → Nat → Option (LS ρ)
  | [], _ => none
  | (i, s) :: r, t => cnd (Nat.beq t i) (some s) (lookL r t)
/-- A loop's body: the i-th loop of a code, and so on inside. -/
def bodyAt : Code → List Nat → Code
  | c, [] => c
  | c, i :: r => bodyAt ((loopsIn c).getD i .skip) r
def bodyOf (fn : Func) : Code := fn.body.getD .skip

section
variable {P : Program} {G : Gd} {ρ : Type} {Ret : Nat → (Nat → Nat → Prop) → ρ → Act → World → Prop} {L : Nat → Option (LS ρ)}
theorem loops_nil : ∀ body ∈ ([] : List Code), ∀ s, L (codeId body) = some s → LoopOk P G Ret body s := fun _ h => by cases h
theorem loops_cons {b : Code} {s0 : LS ρ} {rest : List Code} (h0 : L (codeId b) = some s0) (h1 : LoopOk P G Ret b s0)
    (h : ∀ body ∈ rest, ∀ s, L (codeId body) = some s → LoopOk P G Ret body s) : ∀ body ∈ b :: rest, ∀ s, L (codeId body) = some s → LoopOk P G Ret body s := by
  intro body hb s hs
  rcases List.mem_cons.1 hb with rfl | hb
  · rw [h0] at hs; cases hs; exact h1
  · exact h body hb s hs
theorem loops_of {c : Code} {l : List Code} (he : loopsIn c = l) (h : ∀ body ∈ l, ∀ s, L (codeId body) = some s → LoopOk P G Ret body s) : ∀ body ∈ loopsIn c, ∀ s, L (codeId body) = some s → LoopOk P G Ret body s := by rw [he]; exact h
end
end Go.Proofs.YtpbljgpdhllklaaDoor.Sy
end

section
/- Small lemmas on worlds that have grown (own work): a call that keeps all old blocks leaves the old world with new blocks behind it. -/
namespace Go.Proofs.YtpbljgpdhllklaaDoor
open Go.RowKit

/-- What a world has grown by: blocks behind the old ones, and any count of draws. -/
structure Gr where
  xs : Array Obj
  d : Nat
instance : Inhabited Gr := ⟨⟨#[], 0⟩⟩
def Gr.n (g : Gr) : Nat := g.xs.size
def Gr.drew (g : Gr) : Gr := ⟨g.xs, g.d + 1⟩
def Gr.add (g h : Gr) : Gr := ⟨g.xs ++ h.xs, h.d⟩

def ext (w : World) (g : Gr) : World := { w with heap := w.heap ++ g.xs, drawn := g.d }

@[simp, go_sem] theorem size_ext (w : World) (g : Gr) : (ext w g).heap.size = w.heap.size + g.n := by simp [ext, Gr.n]
@[simp high, go_sem high] theorem size_ext_add (w : World) (g h : Gr) : (ext w (g.add h)).heap.size = (ext w g).heap.size + h.n := by simp [ext, Gr.add, Gr.n, Nat.add_assoc]
@[simp high, go_sem high] theorem size_ext_drew (w : World) (g : Gr) : (ext w g.drew).heap.size = (ext w g).heap.size := by simp [ext, Gr.drew]
@[simp, go_sem] theorem add_add_n (a : Nat) (g h : Gr) : a + (g.add h).n = a + g.n + h.n := by simp [Gr.add, Gr.n, Nat.add_assoc]
@[simp, go_sem] theorem add_drew_n (a : Nat) (g : Gr) : a + g.drew.n = a + g.n := by simp [Gr.drew, Gr.n]
@[go_sem] theorem drew_ext (w : World) (g : Gr) : (ext w g).drew = ext w g.drew := rfl
@[go_sem] theorem ext_drew (w : World) (g : Gr) : ext w.drew g = ext w g := rfl
@[go_sem] theorem ext_ext (w : World) (g h : Gr) : ext (ext w g) h = ext w (g.add h) := by simp [ext, Gr.add]
theorem heap_ext (w : World) (g : Gr) (k : Nat) (h : k < w.heap.size) : (ext w g).heap[k]? = w.heap[k]? := by
  simp [ext, Array.getElem?_append, h]
@[go_sem] theorem cell_ext (w : World) (g : Gr) (b i : Nat) (h : b < w.heap.size) : (ext w g).cell? ⟨b, i, none⟩ = w.cell? ⟨b, i, none⟩ := by
  unfold World.cell?; rw [heap_ext w g b h]
@[go_sem] theorem frozen_ext (w : World) (g : Gr) (b i : Nat) (h : b < w.heap.size) : (ext w g).frozen? ⟨b, i, none⟩ = w.frozen? ⟨b, i, none⟩ := by
  unfold World.frozen?; rw [heap_ext w g b h]
@[go_sem] theorem shape_ext (w : World) (g : Gr) (b : Nat) (h : b < w.heap.size) : (ext w g).shape? b = w.shape? b := by
  unfold World.shape?; rw [heap_ext w g b h]
@[go_sem] theorem setCell_ext (w : World) (g : Gr) (b i : Nat) (v : Value) (h : b < w.heap.size) : (ext w g).setCell ⟨b, i, none⟩ v = ext (w.setCell ⟨b, i, none⟩ v) g := by
  unfold World.setCell ext
  congr 1
  apply Array.ext_getElem?
  intro k
  simp only [Array.getElem?_modify, Array.getElem?_append, Array.size_modify]
  by_cases hk : k < w.heap.size
  · simp [hk]
  · simp [hk, show ¬ b = k by omega]

@[go_sem] theorem lt_size1 (a : Nat) (x0 : Nat) : (a < a + 1 + x0) = True := eq_true (by omega)
@[go_sem] theorem lt_size2 (a : Nat) (x0 x1 : Nat) : (a < a + 1 + x0 + x1) = True := eq_true (by omega)
@[go_sem] theorem lt_size3 (a : Nat) (x0 x1 x2 : Nat) : (a < a + 1 + x0 + x1 + x2) = True := eq_true (by omega)
@[go_sem] theorem lt_size4 (a : Nat) (x0 x1 x2 x3 : Nat) : (a < a + 1 + x0 + x1 + x2 + x3) = True := eq_true (by omega)
@[go_sem] theorem lt_size5 (a : Nat) (x0 x1 x2 x3 x4 : Nat) : (a < a + 1 + x0 + x1 + x2 + x3 + x4) = True := eq_true (by omega)
@[go_sem] theorem lt_size6 (a : Nat) (x0 x1 x2 x3 x4 x5 : Nat) : (a < a + 1 + x0 + x1 + x2 + x3 + x4 + x5) = True := eq_true (by omega)
@[go_sem] theorem lt_size7 (a : Nat) (x0 x1 x2 x3 x4 x5 x6 : Nat) : (a < a + 1 + x0 + x1 + x2 + x3 + x4 + x5 + x6) = True := eq_true (by omega)
@[go_sem] theorem lt_size8 (a : Nat) (x0 x1 x2 x3 x4 x5 x6 x7 : Nat) : (a < a + 1 + x0 + x1 + x2 + x3 + x4 + x5 + x6 + x7) = True := eq_true (by omega)
@[go_sem] theorem lt_size9 (a : Nat) (x0 x1 x2 x3 x4 x5 x6 x7 x8 : Nat) : (a < a + 1 + x0 + x1 + x2 + x3 + x4 + x5 + x6 + x7 + x8) = True := eq_true (by omega)
@[go_sem] theorem lt_size10 (a : Nat) (x0 x1 x2 x3 x4 x5 x6 x7 x8 x9 : Nat) : (a < a + 1 + x0 + x1 + x2 + x3 + x4 + x5 + x6 + x7 + x8 + x9) = True := eq_true (by omega)
@[go_sem] theorem lt_size11 (a : Nat) (x0 x1 x2 x3 x4 x5 x6 x7 x8 x9 x10 : Nat) : (a < a + 1 + x0 + x1 + x2 + x3 + x4 + x5 + x6 + x7 + x8 + x9 + x10) = True := eq_true (by omega)
@[go_sem] theorem lt_size12 (a : Nat) (x0 x1 x2 x3 x4 x5 x6 x7 x8 x9 x10 x11 : Nat) : (a < a + 1 + x0 + x1 + x2 + x3 + x4 + x5 + x6 + x7 + x8 + x9 + x10 + x11) = True := eq_true (by omega)
@[go_sem] theorem lt_size13 (a : Nat) (x0 x1 x2 x3 x4 x5 x6 x7 x8 x9 x10 x11 x12 : Nat) : (a < a + 1 + x0 + x1 + x2 + x3 + x4 + x5 + x6 + x7 + x8 + x9 + x10 + x11 + x12) = True := eq_true (by omega)
@[go_sem] theorem lt_size14 (a : Nat) (x0 x1 x2 x3 x4 x5 x6 x7 x8 x9 x10 x11 x12 x13 : Nat) : (a < a + 1 + x0 + x1 + x2 + x3 + x4 + x5 + x6 + x7 + x8 + x9 + x10 + x11 + x12 + x13) = True := eq_true (by omega)
@[go_sem] theorem lt_size15 (a : Nat) (x0 x1 x2 x3 x4 x5 x6 x7 x8 x9 x10 x11 x12 x13 x14 : Nat) : (a < a + 1 + x0 + x1 + x2 + x3 + x4 + x5 + x6 + x7 + x8 + x9 + x10 + x11 + x12 + x13 + x14) = True := eq_true (by omega)

@[go_sem low] theorem lt_base1 {b s : Nat} (h : b < s) (x0 : Nat) : (b < s + x0) = True := eq_true (by omega)
@[go_sem low] theorem lt_base2 {b s : Nat} (h : b < s) (x0 x1 : Nat) : (b < s + x0 + x1) = True := eq_true (by omega)
@[go_sem low] theorem lt_base3 {b s : Nat} (h : b < s) (x0 x1 x2 : Nat) : (b < s + x0 + x1 + x2) = True := eq_true (by omega)
@[go_sem low] theorem lt_base4 {b s : Nat} (h : b < s) (x0 x1 x2 x3 : Nat) : (b < s + x0 + x1 + x2 + x3) = True := eq_true (by omega)
@[go_sem low] theorem lt_base5 {b s : Nat} (h : b < s) (x0 x1 x2 x3 x4 : Nat) : (b < s + x0 + x1 + x2 + x3 + x4) = True := eq_true (by omega)
@[go_sem low] theorem lt_base6 {b s : Nat} (h : b < s) (x0 x1 x2 x3 x4 x5 : Nat) : (b < s + x0 + x1 + x2 + x3 + x4 + x5) = True := eq_true (by omega)
@[go_sem low] theorem lt_base7 {b s : Nat} (h : b < s) (x0 x1 x2 x3 x4 x5 x6 : Nat) : (b < s + x0 + x1 + x2 + x3 + x4 + x5 + x6) = True := eq_true (by omega)
@[go_sem low] theorem lt_base8 {b s : Nat} (h : b < s) (x0 x1 x2 x3 x4 x5 x6 x7 : Nat) : (b < s + x0 + x1 + x2 + x3 + x4 + x5 + x6 + x7) = True := eq_true (by omega)
@[go_sem low] theorem lt_base9 {b s : Nat} (h : b < s) (x0 x1 x2 x3 x4 x5 x6 x7 x8 : Nat) : (b < s + x0 + x1 + x2 + x3 + x4 + x5 + x6 + x7 + x8) = True := eq_true (by omega)
@[go_sem low] theorem lt_base10 {b s : Nat} (h : b < s) (x0 x1 x2 x3 x4 x5 x6 x7 x8 x9 : Nat) : (b < s + x0 + x1 + x2 + x3 + x4 + x5 + x6 + x7 + x8 + x9) = True := eq_true (by omega)
@[go_sem low] theorem lt_base11 {b s : Nat} (h : b < s) (x0 x1 x2 x3 x4 x5 x6 x7 x8 x9 x10 : Nat) : (b < s + x0 + x1 + x2 + x3 + x4 + x5 + x6 + x7 + x8 + x9 + x10) = True := eq_true (by omega)
@[go_sem low] theorem lt_base12 {b s : Nat} (h : b < s) (x0 x1 x2 x3 x4 x5 x6 x7 x8 x9 x10 x11 : Nat) : (b < s + x0 + x1 + x2 + x3 + x4 + x5 + x6 + x7 + x8 + x9 + x10 + x11) = True := eq_true (by omega)
@[go_sem low] theorem lt_base13 {b s : Nat} (h : b < s) (x0 x1 x2 x3 x4 x5 x6 x7 x8 x9 x10 x11 x12 : Nat) : (b < s + x0 + x1 + x2 + x3 + x4 + x5 + x6 + x7 + x8 + x9 + x10 + x11 + x12) = True := eq_true (by omega)

theorem below_ext {B : Nat} {a w : World} (h : Below B a w) (hB : B ≤ w.heap.size) (g : Gr) : Below B a (ext w g) :=
  h.trans ⟨rfl, rfl, rfl, by simp, fun k hk => heap_ext _ _ _ (by omega)⟩
theorem ext_of {w w' : World} (h : Below w.heap.size w w') : ∃ g, w' = ext w g := by
  refine ⟨⟨w'.heap.extract w.heap.size w'.heap.size, w'.drawn⟩, ?_⟩
  obtain ⟨h1, h2, h3, h4, h5⟩ := h
  cases w'; cases w
  simp only [ext] at *
  subst h1 h2 h3
  congr 1
  apply Array.ext_getElem?
  intro k
  rw [Array.getElem?_append]
  split
  · exact h5 k ‹_›
  · rw [Array.getElem?_extract]
    simp
    split
    · congr 1; omega
    · rw [Array.getElem?_eq_none_iff]; omega
theorem drew_is_ext (w : World) : w.drew = ext w ⟨#[], w.drawn + 1⟩ := by unfold ext; simp only [Array.append_empty]; rfl
theorem same_is_ext (w : World) : w = ext w ⟨#[], w.drawn⟩ := by unfold ext; simp only [Array.append_empty]

/-- A region that draws its order, whose operations only read what was there and whose calls only make memory: one walk in the order of the text. -/
theorem wp_region_ext {P : Program} {id : Nat} {Q : Exit → Act → World → Prop} {a : Act} {w : World} {l : List Oper} (hm : P.follows .mixedOrders = true) (hB : Region.lexB .any l.toArray = true)
    (h : wpQuiet P l.toArray (fun w' => ∃ g, w' = ext w g) (fun a' => ∀ w', (∃ g, w' = ext w g) → Q .normal a' w') l a) : (Code.region id l.toArray true).wp P Q a w :=
  wp_region_quiet (C := fun w' => ∃ g, w' = ext w g) hm hB ⟨_, drew_is_ext w⟩ (by simpa using h)

/-- A callee's contract met inside such a region. -/
theorem call_ext {P : Program} {f : FuncId} {args : Array Value} {w : World} {g : Gr} {v : Value}
    (h : Calls P f args (ext w g) fun e w' => e = .returned v ∧ Below (ext w g).heap.size (ext w g) w') : Calls P f args (ext w g) fun e w'' => e = .returned v ∧ ∃ g', w'' = ext w g' :=
  h.mono fun _ _ ⟨he, hb⟩ => by obtain ⟨g', rfl⟩ := ext_of hb; exact ⟨he, _, ext_ext w g g'⟩
theorem Gr.add_assoc (a b c : Gr) : (a.add b).add c = a.add (b.add c) := by simp [Gr.add, Array.append_assoc]
theorem call_ext2 {P : Program} {f : FuncId} {args : Array Value} {w : World} {A g : Gr} {v : Value}
    (h : Calls P f args (ext w (A.add g)) fun e w' => e = .returned v ∧ Below (ext w (A.add g)).heap.size (ext w (A.add g)) w') : Calls P f args (ext w (A.add g)) fun e w'' => e = .returned v ∧ ∃ g', w'' = ext w (A.add g') :=
  h.mono fun _ _ ⟨he, hb⟩ => by obtain ⟨g', rfl⟩ := ext_of hb; exact ⟨he, g.add g', by rw [ext_ext, Gr.add_assoc]⟩
theorem call_same2 {P : Program} {f : FuncId} {args : Array Value} {w : World} {A g : Gr} {v : Value}
    (h : Calls P f args (ext w (A.add g)) fun e w' => e = .returned v ∧ ext w (A.add g) = w') : Calls P f args (ext w (A.add g)) fun e w'' => e = .returned v ∧ ∃ g', w'' = ext w (A.add g') :=
  h.mono fun _ _ ⟨he, hb⟩ => ⟨he, g, hb.symm⟩
theorem call_same {P : Program} {f : FuncId} {args : Array Value} {w : World} {g : Gr} {v : Value}
    (h : Calls P f args (ext w g) fun e w' => e = .returned v ∧ ext w g = w') : Calls P f args (ext w g) fun e w'' => e = .returned v ∧ ∃ g', w'' = ext w g' :=
  h.mono fun _ _ ⟨he, hb⟩ => ⟨he, g, hb.symm⟩

theorem ret_bool {a b : Bool} (h : a = b) : Ending.returned (.bool a) = .returned (.bool b) := by rw [h]
theorem ret_iff {a : Bool} {p : Prop} [Decidable p] (h : a = true ↔ p) : Ending.returned (.bool a) = .returned (.bool (decide p)) := by
  rw [show a = decide p from by rw [Bool.eq_iff_iff]; simpa using h]
theorem ret_int {k : IntKind} {a b : Int} (h : a = b) : Ending.returned (.int k a) = .returned (.int k b) := by rw [h]
end Go.Proofs.YtpbljgpdhllklaaDoor
end

section
/- Opening arguments of any flat make: own lemmas on the readings of structs, arrays and slices. -/
namespace Go.Proofs.YtpbljgpdhllklaaDoor
open Go.ChangeShapes Go.WideShapes Go.ChangeAt Go.RowKit Go.Deep

/-- A slice that came in: nil, or a row of elements of C cells each, every element as E says. -/
def IsSlice (w : World) (C : Nat) (E : List Value → Prop) (v : Value) : Prop :=
  v = .slice none 0 0 ∨ ∃ (a : Addr) (len cap : Nat), v = .slice (some a) len cap ∧ len ≤ cap ∧ cap ≤ maxLen ∧
    ∀ i, i < len → ∃ cs : List Value, cs.length = C ∧ E cs ∧ a.spot = none ∧ a.block < w.heap.size ∧ ∀ j, j < C → w.cell? ⟨a.block, a.off + (i * C + j), none⟩ = some (cs.getD j undef)

section
variable {H : Type} {enc : TypeId × Value → H} {P : Program} {w : World} {base : Nat} {spare : Nat → Bool} {held : Bool}

theorem okWide_array {r : Reach} {b0 : Nat} {t : TypeId} {v : Value} {n : Nat} {e : TypeId} (ht : P.underlying t = some (.array n e)) (h : Value.okWide P w r b0 t v) : ∃ cs, v = .agg cs ∧ cs.size = P.cellsOf t := by
  simp only [Value.okWide, ht] at h
  obtain ⟨cs, h1, h2, _⟩ := h
  exact ⟨cs, h1, h2⟩

theorem struct_fields {t : TypeId} {fs : Array Field} {fuel : Nat} {cs : List Value} {x : DataW H × List MemPlace} (ht : P.underlying t = some (.struct fs)) (h : DataW.trod enc P w base spare held fuel t cs = some x) :
    cs.length = P.cellsOf t ∧ ∃ n, ∀ (i : Nat) (f : Field), fs[i]? = some f → ∃ y, DataW.trod enc P w base spare held n f.type ((cs.drop f.offset).take (P.cellsOf f.type)) = some y := by
  obtain ⟨xs, n, _, _, hl, hx, hg⟩ := DataW.trod_struct ht h
  refine ⟨hl, n, fun i f hf => ?_⟩
  have hi : i < xs.length := by rw [hx]; exact (Array.getElem?_eq_some_iff.1 hf).1
  exact ⟨xs[i], (hg i f hf).trans (List.getElem?_eq_getElem hi)⟩

theorem array_elems {t e : TypeId} {m fuel : Nat} {cs : List Value} {x : DataW H × List MemPlace} (ht : P.underlying t = some (.array m e)) (h : DataW.trod enc P w base spare held fuel t cs = some x) :
    cs.length = P.cellsOf t ∧ ∃ n, ∀ (i : Nat), i < m → ∃ y, DataW.trod enc P w base spare held n e ((cs.drop (i * P.cellsOf e)).take (P.cellsOf e)) = some y := by
  obtain ⟨xs, n, _, _, hl, hx, hg⟩ := DataW.trod_array ht h
  refine ⟨hl, n, fun i hi => ?_⟩
  have hi' : i < xs.length := by omega
  exact ⟨xs[i], (hg i hi).trans (List.getElem?_eq_getElem hi')⟩

theorem trod_float {t : TypeId} {k : FloatKind} {fuel : Nat} {cs : List Value} {x : DataW H × List MemPlace} (ht : P.underlying t = some (.float k)) (h : DataW.trod enc P w base spare held fuel t cs = some x) : ∃ n, cs = [.float k n] ∧ (Lit.float k n).wf = true := by
  cases fuel with
  | zero => simp [DataW.trod] at h
  | succ n =>
    unfold DataW.trod at h
    rw [ht] at h
    split at h <;> simp_all

theorem slice_is {t e : TypeId} {C fuel : Nat} {cs : List Value} {x : DataW H × List MemPlace} (E : List Value → Prop) (ht : P.underlying t = some (.slice e)) (hC : P.cellsOf e = C) (hC0 : 0 < C)
    (hE : ∀ (n : Nat) (cs' : List Value) y, DataW.trod enc P w base spare held n e cs' = some y → E cs') (h : DataW.trod enc P w base spare held fuel t cs = some x) : ∃ v, cs = [v] ∧ IsSlice w C E v := by
  rcases open_slice ht h with ⟨rfl, _⟩ | ⟨a, len, cap, m, n, D, Pl, rfl, _, hl, hm, hmm, _, hg⟩
  · exact ⟨_, rfl, .inl rfl⟩
  · refine ⟨_, rfl, .inr ⟨a, len, cap, rfl, hl, hm, fun i hi => ?_⟩⟩
    obtain ⟨cs', h1, h2⟩ := hg i (by rw [hmm]; split <;> omega)
    rw [hC] at h1
    obtain ⟨_, hlen, hcell⟩ := World.cells?_some h1
    obtain ⟨cs0, h10, _⟩ := hg 0 (by rw [hmm]; split <;> omega)
    rw [hC] at h10
    obtain ⟨_, hlen0, hcell0⟩ := World.cells?_some h10
    have hc0 := hcell0 0 hC0
    rw [List.getElem?_eq_getElem (by omega)] at hc0
    have ha : (a.add (0 * C)).add 0 = a := by simp [Addr.add]
    rw [ha] at hc0
    have hs : a.spot = none := World.cell?_spot hc0
    have hb : a.block < w.heap.size := World.block_lt_of_cell? w a hc0
    refine ⟨cs', hlen, hE n cs' _ h2, hs, hb, fun j hj => ?_⟩
    have hcj := hcell j hj
    rw [List.getElem?_eq_getElem (by omega)] at hcj
    rw [List.getD_eq_getElem?_getD, List.getElem?_eq_getElem (by omega), Option.getD_some]
    rw [← hcj]
    congr 1
    obtain ⟨b, o, s⟩ := a
    simp only at hs
    subst hs
    unfold Addr.add
    by_cases h0 : i * C = 0 <;> by_cases hj0 : j = 0 <;> simp [h0, hj0, Nat.add_assoc]
end
end Go.Proofs.YtpbljgpdhllklaaDoor
end

section
/- Written by own program mkopen.py: the parameter types of this seat, opened to their cells. -/
namespace Go.Proofs.YtpbljgpdhllklaaDoor
open Go.ChangeShapes Go.WideShapes Go.ChangeAt Go.RowKit Go.Deep
set_option linter.unusedSimpArgs false
set_option linter.unusedVariables false
set_option maxRecDepth 100000

theorem cells_T5 : Tryd.prog.cellsOf 5 = 1 := by kernel_rfl
def E_T5 (cs : List Value) : Prop := ∃ (a0 : Int), cs = [.int .u8 a0] ∧ (Lit.int .u8 a0).wf = true
theorem open_T5 {H : Type} {enc : TypeId × Value → H} {w : World} {base : Nat} {spare : Nat → Bool} {held : Bool} {fuel : Nat} {cs : List Value} {x : DataW H × List MemPlace} (h : DataW.trod enc Tryd.prog w base spare held fuel 5 cs = some x) : E_T5 cs := by
  obtain ⟨n, rfl, _, hw⟩ := DataW.trod_int Tryd.underlying5 h
  exact ⟨n, rfl, hw⟩
theorem cells_T22 : Tryd.prog.cellsOf 22 = 2 := by kernel_rfl
def E_T22 (cs : List Value) : Prop := ∃ (a0 : Int) (a1 : Int), cs = [.int .u8 a0, .int .u8 a1] ∧ (Lit.int .u8 a0).wf = true ∧ (Lit.int .u8 a1).wf = true
theorem open_T22 {H : Type} {enc : TypeId × Value → H} {w : World} {base : Nat} {spare : Nat → Bool} {held : Bool} {fuel : Nat} {cs : List Value} {x : DataW H × List MemPlace} (h : DataW.trod enc Tryd.prog w base spare held fuel 22 cs = some x) : E_T22 cs := by
  obtain ⟨hl, n, hg⟩ := array_elems Tryd.underlying22 h
  rw [cells_T22] at hl
  match cs, hl with
  | [c0, c1], _ =>
    obtain ⟨y0, g0⟩ := hg 0 (by decide)
    simp only [List.getElem_toArray, List.getElem_cons_zero, List.getElem_cons_succ, cells_T5, Nat.zero_mul, Nat.one_mul, Nat.reduceMul, List.drop_zero, List.drop_succ_cons, List.take_succ_cons, List.take_zero] at g0
    obtain ⟨a0, q0, w0⟩ := open_T5 g0
    simp only [List.cons.injEq, and_true] at q0
    subst q0
    obtain ⟨y1, g1⟩ := hg 1 (by decide)
    simp only [List.getElem_toArray, List.getElem_cons_zero, List.getElem_cons_succ, cells_T5, Nat.zero_mul, Nat.one_mul, Nat.reduceMul, List.drop_zero, List.drop_succ_cons, List.take_succ_cons, List.take_zero] at g1
    obtain ⟨a1, q1, w1⟩ := open_T5 g1
    simp only [List.cons.injEq, and_true] at q1
    subst q1
    exact ⟨a0, a1, rfl, w0, w1⟩
theorem cells_T23 : Tryd.prog.cellsOf 23 = 1 := by kernel_rfl
theorem open_T23 {H : Type} {enc : TypeId × Value → H} {w : World} {base : Nat} {spare : Nat → Bool} {held : Bool} {fuel : Nat} {cs : List Value} {x : DataW H × List MemPlace} (h : DataW.trod enc Tryd.prog w base spare held fuel 23 cs = some x) : ∃ (a0 : Value), cs = [a0] ∧ IsSlice w 1 E_T5 a0 := by
  exact slice_is E_T5 Tryd.underlying23 cells_T5 (by decide) (fun _ _ _ h => open_T5 h) h
theorem cells_T3 : Tryd.prog.cellsOf 3 = 1 := by kernel_rfl
def E_T3 (cs : List Value) : Prop := ∃ (a0 : Int), cs = [.int .i64 a0] ∧ (Lit.int .i64 a0).wf = true
theorem open_T3 {H : Type} {enc : TypeId × Value → H} {w : World} {base : Nat} {spare : Nat → Bool} {held : Bool} {fuel : Nat} {cs : List Value} {x : DataW H × List MemPlace} (h : DataW.trod enc Tryd.prog w base spare held fuel 3 cs = some x) : E_T3 cs := by
  obtain ⟨n, rfl, _, hw⟩ := DataW.trod_int Tryd.underlying3 h
  exact ⟨n, rfl, hw⟩
theorem cells_T24 : Tryd.prog.cellsOf 24 = 1 := by kernel_rfl
def E_T24 (cs : List Value) : Prop := ∃ (a0 : Int), cs = [.int .u32 a0] ∧ (Lit.int .u32 a0).wf = true
theorem open_T24 {H : Type} {enc : TypeId × Value → H} {w : World} {base : Nat} {spare : Nat → Bool} {held : Bool} {fuel : Nat} {cs : List Value} {x : DataW H × List MemPlace} (h : DataW.trod enc Tryd.prog w base spare held fuel 24 cs = some x) : E_T24 cs := by
  obtain ⟨n, rfl, _, hw⟩ := DataW.trod_int Tryd.underlying24 h
  exact ⟨n, rfl, hw⟩
theorem cells_T26 : Tryd.prog.cellsOf 26 = 2 := by kernel_rfl
def E_T26 (cs : List Value) : Prop := ∃ (a0 : Int) (a1 : Int), cs = [.int .u32 a0, .int .u32 a1] ∧ (Lit.int .u32 a0).wf = true ∧ (Lit.int .u32 a1).wf = true
theorem open_T26 {H : Type} {enc : TypeId × Value → H} {w : World} {base : Nat} {spare : Nat → Bool} {held : Bool} {fuel : Nat} {cs : List Value} {x : DataW H × List MemPlace} (h : DataW.trod enc Tryd.prog w base spare held fuel 26 cs = some x) : E_T26 cs := by
  obtain ⟨hl, n, hg⟩ := struct_fields Tryd.underlying26 h
  rw [cells_T26] at hl
  match cs, hl with
  | [c0, c1], _ =>
    obtain ⟨y0, g0⟩ := hg 0 _ rfl
    simp only [List.getElem_toArray, List.getElem_cons_zero, List.getElem_cons_succ, cells_T24, Nat.zero_mul, Nat.one_mul, Nat.reduceMul, List.drop_zero, List.drop_succ_cons, List.take_succ_cons, List.take_zero] at g0
    obtain ⟨a0, q0, w0⟩ := open_T24 g0
    simp only [List.cons.injEq, and_true] at q0
    subst q0
    obtain ⟨y1, g1⟩ := hg 1 _ rfl
    simp only [List.getElem_toArray, List.getElem_cons_zero, List.getElem_cons_succ, cells_T24, Nat.zero_mul, Nat.one_mul, Nat.reduceMul, List.drop_zero, List.drop_succ_cons, List.take_succ_cons, List.take_zero] at g1
    obtain ⟨a1, q1, w1⟩ := open_T24 g1
    simp only [List.cons.injEq, and_true] at q1
    subst q1
    exact ⟨a0, a1, rfl, w0, w1⟩
theorem cells_T28 : Tryd.prog.cellsOf 28 = 9 := by kernel_rfl
def E_T28 (cs : List Value) : Prop := ∃ (a0 : Int) (a1 : Int) (a2 : Int) (a3 : Int) (a4 : Int) (a5 : Int) (a6 : Int) (a7 : Int) (a8 : Int), cs = [.int .i64 a0, .int .i64 a1, .int .i64 a2, .int .i64 a3, .int .i64 a4, .int .i64 a5, .int .u32 a6, .int .u32 a7, .int .u32 a8] ∧ (Lit.int .i64 a0).wf = true ∧ (Lit.int .i64 a1).wf = true ∧ (Lit.int .i64 a2).wf = true ∧ (Lit.int .i64 a3).wf = true ∧ (Lit.int .i64 a4).wf = true ∧ (Lit.int .i64 a5).wf = true ∧ (Lit.int .u32 a6).wf = true ∧ (Lit.int .u32 a7).wf = true ∧ (Lit.int .u32 a8).wf = true
theorem open_T28 {H : Type} {enc : TypeId × Value → H} {w : World} {base : Nat} {spare : Nat → Bool} {held : Bool} {fuel : Nat} {cs : List Value} {x : DataW H × List MemPlace} (h : DataW.trod enc Tryd.prog w base spare held fuel 28 cs = some x) : E_T28 cs := by
  obtain ⟨hl, n, hg⟩ := struct_fields Tryd.underlying28 h
  rw [cells_T28] at hl
  match cs, hl with
  | [c0, c1, c2, c3, c4, c5, c6, c7, c8], _ =>
    obtain ⟨y0, g0⟩ := hg 0 _ rfl
    simp only [List.getElem_toArray, List.getElem_cons_zero, List.getElem_cons_succ, cells_T3, Nat.zero_mul, Nat.one_mul, Nat.reduceMul, List.drop_zero, List.drop_succ_cons, List.take_succ_cons, List.take_zero] at g0
    obtain ⟨a0, q0, w0⟩ := open_T3 g0
    simp only [List.cons.injEq, and_true] at q0
    subst q0
    obtain ⟨y1, g1⟩ := hg 1 _ rfl
    simp only [List.getElem_toArray, List.getElem_cons_zero, List.getElem_cons_succ, cells_T3, Nat.zero_mul, Nat.one_mul, Nat.reduceMul, List.drop_zero, List.drop_succ_cons, List.take_succ_cons, List.take_zero] at g1
    obtain ⟨a1, q1, w1⟩ := open_T3 g1
    simp only [List.cons.injEq, and_true] at q1
    subst q1
    obtain ⟨y2, g2⟩ := hg 2 _ rfl
    simp only [List.getElem_toArray, List.getElem_cons_zero, List.getElem_cons_succ, cells_T3, Nat.zero_mul, Nat.one_mul, Nat.reduceMul, List.drop_zero, List.drop_succ_cons, List.take_succ_cons, List.take_zero] at g2
    obtain ⟨a2, q2, w2⟩ := open_T3 g2
    simp only [List.cons.injEq, and_true] at q2
    subst q2
    obtain ⟨y3, g3⟩ := hg 3 _ rfl
    simp only [List.getElem_toArray, List.getElem_cons_zero, List.getElem_cons_succ, cells_T3, Nat.zero_mul, Nat.one_mul, Nat.reduceMul, List.drop_zero, List.drop_succ_cons, List.take_succ_cons, List.take_zero] at g3
    obtain ⟨a3, q3, w3⟩ := open_T3 g3
    simp only [List.cons.injEq, and_true] at q3
    subst q3
    obtain ⟨y4, g4⟩ := hg 4 _ rfl
    simp only [List.getElem_toArray, List.getElem_cons_zero, List.getElem_cons_succ, cells_T3, Nat.zero_mul, Nat.one_mul, Nat.reduceMul, List.drop_zero, List.drop_succ_cons, List.take_succ_cons, List.take_zero] at g4
    obtain ⟨a4, q4, w4⟩ := open_T3 g4
    simp only [List.cons.injEq, and_true] at q4
    subst q4
    obtain ⟨y5, g5⟩ := hg 5 _ rfl
    simp only [List.getElem_toArray, List.getElem_cons_zero, List.getElem_cons_succ, cells_T3, Nat.zero_mul, Nat.one_mul, Nat.reduceMul, List.drop_zero, List.drop_succ_cons, List.take_succ_cons, List.take_zero] at g5
    obtain ⟨a5, q5, w5⟩ := open_T3 g5
    simp only [List.cons.injEq, and_true] at q5
    subst q5
    obtain ⟨y6, g6⟩ := hg 6 _ rfl
    simp only [List.getElem_toArray, List.getElem_cons_zero, List.getElem_cons_succ, cells_T26, Nat.zero_mul, Nat.one_mul, Nat.reduceMul, List.drop_zero, List.drop_succ_cons, List.take_succ_cons, List.take_zero] at g6
    obtain ⟨a6, a7, q6, w6, w7⟩ := open_T26 g6
    simp only [List.cons.injEq, and_true] at q6
    obtain ⟨rfl, rfl⟩ := q6
    obtain ⟨y7, g7⟩ := hg 7 _ rfl
    simp only [List.getElem_toArray, List.getElem_cons_zero, List.getElem_cons_succ, cells_T24, Nat.zero_mul, Nat.one_mul, Nat.reduceMul, List.drop_zero, List.drop_succ_cons, List.take_succ_cons, List.take_zero] at g7
    obtain ⟨a8, q7, w8⟩ := open_T24 g7
    simp only [List.cons.injEq, and_true] at q7
    subst q7
    exact ⟨a0, a1, a2, a3, a4, a5, a6, a7, a8, rfl, w0, w1, w2, w3, w4, w5, w6, w7, w8⟩
theorem cells_T45 : Tryd.prog.cellsOf 45 = 3 := by kernel_rfl
def E_T45 (cs : List Value) : Prop := ∃ (a0 : Int) (a1 : Int) (a2 : Int), cs = [.int .u8 a0, .int .u8 a1, .int .u8 a2] ∧ (Lit.int .u8 a0).wf = true ∧ (Lit.int .u8 a1).wf = true ∧ (Lit.int .u8 a2).wf = true
theorem open_T45 {H : Type} {enc : TypeId × Value → H} {w : World} {base : Nat} {spare : Nat → Bool} {held : Bool} {fuel : Nat} {cs : List Value} {x : DataW H × List MemPlace} (h : DataW.trod enc Tryd.prog w base spare held fuel 45 cs = some x) : E_T45 cs := by
  obtain ⟨hl, n, hg⟩ := array_elems Tryd.underlying45 h
  rw [cells_T45] at hl
  match cs, hl with
  | [c0, c1, c2], _ =>
    obtain ⟨y0, g0⟩ := hg 0 (by decide)
    simp only [List.getElem_toArray, List.getElem_cons_zero, List.getElem_cons_succ, cells_T5, Nat.zero_mul, Nat.one_mul, Nat.reduceMul, List.drop_zero, List.drop_succ_cons, List.take_succ_cons, List.take_zero] at g0
    obtain ⟨a0, q0, w0⟩ := open_T5 g0
    simp only [List.cons.injEq, and_true] at q0
    subst q0
    obtain ⟨y1, g1⟩ := hg 1 (by decide)
    simp only [List.getElem_toArray, List.getElem_cons_zero, List.getElem_cons_succ, cells_T5, Nat.zero_mul, Nat.one_mul, Nat.reduceMul, List.drop_zero, List.drop_succ_cons, List.take_succ_cons, List.take_zero] at g1
    obtain ⟨a1, q1, w1⟩ := open_T5 g1
    simp only [List.cons.injEq, and_true] at q1
    subst q1
    obtain ⟨y2, g2⟩ := hg 2 (by decide)
    simp only [List.getElem_toArray, List.getElem_cons_zero, List.getElem_cons_succ, cells_T5, Nat.zero_mul, Nat.one_mul, Nat.reduceMul, List.drop_zero, List.drop_succ_cons, List.take_succ_cons, List.take_zero] at g2
    obtain ⟨a2, q2, w2⟩ := open_T5 g2
    simp only [List.cons.injEq, and_true] at q2
    subst q2
    exact ⟨a0, a1, a2, rfl, w0, w1, w2⟩
theorem cells_T4 : Tryd.prog.cellsOf 4 = 1 := by kernel_rfl
def E_T4 (cs : List Value) : Prop := ∃ (a0 : Bool), cs = [.bool a0]
theorem open_T4 {H : Type} {enc : TypeId × Value → H} {w : World} {base : Nat} {spare : Nat → Bool} {held : Bool} {fuel : Nat} {cs : List Value} {x : DataW H × List MemPlace} (h : DataW.trod enc Tryd.prog w base spare held fuel 4 cs = some x) : E_T4 cs := by
  obtain ⟨b, rfl, _⟩ := DataW.trod_bool Tryd.underlying4 h
  exact ⟨b, rfl⟩
theorem cells_T68 : Tryd.prog.cellsOf 68 = 4 := by kernel_rfl
def E_T68 (cs : List Value) : Prop := ∃ (a0 : Int) (a1 : Bool) (a2 : Int) (a3 : Bool), cs = [.int .i64 a0, .bool a1, .int .i64 a2, .bool a3] ∧ (Lit.int .i64 a0).wf = true ∧ (Lit.int .i64 a2).wf = true
theorem open_T68 {H : Type} {enc : TypeId × Value → H} {w : World} {base : Nat} {spare : Nat → Bool} {held : Bool} {fuel : Nat} {cs : List Value} {x : DataW H × List MemPlace} (h : DataW.trod enc Tryd.prog w base spare held fuel 68 cs = some x) : E_T68 cs := by
  obtain ⟨hl, n, hg⟩ := struct_fields Tryd.underlying68 h
  rw [cells_T68] at hl
  match cs, hl with
  | [c0, c1, c2, c3], _ =>
    obtain ⟨y0, g0⟩ := hg 0 _ rfl
    simp only [List.getElem_toArray, List.getElem_cons_zero, List.getElem_cons_succ, cells_T3, Nat.zero_mul, Nat.one_mul, Nat.reduceMul, List.drop_zero, List.drop_succ_cons, List.take_succ_cons, List.take_zero] at g0
    obtain ⟨a0, q0, w0⟩ := open_T3 g0
    simp only [List.cons.injEq, and_true] at q0
    subst q0
    obtain ⟨y1, g1⟩ := hg 1 _ rfl
    simp only [List.getElem_toArray, List.getElem_cons_zero, List.getElem_cons_succ, cells_T4, Nat.zero_mul, Nat.one_mul, Nat.reduceMul, List.drop_zero, List.drop_succ_cons, List.take_succ_cons, List.take_zero] at g1
    obtain ⟨a1, q1⟩ := open_T4 g1
    simp only [List.cons.injEq, and_true] at q1
    subst q1
    obtain ⟨y2, g2⟩ := hg 2 _ rfl
    simp only [List.getElem_toArray, List.getElem_cons_zero, List.getElem_cons_succ, cells_T3, Nat.zero_mul, Nat.one_mul, Nat.reduceMul, List.drop_zero, List.drop_succ_cons, List.take_succ_cons, List.take_zero] at g2
    obtain ⟨a2, q2, w2⟩ := open_T3 g2
    simp only [List.cons.injEq, and_true] at q2
    subst q2
    obtain ⟨y3, g3⟩ := hg 3 _ rfl
    simp only [List.getElem_toArray, List.getElem_cons_zero, List.getElem_cons_succ, cells_T4, Nat.zero_mul, Nat.one_mul, Nat.reduceMul, List.drop_zero, List.drop_succ_cons, List.take_succ_cons, List.take_zero] at g3
    obtain ⟨a3, q3⟩ := open_T4 g3
    simp only [List.cons.injEq, and_true] at q3
    subst q3
    exact ⟨a0, a1, a2, a3, rfl, w0, w2⟩
theorem cells_T70 : Tryd.prog.cellsOf 70 = 7 := by kernel_rfl
def E_T70 (cs : List Value) : Prop := ∃ (a0 : Int) (a1 : Bool) (a2 : Int) (a3 : Bool) (a4 : Int) (a5 : Int) (a6 : Int), cs = [.int .i64 a0, .bool a1, .int .i64 a2, .bool a3, .int .u32 a4, .int .u32 a5, .int .u32 a6] ∧ (Lit.int .i64 a0).wf = true ∧ (Lit.int .i64 a2).wf = true ∧ (Lit.int .u32 a4).wf = true ∧ (Lit.int .u32 a5).wf = true ∧ (Lit.int .u32 a6).wf = true
theorem open_T70 {H : Type} {enc : TypeId × Value → H} {w : World} {base : Nat} {spare : Nat → Bool} {held : Bool} {fuel : Nat} {cs : List Value} {x : DataW H × List MemPlace} (h : DataW.trod enc Tryd.prog w base spare held fuel 70 cs = some x) : E_T70 cs := by
  obtain ⟨hl, n, hg⟩ := struct_fields Tryd.underlying70 h
  rw [cells_T70] at hl
  match cs, hl with
  | [c0, c1, c2, c3, c4, c5, c6], _ =>
    obtain ⟨y0, g0⟩ := hg 0 _ rfl
    simp only [List.getElem_toArray, List.getElem_cons_zero, List.getElem_cons_succ, cells_T68, Nat.zero_mul, Nat.one_mul, Nat.reduceMul, List.drop_zero, List.drop_succ_cons, List.take_succ_cons, List.take_zero] at g0
    obtain ⟨a0, a1, a2, a3, q0, w0, w2⟩ := open_T68 g0
    simp only [List.cons.injEq, and_true] at q0
    obtain ⟨rfl, rfl, rfl, rfl⟩ := q0
    obtain ⟨y1, g1⟩ := hg 1 _ rfl
    simp only [List.getElem_toArray, List.getElem_cons_zero, List.getElem_cons_succ, cells_T24, Nat.zero_mul, Nat.one_mul, Nat.reduceMul, List.drop_zero, List.drop_succ_cons, List.take_succ_cons, List.take_zero] at g1
    obtain ⟨a4, q1, w4⟩ := open_T24 g1
    simp only [List.cons.injEq, and_true] at q1
    subst q1
    obtain ⟨y2, g2⟩ := hg 2 _ rfl
    simp only [List.getElem_toArray, List.getElem_cons_zero, List.getElem_cons_succ, cells_T26, Nat.zero_mul, Nat.one_mul, Nat.reduceMul, List.drop_zero, List.drop_succ_cons, List.take_succ_cons, List.take_zero] at g2
    obtain ⟨a5, a6, q2, w5, w6⟩ := open_T26 g2
    simp only [List.cons.injEq, and_true] at q2
    obtain ⟨rfl, rfl⟩ := q2
    exact ⟨a0, a1, a2, a3, a4, a5, a6, rfl, w0, w2, w4, w5, w6⟩
theorem cells_T58 : Tryd.prog.cellsOf 58 = 1 := by kernel_rfl
theorem open_T58 {H : Type} {enc : TypeId × Value → H} {w : World} {base : Nat} {spare : Nat → Bool} {held : Bool} {fuel : Nat} {cs : List Value} {x : DataW H × List MemPlace} (h : DataW.trod enc Tryd.prog w base spare held fuel 58 cs = some x) : ∃ (a0 : Value), cs = [a0] ∧ IsSlice w 7 E_T70 a0 := by
  exact slice_is E_T70 Tryd.underlying58 cells_T70 (by decide) (fun _ _ _ h => open_T70 h) h
end Go.Proofs.YtpbljgpdhllklaaDoor
end

section
/- From what came in to typed values, and from a contract to a call (own work). -/
namespace Go.Proofs.YtpbljgpdhllklaaDoor.Sy
open Go Go.RowKit
set_option linter.unusedVariables false
set_option linter.unusedSimpArgs false

/-- What every value that comes in meets: numbers of their kinds, no text and no list longer than memory. -/
def InR : (t : Ty) → t.den → Prop
  | .int k, x => (Lit.int k x).wf = true | .flt k, x => (Lit.float k x).wf = true | .str, s => s.size ≤ maxLen
  | .pair a b, x => InR a x.1 ∧ InR b x.2 | .sl e, l => l.length ≤ maxLen ∧ ∀ x ∈ l, InR e x | _, _ => True

theorem castL_refl (a : Ty) (l : List a.den) : castL a a l = some l := by
  unfold castL
  have : tyeq a a = true := by
    induction a with
    | int k => cases k <;> rfl
    | flt k => cases k <;> rfl
    | pair x y ihx ihy =>
      simp only [tyeq]
      rw [ihx ([] : List x.den)]
      exact ihy ([] : List y.den)
    | sl x ih => simp only [tyeq]; exact ih []
    | _ => rfl
  split
  · rfl
  · rename_i h; rw [this] at h; cases h

theorem keq_refl (k : IntKind) : keq k k = true := by cases k <;> rfl
theorem feq_refl (k : FloatKind) : feq k k = true := by cases k <;> rfl
theorem dec_enc : ∀ (t : Ty) (x : t.den), dec t (enc t x) = some x := by
  intro t
  induction t with
  | pair a b iha ihb =>
    intro x
    simp only [enc, dec, app_eq]
    have h1 := enc_len a x.1
    rw [List.take_append_of_le_length (by omega), List.take_of_length_le (by omega), List.drop_append_of_le_length (by omega), List.drop_of_length_le (by omega), List.nil_append, iha, ihb]
  | int k => intro x; simp only [enc, dec, keq_refl, cnd]
  | flt k => intro x; simp only [enc, dec, feq_refl, cnd]
  | sl e ih => intro l; simp only [enc, dec]; exact castL_refl e l
  | _ => intro x; rfl

theorem tr_of {w : World} {X : Nat → Nat → Prop} {t : Ty} {x : t.den} {vs : List Value} (h : CRs (fun _ => none) X w (enc t x) vs) : TR w X t x vs := dec_ok (dec_enc t x) h

theorem slice_tr {w : World} {C : Nat} {E : List Value → Prop} {e : Ty} (hC : C = e.n) (hE : ∀ cs, E cs → ∃ x : e.den, TR w (fun _ _ => False) e x cs ∧ InR e x) {v : Value} (h : IsSlice w C E v) :
    ∃ l : List e.den, LR w (fun _ _ => False) e.n (TR w (fun _ _ => False) e) l v ∧ l.length ≤ maxLen ∧ ∀ x ∈ l, InR e x := by
  subst hC
  rcases h with rfl | ⟨ad, len, cap, rfl, hle, hmax, hel⟩
  · exact ⟨[], .inl ⟨rfl, rfl⟩, Nat.zero_le _, fun x hx => by cases hx⟩
  · have hch : ∀ i : Fin len, ∃ x : e.den, (∃ cs : List Value, cs.length = e.n ∧ (∀ j, j < e.n → w.cell? ⟨ad.block, ad.off + (i.1 * e.n + j), none⟩ = some (cs.getD j undef)) ∧ TR w (fun _ _ => False) e x cs) ∧ InR e x := by
      intro i
      obtain ⟨cs, h1, h2, _, _, h5⟩ := hel i.1 i.2
      obtain ⟨x, h6, h7⟩ := hE cs h2
      exact ⟨x, ⟨cs, h1, h5, h6⟩, h7⟩
    let f : Fin len → e.den := fun i => Classical.choose (hch i)
    have hf : ∀ i, _ := fun i => Classical.choose_spec (hch i)
    refine ⟨List.ofFn f, .inr ⟨ad, cap, by rw [List.length_ofFn], by rw [List.length_ofFn]; exact hle, hmax, fun hne => ?_, fun i hi => ?_, fun p _ _ h => h⟩, by rw [List.length_ofFn]; omega, fun x hx => ?_⟩
    · have : 0 < len := by
        have := List.length_pos_iff.2 hne
        rwa [List.length_ofFn] at this
      obtain ⟨_, _, _, h3, _⟩ := hel 0 this
      exact h3
    · rw [List.length_ofFn] at hi
      obtain ⟨cs, h1, h2, h3⟩ := (hf ⟨i, hi⟩).1
      refine ⟨cs, h1, h2, ?_⟩
      rw [List.getElem_ofFn]
      exact h3
    · obtain ⟨i, rfl⟩ := (List.mem_ofFn.1 hx)
      exact (hf i).2

/-- A law's call. -/
theorem call_true {f : FuncId} {p : Ty} {psh : List (Option Nat)} {pre : Option (p.den → Prop)} {F : p.den → Bool} (h : CtOk Tryd.prog gdS f { p := p, psh := psh, r := .bool, rsh := .one none, pre := pre, fresh := none, F := F })
    (x : p.den) (w : World) (args : Array Value) (cs : List Value) (hH : gdS.H w) (hpre : ∀ q, pre = some q → q x) (hsh : ShapeR psh args.toList cs) (hx : TR w (fun _ _ => False) p x cs) (hT : F x = true) :
    Calls Tryd.prog f args w fun e w' => e = .returned (.bool true) ∧ Below w.heap.size w w' := by
  refine (h x w (fun _ _ => False) args cs hH (fun _ _ h => h.elim) hpre hsh hx).mono fun e w' ⟨v, he, hb, cs', h1, _, h2⟩ => ⟨?_, hb⟩
  rw [he]
  have h1 : cs' = [.bool (F x)] := h1
  rw [h1, hT] at h2
  obtain ⟨cs2, h3, h4⟩ := h2
  cases h3
  rfl
end Go.Proofs.YtpbljgpdhllklaaDoor.Sy
end

section
/- Laws of rounds (own work): what a loop comes to. -/
namespace Go.Proofs.YtpbljgpdhllklaaDoor.Sp
open Go Sy
set_option linter.unusedVariables false
set_option linter.unusedSimpArgs false
section
variable {K X ρ : Type} {step : K → X → BOut K X ρ} {k : K}

/-- No round returns. -/
theorem ret_none (I : X → Prop) (h : ∀ x, I x → match step k x with | .next _ y => I y | .brk _ _ => True | .ret _ => False) : ∀ (n : Nat) (x : X), I x → retOf step k n x = none
  | 0, _, _ => rfl
  | n + 1, x, hx => by
    have := h x hx
    simp only [retOf]
    cases hs : step k x with
    | next k' y => rw [hs] at this; exact ret_none I h n _ this
    | brk k' y => rfl
    | ret r => rw [hs] at this; exact this.elim

/-- A row of states. -/
theorem end_row (s : Nat → X) (n : Nat) (h : ∀ i, i < n → ∃ k', step k (s i) = .next k' (s (i + 1))) : ∀ (i fuel : Nat), i ≤ n →
    endOf step k (fuel + (n - i)) (s i) = endOf step k fuel (s n) ∧ retOf step k (fuel + (n - i)) (s i) = retOf step k fuel (s n) := by
  intro i fuel hi
  induction hd : n - i generalizing i with
  | zero => have : i = n := by omega
            subst this; exact ⟨rfl, rfl⟩
  | succ d ih =>
    obtain ⟨k', h1⟩ := h i (by omega)
    have := ih (i + 1) (by omega) (by omega)
    rw [show fuel + (d + 1) = (fuel + d) + 1 by omega]
    simp only [endOf, retOf, h1]
    exact this
theorem end_row_brk (s : Nat → X) (n : Nat) (h : ∀ i, i < n → ∃ k', step k (s i) = .next k' (s (i + 1))) {k' : K} {y : X} (hb : step k (s n) = .brk k' y) {fuel : Nat} (hf : n < fuel) :
    endOf step k fuel (s 0) = y ∧ retOf step k fuel (s 0) = none := by
  have := end_row s n h 0 (fuel - n) (by omega)
  rw [show fuel - n + (n - 0) = fuel by omega] at this
  rw [this.1, this.2, show fuel - n = (fuel - n - 1) + 1 by omega]
  simp only [endOf, retOf, hb, and_self]
theorem end_row_ret (s : Nat → X) (n : Nat) (h : ∀ i, i < n → ∃ k', step k (s i) = .next k' (s (i + 1))) {r : ρ} (hb : step k (s n) = .ret r) {fuel : Nat} (hf : n < fuel) :
    retOf step k fuel (s 0) = some r := by
  have := end_row s n h 0 (fuel - n) (by omega)
  rw [show fuel - n + (n - 0) = fuel by omega] at this
  rw [this.2, show fuel - n = (fuel - n - 1) + 1 by omega]
  simp only [retOf, hb]

/-- A row of rounds of which some may return. -/
theorem ret_row (s : Nat → X) (f : Nat → Option ρ) (n : Nat) (h : ∀ i, i < n → match f i with | some r => step k (s i) = .ret r | none => ∃ k', step k (s i) = .next k' (s (i + 1)))
    {k' : K} {y : X} (hb : step k (s n) = .brk k' y) : ∀ {fuel : Nat}, n < fuel → retOf step k fuel (s 0) = (List.range n).findSome? f := by
  have key : ∀ d i fuel, n - i = d → i ≤ n → d < fuel → retOf step k fuel (s i) = (List.range' i d).findSome? f := by
    intro d
    induction d with
    | zero =>
      intro i fuel hd hi hf
      have : i = n := by omega
      subst this
      obtain ⟨g, rfl⟩ : ∃ g, fuel = g + 1 := ⟨fuel - 1, by omega⟩
      simp only [retOf, hb]; rfl
    | succ d ih =>
      intro i fuel hd hi hf
      obtain ⟨g, rfl⟩ : ∃ g, fuel = g + 1 := ⟨fuel - 1, by omega⟩
      have := h i (by omega)
      rw [List.range'_succ, List.findSome?_cons]
      cases hfi : f i with
      | some r => rw [hfi] at this; simp only at this; simp only [retOf, this]
      | none =>
        rw [hfi] at this
        obtain ⟨k'', h1⟩ := this
        simp only [retOf, h1]
        exact ih (i + 1) g (by omega) (by omega) (by omega)
  intro fuel hf
  rw [key n 0 fuel rfl (by omega) hf, List.range_eq_range']

/-- What holds behind a loop: an invariant, and a measure that falls. -/
theorem loop_spec (I : X → Prop) (mu : X → Nat) (Q : Option ρ → X → Prop)
    (h : ∀ x, I x → match step k x with | .next _ y => I y ∧ mu y < mu x | .brk _ y => Q none y | .ret r => Q (some r) x) : ∀ (n : Nat) (x : X), I x → mu x < n → Q (retOf step k n x) (endOf step k n x)
  | 0, _, _, hn => by omega
  | n + 1, x, hx, hn => by
    have := h x hx
    simp only [retOf, endOf]
    cases hs : step k x with
    | next k' y => rw [hs] at this; exact loop_spec I mu Q h n _ this.1 (by have := this.2; omega)
    | brk k' y => rw [hs] at this; exact this
    | ret r => rw [hs] at this; exact this
/-- Two loops that go alike. -/
theorem loop_sim {K' X' : Type} {step' : K' → X' → BOut K' X' ρ} {k' : K'} (I : X → X' → Prop)
    (h : ∀ x x', I x x' → match step k x, step' k' x' with | .next _ y, .next _ y' => I y y' | .brk _ y, .brk _ y' => I y y' | .ret r, .ret r' => r = r' | _, _ => False) :
    ∀ (n : Nat) (x : X) (x' : X'), I x x' → I (endOf step k n x) (endOf step' k' n x') ∧ retOf step k n x = retOf step' k' n x'
  | 0, _, _, hx => ⟨hx, rfl⟩
  | n + 1, x, x', hx => by
    have := h x x' hx
    simp only [retOf, endOf]
    cases hs : step k x <;> cases hs' : step' k' x' <;> rw [hs, hs'] at this
    · exact loop_sim I h n _ _ this
    · exact this.elim
    · exact this.elim
    · exact this.elim
    · exact ⟨this, rfl⟩
    · exact this.elim
    · exact this.elim
    · exact this.elim
    · exact ⟨hx, by rw [this]⟩
/-- A loop that goes through a list. -/
theorem end_fold {α β : Type} {step : K → β × Int → BOut K (β × Int) ρ} (l : List α) (f : β → α → β) (hl : l.length ≤ maxLen)
    (h : ∀ m (i : Nat) (hi : i < l.length), ∃ k', step k (m, (i : Int)) = .next k' (f m l[i], IntKind.i64.wrap ((i : Int) + 1)))
    (hb : ∀ m, ∃ k', step k (m, (l.length : Int)) = .brk k' (m, (l.length : Int))) (m0 : β) {fuel : Nat} (hf : l.length < fuel) :
    endOf step k fuel (m0, 0) = (l.foldl f m0, (l.length : Int)) ∧ retOf step k fuel (m0, 0) = none := by
  have hs : ∀ i, i < l.length → ∃ k', step k ((fun i : Nat => ((l.take i).foldl f m0, (i : Int))) i) = .next k' ((fun i : Nat => ((l.take i).foldl f m0, (i : Int))) (i + 1)) := by
    intro i hi
    obtain ⟨k', h1⟩ := h ((l.take i).foldl f m0) i hi
    refine ⟨k', ?_⟩
    simp only [h1]
    have h2 : IntKind.i64.wrap ((i : Int) + 1) = ((i + 1 : Nat) : Int) := by simp only [maxLen] at hl; rw [IntKind.wrap_i64]; omega
    rw [h2, List.take_add_one, List.getElem?_eq_getElem hi, List.foldl_append]; rfl
  obtain ⟨k', hb'⟩ := hb (l.foldl f m0)
  have h0 := end_row_brk _ l.length hs (k' := k') (y := (l.foldl f m0, (l.length : Int))) (by simp only [List.take_length]; exact hb') hf
  simpa using h0

theorem nthT_nat {α : Type} [Inhabited α] (l : List α) (i : Nat) (h : i < l.length) : nthT l (i : Int) = l[i] := by
  simp [nthT, List.getD_eq_getElem?_getD, List.getElem?_eq_getElem h]
theorem nthT_of {α : Type} [Inhabited α] (l : List α) (i : Int) (h0 : 0 ≤ i) (h : i < l.length) : nthT l i = l[i.toNat]'(by omega) := by
  have : i.toNat < l.length := by omega
  simp [nthT, List.getD_eq_getElem?_getD, List.getElem?_eq_getElem this]

theorem findSome_range {α : Type} [Inhabited α] (l : List α) (g : α → Option ρ) : (List.range l.length).findSome? (fun (i : Nat) => g (nthT l (i : Int))) = l.findSome? g := by
  have : (List.range l.length).map (fun (i : Nat) => nthT l (i : Int)) = l := by
    apply List.ext_getElem
    · simp
    · intro i h1 h2; simp at h1; simp [nthT_nat l i h1]
  calc _ = ((List.range l.length).map (fun (i : Nat) => nthT l (i : Int))).findSome? g := by rw [List.findSome?_map]; rfl
    _ = _ := by rw [this]

theorem optR_none {α β : Type} (f : α → β) (d : β) : optR none f d = d := rfl
theorem optR_some {α β : Type} (r : α) (f : α → β) (d : β) : optR (some r) f d = f r := rfl
/-- Is it so for all? -/
theorem findSome_all {α : Type} (l : List α) (p : α → Bool) : optR (l.findSome? (fun n => if p n then none else some false)) (fun y => y) true = l.all p := by
  induction l with
  | nil => rfl
  | cons a l ih =>
    rw [List.findSome?_cons]
    cases hp : p a with
    | true => simp only [if_true]; rw [ih]; simp [hp]
    | false => simp [hp, optR]
end
end Go.Proofs.YtpbljgpdhllklaaDoor.Sp
namespace Go.Proofs.YtpbljgpdhllklaaDoor.Sp
open Go Sy
theorem wrap_succ {i n : Nat} (hi : i < n) (hn : n ≤ maxLen) : IntKind.i64.wrap ((i : Int) + 1) = ((i + 1 : Nat) : Int) := by
  simp only [maxLen] at hn
  rw [IntKind.wrap_i64]; omega
section
variable {K ρ : Type} {k : K}
/-- A loop that asks all elements. -/
theorem end_all {α : Type} [Inhabited α] {step : K → Bool × Int → BOut K (Bool × Int) ρ} (l : List α) (p : α → Bool) (hl : l.length ≤ maxLen)
    (h : ∀ b i, step k (b, i) = bif decide (i < (l.length : Int)) then .next k (b && p (nthT l i), IntKind.i64.wrap (i + 1)) else .brk k (b, i)) (b0 : Bool) {fuel : Nat} (hf : l.length < fuel) :
    (endOf step k fuel (b0, 0)).1 = (b0 && l.all p) := by
  have hs : ∀ i, i < l.length → ∃ k', step k ((fun i : Nat => (b0 && (l.take i).all p, (i : Int))) i) = .next k' ((fun i : Nat => (b0 && (l.take i).all p, (i : Int))) (i + 1)) := by
    intro i hi
    refine ⟨k, ?_⟩
    simp only [h]
    have h1 : decide ((i : Int) < (l.length : Int)) = true := by simp; omega
    have h2 : (l.take (i + 1)).all p = ((l.take i).all p && p l[i]) := by rw [List.take_add_one, List.getElem?_eq_getElem hi, List.all_append]; simp only [Option.toList_some, List.all_cons, List.all_nil, Bool.and_true]
    rw [h1, wrap_succ hi hl, nthT_nat l i hi, h2]
    simp [Bool.and_assoc]
  have hb : step k ((fun i : Nat => (b0 && (l.take i).all p, (i : Int))) l.length) = .brk k (b0 && l.all p, (l.length : Int)) := by
    simp only [h]
    have h1 : decide ((l.length : Int) < (l.length : Int)) = false := by simp
    rw [h1]; simp
  have := (end_row_brk _ l.length hs hb hf).1
  simp only [List.take_zero, List.all_nil, Bool.and_true, Int.ofNat_zero] at this
  have h3 : endOf step k fuel (b0, 0) = (b0 && l.all p, (l.length : Int)) := this
  rw [h3]
end
end Go.Proofs.YtpbljgpdhllklaaDoor.Sp
end

section
/- Sets of bits: what the evaluator's words for & | &^ << >> say of single bits (own work). -/
namespace Go.Proofs.YtpbljgpdhllklaaDoor.Sp
open Go Sy
set_option linter.unusedVariables false
set_option linter.unusedSimpArgs false

/-- A number of 32 bits. -/
def W (x : Int) : Prop := 0 ≤ x ∧ x < 4294967296
def bit (x : Int) (i : Nat) : Bool := x.toNat.testBit i
theorem W.ext {x y : Int} (hx : W x) (hy : W y) (h : ∀ i, i < 32 → bit x i = bit y i) : x = y := by
  have hn : x.toNat = y.toNat := by
    apply Nat.eq_of_testBit_eq
    intro i
    by_cases hi : i < 32
    · exact h i hi
    · rw [Nat.testBit_lt_two_pow (x := x.toNat) (Nat.lt_of_lt_of_le (show x.toNat < 2 ^ 32 by have := hx.2; omega) (Nat.pow_le_pow_right (by omega) (by omega))),
        Nat.testBit_lt_two_pow (x := y.toNat) (Nat.lt_of_lt_of_le (show y.toNat < 2 ^ 32 by have := hy.2; omega) (Nat.pow_le_pow_right (by omega) (by omega)))]
  have := hx.1; have := hy.1; omega
theorem bit_hi {x : Int} (hx : W x) {i : Nat} (hi : 32 ≤ i) : bit x i = false :=
  Nat.testBit_lt_two_pow (Nat.lt_of_lt_of_le (show x.toNat < 2 ^ 32 by have := hx.2; omega) (Nat.pow_le_pow_right (by omega) hi))
theorem W.zero : W 0 := by unfold W; omega
theorem bit_zero (i : Nat) : bit 0 i = false := by simp [bit]
theorem wrap32 (v : BitVec 32) : IntKind.u32.wrap (v.toNat : Int) = (v.toNat : Int) := by have := v.isLt; rw [IntKind.wrap_u32]; omega
theorem W_bv (v : BitVec 32) : W (v.toNat : Int) := by have := v.isLt; unfold W; omega
theorem bit_bv (v : BitVec 32) (i : Nat) : bit (v.toNat : Int) i = v.getLsbD i := by simp [bit, BitVec.testBit_toNat]
theorem bv_bit {x : Int} (hx : 0 ≤ x) (i : Nat) (hi : i < 32) : (BitVec.ofInt 32 x).getLsbD i = bit x i := by
  obtain ⟨n, rfl⟩ := Int.eq_ofNat_of_zero_le hx
  rw [BitVec.ofInt_natCast, BitVec.getLsbD_ofNat]
  simp [hi, bit]
section
variable {x y : Int}
abbrev and32 (x y : Int) : Int := IntKind.u32.wrap ((BitVec.ofInt IntKind.u32.bits x &&& BitVec.ofInt IntKind.u32.bits y).toNat : Int)
abbrev or32 (x y : Int) : Int := IntKind.u32.wrap ((BitVec.ofInt IntKind.u32.bits x ||| BitVec.ofInt IntKind.u32.bits y).toNat : Int)
abbrev nand32 (x y : Int) : Int := IntKind.u32.wrap ((BitVec.ofInt IntKind.u32.bits x &&& ~~~ BitVec.ofInt IntKind.u32.bits y).toNat : Int)
abbrev shl32 (x k : Int) : Int := IntKind.u32.wrap (x * 2 ^ (min k.toNat IntKind.u32.bits))
abbrev shr32 (x k : Int) : Int := Int.fdiv x (2 ^ (min k.toNat IntKind.u32.bits))
theorem W_and (x y : Int) : W (and32 x y) := by show W (IntKind.u32.wrap ((BitVec.ofInt 32 x &&& BitVec.ofInt 32 y).toNat : Int)); rw [wrap32]; exact W_bv _
theorem W_or (x y : Int) : W (or32 x y) := by show W (IntKind.u32.wrap ((BitVec.ofInt 32 x ||| BitVec.ofInt 32 y).toNat : Int)); rw [wrap32]; exact W_bv _
theorem W_nand (x y : Int) : W (nand32 x y) := by show W (IntKind.u32.wrap ((BitVec.ofInt 32 x &&& ~~~ BitVec.ofInt 32 y).toNat : Int)); rw [wrap32]; exact W_bv _
theorem W_wrap (x : Int) : W (IntKind.u32.wrap x) := by unfold W; rw [IntKind.wrap_u32]; omega
theorem nth3 (a b c : Nat) (i : Int) (h0 : 0 ≤ i) (h2 : i ≤ 2) : ∃ g, nthT [some a, some b, some c] i = some g ∧ g ∈ [a, b, c] := by
  have : i = 0 ∨ i = 1 ∨ i = 2 := by omega
  rcases this with rfl | rfl | rfl
  · exact ⟨a, rfl, by simp⟩
  · exact ⟨b, rfl, by simp⟩
  · exact ⟨c, rfl, by simp⟩
theorem W.lo {x : Int} (h : W x) : 0 ≤ x := h.1
theorem W.hi {x : Int} (h : W x) : x ≤ 4294967295 := by have := h.2; omega
theorem W_shl (x k : Int) : W (shl32 x k) := W_wrap _
theorem bit_and (hx : 0 ≤ x) (hy : 0 ≤ y) (i : Nat) (hi : i < 32) : bit (and32 x y) i = (bit x i && bit y i) := by
  show bit (IntKind.u32.wrap ((BitVec.ofInt 32 x &&& BitVec.ofInt 32 y).toNat : Int)) i = _
  rw [wrap32, bit_bv, BitVec.getLsbD_and, bv_bit hx i hi, bv_bit hy i hi]
theorem bit_or (hx : 0 ≤ x) (hy : 0 ≤ y) (i : Nat) (hi : i < 32) : bit (or32 x y) i = (bit x i || bit y i) := by
  show bit (IntKind.u32.wrap ((BitVec.ofInt 32 x ||| BitVec.ofInt 32 y).toNat : Int)) i = _
  rw [wrap32, bit_bv, BitVec.getLsbD_or, bv_bit hx i hi, bv_bit hy i hi]
theorem bit_nand (hx : 0 ≤ x) (hy : 0 ≤ y) (i : Nat) (hi : i < 32) : bit (nand32 x y) i = (bit x i && !bit y i) := by
  show bit (IntKind.u32.wrap ((BitVec.ofInt 32 x &&& ~~~ BitVec.ofInt 32 y).toNat : Int)) i = _
  rw [wrap32, bit_bv, BitVec.getLsbD_and, BitVec.getLsbD_not, bv_bit hx i hi, bv_bit hy i hi]
  simp [hi]
theorem shl_nat (x k : Nat) : shl32 (x : Int) (k : Int) = ((x * 2 ^ min k 32 % 4294967296 : Nat) : Int) := by
  show IntKind.u32.wrap ((x : Int) * 2 ^ (min (k : Int).toNat 32)) = _
  rw [IntKind.wrap_u32, Int.toNat_natCast]
  have h : (x : Int) * 2 ^ min k 32 = ((x * 2 ^ min k 32 : Nat) : Int) := by rw [Int.natCast_mul, Int.natCast_pow]; rfl
  rw [h]
  generalize x * 2 ^ min k 32 = q
  omega
theorem shr_nat (x k : Nat) : shr32 (x : Int) (k : Int) = ((x / 2 ^ min k 32 : Nat) : Int) := by
  show Int.fdiv (x : Int) (2 ^ (min (k : Int).toNat 32)) = _
  rw [Int.toNat_natCast, Int.fdiv_eq_ediv_of_nonneg _ (by exact Int.le_of_lt (Int.pow_pos (by omega)))]
  norm_cast
theorem W_shr (hx : W x) (k : Int) (hk : 0 ≤ k) : W (shr32 x k) := by
  obtain ⟨n, rfl⟩ := Int.eq_ofNat_of_zero_le hx.1
  obtain ⟨j, rfl⟩ := Int.eq_ofNat_of_zero_le hk
  rw [shr_nat]
  have h2 := hx.2
  have h3 := Nat.div_le_self n (2 ^ min j 32)
  generalize n / 2 ^ min j 32 = q at *
  unfold W; omega
theorem bit_shl (hx : 0 ≤ x) (k : Nat) (i : Nat) (hi : i < 32) : bit (shl32 x (k : Int)) i = (decide (k ≤ i) && bit x (i - k)) := by
  obtain ⟨n, rfl⟩ := Int.eq_ofNat_of_zero_le hx
  rw [shl_nat]
  simp only [bit, Int.toNat_natCast]
  rw [show (4294967296 : Nat) = 2 ^ 32 from rfl, Nat.testBit_mod_two_pow, Nat.testBit_mul_two_pow]
  by_cases hk : k ≤ 32
  · rw [Nat.min_eq_left hk]
    by_cases h2 : k ≤ i <;> simp [hi, h2]
  · rw [Nat.min_eq_right (by omega)]
    have h1 : ¬ 32 ≤ i := by omega
    have h2 : ¬ k ≤ i := by omega
    simp [h1, h2, hi]
theorem bit_shr (hx : W x) (k : Nat) (i : Nat) : bit (shr32 x (k : Int)) i = bit x (k + i) := by
  obtain ⟨n, rfl⟩ := Int.eq_ofNat_of_zero_le hx.1
  by_cases hk : k ≤ 32
  · rw [shr_nat, Nat.min_eq_left hk]
    simp only [bit, Int.toNat_natCast]
    rw [Nat.testBit_div_two_pow, Nat.add_comm]
  · rw [bit_hi hx (by omega), shr_nat, Nat.min_eq_right (by omega)]
    simp only [bit, Int.toNat_natCast]
    rw [Nat.testBit_div_two_pow]
    exact bit_hi hx (by omega)
theorem bit_one (k i : Nat) (hi : i < 32) : bit (shl32 1 (k : Int)) i = decide (i = k) := by
  rw [bit_shl (by omega) k i hi]
  have h1 : bit 1 (i - k) = decide (i - k = 0) := by
    simp only [bit]
    show Nat.testBit 1 (i - k) = _
    by_cases h0 : i - k = 0
    · rw [h0]; rfl
    · have : Nat.testBit 1 (i - k) = false := by
        cases h : Nat.testBit 1 (i - k) with
        | false => rfl
        | true => exact absurd (Nat.testBit_one_eq_true_iff_self_eq_zero.1 h) h0
      rw [this]; simpa using h0
  rw [h1]
  by_cases h : i = k <;> by_cases h2 : k ≤ i <;> simp_all <;> omega
/-- Is the set's bit set? as the program asks. -/
theorem ask_bit (hx : W x) (k : Nat) : (and32 (shr32 x (k : Int)) 1 == 1) = bit x k := by
  have h0 : W (shr32 x (k : Int)) := W_shr hx _ (by omega)
  have h1 : and32 (shr32 x (k : Int)) 1 = if bit x k then 1 else 0 := by
    refine W.ext (W_and _ _) (by split <;> unfold W <;> omega) fun i hi => ?_
    rw [bit_and h0.1 (by omega) i hi, bit_shr hx]
    by_cases hi0 : i = 0
    · subst hi0
      have : bit 1 0 = true := rfl
      rw [Nat.add_zero, this, Bool.and_true]
      cases bit x k <;> rfl
    · have : bit 1 i = false := by
        have := bit_one 0 i hi
        rw [show shl32 1 ((0 : Nat) : Int) = 1 from rfl] at this
        rw [this]; simpa using hi0
      rw [this, Bool.and_false]
      cases bit x k
      · simp [bit_zero]
      · simp [this]
  rw [h1]
  cases bit x k <;> rfl
end

theorem pop_size : Lib.pop8tab.size = 256 := Lib.pop8tab_size
theorem len_size : Lib.len8tab.size = 256 := Lib.len8tab_size
theorem and_nat (x y : Nat) (hx : x < 4294967296) (hy : y < 4294967296) : and32 (x : Int) (y : Int) = ((x &&& y : Nat) : Int) := by
  have h : x &&& y < 4294967296 := Nat.lt_of_le_of_lt Nat.and_le_left hx
  refine W.ext (W_and _ _) (by unfold W; omega) fun i hi => ?_
  rw [bit_and (by omega) (by omega) i hi]
  simp [bit]
theorem and_255 (a : Int) (h0 : 0 ≤ a) (h1 : a < 4294967296) : and32 a 255 = a % 256 := by
  obtain ⟨n, rfl⟩ := Int.eq_ofNat_of_zero_le h0
  rw [show (255 : Int) = ((255 : Nat) : Int) from rfl, and_nat n 255 (by omega) (by omega), Nat.and_two_pow_sub_one_eq_mod n 8]
  omega
theorem a255 (a : Int) (h0 : 0 ≤ a) (h1 : a < 4294967296) : IntKind.u32.wrap ((BitVec.ofInt IntKind.u32.bits a &&& BitVec.ofInt IntKind.u32.bits (255 : Int)).toNat : Int) = a % 256 := and_255 a h0 h1
theorem d24 (x : Int) : Int.fdiv x (2 ^ (min ((24 : Int)).toNat IntKind.u32.bits)) = x / 16777216 := Int.fdiv_eq_ediv_of_nonneg _ (by decide)
theorem d16 (x : Int) : Int.fdiv x (2 ^ (min ((16 : Int)).toNat IntKind.u32.bits)) = x / 65536 := Int.fdiv_eq_ediv_of_nonneg _ (by decide)
theorem d8 (x : Int) : Int.fdiv x (2 ^ (min ((8 : Int)).toNat IntKind.u32.bits)) = x / 256 := Int.fdiv_eq_ediv_of_nonneg _ (by decide)
theorem d27 (x : Int) : Int.fdiv x (2 ^ (min ((27 : Int)).toNat IntKind.u32.bits)) = x / 134217728 := Int.fdiv_eq_ediv_of_nonneg _ (by decide)
end Go.Proofs.YtpbljgpdhllklaaDoor.Sp
end

section
/- Contracts of functions, by the evaluator (own program gen.py): math/bits.TrailingZeros32, math/bits.Len32, math/bits.OnesCount32. -/
set_option linter.unusedVariables false
set_option linter.unusedSimpArgs false
set_option maxRecDepth 100000
namespace Go.Proofs.YtpbljgpdhllklaaDoor.Sy
open Go Go.RowKit Sp
/-! math/bits.TrailingZeros32 -/
end Go.Proofs.YtpbljgpdhllklaaDoor.Sy
namespace Go.Proofs.YtpbljgpdhllklaaDoor.Sp
open Go Go.RowKit Sy
def F74 (x : Int) : Int :=
  bif (x == (0 : Int)) then
    (32 : Int)
  else
    (IntKind.i64.wrap (Sp.nthT tabB (Int.fdiv (IntKind.u32.wrap ((IntKind.u32.wrap ((BitVec.ofInt IntKind.u32.bits x &&& BitVec.ofInt IntKind.u32.bits (IntKind.u32.wrap (0 - x))).toNat : Int)) * (125613361 : Int))) (2 ^ (min ((27 : Int)).toNat IntKind.u32.bits)))))
def pre74 (x : Int) : Prop := 0 ≤ x ∧ x ≤ 4294967295
end Go.Proofs.YtpbljgpdhllklaaDoor.Sp
namespace Go.Proofs.YtpbljgpdhllklaaDoor.Sy
def ct74 : Ct := { p := ty24, psh := [none], r := ty3, rsh := (Rsh.one (none)), pre := some Sp.pre74, fresh := none, F := Sp.F74 }
theorem va74 (x : ty24.den) : ((evFn (ctxG []) Tryd.f74 ty24 [none] (Rsh.one (none)) none ty3 noL x)).val (fun y => y) (Ty.dflt ty3) = Sp.F74 x := by kernel_rfl
theorem se74 (x : ty24.den) : ((evFn (ctxG []) Tryd.f74 ty24 [none] (Rsh.one (none)) none ty3 noL x)).safe = ((((x == (0 : Int)) = true → True) ∧ ((x == (0 : Int)) = false → ((0 ≤ (27 : Int)) ∧ ((0 ≤ (Int.fdiv (IntKind.u32.wrap ((IntKind.u32.wrap ((BitVec.ofInt IntKind.u32.bits x &&& BitVec.ofInt IntKind.u32.bits (IntKind.u32.wrap (0 - x))).toNat : Int)) * (125613361 : Int))) (2 ^ (min ((27 : Int)).toNat IntKind.u32.bits))) ∧ (Int.fdiv (IntKind.u32.wrap ((IntKind.u32.wrap ((BitVec.ofInt IntKind.u32.bits x &&& BitVec.ofInt IntKind.u32.bits (IntKind.u32.wrap (0 - x))).toNat : Int)) * (125613361 : Int))) (2 ^ (min ((27 : Int)).toNat IntKind.u32.bits))) < (32 : Int)) ∧ True))))) := by kernel_rfl
theorem sa74 (x : ty24.den) (fx : Fit ty24 x) (h : Sp.pre74 x) : SafeW ((evFn (ctxG []) Tryd.f74 ty24 [none] (Rsh.one (none)) none ty3 noL x)) := by
  refine ⟨?_⟩
  rw [se74]
  try dsimp only [Ty.den] at *
  simp only [Sp.pre74] at h
  refine ⟨fun _ => trivial, fun _ => ⟨by omega, ?_, trivial⟩⟩
  rw [Sp.d27, IntKind.wrap_u32]
  omega
theorem ok74 : CtOk Tryd.prog gdS 74 ct74 :=
  fn_okU (ctxOkF gok_nil []) rfl Tryd.func74 (p := ty24) (psh := [none]) (r := ty3) (rsh := (Rsh.one (none))) (pre := some Sp.pre74) (fresh := none) (F := Sp.F74) (L := noL) (c := bodyOf Tryd.f74) (dflt := Ty.dflt ty3) rfl (no_loops)
    (safe_pre @sa74) va74
/-! math/bits.Len32 -/
end Go.Proofs.YtpbljgpdhllklaaDoor.Sy
namespace Go.Proofs.YtpbljgpdhllklaaDoor.Sp
open Go Go.RowKit Sy
def F124 (x : Int) : Int :=
  bif (decide (x ≥ (65536 : Int))) then
    (bif (decide ((Int.fdiv x (2 ^ (min ((16 : Int)).toNat IntKind.u32.bits))) ≥ (256 : Int))) then
      (IntKind.i64.wrap ((IntKind.i64.wrap ((16 : Int) + (8 : Int))) + (IntKind.i64.wrap (strAt Lib.len8tab (IntKind.u8.wrap (Int.fdiv (Int.fdiv x (2 ^ (min ((16 : Int)).toNat IntKind.u32.bits))) (2 ^ (min ((8 : Int)).toNat IntKind.u32.bits))))))))
    else
      (IntKind.i64.wrap ((16 : Int) + (IntKind.i64.wrap (strAt Lib.len8tab (IntKind.u8.wrap (Int.fdiv x (2 ^ (min ((16 : Int)).toNat IntKind.u32.bits)))))))))
  else
    bif (decide (x ≥ (256 : Int))) then
      (IntKind.i64.wrap ((IntKind.i64.wrap ((0 : Int) + (8 : Int))) + (IntKind.i64.wrap (strAt Lib.len8tab (IntKind.u8.wrap (Int.fdiv x (2 ^ (min ((8 : Int)).toNat IntKind.u32.bits))))))))
    else
      (IntKind.i64.wrap ((0 : Int) + (IntKind.i64.wrap (strAt Lib.len8tab (IntKind.u8.wrap x)))))
def pre124 (x : Int) : Prop := 0 ≤ x ∧ x ≤ 4294967295
end Go.Proofs.YtpbljgpdhllklaaDoor.Sp
namespace Go.Proofs.YtpbljgpdhllklaaDoor.Sy
def ct124 : Ct := { p := ty24, psh := [none], r := ty3, rsh := (Rsh.one (none)), pre := some Sp.pre124, fresh := none, F := Sp.F124 }
theorem va124 (x : ty24.den) : ((evFn (ctxG []) Tryd.f124 ty24 [none] (Rsh.one (none)) none ty3 noL x)).val (fun y => y) (Ty.dflt ty3) = Sp.F124 x := by kernel_rfl
theorem se124 (x : ty24.den) : ((evFn (ctxG []) Tryd.f124 ty24 [none] (Rsh.one (none)) none ty3 noL x)).safe = ((((decide (x ≥ (65536 : Int))) = true → ((0 ≤ (16 : Int)) ∧ (((decide ((Int.fdiv x (2 ^ (min ((16 : Int)).toNat IntKind.u32.bits))) ≥ (256 : Int))) = true → ((0 ≤ (8 : Int)) ∧ ((0 ≤ (IntKind.u8.wrap (Int.fdiv (Int.fdiv x (2 ^ (min ((16 : Int)).toNat IntKind.u32.bits))) (2 ^ (min ((8 : Int)).toNat IntKind.u32.bits)))) ∧ (IntKind.u8.wrap (Int.fdiv (Int.fdiv x (2 ^ (min ((16 : Int)).toNat IntKind.u32.bits))) (2 ^ (min ((8 : Int)).toNat IntKind.u32.bits)))) < ((Lib.len8tab).size : Int)) ∧ True))) ∧ ((decide ((Int.fdiv x (2 ^ (min ((16 : Int)).toNat IntKind.u32.bits))) ≥ (256 : Int))) = false → ((0 ≤ (IntKind.u8.wrap (Int.fdiv x (2 ^ (min ((16 : Int)).toNat IntKind.u32.bits)))) ∧ (IntKind.u8.wrap (Int.fdiv x (2 ^ (min ((16 : Int)).toNat IntKind.u32.bits)))) < ((Lib.len8tab).size : Int)) ∧ True))))) ∧ ((decide (x ≥ (65536 : Int))) = false → (((decide (x ≥ (256 : Int))) = true → ((0 ≤ (8 : Int)) ∧ ((0 ≤ (IntKind.u8.wrap (Int.fdiv x (2 ^ (min ((8 : Int)).toNat IntKind.u32.bits)))) ∧ (IntKind.u8.wrap (Int.fdiv x (2 ^ (min ((8 : Int)).toNat IntKind.u32.bits)))) < ((Lib.len8tab).size : Int)) ∧ True))) ∧ ((decide (x ≥ (256 : Int))) = false → ((0 ≤ (IntKind.u8.wrap x) ∧ (IntKind.u8.wrap x) < ((Lib.len8tab).size : Int)) ∧ True)))))) := by kernel_rfl
theorem sa124 (x : ty24.den) (fx : Fit ty24 x) (h : Sp.pre124 x) : SafeW ((evFn (ctxG []) Tryd.f124 ty24 [none] (Rsh.one (none)) none ty3 noL x)) := by
  refine ⟨?_⟩
  rw [se124]
  try dsimp only [Ty.den] at *
  simp only [Sp.pre124] at h
  have hs : ((Lib.len8tab).size : Int) = 256 := by rw [Sp.len_size]; rfl
  simp only [hs, Sp.d16, Sp.d8, IntKind.wrap_u8, decide_eq_true_eq, decide_eq_false_iff_not]
  repeat' (first | exact trivial | apply And.intro | intro _)
  all_goals omega
theorem ok124 : CtOk Tryd.prog gdS 124 ct124 :=
  fn_okU (ctxOkF gok_nil []) rfl Tryd.func124 (p := ty24) (psh := [none]) (r := ty3) (rsh := (Rsh.one (none))) (pre := some Sp.pre124) (fresh := none) (F := Sp.F124) (L := noL) (c := bodyOf Tryd.f124) (dflt := Ty.dflt ty3) rfl (no_loops)
    (safe_pre @sa124) va124
/-! math/bits.OnesCount32 -/
end Go.Proofs.YtpbljgpdhllklaaDoor.Sy
namespace Go.Proofs.YtpbljgpdhllklaaDoor.Sp
open Go Go.RowKit Sy
def F76 (x : Int) : Int :=
  (IntKind.i64.wrap (IntKind.u8.wrap ((IntKind.u8.wrap ((IntKind.u8.wrap ((strAt Lib.pop8tab (Int.fdiv x (2 ^ (min ((24 : Int)).toNat IntKind.u32.bits)))) + (strAt Lib.pop8tab (IntKind.u32.wrap ((BitVec.ofInt IntKind.u32.bits (Int.fdiv x (2 ^ (min ((16 : Int)).toNat IntKind.u32.bits))) &&& BitVec.ofInt IntKind.u32.bits (255 : Int)).toNat : Int))))) + (strAt Lib.pop8tab (IntKind.u32.wrap ((BitVec.ofInt IntKind.u32.bits (Int.fdiv x (2 ^ (min ((8 : Int)).toNat IntKind.u32.bits))) &&& BitVec.ofInt IntKind.u32.bits (255 : Int)).toNat : Int))))) + (strAt Lib.pop8tab (IntKind.u32.wrap ((BitVec.ofInt IntKind.u32.bits x &&& BitVec.ofInt IntKind.u32.bits (255 : Int)).toNat : Int))))))
def pre76 (x : Int) : Prop := 0 ≤ x ∧ x ≤ 4294967295
end Go.Proofs.YtpbljgpdhllklaaDoor.Sp
namespace Go.Proofs.YtpbljgpdhllklaaDoor.Sy
def ct76 : Ct := { p := ty24, psh := [none], r := ty3, rsh := (Rsh.one (none)), pre := some Sp.pre76, fresh := none, F := Sp.F76 }
theorem va76 (x : ty24.den) : ((evFn (ctxG []) Tryd.f76 ty24 [none] (Rsh.one (none)) none ty3 noL x)).val (fun y => y) (Ty.dflt ty3) = Sp.F76 x := by kernel_rfl
theorem se76 (x : ty24.den) : ((evFn (ctxG []) Tryd.f76 ty24 [none] (Rsh.one (none)) none ty3 noL x)).safe = (((0 ≤ (24 : Int)) ∧ ((0 ≤ (Int.fdiv x (2 ^ (min ((24 : Int)).toNat IntKind.u32.bits))) ∧ (Int.fdiv x (2 ^ (min ((24 : Int)).toNat IntKind.u32.bits))) < ((Lib.pop8tab).size : Int)) ∧ ((0 ≤ (16 : Int)) ∧ ((0 ≤ (IntKind.u32.wrap ((BitVec.ofInt IntKind.u32.bits (Int.fdiv x (2 ^ (min ((16 : Int)).toNat IntKind.u32.bits))) &&& BitVec.ofInt IntKind.u32.bits (255 : Int)).toNat : Int)) ∧ (IntKind.u32.wrap ((BitVec.ofInt IntKind.u32.bits (Int.fdiv x (2 ^ (min ((16 : Int)).toNat IntKind.u32.bits))) &&& BitVec.ofInt IntKind.u32.bits (255 : Int)).toNat : Int)) < ((Lib.pop8tab).size : Int)) ∧ ((0 ≤ (8 : Int)) ∧ ((0 ≤ (IntKind.u32.wrap ((BitVec.ofInt IntKind.u32.bits (Int.fdiv x (2 ^ (min ((8 : Int)).toNat IntKind.u32.bits))) &&& BitVec.ofInt IntKind.u32.bits (255 : Int)).toNat : Int)) ∧ (IntKind.u32.wrap ((BitVec.ofInt IntKind.u32.bits (Int.fdiv x (2 ^ (min ((8 : Int)).toNat IntKind.u32.bits))) &&& BitVec.ofInt IntKind.u32.bits (255 : Int)).toNat : Int)) < ((Lib.pop8tab).size : Int)) ∧ ((0 ≤ (IntKind.u32.wrap ((BitVec.ofInt IntKind.u32.bits x &&& BitVec.ofInt IntKind.u32.bits (255 : Int)).toNat : Int)) ∧ (IntKind.u32.wrap ((BitVec.ofInt IntKind.u32.bits x &&& BitVec.ofInt IntKind.u32.bits (255 : Int)).toNat : Int)) < ((Lib.pop8tab).size : Int)) ∧ True)))))))) := by kernel_rfl
theorem sa76 (x : ty24.den) (fx : Fit ty24 x) (h : Sp.pre76 x) : SafeW ((evFn (ctxG []) Tryd.f76 ty24 [none] (Rsh.one (none)) none ty3 noL x)) := by
  refine ⟨?_⟩
  rw [se76]
  try dsimp only [Ty.den] at *
  simp only [Sp.pre76] at h
  have hs : ((Lib.pop8tab).size : Int) = 256 := by rw [Sp.pop_size]; rfl
  rw [hs, Sp.d24, Sp.d16, Sp.d8, Sp.a255 _ (by omega) (by omega), Sp.a255 _ (by omega) (by omega), Sp.a255 _ (by omega) (by omega)]
  refine ⟨by omega, ⟨by omega, by omega⟩, by omega, ⟨by omega, by omega⟩, by omega, ⟨by omega, by omega⟩, ⟨by omega, by omega⟩, trivial⟩
theorem ok76 : CtOk Tryd.prog gdS 76 ct76 :=
  fn_okU (ctxOkF gok_nil []) rfl Tryd.func76 (p := ty24) (psh := [none]) (r := ty3) (rsh := (Rsh.one (none))) (pre := some Sp.pre76) (fresh := none) (F := Sp.F76) (L := noL) (c := bodyOf Tryd.f76) (dflt := Ty.dflt ty3) rfl (no_loops)
    (safe_pre @sa76) va76
def GmM0 : List (Nat × Ct) := (74, ct74) :: (124, ct124) :: (76, ct76) :: []
theorem gokGmM0 : GOk GmM0 := gok_cons ok74 ⟨_, Tryd.func74, by kernel_rfl, by kernel_rfl⟩ (gok_cons ok124 ⟨_, Tryd.func124, by kernel_rfl, by kernel_rfl⟩ (gok_cons ok76 ⟨_, Tryd.func76, by kernel_rfl, by kernel_rfl⟩ (gok_nil)))
end Go.Proofs.YtpbljgpdhllklaaDoor.Sy
end

section
/- What Len32 comes to (own work). -/
namespace Go.Proofs.YtpbljgpdhllklaaDoor.Sp
open Go Sy
set_option linter.unusedVariables false
set_option linter.unusedSimpArgs false

theorem len8_at : ∀ n, n < 256 → (n = 0 → (Lib.len8tab.data.getD n 0).toNat = 0) ∧ (n ≠ 0 → 1 ≤ (Lib.len8tab.data.getD n 0).toNat ∧ (Lib.len8tab.data.getD n 0).toNat ≤ 8 ∧ 2 ^ ((Lib.len8tab.data.getD n 0).toNat - 1) ≤ n ∧ n < 2 ^ (Lib.len8tab.data.getD n 0).toNat) := by decide +kernel
theorem strAt_len (n : Nat) (h : n < 256) : ∃ m : Nat, strAt Lib.len8tab (n : Int) = (m : Int) ∧ (n = 0 → m = 0) ∧ (n ≠ 0 → 1 ≤ m ∧ m ≤ 8 ∧ 2 ^ (m - 1) ≤ n ∧ n < 2 ^ m) := by
  refine ⟨_, ?_, len8_at n h⟩
  unfold strAt
  rw [Int.toNat_natCast]
theorem len_zero : F124 0 = 0 := by kernel_rfl
/-- The highest bit. -/
theorem len_nat (n : Nat) (hn : n < 4294967296) (h0 : n ≠ 0) : ∃ k : Nat, k < 32 ∧ F124 (n : Int) = (k : Int) + 1 ∧ 2 ^ k ≤ n ∧ n < 2 ^ (k + 1) := by
  have hd1 : Int.fdiv (n : Int) (2 ^ (min ((16 : Int)).toNat IntKind.u32.bits)) = ((n / 65536 : Nat) : Int) := by rw [d16]; omega
  have hd2 : ∀ q : Nat, Int.fdiv (q : Int) (2 ^ (min ((8 : Int)).toNat IntKind.u32.bits)) = ((q / 256 : Nat) : Int) := fun q => by rw [d8]; omega
  have hb : ∀ q : Nat, q < 256 → IntKind.u8.wrap (q : Int) = (q : Int) := fun q h => wrap_u8_of (by omega) (by omega)
  have key : ∀ (q s : Nat), q ≠ 0 → q < 256 → n / 2 ^ s = q → s ≤ 24 → ∀ m : Nat, (q ≠ 0 → 1 ≤ m ∧ m ≤ 8 ∧ 2 ^ (m - 1) ≤ q ∧ q < 2 ^ m) → m - 1 + s < 32 ∧ ((s : Int) + (m : Int)) = ((m - 1 + s : Nat) : Int) + 1 ∧ 2 ^ (m - 1 + s) ≤ n ∧ n < 2 ^ (m - 1 + s + 1) := by
    intro q s hq hq2 hns hs m hm
    obtain ⟨h1, h2, h3, h4⟩ := hm hq
    refine ⟨by omega, by omega, ?_, ?_⟩
    · rw [Nat.pow_add]
      calc 2 ^ (m - 1) * 2 ^ s ≤ q * 2 ^ s := Nat.mul_le_mul_right _ h3
        _ ≤ n := by rw [← hns]; exact Nat.div_mul_le_self _ _
    · rw [show m - 1 + s + 1 = m + s by omega, Nat.pow_add]
      have : n / 2 ^ s < 2 ^ m := by rw [hns]; exact h4
      exact (Nat.div_lt_iff_lt_mul (Nat.two_pow_pos s)).1 this
  have hw : ∀ a b : Int, 0 ≤ a → a ≤ 100 → 0 ≤ b → b ≤ 100 → IntKind.i64.wrap (a + b) = a + b := fun a b _ _ _ _ => wrap_i64_of (by omega) (by omega)
  have hw1 : ∀ a : Int, 0 ≤ a → a ≤ 100 → IntKind.i64.wrap a = a := fun a _ _ => wrap_i64_of (by omega) (by omega)
  unfold F124
  by_cases c1 : n < 65536
  · have e1 : decide ((n : Int) ≥ 65536) = false := by simp; omega
    rw [e1, cond_false]
    by_cases c2 : n < 256
    · have e2 : decide ((n : Int) ≥ 256) = false := by simp; omega
      rw [e2, cond_false, hb n c2]
      obtain ⟨m, h1, _, h3⟩ := strAt_len n c2
      have hm := h3 h0
      obtain ⟨k1, k2, k3, k4⟩ := key n 0 h0 c2 (by simp) (by omega) m h3
      refine ⟨_, k1, ?_, k3, k4⟩
      rw [h1, ← k2]
      try rw [hw1 (m : Int) (by omega) (by omega)]
      rw [hw _ _ (by omega) (by omega) (by omega) (by omega)]
      omega
    · have e2 : decide ((n : Int) ≥ 256) = true := by simp; omega
      rw [e2, cond_true, hd2, hb _ (by omega)]
      obtain ⟨m, h1, _, h3⟩ := strAt_len (n / 256) (by omega)
      have hm := h3 (by omega)
      obtain ⟨k1, k2, k3, k4⟩ := key (n / 256) 8 (by omega) (by omega) rfl (by omega) m h3
      refine ⟨_, k1, ?_, k3, k4⟩
      rw [h1, ← k2]
      try rw [hw1 (m : Int) (by omega) (by omega)]
      rw [hw 0 8 (by omega) (by omega) (by omega) (by omega), hw _ _ (by omega) (by omega) (by omega) (by omega)]
      omega
  · have e1 : decide ((n : Int) ≥ 65536) = true := by simp; omega
    rw [e1, cond_true, hd1]
    by_cases c2 : n / 65536 < 256
    · have e2 : decide (((n / 65536 : Nat) : Int) ≥ 256) = false := by simp; omega
      rw [e2, cond_false, hb _ c2]
      obtain ⟨m, h1, _, h3⟩ := strAt_len (n / 65536) c2
      have hm := h3 (by omega)
      obtain ⟨k1, k2, k3, k4⟩ := key (n / 65536) 16 (by omega) (by omega) rfl (by omega) m h3
      refine ⟨_, k1, ?_, k3, k4⟩
      rw [h1, ← k2]
      try rw [hw1 (m : Int) (by omega) (by omega)]
      rw [hw _ _ (by omega) (by omega) (by omega) (by omega)]
      omega
    · have e2 : decide (((n / 65536 : Nat) : Int) ≥ 256) = true := by simp; omega
      rw [e2, cond_true, hd2, hb _ (by omega)]
      obtain ⟨m, h1, _, h3⟩ := strAt_len (n / 65536 / 256) (by omega)
      have hm := h3 (by omega)
      obtain ⟨k1, k2, k3, k4⟩ := key (n / 65536 / 256) 24 (by omega) (by omega) (by rw [Nat.div_div_eq_div_mul]) (by omega) m h3
      refine ⟨_, k1, ?_, k3, k4⟩
      rw [h1, ← k2]
      try rw [hw1 (m : Int) (by omega) (by omega)]
      rw [hw 16 8 (by omega) (by omega) (by omega) (by omega), hw _ _ (by omega) (by omega) (by omega) (by omega)]
      omega
theorem len_spec {x : Int} (hx : W x) (hne : x ≠ 0) : ∃ k : Nat, k < 32 ∧ F124 x = (k : Int) + 1 ∧ bit x k = true ∧ ∀ i, k < i → bit x i = false := by
  obtain ⟨n, rfl⟩ := Int.eq_ofNat_of_zero_le hx.1
  have hn : n < 4294967296 := by have := hx.2; omega
  obtain ⟨k, h1, h2, h3, h4⟩ := len_nat n hn (by omega)
  refine ⟨k, h1, h2, ?_, fun i hi => ?_⟩
  · simp only [bit, Int.toNat_natCast]
    rw [Nat.testBit_eq_decide_div_mod_eq]
    have : n / 2 ^ k = 1 := by
      apply Nat.div_eq_of_lt_le
      · omega
      · rw [Nat.pow_succ] at h4; omega
    rw [this]; rfl
  · simp only [bit, Int.toNat_natCast]
    exact Nat.testBit_lt_two_pow (Nat.lt_of_lt_of_le h4 (Nat.pow_le_pow_right (by omega) (by omega)))
end Go.Proofs.YtpbljgpdhllklaaDoor.Sp
end

section
/- Contracts of functions, by the evaluator (own program gen.py): collective.IsSweep, calls.Both, calls.One, <collective.here>.without, <collective.here>.nearer, collective.open, collective.shown, overlayref11.IsSweep, overlayref11.proper, overlayref11.marked, overlayref07.Minus, overlayref07.Has, overlayref11.above, overlayref11.below, overlayref11.open, overlayref11.move. -/
set_option linter.unusedVariables false
set_option linter.unusedSimpArgs false
set_option maxRecDepth 100000
namespace Go.Proofs.YtpbljgpdhllklaaDoor.Sy
open Go Go.RowKit Sp
/-! collective.IsSweep -/
end Go.Proofs.YtpbljgpdhllklaaDoor.Sy
namespace Go.Proofs.YtpbljgpdhllklaaDoor.Sp
open Go Go.RowKit Sy
def F46 (x : Int × Int) : Bool :=
  ((((decide (x.1 ≥ (0 : Int))) && (decide (x.1 ≤ (2 : Int)))) && (decide (x.2 ≥ (0 : Int)))) && (decide (x.2 ≤ (7 : Int))))
end Go.Proofs.YtpbljgpdhllklaaDoor.Sp
namespace Go.Proofs.YtpbljgpdhllklaaDoor.Sy
def ct46 : Ct := { p := ty60, psh := [some 2], r := ty4, rsh := (Rsh.one (none)), pre := none, fresh := none, F := Sp.F46 }
theorem va46 (x : ty60.den) : ((evFn (ctxG GmM0) Tryd.f46 ty60 [some 2] (Rsh.one (none)) none ty4 noL x)).val (fun y => y) (Ty.dflt ty4) = Sp.F46 x := by kernel_rfl
theorem se46 (x : ty60.den) : ((evFn (ctxG GmM0) Tryd.f46 ty60 [some 2] (Rsh.one (none)) none ty4 noL x)).safe = (True) := by kernel_rfl
theorem sa46 (x : ty60.den) (fx : Fit ty60 x) : SafeW ((evFn (ctxG GmM0) Tryd.f46 ty60 [some 2] (Rsh.one (none)) none ty4 noL x)) := by
  refine ⟨?_⟩
  rw [se46]
  trivial
theorem ok46 : CtOk Tryd.prog gdS 46 ct46 :=
  fn_okU (ctxOkF gokGmM0 []) rfl Tryd.func46 (p := ty60) (psh := [some 2]) (r := ty4) (rsh := (Rsh.one (none))) (pre := none) (fresh := none) (F := Sp.F46) (L := noL) (c := bodyOf Tryd.f46) (dflt := Ty.dflt ty4) rfl (no_loops)
    (safe_no @sa46) va46
/-! calls.Both -/
end Go.Proofs.YtpbljgpdhllklaaDoor.Sy
namespace Go.Proofs.YtpbljgpdhllklaaDoor.Sp
open Go Go.RowKit Sy
def F35 (x : (Int × Int) × Int × Int) : Int × Int :=
  ((IntKind.u32.wrap ((BitVec.ofInt IntKind.u32.bits x.1.1 &&& BitVec.ofInt IntKind.u32.bits x.2.1).toNat : Int)), (IntKind.u32.wrap ((BitVec.ofInt IntKind.u32.bits x.1.2 &&& BitVec.ofInt IntKind.u32.bits x.2.2).toNat : Int)))
end Go.Proofs.YtpbljgpdhllklaaDoor.Sp
namespace Go.Proofs.YtpbljgpdhllklaaDoor.Sy
def ct35 : Ct := { p := (Ty.pair ty26 ty26), psh := [some 2, some 2], r := ty26, rsh := (Rsh.one (some 2)), pre := none, fresh := none, F := Sp.F35 }
theorem va35 (x : (Ty.pair ty26 ty26).den) : ((evFn (ctxG GmM0) Tryd.f35 (Ty.pair ty26 ty26) [some 2, some 2] (Rsh.one (some 2)) none ty26 noL x)).val (fun y => y) (Ty.dflt ty26) = Sp.F35 x := by kernel_rfl
theorem se35 (x : (Ty.pair ty26 ty26).den) : ((evFn (ctxG GmM0) Tryd.f35 (Ty.pair ty26 ty26) [some 2, some 2] (Rsh.one (some 2)) none ty26 noL x)).safe = (True) := by kernel_rfl
theorem sa35 (x : (Ty.pair ty26 ty26).den) (fx : Fit (Ty.pair ty26 ty26) x) : SafeW ((evFn (ctxG GmM0) Tryd.f35 (Ty.pair ty26 ty26) [some 2, some 2] (Rsh.one (some 2)) none ty26 noL x)) := by
  refine ⟨?_⟩
  rw [se35]
  trivial
theorem ok35 : CtOk Tryd.prog gdS 35 ct35 :=
  fn_okU (ctxOkF gokGmM0 []) rfl Tryd.func35 (p := (Ty.pair ty26 ty26)) (psh := [some 2, some 2]) (r := ty26) (rsh := (Rsh.one (some 2))) (pre := none) (fresh := none) (F := Sp.F35) (L := noL) (c := bodyOf Tryd.f35) (dflt := Ty.dflt ty26) rfl (no_loops)
    (safe_no @sa35) va35
/-! calls.One -/
end Go.Proofs.YtpbljgpdhllklaaDoor.Sy
namespace Go.Proofs.YtpbljgpdhllklaaDoor.Sp
open Go Go.RowKit Sy
def F39 (x : Int × Int) : Int × Int :=
  bif ((decide (x.1 ≥ (0 : Int))) && (decide (x.1 < (32 : Int)))) then
    (bif (x.2 == (1 : Int)) then
      ((IntKind.u32.wrap ((1 : Int) * 2 ^ (min (x.1).toNat IntKind.u32.bits))), (0 : Int))
    else
      bif (x.2 == (2 : Int)) then
        ((0 : Int), (IntKind.u32.wrap ((1 : Int) * 2 ^ (min (x.1).toNat IntKind.u32.bits))))
      else
        ((0 : Int), (0 : Int)))
  else
    ((0 : Int), (0 : Int))
end Go.Proofs.YtpbljgpdhllklaaDoor.Sp
namespace Go.Proofs.YtpbljgpdhllklaaDoor.Sy
def ct39 : Ct := { p := (Ty.pair ty3 ty3), psh := [none, none], r := ty26, rsh := (Rsh.one (some 2)), pre := none, fresh := none, F := Sp.F39 }
theorem va39 (x : (Ty.pair ty3 ty3).den) : ((evFn (ctxG GmM0) Tryd.f39 (Ty.pair ty3 ty3) [none, none] (Rsh.one (some 2)) none ty26 noL x)).val (fun y => y) (Ty.dflt ty26) = Sp.F39 x := by kernel_rfl
theorem se39 (x : (Ty.pair ty3 ty3).den) : ((evFn (ctxG GmM0) Tryd.f39 (Ty.pair ty3 ty3) [none, none] (Rsh.one (some 2)) none ty26 noL x)).safe = (((((decide (x.1 ≥ (0 : Int))) && (decide (x.1 < (32 : Int)))) = true → (((x.2 == (1 : Int)) = true → ((0 ≤ x.1) ∧ True)) ∧ ((x.2 == (1 : Int)) = false → (((x.2 == (2 : Int)) = true → ((0 ≤ x.1) ∧ True)) ∧ ((x.2 == (2 : Int)) = false → True))))) ∧ (((decide (x.1 ≥ (0 : Int))) && (decide (x.1 < (32 : Int)))) = false → True))) := by kernel_rfl
theorem sa39 (x : (Ty.pair ty3 ty3).den) (fx : Fit (Ty.pair ty3 ty3) x) : SafeW ((evFn (ctxG GmM0) Tryd.f39 (Ty.pair ty3 ty3) [none, none] (Rsh.one (some 2)) none ty26 noL x)) := by
  refine ⟨?_⟩
  rw [se39]
  try dsimp only [Ty.den] at *
  simp only [Fit, maxLen] at fx
  simp only [true_and, IntKind.wrap_i64, IntKind.wrap_u8, IntKind.wrap_u32, IntKind.wrap_u64, Sp.tmod_lit, Sp.tdiv_lit, bne_eq_false_iff_eq, Int.natCast_inj, setE, copyL, sliceL, zrow, List.length_append, List.length_cons, List.length_nil, List.length_set, List.length_replicate, List.length_take, List.length_drop, decide_eq_true_eq, decide_eq_false_iff_not, Bool.or_eq_true, Bool.and_eq_true, Bool.or_eq_false_iff, Bool.and_eq_false_iff, Bool.not_eq_true', Bool.not_eq_false', Bool.not_eq_true, Bool.not_eq_false, beq_iff_eq, beq_eq_false_iff_ne, bne_iff_ne, ne_eq, implies_true, and_true, true_and] at *
  all_goals ((repeat' (first | exact trivial | apply And.intro | intro _)) <;> first | trivial | omega | exact Sp.tmod_nn (by omega) | exact Sp.tmod_lt (by omega) (by omega))
theorem ok39 : CtOk Tryd.prog gdS 39 ct39 :=
  fn_okU (ctxOkF gokGmM0 []) rfl Tryd.func39 (p := (Ty.pair ty3 ty3)) (psh := [none, none]) (r := ty26) (rsh := (Rsh.one (some 2))) (pre := none) (fresh := none) (F := Sp.F39) (L := noL) (c := bodyOf Tryd.f39) (dflt := Ty.dflt ty26) rfl (no_loops)
    (safe_no @sa39) va39
/-! <collective.here>.without -/
end Go.Proofs.YtpbljgpdhllklaaDoor.Sy
namespace Go.Proofs.YtpbljgpdhllklaaDoor.Sp
open Go Go.RowKit Sy
def F119 (x : Bool × Bool × Bool × Int × Int × Int) : (Bool × Bool × Bool × Int × Int × Int) × Bool × Bool × Bool × Int × Int × Int :=
  bif (((((x.1 && (!(x.1 && (x.2.2.2.2.2 != (0 : Int))))) || (x.2.1 && (!(x.2.1 && ((IntKind.i64.wrap ((BitVec.ofInt IntKind.i64.bits (Int.fdiv x.2.2.2.2.2 (2 ^ (min ((1 : Int)).toNat IntKind.i64.bits))) &&& BitVec.ofInt IntKind.i64.bits (1 : Int)).toNat : Int)) == (1 : Int)))))) || (x.2.2.1 && (!(x.2.2.1 && ((IntKind.i64.wrap ((BitVec.ofInt IntKind.i64.bits (Int.fdiv x.2.2.2.2.2 (2 ^ (min ((2 : Int)).toNat IntKind.i64.bits))) &&& BitVec.ofInt IntKind.i64.bits (1 : Int)).toNat : Int)) == (1 : Int)))))) || (decide (x.2.2.2.1 > (0 : Int)))) || (decide (x.2.2.2.2.1 > (0 : Int)))) then
    (((x.1 && (!(x.1 && (x.2.2.2.2.2 != (0 : Int))))), (x.2.1 && (!(x.2.1 && ((IntKind.i64.wrap ((BitVec.ofInt IntKind.i64.bits (Int.fdiv x.2.2.2.2.2 (2 ^ (min ((1 : Int)).toNat IntKind.i64.bits))) &&& BitVec.ofInt IntKind.i64.bits (1 : Int)).toNat : Int)) == (1 : Int))))), (x.2.2.1 && (!(x.2.2.1 && ((IntKind.i64.wrap ((BitVec.ofInt IntKind.i64.bits (Int.fdiv x.2.2.2.2.2 (2 ^ (min ((2 : Int)).toNat IntKind.i64.bits))) &&& BitVec.ofInt IntKind.i64.bits (1 : Int)).toNat : Int)) == (1 : Int))))), x.2.2.2), (x.1 && (x.2.2.2.2.2 != (0 : Int))), (x.2.1 && ((IntKind.i64.wrap ((BitVec.ofInt IntKind.i64.bits (Int.fdiv x.2.2.2.2.2 (2 ^ (min ((1 : Int)).toNat IntKind.i64.bits))) &&& BitVec.ofInt IntKind.i64.bits (1 : Int)).toNat : Int)) == (1 : Int))), (x.2.2.1 && ((IntKind.i64.wrap ((BitVec.ofInt IntKind.i64.bits (Int.fdiv x.2.2.2.2.2 (2 ^ (min ((2 : Int)).toNat IntKind.i64.bits))) &&& BitVec.ofInt IntKind.i64.bits (1 : Int)).toNat : Int)) == (1 : Int))), (0 : Int), (0 : Int), (0 : Int))
  else
    ((x.1, x.2.1, x.2.2.1, x.2.2.2.1, x.2.2.2.2.1, (0 : Int)), false, false, false, (0 : Int), (0 : Int), (0 : Int))
end Go.Proofs.YtpbljgpdhllklaaDoor.Sp
namespace Go.Proofs.YtpbljgpdhllklaaDoor.Sy
def ct119 : Ct := { p := ty166, psh := [some 6], r := (Ty.pair ty166 ty166), rsh := (Rsh.tup [some 6, some 6]), pre := none, fresh := none, F := Sp.F119 }
theorem va119 (x : ty166.den) : ((evFn (ctxG GmM0) Tryd.f119 ty166 [some 6] (Rsh.tup [some 6, some 6]) none (Ty.pair ty166 ty166) noL x)).val (fun y => y) (Ty.dflt (Ty.pair ty166 ty166)) = Sp.F119 x := by kernel_rfl
theorem se119 (x : ty166.den) : ((evFn (ctxG GmM0) Tryd.f119 ty166 [some 6] (Rsh.tup [some 6, some 6]) none (Ty.pair ty166 ty166) noL x)).safe = ((((x.2.1 = true → 0 ≤ (1 : Int))) ∧ (((x.2.2.1 = true → 0 ≤ (2 : Int))) ∧ (((((((x.1 && (!(x.1 && (x.2.2.2.2.2 != (0 : Int))))) || (x.2.1 && (!(x.2.1 && ((IntKind.i64.wrap ((BitVec.ofInt IntKind.i64.bits (Int.fdiv x.2.2.2.2.2 (2 ^ (min ((1 : Int)).toNat IntKind.i64.bits))) &&& BitVec.ofInt IntKind.i64.bits (1 : Int)).toNat : Int)) == (1 : Int)))))) || (x.2.2.1 && (!(x.2.2.1 && ((IntKind.i64.wrap ((BitVec.ofInt IntKind.i64.bits (Int.fdiv x.2.2.2.2.2 (2 ^ (min ((2 : Int)).toNat IntKind.i64.bits))) &&& BitVec.ofInt IntKind.i64.bits (1 : Int)).toNat : Int)) == (1 : Int)))))) || (decide (x.2.2.2.1 > (0 : Int)))) || (decide (x.2.2.2.2.1 > (0 : Int)))) = true → True) ∧ ((((((x.1 && (!(x.1 && (x.2.2.2.2.2 != (0 : Int))))) || (x.2.1 && (!(x.2.1 && ((IntKind.i64.wrap ((BitVec.ofInt IntKind.i64.bits (Int.fdiv x.2.2.2.2.2 (2 ^ (min ((1 : Int)).toNat IntKind.i64.bits))) &&& BitVec.ofInt IntKind.i64.bits (1 : Int)).toNat : Int)) == (1 : Int)))))) || (x.2.2.1 && (!(x.2.2.1 && ((IntKind.i64.wrap ((BitVec.ofInt IntKind.i64.bits (Int.fdiv x.2.2.2.2.2 (2 ^ (min ((2 : Int)).toNat IntKind.i64.bits))) &&& BitVec.ofInt IntKind.i64.bits (1 : Int)).toNat : Int)) == (1 : Int)))))) || (decide (x.2.2.2.1 > (0 : Int)))) || (decide (x.2.2.2.2.1 > (0 : Int)))) = false → True))))) := by kernel_rfl
theorem sa119 (x : ty166.den) (fx : Fit ty166 x) : SafeW ((evFn (ctxG GmM0) Tryd.f119 ty166 [some 6] (Rsh.tup [some 6, some 6]) none (Ty.pair ty166 ty166) noL x)) := by
  refine ⟨?_⟩
  rw [se119]
  try dsimp only [Ty.den] at *
  simp only [Fit, maxLen] at fx
  simp only [true_and, IntKind.wrap_i64, IntKind.wrap_u8, IntKind.wrap_u32, IntKind.wrap_u64, Sp.tmod_lit, Sp.tdiv_lit, bne_eq_false_iff_eq, Int.natCast_inj, setE, copyL, sliceL, zrow, List.length_append, List.length_cons, List.length_nil, List.length_set, List.length_replicate, List.length_take, List.length_drop, decide_eq_true_eq, decide_eq_false_iff_not, Bool.or_eq_true, Bool.and_eq_true, Bool.or_eq_false_iff, Bool.and_eq_false_iff, Bool.not_eq_true', Bool.not_eq_false', Bool.not_eq_true, Bool.not_eq_false, beq_iff_eq, beq_eq_false_iff_ne, bne_iff_ne, ne_eq, implies_true, and_true, true_and] at *
  all_goals ((repeat' (first | exact trivial | apply And.intro | intro _)) <;> first | trivial | omega | exact Sp.tmod_nn (by omega) | exact Sp.tmod_lt (by omega) (by omega))
theorem ok119 : CtOk Tryd.prog gdS 119 ct119 :=
  fn_okU (ctxOkF gokGmM0 []) rfl Tryd.func119 (p := ty166) (psh := [some 6]) (r := (Ty.pair ty166 ty166)) (rsh := (Rsh.tup [some 6, some 6])) (pre := none) (fresh := none) (F := Sp.F119) (L := noL) (c := bodyOf Tryd.f119) (dflt := Ty.dflt (Ty.pair ty166 ty166)) rfl (no_loops)
    (safe_no @sa119) va119
/-! <collective.here>.nearer -/
end Go.Proofs.YtpbljgpdhllklaaDoor.Sy
namespace Go.Proofs.YtpbljgpdhllklaaDoor.Sp
open Go Go.RowKit Sy
def F125 (x : Bool × Bool × Bool × Int × Int × Int) : Int :=
  bif ((decide (x.2.2.2.1 > (0 : Int))) && ((x.2.2.2.2.1 == (0 : Int)) || (decide (x.2.2.2.2.1 ≥ x.2.2.2.1)))) then
    (1 : Int)
  else
    bif (decide (x.2.2.2.2.1 > (0 : Int))) then
      (2 : Int)
    else
      (0 : Int)
end Go.Proofs.YtpbljgpdhllklaaDoor.Sp
namespace Go.Proofs.YtpbljgpdhllklaaDoor.Sy
def ct125 : Ct := { p := ty166, psh := [some 6], r := ty3, rsh := (Rsh.one (none)), pre := none, fresh := none, F := Sp.F125 }
theorem va125 (x : ty166.den) : ((evFn (ctxG GmM0) Tryd.f125 ty166 [some 6] (Rsh.one (none)) none ty3 noL x)).val (fun y => y) (Ty.dflt ty3) = Sp.F125 x := by kernel_rfl
theorem se125 (x : ty166.den) : ((evFn (ctxG GmM0) Tryd.f125 ty166 [some 6] (Rsh.one (none)) none ty3 noL x)).safe = (((((decide (x.2.2.2.1 > (0 : Int))) && ((x.2.2.2.2.1 == (0 : Int)) || (decide (x.2.2.2.2.1 ≥ x.2.2.2.1)))) = true → True) ∧ (((decide (x.2.2.2.1 > (0 : Int))) && ((x.2.2.2.2.1 == (0 : Int)) || (decide (x.2.2.2.2.1 ≥ x.2.2.2.1)))) = false → (((decide (x.2.2.2.2.1 > (0 : Int))) = true → True) ∧ ((decide (x.2.2.2.2.1 > (0 : Int))) = false → True))))) := by kernel_rfl
theorem sa125 (x : ty166.den) (fx : Fit ty166 x) : SafeW ((evFn (ctxG GmM0) Tryd.f125 ty166 [some 6] (Rsh.one (none)) none ty3 noL x)) := by
  refine ⟨?_⟩
  rw [se125]
  try dsimp only [Ty.den] at *
  simp only [Fit, maxLen] at fx
  simp only [true_and, IntKind.wrap_i64, IntKind.wrap_u8, IntKind.wrap_u32, IntKind.wrap_u64, Sp.tmod_lit, Sp.tdiv_lit, bne_eq_false_iff_eq, Int.natCast_inj, setE, copyL, sliceL, zrow, List.length_append, List.length_cons, List.length_nil, List.length_set, List.length_replicate, List.length_take, List.length_drop, decide_eq_true_eq, decide_eq_false_iff_not, Bool.or_eq_true, Bool.and_eq_true, Bool.or_eq_false_iff, Bool.and_eq_false_iff, Bool.not_eq_true', Bool.not_eq_false', Bool.not_eq_true, Bool.not_eq_false, beq_iff_eq, beq_eq_false_iff_ne, bne_iff_ne, ne_eq, implies_true, and_true, true_and] at *
  all_goals ((repeat' (first | exact trivial | apply And.intro | intro _)) <;> first | trivial | omega | exact Sp.tmod_nn (by omega) | exact Sp.tmod_lt (by omega) (by omega))
theorem ok125 : CtOk Tryd.prog gdS 125 ct125 :=
  fn_okU (ctxOkF gokGmM0 []) rfl Tryd.func125 (p := ty166) (psh := [some 6]) (r := ty3) (rsh := (Rsh.one (none))) (pre := none) (fresh := none) (F := Sp.F125) (L := noL) (c := bodyOf Tryd.f125) (dflt := Ty.dflt ty3) rfl (no_loops)
    (safe_no @sa125) va125
/-! collective.open -/
end Go.Proofs.YtpbljgpdhllklaaDoor.Sy
namespace Go.Proofs.YtpbljgpdhllklaaDoor.Sp
open Go Go.RowKit Sy
def F126 (x : Int) : Int × Int × Int :=
  ((3 : Int), x, x)
end Go.Proofs.YtpbljgpdhllklaaDoor.Sp
namespace Go.Proofs.YtpbljgpdhllklaaDoor.Sy
def ct126 : Ct := { p := ty3, psh := [none], r := ty119, rsh := (Rsh.one (some 3)), pre := none, fresh := none, F := Sp.F126 }
theorem va126 (x : ty3.den) : ((evFn (ctxG GmM0) Tryd.f126 ty3 [none] (Rsh.one (some 3)) none ty119 noL x)).val (fun y => y) (Ty.dflt ty119) = Sp.F126 x := by kernel_rfl
theorem se126 (x : ty3.den) : ((evFn (ctxG GmM0) Tryd.f126 ty3 [none] (Rsh.one (some 3)) none ty119 noL x)).safe = (True) := by kernel_rfl
theorem sa126 (x : ty3.den) (fx : Fit ty3 x) : SafeW ((evFn (ctxG GmM0) Tryd.f126 ty3 [none] (Rsh.one (some 3)) none ty119 noL x)) := by
  refine ⟨?_⟩
  rw [se126]
  trivial
theorem ok126 : CtOk Tryd.prog gdS 126 ct126 :=
  fn_okU (ctxOkF gokGmM0 []) rfl Tryd.func126 (p := ty3) (psh := [none]) (r := ty119) (rsh := (Rsh.one (some 3))) (pre := none) (fresh := none) (F := Sp.F126) (L := noL) (c := bodyOf Tryd.f126) (dflt := Ty.dflt ty119) rfl (no_loops)
    (safe_no @sa126) va126
/-! collective.shown -/
end Go.Proofs.YtpbljgpdhllklaaDoor.Sy
namespace Go.Proofs.YtpbljgpdhllklaaDoor.Sp
open Go Go.RowKit Sy
def F127 (x : Int × Bool × Int × Int × Bool × Int) : Int :=
  bif (x.2.1 || (decide (x.2.2.1 > (0 : Int)))) then
    x.1
  else
    bif (x.2.2.2.2.1 || (decide (x.2.2.2.2.2 > (0 : Int)))) then
      x.2.2.2.1
    else
      (0 : Int)
end Go.Proofs.YtpbljgpdhllklaaDoor.Sp
namespace Go.Proofs.YtpbljgpdhllklaaDoor.Sy
def ct127 : Ct := { p := (Ty.pair ty3 (Ty.pair ty4 (Ty.pair ty3 (Ty.pair ty3 (Ty.pair ty4 ty3))))), psh := [none, none, none, none, none, none], r := ty3, rsh := (Rsh.one (none)), pre := none, fresh := none, F := Sp.F127 }
theorem va127 (x : (Ty.pair ty3 (Ty.pair ty4 (Ty.pair ty3 (Ty.pair ty3 (Ty.pair ty4 ty3))))).den) : ((evFn (ctxG GmM0) Tryd.f127 (Ty.pair ty3 (Ty.pair ty4 (Ty.pair ty3 (Ty.pair ty3 (Ty.pair ty4 ty3))))) [none, none, none, none, none, none] (Rsh.one (none)) none ty3 noL x)).val (fun y => y) (Ty.dflt ty3) = Sp.F127 x := by kernel_rfl
theorem se127 (x : (Ty.pair ty3 (Ty.pair ty4 (Ty.pair ty3 (Ty.pair ty3 (Ty.pair ty4 ty3))))).den) : ((evFn (ctxG GmM0) Tryd.f127 (Ty.pair ty3 (Ty.pair ty4 (Ty.pair ty3 (Ty.pair ty3 (Ty.pair ty4 ty3))))) [none, none, none, none, none, none] (Rsh.one (none)) none ty3 noL x)).safe = ((((x.2.1 || (decide (x.2.2.1 > (0 : Int)))) = true → True) ∧ ((x.2.1 || (decide (x.2.2.1 > (0 : Int)))) = false → (((x.2.2.2.2.1 || (decide (x.2.2.2.2.2 > (0 : Int)))) = true → True) ∧ ((x.2.2.2.2.1 || (decide (x.2.2.2.2.2 > (0 : Int)))) = false → True))))) := by kernel_rfl
theorem sa127 (x : (Ty.pair ty3 (Ty.pair ty4 (Ty.pair ty3 (Ty.pair ty3 (Ty.pair ty4 ty3))))).den) (fx : Fit (Ty.pair ty3 (Ty.pair ty4 (Ty.pair ty3 (Ty.pair ty3 (Ty.pair ty4 ty3))))) x) : SafeW ((evFn (ctxG GmM0) Tryd.f127 (Ty.pair ty3 (Ty.pair ty4 (Ty.pair ty3 (Ty.pair ty3 (Ty.pair ty4 ty3))))) [none, none, none, none, none, none] (Rsh.one (none)) none ty3 noL x)) := by
  refine ⟨?_⟩
  rw [se127]
  try dsimp only [Ty.den] at *
  simp only [Fit, maxLen] at fx
  simp only [true_and, IntKind.wrap_i64, IntKind.wrap_u8, IntKind.wrap_u32, IntKind.wrap_u64, Sp.tmod_lit, Sp.tdiv_lit, bne_eq_false_iff_eq, Int.natCast_inj, setE, copyL, sliceL, zrow, List.length_append, List.length_cons, List.length_nil, List.length_set, List.length_replicate, List.length_take, List.length_drop, decide_eq_true_eq, decide_eq_false_iff_not, Bool.or_eq_true, Bool.and_eq_true, Bool.or_eq_false_iff, Bool.and_eq_false_iff, Bool.not_eq_true', Bool.not_eq_false', Bool.not_eq_true, Bool.not_eq_false, beq_iff_eq, beq_eq_false_iff_ne, bne_iff_ne, ne_eq, implies_true, and_true, true_and] at *
  all_goals ((repeat' (first | exact trivial | apply And.intro | intro _)) <;> first | trivial | omega | exact Sp.tmod_nn (by omega) | exact Sp.tmod_lt (by omega) (by omega))
theorem ok127 : CtOk Tryd.prog gdS 127 ct127 :=
  fn_okU (ctxOkF gokGmM0 []) rfl Tryd.func127 (p := (Ty.pair ty3 (Ty.pair ty4 (Ty.pair ty3 (Ty.pair ty3 (Ty.pair ty4 ty3)))))) (psh := [none, none, none, none, none, none]) (r := ty3) (rsh := (Rsh.one (none))) (pre := none) (fresh := none) (F := Sp.F127) (L := noL) (c := bodyOf Tryd.f127) (dflt := Ty.dflt ty3) rfl (no_loops)
    (safe_no @sa127) va127
/-! overlayref11.IsSweep -/
end Go.Proofs.YtpbljgpdhllklaaDoor.Sy
namespace Go.Proofs.YtpbljgpdhllklaaDoor.Sp
open Go Go.RowKit Sy
def F94 (x : Int × Int) : Bool :=
  ((((decide (x.1 ≥ (0 : Int))) && (decide (x.1 ≤ (2 : Int)))) && (decide (x.2 ≥ (0 : Int)))) && (decide (x.2 ≤ (7 : Int))))
end Go.Proofs.YtpbljgpdhllklaaDoor.Sp
namespace Go.Proofs.YtpbljgpdhllklaaDoor.Sy
def ct94 : Ct := { p := ty60, psh := [some 2], r := ty4, rsh := (Rsh.one (none)), pre := none, fresh := none, F := Sp.F94 }
theorem va94 (x : ty60.den) : ((evFn (ctxG GmM0) Tryd.f94 ty60 [some 2] (Rsh.one (none)) none ty4 noL x)).val (fun y => y) (Ty.dflt ty4) = Sp.F94 x := by kernel_rfl
theorem se94 (x : ty60.den) : ((evFn (ctxG GmM0) Tryd.f94 ty60 [some 2] (Rsh.one (none)) none ty4 noL x)).safe = (True) := by kernel_rfl
theorem sa94 (x : ty60.den) (fx : Fit ty60 x) : SafeW ((evFn (ctxG GmM0) Tryd.f94 ty60 [some 2] (Rsh.one (none)) none ty4 noL x)) := by
  refine ⟨?_⟩
  rw [se94]
  trivial
theorem ok94 : CtOk Tryd.prog gdS 94 ct94 :=
  fn_okU (ctxOkF gokGmM0 []) rfl Tryd.func94 (p := ty60) (psh := [some 2]) (r := ty4) (rsh := (Rsh.one (none))) (pre := none) (fresh := none) (F := Sp.F94) (L := noL) (c := bodyOf Tryd.f94) (dflt := Ty.dflt ty4) rfl (no_loops)
    (safe_no @sa94) va94
/-! overlayref11.proper -/
end Go.Proofs.YtpbljgpdhllklaaDoor.Sy
namespace Go.Proofs.YtpbljgpdhllklaaDoor.Sp
open Go Go.RowKit Sy
def F96 (x : Int × Int × Int × Int) : Int × Int × Int :=
  bif ((decide (x.1 < (1 : Int))) || (decide (x.1 > (32 : Int)))) then
    ((0 : Int), (0 : Int), (0 : Int))
  else
    ((IntKind.u32.wrap ((BitVec.ofInt IntKind.u32.bits x.2.1 &&& BitVec.ofInt IntKind.u32.bits (IntKind.u32.wrap ((IntKind.u32.wrap ((1 : Int) * 2 ^ (min ((IntKind.u64.wrap x.1)).toNat IntKind.u32.bits))) - (1 : Int)))).toNat : Int)), (IntKind.u32.wrap ((BitVec.ofInt IntKind.u32.bits (IntKind.u32.wrap ((BitVec.ofInt IntKind.u32.bits x.2.2.1 &&& BitVec.ofInt IntKind.u32.bits (IntKind.u32.wrap ((IntKind.u32.wrap ((1 : Int) * 2 ^ (min ((IntKind.u64.wrap x.1)).toNat IntKind.u32.bits))) - (1 : Int)))).toNat : Int)) &&& ~~~ BitVec.ofInt IntKind.u32.bits (IntKind.u32.wrap ((1 : Int) * 2 ^ (min ((IntKind.u64.wrap (IntKind.i64.wrap (x.1 - (1 : Int))))).toNat IntKind.u32.bits)))).toNat : Int)), (IntKind.u32.wrap ((BitVec.ofInt IntKind.u32.bits (IntKind.u32.wrap ((BitVec.ofInt IntKind.u32.bits x.2.2.2 &&& BitVec.ofInt IntKind.u32.bits (IntKind.u32.wrap ((IntKind.u32.wrap ((1 : Int) * 2 ^ (min ((IntKind.u64.wrap x.1)).toNat IntKind.u32.bits))) - (1 : Int)))).toNat : Int)) &&& ~~~ BitVec.ofInt IntKind.u32.bits (1 : Int)).toNat : Int)))
end Go.Proofs.YtpbljgpdhllklaaDoor.Sp
namespace Go.Proofs.YtpbljgpdhllklaaDoor.Sy
def ct96 : Ct := { p := (Ty.pair ty3 ty117), psh := [none, some 3], r := ty117, rsh := (Rsh.one (some 3)), pre := none, fresh := none, F := Sp.F96 }
theorem va96 (x : (Ty.pair ty3 ty117).den) : ((evFn (ctxG GmM0) Tryd.f96 (Ty.pair ty3 ty117) [none, some 3] (Rsh.one (some 3)) none ty117 noL x)).val (fun y => y) (Ty.dflt ty117) = Sp.F96 x := by kernel_rfl
theorem se96 (x : (Ty.pair ty3 ty117).den) : ((evFn (ctxG GmM0) Tryd.f96 (Ty.pair ty3 ty117) [none, some 3] (Rsh.one (some 3)) none ty117 noL x)).safe = (((((decide (x.1 < (1 : Int))) || (decide (x.1 > (32 : Int)))) = true → True) ∧ (((decide (x.1 < (1 : Int))) || (decide (x.1 > (32 : Int)))) = false → ((0 ≤ (IntKind.u64.wrap x.1)) ∧ ((0 ≤ (IntKind.u64.wrap (IntKind.i64.wrap (x.1 - (1 : Int))))) ∧ True))))) := by kernel_rfl
theorem sa96 (x : (Ty.pair ty3 ty117).den) (fx : Fit (Ty.pair ty3 ty117) x) : SafeW ((evFn (ctxG GmM0) Tryd.f96 (Ty.pair ty3 ty117) [none, some 3] (Rsh.one (some 3)) none ty117 noL x)) := by
  refine ⟨?_⟩
  rw [se96]
  try dsimp only [Ty.den] at *
  simp only [Fit, maxLen] at fx
  simp only [true_and, IntKind.wrap_i64, IntKind.wrap_u8, IntKind.wrap_u32, IntKind.wrap_u64, Sp.tmod_lit, Sp.tdiv_lit, bne_eq_false_iff_eq, Int.natCast_inj, setE, copyL, sliceL, zrow, List.length_append, List.length_cons, List.length_nil, List.length_set, List.length_replicate, List.length_take, List.length_drop, decide_eq_true_eq, decide_eq_false_iff_not, Bool.or_eq_true, Bool.and_eq_true, Bool.or_eq_false_iff, Bool.and_eq_false_iff, Bool.not_eq_true', Bool.not_eq_false', Bool.not_eq_true, Bool.not_eq_false, beq_iff_eq, beq_eq_false_iff_ne, bne_iff_ne, ne_eq, implies_true, and_true, true_and] at *
  all_goals ((repeat' (first | exact trivial | apply And.intro | intro _)) <;> first | trivial | omega | exact Sp.tmod_nn (by omega) | exact Sp.tmod_lt (by omega) (by omega))
theorem ok96 : CtOk Tryd.prog gdS 96 ct96 :=
  fn_okU (ctxOkF gokGmM0 []) rfl Tryd.func96 (p := (Ty.pair ty3 ty117)) (psh := [none, some 3]) (r := ty117) (rsh := (Rsh.one (some 3))) (pre := none) (fresh := none) (F := Sp.F96) (L := noL) (c := bodyOf Tryd.f96) (dflt := Ty.dflt ty117) rfl (no_loops)
    (safe_no @sa96) va96
/-! overlayref11.marked -/
end Go.Proofs.YtpbljgpdhllklaaDoor.Sy
namespace Go.Proofs.YtpbljgpdhllklaaDoor.Sp
open Go Go.RowKit Sy
def F113 (x : (Int × Int) × Int × Int × Int × Int) : Int × Int × Int :=
  bif (x.1.2 != (0 : Int)) then
    (bif ((IntKind.i64.wrap ((BitVec.ofInt IntKind.i64.bits x.1.2 &&& BitVec.ofInt IntKind.i64.bits (2 : Int)).toNat : Int)) != (0 : Int)) then
      (bif ((IntKind.i64.wrap ((BitVec.ofInt IntKind.i64.bits x.1.2 &&& BitVec.ofInt IntKind.i64.bits (4 : Int)).toNat : Int)) != (0 : Int)) then
        ((IntKind.u32.wrap ((BitVec.ofInt IntKind.u32.bits x.2.2.1 &&& BitVec.ofInt IntKind.u32.bits (IntKind.u32.wrap ((1 : Int) * 2 ^ (min ((IntKind.u64.wrap x.2.1)).toNat IntKind.u32.bits)))).toNat : Int)), (IntKind.u32.wrap ((BitVec.ofInt IntKind.u32.bits x.2.2.2.1 &&& BitVec.ofInt IntKind.u32.bits (IntKind.u32.wrap ((1 : Int) * 2 ^ (min ((IntKind.u64.wrap x.2.1)).toNat IntKind.u32.bits)))).toNat : Int)), (IntKind.u32.wrap ((BitVec.ofInt IntKind.u32.bits x.2.2.2.2 &&& BitVec.ofInt IntKind.u32.bits (IntKind.u32.wrap ((1 : Int) * 2 ^ (min ((IntKind.u64.wrap x.2.1)).toNat IntKind.u32.bits)))).toNat : Int)))
      else
        ((IntKind.u32.wrap ((BitVec.ofInt IntKind.u32.bits x.2.2.1 &&& BitVec.ofInt IntKind.u32.bits (IntKind.u32.wrap ((1 : Int) * 2 ^ (min ((IntKind.u64.wrap x.2.1)).toNat IntKind.u32.bits)))).toNat : Int)), (IntKind.u32.wrap ((BitVec.ofInt IntKind.u32.bits x.2.2.2.1 &&& BitVec.ofInt IntKind.u32.bits (IntKind.u32.wrap ((1 : Int) * 2 ^ (min ((IntKind.u64.wrap x.2.1)).toNat IntKind.u32.bits)))).toNat : Int)), (0 : Int)))
    else
      bif ((IntKind.i64.wrap ((BitVec.ofInt IntKind.i64.bits x.1.2 &&& BitVec.ofInt IntKind.i64.bits (4 : Int)).toNat : Int)) != (0 : Int)) then
        ((IntKind.u32.wrap ((BitVec.ofInt IntKind.u32.bits x.2.2.1 &&& BitVec.ofInt IntKind.u32.bits (IntKind.u32.wrap ((1 : Int) * 2 ^ (min ((IntKind.u64.wrap x.2.1)).toNat IntKind.u32.bits)))).toNat : Int)), (0 : Int), (IntKind.u32.wrap ((BitVec.ofInt IntKind.u32.bits x.2.2.2.2 &&& BitVec.ofInt IntKind.u32.bits (IntKind.u32.wrap ((1 : Int) * 2 ^ (min ((IntKind.u64.wrap x.2.1)).toNat IntKind.u32.bits)))).toNat : Int)))
      else
        ((IntKind.u32.wrap ((BitVec.ofInt IntKind.u32.bits x.2.2.1 &&& BitVec.ofInt IntKind.u32.bits (IntKind.u32.wrap ((1 : Int) * 2 ^ (min ((IntKind.u64.wrap x.2.1)).toNat IntKind.u32.bits)))).toNat : Int)), (0 : Int), (0 : Int)))
  else
    bif ((IntKind.i64.wrap ((BitVec.ofInt IntKind.i64.bits x.1.2 &&& BitVec.ofInt IntKind.i64.bits (2 : Int)).toNat : Int)) != (0 : Int)) then
      (bif ((IntKind.i64.wrap ((BitVec.ofInt IntKind.i64.bits x.1.2 &&& BitVec.ofInt IntKind.i64.bits (4 : Int)).toNat : Int)) != (0 : Int)) then
        ((0 : Int), (IntKind.u32.wrap ((BitVec.ofInt IntKind.u32.bits x.2.2.2.1 &&& BitVec.ofInt IntKind.u32.bits (IntKind.u32.wrap ((1 : Int) * 2 ^ (min ((IntKind.u64.wrap x.2.1)).toNat IntKind.u32.bits)))).toNat : Int)), (IntKind.u32.wrap ((BitVec.ofInt IntKind.u32.bits x.2.2.2.2 &&& BitVec.ofInt IntKind.u32.bits (IntKind.u32.wrap ((1 : Int) * 2 ^ (min ((IntKind.u64.wrap x.2.1)).toNat IntKind.u32.bits)))).toNat : Int)))
      else
        ((0 : Int), (IntKind.u32.wrap ((BitVec.ofInt IntKind.u32.bits x.2.2.2.1 &&& BitVec.ofInt IntKind.u32.bits (IntKind.u32.wrap ((1 : Int) * 2 ^ (min ((IntKind.u64.wrap x.2.1)).toNat IntKind.u32.bits)))).toNat : Int)), (0 : Int)))
    else
      bif ((IntKind.i64.wrap ((BitVec.ofInt IntKind.i64.bits x.1.2 &&& BitVec.ofInt IntKind.i64.bits (4 : Int)).toNat : Int)) != (0 : Int)) then
        ((0 : Int), (0 : Int), (IntKind.u32.wrap ((BitVec.ofInt IntKind.u32.bits x.2.2.2.2 &&& BitVec.ofInt IntKind.u32.bits (IntKind.u32.wrap ((1 : Int) * 2 ^ (min ((IntKind.u64.wrap x.2.1)).toNat IntKind.u32.bits)))).toNat : Int)))
      else
        ((0 : Int), (0 : Int), (0 : Int))
end Go.Proofs.YtpbljgpdhllklaaDoor.Sp
namespace Go.Proofs.YtpbljgpdhllklaaDoor.Sy
def ct113 : Ct := { p := (Ty.pair ty60 (Ty.pair ty3 ty117)), psh := [some 2, none, some 3], r := ty117, rsh := (Rsh.one (some 3)), pre := none, fresh := none, F := Sp.F113 }
theorem va113 (x : (Ty.pair ty60 (Ty.pair ty3 ty117)).den) : ((evFn (ctxG GmM0) Tryd.f113 (Ty.pair ty60 (Ty.pair ty3 ty117)) [some 2, none, some 3] (Rsh.one (some 3)) none ty117 noL x)).val (fun y => y) (Ty.dflt ty117) = Sp.F113 x := by kernel_rfl
theorem se113 (x : (Ty.pair ty60 (Ty.pair ty3 ty117)).den) : ((evFn (ctxG GmM0) Tryd.f113 (Ty.pair ty60 (Ty.pair ty3 ty117)) [some 2, none, some 3] (Rsh.one (some 3)) none ty117 noL x)).safe = (((0 ≤ (IntKind.u64.wrap x.2.1)) ∧ (((x.1.2 != (0 : Int)) = true → ((((IntKind.i64.wrap ((BitVec.ofInt IntKind.i64.bits x.1.2 &&& BitVec.ofInt IntKind.i64.bits (2 : Int)).toNat : Int)) != (0 : Int)) = true → ((((IntKind.i64.wrap ((BitVec.ofInt IntKind.i64.bits x.1.2 &&& BitVec.ofInt IntKind.i64.bits (4 : Int)).toNat : Int)) != (0 : Int)) = true → True) ∧ (((IntKind.i64.wrap ((BitVec.ofInt IntKind.i64.bits x.1.2 &&& BitVec.ofInt IntKind.i64.bits (4 : Int)).toNat : Int)) != (0 : Int)) = false → True))) ∧ (((IntKind.i64.wrap ((BitVec.ofInt IntKind.i64.bits x.1.2 &&& BitVec.ofInt IntKind.i64.bits (2 : Int)).toNat : Int)) != (0 : Int)) = false → ((((IntKind.i64.wrap ((BitVec.ofInt IntKind.i64.bits x.1.2 &&& BitVec.ofInt IntKind.i64.bits (4 : Int)).toNat : Int)) != (0 : Int)) = true → True) ∧ (((IntKind.i64.wrap ((BitVec.ofInt IntKind.i64.bits x.1.2 &&& BitVec.ofInt IntKind.i64.bits (4 : Int)).toNat : Int)) != (0 : Int)) = false → True))))) ∧ ((x.1.2 != (0 : Int)) = false → ((((IntKind.i64.wrap ((BitVec.ofInt IntKind.i64.bits x.1.2 &&& BitVec.ofInt IntKind.i64.bits (2 : Int)).toNat : Int)) != (0 : Int)) = true → ((((IntKind.i64.wrap ((BitVec.ofInt IntKind.i64.bits x.1.2 &&& BitVec.ofInt IntKind.i64.bits (4 : Int)).toNat : Int)) != (0 : Int)) = true → True) ∧ (((IntKind.i64.wrap ((BitVec.ofInt IntKind.i64.bits x.1.2 &&& BitVec.ofInt IntKind.i64.bits (4 : Int)).toNat : Int)) != (0 : Int)) = false → True))) ∧ (((IntKind.i64.wrap ((BitVec.ofInt IntKind.i64.bits x.1.2 &&& BitVec.ofInt IntKind.i64.bits (2 : Int)).toNat : Int)) != (0 : Int)) = false → ((((IntKind.i64.wrap ((BitVec.ofInt IntKind.i64.bits x.1.2 &&& BitVec.ofInt IntKind.i64.bits (4 : Int)).toNat : Int)) != (0 : Int)) = true → True) ∧ (((IntKind.i64.wrap ((BitVec.ofInt IntKind.i64.bits x.1.2 &&& BitVec.ofInt IntKind.i64.bits (4 : Int)).toNat : Int)) != (0 : Int)) = false → True)))))))) := by kernel_rfl
theorem sa113 (x : (Ty.pair ty60 (Ty.pair ty3 ty117)).den) (fx : Fit (Ty.pair ty60 (Ty.pair ty3 ty117)) x) : SafeW ((evFn (ctxG GmM0) Tryd.f113 (Ty.pair ty60 (Ty.pair ty3 ty117)) [some 2, none, some 3] (Rsh.one (some 3)) none ty117 noL x)) := by
  refine ⟨?_⟩
  rw [se113]
  try dsimp only [Ty.den] at *
  simp only [Fit, maxLen] at fx
  simp only [true_and, IntKind.wrap_i64, IntKind.wrap_u8, IntKind.wrap_u32, IntKind.wrap_u64, Sp.tmod_lit, Sp.tdiv_lit, bne_eq_false_iff_eq, Int.natCast_inj, setE, copyL, sliceL, zrow, List.length_append, List.length_cons, List.length_nil, List.length_set, List.length_replicate, List.length_take, List.length_drop, decide_eq_true_eq, decide_eq_false_iff_not, Bool.or_eq_true, Bool.and_eq_true, Bool.or_eq_false_iff, Bool.and_eq_false_iff, Bool.not_eq_true', Bool.not_eq_false', Bool.not_eq_true, Bool.not_eq_false, beq_iff_eq, beq_eq_false_iff_ne, bne_iff_ne, ne_eq, implies_true, and_true, true_and] at *
  all_goals ((repeat' (first | exact trivial | apply And.intro | intro _)) <;> first | trivial | omega | exact Sp.tmod_nn (by omega) | exact Sp.tmod_lt (by omega) (by omega))
theorem ok113 : CtOk Tryd.prog gdS 113 ct113 :=
  fn_okU (ctxOkF gokGmM0 []) rfl Tryd.func113 (p := (Ty.pair ty60 (Ty.pair ty3 ty117))) (psh := [some 2, none, some 3]) (r := ty117) (rsh := (Rsh.one (some 3))) (pre := none) (fresh := none) (F := Sp.F113) (L := noL) (c := bodyOf Tryd.f113) (dflt := Ty.dflt ty117) rfl (no_loops)
    (safe_no @sa113) va113
/-! overlayref07.Minus -/
end Go.Proofs.YtpbljgpdhllklaaDoor.Sy
namespace Go.Proofs.YtpbljgpdhllklaaDoor.Sp
open Go Go.RowKit Sy
def F65 (x : (Int × Int) × Int × Int) : Int × Int :=
  ((IntKind.u32.wrap ((BitVec.ofInt IntKind.u32.bits x.1.1 &&& ~~~ BitVec.ofInt IntKind.u32.bits x.2.1).toNat : Int)), (IntKind.u32.wrap ((BitVec.ofInt IntKind.u32.bits x.1.2 &&& ~~~ BitVec.ofInt IntKind.u32.bits x.2.2).toNat : Int)))
end Go.Proofs.YtpbljgpdhllklaaDoor.Sp
namespace Go.Proofs.YtpbljgpdhllklaaDoor.Sy
def ct65 : Ct := { p := (Ty.pair ty26 ty26), psh := [some 2, some 2], r := ty26, rsh := (Rsh.one (some 2)), pre := none, fresh := none, F := Sp.F65 }
theorem va65 (x : (Ty.pair ty26 ty26).den) : ((evFn (ctxG GmM0) Tryd.f65 (Ty.pair ty26 ty26) [some 2, some 2] (Rsh.one (some 2)) none ty26 noL x)).val (fun y => y) (Ty.dflt ty26) = Sp.F65 x := by kernel_rfl
theorem se65 (x : (Ty.pair ty26 ty26).den) : ((evFn (ctxG GmM0) Tryd.f65 (Ty.pair ty26 ty26) [some 2, some 2] (Rsh.one (some 2)) none ty26 noL x)).safe = (True) := by kernel_rfl
theorem sa65 (x : (Ty.pair ty26 ty26).den) (fx : Fit (Ty.pair ty26 ty26) x) : SafeW ((evFn (ctxG GmM0) Tryd.f65 (Ty.pair ty26 ty26) [some 2, some 2] (Rsh.one (some 2)) none ty26 noL x)) := by
  refine ⟨?_⟩
  rw [se65]
  trivial
theorem ok65 : CtOk Tryd.prog gdS 65 ct65 :=
  fn_okU (ctxOkF gokGmM0 []) rfl Tryd.func65 (p := (Ty.pair ty26 ty26)) (psh := [some 2, some 2]) (r := ty26) (rsh := (Rsh.one (some 2))) (pre := none) (fresh := none) (F := Sp.F65) (L := noL) (c := bodyOf Tryd.f65) (dflt := Ty.dflt ty26) rfl (no_loops)
    (safe_no @sa65) va65
/-! overlayref07.Has -/
end Go.Proofs.YtpbljgpdhllklaaDoor.Sy
namespace Go.Proofs.YtpbljgpdhllklaaDoor.Sp
open Go Go.RowKit Sy
def F110 (x : (Int × Int) × Int × Int) : Bool :=
  bif ((decide (x.2.1 < (0 : Int))) || (decide (x.2.1 > (31 : Int)))) then
    false
  else
    (((x.2.2 == (1 : Int)) && ((IntKind.u32.wrap ((BitVec.ofInt IntKind.u32.bits (Int.fdiv x.1.1 (2 ^ (min ((IntKind.u64.wrap x.2.1)).toNat IntKind.u32.bits))) &&& BitVec.ofInt IntKind.u32.bits (1 : Int)).toNat : Int)) == (1 : Int))) || ((x.2.2 == (2 : Int)) && ((IntKind.u32.wrap ((BitVec.ofInt IntKind.u32.bits (Int.fdiv x.1.2 (2 ^ (min ((IntKind.u64.wrap x.2.1)).toNat IntKind.u32.bits))) &&& BitVec.ofInt IntKind.u32.bits (1 : Int)).toNat : Int)) == (1 : Int))))
end Go.Proofs.YtpbljgpdhllklaaDoor.Sp
namespace Go.Proofs.YtpbljgpdhllklaaDoor.Sy
def ct110 : Ct := { p := (Ty.pair ty26 (Ty.pair ty3 ty3)), psh := [some 2, none, none], r := ty4, rsh := (Rsh.one (none)), pre := none, fresh := none, F := Sp.F110 }
theorem va110 (x : (Ty.pair ty26 (Ty.pair ty3 ty3)).den) : ((evFn (ctxG GmM0) Tryd.f110 (Ty.pair ty26 (Ty.pair ty3 ty3)) [some 2, none, none] (Rsh.one (none)) none ty4 noL x)).val (fun y => y) (Ty.dflt ty4) = Sp.F110 x := by kernel_rfl
theorem se110 (x : (Ty.pair ty26 (Ty.pair ty3 ty3)).den) : ((evFn (ctxG GmM0) Tryd.f110 (Ty.pair ty26 (Ty.pair ty3 ty3)) [some 2, none, none] (Rsh.one (none)) none ty4 noL x)).safe = (((((decide (x.2.1 < (0 : Int))) || (decide (x.2.1 > (31 : Int)))) = true → True) ∧ (((decide (x.2.1 < (0 : Int))) || (decide (x.2.1 > (31 : Int)))) = false → ((((x.2.2 == (1 : Int)) = true → 0 ≤ (IntKind.u64.wrap x.2.1))) ∧ (((((x.2.2 == (1 : Int)) && ((IntKind.u32.wrap ((BitVec.ofInt IntKind.u32.bits (Int.fdiv x.1.1 (2 ^ (min ((IntKind.u64.wrap x.2.1)).toNat IntKind.u32.bits))) &&& BitVec.ofInt IntKind.u32.bits (1 : Int)).toNat : Int)) == (1 : Int))) = false → ((x.2.2 == (2 : Int)) = true → 0 ≤ (IntKind.u64.wrap x.2.1)))) ∧ True))))) := by kernel_rfl
theorem sa110 (x : (Ty.pair ty26 (Ty.pair ty3 ty3)).den) (fx : Fit (Ty.pair ty26 (Ty.pair ty3 ty3)) x) : SafeW ((evFn (ctxG GmM0) Tryd.f110 (Ty.pair ty26 (Ty.pair ty3 ty3)) [some 2, none, none] (Rsh.one (none)) none ty4 noL x)) := by
  refine ⟨?_⟩
  rw [se110]
  try dsimp only [Ty.den] at *
  simp only [Fit, maxLen] at fx
  simp only [true_and, IntKind.wrap_i64, IntKind.wrap_u8, IntKind.wrap_u32, IntKind.wrap_u64, Sp.tmod_lit, Sp.tdiv_lit, bne_eq_false_iff_eq, Int.natCast_inj, setE, copyL, sliceL, zrow, List.length_append, List.length_cons, List.length_nil, List.length_set, List.length_replicate, List.length_take, List.length_drop, decide_eq_true_eq, decide_eq_false_iff_not, Bool.or_eq_true, Bool.and_eq_true, Bool.or_eq_false_iff, Bool.and_eq_false_iff, Bool.not_eq_true', Bool.not_eq_false', Bool.not_eq_true, Bool.not_eq_false, beq_iff_eq, beq_eq_false_iff_ne, bne_iff_ne, ne_eq, implies_true, and_true, true_and] at *
  all_goals ((repeat' (first | exact trivial | apply And.intro | intro _)) <;> first | trivial | omega | exact Sp.tmod_nn (by omega) | exact Sp.tmod_lt (by omega) (by omega))
theorem ok110 : CtOk Tryd.prog gdS 110 ct110 :=
  fn_okU (ctxOkF gokGmM0 []) rfl Tryd.func110 (p := (Ty.pair ty26 (Ty.pair ty3 ty3))) (psh := [some 2, none, none]) (r := ty4) (rsh := (Rsh.one (none))) (pre := none) (fresh := none) (F := Sp.F110) (L := noL) (c := bodyOf Tryd.f110) (dflt := Ty.dflt ty4) rfl (no_loops)
    (safe_no @sa110) va110
/-! overlayref11.above -/
end Go.Proofs.YtpbljgpdhllklaaDoor.Sy
namespace Go.Proofs.YtpbljgpdhllklaaDoor.Sp
open Go Go.RowKit Sy
def in111_2 (k : (Int × Int × Int × Int)) (x : (Int)) : Prop := True
def mu111_2 (k : (Int × Int × Int × Int)) (x : (Int)) : Nat := ((32 : Int) - x).toNat
def st111_2 (k : (Int × Int × Int × Int)) (x : (Int)) : BOut (Int × Int × Int × Int) (Int) (Bool × Int) :=
  bif (decide (x < (32 : Int))) then
    (bif ((IntKind.u32.wrap ((BitVec.ofInt IntKind.u32.bits (Int.fdiv (IntKind.u32.wrap ((BitVec.ofInt IntKind.u32.bits (IntKind.u32.wrap ((BitVec.ofInt IntKind.u32.bits k.2.1 ||| BitVec.ofInt IntKind.u32.bits k.2.2.1).toNat : Int)) ||| BitVec.ofInt IntKind.u32.bits k.2.2.2).toNat : Int)) (2 ^ (min ((IntKind.u64.wrap x)).toNat IntKind.u32.bits))) &&& BitVec.ofInt IntKind.u32.bits (1 : Int)).toNat : Int)) == (1 : Int)) then
      BOut.ret (true, (IntKind.i64.wrap (x - k.1)))
    else
      BOut.next k (IntKind.i64.wrap (x + (1 : Int))))
  else
    BOut.brk k x
def G111_2 (k : (Int × Int × Int × Int)) (x : (Int)) : (Int) := endOf st111_2 k (Nat.succ (mu111_2 k x)) x
def R111_2 (k : (Int × Int × Int × Int)) (x : (Int)) : Option (Bool × Int) := retOf st111_2 k (Nat.succ (mu111_2 k x)) x
end Go.Proofs.YtpbljgpdhllklaaDoor.Sp
namespace Go.Proofs.YtpbljgpdhllklaaDoor.Sy
def LS111_2 : LS (Ty.pair ty4 ty3).den := mkLS (Ty.pair ty3 ty117) ty3  [(1, none)] [(2, 3)] [(6, none)] [] [] [] [(2, 2)] 0 true Sp.in111_2 Sp.st111_2 Sp.mu111_2
theorem va111_2 (k : (Ty.pair ty3 ty117).den) (x : ty3.den) : ((evCode (ctxG GmM0) (lookL []) (bodyAt (bodyOf Tryd.f111) [0]) (tmpl LS111_2 (enc (Ty.pair ty3 ty117) k) (enc ty3 x)) (evRound LS111_2 (evRet (ctxG GmM0) Tryd.f111 (Rsh.tup [none, none]) none (Ty.pair ty4 ty3) .ret)))).val BOut.ret (BOut.brk (Ty.dflt (Ty.pair ty3 ty117)) (Ty.dflt ty3)) = Sp.st111_2 k x := by kernel_rfl
theorem se111_2 (k : (Ty.pair ty3 ty117).den) (x : ty3.den) : ((evCode (ctxG GmM0) (lookL []) (bodyAt (bodyOf Tryd.f111) [0]) (tmpl LS111_2 (enc (Ty.pair ty3 ty117) k) (enc ty3 x)) (evRound LS111_2 (evRet (ctxG GmM0) Tryd.f111 (Rsh.tup [none, none]) none (Ty.pair ty4 ty3) .ret)))).safe = ((((decide (x < (32 : Int))) = true → ((0 ≤ (IntKind.u64.wrap x)) ∧ ((((IntKind.u32.wrap ((BitVec.ofInt IntKind.u32.bits (Int.fdiv (IntKind.u32.wrap ((BitVec.ofInt IntKind.u32.bits (IntKind.u32.wrap ((BitVec.ofInt IntKind.u32.bits k.2.1 ||| BitVec.ofInt IntKind.u32.bits k.2.2.1).toNat : Int)) ||| BitVec.ofInt IntKind.u32.bits k.2.2.2).toNat : Int)) (2 ^ (min ((IntKind.u64.wrap x)).toNat IntKind.u32.bits))) &&& BitVec.ofInt IntKind.u32.bits (1 : Int)).toNat : Int)) == (1 : Int)) = true → True) ∧ (((IntKind.u32.wrap ((BitVec.ofInt IntKind.u32.bits (Int.fdiv (IntKind.u32.wrap ((BitVec.ofInt IntKind.u32.bits (IntKind.u32.wrap ((BitVec.ofInt IntKind.u32.bits k.2.1 ||| BitVec.ofInt IntKind.u32.bits k.2.2.1).toNat : Int)) ||| BitVec.ofInt IntKind.u32.bits k.2.2.2).toNat : Int)) (2 ^ (min ((IntKind.u64.wrap x)).toNat IntKind.u32.bits))) &&& BitVec.ofInt IntKind.u32.bits (1 : Int)).toNat : Int)) == (1 : Int)) = false → True)))) ∧ ((decide (x < (32 : Int))) = false → True))) := by kernel_rfl
set_option maxHeartbeats 4000000 in
theorem sa111_2 (k : (Ty.pair ty3 ty117).den) (x : ty3.den) (fk : Fit (Ty.pair ty3 ty117) k) (fx : Fit ty3 x) (h : Sp.in111_2 k x) : SafeW ((evCode (ctxG GmM0) (lookL []) (bodyAt (bodyOf Tryd.f111) [0]) (tmpl LS111_2 (enc (Ty.pair ty3 ty117) k) (enc ty3 x)) (evRound LS111_2 (evRet (ctxG GmM0) Tryd.f111 (Rsh.tup [none, none]) none (Ty.pair ty4 ty3) .ret)))) := by
  refine ⟨?_⟩
  rw [se111_2]
  try dsimp only [Ty.den] at *
  simp only [Sp.in111_2, Fit, maxLen] at h fk fx
  simp only [IntKind.wrap_i64, IntKind.wrap_u8, IntKind.wrap_u32, IntKind.wrap_u64, Sp.tmod_lit, Sp.tdiv_lit, bne_eq_false_iff_eq, Int.natCast_inj, setE, copyL, sliceL, zrow, List.length_append, List.length_cons, List.length_nil, List.length_set, List.length_replicate, List.length_take, List.length_drop, decide_eq_true_eq, decide_eq_false_iff_not, Bool.or_eq_true, Bool.and_eq_true, Bool.or_eq_false_iff, Bool.and_eq_false_iff, Bool.not_eq_true', Bool.not_eq_false', Bool.not_eq_true, Bool.not_eq_false, beq_iff_eq, beq_eq_false_iff_ne, bne_iff_ne, ne_eq, implies_true, and_true, true_and] at *
  all_goals ((repeat' (first | exact trivial | apply And.intro | intro _)) <;> first | trivial | omega | exact Sp.tmod_nn (by omega) | exact Sp.tmod_lt (by omega) (by omega))
set_option maxHeartbeats 4000000 in
theorem so111_2 (k : (Ty.pair ty3 ty117).den) (x : ty3.den) (fk : Fit (Ty.pair ty3 ty117) k) (h : Sp.in111_2 k x) : StepOk true Sp.in111_2 Sp.mu111_2 k x (Sp.st111_2 k x) := by
  try dsimp only [Ty.den] at *
  simp only [Sp.in111_2, Fit, maxLen] at h fk
  unfold Sp.st111_2
  (repeat' (first | exact rfl | (refine StepOk.cnd (fun hc => ?_) (fun hc => ?_) <;> (try simp only [IntKind.wrap_i64, IntKind.wrap_u8, IntKind.wrap_u32, IntKind.wrap_u64, bne_eq_false_iff_eq, Int.natCast_inj, setE, copyL, sliceL, zrow, List.length_append, List.length_cons, List.length_nil, List.length_set, List.length_replicate, List.length_take, List.length_drop, decide_eq_true_eq, decide_eq_false_iff_not, Bool.or_eq_true, Bool.and_eq_true, Bool.or_eq_false_iff, Bool.and_eq_false_iff, Bool.not_eq_true', Bool.not_eq_false', Bool.not_eq_true, Bool.not_eq_false, beq_iff_eq, beq_eq_false_iff_ne, bne_iff_ne, ne_eq] at hc)) | refine StepOk.opt (fun _ => ?_))) <;> (first | exact rfl | (refine ⟨rfl, ?_, ?_⟩ <;> simp only [Sp.in111_2, Sp.mu111_2, IntKind.wrap_i64, IntKind.wrap_u8, IntKind.wrap_u32, IntKind.wrap_u64, Sp.tmod_lit, Sp.tdiv_lit, bne_eq_false_iff_eq, Int.natCast_inj, setE, copyL, sliceL, zrow, List.length_append, List.length_cons, List.length_nil, List.length_set, List.length_replicate, List.length_take, List.length_drop, decide_eq_true_eq, decide_eq_false_iff_not, Bool.or_eq_true, Bool.and_eq_true, Bool.or_eq_false_iff, Bool.and_eq_false_iff, Bool.not_eq_true', Bool.not_eq_false', Bool.not_eq_true, Bool.not_eq_false, beq_iff_eq, beq_eq_false_iff_ne, bne_iff_ne, ne_eq] <;> first | omega | (and_intros <;> first | omega | exact h.1 | exact h.2 | exact h.2.1 | exact h.2.2 | exact h.2.2.1 | exact h.2.2.2 | exact h.2.2.2.1 | exact h.2.2.2.2 | exact h.2.2.2.2.1 | exact h.2.2.2.2.2 | exact h.2.2.2.2.2.1 | exact h.2.2.2.2.2.2)))
theorem lo111_2 : LoopOk Tryd.prog gdS (RetAt Tryd.prog Tryd.f111 (Rsh.tup [none, none]) none (Ty.pair ty4 ty3)) (bodyAt (bodyOf Tryd.f111) [0]) LS111_2 :=
  loop_run (ctxOkF gokGmM0 []) (L := lookL []) (loops_of (l := []) (by kernel_rfl) (loops_nil)) sa111_2 va111_2 so111_2
end Go.Proofs.YtpbljgpdhllklaaDoor.Sy
namespace Go.Proofs.YtpbljgpdhllklaaDoor.Sp
open Go Go.RowKit Sy
def F111 (x : (Int × Int × Int) × Int) : Bool × Int :=
  Sp.optR (Sp.R111_2 (x.2, x.1) (IntKind.i64.wrap (x.2 + (1 : Int)))) (fun y => y)
  ((false, (0 : Int)))
end Go.Proofs.YtpbljgpdhllklaaDoor.Sp
namespace Go.Proofs.YtpbljgpdhllklaaDoor.Sy
def ct111 : Ct := { p := (Ty.pair ty117 ty3), psh := [some 3, none], r := (Ty.pair ty4 ty3), rsh := (Rsh.tup [none, none]), pre := none, fresh := none, F := Sp.F111 }
theorem va111 (x : (Ty.pair ty117 ty3).den) : ((evFn (ctxG GmM0) Tryd.f111 (Ty.pair ty117 ty3) [some 3, none] (Rsh.tup [none, none]) none (Ty.pair ty4 ty3) (lookL [(2, LS111_2)]) x)).val (fun y => y) (Ty.dflt (Ty.pair ty4 ty3)) = Sp.F111 x := by kernel_rfl
theorem se111 (x : (Ty.pair ty117 ty3).den) : ((evFn (ctxG GmM0) Tryd.f111 (Ty.pair ty117 ty3) [some 3, none] (Rsh.tup [none, none]) none (Ty.pair ty4 ty3) (lookL [(2, LS111_2)]) x)).safe = (((Sp.in111_2 (x.2, x.1) (IntKind.i64.wrap (x.2 + (1 : Int)))) ∧ ((Sp.R111_2 (x.2, x.1) (IntKind.i64.wrap (x.2 + (1 : Int)))) = none → True))) := by kernel_rfl
theorem sa111 (x : (Ty.pair ty117 ty3).den) (fx : Fit (Ty.pair ty117 ty3) x) : SafeW ((evFn (ctxG GmM0) Tryd.f111 (Ty.pair ty117 ty3) [some 3, none] (Rsh.tup [none, none]) none (Ty.pair ty4 ty3) (lookL [(2, LS111_2)]) x)) := by
  refine ⟨?_⟩
  rw [se111]
  try dsimp only [Ty.den] at *
  simp only [Fit, maxLen] at fx
  simp only [Sp.in111_2, IntKind.wrap_i64, IntKind.wrap_u8, IntKind.wrap_u32, IntKind.wrap_u64, Sp.tmod_lit, Sp.tdiv_lit, bne_eq_false_iff_eq, Int.natCast_inj, setE, copyL, sliceL, zrow, List.length_append, List.length_cons, List.length_nil, List.length_set, List.length_replicate, List.length_take, List.length_drop, decide_eq_true_eq, decide_eq_false_iff_not, Bool.or_eq_true, Bool.and_eq_true, Bool.or_eq_false_iff, Bool.and_eq_false_iff, Bool.not_eq_true', Bool.not_eq_false', Bool.not_eq_true, Bool.not_eq_false, beq_iff_eq, beq_eq_false_iff_ne, bne_iff_ne, ne_eq, implies_true, and_true, true_and] at *
  all_goals ((repeat' (first | exact trivial | apply And.intro | intro _)) <;> first | trivial | omega | exact Sp.tmod_nn (by omega) | exact Sp.tmod_lt (by omega) (by omega))
theorem ok111 : CtOk Tryd.prog gdS 111 ct111 :=
  fn_okU (ctxOkF gokGmM0 []) rfl Tryd.func111 (p := (Ty.pair ty117 ty3)) (psh := [some 3, none]) (r := (Ty.pair ty4 ty3)) (rsh := (Rsh.tup [none, none])) (pre := none) (fresh := none) (F := Sp.F111) (L := (lookL [(2, LS111_2)])) (c := bodyOf Tryd.f111) (dflt := Ty.dflt (Ty.pair ty4 ty3)) rfl (loops_of (l := [bodyAt (bodyOf Tryd.f111) [0]]) (by kernel_rfl) (loops_cons (s0 := LS111_2) (by kernel_rfl) lo111_2 (loops_nil)))
    (safe_no @sa111) va111
/-! overlayref11.below -/
end Go.Proofs.YtpbljgpdhllklaaDoor.Sy
namespace Go.Proofs.YtpbljgpdhllklaaDoor.Sp
open Go Go.RowKit Sy
def in112_2 (k : (Int × Int × Int × Int)) (x : (Int)) : Prop := -9223372036854775808 ≤ x ∧ x ≤ 9223372036854775807
def mu112_2 (k : (Int × Int × Int × Int)) (x : (Int)) : Nat := (x + 1).toNat
def st112_2 (k : (Int × Int × Int × Int)) (x : (Int)) : BOut (Int × Int × Int × Int) (Int) (Bool × Int) :=
  bif (decide (x ≥ (0 : Int))) then
    (bif ((IntKind.u32.wrap ((BitVec.ofInt IntKind.u32.bits (Int.fdiv (IntKind.u32.wrap ((BitVec.ofInt IntKind.u32.bits (IntKind.u32.wrap ((BitVec.ofInt IntKind.u32.bits k.2.1 ||| BitVec.ofInt IntKind.u32.bits k.2.2.1).toNat : Int)) ||| BitVec.ofInt IntKind.u32.bits k.2.2.2).toNat : Int)) (2 ^ (min ((IntKind.u64.wrap x)).toNat IntKind.u32.bits))) &&& BitVec.ofInt IntKind.u32.bits (1 : Int)).toNat : Int)) == (1 : Int)) then
      BOut.ret (true, (IntKind.i64.wrap (k.1 - x)))
    else
      BOut.next k (IntKind.i64.wrap (x - (1 : Int))))
  else
    BOut.brk k x
def G112_2 (k : (Int × Int × Int × Int)) (x : (Int)) : (Int) := endOf st112_2 k (Nat.succ (mu112_2 k x)) x
def R112_2 (k : (Int × Int × Int × Int)) (x : (Int)) : Option (Bool × Int) := retOf st112_2 k (Nat.succ (mu112_2 k x)) x
end Go.Proofs.YtpbljgpdhllklaaDoor.Sp
namespace Go.Proofs.YtpbljgpdhllklaaDoor.Sy
def LS112_2 : LS (Ty.pair ty4 ty3).den := mkLS (Ty.pair ty3 ty117) ty3  [(1, none)] [(2, 3)] [(6, none)] [] [] [] [(2, 2)] 0 true Sp.in112_2 Sp.st112_2 Sp.mu112_2
theorem va112_2 (k : (Ty.pair ty3 ty117).den) (x : ty3.den) : ((evCode (ctxG GmM0) (lookL []) (bodyAt (bodyOf Tryd.f112) [0]) (tmpl LS112_2 (enc (Ty.pair ty3 ty117) k) (enc ty3 x)) (evRound LS112_2 (evRet (ctxG GmM0) Tryd.f112 (Rsh.tup [none, none]) none (Ty.pair ty4 ty3) .ret)))).val BOut.ret (BOut.brk (Ty.dflt (Ty.pair ty3 ty117)) (Ty.dflt ty3)) = Sp.st112_2 k x := by kernel_rfl
theorem se112_2 (k : (Ty.pair ty3 ty117).den) (x : ty3.den) : ((evCode (ctxG GmM0) (lookL []) (bodyAt (bodyOf Tryd.f112) [0]) (tmpl LS112_2 (enc (Ty.pair ty3 ty117) k) (enc ty3 x)) (evRound LS112_2 (evRet (ctxG GmM0) Tryd.f112 (Rsh.tup [none, none]) none (Ty.pair ty4 ty3) .ret)))).safe = ((((decide (x ≥ (0 : Int))) = true → ((0 ≤ (IntKind.u64.wrap x)) ∧ ((((IntKind.u32.wrap ((BitVec.ofInt IntKind.u32.bits (Int.fdiv (IntKind.u32.wrap ((BitVec.ofInt IntKind.u32.bits (IntKind.u32.wrap ((BitVec.ofInt IntKind.u32.bits k.2.1 ||| BitVec.ofInt IntKind.u32.bits k.2.2.1).toNat : Int)) ||| BitVec.ofInt IntKind.u32.bits k.2.2.2).toNat : Int)) (2 ^ (min ((IntKind.u64.wrap x)).toNat IntKind.u32.bits))) &&& BitVec.ofInt IntKind.u32.bits (1 : Int)).toNat : Int)) == (1 : Int)) = true → True) ∧ (((IntKind.u32.wrap ((BitVec.ofInt IntKind.u32.bits (Int.fdiv (IntKind.u32.wrap ((BitVec.ofInt IntKind.u32.bits (IntKind.u32.wrap ((BitVec.ofInt IntKind.u32.bits k.2.1 ||| BitVec.ofInt IntKind.u32.bits k.2.2.1).toNat : Int)) ||| BitVec.ofInt IntKind.u32.bits k.2.2.2).toNat : Int)) (2 ^ (min ((IntKind.u64.wrap x)).toNat IntKind.u32.bits))) &&& BitVec.ofInt IntKind.u32.bits (1 : Int)).toNat : Int)) == (1 : Int)) = false → True)))) ∧ ((decide (x ≥ (0 : Int))) = false → True))) := by kernel_rfl
set_option maxHeartbeats 4000000 in
theorem sa112_2 (k : (Ty.pair ty3 ty117).den) (x : ty3.den) (fk : Fit (Ty.pair ty3 ty117) k) (fx : Fit ty3 x) (h : Sp.in112_2 k x) : SafeW ((evCode (ctxG GmM0) (lookL []) (bodyAt (bodyOf Tryd.f112) [0]) (tmpl LS112_2 (enc (Ty.pair ty3 ty117) k) (enc ty3 x)) (evRound LS112_2 (evRet (ctxG GmM0) Tryd.f112 (Rsh.tup [none, none]) none (Ty.pair ty4 ty3) .ret)))) := by
  refine ⟨?_⟩
  rw [se112_2]
  try dsimp only [Ty.den] at *
  simp only [Sp.in112_2, Fit, maxLen] at h fk fx
  simp only [IntKind.wrap_i64, IntKind.wrap_u8, IntKind.wrap_u32, IntKind.wrap_u64, Sp.tmod_lit, Sp.tdiv_lit, bne_eq_false_iff_eq, Int.natCast_inj, setE, copyL, sliceL, zrow, List.length_append, List.length_cons, List.length_nil, List.length_set, List.length_replicate, List.length_take, List.length_drop, decide_eq_true_eq, decide_eq_false_iff_not, Bool.or_eq_true, Bool.and_eq_true, Bool.or_eq_false_iff, Bool.and_eq_false_iff, Bool.not_eq_true', Bool.not_eq_false', Bool.not_eq_true, Bool.not_eq_false, beq_iff_eq, beq_eq_false_iff_ne, bne_iff_ne, ne_eq, implies_true, and_true, true_and] at *
  all_goals ((repeat' (first | exact trivial | apply And.intro | intro _)) <;> first | trivial | omega | exact Sp.tmod_nn (by omega) | exact Sp.tmod_lt (by omega) (by omega))
set_option maxHeartbeats 4000000 in
theorem so112_2 (k : (Ty.pair ty3 ty117).den) (x : ty3.den) (fk : Fit (Ty.pair ty3 ty117) k) (h : Sp.in112_2 k x) : StepOk true Sp.in112_2 Sp.mu112_2 k x (Sp.st112_2 k x) := by
  try dsimp only [Ty.den] at *
  simp only [Sp.in112_2, Fit, maxLen] at h fk
  unfold Sp.st112_2
  (repeat' (first | exact rfl | (refine StepOk.cnd (fun hc => ?_) (fun hc => ?_) <;> (try simp only [IntKind.wrap_i64, IntKind.wrap_u8, IntKind.wrap_u32, IntKind.wrap_u64, bne_eq_false_iff_eq, Int.natCast_inj, setE, copyL, sliceL, zrow, List.length_append, List.length_cons, List.length_nil, List.length_set, List.length_replicate, List.length_take, List.length_drop, decide_eq_true_eq, decide_eq_false_iff_not, Bool.or_eq_true, Bool.and_eq_true, Bool.or_eq_false_iff, Bool.and_eq_false_iff, Bool.not_eq_true', Bool.not_eq_false', Bool.not_eq_true, Bool.not_eq_false, beq_iff_eq, beq_eq_false_iff_ne, bne_iff_ne, ne_eq] at hc)) | refine StepOk.opt (fun _ => ?_))) <;> (first | exact rfl | (refine ⟨rfl, ?_, ?_⟩ <;> simp only [Sp.in112_2, Sp.mu112_2, IntKind.wrap_i64, IntKind.wrap_u8, IntKind.wrap_u32, IntKind.wrap_u64, Sp.tmod_lit, Sp.tdiv_lit, bne_eq_false_iff_eq, Int.natCast_inj, setE, copyL, sliceL, zrow, List.length_append, List.length_cons, List.length_nil, List.length_set, List.length_replicate, List.length_take, List.length_drop, decide_eq_true_eq, decide_eq_false_iff_not, Bool.or_eq_true, Bool.and_eq_true, Bool.or_eq_false_iff, Bool.and_eq_false_iff, Bool.not_eq_true', Bool.not_eq_false', Bool.not_eq_true, Bool.not_eq_false, beq_iff_eq, beq_eq_false_iff_ne, bne_iff_ne, ne_eq] <;> first | omega | (and_intros <;> first | omega | exact h.1 | exact h.2 | exact h.2.1 | exact h.2.2 | exact h.2.2.1 | exact h.2.2.2 | exact h.2.2.2.1 | exact h.2.2.2.2 | exact h.2.2.2.2.1 | exact h.2.2.2.2.2 | exact h.2.2.2.2.2.1 | exact h.2.2.2.2.2.2)))
theorem lo112_2 : LoopOk Tryd.prog gdS (RetAt Tryd.prog Tryd.f112 (Rsh.tup [none, none]) none (Ty.pair ty4 ty3)) (bodyAt (bodyOf Tryd.f112) [0]) LS112_2 :=
  loop_run (ctxOkF gokGmM0 []) (L := lookL []) (loops_of (l := []) (by kernel_rfl) (loops_nil)) sa112_2 va112_2 so112_2
end Go.Proofs.YtpbljgpdhllklaaDoor.Sy
namespace Go.Proofs.YtpbljgpdhllklaaDoor.Sp
open Go Go.RowKit Sy
def F112 (x : (Int × Int × Int) × Int) : Bool × Int :=
  Sp.optR (Sp.R112_2 (x.2, x.1) (IntKind.i64.wrap (x.2 - (1 : Int)))) (fun y => y)
  ((false, (0 : Int)))
end Go.Proofs.YtpbljgpdhllklaaDoor.Sp
namespace Go.Proofs.YtpbljgpdhllklaaDoor.Sy
def ct112 : Ct := { p := (Ty.pair ty117 ty3), psh := [some 3, none], r := (Ty.pair ty4 ty3), rsh := (Rsh.tup [none, none]), pre := none, fresh := none, F := Sp.F112 }
theorem va112 (x : (Ty.pair ty117 ty3).den) : ((evFn (ctxG GmM0) Tryd.f112 (Ty.pair ty117 ty3) [some 3, none] (Rsh.tup [none, none]) none (Ty.pair ty4 ty3) (lookL [(2, LS112_2)]) x)).val (fun y => y) (Ty.dflt (Ty.pair ty4 ty3)) = Sp.F112 x := by kernel_rfl
theorem se112 (x : (Ty.pair ty117 ty3).den) : ((evFn (ctxG GmM0) Tryd.f112 (Ty.pair ty117 ty3) [some 3, none] (Rsh.tup [none, none]) none (Ty.pair ty4 ty3) (lookL [(2, LS112_2)]) x)).safe = (((Sp.in112_2 (x.2, x.1) (IntKind.i64.wrap (x.2 - (1 : Int)))) ∧ ((Sp.R112_2 (x.2, x.1) (IntKind.i64.wrap (x.2 - (1 : Int)))) = none → True))) := by kernel_rfl
theorem sa112 (x : (Ty.pair ty117 ty3).den) (fx : Fit (Ty.pair ty117 ty3) x) : SafeW ((evFn (ctxG GmM0) Tryd.f112 (Ty.pair ty117 ty3) [some 3, none] (Rsh.tup [none, none]) none (Ty.pair ty4 ty3) (lookL [(2, LS112_2)]) x)) := by
  refine ⟨?_⟩
  rw [se112]
  try dsimp only [Ty.den] at *
  simp only [Fit, maxLen] at fx
  simp only [Sp.in112_2, IntKind.wrap_i64, IntKind.wrap_u8, IntKind.wrap_u32, IntKind.wrap_u64, Sp.tmod_lit, Sp.tdiv_lit, bne_eq_false_iff_eq, Int.natCast_inj, setE, copyL, sliceL, zrow, List.length_append, List.length_cons, List.length_nil, List.length_set, List.length_replicate, List.length_take, List.length_drop, decide_eq_true_eq, decide_eq_false_iff_not, Bool.or_eq_true, Bool.and_eq_true, Bool.or_eq_false_iff, Bool.and_eq_false_iff, Bool.not_eq_true', Bool.not_eq_false', Bool.not_eq_true, Bool.not_eq_false, beq_iff_eq, beq_eq_false_iff_ne, bne_iff_ne, ne_eq, implies_true, and_true, true_and] at *
  all_goals ((repeat' (first | exact trivial | apply And.intro | intro _)) <;> first | trivial | omega | exact Sp.tmod_nn (by omega) | exact Sp.tmod_lt (by omega) (by omega))
theorem ok112 : CtOk Tryd.prog gdS 112 ct112 :=
  fn_okU (ctxOkF gokGmM0 []) rfl Tryd.func112 (p := (Ty.pair ty117 ty3)) (psh := [some 3, none]) (r := (Ty.pair ty4 ty3)) (rsh := (Rsh.tup [none, none])) (pre := none) (fresh := none) (F := Sp.F112) (L := (lookL [(2, LS112_2)])) (c := bodyOf Tryd.f112) (dflt := Ty.dflt (Ty.pair ty4 ty3)) rfl (loops_of (l := [bodyAt (bodyOf Tryd.f112) [0]]) (by kernel_rfl) (loops_cons (s0 := LS112_2) (by kernel_rfl) lo112_2 (loops_nil)))
    (safe_no @sa112) va112
/-! overlayref11.open -/
end Go.Proofs.YtpbljgpdhllklaaDoor.Sy
namespace Go.Proofs.YtpbljgpdhllklaaDoor.Sp
open Go Go.RowKit Sy
def F99 (x : Int) : Int × Int × Int :=
  ((3 : Int), x, x)
end Go.Proofs.YtpbljgpdhllklaaDoor.Sp
namespace Go.Proofs.YtpbljgpdhllklaaDoor.Sy
def ct99 : Ct := { p := ty3, psh := [none], r := ty119, rsh := (Rsh.one (some 3)), pre := none, fresh := none, F := Sp.F99 }
theorem va99 (x : ty3.den) : ((evFn (ctxG GmM0) Tryd.f99 ty3 [none] (Rsh.one (some 3)) none ty119 noL x)).val (fun y => y) (Ty.dflt ty119) = Sp.F99 x := by kernel_rfl
theorem se99 (x : ty3.den) : ((evFn (ctxG GmM0) Tryd.f99 ty3 [none] (Rsh.one (some 3)) none ty119 noL x)).safe = (True) := by kernel_rfl
theorem sa99 (x : ty3.den) (fx : Fit ty3 x) : SafeW ((evFn (ctxG GmM0) Tryd.f99 ty3 [none] (Rsh.one (some 3)) none ty119 noL x)) := by
  refine ⟨?_⟩
  rw [se99]
  trivial
theorem ok99 : CtOk Tryd.prog gdS 99 ct99 :=
  fn_okU (ctxOkF gokGmM0 []) rfl Tryd.func99 (p := ty3) (psh := [none]) (r := ty119) (rsh := (Rsh.one (some 3))) (pre := none) (fresh := none) (F := Sp.F99) (L := noL) (c := bodyOf Tryd.f99) (dflt := Ty.dflt ty119) rfl (no_loops)
    (safe_no @sa99) va99
/-! overlayref11.move -/
end Go.Proofs.YtpbljgpdhllklaaDoor.Sy
namespace Go.Proofs.YtpbljgpdhllklaaDoor.Sp
open Go Go.RowKit Sy
def F100 (x : Int) : Int × Int × Int :=
  bif (x == (1 : Int)) then
    ((1 : Int), x, (0 : Int))
  else
    bif (x == (2 : Int)) then
      ((2 : Int), x, (0 : Int))
    else
      ((0 : Int), (0 : Int), (0 : Int))
end Go.Proofs.YtpbljgpdhllklaaDoor.Sp
namespace Go.Proofs.YtpbljgpdhllklaaDoor.Sy
def ct100 : Ct := { p := ty3, psh := [none], r := ty119, rsh := (Rsh.one (some 3)), pre := none, fresh := none, F := Sp.F100 }
theorem va100 (x : ty3.den) : ((evFn (ctxG GmM0) Tryd.f100 ty3 [none] (Rsh.one (some 3)) none ty119 noL x)).val (fun y => y) (Ty.dflt ty119) = Sp.F100 x := by kernel_rfl
theorem se100 (x : ty3.den) : ((evFn (ctxG GmM0) Tryd.f100 ty3 [none] (Rsh.one (some 3)) none ty119 noL x)).safe = ((((x == (1 : Int)) = true → True) ∧ ((x == (1 : Int)) = false → (((x == (2 : Int)) = true → True) ∧ ((x == (2 : Int)) = false → True))))) := by kernel_rfl
theorem sa100 (x : ty3.den) (fx : Fit ty3 x) : SafeW ((evFn (ctxG GmM0) Tryd.f100 ty3 [none] (Rsh.one (some 3)) none ty119 noL x)) := by
  refine ⟨?_⟩
  rw [se100]
  try dsimp only [Ty.den] at *
  simp only [Fit, maxLen] at fx
  simp only [true_and, IntKind.wrap_i64, IntKind.wrap_u8, IntKind.wrap_u32, IntKind.wrap_u64, Sp.tmod_lit, Sp.tdiv_lit, bne_eq_false_iff_eq, Int.natCast_inj, setE, copyL, sliceL, zrow, List.length_append, List.length_cons, List.length_nil, List.length_set, List.length_replicate, List.length_take, List.length_drop, decide_eq_true_eq, decide_eq_false_iff_not, Bool.or_eq_true, Bool.and_eq_true, Bool.or_eq_false_iff, Bool.and_eq_false_iff, Bool.not_eq_true', Bool.not_eq_false', Bool.not_eq_true, Bool.not_eq_false, beq_iff_eq, beq_eq_false_iff_ne, bne_iff_ne, ne_eq, implies_true, and_true, true_and] at *
  all_goals ((repeat' (first | exact trivial | apply And.intro | intro _)) <;> first | trivial | omega | exact Sp.tmod_nn (by omega) | exact Sp.tmod_lt (by omega) (by omega))
theorem ok100 : CtOk Tryd.prog gdS 100 ct100 :=
  fn_okU (ctxOkF gokGmM0 []) rfl Tryd.func100 (p := ty3) (psh := [none]) (r := ty119) (rsh := (Rsh.one (some 3))) (pre := none) (fresh := none) (F := Sp.F100) (L := noL) (c := bodyOf Tryd.f100) (dflt := Ty.dflt ty119) rfl (no_loops)
    (safe_no @sa100) va100
def GmC0 : List (Nat × Ct) := (46, ct46) :: (35, ct35) :: (39, ct39) :: (119, ct119) :: (125, ct125) :: (126, ct126) :: (127, ct127) :: (94, ct94) :: (96, ct96) :: (113, ct113) :: (65, ct65) :: (110, ct110) :: (111, ct111) :: (112, ct112) :: (99, ct99) :: (100, ct100) :: GmM0
theorem gokGmC0 : GOk GmC0 := gok_cons ok46 ⟨_, Tryd.func46, by kernel_rfl, by kernel_rfl⟩ (gok_cons ok35 ⟨_, Tryd.func35, by kernel_rfl, by kernel_rfl⟩ (gok_cons ok39 ⟨_, Tryd.func39, by kernel_rfl, by kernel_rfl⟩ (gok_cons ok119 ⟨_, Tryd.func119, by kernel_rfl, by kernel_rfl⟩ (gok_cons ok125 ⟨_, Tryd.func125, by kernel_rfl, by kernel_rfl⟩ (gok_cons ok126 ⟨_, Tryd.func126, by kernel_rfl, by kernel_rfl⟩ (gok_cons ok127 ⟨_, Tryd.func127, by kernel_rfl, by kernel_rfl⟩ (gok_cons ok94 ⟨_, Tryd.func94, by kernel_rfl, by kernel_rfl⟩ (gok_cons ok96 ⟨_, Tryd.func96, by kernel_rfl, by kernel_rfl⟩ (gok_cons ok113 ⟨_, Tryd.func113, by kernel_rfl, by kernel_rfl⟩ (gok_cons ok65 ⟨_, Tryd.func65, by kernel_rfl, by kernel_rfl⟩ (gok_cons ok110 ⟨_, Tryd.func110, by kernel_rfl, by kernel_rfl⟩ (gok_cons ok111 ⟨_, Tryd.func111, by kernel_rfl, by kernel_rfl⟩ (gok_cons ok112 ⟨_, Tryd.func112, by kernel_rfl, by kernel_rfl⟩ (gok_cons ok99 ⟨_, Tryd.func99, by kernel_rfl, by kernel_rfl⟩ (gok_cons ok100 ⟨_, Tryd.func100, by kernel_rfl, by kernel_rfl⟩ (gokGmM0))))))))))))))))
end Go.Proofs.YtpbljgpdhllklaaDoor.Sy
end

section
/- Contracts of functions, by the evaluator (own program gen.py): collective.proper, calls.Has, <collective.here>.resting, <collective.here>.falling, overlayref11.counted, overlayref11.sweeping, overlayref11.turning. -/
set_option linter.unusedVariables false
set_option linter.unusedSimpArgs false
set_option maxRecDepth 100000
namespace Go.Proofs.YtpbljgpdhllklaaDoor.Sy
open Go Go.RowKit Sp
/-! collective.proper -/
end Go.Proofs.YtpbljgpdhllklaaDoor.Sy
namespace Go.Proofs.YtpbljgpdhllklaaDoor.Sp
open Go Go.RowKit Sy
def F107 (x : Int × (Int × Int) × Int) : Bool :=
  (((((decide (x.1 ≥ (2 : Int))) && (decide (x.1 ≤ (32 : Int)))) && (decide (x.2.2 ≥ (0 : Int)))) && (decide (x.2.2 < x.1))) && (Sp.F46 x.2.1))
end Go.Proofs.YtpbljgpdhllklaaDoor.Sp
namespace Go.Proofs.YtpbljgpdhllklaaDoor.Sy
def ct107 : Ct := { p := (Ty.pair ty3 (Ty.pair ty60 ty3)), psh := [none, some 2, none], r := ty4, rsh := (Rsh.one (none)), pre := none, fresh := none, F := Sp.F107 }
theorem va107 (x : (Ty.pair ty3 (Ty.pair ty60 ty3)).den) : ((evFn (ctxG GmC0) Tryd.f107 (Ty.pair ty3 (Ty.pair ty60 ty3)) [none, some 2, none] (Rsh.one (none)) none ty4 noL x)).val (fun y => y) (Ty.dflt ty4) = Sp.F107 x := by kernel_rfl
theorem se107 (x : (Ty.pair ty3 (Ty.pair ty60 ty3)).den) : ((evFn (ctxG GmC0) Tryd.f107 (Ty.pair ty3 (Ty.pair ty60 ty3)) [none, some 2, none] (Rsh.one (none)) none ty4 noL x)).safe = (True) := by kernel_rfl
theorem sa107 (x : (Ty.pair ty3 (Ty.pair ty60 ty3)).den) (fx : Fit (Ty.pair ty3 (Ty.pair ty60 ty3)) x) : SafeW ((evFn (ctxG GmC0) Tryd.f107 (Ty.pair ty3 (Ty.pair ty60 ty3)) [none, some 2, none] (Rsh.one (none)) none ty4 noL x)) := by
  refine ⟨?_⟩
  rw [se107]
  trivial
theorem ok107 : CtOk Tryd.prog gdS 107 ct107 :=
  fn_okU (ctxOkF gokGmC0 []) rfl Tryd.func107 (p := (Ty.pair ty3 (Ty.pair ty60 ty3))) (psh := [none, some 2, none]) (r := ty4) (rsh := (Rsh.one (none))) (pre := none) (fresh := none) (F := Sp.F107) (L := noL) (c := bodyOf Tryd.f107) (dflt := Ty.dflt ty4) rfl (no_loops)
    (safe_no @sa107) va107
/-! calls.Has -/
end Go.Proofs.YtpbljgpdhllklaaDoor.Sy
namespace Go.Proofs.YtpbljgpdhllklaaDoor.Sp
open Go Go.RowKit Sy
def F123 (x : (Int × Int) × Int × Int) : Bool :=
  (!(((Sp.F35 (x.1, (Sp.F39 x.2))).1 == (0 : Int)) && ((Sp.F35 (x.1, (Sp.F39 x.2))).2 == (0 : Int))))
end Go.Proofs.YtpbljgpdhllklaaDoor.Sp
namespace Go.Proofs.YtpbljgpdhllklaaDoor.Sy
def ct123 : Ct := { p := (Ty.pair ty26 (Ty.pair ty3 ty3)), psh := [some 2, none, none], r := ty4, rsh := (Rsh.one (none)), pre := none, fresh := none, F := Sp.F123 }
theorem va123 (x : (Ty.pair ty26 (Ty.pair ty3 ty3)).den) : ((evFn (ctxG GmC0) Tryd.f123 (Ty.pair ty26 (Ty.pair ty3 ty3)) [some 2, none, none] (Rsh.one (none)) none ty4 noL x)).val (fun y => y) (Ty.dflt ty4) = Sp.F123 x := by kernel_rfl
theorem se123 (x : (Ty.pair ty26 (Ty.pair ty3 ty3)).den) : ((evFn (ctxG GmC0) Tryd.f123 (Ty.pair ty26 (Ty.pair ty3 ty3)) [some 2, none, none] (Rsh.one (none)) none ty4 noL x)).safe = (True) := by kernel_rfl
theorem sa123 (x : (Ty.pair ty26 (Ty.pair ty3 ty3)).den) (fx : Fit (Ty.pair ty26 (Ty.pair ty3 ty3)) x) : SafeW ((evFn (ctxG GmC0) Tryd.f123 (Ty.pair ty26 (Ty.pair ty3 ty3)) [some 2, none, none] (Rsh.one (none)) none ty4 noL x)) := by
  refine ⟨?_⟩
  rw [se123]
  trivial
theorem ok123 : CtOk Tryd.prog gdS 123 ct123 :=
  fn_okU (ctxOkF gokGmC0 []) rfl Tryd.func123 (p := (Ty.pair ty26 (Ty.pair ty3 ty3))) (psh := [some 2, none, none]) (r := ty4) (rsh := (Rsh.one (none))) (pre := none) (fresh := none) (F := Sp.F123) (L := noL) (c := bodyOf Tryd.f123) (dflt := Ty.dflt ty4) rfl (no_loops)
    (safe_no @sa123) va123
/-! <collective.here>.resting -/
end Go.Proofs.YtpbljgpdhllklaaDoor.Sy
namespace Go.Proofs.YtpbljgpdhllklaaDoor.Sp
open Go Go.RowKit Sy
def F120 (x : Bool × Bool × Bool × Int × Int × Int) : Int × Int × Int :=
  bif x.2.1 then
    (Sp.F126 (1 : Int))
  else
    bif x.2.2.1 then
      (Sp.F126 (2 : Int))
    else
      bif x.1 then
        (Sp.F126 (Sp.F125 x))
      else
        bif ((Sp.F125 x) == (1 : Int)) then
          ((1 : Int), (Sp.F125 x), (0 : Int))
        else
          bif ((Sp.F125 x) == (2 : Int)) then
            ((2 : Int), (Sp.F125 x), (0 : Int))
          else
            ((0 : Int), (0 : Int), (0 : Int))
end Go.Proofs.YtpbljgpdhllklaaDoor.Sp
namespace Go.Proofs.YtpbljgpdhllklaaDoor.Sy
def ct120 : Ct := { p := ty166, psh := [some 6], r := ty119, rsh := (Rsh.one (some 3)), pre := none, fresh := none, F := Sp.F120 }
theorem va120 (x : ty166.den) : ((evFn (ctxG GmC0) Tryd.f120 ty166 [some 6] (Rsh.one (some 3)) none ty119 noL x)).val (fun y => y) (Ty.dflt ty119) = Sp.F120 x := by kernel_rfl
theorem se120 (x : ty166.den) : ((evFn (ctxG GmC0) Tryd.f120 ty166 [some 6] (Rsh.one (some 3)) none ty119 noL x)).safe = (((x.2.1 = true → True) ∧ (x.2.1 = false → ((x.2.2.1 = true → True) ∧ (x.2.2.1 = false → ((x.1 = true → True) ∧ (x.1 = false → ((((Sp.F125 x) == (1 : Int)) = true → True) ∧ (((Sp.F125 x) == (1 : Int)) = false → ((((Sp.F125 x) == (2 : Int)) = true → True) ∧ (((Sp.F125 x) == (2 : Int)) = false → True))))))))))) := by kernel_rfl
theorem sa120 (x : ty166.den) (fx : Fit ty166 x) : SafeW ((evFn (ctxG GmC0) Tryd.f120 ty166 [some 6] (Rsh.one (some 3)) none ty119 noL x)) := by
  refine ⟨?_⟩
  rw [se120]
  try dsimp only [Ty.den] at *
  simp only [Fit, maxLen] at fx
  simp only [true_and, IntKind.wrap_i64, IntKind.wrap_u8, IntKind.wrap_u32, IntKind.wrap_u64, Sp.tmod_lit, Sp.tdiv_lit, bne_eq_false_iff_eq, Int.natCast_inj, setE, copyL, sliceL, zrow, List.length_append, List.length_cons, List.length_nil, List.length_set, List.length_replicate, List.length_take, List.length_drop, decide_eq_true_eq, decide_eq_false_iff_not, Bool.or_eq_true, Bool.and_eq_true, Bool.or_eq_false_iff, Bool.and_eq_false_iff, Bool.not_eq_true', Bool.not_eq_false', Bool.not_eq_true, Bool.not_eq_false, beq_iff_eq, beq_eq_false_iff_ne, bne_iff_ne, ne_eq, implies_true, and_true, true_and] at *
  all_goals ((repeat' (first | exact trivial | apply And.intro | intro _)) <;> first | trivial | omega | exact Sp.tmod_nn (by omega) | exact Sp.tmod_lt (by omega) (by omega))
theorem ok120 : CtOk Tryd.prog gdS 120 ct120 :=
  fn_okU (ctxOkF gokGmC0 []) rfl Tryd.func120 (p := ty166) (psh := [some 6]) (r := ty119) (rsh := (Rsh.one (some 3))) (pre := none) (fresh := none) (F := Sp.F120) (L := noL) (c := bodyOf Tryd.f120) (dflt := Ty.dflt ty119) rfl (no_loops)
    (safe_no @sa120) va120
/-! <collective.here>.falling -/
end Go.Proofs.YtpbljgpdhllklaaDoor.Sy
namespace Go.Proofs.YtpbljgpdhllklaaDoor.Sp
open Go Go.RowKit Sy
def F122 (x : Bool × Bool × Bool × Int × Int × Int) : Int × Int × Int :=
  bif (x.1 || x.2.2.1) then
    (Sp.F126 (Sp.F127 ((2 : Int), x.2.2.1, x.2.2.2.2.1, (1 : Int), x.2.1, x.2.2.2.1)))
  else
    bif (decide (x.2.2.2.2.1 > (0 : Int))) then
      ((2 : Int), (2 : Int), (0 : Int))
    else
      bif x.2.1 then
        (Sp.F126 (1 : Int))
      else
        bif (decide (x.2.2.2.1 > (0 : Int))) then
          ((1 : Int), (1 : Int), (0 : Int))
        else
          ((0 : Int), (0 : Int), (0 : Int))
end Go.Proofs.YtpbljgpdhllklaaDoor.Sp
namespace Go.Proofs.YtpbljgpdhllklaaDoor.Sy
def ct122 : Ct := { p := ty166, psh := [some 6], r := ty119, rsh := (Rsh.one (some 3)), pre := none, fresh := none, F := Sp.F122 }
theorem va122 (x : ty166.den) : ((evFn (ctxG GmC0) Tryd.f122 ty166 [some 6] (Rsh.one (some 3)) none ty119 noL x)).val (fun y => y) (Ty.dflt ty119) = Sp.F122 x := by kernel_rfl
theorem se122 (x : ty166.den) : ((evFn (ctxG GmC0) Tryd.f122 ty166 [some 6] (Rsh.one (some 3)) none ty119 noL x)).safe = ((((x.1 || x.2.2.1) = true → True) ∧ ((x.1 || x.2.2.1) = false → (((decide (x.2.2.2.2.1 > (0 : Int))) = true → True) ∧ ((decide (x.2.2.2.2.1 > (0 : Int))) = false → ((x.2.1 = true → True) ∧ (x.2.1 = false → (((decide (x.2.2.2.1 > (0 : Int))) = true → True) ∧ ((decide (x.2.2.2.1 > (0 : Int))) = false → True))))))))) := by kernel_rfl
theorem sa122 (x : ty166.den) (fx : Fit ty166 x) : SafeW ((evFn (ctxG GmC0) Tryd.f122 ty166 [some 6] (Rsh.one (some 3)) none ty119 noL x)) := by
  refine ⟨?_⟩
  rw [se122]
  try dsimp only [Ty.den] at *
  simp only [Fit, maxLen] at fx
  simp only [true_and, IntKind.wrap_i64, IntKind.wrap_u8, IntKind.wrap_u32, IntKind.wrap_u64, Sp.tmod_lit, Sp.tdiv_lit, bne_eq_false_iff_eq, Int.natCast_inj, setE, copyL, sliceL, zrow, List.length_append, List.length_cons, List.length_nil, List.length_set, List.length_replicate, List.length_take, List.length_drop, decide_eq_true_eq, decide_eq_false_iff_not, Bool.or_eq_true, Bool.and_eq_true, Bool.or_eq_false_iff, Bool.and_eq_false_iff, Bool.not_eq_true', Bool.not_eq_false', Bool.not_eq_true, Bool.not_eq_false, beq_iff_eq, beq_eq_false_iff_ne, bne_iff_ne, ne_eq, implies_true, and_true, true_and] at *
  all_goals ((repeat' (first | exact trivial | apply And.intro | intro _)) <;> first | trivial | omega | exact Sp.tmod_nn (by omega) | exact Sp.tmod_lt (by omega) (by omega))
theorem ok122 : CtOk Tryd.prog gdS 122 ct122 :=
  fn_okU (ctxOkF gokGmC0 []) rfl Tryd.func122 (p := ty166) (psh := [some 6]) (r := ty119) (rsh := (Rsh.one (some 3))) (pre := none) (fresh := none) (F := Sp.F122) (L := noL) (c := bodyOf Tryd.f122) (dflt := Ty.dflt ty119) rfl (no_loops)
    (safe_no @sa122) va122
/-! overlayref11.counted -/
end Go.Proofs.YtpbljgpdhllklaaDoor.Sy
namespace Go.Proofs.YtpbljgpdhllklaaDoor.Sp
open Go Go.RowKit Sy
def F101 (x : (Int × Int) × Int × Int × Int × Int) : Int :=
  bif (((Sp.F113 x).1 == x.2.2.1) && (((Sp.F113 x).2.1 == x.2.2.2.1) && ((Sp.F113 x).2.2 == x.2.2.2.2))) then
    (0 : Int)
  else
    x.1.2
end Go.Proofs.YtpbljgpdhllklaaDoor.Sp
namespace Go.Proofs.YtpbljgpdhllklaaDoor.Sy
def ct101 : Ct := { p := (Ty.pair ty60 (Ty.pair ty3 ty117)), psh := [some 2, none, some 3], r := ty3, rsh := (Rsh.one (none)), pre := none, fresh := none, F := Sp.F101 }
theorem va101 (x : (Ty.pair ty60 (Ty.pair ty3 ty117)).den) : ((evFn (ctxG GmC0) Tryd.f101 (Ty.pair ty60 (Ty.pair ty3 ty117)) [some 2, none, some 3] (Rsh.one (none)) none ty3 noL x)).val (fun y => y) (Ty.dflt ty3) = Sp.F101 x := by kernel_rfl
theorem se101 (x : (Ty.pair ty60 (Ty.pair ty3 ty117)).den) : ((evFn (ctxG GmC0) Tryd.f101 (Ty.pair ty60 (Ty.pair ty3 ty117)) [some 2, none, some 3] (Rsh.one (none)) none ty3 noL x)).safe = ((((((Sp.F113 x).1 == x.2.2.1) && (((Sp.F113 x).2.1 == x.2.2.2.1) && ((Sp.F113 x).2.2 == x.2.2.2.2))) = true → True) ∧ ((((Sp.F113 x).1 == x.2.2.1) && (((Sp.F113 x).2.1 == x.2.2.2.1) && ((Sp.F113 x).2.2 == x.2.2.2.2))) = false → True))) := by kernel_rfl
theorem sa101 (x : (Ty.pair ty60 (Ty.pair ty3 ty117)).den) (fx : Fit (Ty.pair ty60 (Ty.pair ty3 ty117)) x) : SafeW ((evFn (ctxG GmC0) Tryd.f101 (Ty.pair ty60 (Ty.pair ty3 ty117)) [some 2, none, some 3] (Rsh.one (none)) none ty3 noL x)) := by
  refine ⟨?_⟩
  rw [se101]
  try dsimp only [Ty.den] at *
  simp only [Fit, maxLen] at fx
  simp only [true_and, IntKind.wrap_i64, IntKind.wrap_u8, IntKind.wrap_u32, IntKind.wrap_u64, Sp.tmod_lit, Sp.tdiv_lit, bne_eq_false_iff_eq, Int.natCast_inj, setE, copyL, sliceL, zrow, List.length_append, List.length_cons, List.length_nil, List.length_set, List.length_replicate, List.length_take, List.length_drop, decide_eq_true_eq, decide_eq_false_iff_not, Bool.or_eq_true, Bool.and_eq_true, Bool.or_eq_false_iff, Bool.and_eq_false_iff, Bool.not_eq_true', Bool.not_eq_false', Bool.not_eq_true, Bool.not_eq_false, beq_iff_eq, beq_eq_false_iff_ne, bne_iff_ne, ne_eq, implies_true, and_true, true_and] at *
  all_goals ((repeat' (first | exact trivial | apply And.intro | intro _)) <;> first | trivial | omega | exact Sp.tmod_nn (by omega) | exact Sp.tmod_lt (by omega) (by omega))
theorem ok101 : CtOk Tryd.prog gdS 101 ct101 :=
  fn_okU (ctxOkF gokGmC0 []) rfl Tryd.func101 (p := (Ty.pair ty60 (Ty.pair ty3 ty117))) (psh := [some 2, none, some 3]) (r := ty3) (rsh := (Rsh.one (none))) (pre := none) (fresh := none) (F := Sp.F101) (L := noL) (c := bodyOf Tryd.f101) (dflt := Ty.dflt ty3) rfl (no_loops)
    (safe_no @sa101) va101
/-! overlayref11.sweeping -/
end Go.Proofs.YtpbljgpdhllklaaDoor.Sy
namespace Go.Proofs.YtpbljgpdhllklaaDoor.Sp
open Go Go.RowKit Sy
def F97 (x : Int × Int × Bool × Bool × Bool × Bool × Bool) : (Int × Int × Int) × Bool :=
  bif ((x.2.2.1 || x.2.2.2.1) && (x.2.2.2.1 || x.2.2.2.2.2.1)) then
    ((Sp.F99 x.1), true)
  else
    bif (x.2.2.1 && (x.2.2.2.2.1 || x.2.2.2.2.2.2)) then
      ((Sp.F99 x.2.1), true)
    else
      bif x.2.2.1 then
        ((Sp.F99 (0 : Int)), true)
      else
        bif x.2.2.2.2.2.1 then
          ((Sp.F100 x.1), true)
        else
          (((0 : Int), (0 : Int), (0 : Int)), false)
end Go.Proofs.YtpbljgpdhllklaaDoor.Sp
namespace Go.Proofs.YtpbljgpdhllklaaDoor.Sy
def ct97 : Ct := { p := (Ty.pair ty3 (Ty.pair ty3 (Ty.pair ty4 (Ty.pair ty4 (Ty.pair ty4 (Ty.pair ty4 ty4)))))), psh := [none, none, none, none, none, none, none], r := (Ty.pair ty119 ty4), rsh := (Rsh.tup [some 3, none]), pre := none, fresh := none, F := Sp.F97 }
theorem va97 (x : (Ty.pair ty3 (Ty.pair ty3 (Ty.pair ty4 (Ty.pair ty4 (Ty.pair ty4 (Ty.pair ty4 ty4)))))).den) : ((evFn (ctxG GmC0) Tryd.f97 (Ty.pair ty3 (Ty.pair ty3 (Ty.pair ty4 (Ty.pair ty4 (Ty.pair ty4 (Ty.pair ty4 ty4)))))) [none, none, none, none, none, none, none] (Rsh.tup [some 3, none]) none (Ty.pair ty119 ty4) noL x)).val (fun y => y) (Ty.dflt (Ty.pair ty119 ty4)) = Sp.F97 x := by kernel_rfl
theorem se97 (x : (Ty.pair ty3 (Ty.pair ty3 (Ty.pair ty4 (Ty.pair ty4 (Ty.pair ty4 (Ty.pair ty4 ty4)))))).den) : ((evFn (ctxG GmC0) Tryd.f97 (Ty.pair ty3 (Ty.pair ty3 (Ty.pair ty4 (Ty.pair ty4 (Ty.pair ty4 (Ty.pair ty4 ty4)))))) [none, none, none, none, none, none, none] (Rsh.tup [some 3, none]) none (Ty.pair ty119 ty4) noL x)).safe = (((((x.2.2.1 || x.2.2.2.1) && (x.2.2.2.1 || x.2.2.2.2.2.1)) = true → True) ∧ (((x.2.2.1 || x.2.2.2.1) && (x.2.2.2.1 || x.2.2.2.2.2.1)) = false → (((x.2.2.1 && (x.2.2.2.2.1 || x.2.2.2.2.2.2)) = true → True) ∧ ((x.2.2.1 && (x.2.2.2.2.1 || x.2.2.2.2.2.2)) = false → ((x.2.2.1 = true → True) ∧ (x.2.2.1 = false → ((x.2.2.2.2.2.1 = true → True) ∧ (x.2.2.2.2.2.1 = false → True))))))))) := by kernel_rfl
theorem sa97 (x : (Ty.pair ty3 (Ty.pair ty3 (Ty.pair ty4 (Ty.pair ty4 (Ty.pair ty4 (Ty.pair ty4 ty4)))))).den) (fx : Fit (Ty.pair ty3 (Ty.pair ty3 (Ty.pair ty4 (Ty.pair ty4 (Ty.pair ty4 (Ty.pair ty4 ty4)))))) x) : SafeW ((evFn (ctxG GmC0) Tryd.f97 (Ty.pair ty3 (Ty.pair ty3 (Ty.pair ty4 (Ty.pair ty4 (Ty.pair ty4 (Ty.pair ty4 ty4)))))) [none, none, none, none, none, none, none] (Rsh.tup [some 3, none]) none (Ty.pair ty119 ty4) noL x)) := by
  refine ⟨?_⟩
  rw [se97]
  try dsimp only [Ty.den] at *
  simp only [Fit, maxLen] at fx
  simp only [true_and, IntKind.wrap_i64, IntKind.wrap_u8, IntKind.wrap_u32, IntKind.wrap_u64, Sp.tmod_lit, Sp.tdiv_lit, bne_eq_false_iff_eq, Int.natCast_inj, setE, copyL, sliceL, zrow, List.length_append, List.length_cons, List.length_nil, List.length_set, List.length_replicate, List.length_take, List.length_drop, decide_eq_true_eq, decide_eq_false_iff_not, Bool.or_eq_true, Bool.and_eq_true, Bool.or_eq_false_iff, Bool.and_eq_false_iff, Bool.not_eq_true', Bool.not_eq_false', Bool.not_eq_true, Bool.not_eq_false, beq_iff_eq, beq_eq_false_iff_ne, bne_iff_ne, ne_eq, implies_true, and_true, true_and] at *
  all_goals ((repeat' (first | exact trivial | apply And.intro | intro _)) <;> first | trivial | omega | exact Sp.tmod_nn (by omega) | exact Sp.tmod_lt (by omega) (by omega))
theorem ok97 : CtOk Tryd.prog gdS 97 ct97 :=
  fn_okU (ctxOkF gokGmC0 []) rfl Tryd.func97 (p := (Ty.pair ty3 (Ty.pair ty3 (Ty.pair ty4 (Ty.pair ty4 (Ty.pair ty4 (Ty.pair ty4 ty4))))))) (psh := [none, none, none, none, none, none, none]) (r := (Ty.pair ty119 ty4)) (rsh := (Rsh.tup [some 3, none])) (pre := none) (fresh := none) (F := Sp.F97) (L := noL) (c := bodyOf Tryd.f97) (dflt := Ty.dflt (Ty.pair ty119 ty4)) rfl (no_loops)
    (safe_no @sa97) va97
/-! overlayref11.turning -/
end Go.Proofs.YtpbljgpdhllklaaDoor.Sy
namespace Go.Proofs.YtpbljgpdhllklaaDoor.Sp
open Go Go.RowKit Sy
def F98 (x : Int × Bool × Bool) : Int × Int × Int :=
  bif x.2.1 then
    (Sp.F99 x.1)
  else
    bif x.2.2 then
      (Sp.F100 x.1)
    else
      ((0 : Int), (0 : Int), (0 : Int))
end Go.Proofs.YtpbljgpdhllklaaDoor.Sp
namespace Go.Proofs.YtpbljgpdhllklaaDoor.Sy
def ct98 : Ct := { p := (Ty.pair ty3 (Ty.pair ty4 ty4)), psh := [none, none, none], r := ty119, rsh := (Rsh.one (some 3)), pre := none, fresh := none, F := Sp.F98 }
theorem va98 (x : (Ty.pair ty3 (Ty.pair ty4 ty4)).den) : ((evFn (ctxG GmC0) Tryd.f98 (Ty.pair ty3 (Ty.pair ty4 ty4)) [none, none, none] (Rsh.one (some 3)) none ty119 noL x)).val (fun y => y) (Ty.dflt ty119) = Sp.F98 x := by kernel_rfl
theorem se98 (x : (Ty.pair ty3 (Ty.pair ty4 ty4)).den) : ((evFn (ctxG GmC0) Tryd.f98 (Ty.pair ty3 (Ty.pair ty4 ty4)) [none, none, none] (Rsh.one (some 3)) none ty119 noL x)).safe = (((x.2.1 = true → True) ∧ (x.2.1 = false → ((x.2.2 = true → True) ∧ (x.2.2 = false → True))))) := by kernel_rfl
theorem sa98 (x : (Ty.pair ty3 (Ty.pair ty4 ty4)).den) (fx : Fit (Ty.pair ty3 (Ty.pair ty4 ty4)) x) : SafeW ((evFn (ctxG GmC0) Tryd.f98 (Ty.pair ty3 (Ty.pair ty4 ty4)) [none, none, none] (Rsh.one (some 3)) none ty119 noL x)) := by
  refine ⟨?_⟩
  rw [se98]
  try dsimp only [Ty.den] at *
  simp only [Fit, maxLen] at fx
  simp only [true_and, IntKind.wrap_i64, IntKind.wrap_u8, IntKind.wrap_u32, IntKind.wrap_u64, Sp.tmod_lit, Sp.tdiv_lit, bne_eq_false_iff_eq, Int.natCast_inj, setE, copyL, sliceL, zrow, List.length_append, List.length_cons, List.length_nil, List.length_set, List.length_replicate, List.length_take, List.length_drop, decide_eq_true_eq, decide_eq_false_iff_not, Bool.or_eq_true, Bool.and_eq_true, Bool.or_eq_false_iff, Bool.and_eq_false_iff, Bool.not_eq_true', Bool.not_eq_false', Bool.not_eq_true, Bool.not_eq_false, beq_iff_eq, beq_eq_false_iff_ne, bne_iff_ne, ne_eq, implies_true, and_true, true_and] at *
  all_goals ((repeat' (first | exact trivial | apply And.intro | intro _)) <;> first | trivial | omega | exact Sp.tmod_nn (by omega) | exact Sp.tmod_lt (by omega) (by omega))
theorem ok98 : CtOk Tryd.prog gdS 98 ct98 :=
  fn_okU (ctxOkF gokGmC0 []) rfl Tryd.func98 (p := (Ty.pair ty3 (Ty.pair ty4 ty4))) (psh := [none, none, none]) (r := ty119) (rsh := (Rsh.one (some 3))) (pre := none) (fresh := none) (F := Sp.F98) (L := noL) (c := bodyOf Tryd.f98) (dflt := Ty.dflt ty119) rfl (no_loops)
    (safe_no @sa98) va98
def GmC1 : List (Nat × Ct) := (107, ct107) :: (123, ct123) :: (120, ct120) :: (122, ct122) :: (101, ct101) :: (97, ct97) :: (98, ct98) :: GmC0
theorem gokGmC1 : GOk GmC1 := gok_cons ok107 ⟨_, Tryd.func107, by kernel_rfl, by kernel_rfl⟩ (gok_cons ok123 ⟨_, Tryd.func123, by kernel_rfl, by kernel_rfl⟩ (gok_cons ok120 ⟨_, Tryd.func120, by kernel_rfl, by kernel_rfl⟩ (gok_cons ok122 ⟨_, Tryd.func122, by kernel_rfl, by kernel_rfl⟩ (gok_cons ok101 ⟨_, Tryd.func101, by kernel_rfl, by kernel_rfl⟩ (gok_cons ok97 ⟨_, Tryd.func97, by kernel_rfl, by kernel_rfl⟩ (gok_cons ok98 ⟨_, Tryd.func98, by kernel_rfl, by kernel_rfl⟩ (gokGmC0)))))))
end Go.Proofs.YtpbljgpdhllklaaDoor.Sy
end

section
/- Contracts of functions, by the evaluator (own program gen.py): collective.look, <collective.here>.rising, overlayref11.Spent. -/
set_option linter.unusedVariables false
set_option linter.unusedSimpArgs false
set_option maxRecDepth 100000
namespace Go.Proofs.YtpbljgpdhllklaaDoor.Sy
open Go Go.RowKit Sp
/-! collective.look -/
end Go.Proofs.YtpbljgpdhllklaaDoor.Sy
namespace Go.Proofs.YtpbljgpdhllklaaDoor.Sp
open Go Go.RowKit Sy
def K118_1 (x : Int × (Int × Int) × Int × Int × Int × Int) :=
  (Sp.F35 (x.2.2.2.2, (Int.fdiv (IntKind.u32.wrap ((IntKind.u32.wrap ((1 : Int) * 2 ^ (min (x.1).toNat IntKind.u32.bits))) - (1 : Int))) (2 ^ (min ((1 : Int)).toNat IntKind.u32.bits))), (IntKind.u32.wrap ((BitVec.ofInt IntKind.u32.bits (IntKind.u32.wrap ((IntKind.u32.wrap ((1 : Int) * 2 ^ (min (x.1).toNat IntKind.u32.bits))) - (1 : Int))) &&& ~~~ BitVec.ofInt IntKind.u32.bits (1 : Int)).toNat : Int))))
def K118_2 (x : Int × (Int × Int) × Int × Int × Int × Int) :=
  (Sp.F74 (Int.fdiv (Int.fdiv (IntKind.u32.wrap ((BitVec.ofInt IntKind.u32.bits (IntKind.u32.wrap ((BitVec.ofInt IntKind.u32.bits (IntKind.u32.wrap ((BitVec.ofInt IntKind.u32.bits x.2.2.2.1 &&& BitVec.ofInt IntKind.u32.bits (IntKind.u32.wrap ((IntKind.u32.wrap ((1 : Int) * 2 ^ (min (x.1).toNat IntKind.u32.bits))) - (1 : Int)))).toNat : Int)) ||| BitVec.ofInt IntKind.u32.bits ((Sp.K118_1 x).1)).toNat : Int)) ||| BitVec.ofInt IntKind.u32.bits ((Sp.K118_1 x).2)).toNat : Int)) (2 ^ (min (x.2.2.1).toNat IntKind.u32.bits))) (2 ^ (min ((1 : Int)).toNat IntKind.u32.bits))))
def K118_3 (x : Int × (Int × Int) × Int × Int × Int × Int) :=
  (Sp.F124 (IntKind.u32.wrap ((BitVec.ofInt IntKind.u32.bits (IntKind.u32.wrap ((BitVec.ofInt IntKind.u32.bits (IntKind.u32.wrap ((BitVec.ofInt IntKind.u32.bits (IntKind.u32.wrap ((BitVec.ofInt IntKind.u32.bits x.2.2.2.1 &&& BitVec.ofInt IntKind.u32.bits (IntKind.u32.wrap ((IntKind.u32.wrap ((1 : Int) * 2 ^ (min (x.1).toNat IntKind.u32.bits))) - (1 : Int)))).toNat : Int)) ||| BitVec.ofInt IntKind.u32.bits ((Sp.K118_1 x).1)).toNat : Int)) ||| BitVec.ofInt IntKind.u32.bits ((Sp.K118_1 x).2)).toNat : Int)) &&& BitVec.ofInt IntKind.u32.bits (IntKind.u32.wrap ((IntKind.u32.wrap ((1 : Int) * 2 ^ (min (x.2.2.1).toNat IntKind.u32.bits))) - (1 : Int)))).toNat : Int)))
def F118 (x : Int × (Int × Int) × Int × Int × Int × Int) : Bool × Bool × Bool × Int × Int × Int :=
  bif ((Int.fdiv (Int.fdiv (IntKind.u32.wrap ((BitVec.ofInt IntKind.u32.bits (IntKind.u32.wrap ((BitVec.ofInt IntKind.u32.bits (IntKind.u32.wrap ((BitVec.ofInt IntKind.u32.bits x.2.2.2.1 &&& BitVec.ofInt IntKind.u32.bits (IntKind.u32.wrap ((IntKind.u32.wrap ((1 : Int) * 2 ^ (min (x.1).toNat IntKind.u32.bits))) - (1 : Int)))).toNat : Int)) ||| BitVec.ofInt IntKind.u32.bits ((Sp.K118_1 x).1)).toNat : Int)) ||| BitVec.ofInt IntKind.u32.bits ((Sp.K118_1 x).2)).toNat : Int)) (2 ^ (min (x.2.2.1).toNat IntKind.u32.bits))) (2 ^ (min ((1 : Int)).toNat IntKind.u32.bits))) != (0 : Int)) then
    (bif ((IntKind.u32.wrap ((BitVec.ofInt IntKind.u32.bits (IntKind.u32.wrap ((BitVec.ofInt IntKind.u32.bits (IntKind.u32.wrap ((BitVec.ofInt IntKind.u32.bits (IntKind.u32.wrap ((BitVec.ofInt IntKind.u32.bits x.2.2.2.1 &&& BitVec.ofInt IntKind.u32.bits (IntKind.u32.wrap ((IntKind.u32.wrap ((1 : Int) * 2 ^ (min (x.1).toNat IntKind.u32.bits))) - (1 : Int)))).toNat : Int)) ||| BitVec.ofInt IntKind.u32.bits ((Sp.K118_1 x).1)).toNat : Int)) ||| BitVec.ofInt IntKind.u32.bits ((Sp.K118_1 x).2)).toNat : Int)) &&& BitVec.ofInt IntKind.u32.bits (IntKind.u32.wrap ((IntKind.u32.wrap ((1 : Int) * 2 ^ (min (x.2.2.1).toNat IntKind.u32.bits))) - (1 : Int)))).toNat : Int)) != (0 : Int)) then
      (((IntKind.u32.wrap ((BitVec.ofInt IntKind.u32.bits (Int.fdiv x.2.2.2.1 (2 ^ (min (x.2.2.1).toNat IntKind.u32.bits))) &&& BitVec.ofInt IntKind.u32.bits (1 : Int)).toNat : Int)) == (1 : Int)), (Sp.F123 ((Sp.K118_1 x), x.2.2.1, (1 : Int))), (Sp.F123 ((Sp.K118_1 x), x.2.2.1, (2 : Int))), (IntKind.i64.wrap ((1 : Int) + (Sp.K118_2 x))), (IntKind.i64.wrap ((IntKind.i64.wrap (x.2.2.1 - (Sp.K118_3 x))) + (1 : Int))), x.2.1.2)
    else
      (((IntKind.u32.wrap ((BitVec.ofInt IntKind.u32.bits (Int.fdiv x.2.2.2.1 (2 ^ (min (x.2.2.1).toNat IntKind.u32.bits))) &&& BitVec.ofInt IntKind.u32.bits (1 : Int)).toNat : Int)) == (1 : Int)), (Sp.F123 ((Sp.K118_1 x), x.2.2.1, (1 : Int))), (Sp.F123 ((Sp.K118_1 x), x.2.2.1, (2 : Int))), (IntKind.i64.wrap ((1 : Int) + (Sp.K118_2 x))), (0 : Int), x.2.1.2))
  else
    bif ((IntKind.u32.wrap ((BitVec.ofInt IntKind.u32.bits (IntKind.u32.wrap ((BitVec.ofInt IntKind.u32.bits (IntKind.u32.wrap ((BitVec.ofInt IntKind.u32.bits (IntKind.u32.wrap ((BitVec.ofInt IntKind.u32.bits x.2.2.2.1 &&& BitVec.ofInt IntKind.u32.bits (IntKind.u32.wrap ((IntKind.u32.wrap ((1 : Int) * 2 ^ (min (x.1).toNat IntKind.u32.bits))) - (1 : Int)))).toNat : Int)) ||| BitVec.ofInt IntKind.u32.bits ((Sp.K118_1 x).1)).toNat : Int)) ||| BitVec.ofInt IntKind.u32.bits ((Sp.K118_1 x).2)).toNat : Int)) &&& BitVec.ofInt IntKind.u32.bits (IntKind.u32.wrap ((IntKind.u32.wrap ((1 : Int) * 2 ^ (min (x.2.2.1).toNat IntKind.u32.bits))) - (1 : Int)))).toNat : Int)) != (0 : Int)) then
      (((IntKind.u32.wrap ((BitVec.ofInt IntKind.u32.bits (Int.fdiv x.2.2.2.1 (2 ^ (min (x.2.2.1).toNat IntKind.u32.bits))) &&& BitVec.ofInt IntKind.u32.bits (1 : Int)).toNat : Int)) == (1 : Int)), (Sp.F123 ((Sp.K118_1 x), x.2.2.1, (1 : Int))), (Sp.F123 ((Sp.K118_1 x), x.2.2.1, (2 : Int))), (0 : Int), (IntKind.i64.wrap ((IntKind.i64.wrap (x.2.2.1 - (Sp.K118_3 x))) + (1 : Int))), x.2.1.2)
    else
      (((IntKind.u32.wrap ((BitVec.ofInt IntKind.u32.bits (Int.fdiv x.2.2.2.1 (2 ^ (min (x.2.2.1).toNat IntKind.u32.bits))) &&& BitVec.ofInt IntKind.u32.bits (1 : Int)).toNat : Int)) == (1 : Int)), (Sp.F123 ((Sp.K118_1 x), x.2.2.1, (1 : Int))), (Sp.F123 ((Sp.K118_1 x), x.2.2.1, (2 : Int))), (0 : Int), (0 : Int), x.2.1.2)
def pre118 (x : Int × (Int × Int) × Int × Int × Int × Int) : Prop := 0 ≤ x.1 ∧ 0 ≤ x.2.2.1
end Go.Proofs.YtpbljgpdhllklaaDoor.Sp
namespace Go.Proofs.YtpbljgpdhllklaaDoor.Sy
def ct118 : Ct := { p := (Ty.pair ty3 (Ty.pair ty60 (Ty.pair ty3 ty117))), psh := [none, some 2, none, some 3], r := ty166, rsh := (Rsh.one (some 6)), pre := some Sp.pre118, fresh := none, F := Sp.F118 }
theorem va118 (x : (Ty.pair ty3 (Ty.pair ty60 (Ty.pair ty3 ty117))).den) : ((evFn (ctxG GmC1) Tryd.f118 (Ty.pair ty3 (Ty.pair ty60 (Ty.pair ty3 ty117))) [none, some 2, none, some 3] (Rsh.one (some 6)) none ty166 noL x)).val (fun y => y) (Ty.dflt ty166) = Sp.F118 x := by kernel_rfl
theorem se118 (x : (Ty.pair ty3 (Ty.pair ty60 (Ty.pair ty3 ty117))).den) : ((evFn (ctxG GmC1) Tryd.f118 (Ty.pair ty3 (Ty.pair ty60 (Ty.pair ty3 ty117))) [none, some 2, none, some 3] (Rsh.one (some 6)) none ty166 noL x)).safe = (((0 ≤ x.1) ∧ ((0 ≤ (1 : Int)) ∧ ((0 ≤ x.2.2.1) ∧ ((0 ≤ x.2.2.1) ∧ ((0 ≤ (1 : Int)) ∧ ((((Int.fdiv (Int.fdiv (IntKind.u32.wrap ((BitVec.ofInt IntKind.u32.bits (IntKind.u32.wrap ((BitVec.ofInt IntKind.u32.bits (IntKind.u32.wrap ((BitVec.ofInt IntKind.u32.bits x.2.2.2.1 &&& BitVec.ofInt IntKind.u32.bits (IntKind.u32.wrap ((IntKind.u32.wrap ((1 : Int) * 2 ^ (min (x.1).toNat IntKind.u32.bits))) - (1 : Int)))).toNat : Int)) ||| BitVec.ofInt IntKind.u32.bits ((Sp.K118_1 x).1)).toNat : Int)) ||| BitVec.ofInt IntKind.u32.bits ((Sp.K118_1 x).2)).toNat : Int)) (2 ^ (min (x.2.2.1).toNat IntKind.u32.bits))) (2 ^ (min ((1 : Int)).toNat IntKind.u32.bits))) != (0 : Int)) = true → ((Sp.pre74 (Int.fdiv (Int.fdiv (IntKind.u32.wrap ((BitVec.ofInt IntKind.u32.bits (IntKind.u32.wrap ((BitVec.ofInt IntKind.u32.bits (IntKind.u32.wrap ((BitVec.ofInt IntKind.u32.bits x.2.2.2.1 &&& BitVec.ofInt IntKind.u32.bits (IntKind.u32.wrap ((IntKind.u32.wrap ((1 : Int) * 2 ^ (min (x.1).toNat IntKind.u32.bits))) - (1 : Int)))).toNat : Int)) ||| BitVec.ofInt IntKind.u32.bits ((Sp.K118_1 x).1)).toNat : Int)) ||| BitVec.ofInt IntKind.u32.bits ((Sp.K118_1 x).2)).toNat : Int)) (2 ^ (min (x.2.2.1).toNat IntKind.u32.bits))) (2 ^ (min ((1 : Int)).toNat IntKind.u32.bits)))) ∧ ((0 ≤ x.2.2.1) ∧ ((((IntKind.u32.wrap ((BitVec.ofInt IntKind.u32.bits (IntKind.u32.wrap ((BitVec.ofInt IntKind.u32.bits (IntKind.u32.wrap ((BitVec.ofInt IntKind.u32.bits (IntKind.u32.wrap ((BitVec.ofInt IntKind.u32.bits x.2.2.2.1 &&& BitVec.ofInt IntKind.u32.bits (IntKind.u32.wrap ((IntKind.u32.wrap ((1 : Int) * 2 ^ (min (x.1).toNat IntKind.u32.bits))) - (1 : Int)))).toNat : Int)) ||| BitVec.ofInt IntKind.u32.bits ((Sp.K118_1 x).1)).toNat : Int)) ||| BitVec.ofInt IntKind.u32.bits ((Sp.K118_1 x).2)).toNat : Int)) &&& BitVec.ofInt IntKind.u32.bits (IntKind.u32.wrap ((IntKind.u32.wrap ((1 : Int) * 2 ^ (min (x.2.2.1).toNat IntKind.u32.bits))) - (1 : Int)))).toNat : Int)) != (0 : Int)) = true → ((Sp.pre124 (IntKind.u32.wrap ((BitVec.ofInt IntKind.u32.bits (IntKind.u32.wrap ((BitVec.ofInt IntKind.u32.bits (IntKind.u32.wrap ((BitVec.ofInt IntKind.u32.bits (IntKind.u32.wrap ((BitVec.ofInt IntKind.u32.bits x.2.2.2.1 &&& BitVec.ofInt IntKind.u32.bits (IntKind.u32.wrap ((IntKind.u32.wrap ((1 : Int) * 2 ^ (min (x.1).toNat IntKind.u32.bits))) - (1 : Int)))).toNat : Int)) ||| BitVec.ofInt IntKind.u32.bits ((Sp.K118_1 x).1)).toNat : Int)) ||| BitVec.ofInt IntKind.u32.bits ((Sp.K118_1 x).2)).toNat : Int)) &&& BitVec.ofInt IntKind.u32.bits (IntKind.u32.wrap ((IntKind.u32.wrap ((1 : Int) * 2 ^ (min (x.2.2.1).toNat IntKind.u32.bits))) - (1 : Int)))).toNat : Int))) ∧ True)) ∧ (((IntKind.u32.wrap ((BitVec.ofInt IntKind.u32.bits (IntKind.u32.wrap ((BitVec.ofInt IntKind.u32.bits (IntKind.u32.wrap ((BitVec.ofInt IntKind.u32.bits (IntKind.u32.wrap ((BitVec.ofInt IntKind.u32.bits x.2.2.2.1 &&& BitVec.ofInt IntKind.u32.bits (IntKind.u32.wrap ((IntKind.u32.wrap ((1 : Int) * 2 ^ (min (x.1).toNat IntKind.u32.bits))) - (1 : Int)))).toNat : Int)) ||| BitVec.ofInt IntKind.u32.bits ((Sp.K118_1 x).1)).toNat : Int)) ||| BitVec.ofInt IntKind.u32.bits ((Sp.K118_1 x).2)).toNat : Int)) &&& BitVec.ofInt IntKind.u32.bits (IntKind.u32.wrap ((IntKind.u32.wrap ((1 : Int) * 2 ^ (min (x.2.2.1).toNat IntKind.u32.bits))) - (1 : Int)))).toNat : Int)) != (0 : Int)) = false → True))))) ∧ (((Int.fdiv (Int.fdiv (IntKind.u32.wrap ((BitVec.ofInt IntKind.u32.bits (IntKind.u32.wrap ((BitVec.ofInt IntKind.u32.bits (IntKind.u32.wrap ((BitVec.ofInt IntKind.u32.bits x.2.2.2.1 &&& BitVec.ofInt IntKind.u32.bits (IntKind.u32.wrap ((IntKind.u32.wrap ((1 : Int) * 2 ^ (min (x.1).toNat IntKind.u32.bits))) - (1 : Int)))).toNat : Int)) ||| BitVec.ofInt IntKind.u32.bits ((Sp.K118_1 x).1)).toNat : Int)) ||| BitVec.ofInt IntKind.u32.bits ((Sp.K118_1 x).2)).toNat : Int)) (2 ^ (min (x.2.2.1).toNat IntKind.u32.bits))) (2 ^ (min ((1 : Int)).toNat IntKind.u32.bits))) != (0 : Int)) = false → ((0 ≤ x.2.2.1) ∧ ((((IntKind.u32.wrap ((BitVec.ofInt IntKind.u32.bits (IntKind.u32.wrap ((BitVec.ofInt IntKind.u32.bits (IntKind.u32.wrap ((BitVec.ofInt IntKind.u32.bits (IntKind.u32.wrap ((BitVec.ofInt IntKind.u32.bits x.2.2.2.1 &&& BitVec.ofInt IntKind.u32.bits (IntKind.u32.wrap ((IntKind.u32.wrap ((1 : Int) * 2 ^ (min (x.1).toNat IntKind.u32.bits))) - (1 : Int)))).toNat : Int)) ||| BitVec.ofInt IntKind.u32.bits ((Sp.K118_1 x).1)).toNat : Int)) ||| BitVec.ofInt IntKind.u32.bits ((Sp.K118_1 x).2)).toNat : Int)) &&& BitVec.ofInt IntKind.u32.bits (IntKind.u32.wrap ((IntKind.u32.wrap ((1 : Int) * 2 ^ (min (x.2.2.1).toNat IntKind.u32.bits))) - (1 : Int)))).toNat : Int)) != (0 : Int)) = true → ((Sp.pre124 (IntKind.u32.wrap ((BitVec.ofInt IntKind.u32.bits (IntKind.u32.wrap ((BitVec.ofInt IntKind.u32.bits (IntKind.u32.wrap ((BitVec.ofInt IntKind.u32.bits (IntKind.u32.wrap ((BitVec.ofInt IntKind.u32.bits x.2.2.2.1 &&& BitVec.ofInt IntKind.u32.bits (IntKind.u32.wrap ((IntKind.u32.wrap ((1 : Int) * 2 ^ (min (x.1).toNat IntKind.u32.bits))) - (1 : Int)))).toNat : Int)) ||| BitVec.ofInt IntKind.u32.bits ((Sp.K118_1 x).1)).toNat : Int)) ||| BitVec.ofInt IntKind.u32.bits ((Sp.K118_1 x).2)).toNat : Int)) &&& BitVec.ofInt IntKind.u32.bits (IntKind.u32.wrap ((IntKind.u32.wrap ((1 : Int) * 2 ^ (min (x.2.2.1).toNat IntKind.u32.bits))) - (1 : Int)))).toNat : Int))) ∧ True)) ∧ (((IntKind.u32.wrap ((BitVec.ofInt IntKind.u32.bits (IntKind.u32.wrap ((BitVec.ofInt IntKind.u32.bits (IntKind.u32.wrap ((BitVec.ofInt IntKind.u32.bits (IntKind.u32.wrap ((BitVec.ofInt IntKind.u32.bits x.2.2.2.1 &&& BitVec.ofInt IntKind.u32.bits (IntKind.u32.wrap ((IntKind.u32.wrap ((1 : Int) * 2 ^ (min (x.1).toNat IntKind.u32.bits))) - (1 : Int)))).toNat : Int)) ||| BitVec.ofInt IntKind.u32.bits ((Sp.K118_1 x).1)).toNat : Int)) ||| BitVec.ofInt IntKind.u32.bits ((Sp.K118_1 x).2)).toNat : Int)) &&& BitVec.ofInt IntKind.u32.bits (IntKind.u32.wrap ((IntKind.u32.wrap ((1 : Int) * 2 ^ (min (x.2.2.1).toNat IntKind.u32.bits))) - (1 : Int)))).toNat : Int)) != (0 : Int)) = false → True))))))))))) := by kernel_rfl
theorem sa118 (x : (Ty.pair ty3 (Ty.pair ty60 (Ty.pair ty3 ty117))).den) (fx : Fit (Ty.pair ty3 (Ty.pair ty60 (Ty.pair ty3 ty117))) x) (h : Sp.pre118 x) : SafeW ((evFn (ctxG GmC1) Tryd.f118 (Ty.pair ty3 (Ty.pair ty60 (Ty.pair ty3 ty117))) [none, some 2, none, some 3] (Rsh.one (some 6)) none ty166 noL x)) := by
  refine ⟨?_⟩
  rw [se118]
  try dsimp only [Ty.den] at *
  simp only [Sp.pre118, Sp.pre74, Sp.pre124] at *
  repeat' (first | exact trivial | apply And.intro | intro _)
  all_goals first | omega | exact Sp.W.lo (Sp.W_wrap _) | exact Sp.W.hi (Sp.W_wrap _) | exact Sp.W.lo (Sp.W_shr (Sp.W_shr (Sp.W_wrap _) _ (by omega)) _ (by omega)) | exact Sp.W.hi (Sp.W_shr (Sp.W_shr (Sp.W_wrap _) _ (by omega)) _ (by omega))
theorem ok118 : CtOk Tryd.prog gdS 118 ct118 :=
  fn_okU (ctxOkF gokGmC1 []) rfl Tryd.func118 (p := (Ty.pair ty3 (Ty.pair ty60 (Ty.pair ty3 ty117)))) (psh := [none, some 2, none, some 3]) (r := ty166) (rsh := (Rsh.one (some 6))) (pre := some Sp.pre118) (fresh := none) (F := Sp.F118) (L := noL) (c := bodyOf Tryd.f118) (dflt := Ty.dflt ty166) rfl (no_loops)
    (safe_pre @sa118) va118
/-! <collective.here>.rising -/
end Go.Proofs.YtpbljgpdhllklaaDoor.Sy
namespace Go.Proofs.YtpbljgpdhllklaaDoor.Sp
open Go Go.RowKit Sy
def F121 (x : Bool × Bool × Bool × Int × Int × Int) : Int × Int × Int :=
  bif (x.1 || x.2.1) then
    (Sp.F126 (Sp.F127 ((1 : Int), x.2.1, x.2.2.2.1, (2 : Int), x.2.2.1, x.2.2.2.2.1)))
  else
    bif (decide (x.2.2.2.1 > (0 : Int))) then
      ((1 : Int), (1 : Int), (0 : Int))
    else
      (Sp.F122 x)
end Go.Proofs.YtpbljgpdhllklaaDoor.Sp
namespace Go.Proofs.YtpbljgpdhllklaaDoor.Sy
def ct121 : Ct := { p := ty166, psh := [some 6], r := ty119, rsh := (Rsh.one (some 3)), pre := none, fresh := none, F := Sp.F121 }
theorem va121 (x : ty166.den) : ((evFn (ctxG GmC1) Tryd.f121 ty166 [some 6] (Rsh.one (some 3)) none ty119 noL x)).val (fun y => y) (Ty.dflt ty119) = Sp.F121 x := by kernel_rfl
theorem se121 (x : ty166.den) : ((evFn (ctxG GmC1) Tryd.f121 ty166 [some 6] (Rsh.one (some 3)) none ty119 noL x)).safe = ((((x.1 || x.2.1) = true → True) ∧ ((x.1 || x.2.1) = false → (((decide (x.2.2.2.1 > (0 : Int))) = true → True) ∧ ((decide (x.2.2.2.1 > (0 : Int))) = false → True))))) := by kernel_rfl
theorem sa121 (x : ty166.den) (fx : Fit ty166 x) : SafeW ((evFn (ctxG GmC1) Tryd.f121 ty166 [some 6] (Rsh.one (some 3)) none ty119 noL x)) := by
  refine ⟨?_⟩
  rw [se121]
  try dsimp only [Ty.den] at *
  simp only [Fit, maxLen] at fx
  simp only [true_and, IntKind.wrap_i64, IntKind.wrap_u8, IntKind.wrap_u32, IntKind.wrap_u64, Sp.tmod_lit, Sp.tdiv_lit, bne_eq_false_iff_eq, Int.natCast_inj, setE, copyL, sliceL, zrow, List.length_append, List.length_cons, List.length_nil, List.length_set, List.length_replicate, List.length_take, List.length_drop, decide_eq_true_eq, decide_eq_false_iff_not, Bool.or_eq_true, Bool.and_eq_true, Bool.or_eq_false_iff, Bool.and_eq_false_iff, Bool.not_eq_true', Bool.not_eq_false', Bool.not_eq_true, Bool.not_eq_false, beq_iff_eq, beq_eq_false_iff_ne, bne_iff_ne, ne_eq, implies_true, and_true, true_and] at *
  all_goals ((repeat' (first | exact trivial | apply And.intro | intro _)) <;> first | trivial | omega | exact Sp.tmod_nn (by omega) | exact Sp.tmod_lt (by omega) (by omega))
theorem ok121 : CtOk Tryd.prog gdS 121 ct121 :=
  fn_okU (ctxOkF gokGmC1 []) rfl Tryd.func121 (p := ty166) (psh := [some 6]) (r := ty119) (rsh := (Rsh.one (some 3))) (pre := none) (fresh := none) (F := Sp.F121) (L := noL) (c := bodyOf Tryd.f121) (dflt := Ty.dflt ty119) rfl (no_loops)
    (safe_no @sa121) va121
/-! overlayref11.Spent -/
end Go.Proofs.YtpbljgpdhllklaaDoor.Sy
namespace Go.Proofs.YtpbljgpdhllklaaDoor.Sp
open Go Go.RowKit Sy
def F109 (x : Int × (Int × Int) × Int × Int × Int × Int) : Int × Int × Int :=
  bif (((((decide (x.1 < (2 : Int))) || (decide (x.1 > (32 : Int)))) || (decide (x.2.2.1 < (0 : Int)))) || (decide (x.2.2.1 ≥ x.1))) || (!(Sp.F94 x.2.1))) then
    ((0 : Int), (0 : Int), (0 : Int))
  else
    (Sp.F113 ((x.2.1.1, (Sp.F101 (x.2.1, x.2.2.1, (Sp.F96 (x.1, x.2.2.2))))), x.2.2.1, (Sp.F96 (x.1, x.2.2.2))))
end Go.Proofs.YtpbljgpdhllklaaDoor.Sp
namespace Go.Proofs.YtpbljgpdhllklaaDoor.Sy
def ct109 : Ct := { p := (Ty.pair ty3 (Ty.pair ty60 (Ty.pair ty3 ty117))), psh := [none, some 2, none, some 3], r := ty117, rsh := (Rsh.one (some 3)), pre := none, fresh := none, F := Sp.F109 }
theorem va109 (x : (Ty.pair ty3 (Ty.pair ty60 (Ty.pair ty3 ty117))).den) : ((evFn (ctxG GmC1) Tryd.f109 (Ty.pair ty3 (Ty.pair ty60 (Ty.pair ty3 ty117))) [none, some 2, none, some 3] (Rsh.one (some 3)) none ty117 noL x)).val (fun y => y) (Ty.dflt ty117) = Sp.F109 x := by kernel_rfl
theorem se109 (x : (Ty.pair ty3 (Ty.pair ty60 (Ty.pair ty3 ty117))).den) : ((evFn (ctxG GmC1) Tryd.f109 (Ty.pair ty3 (Ty.pair ty60 (Ty.pair ty3 ty117))) [none, some 2, none, some 3] (Rsh.one (some 3)) none ty117 noL x)).safe = ((((((((decide (x.1 < (2 : Int))) || (decide (x.1 > (32 : Int)))) || (decide (x.2.2.1 < (0 : Int)))) || (decide (x.2.2.1 ≥ x.1))) || (!(Sp.F94 x.2.1))) = true → True) ∧ ((((((decide (x.1 < (2 : Int))) || (decide (x.1 > (32 : Int)))) || (decide (x.2.2.1 < (0 : Int)))) || (decide (x.2.2.1 ≥ x.1))) || (!(Sp.F94 x.2.1))) = false → True))) := by kernel_rfl
theorem sa109 (x : (Ty.pair ty3 (Ty.pair ty60 (Ty.pair ty3 ty117))).den) (fx : Fit (Ty.pair ty3 (Ty.pair ty60 (Ty.pair ty3 ty117))) x) : SafeW ((evFn (ctxG GmC1) Tryd.f109 (Ty.pair ty3 (Ty.pair ty60 (Ty.pair ty3 ty117))) [none, some 2, none, some 3] (Rsh.one (some 3)) none ty117 noL x)) := by
  refine ⟨?_⟩
  rw [se109]
  try dsimp only [Ty.den] at *
  simp only [Fit, maxLen] at fx
  simp only [true_and, IntKind.wrap_i64, IntKind.wrap_u8, IntKind.wrap_u32, IntKind.wrap_u64, Sp.tmod_lit, Sp.tdiv_lit, bne_eq_false_iff_eq, Int.natCast_inj, setE, copyL, sliceL, zrow, List.length_append, List.length_cons, List.length_nil, List.length_set, List.length_replicate, List.length_take, List.length_drop, decide_eq_true_eq, decide_eq_false_iff_not, Bool.or_eq_true, Bool.and_eq_true, Bool.or_eq_false_iff, Bool.and_eq_false_iff, Bool.not_eq_true', Bool.not_eq_false', Bool.not_eq_true, Bool.not_eq_false, beq_iff_eq, beq_eq_false_iff_ne, bne_iff_ne, ne_eq, implies_true, and_true, true_and] at *
  all_goals ((repeat' (first | exact trivial | apply And.intro | intro _)) <;> first | trivial | omega | exact Sp.tmod_nn (by omega) | exact Sp.tmod_lt (by omega) (by omega))
theorem ok109 : CtOk Tryd.prog gdS 109 ct109 :=
  fn_okU (ctxOkF gokGmC1 []) rfl Tryd.func109 (p := (Ty.pair ty3 (Ty.pair ty60 (Ty.pair ty3 ty117)))) (psh := [none, some 2, none, some 3]) (r := ty117) (rsh := (Rsh.one (some 3))) (pre := none) (fresh := none) (F := Sp.F109) (L := noL) (c := bodyOf Tryd.f109) (dflt := Ty.dflt ty117) rfl (no_loops)
    (safe_no @sa109) va109
def GmC2 : List (Nat × Ct) := (118, ct118) :: (121, ct121) :: (109, ct109) :: GmC1
theorem gokGmC2 : GOk GmC2 := gok_cons ok118 ⟨_, Tryd.func118, by kernel_rfl, by kernel_rfl⟩ (gok_cons ok121 ⟨_, Tryd.func121, by kernel_rfl, by kernel_rfl⟩ (gok_cons ok109 ⟨_, Tryd.func109, by kernel_rfl, by kernel_rfl⟩ (gokGmC1)))
end Go.Proofs.YtpbljgpdhllklaaDoor.Sy
end
