/-
  DERIVED. GIVEN WITH THE SEED: THE CARDS: each row of YtcfinjcapeemeaaGreatDoorRows.lean that lists a variable, with what it lists TIED to the program's text (the seventh form; the later family's looks); each row that meets fmt, with fmt's text TOLD by the authors' own Lean function (tested against real Go, not proved from fmt's source: count such statements apart). THE CARD IS WHAT COUNTS. Prove the row's statement (the work); the ties are given (YtcfinjcapeemeaaGreatDoorTie.lean); close each card by the builder's one call (the guide's Derived/Test/ToyasCard.lean, 'card_holds'). Laid BY PROGRAM, IN A SANDBOX (cutbox-door.mjs). By AI agents, Wed Nov 11 2026. No macro, syntax, notation, axiom, sorry.
-/
import Derived.Test.YtcfinjcapeemeaaGreatDoorRows
import GoSem.ClaimSeven
namespace Go.Proofs.YtcfinjcapeemeaaGreatDoor
namespace Rows

/-- THE TIED CARD OF 'overlaytop.TopModel'. -/
def topModelCard : Claim7 := { stood := { row := topModelRow, standIns := [], harness := (true, "c2631170590e51f8c42dd9f00dcc30c02e0998d2c77e89fc6adcc85e935dd822"), looks := true }, kinds := [], alts := [], laidByText := true, laidKinds := [.data], laidTests := true, laidLooks := .later }
def TopModelCardSaid : Prop := Claim7.holds Tryz.pinned (.plain (OpenSpec.ofChange topModelSpec)) topModelCard

/-- THE TIED CARD OF 'overlaytop.TopCrashes'. -/
def topCrashesCard : Claim7 := { stood := { row := topCrashesRow, standIns := [], harness := (true, "c2631170590e51f8c42dd9f00dcc30c02e0998d2c77e89fc6adcc85e935dd822"), looks := true }, kinds := [], alts := [], laidByText := true, laidKinds := [.data], laidTests := true, laidLooks := .later }
def TopCrashesCardSaid : Prop := Claim7.holds Tryz.pinned (.plain (OpenSpec.ofChange topCrashesSpec)) topCrashesCard

/-- THE TIED CARD OF 'overlaytop.TopFull'. -/
def topFullCard : Claim7 := { stood := { row := topFullRow, standIns := [], harness := (true, "c2631170590e51f8c42dd9f00dcc30c02e0998d2c77e89fc6adcc85e935dd822"), looks := true }, kinds := [], alts := [], laidByText := true, laidKinds := [.data], laidTests := true, laidLooks := .later }
def TopFullCardSaid : Prop := Claim7.holds Tryz.pinned (.plain (OpenSpec.ofChange topFullSpec)) topFullCard

/-- THE TIED CARD OF 'overlaytop.TopDetects'. -/
def topDetectsCard : Claim7 := { stood := { row := topDetectsRow, standIns := [], harness := (true, "c2631170590e51f8c42dd9f00dcc30c02e0998d2c77e89fc6adcc85e935dd822"), looks := true }, kinds := [], alts := [], laidByText := true, laidKinds := [.data], laidTests := true, laidLooks := .later }
def TopDetectsCardSaid : Prop := Claim7.holds Tryz.pinned (.plain (OpenSpec.ofChange topDetectsSpec)) topDetectsCard

/-- THE SECOND FORM's CARD OF 'overlaytop.TopModel'. -/
def topModelUptoCard : Claim7 := { stood := { row := topModelUptoRow, standIns := [], harness := (true, "c2631170590e51f8c42dd9f00dcc30c02e0998d2c77e89fc6adcc85e935dd822"), looks := true }, kinds := [], alts := [], laidByText := true, laidKinds := [.data], laidTests := true, laidLooks := .later }
def TopModelUptoCardSaid : Prop := Claim7.holds Tryz.pinned (.plain (OpenSpec.upto topModelSpec)) topModelUptoCard

/-- THE SECOND FORM's CARD OF 'overlaytop.TopCrashes'. -/
def topCrashesUptoCard : Claim7 := { stood := { row := topCrashesUptoRow, standIns := [], harness := (true, "c2631170590e51f8c42dd9f00dcc30c02e0998d2c77e89fc6adcc85e935dd822"), looks := true }, kinds := [], alts := [], laidByText := true, laidKinds := [.data], laidTests := true, laidLooks := .later }
def TopCrashesUptoCardSaid : Prop := Claim7.holds Tryz.pinned (.plain (OpenSpec.upto topCrashesSpec)) topCrashesUptoCard

/-- THE SECOND FORM's CARD OF 'overlaytop.TopFull'. -/
def topFullUptoCard : Claim7 := { stood := { row := topFullUptoRow, standIns := [], harness := (true, "c2631170590e51f8c42dd9f00dcc30c02e0998d2c77e89fc6adcc85e935dd822"), looks := true }, kinds := [], alts := [], laidByText := true, laidKinds := [.data], laidTests := true, laidLooks := .later }
def TopFullUptoCardSaid : Prop := Claim7.holds Tryz.pinned (.plain (OpenSpec.upto topFullSpec)) topFullUptoCard

/-- THE SECOND FORM's CARD OF 'overlaytop.TopDetects'. -/
def topDetectsUptoCard : Claim7 := { stood := { row := topDetectsUptoRow, standIns := [], harness := (true, "c2631170590e51f8c42dd9f00dcc30c02e0998d2c77e89fc6adcc85e935dd822"), looks := true }, kinds := [], alts := [], laidByText := true, laidKinds := [.data], laidTests := true, laidLooks := .later }
def TopDetectsUptoCardSaid : Prop := Claim7.holds Tryz.pinned (.plain (OpenSpec.upto topDetectsSpec)) topDetectsUptoCard
end Rows
end Go.Proofs.YtcfinjcapeemeaaGreatDoor
