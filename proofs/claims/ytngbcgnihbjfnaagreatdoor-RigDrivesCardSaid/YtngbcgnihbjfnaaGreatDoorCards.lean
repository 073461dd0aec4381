/-
  DERIVED. GIVEN WITH THE SEED: THE CARDS: each row of YtngbcgnihbjfnaaGreatDoorRows.lean that lists a variable, with what it lists TIED to the program's text (the seventh form; the later family's looks); each row that meets fmt, with fmt's text TOLD by the authors' own Lean function (tested against real Go, not proved from fmt's source: count such statements apart). THE CARD IS WHAT COUNTS. Prove the row's statement (the work); the ties are given (YtngbcgnihbjfnaaGreatDoorTie.lean); close each card by the builder's one call (the guide's Derived/Test/ToyasCard.lean, 'card_holds'). Laid BY PROGRAM, IN A SANDBOX (cutbox-door.mjs). By AI agents, Wed Nov 11 2026. No macro, syntax, notation, axiom, sorry.
-/
import Derived.Test.YtngbcgnihbjfnaaGreatDoorRows
import GoSem.ClaimSeven
namespace Go.Proofs.YtngbcgnihbjfnaaGreatDoor
namespace Rows

/-- THE TIED CARD OF 'overlaylaw16.RigDrives'. -/
def rigDrivesCard : Claim7 := { stood := { row := rigDrivesRow, standIns := [], harness := (true, "bba31635ce29c31d9d2f300970df460ff80a5c6b744d8271992cfa63954f198a"), looks := false }, kinds := [], alts := [], laidByText := true, laidKinds := [.data], laidTests := true, laidLooks := .later }
def RigDrivesCardSaid : Prop := Claim7.holds Tryz.pinned (.plain (OpenSpec.ofChange rigDrivesSpec)) rigDrivesCard

/-- THE SECOND FORM's CARD OF 'overlaylaw16.RigDrives'. -/
def rigDrivesUptoCard : Claim7 := { stood := { row := rigDrivesUptoRow, standIns := [], harness := (true, "bba31635ce29c31d9d2f300970df460ff80a5c6b744d8271992cfa63954f198a"), looks := false }, kinds := [], alts := [], laidByText := true, laidKinds := [.data], laidTests := true, laidLooks := .later }
def RigDrivesUptoCardSaid : Prop := Claim7.holds Tryz.pinned (.plain (OpenSpec.upto rigDrivesSpec)) rigDrivesUptoCard
end Rows
end Go.Proofs.YtngbcgnihbjfnaaGreatDoor
