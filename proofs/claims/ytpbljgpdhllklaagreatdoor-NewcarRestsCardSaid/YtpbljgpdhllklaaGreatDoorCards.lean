/-
  DERIVED. GIVEN WITH THE SEED: THE CARDS: each row of YtpbljgpdhllklaaGreatDoorRows.lean that lists a variable, with what it lists TIED to the program's text (the seventh form; the later family's looks); each row that meets fmt, with fmt's text TOLD by the authors' own Lean function (tested against real Go, not proved from fmt's source: count such statements apart). THE CARD IS WHAT COUNTS. Prove the row's statement (the work); the ties are given (YtpbljgpdhllklaaGreatDoorTie.lean); close each card by the builder's one call (the guide's Derived/Test/ToyasCard.lean, 'card_holds'). Laid BY PROGRAM, IN A SANDBOX (cutbox-door.mjs). By AI agents, Wed Nov 11 2026. No macro, syntax, notation, axiom, sorry.
-/
import Derived.Test.YtpbljgpdhllklaaGreatDoorRows
import GoSem.ClaimSeven
namespace Go.Proofs.YtpbljgpdhllklaaGreatDoor
namespace Rows

/-- THE TIED CARD OF 'overlaylaw15.NewcarServes'. -/
def newcarServesCard : Claim7 := { stood := { row := newcarServesRow, standIns := [], harness := (true, "d69dd28ed30ce8425af044c7ea17a0c1c31d9d14070bd9dcefe8f8e4de0fef6d"), looks := false }, kinds := [], alts := [], laidByText := true, laidKinds := [.data], laidTests := true, laidLooks := .later }
def NewcarServesCardSaid : Prop := Claim7.holds Tryz.pinned (.plain (OpenSpec.ofChange newcarServesSpec)) newcarServesCard

/-- THE TIED CARD OF 'overlaylaw15.NewcarSteps'. -/
def newcarStepsCard : Claim7 := { stood := { row := newcarStepsRow, standIns := [], harness := (true, "d69dd28ed30ce8425af044c7ea17a0c1c31d9d14070bd9dcefe8f8e4de0fef6d"), looks := false }, kinds := [], alts := [], laidByText := true, laidKinds := [.data], laidTests := true, laidLooks := .later }
def NewcarStepsCardSaid : Prop := Claim7.holds Tryz.pinned (.plain (OpenSpec.ofChange newcarStepsSpec)) newcarStepsCard

/-- THE TIED CARD OF 'overlaylaw15.NewcarRaw'. -/
def newcarRawCard : Claim7 := { stood := { row := newcarRawRow, standIns := [], harness := (true, "d69dd28ed30ce8425af044c7ea17a0c1c31d9d14070bd9dcefe8f8e4de0fef6d"), looks := false }, kinds := [], alts := [], laidByText := true, laidKinds := [.data], laidTests := true, laidLooks := .later }
def NewcarRawCardSaid : Prop := Claim7.holds Tryz.pinned (.plain (OpenSpec.ofChange newcarRawSpec)) newcarRawCard

/-- THE TIED CARD OF 'overlaylaw15.NewcarRests'. -/
def newcarRestsCard : Claim7 := { stood := { row := newcarRestsRow, standIns := [], harness := (true, "d69dd28ed30ce8425af044c7ea17a0c1c31d9d14070bd9dcefe8f8e4de0fef6d"), looks := false }, kinds := [], alts := [], laidByText := true, laidKinds := [.data], laidTests := true, laidLooks := .later }
def NewcarRestsCardSaid : Prop := Claim7.holds Tryz.pinned (.plain (OpenSpec.ofChange newcarRestsSpec)) newcarRestsCard

/-- THE SECOND FORM's CARD OF 'overlaylaw15.NewcarServes'. -/
def newcarServesUptoCard : Claim7 := { stood := { row := newcarServesUptoRow, standIns := [], harness := (true, "d69dd28ed30ce8425af044c7ea17a0c1c31d9d14070bd9dcefe8f8e4de0fef6d"), looks := false }, kinds := [], alts := [], laidByText := true, laidKinds := [.data], laidTests := true, laidLooks := .later }
def NewcarServesUptoCardSaid : Prop := Claim7.holds Tryz.pinned (.plain (OpenSpec.upto newcarServesSpec)) newcarServesUptoCard

/-- THE SECOND FORM's CARD OF 'overlaylaw15.NewcarSteps'. -/
def newcarStepsUptoCard : Claim7 := { stood := { row := newcarStepsUptoRow, standIns := [], harness := (true, "d69dd28ed30ce8425af044c7ea17a0c1c31d9d14070bd9dcefe8f8e4de0fef6d"), looks := false }, kinds := [], alts := [], laidByText := true, laidKinds := [.data], laidTests := true, laidLooks := .later }
def NewcarStepsUptoCardSaid : Prop := Claim7.holds Tryz.pinned (.plain (OpenSpec.upto newcarStepsSpec)) newcarStepsUptoCard

/-- THE SECOND FORM's CARD OF 'overlaylaw15.NewcarRaw'. -/
def newcarRawUptoCard : Claim7 := { stood := { row := newcarRawUptoRow, standIns := [], harness := (true, "d69dd28ed30ce8425af044c7ea17a0c1c31d9d14070bd9dcefe8f8e4de0fef6d"), looks := false }, kinds := [], alts := [], laidByText := true, laidKinds := [.data], laidTests := true, laidLooks := .later }
def NewcarRawUptoCardSaid : Prop := Claim7.holds Tryz.pinned (.plain (OpenSpec.upto newcarRawSpec)) newcarRawUptoCard

/-- THE SECOND FORM's CARD OF 'overlaylaw15.NewcarRests'. -/
def newcarRestsUptoCard : Claim7 := { stood := { row := newcarRestsUptoRow, standIns := [], harness := (true, "d69dd28ed30ce8425af044c7ea17a0c1c31d9d14070bd9dcefe8f8e4de0fef6d"), looks := false }, kinds := [], alts := [], laidByText := true, laidKinds := [.data], laidTests := true, laidLooks := .later }
def NewcarRestsUptoCardSaid : Prop := Claim7.holds Tryz.pinned (.plain (OpenSpec.upto newcarRestsSpec)) newcarRestsUptoCard
end Rows
end Go.Proofs.YtpbljgpdhllklaaGreatDoor
