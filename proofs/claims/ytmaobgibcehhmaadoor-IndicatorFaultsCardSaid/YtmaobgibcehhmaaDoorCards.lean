/-
  DERIVED. GIVEN WITH THE SEED: THE CARDS: each row of YtmaobgibcehhmaaDoorRows.lean that lists a variable, with what it lists TIED to the program's text (the seventh form; the later family's looks); each row that meets fmt, with fmt's text TOLD by the authors' own Lean function (tested against real Go, not proved from fmt's source: count such statements apart). THE CARD IS WHAT COUNTS. Prove the row's statement (the work); the ties are given (YtmaobgibcehhmaaDoorTie.lean); close each card by the builder's one call (the guide's Derived/Test/ToyasCard.lean, 'card_holds'). Laid BY PROGRAM, IN A SANDBOX (cutbox-door.mjs). By AI agents, Wed Nov 11 2026. No macro, syntax, notation, axiom, sorry.
-/
import Derived.Test.YtmaobgibcehhmaaDoorRows
import GoSem.ClaimSeven
namespace Go.Proofs.YtmaobgibcehhmaaDoor
namespace Rows

/-- THE TIED CARD OF 'overlaylaw05.IndicatorFaults'. -/
def indicatorFaultsCard : Claim7 := { stood := { row := indicatorFaultsRow, standIns := [], harness := (true, "48ed2d4bb7f7c164cb777d22f3db680e18cba17f2052837767ca25127c774079"), looks := false }, kinds := [], alts := [], laidByText := true, laidKinds := [.data], laidTests := true, laidLooks := .later }
def IndicatorFaultsCardSaid : Prop := Claim7.holds Tryd.pinned (.plain (OpenSpec.ofChange indicatorFaultsSpec)) indicatorFaultsCard

/-- THE SECOND FORM's CARD OF 'overlaylaw05.IndicatorFaults'. -/
def indicatorFaultsUptoCard : Claim7 := { stood := { row := indicatorFaultsUptoRow, standIns := [], harness := (true, "48ed2d4bb7f7c164cb777d22f3db680e18cba17f2052837767ca25127c774079"), looks := false }, kinds := [], alts := [], laidByText := true, laidKinds := [.data], laidTests := true, laidLooks := .later }
def IndicatorFaultsUptoCardSaid : Prop := Claim7.holds Tryd.pinned (.plain (OpenSpec.upto indicatorFaultsSpec)) indicatorFaultsUptoCard
end Rows
end Go.Proofs.YtmaobgibcehhmaaDoor
