/-
  DERIVED. GIVEN WITH THE SEED: THE CARDS: each row of YtjdaplmlmmnokaaDoorRows.lean that lists a variable, with what it lists TIED to the program's text (the seventh form; the later family's looks); each row that meets fmt, with fmt's text TOLD by the authors' own Lean function (tested against real Go, not proved from fmt's source: count such statements apart). THE CARD IS WHAT COUNTS. Prove the row's statement (the work); the ties are given (YtjdaplmlmmnokaaDoorTie.lean); close each card by the builder's one call (the guide's Derived/Test/ToyasCard.lean, 'card_holds'). Laid BY PROGRAM, IN A SANDBOX (cutbox-door.mjs). By AI agents, Wed Nov 11 2026. No macro, syntax, notation, axiom, sorry.
-/
import Derived.Test.YtjdaplmlmmnokaaDoorRows
import GoSem.ClaimSeven
namespace Go.Proofs.YtjdaplmlmmnokaaDoor
namespace Rows

/-- THE TIED CARD OF 'overlaylaw21.CostPaths'. -/
def costPathsCard : Claim7 := { stood := { row := costPathsRow, standIns := [], harness := (true, "51ce06d0d755009913f55110fa0415f384defe49758b7e24c693ac2f53480551"), looks := false }, kinds := [], alts := [], laidByText := true, laidKinds := [.data], laidTests := true, laidLooks := .later }
def CostPathsCardSaid : Prop := Claim7.holds Tryd.pinned (.plain (OpenSpec.ofChange costPathsSpec)) costPathsCard

/-- THE TIED CARD OF 'overlaylaw21.CostBounds'. -/
def costBoundsCard : Claim7 := { stood := { row := costBoundsRow, standIns := [], harness := (true, "51ce06d0d755009913f55110fa0415f384defe49758b7e24c693ac2f53480551"), looks := false }, kinds := [], alts := [], laidByText := true, laidKinds := [.data], laidTests := true, laidLooks := .later }
def CostBoundsCardSaid : Prop := Claim7.holds Tryd.pinned (.plain (OpenSpec.ofChange costBoundsSpec)) costBoundsCard

/-- THE TIED CARD OF 'overlaylaw21.CostMirrors'. -/
def costMirrorsCard : Claim7 := { stood := { row := costMirrorsRow, standIns := [], harness := (true, "51ce06d0d755009913f55110fa0415f384defe49758b7e24c693ac2f53480551"), looks := false }, kinds := [], alts := [], laidByText := true, laidKinds := [.data], laidTests := true, laidLooks := .later }
def CostMirrorsCardSaid : Prop := Claim7.holds Tryd.pinned (.plain (OpenSpec.ofChange costMirrorsSpec)) costMirrorsCard

/-- THE TIED CARD OF 'overlaylaw21.CostEstimates'. -/
def costEstimatesCard : Claim7 := { stood := { row := costEstimatesRow, standIns := [], harness := (true, "51ce06d0d755009913f55110fa0415f384defe49758b7e24c693ac2f53480551"), looks := false }, kinds := [], alts := [], laidByText := true, laidKinds := [.data], laidTests := true, laidLooks := .later }
def CostEstimatesCardSaid : Prop := Claim7.holds Tryd.pinned (.plain (OpenSpec.ofChange costEstimatesSpec)) costEstimatesCard

/-- THE SECOND FORM's CARD OF 'overlaylaw21.CostPaths'. -/
def costPathsUptoCard : Claim7 := { stood := { row := costPathsUptoRow, standIns := [], harness := (true, "51ce06d0d755009913f55110fa0415f384defe49758b7e24c693ac2f53480551"), looks := false }, kinds := [], alts := [], laidByText := true, laidKinds := [.data], laidTests := true, laidLooks := .later }
def CostPathsUptoCardSaid : Prop := Claim7.holds Tryd.pinned (.plain (OpenSpec.upto costPathsSpec)) costPathsUptoCard

/-- THE SECOND FORM's CARD OF 'overlaylaw21.CostBounds'. -/
def costBoundsUptoCard : Claim7 := { stood := { row := costBoundsUptoRow, standIns := [], harness := (true, "51ce06d0d755009913f55110fa0415f384defe49758b7e24c693ac2f53480551"), looks := false }, kinds := [], alts := [], laidByText := true, laidKinds := [.data], laidTests := true, laidLooks := .later }
def CostBoundsUptoCardSaid : Prop := Claim7.holds Tryd.pinned (.plain (OpenSpec.upto costBoundsSpec)) costBoundsUptoCard

/-- THE SECOND FORM's CARD OF 'overlaylaw21.CostMirrors'. -/
def costMirrorsUptoCard : Claim7 := { stood := { row := costMirrorsUptoRow, standIns := [], harness := (true, "51ce06d0d755009913f55110fa0415f384defe49758b7e24c693ac2f53480551"), looks := false }, kinds := [], alts := [], laidByText := true, laidKinds := [.data], laidTests := true, laidLooks := .later }
def CostMirrorsUptoCardSaid : Prop := Claim7.holds Tryd.pinned (.plain (OpenSpec.upto costMirrorsSpec)) costMirrorsUptoCard

/-- THE SECOND FORM's CARD OF 'overlaylaw21.CostEstimates'. -/
def costEstimatesUptoCard : Claim7 := { stood := { row := costEstimatesUptoRow, standIns := [], harness := (true, "51ce06d0d755009913f55110fa0415f384defe49758b7e24c693ac2f53480551"), looks := false }, kinds := [], alts := [], laidByText := true, laidKinds := [.data], laidTests := true, laidLooks := .later }
def CostEstimatesUptoCardSaid : Prop := Claim7.holds Tryd.pinned (.plain (OpenSpec.upto costEstimatesSpec)) costEstimatesUptoCard
end Rows
end Go.Proofs.YtjdaplmlmmnokaaDoor
