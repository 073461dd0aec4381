/-
  DERIVED. GIVEN WITH THE SEED: THE CARDS: each row of YtpbljgpdhllklaaDoorRows.lean that lists a variable, with what it lists TIED to the program's text (the seventh form; the later family's looks); each row that meets fmt, with fmt's text TOLD by the authors' own Lean function (tested against real Go, not proved from fmt's source: count such statements apart). THE CARD IS WHAT COUNTS. Prove the row's statement (the work); the ties are given (YtpbljgpdhllklaaDoorTie.lean); close each card by the builder's one call (the guide's Derived/Test/ToyasCard.lean, 'card_holds'). Laid BY PROGRAM, IN A SANDBOX (cutbox-door.mjs). By AI agents, Wed Nov 11 2026. No macro, syntax, notation, axiom, sorry.
-/
import Derived.Test.YtpbljgpdhllklaaDoorRows
import GoSem.ClaimSeven
namespace Go.Proofs.YtpbljgpdhllklaaDoor
namespace Rows

/-- THE TIED CARD OF 'overlaylaw17.RelaySteps'. -/
def relayStepsCard : Claim7 := { stood := { row := relayStepsRow, standIns := [], harness := (true, "1440d3c8af9d71bdb3464716bdf6836eb05cb696d189ef49cb2ef3b62c54346c"), looks := false }, kinds := [], alts := [], laidByText := true, laidKinds := [.data], laidTests := true, laidLooks := .later }
def RelayStepsCardSaid : Prop := Claim7.holds Tryd.pinned (.plain (OpenSpec.ofChange relayStepsSpec)) relayStepsCard

/-- THE TIED CARD OF 'overlaylaw17.RelayRuns'. -/
def relayRunsCard : Claim7 := { stood := { row := relayRunsRow, standIns := [], harness := (true, "1440d3c8af9d71bdb3464716bdf6836eb05cb696d189ef49cb2ef3b62c54346c"), looks := false }, kinds := [], alts := [], laidByText := true, laidKinds := [.data], laidTests := true, laidLooks := .later }
def RelayRunsCardSaid : Prop := Claim7.holds Tryd.pinned (.plain (OpenSpec.ofChange relayRunsSpec)) relayRunsCard

/-- THE TIED CARD OF 'overlaylaw17.RelayCarries'. -/
def relayCarriesCard : Claim7 := { stood := { row := relayCarriesRow, standIns := [], harness := (true, "1440d3c8af9d71bdb3464716bdf6836eb05cb696d189ef49cb2ef3b62c54346c"), looks := false }, kinds := [], alts := [], laidByText := true, laidKinds := [.data], laidTests := true, laidLooks := .later }
def RelayCarriesCardSaid : Prop := Claim7.holds Tryd.pinned (.plain (OpenSpec.ofChange relayCarriesSpec)) relayCarriesCard

/-- THE TIED CARD OF 'overlaylaw17.RelayContacts'. -/
def relayContactsCard : Claim7 := { stood := { row := relayContactsRow, standIns := [], harness := (true, "1440d3c8af9d71bdb3464716bdf6836eb05cb696d189ef49cb2ef3b62c54346c"), looks := false }, kinds := [], alts := [], laidByText := true, laidKinds := [.data], laidTests := true, laidLooks := .later }
def RelayContactsCardSaid : Prop := Claim7.holds Tryd.pinned (.plain (OpenSpec.ofChange relayContactsSpec)) relayContactsCard

/-- THE TIED CARD OF 'overlaylaw17.RelayHolds'. -/
def relayHoldsCard : Claim7 := { stood := { row := relayHoldsRow, standIns := [], harness := (true, "1440d3c8af9d71bdb3464716bdf6836eb05cb696d189ef49cb2ef3b62c54346c"), looks := false }, kinds := [], alts := [], laidByText := true, laidKinds := [.data], laidTests := true, laidLooks := .later }
def RelayHoldsCardSaid : Prop := Claim7.holds Tryd.pinned (.plain (OpenSpec.ofChange relayHoldsSpec)) relayHoldsCard

/-- THE TIED CARD OF 'overlaylaw17.RelayPromises'. -/
def relayPromisesCard : Claim7 := { stood := { row := relayPromisesRow, standIns := [], harness := (true, "1440d3c8af9d71bdb3464716bdf6836eb05cb696d189ef49cb2ef3b62c54346c"), looks := false }, kinds := [], alts := [], laidByText := true, laidKinds := [.data], laidTests := true, laidLooks := .later }
def RelayPromisesCardSaid : Prop := Claim7.holds Tryd.pinned (.plain (OpenSpec.ofChange relayPromisesSpec)) relayPromisesCard

/-- THE TIED CARD OF 'overlaylaw15.NewcarSafe'. -/
def newcarSafeCard : Claim7 := { stood := { row := newcarSafeRow, standIns := [], harness := (true, "1440d3c8af9d71bdb3464716bdf6836eb05cb696d189ef49cb2ef3b62c54346c"), looks := false }, kinds := [], alts := [], laidByText := true, laidKinds := [.data], laidTests := true, laidLooks := .later }
def NewcarSafeCardSaid : Prop := Claim7.holds Tryd.pinned (.plain (OpenSpec.ofChange newcarSafeSpec)) newcarSafeCard

/-- THE TIED CARD OF 'overlaylaw15.NewcarFaults'. -/
def newcarFaultsCard : Claim7 := { stood := { row := newcarFaultsRow, standIns := [], harness := (true, "1440d3c8af9d71bdb3464716bdf6836eb05cb696d189ef49cb2ef3b62c54346c"), looks := false }, kinds := [], alts := [], laidByText := true, laidKinds := [.data], laidTests := true, laidLooks := .later }
def NewcarFaultsCardSaid : Prop := Claim7.holds Tryd.pinned (.plain (OpenSpec.ofChange newcarFaultsSpec)) newcarFaultsCard

/-- THE SECOND FORM's CARD OF 'overlaylaw17.RelaySteps'. -/
def relayStepsUptoCard : Claim7 := { stood := { row := relayStepsUptoRow, standIns := [], harness := (true, "1440d3c8af9d71bdb3464716bdf6836eb05cb696d189ef49cb2ef3b62c54346c"), looks := false }, kinds := [], alts := [], laidByText := true, laidKinds := [.data], laidTests := true, laidLooks := .later }
def RelayStepsUptoCardSaid : Prop := Claim7.holds Tryd.pinned (.plain (OpenSpec.upto relayStepsSpec)) relayStepsUptoCard

/-- THE SECOND FORM's CARD OF 'overlaylaw17.RelayRuns'. -/
def relayRunsUptoCard : Claim7 := { stood := { row := relayRunsUptoRow, standIns := [], harness := (true, "1440d3c8af9d71bdb3464716bdf6836eb05cb696d189ef49cb2ef3b62c54346c"), looks := false }, kinds := [], alts := [], laidByText := true, laidKinds := [.data], laidTests := true, laidLooks := .later }
def RelayRunsUptoCardSaid : Prop := Claim7.holds Tryd.pinned (.plain (OpenSpec.upto relayRunsSpec)) relayRunsUptoCard

/-- THE SECOND FORM's CARD OF 'overlaylaw17.RelayCarries'. -/
def relayCarriesUptoCard : Claim7 := { stood := { row := relayCarriesUptoRow, standIns := [], harness := (true, "1440d3c8af9d71bdb3464716bdf6836eb05cb696d189ef49cb2ef3b62c54346c"), looks := false }, kinds := [], alts := [], laidByText := true, laidKinds := [.data], laidTests := true, laidLooks := .later }
def RelayCarriesUptoCardSaid : Prop := Claim7.holds Tryd.pinned (.plain (OpenSpec.upto relayCarriesSpec)) relayCarriesUptoCard

/-- THE SECOND FORM's CARD OF 'overlaylaw17.RelayContacts'. -/
def relayContactsUptoCard : Claim7 := { stood := { row := relayContactsUptoRow, standIns := [], harness := (true, "1440d3c8af9d71bdb3464716bdf6836eb05cb696d189ef49cb2ef3b62c54346c"), looks := false }, kinds := [], alts := [], laidByText := true, laidKinds := [.data], laidTests := true, laidLooks := .later }
def RelayContactsUptoCardSaid : Prop := Claim7.holds Tryd.pinned (.plain (OpenSpec.upto relayContactsSpec)) relayContactsUptoCard

/-- THE SECOND FORM's CARD OF 'overlaylaw17.RelayHolds'. -/
def relayHoldsUptoCard : Claim7 := { stood := { row := relayHoldsUptoRow, standIns := [], harness := (true, "1440d3c8af9d71bdb3464716bdf6836eb05cb696d189ef49cb2ef3b62c54346c"), looks := false }, kinds := [], alts := [], laidByText := true, laidKinds := [.data], laidTests := true, laidLooks := .later }
def RelayHoldsUptoCardSaid : Prop := Claim7.holds Tryd.pinned (.plain (OpenSpec.upto relayHoldsSpec)) relayHoldsUptoCard

/-- THE SECOND FORM's CARD OF 'overlaylaw17.RelayPromises'. -/
def relayPromisesUptoCard : Claim7 := { stood := { row := relayPromisesUptoRow, standIns := [], harness := (true, "1440d3c8af9d71bdb3464716bdf6836eb05cb696d189ef49cb2ef3b62c54346c"), looks := false }, kinds := [], alts := [], laidByText := true, laidKinds := [.data], laidTests := true, laidLooks := .later }
def RelayPromisesUptoCardSaid : Prop := Claim7.holds Tryd.pinned (.plain (OpenSpec.upto relayPromisesSpec)) relayPromisesUptoCard

/-- THE SECOND FORM's CARD OF 'overlaylaw15.NewcarSafe'. -/
def newcarSafeUptoCard : Claim7 := { stood := { row := newcarSafeUptoRow, standIns := [], harness := (true, "1440d3c8af9d71bdb3464716bdf6836eb05cb696d189ef49cb2ef3b62c54346c"), looks := false }, kinds := [], alts := [], laidByText := true, laidKinds := [.data], laidTests := true, laidLooks := .later }
def NewcarSafeUptoCardSaid : Prop := Claim7.holds Tryd.pinned (.plain (OpenSpec.upto newcarSafeSpec)) newcarSafeUptoCard

/-- THE SECOND FORM's CARD OF 'overlaylaw15.NewcarFaults'. -/
def newcarFaultsUptoCard : Claim7 := { stood := { row := newcarFaultsUptoRow, standIns := [], harness := (true, "1440d3c8af9d71bdb3464716bdf6836eb05cb696d189ef49cb2ef3b62c54346c"), looks := false }, kinds := [], alts := [], laidByText := true, laidKinds := [.data], laidTests := true, laidLooks := .later }
def NewcarFaultsUptoCardSaid : Prop := Claim7.holds Tryd.pinned (.plain (OpenSpec.upto newcarFaultsSpec)) newcarFaultsUptoCard
end Rows
end Go.Proofs.YtpbljgpdhllklaaDoor
