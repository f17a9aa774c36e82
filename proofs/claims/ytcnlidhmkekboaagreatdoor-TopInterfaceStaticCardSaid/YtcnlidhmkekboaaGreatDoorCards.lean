/-
  DERIVED. GIVEN WITH THE SEED: THE CARDS: each row of YtcnlidhmkekboaaGreatDoorRows.lean that lists a variable, with what it lists TIED to the program's text (the seventh form; the later family's looks); each row that meets fmt, with fmt's text TOLD by the authors' own Lean function (tested against real Go, not proved from fmt's source: count such statements apart). THE CARD IS WHAT COUNTS. Prove the row's statement (the work); the ties are given (YtcnlidhmkekboaaGreatDoorTie.lean); close each card by the builder's one call (the guide's Derived/Test/ToyasCard.lean, 'card_holds'). Laid BY PROGRAM, IN A SANDBOX (cutbox-door.mjs). By AI agents, Wed Nov 11 2026. No macro, syntax, notation, axiom, sorry.
-/
import Derived.Test.YtcnlidhmkekboaaGreatDoorRows
import GoSem.ClaimSeven
namespace Go.Proofs.YtcnlidhmkekboaaGreatDoor
namespace Rows

/-- THE TIED CARD OF 'obelisktop.TopAbstract'. -/
def topAbstractCard : Claim7 := { stood := { row := topAbstractRow, standIns := [], harness := (true, "51180e6e2c83df740b44943188cc60cd91665adabeb7e31e91879285154df6ed"), looks := false }, kinds := [], alts := [], laidByText := true, laidKinds := [.data, .data, .data, .data, .pinned], laidTests := true, laidLooks := .later }
def TopAbstractCardSaid : Prop := Claim7.holds Tryz.pinned (.plain (OpenSpec.ofChange topAbstractSpec)) topAbstractCard

/-- THE TIED CARD OF 'obelisktop.TopPrivate'. -/
def topPrivateCard : Claim7 := { stood := { row := topPrivateRow, standIns := [], harness := (true, "51180e6e2c83df740b44943188cc60cd91665adabeb7e31e91879285154df6ed"), looks := false }, kinds := [], alts := [], laidByText := true, laidKinds := [.data, .data, .data, .data, .pinned], laidTests := true, laidLooks := .later }
def TopPrivateCardSaid : Prop := Claim7.holds Tryz.pinned (.plain (OpenSpec.ofChange topPrivateSpec)) topPrivateCard

/-- THE TIED CARD OF 'obelisktop.TopInterfaceStatic'. -/
def topInterfaceStaticCard : Claim7 := { stood := { row := topInterfaceStaticRow, standIns := [], harness := (true, "51180e6e2c83df740b44943188cc60cd91665adabeb7e31e91879285154df6ed"), looks := false }, kinds := [], alts := [], laidByText := true, laidKinds := [.data, .data, .data, .data, .pinned], laidTests := true, laidLooks := .later }
def TopInterfaceStaticCardSaid : Prop := Claim7.holds Tryz.pinned (.plain (OpenSpec.ofChange topInterfaceStaticSpec)) topInterfaceStaticCard

/-- THE TIED CARD OF 'obelisktop.TopRefused'. -/
def topRefusedCard : Claim7 := { stood := { row := topRefusedRow, standIns := [], harness := (true, "51180e6e2c83df740b44943188cc60cd91665adabeb7e31e91879285154df6ed"), looks := false }, kinds := [], alts := [], laidByText := true, laidKinds := [.data, .data, .data, .data, .pinned], laidTests := true, laidLooks := .later }
def TopRefusedCardSaid : Prop := Claim7.holds Tryz.pinned (.plain (OpenSpec.ofChange topRefusedSpec)) topRefusedCard

/-- THE TIED CARD OF 'obelisktop.TopMissing'. -/
def topMissingCard : Claim7 := { stood := { row := topMissingRow, standIns := [], harness := (true, "51180e6e2c83df740b44943188cc60cd91665adabeb7e31e91879285154df6ed"), looks := false }, kinds := [], alts := [], laidByText := true, laidKinds := [.data, .data, .data, .data, .pinned], laidTests := true, laidLooks := .later }
def TopMissingCardSaid : Prop := Claim7.holds Tryz.pinned (.plain (OpenSpec.ofChange topMissingSpec)) topMissingCard

/-- THE TIED CARD OF 'obelisktop.TopObject'. -/
def topObjectCard : Claim7 := { stood := { row := topObjectRow, standIns := [], harness := (true, "51180e6e2c83df740b44943188cc60cd91665adabeb7e31e91879285154df6ed"), looks := false }, kinds := [], alts := [], laidByText := true, laidKinds := [.data, .data, .data, .data, .pinned], laidTests := true, laidLooks := .later }
def TopObjectCardSaid : Prop := Claim7.holds Tryz.pinned (.plain (OpenSpec.ofChange topObjectSpec)) topObjectCard

/-- THE SECOND FORM's CARD OF 'obelisktop.TopAbstract'. -/
def topAbstractUptoCard : Claim7 := { stood := { row := topAbstractUptoRow, standIns := [], harness := (true, "51180e6e2c83df740b44943188cc60cd91665adabeb7e31e91879285154df6ed"), looks := false }, kinds := [], alts := [], laidByText := true, laidKinds := [.data, .data, .data, .data, .pinned], laidTests := true, laidLooks := .later }
def TopAbstractUptoCardSaid : Prop := Claim7.holds Tryz.pinned (.plain (OpenSpec.upto topAbstractSpec)) topAbstractUptoCard

/-- THE SECOND FORM's CARD OF 'obelisktop.TopPrivate'. -/
def topPrivateUptoCard : Claim7 := { stood := { row := topPrivateUptoRow, standIns := [], harness := (true, "51180e6e2c83df740b44943188cc60cd91665adabeb7e31e91879285154df6ed"), looks := false }, kinds := [], alts := [], laidByText := true, laidKinds := [.data, .data, .data, .data, .pinned], laidTests := true, laidLooks := .later }
def TopPrivateUptoCardSaid : Prop := Claim7.holds Tryz.pinned (.plain (OpenSpec.upto topPrivateSpec)) topPrivateUptoCard

/-- THE SECOND FORM's CARD OF 'obelisktop.TopInterfaceStatic'. -/
def topInterfaceStaticUptoCard : Claim7 := { stood := { row := topInterfaceStaticUptoRow, standIns := [], harness := (true, "51180e6e2c83df740b44943188cc60cd91665adabeb7e31e91879285154df6ed"), looks := false }, kinds := [], alts := [], laidByText := true, laidKinds := [.data, .data, .data, .data, .pinned], laidTests := true, laidLooks := .later }
def TopInterfaceStaticUptoCardSaid : Prop := Claim7.holds Tryz.pinned (.plain (OpenSpec.upto topInterfaceStaticSpec)) topInterfaceStaticUptoCard

/-- THE SECOND FORM's CARD OF 'obelisktop.TopRefused'. -/
def topRefusedUptoCard : Claim7 := { stood := { row := topRefusedUptoRow, standIns := [], harness := (true, "51180e6e2c83df740b44943188cc60cd91665adabeb7e31e91879285154df6ed"), looks := false }, kinds := [], alts := [], laidByText := true, laidKinds := [.data, .data, .data, .data, .pinned], laidTests := true, laidLooks := .later }
def TopRefusedUptoCardSaid : Prop := Claim7.holds Tryz.pinned (.plain (OpenSpec.upto topRefusedSpec)) topRefusedUptoCard

/-- THE SECOND FORM's CARD OF 'obelisktop.TopMissing'. -/
def topMissingUptoCard : Claim7 := { stood := { row := topMissingUptoRow, standIns := [], harness := (true, "51180e6e2c83df740b44943188cc60cd91665adabeb7e31e91879285154df6ed"), looks := false }, kinds := [], alts := [], laidByText := true, laidKinds := [.data, .data, .data, .data, .pinned], laidTests := true, laidLooks := .later }
def TopMissingUptoCardSaid : Prop := Claim7.holds Tryz.pinned (.plain (OpenSpec.upto topMissingSpec)) topMissingUptoCard

/-- THE SECOND FORM's CARD OF 'obelisktop.TopObject'. -/
def topObjectUptoCard : Claim7 := { stood := { row := topObjectUptoRow, standIns := [], harness := (true, "51180e6e2c83df740b44943188cc60cd91665adabeb7e31e91879285154df6ed"), looks := false }, kinds := [], alts := [], laidByText := true, laidKinds := [.data, .data, .data, .data, .pinned], laidTests := true, laidLooks := .later }
def TopObjectUptoCardSaid : Prop := Claim7.holds Tryz.pinned (.plain (OpenSpec.upto topObjectSpec)) topObjectUptoCard
end Rows
end Go.Proofs.YtcnlidhmkekboaaGreatDoor
