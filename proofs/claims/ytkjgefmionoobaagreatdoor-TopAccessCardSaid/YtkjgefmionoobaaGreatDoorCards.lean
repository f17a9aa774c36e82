/-
  DERIVED. GIVEN WITH THE SEED: THE CARDS: each row of YtkjgefmionoobaaGreatDoorRows.lean that lists a variable, with what it lists TIED to the program's text (the seventh form; the later family's looks); each row that meets fmt, with fmt's text TOLD by the authors' own Lean function (tested against real Go, not proved from fmt's source: count such statements apart). THE CARD IS WHAT COUNTS. Prove the row's statement (the work); the ties are given (YtkjgefmionoobaaGreatDoorTie.lean); close each card by the builder's one call (the guide's Derived/Test/ToyasCard.lean, 'card_holds'). Laid BY PROGRAM, IN A SANDBOX (cutbox-door.mjs). By AI agents, Wed Nov 11 2026. No macro, syntax, notation, axiom, sorry.
-/
import Derived.Test.YtkjgefmionoobaaGreatDoorRows
import GoSem.ClaimSeven
namespace Go.Proofs.YtkjgefmionoobaaGreatDoor
namespace Rows

/-- THE TIED CARD OF 'obelisktop.TopNull'. -/
def topNullCard : Claim7 := { stood := { row := topNullRow, standIns := [], harness := (true, "4698787b258781006fc6524955ac65f403aa13834ddf4fb94a1899de7747ec33"), looks := false }, kinds := [], alts := [], laidByText := true, laidKinds := [.data, .data, .data, .data, .pinned], laidTests := true, laidLooks := .later }
def TopNullCardSaid : Prop := Claim7.holds Tryz.pinned (.plain (OpenSpec.ofChange topNullSpec)) topNullCard

/-- THE TIED CARD OF 'obelisktop.TopDefault'. -/
def topDefaultCard : Claim7 := { stood := { row := topDefaultRow, standIns := [], harness := (true, "4698787b258781006fc6524955ac65f403aa13834ddf4fb94a1899de7747ec33"), looks := false }, kinds := [], alts := [], laidByText := true, laidKinds := [.data, .data, .data, .data, .pinned], laidTests := true, laidLooks := .later }
def TopDefaultCardSaid : Prop := Claim7.holds Tryz.pinned (.plain (OpenSpec.ofChange topDefaultSpec)) topDefaultCard

/-- THE TIED CARD OF 'obelisktop.TopInit'. -/
def topInitCard : Claim7 := { stood := { row := topInitRow, standIns := [], harness := (true, "4698787b258781006fc6524955ac65f403aa13834ddf4fb94a1899de7747ec33"), looks := false }, kinds := [], alts := [], laidByText := true, laidKinds := [.data, .data, .data, .data, .pinned], laidTests := true, laidLooks := .later }
def TopInitCardSaid : Prop := Claim7.holds Tryz.pinned (.plain (OpenSpec.ofChange topInitSpec)) topInitCard

/-- THE TIED CARD OF 'obelisktop.TopInitFails'. -/
def topInitFailsCard : Claim7 := { stood := { row := topInitFailsRow, standIns := [], harness := (true, "4698787b258781006fc6524955ac65f403aa13834ddf4fb94a1899de7747ec33"), looks := false }, kinds := [], alts := [], laidByText := true, laidKinds := [.data, .data, .data, .data, .pinned], laidTests := true, laidLooks := .later }
def TopInitFailsCardSaid : Prop := Claim7.holds Tryz.pinned (.plain (OpenSpec.ofChange topInitFailsSpec)) topInitFailsCard

/-- THE TIED CARD OF 'obelisktop.TopStore'. -/
def topStoreCard : Claim7 := { stood := { row := topStoreRow, standIns := [], harness := (true, "4698787b258781006fc6524955ac65f403aa13834ddf4fb94a1899de7747ec33"), looks := false }, kinds := [], alts := [], laidByText := true, laidKinds := [.data, .data, .data, .data, .pinned], laidTests := true, laidLooks := .later }
def TopStoreCardSaid : Prop := Claim7.holds Tryz.pinned (.plain (OpenSpec.ofChange topStoreSpec)) topStoreCard

/-- THE TIED CARD OF 'obelisktop.TopAccess'. -/
def topAccessCard : Claim7 := { stood := { row := topAccessRow, standIns := [], harness := (true, "4698787b258781006fc6524955ac65f403aa13834ddf4fb94a1899de7747ec33"), looks := false }, kinds := [], alts := [], laidByText := true, laidKinds := [.data, .data, .data, .data, .pinned], laidTests := true, laidLooks := .later }
def TopAccessCardSaid : Prop := Claim7.holds Tryz.pinned (.plain (OpenSpec.ofChange topAccessSpec)) topAccessCard

/-- THE SECOND FORM's CARD OF 'obelisktop.TopNull'. -/
def topNullUptoCard : Claim7 := { stood := { row := topNullUptoRow, standIns := [], harness := (true, "4698787b258781006fc6524955ac65f403aa13834ddf4fb94a1899de7747ec33"), looks := false }, kinds := [], alts := [], laidByText := true, laidKinds := [.data, .data, .data, .data, .pinned], laidTests := true, laidLooks := .later }
def TopNullUptoCardSaid : Prop := Claim7.holds Tryz.pinned (.plain (OpenSpec.upto topNullSpec)) topNullUptoCard

/-- THE SECOND FORM's CARD OF 'obelisktop.TopDefault'. -/
def topDefaultUptoCard : Claim7 := { stood := { row := topDefaultUptoRow, standIns := [], harness := (true, "4698787b258781006fc6524955ac65f403aa13834ddf4fb94a1899de7747ec33"), looks := false }, kinds := [], alts := [], laidByText := true, laidKinds := [.data, .data, .data, .data, .pinned], laidTests := true, laidLooks := .later }
def TopDefaultUptoCardSaid : Prop := Claim7.holds Tryz.pinned (.plain (OpenSpec.upto topDefaultSpec)) topDefaultUptoCard

/-- THE SECOND FORM's CARD OF 'obelisktop.TopInit'. -/
def topInitUptoCard : Claim7 := { stood := { row := topInitUptoRow, standIns := [], harness := (true, "4698787b258781006fc6524955ac65f403aa13834ddf4fb94a1899de7747ec33"), looks := false }, kinds := [], alts := [], laidByText := true, laidKinds := [.data, .data, .data, .data, .pinned], laidTests := true, laidLooks := .later }
def TopInitUptoCardSaid : Prop := Claim7.holds Tryz.pinned (.plain (OpenSpec.upto topInitSpec)) topInitUptoCard

/-- THE SECOND FORM's CARD OF 'obelisktop.TopInitFails'. -/
def topInitFailsUptoCard : Claim7 := { stood := { row := topInitFailsUptoRow, standIns := [], harness := (true, "4698787b258781006fc6524955ac65f403aa13834ddf4fb94a1899de7747ec33"), looks := false }, kinds := [], alts := [], laidByText := true, laidKinds := [.data, .data, .data, .data, .pinned], laidTests := true, laidLooks := .later }
def TopInitFailsUptoCardSaid : Prop := Claim7.holds Tryz.pinned (.plain (OpenSpec.upto topInitFailsSpec)) topInitFailsUptoCard

/-- THE SECOND FORM's CARD OF 'obelisktop.TopStore'. -/
def topStoreUptoCard : Claim7 := { stood := { row := topStoreUptoRow, standIns := [], harness := (true, "4698787b258781006fc6524955ac65f403aa13834ddf4fb94a1899de7747ec33"), looks := false }, kinds := [], alts := [], laidByText := true, laidKinds := [.data, .data, .data, .data, .pinned], laidTests := true, laidLooks := .later }
def TopStoreUptoCardSaid : Prop := Claim7.holds Tryz.pinned (.plain (OpenSpec.upto topStoreSpec)) topStoreUptoCard

/-- THE SECOND FORM's CARD OF 'obelisktop.TopAccess'. -/
def topAccessUptoCard : Claim7 := { stood := { row := topAccessUptoRow, standIns := [], harness := (true, "4698787b258781006fc6524955ac65f403aa13834ddf4fb94a1899de7747ec33"), looks := false }, kinds := [], alts := [], laidByText := true, laidKinds := [.data, .data, .data, .data, .pinned], laidTests := true, laidLooks := .later }
def TopAccessUptoCardSaid : Prop := Claim7.holds Tryz.pinned (.plain (OpenSpec.upto topAccessSpec)) topAccessUptoCard
end Rows
end Go.Proofs.YtkjgefmionoobaaGreatDoor
