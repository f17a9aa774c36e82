/-
  DERIVED. GIVEN WITH THE SEED: THE CARDS: each row of YtmoojalmefnmnaaGreatDoorRows.lean that lists a variable, with what it lists TIED to the program's text (the seventh form; the later family's looks); each row that meets fmt, with fmt's text TOLD by the authors' own Lean function (tested against real Go, not proved from fmt's source: count such statements apart). THE CARD IS WHAT COUNTS. Prove the row's statement (the work); the ties are given (YtmoojalmefnmnaaGreatDoorTie.lean); close each card by the builder's one call (the guide's Derived/Test/ToyasCard.lean, 'card_holds'). Laid BY PROGRAM, IN A SANDBOX (cutbox-door.mjs). By AI agents, Wed Nov 11 2026. No macro, syntax, notation, axiom, sorry.
-/
import Derived.Test.YtmoojalmefnmnaaGreatDoorRows
import GoSem.ClaimSeven
namespace Go.Proofs.YtmoojalmefnmnaaGreatDoor
namespace Rows

/-- THE TIED CARD OF 'obelisktop.TopCatchOrder'. -/
def topCatchOrderCard : Claim7 := { stood := { row := topCatchOrderRow, standIns := [], harness := (true, "86721102b95ad55b7100cdc97bdd9aeb23b0db7d6f7f66ebb65ad38e524bf197"), looks := false }, kinds := [], alts := [], laidByText := true, laidKinds := [.data, .data, .data, .data, .pinned], laidTests := true, laidLooks := .later }
def TopCatchOrderCardSaid : Prop := Claim7.holds Tryz.pinned (.plain (OpenSpec.ofChange topCatchOrderSpec)) topCatchOrderCard

/-- THE TIED CARD OF 'obelisktop.TopInstance'. -/
def topInstanceCard : Claim7 := { stood := { row := topInstanceRow, standIns := [], harness := (true, "86721102b95ad55b7100cdc97bdd9aeb23b0db7d6f7f66ebb65ad38e524bf197"), looks := false }, kinds := [], alts := [], laidByText := true, laidKinds := [.data, .data, .data, .data, .pinned], laidTests := true, laidLooks := .later }
def TopInstanceCardSaid : Prop := Claim7.holds Tryz.pinned (.plain (OpenSpec.ofChange topInstanceSpec)) topInstanceCard

/-- THE TIED CARD OF 'obelisktop.TopVirtual'. -/
def topVirtualCard : Claim7 := { stood := { row := topVirtualRow, standIns := [], harness := (true, "86721102b95ad55b7100cdc97bdd9aeb23b0db7d6f7f66ebb65ad38e524bf197"), looks := false }, kinds := [], alts := [], laidByText := true, laidKinds := [.data, .data, .data, .data, .pinned], laidTests := true, laidLooks := .later }
def TopVirtualCardSaid : Prop := Claim7.holds Tryz.pinned (.plain (OpenSpec.ofChange topVirtualSpec)) topVirtualCard

/-- THE TIED CARD OF 'obelisktop.TopArrays'. -/
def topArraysCard : Claim7 := { stood := { row := topArraysRow, standIns := [], harness := (true, "86721102b95ad55b7100cdc97bdd9aeb23b0db7d6f7f66ebb65ad38e524bf197"), looks := false }, kinds := [], alts := [], laidByText := true, laidKinds := [.data, .data, .data, .data, .pinned], laidTests := true, laidLooks := .later }
def TopArraysCardSaid : Prop := Claim7.holds Tryz.pinned (.plain (OpenSpec.ofChange topArraysSpec)) topArraysCard

/-- THE TIED CARD OF 'obelisktop.TopMonitor'. -/
def topMonitorCard : Claim7 := { stood := { row := topMonitorRow, standIns := [], harness := (true, "86721102b95ad55b7100cdc97bdd9aeb23b0db7d6f7f66ebb65ad38e524bf197"), looks := false }, kinds := [], alts := [], laidByText := true, laidKinds := [.data, .data, .data, .data, .pinned], laidTests := true, laidLooks := .later }
def TopMonitorCardSaid : Prop := Claim7.holds Tryz.pinned (.plain (OpenSpec.ofChange topMonitorSpec)) topMonitorCard

/-- THE TIED CARD OF 'obelisktop.TopWitness'. -/
def topWitnessCard : Claim7 := { stood := { row := topWitnessRow, standIns := [], harness := (true, "86721102b95ad55b7100cdc97bdd9aeb23b0db7d6f7f66ebb65ad38e524bf197"), looks := false }, kinds := [], alts := [], laidByText := true, laidKinds := [.data, .data, .data, .data, .pinned], laidTests := true, laidLooks := .later }
def TopWitnessCardSaid : Prop := Claim7.holds Tryz.pinned (.plain (OpenSpec.ofChange topWitnessSpec)) topWitnessCard

/-- THE SECOND FORM's CARD OF 'obelisktop.TopCatchOrder'. -/
def topCatchOrderUptoCard : Claim7 := { stood := { row := topCatchOrderUptoRow, standIns := [], harness := (true, "86721102b95ad55b7100cdc97bdd9aeb23b0db7d6f7f66ebb65ad38e524bf197"), looks := false }, kinds := [], alts := [], laidByText := true, laidKinds := [.data, .data, .data, .data, .pinned], laidTests := true, laidLooks := .later }
def TopCatchOrderUptoCardSaid : Prop := Claim7.holds Tryz.pinned (.plain (OpenSpec.upto topCatchOrderSpec)) topCatchOrderUptoCard

/-- THE SECOND FORM's CARD OF 'obelisktop.TopInstance'. -/
def topInstanceUptoCard : Claim7 := { stood := { row := topInstanceUptoRow, standIns := [], harness := (true, "86721102b95ad55b7100cdc97bdd9aeb23b0db7d6f7f66ebb65ad38e524bf197"), looks := false }, kinds := [], alts := [], laidByText := true, laidKinds := [.data, .data, .data, .data, .pinned], laidTests := true, laidLooks := .later }
def TopInstanceUptoCardSaid : Prop := Claim7.holds Tryz.pinned (.plain (OpenSpec.upto topInstanceSpec)) topInstanceUptoCard

/-- THE SECOND FORM's CARD OF 'obelisktop.TopVirtual'. -/
def topVirtualUptoCard : Claim7 := { stood := { row := topVirtualUptoRow, standIns := [], harness := (true, "86721102b95ad55b7100cdc97bdd9aeb23b0db7d6f7f66ebb65ad38e524bf197"), looks := false }, kinds := [], alts := [], laidByText := true, laidKinds := [.data, .data, .data, .data, .pinned], laidTests := true, laidLooks := .later }
def TopVirtualUptoCardSaid : Prop := Claim7.holds Tryz.pinned (.plain (OpenSpec.upto topVirtualSpec)) topVirtualUptoCard

/-- THE SECOND FORM's CARD OF 'obelisktop.TopArrays'. -/
def topArraysUptoCard : Claim7 := { stood := { row := topArraysUptoRow, standIns := [], harness := (true, "86721102b95ad55b7100cdc97bdd9aeb23b0db7d6f7f66ebb65ad38e524bf197"), looks := false }, kinds := [], alts := [], laidByText := true, laidKinds := [.data, .data, .data, .data, .pinned], laidTests := true, laidLooks := .later }
def TopArraysUptoCardSaid : Prop := Claim7.holds Tryz.pinned (.plain (OpenSpec.upto topArraysSpec)) topArraysUptoCard

/-- THE SECOND FORM's CARD OF 'obelisktop.TopMonitor'. -/
def topMonitorUptoCard : Claim7 := { stood := { row := topMonitorUptoRow, standIns := [], harness := (true, "86721102b95ad55b7100cdc97bdd9aeb23b0db7d6f7f66ebb65ad38e524bf197"), looks := false }, kinds := [], alts := [], laidByText := true, laidKinds := [.data, .data, .data, .data, .pinned], laidTests := true, laidLooks := .later }
def TopMonitorUptoCardSaid : Prop := Claim7.holds Tryz.pinned (.plain (OpenSpec.upto topMonitorSpec)) topMonitorUptoCard

/-- THE SECOND FORM's CARD OF 'obelisktop.TopWitness'. -/
def topWitnessUptoCard : Claim7 := { stood := { row := topWitnessUptoRow, standIns := [], harness := (true, "86721102b95ad55b7100cdc97bdd9aeb23b0db7d6f7f66ebb65ad38e524bf197"), looks := false }, kinds := [], alts := [], laidByText := true, laidKinds := [.data, .data, .data, .data, .pinned], laidTests := true, laidLooks := .later }
def TopWitnessUptoCardSaid : Prop := Claim7.holds Tryz.pinned (.plain (OpenSpec.upto topWitnessSpec)) topWitnessUptoCard
end Rows
end Go.Proofs.YtmoojalmefnmnaaGreatDoor
