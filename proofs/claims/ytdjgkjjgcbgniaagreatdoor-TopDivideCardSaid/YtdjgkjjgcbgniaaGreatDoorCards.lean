/-
  DERIVED. GIVEN WITH THE SEED: THE CARDS: each row of YtdjgkjjgcbgniaaGreatDoorRows.lean that lists a variable, with what it lists TIED to the program's text (the seventh form; the later family's looks); each row that meets fmt, with fmt's text TOLD by the authors' own Lean function (tested against real Go, not proved from fmt's source: count such statements apart). THE CARD IS WHAT COUNTS. Prove the row's statement (the work); the ties are given (YtdjgkjjgcbgniaaGreatDoorTie.lean); close each card by the builder's one call (the guide's Derived/Test/ToyasCard.lean, 'card_holds'). Laid BY PROGRAM, IN A SANDBOX (cutbox-door.mjs). By AI agents, Wed Nov 11 2026. No macro, syntax, notation, axiom, sorry.
-/
import Derived.Test.YtdjgkjjgcbgniaaGreatDoorRows
import GoSem.ClaimSeven
namespace Go.Proofs.YtdjgkjjgcbgniaaGreatDoor
namespace Rows

/-- THE TIED CARD OF 'obelisktop.TopDivide'. -/
def topDivideCard : Claim7 := { stood := { row := topDivideRow, standIns := [], harness := (true, "6ac41eba044403b72f61a99291953743b04318886fb2193e8f7934e21594de47"), looks := false }, kinds := [], alts := [], laidByText := true, laidKinds := [.data, .data, .data, .data, .pinned], laidTests := true, laidLooks := .later }
def TopDivideCardSaid : Prop := Claim7.holds Tryz.pinned (.plain (OpenSpec.ofChange topDivideSpec)) topDivideCard

/-- THE TIED CARD OF 'obelisktop.TopWide'. -/
def topWideCard : Claim7 := { stood := { row := topWideRow, standIns := [], harness := (true, "6ac41eba044403b72f61a99291953743b04318886fb2193e8f7934e21594de47"), looks := false }, kinds := [], alts := [], laidByText := true, laidKinds := [.data, .data, .data, .data, .pinned], laidTests := true, laidLooks := .later }
def TopWideCardSaid : Prop := Claim7.holds Tryz.pinned (.plain (OpenSpec.ofChange topWideSpec)) topWideCard

/-- THE TIED CARD OF 'obelisktop.TopVerify'. -/
def topVerifyCard : Claim7 := { stood := { row := topVerifyRow, standIns := [], harness := (true, "6ac41eba044403b72f61a99291953743b04318886fb2193e8f7934e21594de47"), looks := false }, kinds := [], alts := [], laidByText := true, laidKinds := [.data, .data, .data, .data, .pinned], laidTests := true, laidLooks := .later }
def TopVerifyCardSaid : Prop := Claim7.holds Tryz.pinned (.plain (OpenSpec.ofChange topVerifySpec)) topVerifyCard

/-- THE TIED CARD OF 'obelisktop.TopFresh'. -/
def topFreshCard : Claim7 := { stood := { row := topFreshRow, standIns := [], harness := (true, "6ac41eba044403b72f61a99291953743b04318886fb2193e8f7934e21594de47"), looks := false }, kinds := [], alts := [], laidByText := true, laidKinds := [.data, .data, .data, .data, .pinned], laidTests := true, laidLooks := .later }
def TopFreshCardSaid : Prop := Claim7.holds Tryz.pinned (.plain (OpenSpec.ofChange topFreshSpec)) topFreshCard

/-- THE TIED CARD OF 'obelisktop.TopArgs'. -/
def topArgsCard : Claim7 := { stood := { row := topArgsRow, standIns := [], harness := (true, "6ac41eba044403b72f61a99291953743b04318886fb2193e8f7934e21594de47"), looks := false }, kinds := [], alts := [], laidByText := true, laidKinds := [.data, .data, .data, .data, .pinned], laidTests := true, laidLooks := .later }
def TopArgsCardSaid : Prop := Claim7.holds Tryz.pinned (.plain (OpenSpec.ofChange topArgsSpec)) topArgsCard

/-- THE TIED CARD OF 'obelisktop.TopObject'. -/
def topObjectCard : Claim7 := { stood := { row := topObjectRow, standIns := [], harness := (true, "6ac41eba044403b72f61a99291953743b04318886fb2193e8f7934e21594de47"), looks := false }, kinds := [], alts := [], laidByText := true, laidKinds := [.data, .data, .data, .data, .pinned], laidTests := true, laidLooks := .later }
def TopObjectCardSaid : Prop := Claim7.holds Tryz.pinned (.plain (OpenSpec.ofChange topObjectSpec)) topObjectCard

/-- THE SECOND FORM's CARD OF 'obelisktop.TopDivide'. -/
def topDivideUptoCard : Claim7 := { stood := { row := topDivideUptoRow, standIns := [], harness := (true, "6ac41eba044403b72f61a99291953743b04318886fb2193e8f7934e21594de47"), looks := false }, kinds := [], alts := [], laidByText := true, laidKinds := [.data, .data, .data, .data, .pinned], laidTests := true, laidLooks := .later }
def TopDivideUptoCardSaid : Prop := Claim7.holds Tryz.pinned (.plain (OpenSpec.upto topDivideSpec)) topDivideUptoCard

/-- THE SECOND FORM's CARD OF 'obelisktop.TopWide'. -/
def topWideUptoCard : Claim7 := { stood := { row := topWideUptoRow, standIns := [], harness := (true, "6ac41eba044403b72f61a99291953743b04318886fb2193e8f7934e21594de47"), looks := false }, kinds := [], alts := [], laidByText := true, laidKinds := [.data, .data, .data, .data, .pinned], laidTests := true, laidLooks := .later }
def TopWideUptoCardSaid : Prop := Claim7.holds Tryz.pinned (.plain (OpenSpec.upto topWideSpec)) topWideUptoCard

/-- THE SECOND FORM's CARD OF 'obelisktop.TopVerify'. -/
def topVerifyUptoCard : Claim7 := { stood := { row := topVerifyUptoRow, standIns := [], harness := (true, "6ac41eba044403b72f61a99291953743b04318886fb2193e8f7934e21594de47"), looks := false }, kinds := [], alts := [], laidByText := true, laidKinds := [.data, .data, .data, .data, .pinned], laidTests := true, laidLooks := .later }
def TopVerifyUptoCardSaid : Prop := Claim7.holds Tryz.pinned (.plain (OpenSpec.upto topVerifySpec)) topVerifyUptoCard

/-- THE SECOND FORM's CARD OF 'obelisktop.TopFresh'. -/
def topFreshUptoCard : Claim7 := { stood := { row := topFreshUptoRow, standIns := [], harness := (true, "6ac41eba044403b72f61a99291953743b04318886fb2193e8f7934e21594de47"), looks := false }, kinds := [], alts := [], laidByText := true, laidKinds := [.data, .data, .data, .data, .pinned], laidTests := true, laidLooks := .later }
def TopFreshUptoCardSaid : Prop := Claim7.holds Tryz.pinned (.plain (OpenSpec.upto topFreshSpec)) topFreshUptoCard

/-- THE SECOND FORM's CARD OF 'obelisktop.TopArgs'. -/
def topArgsUptoCard : Claim7 := { stood := { row := topArgsUptoRow, standIns := [], harness := (true, "6ac41eba044403b72f61a99291953743b04318886fb2193e8f7934e21594de47"), looks := false }, kinds := [], alts := [], laidByText := true, laidKinds := [.data, .data, .data, .data, .pinned], laidTests := true, laidLooks := .later }
def TopArgsUptoCardSaid : Prop := Claim7.holds Tryz.pinned (.plain (OpenSpec.upto topArgsSpec)) topArgsUptoCard

/-- THE SECOND FORM's CARD OF 'obelisktop.TopObject'. -/
def topObjectUptoCard : Claim7 := { stood := { row := topObjectUptoRow, standIns := [], harness := (true, "6ac41eba044403b72f61a99291953743b04318886fb2193e8f7934e21594de47"), looks := false }, kinds := [], alts := [], laidByText := true, laidKinds := [.data, .data, .data, .data, .pinned], laidTests := true, laidLooks := .later }
def TopObjectUptoCardSaid : Prop := Claim7.holds Tryz.pinned (.plain (OpenSpec.upto topObjectSpec)) topObjectUptoCard
end Rows
end Go.Proofs.YtdjgkjjgcbgniaaGreatDoor
