/-
  DERIVED. GIVEN WITH THE SEED: THE CARDS: each row of YtbkkfmjofmfijaaGreatDoorRows.lean that lists a variable, with what it lists TIED to the program's text (the seventh form; the later family's looks); each row that meets fmt, with fmt's text TOLD by the authors' own Lean function (tested against real Go, not proved from fmt's source: count such statements apart). THE CARD IS WHAT COUNTS. Prove the row's statement (the work); the ties are given (YtbkkfmjofmfijaaGreatDoorTie.lean); close each card by the builder's one call (the guide's Derived/Test/ToyasCard.lean, 'card_holds'). Laid BY PROGRAM, IN A SANDBOX (cutbox-door.mjs). By AI agents, Wed Nov 11 2026. No macro, syntax, notation, axiom, sorry.
-/
import Derived.Test.YtbkkfmjofmfijaaGreatDoorRows
import GoSem.ClaimSeven
namespace Go.Proofs.YtbkkfmjofmfijaaGreatDoor
namespace Rows

/-- THE TIED CARD OF 'obelisktop.TopConstants'. -/
def topConstantsCard : Claim7 := { stood := { row := topConstantsRow, standIns := [], harness := (true, "523f6c2cdf7be60c1dfc5cc58161a86b256bf9a3364a4350a5532d781aae7458"), looks := false }, kinds := [], alts := [], laidByText := true, laidKinds := [.data, .data, .data, .data, .pinned], laidTests := true, laidLooks := .later }
def TopConstantsCardSaid : Prop := Claim7.holds Tryz.pinned (.plain (OpenSpec.ofChange topConstantsSpec)) topConstantsCard

/-- THE TIED CARD OF 'obelisktop.TopSizes'. -/
def topSizesCard : Claim7 := { stood := { row := topSizesRow, standIns := [], harness := (true, "523f6c2cdf7be60c1dfc5cc58161a86b256bf9a3364a4350a5532d781aae7458"), looks := false }, kinds := [], alts := [], laidByText := true, laidKinds := [.data, .data, .data, .data, .pinned], laidTests := true, laidLooks := .later }
def TopSizesCardSaid : Prop := Claim7.holds Tryz.pinned (.plain (OpenSpec.ofChange topSizesSpec)) topSizesCard

/-- THE TIED CARD OF 'obelisktop.TopSurrogates'. -/
def topSurrogatesCard : Claim7 := { stood := { row := topSurrogatesRow, standIns := [], harness := (true, "523f6c2cdf7be60c1dfc5cc58161a86b256bf9a3364a4350a5532d781aae7458"), looks := false }, kinds := [], alts := [], laidByText := true, laidKinds := [.data, .data, .data, .data, .pinned], laidTests := true, laidLooks := .later }
def TopSurrogatesCardSaid : Prop := Claim7.holds Tryz.pinned (.plain (OpenSpec.ofChange topSurrogatesSpec)) topSurrogatesCard

/-- THE TIED CARD OF 'obelisktop.TopIntern'. -/
def topInternCard : Claim7 := { stood := { row := topInternRow, standIns := [], harness := (true, "523f6c2cdf7be60c1dfc5cc58161a86b256bf9a3364a4350a5532d781aae7458"), looks := false }, kinds := [], alts := [], laidByText := true, laidKinds := [.data, .data, .data, .data, .pinned], laidTests := true, laidLooks := .later }
def TopInternCardSaid : Prop := Claim7.holds Tryz.pinned (.plain (OpenSpec.ofChange topInternSpec)) topInternCard

/-- THE TIED CARD OF 'obelisktop.TopPrintedOut'. -/
def topPrintedOutCard : Claim7 := { stood := { row := topPrintedOutRow, standIns := [], harness := (true, "523f6c2cdf7be60c1dfc5cc58161a86b256bf9a3364a4350a5532d781aae7458"), looks := false }, kinds := [], alts := [], laidByText := true, laidKinds := [.data, .data, .data, .data, .pinned], laidTests := true, laidLooks := .later }
def TopPrintedOutCardSaid : Prop := Claim7.holds Tryz.pinned (.plain (OpenSpec.ofChange topPrintedOutSpec)) topPrintedOutCard

/-- THE SECOND FORM's CARD OF 'obelisktop.TopConstants'. -/
def topConstantsUptoCard : Claim7 := { stood := { row := topConstantsUptoRow, standIns := [], harness := (true, "523f6c2cdf7be60c1dfc5cc58161a86b256bf9a3364a4350a5532d781aae7458"), looks := false }, kinds := [], alts := [], laidByText := true, laidKinds := [.data, .data, .data, .data, .pinned], laidTests := true, laidLooks := .later }
def TopConstantsUptoCardSaid : Prop := Claim7.holds Tryz.pinned (.plain (OpenSpec.upto topConstantsSpec)) topConstantsUptoCard

/-- THE SECOND FORM's CARD OF 'obelisktop.TopSizes'. -/
def topSizesUptoCard : Claim7 := { stood := { row := topSizesUptoRow, standIns := [], harness := (true, "523f6c2cdf7be60c1dfc5cc58161a86b256bf9a3364a4350a5532d781aae7458"), looks := false }, kinds := [], alts := [], laidByText := true, laidKinds := [.data, .data, .data, .data, .pinned], laidTests := true, laidLooks := .later }
def TopSizesUptoCardSaid : Prop := Claim7.holds Tryz.pinned (.plain (OpenSpec.upto topSizesSpec)) topSizesUptoCard

/-- THE SECOND FORM's CARD OF 'obelisktop.TopSurrogates'. -/
def topSurrogatesUptoCard : Claim7 := { stood := { row := topSurrogatesUptoRow, standIns := [], harness := (true, "523f6c2cdf7be60c1dfc5cc58161a86b256bf9a3364a4350a5532d781aae7458"), looks := false }, kinds := [], alts := [], laidByText := true, laidKinds := [.data, .data, .data, .data, .pinned], laidTests := true, laidLooks := .later }
def TopSurrogatesUptoCardSaid : Prop := Claim7.holds Tryz.pinned (.plain (OpenSpec.upto topSurrogatesSpec)) topSurrogatesUptoCard

/-- THE SECOND FORM's CARD OF 'obelisktop.TopIntern'. -/
def topInternUptoCard : Claim7 := { stood := { row := topInternUptoRow, standIns := [], harness := (true, "523f6c2cdf7be60c1dfc5cc58161a86b256bf9a3364a4350a5532d781aae7458"), looks := false }, kinds := [], alts := [], laidByText := true, laidKinds := [.data, .data, .data, .data, .pinned], laidTests := true, laidLooks := .later }
def TopInternUptoCardSaid : Prop := Claim7.holds Tryz.pinned (.plain (OpenSpec.upto topInternSpec)) topInternUptoCard

/-- THE SECOND FORM's CARD OF 'obelisktop.TopPrintedOut'. -/
def topPrintedOutUptoCard : Claim7 := { stood := { row := topPrintedOutUptoRow, standIns := [], harness := (true, "523f6c2cdf7be60c1dfc5cc58161a86b256bf9a3364a4350a5532d781aae7458"), looks := false }, kinds := [], alts := [], laidByText := true, laidKinds := [.data, .data, .data, .data, .pinned], laidTests := true, laidLooks := .later }
def TopPrintedOutUptoCardSaid : Prop := Claim7.holds Tryz.pinned (.plain (OpenSpec.upto topPrintedOutSpec)) topPrintedOutUptoCard
end Rows
end Go.Proofs.YtbkkfmjofmfijaaGreatDoor
