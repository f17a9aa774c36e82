/-
  DERIVED. GIVEN WITH THE SEED: THE CARDS: each row of YtnpfppddongbhaaDoorRows.lean that lists a variable, with what it lists TIED to the program's text (the seventh form; the later family's looks); each row that meets fmt, with fmt's text TOLD by the authors' own Lean function (tested against real Go, not proved from fmt's source: count such statements apart). THE CARD IS WHAT COUNTS. Prove the row's statement (the work); the ties are given (YtnpfppddongbhaaDoorTie.lean); close each card by the builder's one call (the guide's Derived/Test/ToyasCard.lean, 'card_holds'). Laid BY PROGRAM, IN A SANDBOX (cutbox-door.mjs). By AI agents, Wed Nov 11 2026. No macro, syntax, notation, axiom, sorry.
-/
import Derived.Test.YtnpfppddongbhaaDoorRows
import GoSem.ClaimSeven
namespace Go.Proofs.YtnpfppddongbhaaDoor
namespace Rows

/-- THE TIED CARD OF 'obelisklaw3.NamesAll'. -/
def namesAllCard : Claim7 := { stood := { row := namesAllRow, standIns := [], harness := (true, "a443ff494c052271338e7d3fa2daae18478c3b172c7fea89dc56f121b1d21366"), looks := false }, kinds := [], alts := [], laidByText := true, laidKinds := [.data, .pinned], laidTests := true, laidLooks := .later }
def NamesAllCardSaid : Prop := Claim7.holds Tryd.pinned (.plain (OpenSpec.ofChange namesAllSpec)) namesAllCard

/-- THE TIED CARD OF 'obelisklaw3.NamesLong'. -/
def namesLongCard : Claim7 := { stood := { row := namesLongRow, standIns := [], harness := (true, "a443ff494c052271338e7d3fa2daae18478c3b172c7fea89dc56f121b1d21366"), looks := false }, kinds := [], alts := [], laidByText := true, laidKinds := [.data, .pinned], laidTests := true, laidLooks := .later }
def NamesLongCardSaid : Prop := Claim7.holds Tryd.pinned (.plain (OpenSpec.ofChange namesLongSpec)) namesLongCard

/-- THE TIED CARD OF 'obelisklaw3.NamesJoin'. -/
def namesJoinCard : Claim7 := { stood := { row := namesJoinRow, standIns := [], harness := (true, "a443ff494c052271338e7d3fa2daae18478c3b172c7fea89dc56f121b1d21366"), looks := false }, kinds := [], alts := [], laidByText := true, laidKinds := [.data, .pinned], laidTests := true, laidLooks := .later }
def NamesJoinCardSaid : Prop := Claim7.holds Tryd.pinned (.plain (OpenSpec.ofChange namesJoinSpec)) namesJoinCard

/-- THE TIED CARD OF 'obelisklaw4.DescrField'. -/
def descrFieldCard : Claim7 := { stood := { row := descrFieldRow, standIns := [], harness := (true, "a443ff494c052271338e7d3fa2daae18478c3b172c7fea89dc56f121b1d21366"), looks := false }, kinds := [], alts := [], laidByText := true, laidKinds := [.data, .pinned], laidTests := true, laidLooks := .later }
def DescrFieldCardSaid : Prop := Claim7.holds Tryd.pinned (.plain (OpenSpec.ofChange descrFieldSpec)) descrFieldCard

/-- THE TIED CARD OF 'obelisklaw4.DescrMethod'. -/
def descrMethodCard : Claim7 := { stood := { row := descrMethodRow, standIns := [], harness := (true, "a443ff494c052271338e7d3fa2daae18478c3b172c7fea89dc56f121b1d21366"), looks := false }, kinds := [], alts := [], laidByText := true, laidKinds := [.data, .pinned], laidTests := true, laidLooks := .later }
def DescrMethodCardSaid : Prop := Claim7.holds Tryd.pinned (.plain (OpenSpec.ofChange descrMethodSpec)) descrMethodCard

/-- THE TIED CARD OF 'obelisklaw4.DescrDims'. -/
def descrDimsCard : Claim7 := { stood := { row := descrDimsRow, standIns := [], harness := (true, "a443ff494c052271338e7d3fa2daae18478c3b172c7fea89dc56f121b1d21366"), looks := false }, kinds := [], alts := [], laidByText := true, laidKinds := [.data, .pinned], laidTests := true, laidLooks := .later }
def DescrDimsCardSaid : Prop := Claim7.holds Tryd.pinned (.plain (OpenSpec.ofChange descrDimsSpec)) descrDimsCard

/-- THE TIED CARD OF 'obelisklaw4.DescrBuild'. -/
def descrBuildCard : Claim7 := { stood := { row := descrBuildRow, standIns := [], harness := (true, "a443ff494c052271338e7d3fa2daae18478c3b172c7fea89dc56f121b1d21366"), looks := false }, kinds := [], alts := [], laidByText := true, laidKinds := [.data, .pinned], laidTests := true, laidLooks := .later }
def DescrBuildCardSaid : Prop := Claim7.holds Tryd.pinned (.plain (OpenSpec.ofChange descrBuildSpec)) descrBuildCard

/-- THE TIED CARD OF 'obelisklaw5.PoolTexts'. -/
def poolTextsCard : Claim7 := { stood := { row := poolTextsRow, standIns := [], harness := (true, "a443ff494c052271338e7d3fa2daae18478c3b172c7fea89dc56f121b1d21366"), looks := false }, kinds := [], alts := [], laidByText := true, laidKinds := [.data, .pinned], laidTests := true, laidLooks := .later }
def PoolTextsCardSaid : Prop := Claim7.holds Tryd.pinned (.plain (OpenSpec.ofChange poolTextsSpec)) poolTextsCard

/-- THE TIED CARD OF 'obelisklaw5.PoolWitness'. -/
def poolWitnessCard : Claim7 := { stood := { row := poolWitnessRow, standIns := [], harness := (true, "a443ff494c052271338e7d3fa2daae18478c3b172c7fea89dc56f121b1d21366"), looks := false }, kinds := [], alts := [], laidByText := true, laidKinds := [.data, .pinned], laidTests := true, laidLooks := .later }
def PoolWitnessCardSaid : Prop := Claim7.holds Tryd.pinned (.plain (OpenSpec.ofChange poolWitnessSpec)) poolWitnessCard

/-- THE TIED CARD OF 'obelisklaw5.PoolRead'. -/
def poolReadCard : Claim7 := { stood := { row := poolReadRow, standIns := [], harness := (true, "a443ff494c052271338e7d3fa2daae18478c3b172c7fea89dc56f121b1d21366"), looks := false }, kinds := [], alts := [], laidByText := true, laidKinds := [.data, .pinned], laidTests := true, laidLooks := .later }
def PoolReadCardSaid : Prop := Claim7.holds Tryd.pinned (.plain (OpenSpec.ofChange poolReadSpec)) poolReadCard

/-- THE SECOND FORM's CARD OF 'obelisklaw3.NamesAll'. -/
def namesAllUptoCard : Claim7 := { stood := { row := namesAllUptoRow, standIns := [], harness := (true, "a443ff494c052271338e7d3fa2daae18478c3b172c7fea89dc56f121b1d21366"), looks := false }, kinds := [], alts := [], laidByText := true, laidKinds := [.data, .pinned], laidTests := true, laidLooks := .later }
def NamesAllUptoCardSaid : Prop := Claim7.holds Tryd.pinned (.plain (OpenSpec.upto namesAllSpec)) namesAllUptoCard

/-- THE SECOND FORM's CARD OF 'obelisklaw3.NamesLong'. -/
def namesLongUptoCard : Claim7 := { stood := { row := namesLongUptoRow, standIns := [], harness := (true, "a443ff494c052271338e7d3fa2daae18478c3b172c7fea89dc56f121b1d21366"), looks := false }, kinds := [], alts := [], laidByText := true, laidKinds := [.data, .pinned], laidTests := true, laidLooks := .later }
def NamesLongUptoCardSaid : Prop := Claim7.holds Tryd.pinned (.plain (OpenSpec.upto namesLongSpec)) namesLongUptoCard

/-- THE SECOND FORM's CARD OF 'obelisklaw3.NamesJoin'. -/
def namesJoinUptoCard : Claim7 := { stood := { row := namesJoinUptoRow, standIns := [], harness := (true, "a443ff494c052271338e7d3fa2daae18478c3b172c7fea89dc56f121b1d21366"), looks := false }, kinds := [], alts := [], laidByText := true, laidKinds := [.data, .pinned], laidTests := true, laidLooks := .later }
def NamesJoinUptoCardSaid : Prop := Claim7.holds Tryd.pinned (.plain (OpenSpec.upto namesJoinSpec)) namesJoinUptoCard

/-- THE SECOND FORM's CARD OF 'obelisklaw4.DescrField'. -/
def descrFieldUptoCard : Claim7 := { stood := { row := descrFieldUptoRow, standIns := [], harness := (true, "a443ff494c052271338e7d3fa2daae18478c3b172c7fea89dc56f121b1d21366"), looks := false }, kinds := [], alts := [], laidByText := true, laidKinds := [.data, .pinned], laidTests := true, laidLooks := .later }
def DescrFieldUptoCardSaid : Prop := Claim7.holds Tryd.pinned (.plain (OpenSpec.upto descrFieldSpec)) descrFieldUptoCard

/-- THE SECOND FORM's CARD OF 'obelisklaw4.DescrMethod'. -/
def descrMethodUptoCard : Claim7 := { stood := { row := descrMethodUptoRow, standIns := [], harness := (true, "a443ff494c052271338e7d3fa2daae18478c3b172c7fea89dc56f121b1d21366"), looks := false }, kinds := [], alts := [], laidByText := true, laidKinds := [.data, .pinned], laidTests := true, laidLooks := .later }
def DescrMethodUptoCardSaid : Prop := Claim7.holds Tryd.pinned (.plain (OpenSpec.upto descrMethodSpec)) descrMethodUptoCard

/-- THE SECOND FORM's CARD OF 'obelisklaw4.DescrDims'. -/
def descrDimsUptoCard : Claim7 := { stood := { row := descrDimsUptoRow, standIns := [], harness := (true, "a443ff494c052271338e7d3fa2daae18478c3b172c7fea89dc56f121b1d21366"), looks := false }, kinds := [], alts := [], laidByText := true, laidKinds := [.data, .pinned], laidTests := true, laidLooks := .later }
def DescrDimsUptoCardSaid : Prop := Claim7.holds Tryd.pinned (.plain (OpenSpec.upto descrDimsSpec)) descrDimsUptoCard

/-- THE SECOND FORM's CARD OF 'obelisklaw4.DescrBuild'. -/
def descrBuildUptoCard : Claim7 := { stood := { row := descrBuildUptoRow, standIns := [], harness := (true, "a443ff494c052271338e7d3fa2daae18478c3b172c7fea89dc56f121b1d21366"), looks := false }, kinds := [], alts := [], laidByText := true, laidKinds := [.data, .pinned], laidTests := true, laidLooks := .later }
def DescrBuildUptoCardSaid : Prop := Claim7.holds Tryd.pinned (.plain (OpenSpec.upto descrBuildSpec)) descrBuildUptoCard

/-- THE SECOND FORM's CARD OF 'obelisklaw5.PoolTexts'. -/
def poolTextsUptoCard : Claim7 := { stood := { row := poolTextsUptoRow, standIns := [], harness := (true, "a443ff494c052271338e7d3fa2daae18478c3b172c7fea89dc56f121b1d21366"), looks := false }, kinds := [], alts := [], laidByText := true, laidKinds := [.data, .pinned], laidTests := true, laidLooks := .later }
def PoolTextsUptoCardSaid : Prop := Claim7.holds Tryd.pinned (.plain (OpenSpec.upto poolTextsSpec)) poolTextsUptoCard

/-- THE SECOND FORM's CARD OF 'obelisklaw5.PoolWitness'. -/
def poolWitnessUptoCard : Claim7 := { stood := { row := poolWitnessUptoRow, standIns := [], harness := (true, "a443ff494c052271338e7d3fa2daae18478c3b172c7fea89dc56f121b1d21366"), looks := false }, kinds := [], alts := [], laidByText := true, laidKinds := [.data, .pinned], laidTests := true, laidLooks := .later }
def PoolWitnessUptoCardSaid : Prop := Claim7.holds Tryd.pinned (.plain (OpenSpec.upto poolWitnessSpec)) poolWitnessUptoCard

/-- THE SECOND FORM's CARD OF 'obelisklaw5.PoolRead'. -/
def poolReadUptoCard : Claim7 := { stood := { row := poolReadUptoRow, standIns := [], harness := (true, "a443ff494c052271338e7d3fa2daae18478c3b172c7fea89dc56f121b1d21366"), looks := false }, kinds := [], alts := [], laidByText := true, laidKinds := [.data, .pinned], laidTests := true, laidLooks := .later }
def PoolReadUptoCardSaid : Prop := Claim7.holds Tryd.pinned (.plain (OpenSpec.upto poolReadSpec)) poolReadUptoCard
end Rows
end Go.Proofs.YtnpfppddongbhaaDoor
