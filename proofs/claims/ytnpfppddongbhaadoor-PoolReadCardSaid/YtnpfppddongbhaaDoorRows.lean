/-
  NARROWER THAN 'FOR EVERY INPUT', by the rows' own cells (each row's printed sentence says how): NamesAll: laid · NamesLong: laid · NamesJoin: laid · DescrField: laid · DescrMethod: laid · DescrDims: laid · DescrBuild: laid · PoolTexts: laid · PoolWitness: laid · PoolRead: laid.
  DERIVED. THE GIVEN ROWS OF THIS SEAT. 10 by the template 'for every input the law returns true; each argument reads behind the call as it read before'; 0 by the template 'total and deterministic' (their statements: YtnpfppddongbhaaDoorTotals.lean).
  GIVEN WITH THE SEED: the statements are not yours to turn. If you find one false, say at which input.
  Laid BY PROGRAM, IN A SANDBOX (cutbox-rows.mjs): the forced cells as the released guide's own fill.sh prints them over the translation debe4b413b73a740… (all of the seat's roots in one cut). By AI agents, Wed Nov 11 2026. No macro, syntax, notation, axiom, sorry.
-/
import Derived.Test.YtnpfppddongbhaaDoorChecked
import GoSem.PinnedTables
import GoSem.Claim
import GoSem.ClaimJoined
import GoSem.ClaimMapViews
import Derived.JoinedTies
import Derived.KernelRfl
namespace Go.Proofs.YtnpfppddongbhaaDoor
/- THE CELL 'sum', in the pinned program and in every row, IS THE sha256 OF THE DUMP (.gsa) THAT YtnpfppddongbhaaDoorProg.lean LOADS. Nothing in Lean hashes anything: it is a label: what it is worth is what the hold of that sum in a sandbox is worth. -/
noncomputable def Tryd.pinned : Pinned := { name := "ytnpfppddongbhaadoor", sum := "debe4b413b73a740284cd01390347b063c00abf73cfb654ebc3facdcadd0f469", checked := Tryd.checked }
namespace Rows
def none {H : Type} : Left H := { results := [], args := [] }

/- WHAT THE LISTED PACKAGE-LEVEL VARIABLES READ AS WHEN THE CALL BEGINS. Each datum BY PROGRAM (the guide's laid-datum.mjs) off the statement by which the dump's own 'gosem.cut.vars' lays the variable. In a bare row this is a premise. The card (YtnpfppddongbhaaDoorCards.lean) ties it to the program's text. -/
def laid_unicode_utf8_acceptRanges {H : Type} : DataW H := .agg [.agg [.lit (.int .u8 128), .lit (.int .u8 191)], .agg [.lit (.int .u8 160), .lit (.int .u8 191)], .agg [.lit (.int .u8 128), .lit (.int .u8 159)], .agg [.lit (.int .u8 144), .lit (.int .u8 191)], .agg [.lit (.int .u8 128), .lit (.int .u8 143)], .agg [.lit (.int .u8 0), .lit (.int .u8 0)], .agg [.lit (.int .u8 0), .lit (.int .u8 0)], .agg [.lit (.int .u8 0), .lit (.int .u8 0)], .agg [.lit (.int .u8 0), .lit (.int .u8 0)], .agg [.lit (.int .u8 0), .lit (.int .u8 0)], .agg [.lit (.int .u8 0), .lit (.int .u8 0)], .agg [.lit (.int .u8 0), .lit (.int .u8 0)], .agg [.lit (.int .u8 0), .lit (.int .u8 0)], .agg [.lit (.int .u8 0), .lit (.int .u8 0)], .agg [.lit (.int .u8 0), .lit (.int .u8 0)], .agg [.lit (.int .u8 0), .lit (.int .u8 0)]]
/-- One of Go's own tables, pinned by name: the form's constant. -/
def laid_unicode_utf8_first : DataW Unit := Go.Pinned.utf8First

/-- 'obelisklaw3.NamesAll': WHATEVER THE INPUT: true; the input reads as it did. -/
def namesAllSpec : ChangeSpec := { name := "namesAll", fn := fun _ => fun
  | [d] => { results := [.lit (.bool true)], args := [d] }
  | _ => none }
def namesAllRow : OpenClaim := { program := "ytnpfppddongbhaadoor", sum := "debe4b413b73a740284cd01390347b063c00abf73cfb654ebc3facdcadd0f469", func := "obelisk/obelisklaw3.NamesAll", spec := "namesAll", inPlace := ["internal/bytealg.IndexByteString", "internal/bytealg.IndexString", "internal/bytealg.CountString", "internal/abi.NoEscape", "internal/bytealg.MakeNoZero"], named := ["unicode/utf8.first", "unicode/utf8.acceptRanges", "internal/bytealg.MaxLen"], apart := false, laid := [("unicode/utf8.acceptRanges", laid_unicode_utf8_acceptRanges), ("unicode/utf8.first", laid_unicode_utf8_first)] }
def NamesAllSaid : Prop := namesAllRow.holds Tryd.pinned (OpenSpec.ofChange namesAllSpec)

/-- ITS FALSE NEIGHBOUR: 'it returns false'. Refute it at one input. -/
def namesAllWrong : ChangeSpec := { name := "namesAll", fn := fun _ => fun
  | [d] => { results := [.lit (.bool false)], args := [d] }
  | _ => none }
def NamesAllWrongFalsely : Prop := namesAllRow.holds Tryd.pinned (OpenSpec.ofChange namesAllWrong)

/-- 'obelisklaw3.NamesLong': WHATEVER THE INPUT: true; the input reads as it did. -/
def namesLongSpec : ChangeSpec := { name := "namesLong", fn := fun _ => fun
  | [d1, d2] => { results := [.lit (.bool true)], args := [d1, d2] }
  | _ => none }
def namesLongRow : OpenClaim := { program := "ytnpfppddongbhaadoor", sum := "debe4b413b73a740284cd01390347b063c00abf73cfb654ebc3facdcadd0f469", func := "obelisk/obelisklaw3.NamesLong", spec := "namesLong", inPlace := ["internal/bytealg.IndexByteString", "internal/bytealg.IndexString", "internal/bytealg.CountString", "internal/abi.NoEscape", "internal/bytealg.MakeNoZero"], named := ["unicode/utf8.first", "unicode/utf8.acceptRanges", "internal/bytealg.MaxLen"], apart := false, laid := [("unicode/utf8.acceptRanges", laid_unicode_utf8_acceptRanges), ("unicode/utf8.first", laid_unicode_utf8_first)] }
def NamesLongSaid : Prop := namesLongRow.holds Tryd.pinned (OpenSpec.ofChange namesLongSpec)

/-- ITS FALSE NEIGHBOUR: 'it returns false'. Refute it at one input. -/
def namesLongWrong : ChangeSpec := { name := "namesLong", fn := fun _ => fun
  | [d1, d2] => { results := [.lit (.bool false)], args := [d1, d2] }
  | _ => none }
def NamesLongWrongFalsely : Prop := namesLongRow.holds Tryd.pinned (OpenSpec.ofChange namesLongWrong)

/-- 'obelisklaw3.NamesJoin': WHATEVER THE INPUT: true; the input reads as it did. -/
def namesJoinSpec : ChangeSpec := { name := "namesJoin", fn := fun _ => fun
  | [d1, d2] => { results := [.lit (.bool true)], args := [d1, d2] }
  | _ => none }
def namesJoinRow : OpenClaim := { program := "ytnpfppddongbhaadoor", sum := "debe4b413b73a740284cd01390347b063c00abf73cfb654ebc3facdcadd0f469", func := "obelisk/obelisklaw3.NamesJoin", spec := "namesJoin", inPlace := ["internal/bytealg.IndexByteString", "internal/bytealg.IndexString", "internal/bytealg.CountString", "internal/abi.NoEscape", "internal/bytealg.MakeNoZero"], named := ["unicode/utf8.first", "unicode/utf8.acceptRanges", "internal/bytealg.MaxLen"], apart := false, laid := [("unicode/utf8.acceptRanges", laid_unicode_utf8_acceptRanges), ("unicode/utf8.first", laid_unicode_utf8_first)] }
def NamesJoinSaid : Prop := namesJoinRow.holds Tryd.pinned (OpenSpec.ofChange namesJoinSpec)

/-- ITS FALSE NEIGHBOUR: 'it returns false'. Refute it at one input. -/
def namesJoinWrong : ChangeSpec := { name := "namesJoin", fn := fun _ => fun
  | [d1, d2] => { results := [.lit (.bool false)], args := [d1, d2] }
  | _ => none }
def NamesJoinWrongFalsely : Prop := namesJoinRow.holds Tryd.pinned (OpenSpec.ofChange namesJoinWrong)

/-- 'obelisklaw4.DescrField': WHATEVER THE INPUT: true; the input reads as it did. -/
def descrFieldSpec : ChangeSpec := { name := "descrField", fn := fun _ => fun
  | [d] => { results := [.lit (.bool true)], args := [d] }
  | _ => none }
def descrFieldRow : OpenClaim := { program := "ytnpfppddongbhaadoor", sum := "debe4b413b73a740284cd01390347b063c00abf73cfb654ebc3facdcadd0f469", func := "obelisk/obelisklaw4.DescrField", spec := "descrField", inPlace := ["internal/bytealg.IndexByteString", "internal/bytealg.IndexString", "internal/bytealg.CountString", "internal/abi.NoEscape", "internal/bytealg.MakeNoZero"], named := ["internal/bytealg.MaxLen", "unicode/utf8.first", "unicode/utf8.acceptRanges"], apart := false, laid := [("unicode/utf8.acceptRanges", laid_unicode_utf8_acceptRanges), ("unicode/utf8.first", laid_unicode_utf8_first)] }
def DescrFieldSaid : Prop := descrFieldRow.holds Tryd.pinned (OpenSpec.ofChange descrFieldSpec)

/-- ITS FALSE NEIGHBOUR: 'it returns false'. Refute it at one input. -/
def descrFieldWrong : ChangeSpec := { name := "descrField", fn := fun _ => fun
  | [d] => { results := [.lit (.bool false)], args := [d] }
  | _ => none }
def DescrFieldWrongFalsely : Prop := descrFieldRow.holds Tryd.pinned (OpenSpec.ofChange descrFieldWrong)

/-- 'obelisklaw4.DescrMethod': WHATEVER THE INPUT: true; the input reads as it did. -/
def descrMethodSpec : ChangeSpec := { name := "descrMethod", fn := fun _ => fun
  | [d] => { results := [.lit (.bool true)], args := [d] }
  | _ => none }
def descrMethodRow : OpenClaim := { program := "ytnpfppddongbhaadoor", sum := "debe4b413b73a740284cd01390347b063c00abf73cfb654ebc3facdcadd0f469", func := "obelisk/obelisklaw4.DescrMethod", spec := "descrMethod", inPlace := ["internal/bytealg.IndexByteString", "internal/bytealg.IndexString", "internal/bytealg.CountString", "internal/abi.NoEscape", "internal/bytealg.MakeNoZero"], named := ["internal/bytealg.MaxLen", "unicode/utf8.first", "unicode/utf8.acceptRanges"], apart := false, laid := [("unicode/utf8.acceptRanges", laid_unicode_utf8_acceptRanges), ("unicode/utf8.first", laid_unicode_utf8_first)] }
def DescrMethodSaid : Prop := descrMethodRow.holds Tryd.pinned (OpenSpec.ofChange descrMethodSpec)

/-- ITS FALSE NEIGHBOUR: 'it returns false'. Refute it at one input. -/
def descrMethodWrong : ChangeSpec := { name := "descrMethod", fn := fun _ => fun
  | [d] => { results := [.lit (.bool false)], args := [d] }
  | _ => none }
def DescrMethodWrongFalsely : Prop := descrMethodRow.holds Tryd.pinned (OpenSpec.ofChange descrMethodWrong)

/-- 'obelisklaw4.DescrDims': WHATEVER THE INPUT: true; the input reads as it did. -/
def descrDimsSpec : ChangeSpec := { name := "descrDims", fn := fun _ => fun
  | [d1, d2] => { results := [.lit (.bool true)], args := [d1, d2] }
  | _ => none }
def descrDimsRow : OpenClaim := { program := "ytnpfppddongbhaadoor", sum := "debe4b413b73a740284cd01390347b063c00abf73cfb654ebc3facdcadd0f469", func := "obelisk/obelisklaw4.DescrDims", spec := "descrDims", inPlace := ["internal/bytealg.IndexByteString", "internal/bytealg.IndexString", "internal/bytealg.CountString", "internal/abi.NoEscape", "internal/bytealg.MakeNoZero"], named := ["internal/bytealg.MaxLen", "unicode/utf8.first", "unicode/utf8.acceptRanges"], apart := false, laid := [("unicode/utf8.acceptRanges", laid_unicode_utf8_acceptRanges), ("unicode/utf8.first", laid_unicode_utf8_first)] }
def DescrDimsSaid : Prop := descrDimsRow.holds Tryd.pinned (OpenSpec.ofChange descrDimsSpec)

/-- ITS FALSE NEIGHBOUR: 'it returns false'. Refute it at one input. -/
def descrDimsWrong : ChangeSpec := { name := "descrDims", fn := fun _ => fun
  | [d1, d2] => { results := [.lit (.bool false)], args := [d1, d2] }
  | _ => none }
def DescrDimsWrongFalsely : Prop := descrDimsRow.holds Tryd.pinned (OpenSpec.ofChange descrDimsWrong)

/-- 'obelisklaw4.DescrBuild': WHATEVER THE INPUT: true; the input reads as it did. -/
def descrBuildSpec : ChangeSpec := { name := "descrBuild", fn := fun _ => fun
  | [d1, d2, d3] => { results := [.lit (.bool true)], args := [d1, d2, d3] }
  | _ => none }
def descrBuildRow : OpenClaim := { program := "ytnpfppddongbhaadoor", sum := "debe4b413b73a740284cd01390347b063c00abf73cfb654ebc3facdcadd0f469", func := "obelisk/obelisklaw4.DescrBuild", spec := "descrBuild", inPlace := ["internal/bytealg.IndexByteString", "internal/bytealg.IndexString", "internal/bytealg.CountString", "internal/abi.NoEscape", "internal/bytealg.MakeNoZero"], named := ["internal/bytealg.MaxLen", "unicode/utf8.first", "unicode/utf8.acceptRanges"], apart := false, laid := [("unicode/utf8.acceptRanges", laid_unicode_utf8_acceptRanges), ("unicode/utf8.first", laid_unicode_utf8_first)] }
def DescrBuildSaid : Prop := descrBuildRow.holds Tryd.pinned (OpenSpec.ofChange descrBuildSpec)

/-- ITS FALSE NEIGHBOUR: 'it returns false'. Refute it at one input. -/
def descrBuildWrong : ChangeSpec := { name := "descrBuild", fn := fun _ => fun
  | [d1, d2, d3] => { results := [.lit (.bool false)], args := [d1, d2, d3] }
  | _ => none }
def DescrBuildWrongFalsely : Prop := descrBuildRow.holds Tryd.pinned (OpenSpec.ofChange descrBuildWrong)

/-- 'obelisklaw5.PoolTexts': WHATEVER THE INPUT: true; the input reads as it did. -/
def poolTextsSpec : ChangeSpec := { name := "poolTexts", fn := fun _ => fun
  | [d1, d2] => { results := [.lit (.bool true)], args := [d1, d2] }
  | _ => none }
def poolTextsRow : OpenClaim := { program := "ytnpfppddongbhaadoor", sum := "debe4b413b73a740284cd01390347b063c00abf73cfb654ebc3facdcadd0f469", func := "obelisk/obelisklaw5.PoolTexts", spec := "poolTexts", inPlace := ["internal/bytealg.IndexByteString", "internal/bytealg.IndexString", "internal/bytealg.CountString"], named := ["internal/bytealg.MaxLen", "unicode/utf8.first", "unicode/utf8.acceptRanges"], apart := false, laid := [("unicode/utf8.acceptRanges", laid_unicode_utf8_acceptRanges), ("unicode/utf8.first", laid_unicode_utf8_first)] }
def PoolTextsSaid : Prop := poolTextsRow.holds Tryd.pinned (OpenSpec.ofChange poolTextsSpec)

/-- ITS FALSE NEIGHBOUR: 'it returns false'. Refute it at one input. -/
def poolTextsWrong : ChangeSpec := { name := "poolTexts", fn := fun _ => fun
  | [d1, d2] => { results := [.lit (.bool false)], args := [d1, d2] }
  | _ => none }
def PoolTextsWrongFalsely : Prop := poolTextsRow.holds Tryd.pinned (OpenSpec.ofChange poolTextsWrong)

/-- 'obelisklaw5.PoolWitness': WHATEVER THE INPUT: true; the input reads as it did. -/
def poolWitnessSpec : ChangeSpec := { name := "poolWitness", fn := fun _ => fun
  | [] => { results := [.lit (.bool true)], args := [] }
  | _ => none }
def poolWitnessRow : OpenClaim := { program := "ytnpfppddongbhaadoor", sum := "debe4b413b73a740284cd01390347b063c00abf73cfb654ebc3facdcadd0f469", func := "obelisk/obelisklaw5.PoolWitness", spec := "poolWitness", inPlace := ["internal/bytealg.IndexByteString", "internal/bytealg.IndexString", "internal/bytealg.CountString"], named := ["internal/bytealg.MaxLen", "unicode/utf8.first", "unicode/utf8.acceptRanges"], apart := false, laid := [("unicode/utf8.acceptRanges", laid_unicode_utf8_acceptRanges), ("unicode/utf8.first", laid_unicode_utf8_first)] }
def PoolWitnessSaid : Prop := poolWitnessRow.holds Tryd.pinned (OpenSpec.ofChange poolWitnessSpec)

/-- ITS FALSE NEIGHBOUR: 'it returns false'. Refute it at one input. -/
def poolWitnessWrong : ChangeSpec := { name := "poolWitness", fn := fun _ => fun
  | [] => { results := [.lit (.bool false)], args := [] }
  | _ => none }
def PoolWitnessWrongFalsely : Prop := poolWitnessRow.holds Tryd.pinned (OpenSpec.ofChange poolWitnessWrong)

/-- 'obelisklaw5.PoolRead': WHATEVER THE INPUT: true; the input reads as it did. -/
def poolReadSpec : ChangeSpec := { name := "poolRead", fn := fun _ => fun
  | [d1, d2, d3, d4] => { results := [.lit (.bool true)], args := [d1, d2, d3, d4] }
  | _ => none }
def poolReadRow : OpenClaim := { program := "ytnpfppddongbhaadoor", sum := "debe4b413b73a740284cd01390347b063c00abf73cfb654ebc3facdcadd0f469", func := "obelisk/obelisklaw5.PoolRead", spec := "poolRead", inPlace := ["internal/bytealg.IndexByteString", "internal/bytealg.IndexString", "internal/bytealg.CountString"], named := ["internal/bytealg.MaxLen", "unicode/utf8.first", "unicode/utf8.acceptRanges"], apart := false, laid := [("unicode/utf8.acceptRanges", laid_unicode_utf8_acceptRanges), ("unicode/utf8.first", laid_unicode_utf8_first)] }
def PoolReadSaid : Prop := poolReadRow.holds Tryd.pinned (OpenSpec.ofChange poolReadSpec)

/-- ITS FALSE NEIGHBOUR: 'it returns false'. Refute it at one input. -/
def poolReadWrong : ChangeSpec := { name := "poolRead", fn := fun _ => fun
  | [d1, d2, d3, d4] => { results := [.lit (.bool false)], args := [d1, d2, d3, d4] }
  | _ => none }
def PoolReadWrongFalsely : Prop := poolReadRow.holds Tryd.pinned (OpenSpec.ofChange poolReadWrong)

/- THE SECOND FORM. 'bulk': how many values and letters a reading holds, each counted each time it is reached (what is shared counts as often as it is met; a slice's spare places count too). A statement '..UptoSaid' is the law's where the arguments, and the package variables that the reading takes, are together of bulk at most 1048576: NARROWER than '..Said'. Prove '..Said' where nothing that the law and all that it calls make is longer than what came in: it says more and counts as full. Else prove '..UptoSaid'. A law counts once. -/
mutual
def uptoBulk {H : Type} : DataW H → Nat
  | .lit (.string bytes) => bytes.length + 1
  | .lit _ => 1
  | .nil => 1
  | .ptr d => uptoBulk d + 1
  | .slice elems spare => uptoBulkAll elems + uptoBulkAll spare + 1
  | .agg parts => uptoBulkAll parts + 1
  | .iface _ d => uptoBulk d + 1
  | .map entries => uptoBulkEntries entries + 1
  | .held _ => 1
def uptoBulkAll {H : Type} : List (DataW H) → Nat
  | [] => 0
  | d :: r => uptoBulk d + uptoBulkAll r
def uptoBulkEntries {H : Type} : List (Lit × DataW H) → Nat
  | [] => 0
  | x :: r => uptoBulkEntry x + uptoBulkEntries r
def uptoBulkEntry {H : Type} : Lit × DataW H → Nat
  | (.string bytes, d) => bytes.length + uptoBulk d + 1
  | (_, d) => uptoBulk d + 1
 end
def uptoSmall : (H : Type) → List (DataW H) → Bool := fun _ ds => decide (uptoBulkAll ds ≤ 1048576)
def OpenSpec.upto (s : _root_.Go.ChangeSpec) : _root_.Go.OpenSpec := { _root_.Go.OpenSpec.ofChange s with cond := some uptoSmall }

/-- 'obelisklaw3.NamesAll', WHERE WHAT IT READS IS OF BULK AT MOST 1048576: true; the input reads as it did. -/
def namesAllUptoRow : OpenClaim := { program := "ytnpfppddongbhaadoor", sum := "debe4b413b73a740284cd01390347b063c00abf73cfb654ebc3facdcadd0f469", func := "obelisk/obelisklaw3.NamesAll", spec := "namesAll", inPlace := ["internal/bytealg.IndexByteString", "internal/bytealg.IndexString", "internal/bytealg.CountString", "internal/abi.NoEscape", "internal/bytealg.MakeNoZero"], named := ["unicode/utf8.first", "unicode/utf8.acceptRanges", "internal/bytealg.MaxLen"], apart := false, laid := [("unicode/utf8.acceptRanges", laid_unicode_utf8_acceptRanges), ("unicode/utf8.first", laid_unicode_utf8_first)], narrowed := true }
def NamesAllUptoSaid : Prop := namesAllUptoRow.holds Tryd.pinned (OpenSpec.upto namesAllSpec)

/-- 'obelisklaw3.NamesLong', WHERE WHAT IT READS IS OF BULK AT MOST 1048576: true; the input reads as it did. -/
def namesLongUptoRow : OpenClaim := { program := "ytnpfppddongbhaadoor", sum := "debe4b413b73a740284cd01390347b063c00abf73cfb654ebc3facdcadd0f469", func := "obelisk/obelisklaw3.NamesLong", spec := "namesLong", inPlace := ["internal/bytealg.IndexByteString", "internal/bytealg.IndexString", "internal/bytealg.CountString", "internal/abi.NoEscape", "internal/bytealg.MakeNoZero"], named := ["unicode/utf8.first", "unicode/utf8.acceptRanges", "internal/bytealg.MaxLen"], apart := false, laid := [("unicode/utf8.acceptRanges", laid_unicode_utf8_acceptRanges), ("unicode/utf8.first", laid_unicode_utf8_first)], narrowed := true }
def NamesLongUptoSaid : Prop := namesLongUptoRow.holds Tryd.pinned (OpenSpec.upto namesLongSpec)

/-- 'obelisklaw3.NamesJoin', WHERE WHAT IT READS IS OF BULK AT MOST 1048576: true; the input reads as it did. -/
def namesJoinUptoRow : OpenClaim := { program := "ytnpfppddongbhaadoor", sum := "debe4b413b73a740284cd01390347b063c00abf73cfb654ebc3facdcadd0f469", func := "obelisk/obelisklaw3.NamesJoin", spec := "namesJoin", inPlace := ["internal/bytealg.IndexByteString", "internal/bytealg.IndexString", "internal/bytealg.CountString", "internal/abi.NoEscape", "internal/bytealg.MakeNoZero"], named := ["unicode/utf8.first", "unicode/utf8.acceptRanges", "internal/bytealg.MaxLen"], apart := false, laid := [("unicode/utf8.acceptRanges", laid_unicode_utf8_acceptRanges), ("unicode/utf8.first", laid_unicode_utf8_first)], narrowed := true }
def NamesJoinUptoSaid : Prop := namesJoinUptoRow.holds Tryd.pinned (OpenSpec.upto namesJoinSpec)

/-- 'obelisklaw4.DescrField', WHERE WHAT IT READS IS OF BULK AT MOST 1048576: true; the input reads as it did. -/
def descrFieldUptoRow : OpenClaim := { program := "ytnpfppddongbhaadoor", sum := "debe4b413b73a740284cd01390347b063c00abf73cfb654ebc3facdcadd0f469", func := "obelisk/obelisklaw4.DescrField", spec := "descrField", inPlace := ["internal/bytealg.IndexByteString", "internal/bytealg.IndexString", "internal/bytealg.CountString", "internal/abi.NoEscape", "internal/bytealg.MakeNoZero"], named := ["internal/bytealg.MaxLen", "unicode/utf8.first", "unicode/utf8.acceptRanges"], apart := false, laid := [("unicode/utf8.acceptRanges", laid_unicode_utf8_acceptRanges), ("unicode/utf8.first", laid_unicode_utf8_first)], narrowed := true }
def DescrFieldUptoSaid : Prop := descrFieldUptoRow.holds Tryd.pinned (OpenSpec.upto descrFieldSpec)

/-- 'obelisklaw4.DescrMethod', WHERE WHAT IT READS IS OF BULK AT MOST 1048576: true; the input reads as it did. -/
def descrMethodUptoRow : OpenClaim := { program := "ytnpfppddongbhaadoor", sum := "debe4b413b73a740284cd01390347b063c00abf73cfb654ebc3facdcadd0f469", func := "obelisk/obelisklaw4.DescrMethod", spec := "descrMethod", inPlace := ["internal/bytealg.IndexByteString", "internal/bytealg.IndexString", "internal/bytealg.CountString", "internal/abi.NoEscape", "internal/bytealg.MakeNoZero"], named := ["internal/bytealg.MaxLen", "unicode/utf8.first", "unicode/utf8.acceptRanges"], apart := false, laid := [("unicode/utf8.acceptRanges", laid_unicode_utf8_acceptRanges), ("unicode/utf8.first", laid_unicode_utf8_first)], narrowed := true }
def DescrMethodUptoSaid : Prop := descrMethodUptoRow.holds Tryd.pinned (OpenSpec.upto descrMethodSpec)

/-- 'obelisklaw4.DescrDims', WHERE WHAT IT READS IS OF BULK AT MOST 1048576: true; the input reads as it did. -/
def descrDimsUptoRow : OpenClaim := { program := "ytnpfppddongbhaadoor", sum := "debe4b413b73a740284cd01390347b063c00abf73cfb654ebc3facdcadd0f469", func := "obelisk/obelisklaw4.DescrDims", spec := "descrDims", inPlace := ["internal/bytealg.IndexByteString", "internal/bytealg.IndexString", "internal/bytealg.CountString", "internal/abi.NoEscape", "internal/bytealg.MakeNoZero"], named := ["internal/bytealg.MaxLen", "unicode/utf8.first", "unicode/utf8.acceptRanges"], apart := false, laid := [("unicode/utf8.acceptRanges", laid_unicode_utf8_acceptRanges), ("unicode/utf8.first", laid_unicode_utf8_first)], narrowed := true }
def DescrDimsUptoSaid : Prop := descrDimsUptoRow.holds Tryd.pinned (OpenSpec.upto descrDimsSpec)

/-- 'obelisklaw4.DescrBuild', WHERE WHAT IT READS IS OF BULK AT MOST 1048576: true; the input reads as it did. -/
def descrBuildUptoRow : OpenClaim := { program := "ytnpfppddongbhaadoor", sum := "debe4b413b73a740284cd01390347b063c00abf73cfb654ebc3facdcadd0f469", func := "obelisk/obelisklaw4.DescrBuild", spec := "descrBuild", inPlace := ["internal/bytealg.IndexByteString", "internal/bytealg.IndexString", "internal/bytealg.CountString", "internal/abi.NoEscape", "internal/bytealg.MakeNoZero"], named := ["internal/bytealg.MaxLen", "unicode/utf8.first", "unicode/utf8.acceptRanges"], apart := false, laid := [("unicode/utf8.acceptRanges", laid_unicode_utf8_acceptRanges), ("unicode/utf8.first", laid_unicode_utf8_first)], narrowed := true }
def DescrBuildUptoSaid : Prop := descrBuildUptoRow.holds Tryd.pinned (OpenSpec.upto descrBuildSpec)

/-- 'obelisklaw5.PoolTexts', WHERE WHAT IT READS IS OF BULK AT MOST 1048576: true; the input reads as it did. -/
def poolTextsUptoRow : OpenClaim := { program := "ytnpfppddongbhaadoor", sum := "debe4b413b73a740284cd01390347b063c00abf73cfb654ebc3facdcadd0f469", func := "obelisk/obelisklaw5.PoolTexts", spec := "poolTexts", inPlace := ["internal/bytealg.IndexByteString", "internal/bytealg.IndexString", "internal/bytealg.CountString"], named := ["internal/bytealg.MaxLen", "unicode/utf8.first", "unicode/utf8.acceptRanges"], apart := false, laid := [("unicode/utf8.acceptRanges", laid_unicode_utf8_acceptRanges), ("unicode/utf8.first", laid_unicode_utf8_first)], narrowed := true }
def PoolTextsUptoSaid : Prop := poolTextsUptoRow.holds Tryd.pinned (OpenSpec.upto poolTextsSpec)

/-- 'obelisklaw5.PoolWitness', WHERE WHAT IT READS IS OF BULK AT MOST 1048576: true; the input reads as it did. -/
def poolWitnessUptoRow : OpenClaim := { program := "ytnpfppddongbhaadoor", sum := "debe4b413b73a740284cd01390347b063c00abf73cfb654ebc3facdcadd0f469", func := "obelisk/obelisklaw5.PoolWitness", spec := "poolWitness", inPlace := ["internal/bytealg.IndexByteString", "internal/bytealg.IndexString", "internal/bytealg.CountString"], named := ["internal/bytealg.MaxLen", "unicode/utf8.first", "unicode/utf8.acceptRanges"], apart := false, laid := [("unicode/utf8.acceptRanges", laid_unicode_utf8_acceptRanges), ("unicode/utf8.first", laid_unicode_utf8_first)], narrowed := true }
def PoolWitnessUptoSaid : Prop := poolWitnessUptoRow.holds Tryd.pinned (OpenSpec.upto poolWitnessSpec)

/-- 'obelisklaw5.PoolRead', WHERE WHAT IT READS IS OF BULK AT MOST 1048576: true; the input reads as it did. -/
def poolReadUptoRow : OpenClaim := { program := "ytnpfppddongbhaadoor", sum := "debe4b413b73a740284cd01390347b063c00abf73cfb654ebc3facdcadd0f469", func := "obelisk/obelisklaw5.PoolRead", spec := "poolRead", inPlace := ["internal/bytealg.IndexByteString", "internal/bytealg.IndexString", "internal/bytealg.CountString"], named := ["internal/bytealg.MaxLen", "unicode/utf8.first", "unicode/utf8.acceptRanges"], apart := false, laid := [("unicode/utf8.acceptRanges", laid_unicode_utf8_acceptRanges), ("unicode/utf8.first", laid_unicode_utf8_first)], narrowed := true }
def PoolReadUptoSaid : Prop := poolReadUptoRow.holds Tryd.pinned (OpenSpec.upto poolReadSpec)

end Rows
end Go.Proofs.YtnpfppddongbhaaDoor
