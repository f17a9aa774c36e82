/-
  No cell of these rows narrows 'for every input' (looked for: loops, veiled, ifaces, maps, wideKeys, modest, calm, conditions, laid).
  DERIVED. THE GIVEN ROWS OF THIS SEAT. 20 by the template 'for every input the law returns true; each argument reads behind the call as it read before'; 0 by the template 'total and deterministic' (their statements: YtnpfppddongbhaaTotals.lean).
  GIVEN WITH THE SEED: the statements are not yours to turn. If you find one false, say at which input.
  Laid BY PROGRAM, IN A SANDBOX (cutbox-rows.mjs): the forced cells as the released guide's own fill.sh prints them over the translation dee24a77bab15b6b… (all of the seat's roots in one cut). By AI agents, Wed Nov 11 2026. No macro, syntax, notation, axiom, sorry.
-/
import Derived.Test.YtnpfppddongbhaaChecked
import GoSem.Claim
import GoSem.ClaimJoined
import GoSem.ClaimMapViews
import Derived.JoinedTies
import Derived.KernelRfl
namespace Go.Proofs.Ytnpfppddongbhaa
/- THE CELL 'sum', in the pinned program and in every row, IS THE sha256 OF THE DUMP (.gsa) THAT YtnpfppddongbhaaProg.lean LOADS. Nothing in Lean hashes anything: it is a label: what it is worth is what the hold of that sum in a sandbox is worth. -/
noncomputable def Try.pinned : Pinned := { name := "ytnpfppddongbhaa", sum := "dee24a77bab15b6b3caa7204e8a874acedcdbc33b2870d33c4475660c26c9208", checked := Try.checked }
namespace Rows
def none {H : Type} : Left H := { results := [], args := [] }

/-- 'obelisklaw0.Names': WHATEVER THE INPUT: true; the input reads as it did. -/
def namesSpec : ChangeSpec := { name := "names", fn := fun _ => fun
  | [] => { results := [.lit (.bool true)], args := [] }
  | _ => none }
def namesRow : OpenClaim := { program := "ytnpfppddongbhaa", sum := "dee24a77bab15b6b3caa7204e8a874acedcdbc33b2870d33c4475660c26c9208", func := "obelisk/obelisklaw0.Names", spec := "names", apart := false }
def NamesSaid : Prop := namesRow.holds Try.pinned (OpenSpec.ofChange namesSpec)

/-- ITS FALSE NEIGHBOUR: 'it returns false'. Refute it at one input. -/
def namesWrong : ChangeSpec := { name := "names", fn := fun _ => fun
  | [] => { results := [.lit (.bool false)], args := [] }
  | _ => none }
def NamesWrongFalsely : Prop := namesRow.holds Try.pinned (OpenSpec.ofChange namesWrong)

/-- 'obelisklaw1.CursorWhole': WHATEVER THE INPUT: true; the input reads as it did. -/
def cursorWholeSpec : ChangeSpec := { name := "cursorWhole", fn := fun _ => fun
  | [d] => { results := [.lit (.bool true)], args := [d] }
  | _ => none }
def cursorWholeRow : OpenClaim := { program := "ytnpfppddongbhaa", sum := "dee24a77bab15b6b3caa7204e8a874acedcdbc33b2870d33c4475660c26c9208", func := "obelisk/obelisklaw1.CursorWhole", spec := "cursorWhole", apart := false }
def CursorWholeSaid : Prop := cursorWholeRow.holds Try.pinned (OpenSpec.ofChange cursorWholeSpec)

/-- ITS FALSE NEIGHBOUR: 'it returns false'. Refute it at one input. -/
def cursorWholeWrong : ChangeSpec := { name := "cursorWhole", fn := fun _ => fun
  | [d] => { results := [.lit (.bool false)], args := [d] }
  | _ => none }
def CursorWholeWrongFalsely : Prop := cursorWholeRow.holds Try.pinned (OpenSpec.ofChange cursorWholeWrong)

/-- 'obelisklaw1.CursorReads': WHATEVER THE INPUT: true; the input reads as it did. -/
def cursorReadsSpec : ChangeSpec := { name := "cursorReads", fn := fun _ => fun
  | [d1, d2] => { results := [.lit (.bool true)], args := [d1, d2] }
  | _ => none }
def cursorReadsRow : OpenClaim := { program := "ytnpfppddongbhaa", sum := "dee24a77bab15b6b3caa7204e8a874acedcdbc33b2870d33c4475660c26c9208", func := "obelisk/obelisklaw1.CursorReads", spec := "cursorReads", apart := false }
def CursorReadsSaid : Prop := cursorReadsRow.holds Try.pinned (OpenSpec.ofChange cursorReadsSpec)

/-- ITS FALSE NEIGHBOUR: 'it returns false'. Refute it at one input. -/
def cursorReadsWrong : ChangeSpec := { name := "cursorReads", fn := fun _ => fun
  | [d1, d2] => { results := [.lit (.bool false)], args := [d1, d2] }
  | _ => none }
def CursorReadsWrongFalsely : Prop := cursorReadsRow.holds Try.pinned (OpenSpec.ofChange cursorReadsWrong)

/-- 'obelisklaw1.CursorNone': WHATEVER THE INPUT: true; the input reads as it did. -/
def cursorNoneSpec : ChangeSpec := { name := "cursorNone", fn := fun _ => fun
  | [] => { results := [.lit (.bool true)], args := [] }
  | _ => none }
def cursorNoneRow : OpenClaim := { program := "ytnpfppddongbhaa", sum := "dee24a77bab15b6b3caa7204e8a874acedcdbc33b2870d33c4475660c26c9208", func := "obelisk/obelisklaw1.CursorNone", spec := "cursorNone", apart := false }
def CursorNoneSaid : Prop := cursorNoneRow.holds Try.pinned (OpenSpec.ofChange cursorNoneSpec)

/-- ITS FALSE NEIGHBOUR: 'it returns false'. Refute it at one input. -/
def cursorNoneWrong : ChangeSpec := { name := "cursorNone", fn := fun _ => fun
  | [] => { results := [.lit (.bool false)], args := [] }
  | _ => none }
def CursorNoneWrongFalsely : Prop := cursorNoneRow.holds Try.pinned (OpenSpec.ofChange cursorNoneWrong)

/-- 'obelisklaw2.MutfDecode': WHATEVER THE INPUT: true; the input reads as it did. -/
def mutfDecodeSpec : ChangeSpec := { name := "mutfDecode", fn := fun _ => fun
  | [d] => { results := [.lit (.bool true)], args := [d] }
  | _ => none }
def mutfDecodeRow : OpenClaim := { program := "ytnpfppddongbhaa", sum := "dee24a77bab15b6b3caa7204e8a874acedcdbc33b2870d33c4475660c26c9208", func := "obelisk/obelisklaw2.MutfDecode", spec := "mutfDecode", apart := false }
def MutfDecodeSaid : Prop := mutfDecodeRow.holds Try.pinned (OpenSpec.ofChange mutfDecodeSpec)

/-- ITS FALSE NEIGHBOUR: 'it returns false'. Refute it at one input. -/
def mutfDecodeWrong : ChangeSpec := { name := "mutfDecode", fn := fun _ => fun
  | [d] => { results := [.lit (.bool false)], args := [d] }
  | _ => none }
def MutfDecodeWrongFalsely : Prop := mutfDecodeRow.holds Try.pinned (OpenSpec.ofChange mutfDecodeWrong)

/-- 'obelisklaw2.MutfBack': WHATEVER THE INPUT: true; the input reads as it did. -/
def mutfBackSpec : ChangeSpec := { name := "mutfBack", fn := fun _ => fun
  | [d] => { results := [.lit (.bool true)], args := [d] }
  | _ => none }
def mutfBackRow : OpenClaim := { program := "ytnpfppddongbhaa", sum := "dee24a77bab15b6b3caa7204e8a874acedcdbc33b2870d33c4475660c26c9208", func := "obelisk/obelisklaw2.MutfBack", spec := "mutfBack", apart := false }
def MutfBackSaid : Prop := mutfBackRow.holds Try.pinned (OpenSpec.ofChange mutfBackSpec)

/-- ITS FALSE NEIGHBOUR: 'it returns false'. Refute it at one input. -/
def mutfBackWrong : ChangeSpec := { name := "mutfBack", fn := fun _ => fun
  | [d] => { results := [.lit (.bool false)], args := [d] }
  | _ => none }
def MutfBackWrongFalsely : Prop := mutfBackRow.holds Try.pinned (OpenSpec.ofChange mutfBackWrong)

/-- 'obelisklaw2.MutfJoin': WHATEVER THE INPUT: true; the input reads as it did. -/
def mutfJoinSpec : ChangeSpec := { name := "mutfJoin", fn := fun _ => fun
  | [d1, d2] => { results := [.lit (.bool true)], args := [d1, d2] }
  | _ => none }
def mutfJoinRow : OpenClaim := { program := "ytnpfppddongbhaa", sum := "dee24a77bab15b6b3caa7204e8a874acedcdbc33b2870d33c4475660c26c9208", func := "obelisk/obelisklaw2.MutfJoin", spec := "mutfJoin", apart := false }
def MutfJoinSaid : Prop := mutfJoinRow.holds Try.pinned (OpenSpec.ofChange mutfJoinSpec)

/-- ITS FALSE NEIGHBOUR: 'it returns false'. Refute it at one input. -/
def mutfJoinWrong : ChangeSpec := { name := "mutfJoin", fn := fun _ => fun
  | [d1, d2] => { results := [.lit (.bool false)], args := [d1, d2] }
  | _ => none }
def MutfJoinWrongFalsely : Prop := mutfJoinRow.holds Try.pinned (OpenSpec.ofChange mutfJoinWrong)

/-- 'obelisklaw2.MutfForms': WHATEVER THE INPUT: true; the input reads as it did. -/
def mutfFormsSpec : ChangeSpec := { name := "mutfForms", fn := fun _ => fun
  | [] => { results := [.lit (.bool true)], args := [] }
  | _ => none }
def mutfFormsRow : OpenClaim := { program := "ytnpfppddongbhaa", sum := "dee24a77bab15b6b3caa7204e8a874acedcdbc33b2870d33c4475660c26c9208", func := "obelisk/obelisklaw2.MutfForms", spec := "mutfForms", apart := false }
def MutfFormsSaid : Prop := mutfFormsRow.holds Try.pinned (OpenSpec.ofChange mutfFormsSpec)

/-- ITS FALSE NEIGHBOUR: 'it returns false'. Refute it at one input. -/
def mutfFormsWrong : ChangeSpec := { name := "mutfForms", fn := fun _ => fun
  | [] => { results := [.lit (.bool false)], args := [] }
  | _ => none }
def MutfFormsWrongFalsely : Prop := mutfFormsRow.holds Try.pinned (OpenSpec.ofChange mutfFormsWrong)

/-- 'obelisklaw21.ArithInt': WHATEVER THE INPUT: true; the input reads as it did. -/
def arithIntSpec : ChangeSpec := { name := "arithInt", fn := fun _ => fun
  | [d1, d2, d3] => { results := [.lit (.bool true)], args := [d1, d2, d3] }
  | _ => none }
def arithIntRow : OpenClaim := { program := "ytnpfppddongbhaa", sum := "dee24a77bab15b6b3caa7204e8a874acedcdbc33b2870d33c4475660c26c9208", func := "obelisk/obelisklaw21.ArithInt", spec := "arithInt", apart := false }
def ArithIntSaid : Prop := arithIntRow.holds Try.pinned (OpenSpec.ofChange arithIntSpec)

/-- ITS FALSE NEIGHBOUR: 'it returns false'. Refute it at one input. -/
def arithIntWrong : ChangeSpec := { name := "arithInt", fn := fun _ => fun
  | [d1, d2, d3] => { results := [.lit (.bool false)], args := [d1, d2, d3] }
  | _ => none }
def ArithIntWrongFalsely : Prop := arithIntRow.holds Try.pinned (OpenSpec.ofChange arithIntWrong)

/-- 'obelisklaw21.ArithLong': WHATEVER THE INPUT: true; the input reads as it did. -/
def arithLongSpec : ChangeSpec := { name := "arithLong", fn := fun _ => fun
  | [d1, d2, d3] => { results := [.lit (.bool true)], args := [d1, d2, d3] }
  | _ => none }
def arithLongRow : OpenClaim := { program := "ytnpfppddongbhaa", sum := "dee24a77bab15b6b3caa7204e8a874acedcdbc33b2870d33c4475660c26c9208", func := "obelisk/obelisklaw21.ArithLong", spec := "arithLong", apart := false }
def ArithLongSaid : Prop := arithLongRow.holds Try.pinned (OpenSpec.ofChange arithLongSpec)

/-- ITS FALSE NEIGHBOUR: 'it returns false'. Refute it at one input. -/
def arithLongWrong : ChangeSpec := { name := "arithLong", fn := fun _ => fun
  | [d1, d2, d3] => { results := [.lit (.bool false)], args := [d1, d2, d3] }
  | _ => none }
def ArithLongWrongFalsely : Prop := arithLongRow.holds Try.pinned (OpenSpec.ofChange arithLongWrong)

/-- 'obelisklaw21.ArithConv': WHATEVER THE INPUT: true; the input reads as it did. -/
def arithConvSpec : ChangeSpec := { name := "arithConv", fn := fun _ => fun
  | [d1, d2, d3] => { results := [.lit (.bool true)], args := [d1, d2, d3] }
  | _ => none }
def arithConvRow : OpenClaim := { program := "ytnpfppddongbhaa", sum := "dee24a77bab15b6b3caa7204e8a874acedcdbc33b2870d33c4475660c26c9208", func := "obelisk/obelisklaw21.ArithConv", spec := "arithConv", apart := false }
def ArithConvSaid : Prop := arithConvRow.holds Try.pinned (OpenSpec.ofChange arithConvSpec)

/-- ITS FALSE NEIGHBOUR: 'it returns false'. Refute it at one input. -/
def arithConvWrong : ChangeSpec := { name := "arithConv", fn := fun _ => fun
  | [d1, d2, d3] => { results := [.lit (.bool false)], args := [d1, d2, d3] }
  | _ => none }
def ArithConvWrongFalsely : Prop := arithConvRow.holds Try.pinned (OpenSpec.ofChange arithConvWrong)

/-- 'obelisklaw21.ArithLaws': WHATEVER THE INPUT: true; the input reads as it did. -/
def arithLawsSpec : ChangeSpec := { name := "arithLaws", fn := fun _ => fun
  | [d1, d2] => { results := [.lit (.bool true)], args := [d1, d2] }
  | _ => none }
def arithLawsRow : OpenClaim := { program := "ytnpfppddongbhaa", sum := "dee24a77bab15b6b3caa7204e8a874acedcdbc33b2870d33c4475660c26c9208", func := "obelisk/obelisklaw21.ArithLaws", spec := "arithLaws", apart := false }
def ArithLawsSaid : Prop := arithLawsRow.holds Try.pinned (OpenSpec.ofChange arithLawsSpec)

/-- ITS FALSE NEIGHBOUR: 'it returns false'. Refute it at one input. -/
def arithLawsWrong : ChangeSpec := { name := "arithLaws", fn := fun _ => fun
  | [d1, d2] => { results := [.lit (.bool false)], args := [d1, d2] }
  | _ => none }
def ArithLawsWrongFalsely : Prop := arithLawsRow.holds Try.pinned (OpenSpec.ofChange arithLawsWrong)

/-- 'obelisklaw21.ArithShifts': WHATEVER THE INPUT: true; the input reads as it did. -/
def arithShiftsSpec : ChangeSpec := { name := "arithShifts", fn := fun _ => fun
  | [d1, d2] => { results := [.lit (.bool true)], args := [d1, d2] }
  | _ => none }
def arithShiftsRow : OpenClaim := { program := "ytnpfppddongbhaa", sum := "dee24a77bab15b6b3caa7204e8a874acedcdbc33b2870d33c4475660c26c9208", func := "obelisk/obelisklaw21.ArithShifts", spec := "arithShifts", apart := false }
def ArithShiftsSaid : Prop := arithShiftsRow.holds Try.pinned (OpenSpec.ofChange arithShiftsSpec)

/-- ITS FALSE NEIGHBOUR: 'it returns false'. Refute it at one input. -/
def arithShiftsWrong : ChangeSpec := { name := "arithShifts", fn := fun _ => fun
  | [d1, d2] => { results := [.lit (.bool false)], args := [d1, d2] }
  | _ => none }
def ArithShiftsWrongFalsely : Prop := arithShiftsRow.holds Try.pinned (OpenSpec.ofChange arithShiftsWrong)

/-- 'obelisklaw21.ArithCompare': WHATEVER THE INPUT: true; the input reads as it did. -/
def arithCompareSpec : ChangeSpec := { name := "arithCompare", fn := fun _ => fun
  | [d1, d2] => { results := [.lit (.bool true)], args := [d1, d2] }
  | _ => none }
def arithCompareRow : OpenClaim := { program := "ytnpfppddongbhaa", sum := "dee24a77bab15b6b3caa7204e8a874acedcdbc33b2870d33c4475660c26c9208", func := "obelisk/obelisklaw21.ArithCompare", spec := "arithCompare", apart := false }
def ArithCompareSaid : Prop := arithCompareRow.holds Try.pinned (OpenSpec.ofChange arithCompareSpec)

/-- ITS FALSE NEIGHBOUR: 'it returns false'. Refute it at one input. -/
def arithCompareWrong : ChangeSpec := { name := "arithCompare", fn := fun _ => fun
  | [d1, d2] => { results := [.lit (.bool false)], args := [d1, d2] }
  | _ => none }
def ArithCompareWrongFalsely : Prop := arithCompareRow.holds Try.pinned (OpenSpec.ofChange arithCompareWrong)

/-- 'obelisklaw6.InstrAt': WHATEVER THE INPUT: true; the input reads as it did. -/
def instrAtSpec : ChangeSpec := { name := "instrAt", fn := fun _ => fun
  | [d1, d2] => { results := [.lit (.bool true)], args := [d1, d2] }
  | _ => none }
def instrAtRow : OpenClaim := { program := "ytnpfppddongbhaa", sum := "dee24a77bab15b6b3caa7204e8a874acedcdbc33b2870d33c4475660c26c9208", func := "obelisk/obelisklaw6.InstrAt", spec := "instrAt", apart := false }
def InstrAtSaid : Prop := instrAtRow.holds Try.pinned (OpenSpec.ofChange instrAtSpec)

/-- ITS FALSE NEIGHBOUR: 'it returns false'. Refute it at one input. -/
def instrAtWrong : ChangeSpec := { name := "instrAt", fn := fun _ => fun
  | [d1, d2] => { results := [.lit (.bool false)], args := [d1, d2] }
  | _ => none }
def InstrAtWrongFalsely : Prop := instrAtRow.holds Try.pinned (OpenSpec.ofChange instrAtWrong)

/-- 'obelisklaw6.InstrOps': WHATEVER THE INPUT: true; the input reads as it did. -/
def instrOpsSpec : ChangeSpec := { name := "instrOps", fn := fun _ => fun
  | [d1, d2] => { results := [.lit (.bool true)], args := [d1, d2] }
  | _ => none }
def instrOpsRow : OpenClaim := { program := "ytnpfppddongbhaa", sum := "dee24a77bab15b6b3caa7204e8a874acedcdbc33b2870d33c4475660c26c9208", func := "obelisk/obelisklaw6.InstrOps", spec := "instrOps", apart := false }
def InstrOpsSaid : Prop := instrOpsRow.holds Try.pinned (OpenSpec.ofChange instrOpsSpec)

/-- ITS FALSE NEIGHBOUR: 'it returns false'. Refute it at one input. -/
def instrOpsWrong : ChangeSpec := { name := "instrOps", fn := fun _ => fun
  | [d1, d2] => { results := [.lit (.bool false)], args := [d1, d2] }
  | _ => none }
def InstrOpsWrongFalsely : Prop := instrOpsRow.holds Try.pinned (OpenSpec.ofChange instrOpsWrong)

/-- 'obelisklaw6.InstrCount': WHATEVER THE INPUT: true; the input reads as it did. -/
def instrCountSpec : ChangeSpec := { name := "instrCount", fn := fun _ => fun
  | [] => { results := [.lit (.bool true)], args := [] }
  | _ => none }
def instrCountRow : OpenClaim := { program := "ytnpfppddongbhaa", sum := "dee24a77bab15b6b3caa7204e8a874acedcdbc33b2870d33c4475660c26c9208", func := "obelisk/obelisklaw6.InstrCount", spec := "instrCount", apart := false }
def InstrCountSaid : Prop := instrCountRow.holds Try.pinned (OpenSpec.ofChange instrCountSpec)

/-- ITS FALSE NEIGHBOUR: 'it returns false'. Refute it at one input. -/
def instrCountWrong : ChangeSpec := { name := "instrCount", fn := fun _ => fun
  | [] => { results := [.lit (.bool false)], args := [] }
  | _ => none }
def InstrCountWrongFalsely : Prop := instrCountRow.holds Try.pinned (OpenSpec.ofChange instrCountWrong)

/-- 'obelisklaw6.InstrBranch': WHATEVER THE INPUT: true; the input reads as it did. -/
def instrBranchSpec : ChangeSpec := { name := "instrBranch", fn := fun _ => fun
  | [d1, d2, d3] => { results := [.lit (.bool true)], args := [d1, d2, d3] }
  | _ => none }
def instrBranchRow : OpenClaim := { program := "ytnpfppddongbhaa", sum := "dee24a77bab15b6b3caa7204e8a874acedcdbc33b2870d33c4475660c26c9208", func := "obelisk/obelisklaw6.InstrBranch", spec := "instrBranch", apart := false }
def InstrBranchSaid : Prop := instrBranchRow.holds Try.pinned (OpenSpec.ofChange instrBranchSpec)

/-- ITS FALSE NEIGHBOUR: 'it returns false'. Refute it at one input. -/
def instrBranchWrong : ChangeSpec := { name := "instrBranch", fn := fun _ => fun
  | [d1, d2, d3] => { results := [.lit (.bool false)], args := [d1, d2, d3] }
  | _ => none }
def InstrBranchWrongFalsely : Prop := instrBranchRow.holds Try.pinned (OpenSpec.ofChange instrBranchWrong)

/-- 'obelisklaw8.MapsRead': WHATEVER THE INPUT: true; the input reads as it did. -/
def mapsReadSpec : ChangeSpec := { name := "mapsRead", fn := fun _ => fun
  | [d] => { results := [.lit (.bool true)], args := [d] }
  | _ => none }
def mapsReadRow : OpenClaim := { program := "ytnpfppddongbhaa", sum := "dee24a77bab15b6b3caa7204e8a874acedcdbc33b2870d33c4475660c26c9208", func := "obelisk/obelisklaw8.MapsRead", spec := "mapsRead", apart := false }
def MapsReadSaid : Prop := mapsReadRow.holds Try.pinned (OpenSpec.ofChange mapsReadSpec)

/-- ITS FALSE NEIGHBOUR: 'it returns false'. Refute it at one input. -/
def mapsReadWrong : ChangeSpec := { name := "mapsRead", fn := fun _ => fun
  | [d] => { results := [.lit (.bool false)], args := [d] }
  | _ => none }
def MapsReadWrongFalsely : Prop := mapsReadRow.holds Try.pinned (OpenSpec.ofChange mapsReadWrong)

/-- 'obelisklaw8.MapsFrames': WHATEVER THE INPUT: true; the input reads as it did. -/
def mapsFramesSpec : ChangeSpec := { name := "mapsFrames", fn := fun _ => fun
  | [d1, d2, d3, d4] => { results := [.lit (.bool true)], args := [d1, d2, d3, d4] }
  | _ => none }
def mapsFramesRow : OpenClaim := { program := "ytnpfppddongbhaa", sum := "dee24a77bab15b6b3caa7204e8a874acedcdbc33b2870d33c4475660c26c9208", func := "obelisk/obelisklaw8.MapsFrames", spec := "mapsFrames", apart := false }
def MapsFramesSaid : Prop := mapsFramesRow.holds Try.pinned (OpenSpec.ofChange mapsFramesSpec)

/-- ITS FALSE NEIGHBOUR: 'it returns false'. Refute it at one input. -/
def mapsFramesWrong : ChangeSpec := { name := "mapsFrames", fn := fun _ => fun
  | [d1, d2, d3, d4] => { results := [.lit (.bool false)], args := [d1, d2, d3, d4] }
  | _ => none }
def MapsFramesWrongFalsely : Prop := mapsFramesRow.holds Try.pinned (OpenSpec.ofChange mapsFramesWrong)

/- THE SECOND FORM. 'bulk': how many values and letters a reading holds, each counted each time it is reached (what is shared counts as often as it is met; a slice's spare places count too). A statement '..UptoSaid' is the law's where the arguments, and the package variables that the reading takes, are together of bulk at most 1048576: NARROWER than '..Said'. Prove '..Said' where nothing that the law and all that it calls make is longer than what came in: it says more and counts as full. Else prove '..UptoSaid'. A law counts once. -/
mutual
def uptoBulk {H : Type} : DataW H → Nat
  | .lit (.string bytes) => bytes.length + 1
  | .lit _ => 1
  | .nil => 1
  | .ptr d => uptoBulk d + 1
  | .slice elems spare => uptoBulkAll elems + uptoBulkAll spare + 1
  | .agg parts => uptoBulkAll parts + 1
  | .iface _ d => uptoBulk d + 1
  | .map entries => uptoBulkEntries entries + 1
  | .held _ => 1
def uptoBulkAll {H : Type} : List (DataW H) → Nat
  | [] => 0
  | d :: r => uptoBulk d + uptoBulkAll r
def uptoBulkEntries {H : Type} : List (Lit × DataW H) → Nat
  | [] => 0
  | x :: r => uptoBulkEntry x + uptoBulkEntries r
def uptoBulkEntry {H : Type} : Lit × DataW H → Nat
  | (.string bytes, d) => bytes.length + uptoBulk d + 1
  | (_, d) => uptoBulk d + 1
 end
def uptoSmall : (H : Type) → List (DataW H) → Bool := fun _ ds => decide (uptoBulkAll ds ≤ 1048576)
def OpenSpec.upto (s : _root_.Go.ChangeSpec) : _root_.Go.OpenSpec := { _root_.Go.OpenSpec.ofChange s with cond := some uptoSmall }

/-- 'obelisklaw0.Names', WHERE WHAT IT READS IS OF BULK AT MOST 1048576: true; the input reads as it did. -/
def namesUptoRow : OpenClaim := { program := "ytnpfppddongbhaa", sum := "dee24a77bab15b6b3caa7204e8a874acedcdbc33b2870d33c4475660c26c9208", func := "obelisk/obelisklaw0.Names", spec := "names", apart := false, narrowed := true }
def NamesUptoSaid : Prop := namesUptoRow.holds Try.pinned (OpenSpec.upto namesSpec)

/-- 'obelisklaw1.CursorWhole', WHERE WHAT IT READS IS OF BULK AT MOST 1048576: true; the input reads as it did. -/
def cursorWholeUptoRow : OpenClaim := { program := "ytnpfppddongbhaa", sum := "dee24a77bab15b6b3caa7204e8a874acedcdbc33b2870d33c4475660c26c9208", func := "obelisk/obelisklaw1.CursorWhole", spec := "cursorWhole", apart := false, narrowed := true }
def CursorWholeUptoSaid : Prop := cursorWholeUptoRow.holds Try.pinned (OpenSpec.upto cursorWholeSpec)

/-- 'obelisklaw1.CursorReads', WHERE WHAT IT READS IS OF BULK AT MOST 1048576: true; the input reads as it did. -/
def cursorReadsUptoRow : OpenClaim := { program := "ytnpfppddongbhaa", sum := "dee24a77bab15b6b3caa7204e8a874acedcdbc33b2870d33c4475660c26c9208", func := "obelisk/obelisklaw1.CursorReads", spec := "cursorReads", apart := false, narrowed := true }
def CursorReadsUptoSaid : Prop := cursorReadsUptoRow.holds Try.pinned (OpenSpec.upto cursorReadsSpec)

/-- 'obelisklaw1.CursorNone', WHERE WHAT IT READS IS OF BULK AT MOST 1048576: true; the input reads as it did. -/
def cursorNoneUptoRow : OpenClaim := { program := "ytnpfppddongbhaa", sum := "dee24a77bab15b6b3caa7204e8a874acedcdbc33b2870d33c4475660c26c9208", func := "obelisk/obelisklaw1.CursorNone", spec := "cursorNone", apart := false, narrowed := true }
def CursorNoneUptoSaid : Prop := cursorNoneUptoRow.holds Try.pinned (OpenSpec.upto cursorNoneSpec)

/-- 'obelisklaw2.MutfDecode', WHERE WHAT IT READS IS OF BULK AT MOST 1048576: true; the input reads as it did. -/
def mutfDecodeUptoRow : OpenClaim := { program := "ytnpfppddongbhaa", sum := "dee24a77bab15b6b3caa7204e8a874acedcdbc33b2870d33c4475660c26c9208", func := "obelisk/obelisklaw2.MutfDecode", spec := "mutfDecode", apart := false, narrowed := true }
def MutfDecodeUptoSaid : Prop := mutfDecodeUptoRow.holds Try.pinned (OpenSpec.upto mutfDecodeSpec)

/-- 'obelisklaw2.MutfBack', WHERE WHAT IT READS IS OF BULK AT MOST 1048576: true; the input reads as it did. -/
def mutfBackUptoRow : OpenClaim := { program := "ytnpfppddongbhaa", sum := "dee24a77bab15b6b3caa7204e8a874acedcdbc33b2870d33c4475660c26c9208", func := "obelisk/obelisklaw2.MutfBack", spec := "mutfBack", apart := false, narrowed := true }
def MutfBackUptoSaid : Prop := mutfBackUptoRow.holds Try.pinned (OpenSpec.upto mutfBackSpec)

/-- 'obelisklaw2.MutfJoin', WHERE WHAT IT READS IS OF BULK AT MOST 1048576: true; the input reads as it did. -/
def mutfJoinUptoRow : OpenClaim := { program := "ytnpfppddongbhaa", sum := "dee24a77bab15b6b3caa7204e8a874acedcdbc33b2870d33c4475660c26c9208", func := "obelisk/obelisklaw2.MutfJoin", spec := "mutfJoin", apart := false, narrowed := true }
def MutfJoinUptoSaid : Prop := mutfJoinUptoRow.holds Try.pinned (OpenSpec.upto mutfJoinSpec)

/-- 'obelisklaw2.MutfForms', WHERE WHAT IT READS IS OF BULK AT MOST 1048576: true; the input reads as it did. -/
def mutfFormsUptoRow : OpenClaim := { program := "ytnpfppddongbhaa", sum := "dee24a77bab15b6b3caa7204e8a874acedcdbc33b2870d33c4475660c26c9208", func := "obelisk/obelisklaw2.MutfForms", spec := "mutfForms", apart := false, narrowed := true }
def MutfFormsUptoSaid : Prop := mutfFormsUptoRow.holds Try.pinned (OpenSpec.upto mutfFormsSpec)

/-- 'obelisklaw21.ArithInt', WHERE WHAT IT READS IS OF BULK AT MOST 1048576: true; the input reads as it did. -/
def arithIntUptoRow : OpenClaim := { program := "ytnpfppddongbhaa", sum := "dee24a77bab15b6b3caa7204e8a874acedcdbc33b2870d33c4475660c26c9208", func := "obelisk/obelisklaw21.ArithInt", spec := "arithInt", apart := false, narrowed := true }
def ArithIntUptoSaid : Prop := arithIntUptoRow.holds Try.pinned (OpenSpec.upto arithIntSpec)

/-- 'obelisklaw21.ArithLong', WHERE WHAT IT READS IS OF BULK AT MOST 1048576: true; the input reads as it did. -/
def arithLongUptoRow : OpenClaim := { program := "ytnpfppddongbhaa", sum := "dee24a77bab15b6b3caa7204e8a874acedcdbc33b2870d33c4475660c26c9208", func := "obelisk/obelisklaw21.ArithLong", spec := "arithLong", apart := false, narrowed := true }
def ArithLongUptoSaid : Prop := arithLongUptoRow.holds Try.pinned (OpenSpec.upto arithLongSpec)

/-- 'obelisklaw21.ArithConv', WHERE WHAT IT READS IS OF BULK AT MOST 1048576: true; the input reads as it did. -/
def arithConvUptoRow : OpenClaim := { program := "ytnpfppddongbhaa", sum := "dee24a77bab15b6b3caa7204e8a874acedcdbc33b2870d33c4475660c26c9208", func := "obelisk/obelisklaw21.ArithConv", spec := "arithConv", apart := false, narrowed := true }
def ArithConvUptoSaid : Prop := arithConvUptoRow.holds Try.pinned (OpenSpec.upto arithConvSpec)

/-- 'obelisklaw21.ArithLaws', WHERE WHAT IT READS IS OF BULK AT MOST 1048576: true; the input reads as it did. -/
def arithLawsUptoRow : OpenClaim := { program := "ytnpfppddongbhaa", sum := "dee24a77bab15b6b3caa7204e8a874acedcdbc33b2870d33c4475660c26c9208", func := "obelisk/obelisklaw21.ArithLaws", spec := "arithLaws", apart := false, narrowed := true }
def ArithLawsUptoSaid : Prop := arithLawsUptoRow.holds Try.pinned (OpenSpec.upto arithLawsSpec)

/-- 'obelisklaw21.ArithShifts', WHERE WHAT IT READS IS OF BULK AT MOST 1048576: true; the input reads as it did. -/
def arithShiftsUptoRow : OpenClaim := { program := "ytnpfppddongbhaa", sum := "dee24a77bab15b6b3caa7204e8a874acedcdbc33b2870d33c4475660c26c9208", func := "obelisk/obelisklaw21.ArithShifts", spec := "arithShifts", apart := false, narrowed := true }
def ArithShiftsUptoSaid : Prop := arithShiftsUptoRow.holds Try.pinned (OpenSpec.upto arithShiftsSpec)

/-- 'obelisklaw21.ArithCompare', WHERE WHAT IT READS IS OF BULK AT MOST 1048576: true; the input reads as it did. -/
def arithCompareUptoRow : OpenClaim := { program := "ytnpfppddongbhaa", sum := "dee24a77bab15b6b3caa7204e8a874acedcdbc33b2870d33c4475660c26c9208", func := "obelisk/obelisklaw21.ArithCompare", spec := "arithCompare", apart := false, narrowed := true }
def ArithCompareUptoSaid : Prop := arithCompareUptoRow.holds Try.pinned (OpenSpec.upto arithCompareSpec)

/-- 'obelisklaw6.InstrAt', WHERE WHAT IT READS IS OF BULK AT MOST 1048576: true; the input reads as it did. -/
def instrAtUptoRow : OpenClaim := { program := "ytnpfppddongbhaa", sum := "dee24a77bab15b6b3caa7204e8a874acedcdbc33b2870d33c4475660c26c9208", func := "obelisk/obelisklaw6.InstrAt", spec := "instrAt", apart := false, narrowed := true }
def InstrAtUptoSaid : Prop := instrAtUptoRow.holds Try.pinned (OpenSpec.upto instrAtSpec)

/-- 'obelisklaw6.InstrOps', WHERE WHAT IT READS IS OF BULK AT MOST 1048576: true; the input reads as it did. -/
def instrOpsUptoRow : OpenClaim := { program := "ytnpfppddongbhaa", sum := "dee24a77bab15b6b3caa7204e8a874acedcdbc33b2870d33c4475660c26c9208", func := "obelisk/obelisklaw6.InstrOps", spec := "instrOps", apart := false, narrowed := true }
def InstrOpsUptoSaid : Prop := instrOpsUptoRow.holds Try.pinned (OpenSpec.upto instrOpsSpec)

/-- 'obelisklaw6.InstrCount', WHERE WHAT IT READS IS OF BULK AT MOST 1048576: true; the input reads as it did. -/
def instrCountUptoRow : OpenClaim := { program := "ytnpfppddongbhaa", sum := "dee24a77bab15b6b3caa7204e8a874acedcdbc33b2870d33c4475660c26c9208", func := "obelisk/obelisklaw6.InstrCount", spec := "instrCount", apart := false, narrowed := true }
def InstrCountUptoSaid : Prop := instrCountUptoRow.holds Try.pinned (OpenSpec.upto instrCountSpec)

/-- 'obelisklaw6.InstrBranch', WHERE WHAT IT READS IS OF BULK AT MOST 1048576: true; the input reads as it did. -/
def instrBranchUptoRow : OpenClaim := { program := "ytnpfppddongbhaa", sum := "dee24a77bab15b6b3caa7204e8a874acedcdbc33b2870d33c4475660c26c9208", func := "obelisk/obelisklaw6.InstrBranch", spec := "instrBranch", apart := false, narrowed := true }
def InstrBranchUptoSaid : Prop := instrBranchUptoRow.holds Try.pinned (OpenSpec.upto instrBranchSpec)

/-- 'obelisklaw8.MapsRead', WHERE WHAT IT READS IS OF BULK AT MOST 1048576: true; the input reads as it did. -/
def mapsReadUptoRow : OpenClaim := { program := "ytnpfppddongbhaa", sum := "dee24a77bab15b6b3caa7204e8a874acedcdbc33b2870d33c4475660c26c9208", func := "obelisk/obelisklaw8.MapsRead", spec := "mapsRead", apart := false, narrowed := true }
def MapsReadUptoSaid : Prop := mapsReadUptoRow.holds Try.pinned (OpenSpec.upto mapsReadSpec)

/-- 'obelisklaw8.MapsFrames', WHERE WHAT IT READS IS OF BULK AT MOST 1048576: true; the input reads as it did. -/
def mapsFramesUptoRow : OpenClaim := { program := "ytnpfppddongbhaa", sum := "dee24a77bab15b6b3caa7204e8a874acedcdbc33b2870d33c4475660c26c9208", func := "obelisk/obelisklaw8.MapsFrames", spec := "mapsFrames", apart := false, narrowed := true }
def MapsFramesUptoSaid : Prop := mapsFramesUptoRow.holds Try.pinned (OpenSpec.upto mapsFramesSpec)

end Rows
end Go.Proofs.Ytnpfppddongbhaa
