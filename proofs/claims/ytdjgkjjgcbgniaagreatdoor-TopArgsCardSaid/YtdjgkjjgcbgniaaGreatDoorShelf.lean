/-
  DERIVED: THE SHELF's CONTRACTS AT THIS DUMP, IN PLAIN WORDS (tools/lay-plain.mjs out of 'TryzShelfR.lean', which tools/lay-shelf.mjs wrote): THE SAME DECLARATIONS UNDER THE SAME NAMES: 'import', 'namespace', 'open', 'def', 'theorem' AND NOTHING ELSE: no command of the shelf's: FOR A HAND-IN. Each laying: the table of numbers ('.._ren') and one theorem, a field a fact of the dump's own or the kernel's comparison; each contract: ONE APPLICATION.
-/
import Derived.Shelf.Strings.Replace
import Derived.Test.YtdjgkjjgcbgniaaGreatDoorProg
set_option linter.unusedVariables false
set_option linter.unusedSimpArgs false
set_option linter.unusedVariables false
set_option linter.unusedSimpArgs false
namespace Go.Proofs
open Go.Shelf
def Tryz.lays155_ren : Go.Shelf.Ren := ⟨fun | 155 => 278 | 154 => 353 | 138 => 403 | 165 => 404 | 143 => 405 | 166 => 406 | 197 => 407 | 169 => 408 | 195 => 457 | 218 => 458 | 240 => 459 | 241 => 460 | 219 => 417 | 260 => 461 | 276 => 509 | 277 => 510 | 217 => 360 | 225 => 468 | 224 => 469 | 267 => 470 | 266 => 416 | 314 => 513 | n => n, fun | 9 => 9 | 3 => 3 | 4 => 4 | 72 => 443 | 0 => 0 | 76 => 446 | 105 => 448 | 21 => 21 | 5 => 5 | 70 => 441 | 20 => 20 | 37 => 26 | 75 => 445 | 127 => 481 | 164 => 513 | 46 => 40 | 119 => 515 | 139 => 518 | 138 => 517 | 146 => 482 | 51 => 254 | 80 => 290 | n => n, fun | 1 => 1 | 3 => 2 | 4 => 3 | n => n⟩
theorem Tryz.lays155 : Go.Proofs.Lays.n155 Tryz.prog Tryz.lays155_ren := {
  mixed := by kernel_rfl
  f138 := Tryz.func403.trans (congrArg some (by kernel_rfl))
  f143 := Tryz.func405.trans (congrArg some (by kernel_rfl))
  f154 := Tryz.func353.trans (congrArg some (by kernel_rfl))
  f155 := Tryz.func278.trans (congrArg some (by kernel_rfl))
  f165 := Tryz.func404.trans (congrArg some (by kernel_rfl))
  f166 := Tryz.func406.trans (congrArg some (by kernel_rfl))
  f169 := Tryz.func408.trans (congrArg some (by kernel_rfl))
  f195 := Tryz.func457.trans (congrArg some (by kernel_rfl))
  f197 := Tryz.func407.trans (congrArg some (by kernel_rfl))
  f217 := Tryz.func360.trans (congrArg some (by kernel_rfl))
  f218 := Tryz.func458.trans (congrArg some (by kernel_rfl))
  f219 := Tryz.func417.trans (congrArg some (by kernel_rfl))
  f224 := Tryz.func469.trans (congrArg some (by kernel_rfl))
  f225 := Tryz.func468.trans (congrArg some (by kernel_rfl))
  f240 := Tryz.func459.trans (congrArg some (by kernel_rfl))
  f241 := Tryz.func460.trans (congrArg some (by kernel_rfl))
  f260 := Tryz.func461.trans (congrArg some (by kernel_rfl))
  f266 := Tryz.func416.trans (congrArg some (by kernel_rfl))
  f267 := Tryz.func470.trans (congrArg some (by kernel_rfl))
  f276 := Tryz.func509.trans (congrArg some (by kernel_rfl))
  f277 := Tryz.func510.trans (congrArg some (by kernel_rfl))
  f314 := Tryz.func513.trans (congrArg some (by kernel_rfl))
  t0 := Tryz.underlying0
  a0 := Tryz.isAgg0
  z0 := Tryz.sizeOf0
  v0 := Tryz.zeroValue0
  t3 := Tryz.underlying3
  a3 := Tryz.isAgg3
  z3 := Tryz.sizeOf3
  v3 := Tryz.zeroValue3
  t4 := Tryz.underlying4
  a4 := Tryz.isAgg4
  z4 := Tryz.sizeOf4
  v4 := Tryz.zeroValue4
  t5 := Tryz.underlying5
  a5 := Tryz.isAgg5
  z5 := Tryz.sizeOf5
  v5 := Tryz.zeroValue5
  t9 := Tryz.underlying9
  a9 := Tryz.isAgg9
  z9 := Tryz.sizeOf9
  v9 := Tryz.zeroValue9
  t20 := Tryz.underlying20
  a20 := Tryz.isAgg20
  z20 := Tryz.sizeOf20
  v20 := Tryz.zeroValue20
  t21 := Tryz.underlying21
  a21 := Tryz.isAgg21
  z21 := Tryz.sizeOf21
  v21 := Tryz.zeroValue21
  t37 := Tryz.underlying26
  a37 := Tryz.isAgg26
  z37 := Tryz.sizeOf26
  v37 := Tryz.zeroValue26
  t46 := Tryz.underlying40
  a46 := Tryz.isAgg40
  z46 := Tryz.sizeOf40
  v46 := Tryz.zeroValue40
  t51 := Tryz.underlying254
  a51 := Tryz.isAgg254
  z51 := Tryz.sizeOf254
  v51 := Tryz.zeroValue254
  t70 := Tryz.underlying441
  a70 := Tryz.isAgg441
  z70 := Tryz.sizeOf441
  v70 := Tryz.zeroValue441
  t72 := Tryz.underlying443
  a72 := Tryz.isAgg443
  z72 := Tryz.sizeOf443
  v72 := Tryz.zeroValue443
  t75 := Tryz.underlying445
  a75 := Tryz.isAgg445
  z75 := Tryz.sizeOf445
  v75 := Tryz.zeroValue445
  t76 := Tryz.underlying446
  a76 := Tryz.isAgg446
  z76 := Tryz.sizeOf446
  v76 := Tryz.zeroValue446
  t105 := Tryz.underlying448
  a105 := Tryz.isAgg448
  z105 := Tryz.sizeOf448
  v105 := Tryz.zeroValue448
  t119 := Tryz.underlying515
  a119 := Tryz.isAgg515
  z119 := Tryz.sizeOf515
  t127 := Tryz.underlying481
  a127 := Tryz.isAgg481
  z127 := Tryz.sizeOf481
  v127 := Tryz.zeroValue481
  t138 := Tryz.underlying517
  a138 := Tryz.isAgg517
  z138 := Tryz.sizeOf517
  v138 := Tryz.zeroValue517
  t139 := Tryz.underlying518
  a139 := Tryz.isAgg518
  z139 := Tryz.sizeOf518
  v139 := Tryz.zeroValue518
  t146 := Tryz.underlying482
  a146 := Tryz.isAgg482
  z146 := Tryz.sizeOf482
  v146 := Tryz.zeroValue482
  t164 := Tryz.underlying513
  a164 := Tryz.isAgg513
  z164 := Tryz.sizeOf513
  v164 := Tryz.zeroValue513
  g1 := by kernel_rfl
  g3 := by kernel_rfl
  g4 := by kernel_rfl }
theorem Tryz.Builder_Extra_155 : Builder.Extra Tryz.prog Tryz.lays155_ren := {
  sizeBuilder := by kernel_rfl
  liesBuilder := by kernel_rfl
  t5 := Tryz.underlying5
  a5 := Tryz.isAgg5
  z5 := Tryz.sizeOf5
  v5 := Tryz.zeroValue5
  infoByte := by kernel_rfl
  cellsByte := by kernel_rfl
  sizeByte := by kernel_rfl
  neB5 := by decide }
open Go.RowKit Go.Lib in
/-- strings.ReplaceAll: "ReplaceAll returns a copy of the string s with all non-overlapping instances of old replaced by new.": AT AN old THAT IS NOT EMPTY: 'Lib.replaceAll s old new'. (LAID: no walk: one application.) -/
theorem Tryz.strings_ReplaceAll (s old new : ByteArray) (m : Int) (w : World) (hs : s.size < 4294967281) (hm : w.cell? ⟨1, 0, none⟩ = some (.int .i64 m)) (h1 : 1 ≤ old.size) (hlen : s.size + Lib.countB s old * new.size ≤ 140737488355328) :
    Calls Tryz.prog 278 #[.string s, .string old, .string new] w fun e w' =>
      e = .returned (.string ⟨(Lib.replaceAll s.data.toList old.data.toList new.data.toList).toArray⟩) ∧ Below w.heap.size w w' := Any.strings_ReplaceAll Tryz.lays155 Tryz.Builder_Extra_155 s old new m w hs hm h1 hlen
end Go.Proofs
