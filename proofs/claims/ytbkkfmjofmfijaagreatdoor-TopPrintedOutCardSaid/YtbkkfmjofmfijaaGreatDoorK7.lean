/-
  The closed facts of the row of TopPrintedOut, one by one, and together.
-/
import Derived.Test.YtbkkfmjofmfijaaGreatDoorWt
import Derived.Test.YtbkkfmjofmfijaaGreatDoorKa
import Derived.Test.YtbkkfmjofmfijaaGreatDoorKb
import Derived.Test.YtbkkfmjofmfijaaGreatDoorC7
import Derived.KernelRfl
set_option linter.unusedVariables false
set_option linter.unusedSimpArgs false
namespace Go.Proofs.YtbkkfmjofmfijaaGreatDoor
open Go
set_option maxRecDepth 100000
namespace LTopPrintedOut
theorem both {a b : Bool} (h : a = true) (h1 : b = true) : (a && b) = true := by rw [h, h1]; rfl
theorem unf : Tryz.prog.unfollowed 7 = true := by unfold Program.unfollowed; rw [clo7]; kernel_rfl
theorem rec : Tryz.prog.recurses 7 = true := by unfold Program.recurses; rw [unf]; rfl
theorem k0 : (Rows.topPrintedOutRow.wf (OpenSpec.ofChange (OpenSpec.ofChange Rows.topPrintedOutSpec).bare)) = true := by kernel_rfl
theorem k1 : laidOutB Tryz.prog = true := fact_laid
theorem k2 : (mapsRowed Tryz.prog) = true := by kernel_rfl
theorem k3 : (Tryz.f7.params.all (Tryz.prog.readableRec ·)) = true := by kernel_rfl
theorem k4 : (namedTie Tryz.prog Rows.topPrintedOutRow.named (OpenSpec.ofChange Rows.topPrintedOutSpec).bare.vars) = true := by kernel_rfl
theorem k5 : ((Rows.topPrintedOutRow.stops == [])) = true := by kernel_rfl
theorem k6 : ((Tryz.prog.stops == [])) = true := by kernel_rfl
theorem k7 : ((Rows.topPrintedOutRow.knobs == [])) = true := by kernel_rfl
theorem k8 : ((Tryz.prog.stopKnobs == [])) = true := by kernel_rfl
theorem k9 : (Rows.topPrintedOutRow.inPlace == Tryz.prog.inPlace 7) = true := by unfold Program.inPlace; rw [clo7]; kernel_rfl
theorem k10 : (Rows.topPrintedOutRow.unfollowed == Tryz.prog.unfollowed 7) = true := by rw [unf]; rfl
theorem k11 : (Rows.topPrintedOutRow.recurses == Tryz.prog.recurses 7) = true := by rw [rec]; rfl
theorem k12 : (Rows.topPrintedOutRow.named == Tryz.prog.varsNamed 7) = true := by unfold Program.varsNamed; rw [clo7]; kernel_rfl
theorem k13 : ((Rows.topPrintedOutRow.maps == (Tryz.f7.params.toList ++ (OpenSpec.ofChange Rows.topPrintedOutSpec).bare.plain.varTypes Tryz.prog).any (Tryz.prog.mapsRec ·))) = true := by kernel_rfl
theorem k14 : ((Rows.topPrintedOutRow.ifaces == (Tryz.f7.params.toList ++ (OpenSpec.ofChange Rows.topPrintedOutSpec).bare.plain.varTypes Tryz.prog).any (Tryz.prog.ifacesRec ·))) = true := by kernel_rfl
theorem k15 : ((Rows.topPrintedOutRow.mapsOut == Tryz.prog.mapsAmong Tryz.f7.resultTypes.toList)) = true := by kernel_rfl
theorem k16 : ((Rows.topPrintedOutRow.loops == (Tryz.f7.params.toList ++ (OpenSpec.ofChange Rows.topPrintedOutSpec).bare.plain.varTypes Tryz.prog).any (Tryz.prog.loopsFrom ·))) = true := by kernel_rfl
theorem k17 : ((Rows.topPrintedOutRow.wideKeys == (Tryz.f7.params.toList ++ (OpenSpec.ofChange Rows.topPrintedOutSpec).bare.plain.varTypes Tryz.prog ++ Tryz.f7.resultTypes.toList).any (Tryz.prog.wideKeysFrom ·))) = true := by kernel_rfl
theorem k18 : ((OpenSpec.ofChange Rows.topPrintedOutSpec).bare.vars.all (Tryz.prog.varReadable ·)) = true := by kernel_rfl
theorem k19 : (Tryz.f7.resultTypes.all (fun t => Tryz.prog.readableRec t && decide (t < Tryz.prog.types.size))) = true := by kernel_rfl
theorem k20 : ((Rows.topPrintedOutRow.ifacesOut == Tryz.f7.resultTypes.toList.any (Tryz.prog.ifacesRec ·))) = true := by kernel_rfl
theorem k21 : ((Rows.topPrintedOutRow.loopsOut == Tryz.f7.resultTypes.toList.any (Tryz.prog.loopsFrom ·))) = true := by kernel_rfl
theorem k22 : ((Rows.topPrintedOutRow.plainKeys == Tryz.prog.plainKeys)) = true := by kernel_rfl
theorem k23 : (Rows.topPrintedOutRow.shortTexts.isNone) = true := by kernel_rfl
theorem k24 : (Tryz.prog.stopsHeard) = true := by kernel_rfl
theorem k25 : (Tryz.prog.mayEnter) = true := by kernel_rfl
theorem k26 : ((Rows.topPrintedOutRow.lifted == Tryz.prog.liftsFinal)) = true := by kernel_rfl
theorem k27 : ((Tryz.prog.make == some Rows.topPrintedOutRow.make)) = true := by kernel_rfl
theorem k28 : ((Rows.topPrintedOutRow.kinds == (if Rows.topPrintedOutRow.domain.isEmpty then [] else Tryz.f7.params.toList.map fun t => match Tryz.prog.underlying t with | some (.int k) => some k | _ => none))) = true := by kernel_rfl
theorem k29 : ((Rows.topPrintedOutRow.pinned == Rows.topPrintedOutRow.pinnedBy)) = true := by kernel_rfl
theorem k30 : ((Rows.topPrintedOutRow.veiled == (Tryz.f7.params.toList ++ (OpenSpec.ofChange Rows.topPrintedOutSpec).bare.plain.varTypes Tryz.prog ++ Tryz.f7.resultTypes.toList).any (Tryz.prog.veiledRec ·))) = true := by kernel_rfl
theorem k31 : (Rows.topPrintedOutRow.veiledFits Tryz.prog Tryz.f7.params.toList (Tryz.f7.params.toList ++ (OpenSpec.ofChange Rows.topPrintedOutSpec).bare.plain.varTypes Tryz.prog ++ Tryz.f7.resultTypes.toList)) = true := by kernel_rfl
theorem closed : joinedFacts Tryz.pinned.checked.prog 7 Tryz.f7 (OpenSpec.ofChange Rows.topPrintedOutSpec).bare Rows.topPrintedOutRow = true := (both (both (both (both (both (both (both (both (both (both (both (both (both (both (both (both (both (both (both (both (both (both (both (both (both (both (both (both (both (both (both k0 k1) k2) k3) k4) k5) k6) k7) k8) k9) k10) k11) k12) k13) k14) k15) k16) k17) k18) k19) k20) k21) k22) k23) k24) k25) k26) k27) k28) k29) k30) k31)
theorem named : Tryz.prog.funcNamed "obelisk/obelisktop.TopPrintedOut" = some 7 := by kernel_rfl
theorem goes2 : Tryz.prog.goesFrom "obelisk/obelisktop.TopPrintedOut" = Option.any Tryz.prog.goes (Tryz.prog.funcNamed "obelisk/obelisktop.TopPrintedOut") := by unfold Program.goesFrom; exact Eq.refl _
theorem goes3 : Option.any Tryz.prog.goes (some 7) = Tryz.prog.goes 7 := Option.any_some
theorem goes4 : Tryz.prog.goes 7 = false := goes_of unf
theorem goes0 : Tryz.prog.goesFrom "obelisk/obelisktop.TopPrintedOut" = false := goes2.trans ((congrArg (Option.any Tryz.prog.goes) named).trans (goes3.trans goes4))
theorem goes1 : (Tryz.prog.goesFrom "obelisk/obelisktop.TopPrintedOut" || false) = Rows.topPrintedOutRow.goesBy Tryz.pinned.checked.prog := by kernel_rfl
theorem goes : false = Rows.topPrintedOutRow.goesBy Tryz.pinned.checked.prog := ((Bool.or_false _).trans goes0).symm.trans goes1
end LTopPrintedOut
end Go.Proofs.YtbkkfmjofmfijaaGreatDoor
