/-
  The closed facts of the row of TopConstants, one by one, and together.
-/
import Derived.Test.YtbkkfmjofmfijaaGreatDoorWt
import Derived.Test.YtbkkfmjofmfijaaGreatDoorKa
import Derived.Test.YtbkkfmjofmfijaaGreatDoorKb
import Derived.Test.YtbkkfmjofmfijaaGreatDoorC3
import Derived.KernelRfl
set_option linter.unusedVariables false
set_option linter.unusedSimpArgs false
namespace Go.Proofs.YtbkkfmjofmfijaaGreatDoor
open Go
set_option maxRecDepth 100000
namespace LTopConstants
theorem both {a b : Bool} (h : a = true) (h1 : b = true) : (a && b) = true := by rw [h, h1]; rfl
theorem unf : Tryz.prog.unfollowed 3 = true := by unfold Program.unfollowed; rw [clo3]; kernel_rfl
theorem rec : Tryz.prog.recurses 3 = true := by unfold Program.recurses; rw [unf]; rfl
theorem k0 : (Rows.topConstantsRow.wf (OpenSpec.ofChange (OpenSpec.ofChange Rows.topConstantsSpec).bare)) = true := by kernel_rfl
theorem k1 : laidOutB Tryz.prog = true := fact_laid
theorem k2 : (mapsRowed Tryz.prog) = true := by kernel_rfl
theorem k3 : (Tryz.f3.params.all (Tryz.prog.readableRec ·)) = true := by kernel_rfl
theorem k4 : (namedTie Tryz.prog Rows.topConstantsRow.named (OpenSpec.ofChange Rows.topConstantsSpec).bare.vars) = true := by kernel_rfl
theorem k5 : ((Rows.topConstantsRow.stops == [])) = true := by kernel_rfl
theorem k6 : ((Tryz.prog.stops == [])) = true := by kernel_rfl
theorem k7 : ((Rows.topConstantsRow.knobs == [])) = true := by kernel_rfl
theorem k8 : ((Tryz.prog.stopKnobs == [])) = true := by kernel_rfl
theorem k9 : (Rows.topConstantsRow.inPlace == Tryz.prog.inPlace 3) = true := by unfold Program.inPlace; rw [clo3]; kernel_rfl
theorem k10 : (Rows.topConstantsRow.unfollowed == Tryz.prog.unfollowed 3) = true := by rw [unf]; rfl
theorem k11 : (Rows.topConstantsRow.recurses == Tryz.prog.recurses 3) = true := by rw [rec]; rfl
theorem k12 : (Rows.topConstantsRow.named == Tryz.prog.varsNamed 3) = true := by unfold Program.varsNamed; rw [clo3]; kernel_rfl
theorem k13 : ((Rows.topConstantsRow.maps == (Tryz.f3.params.toList ++ (OpenSpec.ofChange Rows.topConstantsSpec).bare.plain.varTypes Tryz.prog).any (Tryz.prog.mapsRec ·))) = true := by kernel_rfl
theorem k14 : ((Rows.topConstantsRow.ifaces == (Tryz.f3.params.toList ++ (OpenSpec.ofChange Rows.topConstantsSpec).bare.plain.varTypes Tryz.prog).any (Tryz.prog.ifacesRec ·))) = true := by kernel_rfl
theorem k15 : ((Rows.topConstantsRow.mapsOut == Tryz.prog.mapsAmong Tryz.f3.resultTypes.toList)) = true := by kernel_rfl
theorem k16 : ((Rows.topConstantsRow.loops == (Tryz.f3.params.toList ++ (OpenSpec.ofChange Rows.topConstantsSpec).bare.plain.varTypes Tryz.prog).any (Tryz.prog.loopsFrom ·))) = true := by kernel_rfl
theorem k17 : ((Rows.topConstantsRow.wideKeys == (Tryz.f3.params.toList ++ (OpenSpec.ofChange Rows.topConstantsSpec).bare.plain.varTypes Tryz.prog ++ Tryz.f3.resultTypes.toList).any (Tryz.prog.wideKeysFrom ·))) = true := by kernel_rfl
theorem k18 : ((OpenSpec.ofChange Rows.topConstantsSpec).bare.vars.all (Tryz.prog.varReadable ·)) = true := by kernel_rfl
theorem k19 : (Tryz.f3.resultTypes.all (fun t => Tryz.prog.readableRec t && decide (t < Tryz.prog.types.size))) = true := by kernel_rfl
theorem k20 : ((Rows.topConstantsRow.ifacesOut == Tryz.f3.resultTypes.toList.any (Tryz.prog.ifacesRec ·))) = true := by kernel_rfl
theorem k21 : ((Rows.topConstantsRow.loopsOut == Tryz.f3.resultTypes.toList.any (Tryz.prog.loopsFrom ·))) = true := by kernel_rfl
theorem k22 : ((Rows.topConstantsRow.plainKeys == Tryz.prog.plainKeys)) = true := by kernel_rfl
theorem k23 : (Rows.topConstantsRow.shortTexts.isNone) = true := by kernel_rfl
theorem k24 : (Tryz.prog.stopsHeard) = true := by kernel_rfl
theorem k25 : (Tryz.prog.mayEnter) = true := by kernel_rfl
theorem k26 : ((Rows.topConstantsRow.lifted == Tryz.prog.liftsFinal)) = true := by kernel_rfl
theorem k27 : ((Tryz.prog.make == some Rows.topConstantsRow.make)) = true := by kernel_rfl
theorem k28 : ((Rows.topConstantsRow.kinds == (if Rows.topConstantsRow.domain.isEmpty then [] else Tryz.f3.params.toList.map fun t => match Tryz.prog.underlying t with | some (.int k) => some k | _ => none))) = true := by kernel_rfl
theorem k29 : ((Rows.topConstantsRow.pinned == Rows.topConstantsRow.pinnedBy)) = true := by kernel_rfl
theorem k30 : ((Rows.topConstantsRow.veiled == (Tryz.f3.params.toList ++ (OpenSpec.ofChange Rows.topConstantsSpec).bare.plain.varTypes Tryz.prog ++ Tryz.f3.resultTypes.toList).any (Tryz.prog.veiledRec ·))) = true := by kernel_rfl
theorem k31 : (Rows.topConstantsRow.veiledFits Tryz.prog Tryz.f3.params.toList (Tryz.f3.params.toList ++ (OpenSpec.ofChange Rows.topConstantsSpec).bare.plain.varTypes Tryz.prog ++ Tryz.f3.resultTypes.toList)) = true := by kernel_rfl
theorem closed : joinedFacts Tryz.pinned.checked.prog 3 Tryz.f3 (OpenSpec.ofChange Rows.topConstantsSpec).bare Rows.topConstantsRow = true := (both (both (both (both (both (both (both (both (both (both (both (both (both (both (both (both (both (both (both (both (both (both (both (both (both (both (both (both (both (both (both k0 k1) k2) k3) k4) k5) k6) k7) k8) k9) k10) k11) k12) k13) k14) k15) k16) k17) k18) k19) k20) k21) k22) k23) k24) k25) k26) k27) k28) k29) k30) k31)
theorem named : Tryz.prog.funcNamed "obelisk/obelisktop.TopConstants" = some 3 := by kernel_rfl
theorem goes2 : Tryz.prog.goesFrom "obelisk/obelisktop.TopConstants" = Option.any Tryz.prog.goes (Tryz.prog.funcNamed "obelisk/obelisktop.TopConstants") := by unfold Program.goesFrom; exact Eq.refl _
theorem goes3 : Option.any Tryz.prog.goes (some 3) = Tryz.prog.goes 3 := Option.any_some
theorem goes4 : Tryz.prog.goes 3 = false := goes_of unf
theorem goes0 : Tryz.prog.goesFrom "obelisk/obelisktop.TopConstants" = false := goes2.trans ((congrArg (Option.any Tryz.prog.goes) named).trans (goes3.trans goes4))
theorem goes1 : (Tryz.prog.goesFrom "obelisk/obelisktop.TopConstants" || false) = Rows.topConstantsRow.goesBy Tryz.pinned.checked.prog := by kernel_rfl
theorem goes : false = Rows.topConstantsRow.goesBy Tryz.pinned.checked.prog := ((Bool.or_false _).trans goes0).symm.trans goes1
end LTopConstants
end Go.Proofs.YtbkkfmjofmfijaaGreatDoor
