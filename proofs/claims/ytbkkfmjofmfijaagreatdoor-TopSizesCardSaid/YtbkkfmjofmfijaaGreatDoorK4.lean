/-
  The closed facts of the row of TopSizes, one by one, and together.
-/
import Derived.Test.YtbkkfmjofmfijaaGreatDoorWt
import Derived.Test.YtbkkfmjofmfijaaGreatDoorKa
import Derived.Test.YtbkkfmjofmfijaaGreatDoorKb
import Derived.Test.YtbkkfmjofmfijaaGreatDoorC4
import Derived.KernelRfl
set_option linter.unusedVariables false
set_option linter.unusedSimpArgs false
namespace Go.Proofs.YtbkkfmjofmfijaaGreatDoor
open Go
set_option maxRecDepth 100000
namespace LTopSizes
theorem both {a b : Bool} (h : a = true) (h1 : b = true) : (a && b) = true := by rw [h, h1]; rfl
theorem unf : Tryz.prog.unfollowed 4 = true := by unfold Program.unfollowed; rw [clo4]; kernel_rfl
theorem rec : Tryz.prog.recurses 4 = true := by unfold Program.recurses; rw [unf]; rfl
theorem k0 : (Rows.topSizesRow.wf (OpenSpec.ofChange (OpenSpec.ofChange Rows.topSizesSpec).bare)) = true := by kernel_rfl
theorem k1 : laidOutB Tryz.prog = true := fact_laid
theorem k2 : (mapsRowed Tryz.prog) = true := by kernel_rfl
theorem k3 : (Tryz.f4.params.all (Tryz.prog.readableRec ·)) = true := by kernel_rfl
theorem k4 : (namedTie Tryz.prog Rows.topSizesRow.named (OpenSpec.ofChange Rows.topSizesSpec).bare.vars) = true := by kernel_rfl
theorem k5 : ((Rows.topSizesRow.stops == [])) = true := by kernel_rfl
theorem k6 : ((Tryz.prog.stops == [])) = true := by kernel_rfl
theorem k7 : ((Rows.topSizesRow.knobs == [])) = true := by kernel_rfl
theorem k8 : ((Tryz.prog.stopKnobs == [])) = true := by kernel_rfl
theorem k9 : (Rows.topSizesRow.inPlace == Tryz.prog.inPlace 4) = true := by unfold Program.inPlace; rw [clo4]; kernel_rfl
theorem k10 : (Rows.topSizesRow.unfollowed == Tryz.prog.unfollowed 4) = true := by rw [unf]; rfl
theorem k11 : (Rows.topSizesRow.recurses == Tryz.prog.recurses 4) = true := by rw [rec]; rfl
theorem k12 : (Rows.topSizesRow.named == Tryz.prog.varsNamed 4) = true := by unfold Program.varsNamed; rw [clo4]; kernel_rfl
theorem k13 : ((Rows.topSizesRow.maps == (Tryz.f4.params.toList ++ (OpenSpec.ofChange Rows.topSizesSpec).bare.plain.varTypes Tryz.prog).any (Tryz.prog.mapsRec ·))) = true := by kernel_rfl
theorem k14 : ((Rows.topSizesRow.ifaces == (Tryz.f4.params.toList ++ (OpenSpec.ofChange Rows.topSizesSpec).bare.plain.varTypes Tryz.prog).any (Tryz.prog.ifacesRec ·))) = true := by kernel_rfl
theorem k15 : ((Rows.topSizesRow.mapsOut == Tryz.prog.mapsAmong Tryz.f4.resultTypes.toList)) = true := by kernel_rfl
theorem k16 : ((Rows.topSizesRow.loops == (Tryz.f4.params.toList ++ (OpenSpec.ofChange Rows.topSizesSpec).bare.plain.varTypes Tryz.prog).any (Tryz.prog.loopsFrom ·))) = true := by kernel_rfl
theorem k17 : ((Rows.topSizesRow.wideKeys == (Tryz.f4.params.toList ++ (OpenSpec.ofChange Rows.topSizesSpec).bare.plain.varTypes Tryz.prog ++ Tryz.f4.resultTypes.toList).any (Tryz.prog.wideKeysFrom ·))) = true := by kernel_rfl
theorem k18 : ((OpenSpec.ofChange Rows.topSizesSpec).bare.vars.all (Tryz.prog.varReadable ·)) = true := by kernel_rfl
theorem k19 : (Tryz.f4.resultTypes.all (fun t => Tryz.prog.readableRec t && decide (t < Tryz.prog.types.size))) = true := by kernel_rfl
theorem k20 : ((Rows.topSizesRow.ifacesOut == Tryz.f4.resultTypes.toList.any (Tryz.prog.ifacesRec ·))) = true := by kernel_rfl
theorem k21 : ((Rows.topSizesRow.loopsOut == Tryz.f4.resultTypes.toList.any (Tryz.prog.loopsFrom ·))) = true := by kernel_rfl
theorem k22 : ((Rows.topSizesRow.plainKeys == Tryz.prog.plainKeys)) = true := by kernel_rfl
theorem k23 : (Rows.topSizesRow.shortTexts.isNone) = true := by kernel_rfl
theorem k24 : (Tryz.prog.stopsHeard) = true := by kernel_rfl
theorem k25 : (Tryz.prog.mayEnter) = true := by kernel_rfl
theorem k26 : ((Rows.topSizesRow.lifted == Tryz.prog.liftsFinal)) = true := by kernel_rfl
theorem k27 : ((Tryz.prog.make == some Rows.topSizesRow.make)) = true := by kernel_rfl
theorem k28 : ((Rows.topSizesRow.kinds == (if Rows.topSizesRow.domain.isEmpty then [] else Tryz.f4.params.toList.map fun t => match Tryz.prog.underlying t with | some (.int k) => some k | _ => none))) = true := by kernel_rfl
theorem k29 : ((Rows.topSizesRow.pinned == Rows.topSizesRow.pinnedBy)) = true := by kernel_rfl
theorem k30 : ((Rows.topSizesRow.veiled == (Tryz.f4.params.toList ++ (OpenSpec.ofChange Rows.topSizesSpec).bare.plain.varTypes Tryz.prog ++ Tryz.f4.resultTypes.toList).any (Tryz.prog.veiledRec ·))) = true := by kernel_rfl
theorem k31 : (Rows.topSizesRow.veiledFits Tryz.prog Tryz.f4.params.toList (Tryz.f4.params.toList ++ (OpenSpec.ofChange Rows.topSizesSpec).bare.plain.varTypes Tryz.prog ++ Tryz.f4.resultTypes.toList)) = true := by kernel_rfl
theorem closed : joinedFacts Tryz.pinned.checked.prog 4 Tryz.f4 (OpenSpec.ofChange Rows.topSizesSpec).bare Rows.topSizesRow = true := (both (both (both (both (both (both (both (both (both (both (both (both (both (both (both (both (both (both (both (both (both (both (both (both (both (both (both (both (both (both (both k0 k1) k2) k3) k4) k5) k6) k7) k8) k9) k10) k11) k12) k13) k14) k15) k16) k17) k18) k19) k20) k21) k22) k23) k24) k25) k26) k27) k28) k29) k30) k31)
theorem named : Tryz.prog.funcNamed "obelisk/obelisktop.TopSizes" = some 4 := by kernel_rfl
theorem goes2 : Tryz.prog.goesFrom "obelisk/obelisktop.TopSizes" = Option.any Tryz.prog.goes (Tryz.prog.funcNamed "obelisk/obelisktop.TopSizes") := by unfold Program.goesFrom; exact Eq.refl _
theorem goes3 : Option.any Tryz.prog.goes (some 4) = Tryz.prog.goes 4 := Option.any_some
theorem goes4 : Tryz.prog.goes 4 = false := goes_of unf
theorem goes0 : Tryz.prog.goesFrom "obelisk/obelisktop.TopSizes" = false := goes2.trans ((congrArg (Option.any Tryz.prog.goes) named).trans (goes3.trans goes4))
theorem goes1 : (Tryz.prog.goesFrom "obelisk/obelisktop.TopSizes" || false) = Rows.topSizesRow.goesBy Tryz.pinned.checked.prog := by kernel_rfl
theorem goes : false = Rows.topSizesRow.goesBy Tryz.pinned.checked.prog := ((Bool.or_false _).trans goes0).symm.trans goes1
end LTopSizes
end Go.Proofs.YtbkkfmjofmfijaaGreatDoor
