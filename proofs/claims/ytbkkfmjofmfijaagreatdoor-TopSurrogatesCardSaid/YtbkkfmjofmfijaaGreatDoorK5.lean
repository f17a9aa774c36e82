/-
  The closed facts of the row of TopSurrogates, one by one, and together.
-/
import Derived.Test.YtbkkfmjofmfijaaGreatDoorWt
import Derived.Test.YtbkkfmjofmfijaaGreatDoorKa
import Derived.Test.YtbkkfmjofmfijaaGreatDoorKb
import Derived.Test.YtbkkfmjofmfijaaGreatDoorC5
import Derived.KernelRfl
set_option linter.unusedVariables false
set_option linter.unusedSimpArgs false
namespace Go.Proofs.YtbkkfmjofmfijaaGreatDoor
open Go
set_option maxRecDepth 100000
namespace LTopSurrogates
theorem both {a b : Bool} (h : a = true) (h1 : b = true) : (a && b) = true := by rw [h, h1]; rfl
theorem unf : Tryz.prog.unfollowed 5 = true := by unfold Program.unfollowed; rw [clo5]; kernel_rfl
theorem rec : Tryz.prog.recurses 5 = true := by unfold Program.recurses; rw [unf]; rfl
theorem k0 : (Rows.topSurrogatesRow.wf (OpenSpec.ofChange (OpenSpec.ofChange Rows.topSurrogatesSpec).bare)) = true := by kernel_rfl
theorem k1 : laidOutB Tryz.prog = true := fact_laid
theorem k2 : (mapsRowed Tryz.prog) = true := by kernel_rfl
theorem k3 : (Tryz.f5.params.all (Tryz.prog.readableRec ·)) = true := by kernel_rfl
theorem k4 : (namedTie Tryz.prog Rows.topSurrogatesRow.named (OpenSpec.ofChange Rows.topSurrogatesSpec).bare.vars) = true := by kernel_rfl
theorem k5 : ((Rows.topSurrogatesRow.stops == [])) = true := by kernel_rfl
theorem k6 : ((Tryz.prog.stops == [])) = true := by kernel_rfl
theorem k7 : ((Rows.topSurrogatesRow.knobs == [])) = true := by kernel_rfl
theorem k8 : ((Tryz.prog.stopKnobs == [])) = true := by kernel_rfl
theorem k9 : (Rows.topSurrogatesRow.inPlace == Tryz.prog.inPlace 5) = true := by unfold Program.inPlace; rw [clo5]; kernel_rfl
theorem k10 : (Rows.topSurrogatesRow.unfollowed == Tryz.prog.unfollowed 5) = true := by rw [unf]; rfl
theorem k11 : (Rows.topSurrogatesRow.recurses == Tryz.prog.recurses 5) = true := by rw [rec]; rfl
theorem k12 : (Rows.topSurrogatesRow.named == Tryz.prog.varsNamed 5) = true := by unfold Program.varsNamed; rw [clo5]; kernel_rfl
theorem k13 : ((Rows.topSurrogatesRow.maps == (Tryz.f5.params.toList ++ (OpenSpec.ofChange Rows.topSurrogatesSpec).bare.plain.varTypes Tryz.prog).any (Tryz.prog.mapsRec ·))) = true := by kernel_rfl
theorem k14 : ((Rows.topSurrogatesRow.ifaces == (Tryz.f5.params.toList ++ (OpenSpec.ofChange Rows.topSurrogatesSpec).bare.plain.varTypes Tryz.prog).any (Tryz.prog.ifacesRec ·))) = true := by kernel_rfl
theorem k15 : ((Rows.topSurrogatesRow.mapsOut == Tryz.prog.mapsAmong Tryz.f5.resultTypes.toList)) = true := by kernel_rfl
theorem k16 : ((Rows.topSurrogatesRow.loops == (Tryz.f5.params.toList ++ (OpenSpec.ofChange Rows.topSurrogatesSpec).bare.plain.varTypes Tryz.prog).any (Tryz.prog.loopsFrom ·))) = true := by kernel_rfl
theorem k17 : ((Rows.topSurrogatesRow.wideKeys == (Tryz.f5.params.toList ++ (OpenSpec.ofChange Rows.topSurrogatesSpec).bare.plain.varTypes Tryz.prog ++ Tryz.f5.resultTypes.toList).any (Tryz.prog.wideKeysFrom ·))) = true := by kernel_rfl
theorem k18 : ((OpenSpec.ofChange Rows.topSurrogatesSpec).bare.vars.all (Tryz.prog.varReadable ·)) = true := by kernel_rfl
theorem k19 : (Tryz.f5.resultTypes.all (fun t => Tryz.prog.readableRec t && decide (t < Tryz.prog.types.size))) = true := by kernel_rfl
theorem k20 : ((Rows.topSurrogatesRow.ifacesOut == Tryz.f5.resultTypes.toList.any (Tryz.prog.ifacesRec ·))) = true := by kernel_rfl
theorem k21 : ((Rows.topSurrogatesRow.loopsOut == Tryz.f5.resultTypes.toList.any (Tryz.prog.loopsFrom ·))) = true := by kernel_rfl
theorem k22 : ((Rows.topSurrogatesRow.plainKeys == Tryz.prog.plainKeys)) = true := by kernel_rfl
theorem k23 : (Rows.topSurrogatesRow.shortTexts.isNone) = true := by kernel_rfl
theorem k24 : (Tryz.prog.stopsHeard) = true := by kernel_rfl
theorem k25 : (Tryz.prog.mayEnter) = true := by kernel_rfl
theorem k26 : ((Rows.topSurrogatesRow.lifted == Tryz.prog.liftsFinal)) = true := by kernel_rfl
theorem k27 : ((Tryz.prog.make == some Rows.topSurrogatesRow.make)) = true := by kernel_rfl
theorem k28 : ((Rows.topSurrogatesRow.kinds == (if Rows.topSurrogatesRow.domain.isEmpty then [] else Tryz.f5.params.toList.map fun t => match Tryz.prog.underlying t with | some (.int k) => some k | _ => none))) = true := by kernel_rfl
theorem k29 : ((Rows.topSurrogatesRow.pinned == Rows.topSurrogatesRow.pinnedBy)) = true := by kernel_rfl
theorem k30 : ((Rows.topSurrogatesRow.veiled == (Tryz.f5.params.toList ++ (OpenSpec.ofChange Rows.topSurrogatesSpec).bare.plain.varTypes Tryz.prog ++ Tryz.f5.resultTypes.toList).any (Tryz.prog.veiledRec ·))) = true := by kernel_rfl
theorem k31 : (Rows.topSurrogatesRow.veiledFits Tryz.prog Tryz.f5.params.toList (Tryz.f5.params.toList ++ (OpenSpec.ofChange Rows.topSurrogatesSpec).bare.plain.varTypes Tryz.prog ++ Tryz.f5.resultTypes.toList)) = true := by kernel_rfl
theorem closed : joinedFacts Tryz.pinned.checked.prog 5 Tryz.f5 (OpenSpec.ofChange Rows.topSurrogatesSpec).bare Rows.topSurrogatesRow = true := (both (both (both (both (both (both (both (both (both (both (both (both (both (both (both (both (both (both (both (both (both (both (both (both (both (both (both (both (both (both (both k0 k1) k2) k3) k4) k5) k6) k7) k8) k9) k10) k11) k12) k13) k14) k15) k16) k17) k18) k19) k20) k21) k22) k23) k24) k25) k26) k27) k28) k29) k30) k31)
theorem named : Tryz.prog.funcNamed "obelisk/obelisktop.TopSurrogates" = some 5 := by kernel_rfl
theorem goes2 : Tryz.prog.goesFrom "obelisk/obelisktop.TopSurrogates" = Option.any Tryz.prog.goes (Tryz.prog.funcNamed "obelisk/obelisktop.TopSurrogates") := by unfold Program.goesFrom; exact Eq.refl _
theorem goes3 : Option.any Tryz.prog.goes (some 5) = Tryz.prog.goes 5 := Option.any_some
theorem goes4 : Tryz.prog.goes 5 = false := goes_of unf
theorem goes0 : Tryz.prog.goesFrom "obelisk/obelisktop.TopSurrogates" = false := goes2.trans ((congrArg (Option.any Tryz.prog.goes) named).trans (goes3.trans goes4))
theorem goes1 : (Tryz.prog.goesFrom "obelisk/obelisktop.TopSurrogates" || false) = Rows.topSurrogatesRow.goesBy Tryz.pinned.checked.prog := by kernel_rfl
theorem goes : false = Rows.topSurrogatesRow.goesBy Tryz.pinned.checked.prog := ((Bool.or_false _).trans goes0).symm.trans goes1
end LTopSurrogates
end Go.Proofs.YtbkkfmjofmfijaaGreatDoor
