/-
  The closed facts of the row of TopInstance, one by one, and together.
-/
import Derived.Test.YtmoojalmefnmnaaGreatDoorWt
import Derived.Test.YtmoojalmefnmnaaGreatDoorKa
import Derived.Test.YtmoojalmefnmnaaGreatDoorKb
import Derived.Test.YtmoojalmefnmnaaGreatDoorC4
import Derived.KernelRfl
set_option linter.unusedVariables false
set_option linter.unusedSimpArgs false
namespace Go.Proofs.YtmoojalmefnmnaaGreatDoor
open Go
set_option maxRecDepth 100000
namespace LTopInstance
theorem both {a b : Bool} (h : a = true) (h1 : b = true) : (a && b) = true := by rw [h, h1]; rfl
theorem unf : Tryz.prog.unfollowed 4 = true := by unfold Program.unfollowed; rw [clo4]; kernel_rfl
theorem rec : Tryz.prog.recurses 4 = true := by unfold Program.recurses; rw [unf]; rfl
theorem k0 : (Rows.topInstanceRow.wf (OpenSpec.ofChange (OpenSpec.ofChange Rows.topInstanceSpec).bare)) = true := by kernel_rfl
theorem k1 : laidOutB Tryz.prog = true := fact_laid
theorem k2 : (mapsRowed Tryz.prog) = true := by kernel_rfl
theorem k3 : (Tryz.f4.params.all (Tryz.prog.readableRec ·)) = true := by kernel_rfl
theorem k4 : (namedTie Tryz.prog Rows.topInstanceRow.named (OpenSpec.ofChange Rows.topInstanceSpec).bare.vars) = true := by kernel_rfl
theorem k5 : ((Rows.topInstanceRow.stops == [])) = true := by kernel_rfl
theorem k6 : ((Tryz.prog.stops == [])) = true := by kernel_rfl
theorem k7 : ((Rows.topInstanceRow.knobs == [])) = true := by kernel_rfl
theorem k8 : ((Tryz.prog.stopKnobs == [])) = true := by kernel_rfl
theorem k9 : (Rows.topInstanceRow.inPlace == Tryz.prog.inPlace 4) = true := by unfold Program.inPlace; rw [clo4]; kernel_rfl
theorem k10 : (Rows.topInstanceRow.unfollowed == Tryz.prog.unfollowed 4) = true := by rw [unf]; rfl
theorem k11 : (Rows.topInstanceRow.recurses == Tryz.prog.recurses 4) = true := by rw [rec]; rfl
theorem k12 : (Rows.topInstanceRow.named == Tryz.prog.varsNamed 4) = true := by unfold Program.varsNamed; rw [clo4]; kernel_rfl
theorem k13 : ((Rows.topInstanceRow.maps == (Tryz.f4.params.toList ++ (OpenSpec.ofChange Rows.topInstanceSpec).bare.plain.varTypes Tryz.prog).any (Tryz.prog.mapsRec ·))) = true := by kernel_rfl
theorem k14 : ((Rows.topInstanceRow.ifaces == (Tryz.f4.params.toList ++ (OpenSpec.ofChange Rows.topInstanceSpec).bare.plain.varTypes Tryz.prog).any (Tryz.prog.ifacesRec ·))) = true := by kernel_rfl
theorem k15 : ((Rows.topInstanceRow.mapsOut == Tryz.prog.mapsAmong Tryz.f4.resultTypes.toList)) = true := by kernel_rfl
theorem k16 : ((Rows.topInstanceRow.loops == (Tryz.f4.params.toList ++ (OpenSpec.ofChange Rows.topInstanceSpec).bare.plain.varTypes Tryz.prog).any (Tryz.prog.loopsFrom ·))) = true := by kernel_rfl
theorem k17 : ((Rows.topInstanceRow.wideKeys == (Tryz.f4.params.toList ++ (OpenSpec.ofChange Rows.topInstanceSpec).bare.plain.varTypes Tryz.prog ++ Tryz.f4.resultTypes.toList).any (Tryz.prog.wideKeysFrom ·))) = true := by kernel_rfl
theorem k18 : ((OpenSpec.ofChange Rows.topInstanceSpec).bare.vars.all (Tryz.prog.varReadable ·)) = true := by kernel_rfl
theorem k19 : (Tryz.f4.resultTypes.all (fun t => Tryz.prog.readableRec t && decide (t < Tryz.prog.types.size))) = true := by kernel_rfl
theorem k20 : ((Rows.topInstanceRow.ifacesOut == Tryz.f4.resultTypes.toList.any (Tryz.prog.ifacesRec ·))) = true := by kernel_rfl
theorem k21 : ((Rows.topInstanceRow.loopsOut == Tryz.f4.resultTypes.toList.any (Tryz.prog.loopsFrom ·))) = true := by kernel_rfl
theorem k22 : ((Rows.topInstanceRow.plainKeys == Tryz.prog.plainKeys)) = true := by kernel_rfl
theorem k23 : (Rows.topInstanceRow.shortTexts.isNone) = true := by kernel_rfl
theorem k24 : (Tryz.prog.stopsHeard) = true := by kernel_rfl
theorem k25 : (Tryz.prog.mayEnter) = true := by kernel_rfl
theorem k26 : ((Rows.topInstanceRow.lifted == Tryz.prog.liftsFinal)) = true := by kernel_rfl
theorem k27 : ((Tryz.prog.make == some Rows.topInstanceRow.make)) = true := by kernel_rfl
theorem k28 : ((Rows.topInstanceRow.kinds == (if Rows.topInstanceRow.domain.isEmpty then [] else Tryz.f4.params.toList.map fun t => match Tryz.prog.underlying t with | some (.int k) => some k | _ => none))) = true := by kernel_rfl
theorem k29 : ((Rows.topInstanceRow.pinned == Rows.topInstanceRow.pinnedBy)) = true := by kernel_rfl
theorem k30 : ((Rows.topInstanceRow.veiled == (Tryz.f4.params.toList ++ (OpenSpec.ofChange Rows.topInstanceSpec).bare.plain.varTypes Tryz.prog ++ Tryz.f4.resultTypes.toList).any (Tryz.prog.veiledRec ·))) = true := by kernel_rfl
theorem k31 : (Rows.topInstanceRow.veiledFits Tryz.prog Tryz.f4.params.toList (Tryz.f4.params.toList ++ (OpenSpec.ofChange Rows.topInstanceSpec).bare.plain.varTypes Tryz.prog ++ Tryz.f4.resultTypes.toList)) = true := by kernel_rfl
theorem closed : joinedFacts Tryz.pinned.checked.prog 4 Tryz.f4 (OpenSpec.ofChange Rows.topInstanceSpec).bare Rows.topInstanceRow = true := (both (both (both (both (both (both (both (both (both (both (both (both (both (both (both (both (both (both (both (both (both (both (both (both (both (both (both (both (both (both (both k0 k1) k2) k3) k4) k5) k6) k7) k8) k9) k10) k11) k12) k13) k14) k15) k16) k17) k18) k19) k20) k21) k22) k23) k24) k25) k26) k27) k28) k29) k30) k31)
theorem named : Tryz.prog.funcNamed "obelisk/obelisktop.TopInstance" = some 4 := by kernel_rfl
theorem goes2 : Tryz.prog.goesFrom "obelisk/obelisktop.TopInstance" = Option.any Tryz.prog.goes (Tryz.prog.funcNamed "obelisk/obelisktop.TopInstance") := by unfold Program.goesFrom; exact Eq.refl _
theorem goes3 : Option.any Tryz.prog.goes (some 4) = Tryz.prog.goes 4 := Option.any_some
theorem goes4 : Tryz.prog.goes 4 = false := goes_of unf
theorem goes0 : Tryz.prog.goesFrom "obelisk/obelisktop.TopInstance" = false := goes2.trans ((congrArg (Option.any Tryz.prog.goes) named).trans (goes3.trans goes4))
theorem goes1 : (Tryz.prog.goesFrom "obelisk/obelisktop.TopInstance" || false) = Rows.topInstanceRow.goesBy Tryz.pinned.checked.prog := by kernel_rfl
theorem goes : false = Rows.topInstanceRow.goesBy Tryz.pinned.checked.prog := ((Bool.or_false _).trans goes0).symm.trans goes1
end LTopInstance
end Go.Proofs.YtmoojalmefnmnaaGreatDoor
