/-
  The closed facts of the row of TopAccess, one by one, and together.
-/
import Derived.Test.YtkjgefmionoobaaGreatDoorWt
import Derived.Test.YtkjgefmionoobaaGreatDoorKa
import Derived.Test.YtkjgefmionoobaaGreatDoorKb
import Derived.Test.YtkjgefmionoobaaGreatDoorC8
import Derived.KernelRfl
set_option linter.unusedVariables false
set_option linter.unusedSimpArgs false
namespace Go.Proofs.YtkjgefmionoobaaGreatDoor
open Go
set_option maxRecDepth 100000
namespace LTopAccess
theorem both {a b : Bool} (h : a = true) (h1 : b = true) : (a && b) = true := by rw [h, h1]; rfl
theorem unf : Tryz.prog.unfollowed 8 = true := by unfold Program.unfollowed; rw [clo8]; kernel_rfl
theorem rec : Tryz.prog.recurses 8 = true := by unfold Program.recurses; rw [unf]; rfl
theorem k0 : (Rows.topAccessRow.wf (OpenSpec.ofChange (OpenSpec.ofChange Rows.topAccessSpec).bare)) = true := by kernel_rfl
theorem k1 : laidOutB Tryz.prog = true := fact_laid
theorem k2 : (mapsRowed Tryz.prog) = true := by kernel_rfl
theorem k3 : (Tryz.f8.params.all (Tryz.prog.readableRec ·)) = true := by kernel_rfl
theorem k4 : (namedTie Tryz.prog Rows.topAccessRow.named (OpenSpec.ofChange Rows.topAccessSpec).bare.vars) = true := by kernel_rfl
theorem k5 : ((Rows.topAccessRow.stops == [])) = true := by kernel_rfl
theorem k6 : ((Tryz.prog.stops == [])) = true := by kernel_rfl
theorem k7 : ((Rows.topAccessRow.knobs == [])) = true := by kernel_rfl
theorem k8 : ((Tryz.prog.stopKnobs == [])) = true := by kernel_rfl
theorem k9 : (Rows.topAccessRow.inPlace == Tryz.prog.inPlace 8) = true := by unfold Program.inPlace; rw [clo8]; kernel_rfl
theorem k10 : (Rows.topAccessRow.unfollowed == Tryz.prog.unfollowed 8) = true := by rw [unf]; rfl
theorem k11 : (Rows.topAccessRow.recurses == Tryz.prog.recurses 8) = true := by rw [rec]; rfl
theorem k12 : (Rows.topAccessRow.named == Tryz.prog.varsNamed 8) = true := by unfold Program.varsNamed; rw [clo8]; kernel_rfl
theorem k13 : ((Rows.topAccessRow.maps == (Tryz.f8.params.toList ++ (OpenSpec.ofChange Rows.topAccessSpec).bare.plain.varTypes Tryz.prog).any (Tryz.prog.mapsRec ·))) = true := by kernel_rfl
theorem k14 : ((Rows.topAccessRow.ifaces == (Tryz.f8.params.toList ++ (OpenSpec.ofChange Rows.topAccessSpec).bare.plain.varTypes Tryz.prog).any (Tryz.prog.ifacesRec ·))) = true := by kernel_rfl
theorem k15 : ((Rows.topAccessRow.mapsOut == Tryz.prog.mapsAmong Tryz.f8.resultTypes.toList)) = true := by kernel_rfl
theorem k16 : ((Rows.topAccessRow.loops == (Tryz.f8.params.toList ++ (OpenSpec.ofChange Rows.topAccessSpec).bare.plain.varTypes Tryz.prog).any (Tryz.prog.loopsFrom ·))) = true := by kernel_rfl
theorem k17 : ((Rows.topAccessRow.wideKeys == (Tryz.f8.params.toList ++ (OpenSpec.ofChange Rows.topAccessSpec).bare.plain.varTypes Tryz.prog ++ Tryz.f8.resultTypes.toList).any (Tryz.prog.wideKeysFrom ·))) = true := by kernel_rfl
theorem k18 : ((OpenSpec.ofChange Rows.topAccessSpec).bare.vars.all (Tryz.prog.varReadable ·)) = true := by kernel_rfl
theorem k19 : (Tryz.f8.resultTypes.all (fun t => Tryz.prog.readableRec t && decide (t < Tryz.prog.types.size))) = true := by kernel_rfl
theorem k20 : ((Rows.topAccessRow.ifacesOut == Tryz.f8.resultTypes.toList.any (Tryz.prog.ifacesRec ·))) = true := by kernel_rfl
theorem k21 : ((Rows.topAccessRow.loopsOut == Tryz.f8.resultTypes.toList.any (Tryz.prog.loopsFrom ·))) = true := by kernel_rfl
theorem k22 : ((Rows.topAccessRow.plainKeys == Tryz.prog.plainKeys)) = true := by kernel_rfl
theorem k23 : (Rows.topAccessRow.shortTexts.isNone) = true := by kernel_rfl
theorem k24 : (Tryz.prog.stopsHeard) = true := by kernel_rfl
theorem k25 : (Tryz.prog.mayEnter) = true := by kernel_rfl
theorem k26 : ((Rows.topAccessRow.lifted == Tryz.prog.liftsFinal)) = true := by kernel_rfl
theorem k27 : ((Tryz.prog.make == some Rows.topAccessRow.make)) = true := by kernel_rfl
theorem k28 : ((Rows.topAccessRow.kinds == (if Rows.topAccessRow.domain.isEmpty then [] else Tryz.f8.params.toList.map fun t => match Tryz.prog.underlying t with | some (.int k) => some k | _ => none))) = true := by kernel_rfl
theorem k29 : ((Rows.topAccessRow.pinned == Rows.topAccessRow.pinnedBy)) = true := by kernel_rfl
theorem k30 : ((Rows.topAccessRow.veiled == (Tryz.f8.params.toList ++ (OpenSpec.ofChange Rows.topAccessSpec).bare.plain.varTypes Tryz.prog ++ Tryz.f8.resultTypes.toList).any (Tryz.prog.veiledRec ·))) = true := by kernel_rfl
theorem k31 : (Rows.topAccessRow.veiledFits Tryz.prog Tryz.f8.params.toList (Tryz.f8.params.toList ++ (OpenSpec.ofChange Rows.topAccessSpec).bare.plain.varTypes Tryz.prog ++ Tryz.f8.resultTypes.toList)) = true := by kernel_rfl
theorem closed : joinedFacts Tryz.pinned.checked.prog 8 Tryz.f8 (OpenSpec.ofChange Rows.topAccessSpec).bare Rows.topAccessRow = true := (both (both (both (both (both (both (both (both (both (both (both (both (both (both (both (both (both (both (both (both (both (both (both (both (both (both (both (both (both (both (both k0 k1) k2) k3) k4) k5) k6) k7) k8) k9) k10) k11) k12) k13) k14) k15) k16) k17) k18) k19) k20) k21) k22) k23) k24) k25) k26) k27) k28) k29) k30) k31)
theorem named : Tryz.prog.funcNamed "obelisk/obelisktop.TopAccess" = some 8 := by kernel_rfl
theorem goes2 : Tryz.prog.goesFrom "obelisk/obelisktop.TopAccess" = Option.any Tryz.prog.goes (Tryz.prog.funcNamed "obelisk/obelisktop.TopAccess") := by unfold Program.goesFrom; exact Eq.refl _
theorem goes3 : Option.any Tryz.prog.goes (some 8) = Tryz.prog.goes 8 := Option.any_some
theorem goes4 : Tryz.prog.goes 8 = false := goes_of unf
theorem goes0 : Tryz.prog.goesFrom "obelisk/obelisktop.TopAccess" = false := goes2.trans ((congrArg (Option.any Tryz.prog.goes) named).trans (goes3.trans goes4))
theorem goes1 : (Tryz.prog.goesFrom "obelisk/obelisktop.TopAccess" || false) = Rows.topAccessRow.goesBy Tryz.pinned.checked.prog := by kernel_rfl
theorem goes : false = Rows.topAccessRow.goesBy Tryz.pinned.checked.prog := ((Bool.or_false _).trans goes0).symm.trans goes1
end LTopAccess
end Go.Proofs.YtkjgefmionoobaaGreatDoor
