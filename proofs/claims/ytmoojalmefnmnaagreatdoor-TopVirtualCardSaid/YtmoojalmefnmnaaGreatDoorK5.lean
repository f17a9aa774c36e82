/-
  The closed facts of the row of TopVirtual, one by one, and together.
-/
import Derived.Test.YtmoojalmefnmnaaGreatDoorWt
import Derived.Test.YtmoojalmefnmnaaGreatDoorKa
import Derived.Test.YtmoojalmefnmnaaGreatDoorKb
import Derived.Test.YtmoojalmefnmnaaGreatDoorC5
import Derived.KernelRfl
set_option linter.unusedVariables false
set_option linter.unusedSimpArgs false
namespace Go.Proofs.YtmoojalmefnmnaaGreatDoor
open Go
set_option maxRecDepth 100000
namespace LTopVirtual
theorem both {a b : Bool} (h : a = true) (h1 : b = true) : (a && b) = true := by rw [h, h1]; rfl
theorem unf : Tryz.prog.unfollowed 5 = true := by unfold Program.unfollowed; rw [clo5]; kernel_rfl
theorem rec : Tryz.prog.recurses 5 = true := by unfold Program.recurses; rw [unf]; rfl
theorem k0 : (Rows.topVirtualRow.wf (OpenSpec.ofChange (OpenSpec.ofChange Rows.topVirtualSpec).bare)) = true := by kernel_rfl
theorem k1 : laidOutB Tryz.prog = true := fact_laid
theorem k2 : (mapsRowed Tryz.prog) = true := by kernel_rfl
theorem k3 : (Tryz.f5.params.all (Tryz.prog.readableRec ·)) = true := by kernel_rfl
theorem k4 : (namedTie Tryz.prog Rows.topVirtualRow.named (OpenSpec.ofChange Rows.topVirtualSpec).bare.vars) = true := by kernel_rfl
theorem k5 : ((Rows.topVirtualRow.stops == [])) = true := by kernel_rfl
theorem k6 : ((Tryz.prog.stops == [])) = true := by kernel_rfl
theorem k7 : ((Rows.topVirtualRow.knobs == [])) = true := by kernel_rfl
theorem k8 : ((Tryz.prog.stopKnobs == [])) = true := by kernel_rfl
theorem k9 : (Rows.topVirtualRow.inPlace == Tryz.prog.inPlace 5) = true := by unfold Program.inPlace; rw [clo5]; kernel_rfl
theorem k10 : (Rows.topVirtualRow.unfollowed == Tryz.prog.unfollowed 5) = true := by rw [unf]; rfl
theorem k11 : (Rows.topVirtualRow.recurses == Tryz.prog.recurses 5) = true := by rw [rec]; rfl
theorem k12 : (Rows.topVirtualRow.named == Tryz.prog.varsNamed 5) = true := by unfold Program.varsNamed; rw [clo5]; kernel_rfl
theorem k13 : ((Rows.topVirtualRow.maps == (Tryz.f5.params.toList ++ (OpenSpec.ofChange Rows.topVirtualSpec).bare.plain.varTypes Tryz.prog).any (Tryz.prog.mapsRec ·))) = true := by kernel_rfl
theorem k14 : ((Rows.topVirtualRow.ifaces == (Tryz.f5.params.toList ++ (OpenSpec.ofChange Rows.topVirtualSpec).bare.plain.varTypes Tryz.prog).any (Tryz.prog.ifacesRec ·))) = true := by kernel_rfl
theorem k15 : ((Rows.topVirtualRow.mapsOut == Tryz.prog.mapsAmong Tryz.f5.resultTypes.toList)) = true := by kernel_rfl
theorem k16 : ((Rows.topVirtualRow.loops == (Tryz.f5.params.toList ++ (OpenSpec.ofChange Rows.topVirtualSpec).bare.plain.varTypes Tryz.prog).any (Tryz.prog.loopsFrom ·))) = true := by kernel_rfl
theorem k17 : ((Rows.topVirtualRow.wideKeys == (Tryz.f5.params.toList ++ (OpenSpec.ofChange Rows.topVirtualSpec).bare.plain.varTypes Tryz.prog ++ Tryz.f5.resultTypes.toList).any (Tryz.prog.wideKeysFrom ·))) = true := by kernel_rfl
theorem k18 : ((OpenSpec.ofChange Rows.topVirtualSpec).bare.vars.all (Tryz.prog.varReadable ·)) = true := by kernel_rfl
theorem k19 : (Tryz.f5.resultTypes.all (fun t => Tryz.prog.readableRec t && decide (t < Tryz.prog.types.size))) = true := by kernel_rfl
theorem k20 : ((Rows.topVirtualRow.ifacesOut == Tryz.f5.resultTypes.toList.any (Tryz.prog.ifacesRec ·))) = true := by kernel_rfl
theorem k21 : ((Rows.topVirtualRow.loopsOut == Tryz.f5.resultTypes.toList.any (Tryz.prog.loopsFrom ·))) = true := by kernel_rfl
theorem k22 : ((Rows.topVirtualRow.plainKeys == Tryz.prog.plainKeys)) = true := by kernel_rfl
theorem k23 : (Rows.topVirtualRow.shortTexts.isNone) = true := by kernel_rfl
theorem k24 : (Tryz.prog.stopsHeard) = true := by kernel_rfl
theorem k25 : (Tryz.prog.mayEnter) = true := by kernel_rfl
theorem k26 : ((Rows.topVirtualRow.lifted == Tryz.prog.liftsFinal)) = true := by kernel_rfl
theorem k27 : ((Tryz.prog.make == some Rows.topVirtualRow.make)) = true := by kernel_rfl
theorem k28 : ((Rows.topVirtualRow.kinds == (if Rows.topVirtualRow.domain.isEmpty then [] else Tryz.f5.params.toList.map fun t => match Tryz.prog.underlying t with | some (.int k) => some k | _ => none))) = true := by kernel_rfl
theorem k29 : ((Rows.topVirtualRow.pinned == Rows.topVirtualRow.pinnedBy)) = true := by kernel_rfl
theorem k30 : ((Rows.topVirtualRow.veiled == (Tryz.f5.params.toList ++ (OpenSpec.ofChange Rows.topVirtualSpec).bare.plain.varTypes Tryz.prog ++ Tryz.f5.resultTypes.toList).any (Tryz.prog.veiledRec ·))) = true := by kernel_rfl
theorem k31 : (Rows.topVirtualRow.veiledFits Tryz.prog Tryz.f5.params.toList (Tryz.f5.params.toList ++ (OpenSpec.ofChange Rows.topVirtualSpec).bare.plain.varTypes Tryz.prog ++ Tryz.f5.resultTypes.toList)) = true := by kernel_rfl
theorem closed : joinedFacts Tryz.pinned.checked.prog 5 Tryz.f5 (OpenSpec.ofChange Rows.topVirtualSpec).bare Rows.topVirtualRow = true := (both (both (both (both (both (both (both (both (both (both (both (both (both (both (both (both (both (both (both (both (both (both (both (both (both (both (both (both (both (both (both k0 k1) k2) k3) k4) k5) k6) k7) k8) k9) k10) k11) k12) k13) k14) k15) k16) k17) k18) k19) k20) k21) k22) k23) k24) k25) k26) k27) k28) k29) k30) k31)
theorem named : Tryz.prog.funcNamed "obelisk/obelisktop.TopVirtual" = some 5 := by kernel_rfl
theorem goes2 : Tryz.prog.goesFrom "obelisk/obelisktop.TopVirtual" = Option.any Tryz.prog.goes (Tryz.prog.funcNamed "obelisk/obelisktop.TopVirtual") := by unfold Program.goesFrom; exact Eq.refl _
theorem goes3 : Option.any Tryz.prog.goes (some 5) = Tryz.prog.goes 5 := Option.any_some
theorem goes4 : Tryz.prog.goes 5 = false := goes_of unf
theorem goes0 : Tryz.prog.goesFrom "obelisk/obelisktop.TopVirtual" = false := goes2.trans ((congrArg (Option.any Tryz.prog.goes) named).trans (goes3.trans goes4))
theorem goes1 : (Tryz.prog.goesFrom "obelisk/obelisktop.TopVirtual" || false) = Rows.topVirtualRow.goesBy Tryz.pinned.checked.prog := by kernel_rfl
theorem goes : false = Rows.topVirtualRow.goesBy Tryz.pinned.checked.prog := ((Bool.or_false _).trans goes0).symm.trans goes1
end LTopVirtual
end Go.Proofs.YtmoojalmefnmnaaGreatDoor
