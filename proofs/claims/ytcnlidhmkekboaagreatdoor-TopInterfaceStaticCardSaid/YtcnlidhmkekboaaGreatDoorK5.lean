/-
  The closed facts of the row of TopInterfaceStatic, one by one, and together.
-/
import Derived.Test.YtcnlidhmkekboaaGreatDoorWt
import Derived.Test.YtcnlidhmkekboaaGreatDoorKa
import Derived.Test.YtcnlidhmkekboaaGreatDoorKb
import Derived.Test.YtcnlidhmkekboaaGreatDoorC5
import Derived.KernelRfl
namespace Go.Proofs.YtcnlidhmkekboaaGreatDoor
open Go
set_option maxRecDepth 100000
namespace LTopInterfaceStatic
theorem both {a b : Bool} (h : a = true) (h1 : b = true) : (a && b) = true := by rw [h, h1]; rfl
theorem unf : Tryz.prog.unfollowed 5 = true := by unfold Program.unfollowed; rw [clo5]; kernel_rfl
theorem rec : Tryz.prog.recurses 5 = true := by unfold Program.recurses; rw [unf]; rfl
theorem k0 : (Rows.topInterfaceStaticRow.wf (OpenSpec.ofChange (OpenSpec.ofChange Rows.topInterfaceStaticSpec).bare)) = true := by kernel_rfl
theorem k1 : laidOutB Tryz.prog = true := fact_laid
theorem k2 : (mapsRowed Tryz.prog) = true := by kernel_rfl
theorem k3 : (Tryz.f5.params.all (Tryz.prog.readableRec ·)) = true := by kernel_rfl
theorem k4 : (namedTie Tryz.prog Rows.topInterfaceStaticRow.named (OpenSpec.ofChange Rows.topInterfaceStaticSpec).bare.vars) = true := by kernel_rfl
theorem k5 : ((Rows.topInterfaceStaticRow.stops == [])) = true := by kernel_rfl
theorem k6 : ((Tryz.prog.stops == [])) = true := by kernel_rfl
theorem k7 : ((Rows.topInterfaceStaticRow.knobs == [])) = true := by kernel_rfl
theorem k8 : ((Tryz.prog.stopKnobs == [])) = true := by kernel_rfl
theorem k9 : (Rows.topInterfaceStaticRow.inPlace == Tryz.prog.inPlace 5) = true := by unfold Program.inPlace; rw [clo5]; kernel_rfl
theorem k10 : (Rows.topInterfaceStaticRow.unfollowed == Tryz.prog.unfollowed 5) = true := by rw [unf]; rfl
theorem k11 : (Rows.topInterfaceStaticRow.recurses == Tryz.prog.recurses 5) = true := by rw [rec]; rfl
theorem k12 : (Rows.topInterfaceStaticRow.named == Tryz.prog.varsNamed 5) = true := by unfold Program.varsNamed; rw [clo5]; kernel_rfl
theorem k13 : ((Rows.topInterfaceStaticRow.maps == (Tryz.f5.params.toList ++ (OpenSpec.ofChange Rows.topInterfaceStaticSpec).bare.plain.varTypes Tryz.prog).any (Tryz.prog.mapsRec ·))) = true := by kernel_rfl
theorem k14 : ((Rows.topInterfaceStaticRow.ifaces == (Tryz.f5.params.toList ++ (OpenSpec.ofChange Rows.topInterfaceStaticSpec).bare.plain.varTypes Tryz.prog).any (Tryz.prog.ifacesRec ·))) = true := by kernel_rfl
theorem k15 : ((Rows.topInterfaceStaticRow.mapsOut == Tryz.prog.mapsAmong Tryz.f5.resultTypes.toList)) = true := by kernel_rfl
theorem k16 : ((Rows.topInterfaceStaticRow.loops == (Tryz.f5.params.toList ++ (OpenSpec.ofChange Rows.topInterfaceStaticSpec).bare.plain.varTypes Tryz.prog).any (Tryz.prog.loopsFrom ·))) = true := by kernel_rfl
theorem k17 : ((Rows.topInterfaceStaticRow.wideKeys == (Tryz.f5.params.toList ++ (OpenSpec.ofChange Rows.topInterfaceStaticSpec).bare.plain.varTypes Tryz.prog ++ Tryz.f5.resultTypes.toList).any (Tryz.prog.wideKeysFrom ·))) = true := by kernel_rfl
theorem k18 : ((OpenSpec.ofChange Rows.topInterfaceStaticSpec).bare.vars.all (Tryz.prog.varReadable ·)) = true := by kernel_rfl
theorem k19 : (Tryz.f5.resultTypes.all (fun t => Tryz.prog.readableRec t && decide (t < Tryz.prog.types.size))) = true := by kernel_rfl
theorem k20 : ((Rows.topInterfaceStaticRow.ifacesOut == Tryz.f5.resultTypes.toList.any (Tryz.prog.ifacesRec ·))) = true := by kernel_rfl
theorem k21 : ((Rows.topInterfaceStaticRow.loopsOut == Tryz.f5.resultTypes.toList.any (Tryz.prog.loopsFrom ·))) = true := by kernel_rfl
theorem k22 : ((Rows.topInterfaceStaticRow.plainKeys == Tryz.prog.plainKeys)) = true := by kernel_rfl
theorem k23 : (Rows.topInterfaceStaticRow.shortTexts.isNone) = true := by kernel_rfl
theorem k24 : (Tryz.prog.stopsHeard) = true := by kernel_rfl
theorem k25 : (Tryz.prog.mayEnter) = true := by kernel_rfl
theorem k26 : ((Rows.topInterfaceStaticRow.lifted == Tryz.prog.liftsFinal)) = true := by kernel_rfl
theorem k27 : ((Tryz.prog.make == some Rows.topInterfaceStaticRow.make)) = true := by kernel_rfl
theorem k28 : ((Rows.topInterfaceStaticRow.kinds == (if Rows.topInterfaceStaticRow.domain.isEmpty then [] else Tryz.f5.params.toList.map fun t => match Tryz.prog.underlying t with | some (.int k) => some k | _ => none))) = true := by kernel_rfl
theorem k29 : ((Rows.topInterfaceStaticRow.pinned == Rows.topInterfaceStaticRow.pinnedBy)) = true := by kernel_rfl
theorem k30 : ((Rows.topInterfaceStaticRow.veiled == (Tryz.f5.params.toList ++ (OpenSpec.ofChange Rows.topInterfaceStaticSpec).bare.plain.varTypes Tryz.prog ++ Tryz.f5.resultTypes.toList).any (Tryz.prog.veiledRec ·))) = true := by kernel_rfl
theorem k31 : (Rows.topInterfaceStaticRow.veiledFits Tryz.prog Tryz.f5.params.toList (Tryz.f5.params.toList ++ (OpenSpec.ofChange Rows.topInterfaceStaticSpec).bare.plain.varTypes Tryz.prog ++ Tryz.f5.resultTypes.toList)) = true := by kernel_rfl
theorem closed : joinedFacts Tryz.pinned.checked.prog 5 Tryz.f5 (OpenSpec.ofChange Rows.topInterfaceStaticSpec).bare Rows.topInterfaceStaticRow = true := (both (both (both (both (both (both (both (both (both (both (both (both (both (both (both (both (both (both (both (both (both (both (both (both (both (both (both (both (both (both (both k0 k1) k2) k3) k4) k5) k6) k7) k8) k9) k10) k11) k12) k13) k14) k15) k16) k17) k18) k19) k20) k21) k22) k23) k24) k25) k26) k27) k28) k29) k30) k31)
theorem named : Tryz.prog.funcNamed "obelisk/obelisktop.TopInterfaceStatic" = some 5 := by kernel_rfl
theorem goes2 : Tryz.prog.goesFrom "obelisk/obelisktop.TopInterfaceStatic" = Option.any Tryz.prog.goes (Tryz.prog.funcNamed "obelisk/obelisktop.TopInterfaceStatic") := by unfold Program.goesFrom; exact Eq.refl _
theorem goes3 : Option.any Tryz.prog.goes (some 5) = Tryz.prog.goes 5 := Option.any_some
theorem goes4 : Tryz.prog.goes 5 = false := goes_of unf
theorem goes0 : Tryz.prog.goesFrom "obelisk/obelisktop.TopInterfaceStatic" = false := goes2.trans ((congrArg (Option.any Tryz.prog.goes) named).trans (goes3.trans goes4))
theorem goes1 : (Tryz.prog.goesFrom "obelisk/obelisktop.TopInterfaceStatic" || false) = Rows.topInterfaceStaticRow.goesBy Tryz.pinned.checked.prog := by kernel_rfl
theorem goes : false = Rows.topInterfaceStaticRow.goesBy Tryz.pinned.checked.prog := ((Bool.or_false _).trans goes0).symm.trans goes1
end LTopInterfaceStatic
end Go.Proofs.YtcnlidhmkekboaaGreatDoor
