/-
  The closed facts of the row of TopArgs, one by one, and together.
-/
import Derived.Test.YtdjgkjjgcbgniaaGreatDoorWt
import Derived.Test.YtdjgkjjgcbgniaaGreatDoorKa
import Derived.Test.YtdjgkjjgcbgniaaGreatDoorKb
import Derived.Test.YtdjgkjjgcbgniaaGreatDoorC7
import Derived.KernelRfl
set_option linter.unusedVariables false
set_option linter.unusedSimpArgs false
namespace Go.Proofs.YtdjgkjjgcbgniaaGreatDoor
open Go
set_option maxRecDepth 100000
namespace LTopArgs
theorem both {a b : Bool} (h : a = true) (h1 : b = true) : (a && b) = true := by rw [h, h1]; rfl
theorem unf : Tryz.prog.unfollowed 7 = true := by unfold Program.unfollowed; rw [clo7]; kernel_rfl
theorem rec : Tryz.prog.recurses 7 = true := by unfold Program.recurses; rw [unf]; rfl
theorem k0 : (Rows.topArgsRow.wf (OpenSpec.ofChange (OpenSpec.ofChange Rows.topArgsSpec).bare)) = true := by kernel_rfl
theorem k1 : laidOutB Tryz.prog = true := fact_laid
theorem k2 : (mapsRowed Tryz.prog) = true := by kernel_rfl
theorem k3 : (Tryz.f7.params.all (Tryz.prog.readableRec ·)) = true := by kernel_rfl
theorem k4 : (namedTie Tryz.prog Rows.topArgsRow.named (OpenSpec.ofChange Rows.topArgsSpec).bare.vars) = true := by kernel_rfl
theorem k5 : ((Rows.topArgsRow.stops == [])) = true := by kernel_rfl
theorem k6 : ((Tryz.prog.stops == [])) = true := by kernel_rfl
theorem k7 : ((Rows.topArgsRow.knobs == [])) = true := by kernel_rfl
theorem k8 : ((Tryz.prog.stopKnobs == [])) = true := by kernel_rfl
theorem k9 : (Rows.topArgsRow.inPlace == Tryz.prog.inPlace 7) = true := by unfold Program.inPlace; rw [clo7]; kernel_rfl
theorem k10 : (Rows.topArgsRow.unfollowed == Tryz.prog.unfollowed 7) = true := by rw [unf]; rfl
theorem k11 : (Rows.topArgsRow.recurses == Tryz.prog.recurses 7) = true := by rw [rec]; rfl
theorem k12 : (Rows.topArgsRow.named == Tryz.prog.varsNamed 7) = true := by unfold Program.varsNamed; rw [clo7]; kernel_rfl
theorem k13 : ((Rows.topArgsRow.maps == (Tryz.f7.params.toList ++ (OpenSpec.ofChange Rows.topArgsSpec).bare.plain.varTypes Tryz.prog).any (Tryz.prog.mapsRec ·))) = true := by kernel_rfl
theorem k14 : ((Rows.topArgsRow.ifaces == (Tryz.f7.params.toList ++ (OpenSpec.ofChange Rows.topArgsSpec).bare.plain.varTypes Tryz.prog).any (Tryz.prog.ifacesRec ·))) = true := by kernel_rfl
theorem k15 : ((Rows.topArgsRow.mapsOut == Tryz.prog.mapsAmong Tryz.f7.resultTypes.toList)) = true := by kernel_rfl
theorem k16 : ((Rows.topArgsRow.loops == (Tryz.f7.params.toList ++ (OpenSpec.ofChange Rows.topArgsSpec).bare.plain.varTypes Tryz.prog).any (Tryz.prog.loopsFrom ·))) = true := by kernel_rfl
theorem k17 : ((Rows.topArgsRow.wideKeys == (Tryz.f7.params.toList ++ (OpenSpec.ofChange Rows.topArgsSpec).bare.plain.varTypes Tryz.prog ++ Tryz.f7.resultTypes.toList).any (Tryz.prog.wideKeysFrom ·))) = true := by kernel_rfl
theorem k18 : ((OpenSpec.ofChange Rows.topArgsSpec).bare.vars.all (Tryz.prog.varReadable ·)) = true := by kernel_rfl
theorem k19 : (Tryz.f7.resultTypes.all (fun t => Tryz.prog.readableRec t && decide (t < Tryz.prog.types.size))) = true := by kernel_rfl
theorem k20 : ((Rows.topArgsRow.ifacesOut == Tryz.f7.resultTypes.toList.any (Tryz.prog.ifacesRec ·))) = true := by kernel_rfl
theorem k21 : ((Rows.topArgsRow.loopsOut == Tryz.f7.resultTypes.toList.any (Tryz.prog.loopsFrom ·))) = true := by kernel_rfl
theorem k22 : ((Rows.topArgsRow.plainKeys == Tryz.prog.plainKeys)) = true := by kernel_rfl
theorem k23 : (Rows.topArgsRow.shortTexts.isNone) = true := by kernel_rfl
theorem k24 : (Tryz.prog.stopsHeard) = true := by kernel_rfl
theorem k25 : (Tryz.prog.mayEnter) = true := by kernel_rfl
theorem k26 : ((Rows.topArgsRow.lifted == Tryz.prog.liftsFinal)) = true := by kernel_rfl
theorem k27 : ((Tryz.prog.make == some Rows.topArgsRow.make)) = true := by kernel_rfl
theorem k28 : ((Rows.topArgsRow.kinds == (if Rows.topArgsRow.domain.isEmpty then [] else Tryz.f7.params.toList.map fun t => match Tryz.prog.underlying t with | some (.int k) => some k | _ => none))) = true := by kernel_rfl
theorem k29 : ((Rows.topArgsRow.pinned == Rows.topArgsRow.pinnedBy)) = true := by kernel_rfl
theorem k30 : ((Rows.topArgsRow.veiled == (Tryz.f7.params.toList ++ (OpenSpec.ofChange Rows.topArgsSpec).bare.plain.varTypes Tryz.prog ++ Tryz.f7.resultTypes.toList).any (Tryz.prog.veiledRec ·))) = true := by kernel_rfl
theorem k31 : (Rows.topArgsRow.veiledFits Tryz.prog Tryz.f7.params.toList (Tryz.f7.params.toList ++ (OpenSpec.ofChange Rows.topArgsSpec).bare.plain.varTypes Tryz.prog ++ Tryz.f7.resultTypes.toList)) = true := by kernel_rfl
theorem closed : joinedFacts Tryz.pinned.checked.prog 7 Tryz.f7 (OpenSpec.ofChange Rows.topArgsSpec).bare Rows.topArgsRow = true := (both (both (both (both (both (both (both (both (both (both (both (both (both (both (both (both (both (both (both (both (both (both (both (both (both (both (both (both (both (both (both k0 k1) k2) k3) k4) k5) k6) k7) k8) k9) k10) k11) k12) k13) k14) k15) k16) k17) k18) k19) k20) k21) k22) k23) k24) k25) k26) k27) k28) k29) k30) k31)
theorem named : Tryz.prog.funcNamed "obelisk/obelisktop.TopArgs" = some 7 := by kernel_rfl
theorem goes2 : Tryz.prog.goesFrom "obelisk/obelisktop.TopArgs" = Option.any Tryz.prog.goes (Tryz.prog.funcNamed "obelisk/obelisktop.TopArgs") := by unfold Program.goesFrom; exact Eq.refl _
theorem goes3 : Option.any Tryz.prog.goes (some 7) = Tryz.prog.goes 7 := Option.any_some
theorem goes4 : Tryz.prog.goes 7 = false := goes_of unf
theorem goes0 : Tryz.prog.goesFrom "obelisk/obelisktop.TopArgs" = false := goes2.trans ((congrArg (Option.any Tryz.prog.goes) named).trans (goes3.trans goes4))
theorem goes1 : (Tryz.prog.goesFrom "obelisk/obelisktop.TopArgs" || false) = Rows.topArgsRow.goesBy Tryz.pinned.checked.prog := by kernel_rfl
theorem goes : false = Rows.topArgsRow.goesBy Tryz.pinned.checked.prog := ((Bool.or_false _).trans goes0).symm.trans goes1
end LTopArgs
end Go.Proofs.YtdjgkjjgcbgniaaGreatDoor
