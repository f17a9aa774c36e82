/-
  The closed facts of the row of TopWide, one by one, and together.
-/
import Derived.Test.YtdjgkjjgcbgniaaGreatDoorWt
import Derived.Test.YtdjgkjjgcbgniaaGreatDoorKa
import Derived.Test.YtdjgkjjgcbgniaaGreatDoorKb
import Derived.Test.YtdjgkjjgcbgniaaGreatDoorC4
import Derived.KernelRfl
set_option linter.unusedVariables false
set_option linter.unusedSimpArgs false
namespace Go.Proofs.YtdjgkjjgcbgniaaGreatDoor
open Go
set_option maxRecDepth 100000
namespace LTopWide
theorem both {a b : Bool} (h : a = true) (h1 : b = true) : (a && b) = true := by rw [h, h1]; rfl
theorem unf : Tryz.prog.unfollowed 4 = true := by unfold Program.unfollowed; rw [clo4]; kernel_rfl
theorem rec : Tryz.prog.recurses 4 = true := by unfold Program.recurses; rw [unf]; rfl
theorem k0 : (Rows.topWideRow.wf (OpenSpec.ofChange (OpenSpec.ofChange Rows.topWideSpec).bare)) = true := by kernel_rfl
theorem k1 : laidOutB Tryz.prog = true := fact_laid
theorem k2 : (mapsRowed Tryz.prog) = true := by kernel_rfl
theorem k3 : (Tryz.f4.params.all (Tryz.prog.readableRec ·)) = true := by kernel_rfl
theorem k4 : (namedTie Tryz.prog Rows.topWideRow.named (OpenSpec.ofChange Rows.topWideSpec).bare.vars) = true := by kernel_rfl
theorem k5 : ((Rows.topWideRow.stops == [])) = true := by kernel_rfl
theorem k6 : ((Tryz.prog.stops == [])) = true := by kernel_rfl
theorem k7 : ((Rows.topWideRow.knobs == [])) = true := by kernel_rfl
theorem k8 : ((Tryz.prog.stopKnobs == [])) = true := by kernel_rfl
theorem k9 : (Rows.topWideRow.inPlace == Tryz.prog.inPlace 4) = true := by unfold Program.inPlace; rw [clo4]; kernel_rfl
theorem k10 : (Rows.topWideRow.unfollowed == Tryz.prog.unfollowed 4) = true := by rw [unf]; rfl
theorem k11 : (Rows.topWideRow.recurses == Tryz.prog.recurses 4) = true := by rw [rec]; rfl
theorem k12 : (Rows.topWideRow.named == Tryz.prog.varsNamed 4) = true := by unfold Program.varsNamed; rw [clo4]; kernel_rfl
theorem k13 : ((Rows.topWideRow.maps == (Tryz.f4.params.toList ++ (OpenSpec.ofChange Rows.topWideSpec).bare.plain.varTypes Tryz.prog).any (Tryz.prog.mapsRec ·))) = true := by kernel_rfl
theorem k14 : ((Rows.topWideRow.ifaces == (Tryz.f4.params.toList ++ (OpenSpec.ofChange Rows.topWideSpec).bare.plain.varTypes Tryz.prog).any (Tryz.prog.ifacesRec ·))) = true := by kernel_rfl
theorem k15 : ((Rows.topWideRow.mapsOut == Tryz.prog.mapsAmong Tryz.f4.resultTypes.toList)) = true := by kernel_rfl
theorem k16 : ((Rows.topWideRow.loops == (Tryz.f4.params.toList ++ (OpenSpec.ofChange Rows.topWideSpec).bare.plain.varTypes Tryz.prog).any (Tryz.prog.loopsFrom ·))) = true := by kernel_rfl
theorem k17 : ((Rows.topWideRow.wideKeys == (Tryz.f4.params.toList ++ (OpenSpec.ofChange Rows.topWideSpec).bare.plain.varTypes Tryz.prog ++ Tryz.f4.resultTypes.toList).any (Tryz.prog.wideKeysFrom ·))) = true := by kernel_rfl
theorem k18 : ((OpenSpec.ofChange Rows.topWideSpec).bare.vars.all (Tryz.prog.varReadable ·)) = true := by kernel_rfl
theorem k19 : (Tryz.f4.resultTypes.all (fun t => Tryz.prog.readableRec t && decide (t < Tryz.prog.types.size))) = true := by kernel_rfl
theorem k20 : ((Rows.topWideRow.ifacesOut == Tryz.f4.resultTypes.toList.any (Tryz.prog.ifacesRec ·))) = true := by kernel_rfl
theorem k21 : ((Rows.topWideRow.loopsOut == Tryz.f4.resultTypes.toList.any (Tryz.prog.loopsFrom ·))) = true := by kernel_rfl
theorem k22 : ((Rows.topWideRow.plainKeys == Tryz.prog.plainKeys)) = true := by kernel_rfl
theorem k23 : (Rows.topWideRow.shortTexts.isNone) = true := by kernel_rfl
theorem k24 : (Tryz.prog.stopsHeard) = true := by kernel_rfl
theorem k25 : (Tryz.prog.mayEnter) = true := by kernel_rfl
theorem k26 : ((Rows.topWideRow.lifted == Tryz.prog.liftsFinal)) = true := by kernel_rfl
theorem k27 : ((Tryz.prog.make == some Rows.topWideRow.make)) = true := by kernel_rfl
theorem k28 : ((Rows.topWideRow.kinds == (if Rows.topWideRow.domain.isEmpty then [] else Tryz.f4.params.toList.map fun t => match Tryz.prog.underlying t with | some (.int k) => some k | _ => none))) = true := by kernel_rfl
theorem k29 : ((Rows.topWideRow.pinned == Rows.topWideRow.pinnedBy)) = true := by kernel_rfl
theorem k30 : ((Rows.topWideRow.veiled == (Tryz.f4.params.toList ++ (OpenSpec.ofChange Rows.topWideSpec).bare.plain.varTypes Tryz.prog ++ Tryz.f4.resultTypes.toList).any (Tryz.prog.veiledRec ·))) = true := by kernel_rfl
theorem k31 : (Rows.topWideRow.veiledFits Tryz.prog Tryz.f4.params.toList (Tryz.f4.params.toList ++ (OpenSpec.ofChange Rows.topWideSpec).bare.plain.varTypes Tryz.prog ++ Tryz.f4.resultTypes.toList)) = true := by kernel_rfl
theorem closed : joinedFacts Tryz.pinned.checked.prog 4 Tryz.f4 (OpenSpec.ofChange Rows.topWideSpec).bare Rows.topWideRow = true := (both (both (both (both (both (both (both (both (both (both (both (both (both (both (both (both (both (both (both (both (both (both (both (both (both (both (both (both (both (both (both k0 k1) k2) k3) k4) k5) k6) k7) k8) k9) k10) k11) k12) k13) k14) k15) k16) k17) k18) k19) k20) k21) k22) k23) k24) k25) k26) k27) k28) k29) k30) k31)
theorem named : Tryz.prog.funcNamed "obelisk/obelisktop.TopWide" = some 4 := by kernel_rfl
theorem goes2 : Tryz.prog.goesFrom "obelisk/obelisktop.TopWide" = Option.any Tryz.prog.goes (Tryz.prog.funcNamed "obelisk/obelisktop.TopWide") := by unfold Program.goesFrom; exact Eq.refl _
theorem goes3 : Option.any Tryz.prog.goes (some 4) = Tryz.prog.goes 4 := Option.any_some
theorem goes4 : Tryz.prog.goes 4 = false := goes_of unf
theorem goes0 : Tryz.prog.goesFrom "obelisk/obelisktop.TopWide" = false := goes2.trans ((congrArg (Option.any Tryz.prog.goes) named).trans (goes3.trans goes4))
theorem goes1 : (Tryz.prog.goesFrom "obelisk/obelisktop.TopWide" || false) = Rows.topWideRow.goesBy Tryz.pinned.checked.prog := by kernel_rfl
theorem goes : false = Rows.topWideRow.goesBy Tryz.pinned.checked.prog := ((Bool.or_false _).trans goes0).symm.trans goes1
end LTopWide
end Go.Proofs.YtdjgkjjgcbgniaaGreatDoor
