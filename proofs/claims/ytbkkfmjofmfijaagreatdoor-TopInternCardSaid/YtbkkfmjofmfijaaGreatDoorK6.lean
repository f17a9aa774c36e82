/-
  The closed facts of the row of TopIntern, one by one, and together.
-/
import Derived.Test.YtbkkfmjofmfijaaGreatDoorWt
import Derived.Test.YtbkkfmjofmfijaaGreatDoorKa
import Derived.Test.YtbkkfmjofmfijaaGreatDoorKb
import Derived.Test.YtbkkfmjofmfijaaGreatDoorC6
import Derived.KernelRfl
set_option linter.unusedVariables false
set_option linter.unusedSimpArgs false
namespace Go.Proofs.YtbkkfmjofmfijaaGreatDoor
open Go
set_option maxRecDepth 100000
namespace LTopIntern
theorem both {a b : Bool} (h : a = true) (h1 : b = true) : (a && b) = true := by rw [h, h1]; rfl
theorem unf : Tryz.prog.unfollowed 6 = true := by unfold Program.unfollowed; rw [clo6]; kernel_rfl
theorem rec : Tryz.prog.recurses 6 = true := by unfold Program.recurses; rw [unf]; rfl
theorem k0 : (Rows.topInternRow.wf (OpenSpec.ofChange (OpenSpec.ofChange Rows.topInternSpec).bare)) = true := by kernel_rfl
theorem k1 : laidOutB Tryz.prog = true := fact_laid
theorem k2 : (mapsRowed Tryz.prog) = true := by kernel_rfl
theorem k3 : (Tryz.f6.params.all (Tryz.prog.readableRec ·)) = true := by kernel_rfl
theorem k4 : (namedTie Tryz.prog Rows.topInternRow.named (OpenSpec.ofChange Rows.topInternSpec).bare.vars) = true := by kernel_rfl
theorem k5 : ((Rows.topInternRow.stops == [])) = true := by kernel_rfl
theorem k6 : ((Tryz.prog.stops == [])) = true := by kernel_rfl
theorem k7 : ((Rows.topInternRow.knobs == [])) = true := by kernel_rfl
theorem k8 : ((Tryz.prog.stopKnobs == [])) = true := by kernel_rfl
theorem k9 : (Rows.topInternRow.inPlace == Tryz.prog.inPlace 6) = true := by unfold Program.inPlace; rw [clo6]; kernel_rfl
theorem k10 : (Rows.topInternRow.unfollowed == Tryz.prog.unfollowed 6) = true := by rw [unf]; rfl
theorem k11 : (Rows.topInternRow.recurses == Tryz.prog.recurses 6) = true := by rw [rec]; rfl
theorem k12 : (Rows.topInternRow.named == Tryz.prog.varsNamed 6) = true := by unfold Program.varsNamed; rw [clo6]; kernel_rfl
theorem k13 : ((Rows.topInternRow.maps == (Tryz.f6.params.toList ++ (OpenSpec.ofChange Rows.topInternSpec).bare.plain.varTypes Tryz.prog).any (Tryz.prog.mapsRec ·))) = true := by kernel_rfl
theorem k14 : ((Rows.topInternRow.ifaces == (Tryz.f6.params.toList ++ (OpenSpec.ofChange Rows.topInternSpec).bare.plain.varTypes Tryz.prog).any (Tryz.prog.ifacesRec ·))) = true := by kernel_rfl
theorem k15 : ((Rows.topInternRow.mapsOut == Tryz.prog.mapsAmong Tryz.f6.resultTypes.toList)) = true := by kernel_rfl
theorem k16 : ((Rows.topInternRow.loops == (Tryz.f6.params.toList ++ (OpenSpec.ofChange Rows.topInternSpec).bare.plain.varTypes Tryz.prog).any (Tryz.prog.loopsFrom ·))) = true := by kernel_rfl
theorem k17 : ((Rows.topInternRow.wideKeys == (Tryz.f6.params.toList ++ (OpenSpec.ofChange Rows.topInternSpec).bare.plain.varTypes Tryz.prog ++ Tryz.f6.resultTypes.toList).any (Tryz.prog.wideKeysFrom ·))) = true := by kernel_rfl
theorem k18 : ((OpenSpec.ofChange Rows.topInternSpec).bare.vars.all (Tryz.prog.varReadable ·)) = true := by kernel_rfl
theorem k19 : (Tryz.f6.resultTypes.all (fun t => Tryz.prog.readableRec t && decide (t < Tryz.prog.types.size))) = true := by kernel_rfl
theorem k20 : ((Rows.topInternRow.ifacesOut == Tryz.f6.resultTypes.toList.any (Tryz.prog.ifacesRec ·))) = true := by kernel_rfl
theorem k21 : ((Rows.topInternRow.loopsOut == Tryz.f6.resultTypes.toList.any (Tryz.prog.loopsFrom ·))) = true := by kernel_rfl
theorem k22 : ((Rows.topInternRow.plainKeys == Tryz.prog.plainKeys)) = true := by kernel_rfl
theorem k23 : (Rows.topInternRow.shortTexts.isNone) = true := by kernel_rfl
theorem k24 : (Tryz.prog.stopsHeard) = true := by kernel_rfl
theorem k25 : (Tryz.prog.mayEnter) = true := by kernel_rfl
theorem k26 : ((Rows.topInternRow.lifted == Tryz.prog.liftsFinal)) = true := by kernel_rfl
theorem k27 : ((Tryz.prog.make == some Rows.topInternRow.make)) = true := by kernel_rfl
theorem k28 : ((Rows.topInternRow.kinds == (if Rows.topInternRow.domain.isEmpty then [] else Tryz.f6.params.toList.map fun t => match Tryz.prog.underlying t with | some (.int k) => some k | _ => none))) = true := by kernel_rfl
theorem k29 : ((Rows.topInternRow.pinned == Rows.topInternRow.pinnedBy)) = true := by kernel_rfl
theorem k30 : ((Rows.topInternRow.veiled == (Tryz.f6.params.toList ++ (OpenSpec.ofChange Rows.topInternSpec).bare.plain.varTypes Tryz.prog ++ Tryz.f6.resultTypes.toList).any (Tryz.prog.veiledRec ·))) = true := by kernel_rfl
theorem k31 : (Rows.topInternRow.veiledFits Tryz.prog Tryz.f6.params.toList (Tryz.f6.params.toList ++ (OpenSpec.ofChange Rows.topInternSpec).bare.plain.varTypes Tryz.prog ++ Tryz.f6.resultTypes.toList)) = true := by kernel_rfl
theorem closed : joinedFacts Tryz.pinned.checked.prog 6 Tryz.f6 (OpenSpec.ofChange Rows.topInternSpec).bare Rows.topInternRow = true := (both (both (both (both (both (both (both (both (both (both (both (both (both (both (both (both (both (both (both (both (both (both (both (both (both (both (both (both (both (both (both k0 k1) k2) k3) k4) k5) k6) k7) k8) k9) k10) k11) k12) k13) k14) k15) k16) k17) k18) k19) k20) k21) k22) k23) k24) k25) k26) k27) k28) k29) k30) k31)
theorem named : Tryz.prog.funcNamed "obelisk/obelisktop.TopIntern" = some 6 := by kernel_rfl
theorem goes2 : Tryz.prog.goesFrom "obelisk/obelisktop.TopIntern" = Option.any Tryz.prog.goes (Tryz.prog.funcNamed "obelisk/obelisktop.TopIntern") := by unfold Program.goesFrom; exact Eq.refl _
theorem goes3 : Option.any Tryz.prog.goes (some 6) = Tryz.prog.goes 6 := Option.any_some
theorem goes4 : Tryz.prog.goes 6 = false := goes_of unf
theorem goes0 : Tryz.prog.goesFrom "obelisk/obelisktop.TopIntern" = false := goes2.trans ((congrArg (Option.any Tryz.prog.goes) named).trans (goes3.trans goes4))
theorem goes1 : (Tryz.prog.goesFrom "obelisk/obelisktop.TopIntern" || false) = Rows.topInternRow.goesBy Tryz.pinned.checked.prog := by kernel_rfl
theorem goes : false = Rows.topInternRow.goesBy Tryz.pinned.checked.prog := ((Bool.or_false _).trans goes0).symm.trans goes1
end LTopIntern
end Go.Proofs.YtbkkfmjofmfijaaGreatDoor
