/-
  The closed facts of the row of TopObject, one by one, and together.
-/
import Derived.Test.YtdjgkjjgcbgniaaGreatDoorWt
import Derived.Test.YtdjgkjjgcbgniaaGreatDoorKa
import Derived.Test.YtdjgkjjgcbgniaaGreatDoorKb
import Derived.Test.YtdjgkjjgcbgniaaGreatDoorC8
import Derived.KernelRfl
set_option linter.unusedVariables false
set_option linter.unusedSimpArgs false
namespace Go.Proofs.YtdjgkjjgcbgniaaGreatDoor
open Go
set_option maxRecDepth 100000
namespace LTopObject
theorem both {a b : Bool} (h : a = true) (h1 : b = true) : (a && b) = true := by rw [h, h1]; rfl
theorem unf : Tryz.prog.unfollowed 8 = true := by unfold Program.unfollowed; rw [clo8]; kernel_rfl
theorem rec : Tryz.prog.recurses 8 = true := by unfold Program.recurses; rw [unf]; rfl
theorem k0 : (Rows.topObjectRow.wf (OpenSpec.ofChange (OpenSpec.ofChange Rows.topObjectSpec).bare)) = true := by kernel_rfl
theorem k1 : laidOutB Tryz.prog = true := fact_laid
theorem k2 : (mapsRowed Tryz.prog) = true := by kernel_rfl
theorem k3 : (Tryz.f8.params.all (Tryz.prog.readableRec ·)) = true := by kernel_rfl
theorem k4 : (namedTie Tryz.prog Rows.topObjectRow.named (OpenSpec.ofChange Rows.topObjectSpec).bare.vars) = true := by kernel_rfl
theorem k5 : ((Rows.topObjectRow.stops == [])) = true := by kernel_rfl
theorem k6 : ((Tryz.prog.stops == [])) = true := by kernel_rfl
theorem k7 : ((Rows.topObjectRow.knobs == [])) = true := by kernel_rfl
theorem k8 : ((Tryz.prog.stopKnobs == [])) = true := by kernel_rfl
theorem k9 : (Rows.topObjectRow.inPlace == Tryz.prog.inPlace 8) = true := by unfold Program.inPlace; rw [clo8]; kernel_rfl
theorem k10 : (Rows.topObjectRow.unfollowed == Tryz.prog.unfollowed 8) = true := by rw [unf]; rfl
theorem k11 : (Rows.topObjectRow.recurses == Tryz.prog.recurses 8) = true := by rw [rec]; rfl
theorem k12 : (Rows.topObjectRow.named == Tryz.prog.varsNamed 8) = true := by unfold Program.varsNamed; rw [clo8]; kernel_rfl
theorem k13 : ((Rows.topObjectRow.maps == (Tryz.f8.params.toList ++ (OpenSpec.ofChange Rows.topObjectSpec).bare.plain.varTypes Tryz.prog).any (Tryz.prog.mapsRec ·))) = true := by kernel_rfl
theorem k14 : ((Rows.topObjectRow.ifaces == (Tryz.f8.params.toList ++ (OpenSpec.ofChange Rows.topObjectSpec).bare.plain.varTypes Tryz.prog).any (Tryz.prog.ifacesRec ·))) = true := by kernel_rfl
theorem k15 : ((Rows.topObjectRow.mapsOut == Tryz.prog.mapsAmong Tryz.f8.resultTypes.toList)) = true := by kernel_rfl
theorem k16 : ((Rows.topObjectRow.loops == (Tryz.f8.params.toList ++ (OpenSpec.ofChange Rows.topObjectSpec).bare.plain.varTypes Tryz.prog).any (Tryz.prog.loopsFrom ·))) = true := by kernel_rfl
theorem k17 : ((Rows.topObjectRow.wideKeys == (Tryz.f8.params.toList ++ (OpenSpec.ofChange Rows.topObjectSpec).bare.plain.varTypes Tryz.prog ++ Tryz.f8.resultTypes.toList).any (Tryz.prog.wideKeysFrom ·))) = true := by kernel_rfl
theorem k18 : ((OpenSpec.ofChange Rows.topObjectSpec).bare.vars.all (Tryz.prog.varReadable ·)) = true := by kernel_rfl
theorem k19 : (Tryz.f8.resultTypes.all (fun t => Tryz.prog.readableRec t && decide (t < Tryz.prog.types.size))) = true := by kernel_rfl
theorem k20 : ((Rows.topObjectRow.ifacesOut == Tryz.f8.resultTypes.toList.any (Tryz.prog.ifacesRec ·))) = true := by kernel_rfl
theorem k21 : ((Rows.topObjectRow.loopsOut == Tryz.f8.resultTypes.toList.any (Tryz.prog.loopsFrom ·))) = true := by kernel_rfl
theorem k22 : ((Rows.topObjectRow.plainKeys == Tryz.prog.plainKeys)) = true := by kernel_rfl
theorem k23 : (Rows.topObjectRow.shortTexts.isNone) = true := by kernel_rfl
theorem k24 : (Tryz.prog.stopsHeard) = true := by kernel_rfl
theorem k25 : (Tryz.prog.mayEnter) = true := by kernel_rfl
theorem k26 : ((Rows.topObjectRow.lifted == Tryz.prog.liftsFinal)) = true := by kernel_rfl
theorem k27 : ((Tryz.prog.make == some Rows.topObjectRow.make)) = true := by kernel_rfl
theorem k28 : ((Rows.topObjectRow.kinds == (if Rows.topObjectRow.domain.isEmpty then [] else Tryz.f8.params.toList.map fun t => match Tryz.prog.underlying t with | some (.int k) => some k | _ => none))) = true := by kernel_rfl
theorem k29 : ((Rows.topObjectRow.pinned == Rows.topObjectRow.pinnedBy)) = true := by kernel_rfl
theorem k30 : ((Rows.topObjectRow.veiled == (Tryz.f8.params.toList ++ (OpenSpec.ofChange Rows.topObjectSpec).bare.plain.varTypes Tryz.prog ++ Tryz.f8.resultTypes.toList).any (Tryz.prog.veiledRec ·))) = true := by kernel_rfl
theorem k31 : (Rows.topObjectRow.veiledFits Tryz.prog Tryz.f8.params.toList (Tryz.f8.params.toList ++ (OpenSpec.ofChange Rows.topObjectSpec).bare.plain.varTypes Tryz.prog ++ Tryz.f8.resultTypes.toList)) = true := by kernel_rfl
theorem closed : joinedFacts Tryz.pinned.checked.prog 8 Tryz.f8 (OpenSpec.ofChange Rows.topObjectSpec).bare Rows.topObjectRow = true := (both (both (both (both (both (both (both (both (both (both (both (both (both (both (both (both (both (both (both (both (both (both (both (both (both (both (both (both (both (both (both k0 k1) k2) k3) k4) k5) k6) k7) k8) k9) k10) k11) k12) k13) k14) k15) k16) k17) k18) k19) k20) k21) k22) k23) k24) k25) k26) k27) k28) k29) k30) k31)
theorem named : Tryz.prog.funcNamed "obelisk/obelisktop.TopObject" = some 8 := by kernel_rfl
theorem goes2 : Tryz.prog.goesFrom "obelisk/obelisktop.TopObject" = Option.any Tryz.prog.goes (Tryz.prog.funcNamed "obelisk/obelisktop.TopObject") := by unfold Program.goesFrom; exact Eq.refl _
theorem goes3 : Option.any Tryz.prog.goes (some 8) = Tryz.prog.goes 8 := Option.any_some
theorem goes4 : Tryz.prog.goes 8 = false := goes_of unf
theorem goes0 : Tryz.prog.goesFrom "obelisk/obelisktop.TopObject" = false := goes2.trans ((congrArg (Option.any Tryz.prog.goes) named).trans (goes3.trans goes4))
theorem goes1 : (Tryz.prog.goesFrom "obelisk/obelisktop.TopObject" || false) = Rows.topObjectRow.goesBy Tryz.pinned.checked.prog := by kernel_rfl
theorem goes : false = Rows.topObjectRow.goesBy Tryz.pinned.checked.prog := ((Bool.or_false _).trans goes0).symm.trans goes1
end LTopObject
end Go.Proofs.YtdjgkjjgcbgniaaGreatDoor
