/-
  A closed fact of the program: no function starts a goroutine.
-/
import Derived.Test.YtbkkfmjofmfijaaGreatDoorCards
import Derived.KernelRfl
set_option linter.unusedVariables false
set_option linter.unusedSimpArgs false
namespace Go.Proofs.YtbkkfmjofmfijaaGreatDoor
open Go
set_option maxRecDepth 100000
theorem none_goes : (Tryz.prog.funcs.toList.all fun fn => !fn.goes) = true := by kernel_rfl
theorem goes_of {f : FuncId} (hu : Tryz.prog.unfollowed f = true) : Tryz.prog.goes f = false := by
  have h : ∀ fn ∈ Tryz.prog.funcs, fn.goes = false := fun fn hfn => by
    have h := List.all_eq_true.1 none_goes fn (Array.mem_toList_iff.2 hfn)
    simpa using h
  unfold Program.goes
  have h1 : ((Tryz.prog.closure f).any fun g => (Tryz.prog.funcs[g]?).any Func.goes) = false := by
    rw [List.any_eq_false]
    intro g _
    cases hg : Tryz.prog.funcs[g]? with
    | none => simp
    | some fn => simp [h fn (Array.mem_of_getElem? hg)]
  have h2 : Tryz.prog.funcs.any Func.goes = false := by
    rw [Array.any_eq_false]
    intro i hi
    simp [h _ (Array.getElem_mem hi)]
  rw [h1, h2, hu]
  rfl
end Go.Proofs.YtbkkfmjofmfijaaGreatDoor
