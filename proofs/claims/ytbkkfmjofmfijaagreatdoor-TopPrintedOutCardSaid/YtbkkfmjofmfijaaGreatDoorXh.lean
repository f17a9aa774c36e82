/-
  The law of what is printed beyond the bound: what the kernel reckons for some lengths of the text.
-/
import Derived.Test.YtbkkfmjofmfijaaGreatDoorX0
import Derived.KernelRfl
set_option linter.unusedVariables false
set_option linter.unusedSimpArgs false
namespace Go.Proofs.YtbkkfmjofmfijaaGreatDoor
open Go Go.AM
set_option autoImplicit false
set_option maxRecDepth 100000
noncomputable section
theorem fq7 : FQ 7 := by intro l r; kernel_rfl
theorem fq19 : FQ 19 := by intro l r; kernel_rfl
theorem fq31 : FQ 31 := by intro l r; kernel_rfl
theorem fq43 : FQ 43 := by intro l r; kernel_rfl
theorem fq55 : FQ 55 := by intro l r; kernel_rfl
end
end Go.Proofs.YtbkkfmjofmfijaaGreatDoor
