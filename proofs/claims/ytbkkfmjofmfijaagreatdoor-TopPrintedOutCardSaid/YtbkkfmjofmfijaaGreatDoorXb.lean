/-
  The law of what is printed beyond the bound: what the kernel reckons for some lengths of the text.
-/
import Derived.Test.YtbkkfmjofmfijaaGreatDoorX0
import Derived.KernelRfl
set_option linter.unusedVariables false
set_option linter.unusedSimpArgs false
namespace Go.Proofs.YtbkkfmjofmfijaaGreatDoor
open Go Go.AM
set_option autoImplicit false
set_option maxRecDepth 100000
noncomputable section
theorem fq1 : FQ 1 := by intro l r; kernel_rfl
theorem fq13 : FQ 13 := by intro l r; kernel_rfl
theorem fq25 : FQ 25 := by intro l r; kernel_rfl
theorem fq37 : FQ 37 := by intro l r; kernel_rfl
theorem fq49 : FQ 49 := by intro l r; kernel_rfl
end
end Go.Proofs.YtbkkfmjofmfijaaGreatDoor
