/-
  The law of what is printed beyond the bound: what the kernel reckons for some lengths of the text.
-/
import Derived.Test.YtbkkfmjofmfijaaGreatDoorX0
import Derived.KernelRfl
set_option linter.unusedVariables false
set_option linter.unusedSimpArgs false
namespace Go.Proofs.YtbkkfmjofmfijaaGreatDoor
open Go Go.AM
set_option autoImplicit false
set_option maxRecDepth 100000
noncomputable section
theorem fq6 : FQ 6 := by intro l r; kernel_rfl
theorem fq18 : FQ 18 := by intro l r; kernel_rfl
theorem fq30 : FQ 30 := by intro l r; kernel_rfl
theorem fq42 : FQ 42 := by intro l r; kernel_rfl
theorem fq54 : FQ 54 := by intro l r; kernel_rfl
end
end Go.Proofs.YtbkkfmjofmfijaaGreatDoor
