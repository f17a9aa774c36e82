/-
  The law of what is printed beyond the bound: what the kernel reckons for some lengths of the text.
-/
import Derived.Test.YtbkkfmjofmfijaaGreatDoorX0
import Derived.KernelRfl
set_option linter.unusedVariables false
set_option linter.unusedSimpArgs false
namespace Go.Proofs.YtbkkfmjofmfijaaGreatDoor
open Go Go.AM
set_option autoImplicit false
set_option maxRecDepth 100000
noncomputable section
theorem fq8 : FQ 8 := by intro l r; kernel_rfl
theorem fq20 : FQ 20 := by intro l r; kernel_rfl
theorem fq32 : FQ 32 := by intro l r; kernel_rfl
theorem fq44 : FQ 44 := by intro l r; kernel_rfl
theorem fq56 : FQ 56 := by intro l r; kernel_rfl
end
end Go.Proofs.YtbkkfmjofmfijaaGreatDoor
