/-
  The law of what is printed beyond the bound: what the kernel reckons for some lengths of the text.
-/
import Derived.Test.YtbkkfmjofmfijaaGreatDoorX0
import Derived.KernelRfl
set_option linter.unusedVariables false
set_option linter.unusedSimpArgs false
namespace Go.Proofs.YtbkkfmjofmfijaaGreatDoor
open Go Go.AM
set_option autoImplicit false
set_option maxRecDepth 100000
noncomputable section
theorem fq5 : FQ 5 := by intro l r; kernel_rfl
theorem fq17 : FQ 17 := by intro l r; kernel_rfl
theorem fq29 : FQ 29 := by intro l r; kernel_rfl
theorem fq41 : FQ 41 := by intro l r; kernel_rfl
theorem fq53 : FQ 53 := by intro l r; kernel_rfl
end
end Go.Proofs.YtbkkfmjofmfijaaGreatDoor
