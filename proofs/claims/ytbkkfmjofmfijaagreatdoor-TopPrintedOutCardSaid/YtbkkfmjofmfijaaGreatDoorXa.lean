/-
  The law of what is printed beyond the bound: what the kernel reckons for some lengths of the text.
-/
import Derived.Test.YtbkkfmjofmfijaaGreatDoorX0
import Derived.KernelRfl
set_option linter.unusedVariables false
set_option linter.unusedSimpArgs false
namespace Go.Proofs.YtbkkfmjofmfijaaGreatDoor
open Go Go.AM
set_option autoImplicit false
set_option maxRecDepth 100000
noncomputable section
theorem fq0 : FQ 0 := by intro l r; kernel_rfl
theorem fq12 : FQ 12 := by intro l r; kernel_rfl
theorem fq24 : FQ 24 := by intro l r; kernel_rfl
theorem fq36 : FQ 36 := by intro l r; kernel_rfl
theorem fq48 : FQ 48 := by intro l r; kernel_rfl
end
end Go.Proofs.YtbkkfmjofmfijaaGreatDoor
