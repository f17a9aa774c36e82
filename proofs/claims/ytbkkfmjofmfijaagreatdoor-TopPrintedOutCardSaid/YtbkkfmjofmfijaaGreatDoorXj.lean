/-
  The law of what is printed beyond the bound: what the kernel reckons for some lengths of the text.
-/
import Derived.Test.YtbkkfmjofmfijaaGreatDoorX0
import Derived.KernelRfl
set_option linter.unusedVariables false
set_option linter.unusedSimpArgs false
namespace Go.Proofs.YtbkkfmjofmfijaaGreatDoor
open Go Go.AM
set_option autoImplicit false
set_option maxRecDepth 100000
noncomputable section
theorem fq9 : FQ 9 := by intro l r; kernel_rfl
theorem fq21 : FQ 21 := by intro l r; kernel_rfl
theorem fq33 : FQ 33 := by intro l r; kernel_rfl
theorem fq45 : FQ 45 := by intro l r; kernel_rfl
theorem fq57 : FQ 57 := by intro l r; kernel_rfl
end
end Go.Proofs.YtbkkfmjofmfijaaGreatDoor
