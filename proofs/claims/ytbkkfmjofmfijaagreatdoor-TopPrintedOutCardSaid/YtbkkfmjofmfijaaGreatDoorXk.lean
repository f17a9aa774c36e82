/-
  The law of what is printed beyond the bound: what the kernel reckons for some lengths of the text.
-/
import Derived.Test.YtbkkfmjofmfijaaGreatDoorX0
import Derived.KernelRfl
set_option linter.unusedVariables false
set_option linter.unusedSimpArgs false
namespace Go.Proofs.YtbkkfmjofmfijaaGreatDoor
open Go Go.AM
set_option autoImplicit false
set_option maxRecDepth 100000
noncomputable section
theorem fq10 : FQ 10 := by intro l r; kernel_rfl
theorem fq22 : FQ 22 := by intro l r; kernel_rfl
theorem fq34 : FQ 34 := by intro l r; kernel_rfl
theorem fq46 : FQ 46 := by intro l r; kernel_rfl
theorem fq58 : FQ 58 := by intro l r; kernel_rfl
end
end Go.Proofs.YtbkkfmjofmfijaaGreatDoor
