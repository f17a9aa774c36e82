/-
  The law of what is printed beyond the bound: what the kernel reckons for some lengths of the text.
-/
import Derived.Test.YtbkkfmjofmfijaaGreatDoorX0
import Derived.KernelRfl
set_option linter.unusedVariables false
set_option linter.unusedSimpArgs false
namespace Go.Proofs.YtbkkfmjofmfijaaGreatDoor
open Go Go.AM
set_option autoImplicit false
set_option maxRecDepth 100000
noncomputable section
theorem fq11 : FQ 11 := by intro l r; kernel_rfl
theorem fq23 : FQ 23 := by intro l r; kernel_rfl
theorem fq35 : FQ 35 := by intro l r; kernel_rfl
theorem fq47 : FQ 47 := by intro l r; kernel_rfl
theorem fq59 : FQ 59 := by intro l r; kernel_rfl
end
end Go.Proofs.YtbkkfmjofmfijaaGreatDoor
