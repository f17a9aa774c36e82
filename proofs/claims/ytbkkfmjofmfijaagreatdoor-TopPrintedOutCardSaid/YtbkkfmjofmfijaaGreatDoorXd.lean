/-
  The law of what is printed beyond the bound: what the kernel reckons for some lengths of the text.
-/
import Derived.Test.YtbkkfmjofmfijaaGreatDoorX0
import Derived.KernelRfl
set_option linter.unusedVariables false
set_option linter.unusedSimpArgs false
namespace Go.Proofs.YtbkkfmjofmfijaaGreatDoor
open Go Go.AM
set_option autoImplicit false
set_option maxRecDepth 100000
noncomputable section
theorem fq3 : FQ 3 := by intro l r; kernel_rfl
theorem fq15 : FQ 15 := by intro l r; kernel_rfl
theorem fq27 : FQ 27 := by intro l r; kernel_rfl
theorem fq39 : FQ 39 := by intro l r; kernel_rfl
theorem fq51 : FQ 51 := by intro l r; kernel_rfl
end
end Go.Proofs.YtbkkfmjofmfijaaGreatDoor
