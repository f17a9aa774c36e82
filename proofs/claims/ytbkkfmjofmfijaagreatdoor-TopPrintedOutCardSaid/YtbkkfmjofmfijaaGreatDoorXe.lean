/-
  The law of what is printed beyond the bound: what the kernel reckons for some lengths of the text.
-/
import Derived.Test.YtbkkfmjofmfijaaGreatDoorX0
import Derived.KernelRfl
set_option linter.unusedVariables false
set_option linter.unusedSimpArgs false
namespace Go.Proofs.YtbkkfmjofmfijaaGreatDoor
open Go Go.AM
set_option autoImplicit false
set_option maxRecDepth 100000
noncomputable section
theorem fq4 : FQ 4 := by intro l r; kernel_rfl
theorem fq16 : FQ 16 := by intro l r; kernel_rfl
theorem fq28 : FQ 28 := by intro l r; kernel_rfl
theorem fq40 : FQ 40 := by intro l r; kernel_rfl
theorem fq52 : FQ 52 := by intro l r; kernel_rfl
end
end Go.Proofs.YtbkkfmjofmfijaaGreatDoor
