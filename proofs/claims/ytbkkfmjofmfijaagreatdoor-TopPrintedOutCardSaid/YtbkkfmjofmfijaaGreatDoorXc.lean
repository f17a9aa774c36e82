/-
  The law of what is printed beyond the bound: what the kernel reckons for some lengths of the text.
-/
import Derived.Test.YtbkkfmjofmfijaaGreatDoorX0
import Derived.KernelRfl
set_option linter.unusedVariables false
set_option linter.unusedSimpArgs false
namespace Go.Proofs.YtbkkfmjofmfijaaGreatDoor
open Go Go.AM
set_option autoImplicit false
set_option maxRecDepth 100000
noncomputable section
theorem fq2 : FQ 2 := by intro l r; kernel_rfl
theorem fq14 : FQ 14 := by intro l r; kernel_rfl
theorem fq26 : FQ 26 := by intro l r; kernel_rfl
theorem fq38 : FQ 38 := by intro l r; kernel_rfl
theorem fq50 : FQ 50 := by intro l r; kernel_rfl
end
end Go.Proofs.YtbkkfmjofmfijaaGreatDoor
