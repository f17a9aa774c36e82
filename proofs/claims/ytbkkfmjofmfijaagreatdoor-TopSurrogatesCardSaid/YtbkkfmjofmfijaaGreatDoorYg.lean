/-
  The law of pairs of chars: what the kernel reckons for runs with so many chars, so many of them different.
-/
import Derived.Test.YtbkkfmjofmfijaaGreatDoorX0
import Derived.KernelRfl
set_option linter.unusedVariables false
set_option linter.unusedSimpArgs false
namespace Go.Proofs.YtbkkfmjofmfijaaGreatDoor
open Go Go.AM
set_option autoImplicit false
set_option maxRecDepth 100000
theorem bq_12_6:BQ 12 6:=by intro x hi lo y n X; kernel_rfl
theorem bq_11_4:BQ 11 4:=by intro x hi lo y n X; kernel_rfl
theorem bq_10_1:BQ 10 1:=by intro x hi lo y n X; kernel_rfl
theorem bq_8_5:BQ 8 5:=by intro x hi lo y n X; kernel_rfl
theorem bq_6_5:BQ 6 5:=by intro x hi lo y n X; kernel_rfl
theorem bq_4_1:BQ 4 1:=by intro x hi lo y n X; kernel_rfl
end Go.Proofs.YtbkkfmjofmfijaaGreatDoor
