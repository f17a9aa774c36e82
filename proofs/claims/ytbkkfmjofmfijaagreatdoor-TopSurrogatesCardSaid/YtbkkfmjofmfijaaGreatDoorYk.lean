/-
  The law of pairs of chars: what the kernel reckons for runs with so many chars, so many of them different.
-/
import Derived.Test.YtbkkfmjofmfijaaGreatDoorX0
import Derived.KernelRfl
set_option linter.unusedVariables false
set_option linter.unusedSimpArgs false
namespace Go.Proofs.YtbkkfmjofmfijaaGreatDoor
open Go Go.AM
set_option autoImplicit false
set_option maxRecDepth 100000
theorem bq_12_2:BQ 12 2:=by intro x hi lo y n X; kernel_rfl
theorem bq_10_10:BQ 10 10:=by intro x hi lo y n X; kernel_rfl
theorem bq_9_6:BQ 9 6:=by intro x hi lo y n X; kernel_rfl
theorem bq_8_1:BQ 8 1:=by intro x hi lo y n X; kernel_rfl
theorem bq_6_1:BQ 6 1:=by intro x hi lo y n X; kernel_rfl
theorem bq_2_2:BQ 2 2:=by intro x hi lo y n X; kernel_rfl
end Go.Proofs.YtbkkfmjofmfijaaGreatDoor
