/-
  The law of pairs of chars: what the kernel reckons for runs with so many chars, so many of them different.
-/
import Derived.Test.YtbkkfmjofmfijaaGreatDoorX0
import Derived.KernelRfl
set_option linter.unusedVariables false
set_option linter.unusedSimpArgs false
namespace Go.Proofs.YtbkkfmjofmfijaaGreatDoor
open Go Go.AM
set_option autoImplicit false
set_option maxRecDepth 100000
theorem bq_12_3:BQ 12 3:=by intro x hi lo y n X; kernel_rfl
theorem bq_11_1:BQ 11 1:=by intro x hi lo y n X; kernel_rfl
theorem bq_9_7:BQ 9 7:=by intro x hi lo y n X; kernel_rfl
theorem bq_8_2:BQ 8 2:=by intro x hi lo y n X; kernel_rfl
theorem bq_6_2:BQ 6 2:=by intro x hi lo y n X; kernel_rfl
theorem bq_3_1:BQ 3 1:=by intro x hi lo y n X; kernel_rfl
end Go.Proofs.YtbkkfmjofmfijaaGreatDoor
