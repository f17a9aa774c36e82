/-
  The law of pairs of chars: what the kernel reckons for runs with so many chars, so many of them different.
-/
import Derived.Test.YtbkkfmjofmfijaaGreatDoorX0
import Derived.KernelRfl
set_option linter.unusedVariables false
set_option linter.unusedSimpArgs false
namespace Go.Proofs.YtbkkfmjofmfijaaGreatDoor
open Go Go.AM
set_option autoImplicit false
set_option maxRecDepth 100000
theorem bq_12_4:BQ 12 4:=by intro x hi lo y n X; kernel_rfl
theorem bq_11_2:BQ 11 2:=by intro x hi lo y n X; kernel_rfl
theorem bq_9_8:BQ 9 8:=by intro x hi lo y n X; kernel_rfl
theorem bq_8_3:BQ 8 3:=by intro x hi lo y n X; kernel_rfl
theorem bq_6_3:BQ 6 3:=by intro x hi lo y n X; kernel_rfl
theorem bq_3_2:BQ 3 2:=by intro x hi lo y n X; kernel_rfl
end Go.Proofs.YtbkkfmjofmfijaaGreatDoor
