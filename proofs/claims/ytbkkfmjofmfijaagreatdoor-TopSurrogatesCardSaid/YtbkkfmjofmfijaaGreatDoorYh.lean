/-
  The law of pairs of chars: what the kernel reckons for runs with so many chars, so many of them different.
-/
import Derived.Test.YtbkkfmjofmfijaaGreatDoorX0
import Derived.KernelRfl
set_option linter.unusedVariables false
set_option linter.unusedSimpArgs false
namespace Go.Proofs.YtbkkfmjofmfijaaGreatDoor
open Go Go.AM
set_option autoImplicit false
set_option maxRecDepth 100000
theorem bq_12_5:BQ 12 5:=by intro x hi lo y n X; kernel_rfl
theorem bq_11_3:BQ 11 3:=by intro x hi lo y n X; kernel_rfl
theorem bq_9_9:BQ 9 9:=by intro x hi lo y n X; kernel_rfl
theorem bq_8_4:BQ 8 4:=by intro x hi lo y n X; kernel_rfl
theorem bq_6_4:BQ 6 4:=by intro x hi lo y n X; kernel_rfl
theorem bq_3_3:BQ 3 3:=by intro x hi lo y n X; kernel_rfl
end Go.Proofs.YtbkkfmjofmfijaaGreatDoor
