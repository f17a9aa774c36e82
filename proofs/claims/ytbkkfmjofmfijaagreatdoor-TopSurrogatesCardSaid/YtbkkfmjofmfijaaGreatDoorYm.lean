/-
  The law of pairs of chars: what the kernel reckons for runs with so many chars, so many of them different.
-/
import Derived.Test.YtbkkfmjofmfijaaGreatDoorX0
import Derived.KernelRfl
set_option linter.unusedVariables false
set_option linter.unusedSimpArgs false
namespace Go.Proofs.YtbkkfmjofmfijaaGreatDoor
open Go Go.AM
set_option autoImplicit false
set_option maxRecDepth 100000
theorem bq_12_1:BQ 12 1:=by intro x hi lo y n X; kernel_rfl
theorem bq_10_8:BQ 10 8:=by intro x hi lo y n X; kernel_rfl
theorem bq_9_4:BQ 9 4:=by intro x hi lo y n X; kernel_rfl
theorem bq_7_6:BQ 7 6:=by intro x hi lo y n X; kernel_rfl
theorem bq_5_4:BQ 5 4:=by intro x hi lo y n X; kernel_rfl
theorem bq_1_1:BQ 1 1:=by intro x hi lo y n X; kernel_rfl
end Go.Proofs.YtbkkfmjofmfijaaGreatDoor
