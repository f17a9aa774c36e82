/-
  The law of pairs of chars: what the kernel reckons for runs with so many chars, so many of them different.
-/
import Derived.Test.YtbkkfmjofmfijaaGreatDoorX0
import Derived.KernelRfl
set_option linter.unusedVariables false
set_option linter.unusedSimpArgs false
namespace Go.Proofs.YtbkkfmjofmfijaaGreatDoor
open Go Go.AM
set_option autoImplicit false
set_option maxRecDepth 100000
theorem bq_12_10:BQ 12 10:=by intro x hi lo y n X; kernel_rfl
theorem bq_11_8:BQ 11 8:=by intro x hi lo y n X; kernel_rfl
theorem bq_10_5:BQ 10 5:=by intro x hi lo y n X; kernel_rfl
theorem bq_9_1:BQ 9 1:=by intro x hi lo y n X; kernel_rfl
theorem bq_7_3:BQ 7 3:=by intro x hi lo y n X; kernel_rfl
theorem bq_5_1:BQ 5 1:=by intro x hi lo y n X; kernel_rfl
end Go.Proofs.YtbkkfmjofmfijaaGreatDoor
