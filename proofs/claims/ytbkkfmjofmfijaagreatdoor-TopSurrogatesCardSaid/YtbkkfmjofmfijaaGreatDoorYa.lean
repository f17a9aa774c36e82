/-
  The law of pairs of chars: what the kernel reckons for runs with so many chars, so many of them different.
-/
import Derived.Test.YtbkkfmjofmfijaaGreatDoorX0
import Derived.KernelRfl
set_option linter.unusedVariables false
set_option linter.unusedSimpArgs false
namespace Go.Proofs.YtbkkfmjofmfijaaGreatDoor
open Go Go.AM
set_option autoImplicit false
set_option maxRecDepth 100000
theorem bq_12_12:BQ 12 12:=by intro x hi lo y n X; kernel_rfl
theorem bq_11_10:BQ 11 10:=by intro x hi lo y n X; kernel_rfl
theorem bq_10_7:BQ 10 7:=by intro x hi lo y n X; kernel_rfl
theorem bq_9_3:BQ 9 3:=by intro x hi lo y n X; kernel_rfl
theorem bq_7_5:BQ 7 5:=by intro x hi lo y n X; kernel_rfl
theorem bq_5_3:BQ 5 3:=by intro x hi lo y n X; kernel_rfl
end Go.Proofs.YtbkkfmjofmfijaaGreatDoor
