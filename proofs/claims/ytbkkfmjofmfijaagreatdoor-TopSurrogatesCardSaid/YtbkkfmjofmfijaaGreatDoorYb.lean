/-
  The law of pairs of chars: what the kernel reckons for runs with so many chars, so many of them different.
-/
import Derived.Test.YtbkkfmjofmfijaaGreatDoorX0
import Derived.KernelRfl
set_option linter.unusedVariables false
set_option linter.unusedSimpArgs false
namespace Go.Proofs.YtbkkfmjofmfijaaGreatDoor
open Go Go.AM
set_option autoImplicit false
set_option maxRecDepth 100000
theorem bq_12_11:BQ 12 11:=by intro x hi lo y n X; kernel_rfl
theorem bq_11_9:BQ 11 9:=by intro x hi lo y n X; kernel_rfl
theorem bq_10_6:BQ 10 6:=by intro x hi lo y n X; kernel_rfl
theorem bq_9_2:BQ 9 2:=by intro x hi lo y n X; kernel_rfl
theorem bq_7_4:BQ 7 4:=by intro x hi lo y n X; kernel_rfl
theorem bq_5_2:BQ 5 2:=by intro x hi lo y n X; kernel_rfl
end Go.Proofs.YtbkkfmjofmfijaaGreatDoor
