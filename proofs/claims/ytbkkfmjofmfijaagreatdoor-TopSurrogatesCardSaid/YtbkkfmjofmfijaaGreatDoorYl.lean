/-
  The law of pairs of chars: what the kernel reckons for runs with so many chars, so many of them different.
-/
import Derived.Test.YtbkkfmjofmfijaaGreatDoorX0
import Derived.KernelRfl
set_option linter.unusedVariables false
set_option linter.unusedSimpArgs false
namespace Go.Proofs.YtbkkfmjofmfijaaGreatDoor
open Go Go.AM
set_option autoImplicit false
set_option maxRecDepth 100000
theorem bq_11_11:BQ 11 11:=by intro x hi lo y n X; kernel_rfl
theorem bq_10_9:BQ 10 9:=by intro x hi lo y n X; kernel_rfl
theorem bq_9_5:BQ 9 5:=by intro x hi lo y n X; kernel_rfl
theorem bq_7_7:BQ 7 7:=by intro x hi lo y n X; kernel_rfl
theorem bq_5_5:BQ 5 5:=by intro x hi lo y n X; kernel_rfl
theorem bq_2_1:BQ 2 1:=by intro x hi lo y n X; kernel_rfl
end Go.Proofs.YtbkkfmjofmfijaaGreatDoor
