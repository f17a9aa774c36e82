/-
  The law of pairs of chars: what the kernel reckons for runs with so many chars, so many of them different.
-/
import Derived.Test.YtbkkfmjofmfijaaGreatDoorX0
import Derived.KernelRfl
set_option linter.unusedVariables false
set_option linter.unusedSimpArgs false
namespace Go.Proofs.YtbkkfmjofmfijaaGreatDoor
open Go Go.AM
set_option autoImplicit false
set_option maxRecDepth 100000
theorem bq_12_9:BQ 12 9:=by intro x hi lo y n X; kernel_rfl
theorem bq_11_7:BQ 11 7:=by intro x hi lo y n X; kernel_rfl
theorem bq_10_4:BQ 10 4:=by intro x hi lo y n X; kernel_rfl
theorem bq_8_8:BQ 8 8:=by intro x hi lo y n X; kernel_rfl
theorem bq_7_2:BQ 7 2:=by intro x hi lo y n X; kernel_rfl
theorem bq_4_4:BQ 4 4:=by intro x hi lo y n X; kernel_rfl
end Go.Proofs.YtbkkfmjofmfijaaGreatDoor
