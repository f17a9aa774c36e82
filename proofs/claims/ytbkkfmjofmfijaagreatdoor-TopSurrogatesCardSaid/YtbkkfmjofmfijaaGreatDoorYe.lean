/-
  The law of pairs of chars: what the kernel reckons for runs with so many chars, so many of them different.
-/
import Derived.Test.YtbkkfmjofmfijaaGreatDoorX0
import Derived.KernelRfl
set_option linter.unusedVariables false
set_option linter.unusedSimpArgs false
namespace Go.Proofs.YtbkkfmjofmfijaaGreatDoor
open Go Go.AM
set_option autoImplicit false
set_option maxRecDepth 100000
theorem bq_12_8:BQ 12 8:=by intro x hi lo y n X; kernel_rfl
theorem bq_11_6:BQ 11 6:=by intro x hi lo y n X; kernel_rfl
theorem bq_10_3:BQ 10 3:=by intro x hi lo y n X; kernel_rfl
theorem bq_8_7:BQ 8 7:=by intro x hi lo y n X; kernel_rfl
theorem bq_7_1:BQ 7 1:=by intro x hi lo y n X; kernel_rfl
theorem bq_4_3:BQ 4 3:=by intro x hi lo y n X; kernel_rfl
end Go.Proofs.YtbkkfmjofmfijaaGreatDoor
