/-
  The law of pairs of chars: what the kernel reckons for runs with so many chars, so many of them different.
-/
import Derived.Test.YtbkkfmjofmfijaaGreatDoorX0
import Derived.KernelRfl
set_option linter.unusedVariables false
set_option linter.unusedSimpArgs false
namespace Go.Proofs.YtbkkfmjofmfijaaGreatDoor
open Go Go.AM
set_option autoImplicit false
set_option maxRecDepth 100000
theorem bq_12_7:BQ 12 7:=by intro x hi lo y n X; kernel_rfl
theorem bq_11_5:BQ 11 5:=by intro x hi lo y n X; kernel_rfl
theorem bq_10_2:BQ 10 2:=by intro x hi lo y n X; kernel_rfl
theorem bq_8_6:BQ 8 6:=by intro x hi lo y n X; kernel_rfl
theorem bq_6_6:BQ 6 6:=by intro x hi lo y n X; kernel_rfl
theorem bq_4_2:BQ 4 2:=by intro x hi lo y n X; kernel_rfl
end Go.Proofs.YtbkkfmjofmfijaaGreatDoor
