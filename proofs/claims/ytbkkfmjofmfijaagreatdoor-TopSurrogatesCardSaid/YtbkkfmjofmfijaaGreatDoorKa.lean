/-
  A closed fact of the program: its memory is laid out.
-/
import Derived.Test.YtbkkfmjofmfijaaGreatDoorRows
import Derived.KernelRfl
set_option linter.unusedVariables false
set_option linter.unusedSimpArgs false
namespace Go.Proofs.YtbkkfmjofmfijaaGreatDoor
open Go
set_option maxRecDepth 100000
theorem fact_laid : laidOutB Tryz.prog = true := by kernel_rfl
end Go.Proofs.YtbkkfmjofmfijaaGreatDoor
