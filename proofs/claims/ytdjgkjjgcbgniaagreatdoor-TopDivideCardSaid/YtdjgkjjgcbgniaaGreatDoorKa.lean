/-
  A closed fact of the program: its memory is laid out.
-/
import Derived.Test.YtdjgkjjgcbgniaaGreatDoorRows
import Derived.KernelRfl
namespace Go.Proofs.YtdjgkjjgcbgniaaGreatDoor
open Go
set_option maxRecDepth 100000
theorem fact_laid : laidOutB Tryz.prog = true := by kernel_rfl
end Go.Proofs.YtdjgkjjgcbgniaaGreatDoor
