/-
  The law TopVerify in parts.
-/
import Derived.Test.YtdjgkjjgcbgniaaGreatDoorX5
import Derived.KernelRfl
set_option linter.unusedVariables false
set_option linter.unusedSimpArgs false
namespace Go.Proofs.YtdjgkjjgcbgniaaGreatDoor.LTopVerify
open Go Go.AM
theorem part1 : isN (pre5 s9 s10 s11 s12 s13 H0) = true := by kernel_rfl
end Go.Proofs.YtdjgkjjgcbgniaaGreatDoor.LTopVerify
