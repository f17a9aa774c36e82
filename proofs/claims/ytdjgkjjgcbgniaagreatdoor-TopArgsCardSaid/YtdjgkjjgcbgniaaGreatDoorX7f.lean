/-
  Some cases of the law TopArgs.
-/
import Derived.Test.YtdjgkjjgcbgniaaGreatDoorX7
import Derived.KernelRfl
set_option linter.unusedVariables false
set_option linter.unusedSimpArgs false
set_option maxRecDepth 100000
namespace Go.Proofs.YtdjgkjjgcbgniaaGreatDoor.LTopArgs
open Go Go.AM
theorem xt11 (a0 a1 a2 a3 a4 a5 a6 a7 a8 a9 : Int) (n : Nat) : isT (s7 [.sl 0 0 (Nat.add n 11) 1 none] (Ha 10 (cellL [.int 63 a0, .int 63 a1, .int 63 a2, .int 63 a3, .int 63 a4, .int 63 a5, .int 63 a6, .int 63 a7, .int 63 a8, .int 63 a9] 0))) = true := by kernel_rfl
theorem xt0a : isT (s7 [.nils] H0) = true := by kernel_rfl
theorem xt0b : isT (s7 [.esl] H0) = true := by kernel_rfl
theorem xt0c : isT (s7 [.sl 0 0 0 1 none] (Ha 0 (cellL [] 0))) = true := by kernel_rfl
end Go.Proofs.YtdjgkjjgcbgniaaGreatDoor.LTopArgs
