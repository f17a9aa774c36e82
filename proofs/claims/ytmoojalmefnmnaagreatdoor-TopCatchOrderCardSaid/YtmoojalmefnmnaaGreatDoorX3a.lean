/-
  Some cases of the law TopCatchOrder.
-/
import Derived.Test.YtmoojalmefnmnaaGreatDoorX3
import Derived.KernelRfl
set_option linter.unusedVariables false
set_option linter.unusedSimpArgs false
namespace Go.Proofs.YtmoojalmefnmnaaGreatDoor.LTopCatchOrder
open Go Go.AM
theorem c_0_0 (a0 a1 : Int) : isT (D_1 a0 a1 0 0) = true := by kernel_rfl
theorem c_0_1 (a0 a1 : Int) : isT (D_1 a0 a1 0 1) = true := by kernel_rfl
theorem c_0_2 (a0 a1 : Int) : isT (D_1 a0 a1 0 2) = true := by kernel_rfl
theorem c_0_3 (a0 a1 : Int) : isT (D_1 a0 a1 0 3) = true := by kernel_rfl
theorem c_1_0 (a0 a1 : Int) : isT (D_1 a0 a1 1 0) = true := by kernel_rfl
theorem c_1_1 (a0 a1 : Int) : isT (D_1 a0 a1 1 1) = true := by kernel_rfl
theorem c_1_2 (a0 a1 : Int) : isT (D_1 a0 a1 1 2) = true := by kernel_rfl
theorem c_1_3 (a0 a1 : Int) : isT (D_1 a0 a1 1 3) = true := by kernel_rfl
end Go.Proofs.YtmoojalmefnmnaaGreatDoor.LTopCatchOrder
