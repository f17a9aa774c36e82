/-
  Some cases of the law TopCatchOrder.
-/
import Derived.Test.YtmoojalmefnmnaaGreatDoorX3
import Derived.KernelRfl
set_option linter.unusedVariables false
set_option linter.unusedSimpArgs false
namespace Go.Proofs.YtmoojalmefnmnaaGreatDoor.LTopCatchOrder
open Go Go.AM
theorem c_2_0 (a0 a1 : Int) : isT (D_1 a0 a1 2 0) = true := by kernel_rfl
theorem c_2_1 (a0 a1 : Int) : isT (D_1 a0 a1 2 1) = true := by kernel_rfl
theorem c_2_2 (a0 a1 : Int) : isT (D_1 a0 a1 2 2) = true := by kernel_rfl
theorem c_2_3 (a0 a1 : Int) : isT (D_1 a0 a1 2 3) = true := by kernel_rfl
theorem c_3_0 (a0 a1 : Int) : isT (D_1 a0 a1 3 0) = true := by kernel_rfl
theorem c_3_1 (a0 a1 : Int) : isT (D_1 a0 a1 3 1) = true := by kernel_rfl
theorem c_3_2 (a0 a1 : Int) : isT (D_1 a0 a1 3 2) = true := by kernel_rfl
theorem c_3_3 (a0 a1 : Int) : isT (D_1 a0 a1 3 3) = true := by kernel_rfl
end Go.Proofs.YtmoojalmefnmnaaGreatDoor.LTopCatchOrder
