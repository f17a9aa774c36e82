/-
  Some cases of the law TopInstance.
-/
import Derived.Test.YtmoojalmefnmnaaGreatDoorX4
import Derived.KernelRfl
set_option linter.unusedVariables false
set_option linter.unusedSimpArgs false
namespace Go.Proofs.YtmoojalmefnmnaaGreatDoor.LTopInstance
open Go Go.AM
theorem c_0_0 (a0 a1 : Int) : isT (D_1 a0 a1 0 0) = true := by kernel_rfl
theorem c_0_1 (a0 a1 : Int) : isT (D_1 a0 a1 0 1) = true := by kernel_rfl
theorem c_0_2 (a0 a1 : Int) : isT (D_1 a0 a1 0 2) = true := by kernel_rfl
theorem c_0_3 (a0 a1 : Int) : isT (D_1 a0 a1 0 3) = true := by kernel_rfl
theorem c_0_4 (a0 a1 : Int) : isT (D_1 a0 a1 0 4) = true := by kernel_rfl
theorem c_0_5 (a0 a1 : Int) : isT (D_1 a0 a1 0 5) = true := by kernel_rfl
theorem c_0_6 (a0 a1 : Int) : isT (D_1 a0 a1 0 6) = true := by kernel_rfl
theorem c_0_7 (a0 a1 : Int) : isT (D_1 a0 a1 0 7) = true := by kernel_rfl
theorem c_0_8 (a0 a1 : Int) : isT (D_1 a0 a1 0 8) = true := by kernel_rfl
theorem c_1_0 (a0 a1 : Int) : isT (D_1 a0 a1 1 0) = true := by kernel_rfl
theorem c_1_1 (a0 a1 : Int) : isT (D_1 a0 a1 1 1) = true := by kernel_rfl
theorem c_1_2 (a0 a1 : Int) : isT (D_1 a0 a1 1 2) = true := by kernel_rfl
theorem c_1_3 (a0 a1 : Int) : isT (D_1 a0 a1 1 3) = true := by kernel_rfl
theorem c_1_4 (a0 a1 : Int) : isT (D_1 a0 a1 1 4) = true := by kernel_rfl
end Go.Proofs.YtmoojalmefnmnaaGreatDoor.LTopInstance
