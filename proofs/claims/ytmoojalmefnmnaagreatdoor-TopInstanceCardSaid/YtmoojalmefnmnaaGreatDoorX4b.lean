/-
  Some cases of the law TopInstance.
-/
import Derived.Test.YtmoojalmefnmnaaGreatDoorX4
import Derived.KernelRfl
set_option linter.unusedVariables false
set_option linter.unusedSimpArgs false
namespace Go.Proofs.YtmoojalmefnmnaaGreatDoor.LTopInstance
open Go Go.AM
theorem c_1_5 (a0 a1 : Int) : isT (D_1 a0 a1 1 5) = true := by kernel_rfl
theorem c_1_6 (a0 a1 : Int) : isT (D_1 a0 a1 1 6) = true := by kernel_rfl
theorem c_1_7 (a0 a1 : Int) : isT (D_1 a0 a1 1 7) = true := by kernel_rfl
theorem c_1_8 (a0 a1 : Int) : isT (D_1 a0 a1 1 8) = true := by kernel_rfl
theorem c_2_0 (a0 a1 : Int) : isT (D_1 a0 a1 2 0) = true := by kernel_rfl
theorem c_2_1 (a0 a1 : Int) : isT (D_1 a0 a1 2 1) = true := by kernel_rfl
theorem c_2_2 (a0 a1 : Int) : isT (D_1 a0 a1 2 2) = true := by kernel_rfl
theorem c_2_3 (a0 a1 : Int) : isT (D_1 a0 a1 2 3) = true := by kernel_rfl
theorem c_2_4 (a0 a1 : Int) : isT (D_1 a0 a1 2 4) = true := by kernel_rfl
theorem c_2_5 (a0 a1 : Int) : isT (D_1 a0 a1 2 5) = true := by kernel_rfl
theorem c_2_6 (a0 a1 : Int) : isT (D_1 a0 a1 2 6) = true := by kernel_rfl
theorem c_2_7 (a0 a1 : Int) : isT (D_1 a0 a1 2 7) = true := by kernel_rfl
theorem c_2_8 (a0 a1 : Int) : isT (D_1 a0 a1 2 8) = true := by kernel_rfl
theorem c_3_0 (a0 a1 : Int) : isT (D_1 a0 a1 3 0) = true := by kernel_rfl
end Go.Proofs.YtmoojalmefnmnaaGreatDoor.LTopInstance
