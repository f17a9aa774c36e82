/-
  Some cases of the law TopInstance.
-/
import Derived.Test.YtmoojalmefnmnaaGreatDoorX4
import Derived.KernelRfl
set_option linter.unusedVariables false
set_option linter.unusedSimpArgs false
namespace Go.Proofs.YtmoojalmefnmnaaGreatDoor.LTopInstance
open Go Go.AM
theorem c_3_1 (a0 a1 : Int) : isT (D_1 a0 a1 3 1) = true := by kernel_rfl
theorem c_3_2 (a0 a1 : Int) : isT (D_1 a0 a1 3 2) = true := by kernel_rfl
theorem c_3_3 (a0 a1 : Int) : isT (D_1 a0 a1 3 3) = true := by kernel_rfl
theorem c_3_4 (a0 a1 : Int) : isT (D_1 a0 a1 3 4) = true := by kernel_rfl
theorem c_3_5 (a0 a1 : Int) : isT (D_1 a0 a1 3 5) = true := by kernel_rfl
theorem c_3_6 (a0 a1 : Int) : isT (D_1 a0 a1 3 6) = true := by kernel_rfl
theorem c_3_7 (a0 a1 : Int) : isT (D_1 a0 a1 3 7) = true := by kernel_rfl
theorem c_3_8 (a0 a1 : Int) : isT (D_1 a0 a1 3 8) = true := by kernel_rfl
theorem c_4_0 (a0 a1 : Int) : isT (D_1 a0 a1 4 0) = true := by kernel_rfl
theorem c_4_1 (a0 a1 : Int) : isT (D_1 a0 a1 4 1) = true := by kernel_rfl
theorem c_4_2 (a0 a1 : Int) : isT (D_1 a0 a1 4 2) = true := by kernel_rfl
theorem c_4_3 (a0 a1 : Int) : isT (D_1 a0 a1 4 3) = true := by kernel_rfl
theorem c_4_4 (a0 a1 : Int) : isT (D_1 a0 a1 4 4) = true := by kernel_rfl
theorem c_4_5 (a0 a1 : Int) : isT (D_1 a0 a1 4 5) = true := by kernel_rfl
end Go.Proofs.YtmoojalmefnmnaaGreatDoor.LTopInstance
