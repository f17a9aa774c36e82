/-
  Some cases of the law TopInstance.
-/
import Derived.Test.YtmoojalmefnmnaaGreatDoorX4
import Derived.KernelRfl
set_option linter.unusedVariables false
set_option linter.unusedSimpArgs false
namespace Go.Proofs.YtmoojalmefnmnaaGreatDoor.LTopInstance
open Go Go.AM
theorem c_4_6 (a0 a1 : Int) : isT (D_1 a0 a1 4 6) = true := by kernel_rfl
theorem c_4_7 (a0 a1 : Int) : isT (D_1 a0 a1 4 7) = true := by kernel_rfl
theorem c_4_8 (a0 a1 : Int) : isT (D_1 a0 a1 4 8) = true := by kernel_rfl
theorem c_5_0 (a0 a1 : Int) : isT (D_1 a0 a1 5 0) = true := by kernel_rfl
theorem c_5_1 (a0 a1 : Int) : isT (D_1 a0 a1 5 1) = true := by kernel_rfl
theorem c_5_2 (a0 a1 : Int) : isT (D_1 a0 a1 5 2) = true := by kernel_rfl
theorem c_5_3 (a0 a1 : Int) : isT (D_1 a0 a1 5 3) = true := by kernel_rfl
theorem c_5_4 (a0 a1 : Int) : isT (D_1 a0 a1 5 4) = true := by kernel_rfl
theorem c_5_5 (a0 a1 : Int) : isT (D_1 a0 a1 5 5) = true := by kernel_rfl
theorem c_5_6 (a0 a1 : Int) : isT (D_1 a0 a1 5 6) = true := by kernel_rfl
theorem c_5_7 (a0 a1 : Int) : isT (D_1 a0 a1 5 7) = true := by kernel_rfl
theorem c_5_8 (a0 a1 : Int) : isT (D_1 a0 a1 5 8) = true := by kernel_rfl
end Go.Proofs.YtmoojalmefnmnaaGreatDoor.LTopInstance
