/-
  Some cases of the law TopMonitor.
-/
import Derived.Test.YtmoojalmefnmnaaGreatDoorFg
import Derived.KernelRfl
set_option linter.unusedVariables false
set_option linter.unusedSimpArgs false
namespace Go.Proofs.YtmoojalmefnmnaaGreatDoor.LTopMonitor
open Go Go.AM
theorem c_2_0 (a0 a1 : Int) : isT (b7R0 s11 s15 s25 s9 s10 s20 s21 s22 s28 s31 (I 2) (.bool true) (I 0) H0) = true := by kernel_rfl
theorem c_2_1 (a0 a1 : Int) : isT (b7R0 s11 s15 s25 s9 s10 s20 s21 s22 s28 s31 (I 2) (.bool true) (I 1) H0) = true := by kernel_rfl
theorem c_2_2 (a0 a1 : Int) : isT (b7R0 s11 s15 s25 s9 s10 s20 s21 s22 s28 s31 (I 2) (.bool true) (I 2) H0) = true := by kernel_rfl
theorem c_2_3 (a0 a1 : Int) : isT (b7R0 s11 s15 s25 s9 s10 s20 s21 s22 s28 s31 (I 2) (.bool true) (I 3) H0) = true := by kernel_rfl
theorem c_2_4 (a0 a1 : Int) : isT (b7R0 s11 s15 s25 s9 s10 s20 s21 s22 s28 s31 (I 2) (.bool true) (I 4) H0) = true := by kernel_rfl
theorem c_2_5 (a0 a1 : Int) : isT (b7R0 s11 s15 s25 s9 s10 s20 s21 s22 s28 s31 (I 2) (.bool true) (I 5) H0) = true := by kernel_rfl
theorem c_3_0 (a0 a1 : Int) : isT (b7R0 s11 s15 s25 s9 s10 s20 s21 s22 s28 s31 (I 3) (.bool true) (I 0) H0) = true := by kernel_rfl
theorem c_3_1 (a0 a1 : Int) : isT (b7R0 s11 s15 s25 s9 s10 s20 s21 s22 s28 s31 (I 3) (.bool true) (I 1) H0) = true := by kernel_rfl
theorem c_3_2 (a0 a1 : Int) : isT (b7R0 s11 s15 s25 s9 s10 s20 s21 s22 s28 s31 (I 3) (.bool true) (I 2) H0) = true := by kernel_rfl
theorem c_3_3 (a0 a1 : Int) : isT (b7R0 s11 s15 s25 s9 s10 s20 s21 s22 s28 s31 (I 3) (.bool true) (I 3) H0) = true := by kernel_rfl
theorem c_3_4 (a0 a1 : Int) : isT (b7R0 s11 s15 s25 s9 s10 s20 s21 s22 s28 s31 (I 3) (.bool true) (I 4) H0) = true := by kernel_rfl
theorem c_3_5 (a0 a1 : Int) : isT (b7R0 s11 s15 s25 s9 s10 s20 s21 s22 s28 s31 (I 3) (.bool true) (I 5) H0) = true := by kernel_rfl
end Go.Proofs.YtmoojalmefnmnaaGreatDoor.LTopMonitor
