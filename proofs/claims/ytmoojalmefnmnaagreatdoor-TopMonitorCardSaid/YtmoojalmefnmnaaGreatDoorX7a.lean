/-
  Some cases of the law TopMonitor.
-/
import Derived.Test.YtmoojalmefnmnaaGreatDoorFg
import Derived.KernelRfl
set_option linter.unusedVariables false
set_option linter.unusedSimpArgs false
namespace Go.Proofs.YtmoojalmefnmnaaGreatDoor.LTopMonitor
open Go Go.AM
theorem c_0_0 (a0 a1 : Int) : isT (b7R0 s11 s15 s25 s9 s10 s20 s21 s22 s28 s31 (I 0) (.bool true) (I 0) H0) = true := by kernel_rfl
theorem c_0_1 (a0 a1 : Int) : isT (b7R0 s11 s15 s25 s9 s10 s20 s21 s22 s28 s31 (I 0) (.bool true) (I 1) H0) = true := by kernel_rfl
theorem c_0_2 (a0 a1 : Int) : isT (b7R0 s11 s15 s25 s9 s10 s20 s21 s22 s28 s31 (I 0) (.bool true) (I 2) H0) = true := by kernel_rfl
theorem c_0_3 (a0 a1 : Int) : isT (b7R0 s11 s15 s25 s9 s10 s20 s21 s22 s28 s31 (I 0) (.bool true) (I 3) H0) = true := by kernel_rfl
theorem c_0_4 (a0 a1 : Int) : isT (b7R0 s11 s15 s25 s9 s10 s20 s21 s22 s28 s31 (I 0) (.bool true) (I 4) H0) = true := by kernel_rfl
theorem c_0_5 (a0 a1 : Int) : isT (b7R0 s11 s15 s25 s9 s10 s20 s21 s22 s28 s31 (I 0) (.bool true) (I 5) H0) = true := by kernel_rfl
theorem c_1_0 (a0 a1 : Int) : isT (b7R0 s11 s15 s25 s9 s10 s20 s21 s22 s28 s31 (I 1) (.bool true) (I 0) H0) = true := by kernel_rfl
theorem c_1_1 (a0 a1 : Int) : isT (b7R0 s11 s15 s25 s9 s10 s20 s21 s22 s28 s31 (I 1) (.bool true) (I 1) H0) = true := by kernel_rfl
theorem c_1_2 (a0 a1 : Int) : isT (b7R0 s11 s15 s25 s9 s10 s20 s21 s22 s28 s31 (I 1) (.bool true) (I 2) H0) = true := by kernel_rfl
theorem c_1_3 (a0 a1 : Int) : isT (b7R0 s11 s15 s25 s9 s10 s20 s21 s22 s28 s31 (I 1) (.bool true) (I 3) H0) = true := by kernel_rfl
theorem c_1_4 (a0 a1 : Int) : isT (b7R0 s11 s15 s25 s9 s10 s20 s21 s22 s28 s31 (I 1) (.bool true) (I 4) H0) = true := by kernel_rfl
theorem c_1_5 (a0 a1 : Int) : isT (b7R0 s11 s15 s25 s9 s10 s20 s21 s22 s28 s31 (I 1) (.bool true) (I 5) H0) = true := by kernel_rfl
end Go.Proofs.YtmoojalmefnmnaaGreatDoor.LTopMonitor
