/-
  Some cases of the law TopMonitor.
-/
import Derived.Test.YtmoojalmefnmnaaGreatDoorFg
import Derived.KernelRfl
set_option linter.unusedVariables false
set_option linter.unusedSimpArgs false
namespace Go.Proofs.YtmoojalmefnmnaaGreatDoor.LTopMonitor
open Go Go.AM
theorem c_4_0 (a0 a1 : Int) : isT (b7R0 s11 s15 s25 s9 s10 s20 s21 s22 s28 s31 (I 4) (.bool true) (I 0) H0) = true := by kernel_rfl
theorem c_4_1 (a0 a1 : Int) : isT (b7R0 s11 s15 s25 s9 s10 s20 s21 s22 s28 s31 (I 4) (.bool true) (I 1) H0) = true := by kernel_rfl
theorem c_4_2 (a0 a1 : Int) : isT (b7R0 s11 s15 s25 s9 s10 s20 s21 s22 s28 s31 (I 4) (.bool true) (I 2) H0) = true := by kernel_rfl
theorem c_4_3 (a0 a1 : Int) : isT (b7R0 s11 s15 s25 s9 s10 s20 s21 s22 s28 s31 (I 4) (.bool true) (I 3) H0) = true := by kernel_rfl
theorem c_4_4 (a0 a1 : Int) : isT (b7R0 s11 s15 s25 s9 s10 s20 s21 s22 s28 s31 (I 4) (.bool true) (I 4) H0) = true := by kernel_rfl
theorem c_4_5 (a0 a1 : Int) : isT (b7R0 s11 s15 s25 s9 s10 s20 s21 s22 s28 s31 (I 4) (.bool true) (I 5) H0) = true := by kernel_rfl
theorem c_5_0 (a0 a1 : Int) : isT (b7R0 s11 s15 s25 s9 s10 s20 s21 s22 s28 s31 (I 5) (.bool true) (I 0) H0) = true := by kernel_rfl
theorem c_5_1 (a0 a1 : Int) : isT (b7R0 s11 s15 s25 s9 s10 s20 s21 s22 s28 s31 (I 5) (.bool true) (I 1) H0) = true := by kernel_rfl
theorem c_5_2 (a0 a1 : Int) : isT (b7R0 s11 s15 s25 s9 s10 s20 s21 s22 s28 s31 (I 5) (.bool true) (I 2) H0) = true := by kernel_rfl
theorem c_5_3 (a0 a1 : Int) : isT (b7R0 s11 s15 s25 s9 s10 s20 s21 s22 s28 s31 (I 5) (.bool true) (I 3) H0) = true := by kernel_rfl
theorem c_5_4 (a0 a1 : Int) : isT (b7R0 s11 s15 s25 s9 s10 s20 s21 s22 s28 s31 (I 5) (.bool true) (I 4) H0) = true := by kernel_rfl
theorem c_5_5 (a0 a1 : Int) : isT (b7R0 s11 s15 s25 s9 s10 s20 s21 s22 s28 s31 (I 5) (.bool true) (I 5) H0) = true := by kernel_rfl
end Go.Proofs.YtmoojalmefnmnaaGreatDoor.LTopMonitor
