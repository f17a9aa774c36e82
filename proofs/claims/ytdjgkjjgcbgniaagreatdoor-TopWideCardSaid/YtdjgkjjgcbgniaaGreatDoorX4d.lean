/-
  Some cases of the law TopWide.
-/
import Derived.Test.YtdjgkjjgcbgniaaGreatDoorX4
import Derived.KernelRfl
set_option linter.unusedVariables false
set_option linter.unusedSimpArgs false
namespace Go.Proofs.YtdjgkjjgcbgniaaGreatDoor.LTopWide
open Go Go.AM
theorem c_36q (a0 a1 a2 : Int) : isT (b4R0 s10 s11 s12 s13 s15 (.int 63 a1) (.int 63 a2) (.bool true) (I 36) H0) = WE a1 a2 := by kernel_rfl
theorem c_36 (a0 a1 a2 : Int) : isT (b4R0 s10 s11 s12 s13 s15 (.int 63 a1) (.int 63 a2) (.bool true) (I 36) H0) = true := (c_36q a0 a1 a2).trans (by
  exact eqv _ _ (Int.lt_tmod_of_pos _ (by decide)) (Int.tmod_lt_of_pos _ (by decide)) (Int.lt_tmod_of_pos _ (by decide)) (Int.tmod_lt_of_pos _ (by decide)))
theorem c_37q (a0 a1 a2 : Int) : isT (b4R0 s10 s11 s12 s13 s15 (.int 63 a1) (.int 63 a2) (.bool true) (I 37) H0) = WE a1 a2 := by kernel_rfl
theorem c_37 (a0 a1 a2 : Int) : isT (b4R0 s10 s11 s12 s13 s15 (.int 63 a1) (.int 63 a2) (.bool true) (I 37) H0) = true := (c_37q a0 a1 a2).trans (by
  exact eqv _ _ (Int.lt_tmod_of_pos _ (by decide)) (Int.tmod_lt_of_pos _ (by decide)) (Int.lt_tmod_of_pos _ (by decide)) (Int.tmod_lt_of_pos _ (by decide)))
theorem c_38q (a0 a1 a2 : Int) : isT (b4R0 s10 s11 s12 s13 s15 (.int 63 a1) (.int 63 a2) (.bool true) (I 38) H0) = WE a1 a2 := by kernel_rfl
theorem c_38 (a0 a1 a2 : Int) : isT (b4R0 s10 s11 s12 s13 s15 (.int 63 a1) (.int 63 a2) (.bool true) (I 38) H0) = true := (c_38q a0 a1 a2).trans (by
  exact eqv _ _ (Int.lt_tmod_of_pos _ (by decide)) (Int.tmod_lt_of_pos _ (by decide)) (Int.lt_tmod_of_pos _ (by decide)) (Int.tmod_lt_of_pos _ (by decide)))
theorem c_39q (a0 a1 a2 : Int) : isT (b4R0 s10 s11 s12 s13 s15 (.int 63 a1) (.int 63 a2) (.bool true) (I 39) H0) = WE a1 a2 := by kernel_rfl
theorem c_39 (a0 a1 a2 : Int) : isT (b4R0 s10 s11 s12 s13 s15 (.int 63 a1) (.int 63 a2) (.bool true) (I 39) H0) = true := (c_39q a0 a1 a2).trans (by
  exact eqv _ _ (Int.lt_tmod_of_pos _ (by decide)) (Int.tmod_lt_of_pos _ (by decide)) (Int.lt_tmod_of_pos _ (by decide)) (Int.tmod_lt_of_pos _ (by decide)))
theorem c_40q (a0 a1 a2 : Int) : isT (b4R0 s10 s11 s12 s13 s15 (.int 63 a1) (.int 63 a2) (.bool true) (I 40) H0) = WE a1 a2 := by kernel_rfl
theorem c_40 (a0 a1 a2 : Int) : isT (b4R0 s10 s11 s12 s13 s15 (.int 63 a1) (.int 63 a2) (.bool true) (I 40) H0) = true := (c_40q a0 a1 a2).trans (by
  exact eqv _ _ (Int.lt_tmod_of_pos _ (by decide)) (Int.tmod_lt_of_pos _ (by decide)) (Int.lt_tmod_of_pos _ (by decide)) (Int.tmod_lt_of_pos _ (by decide)))
theorem c_41q (a0 a1 a2 : Int) : isT (b4R0 s10 s11 s12 s13 s15 (.int 63 a1) (.int 63 a2) (.bool true) (I 41) H0) = WE a1 a2 := by kernel_rfl
theorem c_41 (a0 a1 a2 : Int) : isT (b4R0 s10 s11 s12 s13 s15 (.int 63 a1) (.int 63 a2) (.bool true) (I 41) H0) = true := (c_41q a0 a1 a2).trans (by
  exact eqv _ _ (Int.lt_tmod_of_pos _ (by decide)) (Int.tmod_lt_of_pos _ (by decide)) (Int.lt_tmod_of_pos _ (by decide)) (Int.tmod_lt_of_pos _ (by decide)))
theorem c_42q (a0 a1 a2 : Int) : isT (b4R0 s10 s11 s12 s13 s15 (.int 63 a1) (.int 63 a2) (.bool true) (I 42) H0) = WE a1 a2 := by kernel_rfl
theorem c_42 (a0 a1 a2 : Int) : isT (b4R0 s10 s11 s12 s13 s15 (.int 63 a1) (.int 63 a2) (.bool true) (I 42) H0) = true := (c_42q a0 a1 a2).trans (by
  exact eqv _ _ (Int.lt_tmod_of_pos _ (by decide)) (Int.tmod_lt_of_pos _ (by decide)) (Int.lt_tmod_of_pos _ (by decide)) (Int.tmod_lt_of_pos _ (by decide)))
theorem c_43q (a0 a1 a2 : Int) : isT (b4R0 s10 s11 s12 s13 s15 (.int 63 a1) (.int 63 a2) (.bool true) (I 43) H0) = WE a1 a2 := by kernel_rfl
theorem c_43 (a0 a1 a2 : Int) : isT (b4R0 s10 s11 s12 s13 s15 (.int 63 a1) (.int 63 a2) (.bool true) (I 43) H0) = true := (c_43q a0 a1 a2).trans (by
  exact eqv _ _ (Int.lt_tmod_of_pos _ (by decide)) (Int.tmod_lt_of_pos _ (by decide)) (Int.lt_tmod_of_pos _ (by decide)) (Int.tmod_lt_of_pos _ (by decide)))
theorem c_44q (a0 a1 a2 : Int) : isT (b4R0 s10 s11 s12 s13 s15 (.int 63 a1) (.int 63 a2) (.bool true) (I 44) H0) = WE a1 a2 := by kernel_rfl
theorem c_44 (a0 a1 a2 : Int) : isT (b4R0 s10 s11 s12 s13 s15 (.int 63 a1) (.int 63 a2) (.bool true) (I 44) H0) = true := (c_44q a0 a1 a2).trans (by
  exact eqv _ _ (Int.lt_tmod_of_pos _ (by decide)) (Int.tmod_lt_of_pos _ (by decide)) (Int.lt_tmod_of_pos _ (by decide)) (Int.tmod_lt_of_pos _ (by decide)))
theorem c_45q (a0 a1 a2 : Int) : isT (b4R0 s10 s11 s12 s13 s15 (.int 63 a1) (.int 63 a2) (.bool true) (I 45) H0) = WE a1 a2 := by kernel_rfl
theorem c_45 (a0 a1 a2 : Int) : isT (b4R0 s10 s11 s12 s13 s15 (.int 63 a1) (.int 63 a2) (.bool true) (I 45) H0) = true := (c_45q a0 a1 a2).trans (by
  exact eqv _ _ (Int.lt_tmod_of_pos _ (by decide)) (Int.tmod_lt_of_pos _ (by decide)) (Int.lt_tmod_of_pos _ (by decide)) (Int.tmod_lt_of_pos _ (by decide)))
theorem c_46q (a0 a1 a2 : Int) : isT (b4R0 s10 s11 s12 s13 s15 (.int 63 a1) (.int 63 a2) (.bool true) (I 46) H0) = WE a1 a2 := by kernel_rfl
theorem c_46 (a0 a1 a2 : Int) : isT (b4R0 s10 s11 s12 s13 s15 (.int 63 a1) (.int 63 a2) (.bool true) (I 46) H0) = true := (c_46q a0 a1 a2).trans (by
  exact eqv _ _ (Int.lt_tmod_of_pos _ (by decide)) (Int.tmod_lt_of_pos _ (by decide)) (Int.lt_tmod_of_pos _ (by decide)) (Int.tmod_lt_of_pos _ (by decide)))
theorem c_47q (a0 a1 a2 : Int) : isT (b4R0 s10 s11 s12 s13 s15 (.int 63 a1) (.int 63 a2) (.bool true) (I 47) H0) = WE a1 a2 := by kernel_rfl
theorem c_47 (a0 a1 a2 : Int) : isT (b4R0 s10 s11 s12 s13 s15 (.int 63 a1) (.int 63 a2) (.bool true) (I 47) H0) = true := (c_47q a0 a1 a2).trans (by
  exact eqv _ _ (Int.lt_tmod_of_pos _ (by decide)) (Int.tmod_lt_of_pos _ (by decide)) (Int.lt_tmod_of_pos _ (by decide)) (Int.tmod_lt_of_pos _ (by decide)))
end Go.Proofs.YtdjgkjjgcbgniaaGreatDoor.LTopWide
