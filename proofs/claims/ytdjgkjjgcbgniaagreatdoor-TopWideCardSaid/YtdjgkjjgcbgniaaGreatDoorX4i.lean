/-
  Some cases of the law TopWide.
-/
import Derived.Test.YtdjgkjjgcbgniaaGreatDoorX4
import Derived.KernelRfl
set_option linter.unusedVariables false
set_option linter.unusedSimpArgs false
namespace Go.Proofs.YtdjgkjjgcbgniaaGreatDoor.LTopWide
open Go Go.AM
theorem c_96q (a0 a1 a2 : Int) : isT (b4R0 s10 s11 s12 s13 s15 (.int 63 a1) (.int 63 a2) (.bool true) (I 96) H0) = WE a1 a2 := by kernel_rfl
theorem c_96 (a0 a1 a2 : Int) : isT (b4R0 s10 s11 s12 s13 s15 (.int 63 a1) (.int 63 a2) (.bool true) (I 96) H0) = true := (c_96q a0 a1 a2).trans (by
  exact eqv _ _ (Int.lt_tmod_of_pos _ (by decide)) (Int.tmod_lt_of_pos _ (by decide)) (Int.lt_tmod_of_pos _ (by decide)) (Int.tmod_lt_of_pos _ (by decide)))
theorem c_97q (a0 a1 a2 : Int) : isT (b4R0 s10 s11 s12 s13 s15 (.int 63 a1) (.int 63 a2) (.bool true) (I 97) H0) = WE a1 a2 := by kernel_rfl
theorem c_97 (a0 a1 a2 : Int) : isT (b4R0 s10 s11 s12 s13 s15 (.int 63 a1) (.int 63 a2) (.bool true) (I 97) H0) = true := (c_97q a0 a1 a2).trans (by
  exact eqv _ _ (Int.lt_tmod_of_pos _ (by decide)) (Int.tmod_lt_of_pos _ (by decide)) (Int.lt_tmod_of_pos _ (by decide)) (Int.tmod_lt_of_pos _ (by decide)))
theorem c_98q (a0 a1 a2 : Int) : isT (b4R0 s10 s11 s12 s13 s15 (.int 63 a1) (.int 63 a2) (.bool true) (I 98) H0) = WE a1 a2 := by kernel_rfl
theorem c_98 (a0 a1 a2 : Int) : isT (b4R0 s10 s11 s12 s13 s15 (.int 63 a1) (.int 63 a2) (.bool true) (I 98) H0) = true := (c_98q a0 a1 a2).trans (by
  exact eqv _ _ (Int.lt_tmod_of_pos _ (by decide)) (Int.tmod_lt_of_pos _ (by decide)) (Int.lt_tmod_of_pos _ (by decide)) (Int.tmod_lt_of_pos _ (by decide)))
theorem c_99q (a0 a1 a2 : Int) : isT (b4R0 s10 s11 s12 s13 s15 (.int 63 a1) (.int 63 a2) (.bool true) (I 99) H0) = WE a1 a2 := by kernel_rfl
theorem c_99 (a0 a1 a2 : Int) : isT (b4R0 s10 s11 s12 s13 s15 (.int 63 a1) (.int 63 a2) (.bool true) (I 99) H0) = true := (c_99q a0 a1 a2).trans (by
  exact eqv _ _ (Int.lt_tmod_of_pos _ (by decide)) (Int.tmod_lt_of_pos _ (by decide)) (Int.lt_tmod_of_pos _ (by decide)) (Int.tmod_lt_of_pos _ (by decide)))
theorem c_100q (a0 a1 a2 : Int) : isT (b4R0 s10 s11 s12 s13 s15 (.int 63 a1) (.int 63 a2) (.bool true) (I 100) H0) = WE a1 a2 := by kernel_rfl
theorem c_100 (a0 a1 a2 : Int) : isT (b4R0 s10 s11 s12 s13 s15 (.int 63 a1) (.int 63 a2) (.bool true) (I 100) H0) = true := (c_100q a0 a1 a2).trans (by
  exact eqv _ _ (Int.lt_tmod_of_pos _ (by decide)) (Int.tmod_lt_of_pos _ (by decide)) (Int.lt_tmod_of_pos _ (by decide)) (Int.tmod_lt_of_pos _ (by decide)))
theorem c_101q (a0 a1 a2 : Int) : isT (b4R0 s10 s11 s12 s13 s15 (.int 63 a1) (.int 63 a2) (.bool true) (I 101) H0) = WE a1 a2 := by kernel_rfl
theorem c_101 (a0 a1 a2 : Int) : isT (b4R0 s10 s11 s12 s13 s15 (.int 63 a1) (.int 63 a2) (.bool true) (I 101) H0) = true := (c_101q a0 a1 a2).trans (by
  exact eqv _ _ (Int.lt_tmod_of_pos _ (by decide)) (Int.tmod_lt_of_pos _ (by decide)) (Int.lt_tmod_of_pos _ (by decide)) (Int.tmod_lt_of_pos _ (by decide)))
theorem c_102q (a0 a1 a2 : Int) : isT (b4R0 s10 s11 s12 s13 s15 (.int 63 a1) (.int 63 a2) (.bool true) (I 102) H0) = WE a1 a2 := by kernel_rfl
theorem c_102 (a0 a1 a2 : Int) : isT (b4R0 s10 s11 s12 s13 s15 (.int 63 a1) (.int 63 a2) (.bool true) (I 102) H0) = true := (c_102q a0 a1 a2).trans (by
  exact eqv _ _ (Int.lt_tmod_of_pos _ (by decide)) (Int.tmod_lt_of_pos _ (by decide)) (Int.lt_tmod_of_pos _ (by decide)) (Int.tmod_lt_of_pos _ (by decide)))
theorem c_103q (a0 a1 a2 : Int) : isT (b4R0 s10 s11 s12 s13 s15 (.int 63 a1) (.int 63 a2) (.bool true) (I 103) H0) = WE a1 a2 := by kernel_rfl
theorem c_103 (a0 a1 a2 : Int) : isT (b4R0 s10 s11 s12 s13 s15 (.int 63 a1) (.int 63 a2) (.bool true) (I 103) H0) = true := (c_103q a0 a1 a2).trans (by
  exact eqv _ _ (Int.lt_tmod_of_pos _ (by decide)) (Int.tmod_lt_of_pos _ (by decide)) (Int.lt_tmod_of_pos _ (by decide)) (Int.tmod_lt_of_pos _ (by decide)))
theorem c_104q (a0 a1 a2 : Int) : isT (b4R0 s10 s11 s12 s13 s15 (.int 63 a1) (.int 63 a2) (.bool true) (I 104) H0) = WE a1 a2 := by kernel_rfl
theorem c_104 (a0 a1 a2 : Int) : isT (b4R0 s10 s11 s12 s13 s15 (.int 63 a1) (.int 63 a2) (.bool true) (I 104) H0) = true := (c_104q a0 a1 a2).trans (by
  exact eqv _ _ (Int.lt_tmod_of_pos _ (by decide)) (Int.tmod_lt_of_pos _ (by decide)) (Int.lt_tmod_of_pos _ (by decide)) (Int.tmod_lt_of_pos _ (by decide)))
theorem c_105q (a0 a1 a2 : Int) : isT (b4R0 s10 s11 s12 s13 s15 (.int 63 a1) (.int 63 a2) (.bool true) (I 105) H0) = WE a1 a2 := by kernel_rfl
theorem c_105 (a0 a1 a2 : Int) : isT (b4R0 s10 s11 s12 s13 s15 (.int 63 a1) (.int 63 a2) (.bool true) (I 105) H0) = true := (c_105q a0 a1 a2).trans (by
  exact eqv _ _ (Int.lt_tmod_of_pos _ (by decide)) (Int.tmod_lt_of_pos _ (by decide)) (Int.lt_tmod_of_pos _ (by decide)) (Int.tmod_lt_of_pos _ (by decide)))
theorem c_106q (a0 a1 a2 : Int) : isT (b4R0 s10 s11 s12 s13 s15 (.int 63 a1) (.int 63 a2) (.bool true) (I 106) H0) = WE a1 a2 := by kernel_rfl
theorem c_106 (a0 a1 a2 : Int) : isT (b4R0 s10 s11 s12 s13 s15 (.int 63 a1) (.int 63 a2) (.bool true) (I 106) H0) = true := (c_106q a0 a1 a2).trans (by
  exact eqv _ _ (Int.lt_tmod_of_pos _ (by decide)) (Int.tmod_lt_of_pos _ (by decide)) (Int.lt_tmod_of_pos _ (by decide)) (Int.tmod_lt_of_pos _ (by decide)))
theorem c_107q (a0 a1 a2 : Int) : isT (b4R0 s10 s11 s12 s13 s15 (.int 63 a1) (.int 63 a2) (.bool true) (I 107) H0) = WE a1 a2 := by kernel_rfl
theorem c_107 (a0 a1 a2 : Int) : isT (b4R0 s10 s11 s12 s13 s15 (.int 63 a1) (.int 63 a2) (.bool true) (I 107) H0) = true := (c_107q a0 a1 a2).trans (by
  exact eqv _ _ (Int.lt_tmod_of_pos _ (by decide)) (Int.tmod_lt_of_pos _ (by decide)) (Int.lt_tmod_of_pos _ (by decide)) (Int.tmod_lt_of_pos _ (by decide)))
end Go.Proofs.YtdjgkjjgcbgniaaGreatDoor.LTopWide
