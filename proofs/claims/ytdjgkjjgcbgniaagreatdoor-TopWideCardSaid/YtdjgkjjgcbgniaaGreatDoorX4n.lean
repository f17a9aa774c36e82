/-
  Some cases of the law TopWide.
-/
import Derived.Test.YtdjgkjjgcbgniaaGreatDoorX4
import Derived.KernelRfl
set_option linter.unusedVariables false
set_option linter.unusedSimpArgs false
namespace Go.Proofs.YtdjgkjjgcbgniaaGreatDoor.LTopWide
open Go Go.AM
theorem c_156q (a0 a1 a2 : Int) : isT (b4R0 s10 s11 s12 s13 s15 (.int 63 a1) (.int 63 a2) (.bool true) (I 156) H0) = WE a1 a2 := by kernel_rfl
theorem c_156 (a0 a1 a2 : Int) : isT (b4R0 s10 s11 s12 s13 s15 (.int 63 a1) (.int 63 a2) (.bool true) (I 156) H0) = true := (c_156q a0 a1 a2).trans (by
  exact eqv _ _ (Int.lt_tmod_of_pos _ (by decide)) (Int.tmod_lt_of_pos _ (by decide)) (Int.lt_tmod_of_pos _ (by decide)) (Int.tmod_lt_of_pos _ (by decide)))
theorem c_157q (a0 a1 a2 : Int) : isT (b4R0 s10 s11 s12 s13 s15 (.int 63 a1) (.int 63 a2) (.bool true) (I 157) H0) = WE a1 a2 := by kernel_rfl
theorem c_157 (a0 a1 a2 : Int) : isT (b4R0 s10 s11 s12 s13 s15 (.int 63 a1) (.int 63 a2) (.bool true) (I 157) H0) = true := (c_157q a0 a1 a2).trans (by
  exact eqv _ _ (Int.lt_tmod_of_pos _ (by decide)) (Int.tmod_lt_of_pos _ (by decide)) (Int.lt_tmod_of_pos _ (by decide)) (Int.tmod_lt_of_pos _ (by decide)))
theorem c_158q (a0 a1 a2 : Int) : isT (b4R0 s10 s11 s12 s13 s15 (.int 63 a1) (.int 63 a2) (.bool true) (I 158) H0) = WE a1 a2 := by kernel_rfl
theorem c_158 (a0 a1 a2 : Int) : isT (b4R0 s10 s11 s12 s13 s15 (.int 63 a1) (.int 63 a2) (.bool true) (I 158) H0) = true := (c_158q a0 a1 a2).trans (by
  exact eqv _ _ (Int.lt_tmod_of_pos _ (by decide)) (Int.tmod_lt_of_pos _ (by decide)) (Int.lt_tmod_of_pos _ (by decide)) (Int.tmod_lt_of_pos _ (by decide)))
theorem c_159q (a0 a1 a2 : Int) : isT (b4R0 s10 s11 s12 s13 s15 (.int 63 a1) (.int 63 a2) (.bool true) (I 159) H0) = WE a1 a2 := by kernel_rfl
theorem c_159 (a0 a1 a2 : Int) : isT (b4R0 s10 s11 s12 s13 s15 (.int 63 a1) (.int 63 a2) (.bool true) (I 159) H0) = true := (c_159q a0 a1 a2).trans (by
  exact eqv _ _ (Int.lt_tmod_of_pos _ (by decide)) (Int.tmod_lt_of_pos _ (by decide)) (Int.lt_tmod_of_pos _ (by decide)) (Int.tmod_lt_of_pos _ (by decide)))
theorem c_160q (a0 a1 a2 : Int) : isT (b4R0 s10 s11 s12 s13 s15 (.int 63 a1) (.int 63 a2) (.bool true) (I 160) H0) = WE a1 a2 := by kernel_rfl
theorem c_160 (a0 a1 a2 : Int) : isT (b4R0 s10 s11 s12 s13 s15 (.int 63 a1) (.int 63 a2) (.bool true) (I 160) H0) = true := (c_160q a0 a1 a2).trans (by
  exact eqv _ _ (Int.lt_tmod_of_pos _ (by decide)) (Int.tmod_lt_of_pos _ (by decide)) (Int.lt_tmod_of_pos _ (by decide)) (Int.tmod_lt_of_pos _ (by decide)))
theorem c_161q (a0 a1 a2 : Int) : isT (b4R0 s10 s11 s12 s13 s15 (.int 63 a1) (.int 63 a2) (.bool true) (I 161) H0) = WE a1 a2 := by kernel_rfl
theorem c_161 (a0 a1 a2 : Int) : isT (b4R0 s10 s11 s12 s13 s15 (.int 63 a1) (.int 63 a2) (.bool true) (I 161) H0) = true := (c_161q a0 a1 a2).trans (by
  exact eqv _ _ (Int.lt_tmod_of_pos _ (by decide)) (Int.tmod_lt_of_pos _ (by decide)) (Int.lt_tmod_of_pos _ (by decide)) (Int.tmod_lt_of_pos _ (by decide)))
theorem c_162q (a0 a1 a2 : Int) : isT (b4R0 s10 s11 s12 s13 s15 (.int 63 a1) (.int 63 a2) (.bool true) (I 162) H0) = WE a1 a2 := by kernel_rfl
theorem c_162 (a0 a1 a2 : Int) : isT (b4R0 s10 s11 s12 s13 s15 (.int 63 a1) (.int 63 a2) (.bool true) (I 162) H0) = true := (c_162q a0 a1 a2).trans (by
  exact eqv _ _ (Int.lt_tmod_of_pos _ (by decide)) (Int.tmod_lt_of_pos _ (by decide)) (Int.lt_tmod_of_pos _ (by decide)) (Int.tmod_lt_of_pos _ (by decide)))
theorem c_163q (a0 a1 a2 : Int) : isT (b4R0 s10 s11 s12 s13 s15 (.int 63 a1) (.int 63 a2) (.bool true) (I 163) H0) = WE a1 a2 := by kernel_rfl
theorem c_163 (a0 a1 a2 : Int) : isT (b4R0 s10 s11 s12 s13 s15 (.int 63 a1) (.int 63 a2) (.bool true) (I 163) H0) = true := (c_163q a0 a1 a2).trans (by
  exact eqv _ _ (Int.lt_tmod_of_pos _ (by decide)) (Int.tmod_lt_of_pos _ (by decide)) (Int.lt_tmod_of_pos _ (by decide)) (Int.tmod_lt_of_pos _ (by decide)))
theorem c_164q (a0 a1 a2 : Int) : isT (b4R0 s10 s11 s12 s13 s15 (.int 63 a1) (.int 63 a2) (.bool true) (I 164) H0) = WE a1 a2 := by kernel_rfl
theorem c_164 (a0 a1 a2 : Int) : isT (b4R0 s10 s11 s12 s13 s15 (.int 63 a1) (.int 63 a2) (.bool true) (I 164) H0) = true := (c_164q a0 a1 a2).trans (by
  exact eqv _ _ (Int.lt_tmod_of_pos _ (by decide)) (Int.tmod_lt_of_pos _ (by decide)) (Int.lt_tmod_of_pos _ (by decide)) (Int.tmod_lt_of_pos _ (by decide)))
theorem c_165q (a0 a1 a2 : Int) : isT (b4R0 s10 s11 s12 s13 s15 (.int 63 a1) (.int 63 a2) (.bool true) (I 165) H0) = WE a1 a2 := by kernel_rfl
theorem c_165 (a0 a1 a2 : Int) : isT (b4R0 s10 s11 s12 s13 s15 (.int 63 a1) (.int 63 a2) (.bool true) (I 165) H0) = true := (c_165q a0 a1 a2).trans (by
  exact eqv _ _ (Int.lt_tmod_of_pos _ (by decide)) (Int.tmod_lt_of_pos _ (by decide)) (Int.lt_tmod_of_pos _ (by decide)) (Int.tmod_lt_of_pos _ (by decide)))
theorem c_166q (a0 a1 a2 : Int) : isT (b4R0 s10 s11 s12 s13 s15 (.int 63 a1) (.int 63 a2) (.bool true) (I 166) H0) = WE a1 a2 := by kernel_rfl
theorem c_166 (a0 a1 a2 : Int) : isT (b4R0 s10 s11 s12 s13 s15 (.int 63 a1) (.int 63 a2) (.bool true) (I 166) H0) = true := (c_166q a0 a1 a2).trans (by
  exact eqv _ _ (Int.lt_tmod_of_pos _ (by decide)) (Int.tmod_lt_of_pos _ (by decide)) (Int.lt_tmod_of_pos _ (by decide)) (Int.tmod_lt_of_pos _ (by decide)))
theorem c_167q (a0 a1 a2 : Int) : isT (b4R0 s10 s11 s12 s13 s15 (.int 63 a1) (.int 63 a2) (.bool true) (I 167) H0) = WE a1 a2 := by kernel_rfl
theorem c_167 (a0 a1 a2 : Int) : isT (b4R0 s10 s11 s12 s13 s15 (.int 63 a1) (.int 63 a2) (.bool true) (I 167) H0) = true := (c_167q a0 a1 a2).trans (by
  exact eqv _ _ (Int.lt_tmod_of_pos _ (by decide)) (Int.tmod_lt_of_pos _ (by decide)) (Int.lt_tmod_of_pos _ (by decide)) (Int.tmod_lt_of_pos _ (by decide)))
end Go.Proofs.YtdjgkjjgcbgniaaGreatDoor.LTopWide
