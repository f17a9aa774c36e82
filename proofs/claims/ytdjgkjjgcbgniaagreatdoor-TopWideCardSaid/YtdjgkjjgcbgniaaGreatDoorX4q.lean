/-
  Some cases of the law TopWide.
-/
import Derived.Test.YtdjgkjjgcbgniaaGreatDoorX4
import Derived.KernelRfl
set_option linter.unusedVariables false
set_option linter.unusedSimpArgs false
namespace Go.Proofs.YtdjgkjjgcbgniaaGreatDoor.LTopWide
open Go Go.AM
theorem c_192q (a0 a1 a2 : Int) : isT (b4R0 s10 s11 s12 s13 s15 (.int 63 a1) (.int 63 a2) (.bool true) (I 192) H0) = WE a1 a2 := by kernel_rfl
theorem c_192 (a0 a1 a2 : Int) : isT (b4R0 s10 s11 s12 s13 s15 (.int 63 a1) (.int 63 a2) (.bool true) (I 192) H0) = true := (c_192q a0 a1 a2).trans (by
  exact eqv _ _ (Int.lt_tmod_of_pos _ (by decide)) (Int.tmod_lt_of_pos _ (by decide)) (Int.lt_tmod_of_pos _ (by decide)) (Int.tmod_lt_of_pos _ (by decide)))
theorem c_193q (a0 a1 a2 : Int) : isT (b4R0 s10 s11 s12 s13 s15 (.int 63 a1) (.int 63 a2) (.bool true) (I 193) H0) = WE a1 a2 := by kernel_rfl
theorem c_193 (a0 a1 a2 : Int) : isT (b4R0 s10 s11 s12 s13 s15 (.int 63 a1) (.int 63 a2) (.bool true) (I 193) H0) = true := (c_193q a0 a1 a2).trans (by
  exact eqv _ _ (Int.lt_tmod_of_pos _ (by decide)) (Int.tmod_lt_of_pos _ (by decide)) (Int.lt_tmod_of_pos _ (by decide)) (Int.tmod_lt_of_pos _ (by decide)))
theorem c_194q (a0 a1 a2 : Int) : isT (b4R0 s10 s11 s12 s13 s15 (.int 63 a1) (.int 63 a2) (.bool true) (I 194) H0) = WE a1 a2 := by kernel_rfl
theorem c_194 (a0 a1 a2 : Int) : isT (b4R0 s10 s11 s12 s13 s15 (.int 63 a1) (.int 63 a2) (.bool true) (I 194) H0) = true := (c_194q a0 a1 a2).trans (by
  exact eqv _ _ (Int.lt_tmod_of_pos _ (by decide)) (Int.tmod_lt_of_pos _ (by decide)) (Int.lt_tmod_of_pos _ (by decide)) (Int.tmod_lt_of_pos _ (by decide)))
theorem c_195q (a0 a1 a2 : Int) : isT (b4R0 s10 s11 s12 s13 s15 (.int 63 a1) (.int 63 a2) (.bool true) (I 195) H0) = WE a1 a2 := by kernel_rfl
theorem c_195 (a0 a1 a2 : Int) : isT (b4R0 s10 s11 s12 s13 s15 (.int 63 a1) (.int 63 a2) (.bool true) (I 195) H0) = true := (c_195q a0 a1 a2).trans (by
  exact eqv _ _ (Int.lt_tmod_of_pos _ (by decide)) (Int.tmod_lt_of_pos _ (by decide)) (Int.lt_tmod_of_pos _ (by decide)) (Int.tmod_lt_of_pos _ (by decide)))
theorem c_196q (a0 a1 a2 : Int) : isT (b4R0 s10 s11 s12 s13 s15 (.int 63 a1) (.int 63 a2) (.bool true) (I 196) H0) = WE a1 a2 := by kernel_rfl
theorem c_196 (a0 a1 a2 : Int) : isT (b4R0 s10 s11 s12 s13 s15 (.int 63 a1) (.int 63 a2) (.bool true) (I 196) H0) = true := (c_196q a0 a1 a2).trans (by
  exact eqv _ _ (Int.lt_tmod_of_pos _ (by decide)) (Int.tmod_lt_of_pos _ (by decide)) (Int.lt_tmod_of_pos _ (by decide)) (Int.tmod_lt_of_pos _ (by decide)))
theorem c_197q (a0 a1 a2 : Int) : isT (b4R0 s10 s11 s12 s13 s15 (.int 63 a1) (.int 63 a2) (.bool true) (I 197) H0) = WE a1 a2 := by kernel_rfl
theorem c_197 (a0 a1 a2 : Int) : isT (b4R0 s10 s11 s12 s13 s15 (.int 63 a1) (.int 63 a2) (.bool true) (I 197) H0) = true := (c_197q a0 a1 a2).trans (by
  exact eqv _ _ (Int.lt_tmod_of_pos _ (by decide)) (Int.tmod_lt_of_pos _ (by decide)) (Int.lt_tmod_of_pos _ (by decide)) (Int.tmod_lt_of_pos _ (by decide)))
theorem c_198q (a0 a1 a2 : Int) : isT (b4R0 s10 s11 s12 s13 s15 (.int 63 a1) (.int 63 a2) (.bool true) (I 198) H0) = WE a1 a2 := by kernel_rfl
theorem c_198 (a0 a1 a2 : Int) : isT (b4R0 s10 s11 s12 s13 s15 (.int 63 a1) (.int 63 a2) (.bool true) (I 198) H0) = true := (c_198q a0 a1 a2).trans (by
  exact eqv _ _ (Int.lt_tmod_of_pos _ (by decide)) (Int.tmod_lt_of_pos _ (by decide)) (Int.lt_tmod_of_pos _ (by decide)) (Int.tmod_lt_of_pos _ (by decide)))
theorem c_199q (a0 a1 a2 : Int) : isT (b4R0 s10 s11 s12 s13 s15 (.int 63 a1) (.int 63 a2) (.bool true) (I 199) H0) = WE a1 a2 := by kernel_rfl
theorem c_199 (a0 a1 a2 : Int) : isT (b4R0 s10 s11 s12 s13 s15 (.int 63 a1) (.int 63 a2) (.bool true) (I 199) H0) = true := (c_199q a0 a1 a2).trans (by
  exact eqv _ _ (Int.lt_tmod_of_pos _ (by decide)) (Int.tmod_lt_of_pos _ (by decide)) (Int.lt_tmod_of_pos _ (by decide)) (Int.tmod_lt_of_pos _ (by decide)))
theorem c_200q (a0 a1 a2 : Int) : isT (b4R0 s10 s11 s12 s13 s15 (.int 63 a1) (.int 63 a2) (.bool true) (I 200) H0) = WE a1 a2 := by kernel_rfl
theorem c_200 (a0 a1 a2 : Int) : isT (b4R0 s10 s11 s12 s13 s15 (.int 63 a1) (.int 63 a2) (.bool true) (I 200) H0) = true := (c_200q a0 a1 a2).trans (by
  exact eqv _ _ (Int.lt_tmod_of_pos _ (by decide)) (Int.tmod_lt_of_pos _ (by decide)) (Int.lt_tmod_of_pos _ (by decide)) (Int.tmod_lt_of_pos _ (by decide)))
theorem c_201q (a0 a1 a2 : Int) : isT (b4R0 s10 s11 s12 s13 s15 (.int 63 a1) (.int 63 a2) (.bool true) (I 201) H0) = WE a1 a2 := by kernel_rfl
theorem c_201 (a0 a1 a2 : Int) : isT (b4R0 s10 s11 s12 s13 s15 (.int 63 a1) (.int 63 a2) (.bool true) (I 201) H0) = true := (c_201q a0 a1 a2).trans (by
  exact eqv _ _ (Int.lt_tmod_of_pos _ (by decide)) (Int.tmod_lt_of_pos _ (by decide)) (Int.lt_tmod_of_pos _ (by decide)) (Int.tmod_lt_of_pos _ (by decide)))
theorem c_202q (a0 a1 a2 : Int) : isT (b4R0 s10 s11 s12 s13 s15 (.int 63 a1) (.int 63 a2) (.bool true) (I 202) H0) = WE a1 a2 := by kernel_rfl
theorem c_202 (a0 a1 a2 : Int) : isT (b4R0 s10 s11 s12 s13 s15 (.int 63 a1) (.int 63 a2) (.bool true) (I 202) H0) = true := (c_202q a0 a1 a2).trans (by
  exact eqv _ _ (Int.lt_tmod_of_pos _ (by decide)) (Int.tmod_lt_of_pos _ (by decide)) (Int.lt_tmod_of_pos _ (by decide)) (Int.tmod_lt_of_pos _ (by decide)))
theorem c_203q (a0 a1 a2 : Int) : isT (b4R0 s10 s11 s12 s13 s15 (.int 63 a1) (.int 63 a2) (.bool true) (I 203) H0) = WE a1 a2 := by kernel_rfl
theorem c_203 (a0 a1 a2 : Int) : isT (b4R0 s10 s11 s12 s13 s15 (.int 63 a1) (.int 63 a2) (.bool true) (I 203) H0) = true := (c_203q a0 a1 a2).trans (by
  exact eqv _ _ (Int.lt_tmod_of_pos _ (by decide)) (Int.tmod_lt_of_pos _ (by decide)) (Int.lt_tmod_of_pos _ (by decide)) (Int.tmod_lt_of_pos _ (by decide)))
end Go.Proofs.YtdjgkjjgcbgniaaGreatDoor.LTopWide
