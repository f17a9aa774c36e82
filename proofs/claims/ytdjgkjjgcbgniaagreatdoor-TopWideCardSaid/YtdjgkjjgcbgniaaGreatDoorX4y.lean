/-
  Some cases of the law TopWide.
-/
import Derived.Test.YtdjgkjjgcbgniaaGreatDoorX4
import Derived.KernelRfl
set_option linter.unusedVariables false
set_option linter.unusedSimpArgs false
namespace Go.Proofs.YtdjgkjjgcbgniaaGreatDoor.LTopWide
open Go Go.AM
theorem c_288q (a0 a1 a2 : Int) : isT (b4R0 s10 s11 s12 s13 s15 (.int 63 a1) (.int 63 a2) (.bool true) (I 288) H0) = WE a1 a2 := by kernel_rfl
theorem c_288 (a0 a1 a2 : Int) : isT (b4R0 s10 s11 s12 s13 s15 (.int 63 a1) (.int 63 a2) (.bool true) (I 288) H0) = true := (c_288q a0 a1 a2).trans (by
  exact eqv _ _ (Int.lt_tmod_of_pos _ (by decide)) (Int.tmod_lt_of_pos _ (by decide)) (Int.lt_tmod_of_pos _ (by decide)) (Int.tmod_lt_of_pos _ (by decide)))
theorem c_289q (a0 a1 a2 : Int) : isT (b4R0 s10 s11 s12 s13 s15 (.int 63 a1) (.int 63 a2) (.bool true) (I 289) H0) = WE a1 a2 := by kernel_rfl
theorem c_289 (a0 a1 a2 : Int) : isT (b4R0 s10 s11 s12 s13 s15 (.int 63 a1) (.int 63 a2) (.bool true) (I 289) H0) = true := (c_289q a0 a1 a2).trans (by
  exact eqv _ _ (Int.lt_tmod_of_pos _ (by decide)) (Int.tmod_lt_of_pos _ (by decide)) (Int.lt_tmod_of_pos _ (by decide)) (Int.tmod_lt_of_pos _ (by decide)))
theorem c_290q (a0 a1 a2 : Int) : isT (b4R0 s10 s11 s12 s13 s15 (.int 63 a1) (.int 63 a2) (.bool true) (I 290) H0) = WE a1 a2 := by kernel_rfl
theorem c_290 (a0 a1 a2 : Int) : isT (b4R0 s10 s11 s12 s13 s15 (.int 63 a1) (.int 63 a2) (.bool true) (I 290) H0) = true := (c_290q a0 a1 a2).trans (by
  exact eqv _ _ (Int.lt_tmod_of_pos _ (by decide)) (Int.tmod_lt_of_pos _ (by decide)) (Int.lt_tmod_of_pos _ (by decide)) (Int.tmod_lt_of_pos _ (by decide)))
theorem c_291q (a0 a1 a2 : Int) : isT (b4R0 s10 s11 s12 s13 s15 (.int 63 a1) (.int 63 a2) (.bool true) (I 291) H0) = WE a1 a2 := by kernel_rfl
theorem c_291 (a0 a1 a2 : Int) : isT (b4R0 s10 s11 s12 s13 s15 (.int 63 a1) (.int 63 a2) (.bool true) (I 291) H0) = true := (c_291q a0 a1 a2).trans (by
  exact eqv _ _ (Int.lt_tmod_of_pos _ (by decide)) (Int.tmod_lt_of_pos _ (by decide)) (Int.lt_tmod_of_pos _ (by decide)) (Int.tmod_lt_of_pos _ (by decide)))
theorem c_292q (a0 a1 a2 : Int) : isT (b4R0 s10 s11 s12 s13 s15 (.int 63 a1) (.int 63 a2) (.bool true) (I 292) H0) = WE a1 a2 := by kernel_rfl
theorem c_292 (a0 a1 a2 : Int) : isT (b4R0 s10 s11 s12 s13 s15 (.int 63 a1) (.int 63 a2) (.bool true) (I 292) H0) = true := (c_292q a0 a1 a2).trans (by
  exact eqv _ _ (Int.lt_tmod_of_pos _ (by decide)) (Int.tmod_lt_of_pos _ (by decide)) (Int.lt_tmod_of_pos _ (by decide)) (Int.tmod_lt_of_pos _ (by decide)))
theorem c_293q (a0 a1 a2 : Int) : isT (b4R0 s10 s11 s12 s13 s15 (.int 63 a1) (.int 63 a2) (.bool true) (I 293) H0) = WE a1 a2 := by kernel_rfl
theorem c_293 (a0 a1 a2 : Int) : isT (b4R0 s10 s11 s12 s13 s15 (.int 63 a1) (.int 63 a2) (.bool true) (I 293) H0) = true := (c_293q a0 a1 a2).trans (by
  exact eqv _ _ (Int.lt_tmod_of_pos _ (by decide)) (Int.tmod_lt_of_pos _ (by decide)) (Int.lt_tmod_of_pos _ (by decide)) (Int.tmod_lt_of_pos _ (by decide)))
theorem c_294q (a0 a1 a2 : Int) : isT (b4R0 s10 s11 s12 s13 s15 (.int 63 a1) (.int 63 a2) (.bool true) (I 294) H0) = WE a1 a2 := by kernel_rfl
theorem c_294 (a0 a1 a2 : Int) : isT (b4R0 s10 s11 s12 s13 s15 (.int 63 a1) (.int 63 a2) (.bool true) (I 294) H0) = true := (c_294q a0 a1 a2).trans (by
  exact eqv _ _ (Int.lt_tmod_of_pos _ (by decide)) (Int.tmod_lt_of_pos _ (by decide)) (Int.lt_tmod_of_pos _ (by decide)) (Int.tmod_lt_of_pos _ (by decide)))
theorem c_295q (a0 a1 a2 : Int) : isT (b4R0 s10 s11 s12 s13 s15 (.int 63 a1) (.int 63 a2) (.bool true) (I 295) H0) = WE a1 a2 := by kernel_rfl
theorem c_295 (a0 a1 a2 : Int) : isT (b4R0 s10 s11 s12 s13 s15 (.int 63 a1) (.int 63 a2) (.bool true) (I 295) H0) = true := (c_295q a0 a1 a2).trans (by
  exact eqv _ _ (Int.lt_tmod_of_pos _ (by decide)) (Int.tmod_lt_of_pos _ (by decide)) (Int.lt_tmod_of_pos _ (by decide)) (Int.tmod_lt_of_pos _ (by decide)))
theorem c_296q (a0 a1 a2 : Int) : isT (b4R0 s10 s11 s12 s13 s15 (.int 63 a1) (.int 63 a2) (.bool true) (I 296) H0) = WE a1 a2 := by kernel_rfl
theorem c_296 (a0 a1 a2 : Int) : isT (b4R0 s10 s11 s12 s13 s15 (.int 63 a1) (.int 63 a2) (.bool true) (I 296) H0) = true := (c_296q a0 a1 a2).trans (by
  exact eqv _ _ (Int.lt_tmod_of_pos _ (by decide)) (Int.tmod_lt_of_pos _ (by decide)) (Int.lt_tmod_of_pos _ (by decide)) (Int.tmod_lt_of_pos _ (by decide)))
theorem c_297q (a0 a1 a2 : Int) : isT (b4R0 s10 s11 s12 s13 s15 (.int 63 a1) (.int 63 a2) (.bool true) (I 297) H0) = WE a1 a2 := by kernel_rfl
theorem c_297 (a0 a1 a2 : Int) : isT (b4R0 s10 s11 s12 s13 s15 (.int 63 a1) (.int 63 a2) (.bool true) (I 297) H0) = true := (c_297q a0 a1 a2).trans (by
  exact eqv _ _ (Int.lt_tmod_of_pos _ (by decide)) (Int.tmod_lt_of_pos _ (by decide)) (Int.lt_tmod_of_pos _ (by decide)) (Int.tmod_lt_of_pos _ (by decide)))
end Go.Proofs.YtdjgkjjgcbgniaaGreatDoor.LTopWide
