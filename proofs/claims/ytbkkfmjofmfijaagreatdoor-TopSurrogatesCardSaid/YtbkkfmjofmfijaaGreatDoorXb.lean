/-
  The law of pairs of chars: what the kernel reckons for rounds of the loop that puts the class together.
-/
import Derived.Test.YtbkkfmjofmfijaaGreatDoorX0
import Derived.KernelRfl
set_option linter.unusedVariables false
set_option linter.unusedSimpArgs false
namespace Go.Proofs.YtbkkfmjofmfijaaGreatDoor
open Go Go.AM
set_option autoImplicit false
set_option maxRecDepth 100000
theorem fq_1_1_0:FQ 1 1 0:=by intro M x k e y; kernel_rfl
theorem fq_2_2_0:FQ 2 2 0:=by intro M x k e y; kernel_rfl
theorem fq_3_1_1:FQ 3 1 1:=by intro M x k e y; kernel_rfl
theorem fq_3_3_0:FQ 3 3 0:=by intro M x k e y; kernel_rfl
theorem fq_4_1_0:FQ 4 1 0:=by intro M x k e y; kernel_rfl
theorem fq_4_2_2:FQ 4 2 2:=by intro M x k e y; kernel_rfl
theorem fq_4_3_3:FQ 4 3 3:=by intro M x k e y; kernel_rfl
theorem fq_4_4_3:FQ 4 4 3:=by intro M x k e y; kernel_rfl
theorem fq_5_2_0:FQ 5 2 0:=by intro M x k e y; kernel_rfl
theorem fq_5_3_1:FQ 5 3 1:=by intro M x k e y; kernel_rfl
theorem fq_5_4_1:FQ 5 4 1:=by intro M x k e y; kernel_rfl
theorem fq_5_5_0:FQ 5 5 0:=by intro M x k e y; kernel_rfl
theorem fq_5_5_4:FQ 5 5 4:=by intro M x k e y; kernel_rfl
theorem fq_6_2_0:FQ 6 2 0:=by intro M x k e y; kernel_rfl
theorem fq_6_3_1:FQ 6 3 1:=by intro M x k e y; kernel_rfl
theorem fq_6_4_1:FQ 6 4 1:=by intro M x k e y; kernel_rfl
theorem fq_6_5_0:FQ 6 5 0:=by intro M x k e y; kernel_rfl
theorem fq_6_5_4:FQ 6 5 4:=by intro M x k e y; kernel_rfl
theorem fq_6_6_2:FQ 6 6 2:=by intro M x k e y; kernel_rfl
theorem fq_6_6_6:FQ 6 6 6:=by intro M x k e y; kernel_rfl
theorem fq_7_2_1:FQ 7 2 1:=by intro M x k e y; kernel_rfl
theorem fq_7_3_2:FQ 7 3 2:=by intro M x k e y; kernel_rfl
theorem fq_7_4_2:FQ 7 4 2:=by intro M x k e y; kernel_rfl
theorem fq_7_5_1:FQ 7 5 1:=by intro M x k e y; kernel_rfl
theorem fq_7_5_5:FQ 7 5 5:=by intro M x k e y; kernel_rfl
theorem fq_7_6_3:FQ 7 6 3:=by intro M x k e y; kernel_rfl
theorem fq_7_7_0:FQ 7 7 0:=by intro M x k e y; kernel_rfl
theorem fq_7_7_4:FQ 7 7 4:=by intro M x k e y; kernel_rfl
theorem fq_8_1_0:FQ 8 1 0:=by intro M x k e y; kernel_rfl
theorem fq_8_2_2:FQ 8 2 2:=by intro M x k e y; kernel_rfl
theorem fq_8_3_3:FQ 8 3 3:=by intro M x k e y; kernel_rfl
theorem fq_8_4_3:FQ 8 4 3:=by intro M x k e y; kernel_rfl
theorem fq_8_5_2:FQ 8 5 2:=by intro M x k e y; kernel_rfl
theorem fq_8_6_0:FQ 8 6 0:=by intro M x k e y; kernel_rfl
theorem fq_8_6_4:FQ 8 6 4:=by intro M x k e y; kernel_rfl
theorem fq_8_7_1:FQ 8 7 1:=by intro M x k e y; kernel_rfl
theorem fq_8_7_5:FQ 8 7 5:=by intro M x k e y; kernel_rfl
theorem fq_8_8_1:FQ 8 8 1:=by intro M x k e y; kernel_rfl
theorem fq_8_8_5:FQ 8 8 5:=by intro M x k e y; kernel_rfl
theorem fq_9_1_0:FQ 9 1 0:=by intro M x k e y; kernel_rfl
theorem fq_9_2_2:FQ 9 2 2:=by intro M x k e y; kernel_rfl
theorem fq_9_3_3:FQ 9 3 3:=by intro M x k e y; kernel_rfl
theorem fq_9_4_3:FQ 9 4 3:=by intro M x k e y; kernel_rfl
theorem fq_9_5_2:FQ 9 5 2:=by intro M x k e y; kernel_rfl
theorem fq_9_6_0:FQ 9 6 0:=by intro M x k e y; kernel_rfl
theorem fq_9_6_4:FQ 9 6 4:=by intro M x k e y; kernel_rfl
theorem fq_9_7_1:FQ 9 7 1:=by intro M x k e y; kernel_rfl
theorem fq_9_7_5:FQ 9 7 5:=by intro M x k e y; kernel_rfl
theorem fq_9_8_1:FQ 9 8 1:=by intro M x k e y; kernel_rfl
theorem fq_9_8_5:FQ 9 8 5:=by intro M x k e y; kernel_rfl
theorem fq_9_9_0:FQ 9 9 0:=by intro M x k e y; kernel_rfl
theorem fq_9_9_4:FQ 9 9 4:=by intro M x k e y; kernel_rfl
theorem fq_9_9_8:FQ 9 9 8:=by intro M x k e y; kernel_rfl
theorem fq_10_2_0:FQ 10 2 0:=by intro M x k e y; kernel_rfl
theorem fq_10_3_1:FQ 10 3 1:=by intro M x k e y; kernel_rfl
theorem fq_10_4_1:FQ 10 4 1:=by intro M x k e y; kernel_rfl
theorem fq_10_5_0:FQ 10 5 0:=by intro M x k e y; kernel_rfl
theorem fq_10_5_4:FQ 10 5 4:=by intro M x k e y; kernel_rfl
theorem fq_10_6_2:FQ 10 6 2:=by intro M x k e y; kernel_rfl
theorem fq_10_6_6:FQ 10 6 6:=by intro M x k e y; kernel_rfl
theorem fq_10_7_3:FQ 10 7 3:=by intro M x k e y; kernel_rfl
theorem fq_10_7_7:FQ 10 7 7:=by intro M x k e y; kernel_rfl
theorem fq_10_8_3:FQ 10 8 3:=by intro M x k e y; kernel_rfl
theorem fq_10_8_7:FQ 10 8 7:=by intro M x k e y; kernel_rfl
theorem fq_10_9_2:FQ 10 9 2:=by intro M x k e y; kernel_rfl
theorem fq_10_9_6:FQ 10 9 6:=by intro M x k e y; kernel_rfl
theorem fq_10_10_0:FQ 10 10 0:=by intro M x k e y; kernel_rfl
theorem fq_10_10_4:FQ 10 10 4:=by intro M x k e y; kernel_rfl
theorem fq_10_10_8:FQ 10 10 8:=by intro M x k e y; kernel_rfl
theorem fq_11_1_1:FQ 11 1 1:=by intro M x k e y; kernel_rfl
theorem fq_11_3_0:FQ 11 3 0:=by intro M x k e y; kernel_rfl
theorem fq_11_4_0:FQ 11 4 0:=by intro M x k e y; kernel_rfl
theorem fq_11_4_4:FQ 11 4 4:=by intro M x k e y; kernel_rfl
theorem fq_11_5_3:FQ 11 5 3:=by intro M x k e y; kernel_rfl
theorem fq_11_6_1:FQ 11 6 1:=by intro M x k e y; kernel_rfl
theorem fq_11_6_5:FQ 11 6 5:=by intro M x k e y; kernel_rfl
theorem fq_11_7_2:FQ 11 7 2:=by intro M x k e y; kernel_rfl
theorem fq_11_7_6:FQ 11 7 6:=by intro M x k e y; kernel_rfl
theorem fq_11_8_2:FQ 11 8 2:=by intro M x k e y; kernel_rfl
theorem fq_11_8_6:FQ 11 8 6:=by intro M x k e y; kernel_rfl
theorem fq_11_9_1:FQ 11 9 1:=by intro M x k e y; kernel_rfl
theorem fq_11_9_5:FQ 11 9 5:=by intro M x k e y; kernel_rfl
theorem fq_11_9_9:FQ 11 9 9:=by intro M x k e y; kernel_rfl
theorem fq_11_10_3:FQ 11 10 3:=by intro M x k e y; kernel_rfl
theorem fq_11_10_7:FQ 11 10 7:=by intro M x k e y; kernel_rfl
theorem fq_11_11_0:FQ 11 11 0:=by intro M x k e y; kernel_rfl
theorem fq_11_11_4:FQ 11 11 4:=by intro M x k e y; kernel_rfl
theorem fq_11_11_8:FQ 11 11 8:=by intro M x k e y; kernel_rfl
end Go.Proofs.YtbkkfmjofmfijaaGreatDoor
