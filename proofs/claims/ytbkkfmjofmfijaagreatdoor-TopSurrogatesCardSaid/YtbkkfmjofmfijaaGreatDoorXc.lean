/-
  The law of pairs of chars: what the kernel reckons for rounds of the loop that puts the class together.
-/
import Derived.Test.YtbkkfmjofmfijaaGreatDoorX0
import Derived.KernelRfl
set_option linter.unusedVariables false
set_option linter.unusedSimpArgs false
namespace Go.Proofs.YtbkkfmjofmfijaaGreatDoor
open Go Go.AM
set_option autoImplicit false
set_option maxRecDepth 100000
theorem fq_1_1_1:FQ 1 1 1:=by intro M x k e y; kernel_rfl
theorem fq_2_2_1:FQ 2 2 1:=by intro M x k e y; kernel_rfl
theorem fq_3_2_0:FQ 3 2 0:=by intro M x k e y; kernel_rfl
theorem fq_3_3_1:FQ 3 3 1:=by intro M x k e y; kernel_rfl
theorem fq_4_1_1:FQ 4 1 1:=by intro M x k e y; kernel_rfl
theorem fq_4_3_0:FQ 4 3 0:=by intro M x k e y; kernel_rfl
theorem fq_4_4_0:FQ 4 4 0:=by intro M x k e y; kernel_rfl
theorem fq_4_4_4:FQ 4 4 4:=by intro M x k e y; kernel_rfl
theorem fq_5_2_1:FQ 5 2 1:=by intro M x k e y; kernel_rfl
theorem fq_5_3_2:FQ 5 3 2:=by intro M x k e y; kernel_rfl
theorem fq_5_4_2:FQ 5 4 2:=by intro M x k e y; kernel_rfl
theorem fq_5_5_1:FQ 5 5 1:=by intro M x k e y; kernel_rfl
theorem fq_5_5_5:FQ 5 5 5:=by intro M x k e y; kernel_rfl
theorem fq_6_2_1:FQ 6 2 1:=by intro M x k e y; kernel_rfl
theorem fq_6_3_2:FQ 6 3 2:=by intro M x k e y; kernel_rfl
theorem fq_6_4_2:FQ 6 4 2:=by intro M x k e y; kernel_rfl
theorem fq_6_5_1:FQ 6 5 1:=by intro M x k e y; kernel_rfl
theorem fq_6_5_5:FQ 6 5 5:=by intro M x k e y; kernel_rfl
theorem fq_6_6_3:FQ 6 6 3:=by intro M x k e y; kernel_rfl
theorem fq_7_1_0:FQ 7 1 0:=by intro M x k e y; kernel_rfl
theorem fq_7_2_2:FQ 7 2 2:=by intro M x k e y; kernel_rfl
theorem fq_7_3_3:FQ 7 3 3:=by intro M x k e y; kernel_rfl
theorem fq_7_4_3:FQ 7 4 3:=by intro M x k e y; kernel_rfl
theorem fq_7_5_2:FQ 7 5 2:=by intro M x k e y; kernel_rfl
theorem fq_7_6_0:FQ 7 6 0:=by intro M x k e y; kernel_rfl
theorem fq_7_6_4:FQ 7 6 4:=by intro M x k e y; kernel_rfl
theorem fq_7_7_1:FQ 7 7 1:=by intro M x k e y; kernel_rfl
theorem fq_7_7_5:FQ 7 7 5:=by intro M x k e y; kernel_rfl
theorem fq_8_1_1:FQ 8 1 1:=by intro M x k e y; kernel_rfl
theorem fq_8_3_0:FQ 8 3 0:=by intro M x k e y; kernel_rfl
theorem fq_8_4_0:FQ 8 4 0:=by intro M x k e y; kernel_rfl
theorem fq_8_4_4:FQ 8 4 4:=by intro M x k e y; kernel_rfl
theorem fq_8_5_3:FQ 8 5 3:=by intro M x k e y; kernel_rfl
theorem fq_8_6_1:FQ 8 6 1:=by intro M x k e y; kernel_rfl
theorem fq_8_6_5:FQ 8 6 5:=by intro M x k e y; kernel_rfl
theorem fq_8_7_2:FQ 8 7 2:=by intro M x k e y; kernel_rfl
theorem fq_8_7_6:FQ 8 7 6:=by intro M x k e y; kernel_rfl
theorem fq_8_8_2:FQ 8 8 2:=by intro M x k e y; kernel_rfl
theorem fq_8_8_6:FQ 8 8 6:=by intro M x k e y; kernel_rfl
theorem fq_9_1_1:FQ 9 1 1:=by intro M x k e y; kernel_rfl
theorem fq_9_3_0:FQ 9 3 0:=by intro M x k e y; kernel_rfl
theorem fq_9_4_0:FQ 9 4 0:=by intro M x k e y; kernel_rfl
theorem fq_9_4_4:FQ 9 4 4:=by intro M x k e y; kernel_rfl
theorem fq_9_5_3:FQ 9 5 3:=by intro M x k e y; kernel_rfl
theorem fq_9_6_1:FQ 9 6 1:=by intro M x k e y; kernel_rfl
theorem fq_9_6_5:FQ 9 6 5:=by intro M x k e y; kernel_rfl
theorem fq_9_7_2:FQ 9 7 2:=by intro M x k e y; kernel_rfl
theorem fq_9_7_6:FQ 9 7 6:=by intro M x k e y; kernel_rfl
theorem fq_9_8_2:FQ 9 8 2:=by intro M x k e y; kernel_rfl
theorem fq_9_8_6:FQ 9 8 6:=by intro M x k e y; kernel_rfl
theorem fq_9_9_1:FQ 9 9 1:=by intro M x k e y; kernel_rfl
theorem fq_9_9_5:FQ 9 9 5:=by intro M x k e y; kernel_rfl
theorem fq_9_9_9:FQ 9 9 9:=by intro M x k e y; kernel_rfl
theorem fq_10_2_1:FQ 10 2 1:=by intro M x k e y; kernel_rfl
theorem fq_10_3_2:FQ 10 3 2:=by intro M x k e y; kernel_rfl
theorem fq_10_4_2:FQ 10 4 2:=by intro M x k e y; kernel_rfl
theorem fq_10_5_1:FQ 10 5 1:=by intro M x k e y; kernel_rfl
theorem fq_10_5_5:FQ 10 5 5:=by intro M x k e y; kernel_rfl
theorem fq_10_6_3:FQ 10 6 3:=by intro M x k e y; kernel_rfl
theorem fq_10_7_0:FQ 10 7 0:=by intro M x k e y; kernel_rfl
theorem fq_10_7_4:FQ 10 7 4:=by intro M x k e y; kernel_rfl
theorem fq_10_8_0:FQ 10 8 0:=by intro M x k e y; kernel_rfl
theorem fq_10_8_4:FQ 10 8 4:=by intro M x k e y; kernel_rfl
theorem fq_10_8_8:FQ 10 8 8:=by intro M x k e y; kernel_rfl
theorem fq_10_9_3:FQ 10 9 3:=by intro M x k e y; kernel_rfl
theorem fq_10_9_7:FQ 10 9 7:=by intro M x k e y; kernel_rfl
theorem fq_10_10_1:FQ 10 10 1:=by intro M x k e y; kernel_rfl
theorem fq_10_10_5:FQ 10 10 5:=by intro M x k e y; kernel_rfl
theorem fq_10_10_9:FQ 10 10 9:=by intro M x k e y; kernel_rfl
theorem fq_11_2_0:FQ 11 2 0:=by intro M x k e y; kernel_rfl
theorem fq_11_3_1:FQ 11 3 1:=by intro M x k e y; kernel_rfl
theorem fq_11_4_1:FQ 11 4 1:=by intro M x k e y; kernel_rfl
theorem fq_11_5_0:FQ 11 5 0:=by intro M x k e y; kernel_rfl
theorem fq_11_5_4:FQ 11 5 4:=by intro M x k e y; kernel_rfl
theorem fq_11_6_2:FQ 11 6 2:=by intro M x k e y; kernel_rfl
theorem fq_11_6_6:FQ 11 6 6:=by intro M x k e y; kernel_rfl
theorem fq_11_7_3:FQ 11 7 3:=by intro M x k e y; kernel_rfl
theorem fq_11_7_7:FQ 11 7 7:=by intro M x k e y; kernel_rfl
theorem fq_11_8_3:FQ 11 8 3:=by intro M x k e y; kernel_rfl
theorem fq_11_8_7:FQ 11 8 7:=by intro M x k e y; kernel_rfl
theorem fq_11_9_2:FQ 11 9 2:=by intro M x k e y; kernel_rfl
theorem fq_11_9_6:FQ 11 9 6:=by intro M x k e y; kernel_rfl
theorem fq_11_10_0:FQ 11 10 0:=by intro M x k e y; kernel_rfl
theorem fq_11_10_4:FQ 11 10 4:=by intro M x k e y; kernel_rfl
theorem fq_11_10_8:FQ 11 10 8:=by intro M x k e y; kernel_rfl
theorem fq_11_11_1:FQ 11 11 1:=by intro M x k e y; kernel_rfl
theorem fq_11_11_5:FQ 11 11 5:=by intro M x k e y; kernel_rfl
theorem fq_11_11_9:FQ 11 11 9:=by intro M x k e y; kernel_rfl
end Go.Proofs.YtbkkfmjofmfijaaGreatDoor
