/-
  The law of pairs of chars: what the kernel reckons for rounds of the loop that puts the class together.
-/
import Derived.Test.YtbkkfmjofmfijaaGreatDoorX0
import Derived.KernelRfl
set_option linter.unusedVariables false
set_option linter.unusedSimpArgs false
namespace Go.Proofs.YtbkkfmjofmfijaaGreatDoor
open Go Go.AM
set_option autoImplicit false
set_option maxRecDepth 100000
theorem fq_2_1_0:FQ 2 1 0:=by intro M x k e y; kernel_rfl
theorem fq_2_2_2:FQ 2 2 2:=by intro M x k e y; kernel_rfl
theorem fq_3_2_1:FQ 3 2 1:=by intro M x k e y; kernel_rfl
theorem fq_3_3_2:FQ 3 3 2:=by intro M x k e y; kernel_rfl
theorem fq_4_2_0:FQ 4 2 0:=by intro M x k e y; kernel_rfl
theorem fq_4_3_1:FQ 4 3 1:=by intro M x k e y; kernel_rfl
theorem fq_4_4_1:FQ 4 4 1:=by intro M x k e y; kernel_rfl
theorem fq_5_1_0:FQ 5 1 0:=by intro M x k e y; kernel_rfl
theorem fq_5_2_2:FQ 5 2 2:=by intro M x k e y; kernel_rfl
theorem fq_5_3_3:FQ 5 3 3:=by intro M x k e y; kernel_rfl
theorem fq_5_4_3:FQ 5 4 3:=by intro M x k e y; kernel_rfl
theorem fq_5_5_2:FQ 5 5 2:=by intro M x k e y; kernel_rfl
theorem fq_6_1_0:FQ 6 1 0:=by intro M x k e y; kernel_rfl
theorem fq_6_2_2:FQ 6 2 2:=by intro M x k e y; kernel_rfl
theorem fq_6_3_3:FQ 6 3 3:=by intro M x k e y; kernel_rfl
theorem fq_6_4_3:FQ 6 4 3:=by intro M x k e y; kernel_rfl
theorem fq_6_5_2:FQ 6 5 2:=by intro M x k e y; kernel_rfl
theorem fq_6_6_0:FQ 6 6 0:=by intro M x k e y; kernel_rfl
theorem fq_6_6_4:FQ 6 6 4:=by intro M x k e y; kernel_rfl
theorem fq_7_1_1:FQ 7 1 1:=by intro M x k e y; kernel_rfl
theorem fq_7_3_0:FQ 7 3 0:=by intro M x k e y; kernel_rfl
theorem fq_7_4_0:FQ 7 4 0:=by intro M x k e y; kernel_rfl
theorem fq_7_4_4:FQ 7 4 4:=by intro M x k e y; kernel_rfl
theorem fq_7_5_3:FQ 7 5 3:=by intro M x k e y; kernel_rfl
theorem fq_7_6_1:FQ 7 6 1:=by intro M x k e y; kernel_rfl
theorem fq_7_6_5:FQ 7 6 5:=by intro M x k e y; kernel_rfl
theorem fq_7_7_2:FQ 7 7 2:=by intro M x k e y; kernel_rfl
theorem fq_7_7_6:FQ 7 7 6:=by intro M x k e y; kernel_rfl
theorem fq_8_2_0:FQ 8 2 0:=by intro M x k e y; kernel_rfl
theorem fq_8_3_1:FQ 8 3 1:=by intro M x k e y; kernel_rfl
theorem fq_8_4_1:FQ 8 4 1:=by intro M x k e y; kernel_rfl
theorem fq_8_5_0:FQ 8 5 0:=by intro M x k e y; kernel_rfl
theorem fq_8_5_4:FQ 8 5 4:=by intro M x k e y; kernel_rfl
theorem fq_8_6_2:FQ 8 6 2:=by intro M x k e y; kernel_rfl
theorem fq_8_6_6:FQ 8 6 6:=by intro M x k e y; kernel_rfl
theorem fq_8_7_3:FQ 8 7 3:=by intro M x k e y; kernel_rfl
theorem fq_8_7_7:FQ 8 7 7:=by intro M x k e y; kernel_rfl
theorem fq_8_8_3:FQ 8 8 3:=by intro M x k e y; kernel_rfl
theorem fq_8_8_7:FQ 8 8 7:=by intro M x k e y; kernel_rfl
theorem fq_9_2_0:FQ 9 2 0:=by intro M x k e y; kernel_rfl
theorem fq_9_3_1:FQ 9 3 1:=by intro M x k e y; kernel_rfl
theorem fq_9_4_1:FQ 9 4 1:=by intro M x k e y; kernel_rfl
theorem fq_9_5_0:FQ 9 5 0:=by intro M x k e y; kernel_rfl
theorem fq_9_5_4:FQ 9 5 4:=by intro M x k e y; kernel_rfl
theorem fq_9_6_2:FQ 9 6 2:=by intro M x k e y; kernel_rfl
theorem fq_9_6_6:FQ 9 6 6:=by intro M x k e y; kernel_rfl
theorem fq_9_7_3:FQ 9 7 3:=by intro M x k e y; kernel_rfl
theorem fq_9_7_7:FQ 9 7 7:=by intro M x k e y; kernel_rfl
theorem fq_9_8_3:FQ 9 8 3:=by intro M x k e y; kernel_rfl
theorem fq_9_8_7:FQ 9 8 7:=by intro M x k e y; kernel_rfl
theorem fq_9_9_2:FQ 9 9 2:=by intro M x k e y; kernel_rfl
theorem fq_9_9_6:FQ 9 9 6:=by intro M x k e y; kernel_rfl
theorem fq_10_1_0:FQ 10 1 0:=by intro M x k e y; kernel_rfl
theorem fq_10_2_2:FQ 10 2 2:=by intro M x k e y; kernel_rfl
theorem fq_10_3_3:FQ 10 3 3:=by intro M x k e y; kernel_rfl
theorem fq_10_4_3:FQ 10 4 3:=by intro M x k e y; kernel_rfl
theorem fq_10_5_2:FQ 10 5 2:=by intro M x k e y; kernel_rfl
theorem fq_10_6_0:FQ 10 6 0:=by intro M x k e y; kernel_rfl
theorem fq_10_6_4:FQ 10 6 4:=by intro M x k e y; kernel_rfl
theorem fq_10_7_1:FQ 10 7 1:=by intro M x k e y; kernel_rfl
theorem fq_10_7_5:FQ 10 7 5:=by intro M x k e y; kernel_rfl
theorem fq_10_8_1:FQ 10 8 1:=by intro M x k e y; kernel_rfl
theorem fq_10_8_5:FQ 10 8 5:=by intro M x k e y; kernel_rfl
theorem fq_10_9_0:FQ 10 9 0:=by intro M x k e y; kernel_rfl
theorem fq_10_9_4:FQ 10 9 4:=by intro M x k e y; kernel_rfl
theorem fq_10_9_8:FQ 10 9 8:=by intro M x k e y; kernel_rfl
theorem fq_10_10_2:FQ 10 10 2:=by intro M x k e y; kernel_rfl
theorem fq_10_10_6:FQ 10 10 6:=by intro M x k e y; kernel_rfl
theorem fq_10_10_10:FQ 10 10 10:=by intro M x k e y; kernel_rfl
theorem fq_11_2_1:FQ 11 2 1:=by intro M x k e y; kernel_rfl
theorem fq_11_3_2:FQ 11 3 2:=by intro M x k e y; kernel_rfl
theorem fq_11_4_2:FQ 11 4 2:=by intro M x k e y; kernel_rfl
theorem fq_11_5_1:FQ 11 5 1:=by intro M x k e y; kernel_rfl
theorem fq_11_5_5:FQ 11 5 5:=by intro M x k e y; kernel_rfl
theorem fq_11_6_3:FQ 11 6 3:=by intro M x k e y; kernel_rfl
theorem fq_11_7_0:FQ 11 7 0:=by intro M x k e y; kernel_rfl
theorem fq_11_7_4:FQ 11 7 4:=by intro M x k e y; kernel_rfl
theorem fq_11_8_0:FQ 11 8 0:=by intro M x k e y; kernel_rfl
theorem fq_11_8_4:FQ 11 8 4:=by intro M x k e y; kernel_rfl
theorem fq_11_8_8:FQ 11 8 8:=by intro M x k e y; kernel_rfl
theorem fq_11_9_3:FQ 11 9 3:=by intro M x k e y; kernel_rfl
theorem fq_11_9_7:FQ 11 9 7:=by intro M x k e y; kernel_rfl
theorem fq_11_10_1:FQ 11 10 1:=by intro M x k e y; kernel_rfl
theorem fq_11_10_5:FQ 11 10 5:=by intro M x k e y; kernel_rfl
theorem fq_11_10_9:FQ 11 10 9:=by intro M x k e y; kernel_rfl
theorem fq_11_11_2:FQ 11 11 2:=by intro M x k e y; kernel_rfl
theorem fq_11_11_6:FQ 11 11 6:=by intro M x k e y; kernel_rfl
theorem fq_11_11_10:FQ 11 11 10:=by intro M x k e y; kernel_rfl
end Go.Proofs.YtbkkfmjofmfijaaGreatDoor
