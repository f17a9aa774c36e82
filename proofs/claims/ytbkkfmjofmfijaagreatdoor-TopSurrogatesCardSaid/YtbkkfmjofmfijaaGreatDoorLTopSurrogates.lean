/-
  The law TopSurrogates holds of the program: whatever the input, it returns true, and the input reads as before. No condition; the card ties the two tables that the row lists to the program's text.
-/
import Derived.Test.YtbkkfmjofmfijaaGreatDoorXa
import Derived.Test.YtbkkfmjofmfijaaGreatDoorXb
import Derived.Test.YtbkkfmjofmfijaaGreatDoorXc
import Derived.Test.YtbkkfmjofmfijaaGreatDoorXd
import Derived.Test.YtbkkfmjofmfijaaGreatDoorYa
import Derived.Test.YtbkkfmjofmfijaaGreatDoorYb
import Derived.Test.YtbkkfmjofmfijaaGreatDoorYc
import Derived.Test.YtbkkfmjofmfijaaGreatDoorYd
import Derived.Test.YtbkkfmjofmfijaaGreatDoorYe
import Derived.Test.YtbkkfmjofmfijaaGreatDoorYf
import Derived.Test.YtbkkfmjofmfijaaGreatDoorYg
import Derived.Test.YtbkkfmjofmfijaaGreatDoorYh
import Derived.Test.YtbkkfmjofmfijaaGreatDoorYi
import Derived.Test.YtbkkfmjofmfijaaGreatDoorYj
import Derived.Test.YtbkkfmjofmfijaaGreatDoorYk
import Derived.Test.YtbkkfmjofmfijaaGreatDoorYl
import Derived.Test.YtbkkfmjofmfijaaGreatDoorYm
import Derived.Test.YtbkkfmjofmfijaaGreatDoorWt
import Derived.Test.YtbkkfmjofmfijaaGreatDoorX0
import Derived.Test.YtbkkfmjofmfijaaGreatDoorK5
set_option linter.unusedVariables false
set_option linter.unusedSimpArgs false
namespace Go.Proofs.YtbkkfmjofmfijaaGreatDoor.LTopSurrogates
open Go.ChangeShapes Go.WideShapes Go.ChangeAt Go.RowKit Go.AM
set_option linter.unusedVariables false

set_option maxRecDepth 100000
theorem fqs_0_0:∀ p,p≤0→FQ 0 0 p
  | 0,_=>fq_0_0_0
  | p + 1,h=>absurd h (by omega)
theorem fqs_1_1:∀ p,p≤1→FQ 1 1 p
  | 0,_=>fq_1_1_0
  | 1,_=>fq_1_1_1
  | p + 2,h=>absurd h (by omega)
theorem fqt_1:∀ d p,0 < d→d≤1→p≤d→FQ 1 d p
  | 0,_,h,_,_=>absurd h (by omega)
  | 1,p,_,_,h=>fqs_1_1 p h
  | d + 2,_,_,h,_=>absurd h (by omega)
theorem fqs_2_1:∀ p,p≤1→FQ 2 1 p
  | 0,_=>fq_2_1_0
  | 1,_=>fq_2_1_1
  | p + 2,h=>absurd h (by omega)
theorem fqs_2_2:∀ p,p≤2→FQ 2 2 p
  | 0,_=>fq_2_2_0
  | 1,_=>fq_2_2_1
  | 2,_=>fq_2_2_2
  | p + 3,h=>absurd h (by omega)
theorem fqt_2:∀ d p,0 < d→d≤2→p≤d→FQ 2 d p
  | 0,_,h,_,_=>absurd h (by omega)
  | 1,p,_,_,h=>fqs_2_1 p h
  | 2,p,_,_,h=>fqs_2_2 p h
  | d + 3,_,_,h,_=>absurd h (by omega)
theorem fqs_3_1:∀ p,p≤1→FQ 3 1 p
  | 0,_=>fq_3_1_0
  | 1,_=>fq_3_1_1
  | p + 2,h=>absurd h (by omega)
theorem fqs_3_2:∀ p,p≤2→FQ 3 2 p
  | 0,_=>fq_3_2_0
  | 1,_=>fq_3_2_1
  | 2,_=>fq_3_2_2
  | p + 3,h=>absurd h (by omega)
theorem fqs_3_3:∀ p,p≤3→FQ 3 3 p
  | 0,_=>fq_3_3_0
  | 1,_=>fq_3_3_1
  | 2,_=>fq_3_3_2
  | 3,_=>fq_3_3_3
  | p + 4,h=>absurd h (by omega)
theorem fqt_3:∀ d p,0 < d→d≤3→p≤d→FQ 3 d p
  | 0,_,h,_,_=>absurd h (by omega)
  | 1,p,_,_,h=>fqs_3_1 p h
  | 2,p,_,_,h=>fqs_3_2 p h
  | 3,p,_,_,h=>fqs_3_3 p h
  | d + 4,_,_,h,_=>absurd h (by omega)
theorem fqs_4_1:∀ p,p≤1→FQ 4 1 p
  | 0,_=>fq_4_1_0
  | 1,_=>fq_4_1_1
  | p + 2,h=>absurd h (by omega)
theorem fqs_4_2:∀ p,p≤2→FQ 4 2 p
  | 0,_=>fq_4_2_0
  | 1,_=>fq_4_2_1
  | 2,_=>fq_4_2_2
  | p + 3,h=>absurd h (by omega)
theorem fqs_4_3:∀ p,p≤3→FQ 4 3 p
  | 0,_=>fq_4_3_0
  | 1,_=>fq_4_3_1
  | 2,_=>fq_4_3_2
  | 3,_=>fq_4_3_3
  | p + 4,h=>absurd h (by omega)
theorem fqs_4_4:∀ p,p≤4→FQ 4 4 p
  | 0,_=>fq_4_4_0
  | 1,_=>fq_4_4_1
  | 2,_=>fq_4_4_2
  | 3,_=>fq_4_4_3
  | 4,_=>fq_4_4_4
  | p + 5,h=>absurd h (by omega)
theorem fqt_4:∀ d p,0 < d→d≤4→p≤d→FQ 4 d p
  | 0,_,h,_,_=>absurd h (by omega)
  | 1,p,_,_,h=>fqs_4_1 p h
  | 2,p,_,_,h=>fqs_4_2 p h
  | 3,p,_,_,h=>fqs_4_3 p h
  | 4,p,_,_,h=>fqs_4_4 p h
  | d + 5,_,_,h,_=>absurd h (by omega)
theorem fqs_5_1:∀ p,p≤1→FQ 5 1 p
  | 0,_=>fq_5_1_0
  | 1,_=>fq_5_1_1
  | p + 2,h=>absurd h (by omega)
theorem fqs_5_2:∀ p,p≤2→FQ 5 2 p
  | 0,_=>fq_5_2_0
  | 1,_=>fq_5_2_1
  | 2,_=>fq_5_2_2
  | p + 3,h=>absurd h (by omega)
theorem fqs_5_3:∀ p,p≤3→FQ 5 3 p
  | 0,_=>fq_5_3_0
  | 1,_=>fq_5_3_1
  | 2,_=>fq_5_3_2
  | 3,_=>fq_5_3_3
  | p + 4,h=>absurd h (by omega)
theorem fqs_5_4:∀ p,p≤4→FQ 5 4 p
  | 0,_=>fq_5_4_0
  | 1,_=>fq_5_4_1
  | 2,_=>fq_5_4_2
  | 3,_=>fq_5_4_3
  | 4,_=>fq_5_4_4
  | p + 5,h=>absurd h (by omega)
theorem fqs_5_5:∀ p,p≤5→FQ 5 5 p
  | 0,_=>fq_5_5_0
  | 1,_=>fq_5_5_1
  | 2,_=>fq_5_5_2
  | 3,_=>fq_5_5_3
  | 4,_=>fq_5_5_4
  | 5,_=>fq_5_5_5
  | p + 6,h=>absurd h (by omega)
theorem fqt_5:∀ d p,0 < d→d≤5→p≤d→FQ 5 d p
  | 0,_,h,_,_=>absurd h (by omega)
  | 1,p,_,_,h=>fqs_5_1 p h
  | 2,p,_,_,h=>fqs_5_2 p h
  | 3,p,_,_,h=>fqs_5_3 p h
  | 4,p,_,_,h=>fqs_5_4 p h
  | 5,p,_,_,h=>fqs_5_5 p h
  | d + 6,_,_,h,_=>absurd h (by omega)
theorem fqs_6_1:∀ p,p≤1→FQ 6 1 p
  | 0,_=>fq_6_1_0
  | 1,_=>fq_6_1_1
  | p + 2,h=>absurd h (by omega)
theorem fqs_6_2:∀ p,p≤2→FQ 6 2 p
  | 0,_=>fq_6_2_0
  | 1,_=>fq_6_2_1
  | 2,_=>fq_6_2_2
  | p + 3,h=>absurd h (by omega)
theorem fqs_6_3:∀ p,p≤3→FQ 6 3 p
  | 0,_=>fq_6_3_0
  | 1,_=>fq_6_3_1
  | 2,_=>fq_6_3_2
  | 3,_=>fq_6_3_3
  | p + 4,h=>absurd h (by omega)
theorem fqs_6_4:∀ p,p≤4→FQ 6 4 p
  | 0,_=>fq_6_4_0
  | 1,_=>fq_6_4_1
  | 2,_=>fq_6_4_2
  | 3,_=>fq_6_4_3
  | 4,_=>fq_6_4_4
  | p + 5,h=>absurd h (by omega)
theorem fqs_6_5:∀ p,p≤5→FQ 6 5 p
  | 0,_=>fq_6_5_0
  | 1,_=>fq_6_5_1
  | 2,_=>fq_6_5_2
  | 3,_=>fq_6_5_3
  | 4,_=>fq_6_5_4
  | 5,_=>fq_6_5_5
  | p + 6,h=>absurd h (by omega)
theorem fqs_6_6:∀ p,p≤6→FQ 6 6 p
  | 0,_=>fq_6_6_0
  | 1,_=>fq_6_6_1
  | 2,_=>fq_6_6_2
  | 3,_=>fq_6_6_3
  | 4,_=>fq_6_6_4
  | 5,_=>fq_6_6_5
  | 6,_=>fq_6_6_6
  | p + 7,h=>absurd h (by omega)
theorem fqt_6:∀ d p,0 < d→d≤6→p≤d→FQ 6 d p
  | 0,_,h,_,_=>absurd h (by omega)
  | 1,p,_,_,h=>fqs_6_1 p h
  | 2,p,_,_,h=>fqs_6_2 p h
  | 3,p,_,_,h=>fqs_6_3 p h
  | 4,p,_,_,h=>fqs_6_4 p h
  | 5,p,_,_,h=>fqs_6_5 p h
  | 6,p,_,_,h=>fqs_6_6 p h
  | d + 7,_,_,h,_=>absurd h (by omega)
theorem fqs_7_1:∀ p,p≤1→FQ 7 1 p
  | 0,_=>fq_7_1_0
  | 1,_=>fq_7_1_1
  | p + 2,h=>absurd h (by omega)
theorem fqs_7_2:∀ p,p≤2→FQ 7 2 p
  | 0,_=>fq_7_2_0
  | 1,_=>fq_7_2_1
  | 2,_=>fq_7_2_2
  | p + 3,h=>absurd h (by omega)
theorem fqs_7_3:∀ p,p≤3→FQ 7 3 p
  | 0,_=>fq_7_3_0
  | 1,_=>fq_7_3_1
  | 2,_=>fq_7_3_2
  | 3,_=>fq_7_3_3
  | p + 4,h=>absurd h (by omega)
theorem fqs_7_4:∀ p,p≤4→FQ 7 4 p
  | 0,_=>fq_7_4_0
  | 1,_=>fq_7_4_1
  | 2,_=>fq_7_4_2
  | 3,_=>fq_7_4_3
  | 4,_=>fq_7_4_4
  | p + 5,h=>absurd h (by omega)
theorem fqs_7_5:∀ p,p≤5→FQ 7 5 p
  | 0,_=>fq_7_5_0
  | 1,_=>fq_7_5_1
  | 2,_=>fq_7_5_2
  | 3,_=>fq_7_5_3
  | 4,_=>fq_7_5_4
  | 5,_=>fq_7_5_5
  | p + 6,h=>absurd h (by omega)
theorem fqs_7_6:∀ p,p≤6→FQ 7 6 p
  | 0,_=>fq_7_6_0
  | 1,_=>fq_7_6_1
  | 2,_=>fq_7_6_2
  | 3,_=>fq_7_6_3
  | 4,_=>fq_7_6_4
  | 5,_=>fq_7_6_5
  | 6,_=>fq_7_6_6
  | p + 7,h=>absurd h (by omega)
theorem fqs_7_7:∀ p,p≤7→FQ 7 7 p
  | 0,_=>fq_7_7_0
  | 1,_=>fq_7_7_1
  | 2,_=>fq_7_7_2
  | 3,_=>fq_7_7_3
  | 4,_=>fq_7_7_4
  | 5,_=>fq_7_7_5
  | 6,_=>fq_7_7_6
  | 7,_=>fq_7_7_7
  | p + 8,h=>absurd h (by omega)
theorem fqt_7:∀ d p,0 < d→d≤7→p≤d→FQ 7 d p
  | 0,_,h,_,_=>absurd h (by omega)
  | 1,p,_,_,h=>fqs_7_1 p h
  | 2,p,_,_,h=>fqs_7_2 p h
  | 3,p,_,_,h=>fqs_7_3 p h
  | 4,p,_,_,h=>fqs_7_4 p h
  | 5,p,_,_,h=>fqs_7_5 p h
  | 6,p,_,_,h=>fqs_7_6 p h
  | 7,p,_,_,h=>fqs_7_7 p h
  | d + 8,_,_,h,_=>absurd h (by omega)
theorem fqs_8_1:∀ p,p≤1→FQ 8 1 p
  | 0,_=>fq_8_1_0
  | 1,_=>fq_8_1_1
  | p + 2,h=>absurd h (by omega)
theorem fqs_8_2:∀ p,p≤2→FQ 8 2 p
  | 0,_=>fq_8_2_0
  | 1,_=>fq_8_2_1
  | 2,_=>fq_8_2_2
  | p + 3,h=>absurd h (by omega)
theorem fqs_8_3:∀ p,p≤3→FQ 8 3 p
  | 0,_=>fq_8_3_0
  | 1,_=>fq_8_3_1
  | 2,_=>fq_8_3_2
  | 3,_=>fq_8_3_3
  | p + 4,h=>absurd h (by omega)
theorem fqs_8_4:∀ p,p≤4→FQ 8 4 p
  | 0,_=>fq_8_4_0
  | 1,_=>fq_8_4_1
  | 2,_=>fq_8_4_2
  | 3,_=>fq_8_4_3
  | 4,_=>fq_8_4_4
  | p + 5,h=>absurd h (by omega)
theorem fqs_8_5:∀ p,p≤5→FQ 8 5 p
  | 0,_=>fq_8_5_0
  | 1,_=>fq_8_5_1
  | 2,_=>fq_8_5_2
  | 3,_=>fq_8_5_3
  | 4,_=>fq_8_5_4
  | 5,_=>fq_8_5_5
  | p + 6,h=>absurd h (by omega)
theorem fqs_8_6:∀ p,p≤6→FQ 8 6 p
  | 0,_=>fq_8_6_0
  | 1,_=>fq_8_6_1
  | 2,_=>fq_8_6_2
  | 3,_=>fq_8_6_3
  | 4,_=>fq_8_6_4
  | 5,_=>fq_8_6_5
  | 6,_=>fq_8_6_6
  | p + 7,h=>absurd h (by omega)
theorem fqs_8_7:∀ p,p≤7→FQ 8 7 p
  | 0,_=>fq_8_7_0
  | 1,_=>fq_8_7_1
  | 2,_=>fq_8_7_2
  | 3,_=>fq_8_7_3
  | 4,_=>fq_8_7_4
  | 5,_=>fq_8_7_5
  | 6,_=>fq_8_7_6
  | 7,_=>fq_8_7_7
  | p + 8,h=>absurd h (by omega)
theorem fqs_8_8:∀ p,p≤8→FQ 8 8 p
  | 0,_=>fq_8_8_0
  | 1,_=>fq_8_8_1
  | 2,_=>fq_8_8_2
  | 3,_=>fq_8_8_3
  | 4,_=>fq_8_8_4
  | 5,_=>fq_8_8_5
  | 6,_=>fq_8_8_6
  | 7,_=>fq_8_8_7
  | 8,_=>fq_8_8_8
  | p + 9,h=>absurd h (by omega)
theorem fqt_8:∀ d p,0 < d→d≤8→p≤d→FQ 8 d p
  | 0,_,h,_,_=>absurd h (by omega)
  | 1,p,_,_,h=>fqs_8_1 p h
  | 2,p,_,_,h=>fqs_8_2 p h
  | 3,p,_,_,h=>fqs_8_3 p h
  | 4,p,_,_,h=>fqs_8_4 p h
  | 5,p,_,_,h=>fqs_8_5 p h
  | 6,p,_,_,h=>fqs_8_6 p h
  | 7,p,_,_,h=>fqs_8_7 p h
  | 8,p,_,_,h=>fqs_8_8 p h
  | d + 9,_,_,h,_=>absurd h (by omega)
theorem fqs_9_1:∀ p,p≤1→FQ 9 1 p
  | 0,_=>fq_9_1_0
  | 1,_=>fq_9_1_1
  | p + 2,h=>absurd h (by omega)
theorem fqs_9_2:∀ p,p≤2→FQ 9 2 p
  | 0,_=>fq_9_2_0
  | 1,_=>fq_9_2_1
  | 2,_=>fq_9_2_2
  | p + 3,h=>absurd h (by omega)
theorem fqs_9_3:∀ p,p≤3→FQ 9 3 p
  | 0,_=>fq_9_3_0
  | 1,_=>fq_9_3_1
  | 2,_=>fq_9_3_2
  | 3,_=>fq_9_3_3
  | p + 4,h=>absurd h (by omega)
theorem fqs_9_4:∀ p,p≤4→FQ 9 4 p
  | 0,_=>fq_9_4_0
  | 1,_=>fq_9_4_1
  | 2,_=>fq_9_4_2
  | 3,_=>fq_9_4_3
  | 4,_=>fq_9_4_4
  | p + 5,h=>absurd h (by omega)
theorem fqs_9_5:∀ p,p≤5→FQ 9 5 p
  | 0,_=>fq_9_5_0
  | 1,_=>fq_9_5_1
  | 2,_=>fq_9_5_2
  | 3,_=>fq_9_5_3
  | 4,_=>fq_9_5_4
  | 5,_=>fq_9_5_5
  | p + 6,h=>absurd h (by omega)
theorem fqs_9_6:∀ p,p≤6→FQ 9 6 p
  | 0,_=>fq_9_6_0
  | 1,_=>fq_9_6_1
  | 2,_=>fq_9_6_2
  | 3,_=>fq_9_6_3
  | 4,_=>fq_9_6_4
  | 5,_=>fq_9_6_5
  | 6,_=>fq_9_6_6
  | p + 7,h=>absurd h (by omega)
theorem fqs_9_7:∀ p,p≤7→FQ 9 7 p
  | 0,_=>fq_9_7_0
  | 1,_=>fq_9_7_1
  | 2,_=>fq_9_7_2
  | 3,_=>fq_9_7_3
  | 4,_=>fq_9_7_4
  | 5,_=>fq_9_7_5
  | 6,_=>fq_9_7_6
  | 7,_=>fq_9_7_7
  | p + 8,h=>absurd h (by omega)
theorem fqs_9_8:∀ p,p≤8→FQ 9 8 p
  | 0,_=>fq_9_8_0
  | 1,_=>fq_9_8_1
  | 2,_=>fq_9_8_2
  | 3,_=>fq_9_8_3
  | 4,_=>fq_9_8_4
  | 5,_=>fq_9_8_5
  | 6,_=>fq_9_8_6
  | 7,_=>fq_9_8_7
  | 8,_=>fq_9_8_8
  | p + 9,h=>absurd h (by omega)
theorem fqs_9_9:∀ p,p≤9→FQ 9 9 p
  | 0,_=>fq_9_9_0
  | 1,_=>fq_9_9_1
  | 2,_=>fq_9_9_2
  | 3,_=>fq_9_9_3
  | 4,_=>fq_9_9_4
  | 5,_=>fq_9_9_5
  | 6,_=>fq_9_9_6
  | 7,_=>fq_9_9_7
  | 8,_=>fq_9_9_8
  | 9,_=>fq_9_9_9
  | p + 10,h=>absurd h (by omega)
theorem fqt_9:∀ d p,0 < d→d≤9→p≤d→FQ 9 d p
  | 0,_,h,_,_=>absurd h (by omega)
  | 1,p,_,_,h=>fqs_9_1 p h
  | 2,p,_,_,h=>fqs_9_2 p h
  | 3,p,_,_,h=>fqs_9_3 p h
  | 4,p,_,_,h=>fqs_9_4 p h
  | 5,p,_,_,h=>fqs_9_5 p h
  | 6,p,_,_,h=>fqs_9_6 p h
  | 7,p,_,_,h=>fqs_9_7 p h
  | 8,p,_,_,h=>fqs_9_8 p h
  | 9,p,_,_,h=>fqs_9_9 p h
  | d + 10,_,_,h,_=>absurd h (by omega)
theorem fqs_10_1:∀ p,p≤1→FQ 10 1 p
  | 0,_=>fq_10_1_0
  | 1,_=>fq_10_1_1
  | p + 2,h=>absurd h (by omega)
theorem fqs_10_2:∀ p,p≤2→FQ 10 2 p
  | 0,_=>fq_10_2_0
  | 1,_=>fq_10_2_1
  | 2,_=>fq_10_2_2
  | p + 3,h=>absurd h (by omega)
theorem fqs_10_3:∀ p,p≤3→FQ 10 3 p
  | 0,_=>fq_10_3_0
  | 1,_=>fq_10_3_1
  | 2,_=>fq_10_3_2
  | 3,_=>fq_10_3_3
  | p + 4,h=>absurd h (by omega)
theorem fqs_10_4:∀ p,p≤4→FQ 10 4 p
  | 0,_=>fq_10_4_0
  | 1,_=>fq_10_4_1
  | 2,_=>fq_10_4_2
  | 3,_=>fq_10_4_3
  | 4,_=>fq_10_4_4
  | p + 5,h=>absurd h (by omega)
theorem fqs_10_5:∀ p,p≤5→FQ 10 5 p
  | 0,_=>fq_10_5_0
  | 1,_=>fq_10_5_1
  | 2,_=>fq_10_5_2
  | 3,_=>fq_10_5_3
  | 4,_=>fq_10_5_4
  | 5,_=>fq_10_5_5
  | p + 6,h=>absurd h (by omega)
theorem fqs_10_6:∀ p,p≤6→FQ 10 6 p
  | 0,_=>fq_10_6_0
  | 1,_=>fq_10_6_1
  | 2,_=>fq_10_6_2
  | 3,_=>fq_10_6_3
  | 4,_=>fq_10_6_4
  | 5,_=>fq_10_6_5
  | 6,_=>fq_10_6_6
  | p + 7,h=>absurd h (by omega)
theorem fqs_10_7:∀ p,p≤7→FQ 10 7 p
  | 0,_=>fq_10_7_0
  | 1,_=>fq_10_7_1
  | 2,_=>fq_10_7_2
  | 3,_=>fq_10_7_3
  | 4,_=>fq_10_7_4
  | 5,_=>fq_10_7_5
  | 6,_=>fq_10_7_6
  | 7,_=>fq_10_7_7
  | p + 8,h=>absurd h (by omega)
theorem fqs_10_8:∀ p,p≤8→FQ 10 8 p
  | 0,_=>fq_10_8_0
  | 1,_=>fq_10_8_1
  | 2,_=>fq_10_8_2
  | 3,_=>fq_10_8_3
  | 4,_=>fq_10_8_4
  | 5,_=>fq_10_8_5
  | 6,_=>fq_10_8_6
  | 7,_=>fq_10_8_7
  | 8,_=>fq_10_8_8
  | p + 9,h=>absurd h (by omega)
theorem fqs_10_9:∀ p,p≤9→FQ 10 9 p
  | 0,_=>fq_10_9_0
  | 1,_=>fq_10_9_1
  | 2,_=>fq_10_9_2
  | 3,_=>fq_10_9_3
  | 4,_=>fq_10_9_4
  | 5,_=>fq_10_9_5
  | 6,_=>fq_10_9_6
  | 7,_=>fq_10_9_7
  | 8,_=>fq_10_9_8
  | 9,_=>fq_10_9_9
  | p + 10,h=>absurd h (by omega)
theorem fqs_10_10:∀ p,p≤10→FQ 10 10 p
  | 0,_=>fq_10_10_0
  | 1,_=>fq_10_10_1
  | 2,_=>fq_10_10_2
  | 3,_=>fq_10_10_3
  | 4,_=>fq_10_10_4
  | 5,_=>fq_10_10_5
  | 6,_=>fq_10_10_6
  | 7,_=>fq_10_10_7
  | 8,_=>fq_10_10_8
  | 9,_=>fq_10_10_9
  | 10,_=>fq_10_10_10
  | p + 11,h=>absurd h (by omega)
theorem fqt_10:∀ d p,0 < d→d≤10→p≤d→FQ 10 d p
  | 0,_,h,_,_=>absurd h (by omega)
  | 1,p,_,_,h=>fqs_10_1 p h
  | 2,p,_,_,h=>fqs_10_2 p h
  | 3,p,_,_,h=>fqs_10_3 p h
  | 4,p,_,_,h=>fqs_10_4 p h
  | 5,p,_,_,h=>fqs_10_5 p h
  | 6,p,_,_,h=>fqs_10_6 p h
  | 7,p,_,_,h=>fqs_10_7 p h
  | 8,p,_,_,h=>fqs_10_8 p h
  | 9,p,_,_,h=>fqs_10_9 p h
  | 10,p,_,_,h=>fqs_10_10 p h
  | d + 11,_,_,h,_=>absurd h (by omega)
theorem fqs_11_1:∀ p,p≤1→FQ 11 1 p
  | 0,_=>fq_11_1_0
  | 1,_=>fq_11_1_1
  | p + 2,h=>absurd h (by omega)
theorem fqs_11_2:∀ p,p≤2→FQ 11 2 p
  | 0,_=>fq_11_2_0
  | 1,_=>fq_11_2_1
  | 2,_=>fq_11_2_2
  | p + 3,h=>absurd h (by omega)
theorem fqs_11_3:∀ p,p≤3→FQ 11 3 p
  | 0,_=>fq_11_3_0
  | 1,_=>fq_11_3_1
  | 2,_=>fq_11_3_2
  | 3,_=>fq_11_3_3
  | p + 4,h=>absurd h (by omega)
theorem fqs_11_4:∀ p,p≤4→FQ 11 4 p
  | 0,_=>fq_11_4_0
  | 1,_=>fq_11_4_1
  | 2,_=>fq_11_4_2
  | 3,_=>fq_11_4_3
  | 4,_=>fq_11_4_4
  | p + 5,h=>absurd h (by omega)
theorem fqs_11_5:∀ p,p≤5→FQ 11 5 p
  | 0,_=>fq_11_5_0
  | 1,_=>fq_11_5_1
  | 2,_=>fq_11_5_2
  | 3,_=>fq_11_5_3
  | 4,_=>fq_11_5_4
  | 5,_=>fq_11_5_5
  | p + 6,h=>absurd h (by omega)
theorem fqs_11_6:∀ p,p≤6→FQ 11 6 p
  | 0,_=>fq_11_6_0
  | 1,_=>fq_11_6_1
  | 2,_=>fq_11_6_2
  | 3,_=>fq_11_6_3
  | 4,_=>fq_11_6_4
  | 5,_=>fq_11_6_5
  | 6,_=>fq_11_6_6
  | p + 7,h=>absurd h (by omega)
theorem fqs_11_7:∀ p,p≤7→FQ 11 7 p
  | 0,_=>fq_11_7_0
  | 1,_=>fq_11_7_1
  | 2,_=>fq_11_7_2
  | 3,_=>fq_11_7_3
  | 4,_=>fq_11_7_4
  | 5,_=>fq_11_7_5
  | 6,_=>fq_11_7_6
  | 7,_=>fq_11_7_7
  | p + 8,h=>absurd h (by omega)
theorem fqs_11_8:∀ p,p≤8→FQ 11 8 p
  | 0,_=>fq_11_8_0
  | 1,_=>fq_11_8_1
  | 2,_=>fq_11_8_2
  | 3,_=>fq_11_8_3
  | 4,_=>fq_11_8_4
  | 5,_=>fq_11_8_5
  | 6,_=>fq_11_8_6
  | 7,_=>fq_11_8_7
  | 8,_=>fq_11_8_8
  | p + 9,h=>absurd h (by omega)
theorem fqs_11_9:∀ p,p≤9→FQ 11 9 p
  | 0,_=>fq_11_9_0
  | 1,_=>fq_11_9_1
  | 2,_=>fq_11_9_2
  | 3,_=>fq_11_9_3
  | 4,_=>fq_11_9_4
  | 5,_=>fq_11_9_5
  | 6,_=>fq_11_9_6
  | 7,_=>fq_11_9_7
  | 8,_=>fq_11_9_8
  | 9,_=>fq_11_9_9
  | p + 10,h=>absurd h (by omega)
theorem fqs_11_10:∀ p,p≤10→FQ 11 10 p
  | 0,_=>fq_11_10_0
  | 1,_=>fq_11_10_1
  | 2,_=>fq_11_10_2
  | 3,_=>fq_11_10_3
  | 4,_=>fq_11_10_4
  | 5,_=>fq_11_10_5
  | 6,_=>fq_11_10_6
  | 7,_=>fq_11_10_7
  | 8,_=>fq_11_10_8
  | 9,_=>fq_11_10_9
  | 10,_=>fq_11_10_10
  | p + 11,h=>absurd h (by omega)
theorem fqs_11_11:∀ p,p≤11→FQ 11 11 p
  | 0,_=>fq_11_11_0
  | 1,_=>fq_11_11_1
  | 2,_=>fq_11_11_2
  | 3,_=>fq_11_11_3
  | 4,_=>fq_11_11_4
  | 5,_=>fq_11_11_5
  | 6,_=>fq_11_11_6
  | 7,_=>fq_11_11_7
  | 8,_=>fq_11_11_8
  | 9,_=>fq_11_11_9
  | 10,_=>fq_11_11_10
  | 11,_=>fq_11_11_11
  | p + 12,h=>absurd h (by omega)
theorem fqt_11:∀ d p,0 < d→d≤11→p≤d→FQ 11 d p
  | 0,_,h,_,_=>absurd h (by omega)
  | 1,p,_,_,h=>fqs_11_1 p h
  | 2,p,_,_,h=>fqs_11_2 p h
  | 3,p,_,_,h=>fqs_11_3 p h
  | 4,p,_,_,h=>fqs_11_4 p h
  | 5,p,_,_,h=>fqs_11_5 p h
  | 6,p,_,_,h=>fqs_11_6 p h
  | 7,p,_,_,h=>fqs_11_7 p h
  | 8,p,_,_,h=>fqs_11_8 p h
  | 9,p,_,_,h=>fqs_11_9 p h
  | 10,p,_,_,h=>fqs_11_10 p h
  | 11,p,_,_,h=>fqs_11_11 p h
  | d + 12,_,_,h,_=>absurd h (by omega)
theorem fqAll:∀ i d p,Dom i d p→FQ i d p
  | 0,0,p,h=>fqs_0_0 p h.2.1
  | 0,d + 1,_,h=>absurd h.2.2 (by omega)
  | 1,d,p,h=>fqt_1 d p (by have:=h.2.2; omega) (by have:=h.2.2; omega) h.2.1
  | 2,d,p,h=>fqt_2 d p (by have:=h.2.2; omega) (by have:=h.2.2; omega) h.2.1
  | 3,d,p,h=>fqt_3 d p (by have:=h.2.2; omega) (by have:=h.2.2; omega) h.2.1
  | 4,d,p,h=>fqt_4 d p (by have:=h.2.2; omega) (by have:=h.2.2; omega) h.2.1
  | 5,d,p,h=>fqt_5 d p (by have:=h.2.2; omega) (by have:=h.2.2; omega) h.2.1
  | 6,d,p,h=>fqt_6 d p (by have:=h.2.2; omega) (by have:=h.2.2; omega) h.2.1
  | 7,d,p,h=>fqt_7 d p (by have:=h.2.2; omega) (by have:=h.2.2; omega) h.2.1
  | 8,d,p,h=>fqt_8 d p (by have:=h.2.2; omega) (by have:=h.2.2; omega) h.2.1
  | 9,d,p,h=>fqt_9 d p (by have:=h.2.2; omega) (by have:=h.2.2; omega) h.2.1
  | 10,d,p,h=>fqt_10 d p (by have:=h.2.2; omega) (by have:=h.2.2; omega) h.2.1
  | 11,d,p,h=>fqt_11 d p (by have:=h.2.2; omega) (by have:=h.2.2; omega) h.2.1
  | i + 12,_,_,h=>absurd h.1 (by omega)
theorem bqs_1:∀ d,1≤d→d≤1→BQ 1 d
  | 0,h,_=>absurd h (by omega)
  | 1,_,_=>bq_1_1
  | d + 2,_,h=>absurd h (by omega)
theorem bqs_2:∀ d,1≤d→d≤2→BQ 2 d
  | 0,h,_=>absurd h (by omega)
  | 1,_,_=>bq_2_1
  | 2,_,_=>bq_2_2
  | d + 3,_,h=>absurd h (by omega)
theorem bqs_3:∀ d,1≤d→d≤3→BQ 3 d
  | 0,h,_=>absurd h (by omega)
  | 1,_,_=>bq_3_1
  | 2,_,_=>bq_3_2
  | 3,_,_=>bq_3_3
  | d + 4,_,h=>absurd h (by omega)
theorem bqs_4:∀ d,1≤d→d≤4→BQ 4 d
  | 0,h,_=>absurd h (by omega)
  | 1,_,_=>bq_4_1
  | 2,_,_=>bq_4_2
  | 3,_,_=>bq_4_3
  | 4,_,_=>bq_4_4
  | d + 5,_,h=>absurd h (by omega)
theorem bqs_5:∀ d,1≤d→d≤5→BQ 5 d
  | 0,h,_=>absurd h (by omega)
  | 1,_,_=>bq_5_1
  | 2,_,_=>bq_5_2
  | 3,_,_=>bq_5_3
  | 4,_,_=>bq_5_4
  | 5,_,_=>bq_5_5
  | d + 6,_,h=>absurd h (by omega)
theorem bqs_6:∀ d,1≤d→d≤6→BQ 6 d
  | 0,h,_=>absurd h (by omega)
  | 1,_,_=>bq_6_1
  | 2,_,_=>bq_6_2
  | 3,_,_=>bq_6_3
  | 4,_,_=>bq_6_4
  | 5,_,_=>bq_6_5
  | 6,_,_=>bq_6_6
  | d + 7,_,h=>absurd h (by omega)
theorem bqs_7:∀ d,1≤d→d≤7→BQ 7 d
  | 0,h,_=>absurd h (by omega)
  | 1,_,_=>bq_7_1
  | 2,_,_=>bq_7_2
  | 3,_,_=>bq_7_3
  | 4,_,_=>bq_7_4
  | 5,_,_=>bq_7_5
  | 6,_,_=>bq_7_6
  | 7,_,_=>bq_7_7
  | d + 8,_,h=>absurd h (by omega)
theorem bqs_8:∀ d,1≤d→d≤8→BQ 8 d
  | 0,h,_=>absurd h (by omega)
  | 1,_,_=>bq_8_1
  | 2,_,_=>bq_8_2
  | 3,_,_=>bq_8_3
  | 4,_,_=>bq_8_4
  | 5,_,_=>bq_8_5
  | 6,_,_=>bq_8_6
  | 7,_,_=>bq_8_7
  | 8,_,_=>bq_8_8
  | d + 9,_,h=>absurd h (by omega)
theorem bqs_9:∀ d,1≤d→d≤9→BQ 9 d
  | 0,h,_=>absurd h (by omega)
  | 1,_,_=>bq_9_1
  | 2,_,_=>bq_9_2
  | 3,_,_=>bq_9_3
  | 4,_,_=>bq_9_4
  | 5,_,_=>bq_9_5
  | 6,_,_=>bq_9_6
  | 7,_,_=>bq_9_7
  | 8,_,_=>bq_9_8
  | 9,_,_=>bq_9_9
  | d + 10,_,h=>absurd h (by omega)
theorem bqs_10:∀ d,1≤d→d≤10→BQ 10 d
  | 0,h,_=>absurd h (by omega)
  | 1,_,_=>bq_10_1
  | 2,_,_=>bq_10_2
  | 3,_,_=>bq_10_3
  | 4,_,_=>bq_10_4
  | 5,_,_=>bq_10_5
  | 6,_,_=>bq_10_6
  | 7,_,_=>bq_10_7
  | 8,_,_=>bq_10_8
  | 9,_,_=>bq_10_9
  | 10,_,_=>bq_10_10
  | d + 11,_,h=>absurd h (by omega)
theorem bqs_11:∀ d,1≤d→d≤11→BQ 11 d
  | 0,h,_=>absurd h (by omega)
  | 1,_,_=>bq_11_1
  | 2,_,_=>bq_11_2
  | 3,_,_=>bq_11_3
  | 4,_,_=>bq_11_4
  | 5,_,_=>bq_11_5
  | 6,_,_=>bq_11_6
  | 7,_,_=>bq_11_7
  | 8,_,_=>bq_11_8
  | 9,_,_=>bq_11_9
  | 10,_,_=>bq_11_10
  | 11,_,_=>bq_11_11
  | d + 12,_,h=>absurd h (by omega)
theorem bqs_12:∀ d,1≤d→d≤12→BQ 12 d
  | 0,h,_=>absurd h (by omega)
  | 1,_,_=>bq_12_1
  | 2,_,_=>bq_12_2
  | 3,_,_=>bq_12_3
  | 4,_,_=>bq_12_4
  | 5,_,_=>bq_12_5
  | 6,_,_=>bq_12_6
  | 7,_,_=>bq_12_7
  | 8,_,_=>bq_12_8
  | 9,_,_=>bq_12_9
  | 10,_,_=>bq_12_10
  | 11,_,_=>bq_12_11
  | 12,_,_=>bq_12_12
  | d + 13,_,h=>absurd h (by omega)
theorem bqAll:∀ L d,1≤d→d≤L→L≤12→BQ L d
  | 0,_,h,h2,_=>absurd h (by omega)
  | 1,d,h,h2,_=>bqs_1 d h h2
  | 2,d,h,h2,_=>bqs_2 d h h2
  | 3,d,h,h2,_=>bqs_3 d h h2
  | 4,d,h,h2,_=>bqs_4 d h h2
  | 5,d,h,h2,_=>bqs_5 d h h2
  | 6,d,h,h2,_=>bqs_6 d h h2
  | 7,d,h,h2,_=>bqs_7 d h h2
  | 8,d,h,h2,_=>bqs_8 d h h2
  | 9,d,h,h2,_=>bqs_9 d h h2
  | 10,d,h,h2,_=>bqs_10 d h h2
  | 11,d,h,h2,_=>bqs_11 d h h2
  | 12,d,h,h2,_=>bqs_12 d h h2
  | L + 13,_,_,_,h=>absurd h (by omega)
theorem xt0a:isT (s5 [.nils] H0) = true:=by kernel_rfl
theorem xt0b:isT (s5 [.esl] H0) = true:=by kernel_rfl
theorem xt0c:isT (s5 [.sl 0 0 0 1 none] (Ha 0 .e)) = true:=by kernel_rfl
theorem walk (w:World) (hsh:w.ShapedOpen Tryz.prog) (V:Value) (l:List Int) (A:ArgS .u16 w V l):Calls Tryz.prog 5 #[V] w fun e w'=>e = .returned (.bool true)∧Kept w w':=by
  have hj:=maxLen_J hsh
  have key:∀ {g:Fun} {ρ:Rho} {h:Hp} {v:AV},FSound Tryz.prog 5 g→Args (Tryz.prog.globalNamed "internal/bytealg.MaxLen") ρ h w→VR ρ v V→isT (g [v] h) = true→Calls Tryz.prog 5 #[V] w fun e w'=>e = .returned (.bool true)∧Kept w w':=by
    intro g ρ h v hF ha hv hT
    obtain ⟨h',e⟩:=isT_inv hT
    exact law_walk2 hF ha e (.cons hv .nil)
  by_cases hl:l = []
  · subst hl
    obtain ⟨ρ,h,v,h1,h2,⟨-,rfl,rfl | rfl⟩ | ⟨rfl,rfl⟩⟩:=one_arg hj A 0 (Nat.zero_le _)
    · exact key F5.1 h1 h2 xt0a
    · exact key F5.1 h1 h2 xt0b
    · exact key F5.1 h1 h2 xt0c
  · have hpos:0 < l.length:=by
      cases l with
      | nil=>exact absurd rfl hl
      | cons a l=>simp
    have hwf:∀ n∈l,0≤n∧n < 65536:=fun n hn=>u16_wf (A.wf n hn)
    have hm:min l.length 12≤l.length:=by omega
    obtain ⟨ρ,h,v,h1,h2,⟨h3,-⟩ | ⟨rfl,rfl⟩⟩:=one_arg hj A (min l.length 12) hm
    · exact absurd h3 hl
    generalize hmm:min l.length 12 = m at *
    have htl:((l.take m).map Int.toNat).length = m:=by rw [List.length_map,List.length_take]; omega
    obtain ⟨s,hs⟩:=run_true bqAll ((l.take m).map Int.toNat) (by rw [htl]; omega) (by rw [htl]; omega) (fun a ha=>by
      obtain ⟨y,hy,rfl⟩:=List.mem_map.1 ha
      have:=hwf y (List.mem_of_mem_take hy); omega)
    rw [htl] at hs
    have hA:=args_cells (t':=cellL (upL (fun j=>.int 16 ((((l.take m).map Int.toNat).getD j 0:Nat):Int)) 12 []) 0) (o:=⟨[],s⟩) h1 (fun i hi=>by
      have hil:i < l.length:=by omega
      rw [cellL_get,cellL_get,upL_eq,dif_pos ⟨Nat.zero_le _,by simp; omega⟩,dif_pos ⟨Nat.zero_le _,by simp; omega⟩]
      have h16:cOf .u16 = 16:=rfl
      simp only [List.append_nil,Nat.sub_zero,List.getElem_map,List.getElem_range,List.getElem_take,h16]
      have e1:(((l.take m).map Int.toNat).getD i 0) = (l[i]).toNat:=by
        simp [List.getD,hi,hil]
      rw [e1]
      have:=(hwf _ (List.getElem_mem hil)).1
      rw [Int.toNat_of_nonneg this])
    have hF:=(F5J fqAll).1
    by_cases hle:l.length≤12
    · have hml:m = l.length:=by omega
      rw [← hml] at h2
      exact key hF hA h2 hs
    · have hml:m = 12:=by omega
      subst hml
      obtain ⟨M,hM⟩:∃ M,l.length = Nat.add M 13:=⟨l.length - 13,by show _ = l.length - 13 + 13; omega⟩
      rw [hM] at h2
      refine key hF hA h2 ?_
      rw [long5,← short5]
      exact hs

set_option maxRecDepth 100000 in
theorem contract (H:Type) (enc:TypeId×Value→H) (W:World) (base:Nat) (args:Array Value) (ds gs:List (DataW H)) (before:List MemPlace)
    (hval:∀ (j:Nat) t v,Tryz.f5.params[j]? = some t→args[j]? = some v→Value.okWide Tryz.prog W .any base t v)
    (hW:DataW.Whole enc Tryz.prog Tryz.f5.params.toList Rows.topSurrogatesSpec.vars false W args.toList ds gs before) (hsh:W.ShapedOpen Tryz.prog):
    Calls Tryz.prog 5 args W fun e W'=>∃ v,e = .returned v∧Rows.topSurrogatesSpec.post enc Tryz.prog Tryz.f5 false true false false W args v W':=by
  have hW':=hW
  obtain ⟨p,q,hA0,hV,rfl,hfz,hnd⟩:=hW
  have hA:DataW.TrodAll enc Tryz.prog W 0 (fun _=>true) true Tryz.f5.params.toList args.toList ds p:=hA0
  rw [Tryz.params5] at hA hval
  obtain ⟨v0,vs0,d0,ds0,p0,q0,hargs,rfl,rfl,h0,r0⟩:=trodAll_cons hA
  obtain ⟨rfl,rfl,rfl⟩:=trodAll_nil r0
  obtain rfl:args = #[v0]:=by cases args; simp_all
  obtain ⟨rfl,rfl⟩:=trodVars_none hV
  obtain ⟨x0,y0,z0,rfl⟩:=Go.WideShapes.okWide_slice Tryz.underlying51 (hval 0 51 v0 rfl rfl)
  obtain ⟨l0,A0,S0⟩:=open_arg (k:=.u16) Tryz.underlying51 Tryz.underlying54 (by kernel_rfl) rfl h0
  clear hA0
  refine (walk W hsh _ l0 A0).mono fun e W' ⟨he,hg⟩=>?_
  subst he
  exact ⟨_,rfl,AM.post_kept (pv:=[]) hW' (fun _ _ _=>(trodAll_cons_mk (shut_bool Tryz.underlying4 _) trodAll_mk0)) (fun sp hsp=>(trodAll_cons_mk (S0 W' sp hg.2.1 (fun q hq=>hsp q (by simp [hq]))) trodAll_mk0)) (fun _ _=>rfl) hg.1⟩

theorem met (os:Os):laidMet Tryz.prog Rows.topSurrogatesRow.laid ((laidWorld os #[.slice none 0 0]).forCall (fun _ _=>0) ⟨#[],#[.slice none 0 0],[]⟩).memory:=
  laidMet_of_run3 12 (by kernel_rfl) (by kernel_rfl) (by kernel_rfl)
theorem reads (os:Os) {H:Type} (enc:TypeId×Value→H):∃ places,DataW.whole enc Tryz.prog ((laidWorld os #[.slice none 0 0]).forCall (fun _ _=>0) ⟨#[],#[.slice none 0 0],[]⟩).memory Tryz.f5.params.toList Rows.topSurrogatesSpec.vars false (#[.slice none 0 0]:Array Value).toList 8 = some ([.nil],[],places):=
  ⟨[],by kernel_rfl⟩
set_option maxRecDepth 100000 in
theorem lifted (os:Os) (started:os.Started) (H:Type) (enc:TypeId×Value→H) (F:Stop.Interp):
    ReturnsInHanded {} Tryz.checked os 5 .any ((OpenSpec.ofChange Rows.topSurrogatesSpec).preRow enc Tryz.prog Tryz.f5 Rows.topSurrogatesRow.domain false Rows.topSurrogatesRow.laid) (((OpenSpec.ofChange Rows.topSurrogatesSpec).at F).post enc Tryz.prog Tryz.f5 false true false false):=by
  obtain ⟨places,hx⟩:=reads os enc
  refine returnsInHanded_of_row (C:=Tryz.checked) (s:=OpenSpec.ofChange Rows.topSurrogatesSpec) own started (by kernel_rfl) Tryz.func5
    (witness_row_at (enc:=enc) (C:=Tryz.checked) false (laidWorld os #[.slice none 0 0]) #[.slice none 0 0] rfl (by kernel_rfl) (by kernel_rfl) (by kernel_rfl)
      (OpenSpec.preRow_of_cond 8 hx (by kernel_rfl) (fun k hk=>by cases hk) (by kernel_rfl) (met os))) ?_
  intro W base args ds gs before hval hW _ _ _ _ hsh _
  exact contract H enc W base args ds gs before hval hW hsh

theorem said:Rows.TopSurrogatesSaid:=
  OpenClaim.holds_of_cond 5 Tryz.f5 rfl rfl rfl rfl rfl rfl rfl ⟨rfl,rfl,rfl,rfl,rfl⟩ rfl rfl rfl rfl rfl (by kernel_rfl) Tryz.func5 closed
    (of_decide_eq_true (by kernel_rfl)) (by unfold Func.isWrapper; first | (rw [if_pos (by decide +kernel)]; kernel_rfl) | (rw [if_neg (by decide +kernel)]; exact ⟨rfl,rfl⟩))
    (fun os started H enc _ F=>by rw [OpenClaim.pre_eq_preRow]; exact lifted os started H enc F)

theorem plain (f:FuncId) (fn:Func) (hf:Tryz.pinned.checked.prog.funcNamed "obelisk/obelisktop.TopSurrogates" = some f) (hfn:Tryz.pinned.checked.prog.funcs[f]? = some fn):
    false = Tryz.pinned.checked.prog.looks []∧∀ (j:Nat) t,fn.params[j]? = some t→Tryz.pinned.checked.prog.wantsStandIn t = false:=by
  obtain rfl:f = 5:=Option.some.inj ((show Tryz.prog.funcNamed "obelisk/obelisktop.TopSurrogates" = some 5 by kernel_rfl).symm.trans hf) |>.symm
  obtain rfl:fn = Tryz.f5:=(Option.some.inj (Tryz.func5.symm.trans hfn)).symm
  refine ⟨by kernel_rfl,fun j t ht=>?_⟩
  rw [Tryz.params5] at ht
  have hm:t∈([51]:List TypeId):=by simpa using Array.mem_of_getElem? ht
  have hall:(([51]:List TypeId).all fun u=>!Tryz.prog.wantsStandIn u) = true:=by kernel_rfl
  exact (show Tryz.prog.wantsStandIn t = false by simpa using List.all_eq_true.1 hall t hm)

theorem proved:Rows.TopSurrogatesCardSaid:=
  Claim7.holds_tied_plain_at .later [] _ _ _ _ said (fun _ h=>by cases h) (by kernel_rfl) (fun _ h=>by cases h) topSurrogates_row_tie rfl ⟨rfl,rfl⟩ (by kernel_rfl) rfl plain goes

#print axioms proved
end Go.Proofs.YtbkkfmjofmfijaaGreatDoor.LTopSurrogates
