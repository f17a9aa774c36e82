/-
  The law TopWide holds of the program: whatever the input, it returns true, and the input reads as before. No condition; the card ties the two tables that the row lists to the program's text.
-/
import Derived.Test.YtdjgkjjgcbgniaaGreatDoorX4
import Derived.Test.YtdjgkjjgcbgniaaGreatDoorX4a
import Derived.Test.YtdjgkjjgcbgniaaGreatDoorX4b
import Derived.Test.YtdjgkjjgcbgniaaGreatDoorX4c
import Derived.Test.YtdjgkjjgcbgniaaGreatDoorX4d
import Derived.Test.YtdjgkjjgcbgniaaGreatDoorX4e
import Derived.Test.YtdjgkjjgcbgniaaGreatDoorX4f
import Derived.Test.YtdjgkjjgcbgniaaGreatDoorX4g
import Derived.Test.YtdjgkjjgcbgniaaGreatDoorX4h
import Derived.Test.YtdjgkjjgcbgniaaGreatDoorX4i
import Derived.Test.YtdjgkjjgcbgniaaGreatDoorX4j
import Derived.Test.YtdjgkjjgcbgniaaGreatDoorX4k
import Derived.Test.YtdjgkjjgcbgniaaGreatDoorX4l
import Derived.Test.YtdjgkjjgcbgniaaGreatDoorX4m
import Derived.Test.YtdjgkjjgcbgniaaGreatDoorX4n
import Derived.Test.YtdjgkjjgcbgniaaGreatDoorX4o
import Derived.Test.YtdjgkjjgcbgniaaGreatDoorX4p
import Derived.Test.YtdjgkjjgcbgniaaGreatDoorX4q
import Derived.Test.YtdjgkjjgcbgniaaGreatDoorX4r
import Derived.Test.YtdjgkjjgcbgniaaGreatDoorX4s
import Derived.Test.YtdjgkjjgcbgniaaGreatDoorX4t
import Derived.Test.YtdjgkjjgcbgniaaGreatDoorX4u
import Derived.Test.YtdjgkjjgcbgniaaGreatDoorX4v
import Derived.Test.YtdjgkjjgcbgniaaGreatDoorX4w
import Derived.Test.YtdjgkjjgcbgniaaGreatDoorX4x
import Derived.Test.YtdjgkjjgcbgniaaGreatDoorX4y
import Derived.Test.YtdjgkjjgcbgniaaGreatDoorWt
import Derived.Test.YtdjgkjjgcbgniaaGreatDoorFe
import Derived.Test.YtdjgkjjgcbgniaaGreatDoorK4
set_option linter.unusedVariables false
set_option linter.unusedSimpArgs false
namespace Go.Proofs.YtdjgkjjgcbgniaaGreatDoor.LTopWide
open Go.ChangeShapes Go.WideShapes Go.ChangeAt Go.RowKit Go.AM
set_option linter.unusedVariables false

theorem cl_ret (v : AV) (h : Hp) (k : AV → Hp → Res) : cl (.ret v h) k = k v h := rfl
theorem all (a0 a1 a2 : Int) : isT (s4 [(.int 63 a0), (.int 63 a1), (.int 63 a2)] H0) = true := by
  have hs : s16 = smallF := by kernel_rfl
  have e0 : s4 [(.int 63 a0), (.int 63 a1), (.int 63 a2)] H0 = cl (s16 [.int 63 a0, I 298] H0) (fun x y => b4R0 s10 s11 s12 s13 s15 (.int 63 a1) (.int 63 a2) (.bool true) x y) := by kernel_rfl
  rw [e0, (congrFun (congrFun hs _) _).trans (smallF_eq a0 298 (by decide) (by decide) _), cl_ret]
  have h0 : (a0.tmod ((298 : Nat) : Int)).natAbs < 298 := by rw [Int.natAbs_tmod]; exact Nat.mod_lt _ (by decide)
  generalize (a0.tmod ((298 : Nat) : Int)).natAbs = r0 at h0 ⊢
  rcases Nat.lt_or_ge r0 149 with q | q
  · rcases Nat.lt_or_ge r0 74 with q | q
    · rcases Nat.lt_or_ge r0 37 with q | q
      · rcases Nat.lt_or_ge r0 18 with q | q
        · rcases Nat.lt_or_ge r0 9 with q | q
          · rcases Nat.lt_or_ge r0 4 with q | q
            · rcases Nat.lt_or_ge r0 2 with q | q
              · rcases Nat.lt_or_ge r0 1 with q | q
                · obtain rfl : r0 = 0 := by omega
                  exact c_0 a0 a1 a2
                · obtain rfl : r0 = 1 := by omega
                  exact c_1 a0 a1 a2
              · rcases Nat.lt_or_ge r0 3 with q | q
                · obtain rfl : r0 = 2 := by omega
                  exact c_2 a0 a1 a2
                · obtain rfl : r0 = 3 := by omega
                  exact c_3 a0 a1 a2
            · rcases Nat.lt_or_ge r0 6 with q | q
              · rcases Nat.lt_or_ge r0 5 with q | q
                · obtain rfl : r0 = 4 := by omega
                  exact c_4 a0 a1 a2
                · obtain rfl : r0 = 5 := by omega
                  exact c_5 a0 a1 a2
              · rcases Nat.lt_or_ge r0 7 with q | q
                · obtain rfl : r0 = 6 := by omega
                  exact c_6 a0 a1 a2
                · rcases Nat.lt_or_ge r0 8 with q | q
                  · obtain rfl : r0 = 7 := by omega
                    exact c_7 a0 a1 a2
                  · obtain rfl : r0 = 8 := by omega
                    exact c_8 a0 a1 a2
          · rcases Nat.lt_or_ge r0 13 with q | q
            · rcases Nat.lt_or_ge r0 11 with q | q
              · rcases Nat.lt_or_ge r0 10 with q | q
                · obtain rfl : r0 = 9 := by omega
                  exact c_9 a0 a1 a2
                · obtain rfl : r0 = 10 := by omega
                  exact c_10 a0 a1 a2
              · rcases Nat.lt_or_ge r0 12 with q | q
                · obtain rfl : r0 = 11 := by omega
                  exact c_11 a0 a1 a2
                · obtain rfl : r0 = 12 := by omega
                  exact c_12 a0 a1 a2
            · rcases Nat.lt_or_ge r0 15 with q | q
              · rcases Nat.lt_or_ge r0 14 with q | q
                · obtain rfl : r0 = 13 := by omega
                  exact c_13 a0 a1 a2
                · obtain rfl : r0 = 14 := by omega
                  exact c_14 a0 a1 a2
              · rcases Nat.lt_or_ge r0 16 with q | q
                · obtain rfl : r0 = 15 := by omega
                  exact c_15 a0 a1 a2
                · rcases Nat.lt_or_ge r0 17 with q | q
                  · obtain rfl : r0 = 16 := by omega
                    exact c_16 a0 a1 a2
                  · obtain rfl : r0 = 17 := by omega
                    exact c_17 a0 a1 a2
        · rcases Nat.lt_or_ge r0 27 with q | q
          · rcases Nat.lt_or_ge r0 22 with q | q
            · rcases Nat.lt_or_ge r0 20 with q | q
              · rcases Nat.lt_or_ge r0 19 with q | q
                · obtain rfl : r0 = 18 := by omega
                  exact c_18 a0 a1 a2
                · obtain rfl : r0 = 19 := by omega
                  exact c_19 a0 a1 a2
              · rcases Nat.lt_or_ge r0 21 with q | q
                · obtain rfl : r0 = 20 := by omega
                  exact c_20 a0 a1 a2
                · obtain rfl : r0 = 21 := by omega
                  exact c_21 a0 a1 a2
            · rcases Nat.lt_or_ge r0 24 with q | q
              · rcases Nat.lt_or_ge r0 23 with q | q
                · obtain rfl : r0 = 22 := by omega
                  exact c_22 a0 a1 a2
                · obtain rfl : r0 = 23 := by omega
                  exact c_23 a0 a1 a2
              · rcases Nat.lt_or_ge r0 25 with q | q
                · obtain rfl : r0 = 24 := by omega
                  exact c_24 a0 a1 a2
                · rcases Nat.lt_or_ge r0 26 with q | q
                  · obtain rfl : r0 = 25 := by omega
                    exact c_25 a0 a1 a2
                  · obtain rfl : r0 = 26 := by omega
                    exact c_26 a0 a1 a2
          · rcases Nat.lt_or_ge r0 32 with q | q
            · rcases Nat.lt_or_ge r0 29 with q | q
              · rcases Nat.lt_or_ge r0 28 with q | q
                · obtain rfl : r0 = 27 := by omega
                  exact c_27 a0 a1 a2
                · obtain rfl : r0 = 28 := by omega
                  exact c_28 a0 a1 a2
              · rcases Nat.lt_or_ge r0 30 with q | q
                · obtain rfl : r0 = 29 := by omega
                  exact c_29 a0 a1 a2
                · rcases Nat.lt_or_ge r0 31 with q | q
                  · obtain rfl : r0 = 30 := by omega
                    exact c_30 a0 a1 a2
                  · obtain rfl : r0 = 31 := by omega
                    exact c_31 a0 a1 a2
            · rcases Nat.lt_or_ge r0 34 with q | q
              · rcases Nat.lt_or_ge r0 33 with q | q
                · obtain rfl : r0 = 32 := by omega
                  exact c_32 a0 a1 a2
                · obtain rfl : r0 = 33 := by omega
                  exact c_33 a0 a1 a2
              · rcases Nat.lt_or_ge r0 35 with q | q
                · obtain rfl : r0 = 34 := by omega
                  exact c_34 a0 a1 a2
                · rcases Nat.lt_or_ge r0 36 with q | q
                  · obtain rfl : r0 = 35 := by omega
                    exact c_35 a0 a1 a2
                  · obtain rfl : r0 = 36 := by omega
                    exact c_36 a0 a1 a2
      · rcases Nat.lt_or_ge r0 55 with q | q
        · rcases Nat.lt_or_ge r0 46 with q | q
          · rcases Nat.lt_or_ge r0 41 with q | q
            · rcases Nat.lt_or_ge r0 39 with q | q
              · rcases Nat.lt_or_ge r0 38 with q | q
                · obtain rfl : r0 = 37 := by omega
                  exact c_37 a0 a1 a2
                · obtain rfl : r0 = 38 := by omega
                  exact c_38 a0 a1 a2
              · rcases Nat.lt_or_ge r0 40 with q | q
                · obtain rfl : r0 = 39 := by omega
                  exact c_39 a0 a1 a2
                · obtain rfl : r0 = 40 := by omega
                  exact c_40 a0 a1 a2
            · rcases Nat.lt_or_ge r0 43 with q | q
              · rcases Nat.lt_or_ge r0 42 with q | q
                · obtain rfl : r0 = 41 := by omega
                  exact c_41 a0 a1 a2
                · obtain rfl : r0 = 42 := by omega
                  exact c_42 a0 a1 a2
              · rcases Nat.lt_or_ge r0 44 with q | q
                · obtain rfl : r0 = 43 := by omega
                  exact c_43 a0 a1 a2
                · rcases Nat.lt_or_ge r0 45 with q | q
                  · obtain rfl : r0 = 44 := by omega
                    exact c_44 a0 a1 a2
                  · obtain rfl : r0 = 45 := by omega
                    exact c_45 a0 a1 a2
          · rcases Nat.lt_or_ge r0 50 with q | q
            · rcases Nat.lt_or_ge r0 48 with q | q
              · rcases Nat.lt_or_ge r0 47 with q | q
                · obtain rfl : r0 = 46 := by omega
                  exact c_46 a0 a1 a2
                · obtain rfl : r0 = 47 := by omega
                  exact c_47 a0 a1 a2
              · rcases Nat.lt_or_ge r0 49 with q | q
                · obtain rfl : r0 = 48 := by omega
                  exact c_48 a0 a1 a2
                · obtain rfl : r0 = 49 := by omega
                  exact c_49 a0 a1 a2
            · rcases Nat.lt_or_ge r0 52 with q | q
              · rcases Nat.lt_or_ge r0 51 with q | q
                · obtain rfl : r0 = 50 := by omega
                  exact c_50 a0 a1 a2
                · obtain rfl : r0 = 51 := by omega
                  exact c_51 a0 a1 a2
              · rcases Nat.lt_or_ge r0 53 with q | q
                · obtain rfl : r0 = 52 := by omega
                  exact c_52 a0 a1 a2
                · rcases Nat.lt_or_ge r0 54 with q | q
                  · obtain rfl : r0 = 53 := by omega
                    exact c_53 a0 a1 a2
                  · obtain rfl : r0 = 54 := by omega
                    exact c_54 a0 a1 a2
        · rcases Nat.lt_or_ge r0 64 with q | q
          · rcases Nat.lt_or_ge r0 59 with q | q
            · rcases Nat.lt_or_ge r0 57 with q | q
              · rcases Nat.lt_or_ge r0 56 with q | q
                · obtain rfl : r0 = 55 := by omega
                  exact c_55 a0 a1 a2
                · obtain rfl : r0 = 56 := by omega
                  exact c_56 a0 a1 a2
              · rcases Nat.lt_or_ge r0 58 with q | q
                · obtain rfl : r0 = 57 := by omega
                  exact c_57 a0 a1 a2
                · obtain rfl : r0 = 58 := by omega
                  exact c_58 a0 a1 a2
            · rcases Nat.lt_or_ge r0 61 with q | q
              · rcases Nat.lt_or_ge r0 60 with q | q
                · obtain rfl : r0 = 59 := by omega
                  exact c_59 a0 a1 a2
                · obtain rfl : r0 = 60 := by omega
                  exact c_60 a0 a1 a2
              · rcases Nat.lt_or_ge r0 62 with q | q
                · obtain rfl : r0 = 61 := by omega
                  exact c_61 a0 a1 a2
                · rcases Nat.lt_or_ge r0 63 with q | q
                  · obtain rfl : r0 = 62 := by omega
                    exact c_62 a0 a1 a2
                  · obtain rfl : r0 = 63 := by omega
                    exact c_63 a0 a1 a2
          · rcases Nat.lt_or_ge r0 69 with q | q
            · rcases Nat.lt_or_ge r0 66 with q | q
              · rcases Nat.lt_or_ge r0 65 with q | q
                · obtain rfl : r0 = 64 := by omega
                  exact c_64 a0 a1 a2
                · obtain rfl : r0 = 65 := by omega
                  exact c_65 a0 a1 a2
              · rcases Nat.lt_or_ge r0 67 with q | q
                · obtain rfl : r0 = 66 := by omega
                  exact c_66 a0 a1 a2
                · rcases Nat.lt_or_ge r0 68 with q | q
                  · obtain rfl : r0 = 67 := by omega
                    exact c_67 a0 a1 a2
                  · obtain rfl : r0 = 68 := by omega
                    exact c_68 a0 a1 a2
            · rcases Nat.lt_or_ge r0 71 with q | q
              · rcases Nat.lt_or_ge r0 70 with q | q
                · obtain rfl : r0 = 69 := by omega
                  exact c_69 a0 a1 a2
                · obtain rfl : r0 = 70 := by omega
                  exact c_70 a0 a1 a2
              · rcases Nat.lt_or_ge r0 72 with q | q
                · obtain rfl : r0 = 71 := by omega
                  exact c_71 a0 a1 a2
                · rcases Nat.lt_or_ge r0 73 with q | q
                  · obtain rfl : r0 = 72 := by omega
                    exact c_72 a0 a1 a2
                  · obtain rfl : r0 = 73 := by omega
                    exact c_73 a0 a1 a2
    · rcases Nat.lt_or_ge r0 111 with q | q
      · rcases Nat.lt_or_ge r0 92 with q | q
        · rcases Nat.lt_or_ge r0 83 with q | q
          · rcases Nat.lt_or_ge r0 78 with q | q
            · rcases Nat.lt_or_ge r0 76 with q | q
              · rcases Nat.lt_or_ge r0 75 with q | q
                · obtain rfl : r0 = 74 := by omega
                  exact c_74 a0 a1 a2
                · obtain rfl : r0 = 75 := by omega
                  exact c_75 a0 a1 a2
              · rcases Nat.lt_or_ge r0 77 with q | q
                · obtain rfl : r0 = 76 := by omega
                  exact c_76 a0 a1 a2
                · obtain rfl : r0 = 77 := by omega
                  exact c_77 a0 a1 a2
            · rcases Nat.lt_or_ge r0 80 with q | q
              · rcases Nat.lt_or_ge r0 79 with q | q
                · obtain rfl : r0 = 78 := by omega
                  exact c_78 a0 a1 a2
                · obtain rfl : r0 = 79 := by omega
                  exact c_79 a0 a1 a2
              · rcases Nat.lt_or_ge r0 81 with q | q
                · obtain rfl : r0 = 80 := by omega
                  exact c_80 a0 a1 a2
                · rcases Nat.lt_or_ge r0 82 with q | q
                  · obtain rfl : r0 = 81 := by omega
                    exact c_81 a0 a1 a2
                  · obtain rfl : r0 = 82 := by omega
                    exact c_82 a0 a1 a2
          · rcases Nat.lt_or_ge r0 87 with q | q
            · rcases Nat.lt_or_ge r0 85 with q | q
              · rcases Nat.lt_or_ge r0 84 with q | q
                · obtain rfl : r0 = 83 := by omega
                  exact c_83 a0 a1 a2
                · obtain rfl : r0 = 84 := by omega
                  exact c_84 a0 a1 a2
              · rcases Nat.lt_or_ge r0 86 with q | q
                · obtain rfl : r0 = 85 := by omega
                  exact c_85 a0 a1 a2
                · obtain rfl : r0 = 86 := by omega
                  exact c_86 a0 a1 a2
            · rcases Nat.lt_or_ge r0 89 with q | q
              · rcases Nat.lt_or_ge r0 88 with q | q
                · obtain rfl : r0 = 87 := by omega
                  exact c_87 a0 a1 a2
                · obtain rfl : r0 = 88 := by omega
                  exact c_88 a0 a1 a2
              · rcases Nat.lt_or_ge r0 90 with q | q
                · obtain rfl : r0 = 89 := by omega
                  exact c_89 a0 a1 a2
                · rcases Nat.lt_or_ge r0 91 with q | q
                  · obtain rfl : r0 = 90 := by omega
                    exact c_90 a0 a1 a2
                  · obtain rfl : r0 = 91 := by omega
                    exact c_91 a0 a1 a2
        · rcases Nat.lt_or_ge r0 101 with q | q
          · rcases Nat.lt_or_ge r0 96 with q | q
            · rcases Nat.lt_or_ge r0 94 with q | q
              · rcases Nat.lt_or_ge r0 93 with q | q
                · obtain rfl : r0 = 92 := by omega
                  exact c_92 a0 a1 a2
                · obtain rfl : r0 = 93 := by omega
                  exact c_93 a0 a1 a2
              · rcases Nat.lt_or_ge r0 95 with q | q
                · obtain rfl : r0 = 94 := by omega
                  exact c_94 a0 a1 a2
                · obtain rfl : r0 = 95 := by omega
                  exact c_95 a0 a1 a2
            · rcases Nat.lt_or_ge r0 98 with q | q
              · rcases Nat.lt_or_ge r0 97 with q | q
                · obtain rfl : r0 = 96 := by omega
                  exact c_96 a0 a1 a2
                · obtain rfl : r0 = 97 := by omega
                  exact c_97 a0 a1 a2
              · rcases Nat.lt_or_ge r0 99 with q | q
                · obtain rfl : r0 = 98 := by omega
                  exact c_98 a0 a1 a2
                · rcases Nat.lt_or_ge r0 100 with q | q
                  · obtain rfl : r0 = 99 := by omega
                    exact c_99 a0 a1 a2
                  · obtain rfl : r0 = 100 := by omega
                    exact c_100 a0 a1 a2
          · rcases Nat.lt_or_ge r0 106 with q | q
            · rcases Nat.lt_or_ge r0 103 with q | q
              · rcases Nat.lt_or_ge r0 102 with q | q
                · obtain rfl : r0 = 101 := by omega
                  exact c_101 a0 a1 a2
                · obtain rfl : r0 = 102 := by omega
                  exact c_102 a0 a1 a2
              · rcases Nat.lt_or_ge r0 104 with q | q
                · obtain rfl : r0 = 103 := by omega
                  exact c_103 a0 a1 a2
                · rcases Nat.lt_or_ge r0 105 with q | q
                  · obtain rfl : r0 = 104 := by omega
                    exact c_104 a0 a1 a2
                  · obtain rfl : r0 = 105 := by omega
                    exact c_105 a0 a1 a2
            · rcases Nat.lt_or_ge r0 108 with q | q
              · rcases Nat.lt_or_ge r0 107 with q | q
                · obtain rfl : r0 = 106 := by omega
                  exact c_106 a0 a1 a2
                · obtain rfl : r0 = 107 := by omega
                  exact c_107 a0 a1 a2
              · rcases Nat.lt_or_ge r0 109 with q | q
                · obtain rfl : r0 = 108 := by omega
                  exact c_108 a0 a1 a2
                · rcases Nat.lt_or_ge r0 110 with q | q
                  · obtain rfl : r0 = 109 := by omega
                    exact c_109 a0 a1 a2
                  · obtain rfl : r0 = 110 := by omega
                    exact c_110 a0 a1 a2
      · rcases Nat.lt_or_ge r0 130 with q | q
        · rcases Nat.lt_or_ge r0 120 with q | q
          · rcases Nat.lt_or_ge r0 115 with q | q
            · rcases Nat.lt_or_ge r0 113 with q | q
              · rcases Nat.lt_or_ge r0 112 with q | q
                · obtain rfl : r0 = 111 := by omega
                  exact c_111 a0 a1 a2
                · obtain rfl : r0 = 112 := by omega
                  exact c_112 a0 a1 a2
              · rcases Nat.lt_or_ge r0 114 with q | q
                · obtain rfl : r0 = 113 := by omega
                  exact c_113 a0 a1 a2
                · obtain rfl : r0 = 114 := by omega
                  exact c_114 a0 a1 a2
            · rcases Nat.lt_or_ge r0 117 with q | q
              · rcases Nat.lt_or_ge r0 116 with q | q
                · obtain rfl : r0 = 115 := by omega
                  exact c_115 a0 a1 a2
                · obtain rfl : r0 = 116 := by omega
                  exact c_116 a0 a1 a2
              · rcases Nat.lt_or_ge r0 118 with q | q
                · obtain rfl : r0 = 117 := by omega
                  exact c_117 a0 a1 a2
                · rcases Nat.lt_or_ge r0 119 with q | q
                  · obtain rfl : r0 = 118 := by omega
                    exact c_118 a0 a1 a2
                  · obtain rfl : r0 = 119 := by omega
                    exact c_119 a0 a1 a2
          · rcases Nat.lt_or_ge r0 125 with q | q
            · rcases Nat.lt_or_ge r0 122 with q | q
              · rcases Nat.lt_or_ge r0 121 with q | q
                · obtain rfl : r0 = 120 := by omega
                  exact c_120 a0 a1 a2
                · obtain rfl : r0 = 121 := by omega
                  exact c_121 a0 a1 a2
              · rcases Nat.lt_or_ge r0 123 with q | q
                · obtain rfl : r0 = 122 := by omega
                  exact c_122 a0 a1 a2
                · rcases Nat.lt_or_ge r0 124 with q | q
                  · obtain rfl : r0 = 123 := by omega
                    exact c_123 a0 a1 a2
                  · obtain rfl : r0 = 124 := by omega
                    exact c_124 a0 a1 a2
            · rcases Nat.lt_or_ge r0 127 with q | q
              · rcases Nat.lt_or_ge r0 126 with q | q
                · obtain rfl : r0 = 125 := by omega
                  exact c_125 a0 a1 a2
                · obtain rfl : r0 = 126 := by omega
                  exact c_126 a0 a1 a2
              · rcases Nat.lt_or_ge r0 128 with q | q
                · obtain rfl : r0 = 127 := by omega
                  exact c_127 a0 a1 a2
                · rcases Nat.lt_or_ge r0 129 with q | q
                  · obtain rfl : r0 = 128 := by omega
                    exact c_128 a0 a1 a2
                  · obtain rfl : r0 = 129 := by omega
                    exact c_129 a0 a1 a2
        · rcases Nat.lt_or_ge r0 139 with q | q
          · rcases Nat.lt_or_ge r0 134 with q | q
            · rcases Nat.lt_or_ge r0 132 with q | q
              · rcases Nat.lt_or_ge r0 131 with q | q
                · obtain rfl : r0 = 130 := by omega
                  exact c_130 a0 a1 a2
                · obtain rfl : r0 = 131 := by omega
                  exact c_131 a0 a1 a2
              · rcases Nat.lt_or_ge r0 133 with q | q
                · obtain rfl : r0 = 132 := by omega
                  exact c_132 a0 a1 a2
                · obtain rfl : r0 = 133 := by omega
                  exact c_133 a0 a1 a2
            · rcases Nat.lt_or_ge r0 136 with q | q
              · rcases Nat.lt_or_ge r0 135 with q | q
                · obtain rfl : r0 = 134 := by omega
                  exact c_134 a0 a1 a2
                · obtain rfl : r0 = 135 := by omega
                  exact c_135 a0 a1 a2
              · rcases Nat.lt_or_ge r0 137 with q | q
                · obtain rfl : r0 = 136 := by omega
                  exact c_136 a0 a1 a2
                · rcases Nat.lt_or_ge r0 138 with q | q
                  · obtain rfl : r0 = 137 := by omega
                    exact c_137 a0 a1 a2
                  · obtain rfl : r0 = 138 := by omega
                    exact c_138 a0 a1 a2
          · rcases Nat.lt_or_ge r0 144 with q | q
            · rcases Nat.lt_or_ge r0 141 with q | q
              · rcases Nat.lt_or_ge r0 140 with q | q
                · obtain rfl : r0 = 139 := by omega
                  exact c_139 a0 a1 a2
                · obtain rfl : r0 = 140 := by omega
                  exact c_140 a0 a1 a2
              · rcases Nat.lt_or_ge r0 142 with q | q
                · obtain rfl : r0 = 141 := by omega
                  exact c_141 a0 a1 a2
                · rcases Nat.lt_or_ge r0 143 with q | q
                  · obtain rfl : r0 = 142 := by omega
                    exact c_142 a0 a1 a2
                  · obtain rfl : r0 = 143 := by omega
                    exact c_143 a0 a1 a2
            · rcases Nat.lt_or_ge r0 146 with q | q
              · rcases Nat.lt_or_ge r0 145 with q | q
                · obtain rfl : r0 = 144 := by omega
                  exact c_144 a0 a1 a2
                · obtain rfl : r0 = 145 := by omega
                  exact c_145 a0 a1 a2
              · rcases Nat.lt_or_ge r0 147 with q | q
                · obtain rfl : r0 = 146 := by omega
                  exact c_146 a0 a1 a2
                · rcases Nat.lt_or_ge r0 148 with q | q
                  · obtain rfl : r0 = 147 := by omega
                    exact c_147 a0 a1 a2
                  · obtain rfl : r0 = 148 := by omega
                    exact c_148 a0 a1 a2
  · rcases Nat.lt_or_ge r0 223 with q | q
    · rcases Nat.lt_or_ge r0 186 with q | q
      · rcases Nat.lt_or_ge r0 167 with q | q
        · rcases Nat.lt_or_ge r0 158 with q | q
          · rcases Nat.lt_or_ge r0 153 with q | q
            · rcases Nat.lt_or_ge r0 151 with q | q
              · rcases Nat.lt_or_ge r0 150 with q | q
                · obtain rfl : r0 = 149 := by omega
                  exact c_149 a0 a1 a2
                · obtain rfl : r0 = 150 := by omega
                  exact c_150 a0 a1 a2
              · rcases Nat.lt_or_ge r0 152 with q | q
                · obtain rfl : r0 = 151 := by omega
                  exact c_151 a0 a1 a2
                · obtain rfl : r0 = 152 := by omega
                  exact c_152 a0 a1 a2
            · rcases Nat.lt_or_ge r0 155 with q | q
              · rcases Nat.lt_or_ge r0 154 with q | q
                · obtain rfl : r0 = 153 := by omega
                  exact c_153 a0 a1 a2
                · obtain rfl : r0 = 154 := by omega
                  exact c_154 a0 a1 a2
              · rcases Nat.lt_or_ge r0 156 with q | q
                · obtain rfl : r0 = 155 := by omega
                  exact c_155 a0 a1 a2
                · rcases Nat.lt_or_ge r0 157 with q | q
                  · obtain rfl : r0 = 156 := by omega
                    exact c_156 a0 a1 a2
                  · obtain rfl : r0 = 157 := by omega
                    exact c_157 a0 a1 a2
          · rcases Nat.lt_or_ge r0 162 with q | q
            · rcases Nat.lt_or_ge r0 160 with q | q
              · rcases Nat.lt_or_ge r0 159 with q | q
                · obtain rfl : r0 = 158 := by omega
                  exact c_158 a0 a1 a2
                · obtain rfl : r0 = 159 := by omega
                  exact c_159 a0 a1 a2
              · rcases Nat.lt_or_ge r0 161 with q | q
                · obtain rfl : r0 = 160 := by omega
                  exact c_160 a0 a1 a2
                · obtain rfl : r0 = 161 := by omega
                  exact c_161 a0 a1 a2
            · rcases Nat.lt_or_ge r0 164 with q | q
              · rcases Nat.lt_or_ge r0 163 with q | q
                · obtain rfl : r0 = 162 := by omega
                  exact c_162 a0 a1 a2
                · obtain rfl : r0 = 163 := by omega
                  exact c_163 a0 a1 a2
              · rcases Nat.lt_or_ge r0 165 with q | q
                · obtain rfl : r0 = 164 := by omega
                  exact c_164 a0 a1 a2
                · rcases Nat.lt_or_ge r0 166 with q | q
                  · obtain rfl : r0 = 165 := by omega
                    exact c_165 a0 a1 a2
                  · obtain rfl : r0 = 166 := by omega
                    exact c_166 a0 a1 a2
        · rcases Nat.lt_or_ge r0 176 with q | q
          · rcases Nat.lt_or_ge r0 171 with q | q
            · rcases Nat.lt_or_ge r0 169 with q | q
              · rcases Nat.lt_or_ge r0 168 with q | q
                · obtain rfl : r0 = 167 := by omega
                  exact c_167 a0 a1 a2
                · obtain rfl : r0 = 168 := by omega
                  exact c_168 a0 a1 a2
              · rcases Nat.lt_or_ge r0 170 with q | q
                · obtain rfl : r0 = 169 := by omega
                  exact c_169 a0 a1 a2
                · obtain rfl : r0 = 170 := by omega
                  exact c_170 a0 a1 a2
            · rcases Nat.lt_or_ge r0 173 with q | q
              · rcases Nat.lt_or_ge r0 172 with q | q
                · obtain rfl : r0 = 171 := by omega
                  exact c_171 a0 a1 a2
                · obtain rfl : r0 = 172 := by omega
                  exact c_172 a0 a1 a2
              · rcases Nat.lt_or_ge r0 174 with q | q
                · obtain rfl : r0 = 173 := by omega
                  exact c_173 a0 a1 a2
                · rcases Nat.lt_or_ge r0 175 with q | q
                  · obtain rfl : r0 = 174 := by omega
                    exact c_174 a0 a1 a2
                  · obtain rfl : r0 = 175 := by omega
                    exact c_175 a0 a1 a2
          · rcases Nat.lt_or_ge r0 181 with q | q
            · rcases Nat.lt_or_ge r0 178 with q | q
              · rcases Nat.lt_or_ge r0 177 with q | q
                · obtain rfl : r0 = 176 := by omega
                  exact c_176 a0 a1 a2
                · obtain rfl : r0 = 177 := by omega
                  exact c_177 a0 a1 a2
              · rcases Nat.lt_or_ge r0 179 with q | q
                · obtain rfl : r0 = 178 := by omega
                  exact c_178 a0 a1 a2
                · rcases Nat.lt_or_ge r0 180 with q | q
                  · obtain rfl : r0 = 179 := by omega
                    exact c_179 a0 a1 a2
                  · obtain rfl : r0 = 180 := by omega
                    exact c_180 a0 a1 a2
            · rcases Nat.lt_or_ge r0 183 with q | q
              · rcases Nat.lt_or_ge r0 182 with q | q
                · obtain rfl : r0 = 181 := by omega
                  exact c_181 a0 a1 a2
                · obtain rfl : r0 = 182 := by omega
                  exact c_182 a0 a1 a2
              · rcases Nat.lt_or_ge r0 184 with q | q
                · obtain rfl : r0 = 183 := by omega
                  exact c_183 a0 a1 a2
                · rcases Nat.lt_or_ge r0 185 with q | q
                  · obtain rfl : r0 = 184 := by omega
                    exact c_184 a0 a1 a2
                  · obtain rfl : r0 = 185 := by omega
                    exact c_185 a0 a1 a2
      · rcases Nat.lt_or_ge r0 204 with q | q
        · rcases Nat.lt_or_ge r0 195 with q | q
          · rcases Nat.lt_or_ge r0 190 with q | q
            · rcases Nat.lt_or_ge r0 188 with q | q
              · rcases Nat.lt_or_ge r0 187 with q | q
                · obtain rfl : r0 = 186 := by omega
                  exact c_186 a0 a1 a2
                · obtain rfl : r0 = 187 := by omega
                  exact c_187 a0 a1 a2
              · rcases Nat.lt_or_ge r0 189 with q | q
                · obtain rfl : r0 = 188 := by omega
                  exact c_188 a0 a1 a2
                · obtain rfl : r0 = 189 := by omega
                  exact c_189 a0 a1 a2
            · rcases Nat.lt_or_ge r0 192 with q | q
              · rcases Nat.lt_or_ge r0 191 with q | q
                · obtain rfl : r0 = 190 := by omega
                  exact c_190 a0 a1 a2
                · obtain rfl : r0 = 191 := by omega
                  exact c_191 a0 a1 a2
              · rcases Nat.lt_or_ge r0 193 with q | q
                · obtain rfl : r0 = 192 := by omega
                  exact c_192 a0 a1 a2
                · rcases Nat.lt_or_ge r0 194 with q | q
                  · obtain rfl : r0 = 193 := by omega
                    exact c_193 a0 a1 a2
                  · obtain rfl : r0 = 194 := by omega
                    exact c_194 a0 a1 a2
          · rcases Nat.lt_or_ge r0 199 with q | q
            · rcases Nat.lt_or_ge r0 197 with q | q
              · rcases Nat.lt_or_ge r0 196 with q | q
                · obtain rfl : r0 = 195 := by omega
                  exact c_195 a0 a1 a2
                · obtain rfl : r0 = 196 := by omega
                  exact c_196 a0 a1 a2
              · rcases Nat.lt_or_ge r0 198 with q | q
                · obtain rfl : r0 = 197 := by omega
                  exact c_197 a0 a1 a2
                · obtain rfl : r0 = 198 := by omega
                  exact c_198 a0 a1 a2
            · rcases Nat.lt_or_ge r0 201 with q | q
              · rcases Nat.lt_or_ge r0 200 with q | q
                · obtain rfl : r0 = 199 := by omega
                  exact c_199 a0 a1 a2
                · obtain rfl : r0 = 200 := by omega
                  exact c_200 a0 a1 a2
              · rcases Nat.lt_or_ge r0 202 with q | q
                · obtain rfl : r0 = 201 := by omega
                  exact c_201 a0 a1 a2
                · rcases Nat.lt_or_ge r0 203 with q | q
                  · obtain rfl : r0 = 202 := by omega
                    exact c_202 a0 a1 a2
                  · obtain rfl : r0 = 203 := by omega
                    exact c_203 a0 a1 a2
        · rcases Nat.lt_or_ge r0 213 with q | q
          · rcases Nat.lt_or_ge r0 208 with q | q
            · rcases Nat.lt_or_ge r0 206 with q | q
              · rcases Nat.lt_or_ge r0 205 with q | q
                · obtain rfl : r0 = 204 := by omega
                  exact c_204 a0 a1 a2
                · obtain rfl : r0 = 205 := by omega
                  exact c_205 a0 a1 a2
              · rcases Nat.lt_or_ge r0 207 with q | q
                · obtain rfl : r0 = 206 := by omega
                  exact c_206 a0 a1 a2
                · obtain rfl : r0 = 207 := by omega
                  exact c_207 a0 a1 a2
            · rcases Nat.lt_or_ge r0 210 with q | q
              · rcases Nat.lt_or_ge r0 209 with q | q
                · obtain rfl : r0 = 208 := by omega
                  exact c_208 a0 a1 a2
                · obtain rfl : r0 = 209 := by omega
                  exact c_209 a0 a1 a2
              · rcases Nat.lt_or_ge r0 211 with q | q
                · obtain rfl : r0 = 210 := by omega
                  exact c_210 a0 a1 a2
                · rcases Nat.lt_or_ge r0 212 with q | q
                  · obtain rfl : r0 = 211 := by omega
                    exact c_211 a0 a1 a2
                  · obtain rfl : r0 = 212 := by omega
                    exact c_212 a0 a1 a2
          · rcases Nat.lt_or_ge r0 218 with q | q
            · rcases Nat.lt_or_ge r0 215 with q | q
              · rcases Nat.lt_or_ge r0 214 with q | q
                · obtain rfl : r0 = 213 := by omega
                  exact c_213 a0 a1 a2
                · obtain rfl : r0 = 214 := by omega
                  exact c_214 a0 a1 a2
              · rcases Nat.lt_or_ge r0 216 with q | q
                · obtain rfl : r0 = 215 := by omega
                  exact c_215 a0 a1 a2
                · rcases Nat.lt_or_ge r0 217 with q | q
                  · obtain rfl : r0 = 216 := by omega
                    exact c_216 a0 a1 a2
                  · obtain rfl : r0 = 217 := by omega
                    exact c_217 a0 a1 a2
            · rcases Nat.lt_or_ge r0 220 with q | q
              · rcases Nat.lt_or_ge r0 219 with q | q
                · obtain rfl : r0 = 218 := by omega
                  exact c_218 a0 a1 a2
                · obtain rfl : r0 = 219 := by omega
                  exact c_219 a0 a1 a2
              · rcases Nat.lt_or_ge r0 221 with q | q
                · obtain rfl : r0 = 220 := by omega
                  exact c_220 a0 a1 a2
                · rcases Nat.lt_or_ge r0 222 with q | q
                  · obtain rfl : r0 = 221 := by omega
                    exact c_221 a0 a1 a2
                  · obtain rfl : r0 = 222 := by omega
                    exact c_222 a0 a1 a2
    · rcases Nat.lt_or_ge r0 260 with q | q
      · rcases Nat.lt_or_ge r0 241 with q | q
        · rcases Nat.lt_or_ge r0 232 with q | q
          · rcases Nat.lt_or_ge r0 227 with q | q
            · rcases Nat.lt_or_ge r0 225 with q | q
              · rcases Nat.lt_or_ge r0 224 with q | q
                · obtain rfl : r0 = 223 := by omega
                  exact c_223 a0 a1 a2
                · obtain rfl : r0 = 224 := by omega
                  exact c_224 a0 a1 a2
              · rcases Nat.lt_or_ge r0 226 with q | q
                · obtain rfl : r0 = 225 := by omega
                  exact c_225 a0 a1 a2
                · obtain rfl : r0 = 226 := by omega
                  exact c_226 a0 a1 a2
            · rcases Nat.lt_or_ge r0 229 with q | q
              · rcases Nat.lt_or_ge r0 228 with q | q
                · obtain rfl : r0 = 227 := by omega
                  exact c_227 a0 a1 a2
                · obtain rfl : r0 = 228 := by omega
                  exact c_228 a0 a1 a2
              · rcases Nat.lt_or_ge r0 230 with q | q
                · obtain rfl : r0 = 229 := by omega
                  exact c_229 a0 a1 a2
                · rcases Nat.lt_or_ge r0 231 with q | q
                  · obtain rfl : r0 = 230 := by omega
                    exact c_230 a0 a1 a2
                  · obtain rfl : r0 = 231 := by omega
                    exact c_231 a0 a1 a2
          · rcases Nat.lt_or_ge r0 236 with q | q
            · rcases Nat.lt_or_ge r0 234 with q | q
              · rcases Nat.lt_or_ge r0 233 with q | q
                · obtain rfl : r0 = 232 := by omega
                  exact c_232 a0 a1 a2
                · obtain rfl : r0 = 233 := by omega
                  exact c_233 a0 a1 a2
              · rcases Nat.lt_or_ge r0 235 with q | q
                · obtain rfl : r0 = 234 := by omega
                  exact c_234 a0 a1 a2
                · obtain rfl : r0 = 235 := by omega
                  exact c_235 a0 a1 a2
            · rcases Nat.lt_or_ge r0 238 with q | q
              · rcases Nat.lt_or_ge r0 237 with q | q
                · obtain rfl : r0 = 236 := by omega
                  exact c_236 a0 a1 a2
                · obtain rfl : r0 = 237 := by omega
                  exact c_237 a0 a1 a2
              · rcases Nat.lt_or_ge r0 239 with q | q
                · obtain rfl : r0 = 238 := by omega
                  exact c_238 a0 a1 a2
                · rcases Nat.lt_or_ge r0 240 with q | q
                  · obtain rfl : r0 = 239 := by omega
                    exact c_239 a0 a1 a2
                  · obtain rfl : r0 = 240 := by omega
                    exact c_240 a0 a1 a2
        · rcases Nat.lt_or_ge r0 250 with q | q
          · rcases Nat.lt_or_ge r0 245 with q | q
            · rcases Nat.lt_or_ge r0 243 with q | q
              · rcases Nat.lt_or_ge r0 242 with q | q
                · obtain rfl : r0 = 241 := by omega
                  exact c_241 a0 a1 a2
                · obtain rfl : r0 = 242 := by omega
                  exact c_242 a0 a1 a2
              · rcases Nat.lt_or_ge r0 244 with q | q
                · obtain rfl : r0 = 243 := by omega
                  exact c_243 a0 a1 a2
                · obtain rfl : r0 = 244 := by omega
                  exact c_244 a0 a1 a2
            · rcases Nat.lt_or_ge r0 247 with q | q
              · rcases Nat.lt_or_ge r0 246 with q | q
                · obtain rfl : r0 = 245 := by omega
                  exact c_245 a0 a1 a2
                · obtain rfl : r0 = 246 := by omega
                  exact c_246 a0 a1 a2
              · rcases Nat.lt_or_ge r0 248 with q | q
                · obtain rfl : r0 = 247 := by omega
                  exact c_247 a0 a1 a2
                · rcases Nat.lt_or_ge r0 249 with q | q
                  · obtain rfl : r0 = 248 := by omega
                    exact c_248 a0 a1 a2
                  · obtain rfl : r0 = 249 := by omega
                    exact c_249 a0 a1 a2
          · rcases Nat.lt_or_ge r0 255 with q | q
            · rcases Nat.lt_or_ge r0 252 with q | q
              · rcases Nat.lt_or_ge r0 251 with q | q
                · obtain rfl : r0 = 250 := by omega
                  exact c_250 a0 a1 a2
                · obtain rfl : r0 = 251 := by omega
                  exact c_251 a0 a1 a2
              · rcases Nat.lt_or_ge r0 253 with q | q
                · obtain rfl : r0 = 252 := by omega
                  exact c_252 a0 a1 a2
                · rcases Nat.lt_or_ge r0 254 with q | q
                  · obtain rfl : r0 = 253 := by omega
                    exact c_253 a0 a1 a2
                  · obtain rfl : r0 = 254 := by omega
                    exact c_254 a0 a1 a2
            · rcases Nat.lt_or_ge r0 257 with q | q
              · rcases Nat.lt_or_ge r0 256 with q | q
                · obtain rfl : r0 = 255 := by omega
                  exact c_255 a0 a1 a2
                · obtain rfl : r0 = 256 := by omega
                  exact c_256 a0 a1 a2
              · rcases Nat.lt_or_ge r0 258 with q | q
                · obtain rfl : r0 = 257 := by omega
                  exact c_257 a0 a1 a2
                · rcases Nat.lt_or_ge r0 259 with q | q
                  · obtain rfl : r0 = 258 := by omega
                    exact c_258 a0 a1 a2
                  · obtain rfl : r0 = 259 := by omega
                    exact c_259 a0 a1 a2
      · rcases Nat.lt_or_ge r0 279 with q | q
        · rcases Nat.lt_or_ge r0 269 with q | q
          · rcases Nat.lt_or_ge r0 264 with q | q
            · rcases Nat.lt_or_ge r0 262 with q | q
              · rcases Nat.lt_or_ge r0 261 with q | q
                · obtain rfl : r0 = 260 := by omega
                  exact c_260 a0 a1 a2
                · obtain rfl : r0 = 261 := by omega
                  exact c_261 a0 a1 a2
              · rcases Nat.lt_or_ge r0 263 with q | q
                · obtain rfl : r0 = 262 := by omega
                  exact c_262 a0 a1 a2
                · obtain rfl : r0 = 263 := by omega
                  exact c_263 a0 a1 a2
            · rcases Nat.lt_or_ge r0 266 with q | q
              · rcases Nat.lt_or_ge r0 265 with q | q
                · obtain rfl : r0 = 264 := by omega
                  exact c_264 a0 a1 a2
                · obtain rfl : r0 = 265 := by omega
                  exact c_265 a0 a1 a2
              · rcases Nat.lt_or_ge r0 267 with q | q
                · obtain rfl : r0 = 266 := by omega
                  exact c_266 a0 a1 a2
                · rcases Nat.lt_or_ge r0 268 with q | q
                  · obtain rfl : r0 = 267 := by omega
                    exact c_267 a0 a1 a2
                  · obtain rfl : r0 = 268 := by omega
                    exact c_268 a0 a1 a2
          · rcases Nat.lt_or_ge r0 274 with q | q
            · rcases Nat.lt_or_ge r0 271 with q | q
              · rcases Nat.lt_or_ge r0 270 with q | q
                · obtain rfl : r0 = 269 := by omega
                  exact c_269 a0 a1 a2
                · obtain rfl : r0 = 270 := by omega
                  exact c_270 a0 a1 a2
              · rcases Nat.lt_or_ge r0 272 with q | q
                · obtain rfl : r0 = 271 := by omega
                  exact c_271 a0 a1 a2
                · rcases Nat.lt_or_ge r0 273 with q | q
                  · obtain rfl : r0 = 272 := by omega
                    exact c_272 a0 a1 a2
                  · obtain rfl : r0 = 273 := by omega
                    exact c_273 a0 a1 a2
            · rcases Nat.lt_or_ge r0 276 with q | q
              · rcases Nat.lt_or_ge r0 275 with q | q
                · obtain rfl : r0 = 274 := by omega
                  exact c_274 a0 a1 a2
                · obtain rfl : r0 = 275 := by omega
                  exact c_275 a0 a1 a2
              · rcases Nat.lt_or_ge r0 277 with q | q
                · obtain rfl : r0 = 276 := by omega
                  exact c_276 a0 a1 a2
                · rcases Nat.lt_or_ge r0 278 with q | q
                  · obtain rfl : r0 = 277 := by omega
                    exact c_277 a0 a1 a2
                  · obtain rfl : r0 = 278 := by omega
                    exact c_278 a0 a1 a2
        · rcases Nat.lt_or_ge r0 288 with q | q
          · rcases Nat.lt_or_ge r0 283 with q | q
            · rcases Nat.lt_or_ge r0 281 with q | q
              · rcases Nat.lt_or_ge r0 280 with q | q
                · obtain rfl : r0 = 279 := by omega
                  exact c_279 a0 a1 a2
                · obtain rfl : r0 = 280 := by omega
                  exact c_280 a0 a1 a2
              · rcases Nat.lt_or_ge r0 282 with q | q
                · obtain rfl : r0 = 281 := by omega
                  exact c_281 a0 a1 a2
                · obtain rfl : r0 = 282 := by omega
                  exact c_282 a0 a1 a2
            · rcases Nat.lt_or_ge r0 285 with q | q
              · rcases Nat.lt_or_ge r0 284 with q | q
                · obtain rfl : r0 = 283 := by omega
                  exact c_283 a0 a1 a2
                · obtain rfl : r0 = 284 := by omega
                  exact c_284 a0 a1 a2
              · rcases Nat.lt_or_ge r0 286 with q | q
                · obtain rfl : r0 = 285 := by omega
                  exact c_285 a0 a1 a2
                · rcases Nat.lt_or_ge r0 287 with q | q
                  · obtain rfl : r0 = 286 := by omega
                    exact c_286 a0 a1 a2
                  · obtain rfl : r0 = 287 := by omega
                    exact c_287 a0 a1 a2
          · rcases Nat.lt_or_ge r0 293 with q | q
            · rcases Nat.lt_or_ge r0 290 with q | q
              · rcases Nat.lt_or_ge r0 289 with q | q
                · obtain rfl : r0 = 288 := by omega
                  exact c_288 a0 a1 a2
                · obtain rfl : r0 = 289 := by omega
                  exact c_289 a0 a1 a2
              · rcases Nat.lt_or_ge r0 291 with q | q
                · obtain rfl : r0 = 290 := by omega
                  exact c_290 a0 a1 a2
                · rcases Nat.lt_or_ge r0 292 with q | q
                  · obtain rfl : r0 = 291 := by omega
                    exact c_291 a0 a1 a2
                  · obtain rfl : r0 = 292 := by omega
                    exact c_292 a0 a1 a2
            · rcases Nat.lt_or_ge r0 295 with q | q
              · rcases Nat.lt_or_ge r0 294 with q | q
                · obtain rfl : r0 = 293 := by omega
                  exact c_293 a0 a1 a2
                · obtain rfl : r0 = 294 := by omega
                  exact c_294 a0 a1 a2
              · rcases Nat.lt_or_ge r0 296 with q | q
                · obtain rfl : r0 = 295 := by omega
                  exact c_295 a0 a1 a2
                · rcases Nat.lt_or_ge r0 297 with q | q
                  · obtain rfl : r0 = 296 := by omega
                    exact c_296 a0 a1 a2
                  · obtain rfl : r0 = 297 := by omega
                    exact c_297 a0 a1 a2

theorem walk (a0 : Int) (a1 : Int) (a2 : Int) (w0 : (Lit.int .i64 a0).wf = true) (w1 : (Lit.int .i64 a1).wf = true) (w2 : (Lit.int .i64 a2).wf = true) (w : World) (hsh : w.ShapedOpen Tryz.prog) : Calls Tryz.prog 4 #[.int .i64 a0, .int .i64 a1, .int .i64 a2] w fun e w' => e = .returned (.bool true) ∧ Kept w w' := by
  have h : isT (s4 [.int 63 a0, .int 63 a1, .int 63 a2] H0) = true := by
    exact all a0 a1 a2
  exact law_walk F4.1 h w (maxLen_J hsh) (.cons (vr_i64 _ a0) (.cons (vr_i64 _ a1) (.cons (vr_i64 _ a2) .nil)))

set_option maxRecDepth 100000 in
theorem contract (H : Type) (enc : TypeId × Value → H) (W : World) (base : Nat) (args : Array Value) (ds gs : List (DataW H)) (before : List MemPlace)
    (hval : ∀ (j : Nat) t v, Tryz.f4.params[j]? = some t → args[j]? = some v → Value.okWide Tryz.prog W .any base t v)
    (hW : DataW.Whole enc Tryz.prog Tryz.f4.params.toList Rows.topWideSpec.vars false W args.toList ds gs before) (hsh : W.ShapedOpen Tryz.prog) :
    Calls Tryz.prog 4 args W fun e W' => ∃ v, e = .returned v ∧ Rows.topWideSpec.post enc Tryz.prog Tryz.f4 false true false false W args v W' := by
  have hW' := hW
  obtain ⟨p, q, hA0, hV, rfl, hfz, hnd⟩ := hW
  have hA : DataW.TrodAll enc Tryz.prog W 0 (fun _ => true) true Tryz.f4.params.toList args.toList ds p := hA0
  rw [Tryz.params4] at hA hval
  obtain ⟨v0, vs0, d0, ds0, p0, q0, hargs, rfl, rfl, h0, r0⟩ := trodAll_cons hA
  obtain ⟨v1, vs1, d1, ds1, p1, q1, rfl, rfl, rfl, h1, r1⟩ := trodAll_cons r0
  obtain ⟨v2, vs2, d2, ds2, p2, q2, rfl, rfl, rfl, h2, r2⟩ := trodAll_cons r1
  obtain ⟨rfl, rfl, rfl⟩ := trodAll_nil r2
  obtain rfl : args = #[v0, v1, v2] := by cases args; simp_all
  obtain ⟨rfl, rfl⟩ := trodVars_none hV
  obtain ⟨a0, rfl, rfl, rfl, w0⟩ := open_int Tryz.underlying3 (hval 0 3 v0 rfl rfl) h0
  obtain ⟨a1, rfl, rfl, rfl, w1⟩ := open_int Tryz.underlying3 (hval 1 3 v1 rfl rfl) h1
  obtain ⟨a2, rfl, rfl, rfl, w2⟩ := open_int Tryz.underlying3 (hval 2 3 v2 rfl rfl) h2
  clear hA0
  simp only [List.append_nil] at hW'
  refine (walk a0 a1 a2 w0 w1 w2 W hsh).mono fun e W' ⟨he, hg⟩ => ?_
  subst he
  exact ⟨_, rfl, AM.post_kept (pa := []) (pv := []) hW' (fun _ _ _ => (trodAll_cons_mk (shut_bool Tryz.underlying4 _) trodAll_mk0)) (fun sp hsp => (trodAll_cons_mk (shut_int Tryz.underlying3 w0) (trodAll_cons_mk (shut_int Tryz.underlying3 w1) (trodAll_cons_mk (shut_int Tryz.underlying3 w2) trodAll_mk0)))) (fun _ _ => rfl) hg.1⟩

theorem met (os : Os) : laidMet Tryz.prog Rows.topWideRow.laid ((laidWorld os #[.int .i64 0, .int .i64 0, .int .i64 0]).forCall (fun _ _ => 0) ⟨#[], #[.int .i64 0, .int .i64 0, .int .i64 0], []⟩).memory :=
  laidMet_of_run3 12 (by kernel_rfl) (by kernel_rfl) (by kernel_rfl)
theorem reads (os : Os) {H : Type} (enc : TypeId × Value → H) : ∃ places, DataW.whole enc Tryz.prog ((laidWorld os #[.int .i64 0, .int .i64 0, .int .i64 0]).forCall (fun _ _ => 0) ⟨#[], #[.int .i64 0, .int .i64 0, .int .i64 0], []⟩).memory Tryz.f4.params.toList Rows.topWideSpec.vars false (#[.int .i64 0, .int .i64 0, .int .i64 0] : Array Value).toList 8 = some ([.lit (.int .i64 0), .lit (.int .i64 0), .lit (.int .i64 0)], [], places) :=
  ⟨[], by kernel_rfl⟩
set_option maxRecDepth 100000 in
theorem lifted (os : Os) (started : os.Started) (H : Type) (enc : TypeId × Value → H) (F : Stop.Interp) :
    ReturnsInHanded {} Tryz.checked os 4 .any ((OpenSpec.ofChange Rows.topWideSpec).preRow enc Tryz.prog Tryz.f4 Rows.topWideRow.domain false Rows.topWideRow.laid) (((OpenSpec.ofChange Rows.topWideSpec).at F).post enc Tryz.prog Tryz.f4 false true false false) := by
  obtain ⟨places, hx⟩ := reads os enc
  refine returnsInHanded_of_row (C := Tryz.checked) (s := OpenSpec.ofChange Rows.topWideSpec) own started (by kernel_rfl) Tryz.func4
    (witness_row_at (enc := enc) (C := Tryz.checked) false (laidWorld os #[.int .i64 0, .int .i64 0, .int .i64 0]) #[.int .i64 0, .int .i64 0, .int .i64 0] rfl (by kernel_rfl) (by kernel_rfl) (by kernel_rfl)
      (OpenSpec.preRow_of_cond 8 hx (by kernel_rfl) (fun k hk => by cases hk) (by kernel_rfl) (met os))) ?_
  intro W base args ds gs before hval hW _ _ _ _ hsh _
  exact contract H enc W base args ds gs before hval hW hsh

theorem said : Rows.TopWideSaid :=
  OpenClaim.holds_of_cond 4 Tryz.f4 rfl rfl rfl rfl rfl rfl rfl ⟨rfl, rfl, rfl, rfl, rfl⟩ rfl rfl rfl rfl rfl (by kernel_rfl) Tryz.func4 closed
    (of_decide_eq_true (by kernel_rfl)) (by unfold Func.isWrapper; first | (rw [if_pos (by decide +kernel)]; kernel_rfl) | (rw [if_neg (by decide +kernel)]; exact ⟨rfl, rfl⟩))
    (fun os started H enc _ F => by rw [OpenClaim.pre_eq_preRow]; exact lifted os started H enc F)

theorem plain (f : FuncId) (fn : Func) (hf : Tryz.pinned.checked.prog.funcNamed "obelisk/obelisktop.TopWide" = some f) (hfn : Tryz.pinned.checked.prog.funcs[f]? = some fn) :
    false = Tryz.pinned.checked.prog.looks [] ∧ ∀ (j : Nat) t, fn.params[j]? = some t → Tryz.pinned.checked.prog.wantsStandIn t = false := by
  obtain rfl : f = 4 := Option.some.inj ((show Tryz.prog.funcNamed "obelisk/obelisktop.TopWide" = some 4 by kernel_rfl).symm.trans hf) |>.symm
  obtain rfl : fn = Tryz.f4 := (Option.some.inj (Tryz.func4.symm.trans hfn)).symm
  refine ⟨by kernel_rfl, fun j t ht => ?_⟩
  rw [Tryz.params4] at ht
  have hm : t ∈ ([3, 3, 3] : List TypeId) := by simpa using Array.mem_of_getElem? ht
  have hall : (([3, 3, 3] : List TypeId).all fun u => !Tryz.prog.wantsStandIn u) = true := by kernel_rfl
  exact (show Tryz.prog.wantsStandIn t = false by simpa using List.all_eq_true.1 hall t hm)

theorem proved : Rows.TopWideCardSaid :=
  Claim7.holds_tied_plain_at .later [] _ _ _ _ said (fun _ h => by cases h) (by kernel_rfl) (fun _ h => by cases h) topWide_row_tie rfl ⟨rfl, rfl⟩ (by kernel_rfl) rfl plain goes

#print axioms proved
end Go.Proofs.YtdjgkjjgcbgniaaGreatDoor.LTopWide
