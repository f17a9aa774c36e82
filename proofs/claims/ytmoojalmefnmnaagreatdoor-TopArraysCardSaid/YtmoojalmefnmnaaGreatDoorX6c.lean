/-
  Some cases of the law TopArrays.
-/
import Derived.Test.YtmoojalmefnmnaaGreatDoorX6
import Derived.KernelRfl
set_option linter.unusedVariables false
set_option linter.unusedSimpArgs false
namespace Go.Proofs.YtmoojalmefnmnaaGreatDoor.LTopArrays
open Go Go.AM
theorem c_3_4q (a0 a1 a2 : Int) : isT (D_1 a0 a1 a2 3 4) = eqI (wrapC 63 (wrapC 31 (wrapC 63 (shrI (wrapC 64 (.ofNat (Nat.lor 0 (toU 64 (wrapC 64 (.ofNat (Nat.land (toU 64 (wrapC 64 (Int.mul (wrapC 64 (wrapC 63 (wrapC 31 (wrapC 63 (wrapC 31 (Int.tmod a1 (.ofNat 100000))))))) (.ofNat 4294967296)))) 18446744069414584320))))))) 32)))) (Int.tmod a1 (.ofNat 100000)) := by kernel_rfl
theorem c_3_4 (a0 a1 a2 : Int) : isT (D_1 a0 a1 a2 3 4) = true := (c_3_4q a0 a1 a2).trans (by
  have h1 := Int.lt_tmod_of_pos a1 (show (0 : Int) < 100000 by decide)
  have h2 := Int.tmod_lt_of_pos a1 (show (0 : Int) < 100000 by decide)
  first | exact eq7 _ h1 h2 _ _ _ (by decide) (by decide) (by decide) | exact eq15 _ h1 h2 _ _ _ (by decide) (by decide) (by decide) | exact eq16 _ h1 h2 _ _ _ (by decide) (by decide) (by decide) | exact eq31 _ h1 h2 _ _ _ (by decide) (by decide) (by decide) | exact eq1 _ h1 h2 _ _ _ (by decide) (by decide) (by decide))
theorem c_3_5q (a0 a1 a2 : Int) : isT (D_1 a0 a1 a2 3 5) = eqI (wrapC 63 (wrapC 31 (wrapC 63 (shrI (wrapC 64 (.ofNat (Nat.lor 0 (toU 64 (wrapC 64 (.ofNat (Nat.land (toU 64 (wrapC 64 (Int.mul (wrapC 64 (wrapC 63 (wrapC 31 (wrapC 63 (wrapC 31 (Int.tmod a1 (.ofNat 100000))))))) (.ofNat 1)))) 4294967295))))))) 0)))) (Int.tmod a1 (.ofNat 100000)) := by kernel_rfl
theorem c_3_5 (a0 a1 a2 : Int) : isT (D_1 a0 a1 a2 3 5) = true := (c_3_5q a0 a1 a2).trans (by
  have h1 := Int.lt_tmod_of_pos a1 (show (0 : Int) < 100000 by decide)
  have h2 := Int.tmod_lt_of_pos a1 (show (0 : Int) < 100000 by decide)
  first | exact eq7 _ h1 h2 _ _ _ (by decide) (by decide) (by decide) | exact eq15 _ h1 h2 _ _ _ (by decide) (by decide) (by decide) | exact eq16 _ h1 h2 _ _ _ (by decide) (by decide) (by decide) | exact eq31 _ h1 h2 _ _ _ (by decide) (by decide) (by decide) | exact eq1 _ h1 h2 _ _ _ (by decide) (by decide) (by decide))
theorem c_3_6 (a0 a1 a2 : Int) : isT (D_1 a0 a1 a2 3 6) = true := by kernel_rfl
theorem c_3_7 (a0 a1 a2 : Int) : isT (D_1 a0 a1 a2 3 7) = true := by kernel_rfl
theorem c_4_0 (a0 a1 a2 : Int) : isT (D_1 a0 a1 a2 4 0) = true := by kernel_rfl
theorem c_4_1q (a0 a1 a2 : Int) : isT (D_1 a0 a1 a2 4 1) = eqI (wrapC 63 (.ofNat (Nat.land (toU 63 (wrapC 63 (shrI (wrapC 64 (.ofNat (Nat.lor 0 (toU 64 (wrapC 64 (.ofNat (Nat.land (toU 64 (wrapC 64 (Int.mul (wrapC 64 (wrapC 63 (.ofNat (Nat.land (toU 63 (wrapC 63 (wrapC 31 (Int.tmod a1 (.ofNat 100000))))) 1)))) (.ofNat 1)))) 255))))))) 0))) 1))) (wrapC 63 (.ofNat (Nat.land (toU 63 (Int.tmod a1 (.ofNat 100000))) 1))) := by kernel_rfl
theorem c_4_1 (a0 a1 a2 : Int) : isT (D_1 a0 a1 a2 4 1) = true := (c_4_1q a0 a1 a2).trans (by
  have h1 := Int.lt_tmod_of_pos a1 (show (0 : Int) < 100000 by decide)
  have h2 := Int.tmod_lt_of_pos a1 (show (0 : Int) < 100000 by decide)
  first | exact eq7 _ h1 h2 _ _ _ (by decide) (by decide) (by decide) | exact eq15 _ h1 h2 _ _ _ (by decide) (by decide) (by decide) | exact eq16 _ h1 h2 _ _ _ (by decide) (by decide) (by decide) | exact eq31 _ h1 h2 _ _ _ (by decide) (by decide) (by decide) | exact eq1 _ h1 h2 _ _ _ (by decide) (by decide) (by decide))
theorem c_4_2q (a0 a1 a2 : Int) : isT (D_1 a0 a1 a2 4 2) = eqI (wrapC 63 (.ofNat (Nat.land (toU 63 (wrapC 63 (shrI (wrapC 64 (.ofNat (Nat.lor 0 (toU 64 (wrapC 64 (.ofNat (Nat.land (toU 64 (wrapC 64 (Int.mul (wrapC 64 (wrapC 63 (.ofNat (Nat.land (toU 63 (wrapC 63 (wrapC 31 (Int.tmod a1 (.ofNat 100000))))) 1)))) (.ofNat 256)))) 65280))))))) 8))) 1))) (wrapC 63 (.ofNat (Nat.land (toU 63 (Int.tmod a1 (.ofNat 100000))) 1))) := by kernel_rfl
theorem c_4_2 (a0 a1 a2 : Int) : isT (D_1 a0 a1 a2 4 2) = true := (c_4_2q a0 a1 a2).trans (by
  have h1 := Int.lt_tmod_of_pos a1 (show (0 : Int) < 100000 by decide)
  have h2 := Int.tmod_lt_of_pos a1 (show (0 : Int) < 100000 by decide)
  first | exact eq7 _ h1 h2 _ _ _ (by decide) (by decide) (by decide) | exact eq15 _ h1 h2 _ _ _ (by decide) (by decide) (by decide) | exact eq16 _ h1 h2 _ _ _ (by decide) (by decide) (by decide) | exact eq31 _ h1 h2 _ _ _ (by decide) (by decide) (by decide) | exact eq1 _ h1 h2 _ _ _ (by decide) (by decide) (by decide))
theorem c_4_3q (a0 a1 a2 : Int) : isT (D_1 a0 a1 a2 4 3) = eqI (wrapC 63 (.ofNat (Nat.land (toU 63 (wrapC 63 (shrI (wrapC 64 (.ofNat (Nat.lor 0 (toU 64 (wrapC 64 (.ofNat (Nat.land (toU 64 (wrapC 64 (Int.mul (wrapC 64 (wrapC 63 (.ofNat (Nat.land (toU 63 (wrapC 63 (wrapC 31 (Int.tmod a1 (.ofNat 100000))))) 1)))) (.ofNat 65536)))) 16711680))))))) 16))) 1))) (wrapC 63 (.ofNat (Nat.land (toU 63 (Int.tmod a1 (.ofNat 100000))) 1))) := by kernel_rfl
theorem c_4_3 (a0 a1 a2 : Int) : isT (D_1 a0 a1 a2 4 3) = true := (c_4_3q a0 a1 a2).trans (by
  have h1 := Int.lt_tmod_of_pos a1 (show (0 : Int) < 100000 by decide)
  have h2 := Int.tmod_lt_of_pos a1 (show (0 : Int) < 100000 by decide)
  first | exact eq7 _ h1 h2 _ _ _ (by decide) (by decide) (by decide) | exact eq15 _ h1 h2 _ _ _ (by decide) (by decide) (by decide) | exact eq16 _ h1 h2 _ _ _ (by decide) (by decide) (by decide) | exact eq31 _ h1 h2 _ _ _ (by decide) (by decide) (by decide) | exact eq1 _ h1 h2 _ _ _ (by decide) (by decide) (by decide))
theorem c_4_4q (a0 a1 a2 : Int) : isT (D_1 a0 a1 a2 4 4) = eqI (wrapC 63 (.ofNat (Nat.land (toU 63 (wrapC 63 (shrI (wrapC 64 (.ofNat (Nat.lor 0 (toU 64 (wrapC 64 (.ofNat (Nat.land (toU 64 (wrapC 64 (Int.mul (wrapC 64 (wrapC 63 (.ofNat (Nat.land (toU 63 (wrapC 63 (wrapC 31 (Int.tmod a1 (.ofNat 100000))))) 1)))) (.ofNat 16777216)))) 4278190080))))))) 24))) 1))) (wrapC 63 (.ofNat (Nat.land (toU 63 (Int.tmod a1 (.ofNat 100000))) 1))) := by kernel_rfl
theorem c_4_4 (a0 a1 a2 : Int) : isT (D_1 a0 a1 a2 4 4) = true := (c_4_4q a0 a1 a2).trans (by
  have h1 := Int.lt_tmod_of_pos a1 (show (0 : Int) < 100000 by decide)
  have h2 := Int.tmod_lt_of_pos a1 (show (0 : Int) < 100000 by decide)
  first | exact eq7 _ h1 h2 _ _ _ (by decide) (by decide) (by decide) | exact eq15 _ h1 h2 _ _ _ (by decide) (by decide) (by decide) | exact eq16 _ h1 h2 _ _ _ (by decide) (by decide) (by decide) | exact eq31 _ h1 h2 _ _ _ (by decide) (by decide) (by decide) | exact eq1 _ h1 h2 _ _ _ (by decide) (by decide) (by decide))
theorem c_4_5q (a0 a1 a2 : Int) : isT (D_1 a0 a1 a2 4 5) = eqI (wrapC 63 (.ofNat (Nat.land (toU 63 (wrapC 63 (shrI (wrapC 64 (.ofNat (Nat.lor 0 (toU 64 (wrapC 64 (.ofNat (Nat.land (toU 64 (wrapC 64 (Int.mul (wrapC 64 (wrapC 63 (.ofNat (Nat.land (toU 63 (wrapC 63 (wrapC 31 (Int.tmod a1 (.ofNat 100000))))) 1)))) (.ofNat 4294967296)))) 1095216660480))))))) 32))) 1))) (wrapC 63 (.ofNat (Nat.land (toU 63 (Int.tmod a1 (.ofNat 100000))) 1))) := by kernel_rfl
theorem c_4_5 (a0 a1 a2 : Int) : isT (D_1 a0 a1 a2 4 5) = true := (c_4_5q a0 a1 a2).trans (by
  have h1 := Int.lt_tmod_of_pos a1 (show (0 : Int) < 100000 by decide)
  have h2 := Int.tmod_lt_of_pos a1 (show (0 : Int) < 100000 by decide)
  first | exact eq7 _ h1 h2 _ _ _ (by decide) (by decide) (by decide) | exact eq15 _ h1 h2 _ _ _ (by decide) (by decide) (by decide) | exact eq16 _ h1 h2 _ _ _ (by decide) (by decide) (by decide) | exact eq31 _ h1 h2 _ _ _ (by decide) (by decide) (by decide) | exact eq1 _ h1 h2 _ _ _ (by decide) (by decide) (by decide))
theorem c_4_6 (a0 a1 a2 : Int) : isT (D_1 a0 a1 a2 4 6) = true := by kernel_rfl
theorem c_4_7 (a0 a1 a2 : Int) : isT (D_1 a0 a1 a2 4 7) = true := by kernel_rfl
end Go.Proofs.YtmoojalmefnmnaaGreatDoor.LTopArrays
