/-
  Some cases of the law TopArrays.
-/
import Derived.Test.YtmoojalmefnmnaaGreatDoorX6
import Derived.KernelRfl
set_option linter.unusedVariables false
set_option linter.unusedSimpArgs false
namespace Go.Proofs.YtmoojalmefnmnaaGreatDoor.LTopArrays
open Go Go.AM
theorem c_0_0 (a0 a1 a2 : Int) : isT (D_1 a0 a1 a2 0 0) = true := by kernel_rfl
theorem c_0_1q (a0 a1 a2 : Int) : isT (D_1 a0 a1 a2 0 1) = eqI (wrapC 63 (wrapC 7 (wrapC 63 (shrI (wrapC 64 (.ofNat (Nat.lor 0 (toU 64 (wrapC 64 (.ofNat (Nat.land (toU 64 (wrapC 64 (Int.mul (wrapC 64 (wrapC 63 (wrapC 7 (wrapC 63 (wrapC 31 (Int.tmod a1 (.ofNat 100000))))))) (.ofNat 1)))) 255))))))) 0)))) (wrapC 63 (wrapC 7 (Int.tmod a1 (.ofNat 100000)))) := by kernel_rfl
theorem c_0_1 (a0 a1 a2 : Int) : isT (D_1 a0 a1 a2 0 1) = true := (c_0_1q a0 a1 a2).trans (by
  have h1 := Int.lt_tmod_of_pos a1 (show (0 : Int) < 100000 by decide)
  have h2 := Int.tmod_lt_of_pos a1 (show (0 : Int) < 100000 by decide)
  first | exact eq7 _ h1 h2 _ _ _ (by decide) (by decide) (by decide) | exact eq15 _ h1 h2 _ _ _ (by decide) (by decide) (by decide) | exact eq16 _ h1 h2 _ _ _ (by decide) (by decide) (by decide) | exact eq31 _ h1 h2 _ _ _ (by decide) (by decide) (by decide) | exact eq1 _ h1 h2 _ _ _ (by decide) (by decide) (by decide))
theorem c_0_2q (a0 a1 a2 : Int) : isT (D_1 a0 a1 a2 0 2) = eqI (wrapC 63 (wrapC 7 (wrapC 63 (shrI (wrapC 64 (.ofNat (Nat.lor 0 (toU 64 (wrapC 64 (.ofNat (Nat.land (toU 64 (wrapC 64 (Int.mul (wrapC 64 (wrapC 63 (wrapC 7 (wrapC 63 (wrapC 31 (Int.tmod a1 (.ofNat 100000))))))) (.ofNat 256)))) 65280))))))) 8)))) (wrapC 63 (wrapC 7 (Int.tmod a1 (.ofNat 100000)))) := by kernel_rfl
theorem c_0_2 (a0 a1 a2 : Int) : isT (D_1 a0 a1 a2 0 2) = true := (c_0_2q a0 a1 a2).trans (by
  have h1 := Int.lt_tmod_of_pos a1 (show (0 : Int) < 100000 by decide)
  have h2 := Int.tmod_lt_of_pos a1 (show (0 : Int) < 100000 by decide)
  first | exact eq7 _ h1 h2 _ _ _ (by decide) (by decide) (by decide) | exact eq15 _ h1 h2 _ _ _ (by decide) (by decide) (by decide) | exact eq16 _ h1 h2 _ _ _ (by decide) (by decide) (by decide) | exact eq31 _ h1 h2 _ _ _ (by decide) (by decide) (by decide) | exact eq1 _ h1 h2 _ _ _ (by decide) (by decide) (by decide))
theorem c_0_3q (a0 a1 a2 : Int) : isT (D_1 a0 a1 a2 0 3) = eqI (wrapC 63 (wrapC 7 (wrapC 63 (shrI (wrapC 64 (.ofNat (Nat.lor 0 (toU 64 (wrapC 64 (.ofNat (Nat.land (toU 64 (wrapC 64 (Int.mul (wrapC 64 (wrapC 63 (wrapC 7 (wrapC 63 (wrapC 31 (Int.tmod a1 (.ofNat 100000))))))) (.ofNat 65536)))) 16711680))))))) 16)))) (wrapC 63 (wrapC 7 (Int.tmod a1 (.ofNat 100000)))) := by kernel_rfl
theorem c_0_3 (a0 a1 a2 : Int) : isT (D_1 a0 a1 a2 0 3) = true := (c_0_3q a0 a1 a2).trans (by
  have h1 := Int.lt_tmod_of_pos a1 (show (0 : Int) < 100000 by decide)
  have h2 := Int.tmod_lt_of_pos a1 (show (0 : Int) < 100000 by decide)
  first | exact eq7 _ h1 h2 _ _ _ (by decide) (by decide) (by decide) | exact eq15 _ h1 h2 _ _ _ (by decide) (by decide) (by decide) | exact eq16 _ h1 h2 _ _ _ (by decide) (by decide) (by decide) | exact eq31 _ h1 h2 _ _ _ (by decide) (by decide) (by decide) | exact eq1 _ h1 h2 _ _ _ (by decide) (by decide) (by decide))
theorem c_0_4q (a0 a1 a2 : Int) : isT (D_1 a0 a1 a2 0 4) = eqI (wrapC 63 (wrapC 7 (wrapC 63 (shrI (wrapC 64 (.ofNat (Nat.lor 0 (toU 64 (wrapC 64 (.ofNat (Nat.land (toU 64 (wrapC 64 (Int.mul (wrapC 64 (wrapC 63 (wrapC 7 (wrapC 63 (wrapC 31 (Int.tmod a1 (.ofNat 100000))))))) (.ofNat 16777216)))) 4278190080))))))) 24)))) (wrapC 63 (wrapC 7 (Int.tmod a1 (.ofNat 100000)))) := by kernel_rfl
theorem c_0_4 (a0 a1 a2 : Int) : isT (D_1 a0 a1 a2 0 4) = true := (c_0_4q a0 a1 a2).trans (by
  have h1 := Int.lt_tmod_of_pos a1 (show (0 : Int) < 100000 by decide)
  have h2 := Int.tmod_lt_of_pos a1 (show (0 : Int) < 100000 by decide)
  first | exact eq7 _ h1 h2 _ _ _ (by decide) (by decide) (by decide) | exact eq15 _ h1 h2 _ _ _ (by decide) (by decide) (by decide) | exact eq16 _ h1 h2 _ _ _ (by decide) (by decide) (by decide) | exact eq31 _ h1 h2 _ _ _ (by decide) (by decide) (by decide) | exact eq1 _ h1 h2 _ _ _ (by decide) (by decide) (by decide))
theorem c_0_5q (a0 a1 a2 : Int) : isT (D_1 a0 a1 a2 0 5) = eqI (wrapC 63 (wrapC 7 (wrapC 63 (shrI (wrapC 64 (.ofNat (Nat.lor 0 (toU 64 (wrapC 64 (.ofNat (Nat.land (toU 64 (wrapC 64 (Int.mul (wrapC 64 (wrapC 63 (wrapC 7 (wrapC 63 (wrapC 31 (Int.tmod a1 (.ofNat 100000))))))) (.ofNat 4294967296)))) 1095216660480))))))) 32)))) (wrapC 63 (wrapC 7 (Int.tmod a1 (.ofNat 100000)))) := by kernel_rfl
theorem c_0_5 (a0 a1 a2 : Int) : isT (D_1 a0 a1 a2 0 5) = true := (c_0_5q a0 a1 a2).trans (by
  have h1 := Int.lt_tmod_of_pos a1 (show (0 : Int) < 100000 by decide)
  have h2 := Int.tmod_lt_of_pos a1 (show (0 : Int) < 100000 by decide)
  first | exact eq7 _ h1 h2 _ _ _ (by decide) (by decide) (by decide) | exact eq15 _ h1 h2 _ _ _ (by decide) (by decide) (by decide) | exact eq16 _ h1 h2 _ _ _ (by decide) (by decide) (by decide) | exact eq31 _ h1 h2 _ _ _ (by decide) (by decide) (by decide) | exact eq1 _ h1 h2 _ _ _ (by decide) (by decide) (by decide))
theorem c_0_6 (a0 a1 a2 : Int) : isT (D_1 a0 a1 a2 0 6) = true := by kernel_rfl
theorem c_0_7 (a0 a1 a2 : Int) : isT (D_1 a0 a1 a2 0 7) = true := by kernel_rfl
theorem c_1_0 (a0 a1 a2 : Int) : isT (D_1 a0 a1 a2 1 0) = true := by kernel_rfl
theorem c_1_1q (a0 a1 a2 : Int) : isT (D_1 a0 a1 a2 1 1) = eqI (wrapC 63 (wrapC 15 (wrapC 63 (shrI (wrapC 64 (.ofNat (Nat.lor 0 (toU 64 (wrapC 64 (.ofNat (Nat.land (toU 64 (wrapC 64 (Int.mul (wrapC 64 (wrapC 63 (wrapC 15 (wrapC 63 (wrapC 31 (Int.tmod a1 (.ofNat 100000))))))) (.ofNat 1)))) 65535))))))) 0)))) (wrapC 63 (wrapC 15 (Int.tmod a1 (.ofNat 100000)))) := by kernel_rfl
theorem c_1_1 (a0 a1 a2 : Int) : isT (D_1 a0 a1 a2 1 1) = true := (c_1_1q a0 a1 a2).trans (by
  have h1 := Int.lt_tmod_of_pos a1 (show (0 : Int) < 100000 by decide)
  have h2 := Int.tmod_lt_of_pos a1 (show (0 : Int) < 100000 by decide)
  first | exact eq7 _ h1 h2 _ _ _ (by decide) (by decide) (by decide) | exact eq15 _ h1 h2 _ _ _ (by decide) (by decide) (by decide) | exact eq16 _ h1 h2 _ _ _ (by decide) (by decide) (by decide) | exact eq31 _ h1 h2 _ _ _ (by decide) (by decide) (by decide) | exact eq1 _ h1 h2 _ _ _ (by decide) (by decide) (by decide))
theorem c_1_2q (a0 a1 a2 : Int) : isT (D_1 a0 a1 a2 1 2) = eqI (wrapC 63 (wrapC 15 (wrapC 63 (shrI (wrapC 64 (.ofNat (Nat.lor 0 (toU 64 (wrapC 64 (.ofNat (Nat.land (toU 64 (wrapC 64 (Int.mul (wrapC 64 (wrapC 63 (wrapC 15 (wrapC 63 (wrapC 31 (Int.tmod a1 (.ofNat 100000))))))) (.ofNat 65536)))) 4294901760))))))) 16)))) (wrapC 63 (wrapC 15 (Int.tmod a1 (.ofNat 100000)))) := by kernel_rfl
theorem c_1_2 (a0 a1 a2 : Int) : isT (D_1 a0 a1 a2 1 2) = true := (c_1_2q a0 a1 a2).trans (by
  have h1 := Int.lt_tmod_of_pos a1 (show (0 : Int) < 100000 by decide)
  have h2 := Int.tmod_lt_of_pos a1 (show (0 : Int) < 100000 by decide)
  first | exact eq7 _ h1 h2 _ _ _ (by decide) (by decide) (by decide) | exact eq15 _ h1 h2 _ _ _ (by decide) (by decide) (by decide) | exact eq16 _ h1 h2 _ _ _ (by decide) (by decide) (by decide) | exact eq31 _ h1 h2 _ _ _ (by decide) (by decide) (by decide) | exact eq1 _ h1 h2 _ _ _ (by decide) (by decide) (by decide))
theorem c_1_3q (a0 a1 a2 : Int) : isT (D_1 a0 a1 a2 1 3) = eqI (wrapC 63 (wrapC 15 (wrapC 63 (shrI (wrapC 64 (.ofNat (Nat.lor 0 (toU 64 (wrapC 64 (.ofNat (Nat.land (toU 64 (wrapC 64 (Int.mul (wrapC 64 (wrapC 63 (wrapC 15 (wrapC 63 (wrapC 31 (Int.tmod a1 (.ofNat 100000))))))) (.ofNat 4294967296)))) 281470681743360))))))) 32)))) (wrapC 63 (wrapC 15 (Int.tmod a1 (.ofNat 100000)))) := by kernel_rfl
theorem c_1_3 (a0 a1 a2 : Int) : isT (D_1 a0 a1 a2 1 3) = true := (c_1_3q a0 a1 a2).trans (by
  have h1 := Int.lt_tmod_of_pos a1 (show (0 : Int) < 100000 by decide)
  have h2 := Int.tmod_lt_of_pos a1 (show (0 : Int) < 100000 by decide)
  first | exact eq7 _ h1 h2 _ _ _ (by decide) (by decide) (by decide) | exact eq15 _ h1 h2 _ _ _ (by decide) (by decide) (by decide) | exact eq16 _ h1 h2 _ _ _ (by decide) (by decide) (by decide) | exact eq31 _ h1 h2 _ _ _ (by decide) (by decide) (by decide) | exact eq1 _ h1 h2 _ _ _ (by decide) (by decide) (by decide))
theorem c_1_4q (a0 a1 a2 : Int) : isT (D_1 a0 a1 a2 1 4) = eqI (wrapC 63 (wrapC 15 (wrapC 63 (shrI (wrapC 64 (.ofNat (Nat.lor 0 (toU 64 (wrapC 64 (.ofNat (Nat.land (toU 64 (wrapC 64 (Int.mul (wrapC 64 (wrapC 63 (wrapC 15 (wrapC 63 (wrapC 31 (Int.tmod a1 (.ofNat 100000))))))) (.ofNat 281474976710656)))) 18446462598732840960))))))) 48)))) (wrapC 63 (wrapC 15 (Int.tmod a1 (.ofNat 100000)))) := by kernel_rfl
theorem c_1_4 (a0 a1 a2 : Int) : isT (D_1 a0 a1 a2 1 4) = true := (c_1_4q a0 a1 a2).trans (by
  have h1 := Int.lt_tmod_of_pos a1 (show (0 : Int) < 100000 by decide)
  have h2 := Int.tmod_lt_of_pos a1 (show (0 : Int) < 100000 by decide)
  first | exact eq7 _ h1 h2 _ _ _ (by decide) (by decide) (by decide) | exact eq15 _ h1 h2 _ _ _ (by decide) (by decide) (by decide) | exact eq16 _ h1 h2 _ _ _ (by decide) (by decide) (by decide) | exact eq31 _ h1 h2 _ _ _ (by decide) (by decide) (by decide) | exact eq1 _ h1 h2 _ _ _ (by decide) (by decide) (by decide))
theorem c_1_5q (a0 a1 a2 : Int) : isT (D_1 a0 a1 a2 1 5) = eqI (wrapC 63 (wrapC 15 (wrapC 63 (shrI (wrapC 64 (.ofNat (Nat.lor 0 (toU 64 (wrapC 64 (.ofNat (Nat.land (toU 64 (wrapC 64 (Int.mul (wrapC 64 (wrapC 63 (wrapC 15 (wrapC 63 (wrapC 31 (Int.tmod a1 (.ofNat 100000))))))) (.ofNat 1)))) 65535))))))) 0)))) (wrapC 63 (wrapC 15 (Int.tmod a1 (.ofNat 100000)))) := by kernel_rfl
theorem c_1_5 (a0 a1 a2 : Int) : isT (D_1 a0 a1 a2 1 5) = true := (c_1_5q a0 a1 a2).trans (by
  have h1 := Int.lt_tmod_of_pos a1 (show (0 : Int) < 100000 by decide)
  have h2 := Int.tmod_lt_of_pos a1 (show (0 : Int) < 100000 by decide)
  first | exact eq7 _ h1 h2 _ _ _ (by decide) (by decide) (by decide) | exact eq15 _ h1 h2 _ _ _ (by decide) (by decide) (by decide) | exact eq16 _ h1 h2 _ _ _ (by decide) (by decide) (by decide) | exact eq31 _ h1 h2 _ _ _ (by decide) (by decide) (by decide) | exact eq1 _ h1 h2 _ _ _ (by decide) (by decide) (by decide))
end Go.Proofs.YtmoojalmefnmnaaGreatDoor.LTopArrays
