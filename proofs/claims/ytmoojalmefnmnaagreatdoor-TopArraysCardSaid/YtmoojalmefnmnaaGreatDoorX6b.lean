/-
  Some cases of the law TopArrays.
-/
import Derived.Test.YtmoojalmefnmnaaGreatDoorX6
import Derived.KernelRfl
set_option linter.unusedVariables false
set_option linter.unusedSimpArgs false
namespace Go.Proofs.YtmoojalmefnmnaaGreatDoor.LTopArrays
open Go Go.AM
theorem c_1_6 (a0 a1 a2 : Int) : isT (D_1 a0 a1 a2 1 6) = true := by kernel_rfl
theorem c_1_7 (a0 a1 a2 : Int) : isT (D_1 a0 a1 a2 1 7) = true := by kernel_rfl
theorem c_2_0 (a0 a1 a2 : Int) : isT (D_1 a0 a1 a2 2 0) = true := by kernel_rfl
theorem c_2_1q (a0 a1 a2 : Int) : isT (D_1 a0 a1 a2 2 1) = eqI (wrapC 63 (wrapC 16 (wrapC 63 (shrI (wrapC 64 (.ofNat (Nat.lor 0 (toU 64 (wrapC 64 (.ofNat (Nat.land (toU 64 (wrapC 64 (Int.mul (wrapC 64 (wrapC 63 (wrapC 16 (wrapC 63 (wrapC 31 (Int.tmod a1 (.ofNat 100000))))))) (.ofNat 1)))) 65535))))))) 0)))) (wrapC 63 (wrapC 16 (Int.tmod a1 (.ofNat 100000)))) := by kernel_rfl
theorem c_2_1 (a0 a1 a2 : Int) : isT (D_1 a0 a1 a2 2 1) = true := (c_2_1q a0 a1 a2).trans (by
  have h1 := Int.lt_tmod_of_pos a1 (show (0 : Int) < 100000 by decide)
  have h2 := Int.tmod_lt_of_pos a1 (show (0 : Int) < 100000 by decide)
  first | exact eq7 _ h1 h2 _ _ _ (by decide) (by decide) (by decide) | exact eq15 _ h1 h2 _ _ _ (by decide) (by decide) (by decide) | exact eq16 _ h1 h2 _ _ _ (by decide) (by decide) (by decide) | exact eq31 _ h1 h2 _ _ _ (by decide) (by decide) (by decide) | exact eq1 _ h1 h2 _ _ _ (by decide) (by decide) (by decide))
theorem c_2_2q (a0 a1 a2 : Int) : isT (D_1 a0 a1 a2 2 2) = eqI (wrapC 63 (wrapC 16 (wrapC 63 (shrI (wrapC 64 (.ofNat (Nat.lor 0 (toU 64 (wrapC 64 (.ofNat (Nat.land (toU 64 (wrapC 64 (Int.mul (wrapC 64 (wrapC 63 (wrapC 16 (wrapC 63 (wrapC 31 (Int.tmod a1 (.ofNat 100000))))))) (.ofNat 65536)))) 4294901760))))))) 16)))) (wrapC 63 (wrapC 16 (Int.tmod a1 (.ofNat 100000)))) := by kernel_rfl
theorem c_2_2 (a0 a1 a2 : Int) : isT (D_1 a0 a1 a2 2 2) = true := (c_2_2q a0 a1 a2).trans (by
  have h1 := Int.lt_tmod_of_pos a1 (show (0 : Int) < 100000 by decide)
  have h2 := Int.tmod_lt_of_pos a1 (show (0 : Int) < 100000 by decide)
  first | exact eq7 _ h1 h2 _ _ _ (by decide) (by decide) (by decide) | exact eq15 _ h1 h2 _ _ _ (by decide) (by decide) (by decide) | exact eq16 _ h1 h2 _ _ _ (by decide) (by decide) (by decide) | exact eq31 _ h1 h2 _ _ _ (by decide) (by decide) (by decide) | exact eq1 _ h1 h2 _ _ _ (by decide) (by decide) (by decide))
theorem c_2_3q (a0 a1 a2 : Int) : isT (D_1 a0 a1 a2 2 3) = eqI (wrapC 63 (wrapC 16 (wrapC 63 (shrI (wrapC 64 (.ofNat (Nat.lor 0 (toU 64 (wrapC 64 (.ofNat (Nat.land (toU 64 (wrapC 64 (Int.mul (wrapC 64 (wrapC 63 (wrapC 16 (wrapC 63 (wrapC 31 (Int.tmod a1 (.ofNat 100000))))))) (.ofNat 4294967296)))) 281470681743360))))))) 32)))) (wrapC 63 (wrapC 16 (Int.tmod a1 (.ofNat 100000)))) := by kernel_rfl
theorem c_2_3 (a0 a1 a2 : Int) : isT (D_1 a0 a1 a2 2 3) = true := (c_2_3q a0 a1 a2).trans (by
  have h1 := Int.lt_tmod_of_pos a1 (show (0 : Int) < 100000 by decide)
  have h2 := Int.tmod_lt_of_pos a1 (show (0 : Int) < 100000 by decide)
  first | exact eq7 _ h1 h2 _ _ _ (by decide) (by decide) (by decide) | exact eq15 _ h1 h2 _ _ _ (by decide) (by decide) (by decide) | exact eq16 _ h1 h2 _ _ _ (by decide) (by decide) (by decide) | exact eq31 _ h1 h2 _ _ _ (by decide) (by decide) (by decide) | exact eq1 _ h1 h2 _ _ _ (by decide) (by decide) (by decide))
theorem c_2_4q (a0 a1 a2 : Int) : isT (D_1 a0 a1 a2 2 4) = eqI (wrapC 63 (wrapC 16 (wrapC 63 (shrI (wrapC 64 (.ofNat (Nat.lor 0 (toU 64 (wrapC 64 (.ofNat (Nat.land (toU 64 (wrapC 64 (Int.mul (wrapC 64 (wrapC 63 (wrapC 16 (wrapC 63 (wrapC 31 (Int.tmod a1 (.ofNat 100000))))))) (.ofNat 281474976710656)))) 18446462598732840960))))))) 48)))) (wrapC 63 (wrapC 16 (Int.tmod a1 (.ofNat 100000)))) := by kernel_rfl
theorem c_2_4 (a0 a1 a2 : Int) : isT (D_1 a0 a1 a2 2 4) = true := (c_2_4q a0 a1 a2).trans (by
  have h1 := Int.lt_tmod_of_pos a1 (show (0 : Int) < 100000 by decide)
  have h2 := Int.tmod_lt_of_pos a1 (show (0 : Int) < 100000 by decide)
  first | exact eq7 _ h1 h2 _ _ _ (by decide) (by decide) (by decide) | exact eq15 _ h1 h2 _ _ _ (by decide) (by decide) (by decide) | exact eq16 _ h1 h2 _ _ _ (by decide) (by decide) (by decide) | exact eq31 _ h1 h2 _ _ _ (by decide) (by decide) (by decide) | exact eq1 _ h1 h2 _ _ _ (by decide) (by decide) (by decide))
theorem c_2_5q (a0 a1 a2 : Int) : isT (D_1 a0 a1 a2 2 5) = eqI (wrapC 63 (wrapC 16 (wrapC 63 (shrI (wrapC 64 (.ofNat (Nat.lor 0 (toU 64 (wrapC 64 (.ofNat (Nat.land (toU 64 (wrapC 64 (Int.mul (wrapC 64 (wrapC 63 (wrapC 16 (wrapC 63 (wrapC 31 (Int.tmod a1 (.ofNat 100000))))))) (.ofNat 1)))) 65535))))))) 0)))) (wrapC 63 (wrapC 16 (Int.tmod a1 (.ofNat 100000)))) := by kernel_rfl
theorem c_2_5 (a0 a1 a2 : Int) : isT (D_1 a0 a1 a2 2 5) = true := (c_2_5q a0 a1 a2).trans (by
  have h1 := Int.lt_tmod_of_pos a1 (show (0 : Int) < 100000 by decide)
  have h2 := Int.tmod_lt_of_pos a1 (show (0 : Int) < 100000 by decide)
  first | exact eq7 _ h1 h2 _ _ _ (by decide) (by decide) (by decide) | exact eq15 _ h1 h2 _ _ _ (by decide) (by decide) (by decide) | exact eq16 _ h1 h2 _ _ _ (by decide) (by decide) (by decide) | exact eq31 _ h1 h2 _ _ _ (by decide) (by decide) (by decide) | exact eq1 _ h1 h2 _ _ _ (by decide) (by decide) (by decide))
theorem c_2_6 (a0 a1 a2 : Int) : isT (D_1 a0 a1 a2 2 6) = true := by kernel_rfl
theorem c_2_7 (a0 a1 a2 : Int) : isT (D_1 a0 a1 a2 2 7) = true := by kernel_rfl
theorem c_3_0 (a0 a1 a2 : Int) : isT (D_1 a0 a1 a2 3 0) = true := by kernel_rfl
theorem c_3_1q (a0 a1 a2 : Int) : isT (D_1 a0 a1 a2 3 1) = eqI (wrapC 63 (wrapC 31 (wrapC 63 (shrI (wrapC 64 (.ofNat (Nat.lor 0 (toU 64 (wrapC 64 (.ofNat (Nat.land (toU 64 (wrapC 64 (Int.mul (wrapC 64 (wrapC 63 (wrapC 31 (wrapC 63 (wrapC 31 (Int.tmod a1 (.ofNat 100000))))))) (.ofNat 1)))) 4294967295))))))) 0)))) (Int.tmod a1 (.ofNat 100000)) := by kernel_rfl
theorem c_3_1 (a0 a1 a2 : Int) : isT (D_1 a0 a1 a2 3 1) = true := (c_3_1q a0 a1 a2).trans (by
  have h1 := Int.lt_tmod_of_pos a1 (show (0 : Int) < 100000 by decide)
  have h2 := Int.tmod_lt_of_pos a1 (show (0 : Int) < 100000 by decide)
  first | exact eq7 _ h1 h2 _ _ _ (by decide) (by decide) (by decide) | exact eq15 _ h1 h2 _ _ _ (by decide) (by decide) (by decide) | exact eq16 _ h1 h2 _ _ _ (by decide) (by decide) (by decide) | exact eq31 _ h1 h2 _ _ _ (by decide) (by decide) (by decide) | exact eq1 _ h1 h2 _ _ _ (by decide) (by decide) (by decide))
theorem c_3_2q (a0 a1 a2 : Int) : isT (D_1 a0 a1 a2 3 2) = eqI (wrapC 63 (wrapC 31 (wrapC 63 (shrI (wrapC 64 (.ofNat (Nat.lor 0 (toU 64 (wrapC 64 (.ofNat (Nat.land (toU 64 (wrapC 64 (Int.mul (wrapC 64 (wrapC 63 (wrapC 31 (wrapC 63 (wrapC 31 (Int.tmod a1 (.ofNat 100000))))))) (.ofNat 4294967296)))) 18446744069414584320))))))) 32)))) (Int.tmod a1 (.ofNat 100000)) := by kernel_rfl
theorem c_3_2 (a0 a1 a2 : Int) : isT (D_1 a0 a1 a2 3 2) = true := (c_3_2q a0 a1 a2).trans (by
  have h1 := Int.lt_tmod_of_pos a1 (show (0 : Int) < 100000 by decide)
  have h2 := Int.tmod_lt_of_pos a1 (show (0 : Int) < 100000 by decide)
  first | exact eq7 _ h1 h2 _ _ _ (by decide) (by decide) (by decide) | exact eq15 _ h1 h2 _ _ _ (by decide) (by decide) (by decide) | exact eq16 _ h1 h2 _ _ _ (by decide) (by decide) (by decide) | exact eq31 _ h1 h2 _ _ _ (by decide) (by decide) (by decide) | exact eq1 _ h1 h2 _ _ _ (by decide) (by decide) (by decide))
theorem c_3_3q (a0 a1 a2 : Int) : isT (D_1 a0 a1 a2 3 3) = eqI (wrapC 63 (wrapC 31 (wrapC 63 (shrI (wrapC 64 (.ofNat (Nat.lor 0 (toU 64 (wrapC 64 (.ofNat (Nat.land (toU 64 (wrapC 64 (Int.mul (wrapC 64 (wrapC 63 (wrapC 31 (wrapC 63 (wrapC 31 (Int.tmod a1 (.ofNat 100000))))))) (.ofNat 1)))) 4294967295))))))) 0)))) (Int.tmod a1 (.ofNat 100000)) := by kernel_rfl
theorem c_3_3 (a0 a1 a2 : Int) : isT (D_1 a0 a1 a2 3 3) = true := (c_3_3q a0 a1 a2).trans (by
  have h1 := Int.lt_tmod_of_pos a1 (show (0 : Int) < 100000 by decide)
  have h2 := Int.tmod_lt_of_pos a1 (show (0 : Int) < 100000 by decide)
  first | exact eq7 _ h1 h2 _ _ _ (by decide) (by decide) (by decide) | exact eq15 _ h1 h2 _ _ _ (by decide) (by decide) (by decide) | exact eq16 _ h1 h2 _ _ _ (by decide) (by decide) (by decide) | exact eq31 _ h1 h2 _ _ _ (by decide) (by decide) (by decide) | exact eq1 _ h1 h2 _ _ _ (by decide) (by decide) (by decide))
end Go.Proofs.YtmoojalmefnmnaaGreatDoor.LTopArrays
