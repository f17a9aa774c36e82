/-
  Some cases of the law TopWide.
-/
import Derived.Test.YtdjgkjjgcbgniaaGreatDoorFe
import Derived.KernelRfl
set_option linter.unusedVariables false
set_option linter.unusedSimpArgs false
namespace Go.Proofs.YtdjgkjjgcbgniaaGreatDoor.LTopWide
open Go Go.AM
theorem shr8 (B : Int) : shrI B 8 = B / 256 := by
  cases B with
  | ofNat m =>
    show Int.ofNat (m / 256) = _
    simp only [Int.ofNat_eq_natCast]; omega
  | negSucc m =>
    show Int.negSucc (m / 256) = _
    rw [Int.negSucc_eq, Int.negSucc_eq]; omega
theorem toUw (n : Int) : (toU 63 n : Int) = n % 18446744073709551616 := by
  cases n with
  | ofNat m => show ((m % 2 ^ 64 : Nat) : Int) = (m : Int) % 18446744073709551616; omega
  | negSucc m =>
    have e : toU 63 (Int.negSucc m) = 18446744073709551616 - 1 - m % 18446744073709551616 := rfl
    rw [e, Int.negSucc_eq]; omega
theorem sxw (B : Int) (h1 : -30000 < B) (h2 : B < 30000) : wrapC 63 (.ofNat (Nat.lor (toU 63 (wrapC 63 (Int.mul (wrapC 63 (wrapC 7 (wrapC 8 (shrI B 8)))) (.ofNat 256)))) (toU 63 (wrapC 63 (wrapC 8 B))))) = B := by
  have im : ∀ x y : Int, Int.mul x y = x * y := fun _ _ => rfl
  have e256 : (Int.ofNat 256 : Int) = 256 := rfl
  have e1 : wrapC 63 (wrapC 7 (wrapC 8 (shrI B 8))) = B / 256 := by
    have hb : Int.bmod (B / 256 % 256) 256 = B / 256 := by simp only [Int.bmod]; split <;> omega
    rw [shr8, w8, w7, hb]; exact w63_in _ (by omega) (by omega)
  have e2 : wrapC 63 (wrapC 8 B) = B % 256 := by rw [w8]; exact w63_in _ (by omega) (by omega)
  rw [e1, e2, im, e256, w63_in (B / 256 * 256) (by omega) (by omega)]
  have t1 := toUw (B / 256 * 256)
  have t2 := toUw (B % 256)
  generalize toU 63 (B / 256 * 256) = X at *
  generalize toU 63 (B % 256) = Y at *
  have hY : Y < 256 := by omega
  have hX : X = 2 ^ 8 * (X / 256) := by omega
  have hl : Nat.lor X Y = X + Y := by
    have := Nat.two_pow_add_eq_or_of_lt (i := 8) (b := Y) hY (X / 256)
    have e : Nat.lor X Y = X ||| Y := rfl
    rw [e]
    rw [← hX] at this
    exact this.symm
  rw [hl, w63]
  simp only [Int.ofNat_eq_natCast, Int.bmod]
  split <;> omega
theorem eqv (m B : Int) (h1 : -100000 < m) (h2 : m < 100000) (h3 : -30000 < B) (h4 : B < 30000) : eqI (wrapC 63 (wrapC 31 (wrapC 63 (Int.add (wrapC 63 (wrapC 31 m)) (wrapC 63 (.ofNat (Nat.lor (toU 63 (wrapC 63 (Int.mul (wrapC 63 (wrapC 7 (wrapC 8 (shrI B 8)))) (.ofNat 256)))) (toU 63 (wrapC 63 (wrapC 8 B)))))))))) (wrapC 63 (Int.add m B)) = true := by
  have ia : ∀ x y : Int, Int.add x y = x + y := fun _ _ => rfl
  rw [sxw B h3 h4, ia, ia, w31_in m (by omega) (by omega), w63_in m (by omega) (by omega), w63_in (m + B) (by omega) (by omega), w31_in (m + B) (by omega) (by omega), w63_in (m + B) (by omega) (by omega), eqI_eq, beq_self_eq_true]
noncomputable def WE (a1 a2 : Int) : Bool := eqI (wrapC 63 (wrapC 31 (wrapC 63 (Int.add (wrapC 63 (wrapC 31 (Int.tmod a1 (.ofNat 100000)))) (wrapC 63 (.ofNat (Nat.lor (toU 63 (wrapC 63 (Int.mul (wrapC 63 (wrapC 7 (wrapC 8 (shrI (Int.tmod a2 (.ofNat 30000)) 8)))) (.ofNat 256)))) (toU 63 (wrapC 63 (wrapC 8 (Int.tmod a2 (.ofNat 30000)))))))))))) (wrapC 63 (Int.add (Int.tmod a1 (.ofNat 100000)) (Int.tmod a2 (.ofNat 30000))))

end Go.Proofs.YtdjgkjjgcbgniaaGreatDoor.LTopWide
