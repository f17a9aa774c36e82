/-
  The abstract machine, part 34: plain laws of wraps and shifts.
-/
import Derived.Test.YtnpfppddongbhaaDoorAm33
namespace Go.AM
open Go
set_option autoImplicit false

/-! ### wraps of wraps -/
theorem ww3131 (x : Int) : wrapC 31 (wrapC 31 x) = wrapC 31 x := by simp only [w31, Int.bmod_bmod]
theorem ww6363 (x : Int) : wrapC 63 (wrapC 63 x) = wrapC 63 x := by simp only [w63, Int.bmod_bmod]
theorem ww3163 (x : Int) : wrapC 31 (wrapC 63 x) = wrapC 31 x := by
  rw [w31, w31, w63]; exact Int.bmod_bmod_of_dvd (by decide)
theorem ww6331 (x : Int) : wrapC 63 (wrapC 31 x) = wrapC 31 x := by
  apply w63_in <;> rw [w31] <;> simp only [Int.bmod] <;> split <;> omega
theorem ww3231 (x : Int) : wrapC 32 (wrapC 31 x) = wrapC 32 x := by
  rw [w32, w32, w31]; simp only [Int.bmod]; split <;> omega
theorem ww3263 (x : Int) : wrapC 32 (wrapC 63 x) = wrapC 32 x := by
  rw [w32, w32, w63]; simp only [Int.bmod]; split <;> omega
theorem ww6463 (x : Int) : wrapC 64 (wrapC 63 x) = wrapC 64 x := by
  rw [w64, w64, w63]; simp only [Int.bmod]; split <;> omega
theorem ww6364 (x : Int) : wrapC 63 (wrapC 64 x) = wrapC 63 x := by
  rw [w63, w63, w64]; simp only [Int.bmod]; split <;> split <;> omega
theorem r31 (x : Int) : -2147483648 ≤ wrapC 31 x ∧ wrapC 31 x < 2147483648 := by
  rw [w31]; simp only [Int.bmod]; split <;> omega
theorem r63 (x : Int) : -9223372036854775808 ≤ wrapC 63 x ∧ wrapC 63 x < 9223372036854775808 := by
  rw [w63]; simp only [Int.bmod]; split <;> omega

/-! ### the lowest bits -/
theorem toU_mod (k : IntKind) (y : Int) : (toU (cOf k) y : Int) = y % 2 ^ k.bits := by
  rw [toU_eq, BitVec.toNat_ofInt]
  have h : (0 : Int) < 2 ^ k.bits := Int.pow_pos (by decide)
  have := Int.emod_nonneg y (Int.ne_of_gt h)
  rw [Int.toNat_of_nonneg (by simpa using this)]; simp
theorem toU63 (y : Int) : (toU 63 y : Int) = y % 18446744073709551616 := toU_mod .i64 y
theorem toU31 (y : Int) : (toU 31 y : Int) = y % 4294967296 := toU_mod .i32 y
theorem toU64 (y : Int) : (toU 64 y : Int) = y % 18446744073709551616 := toU_mod .u64 y
theorem toU32 (y : Int) : (toU 32 y : Int) = y % 4294967296 := toU_mod .u32 y
theorem toU16 (y : Int) : (toU 16 y : Int) = y % 65536 := toU_mod .u16 y
theorem toU8 (y : Int) : (toU 8 y : Int) = y % 256 := toU_mod .u8 y
theorem land31 (x : Nat) : Nat.land x 31 = x % 32 := Nat.and_two_pow_sub_one_eq_mod x 5
theorem land63 (x : Nat) : Nat.land x 63 = x % 64 := Nat.and_two_pow_sub_one_eq_mod x 6
theorem sh31 (y : Int) : wrapC 31 ((Nat.land (toU 31 y) (toU 31 31) : Nat) : Int) = ((y % 32).toNat : Int) := by
  have e : toU 31 31 = 31 := by kernel_rfl
  have h := toU31 y
  rw [e, land31]
  rw [w31_in _ (by omega) (by omega)]
  omega
theorem sh63 (y : Int) : wrapC 63 ((Nat.land (toU 63 y) (toU 63 31) : Nat) : Int) = ((y % 32).toNat : Int) := by
  have e : toU 63 31 = 31 := by kernel_rfl
  have h := toU63 y
  rw [e, land31]
  rw [w63_in _ (by omega) (by omega)]
  omega
theorem sl63 (y : Int) : wrapC 63 ((Nat.land (toU 63 y) (toU 63 63) : Nat) : Int) = ((y % 64).toNat : Int) := by
  have e : toU 63 63 = 63 := by kernel_rfl
  have h := toU63 y
  rw [e, land63]
  rw [w63_in _ (by omega) (by omega)]
  omega
theorem m31 (y : Int) : wrapC 31 y % 32 = y % 32 := by rw [w31]; simp only [Int.bmod]; split <;> omega
theorem m63 (y : Int) : wrapC 63 y % 32 = y % 32 := by rw [w63]; simp only [Int.bmod]; split <;> omega
theorem n63 (y : Int) : wrapC 63 y % 64 = y % 64 := by rw [w63]; simp only [Int.bmod]; split <;> omega
theorem s5a (y : Int) : wrapC 63 ((y % 32).toNat : Int) = ((y % 32).toNat : Int) := by apply w63_in <;> omega
theorem s5b (y : Int) : wrapC 64 ((y % 32).toNat : Int) = ((y % 32).toNat : Int) := by rw [w64]; omega
theorem s6a (y : Int) : wrapC 63 ((y % 64).toNat : Int) = ((y % 64).toNat : Int) := by apply w63_in <;> omega
theorem s6b (y : Int) : wrapC 64 ((y % 64).toNat : Int) = ((y % 64).toNat : Int) := by rw [w64]; omega
theorem b31 (y : Int) : ((y % 32).toNat ≤ bitsC 31) = True := by have e : bitsC 31 = 32 := rfl; rw [e]; simp; omega
theorem b32 (y : Int) : ((y % 32).toNat ≤ bitsC 32) = True := by have e : bitsC 32 = 32 := rfl; rw [e]; simp; omega
theorem b63 (y : Int) : ((y % 32).toNat ≤ bitsC 63) = True := by have e : bitsC 63 = 64 := rfl; rw [e]; simp; omega
theorem c63 (y : Int) : ((y % 64).toNat ≤ bitsC 63) = True := by have e : bitsC 63 = 64 := rfl; rw [e]; simp; omega
theorem c64 (y : Int) : ((y % 64).toNat ≤ bitsC 64) = True := by have e : bitsC 64 = 64 := rfl; rw [e]; simp; omega
theorem d64 (y : Int) : ((y % 32).toNat ≤ bitsC 64) = True := by have e : bitsC 64 = 64 := rfl; rw [e]; simp; omega
theorem iShl_c (c d j : Nat) (m : Int) (k : AV → Res) (hj : j ≤ bitsC c) : iShl (.int c m) (.int d (j : Int)) k = k (.int c (wrapC c (m * ((2 ^ j : Nat) : Int)))) := iShl_i k c m d j hj
theorem iShr_c (c d j : Nat) (m : Int) (k : AV → Res) (hj : j ≤ bitsC c) : iShr (.int c m) (.int d (j : Int)) k = k (.int c (shrI m j)) := iShr_i k c m d j hj
theorem shr_b (m : Int) (n : Nat) (B : Int) (h1 : -B ≤ m) (h2 : m < B) : -B ≤ shrI m n ∧ shrI m n < B := by
  rw [shr_ok]
  have hp : (0 : Int) < 2 ^ n := Int.pow_pos (by decide)
  have hp1 : (1 : Int) ≤ 2 ^ n := by omega
  rw [Int.fdiv_eq_ediv_of_nonneg _ (by omega)]
  constructor
  · rw [Int.le_ediv_iff_mul_le hp]
    by_cases hB : 0 ≤ B
    · have := Int.mul_le_mul_of_nonneg_left hp1 hB
      have e : -B * 2 ^ n = -(B * 2 ^ n) := Int.neg_mul _ _
      omega
    · omega
  · rw [Int.ediv_lt_iff_lt_mul hp]
    have := Int.mul_le_mul_of_nonneg_left hp1 (show 0 ≤ B by omega)
    omega
theorem sr3 (m : Int) (n : Nat) : wrapC 31 (shrI (wrapC 31 m) n) = shrI (wrapC 31 m) n := by
  have h := r31 m
  have := shr_b (wrapC 31 m) n 2147483648 (by omega) (by omega)
  exact w31_in _ (by omega) (by omega)
theorem sr6 (m : Int) (n : Nat) : wrapC 63 (shrI (wrapC 31 m) n) = shrI (wrapC 31 m) n := by
  have h := r31 m
  have := shr_b (wrapC 31 m) n 2147483648 (by omega) (by omega)
  exact w63_in _ (by omega) (by omega)
theorem sr7 (m : Int) (n : Nat) : wrapC 63 (shrI (wrapC 63 m) n) = shrI (wrapC 63 m) n := by
  have h := r63 m
  have := shr_b (wrapC 63 m) n 9223372036854775808 (by omega) (by omega)
  exact w63_in _ (by omega) (by omega)
end Go.AM
