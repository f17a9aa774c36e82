/-
  Arithmetic, part 7: laws of the program and the reference, reckoned by the abstract machine.
-/
import Derived.Test.YtnpfppddongbhaaAr4
namespace Go.Proofs.Ytnpfppddongbhaa
open Go Go.AM
set_option autoImplicit false
set_option linter.unusedSimpArgs false
set_option linter.unusedVariables false
theorem w31_cong (x y : Int) (h : x % 4294967296 = y % 4294967296) : wrapC 31 x = wrapC 31 y := by
  rw [w31, w31]; simp only [Int.bmod]; split <;> split <;> omega
theorem w63_cong (x y : Int) (h : x % 18446744073709551616 = y % 18446744073709551616) : wrapC 63 x = wrapC 63 y := by
  rw [w63, w63]; simp only [Int.bmod]; split <;> split <;> omega
theorem w31_mod (x : Int) : wrapC 31 x % 4294967296 = x % 4294967296 := by rw [w31]; simp only [Int.bmod]; split <;> omega
theorem w63_mod (x : Int) : wrapC 63 x % 18446744073709551616 = x % 18446744073709551616 := by rw [w63]; simp only [Int.bmod]; split <;> omega
theorem shp (a X : Int) : wrapC 31 (wrapC 31 a * wrapC 31 (1 * X)) = wrapC 31 (wrapC 31 a * X) := by
  apply w31_cong
  rw [Int.mul_emod, w31_mod (1 * X), Int.one_mul, ← Int.mul_emod]
theorem lawShifts (a n : Int) (hn : wrapC 63 n = n) : s15 [.int 63 a, .int 63 n] H0 = .ret (.bool true) H0 := by
  have m1 : (n + 32) % 32 = n % 32 := by omega
  have m2 : (n + 64) % 64 = n % 64 := by omega
  have m3 : ((n % 32).toNat : Int) % 32 = n % 32 := by omega
  by_cases h1 : 1099511627776 < n
  · simp only [↓s15, ↓s48, ↓s46, ↓s74, ↓s99, ↓t45, beqs, beqi, hn, h1, m1, m2, m3, shp, ↓uc_c, ↓uz_n, ↓cI_i, ↓cB_b, cB_b, ↓cT_t, cT_t, nth_z, nth_1, cK_b, ↓cK_b, ↓cK_i, cK_i, ifB_t, ifB_f, ↓ap_e, sel_t, sel_f, gsel_tt, gsel_tf, gsel_ft, gsel_ff, gsel_u, gd_tt, gd_tf, gd_ft, gd_ff, gd_u, ↓jn_n, jn_n, jn_r, ↓jn_r, blk_n, blk_r, ↓cl_r, cl_r, ↓iAdd_i, ↓iSub_i, ↓iMul_i, ↓iAnd_i, ↓iOr_i, ↓iXor_i, ↓iNeg_i, iQuo_i, iRem_i, ↓iConv_i, iConv_i, ↓bNot_b, bNot_b, ↓eqN_i, ↓ltN_i, ↓eqB_b, bnot_e, Int.ofNat_eq_natCast, Int.cast_ofNat_Int, Int.reduceBEq, Int.reduceAdd, Int.reduceNeg, Int.reduceNegSucc, Int.reduceLT, Int.reduceLE, Int.reduceMul, Int.reduceTMod, Int.reduceSub, Int.reduceBNe, Bool.not_true, Bool.not_false, decide_true, decide_false, w63_in, w31_in, ne_eq, not_false_eq_true, Int.reduceEq, reduceCtorEq, ww3131, ww6363, ww3163, ww6331, ww3231, ww3263, ww6463, ww6364, sh31, sh63, sl63, m31, m63, n63, s5a, s5b, s6a, s6b, b31, b32, b63, c63, c64, d64, iShl_c, iShr_c, sr3, sr6, sr7]
  · by_cases h2 : n < -1099511627776
    · simp only [↓s15, ↓s48, ↓s46, ↓s74, ↓s99, ↓t45, beqs, beqi, hn, h1, h2, m1, m2, m3, shp, ↓uc_c, ↓uz_n, ↓cI_i, ↓cB_b, cB_b, ↓cT_t, cT_t, nth_z, nth_1, cK_b, ↓cK_b, ↓cK_i, cK_i, ifB_t, ifB_f, ↓ap_e, sel_t, sel_f, gsel_tt, gsel_tf, gsel_ft, gsel_ff, gsel_u, gd_tt, gd_tf, gd_ft, gd_ff, gd_u, ↓jn_n, jn_n, jn_r, ↓jn_r, blk_n, blk_r, ↓cl_r, cl_r, ↓iAdd_i, ↓iSub_i, ↓iMul_i, ↓iAnd_i, ↓iOr_i, ↓iXor_i, ↓iNeg_i, iQuo_i, iRem_i, ↓iConv_i, iConv_i, ↓bNot_b, bNot_b, ↓eqN_i, ↓ltN_i, ↓eqB_b, bnot_e, Int.ofNat_eq_natCast, Int.cast_ofNat_Int, Int.reduceBEq, Int.reduceAdd, Int.reduceNeg, Int.reduceNegSucc, Int.reduceLT, Int.reduceLE, Int.reduceMul, Int.reduceTMod, Int.reduceSub, Int.reduceBNe, Bool.not_true, Bool.not_false, decide_true, decide_false, w63_in, w31_in, ne_eq, not_false_eq_true, Int.reduceEq, reduceCtorEq, ww3131, ww6363, ww3163, ww6331, ww3231, ww3263, ww6463, ww6364, sh31, sh63, sl63, m31, m63, n63, s5a, s5b, s6a, s6b, b31, b32, b63, c63, c64, d64, iShl_c, iShr_c, sr3, sr6, sr7]
    · simp only [↓s15, ↓s48, ↓s46, ↓s74, ↓s99, ↓t45, beqs, beqi, hn, h1, h2, m1, m2, m3, shp, ↓uc_c, ↓uz_n, ↓cI_i, ↓cB_b, cB_b, ↓cT_t, cT_t, nth_z, nth_1, cK_b, ↓cK_b, ↓cK_i, cK_i, ifB_t, ifB_f, ↓ap_e, sel_t, sel_f, gsel_tt, gsel_tf, gsel_ft, gsel_ff, gsel_u, gd_tt, gd_tf, gd_ft, gd_ff, gd_u, ↓jn_n, jn_n, jn_r, ↓jn_r, blk_n, blk_r, ↓cl_r, cl_r, ↓iAdd_i, ↓iSub_i, ↓iMul_i, ↓iAnd_i, ↓iOr_i, ↓iXor_i, ↓iNeg_i, iQuo_i, iRem_i, ↓iConv_i, iConv_i, ↓bNot_b, bNot_b, ↓eqN_i, ↓ltN_i, ↓eqB_b, bnot_e, Int.ofNat_eq_natCast, Int.cast_ofNat_Int, Int.reduceBEq, Int.reduceAdd, Int.reduceNeg, Int.reduceNegSucc, Int.reduceLT, Int.reduceLE, Int.reduceMul, Int.reduceTMod, Int.reduceSub, Int.reduceBNe, Bool.not_true, Bool.not_false, decide_true, decide_false, w63_in, w31_in, ne_eq, not_false_eq_true, Int.reduceEq, reduceCtorEq, ww3131, ww6363, ww3163, ww6331, ww3231, ww3263, ww6463, ww6364, sh31, sh63, sl63, m31, m63, n63, s5a, s5b, s6a, s6b, b31, b32, b63, c63, c64, d64, iShl_c, iShr_c, sr3, sr6, sr7]
theorem dvd_back (a b : Int) (ha : wrapC 63 a = a) : wrapC 63 (wrapC 63 (wrapC 63 (a.tdiv b) * b) + a.tmod b) = a := by
  have h : (wrapC 63 (wrapC 63 (a.tdiv b) * b) + a.tmod b) % 18446744073709551616 = a % 18446744073709551616 := by
    rw [Int.add_emod, w63_mod, Int.mul_emod, w63_mod, ← Int.mul_emod, ← Int.add_emod, Int.mul_comm, Int.mul_tdiv_add_tmod]
  rw [w63_cong _ _ h, ha]
theorem neg_back (a : Int) (ha : wrapC 63 a = a) : wrapC 63 (0 - wrapC 63 (0 - a)) = a := by
  have h : (0 - wrapC 63 (0 - a)) % 18446744073709551616 = a % 18446744073709551616 := by
    have := w63_mod (0 - a)
    omega
  rw [w63_cong _ _ h, ha]
theorem one_back (a b : Int) (ha : wrapC 63 a = a) (hb : b = -1) : wrapC 63 (wrapC 63 (wrapC 63 (0 - a) * b) + 0) = a := by
  subst hb
  have h : (wrapC 63 (wrapC 63 (0 - a) * -1) + 0) % 18446744073709551616 = a % 18446744073709551616 := by
    have h1 := w63_mod (0 - a)
    have h2 := w63_mod (wrapC 63 (0 - a) * -1)
    omega
  rw [w63_cong _ _ h, ha]
theorem xor_back (a b : Int) : wrapC 31 ((Nat.xor (toU 63 (wrapC 31 ((Nat.xor (toU 63 (wrapC 31 a)) (toU 63 (wrapC 31 b)) : Nat) : Int))) (toU 63 (wrapC 31 b)) : Nat) : Int) = wrapC 31 a := by
  have hA := toU63 (wrapC 31 a)
  have hB := toU63 (wrapC 31 b)
  have hC := toU63 (wrapC 31 ((Nat.xor (toU 63 (wrapC 31 a)) (toU 63 (wrapC 31 b)) : Nat) : Int))
  generalize toU 63 (wrapC 31 a) = A at *
  generalize toU 63 (wrapC 31 b) = B at *
  generalize hz : toU 63 (wrapC 31 ((Nat.xor A B : Nat) : Int)) = C at *
  have h1 : C % 2 ^ 32 = (Nat.xor A B) % 2 ^ 32 := by
    have := w31_mod ((Nat.xor A B : Nat) : Int)
    omega
  have h2 : Nat.xor C B % 2 ^ 32 = A % 2 ^ 32 := by
    have e1 : (C ^^^ B) % 2 ^ 32 = (C % 2 ^ 32) ^^^ (B % 2 ^ 32) := Nat.xor_mod_two_pow
    have e2 : (A ^^^ B) % 2 ^ 32 = (A % 2 ^ 32) ^^^ (B % 2 ^ 32) := Nat.xor_mod_two_pow
    have h1' : C % 2 ^ 32 = (A ^^^ B) % 2 ^ 32 := h1
    show (C ^^^ B) % 2 ^ 32 = A % 2 ^ 32
    rw [e1, h1', e2, Nat.xor_assoc, Nat.xor_self, Nat.xor_zero]
  rw [w31_cong _ (A : Int) (by omega)]
  have := w31_mod a
  exact w31_cong _ _ (by omega)
theorem lawLaws (a b : Int) (ha : wrapC 63 a = a) : s14 [.int 63 a, .int 63 b] H0 = .ret (.bool true) H0 := by
  by_cases h0 : b = 0
  · have e0 : (b == 0) = true := by simpa using h0
    simp only [↓s14, ↓s48, ↓s46, ↓s74, ↓s99, ↓t45, beqs, beqi, e0, neg_back a ha, xor_back, ↓uc_c, ↓uz_n, ↓cI_i, ↓cB_b, cB_b, ↓cT_t, cT_t, nth_z, nth_1, cK_b, ↓cK_b, ↓cK_i, cK_i, ifB_t, ifB_f, ↓ap_e, sel_t, sel_f, gsel_tt, gsel_tf, gsel_ft, gsel_ff, gsel_u, gd_tt, gd_tf, gd_ft, gd_ff, gd_u, ↓jn_n, jn_n, jn_r, ↓jn_r, blk_n, blk_r, ↓cl_r, cl_r, ↓iAdd_i, ↓iSub_i, ↓iMul_i, ↓iAnd_i, ↓iOr_i, ↓iXor_i, ↓iNeg_i, iQuo_i, iRem_i, ↓iConv_i, iConv_i, ↓bNot_b, bNot_b, ↓eqN_i, ↓ltN_i, ↓eqB_b, bnot_e, Int.ofNat_eq_natCast, Int.cast_ofNat_Int, Int.reduceBEq, Int.reduceAdd, Int.reduceNeg, Int.reduceNegSucc, Int.reduceLT, Int.reduceLE, Int.reduceMul, Int.reduceTMod, Int.reduceSub, Int.reduceBNe, Bool.not_true, Bool.not_false, decide_true, decide_false, w63_in, w31_in, ne_eq, not_false_eq_true, Int.reduceEq, reduceCtorEq, ww3131, ww6363, ww3163, ww6331, ww3231, ww3263, ww6463, ww6364, sh31, sh63, sl63, m31, m63, n63, s5a, s5b, s6a, s6b, b31, b32, b63, c63, c64, d64, iShl_c, iShr_c, sr3, sr6, sr7]
  · have e0 : (b == 0) = false := by simpa using h0
    by_cases h1 : b = -1
    · have e1 : (b == -1) = true := by simpa using h1
      have e2 := one_back a b ha h1
      simp only [↓s14, ↓s48, ↓s46, ↓s74, ↓s99, ↓t45, beqs, beqi, e0, e1, e2, neg_back a ha, xor_back, ↓uc_c, ↓uz_n, ↓cI_i, ↓cB_b, cB_b, ↓cT_t, cT_t, nth_z, nth_1, cK_b, ↓cK_b, ↓cK_i, cK_i, ifB_t, ifB_f, ↓ap_e, sel_t, sel_f, gsel_tt, gsel_tf, gsel_ft, gsel_ff, gsel_u, gd_tt, gd_tf, gd_ft, gd_ff, gd_u, ↓jn_n, jn_n, jn_r, ↓jn_r, blk_n, blk_r, ↓cl_r, cl_r, ↓iAdd_i, ↓iSub_i, ↓iMul_i, ↓iAnd_i, ↓iOr_i, ↓iXor_i, ↓iNeg_i, iQuo_i, iRem_i, ↓iConv_i, iConv_i, ↓bNot_b, bNot_b, ↓eqN_i, ↓ltN_i, ↓eqB_b, bnot_e, Int.ofNat_eq_natCast, Int.cast_ofNat_Int, Int.reduceBEq, Int.reduceAdd, Int.reduceNeg, Int.reduceNegSucc, Int.reduceLT, Int.reduceLE, Int.reduceMul, Int.reduceTMod, Int.reduceSub, Int.reduceBNe, Bool.not_true, Bool.not_false, decide_true, decide_false, w63_in, w31_in, ne_eq, not_false_eq_true, Int.reduceEq, reduceCtorEq, ww3131, ww6363, ww3163, ww6331, ww3231, ww3263, ww6463, ww6364, sh31, sh63, sl63, m31, m63, n63, s5a, s5b, s6a, s6b, b31, b32, b63, c63, c64, d64, iShl_c, iShr_c, sr3, sr6, sr7]
    · have e1 : (b == -1) = false := by simpa using h1
      simp only [↓s14, ↓s48, ↓s46, ↓s74, ↓s99, ↓t45, beqs, beqi, e0, e1, h0, dvd_back a b ha, neg_back a ha, xor_back, ↓uc_c, ↓uz_n, ↓cI_i, ↓cB_b, cB_b, ↓cT_t, cT_t, nth_z, nth_1, cK_b, ↓cK_b, ↓cK_i, cK_i, ifB_t, ifB_f, ↓ap_e, sel_t, sel_f, gsel_tt, gsel_tf, gsel_ft, gsel_ff, gsel_u, gd_tt, gd_tf, gd_ft, gd_ff, gd_u, ↓jn_n, jn_n, jn_r, ↓jn_r, blk_n, blk_r, ↓cl_r, cl_r, ↓iAdd_i, ↓iSub_i, ↓iMul_i, ↓iAnd_i, ↓iOr_i, ↓iXor_i, ↓iNeg_i, iQuo_i, iRem_i, ↓iConv_i, iConv_i, ↓bNot_b, bNot_b, ↓eqN_i, ↓ltN_i, ↓eqB_b, bnot_e, Int.ofNat_eq_natCast, Int.cast_ofNat_Int, Int.reduceBEq, Int.reduceAdd, Int.reduceNeg, Int.reduceNegSucc, Int.reduceLT, Int.reduceLE, Int.reduceMul, Int.reduceTMod, Int.reduceSub, Int.reduceBNe, Bool.not_true, Bool.not_false, decide_true, decide_false, w63_in, w31_in, ne_eq, not_false_eq_true, Int.reduceEq, reduceCtorEq, ww3131, ww6363, ww3163, ww6331, ww3231, ww3263, ww6463, ww6364, sh31, sh63, sl63, m31, m63, n63, s5a, s5b, s6a, s6b, b31, b32, b63, c63, c64, d64, iShl_c, iShr_c, sr3, sr6, sr7]
end Go.Proofs.Ytnpfppddongbhaa
