/-
  Texts of class files, part 1: reckoned by the abstract machine.
-/
import Derived.Test.YtnpfppddongbhaaFb
import Derived.Test.YtnpfppddongbhaaAm38
namespace Go.Proofs.Ytnpfppddongbhaa
open Go Go.AM
set_option autoImplicit false
set_option linter.unusedSimpArgs false
set_option linter.unusedVariables false
/-! ### texts -/
theorem lenS_s (n x : Nat) (k : AV → Res) : lenS (.str n x) k = k (.int 63 (n : Int)) := of_eq_true (eq_self _)
theorem sIdx_s (n x : Nat) (c j : Nat) (hj : j < n) (k : AV → Res) : sIdx (.str n x) (.int c (j : Int)) k = k (.int 8 (byteAt x j : Int)) := by
  have e : sIdx (.str n x) (.int c (j : Int)) k = ifB (Nat.blt j n) (k (.int 8 (byteAt x j : Int))) .fail := rfl
  rw [e, (blt_iff _ _).2 hj]; rfl
theorem byteAt_lt (x j : Nat) : byteAt x j < 256 := Nat.mod_lt _ (by decide)
theorem bld1 (c : Nat) (m : Int) (k : AV → Res) : bld [(false, 1, .int c m)] k = k (avL [.int c m]) := of_eq_true (eq_self _)
theorem bld0 (k : AV → Res) : bld [] k = k (avL []) := of_eq_true (eq_self _)
@[congr] theorem bld_cg {l l' : List (Bool × Nat × AV)} (h : l = l') (k : AV → Res) : bld l k = bld l' k := by rw [h]
@[congr] theorem mkS_cg {l l' : AV} (h : Hp) (z n : Nat) (hl : l = l') (k : AV → Hp → Res) : mkS h z n l k = mkS h z n l' k := by rw [hl]
@[congr] theorem lenS_cg {v v' : AV} (h : v = v') (k : AV → Res) : lenS v k = lenS v' k := by rw [h]
@[congr] theorem sIdx_cg {v v' w w' : AV} (h : v = v') (h' : w = w') (k : AV → Res) : sIdx v w k = sIdx v' w' k := by rw [h, h']

/-! ### numbers -/
theorem toU16n (a : Nat) : toU 16 (a : Int) = a % 65536 := by have := toU16 (a : Int); omega
theorem toU8n (a : Nat) : toU 8 (a : Int) = a % 256 := by have := toU8 (a : Int); omega
theorem w16n (a : Nat) : wrapC 16 (a : Int) = ((a % 65536 : Nat) : Int) := by rw [w16]; omega
theorem w8n (a : Nat) : wrapC 8 (a : Int) = ((a % 256 : Nat) : Int) := by rw [w8]; omega
theorem k16 : toU 16 224 = 224 ∧ toU 16 31 = 31 ∧ toU 16 240 = 240 ∧ toU 16 15 = 15 := by decide +kernel
theorem k8 : toU 8 224 = 224 ∧ toU 8 31 = 31 ∧ toU 8 240 = 240 ∧ toU 8 15 = 15 ∧ toU 8 192 = 192 ∧ toU 8 63 = 63 := by decide +kernel

/-- Does a byte go on with a char? -/
def ct (n : Nat) (Y : Nat → Nat) (i : Nat) : Bool := decide (i < n) && decide (128 ≤ Y i ∧ Y i < 192)
theorem ct_bits : ∀ y < 256, ((((Nat.land (y % 256) 192 % 256 : Nat)) : Int) == 128) = decide (128 ≤ y ∧ y < 192) := by decide +kernel

theorem t71 (n x i : Nat) (h : Hp) : s71 [.str n x, .int 63 (i : Int)] h = .ret (.bool (ct n (byteAt x) i)) h := by
  by_cases hi : i < n
  · have h1 : (i : Int) < (n : Int) := by omega
    have hb := ct_bits _ (byteAt_lt x i)
    simp only [↓s71, ↓lenS_s, h1, sIdx_s n x 63 i hi, toU8n, k8, w8n, ↓uc_c, ↓uz_n, ↓cI_i, ↓cB_b, cB_b, ↓cT_t, cT_t, nth_z, nth_1, cK_b, ↓cK_b, ↓cK_i, cK_i, ifB_t, ifB_f, ↓ap_e, sel_t, sel_f, gsel_tt, gsel_tf, gsel_ft, gsel_ff, gsel_u, gd_tt, gd_tf, gd_ft, gd_ff, gd_u, ↓jn_n, jn_n, jn_r, ↓jn_r, blk_n, blk_r, ↓cl_r, cl_r, ↓iAdd_i, ↓iSub_i, ↓iMul_i, ↓iAnd_i, ↓iOr_i, ↓iXor_i, ↓iNeg_i, iQuo_i, iRem_i, ↓iConv_i, iConv_i, ↓bNot_b, bNot_b, ↓eqN_i, ↓ltN_i, ↓eqB_b, bnot_e, Int.ofNat_eq_natCast, Int.cast_ofNat_Int, Int.reduceBEq, Int.reduceAdd, Int.reduceNeg, Int.reduceNegSucc, Int.reduceLT, Int.reduceLE, Int.reduceMul, Int.reduceTMod, Int.reduceSub, Int.reduceBNe, Bool.not_true, Bool.not_false, decide_true, decide_false, w63_in, w31_in, ne_eq, not_false_eq_true, Int.reduceEq, reduceCtorEq, ww3131, ww6363, ww3163, ww6331, ww3231, ww3263, ww6463, ww6364, sh31, sh63, sl63, m31, m63, n63, s5a, s5b, s6a, s6b, b31, b32, b63, c63, c64, d64, iShl_c, iShr_c, sr3, sr6, sr7]
    unfold ct
    simp only [hb, hi, decide_true, Bool.true_and]
  · have h1 : ¬ (i : Int) < (n : Int) := by omega
    simp only [↓s71, ↓lenS_s, h1, ↓uc_c, ↓uz_n, ↓cI_i, ↓cB_b, cB_b, ↓cT_t, cT_t, nth_z, nth_1, cK_b, ↓cK_b, ↓cK_i, cK_i, ifB_t, ifB_f, ↓ap_e, sel_t, sel_f, gsel_tt, gsel_tf, gsel_ft, gsel_ff, gsel_u, gd_tt, gd_tf, gd_ft, gd_ff, gd_u, ↓jn_n, jn_n, jn_r, ↓jn_r, blk_n, blk_r, ↓cl_r, cl_r, ↓iAdd_i, ↓iSub_i, ↓iMul_i, ↓iAnd_i, ↓iOr_i, ↓iXor_i, ↓iNeg_i, iQuo_i, iRem_i, ↓iConv_i, iConv_i, ↓bNot_b, bNot_b, ↓eqN_i, ↓ltN_i, ↓eqB_b, bnot_e, Int.ofNat_eq_natCast, Int.cast_ofNat_Int, Int.reduceBEq, Int.reduceAdd, Int.reduceNeg, Int.reduceNegSucc, Int.reduceLT, Int.reduceLE, Int.reduceMul, Int.reduceTMod, Int.reduceSub, Int.reduceBNe, Bool.not_true, Bool.not_false, decide_true, decide_false, w63_in, w31_in, ne_eq, not_false_eq_true, Int.reduceEq, reduceCtorEq, ww3131, ww6363, ww3163, ww6331, ww3231, ww3263, ww6463, ww6364, sh31, sh63, sl63, m31, m63, n63, s5a, s5b, s6a, s6b, b31, b32, b63, c63, c64, d64, iShl_c, iShr_c, sr3, sr6, sr7]
    unfold ct
    simp only [hi, decide_false, Bool.false_and]
theorem t72 (n x i : Nat) (h : Hp) : s72 [.str n x, .int 63 (i : Int)] h = .ret (.tup (.cons (.int 16 (if ct n (byteAt x) i = true then ((byteAt x i % 64 : Nat) : Int) else 0)) (.cons (.bool (ct n (byteAt x) i)) .nil))) h := by
  by_cases hi : i < n
  · have h1 : (i : Int) < (n : Int) := by omega
    have hb := ct_bits _ (byteAt_lt x i)
    by_cases hy : 128 ≤ byteAt x i ∧ byteAt x i < 192
    · have e1 : ((((Nat.land (byteAt x i % 256) 192 % 256 : Nat)) : Int) == 128) = true := by rw [hb]; simpa using hy
      have e2 : Nat.land (byteAt x i % 256) 63 % 256 % 65536 = byteAt x i % 64 := by rw [land63]; omega
      simp only [↓s72, ↓lenS_s, h1, sIdx_s n x 63 i hi, toU8n, k8, w8n, w16n, e1, e2, ↓uc_c, ↓uz_n, ↓cI_i, ↓cB_b, cB_b, ↓cT_t, cT_t, nth_z, nth_1, cK_b, ↓cK_b, ↓cK_i, cK_i, ifB_t, ifB_f, ↓ap_e, sel_t, sel_f, gsel_tt, gsel_tf, gsel_ft, gsel_ff, gsel_u, gd_tt, gd_tf, gd_ft, gd_ff, gd_u, ↓jn_n, jn_n, jn_r, ↓jn_r, blk_n, blk_r, ↓cl_r, cl_r, ↓iAdd_i, ↓iSub_i, ↓iMul_i, ↓iAnd_i, ↓iOr_i, ↓iXor_i, ↓iNeg_i, iQuo_i, iRem_i, ↓iConv_i, iConv_i, ↓bNot_b, bNot_b, ↓eqN_i, ↓ltN_i, ↓eqB_b, bnot_e, Int.ofNat_eq_natCast, Int.cast_ofNat_Int, Int.reduceBEq, Int.reduceAdd, Int.reduceNeg, Int.reduceNegSucc, Int.reduceLT, Int.reduceLE, Int.reduceMul, Int.reduceTMod, Int.reduceSub, Int.reduceBNe, Bool.not_true, Bool.not_false, decide_true, decide_false, w63_in, w31_in, ne_eq, not_false_eq_true, Int.reduceEq, reduceCtorEq, ww3131, ww6363, ww3163, ww6331, ww3231, ww3263, ww6463, ww6364, sh31, sh63, sl63, m31, m63, n63, s5a, s5b, s6a, s6b, b31, b32, b63, c63, c64, d64, iShl_c, iShr_c, sr3, sr6, sr7]
      unfold ct
      simp [hi, hy]
    · have e1 : ((((Nat.land (byteAt x i % 256) 192 % 256 : Nat)) : Int) == 128) = false := by rw [hb]; simpa using hy
      simp only [↓s72, ↓lenS_s, h1, sIdx_s n x 63 i hi, toU8n, k8, w8n, w16n, e1, ↓uc_c, ↓uz_n, ↓cI_i, ↓cB_b, cB_b, ↓cT_t, cT_t, nth_z, nth_1, cK_b, ↓cK_b, ↓cK_i, cK_i, ifB_t, ifB_f, ↓ap_e, sel_t, sel_f, gsel_tt, gsel_tf, gsel_ft, gsel_ff, gsel_u, gd_tt, gd_tf, gd_ft, gd_ff, gd_u, ↓jn_n, jn_n, jn_r, ↓jn_r, blk_n, blk_r, ↓cl_r, cl_r, ↓iAdd_i, ↓iSub_i, ↓iMul_i, ↓iAnd_i, ↓iOr_i, ↓iXor_i, ↓iNeg_i, iQuo_i, iRem_i, ↓iConv_i, iConv_i, ↓bNot_b, bNot_b, ↓eqN_i, ↓ltN_i, ↓eqB_b, bnot_e, Int.ofNat_eq_natCast, Int.cast_ofNat_Int, Int.reduceBEq, Int.reduceAdd, Int.reduceNeg, Int.reduceNegSucc, Int.reduceLT, Int.reduceLE, Int.reduceMul, Int.reduceTMod, Int.reduceSub, Int.reduceBNe, Bool.not_true, Bool.not_false, decide_true, decide_false, w63_in, w31_in, ne_eq, not_false_eq_true, Int.reduceEq, reduceCtorEq, ww3131, ww6363, ww3163, ww6331, ww3231, ww3263, ww6463, ww6364, sh31, sh63, sl63, m31, m63, n63, s5a, s5b, s6a, s6b, b31, b32, b63, c63, c64, d64, iShl_c, iShr_c, sr3, sr6, sr7]
      unfold ct
      simp [hi]
      omega
  · have h1 : ¬ (i : Int) < (n : Int) := by omega
    simp only [↓s72, ↓lenS_s, h1, ↓uc_c, ↓uz_n, ↓cI_i, ↓cB_b, cB_b, ↓cT_t, cT_t, nth_z, nth_1, cK_b, ↓cK_b, ↓cK_i, cK_i, ifB_t, ifB_f, ↓ap_e, sel_t, sel_f, gsel_tt, gsel_tf, gsel_ft, gsel_ff, gsel_u, gd_tt, gd_tf, gd_ft, gd_ff, gd_u, ↓jn_n, jn_n, jn_r, ↓jn_r, blk_n, blk_r, ↓cl_r, cl_r, ↓iAdd_i, ↓iSub_i, ↓iMul_i, ↓iAnd_i, ↓iOr_i, ↓iXor_i, ↓iNeg_i, iQuo_i, iRem_i, ↓iConv_i, iConv_i, ↓bNot_b, bNot_b, ↓eqN_i, ↓ltN_i, ↓eqB_b, bnot_e, Int.ofNat_eq_natCast, Int.cast_ofNat_Int, Int.reduceBEq, Int.reduceAdd, Int.reduceNeg, Int.reduceNegSucc, Int.reduceLT, Int.reduceLE, Int.reduceMul, Int.reduceTMod, Int.reduceSub, Int.reduceBNe, Bool.not_true, Bool.not_false, decide_true, decide_false, w63_in, w31_in, ne_eq, not_false_eq_true, Int.reduceEq, reduceCtorEq, ww3131, ww6363, ww3163, ww6331, ww3231, ww3263, ww6463, ww6364, sh31, sh63, sl63, m31, m63, n63, s5a, s5b, s6a, s6b, b31, b32, b63, c63, c64, d64, iShl_c, iShr_c, sr3, sr6, sr7]
    unfold ct
    simp [hi]
end Go.Proofs.Ytnpfppddongbhaa
