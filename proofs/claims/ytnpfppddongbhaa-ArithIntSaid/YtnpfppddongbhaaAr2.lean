/-
  Arithmetic, part 2: laws of the program and the reference, reckoned by the abstract machine.
-/
import Derived.Test.YtnpfppddongbhaaAr1
namespace Go.Proofs.Ytnpfppddongbhaa
open Go Go.AM
set_option autoImplicit false
set_option linter.unusedSimpArgs false
set_option linter.unusedVariables false
theorem none46 (op a b : Int) (h : Hp) (n96 : op ≠ 96) (n100 : op ≠ 100) (n104 : op ≠ 104) (n108 : op ≠ 108) (n112 : op ≠ 112) (n116 : op ≠ 116) (n120 : op ≠ 120) (n122 : op ≠ 122) (n124 : op ≠ 124) (n126 : op ≠ 126) (n128 : op ≠ 128) (n130 : op ≠ 130) : s46 [.int 63 op, .int 63 a, .int 63 b] h = .ret (two 0 false) h := by
  have e96 : (op == 96) = false := by simpa using n96
  have e100 : (op == 100) = false := by simpa using n100
  have e104 : (op == 104) = false := by simpa using n104
  have e108 : (op == 108) = false := by simpa using n108
  have e112 : (op == 112) = false := by simpa using n112
  have e116 : (op == 116) = false := by simpa using n116
  have e120 : (op == 120) = false := by simpa using n120
  have e122 : (op == 122) = false := by simpa using n122
  have e124 : (op == 124) = false := by simpa using n124
  have e126 : (op == 126) = false := by simpa using n126
  have e128 : (op == 128) = false := by simpa using n128
  have e130 : (op == 130) = false := by simpa using n130
  simp only [↓s46, e96, e100, e104, e108, e112, e116, e120, e122, e124, e126, e128, e130, ↓uc_c, ↓uz_n, ↓cI_i, ↓cB_b, cB_b, ↓cT_t, cT_t, nth_z, nth_1, cK_b, ↓cK_b, ↓cK_i, cK_i, ifB_t, ifB_f, ↓ap_e, sel_t, sel_f, gsel_tt, gsel_tf, gsel_ft, gsel_ff, gsel_u, gd_tt, gd_tf, gd_ft, gd_ff, gd_u, ↓jn_n, jn_n, jn_r, ↓jn_r, blk_n, blk_r, ↓cl_r, cl_r, ↓iAdd_i, ↓iSub_i, ↓iMul_i, ↓iAnd_i, ↓iOr_i, ↓iXor_i, ↓iNeg_i, iQuo_i, iRem_i, ↓iConv_i, iConv_i, ↓bNot_b, bNot_b, ↓eqN_i, ↓ltN_i, ↓eqB_b, bnot_e, Int.ofNat_eq_natCast, Int.cast_ofNat_Int, Int.reduceBEq, Int.reduceAdd, Int.reduceNeg, Int.reduceNegSucc, Int.reduceLT, Int.reduceLE, Int.reduceMul, Int.reduceTMod, Int.reduceSub, Int.reduceBNe, Bool.not_true, Bool.not_false, decide_true, decide_false, w63_in, w31_in, ne_eq, not_false_eq_true, Int.reduceEq, reduceCtorEq, ww3131, ww6363, ww3163, ww6331, ww3231, ww3263, ww6463, ww6364, sh31, sh63, sl63, m31, m63, n63, s5a, s5b, s6a, s6b, b31, b32, b63, c63, c64, d64, iShl_c, iShr_c, sr3, sr6, sr7]
  exact rfl
theorem law_known (op a b : Int) (hk : Alike op a b H0) (hb : op = 96 ∨ op = 100 ∨ op = 104 ∨ op = 108 ∨ op = 112 ∨ op = 116 ∨ op = 120 ∨ op = 122 ∨ op = 124 ∨ op = 126 ∨ op = 128 ∨ op = 130) : s11 [.int 63 op, .int 63 a, .int 63 b] H0 = .ret (.bool true) H0 := by
  obtain ⟨x, k, h1, h2⟩ := hk
  rcases hb with rfl | rfl | rfl | rfl | rfl | rfl | rfl | rfl | rfl | rfl | rfl | rfl
  all_goals
    have e1 : (x == x) = true := by simp
    have e2 : (k == k) = true := by simp
    simp only [↓s11, ↓t45, ↓h1, ↓h2, ↓two0, e1, e2, ↓uc_c, ↓uz_n, ↓cI_i, ↓cB_b, cB_b, ↓cT_t, cT_t, nth_z, nth_1, cK_b, ↓cK_b, ↓cK_i, cK_i, ifB_t, ifB_f, ↓ap_e, sel_t, sel_f, gsel_tt, gsel_tf, gsel_ft, gsel_ff, gsel_u, gd_tt, gd_tf, gd_ft, gd_ff, gd_u, ↓jn_n, jn_n, jn_r, ↓jn_r, blk_n, blk_r, ↓cl_r, cl_r, ↓iAdd_i, ↓iSub_i, ↓iMul_i, ↓iAnd_i, ↓iOr_i, ↓iXor_i, ↓iNeg_i, iQuo_i, iRem_i, ↓iConv_i, iConv_i, ↓bNot_b, bNot_b, ↓eqN_i, ↓ltN_i, ↓eqB_b, bnot_e, Int.ofNat_eq_natCast, Int.cast_ofNat_Int, Int.reduceBEq, Int.reduceAdd, Int.reduceNeg, Int.reduceNegSucc, Int.reduceLT, Int.reduceLE, Int.reduceMul, Int.reduceTMod, Int.reduceSub, Int.reduceBNe, Bool.not_true, Bool.not_false, decide_true, decide_false, w63_in, w31_in, ne_eq, not_false_eq_true, Int.reduceEq, reduceCtorEq, ww3131, ww6363, ww3163, ww6331, ww3231, ww3263, ww6463, ww6364, sh31, sh63, sl63, m31, m63, n63, s5a, s5b, s6a, s6b, b31, b32, b63, c63, c64, d64, iShl_c, iShr_c, sr3, sr6, sr7]
theorem law_none (op a b : Int) (hn : s46 [.int 63 op, .int 63 a, .int 63 b] H0 = .ret (two 0 false) H0) (hr : op < 96 ∨ 130 < op ∨ op = 97 ∨ op = 98 ∨ op = 99 ∨ op = 101 ∨ op = 102 ∨ op = 103 ∨ op = 105 ∨ op = 106 ∨ op = 107 ∨ op = 109 ∨ op = 110 ∨ op = 111 ∨ op = 113 ∨ op = 114 ∨ op = 115 ∨ op = 117 ∨ op = 118 ∨ op = 119 ∨ op = 121 ∨ op = 123 ∨ op = 125 ∨ op = 127 ∨ op = 129) : s11 [.int 63 op, .int 63 a, .int 63 b] H0 = .ret (.bool true) H0 := by
  rcases hr with hr | hr | rfl | rfl | rfl | rfl | rfl | rfl | rfl | rfl | rfl | rfl | rfl | rfl | rfl | rfl | rfl | rfl | rfl | rfl | rfl | rfl | rfl | rfl | rfl
  · by_cases hp : op.tmod 2 = 0
    · have e1 : (op.tmod 2 == 0) = true := by simpa using hp
      have e3 : ¬ 116 < op := by omega
      have e4 : op < 120 := by omega
      simp only [↓s11, ↓t45, ↓hn, ↓two0, e1, hr, e3, e4, ↓uc_c, ↓uz_n, ↓cI_i, ↓cB_b, cB_b, ↓cT_t, cT_t, nth_z, nth_1, cK_b, ↓cK_b, ↓cK_i, cK_i, ifB_t, ifB_f, ↓ap_e, sel_t, sel_f, gsel_tt, gsel_tf, gsel_ft, gsel_ff, gsel_u, gd_tt, gd_tf, gd_ft, gd_ff, gd_u, ↓jn_n, jn_n, jn_r, ↓jn_r, blk_n, blk_r, ↓cl_r, cl_r, ↓iAdd_i, ↓iSub_i, ↓iMul_i, ↓iAnd_i, ↓iOr_i, ↓iXor_i, ↓iNeg_i, iQuo_i, iRem_i, ↓iConv_i, iConv_i, ↓bNot_b, bNot_b, ↓eqN_i, ↓ltN_i, ↓eqB_b, bnot_e, Int.ofNat_eq_natCast, Int.cast_ofNat_Int, Int.reduceBEq, Int.reduceAdd, Int.reduceNeg, Int.reduceNegSucc, Int.reduceLT, Int.reduceLE, Int.reduceMul, Int.reduceTMod, Int.reduceSub, Int.reduceBNe, Bool.not_true, Bool.not_false, decide_true, decide_false, w63_in, w31_in, ne_eq, not_false_eq_true, Int.reduceEq, reduceCtorEq, ww3131, ww6363, ww3163, ww6331, ww3231, ww3263, ww6463, ww6364, sh31, sh63, sl63, m31, m63, n63, s5a, s5b, s6a, s6b, b31, b32, b63, c63, c64, d64, iShl_c, iShr_c, sr3, sr6, sr7]
    · have e1 : (op.tmod 2 == 0) = false := by simpa using hp
      simp only [↓s11, ↓t45, ↓hn, ↓two0, e1, ↓uc_c, ↓uz_n, ↓cI_i, ↓cB_b, cB_b, ↓cT_t, cT_t, nth_z, nth_1, cK_b, ↓cK_b, ↓cK_i, cK_i, ifB_t, ifB_f, ↓ap_e, sel_t, sel_f, gsel_tt, gsel_tf, gsel_ft, gsel_ff, gsel_u, gd_tt, gd_tf, gd_ft, gd_ff, gd_u, ↓jn_n, jn_n, jn_r, ↓jn_r, blk_n, blk_r, ↓cl_r, cl_r, ↓iAdd_i, ↓iSub_i, ↓iMul_i, ↓iAnd_i, ↓iOr_i, ↓iXor_i, ↓iNeg_i, iQuo_i, iRem_i, ↓iConv_i, iConv_i, ↓bNot_b, bNot_b, ↓eqN_i, ↓ltN_i, ↓eqB_b, bnot_e, Int.ofNat_eq_natCast, Int.cast_ofNat_Int, Int.reduceBEq, Int.reduceAdd, Int.reduceNeg, Int.reduceNegSucc, Int.reduceLT, Int.reduceLE, Int.reduceMul, Int.reduceTMod, Int.reduceSub, Int.reduceBNe, Bool.not_true, Bool.not_false, decide_true, decide_false, w63_in, w31_in, ne_eq, not_false_eq_true, Int.reduceEq, reduceCtorEq, ww3131, ww6363, ww3163, ww6331, ww3231, ww3263, ww6463, ww6364, sh31, sh63, sl63, m31, m63, n63, s5a, s5b, s6a, s6b, b31, b32, b63, c63, c64, d64, iShl_c, iShr_c, sr3, sr6, sr7]
  · by_cases hp : op.tmod 2 = 0
    · have e1 : (op.tmod 2 == 0) = true := by simpa using hp
      have e2 : ¬ op < 96 := by omega
      have e3 : 116 < op := by omega
      have e4 : ¬ op < 120 := by omega
      simp only [↓s11, ↓t45, ↓hn, ↓two0, e1, hr, e2, e3, e4, ↓uc_c, ↓uz_n, ↓cI_i, ↓cB_b, cB_b, ↓cT_t, cT_t, nth_z, nth_1, cK_b, ↓cK_b, ↓cK_i, cK_i, ifB_t, ifB_f, ↓ap_e, sel_t, sel_f, gsel_tt, gsel_tf, gsel_ft, gsel_ff, gsel_u, gd_tt, gd_tf, gd_ft, gd_ff, gd_u, ↓jn_n, jn_n, jn_r, ↓jn_r, blk_n, blk_r, ↓cl_r, cl_r, ↓iAdd_i, ↓iSub_i, ↓iMul_i, ↓iAnd_i, ↓iOr_i, ↓iXor_i, ↓iNeg_i, iQuo_i, iRem_i, ↓iConv_i, iConv_i, ↓bNot_b, bNot_b, ↓eqN_i, ↓ltN_i, ↓eqB_b, bnot_e, Int.ofNat_eq_natCast, Int.cast_ofNat_Int, Int.reduceBEq, Int.reduceAdd, Int.reduceNeg, Int.reduceNegSucc, Int.reduceLT, Int.reduceLE, Int.reduceMul, Int.reduceTMod, Int.reduceSub, Int.reduceBNe, Bool.not_true, Bool.not_false, decide_true, decide_false, w63_in, w31_in, ne_eq, not_false_eq_true, Int.reduceEq, reduceCtorEq, ww3131, ww6363, ww3163, ww6331, ww3231, ww3263, ww6463, ww6364, sh31, sh63, sl63, m31, m63, n63, s5a, s5b, s6a, s6b, b31, b32, b63, c63, c64, d64, iShl_c, iShr_c, sr3, sr6, sr7]
    · have e1 : (op.tmod 2 == 0) = false := by simpa using hp
      simp only [↓s11, ↓t45, ↓hn, ↓two0, e1, ↓uc_c, ↓uz_n, ↓cI_i, ↓cB_b, cB_b, ↓cT_t, cT_t, nth_z, nth_1, cK_b, ↓cK_b, ↓cK_i, cK_i, ifB_t, ifB_f, ↓ap_e, sel_t, sel_f, gsel_tt, gsel_tf, gsel_ft, gsel_ff, gsel_u, gd_tt, gd_tf, gd_ft, gd_ff, gd_u, ↓jn_n, jn_n, jn_r, ↓jn_r, blk_n, blk_r, ↓cl_r, cl_r, ↓iAdd_i, ↓iSub_i, ↓iMul_i, ↓iAnd_i, ↓iOr_i, ↓iXor_i, ↓iNeg_i, iQuo_i, iRem_i, ↓iConv_i, iConv_i, ↓bNot_b, bNot_b, ↓eqN_i, ↓ltN_i, ↓eqB_b, bnot_e, Int.ofNat_eq_natCast, Int.cast_ofNat_Int, Int.reduceBEq, Int.reduceAdd, Int.reduceNeg, Int.reduceNegSucc, Int.reduceLT, Int.reduceLE, Int.reduceMul, Int.reduceTMod, Int.reduceSub, Int.reduceBNe, Bool.not_true, Bool.not_false, decide_true, decide_false, w63_in, w31_in, ne_eq, not_false_eq_true, Int.reduceEq, reduceCtorEq, ww3131, ww6363, ww3163, ww6331, ww3231, ww3263, ww6463, ww6364, sh31, sh63, sl63, m31, m63, n63, s5a, s5b, s6a, s6b, b31, b32, b63, c63, c64, d64, iShl_c, iShr_c, sr3, sr6, sr7]
  all_goals
    simp only [↓s11, ↓t45, ↓hn, ↓two0, ↓uc_c, ↓uz_n, ↓cI_i, ↓cB_b, cB_b, ↓cT_t, cT_t, nth_z, nth_1, cK_b, ↓cK_b, ↓cK_i, cK_i, ifB_t, ifB_f, ↓ap_e, sel_t, sel_f, gsel_tt, gsel_tf, gsel_ft, gsel_ff, gsel_u, gd_tt, gd_tf, gd_ft, gd_ff, gd_u, ↓jn_n, jn_n, jn_r, ↓jn_r, blk_n, blk_r, ↓cl_r, cl_r, ↓iAdd_i, ↓iSub_i, ↓iMul_i, ↓iAnd_i, ↓iOr_i, ↓iXor_i, ↓iNeg_i, iQuo_i, iRem_i, ↓iConv_i, iConv_i, ↓bNot_b, bNot_b, ↓eqN_i, ↓ltN_i, ↓eqB_b, bnot_e, Int.ofNat_eq_natCast, Int.cast_ofNat_Int, Int.reduceBEq, Int.reduceAdd, Int.reduceNeg, Int.reduceNegSucc, Int.reduceLT, Int.reduceLE, Int.reduceMul, Int.reduceTMod, Int.reduceSub, Int.reduceBNe, Bool.not_true, Bool.not_false, decide_true, decide_false, w63_in, w31_in, ne_eq, not_false_eq_true, Int.reduceEq, reduceCtorEq, ww3131, ww6363, ww3163, ww6331, ww3231, ww3263, ww6463, ww6364, sh31, sh63, sl63, m31, m63, n63, s5a, s5b, s6a, s6b, b31, b32, b63, c63, c64, d64, iShl_c, iShr_c, sr3, sr6, sr7]
theorem lawInt (op a b : Int) : s11 [.int 63 op, .int 63 a, .int 63 b] H0 = .ret (.bool true) H0 := by
  by_cases n96 : op = 96
  · subst n96; exact law_known _ a b (i96 a b H0) (by decide)
  by_cases n100 : op = 100
  · subst n100; exact law_known _ a b (i100 a b H0) (by decide)
  by_cases n104 : op = 104
  · subst n104; exact law_known _ a b (i104 a b H0) (by decide)
  by_cases n108 : op = 108
  · subst n108; exact law_known _ a b (i108 a b H0) (by decide)
  by_cases n112 : op = 112
  · subst n112; exact law_known _ a b (i112 a b H0) (by decide)
  by_cases n116 : op = 116
  · subst n116; exact law_known _ a b (i116 a b H0) (by decide)
  by_cases n120 : op = 120
  · subst n120; exact law_known _ a b (i120 a b H0) (by decide)
  by_cases n122 : op = 122
  · subst n122; exact law_known _ a b (i122 a b H0) (by decide)
  by_cases n124 : op = 124
  · subst n124; exact law_known _ a b (i124 a b H0) (by decide)
  by_cases n126 : op = 126
  · subst n126; exact law_known _ a b (i126 a b H0) (by decide)
  by_cases n128 : op = 128
  · subst n128; exact law_known _ a b (i128 a b H0) (by decide)
  by_cases n130 : op = 130
  · subst n130; exact law_known _ a b (i130 a b H0) (by decide)
  exact law_none op a b (none46 op a b H0 n96 n100 n104 n108 n112 n116 n120 n122 n124 n126 n128 n130) (by omega)
end Go.Proofs.Ytnpfppddongbhaa
