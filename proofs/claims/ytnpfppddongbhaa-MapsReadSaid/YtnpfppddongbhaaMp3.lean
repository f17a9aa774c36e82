/-
  The reader of stated frames: what each of its functions answers (part Mp3).
-/
import Derived.Test.YtnpfppddongbhaaMp2
set_option linter.unusedVariables false
set_option linter.unusedSimpArgs false
namespace Go.Proofs.Ytnpfppddongbhaa
open Go Go.AM
set_option autoImplicit false
set_option linter.unusedSimpArgs false
set_option linter.unusedVariables false
/-! ### what the pool's entries are: the program's words and the reference's -/
def isC (i : Nat) : Bool := decide (i = 2) || decide (i = 4)
noncomputable def nmC (i : Nat) : AV := if i = 2 then .str 1 97 else if i = 4 then .str 2 18779 else .str 0 0
theorem cK_str (n a : Nat) (k : AV → Res) : cK (.str n a) k = k (.str n a) := of_eq_true (eq_self _)
theorem cK_nils (k : AV → Res) : cK .nils k = k .nils := of_eq_true (eq_self _)
section
variable {h : Hp} {b : Nat}
theorem tag0_1 (hp : Pool h b) : s115 [plv b, .int 63 0, .int 63 (.ofNat 1)] h = .ret (.bool false) h := by
  have x0 : ∀ k : AV → Res, ixA 5 (plv b) (.int 63 0) k = k (.ptr b 0) := fun k => hp.ix 0 (by decide) k
  have l0_0 : ∀ k : AV → Res, ld1 h (.ptr b (Nat.add 0 0)) k = k (.int 63 0) := fun k => hp.l 0 (by decide) k
  have m0_0 : ∀ k : AV → Res, ld1 h (.ptr b 0) k = k (.int 63 0) := fun k => hp.l 0 (by decide) k
  have n0_0 : ∀ k : AV → Res, ld1 h (.ptr b (0 + 0)) k = k (.int 63 0) := fun k => hp.l 0 (by decide) k
  have ln : ∀ k : AV → Res, lenL (plv b) k = k (.int 63 5) := fun k => rfl
  have gv : gsel (.bool true) true (plv b) = plv b := rfl
  have gi : ∀ x : Int, gsel (.bool true) true (.int 63 x) = .int 63 x := fun x => rfl
  have gv2 : gsel (.bool false) false (plv b) = plv b := rfl
  have gi2 : ∀ x : Int, gsel (.bool false) false (.int 63 x) = .int 63 x := fun x => rfl
  simp only [↓s115, ↓ln, ↓gv, ↓gi, ↓gv2, ↓gi2, ↓cP_p, ↓x0, ↓l0_0, ↓m0_0, ↓n0_0, ↓cK_str, cK_str, ↓uc_c, ↓uz_n, ↓cI_i, ↓cB_b, cB_b, ↓cT_t, cT_t, nth_z, nth_1, cK_b, ↓cK_b, ↓cK_i, cK_i, ifB_t, ifB_f, ↓ap_e, sel_t, sel_f, gsel_tt, gsel_tf, gsel_ft, gsel_ff, gsel_u, gd_tt, gd_tf, gd_ft, gd_ff, gd_u, ↓jn_n, jn_n, jn_r, ↓jn_r, blk_n, blk_r, ↓cl_r, cl_r, ↓iAdd_i, ↓iSub_i, ↓iMul_i, ↓iAnd_i, ↓iOr_i, ↓iXor_i, ↓iNeg_i, iQuo_i, iRem_i, ↓iConv_i, iConv_i, ↓bNot_b, bNot_b, ↓eqN_i, ↓ltN_i, ↓eqB_b, bnot_e, Int.ofNat_eq_natCast, Int.cast_ofNat_Int, Int.reduceBEq, Int.reduceAdd, Int.reduceNeg, Int.reduceNegSucc, Int.reduceLT, Int.reduceLE, Int.reduceMul, Int.reduceTMod, Int.reduceSub, Int.reduceBNe, Bool.not_true, Bool.not_false, decide_true, decide_false, w63_in, w31_in, ne_eq, not_false_eq_true, Int.reduceEq, reduceCtorEq, ww3131, ww6363, ww3163, ww6331, ww3231, ww3263, ww6463, ww6364, sh31, sh63, sl63, m31, m63, n63, s5a, s5b, s6a, s6b, b31, b32, b63, c63, c64, d64, iShl_c, iShr_c, sr3, sr6, sr7]
theorem tag0_7 (hp : Pool h b) : s115 [plv b, .int 63 0, .int 63 (.ofNat 7)] h = .ret (.bool false) h := by
  have x0 : ∀ k : AV → Res, ixA 5 (plv b) (.int 63 0) k = k (.ptr b 0) := fun k => hp.ix 0 (by decide) k
  have l0_0 : ∀ k : AV → Res, ld1 h (.ptr b (Nat.add 0 0)) k = k (.int 63 0) := fun k => hp.l 0 (by decide) k
  have m0_0 : ∀ k : AV → Res, ld1 h (.ptr b 0) k = k (.int 63 0) := fun k => hp.l 0 (by decide) k
  have n0_0 : ∀ k : AV → Res, ld1 h (.ptr b (0 + 0)) k = k (.int 63 0) := fun k => hp.l 0 (by decide) k
  have ln : ∀ k : AV → Res, lenL (plv b) k = k (.int 63 5) := fun k => rfl
  have gv : gsel (.bool true) true (plv b) = plv b := rfl
  have gi : ∀ x : Int, gsel (.bool true) true (.int 63 x) = .int 63 x := fun x => rfl
  have gv2 : gsel (.bool false) false (plv b) = plv b := rfl
  have gi2 : ∀ x : Int, gsel (.bool false) false (.int 63 x) = .int 63 x := fun x => rfl
  simp only [↓s115, ↓ln, ↓gv, ↓gi, ↓gv2, ↓gi2, ↓cP_p, ↓x0, ↓l0_0, ↓m0_0, ↓n0_0, ↓cK_str, cK_str, ↓uc_c, ↓uz_n, ↓cI_i, ↓cB_b, cB_b, ↓cT_t, cT_t, nth_z, nth_1, cK_b, ↓cK_b, ↓cK_i, cK_i, ifB_t, ifB_f, ↓ap_e, sel_t, sel_f, gsel_tt, gsel_tf, gsel_ft, gsel_ff, gsel_u, gd_tt, gd_tf, gd_ft, gd_ff, gd_u, ↓jn_n, jn_n, jn_r, ↓jn_r, blk_n, blk_r, ↓cl_r, cl_r, ↓iAdd_i, ↓iSub_i, ↓iMul_i, ↓iAnd_i, ↓iOr_i, ↓iXor_i, ↓iNeg_i, iQuo_i, iRem_i, ↓iConv_i, iConv_i, ↓bNot_b, bNot_b, ↓eqN_i, ↓ltN_i, ↓eqB_b, bnot_e, Int.ofNat_eq_natCast, Int.cast_ofNat_Int, Int.reduceBEq, Int.reduceAdd, Int.reduceNeg, Int.reduceNegSucc, Int.reduceLT, Int.reduceLE, Int.reduceMul, Int.reduceTMod, Int.reduceSub, Int.reduceBNe, Bool.not_true, Bool.not_false, decide_true, decide_false, w63_in, w31_in, ne_eq, not_false_eq_true, Int.reduceEq, reduceCtorEq, ww3131, ww6363, ww3163, ww6331, ww3231, ww3263, ww6463, ww6364, sh31, sh63, sl63, m31, m63, n63, s5a, s5b, s6a, s6b, b31, b32, b63, c63, c64, d64, iShl_c, iShr_c, sr3, sr6, sr7]
theorem tag1_1 (hp : Pool h b) : s115 [plv b, .int 63 1, .int 63 (.ofNat 1)] h = .ret (.bool true) h := by
  have x1 : ∀ k : AV → Res, ixA 5 (plv b) (.int 63 1) k = k (.ptr b 5) := fun k => hp.ix 1 (by decide) k
  have l1_0 : ∀ k : AV → Res, ld1 h (.ptr b (Nat.add 5 0)) k = k (.int 63 1) := fun k => hp.l 5 (by decide) k
  have m1_0 : ∀ k : AV → Res, ld1 h (.ptr b 5) k = k (.int 63 1) := fun k => hp.l 5 (by decide) k
  have n1_0 : ∀ k : AV → Res, ld1 h (.ptr b (5 + 0)) k = k (.int 63 1) := fun k => hp.l 5 (by decide) k
  have ln : ∀ k : AV → Res, lenL (plv b) k = k (.int 63 5) := fun k => rfl
  have gv : gsel (.bool true) true (plv b) = plv b := rfl
  have gi : ∀ x : Int, gsel (.bool true) true (.int 63 x) = .int 63 x := fun x => rfl
  have gv2 : gsel (.bool false) false (plv b) = plv b := rfl
  have gi2 : ∀ x : Int, gsel (.bool false) false (.int 63 x) = .int 63 x := fun x => rfl
  simp only [↓s115, ↓ln, ↓gv, ↓gi, ↓gv2, ↓gi2, ↓cP_p, ↓x1, ↓l1_0, ↓m1_0, ↓n1_0, ↓cK_str, cK_str, ↓uc_c, ↓uz_n, ↓cI_i, ↓cB_b, cB_b, ↓cT_t, cT_t, nth_z, nth_1, cK_b, ↓cK_b, ↓cK_i, cK_i, ifB_t, ifB_f, ↓ap_e, sel_t, sel_f, gsel_tt, gsel_tf, gsel_ft, gsel_ff, gsel_u, gd_tt, gd_tf, gd_ft, gd_ff, gd_u, ↓jn_n, jn_n, jn_r, ↓jn_r, blk_n, blk_r, ↓cl_r, cl_r, ↓iAdd_i, ↓iSub_i, ↓iMul_i, ↓iAnd_i, ↓iOr_i, ↓iXor_i, ↓iNeg_i, iQuo_i, iRem_i, ↓iConv_i, iConv_i, ↓bNot_b, bNot_b, ↓eqN_i, ↓ltN_i, ↓eqB_b, bnot_e, Int.ofNat_eq_natCast, Int.cast_ofNat_Int, Int.reduceBEq, Int.reduceAdd, Int.reduceNeg, Int.reduceNegSucc, Int.reduceLT, Int.reduceLE, Int.reduceMul, Int.reduceTMod, Int.reduceSub, Int.reduceBNe, Bool.not_true, Bool.not_false, decide_true, decide_false, w63_in, w31_in, ne_eq, not_false_eq_true, Int.reduceEq, reduceCtorEq, ww3131, ww6363, ww3163, ww6331, ww3231, ww3263, ww6463, ww6364, sh31, sh63, sl63, m31, m63, n63, s5a, s5b, s6a, s6b, b31, b32, b63, c63, c64, d64, iShl_c, iShr_c, sr3, sr6, sr7]
theorem tag1_7 (hp : Pool h b) : s115 [plv b, .int 63 1, .int 63 (.ofNat 7)] h = .ret (.bool false) h := by
  have x1 : ∀ k : AV → Res, ixA 5 (plv b) (.int 63 1) k = k (.ptr b 5) := fun k => hp.ix 1 (by decide) k
  have l1_0 : ∀ k : AV → Res, ld1 h (.ptr b (Nat.add 5 0)) k = k (.int 63 1) := fun k => hp.l 5 (by decide) k
  have m1_0 : ∀ k : AV → Res, ld1 h (.ptr b 5) k = k (.int 63 1) := fun k => hp.l 5 (by decide) k
  have n1_0 : ∀ k : AV → Res, ld1 h (.ptr b (5 + 0)) k = k (.int 63 1) := fun k => hp.l 5 (by decide) k
  have ln : ∀ k : AV → Res, lenL (plv b) k = k (.int 63 5) := fun k => rfl
  have gv : gsel (.bool true) true (plv b) = plv b := rfl
  have gi : ∀ x : Int, gsel (.bool true) true (.int 63 x) = .int 63 x := fun x => rfl
  have gv2 : gsel (.bool false) false (plv b) = plv b := rfl
  have gi2 : ∀ x : Int, gsel (.bool false) false (.int 63 x) = .int 63 x := fun x => rfl
  simp only [↓s115, ↓ln, ↓gv, ↓gi, ↓gv2, ↓gi2, ↓cP_p, ↓x1, ↓l1_0, ↓m1_0, ↓n1_0, ↓cK_str, cK_str, ↓uc_c, ↓uz_n, ↓cI_i, ↓cB_b, cB_b, ↓cT_t, cT_t, nth_z, nth_1, cK_b, ↓cK_b, ↓cK_i, cK_i, ifB_t, ifB_f, ↓ap_e, sel_t, sel_f, gsel_tt, gsel_tf, gsel_ft, gsel_ff, gsel_u, gd_tt, gd_tf, gd_ft, gd_ff, gd_u, ↓jn_n, jn_n, jn_r, ↓jn_r, blk_n, blk_r, ↓cl_r, cl_r, ↓iAdd_i, ↓iSub_i, ↓iMul_i, ↓iAnd_i, ↓iOr_i, ↓iXor_i, ↓iNeg_i, iQuo_i, iRem_i, ↓iConv_i, iConv_i, ↓bNot_b, bNot_b, ↓eqN_i, ↓ltN_i, ↓eqB_b, bnot_e, Int.ofNat_eq_natCast, Int.cast_ofNat_Int, Int.reduceBEq, Int.reduceAdd, Int.reduceNeg, Int.reduceNegSucc, Int.reduceLT, Int.reduceLE, Int.reduceMul, Int.reduceTMod, Int.reduceSub, Int.reduceBNe, Bool.not_true, Bool.not_false, decide_true, decide_false, w63_in, w31_in, ne_eq, not_false_eq_true, Int.reduceEq, reduceCtorEq, ww3131, ww6363, ww3163, ww6331, ww3231, ww3263, ww6463, ww6364, sh31, sh63, sl63, m31, m63, n63, s5a, s5b, s6a, s6b, b31, b32, b63, c63, c64, d64, iShl_c, iShr_c, sr3, sr6, sr7]
theorem tag2_1 (hp : Pool h b) : s115 [plv b, .int 63 2, .int 63 (.ofNat 1)] h = .ret (.bool false) h := by
  have x2 : ∀ k : AV → Res, ixA 5 (plv b) (.int 63 2) k = k (.ptr b 10) := fun k => hp.ix 2 (by decide) k
  have l2_0 : ∀ k : AV → Res, ld1 h (.ptr b (Nat.add 10 0)) k = k (.int 63 7) := fun k => hp.l 10 (by decide) k
  have m2_0 : ∀ k : AV → Res, ld1 h (.ptr b 10) k = k (.int 63 7) := fun k => hp.l 10 (by decide) k
  have n2_0 : ∀ k : AV → Res, ld1 h (.ptr b (10 + 0)) k = k (.int 63 7) := fun k => hp.l 10 (by decide) k
  have ln : ∀ k : AV → Res, lenL (plv b) k = k (.int 63 5) := fun k => rfl
  have gv : gsel (.bool true) true (plv b) = plv b := rfl
  have gi : ∀ x : Int, gsel (.bool true) true (.int 63 x) = .int 63 x := fun x => rfl
  have gv2 : gsel (.bool false) false (plv b) = plv b := rfl
  have gi2 : ∀ x : Int, gsel (.bool false) false (.int 63 x) = .int 63 x := fun x => rfl
  simp only [↓s115, ↓ln, ↓gv, ↓gi, ↓gv2, ↓gi2, ↓cP_p, ↓x2, ↓l2_0, ↓m2_0, ↓n2_0, ↓cK_str, cK_str, ↓uc_c, ↓uz_n, ↓cI_i, ↓cB_b, cB_b, ↓cT_t, cT_t, nth_z, nth_1, cK_b, ↓cK_b, ↓cK_i, cK_i, ifB_t, ifB_f, ↓ap_e, sel_t, sel_f, gsel_tt, gsel_tf, gsel_ft, gsel_ff, gsel_u, gd_tt, gd_tf, gd_ft, gd_ff, gd_u, ↓jn_n, jn_n, jn_r, ↓jn_r, blk_n, blk_r, ↓cl_r, cl_r, ↓iAdd_i, ↓iSub_i, ↓iMul_i, ↓iAnd_i, ↓iOr_i, ↓iXor_i, ↓iNeg_i, iQuo_i, iRem_i, ↓iConv_i, iConv_i, ↓bNot_b, bNot_b, ↓eqN_i, ↓ltN_i, ↓eqB_b, bnot_e, Int.ofNat_eq_natCast, Int.cast_ofNat_Int, Int.reduceBEq, Int.reduceAdd, Int.reduceNeg, Int.reduceNegSucc, Int.reduceLT, Int.reduceLE, Int.reduceMul, Int.reduceTMod, Int.reduceSub, Int.reduceBNe, Bool.not_true, Bool.not_false, decide_true, decide_false, w63_in, w31_in, ne_eq, not_false_eq_true, Int.reduceEq, reduceCtorEq, ww3131, ww6363, ww3163, ww6331, ww3231, ww3263, ww6463, ww6364, sh31, sh63, sl63, m31, m63, n63, s5a, s5b, s6a, s6b, b31, b32, b63, c63, c64, d64, iShl_c, iShr_c, sr3, sr6, sr7]
theorem tag2_7 (hp : Pool h b) : s115 [plv b, .int 63 2, .int 63 (.ofNat 7)] h = .ret (.bool true) h := by
  have x2 : ∀ k : AV → Res, ixA 5 (plv b) (.int 63 2) k = k (.ptr b 10) := fun k => hp.ix 2 (by decide) k
  have l2_0 : ∀ k : AV → Res, ld1 h (.ptr b (Nat.add 10 0)) k = k (.int 63 7) := fun k => hp.l 10 (by decide) k
  have m2_0 : ∀ k : AV → Res, ld1 h (.ptr b 10) k = k (.int 63 7) := fun k => hp.l 10 (by decide) k
  have n2_0 : ∀ k : AV → Res, ld1 h (.ptr b (10 + 0)) k = k (.int 63 7) := fun k => hp.l 10 (by decide) k
  have ln : ∀ k : AV → Res, lenL (plv b) k = k (.int 63 5) := fun k => rfl
  have gv : gsel (.bool true) true (plv b) = plv b := rfl
  have gi : ∀ x : Int, gsel (.bool true) true (.int 63 x) = .int 63 x := fun x => rfl
  have gv2 : gsel (.bool false) false (plv b) = plv b := rfl
  have gi2 : ∀ x : Int, gsel (.bool false) false (.int 63 x) = .int 63 x := fun x => rfl
  simp only [↓s115, ↓ln, ↓gv, ↓gi, ↓gv2, ↓gi2, ↓cP_p, ↓x2, ↓l2_0, ↓m2_0, ↓n2_0, ↓cK_str, cK_str, ↓uc_c, ↓uz_n, ↓cI_i, ↓cB_b, cB_b, ↓cT_t, cT_t, nth_z, nth_1, cK_b, ↓cK_b, ↓cK_i, cK_i, ifB_t, ifB_f, ↓ap_e, sel_t, sel_f, gsel_tt, gsel_tf, gsel_ft, gsel_ff, gsel_u, gd_tt, gd_tf, gd_ft, gd_ff, gd_u, ↓jn_n, jn_n, jn_r, ↓jn_r, blk_n, blk_r, ↓cl_r, cl_r, ↓iAdd_i, ↓iSub_i, ↓iMul_i, ↓iAnd_i, ↓iOr_i, ↓iXor_i, ↓iNeg_i, iQuo_i, iRem_i, ↓iConv_i, iConv_i, ↓bNot_b, bNot_b, ↓eqN_i, ↓ltN_i, ↓eqB_b, bnot_e, Int.ofNat_eq_natCast, Int.cast_ofNat_Int, Int.reduceBEq, Int.reduceAdd, Int.reduceNeg, Int.reduceNegSucc, Int.reduceLT, Int.reduceLE, Int.reduceMul, Int.reduceTMod, Int.reduceSub, Int.reduceBNe, Bool.not_true, Bool.not_false, decide_true, decide_false, w63_in, w31_in, ne_eq, not_false_eq_true, Int.reduceEq, reduceCtorEq, ww3131, ww6363, ww3163, ww6331, ww3231, ww3263, ww6463, ww6364, sh31, sh63, sl63, m31, m63, n63, s5a, s5b, s6a, s6b, b31, b32, b63, c63, c64, d64, iShl_c, iShr_c, sr3, sr6, sr7]
theorem tag3_1 (hp : Pool h b) : s115 [plv b, .int 63 3, .int 63 (.ofNat 1)] h = .ret (.bool true) h := by
  have x3 : ∀ k : AV → Res, ixA 5 (plv b) (.int 63 3) k = k (.ptr b 15) := fun k => hp.ix 3 (by decide) k
  have l3_0 : ∀ k : AV → Res, ld1 h (.ptr b (Nat.add 15 0)) k = k (.int 63 1) := fun k => hp.l 15 (by decide) k
  have m3_0 : ∀ k : AV → Res, ld1 h (.ptr b 15) k = k (.int 63 1) := fun k => hp.l 15 (by decide) k
  have n3_0 : ∀ k : AV → Res, ld1 h (.ptr b (15 + 0)) k = k (.int 63 1) := fun k => hp.l 15 (by decide) k
  have ln : ∀ k : AV → Res, lenL (plv b) k = k (.int 63 5) := fun k => rfl
  have gv : gsel (.bool true) true (plv b) = plv b := rfl
  have gi : ∀ x : Int, gsel (.bool true) true (.int 63 x) = .int 63 x := fun x => rfl
  have gv2 : gsel (.bool false) false (plv b) = plv b := rfl
  have gi2 : ∀ x : Int, gsel (.bool false) false (.int 63 x) = .int 63 x := fun x => rfl
  simp only [↓s115, ↓ln, ↓gv, ↓gi, ↓gv2, ↓gi2, ↓cP_p, ↓x3, ↓l3_0, ↓m3_0, ↓n3_0, ↓cK_str, cK_str, ↓uc_c, ↓uz_n, ↓cI_i, ↓cB_b, cB_b, ↓cT_t, cT_t, nth_z, nth_1, cK_b, ↓cK_b, ↓cK_i, cK_i, ifB_t, ifB_f, ↓ap_e, sel_t, sel_f, gsel_tt, gsel_tf, gsel_ft, gsel_ff, gsel_u, gd_tt, gd_tf, gd_ft, gd_ff, gd_u, ↓jn_n, jn_n, jn_r, ↓jn_r, blk_n, blk_r, ↓cl_r, cl_r, ↓iAdd_i, ↓iSub_i, ↓iMul_i, ↓iAnd_i, ↓iOr_i, ↓iXor_i, ↓iNeg_i, iQuo_i, iRem_i, ↓iConv_i, iConv_i, ↓bNot_b, bNot_b, ↓eqN_i, ↓ltN_i, ↓eqB_b, bnot_e, Int.ofNat_eq_natCast, Int.cast_ofNat_Int, Int.reduceBEq, Int.reduceAdd, Int.reduceNeg, Int.reduceNegSucc, Int.reduceLT, Int.reduceLE, Int.reduceMul, Int.reduceTMod, Int.reduceSub, Int.reduceBNe, Bool.not_true, Bool.not_false, decide_true, decide_false, w63_in, w31_in, ne_eq, not_false_eq_true, Int.reduceEq, reduceCtorEq, ww3131, ww6363, ww3163, ww6331, ww3231, ww3263, ww6463, ww6364, sh31, sh63, sl63, m31, m63, n63, s5a, s5b, s6a, s6b, b31, b32, b63, c63, c64, d64, iShl_c, iShr_c, sr3, sr6, sr7]
theorem tag3_7 (hp : Pool h b) : s115 [plv b, .int 63 3, .int 63 (.ofNat 7)] h = .ret (.bool false) h := by
  have x3 : ∀ k : AV → Res, ixA 5 (plv b) (.int 63 3) k = k (.ptr b 15) := fun k => hp.ix 3 (by decide) k
  have l3_0 : ∀ k : AV → Res, ld1 h (.ptr b (Nat.add 15 0)) k = k (.int 63 1) := fun k => hp.l 15 (by decide) k
  have m3_0 : ∀ k : AV → Res, ld1 h (.ptr b 15) k = k (.int 63 1) := fun k => hp.l 15 (by decide) k
  have n3_0 : ∀ k : AV → Res, ld1 h (.ptr b (15 + 0)) k = k (.int 63 1) := fun k => hp.l 15 (by decide) k
  have ln : ∀ k : AV → Res, lenL (plv b) k = k (.int 63 5) := fun k => rfl
  have gv : gsel (.bool true) true (plv b) = plv b := rfl
  have gi : ∀ x : Int, gsel (.bool true) true (.int 63 x) = .int 63 x := fun x => rfl
  have gv2 : gsel (.bool false) false (plv b) = plv b := rfl
  have gi2 : ∀ x : Int, gsel (.bool false) false (.int 63 x) = .int 63 x := fun x => rfl
  simp only [↓s115, ↓ln, ↓gv, ↓gi, ↓gv2, ↓gi2, ↓cP_p, ↓x3, ↓l3_0, ↓m3_0, ↓n3_0, ↓cK_str, cK_str, ↓uc_c, ↓uz_n, ↓cI_i, ↓cB_b, cB_b, ↓cT_t, cT_t, nth_z, nth_1, cK_b, ↓cK_b, ↓cK_i, cK_i, ifB_t, ifB_f, ↓ap_e, sel_t, sel_f, gsel_tt, gsel_tf, gsel_ft, gsel_ff, gsel_u, gd_tt, gd_tf, gd_ft, gd_ff, gd_u, ↓jn_n, jn_n, jn_r, ↓jn_r, blk_n, blk_r, ↓cl_r, cl_r, ↓iAdd_i, ↓iSub_i, ↓iMul_i, ↓iAnd_i, ↓iOr_i, ↓iXor_i, ↓iNeg_i, iQuo_i, iRem_i, ↓iConv_i, iConv_i, ↓bNot_b, bNot_b, ↓eqN_i, ↓ltN_i, ↓eqB_b, bnot_e, Int.ofNat_eq_natCast, Int.cast_ofNat_Int, Int.reduceBEq, Int.reduceAdd, Int.reduceNeg, Int.reduceNegSucc, Int.reduceLT, Int.reduceLE, Int.reduceMul, Int.reduceTMod, Int.reduceSub, Int.reduceBNe, Bool.not_true, Bool.not_false, decide_true, decide_false, w63_in, w31_in, ne_eq, not_false_eq_true, Int.reduceEq, reduceCtorEq, ww3131, ww6363, ww3163, ww6331, ww3231, ww3263, ww6463, ww6364, sh31, sh63, sl63, m31, m63, n63, s5a, s5b, s6a, s6b, b31, b32, b63, c63, c64, d64, iShl_c, iShr_c, sr3, sr6, sr7]
theorem tag4_1 (hp : Pool h b) : s115 [plv b, .int 63 4, .int 63 (.ofNat 1)] h = .ret (.bool false) h := by
  have x4 : ∀ k : AV → Res, ixA 5 (plv b) (.int 63 4) k = k (.ptr b 20) := fun k => hp.ix 4 (by decide) k
  have l4_0 : ∀ k : AV → Res, ld1 h (.ptr b (Nat.add 20 0)) k = k (.int 63 7) := fun k => hp.l 20 (by decide) k
  have m4_0 : ∀ k : AV → Res, ld1 h (.ptr b 20) k = k (.int 63 7) := fun k => hp.l 20 (by decide) k
  have n4_0 : ∀ k : AV → Res, ld1 h (.ptr b (20 + 0)) k = k (.int 63 7) := fun k => hp.l 20 (by decide) k
  have ln : ∀ k : AV → Res, lenL (plv b) k = k (.int 63 5) := fun k => rfl
  have gv : gsel (.bool true) true (plv b) = plv b := rfl
  have gi : ∀ x : Int, gsel (.bool true) true (.int 63 x) = .int 63 x := fun x => rfl
  have gv2 : gsel (.bool false) false (plv b) = plv b := rfl
  have gi2 : ∀ x : Int, gsel (.bool false) false (.int 63 x) = .int 63 x := fun x => rfl
  simp only [↓s115, ↓ln, ↓gv, ↓gi, ↓gv2, ↓gi2, ↓cP_p, ↓x4, ↓l4_0, ↓m4_0, ↓n4_0, ↓cK_str, cK_str, ↓uc_c, ↓uz_n, ↓cI_i, ↓cB_b, cB_b, ↓cT_t, cT_t, nth_z, nth_1, cK_b, ↓cK_b, ↓cK_i, cK_i, ifB_t, ifB_f, ↓ap_e, sel_t, sel_f, gsel_tt, gsel_tf, gsel_ft, gsel_ff, gsel_u, gd_tt, gd_tf, gd_ft, gd_ff, gd_u, ↓jn_n, jn_n, jn_r, ↓jn_r, blk_n, blk_r, ↓cl_r, cl_r, ↓iAdd_i, ↓iSub_i, ↓iMul_i, ↓iAnd_i, ↓iOr_i, ↓iXor_i, ↓iNeg_i, iQuo_i, iRem_i, ↓iConv_i, iConv_i, ↓bNot_b, bNot_b, ↓eqN_i, ↓ltN_i, ↓eqB_b, bnot_e, Int.ofNat_eq_natCast, Int.cast_ofNat_Int, Int.reduceBEq, Int.reduceAdd, Int.reduceNeg, Int.reduceNegSucc, Int.reduceLT, Int.reduceLE, Int.reduceMul, Int.reduceTMod, Int.reduceSub, Int.reduceBNe, Bool.not_true, Bool.not_false, decide_true, decide_false, w63_in, w31_in, ne_eq, not_false_eq_true, Int.reduceEq, reduceCtorEq, ww3131, ww6363, ww3163, ww6331, ww3231, ww3263, ww6463, ww6364, sh31, sh63, sl63, m31, m63, n63, s5a, s5b, s6a, s6b, b31, b32, b63, c63, c64, d64, iShl_c, iShr_c, sr3, sr6, sr7]
theorem tag4_7 (hp : Pool h b) : s115 [plv b, .int 63 4, .int 63 (.ofNat 7)] h = .ret (.bool true) h := by
  have x4 : ∀ k : AV → Res, ixA 5 (plv b) (.int 63 4) k = k (.ptr b 20) := fun k => hp.ix 4 (by decide) k
  have l4_0 : ∀ k : AV → Res, ld1 h (.ptr b (Nat.add 20 0)) k = k (.int 63 7) := fun k => hp.l 20 (by decide) k
  have m4_0 : ∀ k : AV → Res, ld1 h (.ptr b 20) k = k (.int 63 7) := fun k => hp.l 20 (by decide) k
  have n4_0 : ∀ k : AV → Res, ld1 h (.ptr b (20 + 0)) k = k (.int 63 7) := fun k => hp.l 20 (by decide) k
  have ln : ∀ k : AV → Res, lenL (plv b) k = k (.int 63 5) := fun k => rfl
  have gv : gsel (.bool true) true (plv b) = plv b := rfl
  have gi : ∀ x : Int, gsel (.bool true) true (.int 63 x) = .int 63 x := fun x => rfl
  have gv2 : gsel (.bool false) false (plv b) = plv b := rfl
  have gi2 : ∀ x : Int, gsel (.bool false) false (.int 63 x) = .int 63 x := fun x => rfl
  simp only [↓s115, ↓ln, ↓gv, ↓gi, ↓gv2, ↓gi2, ↓cP_p, ↓x4, ↓l4_0, ↓m4_0, ↓n4_0, ↓cK_str, cK_str, ↓uc_c, ↓uz_n, ↓cI_i, ↓cB_b, cB_b, ↓cT_t, cT_t, nth_z, nth_1, cK_b, ↓cK_b, ↓cK_i, cK_i, ifB_t, ifB_f, ↓ap_e, sel_t, sel_f, gsel_tt, gsel_tf, gsel_ft, gsel_ff, gsel_u, gd_tt, gd_tf, gd_ft, gd_ff, gd_u, ↓jn_n, jn_n, jn_r, ↓jn_r, blk_n, blk_r, ↓cl_r, cl_r, ↓iAdd_i, ↓iSub_i, ↓iMul_i, ↓iAnd_i, ↓iOr_i, ↓iXor_i, ↓iNeg_i, iQuo_i, iRem_i, ↓iConv_i, iConv_i, ↓bNot_b, bNot_b, ↓eqN_i, ↓ltN_i, ↓eqB_b, bnot_e, Int.ofNat_eq_natCast, Int.cast_ofNat_Int, Int.reduceBEq, Int.reduceAdd, Int.reduceNeg, Int.reduceNegSucc, Int.reduceLT, Int.reduceLE, Int.reduceMul, Int.reduceTMod, Int.reduceSub, Int.reduceBNe, Bool.not_true, Bool.not_false, decide_true, decide_false, w63_in, w31_in, ne_eq, not_false_eq_true, Int.reduceEq, reduceCtorEq, ww3131, ww6363, ww3163, ww6331, ww3231, ww3263, ww6463, ww6364, sh31, sh63, sl63, m31, m63, n63, s5a, s5b, s6a, s6b, b31, b32, b63, c63, c64, d64, iShl_c, iShr_c, sr3, sr6, sr7]
theorem tagB_1 (hp : Pool h b) (i : Nat) (hi : 5 ≤ i) : s115 [plv b, .int 63 (i : Int), .int 63 (.ofNat 1)] h = .ret (.bool false) h := by
  have ln : ∀ k : AV → Res, lenL (plv b) k = k (.int 63 5) := fun k => rfl
  have gv : gsel (.bool true) true (plv b) = plv b := rfl
  have gi : ∀ x : Int, gsel (.bool true) true (.int 63 x) = .int 63 x := fun x => rfl
  have gv2 : gsel (.bool false) false (plv b) = plv b := rfl
  have gi2 : ∀ x : Int, gsel (.bool false) false (.int 63 x) = .int 63 x := fun x => rfl
  have c1 : (0 : Int) < (i : Int) := by omega
  have c2 : ¬ (i : Int) < 5 := by omega
  simp only [↓s115, ↓ln, ↓gv, ↓gi, c1, c2, ↓cK_str, cK_str, ↓uc_c, ↓uz_n, ↓cI_i, ↓cB_b, cB_b, ↓cT_t, cT_t, nth_z, nth_1, cK_b, ↓cK_b, ↓cK_i, cK_i, ifB_t, ifB_f, ↓ap_e, sel_t, sel_f, gsel_tt, gsel_tf, gsel_ft, gsel_ff, gsel_u, gd_tt, gd_tf, gd_ft, gd_ff, gd_u, ↓jn_n, jn_n, jn_r, ↓jn_r, blk_n, blk_r, ↓cl_r, cl_r, ↓iAdd_i, ↓iSub_i, ↓iMul_i, ↓iAnd_i, ↓iOr_i, ↓iXor_i, ↓iNeg_i, iQuo_i, iRem_i, ↓iConv_i, iConv_i, ↓bNot_b, bNot_b, ↓eqN_i, ↓ltN_i, ↓eqB_b, bnot_e, Int.ofNat_eq_natCast, Int.cast_ofNat_Int, Int.reduceBEq, Int.reduceAdd, Int.reduceNeg, Int.reduceNegSucc, Int.reduceLT, Int.reduceLE, Int.reduceMul, Int.reduceTMod, Int.reduceSub, Int.reduceBNe, Bool.not_true, Bool.not_false, decide_true, decide_false, w63_in, w31_in, ne_eq, not_false_eq_true, Int.reduceEq, reduceCtorEq, ww3131, ww6363, ww3163, ww6331, ww3231, ww3263, ww6463, ww6364, sh31, sh63, sl63, m31, m63, n63, s5a, s5b, s6a, s6b, b31, b32, b63, c63, c64, d64, iShl_c, iShr_c, sr3, sr6, sr7]
theorem tagB_7 (hp : Pool h b) (i : Nat) (hi : 5 ≤ i) : s115 [plv b, .int 63 (i : Int), .int 63 (.ofNat 7)] h = .ret (.bool false) h := by
  have ln : ∀ k : AV → Res, lenL (plv b) k = k (.int 63 5) := fun k => rfl
  have gv : gsel (.bool true) true (plv b) = plv b := rfl
  have gi : ∀ x : Int, gsel (.bool true) true (.int 63 x) = .int 63 x := fun x => rfl
  have gv2 : gsel (.bool false) false (plv b) = plv b := rfl
  have gi2 : ∀ x : Int, gsel (.bool false) false (.int 63 x) = .int 63 x := fun x => rfl
  have c1 : (0 : Int) < (i : Int) := by omega
  have c2 : ¬ (i : Int) < 5 := by omega
  simp only [↓s115, ↓ln, ↓gv, ↓gi, c1, c2, ↓cK_str, cK_str, ↓uc_c, ↓uz_n, ↓cI_i, ↓cB_b, cB_b, ↓cT_t, cT_t, nth_z, nth_1, cK_b, ↓cK_b, ↓cK_i, cK_i, ifB_t, ifB_f, ↓ap_e, sel_t, sel_f, gsel_tt, gsel_tf, gsel_ft, gsel_ff, gsel_u, gd_tt, gd_tf, gd_ft, gd_ff, gd_u, ↓jn_n, jn_n, jn_r, ↓jn_r, blk_n, blk_r, ↓cl_r, cl_r, ↓iAdd_i, ↓iSub_i, ↓iMul_i, ↓iAnd_i, ↓iOr_i, ↓iXor_i, ↓iNeg_i, iQuo_i, iRem_i, ↓iConv_i, iConv_i, ↓bNot_b, bNot_b, ↓eqN_i, ↓ltN_i, ↓eqB_b, bnot_e, Int.ofNat_eq_natCast, Int.cast_ofNat_Int, Int.reduceBEq, Int.reduceAdd, Int.reduceNeg, Int.reduceNegSucc, Int.reduceLT, Int.reduceLE, Int.reduceMul, Int.reduceTMod, Int.reduceSub, Int.reduceBNe, Bool.not_true, Bool.not_false, decide_true, decide_false, w63_in, w31_in, ne_eq, not_false_eq_true, Int.reduceEq, reduceCtorEq, ww3131, ww6363, ww3163, ww6331, ww3231, ww3263, ww6463, ww6364, sh31, sh63, sl63, m31, m63, n63, s5a, s5b, s6a, s6b, b31, b32, b63, c63, c64, d64, iShl_c, iShr_c, sr3, sr6, sr7]
theorem text1 (hp : Pool h b) : s116 [plv b, .int 63 1] h = .ret (.tup (.cons (.str 1 97) (.cons (.bool true) .nil))) h := by
  have x1 : ∀ k : AV → Res, ixA 5 (plv b) (.int 63 1) k = k (.ptr b 5) := fun k => hp.ix 1 (by decide) k
  have l1_1 : ∀ k : AV → Res, ld1 h (.ptr b (Nat.add 5 1)) k = k (.str 1 97) := fun k => hp.l 6 (by decide) k
  have m1_1 : ∀ k : AV → Res, ld1 h (.ptr b 6) k = k (.str 1 97) := fun k => hp.l 6 (by decide) k
  have n1_1 : ∀ k : AV → Res, ld1 h (.ptr b (5 + 1)) k = k (.str 1 97) := fun k => hp.l 6 (by decide) k
  have e := tag1_1 hp
  have e : s115 [plv b, .int 63 1, .int 63 1] h = .ret (.bool true) h := e
  simp only [↓s116, ↓e, ↓cP_p, ↓x1, ↓l1_1, ↓m1_1, ↓n1_1, ↓cK_str, cK_str, ↓uc_c, ↓uz_n, ↓cI_i, ↓cB_b, cB_b, ↓cT_t, cT_t, nth_z, nth_1, cK_b, ↓cK_b, ↓cK_i, cK_i, ifB_t, ifB_f, ↓ap_e, sel_t, sel_f, gsel_tt, gsel_tf, gsel_ft, gsel_ff, gsel_u, gd_tt, gd_tf, gd_ft, gd_ff, gd_u, ↓jn_n, jn_n, jn_r, ↓jn_r, blk_n, blk_r, ↓cl_r, cl_r, ↓iAdd_i, ↓iSub_i, ↓iMul_i, ↓iAnd_i, ↓iOr_i, ↓iXor_i, ↓iNeg_i, iQuo_i, iRem_i, ↓iConv_i, iConv_i, ↓bNot_b, bNot_b, ↓eqN_i, ↓ltN_i, ↓eqB_b, bnot_e, Int.ofNat_eq_natCast, Int.cast_ofNat_Int, Int.reduceBEq, Int.reduceAdd, Int.reduceNeg, Int.reduceNegSucc, Int.reduceLT, Int.reduceLE, Int.reduceMul, Int.reduceTMod, Int.reduceSub, Int.reduceBNe, Bool.not_true, Bool.not_false, decide_true, decide_false, w63_in, w31_in, ne_eq, not_false_eq_true, Int.reduceEq, reduceCtorEq, ww3131, ww6363, ww3163, ww6331, ww3231, ww3263, ww6463, ww6364, sh31, sh63, sl63, m31, m63, n63, s5a, s5b, s6a, s6b, b31, b32, b63, c63, c64, d64, iShl_c, iShr_c, sr3, sr6, sr7]
theorem text3 (hp : Pool h b) : s116 [plv b, .int 63 3] h = .ret (.tup (.cons (.str 2 18779) (.cons (.bool true) .nil))) h := by
  have x3 : ∀ k : AV → Res, ixA 5 (plv b) (.int 63 3) k = k (.ptr b 15) := fun k => hp.ix 3 (by decide) k
  have l3_1 : ∀ k : AV → Res, ld1 h (.ptr b (Nat.add 15 1)) k = k (.str 2 18779) := fun k => hp.l 16 (by decide) k
  have m3_1 : ∀ k : AV → Res, ld1 h (.ptr b 16) k = k (.str 2 18779) := fun k => hp.l 16 (by decide) k
  have n3_1 : ∀ k : AV → Res, ld1 h (.ptr b (15 + 1)) k = k (.str 2 18779) := fun k => hp.l 16 (by decide) k
  have e := tag3_1 hp
  have e : s115 [plv b, .int 63 3, .int 63 1] h = .ret (.bool true) h := e
  simp only [↓s116, ↓e, ↓cP_p, ↓x3, ↓l3_1, ↓m3_1, ↓n3_1, ↓cK_str, cK_str, ↓uc_c, ↓uz_n, ↓cI_i, ↓cB_b, cB_b, ↓cT_t, cT_t, nth_z, nth_1, cK_b, ↓cK_b, ↓cK_i, cK_i, ifB_t, ifB_f, ↓ap_e, sel_t, sel_f, gsel_tt, gsel_tf, gsel_ft, gsel_ff, gsel_u, gd_tt, gd_tf, gd_ft, gd_ff, gd_u, ↓jn_n, jn_n, jn_r, ↓jn_r, blk_n, blk_r, ↓cl_r, cl_r, ↓iAdd_i, ↓iSub_i, ↓iMul_i, ↓iAnd_i, ↓iOr_i, ↓iXor_i, ↓iNeg_i, iQuo_i, iRem_i, ↓iConv_i, iConv_i, ↓bNot_b, bNot_b, ↓eqN_i, ↓ltN_i, ↓eqB_b, bnot_e, Int.ofNat_eq_natCast, Int.cast_ofNat_Int, Int.reduceBEq, Int.reduceAdd, Int.reduceNeg, Int.reduceNegSucc, Int.reduceLT, Int.reduceLE, Int.reduceMul, Int.reduceTMod, Int.reduceSub, Int.reduceBNe, Bool.not_true, Bool.not_false, decide_true, decide_false, w63_in, w31_in, ne_eq, not_false_eq_true, Int.reduceEq, reduceCtorEq, ww3131, ww6363, ww3163, ww6331, ww3231, ww3263, ww6463, ww6364, sh31, sh63, sl63, m31, m63, n63, s5a, s5b, s6a, s6b, b31, b32, b63, c63, c64, d64, iShl_c, iShr_c, sr3, sr6, sr7]
theorem t111 (hp : Pool h b) (i : Nat) : s111 [plv b, .int 63 (i : Int)] h = .ret (.tup (.cons (nmC i) (.cons (.bool (isC i)) .nil))) h := by
  by_cases c : 5 ≤ i
  · have e := tagB_7 hp i c
    have e : s115 [plv b, .int 63 (i : Int), .int 63 7] h = .ret (.bool false) h := e
    have q1 : isC i = false := by unfold isC; rw [decide_eq_false (by omega), decide_eq_false (by omega)]; rfl
    have q2 : nmC i = .str 0 0 := by unfold nmC; rw [if_neg (by omega), if_neg (by omega)]
    rw [q1, q2]
    simp only [↓s111, ↓e, ↓cK_str, cK_str, ↓uc_c, ↓uz_n, ↓cI_i, ↓cB_b, cB_b, ↓cT_t, cT_t, nth_z, nth_1, cK_b, ↓cK_b, ↓cK_i, cK_i, ifB_t, ifB_f, ↓ap_e, sel_t, sel_f, gsel_tt, gsel_tf, gsel_ft, gsel_ff, gsel_u, gd_tt, gd_tf, gd_ft, gd_ff, gd_u, ↓jn_n, jn_n, jn_r, ↓jn_r, blk_n, blk_r, ↓cl_r, cl_r, ↓iAdd_i, ↓iSub_i, ↓iMul_i, ↓iAnd_i, ↓iOr_i, ↓iXor_i, ↓iNeg_i, iQuo_i, iRem_i, ↓iConv_i, iConv_i, ↓bNot_b, bNot_b, ↓eqN_i, ↓ltN_i, ↓eqB_b, bnot_e, Int.ofNat_eq_natCast, Int.cast_ofNat_Int, Int.reduceBEq, Int.reduceAdd, Int.reduceNeg, Int.reduceNegSucc, Int.reduceLT, Int.reduceLE, Int.reduceMul, Int.reduceTMod, Int.reduceSub, Int.reduceBNe, Bool.not_true, Bool.not_false, decide_true, decide_false, w63_in, w31_in, ne_eq, not_false_eq_true, Int.reduceEq, reduceCtorEq, ww3131, ww6363, ww3163, ww6331, ww3231, ww3263, ww6463, ww6364, sh31, sh63, sl63, m31, m63, n63, s5a, s5b, s6a, s6b, b31, b32, b63, c63, c64, d64, iShl_c, iShr_c, sr3, sr6, sr7]
  · have c : i < 5 := by omega
    match i, c with
    | 0, _ =>
      have e := tag0_7 hp
      have e : s115 [plv b, .int 63 0, .int 63 7] h = .ret (.bool false) h := e
      show s111 [plv b, .int 63 0] h = .ret (.tup (.cons (.str 0 0) (.cons (.bool false) .nil))) h
      simp only [↓s111, ↓e, ↓cK_str, cK_str, ↓uc_c, ↓uz_n, ↓cI_i, ↓cB_b, cB_b, ↓cT_t, cT_t, nth_z, nth_1, cK_b, ↓cK_b, ↓cK_i, cK_i, ifB_t, ifB_f, ↓ap_e, sel_t, sel_f, gsel_tt, gsel_tf, gsel_ft, gsel_ff, gsel_u, gd_tt, gd_tf, gd_ft, gd_ff, gd_u, ↓jn_n, jn_n, jn_r, ↓jn_r, blk_n, blk_r, ↓cl_r, cl_r, ↓iAdd_i, ↓iSub_i, ↓iMul_i, ↓iAnd_i, ↓iOr_i, ↓iXor_i, ↓iNeg_i, iQuo_i, iRem_i, ↓iConv_i, iConv_i, ↓bNot_b, bNot_b, ↓eqN_i, ↓ltN_i, ↓eqB_b, bnot_e, Int.ofNat_eq_natCast, Int.cast_ofNat_Int, Int.reduceBEq, Int.reduceAdd, Int.reduceNeg, Int.reduceNegSucc, Int.reduceLT, Int.reduceLE, Int.reduceMul, Int.reduceTMod, Int.reduceSub, Int.reduceBNe, Bool.not_true, Bool.not_false, decide_true, decide_false, w63_in, w31_in, ne_eq, not_false_eq_true, Int.reduceEq, reduceCtorEq, ww3131, ww6363, ww3163, ww6331, ww3231, ww3263, ww6463, ww6364, sh31, sh63, sl63, m31, m63, n63, s5a, s5b, s6a, s6b, b31, b32, b63, c63, c64, d64, iShl_c, iShr_c, sr3, sr6, sr7]
    | 1, _ =>
      have e := tag1_7 hp
      have e : s115 [plv b, .int 63 1, .int 63 7] h = .ret (.bool false) h := e
      show s111 [plv b, .int 63 1] h = .ret (.tup (.cons (.str 0 0) (.cons (.bool false) .nil))) h
      simp only [↓s111, ↓e, ↓cK_str, cK_str, ↓uc_c, ↓uz_n, ↓cI_i, ↓cB_b, cB_b, ↓cT_t, cT_t, nth_z, nth_1, cK_b, ↓cK_b, ↓cK_i, cK_i, ifB_t, ifB_f, ↓ap_e, sel_t, sel_f, gsel_tt, gsel_tf, gsel_ft, gsel_ff, gsel_u, gd_tt, gd_tf, gd_ft, gd_ff, gd_u, ↓jn_n, jn_n, jn_r, ↓jn_r, blk_n, blk_r, ↓cl_r, cl_r, ↓iAdd_i, ↓iSub_i, ↓iMul_i, ↓iAnd_i, ↓iOr_i, ↓iXor_i, ↓iNeg_i, iQuo_i, iRem_i, ↓iConv_i, iConv_i, ↓bNot_b, bNot_b, ↓eqN_i, ↓ltN_i, ↓eqB_b, bnot_e, Int.ofNat_eq_natCast, Int.cast_ofNat_Int, Int.reduceBEq, Int.reduceAdd, Int.reduceNeg, Int.reduceNegSucc, Int.reduceLT, Int.reduceLE, Int.reduceMul, Int.reduceTMod, Int.reduceSub, Int.reduceBNe, Bool.not_true, Bool.not_false, decide_true, decide_false, w63_in, w31_in, ne_eq, not_false_eq_true, Int.reduceEq, reduceCtorEq, ww3131, ww6363, ww3163, ww6331, ww3231, ww3263, ww6463, ww6364, sh31, sh63, sl63, m31, m63, n63, s5a, s5b, s6a, s6b, b31, b32, b63, c63, c64, d64, iShl_c, iShr_c, sr3, sr6, sr7]
    | 2, _ =>
      have e := tag2_7 hp
      have e : s115 [plv b, .int 63 2, .int 63 7] h = .ret (.bool true) h := e
      have x2 : ∀ k : AV → Res, ixA 5 (plv b) (.int 63 2) k = k (.ptr b 10) := fun k => hp.ix 2 (by decide) k
      have l2_3 : ∀ k : AV → Res, ld1 h (.ptr b (Nat.add 10 3)) k = k (.int 63 1) := fun k => hp.l 13 (by decide) k
      have m2_3 : ∀ k : AV → Res, ld1 h (.ptr b 13) k = k (.int 63 1) := fun k => hp.l 13 (by decide) k
      have n2_3 : ∀ k : AV → Res, ld1 h (.ptr b (10 + 3)) k = k (.int 63 1) := fun k => hp.l 13 (by decide) k
      have e2 := text1 hp
      show s111 [plv b, .int 63 2] h = .ret (.tup (.cons (.str 1 97) (.cons (.bool true) .nil))) h
      simp only [↓s111, ↓e, ↓e2, ↓cP_p, nth_z, nth_1, ↓x2, ↓l2_3, ↓m2_3, ↓n2_3, ↓cK_str, cK_str, ↓uc_c, ↓uz_n, ↓cI_i, ↓cB_b, cB_b, ↓cT_t, cT_t, nth_z, nth_1, cK_b, ↓cK_b, ↓cK_i, cK_i, ifB_t, ifB_f, ↓ap_e, sel_t, sel_f, gsel_tt, gsel_tf, gsel_ft, gsel_ff, gsel_u, gd_tt, gd_tf, gd_ft, gd_ff, gd_u, ↓jn_n, jn_n, jn_r, ↓jn_r, blk_n, blk_r, ↓cl_r, cl_r, ↓iAdd_i, ↓iSub_i, ↓iMul_i, ↓iAnd_i, ↓iOr_i, ↓iXor_i, ↓iNeg_i, iQuo_i, iRem_i, ↓iConv_i, iConv_i, ↓bNot_b, bNot_b, ↓eqN_i, ↓ltN_i, ↓eqB_b, bnot_e, Int.ofNat_eq_natCast, Int.cast_ofNat_Int, Int.reduceBEq, Int.reduceAdd, Int.reduceNeg, Int.reduceNegSucc, Int.reduceLT, Int.reduceLE, Int.reduceMul, Int.reduceTMod, Int.reduceSub, Int.reduceBNe, Bool.not_true, Bool.not_false, decide_true, decide_false, w63_in, w31_in, ne_eq, not_false_eq_true, Int.reduceEq, reduceCtorEq, ww3131, ww6363, ww3163, ww6331, ww3231, ww3263, ww6463, ww6364, sh31, sh63, sl63, m31, m63, n63, s5a, s5b, s6a, s6b, b31, b32, b63, c63, c64, d64, iShl_c, iShr_c, sr3, sr6, sr7]
      try rfl
    | 3, _ =>
      have e := tag3_7 hp
      have e : s115 [plv b, .int 63 3, .int 63 7] h = .ret (.bool false) h := e
      show s111 [plv b, .int 63 3] h = .ret (.tup (.cons (.str 0 0) (.cons (.bool false) .nil))) h
      simp only [↓s111, ↓e, ↓cK_str, cK_str, ↓uc_c, ↓uz_n, ↓cI_i, ↓cB_b, cB_b, ↓cT_t, cT_t, nth_z, nth_1, cK_b, ↓cK_b, ↓cK_i, cK_i, ifB_t, ifB_f, ↓ap_e, sel_t, sel_f, gsel_tt, gsel_tf, gsel_ft, gsel_ff, gsel_u, gd_tt, gd_tf, gd_ft, gd_ff, gd_u, ↓jn_n, jn_n, jn_r, ↓jn_r, blk_n, blk_r, ↓cl_r, cl_r, ↓iAdd_i, ↓iSub_i, ↓iMul_i, ↓iAnd_i, ↓iOr_i, ↓iXor_i, ↓iNeg_i, iQuo_i, iRem_i, ↓iConv_i, iConv_i, ↓bNot_b, bNot_b, ↓eqN_i, ↓ltN_i, ↓eqB_b, bnot_e, Int.ofNat_eq_natCast, Int.cast_ofNat_Int, Int.reduceBEq, Int.reduceAdd, Int.reduceNeg, Int.reduceNegSucc, Int.reduceLT, Int.reduceLE, Int.reduceMul, Int.reduceTMod, Int.reduceSub, Int.reduceBNe, Bool.not_true, Bool.not_false, decide_true, decide_false, w63_in, w31_in, ne_eq, not_false_eq_true, Int.reduceEq, reduceCtorEq, ww3131, ww6363, ww3163, ww6331, ww3231, ww3263, ww6463, ww6364, sh31, sh63, sl63, m31, m63, n63, s5a, s5b, s6a, s6b, b31, b32, b63, c63, c64, d64, iShl_c, iShr_c, sr3, sr6, sr7]
    | 4, _ =>
      have e := tag4_7 hp
      have e : s115 [plv b, .int 63 4, .int 63 7] h = .ret (.bool true) h := e
      have x4 : ∀ k : AV → Res, ixA 5 (plv b) (.int 63 4) k = k (.ptr b 20) := fun k => hp.ix 4 (by decide) k
      have l4_3 : ∀ k : AV → Res, ld1 h (.ptr b (Nat.add 20 3)) k = k (.int 63 3) := fun k => hp.l 23 (by decide) k
      have m4_3 : ∀ k : AV → Res, ld1 h (.ptr b 23) k = k (.int 63 3) := fun k => hp.l 23 (by decide) k
      have n4_3 : ∀ k : AV → Res, ld1 h (.ptr b (20 + 3)) k = k (.int 63 3) := fun k => hp.l 23 (by decide) k
      have e2 := text3 hp
      show s111 [plv b, .int 63 4] h = .ret (.tup (.cons (.str 2 18779) (.cons (.bool true) .nil))) h
      simp only [↓s111, ↓e, ↓e2, ↓cP_p, nth_z, nth_1, ↓x4, ↓l4_3, ↓m4_3, ↓n4_3, ↓cK_str, cK_str, ↓uc_c, ↓uz_n, ↓cI_i, ↓cB_b, cB_b, ↓cT_t, cT_t, nth_z, nth_1, cK_b, ↓cK_b, ↓cK_i, cK_i, ifB_t, ifB_f, ↓ap_e, sel_t, sel_f, gsel_tt, gsel_tf, gsel_ft, gsel_ff, gsel_u, gd_tt, gd_tf, gd_ft, gd_ff, gd_u, ↓jn_n, jn_n, jn_r, ↓jn_r, blk_n, blk_r, ↓cl_r, cl_r, ↓iAdd_i, ↓iSub_i, ↓iMul_i, ↓iAnd_i, ↓iOr_i, ↓iXor_i, ↓iNeg_i, iQuo_i, iRem_i, ↓iConv_i, iConv_i, ↓bNot_b, bNot_b, ↓eqN_i, ↓ltN_i, ↓eqB_b, bnot_e, Int.ofNat_eq_natCast, Int.cast_ofNat_Int, Int.reduceBEq, Int.reduceAdd, Int.reduceNeg, Int.reduceNegSucc, Int.reduceLT, Int.reduceLE, Int.reduceMul, Int.reduceTMod, Int.reduceSub, Int.reduceBNe, Bool.not_true, Bool.not_false, decide_true, decide_false, w63_in, w31_in, ne_eq, not_false_eq_true, Int.reduceEq, reduceCtorEq, ww3131, ww6363, ww3163, ww6331, ww3231, ww3263, ww6463, ww6364, sh31, sh63, sl63, m31, m63, n63, s5a, s5b, s6a, s6b, b31, b32, b63, c63, c64, d64, iShl_c, iShr_c, sr3, sr6, sr7]
      try rfl
theorem rtag0 (hp : Pool h b) : s113 [plv b, .int 63 0] h = .ret (.int 63 0) h := by
  have x0 : ∀ k : AV → Res, ixA 5 (plv b) (.int 63 0) k = k (.ptr b 0) := fun k => hp.ix 0 (by decide) k
  have l0_0 : ∀ k : AV → Res, ld1 h (.ptr b (Nat.add 0 0)) k = k (.int 63 0) := fun k => hp.l 0 (by decide) k
  have m0_0 : ∀ k : AV → Res, ld1 h (.ptr b 0) k = k (.int 63 0) := fun k => hp.l 0 (by decide) k
  have n0_0 : ∀ k : AV → Res, ld1 h (.ptr b (0 + 0)) k = k (.int 63 0) := fun k => hp.l 0 (by decide) k
  have ln : ∀ k : AV → Res, lenL (plv b) k = k (.int 63 5) := fun k => rfl
  have gv : gsel (.bool true) true (plv b) = plv b := rfl
  have gi : ∀ x : Int, gsel (.bool true) true (.int 63 x) = .int 63 x := fun x => rfl
  have gv2 : gsel (.bool false) false (plv b) = plv b := rfl
  have gi2 : ∀ x : Int, gsel (.bool false) false (.int 63 x) = .int 63 x := fun x => rfl
  simp only [↓s113, ↓ln, ↓gv, ↓gi, ↓gv2, ↓gi2, ↓cP_p, ↓x0, ↓l0_0, ↓m0_0, ↓n0_0, ↓cK_str, cK_str, ↓uc_c, ↓uz_n, ↓cI_i, ↓cB_b, cB_b, ↓cT_t, cT_t, nth_z, nth_1, cK_b, ↓cK_b, ↓cK_i, cK_i, ifB_t, ifB_f, ↓ap_e, sel_t, sel_f, gsel_tt, gsel_tf, gsel_ft, gsel_ff, gsel_u, gd_tt, gd_tf, gd_ft, gd_ff, gd_u, ↓jn_n, jn_n, jn_r, ↓jn_r, blk_n, blk_r, ↓cl_r, cl_r, ↓iAdd_i, ↓iSub_i, ↓iMul_i, ↓iAnd_i, ↓iOr_i, ↓iXor_i, ↓iNeg_i, iQuo_i, iRem_i, ↓iConv_i, iConv_i, ↓bNot_b, bNot_b, ↓eqN_i, ↓ltN_i, ↓eqB_b, bnot_e, Int.ofNat_eq_natCast, Int.cast_ofNat_Int, Int.reduceBEq, Int.reduceAdd, Int.reduceNeg, Int.reduceNegSucc, Int.reduceLT, Int.reduceLE, Int.reduceMul, Int.reduceTMod, Int.reduceSub, Int.reduceBNe, Bool.not_true, Bool.not_false, decide_true, decide_false, w63_in, w31_in, ne_eq, not_false_eq_true, Int.reduceEq, reduceCtorEq, ww3131, ww6363, ww3163, ww6331, ww3231, ww3263, ww6463, ww6364, sh31, sh63, sl63, m31, m63, n63, s5a, s5b, s6a, s6b, b31, b32, b63, c63, c64, d64, iShl_c, iShr_c, sr3, sr6, sr7]
theorem rtag1 (hp : Pool h b) : s113 [plv b, .int 63 1] h = .ret (.int 63 1) h := by
  have x1 : ∀ k : AV → Res, ixA 5 (plv b) (.int 63 1) k = k (.ptr b 5) := fun k => hp.ix 1 (by decide) k
  have l1_0 : ∀ k : AV → Res, ld1 h (.ptr b (Nat.add 5 0)) k = k (.int 63 1) := fun k => hp.l 5 (by decide) k
  have m1_0 : ∀ k : AV → Res, ld1 h (.ptr b 5) k = k (.int 63 1) := fun k => hp.l 5 (by decide) k
  have n1_0 : ∀ k : AV → Res, ld1 h (.ptr b (5 + 0)) k = k (.int 63 1) := fun k => hp.l 5 (by decide) k
  have ln : ∀ k : AV → Res, lenL (plv b) k = k (.int 63 5) := fun k => rfl
  have gv : gsel (.bool true) true (plv b) = plv b := rfl
  have gi : ∀ x : Int, gsel (.bool true) true (.int 63 x) = .int 63 x := fun x => rfl
  have gv2 : gsel (.bool false) false (plv b) = plv b := rfl
  have gi2 : ∀ x : Int, gsel (.bool false) false (.int 63 x) = .int 63 x := fun x => rfl
  simp only [↓s113, ↓ln, ↓gv, ↓gi, ↓gv2, ↓gi2, ↓cP_p, ↓x1, ↓l1_0, ↓m1_0, ↓n1_0, ↓cK_str, cK_str, ↓uc_c, ↓uz_n, ↓cI_i, ↓cB_b, cB_b, ↓cT_t, cT_t, nth_z, nth_1, cK_b, ↓cK_b, ↓cK_i, cK_i, ifB_t, ifB_f, ↓ap_e, sel_t, sel_f, gsel_tt, gsel_tf, gsel_ft, gsel_ff, gsel_u, gd_tt, gd_tf, gd_ft, gd_ff, gd_u, ↓jn_n, jn_n, jn_r, ↓jn_r, blk_n, blk_r, ↓cl_r, cl_r, ↓iAdd_i, ↓iSub_i, ↓iMul_i, ↓iAnd_i, ↓iOr_i, ↓iXor_i, ↓iNeg_i, iQuo_i, iRem_i, ↓iConv_i, iConv_i, ↓bNot_b, bNot_b, ↓eqN_i, ↓ltN_i, ↓eqB_b, bnot_e, Int.ofNat_eq_natCast, Int.cast_ofNat_Int, Int.reduceBEq, Int.reduceAdd, Int.reduceNeg, Int.reduceNegSucc, Int.reduceLT, Int.reduceLE, Int.reduceMul, Int.reduceTMod, Int.reduceSub, Int.reduceBNe, Bool.not_true, Bool.not_false, decide_true, decide_false, w63_in, w31_in, ne_eq, not_false_eq_true, Int.reduceEq, reduceCtorEq, ww3131, ww6363, ww3163, ww6331, ww3231, ww3263, ww6463, ww6364, sh31, sh63, sl63, m31, m63, n63, s5a, s5b, s6a, s6b, b31, b32, b63, c63, c64, d64, iShl_c, iShr_c, sr3, sr6, sr7]
theorem rtag2 (hp : Pool h b) : s113 [plv b, .int 63 2] h = .ret (.int 63 7) h := by
  have x2 : ∀ k : AV → Res, ixA 5 (plv b) (.int 63 2) k = k (.ptr b 10) := fun k => hp.ix 2 (by decide) k
  have l2_0 : ∀ k : AV → Res, ld1 h (.ptr b (Nat.add 10 0)) k = k (.int 63 7) := fun k => hp.l 10 (by decide) k
  have m2_0 : ∀ k : AV → Res, ld1 h (.ptr b 10) k = k (.int 63 7) := fun k => hp.l 10 (by decide) k
  have n2_0 : ∀ k : AV → Res, ld1 h (.ptr b (10 + 0)) k = k (.int 63 7) := fun k => hp.l 10 (by decide) k
  have ln : ∀ k : AV → Res, lenL (plv b) k = k (.int 63 5) := fun k => rfl
  have gv : gsel (.bool true) true (plv b) = plv b := rfl
  have gi : ∀ x : Int, gsel (.bool true) true (.int 63 x) = .int 63 x := fun x => rfl
  have gv2 : gsel (.bool false) false (plv b) = plv b := rfl
  have gi2 : ∀ x : Int, gsel (.bool false) false (.int 63 x) = .int 63 x := fun x => rfl
  simp only [↓s113, ↓ln, ↓gv, ↓gi, ↓gv2, ↓gi2, ↓cP_p, ↓x2, ↓l2_0, ↓m2_0, ↓n2_0, ↓cK_str, cK_str, ↓uc_c, ↓uz_n, ↓cI_i, ↓cB_b, cB_b, ↓cT_t, cT_t, nth_z, nth_1, cK_b, ↓cK_b, ↓cK_i, cK_i, ifB_t, ifB_f, ↓ap_e, sel_t, sel_f, gsel_tt, gsel_tf, gsel_ft, gsel_ff, gsel_u, gd_tt, gd_tf, gd_ft, gd_ff, gd_u, ↓jn_n, jn_n, jn_r, ↓jn_r, blk_n, blk_r, ↓cl_r, cl_r, ↓iAdd_i, ↓iSub_i, ↓iMul_i, ↓iAnd_i, ↓iOr_i, ↓iXor_i, ↓iNeg_i, iQuo_i, iRem_i, ↓iConv_i, iConv_i, ↓bNot_b, bNot_b, ↓eqN_i, ↓ltN_i, ↓eqB_b, bnot_e, Int.ofNat_eq_natCast, Int.cast_ofNat_Int, Int.reduceBEq, Int.reduceAdd, Int.reduceNeg, Int.reduceNegSucc, Int.reduceLT, Int.reduceLE, Int.reduceMul, Int.reduceTMod, Int.reduceSub, Int.reduceBNe, Bool.not_true, Bool.not_false, decide_true, decide_false, w63_in, w31_in, ne_eq, not_false_eq_true, Int.reduceEq, reduceCtorEq, ww3131, ww6363, ww3163, ww6331, ww3231, ww3263, ww6463, ww6364, sh31, sh63, sl63, m31, m63, n63, s5a, s5b, s6a, s6b, b31, b32, b63, c63, c64, d64, iShl_c, iShr_c, sr3, sr6, sr7]
theorem rtag3 (hp : Pool h b) : s113 [plv b, .int 63 3] h = .ret (.int 63 1) h := by
  have x3 : ∀ k : AV → Res, ixA 5 (plv b) (.int 63 3) k = k (.ptr b 15) := fun k => hp.ix 3 (by decide) k
  have l3_0 : ∀ k : AV → Res, ld1 h (.ptr b (Nat.add 15 0)) k = k (.int 63 1) := fun k => hp.l 15 (by decide) k
  have m3_0 : ∀ k : AV → Res, ld1 h (.ptr b 15) k = k (.int 63 1) := fun k => hp.l 15 (by decide) k
  have n3_0 : ∀ k : AV → Res, ld1 h (.ptr b (15 + 0)) k = k (.int 63 1) := fun k => hp.l 15 (by decide) k
  have ln : ∀ k : AV → Res, lenL (plv b) k = k (.int 63 5) := fun k => rfl
  have gv : gsel (.bool true) true (plv b) = plv b := rfl
  have gi : ∀ x : Int, gsel (.bool true) true (.int 63 x) = .int 63 x := fun x => rfl
  have gv2 : gsel (.bool false) false (plv b) = plv b := rfl
  have gi2 : ∀ x : Int, gsel (.bool false) false (.int 63 x) = .int 63 x := fun x => rfl
  simp only [↓s113, ↓ln, ↓gv, ↓gi, ↓gv2, ↓gi2, ↓cP_p, ↓x3, ↓l3_0, ↓m3_0, ↓n3_0, ↓cK_str, cK_str, ↓uc_c, ↓uz_n, ↓cI_i, ↓cB_b, cB_b, ↓cT_t, cT_t, nth_z, nth_1, cK_b, ↓cK_b, ↓cK_i, cK_i, ifB_t, ifB_f, ↓ap_e, sel_t, sel_f, gsel_tt, gsel_tf, gsel_ft, gsel_ff, gsel_u, gd_tt, gd_tf, gd_ft, gd_ff, gd_u, ↓jn_n, jn_n, jn_r, ↓jn_r, blk_n, blk_r, ↓cl_r, cl_r, ↓iAdd_i, ↓iSub_i, ↓iMul_i, ↓iAnd_i, ↓iOr_i, ↓iXor_i, ↓iNeg_i, iQuo_i, iRem_i, ↓iConv_i, iConv_i, ↓bNot_b, bNot_b, ↓eqN_i, ↓ltN_i, ↓eqB_b, bnot_e, Int.ofNat_eq_natCast, Int.cast_ofNat_Int, Int.reduceBEq, Int.reduceAdd, Int.reduceNeg, Int.reduceNegSucc, Int.reduceLT, Int.reduceLE, Int.reduceMul, Int.reduceTMod, Int.reduceSub, Int.reduceBNe, Bool.not_true, Bool.not_false, decide_true, decide_false, w63_in, w31_in, ne_eq, not_false_eq_true, Int.reduceEq, reduceCtorEq, ww3131, ww6363, ww3163, ww6331, ww3231, ww3263, ww6463, ww6364, sh31, sh63, sl63, m31, m63, n63, s5a, s5b, s6a, s6b, b31, b32, b63, c63, c64, d64, iShl_c, iShr_c, sr3, sr6, sr7]
theorem rtag4 (hp : Pool h b) : s113 [plv b, .int 63 4] h = .ret (.int 63 7) h := by
  have x4 : ∀ k : AV → Res, ixA 5 (plv b) (.int 63 4) k = k (.ptr b 20) := fun k => hp.ix 4 (by decide) k
  have l4_0 : ∀ k : AV → Res, ld1 h (.ptr b (Nat.add 20 0)) k = k (.int 63 7) := fun k => hp.l 20 (by decide) k
  have m4_0 : ∀ k : AV → Res, ld1 h (.ptr b 20) k = k (.int 63 7) := fun k => hp.l 20 (by decide) k
  have n4_0 : ∀ k : AV → Res, ld1 h (.ptr b (20 + 0)) k = k (.int 63 7) := fun k => hp.l 20 (by decide) k
  have ln : ∀ k : AV → Res, lenL (plv b) k = k (.int 63 5) := fun k => rfl
  have gv : gsel (.bool true) true (plv b) = plv b := rfl
  have gi : ∀ x : Int, gsel (.bool true) true (.int 63 x) = .int 63 x := fun x => rfl
  have gv2 : gsel (.bool false) false (plv b) = plv b := rfl
  have gi2 : ∀ x : Int, gsel (.bool false) false (.int 63 x) = .int 63 x := fun x => rfl
  simp only [↓s113, ↓ln, ↓gv, ↓gi, ↓gv2, ↓gi2, ↓cP_p, ↓x4, ↓l4_0, ↓m4_0, ↓n4_0, ↓cK_str, cK_str, ↓uc_c, ↓uz_n, ↓cI_i, ↓cB_b, cB_b, ↓cT_t, cT_t, nth_z, nth_1, cK_b, ↓cK_b, ↓cK_i, cK_i, ifB_t, ifB_f, ↓ap_e, sel_t, sel_f, gsel_tt, gsel_tf, gsel_ft, gsel_ff, gsel_u, gd_tt, gd_tf, gd_ft, gd_ff, gd_u, ↓jn_n, jn_n, jn_r, ↓jn_r, blk_n, blk_r, ↓cl_r, cl_r, ↓iAdd_i, ↓iSub_i, ↓iMul_i, ↓iAnd_i, ↓iOr_i, ↓iXor_i, ↓iNeg_i, iQuo_i, iRem_i, ↓iConv_i, iConv_i, ↓bNot_b, bNot_b, ↓eqN_i, ↓ltN_i, ↓eqB_b, bnot_e, Int.ofNat_eq_natCast, Int.cast_ofNat_Int, Int.reduceBEq, Int.reduceAdd, Int.reduceNeg, Int.reduceNegSucc, Int.reduceLT, Int.reduceLE, Int.reduceMul, Int.reduceTMod, Int.reduceSub, Int.reduceBNe, Bool.not_true, Bool.not_false, decide_true, decide_false, w63_in, w31_in, ne_eq, not_false_eq_true, Int.reduceEq, reduceCtorEq, ww3131, ww6363, ww3163, ww6331, ww3231, ww3263, ww6463, ww6364, sh31, sh63, sl63, m31, m63, n63, s5a, s5b, s6a, s6b, b31, b32, b63, c63, c64, d64, iShl_c, iShr_c, sr3, sr6, sr7]
theorem rtagB (hp : Pool h b) (i : Nat) (hi : 5 ≤ i) : s113 [plv b, .int 63 (i : Int)] h = .ret (.int 63 0) h := by
  have ln : ∀ k : AV → Res, lenL (plv b) k = k (.int 63 5) := fun k => rfl
  have gv : gsel (.bool true) true (plv b) = plv b := rfl
  have gi : ∀ x : Int, gsel (.bool true) true (.int 63 x) = .int 63 x := fun x => rfl
  have gv2 : gsel (.bool false) false (plv b) = plv b := rfl
  have gi2 : ∀ x : Int, gsel (.bool false) false (.int 63 x) = .int 63 x := fun x => rfl
  have c1 : ¬ (i : Int) < 0 := by omega
  have c2 : ¬ (i : Int) < 5 := by omega
  simp only [↓s113, ↓ln, ↓gv, ↓gi, ↓gv2, ↓gi2, c1, c2, ↓cK_str, cK_str, ↓uc_c, ↓uz_n, ↓cI_i, ↓cB_b, cB_b, ↓cT_t, cT_t, nth_z, nth_1, cK_b, ↓cK_b, ↓cK_i, cK_i, ifB_t, ifB_f, ↓ap_e, sel_t, sel_f, gsel_tt, gsel_tf, gsel_ft, gsel_ff, gsel_u, gd_tt, gd_tf, gd_ft, gd_ff, gd_u, ↓jn_n, jn_n, jn_r, ↓jn_r, blk_n, blk_r, ↓cl_r, cl_r, ↓iAdd_i, ↓iSub_i, ↓iMul_i, ↓iAnd_i, ↓iOr_i, ↓iXor_i, ↓iNeg_i, iQuo_i, iRem_i, ↓iConv_i, iConv_i, ↓bNot_b, bNot_b, ↓eqN_i, ↓ltN_i, ↓eqB_b, bnot_e, Int.ofNat_eq_natCast, Int.cast_ofNat_Int, Int.reduceBEq, Int.reduceAdd, Int.reduceNeg, Int.reduceNegSucc, Int.reduceLT, Int.reduceLE, Int.reduceMul, Int.reduceTMod, Int.reduceSub, Int.reduceBNe, Bool.not_true, Bool.not_false, decide_true, decide_false, w63_in, w31_in, ne_eq, not_false_eq_true, Int.reduceEq, reduceCtorEq, ww3131, ww6363, ww3163, ww6331, ww3231, ww3263, ww6463, ww6364, sh31, sh63, sl63, m31, m63, n63, s5a, s5b, s6a, s6b, b31, b32, b63, c63, c64, d64, iShl_c, iShr_c, sr3, sr6, sr7]
theorem rtext1 (hp : Pool h b) : s114 [plv b, .int 63 1] h = .ret (.tup (.cons (.str 1 97) (.cons (.bool true) .nil))) h := by
  have x1 : ∀ k : AV → Res, ixA 5 (plv b) (.int 63 1) k = k (.ptr b 5) := fun k => hp.ix 1 (by decide) k
  have l1_1 : ∀ k : AV → Res, ld1 h (.ptr b (Nat.add 5 1)) k = k (.str 1 97) := fun k => hp.l 6 (by decide) k
  have m1_1 : ∀ k : AV → Res, ld1 h (.ptr b 6) k = k (.str 1 97) := fun k => hp.l 6 (by decide) k
  have n1_1 : ∀ k : AV → Res, ld1 h (.ptr b (5 + 1)) k = k (.str 1 97) := fun k => hp.l 6 (by decide) k
  have e := rtag1 hp
  simp only [↓s114, ↓e, ↓cP_p, ↓x1, ↓l1_1, ↓m1_1, ↓n1_1, ↓cK_str, cK_str, ↓uc_c, ↓uz_n, ↓cI_i, ↓cB_b, cB_b, ↓cT_t, cT_t, nth_z, nth_1, cK_b, ↓cK_b, ↓cK_i, cK_i, ifB_t, ifB_f, ↓ap_e, sel_t, sel_f, gsel_tt, gsel_tf, gsel_ft, gsel_ff, gsel_u, gd_tt, gd_tf, gd_ft, gd_ff, gd_u, ↓jn_n, jn_n, jn_r, ↓jn_r, blk_n, blk_r, ↓cl_r, cl_r, ↓iAdd_i, ↓iSub_i, ↓iMul_i, ↓iAnd_i, ↓iOr_i, ↓iXor_i, ↓iNeg_i, iQuo_i, iRem_i, ↓iConv_i, iConv_i, ↓bNot_b, bNot_b, ↓eqN_i, ↓ltN_i, ↓eqB_b, bnot_e, Int.ofNat_eq_natCast, Int.cast_ofNat_Int, Int.reduceBEq, Int.reduceAdd, Int.reduceNeg, Int.reduceNegSucc, Int.reduceLT, Int.reduceLE, Int.reduceMul, Int.reduceTMod, Int.reduceSub, Int.reduceBNe, Bool.not_true, Bool.not_false, decide_true, decide_false, w63_in, w31_in, ne_eq, not_false_eq_true, Int.reduceEq, reduceCtorEq, ww3131, ww6363, ww3163, ww6331, ww3231, ww3263, ww6463, ww6364, sh31, sh63, sl63, m31, m63, n63, s5a, s5b, s6a, s6b, b31, b32, b63, c63, c64, d64, iShl_c, iShr_c, sr3, sr6, sr7]
theorem rtext3 (hp : Pool h b) : s114 [plv b, .int 63 3] h = .ret (.tup (.cons (.str 2 18779) (.cons (.bool true) .nil))) h := by
  have x3 : ∀ k : AV → Res, ixA 5 (plv b) (.int 63 3) k = k (.ptr b 15) := fun k => hp.ix 3 (by decide) k
  have l3_1 : ∀ k : AV → Res, ld1 h (.ptr b (Nat.add 15 1)) k = k (.str 2 18779) := fun k => hp.l 16 (by decide) k
  have m3_1 : ∀ k : AV → Res, ld1 h (.ptr b 16) k = k (.str 2 18779) := fun k => hp.l 16 (by decide) k
  have n3_1 : ∀ k : AV → Res, ld1 h (.ptr b (15 + 1)) k = k (.str 2 18779) := fun k => hp.l 16 (by decide) k
  have e := rtag3 hp
  simp only [↓s114, ↓e, ↓cP_p, ↓x3, ↓l3_1, ↓m3_1, ↓n3_1, ↓cK_str, cK_str, ↓uc_c, ↓uz_n, ↓cI_i, ↓cB_b, cB_b, ↓cT_t, cT_t, nth_z, nth_1, cK_b, ↓cK_b, ↓cK_i, cK_i, ifB_t, ifB_f, ↓ap_e, sel_t, sel_f, gsel_tt, gsel_tf, gsel_ft, gsel_ff, gsel_u, gd_tt, gd_tf, gd_ft, gd_ff, gd_u, ↓jn_n, jn_n, jn_r, ↓jn_r, blk_n, blk_r, ↓cl_r, cl_r, ↓iAdd_i, ↓iSub_i, ↓iMul_i, ↓iAnd_i, ↓iOr_i, ↓iXor_i, ↓iNeg_i, iQuo_i, iRem_i, ↓iConv_i, iConv_i, ↓bNot_b, bNot_b, ↓eqN_i, ↓ltN_i, ↓eqB_b, bnot_e, Int.ofNat_eq_natCast, Int.cast_ofNat_Int, Int.reduceBEq, Int.reduceAdd, Int.reduceNeg, Int.reduceNegSucc, Int.reduceLT, Int.reduceLE, Int.reduceMul, Int.reduceTMod, Int.reduceSub, Int.reduceBNe, Bool.not_true, Bool.not_false, decide_true, decide_false, w63_in, w31_in, ne_eq, not_false_eq_true, Int.reduceEq, reduceCtorEq, ww3131, ww6363, ww3163, ww6331, ww3231, ww3263, ww6463, ww6364, sh31, sh63, sl63, m31, m63, n63, s5a, s5b, s6a, s6b, b31, b32, b63, c63, c64, d64, iShl_c, iShr_c, sr3, sr6, sr7]
theorem t109 (hp : Pool h b) (i : Nat) : s109 [plv b, .int 63 (i : Int)] h = .ret (.tup (.cons (nmC i) (.cons (.bool (isC i)) .nil))) h := by
  by_cases c : 5 ≤ i
  · have e := rtagB hp i c
    have q1 : isC i = false := by unfold isC; rw [decide_eq_false (by omega), decide_eq_false (by omega)]; rfl
    have q2 : nmC i = .str 0 0 := by unfold nmC; rw [if_neg (by omega), if_neg (by omega)]
    rw [q1, q2]
    simp only [↓s109, ↓e, ↓cK_str, cK_str, ↓uc_c, ↓uz_n, ↓cI_i, ↓cB_b, cB_b, ↓cT_t, cT_t, nth_z, nth_1, cK_b, ↓cK_b, ↓cK_i, cK_i, ifB_t, ifB_f, ↓ap_e, sel_t, sel_f, gsel_tt, gsel_tf, gsel_ft, gsel_ff, gsel_u, gd_tt, gd_tf, gd_ft, gd_ff, gd_u, ↓jn_n, jn_n, jn_r, ↓jn_r, blk_n, blk_r, ↓cl_r, cl_r, ↓iAdd_i, ↓iSub_i, ↓iMul_i, ↓iAnd_i, ↓iOr_i, ↓iXor_i, ↓iNeg_i, iQuo_i, iRem_i, ↓iConv_i, iConv_i, ↓bNot_b, bNot_b, ↓eqN_i, ↓ltN_i, ↓eqB_b, bnot_e, Int.ofNat_eq_natCast, Int.cast_ofNat_Int, Int.reduceBEq, Int.reduceAdd, Int.reduceNeg, Int.reduceNegSucc, Int.reduceLT, Int.reduceLE, Int.reduceMul, Int.reduceTMod, Int.reduceSub, Int.reduceBNe, Bool.not_true, Bool.not_false, decide_true, decide_false, w63_in, w31_in, ne_eq, not_false_eq_true, Int.reduceEq, reduceCtorEq, ww3131, ww6363, ww3163, ww6331, ww3231, ww3263, ww6463, ww6364, sh31, sh63, sl63, m31, m63, n63, s5a, s5b, s6a, s6b, b31, b32, b63, c63, c64, d64, iShl_c, iShr_c, sr3, sr6, sr7]
  · have c : i < 5 := by omega
    match i, c with
    | 0, _ =>
      have e := rtag0 hp
      show s109 [plv b, .int 63 0] h = .ret (.tup (.cons (.str 0 0) (.cons (.bool false) .nil))) h
      simp only [↓s109, ↓e, ↓cK_str, cK_str, ↓uc_c, ↓uz_n, ↓cI_i, ↓cB_b, cB_b, ↓cT_t, cT_t, nth_z, nth_1, cK_b, ↓cK_b, ↓cK_i, cK_i, ifB_t, ifB_f, ↓ap_e, sel_t, sel_f, gsel_tt, gsel_tf, gsel_ft, gsel_ff, gsel_u, gd_tt, gd_tf, gd_ft, gd_ff, gd_u, ↓jn_n, jn_n, jn_r, ↓jn_r, blk_n, blk_r, ↓cl_r, cl_r, ↓iAdd_i, ↓iSub_i, ↓iMul_i, ↓iAnd_i, ↓iOr_i, ↓iXor_i, ↓iNeg_i, iQuo_i, iRem_i, ↓iConv_i, iConv_i, ↓bNot_b, bNot_b, ↓eqN_i, ↓ltN_i, ↓eqB_b, bnot_e, Int.ofNat_eq_natCast, Int.cast_ofNat_Int, Int.reduceBEq, Int.reduceAdd, Int.reduceNeg, Int.reduceNegSucc, Int.reduceLT, Int.reduceLE, Int.reduceMul, Int.reduceTMod, Int.reduceSub, Int.reduceBNe, Bool.not_true, Bool.not_false, decide_true, decide_false, w63_in, w31_in, ne_eq, not_false_eq_true, Int.reduceEq, reduceCtorEq, ww3131, ww6363, ww3163, ww6331, ww3231, ww3263, ww6463, ww6364, sh31, sh63, sl63, m31, m63, n63, s5a, s5b, s6a, s6b, b31, b32, b63, c63, c64, d64, iShl_c, iShr_c, sr3, sr6, sr7]
    | 1, _ =>
      have e := rtag1 hp
      show s109 [plv b, .int 63 1] h = .ret (.tup (.cons (.str 0 0) (.cons (.bool false) .nil))) h
      simp only [↓s109, ↓e, ↓cK_str, cK_str, ↓uc_c, ↓uz_n, ↓cI_i, ↓cB_b, cB_b, ↓cT_t, cT_t, nth_z, nth_1, cK_b, ↓cK_b, ↓cK_i, cK_i, ifB_t, ifB_f, ↓ap_e, sel_t, sel_f, gsel_tt, gsel_tf, gsel_ft, gsel_ff, gsel_u, gd_tt, gd_tf, gd_ft, gd_ff, gd_u, ↓jn_n, jn_n, jn_r, ↓jn_r, blk_n, blk_r, ↓cl_r, cl_r, ↓iAdd_i, ↓iSub_i, ↓iMul_i, ↓iAnd_i, ↓iOr_i, ↓iXor_i, ↓iNeg_i, iQuo_i, iRem_i, ↓iConv_i, iConv_i, ↓bNot_b, bNot_b, ↓eqN_i, ↓ltN_i, ↓eqB_b, bnot_e, Int.ofNat_eq_natCast, Int.cast_ofNat_Int, Int.reduceBEq, Int.reduceAdd, Int.reduceNeg, Int.reduceNegSucc, Int.reduceLT, Int.reduceLE, Int.reduceMul, Int.reduceTMod, Int.reduceSub, Int.reduceBNe, Bool.not_true, Bool.not_false, decide_true, decide_false, w63_in, w31_in, ne_eq, not_false_eq_true, Int.reduceEq, reduceCtorEq, ww3131, ww6363, ww3163, ww6331, ww3231, ww3263, ww6463, ww6364, sh31, sh63, sl63, m31, m63, n63, s5a, s5b, s6a, s6b, b31, b32, b63, c63, c64, d64, iShl_c, iShr_c, sr3, sr6, sr7]
    | 2, _ =>
      have e := rtag2 hp
      have x2 : ∀ k : AV → Res, ixA 5 (plv b) (.int 63 2) k = k (.ptr b 10) := fun k => hp.ix 2 (by decide) k
      have l2_3 : ∀ k : AV → Res, ld1 h (.ptr b (Nat.add 10 3)) k = k (.int 63 1) := fun k => hp.l 13 (by decide) k
      have m2_3 : ∀ k : AV → Res, ld1 h (.ptr b 13) k = k (.int 63 1) := fun k => hp.l 13 (by decide) k
      have n2_3 : ∀ k : AV → Res, ld1 h (.ptr b (10 + 3)) k = k (.int 63 1) := fun k => hp.l 13 (by decide) k
      have e2 := rtext1 hp
      show s109 [plv b, .int 63 2] h = .ret (.tup (.cons (.str 1 97) (.cons (.bool true) .nil))) h
      simp only [↓s109, ↓e, ↓e2, ↓cP_p, nth_z, nth_1, ↓x2, ↓l2_3, ↓m2_3, ↓n2_3, ↓cK_str, cK_str, ↓uc_c, ↓uz_n, ↓cI_i, ↓cB_b, cB_b, ↓cT_t, cT_t, nth_z, nth_1, cK_b, ↓cK_b, ↓cK_i, cK_i, ifB_t, ifB_f, ↓ap_e, sel_t, sel_f, gsel_tt, gsel_tf, gsel_ft, gsel_ff, gsel_u, gd_tt, gd_tf, gd_ft, gd_ff, gd_u, ↓jn_n, jn_n, jn_r, ↓jn_r, blk_n, blk_r, ↓cl_r, cl_r, ↓iAdd_i, ↓iSub_i, ↓iMul_i, ↓iAnd_i, ↓iOr_i, ↓iXor_i, ↓iNeg_i, iQuo_i, iRem_i, ↓iConv_i, iConv_i, ↓bNot_b, bNot_b, ↓eqN_i, ↓ltN_i, ↓eqB_b, bnot_e, Int.ofNat_eq_natCast, Int.cast_ofNat_Int, Int.reduceBEq, Int.reduceAdd, Int.reduceNeg, Int.reduceNegSucc, Int.reduceLT, Int.reduceLE, Int.reduceMul, Int.reduceTMod, Int.reduceSub, Int.reduceBNe, Bool.not_true, Bool.not_false, decide_true, decide_false, w63_in, w31_in, ne_eq, not_false_eq_true, Int.reduceEq, reduceCtorEq, ww3131, ww6363, ww3163, ww6331, ww3231, ww3263, ww6463, ww6364, sh31, sh63, sl63, m31, m63, n63, s5a, s5b, s6a, s6b, b31, b32, b63, c63, c64, d64, iShl_c, iShr_c, sr3, sr6, sr7]
      try rfl
    | 3, _ =>
      have e := rtag3 hp
      show s109 [plv b, .int 63 3] h = .ret (.tup (.cons (.str 0 0) (.cons (.bool false) .nil))) h
      simp only [↓s109, ↓e, ↓cK_str, cK_str, ↓uc_c, ↓uz_n, ↓cI_i, ↓cB_b, cB_b, ↓cT_t, cT_t, nth_z, nth_1, cK_b, ↓cK_b, ↓cK_i, cK_i, ifB_t, ifB_f, ↓ap_e, sel_t, sel_f, gsel_tt, gsel_tf, gsel_ft, gsel_ff, gsel_u, gd_tt, gd_tf, gd_ft, gd_ff, gd_u, ↓jn_n, jn_n, jn_r, ↓jn_r, blk_n, blk_r, ↓cl_r, cl_r, ↓iAdd_i, ↓iSub_i, ↓iMul_i, ↓iAnd_i, ↓iOr_i, ↓iXor_i, ↓iNeg_i, iQuo_i, iRem_i, ↓iConv_i, iConv_i, ↓bNot_b, bNot_b, ↓eqN_i, ↓ltN_i, ↓eqB_b, bnot_e, Int.ofNat_eq_natCast, Int.cast_ofNat_Int, Int.reduceBEq, Int.reduceAdd, Int.reduceNeg, Int.reduceNegSucc, Int.reduceLT, Int.reduceLE, Int.reduceMul, Int.reduceTMod, Int.reduceSub, Int.reduceBNe, Bool.not_true, Bool.not_false, decide_true, decide_false, w63_in, w31_in, ne_eq, not_false_eq_true, Int.reduceEq, reduceCtorEq, ww3131, ww6363, ww3163, ww6331, ww3231, ww3263, ww6463, ww6364, sh31, sh63, sl63, m31, m63, n63, s5a, s5b, s6a, s6b, b31, b32, b63, c63, c64, d64, iShl_c, iShr_c, sr3, sr6, sr7]
    | 4, _ =>
      have e := rtag4 hp
      have x4 : ∀ k : AV → Res, ixA 5 (plv b) (.int 63 4) k = k (.ptr b 20) := fun k => hp.ix 4 (by decide) k
      have l4_3 : ∀ k : AV → Res, ld1 h (.ptr b (Nat.add 20 3)) k = k (.int 63 3) := fun k => hp.l 23 (by decide) k
      have m4_3 : ∀ k : AV → Res, ld1 h (.ptr b 23) k = k (.int 63 3) := fun k => hp.l 23 (by decide) k
      have n4_3 : ∀ k : AV → Res, ld1 h (.ptr b (20 + 3)) k = k (.int 63 3) := fun k => hp.l 23 (by decide) k
      have e2 := rtext3 hp
      show s109 [plv b, .int 63 4] h = .ret (.tup (.cons (.str 2 18779) (.cons (.bool true) .nil))) h
      simp only [↓s109, ↓e, ↓e2, ↓cP_p, nth_z, nth_1, ↓x4, ↓l4_3, ↓m4_3, ↓n4_3, ↓cK_str, cK_str, ↓uc_c, ↓uz_n, ↓cI_i, ↓cB_b, cB_b, ↓cT_t, cT_t, nth_z, nth_1, cK_b, ↓cK_b, ↓cK_i, cK_i, ifB_t, ifB_f, ↓ap_e, sel_t, sel_f, gsel_tt, gsel_tf, gsel_ft, gsel_ff, gsel_u, gd_tt, gd_tf, gd_ft, gd_ff, gd_u, ↓jn_n, jn_n, jn_r, ↓jn_r, blk_n, blk_r, ↓cl_r, cl_r, ↓iAdd_i, ↓iSub_i, ↓iMul_i, ↓iAnd_i, ↓iOr_i, ↓iXor_i, ↓iNeg_i, iQuo_i, iRem_i, ↓iConv_i, iConv_i, ↓bNot_b, bNot_b, ↓eqN_i, ↓ltN_i, ↓eqB_b, bnot_e, Int.ofNat_eq_natCast, Int.cast_ofNat_Int, Int.reduceBEq, Int.reduceAdd, Int.reduceNeg, Int.reduceNegSucc, Int.reduceLT, Int.reduceLE, Int.reduceMul, Int.reduceTMod, Int.reduceSub, Int.reduceBNe, Bool.not_true, Bool.not_false, decide_true, decide_false, w63_in, w31_in, ne_eq, not_false_eq_true, Int.reduceEq, reduceCtorEq, ww3131, ww6363, ww3163, ww6331, ww3231, ww3263, ww6463, ww6364, sh31, sh63, sl63, m31, m63, n63, s5a, s5b, s6a, s6b, b31, b32, b63, c63, c64, d64, iShl_c, iShr_c, sr3, sr6, sr7]
      try rfl
end
end Go.Proofs.Ytnpfppddongbhaa
