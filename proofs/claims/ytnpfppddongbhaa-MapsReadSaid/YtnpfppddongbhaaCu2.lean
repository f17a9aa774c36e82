/-
  The reader of stated frames: what each of its functions answers (part Cu2).
-/
import Derived.Test.YtnpfppddongbhaaCu1
set_option linter.unusedVariables false
set_option linter.unusedSimpArgs false
namespace Go.Proofs.Ytnpfppddongbhaa
open Go Go.AM
set_option autoImplicit false
set_option linter.unusedSimpArgs false
set_option linter.unusedVariables false
section
variable {h : Hp} {lo b at_ : Nat} {t : List Nat} {bad : Bool}
theorem Cur.open (hc : Cur h lo b t at_ bad) : ∃ v, Sl h (fun x => lo ≤ x ∧ x < b) v (Bs t) ∧ (∀ k, ld1 h (.ptr b (Nat.add 0 0)) k = k v) ∧ (∀ k, ld1 h (.ptr b (Nat.add 0 1)) k = k (.int 63 (at_ : Int))) ∧ (∀ k, ld1 h (.ptr b (Nat.add 0 2)) k = k (.bool bad)) := by
  obtain ⟨B, v, o, h1, h2, h3, h4, h5⟩ := hc.own
  exact ⟨v, h5, fun k => (ld1_rd o.rd h2 k).trans (cK_sl h5 k), fun k => (ld1_rd o.rd h3 k).trans (cK_i _ _ _), fun k => (ld1_rd o.rd h4 k).trans (cK_b _ _)⟩
theorem Cur.move (hc : Cur h lo b t at_ bad) (m : Nat) (hm : m ≤ t.length) : ∃ h', (∀ k, st1 h (.ptr b (Nat.add 0 1)) (.int 63 (m : Int)) k = k h') ∧ Cur h' lo b t m bad ∧ To (At b) h h' := by
  obtain ⟨B, v, o, h1, h2, h3, h4, h5⟩ := hc.own
  obtain ⟨h', e1, e2, e3, -⟩ := st1_own (o := 1) (v := .int 63 (m : Int)) o (by omega) rfl
  refine ⟨h', e1, ⟨⟨_, v, e2, h1, ?_, ?_, ?_, h5.to e3 (fun x hx e => by have : x = b := e; omega)⟩, hm, hc.len, hc.lo, hc.byt⟩, e3⟩
  · rw [setC_at (by omega), if_neg (by decide)]; exact h2
  · rw [setC_at (by omega), if_pos rfl]
  · rw [setC_at (by omega), if_neg (by decide)]; exact h4
theorem Cur.fall (hc : Cur h lo b t at_ bad) : ∃ h', (∀ k, st1 h (.ptr b (Nat.add 0 2)) (.bool true) k = k h') ∧ Cur h' lo b t at_ true ∧ To (At b) h h' := by
  obtain ⟨B, v, o, h1, h2, h3, h4, h5⟩ := hc.own
  obtain ⟨h', e1, e2, e3, -⟩ := st1_own (o := 2) (v := .bool true) o (by omega) rfl
  refine ⟨h', e1, ⟨⟨_, v, e2, h1, ?_, ?_, ?_, h5.to e3 (fun x hx e => by have : x = b := e; omega)⟩, hc.le, hc.len, hc.lo, hc.byt⟩, e3⟩
  · rw [setC_at (by omega), if_neg (by decide)]; exact h2
  · rw [setC_at (by omega), if_neg (by decide)]; exact h3
  · rw [setC_at (by omega), if_pos rfl]

theorem t69_no (hc : Cur h lo b t at_ bad) (hw : Wf h) (n : Int) (hn : bad = true ∨ n < 0 ∨ (t.length : Int) - at_ < n) :
    ∃ h', s69 [.ptr b 0, .int 63 n] h = .ret .nils h' ∧ Cur h' lo b t at_ true ∧ To (At b) h h' ∧ Wf h' := by
  obtain ⟨v, hs, e0, e1, e2⟩ := hc.open
  obtain ⟨h', e3, c', o'⟩ := hc.fall
  refine ⟨h', ?_, c', o', o'.wf hw⟩
  have l0 := fun k => lenL_sl hs k
  have w1 : wrapC 63 ((t.length : Int) - (at_ : Int)) = (t.length : Int) - (at_ : Int) := w63_in _ (by have := hc.le; have := hc.len; omega) (by have := hc.len; omega)
  cases bad with
  | true => simp only [↓s69, ↓nck_p, ↓cP_p, ↓eqP_pn, ↓e0, ↓e1, ↓e2, ↓e3, ↓l0, Bs_len, ↓uc_c, ↓uz_n, ↓cI_i, ↓cB_b, cB_b, ↓cT_t, cT_t, nth_z, nth_1, cK_b, ↓cK_b, ↓cK_i, cK_i, ifB_t, ifB_f, ↓ap_e, sel_t, sel_f, gsel_tt, gsel_tf, gsel_ft, gsel_ff, gsel_u, gd_tt, gd_tf, gd_ft, gd_ff, gd_u, ↓jn_n, jn_n, jn_r, ↓jn_r, blk_n, blk_r, ↓cl_r, cl_r, ↓iAdd_i, ↓iSub_i, ↓iMul_i, ↓iAnd_i, ↓iOr_i, ↓iXor_i, ↓iNeg_i, iQuo_i, iRem_i, ↓iConv_i, iConv_i, ↓bNot_b, bNot_b, ↓eqN_i, ↓ltN_i, ↓eqB_b, bnot_e, Int.ofNat_eq_natCast, Int.cast_ofNat_Int, Int.reduceBEq, Int.reduceAdd, Int.reduceNeg, Int.reduceNegSucc, Int.reduceLT, Int.reduceLE, Int.reduceMul, Int.reduceTMod, Int.reduceSub, Int.reduceBNe, Bool.not_true, Bool.not_false, decide_true, decide_false, w63_in, w31_in, ne_eq, not_false_eq_true, Int.reduceEq, reduceCtorEq, ww3131, ww6363, ww3163, ww6331, ww3231, ww3263, ww6463, ww6364, sh31, sh63, sl63, m31, m63, n63, s5a, s5b, s6a, s6b, b31, b32, b63, c63, c64, d64, iShl_c, iShr_c, sr3, sr6, sr7]; rfl
  | false =>
    by_cases h1 : n < 0
    · simp only [↓s69, ↓nck_p, ↓cP_p, ↓eqP_pn, ↓e0, ↓e1, ↓e2, ↓e3, ↓l0, Bs_len, h1, ↓uc_c, ↓uz_n, ↓cI_i, ↓cB_b, cB_b, ↓cT_t, cT_t, nth_z, nth_1, cK_b, ↓cK_b, ↓cK_i, cK_i, ifB_t, ifB_f, ↓ap_e, sel_t, sel_f, gsel_tt, gsel_tf, gsel_ft, gsel_ff, gsel_u, gd_tt, gd_tf, gd_ft, gd_ff, gd_u, ↓jn_n, jn_n, jn_r, ↓jn_r, blk_n, blk_r, ↓cl_r, cl_r, ↓iAdd_i, ↓iSub_i, ↓iMul_i, ↓iAnd_i, ↓iOr_i, ↓iXor_i, ↓iNeg_i, iQuo_i, iRem_i, ↓iConv_i, iConv_i, ↓bNot_b, bNot_b, ↓eqN_i, ↓ltN_i, ↓eqB_b, bnot_e, Int.ofNat_eq_natCast, Int.cast_ofNat_Int, Int.reduceBEq, Int.reduceAdd, Int.reduceNeg, Int.reduceNegSucc, Int.reduceLT, Int.reduceLE, Int.reduceMul, Int.reduceTMod, Int.reduceSub, Int.reduceBNe, Bool.not_true, Bool.not_false, decide_true, decide_false, w63_in, w31_in, ne_eq, not_false_eq_true, Int.reduceEq, reduceCtorEq, ww3131, ww6363, ww3163, ww6331, ww3231, ww3263, ww6463, ww6364, sh31, sh63, sl63, m31, m63, n63, s5a, s5b, s6a, s6b, b31, b32, b63, c63, c64, d64, iShl_c, iShr_c, sr3, sr6, sr7]; rfl
    · have h2 : (t.length : Int) - at_ < n := by
        rcases hn with hn | hn | hn
        · cases hn
        · exact absurd hn h1
        · exact hn
      simp only [↓s69, ↓nck_p, ↓cP_p, ↓eqP_pn, ↓e0, ↓e1, ↓e2, ↓e3, ↓l0, Bs_len, h1, h2, w1, ↓uc_c, ↓uz_n, ↓cI_i, ↓cB_b, cB_b, ↓cT_t, cT_t, nth_z, nth_1, cK_b, ↓cK_b, ↓cK_i, cK_i, ifB_t, ifB_f, ↓ap_e, sel_t, sel_f, gsel_tt, gsel_tf, gsel_ft, gsel_ff, gsel_u, gd_tt, gd_tf, gd_ft, gd_ff, gd_u, ↓jn_n, jn_n, jn_r, ↓jn_r, blk_n, blk_r, ↓cl_r, cl_r, ↓iAdd_i, ↓iSub_i, ↓iMul_i, ↓iAnd_i, ↓iOr_i, ↓iXor_i, ↓iNeg_i, iQuo_i, iRem_i, ↓iConv_i, iConv_i, ↓bNot_b, bNot_b, ↓eqN_i, ↓ltN_i, ↓eqB_b, bnot_e, Int.ofNat_eq_natCast, Int.cast_ofNat_Int, Int.reduceBEq, Int.reduceAdd, Int.reduceNeg, Int.reduceNegSucc, Int.reduceLT, Int.reduceLE, Int.reduceMul, Int.reduceTMod, Int.reduceSub, Int.reduceBNe, Bool.not_true, Bool.not_false, decide_true, decide_false, w63_in, w31_in, ne_eq, not_false_eq_true, Int.reduceEq, reduceCtorEq, ww3131, ww6363, ww3163, ww6331, ww3231, ww3263, ww6463, ww6364, sh31, sh63, sl63, m31, m63, n63, s5a, s5b, s6a, s6b, b31, b32, b63, c63, c64, d64, iShl_c, iShr_c, sr3, sr6, sr7]; rfl

theorem t69_ok (hc : Cur h lo b t at_ false) (hw : Wf h) (n : Nat) (hn : at_ + n ≤ t.length) :
    ∃ v h', s69 [.ptr b 0, .int 63 (n : Int)] h = .ret v h' ∧ Sl h' (fun x => lo ≤ x ∧ x < b) v (Bs ((t.drop at_).take n)) ∧ Cur h' lo b t (at_ + n) false ∧ To (At b) h h' ∧ Wf h' := by
  obtain ⟨v, hs, e0, e1, e2⟩ := hc.open
  obtain ⟨h', e3, c', o'⟩ := hc.move (at_ + n) hn
  obtain ⟨v2, hs2, f0, f1, f2⟩ := c'.open
  have l0 := fun k => lenL_sl hs k
  have hlen := hc.len
  have w1 : wrapC 63 ((t.length : Int) - (at_ : Int)) = (t.length : Int) - (at_ : Int) := w63_in _ (by omega) (by omega)
  have w2 : wrapC 63 ((at_ : Int) + (n : Int)) = ((at_ + n : Nat) : Int) := by rw [w63_in _ (by omega) (by omega)]; omega
  have w3 : wrapC 63 (((at_ + n : Nat) : Int) - (n : Int)) = (at_ : Int) := by rw [w63_in _ (by omega) (by omega)]; omega
  have h1 : ¬ (n : Int) < 0 := by omega
  have h2 : ¬ (t.length : Int) - at_ < (n : Int) := by omega
  obtain ⟨v', g1, g2⟩ := cut_sl hs2 (c1 := 63) (c2 := 63) at_ (at_ + n) (by omega) (by rw [Bs_len]; exact hn)
  have g2' : Sl h' (fun x => lo ≤ x ∧ x < b) v' (Bs ((t.drop at_).take n)) := by
    have e : ((Bs t).drop at_).take (at_ + n - at_) = Bs ((t.drop at_).take n) := by rw [Nat.add_sub_cancel_left]; simp [Bs, List.map_drop, List.map_take]
    rwa [e] at g2
  have cv := fun k => cK_sl g2' k
  exact ⟨v', h', by simp only [↓s69, ↓nck_p, ↓cP_p, ↓eqP_pn, ↓e0, ↓e1, ↓e2, ↓e3, ↓f0, ↓f1, ↓f2, ↓l0, Bs_len, h1, h2, w1, w2, w3, ↓g1, ↓cv, ↓uc_c, ↓uz_n, ↓cI_i, ↓cB_b, cB_b, ↓cT_t, cT_t, nth_z, nth_1, cK_b, ↓cK_b, ↓cK_i, cK_i, ifB_t, ifB_f, ↓ap_e, sel_t, sel_f, gsel_tt, gsel_tf, gsel_ft, gsel_ff, gsel_u, gd_tt, gd_tf, gd_ft, gd_ff, gd_u, ↓jn_n, jn_n, jn_r, ↓jn_r, blk_n, blk_r, ↓cl_r, cl_r, ↓iAdd_i, ↓iSub_i, ↓iMul_i, ↓iAnd_i, ↓iOr_i, ↓iXor_i, ↓iNeg_i, iQuo_i, iRem_i, ↓iConv_i, iConv_i, ↓bNot_b, bNot_b, ↓eqN_i, ↓ltN_i, ↓eqB_b, bnot_e, Int.ofNat_eq_natCast, Int.cast_ofNat_Int, Int.reduceBEq, Int.reduceAdd, Int.reduceNeg, Int.reduceNegSucc, Int.reduceLT, Int.reduceLE, Int.reduceMul, Int.reduceTMod, Int.reduceSub, Int.reduceBNe, Bool.not_true, Bool.not_false, decide_true, decide_false, w63_in, w31_in, ne_eq, not_false_eq_true, Int.reduceEq, reduceCtorEq, ww3131, ww6363, ww3163, ww6331, ww3231, ww3263, ww6463, ww6364, sh31, sh63, sl63, m31, m63, n63, s5a, s5b, s6a, s6b, b31, b32, b63, c63, c64, d64, iShl_c, iShr_c, sr3, sr6, sr7], g2', c', o', o'.wf hw⟩

theorem t30 (hc : Cur h lo b t at_ bad) : s30 [.ptr b 0] h = .ret (.bool (!bad)) h := by
  obtain ⟨v, hs, e0, e1, e2⟩ := hc.open
  simp only [↓s30, ↓nck_p, ↓cP_p, ↓eqP_pn, ↓e0, ↓e1, ↓e2, ↓uc_c, ↓uz_n, ↓cI_i, ↓cB_b, cB_b, ↓cT_t, cT_t, nth_z, nth_1, cK_b, ↓cK_b, ↓cK_i, cK_i, ifB_t, ifB_f, ↓ap_e, sel_t, sel_f, gsel_tt, gsel_tf, gsel_ft, gsel_ff, gsel_u, gd_tt, gd_tf, gd_ft, gd_ff, gd_u, ↓jn_n, jn_n, jn_r, ↓jn_r, blk_n, blk_r, ↓cl_r, cl_r, ↓iAdd_i, ↓iSub_i, ↓iMul_i, ↓iAnd_i, ↓iOr_i, ↓iXor_i, ↓iNeg_i, iQuo_i, iRem_i, ↓iConv_i, iConv_i, ↓bNot_b, bNot_b, ↓eqN_i, ↓ltN_i, ↓eqB_b, bnot_e, Int.ofNat_eq_natCast, Int.cast_ofNat_Int, Int.reduceBEq, Int.reduceAdd, Int.reduceNeg, Int.reduceNegSucc, Int.reduceLT, Int.reduceLE, Int.reduceMul, Int.reduceTMod, Int.reduceSub, Int.reduceBNe, Bool.not_true, Bool.not_false, decide_true, decide_false, w63_in, w31_in, ne_eq, not_false_eq_true, Int.reduceEq, reduceCtorEq, ww3131, ww6363, ww3163, ww6331, ww3231, ww3263, ww6463, ww6364, sh31, sh63, sl63, m31, m63, n63, s5a, s5b, s6a, s6b, b31, b32, b63, c63, c64, d64, iShl_c, iShr_c, sr3, sr6, sr7]
theorem t31 (hc : Cur h lo b t at_ bad) : s31 [.ptr b 0] h = .ret (.int 63 ((t.length - at_ : Nat) : Int)) h := by
  obtain ⟨v, hs, e0, e1, e2⟩ := hc.open
  have l0 := fun k => lenL_sl hs k
  have hlen := hc.len
  have hle := hc.le
  have w1 : wrapC 63 ((t.length : Int) - (at_ : Int)) = ((t.length - at_ : Nat) : Int) := by rw [w63_in _ (by omega) (by omega)]; omega
  simp only [↓s31, ↓nck_p, ↓cP_p, ↓eqP_pn, ↓e0, ↓e1, ↓e2, ↓l0, Bs_len, w1, ↓uc_c, ↓uz_n, ↓cI_i, ↓cB_b, cB_b, ↓cT_t, cT_t, nth_z, nth_1, cK_b, ↓cK_b, ↓cK_i, cK_i, ifB_t, ifB_f, ↓ap_e, sel_t, sel_f, gsel_tt, gsel_tf, gsel_ft, gsel_ff, gsel_u, gd_tt, gd_tf, gd_ft, gd_ff, gd_u, ↓jn_n, jn_n, jn_r, ↓jn_r, blk_n, blk_r, ↓cl_r, cl_r, ↓iAdd_i, ↓iSub_i, ↓iMul_i, ↓iAnd_i, ↓iOr_i, ↓iXor_i, ↓iNeg_i, iQuo_i, iRem_i, ↓iConv_i, iConv_i, ↓bNot_b, bNot_b, ↓eqN_i, ↓ltN_i, ↓eqB_b, bnot_e, Int.ofNat_eq_natCast, Int.cast_ofNat_Int, Int.reduceBEq, Int.reduceAdd, Int.reduceNeg, Int.reduceNegSucc, Int.reduceLT, Int.reduceLE, Int.reduceMul, Int.reduceTMod, Int.reduceSub, Int.reduceBNe, Bool.not_true, Bool.not_false, decide_true, decide_false, w63_in, w31_in, ne_eq, not_false_eq_true, Int.reduceEq, reduceCtorEq, ww3131, ww6363, ww3163, ww6331, ww3231, ww3263, ww6463, ww6364, sh31, sh63, sl63, m31, m63, n63, s5a, s5b, s6a, s6b, b31, b32, b63, c63, c64, d64, iShl_c, iShr_c, sr3, sr6, sr7]
theorem t35 (hc : Cur h lo b t at_ bad) : s35 [.ptr b 0] h = .ret (.int 63 ((t.length - at_ : Nat) : Int)) h := by
  obtain ⟨v, hs, e0, e1, e2⟩ := hc.open
  have l0 := fun k => lenL_sl hs k
  have hlen := hc.len
  have hle := hc.le
  have w1 : wrapC 63 ((t.length : Int) - (at_ : Int)) = ((t.length - at_ : Nat) : Int) := by rw [w63_in _ (by omega) (by omega)]; omega
  simp only [↓s35, ↓nck_p, ↓cP_p, ↓eqP_pn, ↓e0, ↓e1, ↓e2, ↓l0, Bs_len, w1, ↓uc_c, ↓uz_n, ↓cI_i, ↓cB_b, cB_b, ↓cT_t, cT_t, nth_z, nth_1, cK_b, ↓cK_b, ↓cK_i, cK_i, ifB_t, ifB_f, ↓ap_e, sel_t, sel_f, gsel_tt, gsel_tf, gsel_ft, gsel_ff, gsel_u, gd_tt, gd_tf, gd_ft, gd_ff, gd_u, ↓jn_n, jn_n, jn_r, ↓jn_r, blk_n, blk_r, ↓cl_r, cl_r, ↓iAdd_i, ↓iSub_i, ↓iMul_i, ↓iAnd_i, ↓iOr_i, ↓iXor_i, ↓iNeg_i, iQuo_i, iRem_i, ↓iConv_i, iConv_i, ↓bNot_b, bNot_b, ↓eqN_i, ↓ltN_i, ↓eqB_b, bnot_e, Int.ofNat_eq_natCast, Int.cast_ofNat_Int, Int.reduceBEq, Int.reduceAdd, Int.reduceNeg, Int.reduceNegSucc, Int.reduceLT, Int.reduceLE, Int.reduceMul, Int.reduceTMod, Int.reduceSub, Int.reduceBNe, Bool.not_true, Bool.not_false, decide_true, decide_false, w63_in, w31_in, ne_eq, not_false_eq_true, Int.reduceEq, reduceCtorEq, ww3131, ww6363, ww3163, ww6331, ww3231, ww3263, ww6463, ww6364, sh31, sh63, sl63, m31, m63, n63, s5a, s5b, s6a, s6b, b31, b32, b63, c63, c64, d64, iShl_c, iShr_c, sr3, sr6, sr7]
theorem t34 (hc : Cur h lo b t at_ bad) : s34 [.ptr b 0] h = .ret (.int 63 (at_ : Int)) h := by
  obtain ⟨v, hs, e0, e1, e2⟩ := hc.open
  simp only [↓s34, ↓nck_p, ↓cP_p, ↓eqP_pn, ↓e0, ↓e1, ↓e2, ↓uc_c, ↓uz_n, ↓cI_i, ↓cB_b, cB_b, ↓cT_t, cT_t, nth_z, nth_1, cK_b, ↓cK_b, ↓cK_i, cK_i, ifB_t, ifB_f, ↓ap_e, sel_t, sel_f, gsel_tt, gsel_tf, gsel_ft, gsel_ff, gsel_u, gd_tt, gd_tf, gd_ft, gd_ff, gd_u, ↓jn_n, jn_n, jn_r, ↓jn_r, blk_n, blk_r, ↓cl_r, cl_r, ↓iAdd_i, ↓iSub_i, ↓iMul_i, ↓iAnd_i, ↓iOr_i, ↓iXor_i, ↓iNeg_i, iQuo_i, iRem_i, ↓iConv_i, iConv_i, ↓bNot_b, bNot_b, ↓eqN_i, ↓ltN_i, ↓eqB_b, bnot_e, Int.ofNat_eq_natCast, Int.cast_ofNat_Int, Int.reduceBEq, Int.reduceAdd, Int.reduceNeg, Int.reduceNegSucc, Int.reduceLT, Int.reduceLE, Int.reduceMul, Int.reduceTMod, Int.reduceSub, Int.reduceBNe, Bool.not_true, Bool.not_false, decide_true, decide_false, w63_in, w31_in, ne_eq, not_false_eq_true, Int.reduceEq, reduceCtorEq, ww3131, ww6363, ww3163, ww6331, ww3231, ww3263, ww6463, ww6364, sh31, sh63, sl63, m31, m63, n63, s5a, s5b, s6a, s6b, b31, b32, b63, c63, c64, d64, iShl_c, iShr_c, sr3, sr6, sr7]
end
end Go.Proofs.Ytnpfppddongbhaa
