/-
  Texts of class files, part 4: reckoned by the abstract machine.
-/
import Derived.Test.YtnpfppddongbhaaMu3
namespace Go.Proofs.Ytnpfppddongbhaa
open Go Go.AM
set_option autoImplicit false
set_option linter.unusedSimpArgs false
set_option linter.unusedVariables false
theorem c_224 : ∀ c < 256, ((((Nat.land (c % 256) 224 % 256 : Nat)) : Int) == 192) = decide (192 ≤ c ∧ c < 224) := by decide +kernel
theorem c_240 : ∀ c < 256, ((((Nat.land (c % 256) 240 % 256 : Nat)) : Int) == 224) = decide (224 ≤ c ∧ c < 240) := by decide +kernel
theorem val2' (c y : Nat) (hc : c < 256) : (Nat.land (c % 256) 31 % 256 % 65536 * 64 % 65536 + y % 64) % 65536 = v2 c y := by
  rw [land31]; unfold v2; omega
theorem val3' (c y z : Nat) (hc : c < 256) : ((Nat.land (c % 256) 15 % 256 % 65536 * 4096 % 65536 + y % 64 * 64 % 65536) % 65536 + z % 64) % 65536 = v3 c y z := by
  rw [land15]; unfold v3; omega
theorem wadd16 (a b : Nat) : wrapC 16 ((a : Int) + (b : Int)) = (((a + b) % 65536 : Nat) : Int) := by rw [w16]; omega
theorem two16 (x : Int) (b : Bool) (k : AV → Res) : cT (.tup (.cons (.int 16 x) (.cons (.bool b) .nil))) k = k (.cons (.int 16 x) (.cons (.bool b) .nil)) := of_eq_true (eq_self _)

theorem loop39 (n x N : Nat) (hn : n ≤ 1000) : ∀ (f m i : Nat) (h : Hp) (u : AV) (l : List AV), n - i ≤ f → f < m → i ≤ n → l.length ≤ i → Gr h N u l → N ≤ h.nb → Wf h →
    Comes (lp L39n0 m [.str n x, u, .int 63 (i : Int)] h) N h l (dec n (byteAt x) f i) := by
  have stop : ∀ (f m i : Nat) (h : Hp) (u : AV) (l : List AV), f < m → ¬ i < n → Gr h N u l → Wf h → Comes (lp L39n0 m [.str n x, u, .int 63 (i : Int)] h) N h l (some []) := by
    intro f m i h u l hm hi hu hw
    obtain ⟨m, rfl⟩ : ∃ k, m = k + 1 := ⟨m - 1, by omega⟩
    have e1 : ¬ (i : Int) < (n : Int) := by omega
    have e : L39n0 [.str n x, u, .int 63 (i : Int)] h = .exit 0 [u] h := by simp only [↓L39n0, ↓lenS_s, e1, ↓uc_c, ↓uz_n, ↓cI_i, ↓cB_b, cB_b, ↓cT_t, cT_t, nth_z, nth_1, cK_b, ↓cK_b, ↓cK_i, cK_i, ifB_t, ifB_f, ↓ap_e, sel_t, sel_f, gsel_tt, gsel_tf, gsel_ft, gsel_ff, gsel_u, gd_tt, gd_tf, gd_ft, gd_ff, gd_u, ↓jn_n, jn_n, jn_r, ↓jn_r, blk_n, blk_r, ↓cl_r, cl_r, ↓iAdd_i, ↓iSub_i, ↓iMul_i, ↓iAnd_i, ↓iOr_i, ↓iXor_i, ↓iNeg_i, iQuo_i, iRem_i, ↓iConv_i, iConv_i, ↓bNot_b, bNot_b, ↓eqN_i, ↓ltN_i, ↓eqB_b, bnot_e, Int.ofNat_eq_natCast, Int.cast_ofNat_Int, Int.reduceBEq, Int.reduceAdd, Int.reduceNeg, Int.reduceNegSucc, Int.reduceLT, Int.reduceLE, Int.reduceMul, Int.reduceTMod, Int.reduceSub, Int.reduceBNe, Bool.not_true, Bool.not_false, decide_true, decide_false, w63_in, w31_in, ne_eq, not_false_eq_true, Int.reduceEq, reduceCtorEq, ww3131, ww6363, ww3163, ww6331, ww3231, ww3263, ww6463, ww6364, sh31, sh63, sl63, m31, m63, n63, s5a, s5b, s6a, s6b, b31, b32, b63, c63, c64, d64, iShl_c, iShr_c, sr3, sr6, sr7]
    exact ⟨u, h, lp_x m e, by simpa using hu, To.refl _ _, hw⟩
  intro f
  induction f with
  | zero =>
    intro m i h u l hf hm hi hl hu hN hw
    exact stop 0 m i h u l hm (by omega) hu hw
  | succ f ih =>
    intro m i h u l hf hm hi hl hu hN hw
    by_cases hin : i < n
    · obtain ⟨m, rfl⟩ : ∃ k, m = k + 1 := ⟨m - 1, by omega⟩
      have hb := byteAt_lt x i
      have e1 : (i : Int) < (n : Int) := by omega
      have e4 : byteAt x i % 65536 = byteAt x i := by omega
      have q5 := c_224 _ hb
      have q8 := c_240 _ hb
      unfold dec
      rw [if_pos hin]
      by_cases c1 : 0 < byteAt x i ∧ byteAt x i < 128
      · rw [if_pos c1]
        have e2 : ¬ (byteAt x i : Int) < 1 := by omega
        have e3 : ¬ 127 < (byteAt x i : Int) := by omega
        have e6 : (i : Int) + 1 = ((i + 1 : Nat) : Int) := by omega
        obtain ⟨u', h', p1, p2, p3, p4, p5⟩ := push hN hw hu (by_ := 2) (.int 16 (byteAt x i : Int)) rfl (by omega) (by omega)
        have e : L39n0 [.str n x, u, .int 63 (i : Int)] h = .norm [.str n x, u', .int 63 ((i + 1 : Nat) : Int)] h' := by
          simp only [↓L39n0, ↓lenS_s, e1, sIdx_s n x 63 i hin, w16n, e2, e3, e4, e6, i63 (i + 1) (by omega), ↓bld1, bld1, ↓p1, ↓uc_c, ↓uz_n, ↓cI_i, ↓cB_b, cB_b, ↓cT_t, cT_t, nth_z, nth_1, cK_b, ↓cK_b, ↓cK_i, cK_i, ifB_t, ifB_f, ↓ap_e, sel_t, sel_f, gsel_tt, gsel_tf, gsel_ft, gsel_ff, gsel_u, gd_tt, gd_tf, gd_ft, gd_ff, gd_u, ↓jn_n, jn_n, jn_r, ↓jn_r, blk_n, blk_r, ↓cl_r, cl_r, ↓iAdd_i, ↓iSub_i, ↓iMul_i, ↓iAnd_i, ↓iOr_i, ↓iXor_i, ↓iNeg_i, iQuo_i, iRem_i, ↓iConv_i, iConv_i, ↓bNot_b, bNot_b, ↓eqN_i, ↓ltN_i, ↓eqB_b, bnot_e, Int.ofNat_eq_natCast, Int.cast_ofNat_Int, Int.reduceBEq, Int.reduceAdd, Int.reduceNeg, Int.reduceNegSucc, Int.reduceLT, Int.reduceLE, Int.reduceMul, Int.reduceTMod, Int.reduceSub, Int.reduceBNe, Bool.not_true, Bool.not_false, decide_true, decide_false, w63_in, w31_in, ne_eq, not_false_eq_true, Int.reduceEq, reduceCtorEq, ww3131, ww6363, ww3163, ww6331, ww3231, ww3263, ww6463, ww6364, sh31, sh63, sl63, m31, m63, n63, s5a, s5b, s6a, s6b, b31, b32, b63, c63, c64, d64, iShl_c, iShr_c, sr3, sr6, sr7]
        rw [lp_n m e]
        exact Comes.step p3 (ih m (i + 1) h' u' _ (by omega) (by omega) (by omega) (by simp; omega) p2 p5 p4)
      · rw [if_neg c1]
        have t1 : (decide ((byteAt x i : Int) < 1)) = true ∨ ((decide ((byteAt x i : Int) < 1)) = false ∧ (decide (127 < (byteAt x i : Int))) = true) := by
          by_cases z : 0 < byteAt x i
          · exact .inr ⟨by simp; omega, by simp; omega⟩
          · exact .inl (by simp; omega)
        by_cases c2 : (192 ≤ byteAt x i ∧ byteAt x i < 224) ∧ ct n (byteAt x) (i + 1) = true
        · rw [if_pos c2]
          have a5 : decide (192 ≤ byteAt x i ∧ byteAt x i < 224) = true := by simpa using c2.1
          have hct := c2.2
          have hi1 : i + 1 < n := by unfold ct at hct; simp at hct; omega
          have e6 : (i : Int) + 1 = ((i + 1 : Nat) : Int) := by omega
          have e7 : (i : Int) + 2 = ((i + 2 : Nat) : Int) := by omega
          have e2 : ¬ (byteAt x i : Int) < 1 := by omega
          have e3 : 127 < (byteAt x i : Int) := by omega
          have e10 := t72 n x (i + 1)
          rw [hct] at e10
          simp only [if_true] at e10
          have e11 := val2' (byteAt x i) (byteAt x (i + 1)) hb
          obtain ⟨u', h', p1, p2, p3, p4, p5⟩ := push hN hw hu (by_ := 2) (.int 16 (v2 (byteAt x i) (byteAt x (i + 1)) : Int)) rfl (by omega) (by omega)
          have e : L39n0 [.str n x, u, .int 63 (i : Int)] h = .norm [.str n x, u', .int 63 ((i + 2 : Nat) : Int)] h' := by
            simp only [↓L39n0, ↓lenS_s, e1, sIdx_s n x 63 i hin, w16n, e2, e3, q5, a5, e6, e7, i63 (i + 1) (by omega), i63 (i + 2) (by omega), e10, e11, two16, toU8n, k8, w8n, shl6n, wadd16, ↓bld1, bld1, ↓p1, ↓uc_c, ↓uz_n, ↓cI_i, ↓cB_b, cB_b, ↓cT_t, cT_t, nth_z, nth_1, cK_b, ↓cK_b, ↓cK_i, cK_i, ifB_t, ifB_f, ↓ap_e, sel_t, sel_f, gsel_tt, gsel_tf, gsel_ft, gsel_ff, gsel_u, gd_tt, gd_tf, gd_ft, gd_ff, gd_u, ↓jn_n, jn_n, jn_r, ↓jn_r, blk_n, blk_r, ↓cl_r, cl_r, ↓iAdd_i, ↓iSub_i, ↓iMul_i, ↓iAnd_i, ↓iOr_i, ↓iXor_i, ↓iNeg_i, iQuo_i, iRem_i, ↓iConv_i, iConv_i, ↓bNot_b, bNot_b, ↓eqN_i, ↓ltN_i, ↓eqB_b, bnot_e, Int.ofNat_eq_natCast, Int.cast_ofNat_Int, Int.reduceBEq, Int.reduceAdd, Int.reduceNeg, Int.reduceNegSucc, Int.reduceLT, Int.reduceLE, Int.reduceMul, Int.reduceTMod, Int.reduceSub, Int.reduceBNe, Bool.not_true, Bool.not_false, decide_true, decide_false, w63_in, w31_in, ne_eq, not_false_eq_true, Int.reduceEq, reduceCtorEq, ww3131, ww6363, ww3163, ww6331, ww3231, ww3263, ww6463, ww6364, sh31, sh63, sl63, m31, m63, n63, s5a, s5b, s6a, s6b, b31, b32, b63, c63, c64, d64, iShl_c, iShr_c, sr3, sr6, sr7]
          rw [lp_n m e]
          exact Comes.step p3 (ih m (i + 2) h' u' _ (by omega) (by omega) (by omega) (by simp; omega) p2 p5 p4)
        · rw [if_neg c2]
          by_cases c3 : (224 ≤ byteAt x i ∧ byteAt x i < 240) ∧ ct n (byteAt x) (i + 1) = true ∧ ct n (byteAt x) (i + 2) = true
          · rw [if_pos c3]
            have a5 : decide (192 ≤ byteAt x i ∧ byteAt x i < 224) = false := by simp; omega
            have a8 : decide (224 ≤ byteAt x i ∧ byteAt x i < 240) = true := by simpa using c3.1
            obtain ⟨hr, hct, hct2⟩ := c3
            have hi1 : i + 2 < n := by unfold ct at hct2; simp at hct2; omega
            have e6 : (i : Int) + 1 = ((i + 1 : Nat) : Int) := by omega
            have e7 : (i : Int) + 2 = ((i + 2 : Nat) : Int) := by omega
            have e9 : (i : Int) + 3 = ((i + 3 : Nat) : Int) := by omega
            have e2 : ¬ (byteAt x i : Int) < 1 := by omega
            have e3 : 127 < (byteAt x i : Int) := by omega
            have e10 := t72 n x (i + 1)
            rw [hct] at e10
            simp only [if_true] at e10
            have e12 := t72 n x (i + 2)
            rw [hct2] at e12
            simp only [if_true] at e12
            have e11 := val3' (byteAt x i) (byteAt x (i + 1)) (byteAt x (i + 2)) hb
            obtain ⟨u', h', p1, p2, p3, p4, p5⟩ := push hN hw hu (by_ := 2) (.int 16 (v3 (byteAt x i) (byteAt x (i + 1)) (byteAt x (i + 2)) : Int)) rfl (by omega) (by omega)
            have e : L39n0 [.str n x, u, .int 63 (i : Int)] h = .norm [.str n x, u', .int 63 ((i + 3 : Nat) : Int)] h' := by
              simp only [↓L39n0, ↓lenS_s, e1, sIdx_s n x 63 i hin, w16n, e2, e3, q5, a5, q8, a8, e6, e7, e9, i63 (i + 1) (by omega), i63 (i + 2) (by omega), i63 (i + 3) (by omega), e10, e11, e12, two16, toU8n, k8, w8n, shl6n, shl12n, wadd16, ↓bld1, bld1, ↓p1, ↓uc_c, ↓uz_n, ↓cI_i, ↓cB_b, cB_b, ↓cT_t, cT_t, nth_z, nth_1, cK_b, ↓cK_b, ↓cK_i, cK_i, ifB_t, ifB_f, ↓ap_e, sel_t, sel_f, gsel_tt, gsel_tf, gsel_ft, gsel_ff, gsel_u, gd_tt, gd_tf, gd_ft, gd_ff, gd_u, ↓jn_n, jn_n, jn_r, ↓jn_r, blk_n, blk_r, ↓cl_r, cl_r, ↓iAdd_i, ↓iSub_i, ↓iMul_i, ↓iAnd_i, ↓iOr_i, ↓iXor_i, ↓iNeg_i, iQuo_i, iRem_i, ↓iConv_i, iConv_i, ↓bNot_b, bNot_b, ↓eqN_i, ↓ltN_i, ↓eqB_b, bnot_e, Int.ofNat_eq_natCast, Int.cast_ofNat_Int, Int.reduceBEq, Int.reduceAdd, Int.reduceNeg, Int.reduceNegSucc, Int.reduceLT, Int.reduceLE, Int.reduceMul, Int.reduceTMod, Int.reduceSub, Int.reduceBNe, Bool.not_true, Bool.not_false, decide_true, decide_false, w63_in, w31_in, ne_eq, not_false_eq_true, Int.reduceEq, reduceCtorEq, ww3131, ww6363, ww3163, ww6331, ww3231, ww3263, ww6463, ww6364, sh31, sh63, sl63, m31, m63, n63, s5a, s5b, s6a, s6b, b31, b32, b63, c63, c64, d64, iShl_c, iShr_c, sr3, sr6, sr7]
            rw [lp_n m e]
            exact Comes.step p3 (ih m (i + 3) h' u' _ (by omega) (by omega) (by omega) (by simp; omega) p2 p5 p4)
          · rw [if_neg c3]
            have e6 : (i : Int) + 1 = ((i + 1 : Nat) : Int) := by omega
            have e7 : (i : Int) + 2 = ((i + 2 : Nat) : Int) := by omega
            have e : L39n0 [.str n x, u, .int 63 (i : Int)] h = .ret (.tup (.cons .nils (.cons (.bool false) .nil))) h := by
              by_cases d1 : 192 ≤ byteAt x i ∧ byteAt x i < 224
              · have a5 : decide (192 ≤ byteAt x i ∧ byteAt x i < 224) = true := by simpa using d1
                have a9 : ct n (byteAt x) (i + 1) = false := by
                  cases hq : ct n (byteAt x) (i + 1) with
                  | false => rfl
                  | true => exact absurd ⟨d1, hq⟩ c2
                rcases t1 with t1 | ⟨t1, t2⟩
                · simp only [↓L39n0, ↓lenS_s, e1, sIdx_s n x 63 i hin, w16n, t1, q5, a5, a9, e6, i63 (i + 1) (by omega), t72, two16, toU8n, k8, w8n, cK_nl, ↓uc_c, ↓uz_n, ↓cI_i, ↓cB_b, cB_b, ↓cT_t, cT_t, nth_z, nth_1, cK_b, ↓cK_b, ↓cK_i, cK_i, ifB_t, ifB_f, ↓ap_e, sel_t, sel_f, gsel_tt, gsel_tf, gsel_ft, gsel_ff, gsel_u, gd_tt, gd_tf, gd_ft, gd_ff, gd_u, ↓jn_n, jn_n, jn_r, ↓jn_r, blk_n, blk_r, ↓cl_r, cl_r, ↓iAdd_i, ↓iSub_i, ↓iMul_i, ↓iAnd_i, ↓iOr_i, ↓iXor_i, ↓iNeg_i, iQuo_i, iRem_i, ↓iConv_i, iConv_i, ↓bNot_b, bNot_b, ↓eqN_i, ↓ltN_i, ↓eqB_b, bnot_e, Int.ofNat_eq_natCast, Int.cast_ofNat_Int, Int.reduceBEq, Int.reduceAdd, Int.reduceNeg, Int.reduceNegSucc, Int.reduceLT, Int.reduceLE, Int.reduceMul, Int.reduceTMod, Int.reduceSub, Int.reduceBNe, Bool.not_true, Bool.not_false, decide_true, decide_false, w63_in, w31_in, ne_eq, not_false_eq_true, Int.reduceEq, reduceCtorEq, ww3131, ww6363, ww3163, ww6331, ww3231, ww3263, ww6463, ww6364, sh31, sh63, sl63, m31, m63, n63, s5a, s5b, s6a, s6b, b31, b32, b63, c63, c64, d64, iShl_c, iShr_c, sr3, sr6, sr7]
                · simp only [↓L39n0, ↓lenS_s, e1, sIdx_s n x 63 i hin, w16n, t1, t2, q5, a5, a9, e6, i63 (i + 1) (by omega), t72, two16, toU8n, k8, w8n, cK_nl, ↓uc_c, ↓uz_n, ↓cI_i, ↓cB_b, cB_b, ↓cT_t, cT_t, nth_z, nth_1, cK_b, ↓cK_b, ↓cK_i, cK_i, ifB_t, ifB_f, ↓ap_e, sel_t, sel_f, gsel_tt, gsel_tf, gsel_ft, gsel_ff, gsel_u, gd_tt, gd_tf, gd_ft, gd_ff, gd_u, ↓jn_n, jn_n, jn_r, ↓jn_r, blk_n, blk_r, ↓cl_r, cl_r, ↓iAdd_i, ↓iSub_i, ↓iMul_i, ↓iAnd_i, ↓iOr_i, ↓iXor_i, ↓iNeg_i, iQuo_i, iRem_i, ↓iConv_i, iConv_i, ↓bNot_b, bNot_b, ↓eqN_i, ↓ltN_i, ↓eqB_b, bnot_e, Int.ofNat_eq_natCast, Int.cast_ofNat_Int, Int.reduceBEq, Int.reduceAdd, Int.reduceNeg, Int.reduceNegSucc, Int.reduceLT, Int.reduceLE, Int.reduceMul, Int.reduceTMod, Int.reduceSub, Int.reduceBNe, Bool.not_true, Bool.not_false, decide_true, decide_false, w63_in, w31_in, ne_eq, not_false_eq_true, Int.reduceEq, reduceCtorEq, ww3131, ww6363, ww3163, ww6331, ww3231, ww3263, ww6463, ww6364, sh31, sh63, sl63, m31, m63, n63, s5a, s5b, s6a, s6b, b31, b32, b63, c63, c64, d64, iShl_c, iShr_c, sr3, sr6, sr7]
              · have a5 : decide (192 ≤ byteAt x i ∧ byteAt x i < 224) = false := by simpa using d1
                by_cases d2 : 224 ≤ byteAt x i ∧ byteAt x i < 240
                · have a8 : decide (224 ≤ byteAt x i ∧ byteAt x i < 240) = true := by simpa using d2
                  cases g1 : ct n (byteAt x) (i + 1) with
                  | false =>
                    rcases t1 with t1 | ⟨t1, t2⟩
                    · simp only [↓L39n0, ↓lenS_s, e1, sIdx_s n x 63 i hin, w16n, t1, q5, q8, a5, a8, g1, e6, e7, i63 (i + 1) (by omega), i63 (i + 2) (by omega), t72, two16, toU8n, k8, w8n, cK_nl, ↓uc_c, ↓uz_n, ↓cI_i, ↓cB_b, cB_b, ↓cT_t, cT_t, nth_z, nth_1, cK_b, ↓cK_b, ↓cK_i, cK_i, ifB_t, ifB_f, ↓ap_e, sel_t, sel_f, gsel_tt, gsel_tf, gsel_ft, gsel_ff, gsel_u, gd_tt, gd_tf, gd_ft, gd_ff, gd_u, ↓jn_n, jn_n, jn_r, ↓jn_r, blk_n, blk_r, ↓cl_r, cl_r, ↓iAdd_i, ↓iSub_i, ↓iMul_i, ↓iAnd_i, ↓iOr_i, ↓iXor_i, ↓iNeg_i, iQuo_i, iRem_i, ↓iConv_i, iConv_i, ↓bNot_b, bNot_b, ↓eqN_i, ↓ltN_i, ↓eqB_b, bnot_e, Int.ofNat_eq_natCast, Int.cast_ofNat_Int, Int.reduceBEq, Int.reduceAdd, Int.reduceNeg, Int.reduceNegSucc, Int.reduceLT, Int.reduceLE, Int.reduceMul, Int.reduceTMod, Int.reduceSub, Int.reduceBNe, Bool.not_true, Bool.not_false, decide_true, decide_false, w63_in, w31_in, ne_eq, not_false_eq_true, Int.reduceEq, reduceCtorEq, ww3131, ww6363, ww3163, ww6331, ww3231, ww3263, ww6463, ww6364, sh31, sh63, sl63, m31, m63, n63, s5a, s5b, s6a, s6b, b31, b32, b63, c63, c64, d64, iShl_c, iShr_c, sr3, sr6, sr7]
                    · simp only [↓L39n0, ↓lenS_s, e1, sIdx_s n x 63 i hin, w16n, t1, t2, q5, q8, a5, a8, g1, e6, e7, i63 (i + 1) (by omega), i63 (i + 2) (by omega), t72, two16, toU8n, k8, w8n, cK_nl, ↓uc_c, ↓uz_n, ↓cI_i, ↓cB_b, cB_b, ↓cT_t, cT_t, nth_z, nth_1, cK_b, ↓cK_b, ↓cK_i, cK_i, ifB_t, ifB_f, ↓ap_e, sel_t, sel_f, gsel_tt, gsel_tf, gsel_ft, gsel_ff, gsel_u, gd_tt, gd_tf, gd_ft, gd_ff, gd_u, ↓jn_n, jn_n, jn_r, ↓jn_r, blk_n, blk_r, ↓cl_r, cl_r, ↓iAdd_i, ↓iSub_i, ↓iMul_i, ↓iAnd_i, ↓iOr_i, ↓iXor_i, ↓iNeg_i, iQuo_i, iRem_i, ↓iConv_i, iConv_i, ↓bNot_b, bNot_b, ↓eqN_i, ↓ltN_i, ↓eqB_b, bnot_e, Int.ofNat_eq_natCast, Int.cast_ofNat_Int, Int.reduceBEq, Int.reduceAdd, Int.reduceNeg, Int.reduceNegSucc, Int.reduceLT, Int.reduceLE, Int.reduceMul, Int.reduceTMod, Int.reduceSub, Int.reduceBNe, Bool.not_true, Bool.not_false, decide_true, decide_false, w63_in, w31_in, ne_eq, not_false_eq_true, Int.reduceEq, reduceCtorEq, ww3131, ww6363, ww3163, ww6331, ww3231, ww3263, ww6463, ww6364, sh31, sh63, sl63, m31, m63, n63, s5a, s5b, s6a, s6b, b31, b32, b63, c63, c64, d64, iShl_c, iShr_c, sr3, sr6, sr7]
                  | true =>
                    have g2 : ct n (byteAt x) (i + 2) = false := by
                      cases hq : ct n (byteAt x) (i + 2) with
                      | false => rfl
                      | true => exact absurd ⟨d2, g1, hq⟩ c3
                    rcases t1 with t1 | ⟨t1, t2⟩
                    · simp only [↓L39n0, ↓lenS_s, e1, sIdx_s n x 63 i hin, w16n, t1, q5, q8, a5, a8, g1, g2, e6, e7, i63 (i + 1) (by omega), i63 (i + 2) (by omega), t72, two16, toU8n, k8, w8n, cK_nl, ↓uc_c, ↓uz_n, ↓cI_i, ↓cB_b, cB_b, ↓cT_t, cT_t, nth_z, nth_1, cK_b, ↓cK_b, ↓cK_i, cK_i, ifB_t, ifB_f, ↓ap_e, sel_t, sel_f, gsel_tt, gsel_tf, gsel_ft, gsel_ff, gsel_u, gd_tt, gd_tf, gd_ft, gd_ff, gd_u, ↓jn_n, jn_n, jn_r, ↓jn_r, blk_n, blk_r, ↓cl_r, cl_r, ↓iAdd_i, ↓iSub_i, ↓iMul_i, ↓iAnd_i, ↓iOr_i, ↓iXor_i, ↓iNeg_i, iQuo_i, iRem_i, ↓iConv_i, iConv_i, ↓bNot_b, bNot_b, ↓eqN_i, ↓ltN_i, ↓eqB_b, bnot_e, Int.ofNat_eq_natCast, Int.cast_ofNat_Int, Int.reduceBEq, Int.reduceAdd, Int.reduceNeg, Int.reduceNegSucc, Int.reduceLT, Int.reduceLE, Int.reduceMul, Int.reduceTMod, Int.reduceSub, Int.reduceBNe, Bool.not_true, Bool.not_false, decide_true, decide_false, w63_in, w31_in, ne_eq, not_false_eq_true, Int.reduceEq, reduceCtorEq, ww3131, ww6363, ww3163, ww6331, ww3231, ww3263, ww6463, ww6364, sh31, sh63, sl63, m31, m63, n63, s5a, s5b, s6a, s6b, b31, b32, b63, c63, c64, d64, iShl_c, iShr_c, sr3, sr6, sr7]
                    · simp only [↓L39n0, ↓lenS_s, e1, sIdx_s n x 63 i hin, w16n, t1, t2, q5, q8, a5, a8, g1, g2, e6, e7, i63 (i + 1) (by omega), i63 (i + 2) (by omega), t72, two16, toU8n, k8, w8n, cK_nl, ↓uc_c, ↓uz_n, ↓cI_i, ↓cB_b, cB_b, ↓cT_t, cT_t, nth_z, nth_1, cK_b, ↓cK_b, ↓cK_i, cK_i, ifB_t, ifB_f, ↓ap_e, sel_t, sel_f, gsel_tt, gsel_tf, gsel_ft, gsel_ff, gsel_u, gd_tt, gd_tf, gd_ft, gd_ff, gd_u, ↓jn_n, jn_n, jn_r, ↓jn_r, blk_n, blk_r, ↓cl_r, cl_r, ↓iAdd_i, ↓iSub_i, ↓iMul_i, ↓iAnd_i, ↓iOr_i, ↓iXor_i, ↓iNeg_i, iQuo_i, iRem_i, ↓iConv_i, iConv_i, ↓bNot_b, bNot_b, ↓eqN_i, ↓ltN_i, ↓eqB_b, bnot_e, Int.ofNat_eq_natCast, Int.cast_ofNat_Int, Int.reduceBEq, Int.reduceAdd, Int.reduceNeg, Int.reduceNegSucc, Int.reduceLT, Int.reduceLE, Int.reduceMul, Int.reduceTMod, Int.reduceSub, Int.reduceBNe, Bool.not_true, Bool.not_false, decide_true, decide_false, w63_in, w31_in, ne_eq, not_false_eq_true, Int.reduceEq, reduceCtorEq, ww3131, ww6363, ww3163, ww6331, ww3231, ww3263, ww6463, ww6364, sh31, sh63, sl63, m31, m63, n63, s5a, s5b, s6a, s6b, b31, b32, b63, c63, c64, d64, iShl_c, iShr_c, sr3, sr6, sr7]
                · have a8 : decide (224 ≤ byteAt x i ∧ byteAt x i < 240) = false := by simpa using d2
                  rcases t1 with t1 | ⟨t1, t2⟩
                  · simp only [↓L39n0, ↓lenS_s, e1, sIdx_s n x 63 i hin, w16n, t1, q5, q8, a5, a8, toU8n, k8, w8n, cK_nl, ↓uc_c, ↓uz_n, ↓cI_i, ↓cB_b, cB_b, ↓cT_t, cT_t, nth_z, nth_1, cK_b, ↓cK_b, ↓cK_i, cK_i, ifB_t, ifB_f, ↓ap_e, sel_t, sel_f, gsel_tt, gsel_tf, gsel_ft, gsel_ff, gsel_u, gd_tt, gd_tf, gd_ft, gd_ff, gd_u, ↓jn_n, jn_n, jn_r, ↓jn_r, blk_n, blk_r, ↓cl_r, cl_r, ↓iAdd_i, ↓iSub_i, ↓iMul_i, ↓iAnd_i, ↓iOr_i, ↓iXor_i, ↓iNeg_i, iQuo_i, iRem_i, ↓iConv_i, iConv_i, ↓bNot_b, bNot_b, ↓eqN_i, ↓ltN_i, ↓eqB_b, bnot_e, Int.ofNat_eq_natCast, Int.cast_ofNat_Int, Int.reduceBEq, Int.reduceAdd, Int.reduceNeg, Int.reduceNegSucc, Int.reduceLT, Int.reduceLE, Int.reduceMul, Int.reduceTMod, Int.reduceSub, Int.reduceBNe, Bool.not_true, Bool.not_false, decide_true, decide_false, w63_in, w31_in, ne_eq, not_false_eq_true, Int.reduceEq, reduceCtorEq, ww3131, ww6363, ww3163, ww6331, ww3231, ww3263, ww6463, ww6364, sh31, sh63, sl63, m31, m63, n63, s5a, s5b, s6a, s6b, b31, b32, b63, c63, c64, d64, iShl_c, iShr_c, sr3, sr6, sr7]
                  · simp only [↓L39n0, ↓lenS_s, e1, sIdx_s n x 63 i hin, w16n, t1, t2, q5, q8, a5, a8, toU8n, k8, w8n, cK_nl, ↓uc_c, ↓uz_n, ↓cI_i, ↓cB_b, cB_b, ↓cT_t, cT_t, nth_z, nth_1, cK_b, ↓cK_b, ↓cK_i, cK_i, ifB_t, ifB_f, ↓ap_e, sel_t, sel_f, gsel_tt, gsel_tf, gsel_ft, gsel_ff, gsel_u, gd_tt, gd_tf, gd_ft, gd_ff, gd_u, ↓jn_n, jn_n, jn_r, ↓jn_r, blk_n, blk_r, ↓cl_r, cl_r, ↓iAdd_i, ↓iSub_i, ↓iMul_i, ↓iAnd_i, ↓iOr_i, ↓iXor_i, ↓iNeg_i, iQuo_i, iRem_i, ↓iConv_i, iConv_i, ↓bNot_b, bNot_b, ↓eqN_i, ↓ltN_i, ↓eqB_b, bnot_e, Int.ofNat_eq_natCast, Int.cast_ofNat_Int, Int.reduceBEq, Int.reduceAdd, Int.reduceNeg, Int.reduceNegSucc, Int.reduceLT, Int.reduceLE, Int.reduceMul, Int.reduceTMod, Int.reduceSub, Int.reduceBNe, Bool.not_true, Bool.not_false, decide_true, decide_false, w63_in, w31_in, ne_eq, not_false_eq_true, Int.reduceEq, reduceCtorEq, ww3131, ww6363, ww3163, ww6331, ww3231, ww3263, ww6463, ww6364, sh31, sh63, sl63, m31, m63, n63, s5a, s5b, s6a, s6b, b31, b32, b63, c63, c64, d64, iShl_c, iShr_c, sr3, sr6, sr7]
            exact ⟨h, lp_r m e, To.refl _ _, hw⟩
    · have : dec n (byteAt x) (f + 1) i = some [] := by unfold dec; rw [if_neg hin]
      rw [this]
      exact stop (f + 1) m i h u l hm hin hu hw
end Go.Proofs.Ytnpfppddongbhaa
