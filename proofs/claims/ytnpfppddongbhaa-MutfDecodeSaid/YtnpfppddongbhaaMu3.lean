/-
  Texts of class files, part 3: reckoned by the abstract machine.
-/
import Derived.Test.YtnpfppddongbhaaMu2
namespace Go.Proofs.Ytnpfppddongbhaa
open Go Go.AM
set_option autoImplicit false
set_option linter.unusedSimpArgs false
set_option linter.unusedVariables false
theorem b_224 : ∀ c < 256, ((((Nat.land (c % 65536) 224 % 65536 : Nat)) : Int) == 192) = decide (192 ≤ c ∧ c < 224) := by decide +kernel
theorem b_240 : ∀ c < 256, ((((Nat.land (c % 65536) 240 % 65536 : Nat)) : Int) == 224) = decide (224 ≤ c ∧ c < 240) := by decide +kernel
theorem i63 (i : Nat) (hi : i < 1000000) : wrapC 63 (i : Int) = (i : Int) := w63_in _ (by omega) (by omega)

/-- What a loop over a text comes to. -/
def Comes (r : Res) (N : Nat) (h : Hp) (l : List AV) : Option (List Nat) → Prop
  | some t => ∃ u' h', r = .exit 0 [u'] h' ∧ Gr h' N u' (l ++ t.map fun (x : Nat) => AV.int 16 (x : Int)) ∧ To (fun b => N ≤ b) h h' ∧ Wf h'
  | none => ∃ h', r = .ret (.tup (.cons .nils (.cons (.bool false) .nil))) h' ∧ To (fun b => N ≤ b) h h' ∧ Wf h'

theorem Comes.step {r : Res} {N : Nat} {h h1 : Hp} {l : List AV} {v : Nat} {o : Option (List Nat)} (ht : To (fun b => N ≤ b) h h1) (hc : Comes r N h1 (l ++ [AV.int 16 (v : Int)]) o) : Comes r N h l (o.map (v :: ·)) := by
  cases o with
  | none => obtain ⟨h', e1, e2, e3⟩ := hc; exact ⟨h', e1, ht.trans e2, e3⟩
  | some t =>
    obtain ⟨u', h', e1, e2, e3, e4⟩ := hc
    exact ⟨u', h', e1, by simpa using e2, ht.trans e3, e4⟩

theorem loop38 (n x N : Nat) (hn : n ≤ 1000) : ∀ (f m i : Nat) (h : Hp) (u : AV) (l : List AV), n - i ≤ f → f < m → i ≤ n → l.length ≤ i → Gr h N u l → N ≤ h.nb → Wf h →
    Comes (lp L38n0 m [.str n x, u, .int 63 (i : Int)] h) N h l (dec n (byteAt x) f i) := by
  have stop : ∀ (f m i : Nat) (h : Hp) (u : AV) (l : List AV), f < m → ¬ i < n → Gr h N u l → Wf h → Comes (lp L38n0 m [.str n x, u, .int 63 (i : Int)] h) N h l (some []) := by
    intro f m i h u l hm hi hu hw
    obtain ⟨m, rfl⟩ : ∃ k, m = k + 1 := ⟨m - 1, by omega⟩
    have e1 : ¬ (i : Int) < (n : Int) := by omega
    have e : L38n0 [.str n x, u, .int 63 (i : Int)] h = .exit 0 [u] h := by simp only [↓L38n0, ↓lenS_s, e1, ↓uc_c, ↓uz_n, ↓cI_i, ↓cB_b, cB_b, ↓cT_t, cT_t, nth_z, nth_1, cK_b, ↓cK_b, ↓cK_i, cK_i, ifB_t, ifB_f, ↓ap_e, sel_t, sel_f, gsel_tt, gsel_tf, gsel_ft, gsel_ff, gsel_u, gd_tt, gd_tf, gd_ft, gd_ff, gd_u, ↓jn_n, jn_n, jn_r, ↓jn_r, blk_n, blk_r, ↓cl_r, cl_r, ↓iAdd_i, ↓iSub_i, ↓iMul_i, ↓iAnd_i, ↓iOr_i, ↓iXor_i, ↓iNeg_i, iQuo_i, iRem_i, ↓iConv_i, iConv_i, ↓bNot_b, bNot_b, ↓eqN_i, ↓ltN_i, ↓eqB_b, bnot_e, Int.ofNat_eq_natCast, Int.cast_ofNat_Int, Int.reduceBEq, Int.reduceAdd, Int.reduceNeg, Int.reduceNegSucc, Int.reduceLT, Int.reduceLE, Int.reduceMul, Int.reduceTMod, Int.reduceSub, Int.reduceBNe, Bool.not_true, Bool.not_false, decide_true, decide_false, w63_in, w31_in, ne_eq, not_false_eq_true, Int.reduceEq, reduceCtorEq, ww3131, ww6363, ww3163, ww6331, ww3231, ww3263, ww6463, ww6364, sh31, sh63, sl63, m31, m63, n63, s5a, s5b, s6a, s6b, b31, b32, b63, c63, c64, d64, iShl_c, iShr_c, sr3, sr6, sr7]
    exact ⟨u, h, lp_x m e, by simpa using hu, To.refl _ _, hw⟩
  intro f
  induction f with
  | zero =>
    intro m i h u l hf hm hi hl hu hN hw
    exact stop 0 m i h u l hm (by omega) hu hw
  | succ f ih =>
    intro m i h u l hf hm hi hl hu hN hw
    by_cases hin : i < n
    · obtain ⟨m, rfl⟩ : ∃ k, m = k + 1 := ⟨m - 1, by omega⟩
      have hb := byteAt_lt x i
      have e1 : (i : Int) < (n : Int) := by omega
      have e4 : byteAt x i % 65536 = byteAt x i := by omega
      unfold dec
      rw [if_pos hin]
      by_cases c1 : 0 < byteAt x i ∧ byteAt x i < 128
      · rw [if_pos c1]
        have e2 : (0 : Int) < (byteAt x i : Int) := by omega
        have e3 : (byteAt x i : Int) < 128 := by omega
        have e6 : (i : Int) + 1 = ((i + 1 : Nat) : Int) := by omega
        obtain ⟨u', h', p1, p2, p3, p4, p5⟩ := push hN hw hu (by_ := 2) (.int 16 (byteAt x i : Int)) rfl (by omega) (by omega)
        have e : L38n0 [.str n x, u, .int 63 (i : Int)] h = .norm [.str n x, u', .int 63 ((i + 1 : Nat) : Int)] h' := by
          simp only [↓L38n0, ↓lenS_s, e1, sIdx_s n x 63 i hin, w16n, e2, e3, e4, e6, i63 (i + 1) (by omega), ↓bld1, bld1, ↓p1, ↓uc_c, ↓uz_n, ↓cI_i, ↓cB_b, cB_b, ↓cT_t, cT_t, nth_z, nth_1, cK_b, ↓cK_b, ↓cK_i, cK_i, ifB_t, ifB_f, ↓ap_e, sel_t, sel_f, gsel_tt, gsel_tf, gsel_ft, gsel_ff, gsel_u, gd_tt, gd_tf, gd_ft, gd_ff, gd_u, ↓jn_n, jn_n, jn_r, ↓jn_r, blk_n, blk_r, ↓cl_r, cl_r, ↓iAdd_i, ↓iSub_i, ↓iMul_i, ↓iAnd_i, ↓iOr_i, ↓iXor_i, ↓iNeg_i, iQuo_i, iRem_i, ↓iConv_i, iConv_i, ↓bNot_b, bNot_b, ↓eqN_i, ↓ltN_i, ↓eqB_b, bnot_e, Int.ofNat_eq_natCast, Int.cast_ofNat_Int, Int.reduceBEq, Int.reduceAdd, Int.reduceNeg, Int.reduceNegSucc, Int.reduceLT, Int.reduceLE, Int.reduceMul, Int.reduceTMod, Int.reduceSub, Int.reduceBNe, Bool.not_true, Bool.not_false, decide_true, decide_false, w63_in, w31_in, ne_eq, not_false_eq_true, Int.reduceEq, reduceCtorEq, ww3131, ww6363, ww3163, ww6331, ww3231, ww3263, ww6463, ww6364, sh31, sh63, sl63, m31, m63, n63, s5a, s5b, s6a, s6b, b31, b32, b63, c63, c64, d64, iShl_c, iShr_c, sr3, sr6, sr7]
        rw [lp_n m e]
        exact Comes.step p3 (ih m (i + 1) h' u' _ (by omega) (by omega) (by omega) (by simp; omega) p2 p5 p4)
      · rw [if_neg c1]
        have first : ∀ {r : Res}, (∀ (b : Bool), (0 : Int) < (byteAt x i : Int) ↔ 0 < byteAt x i) → r = r := fun _ => rfl
        have t1 : (decide ((0 : Int) < (byteAt x i : Int))) = false ∨ ((decide ((0 : Int) < (byteAt x i : Int))) = true ∧ (decide ((byteAt x i : Int) < 128)) = false) := by
          by_cases z : 0 < byteAt x i
          · exact .inr ⟨by simpa using z, by simp; omega⟩
          · exact .inl (by simp; omega)
        by_cases c2 : (192 ≤ byteAt x i ∧ byteAt x i < 224) ∧ ct n (byteAt x) (i + 1) = true
        · rw [if_pos c2]
          have e5 : ((((Nat.land (byteAt x i) 224 % 65536 : Nat)) : Int) == 192) = true := by have := b_224 _ hb; rw [e4] at this; rw [this]; simpa using c2.1
          have hct := c2.2
          have hi1 : i + 1 < n := by unfold ct at hct; simp at hct; omega
          have e6 : (i : Int) + 1 = ((i + 1 : Nat) : Int) := by omega
          have e7 : (i : Int) + 2 = ((i + 2 : Nat) : Int) := by omega
          have e2 : (0 : Int) < (byteAt x i : Int) := by omega
          have e3 : ¬ (byteAt x i : Int) < 128 := by omega
          obtain ⟨u', h', p1, p2, p3, p4, p5⟩ := push hN hw hu (by_ := 2) (.int 16 (v2 (byteAt x i) (byteAt x (i + 1)) : Int)) rfl (by omega) (by omega)
          have e : L38n0 [.str n x, u, .int 63 (i : Int)] h = .norm [.str n x, u', .int 63 ((i + 2 : Nat) : Int)] h' := by
            simp only [↓L38n0, ↓lenS_s, e1, sIdx_s n x 63 i hin, sIdx_s n x 63 (i + 1) hi1, w16n, e2, e3, e4, e5, e6, e7, i63 (i + 1) (by omega), i63 (i + 2) (by omega), t71, hct, toU16n, k16, toU8n, k8, w8n, shl6n, or16n, val2, ↓bld1, bld1, ↓p1, ↓uc_c, ↓uz_n, ↓cI_i, ↓cB_b, cB_b, ↓cT_t, cT_t, nth_z, nth_1, cK_b, ↓cK_b, ↓cK_i, cK_i, ifB_t, ifB_f, ↓ap_e, sel_t, sel_f, gsel_tt, gsel_tf, gsel_ft, gsel_ff, gsel_u, gd_tt, gd_tf, gd_ft, gd_ff, gd_u, ↓jn_n, jn_n, jn_r, ↓jn_r, blk_n, blk_r, ↓cl_r, cl_r, ↓iAdd_i, ↓iSub_i, ↓iMul_i, ↓iAnd_i, ↓iOr_i, ↓iXor_i, ↓iNeg_i, iQuo_i, iRem_i, ↓iConv_i, iConv_i, ↓bNot_b, bNot_b, ↓eqN_i, ↓ltN_i, ↓eqB_b, bnot_e, Int.ofNat_eq_natCast, Int.cast_ofNat_Int, Int.reduceBEq, Int.reduceAdd, Int.reduceNeg, Int.reduceNegSucc, Int.reduceLT, Int.reduceLE, Int.reduceMul, Int.reduceTMod, Int.reduceSub, Int.reduceBNe, Bool.not_true, Bool.not_false, decide_true, decide_false, w63_in, w31_in, ne_eq, not_false_eq_true, Int.reduceEq, reduceCtorEq, ww3131, ww6363, ww3163, ww6331, ww3231, ww3263, ww6463, ww6364, sh31, sh63, sl63, m31, m63, n63, s5a, s5b, s6a, s6b, b31, b32, b63, c63, c64, d64, iShl_c, iShr_c, sr3, sr6, sr7]
          rw [lp_n m e]
          exact Comes.step p3 (ih m (i + 2) h' u' _ (by omega) (by omega) (by omega) (by simp; omega) p2 p5 p4)
        · rw [if_neg c2]
          by_cases c3 : (224 ≤ byteAt x i ∧ byteAt x i < 240) ∧ ct n (byteAt x) (i + 1) = true ∧ ct n (byteAt x) (i + 2) = true
          · rw [if_pos c3]
            have e5 : ((((Nat.land (byteAt x i) 224 % 65536 : Nat)) : Int) == 192) = false := by have := b_224 _ hb; rw [e4] at this; rw [this]; simp; omega
            have e8 : ((((Nat.land (byteAt x i) 240 % 65536 : Nat)) : Int) == 224) = true := by have := b_240 _ hb; rw [e4] at this; rw [this]; simpa using c3.1
            obtain ⟨hr, hct, hct2⟩ := c3
            have hi1 : i + 2 < n := by unfold ct at hct2; simp at hct2; omega
            have e6 : (i : Int) + 1 = ((i + 1 : Nat) : Int) := by omega
            have e7 : (i : Int) + 2 = ((i + 2 : Nat) : Int) := by omega
            have e9 : (i : Int) + 3 = ((i + 3 : Nat) : Int) := by omega
            have e2 : (0 : Int) < (byteAt x i : Int) := by omega
            have e3 : ¬ (byteAt x i : Int) < 128 := by omega
            obtain ⟨u', h', p1, p2, p3, p4, p5⟩ := push hN hw hu (by_ := 2) (.int 16 (v3 (byteAt x i) (byteAt x (i + 1)) (byteAt x (i + 2)) : Int)) rfl (by omega) (by omega)
            have e : L38n0 [.str n x, u, .int 63 (i : Int)] h = .norm [.str n x, u', .int 63 ((i + 3 : Nat) : Int)] h' := by
              simp only [↓L38n0, ↓lenS_s, e1, sIdx_s n x 63 i hin, sIdx_s n x 63 (i + 1) (by omega), sIdx_s n x 63 (i + 2) hi1, w16n, e2, e3, e4, e5, e6, e7, e8, e9, i63 (i + 1) (by omega), i63 (i + 2) (by omega), i63 (i + 3) (by omega), t71, hct, hct2, toU16n, k16, toU8n, k8, w8n, shl6n, shl12n, or16n, val3, ↓bld1, bld1, ↓p1, ↓uc_c, ↓uz_n, ↓cI_i, ↓cB_b, cB_b, ↓cT_t, cT_t, nth_z, nth_1, cK_b, ↓cK_b, ↓cK_i, cK_i, ifB_t, ifB_f, ↓ap_e, sel_t, sel_f, gsel_tt, gsel_tf, gsel_ft, gsel_ff, gsel_u, gd_tt, gd_tf, gd_ft, gd_ff, gd_u, ↓jn_n, jn_n, jn_r, ↓jn_r, blk_n, blk_r, ↓cl_r, cl_r, ↓iAdd_i, ↓iSub_i, ↓iMul_i, ↓iAnd_i, ↓iOr_i, ↓iXor_i, ↓iNeg_i, iQuo_i, iRem_i, ↓iConv_i, iConv_i, ↓bNot_b, bNot_b, ↓eqN_i, ↓ltN_i, ↓eqB_b, bnot_e, Int.ofNat_eq_natCast, Int.cast_ofNat_Int, Int.reduceBEq, Int.reduceAdd, Int.reduceNeg, Int.reduceNegSucc, Int.reduceLT, Int.reduceLE, Int.reduceMul, Int.reduceTMod, Int.reduceSub, Int.reduceBNe, Bool.not_true, Bool.not_false, decide_true, decide_false, w63_in, w31_in, ne_eq, not_false_eq_true, Int.reduceEq, reduceCtorEq, ww3131, ww6363, ww3163, ww6331, ww3231, ww3263, ww6463, ww6364, sh31, sh63, sl63, m31, m63, n63, s5a, s5b, s6a, s6b, b31, b32, b63, c63, c64, d64, iShl_c, iShr_c, sr3, sr6, sr7]
            rw [lp_n m e]
            exact Comes.step p3 (ih m (i + 3) h' u' _ (by omega) (by omega) (by omega) (by simp; omega) p2 p5 p4)
          · rw [if_neg c3]
            have e6 : (i : Int) + 1 = ((i + 1 : Nat) : Int) := by omega
            have e7 : (i : Int) + 2 = ((i + 2 : Nat) : Int) := by omega
            have q5 : ((((Nat.land (byteAt x i) 224 % 65536 : Nat)) : Int) == 192) = decide (192 ≤ byteAt x i ∧ byteAt x i < 224) := by have := b_224 _ hb; rwa [e4] at this
            have q8 : ((((Nat.land (byteAt x i) 240 % 65536 : Nat)) : Int) == 224) = decide (224 ≤ byteAt x i ∧ byteAt x i < 240) := by have := b_240 _ hb; rwa [e4] at this
            have e : L38n0 [.str n x, u, .int 63 (i : Int)] h = .ret (.tup (.cons .nils (.cons (.bool false) .nil))) h := by
              by_cases d1 : 192 ≤ byteAt x i ∧ byteAt x i < 224
              · have a5 : decide (192 ≤ byteAt x i ∧ byteAt x i < 224) = true := by simpa using d1
                have a8 : decide (224 ≤ byteAt x i ∧ byteAt x i < 240) = false := by simp; omega
                have a9 : ct n (byteAt x) (i + 1) = false := by
                  cases hq : ct n (byteAt x) (i + 1) with
                  | false => rfl
                  | true => exact absurd ⟨d1, hq⟩ c2
                rcases t1 with t1 | ⟨t1, t2⟩
                · simp only [↓L38n0, ↓lenS_s, e1, sIdx_s n x 63 i hin, w16n, t1, e4, q5, q8, a5, a8, a9, e6, i63 (i + 1) (by omega), t71, toU16n, k16, cK_nl, ↓uc_c, ↓uz_n, ↓cI_i, ↓cB_b, cB_b, ↓cT_t, cT_t, nth_z, nth_1, cK_b, ↓cK_b, ↓cK_i, cK_i, ifB_t, ifB_f, ↓ap_e, sel_t, sel_f, gsel_tt, gsel_tf, gsel_ft, gsel_ff, gsel_u, gd_tt, gd_tf, gd_ft, gd_ff, gd_u, ↓jn_n, jn_n, jn_r, ↓jn_r, blk_n, blk_r, ↓cl_r, cl_r, ↓iAdd_i, ↓iSub_i, ↓iMul_i, ↓iAnd_i, ↓iOr_i, ↓iXor_i, ↓iNeg_i, iQuo_i, iRem_i, ↓iConv_i, iConv_i, ↓bNot_b, bNot_b, ↓eqN_i, ↓ltN_i, ↓eqB_b, bnot_e, Int.ofNat_eq_natCast, Int.cast_ofNat_Int, Int.reduceBEq, Int.reduceAdd, Int.reduceNeg, Int.reduceNegSucc, Int.reduceLT, Int.reduceLE, Int.reduceMul, Int.reduceTMod, Int.reduceSub, Int.reduceBNe, Bool.not_true, Bool.not_false, decide_true, decide_false, w63_in, w31_in, ne_eq, not_false_eq_true, Int.reduceEq, reduceCtorEq, ww3131, ww6363, ww3163, ww6331, ww3231, ww3263, ww6463, ww6364, sh31, sh63, sl63, m31, m63, n63, s5a, s5b, s6a, s6b, b31, b32, b63, c63, c64, d64, iShl_c, iShr_c, sr3, sr6, sr7]
                · simp only [↓L38n0, ↓lenS_s, e1, sIdx_s n x 63 i hin, w16n, t1, t2, e4, q5, q8, a5, a8, a9, e6, i63 (i + 1) (by omega), t71, toU16n, k16, cK_nl, ↓uc_c, ↓uz_n, ↓cI_i, ↓cB_b, cB_b, ↓cT_t, cT_t, nth_z, nth_1, cK_b, ↓cK_b, ↓cK_i, cK_i, ifB_t, ifB_f, ↓ap_e, sel_t, sel_f, gsel_tt, gsel_tf, gsel_ft, gsel_ff, gsel_u, gd_tt, gd_tf, gd_ft, gd_ff, gd_u, ↓jn_n, jn_n, jn_r, ↓jn_r, blk_n, blk_r, ↓cl_r, cl_r, ↓iAdd_i, ↓iSub_i, ↓iMul_i, ↓iAnd_i, ↓iOr_i, ↓iXor_i, ↓iNeg_i, iQuo_i, iRem_i, ↓iConv_i, iConv_i, ↓bNot_b, bNot_b, ↓eqN_i, ↓ltN_i, ↓eqB_b, bnot_e, Int.ofNat_eq_natCast, Int.cast_ofNat_Int, Int.reduceBEq, Int.reduceAdd, Int.reduceNeg, Int.reduceNegSucc, Int.reduceLT, Int.reduceLE, Int.reduceMul, Int.reduceTMod, Int.reduceSub, Int.reduceBNe, Bool.not_true, Bool.not_false, decide_true, decide_false, w63_in, w31_in, ne_eq, not_false_eq_true, Int.reduceEq, reduceCtorEq, ww3131, ww6363, ww3163, ww6331, ww3231, ww3263, ww6463, ww6364, sh31, sh63, sl63, m31, m63, n63, s5a, s5b, s6a, s6b, b31, b32, b63, c63, c64, d64, iShl_c, iShr_c, sr3, sr6, sr7]
              · have a5 : decide (192 ≤ byteAt x i ∧ byteAt x i < 224) = false := by simpa using d1
                by_cases d2 : 224 ≤ byteAt x i ∧ byteAt x i < 240
                · have a8 : decide (224 ≤ byteAt x i ∧ byteAt x i < 240) = true := by simpa using d2
                  cases g1 : ct n (byteAt x) (i + 1) with
                  | false =>
                    rcases t1 with t1 | ⟨t1, t2⟩
                    · simp only [↓L38n0, ↓lenS_s, e1, sIdx_s n x 63 i hin, w16n, t1, e4, q5, q8, a5, a8, g1, e6, i63 (i + 1) (by omega), t71, toU16n, k16, cK_nl, ↓uc_c, ↓uz_n, ↓cI_i, ↓cB_b, cB_b, ↓cT_t, cT_t, nth_z, nth_1, cK_b, ↓cK_b, ↓cK_i, cK_i, ifB_t, ifB_f, ↓ap_e, sel_t, sel_f, gsel_tt, gsel_tf, gsel_ft, gsel_ff, gsel_u, gd_tt, gd_tf, gd_ft, gd_ff, gd_u, ↓jn_n, jn_n, jn_r, ↓jn_r, blk_n, blk_r, ↓cl_r, cl_r, ↓iAdd_i, ↓iSub_i, ↓iMul_i, ↓iAnd_i, ↓iOr_i, ↓iXor_i, ↓iNeg_i, iQuo_i, iRem_i, ↓iConv_i, iConv_i, ↓bNot_b, bNot_b, ↓eqN_i, ↓ltN_i, ↓eqB_b, bnot_e, Int.ofNat_eq_natCast, Int.cast_ofNat_Int, Int.reduceBEq, Int.reduceAdd, Int.reduceNeg, Int.reduceNegSucc, Int.reduceLT, Int.reduceLE, Int.reduceMul, Int.reduceTMod, Int.reduceSub, Int.reduceBNe, Bool.not_true, Bool.not_false, decide_true, decide_false, w63_in, w31_in, ne_eq, not_false_eq_true, Int.reduceEq, reduceCtorEq, ww3131, ww6363, ww3163, ww6331, ww3231, ww3263, ww6463, ww6364, sh31, sh63, sl63, m31, m63, n63, s5a, s5b, s6a, s6b, b31, b32, b63, c63, c64, d64, iShl_c, iShr_c, sr3, sr6, sr7]
                    · simp only [↓L38n0, ↓lenS_s, e1, sIdx_s n x 63 i hin, w16n, t1, t2, e4, q5, q8, a5, a8, g1, e6, i63 (i + 1) (by omega), t71, toU16n, k16, cK_nl, ↓uc_c, ↓uz_n, ↓cI_i, ↓cB_b, cB_b, ↓cT_t, cT_t, nth_z, nth_1, cK_b, ↓cK_b, ↓cK_i, cK_i, ifB_t, ifB_f, ↓ap_e, sel_t, sel_f, gsel_tt, gsel_tf, gsel_ft, gsel_ff, gsel_u, gd_tt, gd_tf, gd_ft, gd_ff, gd_u, ↓jn_n, jn_n, jn_r, ↓jn_r, blk_n, blk_r, ↓cl_r, cl_r, ↓iAdd_i, ↓iSub_i, ↓iMul_i, ↓iAnd_i, ↓iOr_i, ↓iXor_i, ↓iNeg_i, iQuo_i, iRem_i, ↓iConv_i, iConv_i, ↓bNot_b, bNot_b, ↓eqN_i, ↓ltN_i, ↓eqB_b, bnot_e, Int.ofNat_eq_natCast, Int.cast_ofNat_Int, Int.reduceBEq, Int.reduceAdd, Int.reduceNeg, Int.reduceNegSucc, Int.reduceLT, Int.reduceLE, Int.reduceMul, Int.reduceTMod, Int.reduceSub, Int.reduceBNe, Bool.not_true, Bool.not_false, decide_true, decide_false, w63_in, w31_in, ne_eq, not_false_eq_true, Int.reduceEq, reduceCtorEq, ww3131, ww6363, ww3163, ww6331, ww3231, ww3263, ww6463, ww6364, sh31, sh63, sl63, m31, m63, n63, s5a, s5b, s6a, s6b, b31, b32, b63, c63, c64, d64, iShl_c, iShr_c, sr3, sr6, sr7]
                  | true =>
                    have g2 : ct n (byteAt x) (i + 2) = false := by
                      cases hq : ct n (byteAt x) (i + 2) with
                      | false => rfl
                      | true => exact absurd ⟨d2, g1, hq⟩ c3
                    rcases t1 with t1 | ⟨t1, t2⟩
                    · simp only [↓L38n0, ↓lenS_s, e1, sIdx_s n x 63 i hin, w16n, t1, e4, q5, q8, a5, a8, g1, g2, e6, e7, i63 (i + 1) (by omega), i63 (i + 2) (by omega), t71, toU16n, k16, cK_nl, ↓uc_c, ↓uz_n, ↓cI_i, ↓cB_b, cB_b, ↓cT_t, cT_t, nth_z, nth_1, cK_b, ↓cK_b, ↓cK_i, cK_i, ifB_t, ifB_f, ↓ap_e, sel_t, sel_f, gsel_tt, gsel_tf, gsel_ft, gsel_ff, gsel_u, gd_tt, gd_tf, gd_ft, gd_ff, gd_u, ↓jn_n, jn_n, jn_r, ↓jn_r, blk_n, blk_r, ↓cl_r, cl_r, ↓iAdd_i, ↓iSub_i, ↓iMul_i, ↓iAnd_i, ↓iOr_i, ↓iXor_i, ↓iNeg_i, iQuo_i, iRem_i, ↓iConv_i, iConv_i, ↓bNot_b, bNot_b, ↓eqN_i, ↓ltN_i, ↓eqB_b, bnot_e, Int.ofNat_eq_natCast, Int.cast_ofNat_Int, Int.reduceBEq, Int.reduceAdd, Int.reduceNeg, Int.reduceNegSucc, Int.reduceLT, Int.reduceLE, Int.reduceMul, Int.reduceTMod, Int.reduceSub, Int.reduceBNe, Bool.not_true, Bool.not_false, decide_true, decide_false, w63_in, w31_in, ne_eq, not_false_eq_true, Int.reduceEq, reduceCtorEq, ww3131, ww6363, ww3163, ww6331, ww3231, ww3263, ww6463, ww6364, sh31, sh63, sl63, m31, m63, n63, s5a, s5b, s6a, s6b, b31, b32, b63, c63, c64, d64, iShl_c, iShr_c, sr3, sr6, sr7]
                    · simp only [↓L38n0, ↓lenS_s, e1, sIdx_s n x 63 i hin, w16n, t1, t2, e4, q5, q8, a5, a8, g1, g2, e6, e7, i63 (i + 1) (by omega), i63 (i + 2) (by omega), t71, toU16n, k16, cK_nl, ↓uc_c, ↓uz_n, ↓cI_i, ↓cB_b, cB_b, ↓cT_t, cT_t, nth_z, nth_1, cK_b, ↓cK_b, ↓cK_i, cK_i, ifB_t, ifB_f, ↓ap_e, sel_t, sel_f, gsel_tt, gsel_tf, gsel_ft, gsel_ff, gsel_u, gd_tt, gd_tf, gd_ft, gd_ff, gd_u, ↓jn_n, jn_n, jn_r, ↓jn_r, blk_n, blk_r, ↓cl_r, cl_r, ↓iAdd_i, ↓iSub_i, ↓iMul_i, ↓iAnd_i, ↓iOr_i, ↓iXor_i, ↓iNeg_i, iQuo_i, iRem_i, ↓iConv_i, iConv_i, ↓bNot_b, bNot_b, ↓eqN_i, ↓ltN_i, ↓eqB_b, bnot_e, Int.ofNat_eq_natCast, Int.cast_ofNat_Int, Int.reduceBEq, Int.reduceAdd, Int.reduceNeg, Int.reduceNegSucc, Int.reduceLT, Int.reduceLE, Int.reduceMul, Int.reduceTMod, Int.reduceSub, Int.reduceBNe, Bool.not_true, Bool.not_false, decide_true, decide_false, w63_in, w31_in, ne_eq, not_false_eq_true, Int.reduceEq, reduceCtorEq, ww3131, ww6363, ww3163, ww6331, ww3231, ww3263, ww6463, ww6364, sh31, sh63, sl63, m31, m63, n63, s5a, s5b, s6a, s6b, b31, b32, b63, c63, c64, d64, iShl_c, iShr_c, sr3, sr6, sr7]
                · have a8 : decide (224 ≤ byteAt x i ∧ byteAt x i < 240) = false := by simpa using d2
                  rcases t1 with t1 | ⟨t1, t2⟩
                  · simp only [↓L38n0, ↓lenS_s, e1, sIdx_s n x 63 i hin, w16n, t1, e4, q5, q8, a5, a8, toU16n, k16, cK_nl, ↓uc_c, ↓uz_n, ↓cI_i, ↓cB_b, cB_b, ↓cT_t, cT_t, nth_z, nth_1, cK_b, ↓cK_b, ↓cK_i, cK_i, ifB_t, ifB_f, ↓ap_e, sel_t, sel_f, gsel_tt, gsel_tf, gsel_ft, gsel_ff, gsel_u, gd_tt, gd_tf, gd_ft, gd_ff, gd_u, ↓jn_n, jn_n, jn_r, ↓jn_r, blk_n, blk_r, ↓cl_r, cl_r, ↓iAdd_i, ↓iSub_i, ↓iMul_i, ↓iAnd_i, ↓iOr_i, ↓iXor_i, ↓iNeg_i, iQuo_i, iRem_i, ↓iConv_i, iConv_i, ↓bNot_b, bNot_b, ↓eqN_i, ↓ltN_i, ↓eqB_b, bnot_e, Int.ofNat_eq_natCast, Int.cast_ofNat_Int, Int.reduceBEq, Int.reduceAdd, Int.reduceNeg, Int.reduceNegSucc, Int.reduceLT, Int.reduceLE, Int.reduceMul, Int.reduceTMod, Int.reduceSub, Int.reduceBNe, Bool.not_true, Bool.not_false, decide_true, decide_false, w63_in, w31_in, ne_eq, not_false_eq_true, Int.reduceEq, reduceCtorEq, ww3131, ww6363, ww3163, ww6331, ww3231, ww3263, ww6463, ww6364, sh31, sh63, sl63, m31, m63, n63, s5a, s5b, s6a, s6b, b31, b32, b63, c63, c64, d64, iShl_c, iShr_c, sr3, sr6, sr7]
                  · simp only [↓L38n0, ↓lenS_s, e1, sIdx_s n x 63 i hin, w16n, t1, t2, e4, q5, q8, a5, a8, toU16n, k16, cK_nl, ↓uc_c, ↓uz_n, ↓cI_i, ↓cB_b, cB_b, ↓cT_t, cT_t, nth_z, nth_1, cK_b, ↓cK_b, ↓cK_i, cK_i, ifB_t, ifB_f, ↓ap_e, sel_t, sel_f, gsel_tt, gsel_tf, gsel_ft, gsel_ff, gsel_u, gd_tt, gd_tf, gd_ft, gd_ff, gd_u, ↓jn_n, jn_n, jn_r, ↓jn_r, blk_n, blk_r, ↓cl_r, cl_r, ↓iAdd_i, ↓iSub_i, ↓iMul_i, ↓iAnd_i, ↓iOr_i, ↓iXor_i, ↓iNeg_i, iQuo_i, iRem_i, ↓iConv_i, iConv_i, ↓bNot_b, bNot_b, ↓eqN_i, ↓ltN_i, ↓eqB_b, bnot_e, Int.ofNat_eq_natCast, Int.cast_ofNat_Int, Int.reduceBEq, Int.reduceAdd, Int.reduceNeg, Int.reduceNegSucc, Int.reduceLT, Int.reduceLE, Int.reduceMul, Int.reduceTMod, Int.reduceSub, Int.reduceBNe, Bool.not_true, Bool.not_false, decide_true, decide_false, w63_in, w31_in, ne_eq, not_false_eq_true, Int.reduceEq, reduceCtorEq, ww3131, ww6363, ww3163, ww6331, ww3231, ww3263, ww6463, ww6364, sh31, sh63, sl63, m31, m63, n63, s5a, s5b, s6a, s6b, b31, b32, b63, c63, c64, d64, iShl_c, iShr_c, sr3, sr6, sr7]
            exact ⟨h, lp_r m e, To.refl _ _, hw⟩
    · have : dec n (byteAt x) (f + 1) i = some [] := by unfold dec; rw [if_neg hin]
      rw [this]
      exact stop (f + 1) m i h u l hm hin hu hw
end Go.Proofs.Ytnpfppddongbhaa
