/-
  The reader of stated frames: what each of its functions answers (part Cu4).
-/
import Derived.Test.YtnpfppddongbhaaCu3
set_option linter.unusedVariables false
set_option linter.unusedSimpArgs false
namespace Go.Proofs.Ytnpfppddongbhaa
open Go Go.AM
set_option autoImplicit false
set_option linter.unusedSimpArgs false
set_option linter.unusedVariables false
section
variable {h : Hp} {lo b at_ : Nat} {t : List Nat} {bad : Bool}
theorem loop32 (hc : Cur h lo b t at_ bad) (n : Nat) (hn : n ≤ 4) (ht : at_ + n ≤ t.length) : ∀ (f m i a : Nat), n - i ≤ f → f < m → i ≤ n → a < 256 ^ i →
    lp L32n0 m [.ptr b 0, .int 63 (n : Int), .int 63 (a : Int), .int 63 (i : Int)] h = .exit 0 [.ptr b 0, .int 63 (n : Int), .int 63 (be (((t.drop at_).take n).drop i) a : Int)] h := by
  obtain ⟨v, hs, e0, e1, e2⟩ := hc.open
  have hlen := hc.len
  have hll : ((t.drop at_).take n).length = n := by simp; omega
  have stop : ∀ (f m i a : Nat), f < m → ¬ i < n → lp L32n0 m [.ptr b 0, .int 63 (n : Int), .int 63 (a : Int), .int 63 (i : Int)] h = .exit 0 [.ptr b 0, .int 63 (n : Int), .int 63 (be (((t.drop at_).take n).drop i) a : Int)] h := by
    intro f m i a hm hi
    obtain ⟨m, rfl⟩ : ∃ k, m = k + 1 := ⟨m - 1, by omega⟩
    have e3 : ¬ (i : Int) < (n : Int) := by omega
    have e : L32n0 [.ptr b 0, .int 63 (n : Int), .int 63 (a : Int), .int 63 (i : Int)] h = .exit 0 [.ptr b 0, .int 63 (n : Int), .int 63 (a : Int)] h := by simp only [↓L32n0, e3, ↓uc_c, ↓uz_n, ↓cI_i, ↓cB_b, cB_b, ↓cT_t, cT_t, nth_z, nth_1, cK_b, ↓cK_b, ↓cK_i, cK_i, ifB_t, ifB_f, ↓ap_e, sel_t, sel_f, gsel_tt, gsel_tf, gsel_ft, gsel_ff, gsel_u, gd_tt, gd_tf, gd_ft, gd_ff, gd_u, ↓jn_n, jn_n, jn_r, ↓jn_r, blk_n, blk_r, ↓cl_r, cl_r, ↓iAdd_i, ↓iSub_i, ↓iMul_i, ↓iAnd_i, ↓iOr_i, ↓iXor_i, ↓iNeg_i, iQuo_i, iRem_i, ↓iConv_i, iConv_i, ↓bNot_b, bNot_b, ↓eqN_i, ↓ltN_i, ↓eqB_b, bnot_e, Int.ofNat_eq_natCast, Int.cast_ofNat_Int, Int.reduceBEq, Int.reduceAdd, Int.reduceNeg, Int.reduceNegSucc, Int.reduceLT, Int.reduceLE, Int.reduceMul, Int.reduceTMod, Int.reduceSub, Int.reduceBNe, Bool.not_true, Bool.not_false, decide_true, decide_false, w63_in, w31_in, ne_eq, not_false_eq_true, Int.reduceEq, reduceCtorEq, ww3131, ww6363, ww3163, ww6331, ww3231, ww3263, ww6463, ww6364, sh31, sh63, sl63, m31, m63, n63, s5a, s5b, s6a, s6b, b31, b32, b63, c63, c64, d64, iShl_c, iShr_c, sr3, sr6, sr7]
    rw [List.drop_eq_nil_of_le (by omega)]
    exact lpx m e
  intro f
  induction f with
  | zero => intro m i a hf hm hi ha; exact stop 0 m i a hm (by omega)
  | succ f ih =>
    intro m i a hf hm hi ha
    by_cases hin : i < n
    · obtain ⟨m, rfl⟩ : ∃ k, m = k + 1 := ⟨m - 1, by omega⟩
      have e3 : (i : Int) < (n : Int) := by omega
      have hit : at_ + i < t.length := by omega
      have hx : t[at_ + i] < 256 := hc.byt _ (List.getElem_mem _)
      have g : (Bs t)[at_ + i]'(by rw [Bs_len]; exact hit) = .int 8 (t[at_ + i] : Int) := by simp [Bs]
      have iv := fun k => ix_sl hs (c := 63) (at_ + i) (by rw [Bs_len]; exact hit) k
      rw [g] at iv
      have ha' : a < 1099511627776 := Nat.lt_of_lt_of_le ha (Nat.le_trans (Nat.pow_le_pow_right (by omega) (show i ≤ 4 by omega)) (by decide))
      have w1 : wrapC 63 ((at_ : Int) + (i : Int)) = ((at_ + i : Nat) : Int) := by rw [w63_in _ (by omega) (by omega)]; omega
      have e : L32n0 [.ptr b 0, .int 63 (n : Int), .int 63 (a : Int), .int 63 (i : Int)] h = .norm [.ptr b 0, .int 63 (n : Int), .int 63 ((a * 256 + t[at_ + i] : Nat) : Int), .int 63 ((i + 1 : Nat) : Int)] h := by
        simp only [↓L32n0, ↓nck_p, ↓cP_p, ↓e0, ↓e1, ↓e2, e3, w1, ↓iv, ↓sh8, m8 a ha', c8 _ hx, ad8 a _ ha' hx, s1n i (by omega), ↓uc_c, ↓uz_n, ↓cI_i, ↓cB_b, cB_b, ↓cT_t, cT_t, nth_z, nth_1, cK_b, ↓cK_b, ↓cK_i, cK_i, ifB_t, ifB_f, ↓ap_e, sel_t, sel_f, gsel_tt, gsel_tf, gsel_ft, gsel_ff, gsel_u, gd_tt, gd_tf, gd_ft, gd_ff, gd_u, ↓jn_n, jn_n, jn_r, ↓jn_r, blk_n, blk_r, ↓cl_r, cl_r, ↓iAdd_i, ↓iSub_i, ↓iMul_i, ↓iAnd_i, ↓iOr_i, ↓iXor_i, ↓iNeg_i, iQuo_i, iRem_i, ↓iConv_i, iConv_i, ↓bNot_b, bNot_b, ↓eqN_i, ↓ltN_i, ↓eqB_b, bnot_e, Int.ofNat_eq_natCast, Int.cast_ofNat_Int, Int.reduceBEq, Int.reduceAdd, Int.reduceNeg, Int.reduceNegSucc, Int.reduceLT, Int.reduceLE, Int.reduceMul, Int.reduceTMod, Int.reduceSub, Int.reduceBNe, Bool.not_true, Bool.not_false, decide_true, decide_false, w63_in, w31_in, ne_eq, not_false_eq_true, Int.reduceEq, reduceCtorEq, ww3131, ww6363, ww3163, ww6331, ww3231, ww3263, ww6463, ww6364, sh31, sh63, sl63, m31, m63, n63, s5a, s5b, s6a, s6b, b31, b32, b63, c63, c64, d64, iShl_c, iShr_c, sr3, sr6, sr7]
      rw [lpn m e]
      have := ih m (i + 1) (a * 256 + t[at_ + i]) (by omega) (by omega) (by omega) (by rw [Nat.pow_succ]; omega)
      rw [this]
      have hd : ((t.drop at_).take n).drop i = t[at_ + i] :: ((t.drop at_).take n).drop (i + 1) := by
        rw [List.drop_eq_getElem_cons (by rw [hll]; exact hin)]
        simp
      rw [hd]; rfl
    · exact stop (f + 1) m i a hm hin

theorem t32 (hc : Cur h lo b t at_ bad) (hw : Wf h) (n : Nat) (hn : n ≤ 4) :
    ∃ h', s32 [.ptr b 0, .int 63 (n : Int)] h = .ret (.int 63 (be (win t at_ bad n) 0 : Int)) h' ∧ Cur h' lo b t (nat_ t at_ bad n) (nbad t at_ bad n) ∧ To (At b) h h' ∧ Wf h' := by
  obtain ⟨v, hs, e0, e1, e2⟩ := hc.open
  have l0 := fun k => lenL_sl hs k
  have hlen := hc.len
  have hle := hc.le
  have w1 : wrapC 63 ((t.length : Int) - (at_ : Int)) = (t.length : Int) - (at_ : Int) := w63_in _ (by omega) (by omega)
  have z0 : ((0 : Nat) : Int) = 0 := rfl
  by_cases ho : okc t at_ bad (n : Int)
  · obtain ⟨rfl, h0, h1⟩ := id ho
    obtain ⟨h', e3, c', o'⟩ := hc.move (at_ + n) (by omega)
    have w2 : wrapC 63 ((at_ : Int) + (n : Int)) = ((at_ + n : Nat) : Int) := by rw [w63_in _ (by omega) (by omega)]; omega
    have h2 : ¬ (t.length : Int) - at_ < (n : Int) := by omega
    have lp0 := loop32 hc n hn (by omega) n most 0 0 (by omega) (show _ < 1000000 by omega) (by omega) (by decide)
    rw [z0, List.drop_zero] at lp0
    simp only [win, nat_, nbad, if_pos ho, Int.toNat_natCast]
    refine ⟨h', ?_, c', o', o'.wf hw⟩
    simp only [↓s32, ↓nck_p, ↓cP_p, ↓eqP_pn, ↓e0, ↓e1, ↓e2, ↓e3, ↓l0, Bs_len, h2, w1, w2, lp0, blk_e, ↓uc_c, ↓uz_n, ↓cI_i, ↓cB_b, cB_b, ↓cT_t, cT_t, nth_z, nth_1, cK_b, ↓cK_b, ↓cK_i, cK_i, ifB_t, ifB_f, ↓ap_e, sel_t, sel_f, gsel_tt, gsel_tf, gsel_ft, gsel_ff, gsel_u, gd_tt, gd_tf, gd_ft, gd_ff, gd_u, ↓jn_n, jn_n, jn_r, ↓jn_r, blk_n, blk_r, ↓cl_r, cl_r, ↓iAdd_i, ↓iSub_i, ↓iMul_i, ↓iAnd_i, ↓iOr_i, ↓iXor_i, ↓iNeg_i, iQuo_i, iRem_i, ↓iConv_i, iConv_i, ↓bNot_b, bNot_b, ↓eqN_i, ↓ltN_i, ↓eqB_b, bnot_e, Int.ofNat_eq_natCast, Int.cast_ofNat_Int, Int.reduceBEq, Int.reduceAdd, Int.reduceNeg, Int.reduceNegSucc, Int.reduceLT, Int.reduceLE, Int.reduceMul, Int.reduceTMod, Int.reduceSub, Int.reduceBNe, Bool.not_true, Bool.not_false, decide_true, decide_false, w63_in, w31_in, ne_eq, not_false_eq_true, Int.reduceEq, reduceCtorEq, ww3131, ww6363, ww3163, ww6331, ww3231, ww3263, ww6463, ww6364, sh31, sh63, sl63, m31, m63, n63, s5a, s5b, s6a, s6b, b31, b32, b63, c63, c64, d64, iShl_c, iShr_c, sr3, sr6, sr7]
    simp only [show Nat.beq 0 0 = true from rfl, ↓nck_p, ↓cP_p, ↓e0, ↓e1, ↓e2, ↓e3, w2, ↓uc_c, ↓uz_n, ↓cI_i, ↓cB_b, cB_b, ↓cT_t, cT_t, nth_z, nth_1, cK_b, ↓cK_b, ↓cK_i, cK_i, ifB_t, ifB_f, ↓ap_e, sel_t, sel_f, gsel_tt, gsel_tf, gsel_ft, gsel_ff, gsel_u, gd_tt, gd_tf, gd_ft, gd_ff, gd_u, ↓jn_n, jn_n, jn_r, ↓jn_r, blk_n, blk_r, ↓cl_r, cl_r, ↓iAdd_i, ↓iSub_i, ↓iMul_i, ↓iAnd_i, ↓iOr_i, ↓iXor_i, ↓iNeg_i, iQuo_i, iRem_i, ↓iConv_i, iConv_i, ↓bNot_b, bNot_b, ↓eqN_i, ↓ltN_i, ↓eqB_b, bnot_e, Int.ofNat_eq_natCast, Int.cast_ofNat_Int, Int.reduceBEq, Int.reduceAdd, Int.reduceNeg, Int.reduceNegSucc, Int.reduceLT, Int.reduceLE, Int.reduceMul, Int.reduceTMod, Int.reduceSub, Int.reduceBNe, Bool.not_true, Bool.not_false, decide_true, decide_false, w63_in, w31_in, ne_eq, not_false_eq_true, Int.reduceEq, reduceCtorEq, ww3131, ww6363, ww3163, ww6331, ww3231, ww3263, ww6463, ww6364, sh31, sh63, sl63, m31, m63, n63, s5a, s5b, s6a, s6b, b31, b32, b63, c63, c64, d64, iShl_c, iShr_c, sr3, sr6, sr7]
  · obtain ⟨h', e3, c', o'⟩ := hc.fall
    simp only [win, nat_, nbad, if_neg ho]
    refine ⟨h', ?_, c', o', o'.wf hw⟩
    cases bad with
    | true => simp only [↓s32, ↓nck_p, ↓cP_p, ↓eqP_pn, ↓e0, ↓e1, ↓e2, ↓e3, ↓l0, Bs_len, ↓uc_c, ↓uz_n, ↓cI_i, ↓cB_b, cB_b, ↓cT_t, cT_t, nth_z, nth_1, cK_b, ↓cK_b, ↓cK_i, cK_i, ifB_t, ifB_f, ↓ap_e, sel_t, sel_f, gsel_tt, gsel_tf, gsel_ft, gsel_ff, gsel_u, gd_tt, gd_tf, gd_ft, gd_ff, gd_u, ↓jn_n, jn_n, jn_r, ↓jn_r, blk_n, blk_r, ↓cl_r, cl_r, ↓iAdd_i, ↓iSub_i, ↓iMul_i, ↓iAnd_i, ↓iOr_i, ↓iXor_i, ↓iNeg_i, iQuo_i, iRem_i, ↓iConv_i, iConv_i, ↓bNot_b, bNot_b, ↓eqN_i, ↓ltN_i, ↓eqB_b, bnot_e, Int.ofNat_eq_natCast, Int.cast_ofNat_Int, Int.reduceBEq, Int.reduceAdd, Int.reduceNeg, Int.reduceNegSucc, Int.reduceLT, Int.reduceLE, Int.reduceMul, Int.reduceTMod, Int.reduceSub, Int.reduceBNe, Bool.not_true, Bool.not_false, decide_true, decide_false, w63_in, w31_in, ne_eq, not_false_eq_true, Int.reduceEq, reduceCtorEq, ww3131, ww6363, ww3163, ww6331, ww3231, ww3263, ww6463, ww6364, sh31, sh63, sl63, m31, m63, n63, s5a, s5b, s6a, s6b, b31, b32, b63, c63, c64, d64, iShl_c, iShr_c, sr3, sr6, sr7]; rfl
    | false =>
      have h2 : (t.length : Int) - at_ < (n : Int) := by
        have : ¬ ((n : Int) ≤ (t.length : Int) - at_) := fun h1 => ho ⟨rfl, by omega, h1⟩
        omega
      simp only [↓s32, ↓nck_p, ↓cP_p, ↓eqP_pn, ↓e0, ↓e1, ↓e2, ↓e3, ↓l0, Bs_len, h2, w1, ↓uc_c, ↓uz_n, ↓cI_i, ↓cB_b, cB_b, ↓cT_t, cT_t, nth_z, nth_1, cK_b, ↓cK_b, ↓cK_i, cK_i, ifB_t, ifB_f, ↓ap_e, sel_t, sel_f, gsel_tt, gsel_tf, gsel_ft, gsel_ff, gsel_u, gd_tt, gd_tf, gd_ft, gd_ff, gd_u, ↓jn_n, jn_n, jn_r, ↓jn_r, blk_n, blk_r, ↓cl_r, cl_r, ↓iAdd_i, ↓iSub_i, ↓iMul_i, ↓iAnd_i, ↓iOr_i, ↓iXor_i, ↓iNeg_i, iQuo_i, iRem_i, ↓iConv_i, iConv_i, ↓bNot_b, bNot_b, ↓eqN_i, ↓ltN_i, ↓eqB_b, bnot_e, Int.ofNat_eq_natCast, Int.cast_ofNat_Int, Int.reduceBEq, Int.reduceAdd, Int.reduceNeg, Int.reduceNegSucc, Int.reduceLT, Int.reduceLE, Int.reduceMul, Int.reduceTMod, Int.reduceSub, Int.reduceBNe, Bool.not_true, Bool.not_false, decide_true, decide_false, w63_in, w31_in, ne_eq, not_false_eq_true, Int.reduceEq, reduceCtorEq, ww3131, ww6363, ww3163, ww6331, ww3231, ww3263, ww6463, ww6364, sh31, sh63, sl63, m31, m63, n63, s5a, s5b, s6a, s6b, b31, b32, b63, c63, c64, d64, iShl_c, iShr_c, sr3, sr6, sr7]; rfl

theorem t33 (hc : Cur h lo b t at_ bad) (hw : Wf h) (n : Int) :
    ∃ v h', s33 [.ptr b 0, .int 63 n] h = .ret v h' ∧ Sl h' (fun x => lo ≤ x ∧ x < b) v (Bs (win t at_ bad n)) ∧ Cur h' lo b t (nat_ t at_ bad n) (nbad t at_ bad n) ∧ To (At b) h h' ∧ Wf h' := by
  obtain ⟨v, hs, e0, e1, e2⟩ := hc.open
  have l0 := fun k => lenL_sl hs k
  have hlen := hc.len
  have hle := hc.le
  have w1 : wrapC 63 ((t.length : Int) - (at_ : Int)) = (t.length : Int) - (at_ : Int) := w63_in _ (by omega) (by omega)
  by_cases ho : okc t at_ bad n
  · obtain ⟨rfl, h0, h1⟩ := id ho
    obtain ⟨n, rfl⟩ : ∃ m : Nat, n = (m : Int) := ⟨n.toNat, by omega⟩
    obtain ⟨h', e3, c', o'⟩ := hc.move (at_ + n) (by omega)
    have w2 : wrapC 63 ((at_ : Int) + (n : Int)) = ((at_ + n : Nat) : Int) := by rw [w63_in _ (by omega) (by omega)]; omega
    have h2 : ¬ (t.length : Int) - at_ < (n : Int) := by omega
    have h3 : ¬ (n : Int) < 0 := by omega
    obtain ⟨v', g1, g2⟩ := cut_sl hs (c1 := 63) (c2 := 63) at_ (at_ + n) (by omega) (by rw [Bs_len]; omega)
    have g2' : Sl h (fun x => lo ≤ x ∧ x < b) v' (Bs ((t.drop at_).take n)) := by
      have e : ((Bs t).drop at_).take (at_ + n - at_) = Bs ((t.drop at_).take n) := by rw [Nat.add_sub_cancel_left]; simp [Bs, List.map_drop, List.map_take]
      rwa [e] at g2
    have cv := fun k => cK_sl g2' k
    simp only [win, nat_, nbad, if_pos ho, Int.toNat_natCast]
    refine ⟨v', h', ?_, g2'.to o' (fun x hx e => by have : x = b := e; omega), c', o', o'.wf hw⟩
    simp only [↓s33, ↓nck_p, ↓cP_p, ↓eqP_pn, ↓e0, ↓e1, ↓e2, ↓e3, ↓l0, Bs_len, h2, h3, w1, w2, ↓g1, ↓cv, ↓uc_c, ↓uz_n, ↓cI_i, ↓cB_b, cB_b, ↓cT_t, cT_t, nth_z, nth_1, cK_b, ↓cK_b, ↓cK_i, cK_i, ifB_t, ifB_f, ↓ap_e, sel_t, sel_f, gsel_tt, gsel_tf, gsel_ft, gsel_ff, gsel_u, gd_tt, gd_tf, gd_ft, gd_ff, gd_u, ↓jn_n, jn_n, jn_r, ↓jn_r, blk_n, blk_r, ↓cl_r, cl_r, ↓iAdd_i, ↓iSub_i, ↓iMul_i, ↓iAnd_i, ↓iOr_i, ↓iXor_i, ↓iNeg_i, iQuo_i, iRem_i, ↓iConv_i, iConv_i, ↓bNot_b, bNot_b, ↓eqN_i, ↓ltN_i, ↓eqB_b, bnot_e, Int.ofNat_eq_natCast, Int.cast_ofNat_Int, Int.reduceBEq, Int.reduceAdd, Int.reduceNeg, Int.reduceNegSucc, Int.reduceLT, Int.reduceLE, Int.reduceMul, Int.reduceTMod, Int.reduceSub, Int.reduceBNe, Bool.not_true, Bool.not_false, decide_true, decide_false, w63_in, w31_in, ne_eq, not_false_eq_true, Int.reduceEq, reduceCtorEq, ww3131, ww6363, ww3163, ww6331, ww3231, ww3263, ww6463, ww6364, sh31, sh63, sl63, m31, m63, n63, s5a, s5b, s6a, s6b, b31, b32, b63, c63, c64, d64, iShl_c, iShr_c, sr3, sr6, sr7]
  · obtain ⟨h', e3, c', o'⟩ := hc.fall
    simp only [win, nat_, nbad, if_neg ho]
    refine ⟨.nils, h', ?_, Sl_nil _ _, c', o', o'.wf hw⟩
    cases bad with
    | true => simp only [↓s33, ↓nck_p, ↓cP_p, ↓eqP_pn, ↓e0, ↓e1, ↓e2, ↓e3, ↓l0, Bs_len, ↓uc_c, ↓uz_n, ↓cI_i, ↓cB_b, cB_b, ↓cT_t, cT_t, nth_z, nth_1, cK_b, ↓cK_b, ↓cK_i, cK_i, ifB_t, ifB_f, ↓ap_e, sel_t, sel_f, gsel_tt, gsel_tf, gsel_ft, gsel_ff, gsel_u, gd_tt, gd_tf, gd_ft, gd_ff, gd_u, ↓jn_n, jn_n, jn_r, ↓jn_r, blk_n, blk_r, ↓cl_r, cl_r, ↓iAdd_i, ↓iSub_i, ↓iMul_i, ↓iAnd_i, ↓iOr_i, ↓iXor_i, ↓iNeg_i, iQuo_i, iRem_i, ↓iConv_i, iConv_i, ↓bNot_b, bNot_b, ↓eqN_i, ↓ltN_i, ↓eqB_b, bnot_e, Int.ofNat_eq_natCast, Int.cast_ofNat_Int, Int.reduceBEq, Int.reduceAdd, Int.reduceNeg, Int.reduceNegSucc, Int.reduceLT, Int.reduceLE, Int.reduceMul, Int.reduceTMod, Int.reduceSub, Int.reduceBNe, Bool.not_true, Bool.not_false, decide_true, decide_false, w63_in, w31_in, ne_eq, not_false_eq_true, Int.reduceEq, reduceCtorEq, ww3131, ww6363, ww3163, ww6331, ww3231, ww3263, ww6463, ww6364, sh31, sh63, sl63, m31, m63, n63, s5a, s5b, s6a, s6b, b31, b32, b63, c63, c64, d64, iShl_c, iShr_c, sr3, sr6, sr7]; rfl
    | false =>
      by_cases h1 : n < 0
      · simp only [↓s33, ↓nck_p, ↓cP_p, ↓eqP_pn, ↓e0, ↓e1, ↓e2, ↓e3, ↓l0, Bs_len, h1, ↓uc_c, ↓uz_n, ↓cI_i, ↓cB_b, cB_b, ↓cT_t, cT_t, nth_z, nth_1, cK_b, ↓cK_b, ↓cK_i, cK_i, ifB_t, ifB_f, ↓ap_e, sel_t, sel_f, gsel_tt, gsel_tf, gsel_ft, gsel_ff, gsel_u, gd_tt, gd_tf, gd_ft, gd_ff, gd_u, ↓jn_n, jn_n, jn_r, ↓jn_r, blk_n, blk_r, ↓cl_r, cl_r, ↓iAdd_i, ↓iSub_i, ↓iMul_i, ↓iAnd_i, ↓iOr_i, ↓iXor_i, ↓iNeg_i, iQuo_i, iRem_i, ↓iConv_i, iConv_i, ↓bNot_b, bNot_b, ↓eqN_i, ↓ltN_i, ↓eqB_b, bnot_e, Int.ofNat_eq_natCast, Int.cast_ofNat_Int, Int.reduceBEq, Int.reduceAdd, Int.reduceNeg, Int.reduceNegSucc, Int.reduceLT, Int.reduceLE, Int.reduceMul, Int.reduceTMod, Int.reduceSub, Int.reduceBNe, Bool.not_true, Bool.not_false, decide_true, decide_false, w63_in, w31_in, ne_eq, not_false_eq_true, Int.reduceEq, reduceCtorEq, ww3131, ww6363, ww3163, ww6331, ww3231, ww3263, ww6463, ww6364, sh31, sh63, sl63, m31, m63, n63, s5a, s5b, s6a, s6b, b31, b32, b63, c63, c64, d64, iShl_c, iShr_c, sr3, sr6, sr7]; rfl
      · have h2 : (t.length : Int) - at_ < n := by
          have : ¬ (n ≤ (t.length : Int) - at_) := fun h3 => ho ⟨rfl, by omega, h3⟩
          omega
        simp only [↓s33, ↓nck_p, ↓cP_p, ↓eqP_pn, ↓e0, ↓e1, ↓e2, ↓e3, ↓l0, Bs_len, h1, h2, w1, ↓uc_c, ↓uz_n, ↓cI_i, ↓cB_b, cB_b, ↓cT_t, cT_t, nth_z, nth_1, cK_b, ↓cK_b, ↓cK_i, cK_i, ifB_t, ifB_f, ↓ap_e, sel_t, sel_f, gsel_tt, gsel_tf, gsel_ft, gsel_ff, gsel_u, gd_tt, gd_tf, gd_ft, gd_ff, gd_u, ↓jn_n, jn_n, jn_r, ↓jn_r, blk_n, blk_r, ↓cl_r, cl_r, ↓iAdd_i, ↓iSub_i, ↓iMul_i, ↓iAnd_i, ↓iOr_i, ↓iXor_i, ↓iNeg_i, iQuo_i, iRem_i, ↓iConv_i, iConv_i, ↓bNot_b, bNot_b, ↓eqN_i, ↓ltN_i, ↓eqB_b, bnot_e, Int.ofNat_eq_natCast, Int.cast_ofNat_Int, Int.reduceBEq, Int.reduceAdd, Int.reduceNeg, Int.reduceNegSucc, Int.reduceLT, Int.reduceLE, Int.reduceMul, Int.reduceTMod, Int.reduceSub, Int.reduceBNe, Bool.not_true, Bool.not_false, decide_true, decide_false, w63_in, w31_in, ne_eq, not_false_eq_true, Int.reduceEq, reduceCtorEq, ww3131, ww6363, ww3163, ww6331, ww3231, ww3263, ww6463, ww6364, sh31, sh63, sl63, m31, m63, n63, s5a, s5b, s6a, s6b, b31, b32, b63, c63, c64, d64, iShl_c, iShr_c, sr3, sr6, sr7]; rfl
end
theorem cut_lo0 (z : Nat) (x : AV) (hi : Option AV) (k : AV → Res) : cutS z x none hi none k = cutS z x (some (.int 63 ((0 : Nat) : Int))) hi none k := by cases x <;> rfl
theorem t24 {h : Hp} {P : Nat → Prop} {v : AV} {t : List Nat} (hs : Sl h P v (Bs t)) (n : Nat) (ht : t.length ≤ 9223372036854775807) : ∃ v', s24 [v, .int 63 (n : Int)] h = .ret v' h ∧ Sl h P v' (Bs (t.take n)) := by
  have l0 := fun k => lenL_sl hs k
  have cv := fun k => cK_sl hs k
  by_cases hl : n < t.length
  · obtain ⟨v', g1, g2⟩ := cut_sl hs (c1 := 63) (c2 := 63) 0 n (by omega) (by rw [Bs_len]; omega)
    have e : (((Bs t).drop 0).take (n - 0)) = Bs (t.take n) := by simp [Bs, List.map_take]
    rw [e] at g2
    have cv' := fun k => cK_sl g2 k
    have h1 : (n : Int) < (t.length : Int) := by omega
    exact ⟨v', by simp only [↓s24, ↓l0, Bs_len, h1, ↓cut_lo0, ↓g1, ↓cv', ↓uc_c, ↓uz_n, ↓cI_i, ↓cB_b, cB_b, ↓cT_t, cT_t, nth_z, nth_1, cK_b, ↓cK_b, ↓cK_i, cK_i, ifB_t, ifB_f, ↓ap_e, sel_t, sel_f, gsel_tt, gsel_tf, gsel_ft, gsel_ff, gsel_u, gd_tt, gd_tf, gd_ft, gd_ff, gd_u, ↓jn_n, jn_n, jn_r, ↓jn_r, blk_n, blk_r, ↓cl_r, cl_r, ↓iAdd_i, ↓iSub_i, ↓iMul_i, ↓iAnd_i, ↓iOr_i, ↓iXor_i, ↓iNeg_i, iQuo_i, iRem_i, ↓iConv_i, iConv_i, ↓bNot_b, bNot_b, ↓eqN_i, ↓ltN_i, ↓eqB_b, bnot_e, Int.ofNat_eq_natCast, Int.cast_ofNat_Int, Int.reduceBEq, Int.reduceAdd, Int.reduceNeg, Int.reduceNegSucc, Int.reduceLT, Int.reduceLE, Int.reduceMul, Int.reduceTMod, Int.reduceSub, Int.reduceBNe, Bool.not_true, Bool.not_false, decide_true, decide_false, w63_in, w31_in, ne_eq, not_false_eq_true, Int.reduceEq, reduceCtorEq, ww3131, ww6363, ww3163, ww6331, ww3231, ww3263, ww6463, ww6364, sh31, sh63, sl63, m31, m63, n63, s5a, s5b, s6a, s6b, b31, b32, b63, c63, c64, d64, iShl_c, iShr_c, sr3, sr6, sr7], g2⟩
  · have h1 : ¬ (n : Int) < (t.length : Int) := by omega
    rw [List.take_of_length_le (by omega)]
    exact ⟨v, by simp only [↓s24, ↓l0, Bs_len, h1, ↓cv, ↓uc_c, ↓uz_n, ↓cI_i, ↓cB_b, cB_b, ↓cT_t, cT_t, nth_z, nth_1, cK_b, ↓cK_b, ↓cK_i, cK_i, ifB_t, ifB_f, ↓ap_e, sel_t, sel_f, gsel_tt, gsel_tf, gsel_ft, gsel_ff, gsel_u, gd_tt, gd_tf, gd_ft, gd_ff, gd_u, ↓jn_n, jn_n, jn_r, ↓jn_r, blk_n, blk_r, ↓cl_r, cl_r, ↓iAdd_i, ↓iSub_i, ↓iMul_i, ↓iAnd_i, ↓iOr_i, ↓iXor_i, ↓iNeg_i, iQuo_i, iRem_i, ↓iConv_i, iConv_i, ↓bNot_b, bNot_b, ↓eqN_i, ↓ltN_i, ↓eqB_b, bnot_e, Int.ofNat_eq_natCast, Int.cast_ofNat_Int, Int.reduceBEq, Int.reduceAdd, Int.reduceNeg, Int.reduceNegSucc, Int.reduceLT, Int.reduceLE, Int.reduceMul, Int.reduceTMod, Int.reduceSub, Int.reduceBNe, Bool.not_true, Bool.not_false, decide_true, decide_false, w63_in, w31_in, ne_eq, not_false_eq_true, Int.reduceEq, reduceCtorEq, ww3131, ww6363, ww3163, ww6331, ww3231, ww3263, ww6463, ww6364, sh31, sh63, sl63, m31, m63, n63, s5a, s5b, s6a, s6b, b31, b32, b63, c63, c64, d64, iShl_c, iShr_c, sr3, sr6, sr7], hs⟩
end Go.Proofs.Ytnpfppddongbhaa
