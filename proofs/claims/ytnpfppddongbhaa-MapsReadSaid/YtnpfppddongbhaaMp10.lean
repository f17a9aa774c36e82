/-
  The reader of stated frames: what each of its functions answers (part Mp10).
-/
import Derived.Test.YtnpfppddongbhaaMp9
set_option linter.unusedVariables false
set_option linter.unusedSimpArgs false
namespace Go.Proofs.Ytnpfppddongbhaa
open Go Go.AM
set_option autoImplicit false
set_option linter.unusedSimpArgs false
set_option linter.unusedVariables false
/-! ### the reference's reading -/
theorem step63 {lo b pb N n : Nat} {t : List Nat} {q : Sq} {l : List Mv} {v : AV} {h : Hp} (hb : b < N) (hpb : pb < N) (hne : pb ≠ b) (hn : n ≤ 70000) (hl : l.length ≤ 70000) (hnb : N ≤ h.nb) (hw : Wf h) (hc : CurQ h lo b t q) (hp : Pool h pb) (hm : MR h N h.nb v l) :
    (en t q = none ∧ ∃ h', L63n0 [plv pb, .ptr b 0, .int 63 ((n + 1 : Nat) : Int), v] h = .ret nilF h' ∧ To (fun x => x = b ∨ N ≤ x) h h' ∧ Wf h') ∨
    (∃ r v' h', en t q = some r ∧ L63n0 [plv pb, .ptr b 0, .int 63 ((n + 1 : Nat) : Int), v] h = .norm [plv pb, .ptr b 0, .int 63 (n : Int), v'] h' ∧ MR h' N h'.nb v' (l ++ [r.1]) ∧ CurQ h' lo b t r.2 ∧ Pool h' pb ∧ To (fun x => x = b ∨ N ≤ x) h h' ∧ Wf h') := by
  have hbyt := hc.byt
  have c0 : (0 : Int) < ((n + 1 : Nat) : Int) := by omega
  have i1 : wrapC 63 (((n + 1 : Nat) : Int) - 1) = (n : Int) := by rw [w63_in _ (by omega) (by omega)]; omega
  obtain ⟨h1, e1, q1, o1, w1⟩ := n1 hc hw
  obtain ⟨h2, m2, m2', c2, o2, w2, x2⟩ := mkM0 w1
  obtain ⟨h3, s3, c3, o3, w3, x3⟩ := Ce.stM w2 c2 (val t q 1) 0 (vl := .nils) (vs := .nils) rfl rfl
  have nb1 := o1.nb
  have q3 : CurQ h3 lo b t (adv t q 1) := (q1.to o2 (fun _ _ _ f => f)).to o3 (fun x _ hx e => by have : x = h1.nb := e; omega)
  have o13 : To (fun x => x = b ∨ N ≤ x) h h3 := ((o1.mono fun x _ e => Or.inl e).trans (o2.mono fun _ _ f => f.elim)).trans (o3.mono fun x _ e => by have : x = h1.nb := e; exact .inr (by omega))
  have k3 : MK h3 N h.nb h.nb v l := (((hm.mk (Nat.le_refl _)).to o1 (fun x hx _ e => by have : x = b := e; omega)).to o2 (fun _ _ _ f => f)).to o3 (fun x _ hx e => by have : x = h1.nb := e; omega)
  have p3 : Pool h3 pb := hp.to o13 (fun e => by rcases e with e | e; exact hne e; omega)
  obtain ⟨l3, l3'⟩ := Ce.lM c3
  have g256 : val t q 1 < 256 := val_lt hbyt q 1
  have gp : gsel (.bool false) false (.ptr b 0) = .ptr b 0 := rfl
  have gb_ : ∀ x : Bool, gsel (.bool false) false (.bool x) = .bool x := fun x => rfl
  have bad_ : ∀ {g : Hp} {q' : Sq}, CurQ g lo b t q' → (∀ kk : AV → Res, ld1 g (.ptr b (Nat.add 0 2)) kk = kk (.bool q'.2)) ∧ (∀ kk : AV → Res, ld1 g (.ptr b 2) kk = kk (.bool q'.2)) := fun c => by
    obtain ⟨v, hs, a0, a1, a2⟩ := c.open
    exact ⟨a2, a2⟩
  by_cases k64 : val t q 1 < 64
  · have i64 : ¬ (63 : Int) < ((val t q 1 : Nat) : Int) := by omega
    obtain ⟨g_1, s_2, s_2', c_3, t_4, w_5, y_6⟩ := Ce.sD w3 c3 (val t q 1)
    have q_7 := q3.to t_4 (fun x _ hx e => by have : x = h1.nb := e; omega)
    have k_8 := k3.to t_4 (fun x _ hx e => by have : x = h1.nb := e; omega)
    have o_9 := o13.trans (t_4.mono fun x _ e => by have : x = h1.nb := e; exact Or.inr (by omega))
    have p_10 : Pool g_1 pb := p3.to t_4 (fun e => by have : pb = h1.nb := e; omega)
    obtain ⟨b_11, b_11'⟩ := bad_ q_7
    have d_12 := fun kk => Ce.ldM c_3 kk
    have he_13 : en t q = fn ⟨(val t q 1), (val t q 1), [], []⟩ (adv t q 1) := by unfold en; rw [if_pos k64]
    have nb_14 := (o_9).nb
    obtain ⟨v_15, g_16, g_17, a_18, a_19, m_20, t_21, w_22⟩ := MR.app w_5 (MK.mr k_8) hnb nb_14 ⟨(val t q 1), (val t q 1), [], []⟩ (vl := .nils) (vs := .nils) (Rws.nil _ _ _) (Rws.nil _ _ _) (by omega)
    cases hq : (adv t q 1).2 with
    | true =>
      refine .inl ⟨by rw [he_13]; unfold fn; rw [hq]; rfl, _, ?_, o_9, w_5⟩
      simp only [↓L63n0, c0, ↓e1, ↓bldM, ↓bldM', ↓m2, ↓m2', ↓s3, ↓cP_p, ↓l3, ↓l3', ↓nck_p, i64, ↓s_2, ↓s_2', ↓d_12, ↓gp, ↓gb_, ↓b_11, ↓b_11', hq, ↓bldMT, ↓a_18, ↓a_19, i1, ↓cK_agg, ↓cK_nils, nth_z, nth_1, Bool.not_true, Bool.not_false, ↓uc_c, ↓uz_n, ↓cI_i, ↓cB_b, cB_b, ↓cT_t, cT_t, nth_z, nth_1, cK_b, ↓cK_b, ↓cK_i, cK_i, ifB_t, ifB_f, ↓ap_e, sel_t, sel_f, gsel_tt, gsel_tf, gsel_ft, gsel_ff, gsel_u, gd_tt, gd_tf, gd_ft, gd_ff, gd_u, ↓jn_n, jn_n, jn_r, ↓jn_r, blk_n, blk_r, ↓cl_r, cl_r, ↓iAdd_i, ↓iSub_i, ↓iMul_i, ↓iAnd_i, ↓iOr_i, ↓iXor_i, ↓iNeg_i, iQuo_i, iRem_i, ↓iConv_i, iConv_i, ↓bNot_b, bNot_b, ↓eqN_i, ↓ltN_i, ↓eqB_b, bnot_e, Int.ofNat_eq_natCast, Int.cast_ofNat_Int, Int.reduceBEq, Int.reduceAdd, Int.reduceNeg, Int.reduceNegSucc, Int.reduceLT, Int.reduceLE, Int.reduceMul, Int.reduceTMod, Int.reduceSub, Int.reduceBNe, Bool.not_true, Bool.not_false, decide_true, decide_false, w63_in, w31_in, ne_eq, not_false_eq_true, Int.reduceEq, reduceCtorEq, ww3131, ww6363, ww3163, ww6331, ww3231, ww3263, ww6463, ww6364, sh31, sh63, sl63, m31, m63, n63, s5a, s5b, s6a, s6b, b31, b32, b63, c63, c64, d64, iShl_c, iShr_c, sr3, sr6, sr7]
    | false =>
      refine .inr ⟨(⟨(val t q 1), (val t q 1), [], []⟩, (adv t q 1)), v_15, g_17, by rw [he_13]; unfold fn; rw [hq]; rfl, ?_, m_20, q_7.to t_21 (fun x _ hx e => by have := e.1; omega), p_10.to t_21 (fun e => by have := e.1; omega), o_9.trans (t_21.mono fun x _ e => Or.inr e.1), w_22⟩
      simp only [↓L63n0, c0, ↓e1, ↓bldM, ↓bldM', ↓m2, ↓m2', ↓s3, ↓cP_p, ↓l3, ↓l3', ↓nck_p, i64, ↓s_2, ↓s_2', ↓d_12, ↓gp, ↓gb_, ↓b_11, ↓b_11', hq, ↓bldMT, ↓a_18, ↓a_19, i1, ↓cK_agg, ↓cK_nils, nth_z, nth_1, Bool.not_true, Bool.not_false, ↓uc_c, ↓uz_n, ↓cI_i, ↓cB_b, cB_b, ↓cT_t, cT_t, nth_z, nth_1, cK_b, ↓cK_b, ↓cK_i, cK_i, ifB_t, ifB_f, ↓ap_e, sel_t, sel_f, gsel_tt, gsel_tf, gsel_ft, gsel_ff, gsel_u, gd_tt, gd_tf, gd_ft, gd_ff, gd_u, ↓jn_n, jn_n, jn_r, ↓jn_r, blk_n, blk_r, ↓cl_r, cl_r, ↓iAdd_i, ↓iSub_i, ↓iMul_i, ↓iAnd_i, ↓iOr_i, ↓iXor_i, ↓iNeg_i, iQuo_i, iRem_i, ↓iConv_i, iConv_i, ↓bNot_b, bNot_b, ↓eqN_i, ↓ltN_i, ↓eqB_b, bnot_e, Int.ofNat_eq_natCast, Int.cast_ofNat_Int, Int.reduceBEq, Int.reduceAdd, Int.reduceNeg, Int.reduceNegSucc, Int.reduceLT, Int.reduceLE, Int.reduceMul, Int.reduceTMod, Int.reduceSub, Int.reduceBNe, Bool.not_true, Bool.not_false, decide_true, decide_false, w63_in, w31_in, ne_eq, not_false_eq_true, Int.reduceEq, reduceCtorEq, ww3131, ww6363, ww3163, ww6331, ww3231, ww3263, ww6463, ww6364, sh31, sh63, sl63, m31, m63, n63, s5a, s5b, s6a, s6b, b31, b32, b63, c63, c64, d64, iShl_c, iShr_c, sr3, sr6, sr7]
  have i64 : (63 : Int) < ((val t q 1 : Nat) : Int) := by omega
  by_cases k128 : val t q 1 < 128
  · have i128 : ¬ (127 : Int) < ((val t q 1 : Nat) : Int) := by omega
    have u64 : wrapC 63 (((val t q 1 : Nat) : Int) - 64) = ((val t q 1 - 64 : Nat) : Int) := by rw [w63_in _ (by omega) (by omega)]; omega
    obtain ⟨g_23, s_24, s_24', c_25, t_26, w_27, y_28⟩ := Ce.sD w3 c3 (val t q 1 - 64)
    have q_29 := q3.to t_26 (fun x _ hx e => by have : x = h1.nb := e; omega)
    have k_30 := k3.to t_26 (fun x _ hx e => by have : x = h1.nb := e; omega)
    have o_31 := o13.trans (t_26.mono fun x _ e => by have : x = h1.nb := e; exact Or.inr (by omega))
    have p_32 : Pool g_23 pb := p3.to t_26 (fun e => by have : pb = h1.nb := e; omega)
    have lt_33 := Ce.lt c_25
    rcases t88 q_29 p_32 hne w_27 1 (by omega) with ⟨kn_34, g_35, e_36, ⟨qx_37, q_38⟩, t_39, w_40⟩ | ⟨⟨l_41, qq_42⟩, vv_43, g_35, ks_44, e_36, r_45, q_38, t_39, w_40⟩
    ·
      have e_36' : s88 [.ptr b 0, plv pb, .int 63 1] g_23 = .ret nilF g_35 := e_36
      have c_46 := c_25.to t_39 (fun e => by have : h1.nb = b := e; omega)
      have k_47 := k_30.to t_39 (fun x hx _ e => by have : x = b := e; omega)
      have o_48 := o_31.trans (t_39.mono fun x _ e => Or.inl e)
      have p_49 : Pool g_35 pb := p_32.to t_39 (fun e => hne e)
      obtain ⟨g_50, s_51, s_51', c_52, t_53, w_54, y_55⟩ := Ce.sS w_40 c_46 .nils rfl
      have q_56 := q_38.to t_53 (fun x _ hx e => by have : x = h1.nb := e; omega)
      have k_57 := k_47.to t_53 (fun x _ hx e => by have : x = h1.nb := e; omega)
      have o_58 := o_48.trans (t_53.mono fun x _ e => by have : x = h1.nb := e; exact Or.inr (by omega))
      have p_59 : Pool g_50 pb := p_49.to t_53 (fun e => by have : pb = h1.nb := e; omega)
      refine .inl ⟨by unfold en; rw [if_neg k64, if_pos k128, kn_34], _, ?_, o_58, w_54⟩
      simp only [↓L63n0, c0, ↓e1, ↓bldM, ↓bldM', ↓m2, ↓m2', ↓s3, ↓cP_p, ↓l3, ↓l3', ↓nck_p, i64, i128, u64, ↓s_24, ↓s_24', ↓e_36, ↓e_36', ↓s_51, ↓s_51', ↓gp, ↓gb_, ↓cK_agg, ↓cK_nils, nth_z, nth_1, ↓uc_c, ↓uz_n, ↓cI_i, ↓cB_b, cB_b, ↓cT_t, cT_t, nth_z, nth_1, cK_b, ↓cK_b, ↓cK_i, cK_i, ifB_t, ifB_f, ↓ap_e, sel_t, sel_f, gsel_tt, gsel_tf, gsel_ft, gsel_ff, gsel_u, gd_tt, gd_tf, gd_ft, gd_ff, gd_u, ↓jn_n, jn_n, jn_r, ↓jn_r, blk_n, blk_r, ↓cl_r, cl_r, ↓iAdd_i, ↓iSub_i, ↓iMul_i, ↓iAnd_i, ↓iOr_i, ↓iXor_i, ↓iNeg_i, iQuo_i, iRem_i, ↓iConv_i, iConv_i, ↓bNot_b, bNot_b, ↓eqN_i, ↓ltN_i, ↓eqB_b, bnot_e, Int.ofNat_eq_natCast, Int.cast_ofNat_Int, Int.reduceBEq, Int.reduceAdd, Int.reduceNeg, Int.reduceNegSucc, Int.reduceLT, Int.reduceLE, Int.reduceMul, Int.reduceTMod, Int.reduceSub, Int.reduceBNe, Bool.not_true, Bool.not_false, decide_true, decide_false, w63_in, w31_in, ne_eq, not_false_eq_true, Int.reduceEq, reduceCtorEq, ww3131, ww6363, ww3163, ww6331, ww3231, ww3263, ww6463, ww6364, sh31, sh63, sl63, m31, m63, n63, s5a, s5b, s6a, s6b, b31, b32, b63, c63, c64, d64, iShl_c, iShr_c, sr3, sr6, sr7]
    ·
      have r_45 : Rws g_35 (fun x => g_23.nb ≤ x) 3 vv_43 (l_41.map vP) := r_45
      have q_38 : CurQ g_35 lo b t qq_42 := q_38
      have e_36' : s88 [.ptr b 0, plv pb, .int 63 1] g_23 = .ret (.tup (.cons vv_43 (.cons (.bool true) .nil))) g_35 := e_36
      have c_60 := c_25.to t_39 (fun e => by have : h1.nb = b := e; omega)
      have k_61 := k_30.to t_39 (fun x hx _ e => by have : x = b := e; omega)
      have o_62 := o_31.trans (t_39.mono fun x _ e => Or.inl e)
      have p_63 : Pool g_35 pb := p_32.to t_39 (fun e => hne e)
      have ck_64 := fun kk => r_45.cK kk
      have on_65 := r_45.one
      obtain ⟨g_66, s_67, s_67', c_68, t_69, w_70, y_71⟩ := Ce.sS w_40 c_60 vv_43 on_65
      have q_72 := q_38.to t_69 (fun x _ hx e => by have : x = h1.nb := e; omega)
      have k_73 := k_61.to t_69 (fun x _ hx e => by have : x = h1.nb := e; omega)
      have o_74 := o_62.trans (t_69.mono fun x _ e => by have : x = h1.nb := e; exact Or.inr (by omega))
      have p_75 : Pool g_66 pb := p_63.to t_69 (fun e => by have : pb = h1.nb := e; omega)
      have r_76 := r_45.to t_69 (fun x hx _ e => by have hx : g_23.nb ≤ x := hx; have : x = h1.nb := e; omega)
      obtain ⟨b_77, b_77'⟩ := bad_ q_72
      have d_78 := fun kk => Ce.ldM c_68 kk
      have he_79 : en t q = fn ⟨(val t q 1), (val t q 1 - 64), [], l_41⟩ qq_42 := by unfold en; rw [if_neg k64, if_pos k128, ks_44]
      have nb_80 := (o_74).nb
      obtain ⟨v_81, g_82, g_83, a_84, a_85, m_86, t_87, w_88⟩ := MR.app w_70 (MK.mr k_73) hnb nb_80 ⟨(val t q 1), (val t q 1 - 64), [], l_41⟩ (vl := .nils) (vs := vv_43) (Rws.nil _ _ _) (r_76.mono fun x hx _ => by have hx : g_23.nb ≤ x := hx; show h.nb ≤ x; omega) (by omega)
      cases hq : qq_42.2 with
      | true =>
        refine .inl ⟨by rw [he_79]; unfold fn; rw [hq]; rfl, _, ?_, o_74, w_70⟩
        simp only [↓L63n0, c0, ↓e1, ↓bldM, ↓bldM', ↓m2, ↓m2', ↓s3, ↓cP_p, ↓l3, ↓l3', ↓nck_p, i64, i128, u64, ↓s_24, ↓s_24', ↓e_36, ↓e_36', ↓ck_64, ↓s_67, ↓s_67', ↓d_78, ↓gp, ↓gb_, ↓b_77, ↓b_77', hq, ↓bldMT, ↓a_84, ↓a_85, i1, ↓cK_agg, ↓cK_nils, nth_z, nth_1, Bool.not_true, Bool.not_false, ↓uc_c, ↓uz_n, ↓cI_i, ↓cB_b, cB_b, ↓cT_t, cT_t, nth_z, nth_1, cK_b, ↓cK_b, ↓cK_i, cK_i, ifB_t, ifB_f, ↓ap_e, sel_t, sel_f, gsel_tt, gsel_tf, gsel_ft, gsel_ff, gsel_u, gd_tt, gd_tf, gd_ft, gd_ff, gd_u, ↓jn_n, jn_n, jn_r, ↓jn_r, blk_n, blk_r, ↓cl_r, cl_r, ↓iAdd_i, ↓iSub_i, ↓iMul_i, ↓iAnd_i, ↓iOr_i, ↓iXor_i, ↓iNeg_i, iQuo_i, iRem_i, ↓iConv_i, iConv_i, ↓bNot_b, bNot_b, ↓eqN_i, ↓ltN_i, ↓eqB_b, bnot_e, Int.ofNat_eq_natCast, Int.cast_ofNat_Int, Int.reduceBEq, Int.reduceAdd, Int.reduceNeg, Int.reduceNegSucc, Int.reduceLT, Int.reduceLE, Int.reduceMul, Int.reduceTMod, Int.reduceSub, Int.reduceBNe, Bool.not_true, Bool.not_false, decide_true, decide_false, w63_in, w31_in, ne_eq, not_false_eq_true, Int.reduceEq, reduceCtorEq, ww3131, ww6363, ww3163, ww6331, ww3231, ww3263, ww6463, ww6364, sh31, sh63, sl63, m31, m63, n63, s5a, s5b, s6a, s6b, b31, b32, b63, c63, c64, d64, iShl_c, iShr_c, sr3, sr6, sr7]
      | false =>
        refine .inr ⟨(⟨(val t q 1), (val t q 1 - 64), [], l_41⟩, qq_42), v_81, g_83, by rw [he_79]; unfold fn; rw [hq]; rfl, ?_, m_86, q_72.to t_87 (fun x _ hx e => by have := e.1; omega), p_75.to t_87 (fun e => by have := e.1; omega), o_74.trans (t_87.mono fun x _ e => Or.inr e.1), w_88⟩
        simp only [↓L63n0, c0, ↓e1, ↓bldM, ↓bldM', ↓m2, ↓m2', ↓s3, ↓cP_p, ↓l3, ↓l3', ↓nck_p, i64, i128, u64, ↓s_24, ↓s_24', ↓e_36, ↓e_36', ↓ck_64, ↓s_67, ↓s_67', ↓d_78, ↓gp, ↓gb_, ↓b_77, ↓b_77', hq, ↓bldMT, ↓a_84, ↓a_85, i1, ↓cK_agg, ↓cK_nils, nth_z, nth_1, Bool.not_true, Bool.not_false, ↓uc_c, ↓uz_n, ↓cI_i, ↓cB_b, cB_b, ↓cT_t, cT_t, nth_z, nth_1, cK_b, ↓cK_b, ↓cK_i, cK_i, ifB_t, ifB_f, ↓ap_e, sel_t, sel_f, gsel_tt, gsel_tf, gsel_ft, gsel_ff, gsel_u, gd_tt, gd_tf, gd_ft, gd_ff, gd_u, ↓jn_n, jn_n, jn_r, ↓jn_r, blk_n, blk_r, ↓cl_r, cl_r, ↓iAdd_i, ↓iSub_i, ↓iMul_i, ↓iAnd_i, ↓iOr_i, ↓iXor_i, ↓iNeg_i, iQuo_i, iRem_i, ↓iConv_i, iConv_i, ↓bNot_b, bNot_b, ↓eqN_i, ↓ltN_i, ↓eqB_b, bnot_e, Int.ofNat_eq_natCast, Int.cast_ofNat_Int, Int.reduceBEq, Int.reduceAdd, Int.reduceNeg, Int.reduceNegSucc, Int.reduceLT, Int.reduceLE, Int.reduceMul, Int.reduceTMod, Int.reduceSub, Int.reduceBNe, Bool.not_true, Bool.not_false, decide_true, decide_false, w63_in, w31_in, ne_eq, not_false_eq_true, Int.reduceEq, reduceCtorEq, ww3131, ww6363, ww3163, ww6331, ww3231, ww3263, ww6463, ww6364, sh31, sh63, sl63, m31, m63, n63, s5a, s5b, s6a, s6b, b31, b32, b63, c63, c64, d64, iShl_c, iShr_c, sr3, sr6, sr7]
  have i128 : (127 : Int) < ((val t q 1 : Nat) : Int) := by omega
  by_cases k247 : val t q 1 < 247
  · have i247 : ¬ (246 : Int) < ((val t q 1 : Nat) : Int) := by omega
    refine .inl ⟨by unfold en; rw [if_neg k64, if_neg k128, if_pos k247], _, ?_, o13, w3⟩
    simp only [↓L63n0, c0, ↓e1, ↓bldM, ↓bldM', ↓m2, ↓m2', ↓s3, ↓cP_p, ↓l3, ↓l3', ↓nck_p, i64, i128, i247, ↓gp, ↓gb_, ↓cK_agg, ↓cK_nils, nth_z, nth_1, ↓uc_c, ↓uz_n, ↓cI_i, ↓cB_b, cB_b, ↓cT_t, cT_t, nth_z, nth_1, cK_b, ↓cK_b, ↓cK_i, cK_i, ifB_t, ifB_f, ↓ap_e, sel_t, sel_f, gsel_tt, gsel_tf, gsel_ft, gsel_ff, gsel_u, gd_tt, gd_tf, gd_ft, gd_ff, gd_u, ↓jn_n, jn_n, jn_r, ↓jn_r, blk_n, blk_r, ↓cl_r, cl_r, ↓iAdd_i, ↓iSub_i, ↓iMul_i, ↓iAnd_i, ↓iOr_i, ↓iXor_i, ↓iNeg_i, iQuo_i, iRem_i, ↓iConv_i, iConv_i, ↓bNot_b, bNot_b, ↓eqN_i, ↓ltN_i, ↓eqB_b, bnot_e, Int.ofNat_eq_natCast, Int.cast_ofNat_Int, Int.reduceBEq, Int.reduceAdd, Int.reduceNeg, Int.reduceNegSucc, Int.reduceLT, Int.reduceLE, Int.reduceMul, Int.reduceTMod, Int.reduceSub, Int.reduceBNe, Bool.not_true, Bool.not_false, decide_true, decide_false, w63_in, w31_in, ne_eq, not_false_eq_true, Int.reduceEq, reduceCtorEq, ww3131, ww6363, ww3163, ww6331, ww3231, ww3263, ww6463, ww6364, sh31, sh63, sl63, m31, m63, n63, s5a, s5b, s6a, s6b, b31, b32, b63, c63, c64, d64, iShl_c, iShr_c, sr3, sr6, sr7]
  have i247 : (246 : Int) < ((val t q 1 : Nat) : Int) := by omega
  have f247 : (((val t q 1 : Nat) : Int) == 247) = decide (val t q 1 = 247) := nbeq _ 247
  by_cases e247 : val t q 1 = 247
  · rw [decide_eq_true e247] at f247
    obtain ⟨g_89, e_90, q_91, t_92, w_93⟩ := n2 q3 w3
    have e_90' : s32 [.ptr b 0, .int 63 2] h3 = .ret (.int 63 (val t (adv t q 1) 2 : Int)) g_89 := e_90
    have c_94 := c3.to t_92 (fun e => by have : h1.nb = b := e; omega)
    have k_95 := k3.to t_92 (fun x hx _ e => by have : x = b := e; omega)
    have o_96 := o13.trans (t_92.mono fun x _ e => Or.inl e)
    have p_97 : Pool g_89 pb := p3.to t_92 (fun e => hne e)
    obtain ⟨g_98, s_99, s_99', c_100, t_101, w_102, y_103⟩ := Ce.sD w_93 c_94 (val t (adv t q 1) 2)
    have q_104 := q_91.to t_101 (fun x _ hx e => by have : x = h1.nb := e; omega)
    have k_105 := k_95.to t_101 (fun x _ hx e => by have : x = h1.nb := e; omega)
    have o_106 := o_96.trans (t_101.mono fun x _ e => by have : x = h1.nb := e; exact Or.inr (by omega))
    have p_107 : Pool g_98 pb := p_97.to t_101 (fun e => by have : pb = h1.nb := e; omega)
    have lt_108 := Ce.lt c_100
    rcases t88 q_104 p_107 hne w_102 1 (by omega) with ⟨kn_109, g_110, e_111, ⟨qx_112, q_113⟩, t_114, w_115⟩ | ⟨⟨l_116, qq_117⟩, vv_118, g_110, ks_119, e_111, r_120, q_113, t_114, w_115⟩
    ·
      have e_111' : s88 [.ptr b 0, plv pb, .int 63 1] g_98 = .ret nilF g_110 := e_111
      have c_121 := c_100.to t_114 (fun e => by have : h1.nb = b := e; omega)
      have k_122 := k_105.to t_114 (fun x hx _ e => by have : x = b := e; omega)
      have o_123 := o_106.trans (t_114.mono fun x _ e => Or.inl e)
      have p_124 : Pool g_110 pb := p_107.to t_114 (fun e => hne e)
      obtain ⟨g_125, s_126, s_126', c_127, t_128, w_129, y_130⟩ := Ce.sS w_115 c_121 .nils rfl
      have q_131 := q_113.to t_128 (fun x _ hx e => by have : x = h1.nb := e; omega)
      have k_132 := k_122.to t_128 (fun x _ hx e => by have : x = h1.nb := e; omega)
      have o_133 := o_123.trans (t_128.mono fun x _ e => by have : x = h1.nb := e; exact Or.inr (by omega))
      have p_134 : Pool g_125 pb := p_124.to t_128 (fun e => by have : pb = h1.nb := e; omega)
      refine .inl ⟨by unfold en; rw [if_neg k64, if_neg k128, if_neg k247, if_pos e247, kn_109], _, ?_, o_133, w_129⟩
      simp only [↓L63n0, c0, ↓e1, ↓bldM, ↓bldM', ↓m2, ↓m2', ↓s3, ↓cP_p, ↓l3, ↓l3', ↓nck_p, i64, i128, i247, f247, ↓e_90, ↓e_90', ↓s_99, ↓s_99', ↓e_111, ↓e_111', ↓s_126, ↓s_126', ↓gp, ↓gb_, ↓cK_agg, ↓cK_nils, nth_z, nth_1, ↓uc_c, ↓uz_n, ↓cI_i, ↓cB_b, cB_b, ↓cT_t, cT_t, nth_z, nth_1, cK_b, ↓cK_b, ↓cK_i, cK_i, ifB_t, ifB_f, ↓ap_e, sel_t, sel_f, gsel_tt, gsel_tf, gsel_ft, gsel_ff, gsel_u, gd_tt, gd_tf, gd_ft, gd_ff, gd_u, ↓jn_n, jn_n, jn_r, ↓jn_r, blk_n, blk_r, ↓cl_r, cl_r, ↓iAdd_i, ↓iSub_i, ↓iMul_i, ↓iAnd_i, ↓iOr_i, ↓iXor_i, ↓iNeg_i, iQuo_i, iRem_i, ↓iConv_i, iConv_i, ↓bNot_b, bNot_b, ↓eqN_i, ↓ltN_i, ↓eqB_b, bnot_e, Int.ofNat_eq_natCast, Int.cast_ofNat_Int, Int.reduceBEq, Int.reduceAdd, Int.reduceNeg, Int.reduceNegSucc, Int.reduceLT, Int.reduceLE, Int.reduceMul, Int.reduceTMod, Int.reduceSub, Int.reduceBNe, Bool.not_true, Bool.not_false, decide_true, decide_false, w63_in, w31_in, ne_eq, not_false_eq_true, Int.reduceEq, reduceCtorEq, ww3131, ww6363, ww3163, ww6331, ww3231, ww3263, ww6463, ww6364, sh31, sh63, sl63, m31, m63, n63, s5a, s5b, s6a, s6b, b31, b32, b63, c63, c64, d64, iShl_c, iShr_c, sr3, sr6, sr7]
    ·
      have r_120 : Rws g_110 (fun x => g_98.nb ≤ x) 3 vv_118 (l_116.map vP) := r_120
      have q_113 : CurQ g_110 lo b t qq_117 := q_113
      have e_111' : s88 [.ptr b 0, plv pb, .int 63 1] g_98 = .ret (.tup (.cons vv_118 (.cons (.bool true) .nil))) g_110 := e_111
      have c_135 := c_100.to t_114 (fun e => by have : h1.nb = b := e; omega)
      have k_136 := k_105.to t_114 (fun x hx _ e => by have : x = b := e; omega)
      have o_137 := o_106.trans (t_114.mono fun x _ e => Or.inl e)
      have p_138 : Pool g_110 pb := p_107.to t_114 (fun e => hne e)
      have ck_139 := fun kk => r_120.cK kk
      have on_140 := r_120.one
      obtain ⟨g_141, s_142, s_142', c_143, t_144, w_145, y_146⟩ := Ce.sS w_115 c_135 vv_118 on_140
      have q_147 := q_113.to t_144 (fun x _ hx e => by have : x = h1.nb := e; omega)
      have k_148 := k_136.to t_144 (fun x _ hx e => by have : x = h1.nb := e; omega)
      have o_149 := o_137.trans (t_144.mono fun x _ e => by have : x = h1.nb := e; exact Or.inr (by omega))
      have p_150 : Pool g_141 pb := p_138.to t_144 (fun e => by have : pb = h1.nb := e; omega)
      have r_151 := r_120.to t_144 (fun x hx _ e => by have hx : g_98.nb ≤ x := hx; have : x = h1.nb := e; omega)
      obtain ⟨b_152, b_152'⟩ := bad_ q_147
      have d_153 := fun kk => Ce.ldM c_143 kk
      have he_154 : en t q = fn ⟨(val t q 1), (val t (adv t q 1) 2), [], l_116⟩ qq_117 := by unfold en; rw [if_neg k64, if_neg k128, if_neg k247, if_pos e247, ks_119]
      have nb_155 := (o_149).nb
      obtain ⟨v_156, g_157, g_158, a_159, a_160, m_161, t_162, w_163⟩ := MR.app w_145 (MK.mr k_148) hnb nb_155 ⟨(val t q 1), (val t (adv t q 1) 2), [], l_116⟩ (vl := .nils) (vs := vv_118) (Rws.nil _ _ _) (r_151.mono fun x hx _ => by have hx : g_98.nb ≤ x := hx; show h.nb ≤ x; omega) (by omega)
      cases hq : qq_117.2 with
      | true =>
        refine .inl ⟨by rw [he_154]; unfold fn; rw [hq]; rfl, _, ?_, o_149, w_145⟩
        simp only [↓L63n0, c0, ↓e1, ↓bldM, ↓bldM', ↓m2, ↓m2', ↓s3, ↓cP_p, ↓l3, ↓l3', ↓nck_p, i64, i128, i247, f247, ↓e_90, ↓e_90', ↓s_99, ↓s_99', ↓e_111, ↓e_111', ↓ck_139, ↓s_142, ↓s_142', ↓d_153, ↓gp, ↓gb_, ↓b_152, ↓b_152', hq, ↓bldMT, ↓a_159, ↓a_160, i1, ↓cK_agg, ↓cK_nils, nth_z, nth_1, Bool.not_true, Bool.not_false, ↓uc_c, ↓uz_n, ↓cI_i, ↓cB_b, cB_b, ↓cT_t, cT_t, nth_z, nth_1, cK_b, ↓cK_b, ↓cK_i, cK_i, ifB_t, ifB_f, ↓ap_e, sel_t, sel_f, gsel_tt, gsel_tf, gsel_ft, gsel_ff, gsel_u, gd_tt, gd_tf, gd_ft, gd_ff, gd_u, ↓jn_n, jn_n, jn_r, ↓jn_r, blk_n, blk_r, ↓cl_r, cl_r, ↓iAdd_i, ↓iSub_i, ↓iMul_i, ↓iAnd_i, ↓iOr_i, ↓iXor_i, ↓iNeg_i, iQuo_i, iRem_i, ↓iConv_i, iConv_i, ↓bNot_b, bNot_b, ↓eqN_i, ↓ltN_i, ↓eqB_b, bnot_e, Int.ofNat_eq_natCast, Int.cast_ofNat_Int, Int.reduceBEq, Int.reduceAdd, Int.reduceNeg, Int.reduceNegSucc, Int.reduceLT, Int.reduceLE, Int.reduceMul, Int.reduceTMod, Int.reduceSub, Int.reduceBNe, Bool.not_true, Bool.not_false, decide_true, decide_false, w63_in, w31_in, ne_eq, not_false_eq_true, Int.reduceEq, reduceCtorEq, ww3131, ww6363, ww3163, ww6331, ww3231, ww3263, ww6463, ww6364, sh31, sh63, sl63, m31, m63, n63, s5a, s5b, s6a, s6b, b31, b32, b63, c63, c64, d64, iShl_c, iShr_c, sr3, sr6, sr7]
      | false =>
        refine .inr ⟨(⟨(val t q 1), (val t (adv t q 1) 2), [], l_116⟩, qq_117), v_156, g_158, by rw [he_154]; unfold fn; rw [hq]; rfl, ?_, m_161, q_147.to t_162 (fun x _ hx e => by have := e.1; omega), p_150.to t_162 (fun e => by have := e.1; omega), o_149.trans (t_162.mono fun x _ e => Or.inr e.1), w_163⟩
        simp only [↓L63n0, c0, ↓e1, ↓bldM, ↓bldM', ↓m2, ↓m2', ↓s3, ↓cP_p, ↓l3, ↓l3', ↓nck_p, i64, i128, i247, f247, ↓e_90, ↓e_90', ↓s_99, ↓s_99', ↓e_111, ↓e_111', ↓ck_139, ↓s_142, ↓s_142', ↓d_153, ↓gp, ↓gb_, ↓b_152, ↓b_152', hq, ↓bldMT, ↓a_159, ↓a_160, i1, ↓cK_agg, ↓cK_nils, nth_z, nth_1, Bool.not_true, Bool.not_false, ↓uc_c, ↓uz_n, ↓cI_i, ↓cB_b, cB_b, ↓cT_t, cT_t, nth_z, nth_1, cK_b, ↓cK_b, ↓cK_i, cK_i, ifB_t, ifB_f, ↓ap_e, sel_t, sel_f, gsel_tt, gsel_tf, gsel_ft, gsel_ff, gsel_u, gd_tt, gd_tf, gd_ft, gd_ff, gd_u, ↓jn_n, jn_n, jn_r, ↓jn_r, blk_n, blk_r, ↓cl_r, cl_r, ↓iAdd_i, ↓iSub_i, ↓iMul_i, ↓iAnd_i, ↓iOr_i, ↓iXor_i, ↓iNeg_i, iQuo_i, iRem_i, ↓iConv_i, iConv_i, ↓bNot_b, bNot_b, ↓eqN_i, ↓ltN_i, ↓eqB_b, bnot_e, Int.ofNat_eq_natCast, Int.cast_ofNat_Int, Int.reduceBEq, Int.reduceAdd, Int.reduceNeg, Int.reduceNegSucc, Int.reduceLT, Int.reduceLE, Int.reduceMul, Int.reduceTMod, Int.reduceSub, Int.reduceBNe, Bool.not_true, Bool.not_false, decide_true, decide_false, w63_in, w31_in, ne_eq, not_false_eq_true, Int.reduceEq, reduceCtorEq, ww3131, ww6363, ww3163, ww6331, ww3231, ww3263, ww6463, ww6364, sh31, sh63, sl63, m31, m63, n63, s5a, s5b, s6a, s6b, b31, b32, b63, c63, c64, d64, iShl_c, iShr_c, sr3, sr6, sr7]
  rw [decide_eq_false e247] at f247
  by_cases k252 : val t q 1 < 252
  · have i251 : ¬ (251 : Int) < ((val t q 1 : Nat) : Int) := by omega
    obtain ⟨g_164, e_165, q_166, t_167, w_168⟩ := n2 q3 w3
    have e_165' : s32 [.ptr b 0, .int 63 2] h3 = .ret (.int 63 (val t (adv t q 1) 2 : Int)) g_164 := e_165
    have c_169 := c3.to t_167 (fun e => by have : h1.nb = b := e; omega)
    have k_170 := k3.to t_167 (fun x hx _ e => by have : x = b := e; omega)
    have o_171 := o13.trans (t_167.mono fun x _ e => Or.inl e)
    have p_172 : Pool g_164 pb := p3.to t_167 (fun e => hne e)
    obtain ⟨g_173, s_174, s_174', c_175, t_176, w_177, y_178⟩ := Ce.sD w_168 c_169 (val t (adv t q 1) 2)
    have q_179 := q_166.to t_176 (fun x _ hx e => by have : x = h1.nb := e; omega)
    have k_180 := k_170.to t_176 (fun x _ hx e => by have : x = h1.nb := e; omega)
    have o_181 := o_171.trans (t_176.mono fun x _ e => by have : x = h1.nb := e; exact Or.inr (by omega))
    have p_182 : Pool g_173 pb := p_172.to t_176 (fun e => by have : pb = h1.nb := e; omega)
    obtain ⟨b_183, b_183'⟩ := bad_ q_179
    have d_184 := fun kk => Ce.ldM c_175 kk
    have he_185 : en t q = fn ⟨(val t q 1), (val t (adv t q 1) 2), [], []⟩ (adv t (adv t q 1) 2) := by unfold en; rw [if_neg k64, if_neg k128, if_neg k247, if_neg e247, if_pos k252]
    have nb_186 := (o_181).nb
    obtain ⟨v_187, g_188, g_189, a_190, a_191, m_192, t_193, w_194⟩ := MR.app w_177 (MK.mr k_180) hnb nb_186 ⟨(val t q 1), (val t (adv t q 1) 2), [], []⟩ (vl := .nils) (vs := .nils) (Rws.nil _ _ _) (Rws.nil _ _ _) (by omega)
    cases hq : (adv t (adv t q 1) 2).2 with
    | true =>
      refine .inl ⟨by rw [he_185]; unfold fn; rw [hq]; rfl, _, ?_, o_181, w_177⟩
      simp only [↓L63n0, c0, ↓e1, ↓bldM, ↓bldM', ↓m2, ↓m2', ↓s3, ↓cP_p, ↓l3, ↓l3', ↓nck_p, i64, i128, i247, f247, i251, ↓e_165, ↓e_165', ↓s_174, ↓s_174', ↓d_184, ↓gp, ↓gb_, ↓b_183, ↓b_183', hq, ↓bldMT, ↓a_190, ↓a_191, i1, ↓cK_agg, ↓cK_nils, nth_z, nth_1, Bool.not_true, Bool.not_false, ↓uc_c, ↓uz_n, ↓cI_i, ↓cB_b, cB_b, ↓cT_t, cT_t, nth_z, nth_1, cK_b, ↓cK_b, ↓cK_i, cK_i, ifB_t, ifB_f, ↓ap_e, sel_t, sel_f, gsel_tt, gsel_tf, gsel_ft, gsel_ff, gsel_u, gd_tt, gd_tf, gd_ft, gd_ff, gd_u, ↓jn_n, jn_n, jn_r, ↓jn_r, blk_n, blk_r, ↓cl_r, cl_r, ↓iAdd_i, ↓iSub_i, ↓iMul_i, ↓iAnd_i, ↓iOr_i, ↓iXor_i, ↓iNeg_i, iQuo_i, iRem_i, ↓iConv_i, iConv_i, ↓bNot_b, bNot_b, ↓eqN_i, ↓ltN_i, ↓eqB_b, bnot_e, Int.ofNat_eq_natCast, Int.cast_ofNat_Int, Int.reduceBEq, Int.reduceAdd, Int.reduceNeg, Int.reduceNegSucc, Int.reduceLT, Int.reduceLE, Int.reduceMul, Int.reduceTMod, Int.reduceSub, Int.reduceBNe, Bool.not_true, Bool.not_false, decide_true, decide_false, w63_in, w31_in, ne_eq, not_false_eq_true, Int.reduceEq, reduceCtorEq, ww3131, ww6363, ww3163, ww6331, ww3231, ww3263, ww6463, ww6364, sh31, sh63, sl63, m31, m63, n63, s5a, s5b, s6a, s6b, b31, b32, b63, c63, c64, d64, iShl_c, iShr_c, sr3, sr6, sr7]
    | false =>
      refine .inr ⟨(⟨(val t q 1), (val t (adv t q 1) 2), [], []⟩, (adv t (adv t q 1) 2)), v_187, g_189, by rw [he_185]; unfold fn; rw [hq]; rfl, ?_, m_192, q_179.to t_193 (fun x _ hx e => by have := e.1; omega), p_182.to t_193 (fun e => by have := e.1; omega), o_181.trans (t_193.mono fun x _ e => Or.inr e.1), w_194⟩
      simp only [↓L63n0, c0, ↓e1, ↓bldM, ↓bldM', ↓m2, ↓m2', ↓s3, ↓cP_p, ↓l3, ↓l3', ↓nck_p, i64, i128, i247, f247, i251, ↓e_165, ↓e_165', ↓s_174, ↓s_174', ↓d_184, ↓gp, ↓gb_, ↓b_183, ↓b_183', hq, ↓bldMT, ↓a_190, ↓a_191, i1, ↓cK_agg, ↓cK_nils, nth_z, nth_1, Bool.not_true, Bool.not_false, ↓uc_c, ↓uz_n, ↓cI_i, ↓cB_b, cB_b, ↓cT_t, cT_t, nth_z, nth_1, cK_b, ↓cK_b, ↓cK_i, cK_i, ifB_t, ifB_f, ↓ap_e, sel_t, sel_f, gsel_tt, gsel_tf, gsel_ft, gsel_ff, gsel_u, gd_tt, gd_tf, gd_ft, gd_ff, gd_u, ↓jn_n, jn_n, jn_r, ↓jn_r, blk_n, blk_r, ↓cl_r, cl_r, ↓iAdd_i, ↓iSub_i, ↓iMul_i, ↓iAnd_i, ↓iOr_i, ↓iXor_i, ↓iNeg_i, iQuo_i, iRem_i, ↓iConv_i, iConv_i, ↓bNot_b, bNot_b, ↓eqN_i, ↓ltN_i, ↓eqB_b, bnot_e, Int.ofNat_eq_natCast, Int.cast_ofNat_Int, Int.reduceBEq, Int.reduceAdd, Int.reduceNeg, Int.reduceNegSucc, Int.reduceLT, Int.reduceLE, Int.reduceMul, Int.reduceTMod, Int.reduceSub, Int.reduceBNe, Bool.not_true, Bool.not_false, decide_true, decide_false, w63_in, w31_in, ne_eq, not_false_eq_true, Int.reduceEq, reduceCtorEq, ww3131, ww6363, ww3163, ww6331, ww3231, ww3263, ww6463, ww6364, sh31, sh63, sl63, m31, m63, n63, s5a, s5b, s6a, s6b, b31, b32, b63, c63, c64, d64, iShl_c, iShr_c, sr3, sr6, sr7]
  have i251 : (251 : Int) < ((val t q 1 : Nat) : Int) := by omega
  by_cases k255 : val t q 1 < 255
  · have i254 : ¬ (254 : Int) < ((val t q 1 : Nat) : Int) := by omega
    have u251 : wrapC 63 (((val t q 1 : Nat) : Int) - 251) = ((val t q 1 - 251 : Nat) : Int) := by rw [w63_in _ (by omega) (by omega)]; omega
    obtain ⟨g_195, e_196, q_197, t_198, w_199⟩ := n2 q3 w3
    have e_196' : s32 [.ptr b 0, .int 63 2] h3 = .ret (.int 63 (val t (adv t q 1) 2 : Int)) g_195 := e_196
    have c_200 := c3.to t_198 (fun e => by have : h1.nb = b := e; omega)
    have k_201 := k3.to t_198 (fun x hx _ e => by have : x = b := e; omega)
    have o_202 := o13.trans (t_198.mono fun x _ e => Or.inl e)
    have p_203 : Pool g_195 pb := p3.to t_198 (fun e => hne e)
    obtain ⟨g_204, s_205, s_205', c_206, t_207, w_208, y_209⟩ := Ce.sD w_199 c_200 (val t (adv t q 1) 2)
    have q_210 := q_197.to t_207 (fun x _ hx e => by have : x = h1.nb := e; omega)
    have k_211 := k_201.to t_207 (fun x _ hx e => by have : x = h1.nb := e; omega)
    have o_212 := o_202.trans (t_207.mono fun x _ e => by have : x = h1.nb := e; exact Or.inr (by omega))
    have p_213 : Pool g_204 pb := p_203.to t_207 (fun e => by have : pb = h1.nb := e; omega)
    obtain ⟨l_214, l_214'⟩ := Ce.lM c_206
    have lt_215 := Ce.lt c_206
    rcases t88 q_210 p_213 hne w_208 (val t q 1 - 251) (by omega) with ⟨kn_216, g_217, e_218, ⟨qx_219, q_220⟩, t_221, w_222⟩ | ⟨⟨l_223, qq_224⟩, vv_225, g_217, ks_226, e_218, r_227, q_220, t_221, w_222⟩
    ·
      have c_228 := c_206.to t_221 (fun e => by have : h1.nb = b := e; omega)
      have k_229 := k_211.to t_221 (fun x hx _ e => by have : x = b := e; omega)
      have o_230 := o_212.trans (t_221.mono fun x _ e => Or.inl e)
      have p_231 : Pool g_217 pb := p_213.to t_221 (fun e => hne e)
      obtain ⟨g_232, s_233, s_233', c_234, t_235, w_236, y_237⟩ := Ce.sL w_222 c_228 .nils rfl
      have q_238 := q_220.to t_235 (fun x _ hx e => by have : x = h1.nb := e; omega)
      have k_239 := k_229.to t_235 (fun x _ hx e => by have : x = h1.nb := e; omega)
      have o_240 := o_230.trans (t_235.mono fun x _ e => by have : x = h1.nb := e; exact Or.inr (by omega))
      have p_241 : Pool g_232 pb := p_231.to t_235 (fun e => by have : pb = h1.nb := e; omega)
      refine .inl ⟨by unfold en; rw [if_neg k64, if_neg k128, if_neg k247, if_neg e247, if_neg k252, if_pos k255, kn_216], _, ?_, o_240, w_236⟩
      simp only [↓L63n0, c0, ↓e1, ↓bldM, ↓bldM', ↓m2, ↓m2', ↓s3, ↓cP_p, ↓l3, ↓l3', ↓nck_p, i64, i128, i247, f247, i251, i254, u251, ↓e_196, ↓e_196', ↓s_205, ↓s_205', ↓l_214, ↓l_214', ↓e_218, ↓s_233, ↓s_233', ↓gp, ↓gb_, ↓cK_agg, ↓cK_nils, nth_z, nth_1, ↓uc_c, ↓uz_n, ↓cI_i, ↓cB_b, cB_b, ↓cT_t, cT_t, nth_z, nth_1, cK_b, ↓cK_b, ↓cK_i, cK_i, ifB_t, ifB_f, ↓ap_e, sel_t, sel_f, gsel_tt, gsel_tf, gsel_ft, gsel_ff, gsel_u, gd_tt, gd_tf, gd_ft, gd_ff, gd_u, ↓jn_n, jn_n, jn_r, ↓jn_r, blk_n, blk_r, ↓cl_r, cl_r, ↓iAdd_i, ↓iSub_i, ↓iMul_i, ↓iAnd_i, ↓iOr_i, ↓iXor_i, ↓iNeg_i, iQuo_i, iRem_i, ↓iConv_i, iConv_i, ↓bNot_b, bNot_b, ↓eqN_i, ↓ltN_i, ↓eqB_b, bnot_e, Int.ofNat_eq_natCast, Int.cast_ofNat_Int, Int.reduceBEq, Int.reduceAdd, Int.reduceNeg, Int.reduceNegSucc, Int.reduceLT, Int.reduceLE, Int.reduceMul, Int.reduceTMod, Int.reduceSub, Int.reduceBNe, Bool.not_true, Bool.not_false, decide_true, decide_false, w63_in, w31_in, ne_eq, not_false_eq_true, Int.reduceEq, reduceCtorEq, ww3131, ww6363, ww3163, ww6331, ww3231, ww3263, ww6463, ww6364, sh31, sh63, sl63, m31, m63, n63, s5a, s5b, s6a, s6b, b31, b32, b63, c63, c64, d64, iShl_c, iShr_c, sr3, sr6, sr7]
    ·
      have r_227 : Rws g_217 (fun x => g_204.nb ≤ x) 3 vv_225 (l_223.map vP) := r_227
      have q_220 : CurQ g_217 lo b t qq_224 := q_220
      have c_242 := c_206.to t_221 (fun e => by have : h1.nb = b := e; omega)
      have k_243 := k_211.to t_221 (fun x hx _ e => by have : x = b := e; omega)
      have o_244 := o_212.trans (t_221.mono fun x _ e => Or.inl e)
      have p_245 : Pool g_217 pb := p_213.to t_221 (fun e => hne e)
      have ck_246 := fun kk => r_227.cK kk
      have on_247 := r_227.one
      obtain ⟨g_248, s_249, s_249', c_250, t_251, w_252, y_253⟩ := Ce.sL w_222 c_242 vv_225 on_247
      have q_254 := q_220.to t_251 (fun x _ hx e => by have : x = h1.nb := e; omega)
      have k_255 := k_243.to t_251 (fun x _ hx e => by have : x = h1.nb := e; omega)
      have o_256 := o_244.trans (t_251.mono fun x _ e => by have : x = h1.nb := e; exact Or.inr (by omega))
      have p_257 : Pool g_248 pb := p_245.to t_251 (fun e => by have : pb = h1.nb := e; omega)
      have r_258 := r_227.to t_251 (fun x hx _ e => by have hx : g_204.nb ≤ x := hx; have : x = h1.nb := e; omega)
      obtain ⟨b_259, b_259'⟩ := bad_ q_254
      have d_260 := fun kk => Ce.ldM c_250 kk
      have he_261 : en t q = fn ⟨(val t q 1), (val t (adv t q 1) 2), l_223, []⟩ qq_224 := by unfold en; rw [if_neg k64, if_neg k128, if_neg k247, if_neg e247, if_neg k252, if_pos k255, ks_226]
      have nb_262 := (o_256).nb
      obtain ⟨v_263, g_264, g_265, a_266, a_267, m_268, t_269, w_270⟩ := MR.app w_252 (MK.mr k_255) hnb nb_262 ⟨(val t q 1), (val t (adv t q 1) 2), l_223, []⟩ (vl := vv_225) (vs := .nils) (r_258.mono fun x hx _ => by have hx : g_204.nb ≤ x := hx; show h.nb ≤ x; omega) (Rws.nil _ _ _) (by omega)
      cases hq : qq_224.2 with
      | true =>
        refine .inl ⟨by rw [he_261]; unfold fn; rw [hq]; rfl, _, ?_, o_256, w_252⟩
        simp only [↓L63n0, c0, ↓e1, ↓bldM, ↓bldM', ↓m2, ↓m2', ↓s3, ↓cP_p, ↓l3, ↓l3', ↓nck_p, i64, i128, i247, f247, i251, i254, u251, ↓e_196, ↓e_196', ↓s_205, ↓s_205', ↓l_214, ↓l_214', ↓e_218, ↓ck_246, ↓s_249, ↓s_249', ↓d_260, ↓gp, ↓gb_, ↓b_259, ↓b_259', hq, ↓bldMT, ↓a_266, ↓a_267, i1, ↓cK_agg, ↓cK_nils, nth_z, nth_1, Bool.not_true, Bool.not_false, ↓uc_c, ↓uz_n, ↓cI_i, ↓cB_b, cB_b, ↓cT_t, cT_t, nth_z, nth_1, cK_b, ↓cK_b, ↓cK_i, cK_i, ifB_t, ifB_f, ↓ap_e, sel_t, sel_f, gsel_tt, gsel_tf, gsel_ft, gsel_ff, gsel_u, gd_tt, gd_tf, gd_ft, gd_ff, gd_u, ↓jn_n, jn_n, jn_r, ↓jn_r, blk_n, blk_r, ↓cl_r, cl_r, ↓iAdd_i, ↓iSub_i, ↓iMul_i, ↓iAnd_i, ↓iOr_i, ↓iXor_i, ↓iNeg_i, iQuo_i, iRem_i, ↓iConv_i, iConv_i, ↓bNot_b, bNot_b, ↓eqN_i, ↓ltN_i, ↓eqB_b, bnot_e, Int.ofNat_eq_natCast, Int.cast_ofNat_Int, Int.reduceBEq, Int.reduceAdd, Int.reduceNeg, Int.reduceNegSucc, Int.reduceLT, Int.reduceLE, Int.reduceMul, Int.reduceTMod, Int.reduceSub, Int.reduceBNe, Bool.not_true, Bool.not_false, decide_true, decide_false, w63_in, w31_in, ne_eq, not_false_eq_true, Int.reduceEq, reduceCtorEq, ww3131, ww6363, ww3163, ww6331, ww3231, ww3263, ww6463, ww6364, sh31, sh63, sl63, m31, m63, n63, s5a, s5b, s6a, s6b, b31, b32, b63, c63, c64, d64, iShl_c, iShr_c, sr3, sr6, sr7]
      | false =>
        refine .inr ⟨(⟨(val t q 1), (val t (adv t q 1) 2), l_223, []⟩, qq_224), v_263, g_265, by rw [he_261]; unfold fn; rw [hq]; rfl, ?_, m_268, q_254.to t_269 (fun x _ hx e => by have := e.1; omega), p_257.to t_269 (fun e => by have := e.1; omega), o_256.trans (t_269.mono fun x _ e => Or.inr e.1), w_270⟩
        simp only [↓L63n0, c0, ↓e1, ↓bldM, ↓bldM', ↓m2, ↓m2', ↓s3, ↓cP_p, ↓l3, ↓l3', ↓nck_p, i64, i128, i247, f247, i251, i254, u251, ↓e_196, ↓e_196', ↓s_205, ↓s_205', ↓l_214, ↓l_214', ↓e_218, ↓ck_246, ↓s_249, ↓s_249', ↓d_260, ↓gp, ↓gb_, ↓b_259, ↓b_259', hq, ↓bldMT, ↓a_266, ↓a_267, i1, ↓cK_agg, ↓cK_nils, nth_z, nth_1, Bool.not_true, Bool.not_false, ↓uc_c, ↓uz_n, ↓cI_i, ↓cB_b, cB_b, ↓cT_t, cT_t, nth_z, nth_1, cK_b, ↓cK_b, ↓cK_i, cK_i, ifB_t, ifB_f, ↓ap_e, sel_t, sel_f, gsel_tt, gsel_tf, gsel_ft, gsel_ff, gsel_u, gd_tt, gd_tf, gd_ft, gd_ff, gd_u, ↓jn_n, jn_n, jn_r, ↓jn_r, blk_n, blk_r, ↓cl_r, cl_r, ↓iAdd_i, ↓iSub_i, ↓iMul_i, ↓iAnd_i, ↓iOr_i, ↓iXor_i, ↓iNeg_i, iQuo_i, iRem_i, ↓iConv_i, iConv_i, ↓bNot_b, bNot_b, ↓eqN_i, ↓ltN_i, ↓eqB_b, bnot_e, Int.ofNat_eq_natCast, Int.cast_ofNat_Int, Int.reduceBEq, Int.reduceAdd, Int.reduceNeg, Int.reduceNegSucc, Int.reduceLT, Int.reduceLE, Int.reduceMul, Int.reduceTMod, Int.reduceSub, Int.reduceBNe, Bool.not_true, Bool.not_false, decide_true, decide_false, w63_in, w31_in, ne_eq, not_false_eq_true, Int.reduceEq, reduceCtorEq, ww3131, ww6363, ww3163, ww6331, ww3231, ww3263, ww6463, ww6364, sh31, sh63, sl63, m31, m63, n63, s5a, s5b, s6a, s6b, b31, b32, b63, c63, c64, d64, iShl_c, iShr_c, sr3, sr6, sr7]
  have i254 : (254 : Int) < ((val t q 1 : Nat) : Int) := by omega
  obtain ⟨g_271, e_272, q_273, t_274, w_275⟩ := n2 q3 w3
  have e_272' : s32 [.ptr b 0, .int 63 2] h3 = .ret (.int 63 (val t (adv t q 1) 2 : Int)) g_271 := e_272
  have c_276 := c3.to t_274 (fun e => by have : h1.nb = b := e; omega)
  have k_277 := k3.to t_274 (fun x hx _ e => by have : x = b := e; omega)
  have o_278 := o13.trans (t_274.mono fun x _ e => Or.inl e)
  have p_279 : Pool g_271 pb := p3.to t_274 (fun e => hne e)
  obtain ⟨g_280, s_281, s_281', c_282, t_283, w_284, y_285⟩ := Ce.sD w_275 c_276 (val t (adv t q 1) 2)
  have q_286 := q_273.to t_283 (fun x _ hx e => by have : x = h1.nb := e; omega)
  have k_287 := k_277.to t_283 (fun x _ hx e => by have : x = h1.nb := e; omega)
  have o_288 := o_278.trans (t_283.mono fun x _ e => by have : x = h1.nb := e; exact Or.inr (by omega))
  have p_289 : Pool g_280 pb := p_279.to t_283 (fun e => by have : pb = h1.nb := e; omega)
  obtain ⟨g_290, e_291, q_292, t_293, w_294⟩ := n2 q_286 w_284
  have e_291' : s32 [.ptr b 0, .int 63 2] g_280 = .ret (.int 63 (val t (adv t (adv t q 1) 2) 2 : Int)) g_290 := e_291
  have c_295 := c_282.to t_293 (fun e => by have : h1.nb = b := e; omega)
  have k_296 := k_287.to t_293 (fun x hx _ e => by have : x = b := e; omega)
  have o_297 := o_288.trans (t_293.mono fun x _ e => Or.inl e)
  have p_298 : Pool g_290 pb := p_289.to t_293 (fun e => hne e)
  have b1 : (val t (adv t (adv t q 1) 2) 2) < 65536 := val_lt hbyt _ 2
  have lt_299 := Ce.lt c_295
  rcases t88 q_292 p_298 hne w_294 (val t (adv t (adv t q 1) 2) 2) (by omega) with ⟨kn_300, g_301, e_302, ⟨qx_303, q_304⟩, t_305, w_306⟩ | ⟨⟨l_307, qq_308⟩, vv_309, g_301, ks_310, e_302, r_311, q_304, t_305, w_306⟩
  ·
    have c_312 := c_295.to t_305 (fun e => by have : h1.nb = b := e; omega)
    have k_313 := k_296.to t_305 (fun x hx _ e => by have : x = b := e; omega)
    have o_314 := o_297.trans (t_305.mono fun x _ e => Or.inl e)
    have p_315 : Pool g_301 pb := p_298.to t_305 (fun e => hne e)
    obtain ⟨g_316, s_317, s_317', c_318, t_319, w_320, y_321⟩ := Ce.sL w_306 c_312 .nils rfl
    have q_322 := q_304.to t_319 (fun x _ hx e => by have : x = h1.nb := e; omega)
    have k_323 := k_313.to t_319 (fun x _ hx e => by have : x = h1.nb := e; omega)
    have o_324 := o_314.trans (t_319.mono fun x _ e => by have : x = h1.nb := e; exact Or.inr (by omega))
    have p_325 : Pool g_316 pb := p_315.to t_319 (fun e => by have : pb = h1.nb := e; omega)
    obtain ⟨g_326, e_327, q_328, t_329, w_330⟩ := n2 q_322 w_320
    have e_327' : s32 [.ptr b 0, .int 63 2] g_316 = .ret (.int 63 (val t qx_303 2 : Int)) g_326 := e_327
    have c_331 := c_318.to t_329 (fun e => by have : h1.nb = b := e; omega)
    have k_332 := k_323.to t_329 (fun x hx _ e => by have : x = b := e; omega)
    have o_333 := o_324.trans (t_329.mono fun x _ e => Or.inl e)
    have p_334 : Pool g_326 pb := p_325.to t_329 (fun e => hne e)
    have b2 : (val t qx_303 2) < 65536 := val_lt hbyt _ 2
    have lt_335 := Ce.lt c_331
    rcases t88 q_328 p_334 hne w_330 (val t qx_303 2) (by omega) with ⟨kn_336, g_337, e_338, ⟨qx_339, q_340⟩, t_341, w_342⟩ | ⟨⟨l_343, qq_344⟩, vv_345, g_337, ks_346, e_338, r_347, q_340, t_341, w_342⟩
    ·
      have c_348 := c_331.to t_341 (fun e => by have : h1.nb = b := e; omega)
      have k_349 := k_332.to t_341 (fun x hx _ e => by have : x = b := e; omega)
      have o_350 := o_333.trans (t_341.mono fun x _ e => Or.inl e)
      have p_351 : Pool g_337 pb := p_334.to t_341 (fun e => hne e)
      obtain ⟨g_352, s_353, s_353', c_354, t_355, w_356, y_357⟩ := Ce.sS w_342 c_348 .nils rfl
      have q_358 := q_340.to t_355 (fun x _ hx e => by have : x = h1.nb := e; omega)
      have k_359 := k_349.to t_355 (fun x _ hx e => by have : x = h1.nb := e; omega)
      have o_360 := o_350.trans (t_355.mono fun x _ e => by have : x = h1.nb := e; exact Or.inr (by omega))
      have p_361 : Pool g_352 pb := p_351.to t_355 (fun e => by have : pb = h1.nb := e; omega)
      refine .inl ⟨by unfold en; rw [if_neg k64, if_neg k128, if_neg k247, if_neg e247, if_neg k252, if_neg k255, kn_300], _, ?_, o_360, w_356⟩
      simp only [↓L63n0, c0, ↓e1, ↓bldM, ↓bldM', ↓m2, ↓m2', ↓s3, ↓cP_p, ↓l3, ↓l3', ↓nck_p, i64, i128, i247, f247, i251, i254, ↓e_272, ↓e_272', ↓s_281, ↓s_281', ↓e_291, ↓e_291', ↓e_302, ↓s_317, ↓s_317', ↓e_327, ↓e_327', ↓e_338, ↓s_353, ↓s_353', ↓gp, ↓gb_, ↓cK_agg, ↓cK_nils, nth_z, nth_1, ↓uc_c, ↓uz_n, ↓cI_i, ↓cB_b, cB_b, ↓cT_t, cT_t, nth_z, nth_1, cK_b, ↓cK_b, ↓cK_i, cK_i, ifB_t, ifB_f, ↓ap_e, sel_t, sel_f, gsel_tt, gsel_tf, gsel_ft, gsel_ff, gsel_u, gd_tt, gd_tf, gd_ft, gd_ff, gd_u, ↓jn_n, jn_n, jn_r, ↓jn_r, blk_n, blk_r, ↓cl_r, cl_r, ↓iAdd_i, ↓iSub_i, ↓iMul_i, ↓iAnd_i, ↓iOr_i, ↓iXor_i, ↓iNeg_i, iQuo_i, iRem_i, ↓iConv_i, iConv_i, ↓bNot_b, bNot_b, ↓eqN_i, ↓ltN_i, ↓eqB_b, bnot_e, Int.ofNat_eq_natCast, Int.cast_ofNat_Int, Int.reduceBEq, Int.reduceAdd, Int.reduceNeg, Int.reduceNegSucc, Int.reduceLT, Int.reduceLE, Int.reduceMul, Int.reduceTMod, Int.reduceSub, Int.reduceBNe, Bool.not_true, Bool.not_false, decide_true, decide_false, w63_in, w31_in, ne_eq, not_false_eq_true, Int.reduceEq, reduceCtorEq, ww3131, ww6363, ww3163, ww6331, ww3231, ww3263, ww6463, ww6364, sh31, sh63, sl63, m31, m63, n63, s5a, s5b, s6a, s6b, b31, b32, b63, c63, c64, d64, iShl_c, iShr_c, sr3, sr6, sr7]
    ·
      have r_347 : Rws g_337 (fun x => g_326.nb ≤ x) 3 vv_345 (l_343.map vP) := r_347
      have q_340 : CurQ g_337 lo b t qq_344 := q_340
      have c_362 := c_331.to t_341 (fun e => by have : h1.nb = b := e; omega)
      have k_363 := k_332.to t_341 (fun x hx _ e => by have : x = b := e; omega)
      have o_364 := o_333.trans (t_341.mono fun x _ e => Or.inl e)
      have p_365 : Pool g_337 pb := p_334.to t_341 (fun e => hne e)
      have ck_366 := fun kk => r_347.cK kk
      have on_367 := r_347.one
      obtain ⟨g_368, s_369, s_369', c_370, t_371, w_372, y_373⟩ := Ce.sS w_342 c_362 vv_345 on_367
      have q_374 := q_340.to t_371 (fun x _ hx e => by have : x = h1.nb := e; omega)
      have k_375 := k_363.to t_371 (fun x _ hx e => by have : x = h1.nb := e; omega)
      have o_376 := o_364.trans (t_371.mono fun x _ e => by have : x = h1.nb := e; exact Or.inr (by omega))
      have p_377 : Pool g_368 pb := p_365.to t_371 (fun e => by have : pb = h1.nb := e; omega)
      have r_378 := r_347.to t_371 (fun x hx _ e => by have hx : g_326.nb ≤ x := hx; have : x = h1.nb := e; omega)
      refine .inl ⟨by unfold en; rw [if_neg k64, if_neg k128, if_neg k247, if_neg e247, if_neg k252, if_neg k255, kn_300], _, ?_, o_376, w_372⟩
      simp only [↓L63n0, c0, ↓e1, ↓bldM, ↓bldM', ↓m2, ↓m2', ↓s3, ↓cP_p, ↓l3, ↓l3', ↓nck_p, i64, i128, i247, f247, i251, i254, ↓e_272, ↓e_272', ↓s_281, ↓s_281', ↓e_291, ↓e_291', ↓e_302, ↓s_317, ↓s_317', ↓e_327, ↓e_327', ↓e_338, ↓ck_366, ↓s_369, ↓s_369', ↓gp, ↓gb_, ↓cK_agg, ↓cK_nils, nth_z, nth_1, ↓uc_c, ↓uz_n, ↓cI_i, ↓cB_b, cB_b, ↓cT_t, cT_t, nth_z, nth_1, cK_b, ↓cK_b, ↓cK_i, cK_i, ifB_t, ifB_f, ↓ap_e, sel_t, sel_f, gsel_tt, gsel_tf, gsel_ft, gsel_ff, gsel_u, gd_tt, gd_tf, gd_ft, gd_ff, gd_u, ↓jn_n, jn_n, jn_r, ↓jn_r, blk_n, blk_r, ↓cl_r, cl_r, ↓iAdd_i, ↓iSub_i, ↓iMul_i, ↓iAnd_i, ↓iOr_i, ↓iXor_i, ↓iNeg_i, iQuo_i, iRem_i, ↓iConv_i, iConv_i, ↓bNot_b, bNot_b, ↓eqN_i, ↓ltN_i, ↓eqB_b, bnot_e, Int.ofNat_eq_natCast, Int.cast_ofNat_Int, Int.reduceBEq, Int.reduceAdd, Int.reduceNeg, Int.reduceNegSucc, Int.reduceLT, Int.reduceLE, Int.reduceMul, Int.reduceTMod, Int.reduceSub, Int.reduceBNe, Bool.not_true, Bool.not_false, decide_true, decide_false, w63_in, w31_in, ne_eq, not_false_eq_true, Int.reduceEq, reduceCtorEq, ww3131, ww6363, ww3163, ww6331, ww3231, ww3263, ww6463, ww6364, sh31, sh63, sl63, m31, m63, n63, s5a, s5b, s6a, s6b, b31, b32, b63, c63, c64, d64, iShl_c, iShr_c, sr3, sr6, sr7]
  ·
    have r_311 : Rws g_301 (fun x => g_290.nb ≤ x) 3 vv_309 (l_307.map vP) := r_311
    have q_304 : CurQ g_301 lo b t qq_308 := q_304
    have c_379 := c_295.to t_305 (fun e => by have : h1.nb = b := e; omega)
    have k_380 := k_296.to t_305 (fun x hx _ e => by have : x = b := e; omega)
    have o_381 := o_297.trans (t_305.mono fun x _ e => Or.inl e)
    have p_382 : Pool g_301 pb := p_298.to t_305 (fun e => hne e)
    have ck_383 := fun kk => r_311.cK kk
    have on_384 := r_311.one
    obtain ⟨g_385, s_386, s_386', c_387, t_388, w_389, y_390⟩ := Ce.sL w_306 c_379 vv_309 on_384
    have q_391 := q_304.to t_388 (fun x _ hx e => by have : x = h1.nb := e; omega)
    have k_392 := k_380.to t_388 (fun x _ hx e => by have : x = h1.nb := e; omega)
    have o_393 := o_381.trans (t_388.mono fun x _ e => by have : x = h1.nb := e; exact Or.inr (by omega))
    have p_394 : Pool g_385 pb := p_382.to t_388 (fun e => by have : pb = h1.nb := e; omega)
    have r_395 := r_311.to t_388 (fun x hx _ e => by have hx : g_290.nb ≤ x := hx; have : x = h1.nb := e; omega)
    obtain ⟨g_396, e_397, q_398, t_399, w_400⟩ := n2 q_391 w_389
    have e_397' : s32 [.ptr b 0, .int 63 2] g_385 = .ret (.int 63 (val t qq_308 2 : Int)) g_396 := e_397
    have c_401 := c_387.to t_399 (fun e => by have : h1.nb = b := e; omega)
    have k_402 := k_392.to t_399 (fun x hx _ e => by have : x = b := e; omega)
    have o_403 := o_393.trans (t_399.mono fun x _ e => Or.inl e)
    have p_404 : Pool g_396 pb := p_394.to t_399 (fun e => hne e)
    have r_405 := r_395.to t_399 (fun x hx _ e => by have hx : g_290.nb ≤ x := hx; have : x = b := e; omega)
    have b2 : (val t qq_308 2) < 65536 := val_lt hbyt _ 2
    have lt_406 := Ce.lt c_401
    rcases t88 q_398 p_404 hne w_400 (val t qq_308 2) (by omega) with ⟨kn_407, g_408, e_409, ⟨qx_410, q_411⟩, t_412, w_413⟩ | ⟨⟨l_414, qq_415⟩, vv_416, g_408, ks_417, e_409, r_418, q_411, t_412, w_413⟩
    ·
      have c_419 := c_401.to t_412 (fun e => by have : h1.nb = b := e; omega)
      have k_420 := k_402.to t_412 (fun x hx _ e => by have : x = b := e; omega)
      have o_421 := o_403.trans (t_412.mono fun x _ e => Or.inl e)
      have p_422 : Pool g_408 pb := p_404.to t_412 (fun e => hne e)
      have r_423 := r_405.to t_412 (fun x hx _ e => by have hx : g_290.nb ≤ x := hx; have : x = b := e; omega)
      obtain ⟨g_424, s_425, s_425', c_426, t_427, w_428, y_429⟩ := Ce.sS w_413 c_419 .nils rfl
      have q_430 := q_411.to t_427 (fun x _ hx e => by have : x = h1.nb := e; omega)
      have k_431 := k_420.to t_427 (fun x _ hx e => by have : x = h1.nb := e; omega)
      have o_432 := o_421.trans (t_427.mono fun x _ e => by have : x = h1.nb := e; exact Or.inr (by omega))
      have p_433 : Pool g_424 pb := p_422.to t_427 (fun e => by have : pb = h1.nb := e; omega)
      have r_434 := r_423.to t_427 (fun x hx _ e => by have hx : g_290.nb ≤ x := hx; have : x = h1.nb := e; omega)
      refine .inl ⟨by unfold en; rw [if_neg k64, if_neg k128, if_neg k247, if_neg e247, if_neg k252, if_neg k255, ks_310]; simp only []; rw [kn_407], _, ?_, o_432, w_428⟩
      simp only [↓L63n0, c0, ↓e1, ↓bldM, ↓bldM', ↓m2, ↓m2', ↓s3, ↓cP_p, ↓l3, ↓l3', ↓nck_p, i64, i128, i247, f247, i251, i254, ↓e_272, ↓e_272', ↓s_281, ↓s_281', ↓e_291, ↓e_291', ↓e_302, ↓ck_383, ↓s_386, ↓s_386', ↓e_397, ↓e_397', ↓e_409, ↓s_425, ↓s_425', ↓gp, ↓gb_, ↓cK_agg, ↓cK_nils, nth_z, nth_1, ↓uc_c, ↓uz_n, ↓cI_i, ↓cB_b, cB_b, ↓cT_t, cT_t, nth_z, nth_1, cK_b, ↓cK_b, ↓cK_i, cK_i, ifB_t, ifB_f, ↓ap_e, sel_t, sel_f, gsel_tt, gsel_tf, gsel_ft, gsel_ff, gsel_u, gd_tt, gd_tf, gd_ft, gd_ff, gd_u, ↓jn_n, jn_n, jn_r, ↓jn_r, blk_n, blk_r, ↓cl_r, cl_r, ↓iAdd_i, ↓iSub_i, ↓iMul_i, ↓iAnd_i, ↓iOr_i, ↓iXor_i, ↓iNeg_i, iQuo_i, iRem_i, ↓iConv_i, iConv_i, ↓bNot_b, bNot_b, ↓eqN_i, ↓ltN_i, ↓eqB_b, bnot_e, Int.ofNat_eq_natCast, Int.cast_ofNat_Int, Int.reduceBEq, Int.reduceAdd, Int.reduceNeg, Int.reduceNegSucc, Int.reduceLT, Int.reduceLE, Int.reduceMul, Int.reduceTMod, Int.reduceSub, Int.reduceBNe, Bool.not_true, Bool.not_false, decide_true, decide_false, w63_in, w31_in, ne_eq, not_false_eq_true, Int.reduceEq, reduceCtorEq, ww3131, ww6363, ww3163, ww6331, ww3231, ww3263, ww6463, ww6364, sh31, sh63, sl63, m31, m63, n63, s5a, s5b, s6a, s6b, b31, b32, b63, c63, c64, d64, iShl_c, iShr_c, sr3, sr6, sr7]
    ·
      have r_418 : Rws g_408 (fun x => g_396.nb ≤ x) 3 vv_416 (l_414.map vP) := r_418
      have q_411 : CurQ g_408 lo b t qq_415 := q_411
      have c_435 := c_401.to t_412 (fun e => by have : h1.nb = b := e; omega)
      have k_436 := k_402.to t_412 (fun x hx _ e => by have : x = b := e; omega)
      have o_437 := o_403.trans (t_412.mono fun x _ e => Or.inl e)
      have p_438 : Pool g_408 pb := p_404.to t_412 (fun e => hne e)
      have r_439 := r_405.to t_412 (fun x hx _ e => by have hx : g_290.nb ≤ x := hx; have : x = b := e; omega)
      have ck_440 := fun kk => r_418.cK kk
      have on_441 := r_418.one
      obtain ⟨g_442, s_443, s_443', c_444, t_445, w_446, y_447⟩ := Ce.sS w_413 c_435 vv_416 on_441
      have q_448 := q_411.to t_445 (fun x _ hx e => by have : x = h1.nb := e; omega)
      have k_449 := k_436.to t_445 (fun x _ hx e => by have : x = h1.nb := e; omega)
      have o_450 := o_437.trans (t_445.mono fun x _ e => by have : x = h1.nb := e; exact Or.inr (by omega))
      have p_451 : Pool g_442 pb := p_438.to t_445 (fun e => by have : pb = h1.nb := e; omega)
      have r_452 := r_439.to t_445 (fun x hx _ e => by have hx : g_290.nb ≤ x := hx; have : x = h1.nb := e; omega)
      have r_453 := r_418.to t_445 (fun x hx _ e => by have hx : g_396.nb ≤ x := hx; have : x = h1.nb := e; omega)
      obtain ⟨b_454, b_454'⟩ := bad_ q_448
      have d_455 := fun kk => Ce.ldM c_444 kk
      have he_456 : en t q = fn ⟨(val t q 1), (val t (adv t q 1) 2), l_307, l_414⟩ qq_415 := by unfold en; rw [if_neg k64, if_neg k128, if_neg k247, if_neg e247, if_neg k252, if_neg k255, ks_310]; simp only []; rw [ks_417]
      have nb_457 := (o_450).nb
      obtain ⟨v_458, g_459, g_460, a_461, a_462, m_463, t_464, w_465⟩ := MR.app w_446 (MK.mr k_449) hnb nb_457 ⟨(val t q 1), (val t (adv t q 1) 2), l_307, l_414⟩ (vl := vv_309) (vs := vv_416) (r_452.mono fun x hx _ => by have hx : g_290.nb ≤ x := hx; show h.nb ≤ x; omega) (r_453.mono fun x hx _ => by have hx : g_396.nb ≤ x := hx; show h.nb ≤ x; omega) (by omega)
      cases hq : qq_415.2 with
      | true =>
        refine .inl ⟨by rw [he_456]; unfold fn; rw [hq]; rfl, _, ?_, o_450, w_446⟩
        simp only [↓L63n0, c0, ↓e1, ↓bldM, ↓bldM', ↓m2, ↓m2', ↓s3, ↓cP_p, ↓l3, ↓l3', ↓nck_p, i64, i128, i247, f247, i251, i254, ↓e_272, ↓e_272', ↓s_281, ↓s_281', ↓e_291, ↓e_291', ↓e_302, ↓ck_383, ↓s_386, ↓s_386', ↓e_397, ↓e_397', ↓e_409, ↓ck_440, ↓s_443, ↓s_443', ↓d_455, ↓gp, ↓gb_, ↓b_454, ↓b_454', hq, ↓bldMT, ↓a_461, ↓a_462, i1, ↓cK_agg, ↓cK_nils, nth_z, nth_1, Bool.not_true, Bool.not_false, ↓uc_c, ↓uz_n, ↓cI_i, ↓cB_b, cB_b, ↓cT_t, cT_t, nth_z, nth_1, cK_b, ↓cK_b, ↓cK_i, cK_i, ifB_t, ifB_f, ↓ap_e, sel_t, sel_f, gsel_tt, gsel_tf, gsel_ft, gsel_ff, gsel_u, gd_tt, gd_tf, gd_ft, gd_ff, gd_u, ↓jn_n, jn_n, jn_r, ↓jn_r, blk_n, blk_r, ↓cl_r, cl_r, ↓iAdd_i, ↓iSub_i, ↓iMul_i, ↓iAnd_i, ↓iOr_i, ↓iXor_i, ↓iNeg_i, iQuo_i, iRem_i, ↓iConv_i, iConv_i, ↓bNot_b, bNot_b, ↓eqN_i, ↓ltN_i, ↓eqB_b, bnot_e, Int.ofNat_eq_natCast, Int.cast_ofNat_Int, Int.reduceBEq, Int.reduceAdd, Int.reduceNeg, Int.reduceNegSucc, Int.reduceLT, Int.reduceLE, Int.reduceMul, Int.reduceTMod, Int.reduceSub, Int.reduceBNe, Bool.not_true, Bool.not_false, decide_true, decide_false, w63_in, w31_in, ne_eq, not_false_eq_true, Int.reduceEq, reduceCtorEq, ww3131, ww6363, ww3163, ww6331, ww3231, ww3263, ww6463, ww6364, sh31, sh63, sl63, m31, m63, n63, s5a, s5b, s6a, s6b, b31, b32, b63, c63, c64, d64, iShl_c, iShr_c, sr3, sr6, sr7]
      | false =>
        refine .inr ⟨(⟨(val t q 1), (val t (adv t q 1) 2), l_307, l_414⟩, qq_415), v_458, g_460, by rw [he_456]; unfold fn; rw [hq]; rfl, ?_, m_463, q_448.to t_464 (fun x _ hx e => by have := e.1; omega), p_451.to t_464 (fun e => by have := e.1; omega), o_450.trans (t_464.mono fun x _ e => Or.inr e.1), w_465⟩
        simp only [↓L63n0, c0, ↓e1, ↓bldM, ↓bldM', ↓m2, ↓m2', ↓s3, ↓cP_p, ↓l3, ↓l3', ↓nck_p, i64, i128, i247, f247, i251, i254, ↓e_272, ↓e_272', ↓s_281, ↓s_281', ↓e_291, ↓e_291', ↓e_302, ↓ck_383, ↓s_386, ↓s_386', ↓e_397, ↓e_397', ↓e_409, ↓ck_440, ↓s_443, ↓s_443', ↓d_455, ↓gp, ↓gb_, ↓b_454, ↓b_454', hq, ↓bldMT, ↓a_461, ↓a_462, i1, ↓cK_agg, ↓cK_nils, nth_z, nth_1, Bool.not_true, Bool.not_false, ↓uc_c, ↓uz_n, ↓cI_i, ↓cB_b, cB_b, ↓cT_t, cT_t, nth_z, nth_1, cK_b, ↓cK_b, ↓cK_i, cK_i, ifB_t, ifB_f, ↓ap_e, sel_t, sel_f, gsel_tt, gsel_tf, gsel_ft, gsel_ff, gsel_u, gd_tt, gd_tf, gd_ft, gd_ff, gd_u, ↓jn_n, jn_n, jn_r, ↓jn_r, blk_n, blk_r, ↓cl_r, cl_r, ↓iAdd_i, ↓iSub_i, ↓iMul_i, ↓iAnd_i, ↓iOr_i, ↓iXor_i, ↓iNeg_i, iQuo_i, iRem_i, ↓iConv_i, iConv_i, ↓bNot_b, bNot_b, ↓eqN_i, ↓ltN_i, ↓eqB_b, bnot_e, Int.ofNat_eq_natCast, Int.cast_ofNat_Int, Int.reduceBEq, Int.reduceAdd, Int.reduceNeg, Int.reduceNegSucc, Int.reduceLT, Int.reduceLE, Int.reduceMul, Int.reduceTMod, Int.reduceSub, Int.reduceBNe, Bool.not_true, Bool.not_false, decide_true, decide_false, w63_in, w31_in, ne_eq, not_false_eq_true, Int.reduceEq, reduceCtorEq, ww3131, ww6363, ww3163, ww6331, ww3231, ww3263, ww6463, ww6364, sh31, sh63, sl63, m31, m63, n63, s5a, s5b, s6a, s6b, b31, b32, b63, c63, c64, d64, iShl_c, iShr_c, sr3, sr6, sr7]
theorem loop63 {lo b pb N : Nat} {t : List Nat} (hb : b < N) (hpb : pb < N) (hne : pb ≠ b) : ∀ (n m : Nat) (q : Sq) (l : List Mv) (v : AV) (h : Hp), n < m → l.length + n ≤ 70000 → N ≤ h.nb → Wf h → CurQ h lo b t q → Pool h pb → MR h N h.nb v l →
    (ens t n q l = none ∧ ∃ h', lp L63n0 m [plv pb, .ptr b 0, .int 63 (n : Int), v] h = .ret nilF h' ∧ To (fun x => x = b ∨ N ≤ x) h h' ∧ Wf h') ∨
    (∃ r v' h', ens t n q l = some r ∧ lp L63n0 m [plv pb, .ptr b 0, .int 63 (n : Int), v] h = .exit 0 [.ptr b 0, v'] h' ∧ MR h' N h'.nb v' r.1 ∧ CurQ h' lo b t r.2 ∧ To (fun x => x = b ∨ N ≤ x) h h' ∧ Wf h') := by
  intro n
  induction n with
  | zero =>
    intro m q l v h hm hl hnb hw hc hp hr
    obtain ⟨m, rfl⟩ : ∃ k, m = k + 1 := ⟨m - 1, by omega⟩
    exact .inr ⟨(l, q), v, h, rfl, lpx m (by simp only [↓L63n0, ↓uc_c, ↓uz_n, ↓cI_i, ↓cB_b, cB_b, ↓cT_t, cT_t, nth_z, nth_1, cK_b, ↓cK_b, ↓cK_i, cK_i, ifB_t, ifB_f, ↓ap_e, sel_t, sel_f, gsel_tt, gsel_tf, gsel_ft, gsel_ff, gsel_u, gd_tt, gd_tf, gd_ft, gd_ff, gd_u, ↓jn_n, jn_n, jn_r, ↓jn_r, blk_n, blk_r, ↓cl_r, cl_r, ↓iAdd_i, ↓iSub_i, ↓iMul_i, ↓iAnd_i, ↓iOr_i, ↓iXor_i, ↓iNeg_i, iQuo_i, iRem_i, ↓iConv_i, iConv_i, ↓bNot_b, bNot_b, ↓eqN_i, ↓ltN_i, ↓eqB_b, bnot_e, Int.ofNat_eq_natCast, Int.cast_ofNat_Int, Int.reduceBEq, Int.reduceAdd, Int.reduceNeg, Int.reduceNegSucc, Int.reduceLT, Int.reduceLE, Int.reduceMul, Int.reduceTMod, Int.reduceSub, Int.reduceBNe, Bool.not_true, Bool.not_false, decide_true, decide_false, w63_in, w31_in, ne_eq, not_false_eq_true, Int.reduceEq, reduceCtorEq, ww3131, ww6363, ww3163, ww6331, ww3231, ww3263, ww6463, ww6364, sh31, sh63, sl63, m31, m63, n63, s5a, s5b, s6a, s6b, b31, b32, b63, c63, c64, d64, iShl_c, iShr_c, sr3, sr6, sr7]; try rfl), hr, hc, To.refl _ _, hw⟩
  | succ n ih =>
    intro m q l v h hm hl hnb hw hc hp hr
    obtain ⟨m, rfl⟩ : ∃ k, m = k + 1 := ⟨m - 1, by omega⟩
    have hens : ens t (n + 1) q l = match en t q with | none => none | some r => ens t n r.2 (l ++ [r.1]) := rfl
    rw [hens]
    rcases step63 (n := n) hb hpb hne (by omega) (by omega) hnb hw hc hp hr with ⟨k1, h1, e1, o1, w1⟩ | ⟨r, v1, h1, k1, e1, r1, q1, p1, o1, w1⟩
    · rw [k1]; exact .inl ⟨rfl, h1, lpr m e1, o1, w1⟩
    · rw [k1, lpn m e1]
      have nb1 := o1.nb
      rcases ih m r.2 (l ++ [r.1]) v1 h1 (by omega) (by simp; omega) (by omega) w1 q1 p1 r1 with ⟨f1, h6, f2, f4, f5⟩ | ⟨r', v6, h6, f1, f2, f3, f4, f5, f6⟩
      · exact .inl ⟨f1, h6, f2, o1.trans f4, f5⟩
      · exact .inr ⟨r', v6, h6, f1, f2, f3, f4, o1.trans f5, f6⟩
end Go.Proofs.Ytnpfppddongbhaa
