/-
  The reader of stated frames: what each of its functions answers (part Mp7).
-/
import Derived.Test.YtnpfppddongbhaaMp6
set_option linter.unusedVariables false
set_option linter.unusedSimpArgs false
namespace Go.Proofs.Ytnpfppddongbhaa
open Go Go.AM
set_option autoImplicit false
set_option linter.unusedSimpArgs false
set_option linter.unusedVariables false
theorem t87 {h : Hp} {lo b pb : Nat} {t : List Nat} {q : Sq} (hc : CurQ h lo b t q) (hp : Pool h pb) (hpb : pb ≠ b) (hw : Wf h) :
    (en t q = none ∧ ∃ g d vl vs h', one vl = true ∧ one vs = true ∧ s87 [.ptr b 0, plv pb] h = .ret (.tup (.cons (.agg (avL (mL g d vl vs))) (.cons (.bool false) .nil))) h' ∧ To (At b) h h' ∧ Wf h') ∨
    (∃ r vl vs h', en t q = some r ∧ s87 [.ptr b 0, plv pb] h = .ret (.tup (.cons (.agg (avL (mL r.1.tag r.1.delta vl vs))) (.cons (.bool true) .nil))) h' ∧ Rws h' (fun x => h.nb ≤ x) 3 vl (r.1.loc.map vP) ∧ Rws h' (fun x => h.nb ≤ x) 3 vs (r.1.stk.map vP) ∧ CurQ h' lo b t r.2 ∧ To (At b) h h' ∧ Wf h') := by
  have hb : b < h.nb := by obtain ⟨B, v, o, r⟩ := hc.own; exact o.lt
  have hpl := Ce.lt hp
  have hbyt := hc.byt
  obtain ⟨h1, m1, m1', c1, o1, w1, x1⟩ := mkM0 hw
  obtain ⟨h2, e2, q2, o2, w2⟩ := u1 (hc.to o1 (fun _ _ _ f => f)) w1
  obtain ⟨h3, m3, m3', c3, o3, w3, x3⟩ := mkM0 w2
  obtain ⟨h4, s4, c4, o4, w4, x4⟩ := Ce.stM w3 c3 (val t q 1) 0 (vl := .nils) (vs := .nils) rfl rfl
  have nb2 := o2.nb
  have q4 : CurQ h4 lo b t (adv t q 1) := (q2.to o3 (fun _ _ _ f => f)).to o4 (fun x _ hx e => by have : x = h2.nb := e; omega)
  have z4 : Ce h4 h.nb (mL 0 0 .nils .nils) := ((c1.to o2 (fun e => by have : h.nb = b := e; omega)).to o3 (fun f => f)).to o4 (fun e => by have : h.nb = h2.nb := e; omega)
  have o14 : To (fun x => x = b ∨ h.nb ≤ x) h h4 := (((o1.mono fun _ _ f => f.elim).trans (o2.mono fun x _ e => .inl e)).trans (o3.mono fun _ _ f => f.elim)).trans (o4.mono fun x _ e => by have : x = h2.nb := e; exact .inr (by omega))
  have fin : ∀ {g : Hp}, To (fun x => x = b ∨ h.nb ≤ x) h g → To (At b) h g := fun tt => tt.mono fun x hx e => by
    rcases e with e | e
    · exact e
    · omega
  have p4 : Pool h4 pb := hp.to o14 (fun e => by rcases e with e | e; exact hpb e; omega)
  obtain ⟨l4, l4'⟩ := Ce.lM c4
  have g256 : val t q 1 < 256 := val_lt hbyt q 1
  have gp : gsel (.bool true) true (.ptr b 0) = .ptr b 0 := rfl
  have gb_ : ∀ x : Bool, gsel (.bool true) true (.bool x) = .bool x := fun x => rfl
  by_cases k64 : val t q 1 < 64
  · have i64 : ((val t q 1 : Nat) : Int) < 64 := by omega
    obtain ⟨g1, s2, s2', c3, t4, w5, y6⟩ := Ce.sD w4 c4 (val t q 1)
    have q7 := q4.to t4 (fun x _ hx e => by have : x = h2.nb := e; omega)
    have z8 := z4.to t4 (fun e => by have : h.nb = h2.nb := e; omega)
    have o9 := o14.trans (t4.mono fun x _ e => by have : x = h2.nb := e; exact Or.inr (by omega))
    have p10 : Pool g1 pb := p4.to t4 (fun e => by have : pb = h2.nb := e; omega)
    have e11 := t30 q7
    have d12 := fun kk => Ce.ldM c3 kk
    obtain ⟨g13, s14, c15, t16, w17, y18⟩ := Ce.stM w5 z8 (val t q 1) (val t q 1) (vl := .nils) (vs := .nils) rfl rfl
    have d19 := fun kk => Ce.ldM c15 kk
    have sm20 := fun kk => same_mL (g := (val t q 1)) (d := (val t q 1)) nil_eqA nil_eqA kk
    have fo21 : To (fun x => x = b ∨ h.nb ≤ x) h g13 := o9.trans (t16.mono fun x _ e => by have : x = h.nb := e; exact Or.inr (by omega))
    have he22 : en t q = fn ⟨(val t q 1), (val t q 1), [], []⟩ (adv t q 1) := by unfold en; rw [if_pos k64]
    cases hq : (adv t q 1).2 with
    | true =>
      rw [hq] at e11
      refine .inl ⟨by rw [he22]; unfold fn; rw [hq]; rfl, (val t q 1), (val t q 1), .nils, .nils, g13, rfl, rfl, ?_, fin fo21, w17⟩
      simp only [↓s87, ↓m1, ↓m1', ↓e2, ↓bldM, ↓bldM', ↓m3, ↓m3', ↓s4, ↓cP_p, ↓l4, ↓l4', i64, ↓s2, ↓s2', ↓d12, ↓gp, ↓gb_, ↓e11, ↓sm20, ↓s14, ↓d19, ↓cK_agg, ↓cK_nils, nth_z, nth_1, Bool.not_true, Bool.not_false, ↓uc_c, ↓uz_n, ↓cI_i, ↓cB_b, cB_b, ↓cT_t, cT_t, nth_z, nth_1, cK_b, ↓cK_b, ↓cK_i, cK_i, ifB_t, ifB_f, ↓ap_e, sel_t, sel_f, gsel_tt, gsel_tf, gsel_ft, gsel_ff, gsel_u, gd_tt, gd_tf, gd_ft, gd_ff, gd_u, ↓jn_n, jn_n, jn_r, ↓jn_r, blk_n, blk_r, ↓cl_r, cl_r, ↓iAdd_i, ↓iSub_i, ↓iMul_i, ↓iAnd_i, ↓iOr_i, ↓iXor_i, ↓iNeg_i, iQuo_i, iRem_i, ↓iConv_i, iConv_i, ↓bNot_b, bNot_b, ↓eqN_i, ↓ltN_i, ↓eqB_b, bnot_e, Int.ofNat_eq_natCast, Int.cast_ofNat_Int, Int.reduceBEq, Int.reduceAdd, Int.reduceNeg, Int.reduceNegSucc, Int.reduceLT, Int.reduceLE, Int.reduceMul, Int.reduceTMod, Int.reduceSub, Int.reduceBNe, Bool.not_true, Bool.not_false, decide_true, decide_false, w63_in, w31_in, ne_eq, not_false_eq_true, Int.reduceEq, reduceCtorEq, ww3131, ww6363, ww3163, ww6331, ww3231, ww3263, ww6463, ww6364, sh31, sh63, sl63, m31, m63, n63, s5a, s5b, s6a, s6b, b31, b32, b63, c63, c64, d64, iShl_c, iShr_c, sr3, sr6, sr7]
    | false =>
      rw [hq] at e11
      refine .inr ⟨(⟨(val t q 1), (val t q 1), [], []⟩, (adv t q 1)), .nils, .nils, g13, by rw [he22]; unfold fn; rw [hq]; rfl, ?_, (Rws.nil _ _ _), (Rws.nil _ _ _), q7.to t16 (fun x _ hx e => by have : x = h.nb := e; omega), fin fo21, w17⟩
      simp only [↓s87, ↓m1, ↓m1', ↓e2, ↓bldM, ↓bldM', ↓m3, ↓m3', ↓s4, ↓cP_p, ↓l4, ↓l4', i64, ↓s2, ↓s2', ↓d12, ↓gp, ↓gb_, ↓e11, ↓sm20, ↓s14, ↓d19, ↓cK_agg, ↓cK_nils, nth_z, nth_1, Bool.not_true, Bool.not_false, ↓uc_c, ↓uz_n, ↓cI_i, ↓cB_b, cB_b, ↓cT_t, cT_t, nth_z, nth_1, cK_b, ↓cK_b, ↓cK_i, cK_i, ifB_t, ifB_f, ↓ap_e, sel_t, sel_f, gsel_tt, gsel_tf, gsel_ft, gsel_ff, gsel_u, gd_tt, gd_tf, gd_ft, gd_ff, gd_u, ↓jn_n, jn_n, jn_r, ↓jn_r, blk_n, blk_r, ↓cl_r, cl_r, ↓iAdd_i, ↓iSub_i, ↓iMul_i, ↓iAnd_i, ↓iOr_i, ↓iXor_i, ↓iNeg_i, iQuo_i, iRem_i, ↓iConv_i, iConv_i, ↓bNot_b, bNot_b, ↓eqN_i, ↓ltN_i, ↓eqB_b, bnot_e, Int.ofNat_eq_natCast, Int.cast_ofNat_Int, Int.reduceBEq, Int.reduceAdd, Int.reduceNeg, Int.reduceNegSucc, Int.reduceLT, Int.reduceLE, Int.reduceMul, Int.reduceTMod, Int.reduceSub, Int.reduceBNe, Bool.not_true, Bool.not_false, decide_true, decide_false, w63_in, w31_in, ne_eq, not_false_eq_true, Int.reduceEq, reduceCtorEq, ww3131, ww6363, ww3163, ww6331, ww3231, ww3263, ww6463, ww6364, sh31, sh63, sl63, m31, m63, n63, s5a, s5b, s6a, s6b, b31, b32, b63, c63, c64, d64, iShl_c, iShr_c, sr3, sr6, sr7]
  have i64 : ¬ ((val t q 1 : Nat) : Int) < 64 := by omega
  by_cases k128 : val t q 1 < 128
  · have i128 : ((val t q 1 : Nat) : Int) < 128 := by omega
    have u64 : wrapC 63 (((val t q 1 : Nat) : Int) - 64) = ((val t q 1 - 64 : Nat) : Int) := by rw [w63_in _ (by omega) (by omega)]; omega
    obtain ⟨g23, s24, s24', c25, t26, w27, y28⟩ := Ce.sD w4 c4 (val t q 1 - 64)
    have q29 := q4.to t26 (fun x _ hx e => by have : x = h2.nb := e; omega)
    have z30 := z4.to t26 (fun e => by have : h.nb = h2.nb := e; omega)
    have o31 := o14.trans (t26.mono fun x _ e => by have : x = h2.nb := e; exact Or.inr (by omega))
    have p32 : Pool g23 pb := p4.to t26 (fun e => by have : pb = h2.nb := e; omega)
    have lt33 := Ce.lt c25
    rcases t108 q29 p32 hpb w27 1 (by omega) with ⟨kn34, g35, e36, ⟨qx37, q38⟩, t39, w40⟩ | ⟨⟨l41, qq42⟩, vv43, g35, ks44, e36, r45, q38, t39, w40⟩
    ·
      have e36' : s108 [.ptr b 0, plv pb, .int 63 1] g23 = .ret nilF g35 := e36
      have z46 := z30.to t39 (fun e => by have : h.nb = b := e; omega)
      have c47 := c25.to t39 (fun e => by have : h2.nb = b := e; omega)
      have o48 := o31.trans (t39.mono fun x _ e => Or.inl e)
      have p49 : Pool g35 pb := p32.to t39 (fun e => hpb e)
      obtain ⟨g50, s51, s51', c52, t53, w54, y55⟩ := Ce.sS w40 c47 .nils rfl
      have q56 := q38.to t53 (fun x _ hx e => by have : x = h2.nb := e; omega)
      have z57 := z46.to t53 (fun e => by have : h.nb = h2.nb := e; omega)
      have o58 := o48.trans (t53.mono fun x _ e => by have : x = h2.nb := e; exact Or.inr (by omega))
      have p59 : Pool g50 pb := p49.to t53 (fun e => by have : pb = h2.nb := e; omega)
      have d60 := fun kk => Ce.ldM c52 kk
      obtain ⟨g61, s62, c63, t64, w65, y66⟩ := Ce.stM w54 z57 (val t q 1) (val t q 1 - 64) (vl := .nils) (vs := .nils) rfl rfl
      have d67 := fun kk => Ce.ldM c63 kk
      have sm68 := fun kk => same_mL (g := (val t q 1)) (d := (val t q 1 - 64)) nil_eqA nil_eqA kk
      have fo69 : To (fun x => x = b ∨ h.nb ≤ x) h g61 := o58.trans (t64.mono fun x _ e => by have : x = h.nb := e; exact Or.inr (by omega))
      refine .inl ⟨by unfold en; rw [if_neg k64, if_pos k128, kn34], (val t q 1), (val t q 1 - 64), .nils, .nils, g61, rfl, rfl, ?_, fin fo69, w65⟩
      simp only [↓s87, ↓m1, ↓m1', ↓e2, ↓bldM, ↓bldM', ↓m3, ↓m3', ↓s4, ↓cP_p, ↓l4, ↓l4', i64, i128, u64, ↓s24, ↓s24', ↓e36, ↓e36', ↓s51, ↓s51', ↓d60, ↓gp, ↓gb_, ↓sm68, ↓s62, ↓d67, ↓cK_agg, ↓cK_nils, nth_z, nth_1, ↓uc_c, ↓uz_n, ↓cI_i, ↓cB_b, cB_b, ↓cT_t, cT_t, nth_z, nth_1, cK_b, ↓cK_b, ↓cK_i, cK_i, ifB_t, ifB_f, ↓ap_e, sel_t, sel_f, gsel_tt, gsel_tf, gsel_ft, gsel_ff, gsel_u, gd_tt, gd_tf, gd_ft, gd_ff, gd_u, ↓jn_n, jn_n, jn_r, ↓jn_r, blk_n, blk_r, ↓cl_r, cl_r, ↓iAdd_i, ↓iSub_i, ↓iMul_i, ↓iAnd_i, ↓iOr_i, ↓iXor_i, ↓iNeg_i, iQuo_i, iRem_i, ↓iConv_i, iConv_i, ↓bNot_b, bNot_b, ↓eqN_i, ↓ltN_i, ↓eqB_b, bnot_e, Int.ofNat_eq_natCast, Int.cast_ofNat_Int, Int.reduceBEq, Int.reduceAdd, Int.reduceNeg, Int.reduceNegSucc, Int.reduceLT, Int.reduceLE, Int.reduceMul, Int.reduceTMod, Int.reduceSub, Int.reduceBNe, Bool.not_true, Bool.not_false, decide_true, decide_false, w63_in, w31_in, ne_eq, not_false_eq_true, Int.reduceEq, reduceCtorEq, ww3131, ww6363, ww3163, ww6331, ww3231, ww3263, ww6463, ww6364, sh31, sh63, sl63, m31, m63, n63, s5a, s5b, s6a, s6b, b31, b32, b63, c63, c64, d64, iShl_c, iShr_c, sr3, sr6, sr7]
    ·
      have r45 : Rws g35 (fun x => g23.nb ≤ x) 3 vv43 (l41.map vP) := r45
      have q38 : CurQ g35 lo b t qq42 := q38
      have e36' : s108 [.ptr b 0, plv pb, .int 63 1] g23 = .ret (.tup (.cons vv43 (.cons (.bool true) .nil))) g35 := e36
      have z70 := z30.to t39 (fun e => by have : h.nb = b := e; omega)
      have c71 := c25.to t39 (fun e => by have : h2.nb = b := e; omega)
      have o72 := o31.trans (t39.mono fun x _ e => Or.inl e)
      have p73 : Pool g35 pb := p32.to t39 (fun e => hpb e)
      have ck74 := fun kk => r45.cK kk
      have on75 := r45.one
      have ea76 := Rws.eqA r45 (by decide)
      obtain ⟨g77, s78, s78', c79, t80, w81, y82⟩ := Ce.sS w40 c71 vv43 on75
      have q83 := q38.to t80 (fun x _ hx e => by have : x = h2.nb := e; omega)
      have z84 := z70.to t80 (fun e => by have : h.nb = h2.nb := e; omega)
      have o85 := o72.trans (t80.mono fun x _ e => by have : x = h2.nb := e; exact Or.inr (by omega))
      have p86 : Pool g77 pb := p73.to t80 (fun e => by have : pb = h2.nb := e; omega)
      have r87 := r45.to t80 (fun x hx _ e => by have hx : g23.nb ≤ x := hx; have : x = h2.nb := e; omega)
      have e88 := t30 q83
      have d89 := fun kk => Ce.ldM c79 kk
      obtain ⟨g90, s91, c92, t93, w94, y95⟩ := Ce.stM w81 z84 (val t q 1) (val t q 1 - 64) (vl := .nils) (vs := vv43) rfl on75
      have d96 := fun kk => Ce.ldM c92 kk
      have sm97 := fun kk => same_mL (g := (val t q 1)) (d := (val t q 1 - 64)) nil_eqA ea76 kk
      have fo98 : To (fun x => x = b ∨ h.nb ≤ x) h g90 := o85.trans (t93.mono fun x _ e => by have : x = h.nb := e; exact Or.inr (by omega))
      have he99 : en t q = fn ⟨(val t q 1), (val t q 1 - 64), [], l41⟩ qq42 := by unfold en; rw [if_neg k64, if_pos k128, ks44]
      cases hq : qq42.2 with
      | true =>
        rw [hq] at e88
        refine .inl ⟨by rw [he99]; unfold fn; rw [hq]; rfl, (val t q 1), (val t q 1 - 64), .nils, vv43, g90, rfl, on75, ?_, fin fo98, w94⟩
        simp only [↓s87, ↓m1, ↓m1', ↓e2, ↓bldM, ↓bldM', ↓m3, ↓m3', ↓s4, ↓cP_p, ↓l4, ↓l4', i64, i128, u64, ↓s24, ↓s24', ↓e36, ↓e36', ↓ck74, ↓s78, ↓s78', ↓d89, ↓gp, ↓gb_, ↓e88, ↓sm97, ↓s91, ↓d96, ↓cK_agg, ↓cK_nils, nth_z, nth_1, Bool.not_true, Bool.not_false, ↓uc_c, ↓uz_n, ↓cI_i, ↓cB_b, cB_b, ↓cT_t, cT_t, nth_z, nth_1, cK_b, ↓cK_b, ↓cK_i, cK_i, ifB_t, ifB_f, ↓ap_e, sel_t, sel_f, gsel_tt, gsel_tf, gsel_ft, gsel_ff, gsel_u, gd_tt, gd_tf, gd_ft, gd_ff, gd_u, ↓jn_n, jn_n, jn_r, ↓jn_r, blk_n, blk_r, ↓cl_r, cl_r, ↓iAdd_i, ↓iSub_i, ↓iMul_i, ↓iAnd_i, ↓iOr_i, ↓iXor_i, ↓iNeg_i, iQuo_i, iRem_i, ↓iConv_i, iConv_i, ↓bNot_b, bNot_b, ↓eqN_i, ↓ltN_i, ↓eqB_b, bnot_e, Int.ofNat_eq_natCast, Int.cast_ofNat_Int, Int.reduceBEq, Int.reduceAdd, Int.reduceNeg, Int.reduceNegSucc, Int.reduceLT, Int.reduceLE, Int.reduceMul, Int.reduceTMod, Int.reduceSub, Int.reduceBNe, Bool.not_true, Bool.not_false, decide_true, decide_false, w63_in, w31_in, ne_eq, not_false_eq_true, Int.reduceEq, reduceCtorEq, ww3131, ww6363, ww3163, ww6331, ww3231, ww3263, ww6463, ww6364, sh31, sh63, sl63, m31, m63, n63, s5a, s5b, s6a, s6b, b31, b32, b63, c63, c64, d64, iShl_c, iShr_c, sr3, sr6, sr7]
      | false =>
        rw [hq] at e88
        refine .inr ⟨(⟨(val t q 1), (val t q 1 - 64), [], l41⟩, qq42), .nils, vv43, g90, by rw [he99]; unfold fn; rw [hq]; rfl, ?_, (Rws.nil _ _ _), ((r87.to t93 (fun x hx _ e => by have hx : g23.nb ≤ x := hx; have : x = h.nb := e; omega)).mono fun x hx _ => by have hx : g23.nb ≤ x := hx; show h.nb ≤ x; omega), q83.to t93 (fun x _ hx e => by have : x = h.nb := e; omega), fin fo98, w94⟩
        simp only [↓s87, ↓m1, ↓m1', ↓e2, ↓bldM, ↓bldM', ↓m3, ↓m3', ↓s4, ↓cP_p, ↓l4, ↓l4', i64, i128, u64, ↓s24, ↓s24', ↓e36, ↓e36', ↓ck74, ↓s78, ↓s78', ↓d89, ↓gp, ↓gb_, ↓e88, ↓sm97, ↓s91, ↓d96, ↓cK_agg, ↓cK_nils, nth_z, nth_1, Bool.not_true, Bool.not_false, ↓uc_c, ↓uz_n, ↓cI_i, ↓cB_b, cB_b, ↓cT_t, cT_t, nth_z, nth_1, cK_b, ↓cK_b, ↓cK_i, cK_i, ifB_t, ifB_f, ↓ap_e, sel_t, sel_f, gsel_tt, gsel_tf, gsel_ft, gsel_ff, gsel_u, gd_tt, gd_tf, gd_ft, gd_ff, gd_u, ↓jn_n, jn_n, jn_r, ↓jn_r, blk_n, blk_r, ↓cl_r, cl_r, ↓iAdd_i, ↓iSub_i, ↓iMul_i, ↓iAnd_i, ↓iOr_i, ↓iXor_i, ↓iNeg_i, iQuo_i, iRem_i, ↓iConv_i, iConv_i, ↓bNot_b, bNot_b, ↓eqN_i, ↓ltN_i, ↓eqB_b, bnot_e, Int.ofNat_eq_natCast, Int.cast_ofNat_Int, Int.reduceBEq, Int.reduceAdd, Int.reduceNeg, Int.reduceNegSucc, Int.reduceLT, Int.reduceLE, Int.reduceMul, Int.reduceTMod, Int.reduceSub, Int.reduceBNe, Bool.not_true, Bool.not_false, decide_true, decide_false, w63_in, w31_in, ne_eq, not_false_eq_true, Int.reduceEq, reduceCtorEq, ww3131, ww6363, ww3163, ww6331, ww3231, ww3263, ww6463, ww6364, sh31, sh63, sl63, m31, m63, n63, s5a, s5b, s6a, s6b, b31, b32, b63, c63, c64, d64, iShl_c, iShr_c, sr3, sr6, sr7]
  have i128 : ¬ ((val t q 1 : Nat) : Int) < 128 := by omega
  by_cases k247 : val t q 1 < 247
  · have i247 : ((val t q 1 : Nat) : Int) < 247 := by omega
    have d100 := fun kk => Ce.ldM c4 kk
    obtain ⟨g101, s102, c103, t104, w105, y106⟩ := Ce.stM w4 z4 (val t q 1) 0 (vl := .nils) (vs := .nils) rfl rfl
    have d107 := fun kk => Ce.ldM c103 kk
    have sm108 := fun kk => same_mL (g := (val t q 1)) (d := 0) nil_eqA nil_eqA kk
    have fo109 : To (fun x => x = b ∨ h.nb ≤ x) h g101 := o14.trans (t104.mono fun x _ e => by have : x = h.nb := e; exact Or.inr (by omega))
    refine .inl ⟨by unfold en; rw [if_neg k64, if_neg k128, if_pos k247], (val t q 1), 0, .nils, .nils, g101, rfl, rfl, ?_, fin fo109, w105⟩
    simp only [↓s87, ↓m1, ↓m1', ↓e2, ↓bldM, ↓bldM', ↓m3, ↓m3', ↓s4, ↓cP_p, ↓l4, ↓l4', i64, i128, i247, ↓d100, ↓gp, ↓gb_, ↓sm108, ↓s102, ↓d107, ↓cK_agg, ↓cK_nils, nth_z, nth_1, ↓uc_c, ↓uz_n, ↓cI_i, ↓cB_b, cB_b, ↓cT_t, cT_t, nth_z, nth_1, cK_b, ↓cK_b, ↓cK_i, cK_i, ifB_t, ifB_f, ↓ap_e, sel_t, sel_f, gsel_tt, gsel_tf, gsel_ft, gsel_ff, gsel_u, gd_tt, gd_tf, gd_ft, gd_ff, gd_u, ↓jn_n, jn_n, jn_r, ↓jn_r, blk_n, blk_r, ↓cl_r, cl_r, ↓iAdd_i, ↓iSub_i, ↓iMul_i, ↓iAnd_i, ↓iOr_i, ↓iXor_i, ↓iNeg_i, iQuo_i, iRem_i, ↓iConv_i, iConv_i, ↓bNot_b, bNot_b, ↓eqN_i, ↓ltN_i, ↓eqB_b, bnot_e, Int.ofNat_eq_natCast, Int.cast_ofNat_Int, Int.reduceBEq, Int.reduceAdd, Int.reduceNeg, Int.reduceNegSucc, Int.reduceLT, Int.reduceLE, Int.reduceMul, Int.reduceTMod, Int.reduceSub, Int.reduceBNe, Bool.not_true, Bool.not_false, decide_true, decide_false, w63_in, w31_in, ne_eq, not_false_eq_true, Int.reduceEq, reduceCtorEq, ww3131, ww6363, ww3163, ww6331, ww3231, ww3263, ww6463, ww6364, sh31, sh63, sl63, m31, m63, n63, s5a, s5b, s6a, s6b, b31, b32, b63, c63, c64, d64, iShl_c, iShr_c, sr3, sr6, sr7]
  have i247 : ¬ ((val t q 1 : Nat) : Int) < 247 := by omega
  have f247 : (((val t q 1 : Nat) : Int) == 247) = decide (val t q 1 = 247) := nbeq _ 247
  by_cases e247 : val t q 1 = 247
  · rw [decide_eq_true e247] at f247
    obtain ⟨g110, e111, q112, t113, w114⟩ := u2 q4 w4
    have z115 := z4.to t113 (fun e => by have : h.nb = b := e; omega)
    have c116 := c4.to t113 (fun e => by have : h2.nb = b := e; omega)
    have o117 := o14.trans (t113.mono fun x _ e => Or.inl e)
    have p118 : Pool g110 pb := p4.to t113 (fun e => hpb e)
    obtain ⟨g119, s120, s120', c121, t122, w123, y124⟩ := Ce.sD w114 c116 (val t (adv t q 1) 2)
    have q125 := q112.to t122 (fun x _ hx e => by have : x = h2.nb := e; omega)
    have z126 := z115.to t122 (fun e => by have : h.nb = h2.nb := e; omega)
    have o127 := o117.trans (t122.mono fun x _ e => by have : x = h2.nb := e; exact Or.inr (by omega))
    have p128 : Pool g119 pb := p118.to t122 (fun e => by have : pb = h2.nb := e; omega)
    have lt129 := Ce.lt c121
    rcases t108 q125 p128 hpb w123 1 (by omega) with ⟨kn130, g131, e132, ⟨qx133, q134⟩, t135, w136⟩ | ⟨⟨l137, qq138⟩, vv139, g131, ks140, e132, r141, q134, t135, w136⟩
    ·
      have e132' : s108 [.ptr b 0, plv pb, .int 63 1] g119 = .ret nilF g131 := e132
      have z142 := z126.to t135 (fun e => by have : h.nb = b := e; omega)
      have c143 := c121.to t135 (fun e => by have : h2.nb = b := e; omega)
      have o144 := o127.trans (t135.mono fun x _ e => Or.inl e)
      have p145 : Pool g131 pb := p128.to t135 (fun e => hpb e)
      obtain ⟨g146, s147, s147', c148, t149, w150, y151⟩ := Ce.sS w136 c143 .nils rfl
      have q152 := q134.to t149 (fun x _ hx e => by have : x = h2.nb := e; omega)
      have z153 := z142.to t149 (fun e => by have : h.nb = h2.nb := e; omega)
      have o154 := o144.trans (t149.mono fun x _ e => by have : x = h2.nb := e; exact Or.inr (by omega))
      have p155 : Pool g146 pb := p145.to t149 (fun e => by have : pb = h2.nb := e; omega)
      have d156 := fun kk => Ce.ldM c148 kk
      obtain ⟨g157, s158, c159, t160, w161, y162⟩ := Ce.stM w150 z153 (val t q 1) (val t (adv t q 1) 2) (vl := .nils) (vs := .nils) rfl rfl
      have d163 := fun kk => Ce.ldM c159 kk
      have sm164 := fun kk => same_mL (g := (val t q 1)) (d := (val t (adv t q 1) 2)) nil_eqA nil_eqA kk
      have fo165 : To (fun x => x = b ∨ h.nb ≤ x) h g157 := o154.trans (t160.mono fun x _ e => by have : x = h.nb := e; exact Or.inr (by omega))
      refine .inl ⟨by unfold en; rw [if_neg k64, if_neg k128, if_neg k247, if_pos e247, kn130], (val t q 1), (val t (adv t q 1) 2), .nils, .nils, g157, rfl, rfl, ?_, fin fo165, w161⟩
      simp only [↓s87, ↓m1, ↓m1', ↓e2, ↓bldM, ↓bldM', ↓m3, ↓m3', ↓s4, ↓cP_p, ↓l4, ↓l4', i64, i128, i247, f247, ↓e111, ↓s120, ↓s120', ↓e132, ↓e132', ↓s147, ↓s147', ↓d156, ↓gp, ↓gb_, ↓sm164, ↓s158, ↓d163, ↓cK_agg, ↓cK_nils, nth_z, nth_1, ↓uc_c, ↓uz_n, ↓cI_i, ↓cB_b, cB_b, ↓cT_t, cT_t, nth_z, nth_1, cK_b, ↓cK_b, ↓cK_i, cK_i, ifB_t, ifB_f, ↓ap_e, sel_t, sel_f, gsel_tt, gsel_tf, gsel_ft, gsel_ff, gsel_u, gd_tt, gd_tf, gd_ft, gd_ff, gd_u, ↓jn_n, jn_n, jn_r, ↓jn_r, blk_n, blk_r, ↓cl_r, cl_r, ↓iAdd_i, ↓iSub_i, ↓iMul_i, ↓iAnd_i, ↓iOr_i, ↓iXor_i, ↓iNeg_i, iQuo_i, iRem_i, ↓iConv_i, iConv_i, ↓bNot_b, bNot_b, ↓eqN_i, ↓ltN_i, ↓eqB_b, bnot_e, Int.ofNat_eq_natCast, Int.cast_ofNat_Int, Int.reduceBEq, Int.reduceAdd, Int.reduceNeg, Int.reduceNegSucc, Int.reduceLT, Int.reduceLE, Int.reduceMul, Int.reduceTMod, Int.reduceSub, Int.reduceBNe, Bool.not_true, Bool.not_false, decide_true, decide_false, w63_in, w31_in, ne_eq, not_false_eq_true, Int.reduceEq, reduceCtorEq, ww3131, ww6363, ww3163, ww6331, ww3231, ww3263, ww6463, ww6364, sh31, sh63, sl63, m31, m63, n63, s5a, s5b, s6a, s6b, b31, b32, b63, c63, c64, d64, iShl_c, iShr_c, sr3, sr6, sr7]
    ·
      have r141 : Rws g131 (fun x => g119.nb ≤ x) 3 vv139 (l137.map vP) := r141
      have q134 : CurQ g131 lo b t qq138 := q134
      have e132' : s108 [.ptr b 0, plv pb, .int 63 1] g119 = .ret (.tup (.cons vv139 (.cons (.bool true) .nil))) g131 := e132
      have z166 := z126.to t135 (fun e => by have : h.nb = b := e; omega)
      have c167 := c121.to t135 (fun e => by have : h2.nb = b := e; omega)
      have o168 := o127.trans (t135.mono fun x _ e => Or.inl e)
      have p169 : Pool g131 pb := p128.to t135 (fun e => hpb e)
      have ck170 := fun kk => r141.cK kk
      have on171 := r141.one
      have ea172 := Rws.eqA r141 (by decide)
      obtain ⟨g173, s174, s174', c175, t176, w177, y178⟩ := Ce.sS w136 c167 vv139 on171
      have q179 := q134.to t176 (fun x _ hx e => by have : x = h2.nb := e; omega)
      have z180 := z166.to t176 (fun e => by have : h.nb = h2.nb := e; omega)
      have o181 := o168.trans (t176.mono fun x _ e => by have : x = h2.nb := e; exact Or.inr (by omega))
      have p182 : Pool g173 pb := p169.to t176 (fun e => by have : pb = h2.nb := e; omega)
      have r183 := r141.to t176 (fun x hx _ e => by have hx : g119.nb ≤ x := hx; have : x = h2.nb := e; omega)
      have e184 := t30 q179
      have d185 := fun kk => Ce.ldM c175 kk
      obtain ⟨g186, s187, c188, t189, w190, y191⟩ := Ce.stM w177 z180 (val t q 1) (val t (adv t q 1) 2) (vl := .nils) (vs := vv139) rfl on171
      have d192 := fun kk => Ce.ldM c188 kk
      have sm193 := fun kk => same_mL (g := (val t q 1)) (d := (val t (adv t q 1) 2)) nil_eqA ea172 kk
      have fo194 : To (fun x => x = b ∨ h.nb ≤ x) h g186 := o181.trans (t189.mono fun x _ e => by have : x = h.nb := e; exact Or.inr (by omega))
      have he195 : en t q = fn ⟨(val t q 1), (val t (adv t q 1) 2), [], l137⟩ qq138 := by unfold en; rw [if_neg k64, if_neg k128, if_neg k247, if_pos e247, ks140]
      cases hq : qq138.2 with
      | true =>
        rw [hq] at e184
        refine .inl ⟨by rw [he195]; unfold fn; rw [hq]; rfl, (val t q 1), (val t (adv t q 1) 2), .nils, vv139, g186, rfl, on171, ?_, fin fo194, w190⟩
        simp only [↓s87, ↓m1, ↓m1', ↓e2, ↓bldM, ↓bldM', ↓m3, ↓m3', ↓s4, ↓cP_p, ↓l4, ↓l4', i64, i128, i247, f247, ↓e111, ↓s120, ↓s120', ↓e132, ↓e132', ↓ck170, ↓s174, ↓s174', ↓d185, ↓gp, ↓gb_, ↓e184, ↓sm193, ↓s187, ↓d192, ↓cK_agg, ↓cK_nils, nth_z, nth_1, Bool.not_true, Bool.not_false, ↓uc_c, ↓uz_n, ↓cI_i, ↓cB_b, cB_b, ↓cT_t, cT_t, nth_z, nth_1, cK_b, ↓cK_b, ↓cK_i, cK_i, ifB_t, ifB_f, ↓ap_e, sel_t, sel_f, gsel_tt, gsel_tf, gsel_ft, gsel_ff, gsel_u, gd_tt, gd_tf, gd_ft, gd_ff, gd_u, ↓jn_n, jn_n, jn_r, ↓jn_r, blk_n, blk_r, ↓cl_r, cl_r, ↓iAdd_i, ↓iSub_i, ↓iMul_i, ↓iAnd_i, ↓iOr_i, ↓iXor_i, ↓iNeg_i, iQuo_i, iRem_i, ↓iConv_i, iConv_i, ↓bNot_b, bNot_b, ↓eqN_i, ↓ltN_i, ↓eqB_b, bnot_e, Int.ofNat_eq_natCast, Int.cast_ofNat_Int, Int.reduceBEq, Int.reduceAdd, Int.reduceNeg, Int.reduceNegSucc, Int.reduceLT, Int.reduceLE, Int.reduceMul, Int.reduceTMod, Int.reduceSub, Int.reduceBNe, Bool.not_true, Bool.not_false, decide_true, decide_false, w63_in, w31_in, ne_eq, not_false_eq_true, Int.reduceEq, reduceCtorEq, ww3131, ww6363, ww3163, ww6331, ww3231, ww3263, ww6463, ww6364, sh31, sh63, sl63, m31, m63, n63, s5a, s5b, s6a, s6b, b31, b32, b63, c63, c64, d64, iShl_c, iShr_c, sr3, sr6, sr7]
      | false =>
        rw [hq] at e184
        refine .inr ⟨(⟨(val t q 1), (val t (adv t q 1) 2), [], l137⟩, qq138), .nils, vv139, g186, by rw [he195]; unfold fn; rw [hq]; rfl, ?_, (Rws.nil _ _ _), ((r183.to t189 (fun x hx _ e => by have hx : g119.nb ≤ x := hx; have : x = h.nb := e; omega)).mono fun x hx _ => by have hx : g119.nb ≤ x := hx; show h.nb ≤ x; omega), q179.to t189 (fun x _ hx e => by have : x = h.nb := e; omega), fin fo194, w190⟩
        simp only [↓s87, ↓m1, ↓m1', ↓e2, ↓bldM, ↓bldM', ↓m3, ↓m3', ↓s4, ↓cP_p, ↓l4, ↓l4', i64, i128, i247, f247, ↓e111, ↓s120, ↓s120', ↓e132, ↓e132', ↓ck170, ↓s174, ↓s174', ↓d185, ↓gp, ↓gb_, ↓e184, ↓sm193, ↓s187, ↓d192, ↓cK_agg, ↓cK_nils, nth_z, nth_1, Bool.not_true, Bool.not_false, ↓uc_c, ↓uz_n, ↓cI_i, ↓cB_b, cB_b, ↓cT_t, cT_t, nth_z, nth_1, cK_b, ↓cK_b, ↓cK_i, cK_i, ifB_t, ifB_f, ↓ap_e, sel_t, sel_f, gsel_tt, gsel_tf, gsel_ft, gsel_ff, gsel_u, gd_tt, gd_tf, gd_ft, gd_ff, gd_u, ↓jn_n, jn_n, jn_r, ↓jn_r, blk_n, blk_r, ↓cl_r, cl_r, ↓iAdd_i, ↓iSub_i, ↓iMul_i, ↓iAnd_i, ↓iOr_i, ↓iXor_i, ↓iNeg_i, iQuo_i, iRem_i, ↓iConv_i, iConv_i, ↓bNot_b, bNot_b, ↓eqN_i, ↓ltN_i, ↓eqB_b, bnot_e, Int.ofNat_eq_natCast, Int.cast_ofNat_Int, Int.reduceBEq, Int.reduceAdd, Int.reduceNeg, Int.reduceNegSucc, Int.reduceLT, Int.reduceLE, Int.reduceMul, Int.reduceTMod, Int.reduceSub, Int.reduceBNe, Bool.not_true, Bool.not_false, decide_true, decide_false, w63_in, w31_in, ne_eq, not_false_eq_true, Int.reduceEq, reduceCtorEq, ww3131, ww6363, ww3163, ww6331, ww3231, ww3263, ww6463, ww6364, sh31, sh63, sl63, m31, m63, n63, s5a, s5b, s6a, s6b, b31, b32, b63, c63, c64, d64, iShl_c, iShr_c, sr3, sr6, sr7]
  rw [decide_eq_false e247] at f247
  by_cases k252 : val t q 1 < 252
  · have i251 : ¬ (251 : Int) < ((val t q 1 : Nat) : Int) := by omega
    obtain ⟨g196, e197, q198, t199, w200⟩ := u2 q4 w4
    have z201 := z4.to t199 (fun e => by have : h.nb = b := e; omega)
    have c202 := c4.to t199 (fun e => by have : h2.nb = b := e; omega)
    have o203 := o14.trans (t199.mono fun x _ e => Or.inl e)
    have p204 : Pool g196 pb := p4.to t199 (fun e => hpb e)
    obtain ⟨g205, s206, s206', c207, t208, w209, y210⟩ := Ce.sD w200 c202 (val t (adv t q 1) 2)
    have q211 := q198.to t208 (fun x _ hx e => by have : x = h2.nb := e; omega)
    have z212 := z201.to t208 (fun e => by have : h.nb = h2.nb := e; omega)
    have o213 := o203.trans (t208.mono fun x _ e => by have : x = h2.nb := e; exact Or.inr (by omega))
    have p214 : Pool g205 pb := p204.to t208 (fun e => by have : pb = h2.nb := e; omega)
    have e215 := t30 q211
    have d216 := fun kk => Ce.ldM c207 kk
    obtain ⟨g217, s218, c219, t220, w221, y222⟩ := Ce.stM w209 z212 (val t q 1) (val t (adv t q 1) 2) (vl := .nils) (vs := .nils) rfl rfl
    have d223 := fun kk => Ce.ldM c219 kk
    have sm224 := fun kk => same_mL (g := (val t q 1)) (d := (val t (adv t q 1) 2)) nil_eqA nil_eqA kk
    have fo225 : To (fun x => x = b ∨ h.nb ≤ x) h g217 := o213.trans (t220.mono fun x _ e => by have : x = h.nb := e; exact Or.inr (by omega))
    have he226 : en t q = fn ⟨(val t q 1), (val t (adv t q 1) 2), [], []⟩ (adv t (adv t q 1) 2) := by unfold en; rw [if_neg k64, if_neg k128, if_neg k247, if_neg e247, if_pos k252]
    cases hq : (adv t (adv t q 1) 2).2 with
    | true =>
      rw [hq] at e215
      refine .inl ⟨by rw [he226]; unfold fn; rw [hq]; rfl, (val t q 1), (val t (adv t q 1) 2), .nils, .nils, g217, rfl, rfl, ?_, fin fo225, w221⟩
      simp only [↓s87, ↓m1, ↓m1', ↓e2, ↓bldM, ↓bldM', ↓m3, ↓m3', ↓s4, ↓cP_p, ↓l4, ↓l4', i64, i128, i247, f247, i251, ↓e197, ↓s206, ↓s206', ↓d216, ↓gp, ↓gb_, ↓e215, ↓sm224, ↓s218, ↓d223, ↓cK_agg, ↓cK_nils, nth_z, nth_1, Bool.not_true, Bool.not_false, ↓uc_c, ↓uz_n, ↓cI_i, ↓cB_b, cB_b, ↓cT_t, cT_t, nth_z, nth_1, cK_b, ↓cK_b, ↓cK_i, cK_i, ifB_t, ifB_f, ↓ap_e, sel_t, sel_f, gsel_tt, gsel_tf, gsel_ft, gsel_ff, gsel_u, gd_tt, gd_tf, gd_ft, gd_ff, gd_u, ↓jn_n, jn_n, jn_r, ↓jn_r, blk_n, blk_r, ↓cl_r, cl_r, ↓iAdd_i, ↓iSub_i, ↓iMul_i, ↓iAnd_i, ↓iOr_i, ↓iXor_i, ↓iNeg_i, iQuo_i, iRem_i, ↓iConv_i, iConv_i, ↓bNot_b, bNot_b, ↓eqN_i, ↓ltN_i, ↓eqB_b, bnot_e, Int.ofNat_eq_natCast, Int.cast_ofNat_Int, Int.reduceBEq, Int.reduceAdd, Int.reduceNeg, Int.reduceNegSucc, Int.reduceLT, Int.reduceLE, Int.reduceMul, Int.reduceTMod, Int.reduceSub, Int.reduceBNe, Bool.not_true, Bool.not_false, decide_true, decide_false, w63_in, w31_in, ne_eq, not_false_eq_true, Int.reduceEq, reduceCtorEq, ww3131, ww6363, ww3163, ww6331, ww3231, ww3263, ww6463, ww6364, sh31, sh63, sl63, m31, m63, n63, s5a, s5b, s6a, s6b, b31, b32, b63, c63, c64, d64, iShl_c, iShr_c, sr3, sr6, sr7]
    | false =>
      rw [hq] at e215
      refine .inr ⟨(⟨(val t q 1), (val t (adv t q 1) 2), [], []⟩, (adv t (adv t q 1) 2)), .nils, .nils, g217, by rw [he226]; unfold fn; rw [hq]; rfl, ?_, (Rws.nil _ _ _), (Rws.nil _ _ _), q211.to t220 (fun x _ hx e => by have : x = h.nb := e; omega), fin fo225, w221⟩
      simp only [↓s87, ↓m1, ↓m1', ↓e2, ↓bldM, ↓bldM', ↓m3, ↓m3', ↓s4, ↓cP_p, ↓l4, ↓l4', i64, i128, i247, f247, i251, ↓e197, ↓s206, ↓s206', ↓d216, ↓gp, ↓gb_, ↓e215, ↓sm224, ↓s218, ↓d223, ↓cK_agg, ↓cK_nils, nth_z, nth_1, Bool.not_true, Bool.not_false, ↓uc_c, ↓uz_n, ↓cI_i, ↓cB_b, cB_b, ↓cT_t, cT_t, nth_z, nth_1, cK_b, ↓cK_b, ↓cK_i, cK_i, ifB_t, ifB_f, ↓ap_e, sel_t, sel_f, gsel_tt, gsel_tf, gsel_ft, gsel_ff, gsel_u, gd_tt, gd_tf, gd_ft, gd_ff, gd_u, ↓jn_n, jn_n, jn_r, ↓jn_r, blk_n, blk_r, ↓cl_r, cl_r, ↓iAdd_i, ↓iSub_i, ↓iMul_i, ↓iAnd_i, ↓iOr_i, ↓iXor_i, ↓iNeg_i, iQuo_i, iRem_i, ↓iConv_i, iConv_i, ↓bNot_b, bNot_b, ↓eqN_i, ↓ltN_i, ↓eqB_b, bnot_e, Int.ofNat_eq_natCast, Int.cast_ofNat_Int, Int.reduceBEq, Int.reduceAdd, Int.reduceNeg, Int.reduceNegSucc, Int.reduceLT, Int.reduceLE, Int.reduceMul, Int.reduceTMod, Int.reduceSub, Int.reduceBNe, Bool.not_true, Bool.not_false, decide_true, decide_false, w63_in, w31_in, ne_eq, not_false_eq_true, Int.reduceEq, reduceCtorEq, ww3131, ww6363, ww3163, ww6331, ww3231, ww3263, ww6463, ww6364, sh31, sh63, sl63, m31, m63, n63, s5a, s5b, s6a, s6b, b31, b32, b63, c63, c64, d64, iShl_c, iShr_c, sr3, sr6, sr7]
  have i251 : (251 : Int) < ((val t q 1 : Nat) : Int) := by omega
  by_cases k255 : val t q 1 < 255
  · have i255 : ((val t q 1 : Nat) : Int) < 255 := by omega
    have u251 : wrapC 63 (((val t q 1 : Nat) : Int) - 251) = ((val t q 1 - 251 : Nat) : Int) := by rw [w63_in _ (by omega) (by omega)]; omega
    obtain ⟨g227, e228, q229, t230, w231⟩ := u2 q4 w4
    have z232 := z4.to t230 (fun e => by have : h.nb = b := e; omega)
    have c233 := c4.to t230 (fun e => by have : h2.nb = b := e; omega)
    have o234 := o14.trans (t230.mono fun x _ e => Or.inl e)
    have p235 : Pool g227 pb := p4.to t230 (fun e => hpb e)
    obtain ⟨g236, s237, s237', c238, t239, w240, y241⟩ := Ce.sD w231 c233 (val t (adv t q 1) 2)
    have q242 := q229.to t239 (fun x _ hx e => by have : x = h2.nb := e; omega)
    have z243 := z232.to t239 (fun e => by have : h.nb = h2.nb := e; omega)
    have o244 := o234.trans (t239.mono fun x _ e => by have : x = h2.nb := e; exact Or.inr (by omega))
    have p245 : Pool g236 pb := p235.to t239 (fun e => by have : pb = h2.nb := e; omega)
    obtain ⟨l246, l246'⟩ := Ce.lM c238
    have lt247 := Ce.lt c238
    rcases t108 q242 p245 hpb w240 (val t q 1 - 251) (by omega) with ⟨kn248, g249, e250, ⟨qx251, q252⟩, t253, w254⟩ | ⟨⟨l255, qq256⟩, vv257, g249, ks258, e250, r259, q252, t253, w254⟩
    ·
      have z260 := z243.to t253 (fun e => by have : h.nb = b := e; omega)
      have c261 := c238.to t253 (fun e => by have : h2.nb = b := e; omega)
      have o262 := o244.trans (t253.mono fun x _ e => Or.inl e)
      have p263 : Pool g249 pb := p245.to t253 (fun e => hpb e)
      obtain ⟨g264, s265, s265', c266, t267, w268, y269⟩ := Ce.sL w254 c261 .nils rfl
      have q270 := q252.to t267 (fun x _ hx e => by have : x = h2.nb := e; omega)
      have z271 := z260.to t267 (fun e => by have : h.nb = h2.nb := e; omega)
      have o272 := o262.trans (t267.mono fun x _ e => by have : x = h2.nb := e; exact Or.inr (by omega))
      have p273 : Pool g264 pb := p263.to t267 (fun e => by have : pb = h2.nb := e; omega)
      have d274 := fun kk => Ce.ldM c266 kk
      obtain ⟨g275, s276, c277, t278, w279, y280⟩ := Ce.stM w268 z271 (val t q 1) (val t (adv t q 1) 2) (vl := .nils) (vs := .nils) rfl rfl
      have d281 := fun kk => Ce.ldM c277 kk
      have sm282 := fun kk => same_mL (g := (val t q 1)) (d := (val t (adv t q 1) 2)) nil_eqA nil_eqA kk
      have fo283 : To (fun x => x = b ∨ h.nb ≤ x) h g275 := o272.trans (t278.mono fun x _ e => by have : x = h.nb := e; exact Or.inr (by omega))
      refine .inl ⟨by unfold en; rw [if_neg k64, if_neg k128, if_neg k247, if_neg e247, if_neg k252, if_pos k255, kn248], (val t q 1), (val t (adv t q 1) 2), .nils, .nils, g275, rfl, rfl, ?_, fin fo283, w279⟩
      simp only [↓s87, ↓m1, ↓m1', ↓e2, ↓bldM, ↓bldM', ↓m3, ↓m3', ↓s4, ↓cP_p, ↓l4, ↓l4', i64, i128, i247, f247, i251, i255, u251, ↓e228, ↓s237, ↓s237', ↓l246, ↓l246', ↓e250, ↓s265, ↓s265', ↓d274, ↓gp, ↓gb_, ↓sm282, ↓s276, ↓d281, ↓cK_agg, ↓cK_nils, nth_z, nth_1, ↓uc_c, ↓uz_n, ↓cI_i, ↓cB_b, cB_b, ↓cT_t, cT_t, nth_z, nth_1, cK_b, ↓cK_b, ↓cK_i, cK_i, ifB_t, ifB_f, ↓ap_e, sel_t, sel_f, gsel_tt, gsel_tf, gsel_ft, gsel_ff, gsel_u, gd_tt, gd_tf, gd_ft, gd_ff, gd_u, ↓jn_n, jn_n, jn_r, ↓jn_r, blk_n, blk_r, ↓cl_r, cl_r, ↓iAdd_i, ↓iSub_i, ↓iMul_i, ↓iAnd_i, ↓iOr_i, ↓iXor_i, ↓iNeg_i, iQuo_i, iRem_i, ↓iConv_i, iConv_i, ↓bNot_b, bNot_b, ↓eqN_i, ↓ltN_i, ↓eqB_b, bnot_e, Int.ofNat_eq_natCast, Int.cast_ofNat_Int, Int.reduceBEq, Int.reduceAdd, Int.reduceNeg, Int.reduceNegSucc, Int.reduceLT, Int.reduceLE, Int.reduceMul, Int.reduceTMod, Int.reduceSub, Int.reduceBNe, Bool.not_true, Bool.not_false, decide_true, decide_false, w63_in, w31_in, ne_eq, not_false_eq_true, Int.reduceEq, reduceCtorEq, ww3131, ww6363, ww3163, ww6331, ww3231, ww3263, ww6463, ww6364, sh31, sh63, sl63, m31, m63, n63, s5a, s5b, s6a, s6b, b31, b32, b63, c63, c64, d64, iShl_c, iShr_c, sr3, sr6, sr7]
    ·
      have r259 : Rws g249 (fun x => g236.nb ≤ x) 3 vv257 (l255.map vP) := r259
      have q252 : CurQ g249 lo b t qq256 := q252
      have z284 := z243.to t253 (fun e => by have : h.nb = b := e; omega)
      have c285 := c238.to t253 (fun e => by have : h2.nb = b := e; omega)
      have o286 := o244.trans (t253.mono fun x _ e => Or.inl e)
      have p287 : Pool g249 pb := p245.to t253 (fun e => hpb e)
      have ck288 := fun kk => r259.cK kk
      have on289 := r259.one
      have ea290 := Rws.eqA r259 (by decide)
      obtain ⟨g291, s292, s292', c293, t294, w295, y296⟩ := Ce.sL w254 c285 vv257 on289
      have q297 := q252.to t294 (fun x _ hx e => by have : x = h2.nb := e; omega)
      have z298 := z284.to t294 (fun e => by have : h.nb = h2.nb := e; omega)
      have o299 := o286.trans (t294.mono fun x _ e => by have : x = h2.nb := e; exact Or.inr (by omega))
      have p300 : Pool g291 pb := p287.to t294 (fun e => by have : pb = h2.nb := e; omega)
      have r301 := r259.to t294 (fun x hx _ e => by have hx : g236.nb ≤ x := hx; have : x = h2.nb := e; omega)
      have e302 := t30 q297
      have d303 := fun kk => Ce.ldM c293 kk
      obtain ⟨g304, s305, c306, t307, w308, y309⟩ := Ce.stM w295 z298 (val t q 1) (val t (adv t q 1) 2) (vl := vv257) (vs := .nils) on289 rfl
      have d310 := fun kk => Ce.ldM c306 kk
      have sm311 := fun kk => same_mL (g := (val t q 1)) (d := (val t (adv t q 1) 2)) ea290 nil_eqA kk
      have fo312 : To (fun x => x = b ∨ h.nb ≤ x) h g304 := o299.trans (t307.mono fun x _ e => by have : x = h.nb := e; exact Or.inr (by omega))
      have he313 : en t q = fn ⟨(val t q 1), (val t (adv t q 1) 2), l255, []⟩ qq256 := by unfold en; rw [if_neg k64, if_neg k128, if_neg k247, if_neg e247, if_neg k252, if_pos k255, ks258]
      cases hq : qq256.2 with
      | true =>
        rw [hq] at e302
        refine .inl ⟨by rw [he313]; unfold fn; rw [hq]; rfl, (val t q 1), (val t (adv t q 1) 2), vv257, .nils, g304, on289, rfl, ?_, fin fo312, w308⟩
        simp only [↓s87, ↓m1, ↓m1', ↓e2, ↓bldM, ↓bldM', ↓m3, ↓m3', ↓s4, ↓cP_p, ↓l4, ↓l4', i64, i128, i247, f247, i251, i255, u251, ↓e228, ↓s237, ↓s237', ↓l246, ↓l246', ↓e250, ↓ck288, ↓s292, ↓s292', ↓d303, ↓gp, ↓gb_, ↓e302, ↓sm311, ↓s305, ↓d310, ↓cK_agg, ↓cK_nils, nth_z, nth_1, Bool.not_true, Bool.not_false, ↓uc_c, ↓uz_n, ↓cI_i, ↓cB_b, cB_b, ↓cT_t, cT_t, nth_z, nth_1, cK_b, ↓cK_b, ↓cK_i, cK_i, ifB_t, ifB_f, ↓ap_e, sel_t, sel_f, gsel_tt, gsel_tf, gsel_ft, gsel_ff, gsel_u, gd_tt, gd_tf, gd_ft, gd_ff, gd_u, ↓jn_n, jn_n, jn_r, ↓jn_r, blk_n, blk_r, ↓cl_r, cl_r, ↓iAdd_i, ↓iSub_i, ↓iMul_i, ↓iAnd_i, ↓iOr_i, ↓iXor_i, ↓iNeg_i, iQuo_i, iRem_i, ↓iConv_i, iConv_i, ↓bNot_b, bNot_b, ↓eqN_i, ↓ltN_i, ↓eqB_b, bnot_e, Int.ofNat_eq_natCast, Int.cast_ofNat_Int, Int.reduceBEq, Int.reduceAdd, Int.reduceNeg, Int.reduceNegSucc, Int.reduceLT, Int.reduceLE, Int.reduceMul, Int.reduceTMod, Int.reduceSub, Int.reduceBNe, Bool.not_true, Bool.not_false, decide_true, decide_false, w63_in, w31_in, ne_eq, not_false_eq_true, Int.reduceEq, reduceCtorEq, ww3131, ww6363, ww3163, ww6331, ww3231, ww3263, ww6463, ww6364, sh31, sh63, sl63, m31, m63, n63, s5a, s5b, s6a, s6b, b31, b32, b63, c63, c64, d64, iShl_c, iShr_c, sr3, sr6, sr7]
      | false =>
        rw [hq] at e302
        refine .inr ⟨(⟨(val t q 1), (val t (adv t q 1) 2), l255, []⟩, qq256), vv257, .nils, g304, by rw [he313]; unfold fn; rw [hq]; rfl, ?_, ((r301.to t307 (fun x hx _ e => by have hx : g236.nb ≤ x := hx; have : x = h.nb := e; omega)).mono fun x hx _ => by have hx : g236.nb ≤ x := hx; show h.nb ≤ x; omega), (Rws.nil _ _ _), q297.to t307 (fun x _ hx e => by have : x = h.nb := e; omega), fin fo312, w308⟩
        simp only [↓s87, ↓m1, ↓m1', ↓e2, ↓bldM, ↓bldM', ↓m3, ↓m3', ↓s4, ↓cP_p, ↓l4, ↓l4', i64, i128, i247, f247, i251, i255, u251, ↓e228, ↓s237, ↓s237', ↓l246, ↓l246', ↓e250, ↓ck288, ↓s292, ↓s292', ↓d303, ↓gp, ↓gb_, ↓e302, ↓sm311, ↓s305, ↓d310, ↓cK_agg, ↓cK_nils, nth_z, nth_1, Bool.not_true, Bool.not_false, ↓uc_c, ↓uz_n, ↓cI_i, ↓cB_b, cB_b, ↓cT_t, cT_t, nth_z, nth_1, cK_b, ↓cK_b, ↓cK_i, cK_i, ifB_t, ifB_f, ↓ap_e, sel_t, sel_f, gsel_tt, gsel_tf, gsel_ft, gsel_ff, gsel_u, gd_tt, gd_tf, gd_ft, gd_ff, gd_u, ↓jn_n, jn_n, jn_r, ↓jn_r, blk_n, blk_r, ↓cl_r, cl_r, ↓iAdd_i, ↓iSub_i, ↓iMul_i, ↓iAnd_i, ↓iOr_i, ↓iXor_i, ↓iNeg_i, iQuo_i, iRem_i, ↓iConv_i, iConv_i, ↓bNot_b, bNot_b, ↓eqN_i, ↓ltN_i, ↓eqB_b, bnot_e, Int.ofNat_eq_natCast, Int.cast_ofNat_Int, Int.reduceBEq, Int.reduceAdd, Int.reduceNeg, Int.reduceNegSucc, Int.reduceLT, Int.reduceLE, Int.reduceMul, Int.reduceTMod, Int.reduceSub, Int.reduceBNe, Bool.not_true, Bool.not_false, decide_true, decide_false, w63_in, w31_in, ne_eq, not_false_eq_true, Int.reduceEq, reduceCtorEq, ww3131, ww6363, ww3163, ww6331, ww3231, ww3263, ww6463, ww6364, sh31, sh63, sl63, m31, m63, n63, s5a, s5b, s6a, s6b, b31, b32, b63, c63, c64, d64, iShl_c, iShr_c, sr3, sr6, sr7]
  have i255 : ¬ ((val t q 1 : Nat) : Int) < 255 := by omega
  obtain ⟨g314, e315, q316, t317, w318⟩ := u2 q4 w4
  have z319 := z4.to t317 (fun e => by have : h.nb = b := e; omega)
  have c320 := c4.to t317 (fun e => by have : h2.nb = b := e; omega)
  have o321 := o14.trans (t317.mono fun x _ e => Or.inl e)
  have p322 : Pool g314 pb := p4.to t317 (fun e => hpb e)
  obtain ⟨g323, s324, s324', c325, t326, w327, y328⟩ := Ce.sD w318 c320 (val t (adv t q 1) 2)
  have q329 := q316.to t326 (fun x _ hx e => by have : x = h2.nb := e; omega)
  have z330 := z319.to t326 (fun e => by have : h.nb = h2.nb := e; omega)
  have o331 := o321.trans (t326.mono fun x _ e => by have : x = h2.nb := e; exact Or.inr (by omega))
  have p332 : Pool g323 pb := p322.to t326 (fun e => by have : pb = h2.nb := e; omega)
  obtain ⟨g333, e334, q335, t336, w337⟩ := u2 q329 w327
  have z338 := z330.to t336 (fun e => by have : h.nb = b := e; omega)
  have c339 := c325.to t336 (fun e => by have : h2.nb = b := e; omega)
  have o340 := o331.trans (t336.mono fun x _ e => Or.inl e)
  have p341 : Pool g333 pb := p332.to t336 (fun e => hpb e)
  have b1 : (val t (adv t (adv t q 1) 2) 2) < 65536 := val_lt hbyt _ 2
  have lt342 := Ce.lt c339
  rcases t108 q335 p341 hpb w337 (val t (adv t (adv t q 1) 2) 2) (by omega) with ⟨kn343, g344, e345, ⟨qx346, q347⟩, t348, w349⟩ | ⟨⟨l350, qq351⟩, vv352, g344, ks353, e345, r354, q347, t348, w349⟩
  ·
    have z355 := z338.to t348 (fun e => by have : h.nb = b := e; omega)
    have c356 := c339.to t348 (fun e => by have : h2.nb = b := e; omega)
    have o357 := o340.trans (t348.mono fun x _ e => Or.inl e)
    have p358 : Pool g344 pb := p341.to t348 (fun e => hpb e)
    obtain ⟨g359, s360, s360', c361, t362, w363, y364⟩ := Ce.sL w349 c356 .nils rfl
    have q365 := q347.to t362 (fun x _ hx e => by have : x = h2.nb := e; omega)
    have z366 := z355.to t362 (fun e => by have : h.nb = h2.nb := e; omega)
    have o367 := o357.trans (t362.mono fun x _ e => by have : x = h2.nb := e; exact Or.inr (by omega))
    have p368 : Pool g359 pb := p358.to t362 (fun e => by have : pb = h2.nb := e; omega)
    have d369 := fun kk => Ce.ldM c361 kk
    obtain ⟨g370, s371, c372, t373, w374, y375⟩ := Ce.stM w363 z366 (val t q 1) (val t (adv t q 1) 2) (vl := .nils) (vs := .nils) rfl rfl
    have d376 := fun kk => Ce.ldM c372 kk
    have sm377 := fun kk => same_mL (g := (val t q 1)) (d := (val t (adv t q 1) 2)) nil_eqA nil_eqA kk
    have fo378 : To (fun x => x = b ∨ h.nb ≤ x) h g370 := o367.trans (t373.mono fun x _ e => by have : x = h.nb := e; exact Or.inr (by omega))
    refine .inl ⟨by unfold en; rw [if_neg k64, if_neg k128, if_neg k247, if_neg e247, if_neg k252, if_neg k255, kn343], (val t q 1), (val t (adv t q 1) 2), .nils, .nils, g370, rfl, rfl, ?_, fin fo378, w374⟩
    simp only [↓s87, ↓m1, ↓m1', ↓e2, ↓bldM, ↓bldM', ↓m3, ↓m3', ↓s4, ↓cP_p, ↓l4, ↓l4', i64, i128, i247, f247, i251, i255, ↓e315, ↓s324, ↓s324', ↓e334, ↓e345, ↓s360, ↓s360', ↓d369, ↓gp, ↓gb_, ↓sm377, ↓s371, ↓d376, ↓cK_agg, ↓cK_nils, nth_z, nth_1, ↓uc_c, ↓uz_n, ↓cI_i, ↓cB_b, cB_b, ↓cT_t, cT_t, nth_z, nth_1, cK_b, ↓cK_b, ↓cK_i, cK_i, ifB_t, ifB_f, ↓ap_e, sel_t, sel_f, gsel_tt, gsel_tf, gsel_ft, gsel_ff, gsel_u, gd_tt, gd_tf, gd_ft, gd_ff, gd_u, ↓jn_n, jn_n, jn_r, ↓jn_r, blk_n, blk_r, ↓cl_r, cl_r, ↓iAdd_i, ↓iSub_i, ↓iMul_i, ↓iAnd_i, ↓iOr_i, ↓iXor_i, ↓iNeg_i, iQuo_i, iRem_i, ↓iConv_i, iConv_i, ↓bNot_b, bNot_b, ↓eqN_i, ↓ltN_i, ↓eqB_b, bnot_e, Int.ofNat_eq_natCast, Int.cast_ofNat_Int, Int.reduceBEq, Int.reduceAdd, Int.reduceNeg, Int.reduceNegSucc, Int.reduceLT, Int.reduceLE, Int.reduceMul, Int.reduceTMod, Int.reduceSub, Int.reduceBNe, Bool.not_true, Bool.not_false, decide_true, decide_false, w63_in, w31_in, ne_eq, not_false_eq_true, Int.reduceEq, reduceCtorEq, ww3131, ww6363, ww3163, ww6331, ww3231, ww3263, ww6463, ww6364, sh31, sh63, sl63, m31, m63, n63, s5a, s5b, s6a, s6b, b31, b32, b63, c63, c64, d64, iShl_c, iShr_c, sr3, sr6, sr7]
  ·
    have r354 : Rws g344 (fun x => g333.nb ≤ x) 3 vv352 (l350.map vP) := r354
    have q347 : CurQ g344 lo b t qq351 := q347
    have z379 := z338.to t348 (fun e => by have : h.nb = b := e; omega)
    have c380 := c339.to t348 (fun e => by have : h2.nb = b := e; omega)
    have o381 := o340.trans (t348.mono fun x _ e => Or.inl e)
    have p382 : Pool g344 pb := p341.to t348 (fun e => hpb e)
    have ck383 := fun kk => r354.cK kk
    have on384 := r354.one
    have ea385 := Rws.eqA r354 (by decide)
    obtain ⟨g386, s387, s387', c388, t389, w390, y391⟩ := Ce.sL w349 c380 vv352 on384
    have q392 := q347.to t389 (fun x _ hx e => by have : x = h2.nb := e; omega)
    have z393 := z379.to t389 (fun e => by have : h.nb = h2.nb := e; omega)
    have o394 := o381.trans (t389.mono fun x _ e => by have : x = h2.nb := e; exact Or.inr (by omega))
    have p395 : Pool g386 pb := p382.to t389 (fun e => by have : pb = h2.nb := e; omega)
    have r396 := r354.to t389 (fun x hx _ e => by have hx : g333.nb ≤ x := hx; have : x = h2.nb := e; omega)
    obtain ⟨g397, e398, q399, t400, w401⟩ := u2 q392 w390
    have z402 := z393.to t400 (fun e => by have : h.nb = b := e; omega)
    have c403 := c388.to t400 (fun e => by have : h2.nb = b := e; omega)
    have o404 := o394.trans (t400.mono fun x _ e => Or.inl e)
    have p405 : Pool g397 pb := p395.to t400 (fun e => hpb e)
    have r406 := r396.to t400 (fun x hx _ e => by have hx : g333.nb ≤ x := hx; have : x = b := e; omega)
    have b2 : (val t qq351 2) < 65536 := val_lt hbyt _ 2
    have lt407 := Ce.lt c403
    rcases t108 q399 p405 hpb w401 (val t qq351 2) (by omega) with ⟨kn408, g409, e410, ⟨qx411, q412⟩, t413, w414⟩ | ⟨⟨l415, qq416⟩, vv417, g409, ks418, e410, r419, q412, t413, w414⟩
    ·
      have z420 := z402.to t413 (fun e => by have : h.nb = b := e; omega)
      have c421 := c403.to t413 (fun e => by have : h2.nb = b := e; omega)
      have o422 := o404.trans (t413.mono fun x _ e => Or.inl e)
      have p423 : Pool g409 pb := p405.to t413 (fun e => hpb e)
      have r424 := r406.to t413 (fun x hx _ e => by have hx : g333.nb ≤ x := hx; have : x = b := e; omega)
      obtain ⟨g425, s426, s426', c427, t428, w429, y430⟩ := Ce.sS w414 c421 .nils rfl
      have q431 := q412.to t428 (fun x _ hx e => by have : x = h2.nb := e; omega)
      have z432 := z420.to t428 (fun e => by have : h.nb = h2.nb := e; omega)
      have o433 := o422.trans (t428.mono fun x _ e => by have : x = h2.nb := e; exact Or.inr (by omega))
      have p434 : Pool g425 pb := p423.to t428 (fun e => by have : pb = h2.nb := e; omega)
      have r435 := r424.to t428 (fun x hx _ e => by have hx : g333.nb ≤ x := hx; have : x = h2.nb := e; omega)
      have d436 := fun kk => Ce.ldM c427 kk
      obtain ⟨g437, s438, c439, t440, w441, y442⟩ := Ce.stM w429 z432 (val t q 1) (val t (adv t q 1) 2) (vl := vv352) (vs := .nils) on384 rfl
      have d443 := fun kk => Ce.ldM c439 kk
      have sm444 := fun kk => same_mL (g := (val t q 1)) (d := (val t (adv t q 1) 2)) ea385 nil_eqA kk
      have fo445 : To (fun x => x = b ∨ h.nb ≤ x) h g437 := o433.trans (t440.mono fun x _ e => by have : x = h.nb := e; exact Or.inr (by omega))
      refine .inl ⟨by unfold en; rw [if_neg k64, if_neg k128, if_neg k247, if_neg e247, if_neg k252, if_neg k255, ks353]; simp only []; rw [kn408], (val t q 1), (val t (adv t q 1) 2), vv352, .nils, g437, on384, rfl, ?_, fin fo445, w441⟩
      simp only [↓s87, ↓m1, ↓m1', ↓e2, ↓bldM, ↓bldM', ↓m3, ↓m3', ↓s4, ↓cP_p, ↓l4, ↓l4', i64, i128, i247, f247, i251, i255, ↓e315, ↓s324, ↓s324', ↓e334, ↓e345, ↓ck383, ↓s387, ↓s387', ↓e398, ↓e410, ↓s426, ↓s426', ↓d436, ↓gp, ↓gb_, ↓sm444, ↓s438, ↓d443, ↓cK_agg, ↓cK_nils, nth_z, nth_1, ↓uc_c, ↓uz_n, ↓cI_i, ↓cB_b, cB_b, ↓cT_t, cT_t, nth_z, nth_1, cK_b, ↓cK_b, ↓cK_i, cK_i, ifB_t, ifB_f, ↓ap_e, sel_t, sel_f, gsel_tt, gsel_tf, gsel_ft, gsel_ff, gsel_u, gd_tt, gd_tf, gd_ft, gd_ff, gd_u, ↓jn_n, jn_n, jn_r, ↓jn_r, blk_n, blk_r, ↓cl_r, cl_r, ↓iAdd_i, ↓iSub_i, ↓iMul_i, ↓iAnd_i, ↓iOr_i, ↓iXor_i, ↓iNeg_i, iQuo_i, iRem_i, ↓iConv_i, iConv_i, ↓bNot_b, bNot_b, ↓eqN_i, ↓ltN_i, ↓eqB_b, bnot_e, Int.ofNat_eq_natCast, Int.cast_ofNat_Int, Int.reduceBEq, Int.reduceAdd, Int.reduceNeg, Int.reduceNegSucc, Int.reduceLT, Int.reduceLE, Int.reduceMul, Int.reduceTMod, Int.reduceSub, Int.reduceBNe, Bool.not_true, Bool.not_false, decide_true, decide_false, w63_in, w31_in, ne_eq, not_false_eq_true, Int.reduceEq, reduceCtorEq, ww3131, ww6363, ww3163, ww6331, ww3231, ww3263, ww6463, ww6364, sh31, sh63, sl63, m31, m63, n63, s5a, s5b, s6a, s6b, b31, b32, b63, c63, c64, d64, iShl_c, iShr_c, sr3, sr6, sr7]
    ·
      have r419 : Rws g409 (fun x => g397.nb ≤ x) 3 vv417 (l415.map vP) := r419
      have q412 : CurQ g409 lo b t qq416 := q412
      have z446 := z402.to t413 (fun e => by have : h.nb = b := e; omega)
      have c447 := c403.to t413 (fun e => by have : h2.nb = b := e; omega)
      have o448 := o404.trans (t413.mono fun x _ e => Or.inl e)
      have p449 : Pool g409 pb := p405.to t413 (fun e => hpb e)
      have r450 := r406.to t413 (fun x hx _ e => by have hx : g333.nb ≤ x := hx; have : x = b := e; omega)
      have ck451 := fun kk => r419.cK kk
      have on452 := r419.one
      have ea453 := Rws.eqA r419 (by decide)
      obtain ⟨g454, s455, s455', c456, t457, w458, y459⟩ := Ce.sS w414 c447 vv417 on452
      have q460 := q412.to t457 (fun x _ hx e => by have : x = h2.nb := e; omega)
      have z461 := z446.to t457 (fun e => by have : h.nb = h2.nb := e; omega)
      have o462 := o448.trans (t457.mono fun x _ e => by have : x = h2.nb := e; exact Or.inr (by omega))
      have p463 : Pool g454 pb := p449.to t457 (fun e => by have : pb = h2.nb := e; omega)
      have r464 := r450.to t457 (fun x hx _ e => by have hx : g333.nb ≤ x := hx; have : x = h2.nb := e; omega)
      have r465 := r419.to t457 (fun x hx _ e => by have hx : g397.nb ≤ x := hx; have : x = h2.nb := e; omega)
      have e466 := t30 q460
      have d467 := fun kk => Ce.ldM c456 kk
      obtain ⟨g468, s469, c470, t471, w472, y473⟩ := Ce.stM w458 z461 (val t q 1) (val t (adv t q 1) 2) (vl := vv352) (vs := vv417) on384 on452
      have d474 := fun kk => Ce.ldM c470 kk
      have sm475 := fun kk => same_mL (g := (val t q 1)) (d := (val t (adv t q 1) 2)) ea385 ea453 kk
      have fo476 : To (fun x => x = b ∨ h.nb ≤ x) h g468 := o462.trans (t471.mono fun x _ e => by have : x = h.nb := e; exact Or.inr (by omega))
      have he477 : en t q = fn ⟨(val t q 1), (val t (adv t q 1) 2), l350, l415⟩ qq416 := by unfold en; rw [if_neg k64, if_neg k128, if_neg k247, if_neg e247, if_neg k252, if_neg k255, ks353]; simp only []; rw [ks418]
      cases hq : qq416.2 with
      | true =>
        rw [hq] at e466
        refine .inl ⟨by rw [he477]; unfold fn; rw [hq]; rfl, (val t q 1), (val t (adv t q 1) 2), vv352, vv417, g468, on384, on452, ?_, fin fo476, w472⟩
        simp only [↓s87, ↓m1, ↓m1', ↓e2, ↓bldM, ↓bldM', ↓m3, ↓m3', ↓s4, ↓cP_p, ↓l4, ↓l4', i64, i128, i247, f247, i251, i255, ↓e315, ↓s324, ↓s324', ↓e334, ↓e345, ↓ck383, ↓s387, ↓s387', ↓e398, ↓e410, ↓ck451, ↓s455, ↓s455', ↓d467, ↓gp, ↓gb_, ↓e466, ↓sm475, ↓s469, ↓d474, ↓cK_agg, ↓cK_nils, nth_z, nth_1, Bool.not_true, Bool.not_false, ↓uc_c, ↓uz_n, ↓cI_i, ↓cB_b, cB_b, ↓cT_t, cT_t, nth_z, nth_1, cK_b, ↓cK_b, ↓cK_i, cK_i, ifB_t, ifB_f, ↓ap_e, sel_t, sel_f, gsel_tt, gsel_tf, gsel_ft, gsel_ff, gsel_u, gd_tt, gd_tf, gd_ft, gd_ff, gd_u, ↓jn_n, jn_n, jn_r, ↓jn_r, blk_n, blk_r, ↓cl_r, cl_r, ↓iAdd_i, ↓iSub_i, ↓iMul_i, ↓iAnd_i, ↓iOr_i, ↓iXor_i, ↓iNeg_i, iQuo_i, iRem_i, ↓iConv_i, iConv_i, ↓bNot_b, bNot_b, ↓eqN_i, ↓ltN_i, ↓eqB_b, bnot_e, Int.ofNat_eq_natCast, Int.cast_ofNat_Int, Int.reduceBEq, Int.reduceAdd, Int.reduceNeg, Int.reduceNegSucc, Int.reduceLT, Int.reduceLE, Int.reduceMul, Int.reduceTMod, Int.reduceSub, Int.reduceBNe, Bool.not_true, Bool.not_false, decide_true, decide_false, w63_in, w31_in, ne_eq, not_false_eq_true, Int.reduceEq, reduceCtorEq, ww3131, ww6363, ww3163, ww6331, ww3231, ww3263, ww6463, ww6364, sh31, sh63, sl63, m31, m63, n63, s5a, s5b, s6a, s6b, b31, b32, b63, c63, c64, d64, iShl_c, iShr_c, sr3, sr6, sr7]
      | false =>
        rw [hq] at e466
        refine .inr ⟨(⟨(val t q 1), (val t (adv t q 1) 2), l350, l415⟩, qq416), vv352, vv417, g468, by rw [he477]; unfold fn; rw [hq]; rfl, ?_, ((r464.to t471 (fun x hx _ e => by have hx : g333.nb ≤ x := hx; have : x = h.nb := e; omega)).mono fun x hx _ => by have hx : g333.nb ≤ x := hx; show h.nb ≤ x; omega), ((r465.to t471 (fun x hx _ e => by have hx : g397.nb ≤ x := hx; have : x = h.nb := e; omega)).mono fun x hx _ => by have hx : g397.nb ≤ x := hx; show h.nb ≤ x; omega), q460.to t471 (fun x _ hx e => by have : x = h.nb := e; omega), fin fo476, w472⟩
        simp only [↓s87, ↓m1, ↓m1', ↓e2, ↓bldM, ↓bldM', ↓m3, ↓m3', ↓s4, ↓cP_p, ↓l4, ↓l4', i64, i128, i247, f247, i251, i255, ↓e315, ↓s324, ↓s324', ↓e334, ↓e345, ↓ck383, ↓s387, ↓s387', ↓e398, ↓e410, ↓ck451, ↓s455, ↓s455', ↓d467, ↓gp, ↓gb_, ↓e466, ↓sm475, ↓s469, ↓d474, ↓cK_agg, ↓cK_nils, nth_z, nth_1, Bool.not_true, Bool.not_false, ↓uc_c, ↓uz_n, ↓cI_i, ↓cB_b, cB_b, ↓cT_t, cT_t, nth_z, nth_1, cK_b, ↓cK_b, ↓cK_i, cK_i, ifB_t, ifB_f, ↓ap_e, sel_t, sel_f, gsel_tt, gsel_tf, gsel_ft, gsel_ff, gsel_u, gd_tt, gd_tf, gd_ft, gd_ff, gd_u, ↓jn_n, jn_n, jn_r, ↓jn_r, blk_n, blk_r, ↓cl_r, cl_r, ↓iAdd_i, ↓iSub_i, ↓iMul_i, ↓iAnd_i, ↓iOr_i, ↓iXor_i, ↓iNeg_i, iQuo_i, iRem_i, ↓iConv_i, iConv_i, ↓bNot_b, bNot_b, ↓eqN_i, ↓ltN_i, ↓eqB_b, bnot_e, Int.ofNat_eq_natCast, Int.cast_ofNat_Int, Int.reduceBEq, Int.reduceAdd, Int.reduceNeg, Int.reduceNegSucc, Int.reduceLT, Int.reduceLE, Int.reduceMul, Int.reduceTMod, Int.reduceSub, Int.reduceBNe, Bool.not_true, Bool.not_false, decide_true, decide_false, w63_in, w31_in, ne_eq, not_false_eq_true, Int.reduceEq, reduceCtorEq, ww3131, ww6363, ww3163, ww6331, ww3231, ww3263, ww6463, ww6364, sh31, sh63, sl63, m31, m63, n63, s5a, s5b, s6a, s6b, b31, b32, b63, c63, c64, d64, iShl_c, iShr_c, sr3, sr6, sr7]
end Go.Proofs.Ytnpfppddongbhaa
