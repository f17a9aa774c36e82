/-
  The reader of stated frames: what each of its functions answers (part Mp11).
-/
import Derived.Test.YtnpfppddongbhaaMp10
set_option linter.unusedVariables false
set_option linter.unusedSimpArgs false
namespace Go.Proofs.Ytnpfppddongbhaa
open Go Go.AM
set_option autoImplicit false
set_option linter.unusedSimpArgs false
set_option linter.unusedVariables false
theorem Sl.low {h : Hp} {N : Nat} {v : AV} {l : List AV} (hs : Sl h (fun b => N ≤ b) v l) : Sl h (fun b => N ≤ b ∧ b < h.nb) v l := by
  obtain ⟨h1, h2⟩ := hs
  refine ⟨h1, ?_⟩
  rcases h2 with h2 | h2 | ⟨b, o, c, B, h2, h3, h4, h5, hc, h6⟩
  · exact .inl h2
  · exact .inr (.inl h2)
  · exact .inr (.inr ⟨b, o, c, B, h2, ⟨h3, h4.lt⟩, h4, fun hf => ⟨h5 hf, (h4.grp hf).1⟩, hc, h6⟩)
/-- A cursor that is made as a struct of a row. -/
theorem mkCur {h : Hp} {lo : Nat} {v : AV} {t : List Nat} (hs : Sl h (fun x => lo ≤ x) v (Bs t)) (hw : Wf h) (hlo : lo ≤ h.nb) (ht : t.length ≤ 100000) (hb : ∀ x ∈ t, x < 256) :
    ∃ b h', (∀ k : AV → Hp → Res, (bld [(false, 1, v), (false, 1, .int 63 (.ofNat 0)), (false, 1, .bool false)] fun l => mk h (cells (.agg l)) k) = k (.ptr b 0) h') ∧ Cur h' lo b t 0 false ∧ To No h h' ∧ Wf h' ∧ h.nb ≤ b ∧ b < h'.nb := by
  have hone := one_sl hs
  have hbl : ∀ k : AV → Res, bld [(false, 1, v), (false, 1, .int 63 (.ofNat 0)), (false, 1, .bool false)] k = k (avL [v, .int 63 0, .bool false]) := fun k => by
    have : bld [(false, 1, v), (false, 1, .int 63 (.ofNat 0)), (false, 1, .bool false)] k = ifB (one v) (k (avL [v, .int 63 0, .bool false])) .fail := rfl
    rw [this, hone]; rfl
  obtain ⟨tr, t1, t2⟩ := lay_list [v, .int 63 0, .bool false] .e 0 (by
    intro x hx
    rcases List.mem_cons.1 hx with rfl | hx
    · exact hone
    · rcases List.mem_cons.1 hx with rfl | hx
      · rfl
      · rcases List.mem_cons.1 hx with rfl | hx
        · rfl
        · cases hx)
  have hm : ∀ k : AV → Hp → Res, mk h (avL [v, .int 63 0, .bool false]) k = k (.ptr h.nb 0) (nw h 3 .nil tr) := fun k => by
    have : mk h (avL [v, .int 63 0, .bool false]) k = lay (avL [v, .int 63 0, .bool false]) .e 0 fun t n => k (.ptr h.nb 0) (nw h n .nil t) := rfl
    rw [this, t1]; rfl
  obtain ⟨q1, q2⟩ := nw_own hw 3 .nil tr
  have hat : ∀ i (hi : i < 3), (⟨true, h.nb, 3, .nil, tr⟩ : Blk).at i = [v, .int 63 0, .bool false][i] := fun i hi => by
    rw [at_in _ (show i < 3 from hi)]
    simp only [t2 i]
    rw [dif_pos ⟨by omega, by simpa using hi⟩]
    simp
  exact ⟨h.nb, nw h 3 .nil tr, fun k => by rw [hbl]; exact hm k, ⟨⟨_, v, q1, rfl, hat 0 (by decide), hat 1 (by decide), hat 2 (by decide), (Sl.low hs).to q2 (fun _ _ f => f)⟩, Nat.zero_le _, ht, hlo, hb⟩, q2, q2.wf hw, Nat.le_refl _, q1.lt⟩
/-- The reference reads the same frames. -/
theorem t63 {h : Hp} {P : Nat → Prop} {v : AV} {t : List Nat} {pb : Nat} (hs : Sl h P v (Bs t)) (hw : Wf h) (ht : t.length ≤ 100000) (hb : ∀ x ∈ t, x < 256) (hp : Pool h pb) :
    (rdm t = none ∧ ∃ h', s63 [v, plv pb] h = .ret nilF h' ∧ To No h h' ∧ Wf h') ∨
    (∃ ms v' h', rdm t = some ms ∧ s63 [v, plv pb] h = .ret (.tup (.cons v' (.cons (.bool true) .nil))) h' ∧ MR h' h.nb h'.nb v' ms ∧ To No h h' ∧ Wf h') := by
  obtain ⟨b, h1, e1, c1, o1, w1, x1, x1'⟩ := mkCur (lo := 0) (hs.mono fun x _ => Nat.zero_le x) hw (Nat.zero_le _) ht hb
  have nb1 := o1.nb
  have hpl := Ce.lt hp
  have c1 : CurQ h1 0 b t (0, false) := c1
  obtain ⟨h2, e2, q2, o2, w2⟩ := n2 c1 w1
  have nb2 := o2.nb
  have hv : val t (0, false) 2 < 65536 := val_lt hb _ 2
  have fin : ∀ {g : Hp}, To (fun x => h.nb ≤ x) h g → To No h g := fun tt => tt.mono fun x hx e => by have : h.nb ≤ x := e; omega
  have o12 : To (fun x => h.nb ≤ x) h h2 := (o1.mono fun _ _ f => f.elim).trans (o2.mono fun x _ e => by have : x = b := e; show h.nb ≤ x; omega)
  have p2 : Pool h2 pb := hp.to o12 (fun e => by have : h.nb ≤ pb := e; omega)
  have gp : gsel (.bool false) false (.ptr b 0) = .ptr b 0 := rfl
  have bad_ : ∀ {g : Hp} {q' : Sq}, CurQ g 0 b t q' → (∀ kk : AV → Res, ld1 g (.ptr b (Nat.add 0 2)) kk = kk (.bool q'.2)) ∧ (∀ kk : AV → Res, ld1 g (.ptr b 2) kk = kk (.bool q'.2)) := fun c => by
    obtain ⟨v, hs, a0, a1, a2⟩ := c.open
    exact ⟨a2, a2⟩
  by_cases c : 4096 < val t (0, false) 2
  · have i4 : (4096 : Int) < ((val t (0, false) 2 : Nat) : Int) := by omega
    have hr : rdm t = none := by
      unfold rdm
      by_cases hq : (adv t (0, false) 2).2 = true
      · rw [if_pos hq]
      · rw [if_neg hq, if_pos c]
    refine .inl ⟨hr, h2, ?_, fin o12, w2⟩
    simp only [↓s63, ↓e1, ↓e2, i4, ↓cK_nils, ↓uc_c, ↓uz_n, ↓cI_i, ↓cB_b, cB_b, ↓cT_t, cT_t, nth_z, nth_1, cK_b, ↓cK_b, ↓cK_i, cK_i, ifB_t, ifB_f, ↓ap_e, sel_t, sel_f, gsel_tt, gsel_tf, gsel_ft, gsel_ff, gsel_u, gd_tt, gd_tf, gd_ft, gd_ff, gd_u, ↓jn_n, jn_n, jn_r, ↓jn_r, blk_n, blk_r, ↓cl_r, cl_r, ↓iAdd_i, ↓iSub_i, ↓iMul_i, ↓iAnd_i, ↓iOr_i, ↓iXor_i, ↓iNeg_i, iQuo_i, iRem_i, ↓iConv_i, iConv_i, ↓bNot_b, bNot_b, ↓eqN_i, ↓ltN_i, ↓eqB_b, bnot_e, Int.ofNat_eq_natCast, Int.cast_ofNat_Int, Int.reduceBEq, Int.reduceAdd, Int.reduceNeg, Int.reduceNegSucc, Int.reduceLT, Int.reduceLE, Int.reduceMul, Int.reduceTMod, Int.reduceSub, Int.reduceBNe, Bool.not_true, Bool.not_false, decide_true, decide_false, w63_in, w31_in, ne_eq, not_false_eq_true, Int.reduceEq, reduceCtorEq, ww3131, ww6363, ww3163, ww6331, ww3231, ww3263, ww6463, ww6364, sh31, sh63, sl63, m31, m63, n63, s5a, s5b, s6a, s6b, b31, b32, b63, c63, c64, d64, iShl_c, iShr_c, sr3, sr6, sr7]
  · have i4 : ¬ (4096 : Int) < ((val t (0, false) 2 : Nat) : Int) := by omega
    have hm : val t (0, false) 2 < most := by unfold most; omega
    have hne : pb ≠ b := by omega
    rcases loop63 (N := h2.nb) (by have := x1'; omega) (by omega) hne (val t (0, false) 2) most (adv t (0, false) 2) [] .nils h2 hm (by simp; omega) (Nat.le_refl _) w2 q2 p2 (MR.nil _ _ _) with ⟨f1, h', f2, f4, f5⟩ | ⟨r, v', h', f1, f2, f3, f4, f5, f6⟩
    · have hr : rdm t = none := by
        unfold rdm
        by_cases hq : (adv t (0, false) 2).2 = true
        · rw [if_pos hq]
        · rw [if_neg hq, if_neg c, f1]
      refine .inl ⟨hr, h', ?_, fin (o12.trans (f4.mono fun x _ e => by rcases e with e | e; show h.nb ≤ x; omega; show h.nb ≤ x; omega)), f5⟩
      simp only [↓s63, ↓e1, ↓e2, i4, ↓f2, ↓uc_c, ↓uz_n, ↓cI_i, ↓cB_b, cB_b, ↓cT_t, cT_t, nth_z, nth_1, cK_b, ↓cK_b, ↓cK_i, cK_i, ifB_t, ifB_f, ↓ap_e, sel_t, sel_f, gsel_tt, gsel_tf, gsel_ft, gsel_ff, gsel_u, gd_tt, gd_tf, gd_ft, gd_ff, gd_u, ↓jn_n, jn_n, jn_r, ↓jn_r, blk_n, blk_r, ↓cl_r, cl_r, ↓iAdd_i, ↓iSub_i, ↓iMul_i, ↓iAnd_i, ↓iOr_i, ↓iXor_i, ↓iNeg_i, iQuo_i, iRem_i, ↓iConv_i, iConv_i, ↓bNot_b, bNot_b, ↓eqN_i, ↓ltN_i, ↓eqB_b, bnot_e, Int.ofNat_eq_natCast, Int.cast_ofNat_Int, Int.reduceBEq, Int.reduceAdd, Int.reduceNeg, Int.reduceNegSucc, Int.reduceLT, Int.reduceLE, Int.reduceMul, Int.reduceTMod, Int.reduceSub, Int.reduceBNe, Bool.not_true, Bool.not_false, decide_true, decide_false, w63_in, w31_in, ne_eq, not_false_eq_true, Int.reduceEq, reduceCtorEq, ww3131, ww6363, ww3163, ww6331, ww3231, ww3263, ww6463, ww6364, sh31, sh63, sl63, m31, m63, n63, s5a, s5b, s6a, s6b, b31, b32, b63, c63, c64, d64, iShl_c, iShr_c, sr3, sr6, sr7]
    · have e4 := t35 f4
      obtain ⟨b1, b1'⟩ := bad_ f4
      have ck := fun kk => f3.cK kk
      have fo : To No h h' := fin (o12.trans (f5.mono fun x _ e => by rcases e with e | e; show h.nb ≤ x; omega; show h.nb ≤ x; omega))
      cases hq2 : r.2.2 with
      | true =>
        have hr : rdm t = none := by
          unfold rdm
          by_cases hq : (adv t (0, false) 2).2 = true
          · rw [if_pos hq]
          · exfalso
            have := ens_ok _ _ _ _ f1 (by simpa using hq)
            rw [hq2] at this; cases this
        refine .inl ⟨hr, h', ?_, fo, f6⟩
        simp only [↓s63, ↓e1, ↓e2, i4, ↓f2, ↓nck_p, ↓cP_p, ↓b1, ↓b1', hq2, ↓cK_nils, blk_x0, ↓uc_c, ↓uz_n, ↓cI_i, ↓cB_b, cB_b, ↓cT_t, cT_t, nth_z, nth_1, cK_b, ↓cK_b, ↓cK_i, cK_i, ifB_t, ifB_f, ↓ap_e, sel_t, sel_f, gsel_tt, gsel_tf, gsel_ft, gsel_ff, gsel_u, gd_tt, gd_tf, gd_ft, gd_ff, gd_u, ↓jn_n, jn_n, jn_r, ↓jn_r, blk_n, blk_r, ↓cl_r, cl_r, ↓iAdd_i, ↓iSub_i, ↓iMul_i, ↓iAnd_i, ↓iOr_i, ↓iXor_i, ↓iNeg_i, iQuo_i, iRem_i, ↓iConv_i, iConv_i, ↓bNot_b, bNot_b, ↓eqN_i, ↓ltN_i, ↓eqB_b, bnot_e, Int.ofNat_eq_natCast, Int.cast_ofNat_Int, Int.reduceBEq, Int.reduceAdd, Int.reduceNeg, Int.reduceNegSucc, Int.reduceLT, Int.reduceLE, Int.reduceMul, Int.reduceTMod, Int.reduceSub, Int.reduceBNe, Bool.not_true, Bool.not_false, decide_true, decide_false, w63_in, w31_in, ne_eq, not_false_eq_true, Int.reduceEq, reduceCtorEq, ww3131, ww6363, ww3163, ww6331, ww3231, ww3263, ww6463, ww6364, sh31, sh63, sl63, m31, m63, n63, s5a, s5b, s6a, s6b, b31, b32, b63, c63, c64, d64, iShl_c, iShr_c, sr3, sr6, sr7]
      | false =>
        have hq : ¬ (adv t (0, false) 2).2 = true := by
          intro hq
          have h0 : val t (0, false) 2 = 0 := val_bad hq
          rw [h0] at f1
          have f1 : some ([], adv t (0, false) 2) = some r := f1
          obtain rfl := Option.some.inj f1
          have : (adv t (0, false) 2).2 = false := hq2
          rw [hq] at this; cases this
        by_cases cl_ : 0 < t.length - r.2.1
        · have i5 : (0 : Int) < ((t.length - r.2.1 : Nat) : Int) := by omega
          refine .inl ⟨by unfold rdm; rw [if_neg hq, if_neg c, f1]; simp only []; rw [if_pos cl_], h', ?_, fo, f6⟩
          simp only [↓s63, ↓e1, ↓e2, i4, ↓f2, ↓nck_p, ↓cP_p, ↓b1, ↓b1', hq2, ↓gp, ↓e4, i5, ↓cK_nils, blk_x0, ↓uc_c, ↓uz_n, ↓cI_i, ↓cB_b, cB_b, ↓cT_t, cT_t, nth_z, nth_1, cK_b, ↓cK_b, ↓cK_i, cK_i, ifB_t, ifB_f, ↓ap_e, sel_t, sel_f, gsel_tt, gsel_tf, gsel_ft, gsel_ff, gsel_u, gd_tt, gd_tf, gd_ft, gd_ff, gd_u, ↓jn_n, jn_n, jn_r, ↓jn_r, blk_n, blk_r, ↓cl_r, cl_r, ↓iAdd_i, ↓iSub_i, ↓iMul_i, ↓iAnd_i, ↓iOr_i, ↓iXor_i, ↓iNeg_i, iQuo_i, iRem_i, ↓iConv_i, iConv_i, ↓bNot_b, bNot_b, ↓eqN_i, ↓ltN_i, ↓eqB_b, bnot_e, Int.ofNat_eq_natCast, Int.cast_ofNat_Int, Int.reduceBEq, Int.reduceAdd, Int.reduceNeg, Int.reduceNegSucc, Int.reduceLT, Int.reduceLE, Int.reduceMul, Int.reduceTMod, Int.reduceSub, Int.reduceBNe, Bool.not_true, Bool.not_false, decide_true, decide_false, w63_in, w31_in, ne_eq, not_false_eq_true, Int.reduceEq, reduceCtorEq, ww3131, ww6363, ww3163, ww6331, ww3231, ww3263, ww6463, ww6364, sh31, sh63, sl63, m31, m63, n63, s5a, s5b, s6a, s6b, b31, b32, b63, c63, c64, d64, iShl_c, iShr_c, sr3, sr6, sr7]
        · have i5 : ¬ (0 : Int) < ((t.length - r.2.1 : Nat) : Int) := by omega
          refine .inr ⟨r.1, v', h', by unfold rdm; rw [if_neg hq, if_neg c, f1]; simp only []; rw [if_neg cl_], ?_, ?_, fo, f6⟩
          · simp only [↓s63, ↓e1, ↓e2, i4, ↓f2, ↓nck_p, ↓cP_p, ↓b1, ↓b1', hq2, ↓gp, ↓e4, i5, ↓ck, blk_x0, ↓uc_c, ↓uz_n, ↓cI_i, ↓cB_b, cB_b, ↓cT_t, cT_t, nth_z, nth_1, cK_b, ↓cK_b, ↓cK_i, cK_i, ifB_t, ifB_f, ↓ap_e, sel_t, sel_f, gsel_tt, gsel_tf, gsel_ft, gsel_ff, gsel_u, gd_tt, gd_tf, gd_ft, gd_ff, gd_u, ↓jn_n, jn_n, jn_r, ↓jn_r, blk_n, blk_r, ↓cl_r, cl_r, ↓iAdd_i, ↓iSub_i, ↓iMul_i, ↓iAnd_i, ↓iOr_i, ↓iXor_i, ↓iNeg_i, iQuo_i, iRem_i, ↓iConv_i, iConv_i, ↓bNot_b, bNot_b, ↓eqN_i, ↓ltN_i, ↓eqB_b, bnot_e, Int.ofNat_eq_natCast, Int.cast_ofNat_Int, Int.reduceBEq, Int.reduceAdd, Int.reduceNeg, Int.reduceNegSucc, Int.reduceLT, Int.reduceLE, Int.reduceMul, Int.reduceTMod, Int.reduceSub, Int.reduceBNe, Bool.not_true, Bool.not_false, decide_true, decide_false, w63_in, w31_in, ne_eq, not_false_eq_true, Int.reduceEq, reduceCtorEq, ww3131, ww6363, ww3163, ww6331, ww3231, ww3263, ww6463, ww6364, sh31, sh63, sl63, m31, m63, n63, s5a, s5b, s6a, s6b, b31, b32, b63, c63, c64, d64, iShl_c, iShr_c, sr3, sr6, sr7]
          · obtain ⟨P, rs, a1, a2, a3, a4⟩ := f3
            have nb' := o12.nb
            refine ⟨P, rs, a1, fun x hx => ⟨by have := (a2 x hx).1; omega, (a2 x hx).2⟩, a3, fun i z1 z2 => ?_⟩
            obtain ⟨wl, ws, y1, y2, y3⟩ := a4 i z1 z2
            exact ⟨wl, ws, y1, y2.mono fun x hx _ => ⟨by have := hx.1; omega, hx.2⟩, y3.mono fun x hx _ => ⟨by have := hx.1; omega, hx.2⟩⟩
end Go.Proofs.Ytnpfppddongbhaa
