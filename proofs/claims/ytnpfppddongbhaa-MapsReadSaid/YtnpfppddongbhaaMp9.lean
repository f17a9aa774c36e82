/-
  The reader of stated frames: what each of its functions answers (part Mp9).
-/
import Derived.Test.YtnpfppddongbhaaMp8
set_option linter.unusedVariables false
set_option linter.unusedSimpArgs false
namespace Go.Proofs.Ytnpfppddongbhaa
open Go Go.AM
set_option autoImplicit false
set_option linter.unusedSimpArgs false
set_option linter.unusedVariables false
/-- As MR; all the blocks lie below K. -/
def MK (h : Hp) (N M K : Nat) (v : AV) (ms : List Mv) : Prop :=
  ∃ (P : Nat → Prop) (rs : List (List AV)), Rws h P 4 v rs ∧ (∀ x, P x → N ≤ x ∧ x < M ∧ x < K) ∧ rs.length = ms.length ∧ ∀ i (hi : i < ms.length) (hi' : i < rs.length), ∃ vl vs, rs[i] = mL ms[i].tag ms[i].delta vl vs ∧ Rws h (fun x => (N ≤ x ∧ ¬ P x) ∧ x < K) 3 vl (ms[i].loc.map vP) ∧ Rws h (fun x => (N ≤ x ∧ ¬ P x) ∧ x < K) 3 vs (ms[i].stk.map vP)
theorem MR.mk {h : Hp} {N M : Nat} {v : AV} {ms : List Mv} (hm : MR h N M v ms) (hM : M ≤ h.nb) : MK h N M h.nb v ms := by
  obtain ⟨P, rs, r, hP, hl, hi⟩ := hm
  refine ⟨P, rs, r, fun x hx => ⟨(hP x hx).1, (hP x hx).2, by have := (hP x hx).2; omega⟩, hl, fun i h1 h2 => ?_⟩
  obtain ⟨vl, vs, e, r1, r2⟩ := hi i h1 h2
  exact ⟨vl, vs, e, r1.mono fun x hx hlt => ⟨hx, hlt⟩, r2.mono fun x hx hlt => ⟨hx, hlt⟩⟩
theorem MK.mr {h : Hp} {N M K : Nat} {v : AV} {ms : List Mv} (hm : MK h N M K v ms) : MR h N M v ms := by
  obtain ⟨P, rs, r, hP, hl, hi⟩ := hm
  refine ⟨P, rs, r, fun x hx => ⟨(hP x hx).1, (hP x hx).2.1⟩, hl, fun i h1 h2 => ?_⟩
  obtain ⟨vl, vs, e, r1, r2⟩ := hi i h1 h2
  exact ⟨vl, vs, e, r1.mono fun x hx _ => hx.1, r2.mono fun x hx _ => hx.1⟩
theorem MK.to {h h' : Hp} {N M K : Nat} {v : AV} {ms : List Mv} {W : Nat → Prop} (hm : MK h N M K v ms) (ht : To W h h') (hd : ∀ x, N ≤ x → x < K → ¬ W x) : MK h' N M K v ms := by
  obtain ⟨P, rs, r, hP, hl, hi⟩ := hm
  refine ⟨P, rs, r.to ht (fun x hx _ => hd x (hP x hx).1 (hP x hx).2.2), hP, hl, fun i h1 h2 => ?_⟩
  obtain ⟨vl, vs, e, r1, r2⟩ := hi i h1 h2
  exact ⟨vl, vs, e, r1.to ht (fun x hx _ => hd x hx.1.1 hx.2), r2.to ht (fun x hx _ => hd x hx.1.1 hx.2)⟩
/-- What the bytes of stated frames are. -/
def rdm (t : List Nat) : Option (List Mv) :=
  if (adv t (0, false) 2).2 = true then none else if 4096 < val t (0, false) 2 then none
  else match ens t (val t (0, false) 2) (adv t (0, false) 2) [] with
    | none => none
    | some r => if 0 < t.length - r.2.1 then none else some r.1
theorem blk_x0 {vs : List AV} {h : Hp} (k : List AV → Hp → Res) : blk 0 (.exit 0 vs h) k = k vs h := of_eq_true (eq_self _)
theorem t61 {h : Hp} {P : Nat → Prop} {v : AV} {t : List Nat} {pb : Nat} (hs : Sl h P v (Bs t)) (hw : Wf h) (ht : t.length ≤ 100000) (hb : ∀ x ∈ t, x < 256) (hp : Pool h pb) :
    (rdm t = none ∧ ∃ h', s61 [v, plv pb] h = .ret nilF h' ∧ To No h h' ∧ Wf h') ∨
    (∃ ms v' h', rdm t = some ms ∧ s61 [v, plv pb] h = .ret (.tup (.cons v' (.cons (.bool true) .nil))) h' ∧ MR h' h.nb h'.nb v' ms ∧ To No h h' ∧ Wf h') := by
  obtain ⟨b, h1, e1, c1, o1, w1, x1⟩ := t25 hs hw ht hb
  have nb1 := o1.nb
  have hpl := Ce.lt hp
  have hbl := c1.lo
  have c1 : CurQ h1 h.nb b t (0, false) := c1
  obtain ⟨h2, e2, q2, o2, w2⟩ := u2 c1 w1
  have nb2 := o2.nb
  have e3 := t30 q2
  have hv : val t (0, false) 2 < 65536 := val_lt hb _ 2
  have fin : ∀ {g : Hp}, To (fun x => h.nb ≤ x) h g → To No h g := fun tt => tt.mono fun x hx e => by have : h.nb ≤ x := e; omega
  have o12 : To (fun x => h.nb ≤ x) h h2 := (o1.mono fun _ _ f => f.elim).trans (o2.mono fun x _ e => by have : x = b := e; show h.nb ≤ x; omega)
  have p2 : Pool h2 pb := hp.to o12 (fun e => by have : h.nb ≤ pb := e; omega)
  have gi : ∀ x : Int, gsel (.bool false) false (.int 63 x) = .int 63 x := fun x => rfl
  cases hq : (adv t (0, false) 2).2 with
  | true =>
    rw [hq] at e3
    refine .inl ⟨by unfold rdm; rw [if_pos hq], h2, ?_, fin o12, w2⟩
    simp only [↓s61, ↓e1, ↓e2, ↓e3, ↓cK_nils, Bool.not_true, ↓uc_c, ↓uz_n, ↓cI_i, ↓cB_b, cB_b, ↓cT_t, cT_t, nth_z, nth_1, cK_b, ↓cK_b, ↓cK_i, cK_i, ifB_t, ifB_f, ↓ap_e, sel_t, sel_f, gsel_tt, gsel_tf, gsel_ft, gsel_ff, gsel_u, gd_tt, gd_tf, gd_ft, gd_ff, gd_u, ↓jn_n, jn_n, jn_r, ↓jn_r, blk_n, blk_r, ↓cl_r, cl_r, ↓iAdd_i, ↓iSub_i, ↓iMul_i, ↓iAnd_i, ↓iOr_i, ↓iXor_i, ↓iNeg_i, iQuo_i, iRem_i, ↓iConv_i, iConv_i, ↓bNot_b, bNot_b, ↓eqN_i, ↓ltN_i, ↓eqB_b, bnot_e, Int.ofNat_eq_natCast, Int.cast_ofNat_Int, Int.reduceBEq, Int.reduceAdd, Int.reduceNeg, Int.reduceNegSucc, Int.reduceLT, Int.reduceLE, Int.reduceMul, Int.reduceTMod, Int.reduceSub, Int.reduceBNe, Bool.not_true, Bool.not_false, decide_true, decide_false, w63_in, w31_in, ne_eq, not_false_eq_true, Int.reduceEq, reduceCtorEq, ww3131, ww6363, ww3163, ww6331, ww3231, ww3263, ww6463, ww6364, sh31, sh63, sl63, m31, m63, n63, s5a, s5b, s6a, s6b, b31, b32, b63, c63, c64, d64, iShl_c, iShr_c, sr3, sr6, sr7]
  | false =>
    rw [hq] at e3
    have hq' : ¬ (adv t (0, false) 2).2 = true := by rw [hq]; exact Bool.false_ne_true
    by_cases c : 4096 < val t (0, false) 2
    · have i4 : (4096 : Int) < ((val t (0, false) 2 : Nat) : Int) := by omega
      refine .inl ⟨by unfold rdm; rw [if_neg hq', if_pos c], h2, ?_, fin o12, w2⟩
      simp only [↓s61, ↓e1, ↓e2, ↓e3, ↓gi, i4, ↓cK_nils, Bool.not_false, ↓uc_c, ↓uz_n, ↓cI_i, ↓cB_b, cB_b, ↓cT_t, cT_t, nth_z, nth_1, cK_b, ↓cK_b, ↓cK_i, cK_i, ifB_t, ifB_f, ↓ap_e, sel_t, sel_f, gsel_tt, gsel_tf, gsel_ft, gsel_ff, gsel_u, gd_tt, gd_tf, gd_ft, gd_ff, gd_u, ↓jn_n, jn_n, jn_r, ↓jn_r, blk_n, blk_r, ↓cl_r, cl_r, ↓iAdd_i, ↓iSub_i, ↓iMul_i, ↓iAnd_i, ↓iOr_i, ↓iXor_i, ↓iNeg_i, iQuo_i, iRem_i, ↓iConv_i, iConv_i, ↓bNot_b, bNot_b, ↓eqN_i, ↓ltN_i, ↓eqB_b, bnot_e, Int.ofNat_eq_natCast, Int.cast_ofNat_Int, Int.reduceBEq, Int.reduceAdd, Int.reduceNeg, Int.reduceNegSucc, Int.reduceLT, Int.reduceLE, Int.reduceMul, Int.reduceTMod, Int.reduceSub, Int.reduceBNe, Bool.not_true, Bool.not_false, decide_true, decide_false, w63_in, w31_in, ne_eq, not_false_eq_true, Int.reduceEq, reduceCtorEq, ww3131, ww6363, ww3163, ww6331, ww3231, ww3263, ww6463, ww6364, sh31, sh63, sl63, m31, m63, n63, s5a, s5b, s6a, s6b, b31, b32, b63, c63, c64, d64, iShl_c, iShr_c, sr3, sr6, sr7]
    · have i4 : ¬ (4096 : Int) < ((val t (0, false) 2 : Nat) : Int) := by omega
      have hm : val t (0, false) 2 < most := by unfold most; omega
      have hne : pb ≠ b := by omega
      rcases loop61 (N := h2.nb) (by have := x1; omega) (by omega) hne (val t (0, false) 2) 0 most (adv t (0, false) 2) [] .nils h2 hm (by omega) (Nat.le_refl _) (Nat.le_refl _) w2 q2 p2 (MR.nil _ _ _) with ⟨f1, h', f2, f4, f5⟩ | ⟨r, v', h', f1, f2, f3, f4, f5, f6⟩
      · rw [Nat.zero_add] at f2
        have f2 : lp L61n0 most [plv pb, .ptr b 0, .nils, .int 63 ((val t (0, false) 2 : Nat) : Int), .int 63 0] h2 = .ret nilF h' := f2
        refine .inl ⟨by unfold rdm; rw [if_neg hq', if_neg c, f1], h', ?_, fin (o12.trans (f4.mono fun x _ e => by rcases e with e | e; show h.nb ≤ x; omega; show h.nb ≤ x; omega)), f5⟩
        simp only [↓s61, ↓e1, ↓e2, ↓e3, ↓gi, i4, Bool.not_false, ↓f2, ↓uc_c, ↓uz_n, ↓cI_i, ↓cB_b, cB_b, ↓cT_t, cT_t, nth_z, nth_1, cK_b, ↓cK_b, ↓cK_i, cK_i, ifB_t, ifB_f, ↓ap_e, sel_t, sel_f, gsel_tt, gsel_tf, gsel_ft, gsel_ff, gsel_u, gd_tt, gd_tf, gd_ft, gd_ff, gd_u, ↓jn_n, jn_n, jn_r, ↓jn_r, blk_n, blk_r, ↓cl_r, cl_r, ↓iAdd_i, ↓iSub_i, ↓iMul_i, ↓iAnd_i, ↓iOr_i, ↓iXor_i, ↓iNeg_i, iQuo_i, iRem_i, ↓iConv_i, iConv_i, ↓bNot_b, bNot_b, ↓eqN_i, ↓ltN_i, ↓eqB_b, bnot_e, Int.ofNat_eq_natCast, Int.cast_ofNat_Int, Int.reduceBEq, Int.reduceAdd, Int.reduceNeg, Int.reduceNegSucc, Int.reduceLT, Int.reduceLE, Int.reduceMul, Int.reduceTMod, Int.reduceSub, Int.reduceBNe, Bool.not_true, Bool.not_false, decide_true, decide_false, w63_in, w31_in, ne_eq, not_false_eq_true, Int.reduceEq, reduceCtorEq, ww3131, ww6363, ww3163, ww6331, ww3231, ww3263, ww6463, ww6364, sh31, sh63, sl63, m31, m63, n63, s5a, s5b, s6a, s6b, b31, b32, b63, c63, c64, d64, iShl_c, iShr_c, sr3, sr6, sr7]
      · rw [Nat.zero_add] at f2
        have f2 : lp L61n0 most [plv pb, .ptr b 0, .nils, .int 63 ((val t (0, false) 2 : Nat) : Int), .int 63 0] h2 = .exit 0 [.ptr b 0, v'] h' := f2
        have e4 := t31 f4
        have ck := fun kk => f3.cK kk
        have fo : To No h h' := fin (o12.trans (f5.mono fun x _ e => by rcases e with e | e; show h.nb ≤ x; omega; show h.nb ≤ x; omega))
        by_cases cl_ : 0 < t.length - r.2.1
        · have i5 : (0 : Int) < ((t.length - r.2.1 : Nat) : Int) := by omega
          refine .inl ⟨by unfold rdm; rw [if_neg hq', if_neg c, f1]; simp only []; rw [if_pos cl_], h', ?_, fo, f6⟩
          simp only [↓s61, ↓e1, ↓e2, ↓e3, ↓gi, i4, Bool.not_false, ↓f2, ↓e4, i5, ↓cK_nils, blk_x0, ↓uc_c, ↓uz_n, ↓cI_i, ↓cB_b, cB_b, ↓cT_t, cT_t, nth_z, nth_1, cK_b, ↓cK_b, ↓cK_i, cK_i, ifB_t, ifB_f, ↓ap_e, sel_t, sel_f, gsel_tt, gsel_tf, gsel_ft, gsel_ff, gsel_u, gd_tt, gd_tf, gd_ft, gd_ff, gd_u, ↓jn_n, jn_n, jn_r, ↓jn_r, blk_n, blk_r, ↓cl_r, cl_r, ↓iAdd_i, ↓iSub_i, ↓iMul_i, ↓iAnd_i, ↓iOr_i, ↓iXor_i, ↓iNeg_i, iQuo_i, iRem_i, ↓iConv_i, iConv_i, ↓bNot_b, bNot_b, ↓eqN_i, ↓ltN_i, ↓eqB_b, bnot_e, Int.ofNat_eq_natCast, Int.cast_ofNat_Int, Int.reduceBEq, Int.reduceAdd, Int.reduceNeg, Int.reduceNegSucc, Int.reduceLT, Int.reduceLE, Int.reduceMul, Int.reduceTMod, Int.reduceSub, Int.reduceBNe, Bool.not_true, Bool.not_false, decide_true, decide_false, w63_in, w31_in, ne_eq, not_false_eq_true, Int.reduceEq, reduceCtorEq, ww3131, ww6363, ww3163, ww6331, ww3231, ww3263, ww6463, ww6364, sh31, sh63, sl63, m31, m63, n63, s5a, s5b, s6a, s6b, b31, b32, b63, c63, c64, d64, iShl_c, iShr_c, sr3, sr6, sr7]
        · have i5 : ¬ (0 : Int) < ((t.length - r.2.1 : Nat) : Int) := by omega
          refine .inr ⟨r.1, v', h', by unfold rdm; rw [if_neg hq', if_neg c, f1]; simp only []; rw [if_neg cl_], ?_, ?_, fo, f6⟩
          · simp only [↓s61, ↓e1, ↓e2, ↓e3, ↓gi, i4, Bool.not_false, ↓f2, ↓e4, i5, ↓ck, blk_x0, ↓uc_c, ↓uz_n, ↓cI_i, ↓cB_b, cB_b, ↓cT_t, cT_t, nth_z, nth_1, cK_b, ↓cK_b, ↓cK_i, cK_i, ifB_t, ifB_f, ↓ap_e, sel_t, sel_f, gsel_tt, gsel_tf, gsel_ft, gsel_ff, gsel_u, gd_tt, gd_tf, gd_ft, gd_ff, gd_u, ↓jn_n, jn_n, jn_r, ↓jn_r, blk_n, blk_r, ↓cl_r, cl_r, ↓iAdd_i, ↓iSub_i, ↓iMul_i, ↓iAnd_i, ↓iOr_i, ↓iXor_i, ↓iNeg_i, iQuo_i, iRem_i, ↓iConv_i, iConv_i, ↓bNot_b, bNot_b, ↓eqN_i, ↓ltN_i, ↓eqB_b, bnot_e, Int.ofNat_eq_natCast, Int.cast_ofNat_Int, Int.reduceBEq, Int.reduceAdd, Int.reduceNeg, Int.reduceNegSucc, Int.reduceLT, Int.reduceLE, Int.reduceMul, Int.reduceTMod, Int.reduceSub, Int.reduceBNe, Bool.not_true, Bool.not_false, decide_true, decide_false, w63_in, w31_in, ne_eq, not_false_eq_true, Int.reduceEq, reduceCtorEq, ww3131, ww6363, ww3163, ww6331, ww3231, ww3263, ww6463, ww6364, sh31, sh63, sl63, m31, m63, n63, s5a, s5b, s6a, s6b, b31, b32, b63, c63, c64, d64, iShl_c, iShr_c, sr3, sr6, sr7]
          · obtain ⟨P, rs, a1, a2, a3, a4⟩ := f3
            have nb' := o12.nb
            refine ⟨P, rs, a1, fun x hx => ⟨by have := (a2 x hx).1; omega, (a2 x hx).2⟩, a3, fun i z1 z2 => ?_⟩
            obtain ⟨wl, ws, y1, y2, y3⟩ := a4 i z1 z2
            exact ⟨wl, ws, y1, y2.mono fun x hx _ => ⟨by have := hx.1; omega, hx.2⟩, y3.mono fun x hx _ => ⟨by have := hx.1; omega, hx.2⟩⟩
end Go.Proofs.Ytnpfppddongbhaa
