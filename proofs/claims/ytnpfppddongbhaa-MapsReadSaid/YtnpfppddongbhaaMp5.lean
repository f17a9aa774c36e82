/-
  The reader of stated frames: what each of its functions answers (part Mp5).
-/
import Derived.Test.YtnpfppddongbhaaMp4
set_option linter.unusedVariables false
set_option linter.unusedSimpArgs false
namespace Go.Proofs.Ytnpfppddongbhaa
open Go Go.AM
set_option autoImplicit false
set_option linter.unusedSimpArgs false
set_option linter.unusedVariables false
/-! ### types, one after another -/
noncomputable def vP (p : Nat × Nat) : List AV := vL p.1 p.2
def kds (t : List Nat) : Nat → Sq → List (Nat × Nat) → Option (List (Nat × Nat) × Sq)
  | 0, q, l => some (l, q)
  | n + 1, q, l => if (kd t q).2.1 = true ∧ (kd t q).2.2.2 = false then kds t n (kd t q).2.2 (l ++ [(kd t q).1]) else none
theorem bldR (k a : Nat) (f : AV → Res) : bld [(true, 3, .agg (avL (vL k a)))] f = f (avL (vL k a)) := of_eq_true (eq_self _)
abbrev nilF : AV := .tup (.cons .nils (.cons (.bool false) .nil))
theorem loop108 {lo b pb N : Nat} {t : List Nat} (hb : b < N) (hpb : pb < N) (hne : pb ≠ b) : ∀ (n i m : Nat) (q : Sq) (l : List (Nat × Nat)) (v : AV) (h : Hp), n < m → i + n ≤ 70000 → l.length ≤ i → N ≤ h.nb → Wf h → CurQ h lo b t q → Pool h pb → Rws h (fun x => N ≤ x) 3 v (l.map vP) →
    (kds t n q l = none ∧ ∃ h', lp L108n0 m [.ptr b 0, plv pb, v, .int 63 ((i + n : Nat) : Int), .int 63 (i : Int)] h = .ret nilF h' ∧ (∃ q', CurQ h' lo b t q') ∧ To (fun x => x = b ∨ N ≤ x) h h' ∧ Wf h') ∨
    (∃ r v' h', kds t n q l = some r ∧ lp L108n0 m [.ptr b 0, plv pb, v, .int 63 ((i + n : Nat) : Int), .int 63 (i : Int)] h = .exit 0 [v'] h' ∧ Rws h' (fun x => N ≤ x) 3 v' (r.1.map vP) ∧ CurQ h' lo b t r.2 ∧ To (fun x => x = b ∨ N ≤ x) h h' ∧ Wf h') := by
  intro n
  induction n with
  | zero =>
    intro i m q l v h hm hi hl hnb hw hc hp hr
    obtain ⟨m, rfl⟩ : ∃ k, m = k + 1 := ⟨m - 1, by omega⟩
    have c1 : ¬ (i : Int) < (i : Int) := by omega
    exact .inr ⟨(l, q), v, h, rfl, lpx m (by simp only [↓L108n0, Nat.add_zero, c1, ↓uc_c, ↓uz_n, ↓cI_i, ↓cB_b, cB_b, ↓cT_t, cT_t, nth_z, nth_1, cK_b, ↓cK_b, ↓cK_i, cK_i, ifB_t, ifB_f, ↓ap_e, sel_t, sel_f, gsel_tt, gsel_tf, gsel_ft, gsel_ff, gsel_u, gd_tt, gd_tf, gd_ft, gd_ff, gd_u, ↓jn_n, jn_n, jn_r, ↓jn_r, blk_n, blk_r, ↓cl_r, cl_r, ↓iAdd_i, ↓iSub_i, ↓iMul_i, ↓iAnd_i, ↓iOr_i, ↓iXor_i, ↓iNeg_i, iQuo_i, iRem_i, ↓iConv_i, iConv_i, ↓bNot_b, bNot_b, ↓eqN_i, ↓ltN_i, ↓eqB_b, bnot_e, Int.ofNat_eq_natCast, Int.cast_ofNat_Int, Int.reduceBEq, Int.reduceAdd, Int.reduceNeg, Int.reduceNegSucc, Int.reduceLT, Int.reduceLE, Int.reduceMul, Int.reduceTMod, Int.reduceSub, Int.reduceBNe, Bool.not_true, Bool.not_false, decide_true, decide_false, w63_in, w31_in, ne_eq, not_false_eq_true, Int.reduceEq, reduceCtorEq, ww3131, ww6363, ww3163, ww6331, ww3231, ww3263, ww6463, ww6364, sh31, sh63, sl63, m31, m63, n63, s5a, s5b, s6a, s6b, b31, b32, b63, c63, c64, d64, iShl_c, iShr_c, sr3, sr6, sr7]), hr, hc, To.refl _ _, hw⟩
  | succ n ih =>
    intro i m q l v h hm hi hl hnb hw hc hp hr
    obtain ⟨m, rfl⟩ : ∃ k, m = k + 1 := ⟨m - 1, by omega⟩
    have c1 : (i : Int) < ((i + (n + 1) : Nat) : Int) := by omega
    obtain ⟨h1, e1, q1, o1, w1⟩ := t112 hc hp hne hw
    have nb1 := o1.nb
    obtain ⟨h2, m2, m2', c2, o2, w2, x2⟩ := mkV0 w1
    obtain ⟨h3, s3, c3, o3, w3, x3⟩ := Ce.stV w2 c2 (kd t q).1.1 (kd t q).1.2
    have q3 : CurQ h3 lo b t (kd t q).2.2 := (q1.to o2 (fun _ _ _ f => f)).to o3 (fun x _ hx e => by have : x = h1.nb := e; omega)
    have o13 : To (fun x => x = b ∨ N ≤ x) h h3 := ((o1.mono fun x _ e => Or.inl e).trans (o2.mono fun _ _ f => f.elim)).trans (o3.mono fun x _ e => by have : x = h1.nb := e; exact .inr (by omega))
    have r1 : Rws h1 (fun x => N ≤ x ∧ x < h1.nb) 3 v (l.map vP) := (hr.to o1 (fun x hx _ e => by have hx : N ≤ x := hx; have : x = b := e; omega)).mono fun x hx hlt => ⟨hx, hlt⟩
    have r3 : Rws h3 (fun x => N ≤ x) 3 v (l.map vP) := ((r1.to o2 (fun _ _ _ f => f)).to o3 (fun x hx _ e => by have : x = h1.nb := e; have := hx.2; omega)).mono fun x hx _ => hx.1
    have p3 : Pool h3 pb := hp.to o13 (fun e => by rcases e with e | e; exact hne e; omega)
    have e30 := t30 q3
    have d3 := fun kk => Ce.ldV c3 kk
    have i1 := s1n i (by omega)
    have gp : gsel (.bool false) false (.ptr b 0) = .ptr b 0 := rfl
    have e1 : s112 [.ptr b 0, plv pb] h = .ret (.tup (.cons (.agg (avL (vL (kd t q).1.1 (kd t q).1.2))) (.cons (.bool (kd t q).2.1) .nil))) h1 := e1
    have hkd : kds t (n + 1) q l = if (kd t q).2.1 = true ∧ (kd t q).2.2.2 = false then kds t n (kd t q).2.2 (l ++ [(kd t q).1]) else none := rfl
    rw [hkd]
    generalize kd t q = E at *
    obtain ⟨⟨k, a⟩, ok, q'⟩ := E
    simp only at *
    cases ok with
    | false =>
      refine .inl ⟨if_neg (fun hh => by cases hh.1), h3, ?_, ⟨_, q3⟩, o13, w3⟩
      exact lpr m (by simp only [↓L108n0, c1, ↓e1, nth_z, nth_1, ↓cK_agg, ↓m2, ↓m2', ↓s3, ↓cK_nils, ↓uc_c, ↓uz_n, ↓cI_i, ↓cB_b, cB_b, ↓cT_t, cT_t, nth_z, nth_1, cK_b, ↓cK_b, ↓cK_i, cK_i, ifB_t, ifB_f, ↓ap_e, sel_t, sel_f, gsel_tt, gsel_tf, gsel_ft, gsel_ff, gsel_u, gd_tt, gd_tf, gd_ft, gd_ff, gd_u, ↓jn_n, jn_n, jn_r, ↓jn_r, blk_n, blk_r, ↓cl_r, cl_r, ↓iAdd_i, ↓iSub_i, ↓iMul_i, ↓iAnd_i, ↓iOr_i, ↓iXor_i, ↓iNeg_i, iQuo_i, iRem_i, ↓iConv_i, iConv_i, ↓bNot_b, bNot_b, ↓eqN_i, ↓ltN_i, ↓eqB_b, bnot_e, Int.ofNat_eq_natCast, Int.cast_ofNat_Int, Int.reduceBEq, Int.reduceAdd, Int.reduceNeg, Int.reduceNegSucc, Int.reduceLT, Int.reduceLE, Int.reduceMul, Int.reduceTMod, Int.reduceSub, Int.reduceBNe, Bool.not_true, Bool.not_false, decide_true, decide_false, w63_in, w31_in, ne_eq, not_false_eq_true, Int.reduceEq, reduceCtorEq, ww3131, ww6363, ww3163, ww6331, ww3231, ww3263, ww6463, ww6364, sh31, sh63, sl63, m31, m63, n63, s5a, s5b, s6a, s6b, b31, b32, b63, c63, c64, d64, iShl_c, iShr_c, sr3, sr6, sr7])
    | true =>
      cases hbad : q'.2 with
      | true =>
        rw [hbad] at e30
        refine .inl ⟨if_neg (fun hh => by cases hh.2), h3, ?_, ⟨_, q3⟩, o13, w3⟩
        exact lpr m (by simp only [↓L108n0, c1, ↓e1, nth_z, nth_1, ↓cK_agg, ↓m2, ↓m2', ↓s3, ↓gp, ↓e30, ↓cK_nils, Bool.not_true, ↓uc_c, ↓uz_n, ↓cI_i, ↓cB_b, cB_b, ↓cT_t, cT_t, nth_z, nth_1, cK_b, ↓cK_b, ↓cK_i, cK_i, ifB_t, ifB_f, ↓ap_e, sel_t, sel_f, gsel_tt, gsel_tf, gsel_ft, gsel_ff, gsel_u, gd_tt, gd_tf, gd_ft, gd_ff, gd_u, ↓jn_n, jn_n, jn_r, ↓jn_r, blk_n, blk_r, ↓cl_r, cl_r, ↓iAdd_i, ↓iSub_i, ↓iMul_i, ↓iAnd_i, ↓iOr_i, ↓iXor_i, ↓iNeg_i, iQuo_i, iRem_i, ↓iConv_i, iConv_i, ↓bNot_b, bNot_b, ↓eqN_i, ↓ltN_i, ↓eqB_b, bnot_e, Int.ofNat_eq_natCast, Int.cast_ofNat_Int, Int.reduceBEq, Int.reduceAdd, Int.reduceNeg, Int.reduceNegSucc, Int.reduceLT, Int.reduceLE, Int.reduceMul, Int.reduceTMod, Int.reduceSub, Int.reduceBNe, Bool.not_true, Bool.not_false, decide_true, decide_false, w63_in, w31_in, ne_eq, not_false_eq_true, Int.reduceEq, reduceCtorEq, ww3131, ww6363, ww3163, ww6331, ww3231, ww3263, ww6463, ww6364, sh31, sh63, sl63, m31, m63, n63, s5a, s5b, s6a, s6b, b31, b32, b63, c63, c64, d64, iShl_c, iShr_c, sr3, sr6, sr7])
      | false =>
        rw [hbad] at e30
        obtain ⟨v', h4, h5, g4, g5, r5, o5, w5⟩ := apd_rows (by_ := 32) w3 r3 (by decide) (vL k a) rfl (vL_one k a) (by simp; omega) (by simp; omega)
        have g4 : ∀ kk : AV → Hp → Res, mkS h3 3 1 (avL (vL k a)) kk = kk (.sl h3.nb 0 1 3 (some 1)) h4 := g4
        have r5 : Rws h5 (fun x => N ≤ x) 3 v' ((l ++ [(k, a)]).map vP) := by
          rw [List.map_append]
          refine r5.mono fun x hx _ => ?_
          have nb3 := o13.nb
          rcases hx with hx | hx
          · exact hx
          · omega
        have o5' := o5
        have o5 : To (fun x => x = b ∨ N ≤ x) h3 h5 := o5.mono fun x _ e => .inr e
        have e : L108n0 [.ptr b 0, plv pb, v, .int 63 ((i + (n + 1) : Nat) : Int), .int 63 (i : Int)] h = .norm [.ptr b 0, plv pb, v', .int 63 ((i + (n + 1) : Nat) : Int), .int 63 ((i + 1 : Nat) : Int)] h5 := by
          simp only [↓L108n0, c1, ↓e1, nth_z, nth_1, ↓cK_agg, ↓m2, ↓m2', ↓s3, ↓gp, ↓e30, Bool.not_false, ↓d3, ↓bldR, ↓g4, ↓g5, i1, ↓uc_c, ↓uz_n, ↓cI_i, ↓cB_b, cB_b, ↓cT_t, cT_t, nth_z, nth_1, cK_b, ↓cK_b, ↓cK_i, cK_i, ifB_t, ifB_f, ↓ap_e, sel_t, sel_f, gsel_tt, gsel_tf, gsel_ft, gsel_ff, gsel_u, gd_tt, gd_tf, gd_ft, gd_ff, gd_u, ↓jn_n, jn_n, jn_r, ↓jn_r, blk_n, blk_r, ↓cl_r, cl_r, ↓iAdd_i, ↓iSub_i, ↓iMul_i, ↓iAnd_i, ↓iOr_i, ↓iXor_i, ↓iNeg_i, iQuo_i, iRem_i, ↓iConv_i, iConv_i, ↓bNot_b, bNot_b, ↓eqN_i, ↓ltN_i, ↓eqB_b, bnot_e, Int.ofNat_eq_natCast, Int.cast_ofNat_Int, Int.reduceBEq, Int.reduceAdd, Int.reduceNeg, Int.reduceNegSucc, Int.reduceLT, Int.reduceLE, Int.reduceMul, Int.reduceTMod, Int.reduceSub, Int.reduceBNe, Bool.not_true, Bool.not_false, decide_true, decide_false, w63_in, w31_in, ne_eq, not_false_eq_true, Int.reduceEq, reduceCtorEq, ww3131, ww6363, ww3163, ww6331, ww3231, ww3263, ww6463, ww6364, sh31, sh63, sl63, m31, m63, n63, s5a, s5b, s6a, s6b, b31, b32, b63, c63, c64, d64, iShl_c, iShr_c, sr3, sr6, sr7]
        have o15 := o13.trans o5
        have nb5 := o15.nb
        rw [if_pos ⟨rfl, rfl⟩]
        have ei : i + (n + 1) = (i + 1) + n := by omega
        rw [lpn m e, ei]
        rcases ih (i + 1) m q' (l ++ [(k, a)]) v' h5 (by omega) (by omega) (by simp; omega) (by omega) w5 (q3.to o5' (fun x _ hx e => by have : N ≤ x := e; omega)) (p3.to o5 (fun e => by rcases e with e | e; exact hne e; omega)) r5 with ⟨f1, h6, f2, f3, f4, f5⟩ | ⟨r, v6, h6, f1, f2, f3, f4, f5, f6⟩
        · exact .inl ⟨f1, h6, f2, f3, o15.trans f4, f5⟩
        · exact .inr ⟨r, v6, h6, f1, f2, f3, f4, o15.trans f5, f6⟩
theorem t108 {h : Hp} {lo b pb : Nat} {t : List Nat} {q : Sq} (hc : CurQ h lo b t q) (hp : Pool h pb) (hne : pb ≠ b) (hw : Wf h) (n : Nat) (hn : n ≤ 70000) :
    (kds t n q [] = none ∧ ∃ h', s108 [.ptr b 0, plv pb, .int 63 (n : Int)] h = .ret nilF h' ∧ (∃ q', CurQ h' lo b t q') ∧ To (At b) h h' ∧ Wf h') ∨
    (∃ r v' h', kds t n q [] = some r ∧ s108 [.ptr b 0, plv pb, .int 63 (n : Int)] h = .ret (.tup (.cons v' (.cons (.bool true) .nil))) h' ∧ Rws h' (fun x => h.nb ≤ x) 3 v' (r.1.map vP) ∧ CurQ h' lo b t r.2 ∧ To (At b) h h' ∧ Wf h') := by
  have hb : b < h.nb := by obtain ⟨B, v, o, r⟩ := hc.own; exact o.lt
  have fin : ∀ {g : Hp}, To (fun x => x = b ∨ h.nb ≤ x) h g → To (At b) h g := fun tt => tt.mono fun x hx e => by
    rcases e with e | e
    · exact e
    · omega
  have e0 : ∀ _ : Nat, s108 [.ptr b 0, plv pb, .int 63 (n : Int)] h = blk 0 (lp L108n0 most [.ptr b 0, plv pb, .nils, .int 63 (n : Int), .int 63 (.ofNat 0)] h) fun w62 h63 => uc w62 fun v64 _ => cK v64 fun v65 => cK (.bool true) fun v66 => .ret (.tup (.cons v65 (.cons v66 .nil))) h63 := fun _ => rfl
  have hm : n < most := by unfold most; omega
  rcases loop108 hb (Ce.lt hp) hne n 0 most q [] .nils h hm (by omega) (Nat.le_refl _) (Nat.le_refl _) hw hc hp (Rws.nil _ _ _) with ⟨f1, h', f2, f3, f4, f5⟩ | ⟨r, v', h', f1, f2, f3, f4, f5, f6⟩
  · rw [Nat.zero_add] at f2
    have f2 : lp L108n0 most [.ptr b 0, plv pb, .nils, .int 63 (n : Int), .int 63 (.ofNat 0)] h = .ret nilF h' := f2
    refine .inl ⟨f1, h', ?_, f3, fin f4, f5⟩
    rw [e0 0, f2]; rfl
  · rw [Nat.zero_add] at f2
    have f2 : lp L108n0 most [.ptr b 0, plv pb, .nils, .int 63 (n : Int), .int 63 (.ofNat 0)] h = .exit 0 [v'] h' := f2
    refine .inr ⟨r, v', h', f1, ?_, f3, f4, fin f5, f6⟩
    rw [e0 0, f2]
    show (cK v' fun v65 => cK (.bool true) fun v66 => .ret (.tup (.cons v65 (.cons v66 .nil))) h') = _
    rw [f3.cK]; rfl
/-! the same of the reference -/
theorem loop88 {lo b pb N : Nat} {t : List Nat} (hb : b < N) (hpb : pb < N) (hne : pb ≠ b) : ∀ (n i m : Nat) (q : Sq) (l : List (Nat × Nat)) (v : AV) (h : Hp), n < m → i + n ≤ 70000 → l.length ≤ i → N ≤ h.nb → Wf h → CurQ h lo b t q → Pool h pb → Rws h (fun x => N ≤ x) 3 v (l.map vP) →
    (kds t n q l = none ∧ ∃ h', lp L88n0 m [.ptr b 0, plv pb, .int 63 (n : Int), v] h = .ret nilF h' ∧ (∃ q', CurQ h' lo b t q') ∧ To (fun x => x = b ∨ N ≤ x) h h' ∧ Wf h') ∨
    (∃ r v' h', kds t n q l = some r ∧ lp L88n0 m [.ptr b 0, plv pb, .int 63 (n : Int), v] h = .exit 0 [v'] h' ∧ Rws h' (fun x => N ≤ x) 3 v' (r.1.map vP) ∧ CurQ h' lo b t r.2 ∧ To (fun x => x = b ∨ N ≤ x) h h' ∧ Wf h') := by
  intro n
  induction n with
  | zero =>
    intro i m q l v h hm hi hl hnb hw hc hp hr
    obtain ⟨m, rfl⟩ : ∃ k, m = k + 1 := ⟨m - 1, by omega⟩
    exact .inr ⟨(l, q), v, h, rfl, lpx m (by simp only [↓L88n0, ↓uc_c, ↓uz_n, ↓cI_i, ↓cB_b, cB_b, ↓cT_t, cT_t, nth_z, nth_1, cK_b, ↓cK_b, ↓cK_i, cK_i, ifB_t, ifB_f, ↓ap_e, sel_t, sel_f, gsel_tt, gsel_tf, gsel_ft, gsel_ff, gsel_u, gd_tt, gd_tf, gd_ft, gd_ff, gd_u, ↓jn_n, jn_n, jn_r, ↓jn_r, blk_n, blk_r, ↓cl_r, cl_r, ↓iAdd_i, ↓iSub_i, ↓iMul_i, ↓iAnd_i, ↓iOr_i, ↓iXor_i, ↓iNeg_i, iQuo_i, iRem_i, ↓iConv_i, iConv_i, ↓bNot_b, bNot_b, ↓eqN_i, ↓ltN_i, ↓eqB_b, bnot_e, Int.ofNat_eq_natCast, Int.cast_ofNat_Int, Int.reduceBEq, Int.reduceAdd, Int.reduceNeg, Int.reduceNegSucc, Int.reduceLT, Int.reduceLE, Int.reduceMul, Int.reduceTMod, Int.reduceSub, Int.reduceBNe, Bool.not_true, Bool.not_false, decide_true, decide_false, w63_in, w31_in, ne_eq, not_false_eq_true, Int.reduceEq, reduceCtorEq, ww3131, ww6363, ww3163, ww6331, ww3231, ww3263, ww6463, ww6364, sh31, sh63, sl63, m31, m63, n63, s5a, s5b, s6a, s6b, b31, b32, b63, c63, c64, d64, iShl_c, iShr_c, sr3, sr6, sr7]; try rfl), hr, hc, To.refl _ _, hw⟩
  | succ n ih =>
    intro i m q l v h hm hi hl hnb hw hc hp hr
    obtain ⟨m, rfl⟩ : ∃ k, m = k + 1 := ⟨m - 1, by omega⟩
    have c1 : (0 : Int) < ((n + 1 : Nat) : Int) := by omega
    have c1 : (0 : Int) < ((n + 1 : Nat) : Int) := by omega
    obtain ⟨h1, e1, q1, o1, w1⟩ := n1 hc hw
    have nb1 := o1.nb
    obtain ⟨h2, m2, m2', c2, o2, w2, x2⟩ := mkV0 w1
    obtain ⟨h3, s3, c3, o3, w3, x3⟩ := Ce.stV w2 c2 (val t q 1) 0
    have q3 : CurQ h3 lo b t (adv t q 1) := (q1.to o2 (fun _ _ _ f => f)).to o3 (fun x _ hx e => by have : x = h1.nb := e; omega)
    have o13 : To (fun x => x = b ∨ N ≤ x) h h3 := ((o1.mono fun x _ e => Or.inl e).trans (o2.mono fun _ _ f => f.elim)).trans (o3.mono fun x _ e => by have : x = h1.nb := e; exact .inr (by omega))
    have r1 : Rws h1 (fun x => N ≤ x ∧ x < h1.nb) 3 v (l.map vP) := (hr.to o1 (fun x hx _ e => by have hx : N ≤ x := hx; have : x = b := e; omega)).mono fun x hx hlt => ⟨hx, hlt⟩
    have r3 : Rws h3 (fun x => N ≤ x ∧ x < h1.nb) 3 v (l.map vP) := (r1.to o2 (fun _ _ _ f => f)).to o3 (fun x hx _ e => by have : x = h1.nb := e; have := hx.2; omega)
    have p3 : Pool h3 pb := hp.to o13 (fun e => by rcases e with e | e; exact hne e; omega)
    have i1 : wrapC 63 (((n + 1 : Nat) : Int) - 1) = (n : Int) := by rw [w63_in _ (by omega) (by omega)]; omega
    have l3 : ∀ kk : AV → Res, ld1 h3 (.ptr h1.nb (Nat.add 0 0)) kk = kk (.int 63 (val t q 1 : Int)) := fun kk => Ce.l c3 0 (by simp [vL]) kk
    have l3' : ∀ kk : AV → Res, ld1 h3 (.ptr h1.nb 0) kk = kk (.int 63 (val t q 1 : Int)) := l3
    have d3 := fun kk => Ce.ldV c3 kk
    -- what is left when the type was read: it is put behind the others, if the bytes did not end
    have rest : ∀ (k a : Nat) (q' : Sq) (h4 : Hp), kd t q = ((k, a), true, q') → Ce h4 h1.nb (vL k a) → CurQ h4 lo b t q' → To (fun x => x = b ∨ N ≤ x) h h4 → Pool h4 pb → Rws h4 (fun x => N ≤ x ∧ x < h1.nb) 3 v (l.map vP) → Wf h4 →
        ((q'.2 = true ∧ kds t (n + 1) q l = none) ∨ (q'.2 = false ∧ kds t (n + 1) q l = kds t n q' (l ++ [(k, a)]) ∧ ∃ v' h5 h6, (∀ kk : AV → Hp → Res, mkS h4 3 1 (avL (vL k a)) kk = kk (.sl h4.nb 0 1 3 (some 1)) h5) ∧ (∀ kk : AV → Hp → Res, apd h5 3 32 v (.sl h4.nb 0 1 3 (some 1)) kk = kk v' h6) ∧ Rws h6 (fun x => N ≤ x) 3 v' ((l ++ [(k, a)]).map vP) ∧ CurQ h6 lo b t q' ∧ Pool h6 pb ∧ To (fun x => x = b ∨ N ≤ x) h h6 ∧ Wf h6)) := fun k a q' h4 ek c4 q4 o4 p4 r4 w4 => by
      have hkd : kds t (n + 1) q l = if (kd t q).2.1 = true ∧ (kd t q).2.2.2 = false then kds t n (kd t q).2.2 (l ++ [(kd t q).1]) else none := rfl
      rw [hkd, ek]
      have nb4 := o4.nb
      cases hq : q'.2 with
      | true => exact .inl ⟨rfl, if_neg (fun hh => by cases hh.2)⟩
      | false =>
        obtain ⟨v', h5, h6, g4, g5, r5, o5, w5⟩ := apd_rows (by_ := 32) w4 r4 (by decide) (vL k a) rfl (vL_one k a) (by simp; omega) (by simp; omega)
        refine .inr ⟨rfl, if_pos ⟨rfl, rfl⟩, v', h5, h6, g4, g5, ?_, q4.to o5 (fun x _ hx e => by have := e.1; omega), p4.to o5 (fun e => by have := e.1; omega), o4.trans (o5.mono fun x _ e => .inr e.1), w5⟩
        rw [List.map_append]
        refine r5.mono fun x hx _ => ?_
        rcases hx with hx | hx
        · exact hx.1
        · omega
    have f0 : (((val t q 1 : Nat) : Int) == 0) = decide (val t q 1 = 0) := nbeq _ 0
    have f1 : (((val t q 1 : Nat) : Int) == 1) = decide (val t q 1 = 1) := nbeq _ 1
    have f4 : (((val t q 1 : Nat) : Int) == 4) = decide (val t q 1 = 4) := nbeq _ 4
    have f5 : (((val t q 1 : Nat) : Int) == 5) = decide (val t q 1 = 5) := nbeq _ 5
    have f6 : (((val t q 1 : Nat) : Int) == 6) = decide (val t q 1 = 6) := nbeq _ 6
    have f7 : (((val t q 1 : Nat) : Int) == 7) = decide (val t q 1 = 7) := nbeq _ 7
    have f8 : (((val t q 1 : Nat) : Int) == 8) = decide (val t q 1 = 8) := nbeq _ 8
    have bad_ : ∀ {g : Hp} {q' : Sq}, CurQ g lo b t q' → (∀ kk : AV → Res, ld1 g (.ptr b (Nat.add 0 2)) kk = kk (.bool q'.2)) ∧ (∀ kk : AV → Res, ld1 g (.ptr b 2) kk = kk (.bool q'.2)) := fun c => by
      obtain ⟨v, hs, a0, a1, a2⟩ := c.open
      exact ⟨a2, a2⟩
    have go : ∀ {h6 : Hp} {v' : AV} {q' : Sq} {p : Nat × Nat}, kds t (n + 1) q l = kds t n q' (l ++ [p]) → L88n0 [.ptr b 0, plv pb, .int 63 ((n + 1 : Nat) : Int), v] h = .norm [.ptr b 0, plv pb, .int 63 (n : Int), v'] h6 → Rws h6 (fun x => N ≤ x) 3 v' ((l ++ [p]).map vP) → CurQ h6 lo b t q' → Pool h6 pb → To (fun x => x = b ∨ N ≤ x) h h6 → Wf h6 →
      (kds t (n + 1) q l = none ∧ ∃ h', lp L88n0 (m + 1) [.ptr b 0, plv pb, .int 63 ((n + 1 : Nat) : Int), v] h = .ret nilF h' ∧ (∃ q', CurQ h' lo b t q') ∧ To (fun x => x = b ∨ N ≤ x) h h' ∧ Wf h') ∨
      (∃ r v' h', kds t (n + 1) q l = some r ∧ lp L88n0 (m + 1) [.ptr b 0, plv pb, .int 63 ((n + 1 : Nat) : Int), v] h = .exit 0 [v'] h' ∧ Rws h' (fun x => N ≤ x) 3 v' (r.1.map vP) ∧ CurQ h' lo b t r.2 ∧ To (fun x => x = b ∨ N ≤ x) h h' ∧ Wf h') := fun {h6 v' q' p} hk e r6 q6 p6 o6 w6 => by
      rw [hk, lpn m e]
      have nb6 := o6.nb
      rcases ih (i + 1) m q' (l ++ [p]) v' h6 (by omega) (by omega) (by simp; omega) (by omega) w6 q6 p6 r6 with ⟨f1, h7, f2, f3, f4, f5⟩ | ⟨r, v7, h7, f1, f2, f3, f4, f5, f6⟩
      · exact .inl ⟨f1, h7, f2, f3, o6.trans f4, f5⟩
      · exact .inr ⟨r, v7, h7, f1, f2, f3, f4, o6.trans f5, f6⟩
    by_cases k0 : val t q 1 = 0
    · rw [decide_eq_true k0] at f0
      obtain ⟨b1, b2⟩ := bad_ q3
      rcases rest (val t q 1) 0 (adv t q 1) h3 (by unfold kd isK; simp [k0]) c3 q3 o13 p3 r3 w3 with ⟨hq, hk⟩ | ⟨hq, hk, v', h5, h6, g4, g5, r6, q6, p6, o6, w6⟩
      · exact .inl ⟨hk, _, lpr m (by simp only [↓L88n0, c1, ↓e1, ↓bldV, ↓bldV', ↓m2, ↓m2', ↓s3, ↓cP_p, ↓l3, ↓l3', f0, ↓nck_p, ↓b1, ↓b2, hq,  ↓cK_nils, ↓uc_c, ↓uz_n, ↓cI_i, ↓cB_b, cB_b, ↓cT_t, cT_t, nth_z, nth_1, cK_b, ↓cK_b, ↓cK_i, cK_i, ifB_t, ifB_f, ↓ap_e, sel_t, sel_f, gsel_tt, gsel_tf, gsel_ft, gsel_ff, gsel_u, gd_tt, gd_tf, gd_ft, gd_ff, gd_u, ↓jn_n, jn_n, jn_r, ↓jn_r, blk_n, blk_r, ↓cl_r, cl_r, ↓iAdd_i, ↓iSub_i, ↓iMul_i, ↓iAnd_i, ↓iOr_i, ↓iXor_i, ↓iNeg_i, iQuo_i, iRem_i, ↓iConv_i, iConv_i, ↓bNot_b, bNot_b, ↓eqN_i, ↓ltN_i, ↓eqB_b, bnot_e, Int.ofNat_eq_natCast, Int.cast_ofNat_Int, Int.reduceBEq, Int.reduceAdd, Int.reduceNeg, Int.reduceNegSucc, Int.reduceLT, Int.reduceLE, Int.reduceMul, Int.reduceTMod, Int.reduceSub, Int.reduceBNe, Bool.not_true, Bool.not_false, decide_true, decide_false, w63_in, w31_in, ne_eq, not_false_eq_true, Int.reduceEq, reduceCtorEq, ww3131, ww6363, ww3163, ww6331, ww3231, ww3263, ww6463, ww6364, sh31, sh63, sl63, m31, m63, n63, s5a, s5b, s6a, s6b, b31, b32, b63, c63, c64, d64, iShl_c, iShr_c, sr3, sr6, sr7]), ⟨_, q3⟩, o13, w3⟩
      · exact go hk (by simp only [↓L88n0, c1, ↓e1, ↓bldV, ↓bldV', ↓m2, ↓m2', ↓s3, ↓cP_p, ↓l3, ↓l3', f0, ↓nck_p, ↓b1, ↓b2, hq,  ↓d3, ↓bldR, ↓g4, ↓g5, i1, ↓uc_c, ↓uz_n, ↓cI_i, ↓cB_b, cB_b, ↓cT_t, cT_t, nth_z, nth_1, cK_b, ↓cK_b, ↓cK_i, cK_i, ifB_t, ifB_f, ↓ap_e, sel_t, sel_f, gsel_tt, gsel_tf, gsel_ft, gsel_ff, gsel_u, gd_tt, gd_tf, gd_ft, gd_ff, gd_u, ↓jn_n, jn_n, jn_r, ↓jn_r, blk_n, blk_r, ↓cl_r, cl_r, ↓iAdd_i, ↓iSub_i, ↓iMul_i, ↓iAnd_i, ↓iOr_i, ↓iXor_i, ↓iNeg_i, iQuo_i, iRem_i, ↓iConv_i, iConv_i, ↓bNot_b, bNot_b, ↓eqN_i, ↓ltN_i, ↓eqB_b, bnot_e, Int.ofNat_eq_natCast, Int.cast_ofNat_Int, Int.reduceBEq, Int.reduceAdd, Int.reduceNeg, Int.reduceNegSucc, Int.reduceLT, Int.reduceLE, Int.reduceMul, Int.reduceTMod, Int.reduceSub, Int.reduceBNe, Bool.not_true, Bool.not_false, decide_true, decide_false, w63_in, w31_in, ne_eq, not_false_eq_true, Int.reduceEq, reduceCtorEq, ww3131, ww6363, ww3163, ww6331, ww3231, ww3263, ww6463, ww6364, sh31, sh63, sl63, m31, m63, n63, s5a, s5b, s6a, s6b, b31, b32, b63, c63, c64, d64, iShl_c, iShr_c, sr3, sr6, sr7]) r6 q6 p6 o6 w6
    rw [decide_eq_false k0] at f0
    by_cases k1 : val t q 1 = 1
    · rw [decide_eq_true k1] at f1
      obtain ⟨b1, b2⟩ := bad_ q3
      rcases rest (val t q 1) 0 (adv t q 1) h3 (by unfold kd isK; simp [k0, k1]) c3 q3 o13 p3 r3 w3 with ⟨hq, hk⟩ | ⟨hq, hk, v', h5, h6, g4, g5, r6, q6, p6, o6, w6⟩
      · exact .inl ⟨hk, _, lpr m (by simp only [↓L88n0, c1, ↓e1, ↓bldV, ↓bldV', ↓m2, ↓m2', ↓s3, ↓cP_p, ↓l3, ↓l3', f0, f1, ↓nck_p, ↓b1, ↓b2, hq,  ↓cK_nils, ↓uc_c, ↓uz_n, ↓cI_i, ↓cB_b, cB_b, ↓cT_t, cT_t, nth_z, nth_1, cK_b, ↓cK_b, ↓cK_i, cK_i, ifB_t, ifB_f, ↓ap_e, sel_t, sel_f, gsel_tt, gsel_tf, gsel_ft, gsel_ff, gsel_u, gd_tt, gd_tf, gd_ft, gd_ff, gd_u, ↓jn_n, jn_n, jn_r, ↓jn_r, blk_n, blk_r, ↓cl_r, cl_r, ↓iAdd_i, ↓iSub_i, ↓iMul_i, ↓iAnd_i, ↓iOr_i, ↓iXor_i, ↓iNeg_i, iQuo_i, iRem_i, ↓iConv_i, iConv_i, ↓bNot_b, bNot_b, ↓eqN_i, ↓ltN_i, ↓eqB_b, bnot_e, Int.ofNat_eq_natCast, Int.cast_ofNat_Int, Int.reduceBEq, Int.reduceAdd, Int.reduceNeg, Int.reduceNegSucc, Int.reduceLT, Int.reduceLE, Int.reduceMul, Int.reduceTMod, Int.reduceSub, Int.reduceBNe, Bool.not_true, Bool.not_false, decide_true, decide_false, w63_in, w31_in, ne_eq, not_false_eq_true, Int.reduceEq, reduceCtorEq, ww3131, ww6363, ww3163, ww6331, ww3231, ww3263, ww6463, ww6364, sh31, sh63, sl63, m31, m63, n63, s5a, s5b, s6a, s6b, b31, b32, b63, c63, c64, d64, iShl_c, iShr_c, sr3, sr6, sr7]), ⟨_, q3⟩, o13, w3⟩
      · exact go hk (by simp only [↓L88n0, c1, ↓e1, ↓bldV, ↓bldV', ↓m2, ↓m2', ↓s3, ↓cP_p, ↓l3, ↓l3', f0, f1, ↓nck_p, ↓b1, ↓b2, hq,  ↓d3, ↓bldR, ↓g4, ↓g5, i1, ↓uc_c, ↓uz_n, ↓cI_i, ↓cB_b, cB_b, ↓cT_t, cT_t, nth_z, nth_1, cK_b, ↓cK_b, ↓cK_i, cK_i, ifB_t, ifB_f, ↓ap_e, sel_t, sel_f, gsel_tt, gsel_tf, gsel_ft, gsel_ff, gsel_u, gd_tt, gd_tf, gd_ft, gd_ff, gd_u, ↓jn_n, jn_n, jn_r, ↓jn_r, blk_n, blk_r, ↓cl_r, cl_r, ↓iAdd_i, ↓iSub_i, ↓iMul_i, ↓iAnd_i, ↓iOr_i, ↓iXor_i, ↓iNeg_i, iQuo_i, iRem_i, ↓iConv_i, iConv_i, ↓bNot_b, bNot_b, ↓eqN_i, ↓ltN_i, ↓eqB_b, bnot_e, Int.ofNat_eq_natCast, Int.cast_ofNat_Int, Int.reduceBEq, Int.reduceAdd, Int.reduceNeg, Int.reduceNegSucc, Int.reduceLT, Int.reduceLE, Int.reduceMul, Int.reduceTMod, Int.reduceSub, Int.reduceBNe, Bool.not_true, Bool.not_false, decide_true, decide_false, w63_in, w31_in, ne_eq, not_false_eq_true, Int.reduceEq, reduceCtorEq, ww3131, ww6363, ww3163, ww6331, ww3231, ww3263, ww6463, ww6364, sh31, sh63, sl63, m31, m63, n63, s5a, s5b, s6a, s6b, b31, b32, b63, c63, c64, d64, iShl_c, iShr_c, sr3, sr6, sr7]) r6 q6 p6 o6 w6
    rw [decide_eq_false k1] at f1
    by_cases k4 : val t q 1 = 4
    · rw [decide_eq_true k4] at f4
      obtain ⟨b1, b2⟩ := bad_ q3
      rcases rest (val t q 1) 0 (adv t q 1) h3 (by unfold kd isK; simp [k0, k1, k4]) c3 q3 o13 p3 r3 w3 with ⟨hq, hk⟩ | ⟨hq, hk, v', h5, h6, g4, g5, r6, q6, p6, o6, w6⟩
      · exact .inl ⟨hk, _, lpr m (by simp only [↓L88n0, c1, ↓e1, ↓bldV, ↓bldV', ↓m2, ↓m2', ↓s3, ↓cP_p, ↓l3, ↓l3', f0, f1, f4, ↓nck_p, ↓b1, ↓b2, hq,  ↓cK_nils, ↓uc_c, ↓uz_n, ↓cI_i, ↓cB_b, cB_b, ↓cT_t, cT_t, nth_z, nth_1, cK_b, ↓cK_b, ↓cK_i, cK_i, ifB_t, ifB_f, ↓ap_e, sel_t, sel_f, gsel_tt, gsel_tf, gsel_ft, gsel_ff, gsel_u, gd_tt, gd_tf, gd_ft, gd_ff, gd_u, ↓jn_n, jn_n, jn_r, ↓jn_r, blk_n, blk_r, ↓cl_r, cl_r, ↓iAdd_i, ↓iSub_i, ↓iMul_i, ↓iAnd_i, ↓iOr_i, ↓iXor_i, ↓iNeg_i, iQuo_i, iRem_i, ↓iConv_i, iConv_i, ↓bNot_b, bNot_b, ↓eqN_i, ↓ltN_i, ↓eqB_b, bnot_e, Int.ofNat_eq_natCast, Int.cast_ofNat_Int, Int.reduceBEq, Int.reduceAdd, Int.reduceNeg, Int.reduceNegSucc, Int.reduceLT, Int.reduceLE, Int.reduceMul, Int.reduceTMod, Int.reduceSub, Int.reduceBNe, Bool.not_true, Bool.not_false, decide_true, decide_false, w63_in, w31_in, ne_eq, not_false_eq_true, Int.reduceEq, reduceCtorEq, ww3131, ww6363, ww3163, ww6331, ww3231, ww3263, ww6463, ww6364, sh31, sh63, sl63, m31, m63, n63, s5a, s5b, s6a, s6b, b31, b32, b63, c63, c64, d64, iShl_c, iShr_c, sr3, sr6, sr7]), ⟨_, q3⟩, o13, w3⟩
      · exact go hk (by simp only [↓L88n0, c1, ↓e1, ↓bldV, ↓bldV', ↓m2, ↓m2', ↓s3, ↓cP_p, ↓l3, ↓l3', f0, f1, f4, ↓nck_p, ↓b1, ↓b2, hq,  ↓d3, ↓bldR, ↓g4, ↓g5, i1, ↓uc_c, ↓uz_n, ↓cI_i, ↓cB_b, cB_b, ↓cT_t, cT_t, nth_z, nth_1, cK_b, ↓cK_b, ↓cK_i, cK_i, ifB_t, ifB_f, ↓ap_e, sel_t, sel_f, gsel_tt, gsel_tf, gsel_ft, gsel_ff, gsel_u, gd_tt, gd_tf, gd_ft, gd_ff, gd_u, ↓jn_n, jn_n, jn_r, ↓jn_r, blk_n, blk_r, ↓cl_r, cl_r, ↓iAdd_i, ↓iSub_i, ↓iMul_i, ↓iAnd_i, ↓iOr_i, ↓iXor_i, ↓iNeg_i, iQuo_i, iRem_i, ↓iConv_i, iConv_i, ↓bNot_b, bNot_b, ↓eqN_i, ↓ltN_i, ↓eqB_b, bnot_e, Int.ofNat_eq_natCast, Int.cast_ofNat_Int, Int.reduceBEq, Int.reduceAdd, Int.reduceNeg, Int.reduceNegSucc, Int.reduceLT, Int.reduceLE, Int.reduceMul, Int.reduceTMod, Int.reduceSub, Int.reduceBNe, Bool.not_true, Bool.not_false, decide_true, decide_false, w63_in, w31_in, ne_eq, not_false_eq_true, Int.reduceEq, reduceCtorEq, ww3131, ww6363, ww3163, ww6331, ww3231, ww3263, ww6463, ww6364, sh31, sh63, sl63, m31, m63, n63, s5a, s5b, s6a, s6b, b31, b32, b63, c63, c64, d64, iShl_c, iShr_c, sr3, sr6, sr7]) r6 q6 p6 o6 w6
    rw [decide_eq_false k4] at f4
    by_cases k5 : val t q 1 = 5
    · rw [decide_eq_true k5] at f5
      obtain ⟨b1, b2⟩ := bad_ q3
      rcases rest (val t q 1) 0 (adv t q 1) h3 (by unfold kd isK; simp [k0, k1, k4, k5]) c3 q3 o13 p3 r3 w3 with ⟨hq, hk⟩ | ⟨hq, hk, v', h5, h6, g4, g5, r6, q6, p6, o6, w6⟩
      · exact .inl ⟨hk, _, lpr m (by simp only [↓L88n0, c1, ↓e1, ↓bldV, ↓bldV', ↓m2, ↓m2', ↓s3, ↓cP_p, ↓l3, ↓l3', f0, f1, f4, f5, ↓nck_p, ↓b1, ↓b2, hq,  ↓cK_nils, ↓uc_c, ↓uz_n, ↓cI_i, ↓cB_b, cB_b, ↓cT_t, cT_t, nth_z, nth_1, cK_b, ↓cK_b, ↓cK_i, cK_i, ifB_t, ifB_f, ↓ap_e, sel_t, sel_f, gsel_tt, gsel_tf, gsel_ft, gsel_ff, gsel_u, gd_tt, gd_tf, gd_ft, gd_ff, gd_u, ↓jn_n, jn_n, jn_r, ↓jn_r, blk_n, blk_r, ↓cl_r, cl_r, ↓iAdd_i, ↓iSub_i, ↓iMul_i, ↓iAnd_i, ↓iOr_i, ↓iXor_i, ↓iNeg_i, iQuo_i, iRem_i, ↓iConv_i, iConv_i, ↓bNot_b, bNot_b, ↓eqN_i, ↓ltN_i, ↓eqB_b, bnot_e, Int.ofNat_eq_natCast, Int.cast_ofNat_Int, Int.reduceBEq, Int.reduceAdd, Int.reduceNeg, Int.reduceNegSucc, Int.reduceLT, Int.reduceLE, Int.reduceMul, Int.reduceTMod, Int.reduceSub, Int.reduceBNe, Bool.not_true, Bool.not_false, decide_true, decide_false, w63_in, w31_in, ne_eq, not_false_eq_true, Int.reduceEq, reduceCtorEq, ww3131, ww6363, ww3163, ww6331, ww3231, ww3263, ww6463, ww6364, sh31, sh63, sl63, m31, m63, n63, s5a, s5b, s6a, s6b, b31, b32, b63, c63, c64, d64, iShl_c, iShr_c, sr3, sr6, sr7]), ⟨_, q3⟩, o13, w3⟩
      · exact go hk (by simp only [↓L88n0, c1, ↓e1, ↓bldV, ↓bldV', ↓m2, ↓m2', ↓s3, ↓cP_p, ↓l3, ↓l3', f0, f1, f4, f5, ↓nck_p, ↓b1, ↓b2, hq,  ↓d3, ↓bldR, ↓g4, ↓g5, i1, ↓uc_c, ↓uz_n, ↓cI_i, ↓cB_b, cB_b, ↓cT_t, cT_t, nth_z, nth_1, cK_b, ↓cK_b, ↓cK_i, cK_i, ifB_t, ifB_f, ↓ap_e, sel_t, sel_f, gsel_tt, gsel_tf, gsel_ft, gsel_ff, gsel_u, gd_tt, gd_tf, gd_ft, gd_ff, gd_u, ↓jn_n, jn_n, jn_r, ↓jn_r, blk_n, blk_r, ↓cl_r, cl_r, ↓iAdd_i, ↓iSub_i, ↓iMul_i, ↓iAnd_i, ↓iOr_i, ↓iXor_i, ↓iNeg_i, iQuo_i, iRem_i, ↓iConv_i, iConv_i, ↓bNot_b, bNot_b, ↓eqN_i, ↓ltN_i, ↓eqB_b, bnot_e, Int.ofNat_eq_natCast, Int.cast_ofNat_Int, Int.reduceBEq, Int.reduceAdd, Int.reduceNeg, Int.reduceNegSucc, Int.reduceLT, Int.reduceLE, Int.reduceMul, Int.reduceTMod, Int.reduceSub, Int.reduceBNe, Bool.not_true, Bool.not_false, decide_true, decide_false, w63_in, w31_in, ne_eq, not_false_eq_true, Int.reduceEq, reduceCtorEq, ww3131, ww6363, ww3163, ww6331, ww3231, ww3263, ww6463, ww6364, sh31, sh63, sl63, m31, m63, n63, s5a, s5b, s6a, s6b, b31, b32, b63, c63, c64, d64, iShl_c, iShr_c, sr3, sr6, sr7]) r6 q6 p6 o6 w6
    rw [decide_eq_false k5] at f5
    by_cases k6 : val t q 1 = 6
    · rw [decide_eq_true k6] at f6
      obtain ⟨b1, b2⟩ := bad_ q3
      rcases rest (val t q 1) 0 (adv t q 1) h3 (by unfold kd isK; simp [k0, k1, k4, k5, k6]) c3 q3 o13 p3 r3 w3 with ⟨hq, hk⟩ | ⟨hq, hk, v', h5, h6, g4, g5, r6, q6, p6, o6, w6⟩
      · exact .inl ⟨hk, _, lpr m (by simp only [↓L88n0, c1, ↓e1, ↓bldV, ↓bldV', ↓m2, ↓m2', ↓s3, ↓cP_p, ↓l3, ↓l3', f0, f1, f4, f5, f6, ↓nck_p, ↓b1, ↓b2, hq,  ↓cK_nils, ↓uc_c, ↓uz_n, ↓cI_i, ↓cB_b, cB_b, ↓cT_t, cT_t, nth_z, nth_1, cK_b, ↓cK_b, ↓cK_i, cK_i, ifB_t, ifB_f, ↓ap_e, sel_t, sel_f, gsel_tt, gsel_tf, gsel_ft, gsel_ff, gsel_u, gd_tt, gd_tf, gd_ft, gd_ff, gd_u, ↓jn_n, jn_n, jn_r, ↓jn_r, blk_n, blk_r, ↓cl_r, cl_r, ↓iAdd_i, ↓iSub_i, ↓iMul_i, ↓iAnd_i, ↓iOr_i, ↓iXor_i, ↓iNeg_i, iQuo_i, iRem_i, ↓iConv_i, iConv_i, ↓bNot_b, bNot_b, ↓eqN_i, ↓ltN_i, ↓eqB_b, bnot_e, Int.ofNat_eq_natCast, Int.cast_ofNat_Int, Int.reduceBEq, Int.reduceAdd, Int.reduceNeg, Int.reduceNegSucc, Int.reduceLT, Int.reduceLE, Int.reduceMul, Int.reduceTMod, Int.reduceSub, Int.reduceBNe, Bool.not_true, Bool.not_false, decide_true, decide_false, w63_in, w31_in, ne_eq, not_false_eq_true, Int.reduceEq, reduceCtorEq, ww3131, ww6363, ww3163, ww6331, ww3231, ww3263, ww6463, ww6364, sh31, sh63, sl63, m31, m63, n63, s5a, s5b, s6a, s6b, b31, b32, b63, c63, c64, d64, iShl_c, iShr_c, sr3, sr6, sr7]), ⟨_, q3⟩, o13, w3⟩
      · exact go hk (by simp only [↓L88n0, c1, ↓e1, ↓bldV, ↓bldV', ↓m2, ↓m2', ↓s3, ↓cP_p, ↓l3, ↓l3', f0, f1, f4, f5, f6, ↓nck_p, ↓b1, ↓b2, hq,  ↓d3, ↓bldR, ↓g4, ↓g5, i1, ↓uc_c, ↓uz_n, ↓cI_i, ↓cB_b, cB_b, ↓cT_t, cT_t, nth_z, nth_1, cK_b, ↓cK_b, ↓cK_i, cK_i, ifB_t, ifB_f, ↓ap_e, sel_t, sel_f, gsel_tt, gsel_tf, gsel_ft, gsel_ff, gsel_u, gd_tt, gd_tf, gd_ft, gd_ff, gd_u, ↓jn_n, jn_n, jn_r, ↓jn_r, blk_n, blk_r, ↓cl_r, cl_r, ↓iAdd_i, ↓iSub_i, ↓iMul_i, ↓iAnd_i, ↓iOr_i, ↓iXor_i, ↓iNeg_i, iQuo_i, iRem_i, ↓iConv_i, iConv_i, ↓bNot_b, bNot_b, ↓eqN_i, ↓ltN_i, ↓eqB_b, bnot_e, Int.ofNat_eq_natCast, Int.cast_ofNat_Int, Int.reduceBEq, Int.reduceAdd, Int.reduceNeg, Int.reduceNegSucc, Int.reduceLT, Int.reduceLE, Int.reduceMul, Int.reduceTMod, Int.reduceSub, Int.reduceBNe, Bool.not_true, Bool.not_false, decide_true, decide_false, w63_in, w31_in, ne_eq, not_false_eq_true, Int.reduceEq, reduceCtorEq, ww3131, ww6363, ww3163, ww6331, ww3231, ww3263, ww6463, ww6364, sh31, sh63, sl63, m31, m63, n63, s5a, s5b, s6a, s6b, b31, b32, b63, c63, c64, d64, iShl_c, iShr_c, sr3, sr6, sr7]) r6 q6 p6 o6 w6
    rw [decide_eq_false k6] at f6
    by_cases k7 : val t q 1 = 7
    · rw [decide_eq_true k7] at f7
      obtain ⟨g1, e5, q5, p1, v1⟩ := n2 q3 w3
      have nb5 := p1.nb
      have hb5 : b ≠ h1.nb := by omega
      obtain ⟨g2, s6, c6, p2, v2, y2⟩ := Ce.s v1 (c3.to p1 (fun e => hb5 (Eq.symm e))) 2 (by simp [vL]) (.int 63 (val t (adv t q 1) 2 : Int)) rfl
      have c6 : Ce g2 h1.nb (vL (val t q 1) (val t (adv t q 1) 2)) := c6
      have s6 : ∀ kk : Hp → Res, st1 g1 (.ptr h1.nb (Nat.add 0 2)) (.int 63 (val t (adv t q 1) 2 : Int)) kk = kk g2 := s6
      have s6' : ∀ kk : Hp → Res, st1 g1 (.ptr h1.nb 2) (.int 63 (val t (adv t q 1) 2 : Int)) kk = kk g2 := s6
      have d6 := fun kk => Ce.ldV c6 kk
      have q6 : CurQ g2 lo b t (adv t (adv t q 1) 2) := q5.to p2 (fun x _ hx e => by have : x = h1.nb := e; omega)
      have o36 : To (fun x => x = b ∨ N ≤ x) h3 g2 := (p1.mono fun x _ e => Or.inl e).trans (p2.mono fun x _ e => by have : x = h1.nb := e; exact .inr (by omega))
      have p6 : Pool g2 pb := p3.to o36 (fun e => by rcases e with e | e; exact hne e; omega)
      have r6 : Rws g2 (fun x => N ≤ x ∧ x < h1.nb) 3 v (l.map vP) := (r3.to p1 (fun x hx _ e => by have hx := hx.1; have : x = b := e; omega)).to p2 (fun x hx _ e => by have : x = h1.nb := e; have := hx.2; omega)
      have o16 := o13.trans o36
      have l6 : ∀ kk : AV → Res, ld1 g2 (.ptr h1.nb (Nat.add 0 2)) kk = kk (.int 63 (val t (adv t q 1) 2 : Int)) := fun kk => Ce.l c6 2 (by simp [vL]) kk
      have l6' : ∀ kk : AV → Res, ld1 g2 (.ptr h1.nb 2) kk = kk (.int 63 (val t (adv t q 1) 2 : Int)) := l6
      have e7 := t109 p6 (val t (adv t q 1) 2)
      cases hC : isC (val t (adv t q 1) 2) with
      | false =>
        rw [hC] at e7
        refine .inl ⟨?_, g2, lpr m (by simp only [↓L88n0, c1, ↓e1, ↓bldV, ↓bldV', ↓m2, ↓m2', ↓s3, ↓cP_p, ↓l3, ↓l3', f0, f1, f4, f5, f6, f7, ↓e5, ↓s6, ↓s6', ↓l6, ↓l6', ↓e7, ↓cK_nm, nth_z, nth_1, ↓cK_nils, ↓uc_c, ↓uz_n, ↓cI_i, ↓cB_b, cB_b, ↓cT_t, cT_t, nth_z, nth_1, cK_b, ↓cK_b, ↓cK_i, cK_i, ifB_t, ifB_f, ↓ap_e, sel_t, sel_f, gsel_tt, gsel_tf, gsel_ft, gsel_ff, gsel_u, gd_tt, gd_tf, gd_ft, gd_ff, gd_u, ↓jn_n, jn_n, jn_r, ↓jn_r, blk_n, blk_r, ↓cl_r, cl_r, ↓iAdd_i, ↓iSub_i, ↓iMul_i, ↓iAnd_i, ↓iOr_i, ↓iXor_i, ↓iNeg_i, iQuo_i, iRem_i, ↓iConv_i, iConv_i, ↓bNot_b, bNot_b, ↓eqN_i, ↓ltN_i, ↓eqB_b, bnot_e, Int.ofNat_eq_natCast, Int.cast_ofNat_Int, Int.reduceBEq, Int.reduceAdd, Int.reduceNeg, Int.reduceNegSucc, Int.reduceLT, Int.reduceLE, Int.reduceMul, Int.reduceTMod, Int.reduceSub, Int.reduceBNe, Bool.not_true, Bool.not_false, decide_true, decide_false, w63_in, w31_in, ne_eq, not_false_eq_true, Int.reduceEq, reduceCtorEq, ww3131, ww6363, ww3163, ww6331, ww3231, ww3263, ww6463, ww6364, sh31, sh63, sl63, m31, m63, n63, s5a, s5b, s6a, s6b, b31, b32, b63, c63, c64, d64, iShl_c, iShr_c, sr3, sr6, sr7]), ⟨_, q6⟩, o16, v2⟩
        have ek : kd t q = ((val t q 1, val t (adv t q 1) 2), false, adv t (adv t q 1) 2) := by unfold kd isK; simp [k7, hC]
        have hkd : kds t (n + 1) q l = if (kd t q).2.1 = true ∧ (kd t q).2.2.2 = false then kds t n (kd t q).2.2 (l ++ [(kd t q).1]) else none := rfl
        rw [hkd, ek]; exact if_neg (fun hh => by cases hh.1)
      | true =>
        rw [hC] at e7
        obtain ⟨b1, b2⟩ := bad_ q6
        rcases rest (val t q 1) (val t (adv t q 1) 2) (adv t (adv t q 1) 2) g2 (by unfold kd isK; simp [k0, k1, k4, k5, k6, k7, hC]) c6 q6 o16 p6 r6 v2 with ⟨hq, hk⟩ | ⟨hq, hk, v', h5, h6, g4, g5, r8, q8, p8, o8, w8⟩
        · exact .inl ⟨hk, _, lpr m (by simp only [↓L88n0, c1, ↓e1, ↓bldV, ↓bldV', ↓m2, ↓m2', ↓s3, ↓cP_p, ↓l3, ↓l3', f0, f1, f4, f5, f6, f7, ↓e5, ↓s6, ↓s6', ↓l6, ↓l6', ↓e7, ↓cK_nm, nth_z, nth_1, ↓nck_p, ↓b1, ↓b2, hq,  ↓cK_nils, ↓uc_c, ↓uz_n, ↓cI_i, ↓cB_b, cB_b, ↓cT_t, cT_t, nth_z, nth_1, cK_b, ↓cK_b, ↓cK_i, cK_i, ifB_t, ifB_f, ↓ap_e, sel_t, sel_f, gsel_tt, gsel_tf, gsel_ft, gsel_ff, gsel_u, gd_tt, gd_tf, gd_ft, gd_ff, gd_u, ↓jn_n, jn_n, jn_r, ↓jn_r, blk_n, blk_r, ↓cl_r, cl_r, ↓iAdd_i, ↓iSub_i, ↓iMul_i, ↓iAnd_i, ↓iOr_i, ↓iXor_i, ↓iNeg_i, iQuo_i, iRem_i, ↓iConv_i, iConv_i, ↓bNot_b, bNot_b, ↓eqN_i, ↓ltN_i, ↓eqB_b, bnot_e, Int.ofNat_eq_natCast, Int.cast_ofNat_Int, Int.reduceBEq, Int.reduceAdd, Int.reduceNeg, Int.reduceNegSucc, Int.reduceLT, Int.reduceLE, Int.reduceMul, Int.reduceTMod, Int.reduceSub, Int.reduceBNe, Bool.not_true, Bool.not_false, decide_true, decide_false, w63_in, w31_in, ne_eq, not_false_eq_true, Int.reduceEq, reduceCtorEq, ww3131, ww6363, ww3163, ww6331, ww3231, ww3263, ww6463, ww6364, sh31, sh63, sl63, m31, m63, n63, s5a, s5b, s6a, s6b, b31, b32, b63, c63, c64, d64, iShl_c, iShr_c, sr3, sr6, sr7]), ⟨_, q6⟩, o16, v2⟩
        · exact go hk (by simp only [↓L88n0, c1, ↓e1, ↓bldV, ↓bldV', ↓m2, ↓m2', ↓s3, ↓cP_p, ↓l3, ↓l3', f0, f1, f4, f5, f6, f7, ↓e5, ↓s6, ↓s6', ↓l6, ↓l6', ↓e7, ↓cK_nm, nth_z, nth_1, ↓nck_p, ↓b1, ↓b2, hq,  ↓d6, ↓bldR, ↓g4, ↓g5, i1, ↓uc_c, ↓uz_n, ↓cI_i, ↓cB_b, cB_b, ↓cT_t, cT_t, nth_z, nth_1, cK_b, ↓cK_b, ↓cK_i, cK_i, ifB_t, ifB_f, ↓ap_e, sel_t, sel_f, gsel_tt, gsel_tf, gsel_ft, gsel_ff, gsel_u, gd_tt, gd_tf, gd_ft, gd_ff, gd_u, ↓jn_n, jn_n, jn_r, ↓jn_r, blk_n, blk_r, ↓cl_r, cl_r, ↓iAdd_i, ↓iSub_i, ↓iMul_i, ↓iAnd_i, ↓iOr_i, ↓iXor_i, ↓iNeg_i, iQuo_i, iRem_i, ↓iConv_i, iConv_i, ↓bNot_b, bNot_b, ↓eqN_i, ↓ltN_i, ↓eqB_b, bnot_e, Int.ofNat_eq_natCast, Int.cast_ofNat_Int, Int.reduceBEq, Int.reduceAdd, Int.reduceNeg, Int.reduceNegSucc, Int.reduceLT, Int.reduceLE, Int.reduceMul, Int.reduceTMod, Int.reduceSub, Int.reduceBNe, Bool.not_true, Bool.not_false, decide_true, decide_false, w63_in, w31_in, ne_eq, not_false_eq_true, Int.reduceEq, reduceCtorEq, ww3131, ww6363, ww3163, ww6331, ww3231, ww3263, ww6463, ww6364, sh31, sh63, sl63, m31, m63, n63, s5a, s5b, s6a, s6b, b31, b32, b63, c63, c64, d64, iShl_c, iShr_c, sr3, sr6, sr7]) r8 q8 p8 o8 w8
    rw [decide_eq_false k7] at f7
    by_cases k8 : val t q 1 = 8
    · rw [decide_eq_true k8] at f8
      obtain ⟨g1, e5, q5, p1, v1⟩ := n2 q3 w3
      have nb5 := p1.nb
      have hb5 : b ≠ h1.nb := by omega
      obtain ⟨g2, s6, c6, p2, v2, y2⟩ := Ce.s v1 (c3.to p1 (fun e => hb5 (Eq.symm e))) 2 (by simp [vL]) (.int 63 (val t (adv t q 1) 2 : Int)) rfl
      have c6 : Ce g2 h1.nb (vL (val t q 1) (val t (adv t q 1) 2)) := c6
      have s6 : ∀ kk : Hp → Res, st1 g1 (.ptr h1.nb (Nat.add 0 2)) (.int 63 (val t (adv t q 1) 2 : Int)) kk = kk g2 := s6
      have s6' : ∀ kk : Hp → Res, st1 g1 (.ptr h1.nb 2) (.int 63 (val t (adv t q 1) 2 : Int)) kk = kk g2 := s6
      have d6 := fun kk => Ce.ldV c6 kk
      have q6 : CurQ g2 lo b t (adv t (adv t q 1) 2) := q5.to p2 (fun x _ hx e => by have : x = h1.nb := e; omega)
      have o36 : To (fun x => x = b ∨ N ≤ x) h3 g2 := (p1.mono fun x _ e => Or.inl e).trans (p2.mono fun x _ e => by have : x = h1.nb := e; exact .inr (by omega))
      have p6 : Pool g2 pb := p3.to o36 (fun e => by rcases e with e | e; exact hne e; omega)
      have r6 : Rws g2 (fun x => N ≤ x ∧ x < h1.nb) 3 v (l.map vP) := (r3.to p1 (fun x hx _ e => by have hx := hx.1; have : x = b := e; omega)).to p2 (fun x hx _ e => by have : x = h1.nb := e; have := hx.2; omega)
      have o16 := o13.trans o36
      obtain ⟨b1, b2⟩ := bad_ q6
      rcases rest (val t q 1) (val t (adv t q 1) 2) (adv t (adv t q 1) 2) g2 (by unfold kd isK; simp [k0, k1, k4, k5, k6, k7, k8]) c6 q6 o16 p6 r6 v2 with ⟨hq, hk⟩ | ⟨hq, hk, v', h5, h6, g4, g5, r8, q8, p8, o8, w8⟩
      · exact .inl ⟨hk, _, lpr m (by simp only [↓L88n0, c1, ↓e1, ↓bldV, ↓bldV', ↓m2, ↓m2', ↓s3, ↓cP_p, ↓l3, ↓l3', f0, f1, f4, f5, f6, f7, f8, ↓e5, ↓s6, ↓s6', ↓nck_p, ↓b1, ↓b2, hq,  ↓cK_nils, ↓uc_c, ↓uz_n, ↓cI_i, ↓cB_b, cB_b, ↓cT_t, cT_t, nth_z, nth_1, cK_b, ↓cK_b, ↓cK_i, cK_i, ifB_t, ifB_f, ↓ap_e, sel_t, sel_f, gsel_tt, gsel_tf, gsel_ft, gsel_ff, gsel_u, gd_tt, gd_tf, gd_ft, gd_ff, gd_u, ↓jn_n, jn_n, jn_r, ↓jn_r, blk_n, blk_r, ↓cl_r, cl_r, ↓iAdd_i, ↓iSub_i, ↓iMul_i, ↓iAnd_i, ↓iOr_i, ↓iXor_i, ↓iNeg_i, iQuo_i, iRem_i, ↓iConv_i, iConv_i, ↓bNot_b, bNot_b, ↓eqN_i, ↓ltN_i, ↓eqB_b, bnot_e, Int.ofNat_eq_natCast, Int.cast_ofNat_Int, Int.reduceBEq, Int.reduceAdd, Int.reduceNeg, Int.reduceNegSucc, Int.reduceLT, Int.reduceLE, Int.reduceMul, Int.reduceTMod, Int.reduceSub, Int.reduceBNe, Bool.not_true, Bool.not_false, decide_true, decide_false, w63_in, w31_in, ne_eq, not_false_eq_true, Int.reduceEq, reduceCtorEq, ww3131, ww6363, ww3163, ww6331, ww3231, ww3263, ww6463, ww6364, sh31, sh63, sl63, m31, m63, n63, s5a, s5b, s6a, s6b, b31, b32, b63, c63, c64, d64, iShl_c, iShr_c, sr3, sr6, sr7]), ⟨_, q6⟩, o16, v2⟩
      · exact go hk (by simp only [↓L88n0, c1, ↓e1, ↓bldV, ↓bldV', ↓m2, ↓m2', ↓s3, ↓cP_p, ↓l3, ↓l3', f0, f1, f4, f5, f6, f7, f8, ↓e5, ↓s6, ↓s6', ↓nck_p, ↓b1, ↓b2, hq,  ↓d6, ↓bldR, ↓g4, ↓g5, i1, ↓uc_c, ↓uz_n, ↓cI_i, ↓cB_b, cB_b, ↓cT_t, cT_t, nth_z, nth_1, cK_b, ↓cK_b, ↓cK_i, cK_i, ifB_t, ifB_f, ↓ap_e, sel_t, sel_f, gsel_tt, gsel_tf, gsel_ft, gsel_ff, gsel_u, gd_tt, gd_tf, gd_ft, gd_ff, gd_u, ↓jn_n, jn_n, jn_r, ↓jn_r, blk_n, blk_r, ↓cl_r, cl_r, ↓iAdd_i, ↓iSub_i, ↓iMul_i, ↓iAnd_i, ↓iOr_i, ↓iXor_i, ↓iNeg_i, iQuo_i, iRem_i, ↓iConv_i, iConv_i, ↓bNot_b, bNot_b, ↓eqN_i, ↓ltN_i, ↓eqB_b, bnot_e, Int.ofNat_eq_natCast, Int.cast_ofNat_Int, Int.reduceBEq, Int.reduceAdd, Int.reduceNeg, Int.reduceNegSucc, Int.reduceLT, Int.reduceLE, Int.reduceMul, Int.reduceTMod, Int.reduceSub, Int.reduceBNe, Bool.not_true, Bool.not_false, decide_true, decide_false, w63_in, w31_in, ne_eq, not_false_eq_true, Int.reduceEq, reduceCtorEq, ww3131, ww6363, ww3163, ww6331, ww3231, ww3263, ww6463, ww6364, sh31, sh63, sl63, m31, m63, n63, s5a, s5b, s6a, s6b, b31, b32, b63, c63, c64, d64, iShl_c, iShr_c, sr3, sr6, sr7]) r8 q8 p8 o8 w8
    rw [decide_eq_false k8] at f8
    refine .inl ⟨?_, h3, lpr m (by simp only [↓L88n0, c1, ↓e1, ↓bldV, ↓bldV', ↓m2, ↓m2', ↓s3, ↓cP_p, ↓l3, ↓l3', f0, f1, f4, f5, f6, f7, f8, ↓cK_nils, ↓uc_c, ↓uz_n, ↓cI_i, ↓cB_b, cB_b, ↓cT_t, cT_t, nth_z, nth_1, cK_b, ↓cK_b, ↓cK_i, cK_i, ifB_t, ifB_f, ↓ap_e, sel_t, sel_f, gsel_tt, gsel_tf, gsel_ft, gsel_ff, gsel_u, gd_tt, gd_tf, gd_ft, gd_ff, gd_u, ↓jn_n, jn_n, jn_r, ↓jn_r, blk_n, blk_r, ↓cl_r, cl_r, ↓iAdd_i, ↓iSub_i, ↓iMul_i, ↓iAnd_i, ↓iOr_i, ↓iXor_i, ↓iNeg_i, iQuo_i, iRem_i, ↓iConv_i, iConv_i, ↓bNot_b, bNot_b, ↓eqN_i, ↓ltN_i, ↓eqB_b, bnot_e, Int.ofNat_eq_natCast, Int.cast_ofNat_Int, Int.reduceBEq, Int.reduceAdd, Int.reduceNeg, Int.reduceNegSucc, Int.reduceLT, Int.reduceLE, Int.reduceMul, Int.reduceTMod, Int.reduceSub, Int.reduceBNe, Bool.not_true, Bool.not_false, decide_true, decide_false, w63_in, w31_in, ne_eq, not_false_eq_true, Int.reduceEq, reduceCtorEq, ww3131, ww6363, ww3163, ww6331, ww3231, ww3263, ww6463, ww6364, sh31, sh63, sl63, m31, m63, n63, s5a, s5b, s6a, s6b, b31, b32, b63, c63, c64, d64, iShl_c, iShr_c, sr3, sr6, sr7]), ⟨_, q3⟩, o13, w3⟩
    have ek : kd t q = ((val t q 1, 0), false, adv t q 1) := by unfold kd isK; simp [k0, k1, k4, k5, k6, k7, k8]
    have hkd : kds t (n + 1) q l = if (kd t q).2.1 = true ∧ (kd t q).2.2.2 = false then kds t n (kd t q).2.2 (l ++ [(kd t q).1]) else none := rfl
    rw [hkd, ek]; exact if_neg (fun hh => by cases hh.1)
theorem t88 {h : Hp} {lo b pb : Nat} {t : List Nat} {q : Sq} (hc : CurQ h lo b t q) (hp : Pool h pb) (hne : pb ≠ b) (hw : Wf h) (n : Nat) (hn : n ≤ 70000) :
    (kds t n q [] = none ∧ ∃ h', s88 [.ptr b 0, plv pb, .int 63 (n : Int)] h = .ret nilF h' ∧ (∃ q', CurQ h' lo b t q') ∧ To (At b) h h' ∧ Wf h') ∨
    (∃ r v' h', kds t n q [] = some r ∧ s88 [.ptr b 0, plv pb, .int 63 (n : Int)] h = .ret (.tup (.cons v' (.cons (.bool true) .nil))) h' ∧ Rws h' (fun x => h.nb ≤ x) 3 v' (r.1.map vP) ∧ CurQ h' lo b t r.2 ∧ To (At b) h h' ∧ Wf h') := by
  have hb : b < h.nb := by obtain ⟨B, v, o, r⟩ := hc.own; exact o.lt
  have fin : ∀ {g : Hp}, To (fun x => x = b ∨ h.nb ≤ x) h g → To (At b) h g := fun tt => tt.mono fun x hx e => by
    rcases e with e | e
    · exact e
    · omega
  have e0 : ∀ _ : Nat, s88 [.ptr b 0, plv pb, .int 63 (n : Int)] h = blk 0 (lp L88n0 most [.ptr b 0, plv pb, .int 63 (n : Int), .nils] h) fun w62 h63 => uc w62 fun v64 _ => cK v64 fun v65 => cK (.bool true) fun v66 => .ret (.tup (.cons v65 (.cons v66 .nil))) h63 := fun _ => rfl
  have hm : n < most := by unfold most; omega
  rcases loop88 hb (Ce.lt hp) hne n 0 most q [] .nils h hm (by omega) (Nat.le_refl _) (Nat.le_refl _) hw hc hp (Rws.nil _ _ _) with ⟨f1, h', f2, f3, f4, f5⟩ | ⟨r, v', h', f1, f2, f3, f4, f5, f6⟩
  · refine .inl ⟨f1, h', ?_, f3, fin f4, f5⟩
    rw [e0 0, f2]; rfl
  · refine .inr ⟨r, v', h', f1, ?_, f3, f4, fin f5, f6⟩
    rw [e0 0, f2]
    show (cK v' fun v65 => cK (.bool true) fun v66 => .ret (.tup (.cons v65 (.cons v66 .nil))) h') = _
    rw [f3.cK]; rfl
end Go.Proofs.Ytnpfppddongbhaa
