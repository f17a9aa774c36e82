/-
  The reader of stated frames: what each of its functions answers (part Mp4).
-/
import Derived.Test.YtnpfppddongbhaaMp3
set_option linter.unusedVariables false
set_option linter.unusedSimpArgs false
namespace Go.Proofs.Ytnpfppddongbhaa
open Go Go.AM
set_option autoImplicit false
set_option linter.unusedSimpArgs false
set_option linter.unusedVariables false
/-! ### a type of the checker, as it is read -/
noncomputable def vL (k a : Nat) : List AV := [.int 63 (k : Int), .str 0 0, .int 63 (a : Int)]
theorem vL_one (k a : Nat) : ∀ x ∈ vL k a, one x = true := by
  intro x hx
  simp only [vL, List.mem_cons, List.not_mem_nil, or_false] at hx
  rcases hx with rfl | rfl | rfl <;> rfl
def isK (g : Nat) : Bool := decide (g = 0) || decide (g = 1) || decide (g = 4) || decide (g = 5) || decide (g = 6)
/-- A type: its kind and its place, whether it is one, where the cursor is then. -/
def kd (t : List Nat) (q : Sq) : (Nat × Nat) × Bool × Sq :=
  if isK (val t q 1) = true then ((val t q 1, 0), true, adv t q 1)
  else if val t q 1 = 7 then ((7, val t (adv t q 1) 2), isC (val t (adv t q 1) 2), adv t (adv t q 1) 2)
  else if val t q 1 = 8 then ((8, val t (adv t q 1) 2), true, adv t (adv t q 1) 2)
  else ((val t q 1, 0), false, adv t q 1)
noncomputable def kdV (e : (Nat × Nat) × Bool × Sq) : AV := .tup (.cons (.agg (avL (vL e.1.1 e.1.2))) (.cons (.bool e.2.1) .nil))
theorem cK_nm (i : Nat) (k : AV → Res) : cK (nmC i) k = k (nmC i) := by unfold nmC; split; exact cK_str _ _ _; split; exact cK_str _ _ _; exact cK_str _ _ _
theorem cK_agg (t : AV) (k : AV → Res) : cK (.agg t) k = k (.agg t) := of_eq_true (eq_self _)
theorem bldV (g : Nat) (k : AV → Res) : bld [(false, 1, (.int 63 (g : Int))), (false, 1, (.str 0 0)), (false, 1, (.int 63 (.ofNat 0)))] k = k (avL (vL g 0)) := of_eq_true (eq_self _)
theorem bldV' (g : Nat) (k : AV → Res) : bld [(false, 1, (.int 63 (g : Int))), (false, 1, (.str 0 0)), (false, 1, (.int 63 0))] k = k (avL (vL g 0)) := of_eq_true (eq_self _)
section
variable {h : Hp} {lo b pb : Nat} {t : List Nat} {q : Sq}
theorem mkV0 (hw : Wf h) : ∃ h', (∀ k : AV → Hp → Res, mk h (.cons (.int 63 (.ofNat 0)) (.cons (.str 0 0) (.cons (.int 63 (.ofNat 0)) .nil))) k = k (.ptr h.nb 0) h') ∧ (∀ k : AV → Hp → Res, mk h (.cons (.int 63 0) (.cons (.str 0 0) (.cons (.int 63 0) .nil))) k = k (.ptr h.nb 0) h') ∧ Ce h' h.nb (vL 0 0) ∧ To No h h' ∧ Wf h' ∧ h'.nb = h.nb + 1 := by
  obtain ⟨h', m1, r⟩ := ce_mk hw (vL 0 0) (vL_one 0 0)
  exact ⟨h', fun k => m1 k, fun k => m1 k, r⟩
theorem Ce.stV {b : Nat} {k0 a0 : Nat} (hw : Wf h) (hc : Ce h b (vL k0 a0)) (k a : Nat) : ∃ h', (∀ kk : Hp → Res, stN h 3 (.ptr b 0) (.agg (avL (vL k a))) kk = kk h') ∧ Ce h' b (vL k a) ∧ To (At b) h h' ∧ Wf h' ∧ h'.nb = h.nb := Ce.st hw hc (vL k a) rfl (vL_one k a)
theorem Ce.ldV {b : Nat} {k a : Nat} (hc : Ce h b (vL k a)) (kk : AV → Res) : ldN h 3 (.ptr b 0) kk = kk (.agg (avL (vL k a))) := Ce.ld hc kk
theorem t112 (hc : CurQ h lo b t q) (hp : Pool h pb) (hpb : pb ≠ b) (hw : Wf h) :
    ∃ h', s112 [.ptr b 0, plv pb] h = .ret (kdV (kd t q)) h' ∧ CurQ h' lo b t (kd t q).2.2 ∧ To (At b) h h' ∧ Wf h' := by
  have hb : b < h.nb := by obtain ⟨B, v, o, r⟩ := hc.own; exact o.lt
  obtain ⟨h1, m1, m1', c1, o1, w1, x1⟩ := mkV0 hw
  obtain ⟨h2, e2, q2, o2, w2⟩ := u1 (hc.to o1 (fun _ _ _ f => f)) w1
  obtain ⟨h3, m3, m3', c3, o3, w3, x3⟩ := mkV0 w2
  obtain ⟨h4, s4, c4, o4, w4, x4⟩ := Ce.stV w3 c3 (val t q 1) 0
  have nb2 := o2.nb
  have q4 : CurQ h4 lo b t (adv t q 1) := (q2.to o3 (fun _ _ _ f => f)).to o4 (fun x _ hx e => by have : x = h2.nb := e; omega)
  have c14 : Ce h4 h.nb (vL 0 0) := ((c1.to o2 (fun e => by have : h.nb = b := e; omega)).to o3 (fun f => f)).to o4 (fun e => by have : h.nb = h2.nb := e; omega)
  have o14 : To (fun x => x = b ∨ h.nb ≤ x) h h4 := (((o1.mono fun _ _ f => f.elim).trans (o2.mono fun x _ e => .inl e)).trans (o3.mono fun _ _ f => f.elim)).trans (o4.mono fun x _ e => by have : x = h2.nb := e; exact .inr (by omega))
  have fin : ∀ {g : Hp}, To (fun x => x = b ∨ h.nb ≤ x) h4 g → To (At b) h g := fun tt => (o14.trans tt).mono fun x hx e => by
    rcases e with e | e
    · exact e
    · omega
  have hp4 : Pool h4 pb := hp.to o14 (fun e => by rcases e with e | e; exact hpb e; have := Ce.lt hp; omega)
  have l4 : ∀ kk : AV → Res, ld1 h4 (.ptr h2.nb (Nat.add 0 0)) kk = kk (.int 63 (val t q 1 : Int)) := fun kk => Ce.l c4 0 (by simp [vL]) kk
  have l4' : ∀ kk : AV → Res, ld1 h4 (.ptr h2.nb 0) kk = kk (.int 63 (val t q 1 : Int)) := l4
  have d4 := fun kk => Ce.ldV c4 kk
  have f0 : (((val t q 1 : Nat) : Int) == 0) = decide (val t q 1 = 0) := nbeq _ 0
  have f1 : (((val t q 1 : Nat) : Int) == 1) = decide (val t q 1 = 1) := nbeq _ 1
  have f4 : (((val t q 1 : Nat) : Int) == 4) = decide (val t q 1 = 4) := nbeq _ 4
  have f5 : (((val t q 1 : Nat) : Int) == 5) = decide (val t q 1 = 5) := nbeq _ 5
  have f6 : (((val t q 1 : Nat) : Int) == 6) = decide (val t q 1 = 6) := nbeq _ 6
  have f7 : (((val t q 1 : Nat) : Int) == 7) = decide (val t q 1 = 7) := nbeq _ 7
  have f8 : (((val t q 1 : Nat) : Int) == 8) = decide (val t q 1 = 8) := nbeq _ 8
  have last : ∀ {g5 : Hp} (k a : Nat), Ce g5 h.nb (vL 0 0) → Wf g5 → ∃ h5, (∀ kk : Hp → Res, stN g5 3 (.ptr h.nb 0) (.agg (avL (vL k a))) kk = kk h5) ∧ (∀ kk : AV → Res, ldN h5 3 (.ptr h.nb 0) kk = kk (.agg (avL (vL k a)))) ∧ To (At h.nb) g5 h5 ∧ Wf h5 := fun k a c w => by
    obtain ⟨h5, s5, c5, o5, w5, x5⟩ := Ce.stV w c k a
    exact ⟨h5, s5, fun kk => Ce.ldV c5 kk, o5, w5⟩
  by_cases k0 : val t q 1 = 0
  · rw [decide_eq_true k0] at f0
    obtain ⟨h5, s5, d5, o5, w5⟩ := last (val t q 1) 0 c14 w4
    have ek : kd t q = ((val t q 1, 0), true, adv t q 1) := by unfold kd isK; simp [k0]
    rw [ek]
    refine ⟨h5, ?_, q4.to o5 (fun x _ hx e => by have : x = h.nb := e; omega), fin (o5.mono fun x _ e => by have : x = h.nb := e; exact .inr (by omega)), w5⟩
    simp only [↓s112, ↓m1, ↓m1', ↓e2, ↓bldV, ↓bldV', ↓m3, ↓m3', ↓s4, ↓cP_p, ↓l4, ↓l4', f0, ↓d4, ↓s5, ↓d5, ↓cK_agg, ↓uc_c, ↓uz_n, ↓cI_i, ↓cB_b, cB_b, ↓cT_t, cT_t, nth_z, nth_1, cK_b, ↓cK_b, ↓cK_i, cK_i, ifB_t, ifB_f, ↓ap_e, sel_t, sel_f, gsel_tt, gsel_tf, gsel_ft, gsel_ff, gsel_u, gd_tt, gd_tf, gd_ft, gd_ff, gd_u, ↓jn_n, jn_n, jn_r, ↓jn_r, blk_n, blk_r, ↓cl_r, cl_r, ↓iAdd_i, ↓iSub_i, ↓iMul_i, ↓iAnd_i, ↓iOr_i, ↓iXor_i, ↓iNeg_i, iQuo_i, iRem_i, ↓iConv_i, iConv_i, ↓bNot_b, bNot_b, ↓eqN_i, ↓ltN_i, ↓eqB_b, bnot_e, Int.ofNat_eq_natCast, Int.cast_ofNat_Int, Int.reduceBEq, Int.reduceAdd, Int.reduceNeg, Int.reduceNegSucc, Int.reduceLT, Int.reduceLE, Int.reduceMul, Int.reduceTMod, Int.reduceSub, Int.reduceBNe, Bool.not_true, Bool.not_false, decide_true, decide_false, w63_in, w31_in, ne_eq, not_false_eq_true, Int.reduceEq, reduceCtorEq, ww3131, ww6363, ww3163, ww6331, ww3231, ww3263, ww6463, ww6364, sh31, sh63, sl63, m31, m63, n63, s5a, s5b, s6a, s6b, b31, b32, b63, c63, c64, d64, iShl_c, iShr_c, sr3, sr6, sr7]
    try rfl
  rw [decide_eq_false k0] at f0
  by_cases k1 : val t q 1 = 1
  · rw [decide_eq_true k1] at f1
    obtain ⟨h5, s5, d5, o5, w5⟩ := last (val t q 1) 0 c14 w4
    have ek : kd t q = ((val t q 1, 0), true, adv t q 1) := by unfold kd isK; simp [k0, k1]
    rw [ek]
    refine ⟨h5, ?_, q4.to o5 (fun x _ hx e => by have : x = h.nb := e; omega), fin (o5.mono fun x _ e => by have : x = h.nb := e; exact .inr (by omega)), w5⟩
    simp only [↓s112, ↓m1, ↓m1', ↓e2, ↓bldV, ↓bldV', ↓m3, ↓m3', ↓s4, ↓cP_p, ↓l4, ↓l4', f0, f1, ↓d4, ↓s5, ↓d5, ↓cK_agg, ↓uc_c, ↓uz_n, ↓cI_i, ↓cB_b, cB_b, ↓cT_t, cT_t, nth_z, nth_1, cK_b, ↓cK_b, ↓cK_i, cK_i, ifB_t, ifB_f, ↓ap_e, sel_t, sel_f, gsel_tt, gsel_tf, gsel_ft, gsel_ff, gsel_u, gd_tt, gd_tf, gd_ft, gd_ff, gd_u, ↓jn_n, jn_n, jn_r, ↓jn_r, blk_n, blk_r, ↓cl_r, cl_r, ↓iAdd_i, ↓iSub_i, ↓iMul_i, ↓iAnd_i, ↓iOr_i, ↓iXor_i, ↓iNeg_i, iQuo_i, iRem_i, ↓iConv_i, iConv_i, ↓bNot_b, bNot_b, ↓eqN_i, ↓ltN_i, ↓eqB_b, bnot_e, Int.ofNat_eq_natCast, Int.cast_ofNat_Int, Int.reduceBEq, Int.reduceAdd, Int.reduceNeg, Int.reduceNegSucc, Int.reduceLT, Int.reduceLE, Int.reduceMul, Int.reduceTMod, Int.reduceSub, Int.reduceBNe, Bool.not_true, Bool.not_false, decide_true, decide_false, w63_in, w31_in, ne_eq, not_false_eq_true, Int.reduceEq, reduceCtorEq, ww3131, ww6363, ww3163, ww6331, ww3231, ww3263, ww6463, ww6364, sh31, sh63, sl63, m31, m63, n63, s5a, s5b, s6a, s6b, b31, b32, b63, c63, c64, d64, iShl_c, iShr_c, sr3, sr6, sr7]
    try rfl
  rw [decide_eq_false k1] at f1
  by_cases k4 : val t q 1 = 4
  · rw [decide_eq_true k4] at f4
    obtain ⟨h5, s5, d5, o5, w5⟩ := last (val t q 1) 0 c14 w4
    have ek : kd t q = ((val t q 1, 0), true, adv t q 1) := by unfold kd isK; simp [k0, k1, k4]
    rw [ek]
    refine ⟨h5, ?_, q4.to o5 (fun x _ hx e => by have : x = h.nb := e; omega), fin (o5.mono fun x _ e => by have : x = h.nb := e; exact .inr (by omega)), w5⟩
    simp only [↓s112, ↓m1, ↓m1', ↓e2, ↓bldV, ↓bldV', ↓m3, ↓m3', ↓s4, ↓cP_p, ↓l4, ↓l4', f0, f1, f4, ↓d4, ↓s5, ↓d5, ↓cK_agg, ↓uc_c, ↓uz_n, ↓cI_i, ↓cB_b, cB_b, ↓cT_t, cT_t, nth_z, nth_1, cK_b, ↓cK_b, ↓cK_i, cK_i, ifB_t, ifB_f, ↓ap_e, sel_t, sel_f, gsel_tt, gsel_tf, gsel_ft, gsel_ff, gsel_u, gd_tt, gd_tf, gd_ft, gd_ff, gd_u, ↓jn_n, jn_n, jn_r, ↓jn_r, blk_n, blk_r, ↓cl_r, cl_r, ↓iAdd_i, ↓iSub_i, ↓iMul_i, ↓iAnd_i, ↓iOr_i, ↓iXor_i, ↓iNeg_i, iQuo_i, iRem_i, ↓iConv_i, iConv_i, ↓bNot_b, bNot_b, ↓eqN_i, ↓ltN_i, ↓eqB_b, bnot_e, Int.ofNat_eq_natCast, Int.cast_ofNat_Int, Int.reduceBEq, Int.reduceAdd, Int.reduceNeg, Int.reduceNegSucc, Int.reduceLT, Int.reduceLE, Int.reduceMul, Int.reduceTMod, Int.reduceSub, Int.reduceBNe, Bool.not_true, Bool.not_false, decide_true, decide_false, w63_in, w31_in, ne_eq, not_false_eq_true, Int.reduceEq, reduceCtorEq, ww3131, ww6363, ww3163, ww6331, ww3231, ww3263, ww6463, ww6364, sh31, sh63, sl63, m31, m63, n63, s5a, s5b, s6a, s6b, b31, b32, b63, c63, c64, d64, iShl_c, iShr_c, sr3, sr6, sr7]
    try rfl
  rw [decide_eq_false k4] at f4
  by_cases k5 : val t q 1 = 5
  · rw [decide_eq_true k5] at f5
    obtain ⟨h5, s5, d5, o5, w5⟩ := last (val t q 1) 0 c14 w4
    have ek : kd t q = ((val t q 1, 0), true, adv t q 1) := by unfold kd isK; simp [k0, k1, k4, k5]
    rw [ek]
    refine ⟨h5, ?_, q4.to o5 (fun x _ hx e => by have : x = h.nb := e; omega), fin (o5.mono fun x _ e => by have : x = h.nb := e; exact .inr (by omega)), w5⟩
    simp only [↓s112, ↓m1, ↓m1', ↓e2, ↓bldV, ↓bldV', ↓m3, ↓m3', ↓s4, ↓cP_p, ↓l4, ↓l4', f0, f1, f4, f5, ↓d4, ↓s5, ↓d5, ↓cK_agg, ↓uc_c, ↓uz_n, ↓cI_i, ↓cB_b, cB_b, ↓cT_t, cT_t, nth_z, nth_1, cK_b, ↓cK_b, ↓cK_i, cK_i, ifB_t, ifB_f, ↓ap_e, sel_t, sel_f, gsel_tt, gsel_tf, gsel_ft, gsel_ff, gsel_u, gd_tt, gd_tf, gd_ft, gd_ff, gd_u, ↓jn_n, jn_n, jn_r, ↓jn_r, blk_n, blk_r, ↓cl_r, cl_r, ↓iAdd_i, ↓iSub_i, ↓iMul_i, ↓iAnd_i, ↓iOr_i, ↓iXor_i, ↓iNeg_i, iQuo_i, iRem_i, ↓iConv_i, iConv_i, ↓bNot_b, bNot_b, ↓eqN_i, ↓ltN_i, ↓eqB_b, bnot_e, Int.ofNat_eq_natCast, Int.cast_ofNat_Int, Int.reduceBEq, Int.reduceAdd, Int.reduceNeg, Int.reduceNegSucc, Int.reduceLT, Int.reduceLE, Int.reduceMul, Int.reduceTMod, Int.reduceSub, Int.reduceBNe, Bool.not_true, Bool.not_false, decide_true, decide_false, w63_in, w31_in, ne_eq, not_false_eq_true, Int.reduceEq, reduceCtorEq, ww3131, ww6363, ww3163, ww6331, ww3231, ww3263, ww6463, ww6364, sh31, sh63, sl63, m31, m63, n63, s5a, s5b, s6a, s6b, b31, b32, b63, c63, c64, d64, iShl_c, iShr_c, sr3, sr6, sr7]
    try rfl
  rw [decide_eq_false k5] at f5
  by_cases k6 : val t q 1 = 6
  · rw [decide_eq_true k6] at f6
    obtain ⟨h5, s5, d5, o5, w5⟩ := last (val t q 1) 0 c14 w4
    have ek : kd t q = ((val t q 1, 0), true, adv t q 1) := by unfold kd isK; simp [k0, k1, k4, k5, k6]
    rw [ek]
    refine ⟨h5, ?_, q4.to o5 (fun x _ hx e => by have : x = h.nb := e; omega), fin (o5.mono fun x _ e => by have : x = h.nb := e; exact .inr (by omega)), w5⟩
    simp only [↓s112, ↓m1, ↓m1', ↓e2, ↓bldV, ↓bldV', ↓m3, ↓m3', ↓s4, ↓cP_p, ↓l4, ↓l4', f0, f1, f4, f5, f6, ↓d4, ↓s5, ↓d5, ↓cK_agg, ↓uc_c, ↓uz_n, ↓cI_i, ↓cB_b, cB_b, ↓cT_t, cT_t, nth_z, nth_1, cK_b, ↓cK_b, ↓cK_i, cK_i, ifB_t, ifB_f, ↓ap_e, sel_t, sel_f, gsel_tt, gsel_tf, gsel_ft, gsel_ff, gsel_u, gd_tt, gd_tf, gd_ft, gd_ff, gd_u, ↓jn_n, jn_n, jn_r, ↓jn_r, blk_n, blk_r, ↓cl_r, cl_r, ↓iAdd_i, ↓iSub_i, ↓iMul_i, ↓iAnd_i, ↓iOr_i, ↓iXor_i, ↓iNeg_i, iQuo_i, iRem_i, ↓iConv_i, iConv_i, ↓bNot_b, bNot_b, ↓eqN_i, ↓ltN_i, ↓eqB_b, bnot_e, Int.ofNat_eq_natCast, Int.cast_ofNat_Int, Int.reduceBEq, Int.reduceAdd, Int.reduceNeg, Int.reduceNegSucc, Int.reduceLT, Int.reduceLE, Int.reduceMul, Int.reduceTMod, Int.reduceSub, Int.reduceBNe, Bool.not_true, Bool.not_false, decide_true, decide_false, w63_in, w31_in, ne_eq, not_false_eq_true, Int.reduceEq, reduceCtorEq, ww3131, ww6363, ww3163, ww6331, ww3231, ww3263, ww6463, ww6364, sh31, sh63, sl63, m31, m63, n63, s5a, s5b, s6a, s6b, b31, b32, b63, c63, c64, d64, iShl_c, iShr_c, sr3, sr6, sr7]
    try rfl
  rw [decide_eq_false k6] at f6
  by_cases k7 : val t q 1 = 7
  · rw [decide_eq_true k7] at f7
    obtain ⟨g1, e5, q5, p1, v1⟩ := u2 q4 w4
    have nb5 := p1.nb
    have hb5 : b ≠ h2.nb := by omega
    obtain ⟨g2, s6, c6, p2, v2, y2⟩ := Ce.s v1 (c4.to p1 (fun e => hb5 (Eq.symm e))) 2 (by simp [vL]) (.int 63 (val t (adv t q 1) 2 : Int)) rfl
    have c6 : Ce g2 h2.nb (vL (val t q 1) (val t (adv t q 1) 2)) := c6
    have s6 : ∀ kk : Hp → Res, st1 g1 (.ptr h2.nb (Nat.add 0 2)) (.int 63 (val t (adv t q 1) 2 : Int)) kk = kk g2 := s6
    have s6' : ∀ kk : Hp → Res, st1 g1 (.ptr h2.nb 2) (.int 63 (val t (adv t q 1) 2 : Int)) kk = kk g2 := s6
    have l6 : ∀ kk : AV → Res, ld1 g2 (.ptr h2.nb (Nat.add 0 2)) kk = kk (.int 63 (val t (adv t q 1) 2 : Int)) := fun kk => Ce.l c6 2 (by simp [vL]) kk
    have l6' : ∀ kk : AV → Res, ld1 g2 (.ptr h2.nb 2) kk = kk (.int 63 (val t (adv t q 1) 2 : Int)) := l6
    have d6 := fun kk => Ce.ldV c6 kk
    have hpl := Ce.lt hp
    have hp6 : Pool g2 pb := (hp4.to p1 hpb).to p2 (fun e => by have : pb = h2.nb := e; omega)
    have e7 := t111 hp6 (val t (adv t q 1) 2)
    have c16 : Ce g2 h.nb (vL 0 0) := (c14.to p1 (fun e => by have : h.nb = b := e; omega)).to p2 (fun e => by have : h.nb = h2.nb := e; omega)
    obtain ⟨h5, s5, d5, o5, w5⟩ := last (val t q 1) (val t (adv t q 1) 2) c16 v2
    have ek : kd t q = ((val t q 1, val t (adv t q 1) 2), isC (val t (adv t q 1) 2), adv t (adv t q 1) 2) := by unfold kd isK; simp [k7]
    rw [ek]
    refine ⟨h5, ?_, (q5.to p2 (fun x _ hx e => by have : x = h2.nb := e; omega)).to o5 (fun x _ hx e => by have : x = h.nb := e; omega), fin (((p1.mono fun x _ e => .inl e).trans (p2.mono fun x _ e => by have : x = h2.nb := e; exact .inr (by omega))).trans (o5.mono fun x _ e => by have : x = h.nb := e; exact .inr (by omega))), w5⟩
    simp only [↓s112, ↓m1, ↓m1', ↓e2, ↓bldV, ↓bldV', ↓m3, ↓m3', ↓s4, ↓cP_p, ↓l4, ↓l4', f0, f1, f4, f5, f6, f7, ↓e5, ↓s6, ↓s6', ↓l6, ↓l6', ↓e7, ↓cK_nm, ↓d6, ↓s5, ↓d5, ↓cK_agg, nth_z, nth_1, ↓uc_c, ↓uz_n, ↓cI_i, ↓cB_b, cB_b, ↓cT_t, cT_t, nth_z, nth_1, cK_b, ↓cK_b, ↓cK_i, cK_i, ifB_t, ifB_f, ↓ap_e, sel_t, sel_f, gsel_tt, gsel_tf, gsel_ft, gsel_ff, gsel_u, gd_tt, gd_tf, gd_ft, gd_ff, gd_u, ↓jn_n, jn_n, jn_r, ↓jn_r, blk_n, blk_r, ↓cl_r, cl_r, ↓iAdd_i, ↓iSub_i, ↓iMul_i, ↓iAnd_i, ↓iOr_i, ↓iXor_i, ↓iNeg_i, iQuo_i, iRem_i, ↓iConv_i, iConv_i, ↓bNot_b, bNot_b, ↓eqN_i, ↓ltN_i, ↓eqB_b, bnot_e, Int.ofNat_eq_natCast, Int.cast_ofNat_Int, Int.reduceBEq, Int.reduceAdd, Int.reduceNeg, Int.reduceNegSucc, Int.reduceLT, Int.reduceLE, Int.reduceMul, Int.reduceTMod, Int.reduceSub, Int.reduceBNe, Bool.not_true, Bool.not_false, decide_true, decide_false, w63_in, w31_in, ne_eq, not_false_eq_true, Int.reduceEq, reduceCtorEq, ww3131, ww6363, ww3163, ww6331, ww3231, ww3263, ww6463, ww6364, sh31, sh63, sl63, m31, m63, n63, s5a, s5b, s6a, s6b, b31, b32, b63, c63, c64, d64, iShl_c, iShr_c, sr3, sr6, sr7]
    try rfl
  rw [decide_eq_false k7] at f7
  by_cases k8 : val t q 1 = 8
  · rw [decide_eq_true k8] at f8
    obtain ⟨g1, e5, q5, p1, v1⟩ := u2 q4 w4
    have nb5 := p1.nb
    have hb5 : b ≠ h2.nb := by omega
    obtain ⟨g2, s6, c6, p2, v2, y2⟩ := Ce.s v1 (c4.to p1 (fun e => hb5 (Eq.symm e))) 2 (by simp [vL]) (.int 63 (val t (adv t q 1) 2 : Int)) rfl
    have c6 : Ce g2 h2.nb (vL (val t q 1) (val t (adv t q 1) 2)) := c6
    have s6 : ∀ kk : Hp → Res, st1 g1 (.ptr h2.nb (Nat.add 0 2)) (.int 63 (val t (adv t q 1) 2 : Int)) kk = kk g2 := s6
    have s6' : ∀ kk : Hp → Res, st1 g1 (.ptr h2.nb 2) (.int 63 (val t (adv t q 1) 2 : Int)) kk = kk g2 := s6
    have d6 := fun kk => Ce.ldV c6 kk
    have c16 : Ce g2 h.nb (vL 0 0) := (c14.to p1 (fun e => by have : h.nb = b := e; omega)).to p2 (fun e => by have : h.nb = h2.nb := e; omega)
    obtain ⟨h5, s5, d5, o5, w5⟩ := last (val t q 1) (val t (adv t q 1) 2) c16 v2
    have ek : kd t q = ((val t q 1, val t (adv t q 1) 2), true, adv t (adv t q 1) 2) := by unfold kd isK; simp [k8]
    rw [ek]
    refine ⟨h5, ?_, (q5.to p2 (fun x _ hx e => by have : x = h2.nb := e; omega)).to o5 (fun x _ hx e => by have : x = h.nb := e; omega), fin (((p1.mono fun x _ e => .inl e).trans (p2.mono fun x _ e => by have : x = h2.nb := e; exact .inr (by omega))).trans (o5.mono fun x _ e => by have : x = h.nb := e; exact .inr (by omega))), w5⟩
    simp only [↓s112, ↓m1, ↓m1', ↓e2, ↓bldV, ↓bldV', ↓m3, ↓m3', ↓s4, ↓cP_p, ↓l4, ↓l4', f0, f1, f4, f5, f6, f7, f8, ↓e5, ↓s6, ↓s6', ↓d6, ↓s5, ↓d5, ↓cK_agg, nth_z, nth_1, ↓uc_c, ↓uz_n, ↓cI_i, ↓cB_b, cB_b, ↓cT_t, cT_t, nth_z, nth_1, cK_b, ↓cK_b, ↓cK_i, cK_i, ifB_t, ifB_f, ↓ap_e, sel_t, sel_f, gsel_tt, gsel_tf, gsel_ft, gsel_ff, gsel_u, gd_tt, gd_tf, gd_ft, gd_ff, gd_u, ↓jn_n, jn_n, jn_r, ↓jn_r, blk_n, blk_r, ↓cl_r, cl_r, ↓iAdd_i, ↓iSub_i, ↓iMul_i, ↓iAnd_i, ↓iOr_i, ↓iXor_i, ↓iNeg_i, iQuo_i, iRem_i, ↓iConv_i, iConv_i, ↓bNot_b, bNot_b, ↓eqN_i, ↓ltN_i, ↓eqB_b, bnot_e, Int.ofNat_eq_natCast, Int.cast_ofNat_Int, Int.reduceBEq, Int.reduceAdd, Int.reduceNeg, Int.reduceNegSucc, Int.reduceLT, Int.reduceLE, Int.reduceMul, Int.reduceTMod, Int.reduceSub, Int.reduceBNe, Bool.not_true, Bool.not_false, decide_true, decide_false, w63_in, w31_in, ne_eq, not_false_eq_true, Int.reduceEq, reduceCtorEq, ww3131, ww6363, ww3163, ww6331, ww3231, ww3263, ww6463, ww6364, sh31, sh63, sl63, m31, m63, n63, s5a, s5b, s6a, s6b, b31, b32, b63, c63, c64, d64, iShl_c, iShr_c, sr3, sr6, sr7]
    try rfl
  rw [decide_eq_false k8] at f8
  obtain ⟨h5, s5, d5, o5, w5⟩ := last (val t q 1) 0 c14 w4
  have ek : kd t q = ((val t q 1, 0), false, adv t q 1) := by unfold kd isK; simp [k0, k1, k4, k5, k6, k7, k8]
  rw [ek]
  refine ⟨h5, ?_, q4.to o5 (fun x _ hx e => by have : x = h.nb := e; omega), fin (o5.mono fun x _ e => by have : x = h.nb := e; exact .inr (by omega)), w5⟩
  simp only [↓s112, ↓m1, ↓m1', ↓e2, ↓bldV, ↓bldV', ↓m3, ↓m3', ↓s4, ↓cP_p, ↓l4, ↓l4', f0, f1, f4, f5, f6, f7, f8, ↓d4, ↓s5, ↓d5, ↓cK_agg, ↓uc_c, ↓uz_n, ↓cI_i, ↓cB_b, cB_b, ↓cT_t, cT_t, nth_z, nth_1, cK_b, ↓cK_b, ↓cK_i, cK_i, ifB_t, ifB_f, ↓ap_e, sel_t, sel_f, gsel_tt, gsel_tf, gsel_ft, gsel_ff, gsel_u, gd_tt, gd_tf, gd_ft, gd_ff, gd_u, ↓jn_n, jn_n, jn_r, ↓jn_r, blk_n, blk_r, ↓cl_r, cl_r, ↓iAdd_i, ↓iSub_i, ↓iMul_i, ↓iAnd_i, ↓iOr_i, ↓iXor_i, ↓iNeg_i, iQuo_i, iRem_i, ↓iConv_i, iConv_i, ↓bNot_b, bNot_b, ↓eqN_i, ↓ltN_i, ↓eqB_b, bnot_e, Int.ofNat_eq_natCast, Int.cast_ofNat_Int, Int.reduceBEq, Int.reduceAdd, Int.reduceNeg, Int.reduceNegSucc, Int.reduceLT, Int.reduceLE, Int.reduceMul, Int.reduceTMod, Int.reduceSub, Int.reduceBNe, Bool.not_true, Bool.not_false, decide_true, decide_false, w63_in, w31_in, ne_eq, not_false_eq_true, Int.reduceEq, reduceCtorEq, ww3131, ww6363, ww3163, ww6331, ww3231, ww3263, ww6463, ww6364, sh31, sh63, sl63, m31, m63, n63, s5a, s5b, s6a, s6b, b31, b32, b63, c63, c64, d64, iShl_c, iShr_c, sr3, sr6, sr7]
  try rfl
end
end Go.Proofs.Ytnpfppddongbhaa
