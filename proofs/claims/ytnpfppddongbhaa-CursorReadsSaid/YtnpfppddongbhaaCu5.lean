/-
  The cursor's laws, part 5: reckoned by the abstract machine.
-/
import Derived.Test.YtnpfppddongbhaaCu4
namespace Go.Proofs.Ytnpfppddongbhaa
open Go Go.AM
set_option autoImplicit false
set_option linter.unusedSimpArgs false
set_option linter.unusedVariables false
theorem mkS_lit {h : Hp} (hw : Wf h) (l : List AV) (hl : ∀ x ∈ l, one x = true) :
    ∃ v h', (∀ k : AV → Hp → Res, mkS h 1 l.length (avL l) k = k v h') ∧ Sl h' (fun x => h.nb ≤ x ∧ x < h'.nb) v l ∧ To No h h' ∧ Wf h' ∧ h'.nb = h.nb + 1 := by
  obtain ⟨t, h1, h2⟩ := lay_list l .e 0 hl
  have e2 : Nat.beq (0 + l.length) (Nat.mul l.length 1) = true := by rw [beq_iff]; show 0 + l.length = l.length * 1; omega
  obtain ⟨o1, o2⟩ := nw_own hw (0 + l.length) .nil t
  have hat : ∀ i (hi : i < l.length), (⟨true, h.nb, 0 + l.length, .nil, t⟩ : Blk).at (0 + i) = l[i] := by
    intro i hi
    rw [at_in _ (show 0 + i < 0 + l.length by omega)]
    simp only [h2 (0 + i)]
    rw [dif_pos ⟨by omega, by omega⟩]
    simp
  refine ⟨.sl h.nb 0 l.length 1 (some l.length), nw h (0 + l.length) .nil t, fun k => ?_, ⟨hl, .inr (.inr ⟨h.nb, 0, _, _, rfl, ⟨Nat.le_refl _, Nat.lt_succ_self _⟩, o1.rd, fun _ => ⟨Nat.le_refl _, Nat.lt_succ_self _⟩, (fun c h => by cases h; exact Nat.le_refl _), hat⟩)⟩, o2, o2.wf hw, rfl⟩
  have e : mkS h 1 l.length (avL l) k = lay (avL l) .e 0 fun t m => ifB (Nat.beq m (Nat.mul l.length 1)) (k (.sl h.nb 0 l.length 1 (some l.length)) (nw h m .nil t)) .fail := rfl
  rw [e, h1, e2, ifB_t]

theorem t23 {h : Hp} (hw : Wf h) : ∃ h', s23 [] h = .ret (.bool true) h' ∧ To No h h' ∧ Wf h' := by
  obtain ⟨v, h1, e1, s1, o1, w1, n1⟩ := mkS_lit hw (Bs [1, 2, 3, 4, 5, 6, 7]) (Bs_one _)
  have hb : ∀ k : AV → Res, bld [(false, 1, (.int 8 (.ofNat 1))), (false, 1, (.int 8 (.ofNat 2))), (false, 1, (.int 8 (.ofNat 3))), (false, 1, (.int 8 (.ofNat 4))), (false, 1, (.int 8 (.ofNat 5))), (false, 1, (.int 8 (.ofNat 6))), (false, 1, (.int 8 (.ofNat 7)))] k = k (avL (Bs [1, 2, 3, 4, 5, 6, 7])) := fun k => rfl
  have e1' : ∀ k : AV → Hp → Res, mkS h 1 7 (avL (Bs [1, 2, 3, 4, 5, 6, 7])) k = k v h1 := e1
  obtain ⟨b, h2, e2, c2, o2, w2, n2⟩ := t25 s1 w1 (by decide) (by decide)
  obtain ⟨h3, e3, c3, o3, w3⟩ := t27 c2 w2
  obtain ⟨h4, e4, c4, o4, w4⟩ := t28 c3 w3
  obtain ⟨h5, e5, c5, o5, w5⟩ := t29 c4 w4
  have e6 := t30 c5
  have e7 := t31 c5
  obtain ⟨h8, e8, c8, o8, w8⟩ := t27 c5 w5
  have e9 := t30 c8
  rw [show (be (win [1, 2, 3, 4, 5, 6, 7] 0 false 1) 0 : Nat) = 1 by decide] at e3
  rw [show (be (win [1, 2, 3, 4, 5, 6, 7] (nat_ [1, 2, 3, 4, 5, 6, 7] 0 false 1) (nbad [1, 2, 3, 4, 5, 6, 7] 0 false 1) 2) 0 : Nat) = 515 by decide] at e4
  have z1 : ((1 : Nat) : Int) = 1 := rfl
  have z2 : ((515 : Nat) : Int) = 515 := rfl
  have z3 : ((67438087 : Nat) : Int) = 67438087 := rfl
  have z0 : ((0 : Nat) : Int) = 0 := rfl
  rw [z1] at e3
  rw [z2] at e4
  simp only [show nat_ [1, 2, 3, 4, 5, 6, 7] 0 false 1 = 1 by decide, show nbad [1, 2, 3, 4, 5, 6, 7] 0 false 1 = false by decide, show nat_ [1, 2, 3, 4, 5, 6, 7] 1 false 2 = 3 by decide, show nbad [1, 2, 3, 4, 5, 6, 7] 1 false 2 = false by decide,
    show nat_ [1, 2, 3, 4, 5, 6, 7] 3 false 4 = 7 by decide, show nbad [1, 2, 3, 4, 5, 6, 7] 3 false 4 = false by decide, show nbad [1, 2, 3, 4, 5, 6, 7] 7 false 1 = true by decide,
    show (be (win [1, 2, 3, 4, 5, 6, 7] 3 false 4) 0 : Nat) = 67438087 by decide, show (be (win [1, 2, 3, 4, 5, 6, 7] 7 false 1) 0 : Nat) = 0 by decide, z0, z3, List.length_cons, List.length_nil, Nat.reduceAdd, Nat.reduceSub, Bool.not_true, Bool.not_false] at e5 e6 e7 e8 e9
  have tb : ∀ {x y : Hp}, To (At b) x y → To (fun q => h.nb ≤ q) x y := fun q => q.mono fun p _ e => by
    have : p = b := e
    have := o1.nb
    have := c2.lo
    omega
  have tn : ∀ {x y : Hp}, To No x y → To (fun q => h.nb ≤ q) x y := fun q => q.mono fun _ _ f => f.elim
  have tot := ((((tn o1).trans (tn o2)).trans (tb o3)).trans (tb o4)).trans ((tb o5).trans (tb o8))
  exact ⟨h8, by simp only [↓s23, ↓hb, ↓e1', ↓e2, ↓eqP_pn, ↓e3, ↓e4, ↓e5, ↓e6, ↓e7, ↓e8, ↓e9, ↓uc_c, ↓uz_n, ↓cI_i, ↓cB_b, cB_b, ↓cT_t, cT_t, nth_z, nth_1, cK_b, ↓cK_b, ↓cK_i, cK_i, ifB_t, ifB_f, ↓ap_e, sel_t, sel_f, gsel_tt, gsel_tf, gsel_ft, gsel_ff, gsel_u, gd_tt, gd_tf, gd_ft, gd_ff, gd_u, ↓jn_n, jn_n, jn_r, ↓jn_r, blk_n, blk_r, ↓cl_r, cl_r, ↓iAdd_i, ↓iSub_i, ↓iMul_i, ↓iAnd_i, ↓iOr_i, ↓iXor_i, ↓iNeg_i, iQuo_i, iRem_i, ↓iConv_i, iConv_i, ↓bNot_b, bNot_b, ↓eqN_i, ↓ltN_i, ↓eqB_b, bnot_e, Int.ofNat_eq_natCast, Int.cast_ofNat_Int, Int.reduceBEq, Int.reduceAdd, Int.reduceNeg, Int.reduceNegSucc, Int.reduceLT, Int.reduceLE, Int.reduceMul, Int.reduceTMod, Int.reduceSub, Int.reduceBNe, Bool.not_true, Bool.not_false, decide_true, decide_false, w63_in, w31_in, ne_eq, not_false_eq_true, Int.reduceEq, reduceCtorEq, ww3131, ww6363, ww3163, ww6331, ww3231, ww3263, ww6463, ww6364, sh31, sh63, sl63, m31, m63, n63, s5a, s5b, s6a, s6b, b31, b32, b63, c63, c64, d64, iShl_c, iShr_c, sr3, sr6, sr7], tot.mono fun p hp hn => by omega, w8⟩
end Go.Proofs.Ytnpfppddongbhaa
