/-
  The reader of stated frames: what each of its functions answers (part Mp14).
-/
import Derived.Test.YtnpfppddongbhaaMp13
set_option linter.unusedVariables false
set_option linter.unusedSimpArgs false
namespace Go.Proofs.Ytnpfppddongbhaa
open Go Go.AM
set_option autoImplicit false
set_option linter.unusedSimpArgs false
set_option linter.unusedVariables false
/-! ### the law -/
theorem t60 (h : Hp) : s60 [] h = .ret (.bool true) h := rfl
theorem lawRead {h : Hp} {v : AV} {t : List Nat} (hs : Sl h (fun b => b < h.nb) v (Bs t)) (hw : Wf h) (hb : ∀ x ∈ t, x < 256) (ht : t.length ≤ 9223372036854775807) : ∃ h', s21 [v] h = .ret (.bool true) h' := by
  have e1 := t60 h
  obtain ⟨v2, e2, s2⟩ := t24 hs 300 ht
  have z300 : ((300 : Nat) : Int) = 300 := rfl
  rw [z300] at e2
  have hb2 : ∀ x ∈ t.take 300, x < 256 := fun x hx => hb x (List.mem_of_mem_take hx)
  have hl2 : (t.take 300).length ≤ 100000 := by simp; omega
  generalize t.take 300 = t2 at *
  obtain ⟨h1, e3, p1, o1, w1, n1⟩ := t62 hw
  have s3 := s2.to o1 (fun _ _ f => f)
  have gb_ : ∀ x : Bool, gsel (.bool false) false (.bool x) = .bool x := fun x => rfl
  have gn : gsel (.bool false) false .nils = .nils := rfl
  rcases t61 s3 w1 hl2 hb2 p1 with ⟨k1, h2, e4, o2, w2⟩ | ⟨ms, v4, h2, k1, e4, m4, o2, w2⟩
  · obtain ⟨h3, e5, p3, o3, w3, n3⟩ := t62 w2
    have s5 := (s3.to o2 (fun _ _ f => f)).to o3 (fun _ _ f => f)
    rcases t63 s5 w3 hl2 hb2 p3 with ⟨k2, h4, e6, o4, w4⟩ | ⟨ms', v6, h4, k2, e6, m6, o4, w4⟩
    · have r1 := MR.nil h4 0 0
      have hl := loop21 r1 r1 (fun m hm => by cases hm) (by simp) 0 0 most (by unfold most; omega) rfl
      have hl : lp L21n0 most [.bool true, .nils, .nils, .int 63 0] h4 = .exit 0 [.bool true] h4 := hl
      have ln : ∀ k : AV → Res, lenL .nils k = k (.int 63 0) := fun k => rfl
      refine ⟨h4, ?_⟩
      simp only [↓s21, ↓e1, ↓e2, ↓e3, ↓e4, ↓e5, ↓e6, ↓cK_nils, ↓gn, ↓ln, ↓hl, blk_x0, beq_self_eq_true, ↓uc_c, ↓uz_n, ↓cI_i, ↓cB_b, cB_b, ↓cT_t, cT_t, nth_z, nth_1, cK_b, ↓cK_b, ↓cK_i, cK_i, ifB_t, ifB_f, ↓ap_e, sel_t, sel_f, gsel_tt, gsel_tf, gsel_ft, gsel_ff, gsel_u, gd_tt, gd_tf, gd_ft, gd_ff, gd_u, ↓jn_n, jn_n, jn_r, ↓jn_r, blk_n, blk_r, ↓cl_r, cl_r, ↓iAdd_i, ↓iSub_i, ↓iMul_i, ↓iAnd_i, ↓iOr_i, ↓iXor_i, ↓iNeg_i, iQuo_i, iRem_i, ↓iConv_i, iConv_i, ↓bNot_b, bNot_b, ↓eqN_i, ↓ltN_i, ↓eqB_b, bnot_e, Int.ofNat_eq_natCast, Int.cast_ofNat_Int, Int.reduceBEq, Int.reduceAdd, Int.reduceNeg, Int.reduceNegSucc, Int.reduceLT, Int.reduceLE, Int.reduceMul, Int.reduceTMod, Int.reduceSub, Int.reduceBNe, Bool.not_true, Bool.not_false, decide_true, decide_false, w63_in, w31_in, ne_eq, not_false_eq_true, Int.reduceEq, reduceCtorEq, ww3131, ww6363, ww3163, ww6331, ww3231, ww3263, ww6463, ww6364, sh31, sh63, sl63, m31, m63, n63, s5a, s5b, s6a, s6b, b31, b32, b63, c63, c64, d64, iShl_c, iShr_c, sr3, sr6, sr7]
    · rw [k1] at k2; cases k2
  · obtain ⟨h3, e5, p3, o3, w3, n3⟩ := t62 w2
    have s5 := (s3.to o2 (fun _ _ f => f)).to o3 (fun _ _ f => f)
    rcases t63 s5 w3 hl2 hb2 p3 with ⟨k2, h4, e6, o4, w4⟩ | ⟨ms', v6, h4, k2, e6, m6, o4, w4⟩
    · rw [k1] at k2; cases k2
    · rw [k1] at k2
      obtain rfl := Option.some.inj k2
      obtain ⟨hsm, hln⟩ := rdm_small hb2 k1
      have m4' := (m4.to o3 (fun _ _ _ f => f)).to o4 (fun _ _ _ f => f)
      have hl := loop21 m4' m6 hsm hln ms.length 0 most (by unfold most; omega) (by omega)
      have hl : lp L21n0 most [.bool true, v4, v6, .int 63 0] h4 = .exit 0 [.bool true] h4 := hl
      have c4 := fun kk => m4'.cK kk
      have c6 := fun kk => m6.cK kk
      have l4 := fun kk => m4'.len kk
      have l6 := fun kk => m6.len kk
      have g4 : gsel (.bool false) false v4 = v4 := rfl
      have g6 : gsel (.bool false) false v6 = v6 := rfl
      refine ⟨h4, ?_⟩
      simp only [↓s21, ↓e1, ↓e2, ↓e3, ↓e4, ↓e5, ↓e6, ↓c4, ↓c6, ↓g4, ↓g6, ↓l4, ↓l6, ↓hl, blk_x0, beq_self_eq_true, ↓uc_c, ↓uz_n, ↓cI_i, ↓cB_b, cB_b, ↓cT_t, cT_t, nth_z, nth_1, cK_b, ↓cK_b, ↓cK_i, cK_i, ifB_t, ifB_f, ↓ap_e, sel_t, sel_f, gsel_tt, gsel_tf, gsel_ft, gsel_ff, gsel_u, gd_tt, gd_tf, gd_ft, gd_ff, gd_u, ↓jn_n, jn_n, jn_r, ↓jn_r, blk_n, blk_r, ↓cl_r, cl_r, ↓iAdd_i, ↓iSub_i, ↓iMul_i, ↓iAnd_i, ↓iOr_i, ↓iXor_i, ↓iNeg_i, iQuo_i, iRem_i, ↓iConv_i, iConv_i, ↓bNot_b, bNot_b, ↓eqN_i, ↓ltN_i, ↓eqB_b, bnot_e, Int.ofNat_eq_natCast, Int.cast_ofNat_Int, Int.reduceBEq, Int.reduceAdd, Int.reduceNeg, Int.reduceNegSucc, Int.reduceLT, Int.reduceLE, Int.reduceMul, Int.reduceTMod, Int.reduceSub, Int.reduceBNe, Bool.not_true, Bool.not_false, decide_true, decide_false, w63_in, w31_in, ne_eq, not_false_eq_true, Int.reduceEq, reduceCtorEq, ww3131, ww6363, ww3163, ww6331, ww3231, ww3263, ww6463, ww6364, sh31, sh63, sl63, m31, m63, n63, s5a, s5b, s6a, s6b, b31, b32, b63, c63, c64, d64, iShl_c, iShr_c, sr3, sr6, sr7]
end Go.Proofs.Ytnpfppddongbhaa
