/-
  Texts of class files, part 8: reckoned by the abstract machine.
-/
import Derived.Test.YtnpfppddongbhaaMu7
namespace Go.Proofs.Ytnpfppddongbhaa
open Go Go.AM
set_option autoImplicit false
set_option linter.unusedSimpArgs false
set_option linter.unusedVariables false
theorem sCat_s (n x m y : Nat) (h : n + m ≤ 9223372036854775807) (k : AV → Res) : sCat (.str n x) (.str m y) k = k (.str (n + m) (x + y <<< (8 * n))) := by
  have e : sCat (.str n x) (.str m y) k = ifB (Nat.ble (Nat.add n m) 9223372036854775807) (k (.str (Nat.add n m) (Nat.add x (Nat.shiftLeft y (Nat.mul 8 n))))) .fail := rfl
  rw [e, (ble_iff (Nat.add n m) _).2 h]; rfl
theorem cut_lt (n x c : Nat) (hx : x < 2 ^ (8 * n)) : (if c < n then x % 2 ^ (8 * c) else x) < 2 ^ (8 * min n c) := by
  by_cases hc : c < n
  · rw [if_pos hc, Nat.min_eq_right (by omega)]; exact Nat.mod_lt _ (Nat.two_pow_pos _)
  · rw [if_neg hc, Nat.min_eq_left (by omega)]; exact hx
theorem U_app (s t : List Nat) : U (s ++ t) = U s ++ U t := by simp [U]
theorem lawJoin (n x m y : Nat) (hx : x < 2 ^ (8 * n)) : ∃ h', s9 [.str n x, .str m y] H0 = .ret (.bool true) h' := by
  obtain ⟨h1, e1, w1⟩ := t36
  have e2 := t37 n x 80
  have e3 := t37 m y 80
  have hx' := cut_lt n x 80 hx
  have hn : min n 80 ≤ 80 := Nat.min_le_right _ _
  have hm : min m 80 ≤ 80 := Nat.min_le_right _ _
  generalize min n 80 = a at *
  generalize min m 80 = b at *
  generalize (if 80 < n then x % 2 ^ (8 * 80) else x) = p at *
  generalize (if 80 < m then y % 2 ^ (8 * 80) else y) = q at *
  obtain ⟨u, h2, f1, s1, o1, w2⟩ := got_inv (t38 a p (by omega) h1 w1)
  obtain ⟨v, h3, f2, s2, o2, w3⟩ := got_inv (t38 b q (by omega) h2 w2)
  obtain ⟨z, h4, f3, s3, o3, w4⟩ := got_inv (t38 (a + b) (p + q <<< (8 * a)) (by omega) h3 w3)
  have e6 : (((80 : Nat) : Int)) = 80 := rfl
  rw [e6] at e2 e3
  have cu := fun k => cK_sl s1 k
  have cv := fun k => cK_sl s2 k
  have cz := fun k => cK_sl s3 k
  have cat := sCat_s a p b q (by omega)
  cases d1 : Dec a p with
  | none =>
    rw [d1] at f1
    exact ⟨h4, by simp only [↓s9, ↓e1, ↓e2, ↓e3, ↓f1, ↓f2, ↓f3, ↓cat, cu, cv, cz, Option.isSome_none, ↓uc_c, ↓uz_n, ↓cI_i, ↓cB_b, cB_b, ↓cT_t, cT_t, nth_z, nth_1, cK_b, ↓cK_b, ↓cK_i, cK_i, ifB_t, ifB_f, ↓ap_e, sel_t, sel_f, gsel_tt, gsel_tf, gsel_ft, gsel_ff, gsel_u, gd_tt, gd_tf, gd_ft, gd_ff, gd_u, ↓jn_n, jn_n, jn_r, ↓jn_r, blk_n, blk_r, ↓cl_r, cl_r, ↓iAdd_i, ↓iSub_i, ↓iMul_i, ↓iAnd_i, ↓iOr_i, ↓iXor_i, ↓iNeg_i, iQuo_i, iRem_i, ↓iConv_i, iConv_i, ↓bNot_b, bNot_b, ↓eqN_i, ↓ltN_i, ↓eqB_b, bnot_e, Int.ofNat_eq_natCast, Int.cast_ofNat_Int, Int.reduceBEq, Int.reduceAdd, Int.reduceNeg, Int.reduceNegSucc, Int.reduceLT, Int.reduceLE, Int.reduceMul, Int.reduceTMod, Int.reduceSub, Int.reduceBNe, Bool.not_true, Bool.not_false, decide_true, decide_false, w63_in, w31_in, ne_eq, not_false_eq_true, Int.reduceEq, reduceCtorEq, ww3131, ww6363, ww3163, ww6331, ww3231, ww3263, ww6463, ww6364, sh31, sh63, sl63, m31, m63, n63, s5a, s5b, s6a, s6b, b31, b32, b63, c63, c64, d64, iShl_c, iShr_c, sr3, sr6, sr7]⟩
  | some t1 =>
    cases d2 : Dec b q with
    | none =>
      rw [d1] at f1
      rw [d2] at f2
      exact ⟨h4, by simp only [↓s9, ↓e1, ↓e2, ↓e3, ↓f1, ↓f2, ↓f3, ↓cat, cu, cv, cz, Option.isSome_none, Option.isSome_some, ↓uc_c, ↓uz_n, ↓cI_i, ↓cB_b, cB_b, ↓cT_t, cT_t, nth_z, nth_1, cK_b, ↓cK_b, ↓cK_i, cK_i, ifB_t, ifB_f, ↓ap_e, sel_t, sel_f, gsel_tt, gsel_tf, gsel_ft, gsel_ff, gsel_u, gd_tt, gd_tf, gd_ft, gd_ff, gd_u, ↓jn_n, jn_n, jn_r, ↓jn_r, blk_n, blk_r, ↓cl_r, cl_r, ↓iAdd_i, ↓iSub_i, ↓iMul_i, ↓iAnd_i, ↓iOr_i, ↓iXor_i, ↓iNeg_i, iQuo_i, iRem_i, ↓iConv_i, iConv_i, ↓bNot_b, bNot_b, ↓eqN_i, ↓ltN_i, ↓eqB_b, bnot_e, Int.ofNat_eq_natCast, Int.cast_ofNat_Int, Int.reduceBEq, Int.reduceAdd, Int.reduceNeg, Int.reduceNegSucc, Int.reduceLT, Int.reduceLE, Int.reduceMul, Int.reduceTMod, Int.reduceSub, Int.reduceBNe, Bool.not_true, Bool.not_false, decide_true, decide_false, w63_in, w31_in, ne_eq, not_false_eq_true, Int.reduceEq, reduceCtorEq, ww3131, ww6363, ww3163, ww6331, ww3231, ww3263, ww6463, ww6364, sh31, sh63, sl63, m31, m63, n63, s5a, s5b, s6a, s6b, b31, b32, b63, c63, c64, d64, iShl_c, iShr_c, sr3, sr6, sr7]⟩
    | some t2 =>
      have d3 := Dec_join a p b q hx' t1 t2 d1 d2
      have n1 := Dec_len a p
      have n2 := Dec_len b q
      rw [d1] at f1 s1 n1
      rw [d2] at f2 s2 n2
      rw [d3] at f3 s3
      simp only [Option.getD_some] at s1 s2 s3 n1 n2
      have s1' := (s1.to o2 (fun _ _ f => f)).to o3 (fun _ _ f => f)
      have s2' := s2.to o3 (fun _ _ f => f)
      have g0 : Gr h4 h4.nb .nils [] := ⟨⟨by simp, .inl ⟨rfl, rfl⟩⟩, .inl rfl⟩
      obtain ⟨r1, h5, a1, a2, a3⟩ := apd_gr (by_ := 2) (Nat.le_refl _) w4 g0 s1' (by rw [U_len]; simp; omega) (by rw [U_len]; simp; omega)
      have toNo : To No h4 h5 := a3.mono fun b hb hn => by omega
      have s2'' := s2'.to toNo (fun _ _ f => f)
      obtain ⟨r2, h6, b1, b2, b3⟩ := apd_gr (by_ := 2) a3.nb (toNo.wf w4) a2 s2'' (by simp [U_len]; omega) (by simp [U_len]; omega)
      have toNo2 : To No h4 h6 := (a3.trans b3).mono fun b hb hn => by omega
      have s3' := s3.to toNo2 (fun _ _ f => f)
      have b2' : Sl h6 (fun b => h4.nb ≤ b) r2 (U (t1 ++ t2)) := by rw [U_app]; simpa using b2.1
      have e5 := t40 s3' b2' (by simp; omega)
      exact ⟨h6, by simp only [↓s9, ↓e1, ↓e2, ↓e3, ↓f1, ↓f2, ↓f3, ↓cat, cu, cv, cz, Option.isSome_some, ↓a1, ↓b1, ↓e5, ↓uc_c, ↓uz_n, ↓cI_i, ↓cB_b, cB_b, ↓cT_t, cT_t, nth_z, nth_1, cK_b, ↓cK_b, ↓cK_i, cK_i, ifB_t, ifB_f, ↓ap_e, sel_t, sel_f, gsel_tt, gsel_tf, gsel_ft, gsel_ff, gsel_u, gd_tt, gd_tf, gd_ft, gd_ff, gd_u, ↓jn_n, jn_n, jn_r, ↓jn_r, blk_n, blk_r, ↓cl_r, cl_r, ↓iAdd_i, ↓iSub_i, ↓iMul_i, ↓iAnd_i, ↓iOr_i, ↓iXor_i, ↓iNeg_i, iQuo_i, iRem_i, ↓iConv_i, iConv_i, ↓bNot_b, bNot_b, ↓eqN_i, ↓ltN_i, ↓eqB_b, bnot_e, Int.ofNat_eq_natCast, Int.cast_ofNat_Int, Int.reduceBEq, Int.reduceAdd, Int.reduceNeg, Int.reduceNegSucc, Int.reduceLT, Int.reduceLE, Int.reduceMul, Int.reduceTMod, Int.reduceSub, Int.reduceBNe, Bool.not_true, Bool.not_false, decide_true, decide_false, w63_in, w31_in, ne_eq, not_false_eq_true, Int.reduceEq, reduceCtorEq, ww3131, ww6363, ww3163, ww6331, ww3231, ww3263, ww6463, ww6364, sh31, sh63, sl63, m31, m63, n63, s5a, s5b, s6a, s6b, b31, b32, b63, c63, c64, d64, iShl_c, iShr_c, sr3, sr6, sr7]⟩
end Go.Proofs.Ytnpfppddongbhaa
