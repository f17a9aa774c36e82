/-
  The reader of stated frames: what each of its functions answers (part Mp12).
-/
import Derived.Test.YtnpfppddongbhaaMp11
set_option linter.unusedVariables false
set_option linter.unusedSimpArgs false
namespace Go.Proofs.Ytnpfppddongbhaa
open Go Go.AM
set_option autoImplicit false
set_option linter.unusedSimpArgs false
set_option linter.unusedVariables false
/-! ### the same types -/
theorem vP_get (l : List (Nat × Nat)) (i : Nat) (hi : i < (l.map vP).length) : (l.map vP)[i] = [.int 63 ((l[i]'(by simpa using hi)).1 : Int), .str 0 0, .int 63 ((l[i]'(by simpa using hi)).2 : Int)] := by
  rw [List.getElem_map]; rfl
theorem eqS00 (k : Bool → Res) : eqS (.str 0 0) (.str 0 0) k = k true := rfl
theorem vP_pt {h : Hp} {P : Nat → Prop} {v : AV} {l : List (Nat × Nat)} (hr : Rws h P 3 v (l.map vP)) (i : Nat) (hi : i < l.length) :
    ∃ b o, (∀ k : AV → Res, ixA 3 v (.int 63 (i : Int)) k = k (.ptr b o)) ∧ (∀ k : AV → Res, ld1 h (.ptr b (Nat.add o 0)) k = k (.int 63 (l[i].1 : Int))) ∧ (∀ k : AV → Res, ld1 h (.ptr b (Nat.add o 1)) k = k (.str 0 0)) ∧ (∀ k : AV → Res, ld1 h (.ptr b (Nat.add o 2)) k = k (.int 63 (l[i].2 : Int))) := by
  have hi' : i < (l.map vP).length := by simpa using hi
  obtain ⟨b, o, e1, -, e3⟩ := hr.pt i hi'
  have hg := vP_get l i hi'
  refine ⟨b, o, e1, fun k => ?_, fun k => ?_, fun k => ?_⟩
  · have := e3 0 (by rw [hg]; simp) k; simp only [hg] at this; exact this
  · have := e3 1 (by rw [hg]; simp) k; simp only [hg] at this; exact this
  · have := e3 2 (by rw [hg]; simp) k; simp only [hg] at this; exact this
theorem loop64 {h : Hp} {P Q : Nat → Prop} {v w : AV} {l : List (Nat × Nat)} (r1 : Rws h P 3 v (l.map vP)) (r2 : Rws h Q 3 w (l.map vP)) (hl : l.length ≤ 100000) :
    ∀ (n i m : Nat), n < m → i + n = l.length → lp L64n0 m [v, w, .int 63 (i : Int)] h = .exit 0 [] h := by
  intro n
  induction n with
  | zero =>
    intro i m hm hi
    obtain ⟨m, rfl⟩ : ∃ k, m = k + 1 := ⟨m - 1, by omega⟩
    have c1 : ¬ (i : Int) < (l.length : Int) := by omega
    have hlen := fun kk => r1.len kk
    rw [List.length_map] at hlen
    exact lpx m (by simp only [↓L64n0, ↓hlen, c1, ↓uc_c, ↓uz_n, ↓cI_i, ↓cB_b, cB_b, ↓cT_t, cT_t, nth_z, nth_1, cK_b, ↓cK_b, ↓cK_i, cK_i, ifB_t, ifB_f, ↓ap_e, sel_t, sel_f, gsel_tt, gsel_tf, gsel_ft, gsel_ff, gsel_u, gd_tt, gd_tf, gd_ft, gd_ff, gd_u, ↓jn_n, jn_n, jn_r, ↓jn_r, blk_n, blk_r, ↓cl_r, cl_r, ↓iAdd_i, ↓iSub_i, ↓iMul_i, ↓iAnd_i, ↓iOr_i, ↓iXor_i, ↓iNeg_i, iQuo_i, iRem_i, ↓iConv_i, iConv_i, ↓bNot_b, bNot_b, ↓eqN_i, ↓ltN_i, ↓eqB_b, bnot_e, Int.ofNat_eq_natCast, Int.cast_ofNat_Int, Int.reduceBEq, Int.reduceAdd, Int.reduceNeg, Int.reduceNegSucc, Int.reduceLT, Int.reduceLE, Int.reduceMul, Int.reduceTMod, Int.reduceSub, Int.reduceBNe, Bool.not_true, Bool.not_false, decide_true, decide_false, w63_in, w31_in, ne_eq, not_false_eq_true, Int.reduceEq, reduceCtorEq, ww3131, ww6363, ww3163, ww6331, ww3231, ww3263, ww6463, ww6364, sh31, sh63, sl63, m31, m63, n63, s5a, s5b, s6a, s6b, b31, b32, b63, c63, c64, d64, iShl_c, iShr_c, sr3, sr6, sr7])
  | succ n ih =>
    intro i m hm hi
    obtain ⟨m, rfl⟩ : ∃ k, m = k + 1 := ⟨m - 1, by omega⟩
    have c1 : (i : Int) < (l.length : Int) := by omega
    have hlen := fun kk => r1.len kk
    rw [List.length_map] at hlen
    obtain ⟨b1, o1, x1, a0, a1, a2⟩ := vP_pt r1 i (by omega)
    obtain ⟨b2, o2, x2, g0, g1, g2⟩ := vP_pt r2 i (by omega)
    have i1 := s1n i (by omega)
    have gv : gsel (.bool false) false v = v := rfl
    have gw : gsel (.bool false) false w = w := rfl
    have gi : gsel (.bool false) false (.int 63 (i : Int)) = .int 63 (i : Int) := rfl
    have e : L64n0 [v, w, .int 63 (i : Int)] h = .norm [v, w, .int 63 ((i + 1 : Nat) : Int)] h := by
      simp only [↓L64n0, ↓hlen, c1, ↓x1, ↓x2, ↓cP_p, ↓a0, ↓a1, ↓a2, ↓g0, ↓g1, ↓g2, ↓gv, ↓gw, ↓gi, ↓eqS00, i1, beq_self_eq_true, ↓uc_c, ↓uz_n, ↓cI_i, ↓cB_b, cB_b, ↓cT_t, cT_t, nth_z, nth_1, cK_b, ↓cK_b, ↓cK_i, cK_i, ifB_t, ifB_f, ↓ap_e, sel_t, sel_f, gsel_tt, gsel_tf, gsel_ft, gsel_ff, gsel_u, gd_tt, gd_tf, gd_ft, gd_ff, gd_u, ↓jn_n, jn_n, jn_r, ↓jn_r, blk_n, blk_r, ↓cl_r, cl_r, ↓iAdd_i, ↓iSub_i, ↓iMul_i, ↓iAnd_i, ↓iOr_i, ↓iXor_i, ↓iNeg_i, iQuo_i, iRem_i, ↓iConv_i, iConv_i, ↓bNot_b, bNot_b, ↓eqN_i, ↓ltN_i, ↓eqB_b, bnot_e, Int.ofNat_eq_natCast, Int.cast_ofNat_Int, Int.reduceBEq, Int.reduceAdd, Int.reduceNeg, Int.reduceNegSucc, Int.reduceLT, Int.reduceLE, Int.reduceMul, Int.reduceTMod, Int.reduceSub, Int.reduceBNe, Bool.not_true, Bool.not_false, decide_true, decide_false, w63_in, w31_in, ne_eq, not_false_eq_true, Int.reduceEq, reduceCtorEq, ww3131, ww6363, ww3163, ww6331, ww3231, ww3263, ww6463, ww6364, sh31, sh63, sl63, m31, m63, n63, s5a, s5b, s6a, s6b, b31, b32, b63, c63, c64, d64, iShl_c, iShr_c, sr3, sr6, sr7]
    rw [lpn m e]
    exact ih (i + 1) m (by omega) (by omega)
theorem t64 {h : Hp} {P Q : Nat → Prop} {v w : AV} {l : List (Nat × Nat)} (r1 : Rws h P 3 v (l.map vP)) (r2 : Rws h Q 3 w (l.map vP)) (hl : l.length ≤ 100000) : s64 [v, w] h = .ret (.bool true) h := by
  have l1 := fun kk => r1.len kk
  have l2 := fun kk => r2.len kk
  rw [List.length_map] at l1 l2
  have hl' := loop64 r1 r2 hl l.length 0 most (by unfold most; omega) (by omega)
  have hl' : lp L64n0 most [v, w, .int 63 0] h = .exit 0 [] h := hl'
  simp only [↓s64, ↓l1, ↓l2, ↓hl', beq_self_eq_true, blk_x0, ↓uc_c, ↓uz_n, ↓cI_i, ↓cB_b, cB_b, ↓cT_t, cT_t, nth_z, nth_1, cK_b, ↓cK_b, ↓cK_i, cK_i, ifB_t, ifB_f, ↓ap_e, sel_t, sel_f, gsel_tt, gsel_tf, gsel_ft, gsel_ff, gsel_u, gd_tt, gd_tf, gd_ft, gd_ff, gd_u, ↓jn_n, jn_n, jn_r, ↓jn_r, blk_n, blk_r, ↓cl_r, cl_r, ↓iAdd_i, ↓iSub_i, ↓iMul_i, ↓iAnd_i, ↓iOr_i, ↓iXor_i, ↓iNeg_i, iQuo_i, iRem_i, ↓iConv_i, iConv_i, ↓bNot_b, bNot_b, ↓eqN_i, ↓ltN_i, ↓eqB_b, bnot_e, Int.ofNat_eq_natCast, Int.cast_ofNat_Int, Int.reduceBEq, Int.reduceAdd, Int.reduceNeg, Int.reduceNegSucc, Int.reduceLT, Int.reduceLE, Int.reduceMul, Int.reduceTMod, Int.reduceSub, Int.reduceBNe, Bool.not_true, Bool.not_false, decide_true, decide_false, w63_in, w31_in, ne_eq, not_false_eq_true, Int.reduceEq, reduceCtorEq, ww3131, ww6363, ww3163, ww6331, ww3231, ww3263, ww6463, ww6364, sh31, sh63, sl63, m31, m63, n63, s5a, s5b, s6a, s6b, b31, b32, b63, c63, c64, d64, iShl_c, iShr_c, sr3, sr6, sr7]
end Go.Proofs.Ytnpfppddongbhaa
