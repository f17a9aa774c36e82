/-
  The cursor's laws, part 10: reckoned by the abstract machine.
-/
import Derived.Test.YtnpfppddongbhaaCu9
namespace Go.Proofs.Ytnpfppddongbhaa
open Go Go.AM
set_option autoImplicit false
set_option linter.unusedSimpArgs false
set_option linter.unusedVariables false
section
variable {h : Hp} {N l1 b1 l2 b2 at_ : Nat} {t : List Nat} {bad : Bool} {u v : AV} {ops : List Int}
theorem stepD (D : Duo h N l1 b1 l2 b2 t at_ bad u v ops) (i : Nat) (hi : i < ops.length) (h30 : i < 30) :
    ∃ h' at2 bad2, L5n1 [u, v, .bool true, .ptr b1 0, .ptr b2 0, .int 63 (i : Int)] h = .norm [u, v, .bool true, .ptr b1 0, .ptr b2 0, .int 63 ((i + 1 : Nat) : Int)] h' ∧ Duo h' N l1 b1 l2 b2 t at2 bad2 u v ops := by
  have len := fun k => lenL_sl D.v k
  have lt : (i : Int) < (ops.length : Int) := by omega
  have lt30 : (i : Int) < 30 := by omega
  have hlm : (ops.map fun n => AV.int 63 n).length = ops.length := by simp
  have gi : (ops.map fun n => AV.int 63 n)[i]'(by rw [hlm]; exact hi) = .int 63 ops[i] := by simp
  have ix := fun k => ix_sl D.v (c := 63) i (by rw [hlm]; exact hi) k
  rw [gi] at ix
  have hlen := D.c1.len
  have q1 := D.c1.lo
  have q2 := D.c2.lo
  have p1 := D.o1
  have p2 := D.o2
  have p3 := D.nb
  have cut : ∀ {h' : Hp}, To (At b1) h h' → Cur h' l2 b2 t at_ bad := fun ht => D.c2.to ht (fun x a b e => by have : x = b1 := e; omega)
  have nq : ∀ b : Bool, ((!b) == b) = false := fun b => by cases b <;> rfl
  by_cases o1 : ops[i] = 1
  · rw [o1] at ix
    obtain ⟨h1, e1, c1, t1, w1⟩ := t27 D.c1 D.wf
    obtain ⟨h2, e2, c2, t2, w2⟩ := t32 (cut t1) w1 1 (by decide)
    rw [show ((1 : Nat) : Int) = 1 from rfl] at e2 c2
    have D' := D.go c1 t1 c2 t2 w2
    obtain ⟨vx, -, f0, f1, f2⟩ := D'.c2.open
    have x34 := t34 D'.c1
    have x31 := t31 D'.c1
    have x35 := t35 D'.c2
    have x30 := t30 D'.c1
    refine ⟨h2, _, _, ?_, D'⟩
    simp only [↓L5n1, ↓len, hlm, lt, lt30, ↓ix, ↓e1, ↓e2, beqi', blk_n, ↓nck_p, ↓cP_p, ↓f0, ↓f1, ↓f2, ↓x34, ↓same_i, ↓x31, ↓x35, ↓x30, ↓same_bb, nq, s1n i (by omega), ↓uc_c, ↓uz_n, ↓cI_i, ↓cB_b, cB_b, ↓cT_t, cT_t, nth_z, nth_1, cK_b, ↓cK_b, ↓cK_i, cK_i, ifB_t, ifB_f, ↓ap_e, sel_t, sel_f, gsel_tt, gsel_tf, gsel_ft, gsel_ff, gsel_u, gd_tt, gd_tf, gd_ft, gd_ff, gd_u, ↓jn_n, jn_n, jn_r, ↓jn_r, blk_n, blk_r, ↓cl_r, cl_r, ↓iAdd_i, ↓iSub_i, ↓iMul_i, ↓iAnd_i, ↓iOr_i, ↓iXor_i, ↓iNeg_i, iQuo_i, iRem_i, ↓iConv_i, iConv_i, ↓bNot_b, bNot_b, ↓eqN_i, ↓ltN_i, ↓eqB_b, bnot_e, Int.ofNat_eq_natCast, Int.cast_ofNat_Int, Int.reduceBEq, Int.reduceAdd, Int.reduceNeg, Int.reduceNegSucc, Int.reduceLT, Int.reduceLE, Int.reduceMul, Int.reduceTMod, Int.reduceSub, Int.reduceBNe, Bool.not_true, Bool.not_false, decide_true, decide_false, w63_in, w31_in, ne_eq, not_false_eq_true, Int.reduceEq, reduceCtorEq, ww3131, ww6363, ww3163, ww6331, ww3231, ww3263, ww6463, ww6364, sh31, sh63, sl63, m31, m63, n63, s5a, s5b, s6a, s6b, b31, b32, b63, c63, c64, d64, iShl_c, iShr_c, sr3, sr6, sr7]
  by_cases o2 : ops[i] = 2
  · rw [o2] at ix
    obtain ⟨h1, e1, c1, t1, w1⟩ := t28 D.c1 D.wf
    obtain ⟨h2, e2, c2, t2, w2⟩ := t32 (cut t1) w1 2 (by decide)
    rw [show ((2 : Nat) : Int) = 2 from rfl] at e2 c2
    have D' := D.go c1 t1 c2 t2 w2
    obtain ⟨vx, -, f0, f1, f2⟩ := D'.c2.open
    have x34 := t34 D'.c1
    have x31 := t31 D'.c1
    have x35 := t35 D'.c2
    have x30 := t30 D'.c1
    refine ⟨h2, _, _, ?_, D'⟩
    simp only [↓L5n1, ↓len, hlm, lt, lt30, ↓ix, ↓e1, ↓e2, beqi', blk_n, ↓nck_p, ↓cP_p, ↓f0, ↓f1, ↓f2, ↓x34, ↓same_i, ↓x31, ↓x35, ↓x30, ↓same_bb, nq, s1n i (by omega), ↓uc_c, ↓uz_n, ↓cI_i, ↓cB_b, cB_b, ↓cT_t, cT_t, nth_z, nth_1, cK_b, ↓cK_b, ↓cK_i, cK_i, ifB_t, ifB_f, ↓ap_e, sel_t, sel_f, gsel_tt, gsel_tf, gsel_ft, gsel_ff, gsel_u, gd_tt, gd_tf, gd_ft, gd_ff, gd_u, ↓jn_n, jn_n, jn_r, ↓jn_r, blk_n, blk_r, ↓cl_r, cl_r, ↓iAdd_i, ↓iSub_i, ↓iMul_i, ↓iAnd_i, ↓iOr_i, ↓iXor_i, ↓iNeg_i, iQuo_i, iRem_i, ↓iConv_i, iConv_i, ↓bNot_b, bNot_b, ↓eqN_i, ↓ltN_i, ↓eqB_b, bnot_e, Int.ofNat_eq_natCast, Int.cast_ofNat_Int, Int.reduceBEq, Int.reduceAdd, Int.reduceNeg, Int.reduceNegSucc, Int.reduceLT, Int.reduceLE, Int.reduceMul, Int.reduceTMod, Int.reduceSub, Int.reduceBNe, Bool.not_true, Bool.not_false, decide_true, decide_false, w63_in, w31_in, ne_eq, not_false_eq_true, Int.reduceEq, reduceCtorEq, ww3131, ww6363, ww3163, ww6331, ww3231, ww3263, ww6463, ww6364, sh31, sh63, sl63, m31, m63, n63, s5a, s5b, s6a, s6b, b31, b32, b63, c63, c64, d64, iShl_c, iShr_c, sr3, sr6, sr7]
  by_cases o4 : ops[i] = 4
  · rw [o4] at ix
    obtain ⟨h1, e1, c1, t1, w1⟩ := t29 D.c1 D.wf
    obtain ⟨h2, e2, c2, t2, w2⟩ := t32 (cut t1) w1 4 (by decide)
    rw [show ((4 : Nat) : Int) = 4 from rfl] at e2 c2
    have D' := D.go c1 t1 c2 t2 w2
    obtain ⟨vx, -, f0, f1, f2⟩ := D'.c2.open
    have x34 := t34 D'.c1
    have x31 := t31 D'.c1
    have x35 := t35 D'.c2
    have x30 := t30 D'.c1
    refine ⟨h2, _, _, ?_, D'⟩
    simp only [↓L5n1, ↓len, hlm, lt, lt30, ↓ix, ↓e1, ↓e2, beqi', blk_n, ↓nck_p, ↓cP_p, ↓f0, ↓f1, ↓f2, ↓x34, ↓same_i, ↓x31, ↓x35, ↓x30, ↓same_bb, nq, s1n i (by omega), ↓uc_c, ↓uz_n, ↓cI_i, ↓cB_b, cB_b, ↓cT_t, cT_t, nth_z, nth_1, cK_b, ↓cK_b, ↓cK_i, cK_i, ifB_t, ifB_f, ↓ap_e, sel_t, sel_f, gsel_tt, gsel_tf, gsel_ft, gsel_ff, gsel_u, gd_tt, gd_tf, gd_ft, gd_ff, gd_u, ↓jn_n, jn_n, jn_r, ↓jn_r, blk_n, blk_r, ↓cl_r, cl_r, ↓iAdd_i, ↓iSub_i, ↓iMul_i, ↓iAnd_i, ↓iOr_i, ↓iXor_i, ↓iNeg_i, iQuo_i, iRem_i, ↓iConv_i, iConv_i, ↓bNot_b, bNot_b, ↓eqN_i, ↓ltN_i, ↓eqB_b, bnot_e, Int.ofNat_eq_natCast, Int.cast_ofNat_Int, Int.reduceBEq, Int.reduceAdd, Int.reduceNeg, Int.reduceNegSucc, Int.reduceLT, Int.reduceLE, Int.reduceMul, Int.reduceTMod, Int.reduceSub, Int.reduceBNe, Bool.not_true, Bool.not_false, decide_true, decide_false, w63_in, w31_in, ne_eq, not_false_eq_true, Int.reduceEq, reduceCtorEq, ww3131, ww6363, ww3163, ww6331, ww3231, ww3263, ww6463, ww6364, sh31, sh63, sl63, m31, m63, n63, s5a, s5b, s6a, s6b, b31, b32, b63, c63, c64, d64, iShl_c, iShr_c, sr3, sr6, sr7]
  · have n1 : (ops[i] == 1) = false := by simpa using o1
    have n2 : (ops[i] == 2) = false := by simpa using o2
    have n4 : (ops[i] == 4) = false := by simpa using o4
    obtain ⟨x, h1, e1, r1, c1, t1, w1⟩ := t26o D.c1 D.wf ops[i]
    have ix1 := fun k => ix_sl (D.v.to t1 (fun x hx e => by have : x = b1 := e; omega)) (c := 63) i (by rw [hlm]; exact hi) k
    rw [gi] at ix1
    obtain ⟨y, h2, e2, s2, c2, t2, w2⟩ := t33 (cut t1) w1 ops[i]
    have D2 := D.go c1 t1 c2 t2 w2
    have r2 := r1.to t2 (fun b hb _ e => by have : b = b2 := e; omega)
    have wb := win_byt D.c1.byt at_ bad ops[i]
    have wl := win_len2 t at_ bad ops[i]
    have k1 := fun k => b2s_sl r2.sl wb k
    have k2 := fun k => b2s_sl s2 wb k
    obtain ⟨h3, e3, t3, w3⟩ := loop5r r2 w2 (by omega) u v (.bool true) (.ptr b1 0) (.ptr b2 0) (.int 63 (i : Int))
    have far : ∀ {lo b : Nat}, b < h.nb → ∀ x, lo ≤ x → x ≤ b → ¬ (h.nb ≤ x) := fun hb x _ hx e => by omega
    have D' : Duo h3 N l1 b1 l2 b2 t (nat_ t at_ bad ops[i]) (nbad t at_ bad ops[i]) u v ops :=
      ⟨D2.c1.to t3 (far (by omega)), D2.c2.to t3 (far (by omega)), w3, D2.o1, D2.o2, Nat.lt_of_lt_of_le D2.nb t3.nb, D2.u.to t3 (fun x hx e => by omega), D2.v.to t3 (fun x hx e => by omega)⟩
    obtain ⟨vx, -, f0, f1, f2⟩ := D'.c2.open
    have x34 := t34 D'.c1
    have x31 := t31 D'.c1
    have x35 := t35 D'.c2
    have x30 := t30 D'.c1
    refine ⟨h3, _, _, ?_, D'⟩
    simp only [↓L5n1, ↓len, hlm, lt, lt30, ↓ix, n1, n2, n4, ↓e1, ↓ix1, ↓e2, ↓k1, ↓k2, ↓eqS_self, e3, blk_e, show Nat.beq 3 3 = true from rfl, blk_n, ↓nck_p, ↓cP_p, ↓f0, ↓f1, ↓f2, ↓x34, ↓same_i, ↓x31, ↓x35, ↓x30, ↓same_bb, nq, beqi', s1n i (by omega), ↓uc_c, ↓uz_n, ↓cI_i, ↓cB_b, cB_b, ↓cT_t, cT_t, nth_z, nth_1, cK_b, ↓cK_b, ↓cK_i, cK_i, ifB_t, ifB_f, ↓ap_e, sel_t, sel_f, gsel_tt, gsel_tf, gsel_ft, gsel_ff, gsel_u, gd_tt, gd_tf, gd_ft, gd_ff, gd_u, ↓jn_n, jn_n, jn_r, ↓jn_r, blk_n, blk_r, ↓cl_r, cl_r, ↓iAdd_i, ↓iSub_i, ↓iMul_i, ↓iAnd_i, ↓iOr_i, ↓iXor_i, ↓iNeg_i, iQuo_i, iRem_i, ↓iConv_i, iConv_i, ↓bNot_b, bNot_b, ↓eqN_i, ↓ltN_i, ↓eqB_b, bnot_e, Int.ofNat_eq_natCast, Int.cast_ofNat_Int, Int.reduceBEq, Int.reduceAdd, Int.reduceNeg, Int.reduceNegSucc, Int.reduceLT, Int.reduceLE, Int.reduceMul, Int.reduceTMod, Int.reduceSub, Int.reduceBNe, Bool.not_true, Bool.not_false, decide_true, decide_false, w63_in, w31_in, ne_eq, not_false_eq_true, Int.reduceEq, reduceCtorEq, ww3131, ww6363, ww3163, ww6331, ww3231, ww3263, ww6463, ww6364, sh31, sh63, sl63, m31, m63, n63, s5a, s5b, s6a, s6b, b31, b32, b63, c63, c64, d64, iShl_c, iShr_c, sr3, sr6, sr7]
end
end Go.Proofs.Ytnpfppddongbhaa
