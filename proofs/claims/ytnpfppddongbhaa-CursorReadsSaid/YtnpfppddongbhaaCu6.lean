/-
  The cursor's laws, part 6: reckoned by the abstract machine.
-/
import Derived.Test.YtnpfppddongbhaaCu5
namespace Go.Proofs.Ytnpfppddongbhaa
open Go Go.AM
set_option autoImplicit false
set_option linter.unusedSimpArgs false
set_option linter.unusedVariables false
/-- The number that a text's bytes state, the lowest first. -/
def pk : List Nat → Nat
  | [] => 0
  | x :: l => x + 256 * pk l
theorem packL_bs : ∀ (t : List Nat) (k : Nat → Res), (∀ x ∈ t, x < 256) → packL (avL (Bs t)) k = k (pk t) := by
  intro t
  induction t with
  | nil => intro k _; rfl
  | cons x l ih =>
    intro k hb
    have e : packL (avL (Bs (x :: l))) k = ifB (Nat.blt x 256) (packL (avL (Bs l)) fun p => k (Nat.add x (Nat.mul 256 p))) .fail := rfl
    rw [e, (blt_iff _ _).2 (hb x (List.mem_cons_self ..)), ih _ (fun y hy => hb y (List.mem_cons_of_mem _ hy))]
    rfl
theorem b2s_sl {h : Hp} {P : Nat → Prop} {v : AV} {t : List Nat} (hs : Sl h P v (Bs t)) (hb : ∀ x ∈ t, x < 256) (k : AV → Res) : b2s h v k = k (.str t.length (pk t)) := by
  have e : b2s h v k = src h 1 v fun n l => packL l fun p => k (.str n p) := by
    rcases hs.2 with ⟨rfl, -⟩ | ⟨rfl, -⟩ | ⟨b, o, c, B, rfl, -⟩ <;> rfl
  rw [e, src_sl hs, packL_bs t _ hb, Bs_len]
theorem eqS_self (n x : Nat) (k : Bool → Res) : eqS (.str n x) (.str n x) k = k true := by
  have e : eqS (.str n x) (.str n x) k = k (sEq n x n x) := rfl
  rw [e]
  have : sEq n x n x = true := by simp [sEq]
  rw [this]
/-- A read that succeeds. -/
theorem win_in (t : List Nat) (at_ n : Nat) (h : at_ + n ≤ t.length) : win t at_ false (n : Int) = (t.drop at_).take n ∧ nat_ t at_ false (n : Int) = at_ + n ∧ nbad t at_ false (n : Int) = false := by
  have ho : okc t at_ false (n : Int) := ⟨rfl, by omega, by omega⟩
  simp only [win, nat_, nbad, if_pos ho, Int.toNat_natCast]
  exact ⟨trivial, trivial, trivial⟩
theorem sh16 (m : Int) (k : AV → Res) : iShl (.int 63 m) (.int 64 (.ofNat 16)) k = k (.int 63 (wrapC 63 (m * 65536))) := iShl_i k 63 m 64 16 (by decide)
section
variable {h : Hp} {lo b at_ : Nat} {t : List Nat}
theorem step4 (hc : Cur h lo b t at_ false) (hw : Wf h) (hat : at_ < t.length) (a k : Nat) (ha : a < 1099511627776) (hk : k < 4) (v44 v46 v50 v52 v54 v56 : AV) :
    ∃ h', L4n0 [v44, v46, .ptr b 0, v50, v52, v54, v56, .int 63 (a : Int), .int 63 (k : Int)] h = .norm [v44, v46, .ptr b 0, v50, v52, v54, v56, .int 63 ((a * 256 + t[at_] : Nat) : Int), .int 63 ((k + 1 : Nat) : Int)] h' ∧ Cur h' lo b t (at_ + 1) false ∧ To (At b) h h' ∧ Wf h' := by
  obtain ⟨h', e1, c1, o1, w1⟩ := t27 hc hw
  have z1 : ((1 : Nat) : Int) = 1 := rfl
  obtain ⟨q1, q2, q3⟩ := win_in t at_ 1 hat
  rw [z1] at q1 q2 q3
  have q4 : (t.drop at_).take 1 = [t[at_]] := by rw [List.drop_eq_getElem_cons hat]; rfl
  have hx : t[at_] < 256 := hc.byt _ (List.getElem_mem _)
  rw [q2, q3] at c1
  rw [q1, q4, show be [t[at_]] 0 = t[at_] by simp [be]] at e1
  have h4 : (k : Int) < 4 := by omega
  exact ⟨h', by simp only [↓L4n0, h4, ↓sh8, ↓e1, m8 a ha, ad8 a _ ha hx, s1n k (by omega), ↓uc_c, ↓uz_n, ↓cI_i, ↓cB_b, cB_b, ↓cT_t, cT_t, nth_z, nth_1, cK_b, ↓cK_b, ↓cK_i, cK_i, ifB_t, ifB_f, ↓ap_e, sel_t, sel_f, gsel_tt, gsel_tf, gsel_ft, gsel_ff, gsel_u, gd_tt, gd_tf, gd_ft, gd_ff, gd_u, ↓jn_n, jn_n, jn_r, ↓jn_r, blk_n, blk_r, ↓cl_r, cl_r, ↓iAdd_i, ↓iSub_i, ↓iMul_i, ↓iAnd_i, ↓iOr_i, ↓iXor_i, ↓iNeg_i, iQuo_i, iRem_i, ↓iConv_i, iConv_i, ↓bNot_b, bNot_b, ↓eqN_i, ↓ltN_i, ↓eqB_b, bnot_e, Int.ofNat_eq_natCast, Int.cast_ofNat_Int, Int.reduceBEq, Int.reduceAdd, Int.reduceNeg, Int.reduceNegSucc, Int.reduceLT, Int.reduceLE, Int.reduceMul, Int.reduceTMod, Int.reduceSub, Int.reduceBNe, Bool.not_true, Bool.not_false, decide_true, decide_false, w63_in, w31_in, ne_eq, not_false_eq_true, Int.reduceEq, reduceCtorEq, ww3131, ww6363, ww3163, ww6331, ww3231, ww3263, ww6463, ww6364, sh31, sh63, sl63, m31, m63, n63, s5a, s5b, s6a, s6b, b31, b32, b63, c63, c64, d64, iShl_c, iShr_c, sr3, sr6, sr7], c1, o1, w1⟩
theorem stop4 (v44 v46 v48 v50 v52 v54 v56 v58 : AV) : L4n0 [v44, v46, v48, v50, v52, v54, v56, v58, .int 63 ((4 : Nat) : Int)] h = .exit 2 [v44, v46, v48, v50, v52, v54, v56, v58] h := by
  have z : ((4 : Nat) : Int) = 4 := rfl
  have z2 : (Int.ofNat 4) = 4 := rfl
  simp only [↓L4n0, z, z2, Int.lt_irrefl, ↓uc_c, ↓uz_n, ↓cI_i, ↓cB_b, cB_b, ↓cT_t, cT_t, nth_z, nth_1, cK_b, ↓cK_b, ↓cK_i, cK_i, ifB_t, ifB_f, ↓ap_e, sel_t, sel_f, gsel_tt, gsel_tf, gsel_ft, gsel_ff, gsel_u, gd_tt, gd_tf, gd_ft, gd_ff, gd_u, ↓jn_n, jn_n, jn_r, ↓jn_r, blk_n, blk_r, ↓cl_r, cl_r, ↓iAdd_i, ↓iSub_i, ↓iMul_i, ↓iAnd_i, ↓iOr_i, ↓iXor_i, ↓iNeg_i, iQuo_i, iRem_i, ↓iConv_i, iConv_i, ↓bNot_b, bNot_b, ↓eqN_i, ↓ltN_i, ↓eqB_b, bnot_e, Int.ofNat_eq_natCast, Int.cast_ofNat_Int, Int.reduceBEq, Int.reduceAdd, Int.reduceNeg, Int.reduceNegSucc, Int.reduceLT, Int.reduceLE, Int.reduceMul, Int.reduceTMod, Int.reduceSub, Int.reduceBNe, Bool.not_true, Bool.not_false, decide_true, decide_false, w63_in, w31_in, ne_eq, not_false_eq_true, Int.reduceEq, reduceCtorEq, ww3131, ww6363, ww3163, ww6331, ww3231, ww3263, ww6463, ww6364, sh31, sh63, sl63, m31, m63, n63, s5a, s5b, s6a, s6b, b31, b32, b63, c63, c64, d64, iShl_c, iShr_c, sr3, sr6, sr7]
theorem loop4 (hc : Cur h lo b t at_ false) (hw : Wf h) (hat : at_ + 4 ≤ t.length) (v44 v46 v50 v52 v54 v56 : AV) :
    ∃ h', lp L4n0 most [v44, v46, .ptr b 0, v50, v52, v54, v56, .int 63 0, .int 63 0] h = .exit 2 [v44, v46, .ptr b 0, v50, v52, v54, v56, .int 63 (be ((t.drop at_).take 4) 0 : Int)] h' ∧ Cur h' lo b t (at_ + 4) false ∧ To (At b) h h' ∧ Wf h' := by
  obtain ⟨h1, e1, c1, o1, w1⟩ := step4 hc hw (by omega) 0 0 (by omega) (by omega) v44 v46 v50 v52 v54 v56
  have l0 : t[at_] < 256 := hc.byt _ (List.getElem_mem _)
  have l1 : t[at_ + 1] < 256 := hc.byt _ (List.getElem_mem _)
  have l2 : t[at_ + 1 + 1] < 256 := hc.byt _ (List.getElem_mem _)
  have l3 : t[at_ + 1 + 1 + 1] < 256 := hc.byt _ (List.getElem_mem _)
  obtain ⟨h2, e2, c2, o2, w2⟩ := step4 c1 w1 (by omega) (0 * 256 + t[at_]) (0 + 1) (by omega) (by omega) v44 v46 v50 v52 v54 v56
  obtain ⟨h3, e3, c3, o3, w3⟩ := step4 c2 w2 (by omega) ((0 * 256 + t[at_]) * 256 + t[at_ + 1]) (0 + 1 + 1) (by omega) (by omega) v44 v46 v50 v52 v54 v56
  obtain ⟨h4, e4, c4, o4, w4⟩ := step4 c3 w3 (by omega) (((0 * 256 + t[at_]) * 256 + t[at_ + 1]) * 256 + t[at_ + 1 + 1]) (0 + 1 + 1 + 1) (by omega) (by omega) v44 v46 v50 v52 v54 v56
  have q : (t.drop at_).take 4 = [t[at_], t[at_ + 1], t[at_ + 1 + 1], t[at_ + 1 + 1 + 1]] := by
    rw [List.drop_eq_getElem_cons (by omega), List.drop_eq_getElem_cons (by omega), List.drop_eq_getElem_cons (by omega), List.drop_eq_getElem_cons (by omega)]
    rfl
  refine ⟨h4, ?_, c4, ((o1.trans o2).trans o3).trans o4, w4⟩
  rw [q]
  have hm : most = 999995 + 1 + 1 + 1 + 1 + 1 := rfl
  rw [hm]
  exact ((lpn _ e1).trans ((lpn _ e2).trans ((lpn _ e3).trans ((lpn _ e4).trans (lpx _ (stop4 ..))))))
end
end Go.Proofs.Ytnpfppddongbhaa
