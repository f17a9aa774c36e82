/-
  Texts of class files, part 5: reckoned by the abstract machine.
-/
import Derived.Test.YtnpfppddongbhaaMu4
namespace Go.Proofs.Ytnpfppddongbhaa
open Go Go.AM
set_option autoImplicit false
set_option linter.unusedSimpArgs false
set_option linter.unusedVariables false
theorem beqi (a : Int) : (a == a) = true := by simp
/-- A slice of 16 bit numbers. -/
def U (t : List Nat) : List AV := t.map fun (x : Nat) => AV.int 16 (x : Int)
theorem U_len (t : List Nat) : (U t).length = t.length := by simp [U]
theorem U_one (t : List Nat) : ∀ x ∈ U t, one x = true := by
  intro x hx
  obtain ⟨y, -, rfl⟩ := List.mem_map.1 hx
  rfl
/-- What a decoder answers. -/
def Dec (n x : Nat) : Option (List Nat) := dec n (byteAt x) n 0
def Got (r : Res) (h : Hp) (o : Option (List Nat)) : Prop :=
  ∃ v h', r = .ret (.tup (.cons v (.cons (.bool o.isSome) .nil))) h' ∧ Sl h' (fun b => h.nb ≤ b) v (U (o.getD [])) ∧ To No h h' ∧ Wf h'

theorem emp {h : Hp} (hw : Wf h) : Gr (nw h 0 .nil .e) h.nb (.sl h.nb 0 0 1 (some 0)) [] ∧ To No h (nw h 0 .nil .e) := by
  obtain ⟨o1, o2⟩ := nw_own hw 0 .nil .e
  exact ⟨⟨⟨by simp, .inr (.inr ⟨h.nb, 0, _, _, rfl, Nat.le_refl _, o1.rd, fun _ => Nat.le_refl _, (fun c e => by cases e; exact Nat.le_refl _), fun i hi => by simp at hi⟩)⟩, .inr (.inl ⟨_, rfl, rfl⟩)⟩, o2⟩

theorem got_of {n x : Nat} {h h1 : Hp} {r : Res} (ht : To No h h1) (hN : h.nb ≤ h1.nb) (hc : Comes r h.nb h1 [] (Dec n x)) {r' : Res}
    (h1r : ∀ u h', r = .exit 0 [u] h' → cK u (fun v => .ret (.tup (.cons v (.cons (.bool true) .nil))) h') = r') (h2r : ∀ v h', r = .ret v h' → .ret v h' = r') : Got r' h (Dec n x) := by
  have toNo : ∀ {h'}, To (fun b => h.nb ≤ b) h1 h' → To No h h' := fun {h'} q => by
    have q1 : To (fun b => h.nb ≤ b) h h' := (ht.mono fun _ _ f => f.elim).trans q
    exact q1.mono fun b hb hn => by omega
  cases hd : Dec n x with
  | none =>
    rw [hd] at hc
    obtain ⟨h', e1, e2, e3⟩ := hc
    exact ⟨.nils, h', (h2r _ _ e1).symm, ⟨by simp [U], .inl ⟨rfl, rfl⟩⟩, toNo e2, e3⟩
  | some t =>
    rw [hd] at hc
    obtain ⟨u, h', e1, e2, e3, e4⟩ := hc
    have e2 : Gr h' h.nb u (U t) := by simpa [U] using e2
    refine ⟨u, h', ?_, e2.1, toNo e3, e4⟩
    rw [← h1r u h' e1, cK_sl e2.1]; rfl

theorem t38 (n x : Nat) (hn : n ≤ 1000) (h : Hp) (hw : Wf h) : Got (s38 [.str n x] h) h (Dec n x) := by
  obtain ⟨g1, g2⟩ := emp hw
  have hc := loop38 n x h.nb hn n most 0 (nw h 0 .nil .e) _ [] (by omega) (show n < 1000000 by omega) (by omega) (by simp) g1 g2.nb (g2.wf hw)
  have e0 : ((0 : Nat) : Int) = 0 := rfl
  have e1 : ∀ k : AV → Hp → Res, mkS h 1 0 (avL []) k = k (.sl h.nb 0 0 1 (some 0)) (nw h 0 .nil .e) := fun k => rfl
  refine got_of g2 g2.nb hc (fun u h' e => ?_) (fun v h' e => ?_)
  · rw [e0] at e
    simp only [↓s38, ↓bld0, ↓e1, e, blk_e, ↓uc_c, ↓uz_n, ↓cI_i, ↓cB_b, cB_b, ↓cT_t, cT_t, nth_z, nth_1, cK_b, ↓cK_b, ↓cK_i, cK_i, ifB_t, ifB_f, ↓ap_e, sel_t, sel_f, gsel_tt, gsel_tf, gsel_ft, gsel_ff, gsel_u, gd_tt, gd_tf, gd_ft, gd_ff, gd_u, ↓jn_n, jn_n, jn_r, ↓jn_r, blk_n, blk_r, ↓cl_r, cl_r, ↓iAdd_i, ↓iSub_i, ↓iMul_i, ↓iAnd_i, ↓iOr_i, ↓iXor_i, ↓iNeg_i, iQuo_i, iRem_i, ↓iConv_i, iConv_i, ↓bNot_b, bNot_b, ↓eqN_i, ↓ltN_i, ↓eqB_b, bnot_e, Int.ofNat_eq_natCast, Int.cast_ofNat_Int, Int.reduceBEq, Int.reduceAdd, Int.reduceNeg, Int.reduceNegSucc, Int.reduceLT, Int.reduceLE, Int.reduceMul, Int.reduceTMod, Int.reduceSub, Int.reduceBNe, Bool.not_true, Bool.not_false, decide_true, decide_false, w63_in, w31_in, ne_eq, not_false_eq_true, Int.reduceEq, reduceCtorEq, ww3131, ww6363, ww3163, ww6331, ww3231, ww3263, ww6463, ww6364, sh31, sh63, sl63, m31, m63, n63, s5a, s5b, s6a, s6b, b31, b32, b63, c63, c64, d64, iShl_c, iShr_c, sr3, sr6, sr7]
    rfl
  · rw [e0] at e
    simp only [↓s38, ↓bld0, ↓e1, e, ↓uc_c, ↓uz_n, ↓cI_i, ↓cB_b, cB_b, ↓cT_t, cT_t, nth_z, nth_1, cK_b, ↓cK_b, ↓cK_i, cK_i, ifB_t, ifB_f, ↓ap_e, sel_t, sel_f, gsel_tt, gsel_tf, gsel_ft, gsel_ff, gsel_u, gd_tt, gd_tf, gd_ft, gd_ff, gd_u, ↓jn_n, jn_n, jn_r, ↓jn_r, blk_n, blk_r, ↓cl_r, cl_r, ↓iAdd_i, ↓iSub_i, ↓iMul_i, ↓iAnd_i, ↓iOr_i, ↓iXor_i, ↓iNeg_i, iQuo_i, iRem_i, ↓iConv_i, iConv_i, ↓bNot_b, bNot_b, ↓eqN_i, ↓ltN_i, ↓eqB_b, bnot_e, Int.ofNat_eq_natCast, Int.cast_ofNat_Int, Int.reduceBEq, Int.reduceAdd, Int.reduceNeg, Int.reduceNegSucc, Int.reduceLT, Int.reduceLE, Int.reduceMul, Int.reduceTMod, Int.reduceSub, Int.reduceBNe, Bool.not_true, Bool.not_false, decide_true, decide_false, w63_in, w31_in, ne_eq, not_false_eq_true, Int.reduceEq, reduceCtorEq, ww3131, ww6363, ww3163, ww6331, ww3231, ww3263, ww6463, ww6364, sh31, sh63, sl63, m31, m63, n63, s5a, s5b, s6a, s6b, b31, b32, b63, c63, c64, d64, iShl_c, iShr_c, sr3, sr6, sr7]
theorem t39 (n x : Nat) (hn : n ≤ 1000) (h : Hp) (hw : Wf h) : Got (s39 [.str n x] h) h (Dec n x) := by
  have g1 : Gr h h.nb .nils [] := ⟨⟨by simp, .inl ⟨rfl, rfl⟩⟩, .inl rfl⟩
  have hc := loop39 n x h.nb hn n most 0 h .nils [] (by omega) (show n < 1000000 by omega) (by omega) (by simp) g1 (Nat.le_refl _) hw
  have e0 : ((0 : Nat) : Int) = 0 := rfl
  refine got_of (To.refl _ _) (Nat.le_refl _) hc (fun u h' e => ?_) (fun v h' e => ?_)
  · rw [e0] at e
    simp only [↓s39, e, blk_e, ↓uc_c, ↓uz_n, ↓cI_i, ↓cB_b, cB_b, ↓cT_t, cT_t, nth_z, nth_1, cK_b, ↓cK_b, ↓cK_i, cK_i, ifB_t, ifB_f, ↓ap_e, sel_t, sel_f, gsel_tt, gsel_tf, gsel_ft, gsel_ff, gsel_u, gd_tt, gd_tf, gd_ft, gd_ff, gd_u, ↓jn_n, jn_n, jn_r, ↓jn_r, blk_n, blk_r, ↓cl_r, cl_r, ↓iAdd_i, ↓iSub_i, ↓iMul_i, ↓iAnd_i, ↓iOr_i, ↓iXor_i, ↓iNeg_i, iQuo_i, iRem_i, ↓iConv_i, iConv_i, ↓bNot_b, bNot_b, ↓eqN_i, ↓ltN_i, ↓eqB_b, bnot_e, Int.ofNat_eq_natCast, Int.cast_ofNat_Int, Int.reduceBEq, Int.reduceAdd, Int.reduceNeg, Int.reduceNegSucc, Int.reduceLT, Int.reduceLE, Int.reduceMul, Int.reduceTMod, Int.reduceSub, Int.reduceBNe, Bool.not_true, Bool.not_false, decide_true, decide_false, w63_in, w31_in, ne_eq, not_false_eq_true, Int.reduceEq, reduceCtorEq, ww3131, ww6363, ww3163, ww6331, ww3231, ww3263, ww6463, ww6364, sh31, sh63, sl63, m31, m63, n63, s5a, s5b, s6a, s6b, b31, b32, b63, c63, c64, d64, iShl_c, iShr_c, sr3, sr6, sr7]
    rfl
  · rw [e0] at e
    simp only [↓s39, e, ↓uc_c, ↓uz_n, ↓cI_i, ↓cB_b, cB_b, ↓cT_t, cT_t, nth_z, nth_1, cK_b, ↓cK_b, ↓cK_i, cK_i, ifB_t, ifB_f, ↓ap_e, sel_t, sel_f, gsel_tt, gsel_tf, gsel_ft, gsel_ff, gsel_u, gd_tt, gd_tf, gd_ft, gd_ff, gd_u, ↓jn_n, jn_n, jn_r, ↓jn_r, blk_n, blk_r, ↓cl_r, cl_r, ↓iAdd_i, ↓iSub_i, ↓iMul_i, ↓iAnd_i, ↓iOr_i, ↓iXor_i, ↓iNeg_i, iQuo_i, iRem_i, ↓iConv_i, iConv_i, ↓bNot_b, bNot_b, ↓eqN_i, ↓ltN_i, ↓eqB_b, bnot_e, Int.ofNat_eq_natCast, Int.cast_ofNat_Int, Int.reduceBEq, Int.reduceAdd, Int.reduceNeg, Int.reduceNegSucc, Int.reduceLT, Int.reduceLE, Int.reduceMul, Int.reduceTMod, Int.reduceSub, Int.reduceBNe, Bool.not_true, Bool.not_false, decide_true, decide_false, w63_in, w31_in, ne_eq, not_false_eq_true, Int.reduceEq, reduceCtorEq, ww3131, ww6363, ww3163, ww6331, ww3231, ww3263, ww6463, ww6364, sh31, sh63, sl63, m31, m63, n63, s5a, s5b, s6a, s6b, b31, b32, b63, c63, c64, d64, iShl_c, iShr_c, sr3, sr6, sr7]

/-- The same chars are the same. -/
theorem loop40 {h : Hp} {P Q : Nat → Prop} {u v : AV} {t : List Nat} (hu : Sl h P u (U t)) (hv : Sl h Q v (U t)) (hlen : t.length ≤ 100000) : ∀ (f m i : Nat), t.length - i ≤ f → f < m → i ≤ t.length → lp L40n0 m [u, v, .int 63 (i : Int)] h = .exit 0 [] h := by
  have stop : ∀ (f m i : Nat), f < m → ¬ i < t.length → lp L40n0 m [u, v, .int 63 (i : Int)] h = .exit 0 [] h := by
    intro f m i hm hi
    obtain ⟨m, rfl⟩ : ∃ k, m = k + 1 := ⟨m - 1, by omega⟩
    have e1 : ¬ (i : Int) < (t.length : Int) := by omega
    have e : L40n0 [u, v, .int 63 (i : Int)] h = .exit 0 [] h := by simp only [↓L40n0, ↓lenL_sl hu, U_len, e1, ↓uc_c, ↓uz_n, ↓cI_i, ↓cB_b, cB_b, ↓cT_t, cT_t, nth_z, nth_1, cK_b, ↓cK_b, ↓cK_i, cK_i, ifB_t, ifB_f, ↓ap_e, sel_t, sel_f, gsel_tt, gsel_tf, gsel_ft, gsel_ff, gsel_u, gd_tt, gd_tf, gd_ft, gd_ff, gd_u, ↓jn_n, jn_n, jn_r, ↓jn_r, blk_n, blk_r, ↓cl_r, cl_r, ↓iAdd_i, ↓iSub_i, ↓iMul_i, ↓iAnd_i, ↓iOr_i, ↓iXor_i, ↓iNeg_i, iQuo_i, iRem_i, ↓iConv_i, iConv_i, ↓bNot_b, bNot_b, ↓eqN_i, ↓ltN_i, ↓eqB_b, bnot_e, Int.ofNat_eq_natCast, Int.cast_ofNat_Int, Int.reduceBEq, Int.reduceAdd, Int.reduceNeg, Int.reduceNegSucc, Int.reduceLT, Int.reduceLE, Int.reduceMul, Int.reduceTMod, Int.reduceSub, Int.reduceBNe, Bool.not_true, Bool.not_false, decide_true, decide_false, w63_in, w31_in, ne_eq, not_false_eq_true, Int.reduceEq, reduceCtorEq, ww3131, ww6363, ww3163, ww6331, ww3231, ww3263, ww6463, ww6364, sh31, sh63, sl63, m31, m63, n63, s5a, s5b, s6a, s6b, b31, b32, b63, c63, c64, d64, iShl_c, iShr_c, sr3, sr6, sr7]
    exact lp_x m e
  intro f
  induction f with
  | zero => intro m i hf hm hi; exact stop 0 m i hm (by omega)
  | succ f ih =>
    intro m i hf hm hi
    by_cases hin : i < t.length
    · obtain ⟨m, rfl⟩ : ∃ k, m = k + 1 := ⟨m - 1, by omega⟩
      have e1 : (i : Int) < (t.length : Int) := by omega
      have e6 : (i : Int) + 1 = ((i + 1 : Nat) : Int) := by omega
      have g : (U t)[i]'(by rw [U_len]; exact hin) = .int 16 (t[i] : Int) := by simp [U]
      have iu := fun k => ix_sl hu (c := 63) i (by rw [U_len]; exact hin) k
      have iv := fun k => ix_sl hv (c := 63) i (by rw [U_len]; exact hin) k
      rw [g] at iu iv
      have e : L40n0 [u, v, .int 63 (i : Int)] h = .norm [u, v, .int 63 ((i + 1 : Nat) : Int)] h := by
        simp only [↓L40n0, ↓lenL_sl hu, U_len, e1, ↓iu, ↓iv, beqi, e6, i63 (i + 1) (by omega), ↓uc_c, ↓uz_n, ↓cI_i, ↓cB_b, cB_b, ↓cT_t, cT_t, nth_z, nth_1, cK_b, ↓cK_b, ↓cK_i, cK_i, ifB_t, ifB_f, ↓ap_e, sel_t, sel_f, gsel_tt, gsel_tf, gsel_ft, gsel_ff, gsel_u, gd_tt, gd_tf, gd_ft, gd_ff, gd_u, ↓jn_n, jn_n, jn_r, ↓jn_r, blk_n, blk_r, ↓cl_r, cl_r, ↓iAdd_i, ↓iSub_i, ↓iMul_i, ↓iAnd_i, ↓iOr_i, ↓iXor_i, ↓iNeg_i, iQuo_i, iRem_i, ↓iConv_i, iConv_i, ↓bNot_b, bNot_b, ↓eqN_i, ↓ltN_i, ↓eqB_b, bnot_e, Int.ofNat_eq_natCast, Int.cast_ofNat_Int, Int.reduceBEq, Int.reduceAdd, Int.reduceNeg, Int.reduceNegSucc, Int.reduceLT, Int.reduceLE, Int.reduceMul, Int.reduceTMod, Int.reduceSub, Int.reduceBNe, Bool.not_true, Bool.not_false, decide_true, decide_false, w63_in, w31_in, ne_eq, not_false_eq_true, Int.reduceEq, reduceCtorEq, ww3131, ww6363, ww3163, ww6331, ww3231, ww3263, ww6463, ww6364, sh31, sh63, sl63, m31, m63, n63, s5a, s5b, s6a, s6b, b31, b32, b63, c63, c64, d64, iShl_c, iShr_c, sr3, sr6, sr7]
      rw [lp_n m e]
      exact ih m (i + 1) (by omega) (by omega) (by omega)
    · exact stop (f + 1) m i hm hin

theorem t40 {h : Hp} {P Q : Nat → Prop} {u v : AV} {t : List Nat} (hu : Sl h P u (U t)) (hv : Sl h Q v (U t)) (hlen : t.length ≤ 100000) : s40 [u, v] h = .ret (.bool true) h := by
  have e0 := loop40 hu hv hlen t.length most 0 (by omega) (show t.length < 1000000 by omega) (by omega)
  have e1 : ((0 : Nat) : Int) = 0 := rfl
  rw [e1] at e0
  have e2 : ((t.length : Int) == (t.length : Int)) = true := by simp
  simp only [↓s40, ↓lenL_sl hu, ↓lenL_sl hv, U_len, e2, e0, blk_e, ↓uc_c, ↓uz_n, ↓cI_i, ↓cB_b, cB_b, ↓cT_t, cT_t, nth_z, nth_1, cK_b, ↓cK_b, ↓cK_i, cK_i, ifB_t, ifB_f, ↓ap_e, sel_t, sel_f, gsel_tt, gsel_tf, gsel_ft, gsel_ff, gsel_u, gd_tt, gd_tf, gd_ft, gd_ff, gd_u, ↓jn_n, jn_n, jn_r, ↓jn_r, blk_n, blk_r, ↓cl_r, cl_r, ↓iAdd_i, ↓iSub_i, ↓iMul_i, ↓iAnd_i, ↓iOr_i, ↓iXor_i, ↓iNeg_i, iQuo_i, iRem_i, ↓iConv_i, iConv_i, ↓bNot_b, bNot_b, ↓eqN_i, ↓ltN_i, ↓eqB_b, bnot_e, Int.ofNat_eq_natCast, Int.cast_ofNat_Int, Int.reduceBEq, Int.reduceAdd, Int.reduceNeg, Int.reduceNegSucc, Int.reduceLT, Int.reduceLE, Int.reduceMul, Int.reduceTMod, Int.reduceSub, Int.reduceBNe, Bool.not_true, Bool.not_false, decide_true, decide_false, w63_in, w31_in, ne_eq, not_false_eq_true, Int.reduceEq, reduceCtorEq, ww3131, ww6363, ww3163, ww6331, ww3231, ww3263, ww6463, ww6364, sh31, sh63, sl63, m31, m63, n63, s5a, s5b, s6a, s6b, b31, b32, b63, c63, c64, d64, iShl_c, iShr_c, sr3, sr6, sr7]
  rfl
end Go.Proofs.Ytnpfppddongbhaa
