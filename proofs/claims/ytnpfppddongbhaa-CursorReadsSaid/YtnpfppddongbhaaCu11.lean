/-
  The cursor's laws, part 11: reckoned by the abstract machine.
-/
import Derived.Test.YtnpfppddongbhaaCu10
namespace Go.Proofs.Ytnpfppddongbhaa
open Go Go.AM
set_option autoImplicit false
set_option linter.unusedSimpArgs false
set_option linter.unusedVariables false
theorem loopD : ∀ (f m i : Nat) {h : Hp} {N l1 b1 l2 b2 at_ : Nat} {t : List Nat} {bad : Bool} {u v : AV} {ops : List Int}, Duo h N l1 b1 l2 b2 t at_ bad u v ops → 30 - i ≤ f → f < m → i ≤ ops.length → i ≤ 30 →
    ∃ h' at2 bad2, lp L5n1 m [u, v, .bool true, .ptr b1 0, .ptr b2 0, .int 63 (i : Int)] h = .exit 0 [u, .bool true, .ptr b2 0] h' ∧ Duo h' N l1 b1 l2 b2 t at2 bad2 u v ops := by
  intro f
  induction f with
  | zero =>
    intro m i h N l1 b1 l2 b2 at_ t bad u v ops D hf hm hi h30
    obtain ⟨m, rfl⟩ : ∃ k, m = k + 1 := ⟨m - 1, by omega⟩
    have len := fun k => lenL_sl D.v k
    have hlm : (ops.map fun n => AV.int 63 n).length = ops.length := by simp
    have l30 : ¬ (i : Int) < 30 := by omega
    refine ⟨h, _, _, lpx m ?_, D⟩
    by_cases hl : i < ops.length
    · have lt : (i : Int) < (ops.length : Int) := by omega
      simp only [↓L5n1, ↓len, hlm, lt, l30, ↓uc_c, ↓uz_n, ↓cI_i, ↓cB_b, cB_b, ↓cT_t, cT_t, nth_z, nth_1, cK_b, ↓cK_b, ↓cK_i, cK_i, ifB_t, ifB_f, ↓ap_e, sel_t, sel_f, gsel_tt, gsel_tf, gsel_ft, gsel_ff, gsel_u, gd_tt, gd_tf, gd_ft, gd_ff, gd_u, ↓jn_n, jn_n, jn_r, ↓jn_r, blk_n, blk_r, ↓cl_r, cl_r, ↓iAdd_i, ↓iSub_i, ↓iMul_i, ↓iAnd_i, ↓iOr_i, ↓iXor_i, ↓iNeg_i, iQuo_i, iRem_i, ↓iConv_i, iConv_i, ↓bNot_b, bNot_b, ↓eqN_i, ↓ltN_i, ↓eqB_b, bnot_e, Int.ofNat_eq_natCast, Int.cast_ofNat_Int, Int.reduceBEq, Int.reduceAdd, Int.reduceNeg, Int.reduceNegSucc, Int.reduceLT, Int.reduceLE, Int.reduceMul, Int.reduceTMod, Int.reduceSub, Int.reduceBNe, Bool.not_true, Bool.not_false, decide_true, decide_false, w63_in, w31_in, ne_eq, not_false_eq_true, Int.reduceEq, reduceCtorEq, ww3131, ww6363, ww3163, ww6331, ww3231, ww3263, ww6463, ww6364, sh31, sh63, sl63, m31, m63, n63, s5a, s5b, s6a, s6b, b31, b32, b63, c63, c64, d64, iShl_c, iShr_c, sr3, sr6, sr7]
    · have lt : ¬ (i : Int) < (ops.length : Int) := by omega
      simp only [↓L5n1, ↓len, hlm, lt, l30, ↓uc_c, ↓uz_n, ↓cI_i, ↓cB_b, cB_b, ↓cT_t, cT_t, nth_z, nth_1, cK_b, ↓cK_b, ↓cK_i, cK_i, ifB_t, ifB_f, ↓ap_e, sel_t, sel_f, gsel_tt, gsel_tf, gsel_ft, gsel_ff, gsel_u, gd_tt, gd_tf, gd_ft, gd_ff, gd_u, ↓jn_n, jn_n, jn_r, ↓jn_r, blk_n, blk_r, ↓cl_r, cl_r, ↓iAdd_i, ↓iSub_i, ↓iMul_i, ↓iAnd_i, ↓iOr_i, ↓iXor_i, ↓iNeg_i, iQuo_i, iRem_i, ↓iConv_i, iConv_i, ↓bNot_b, bNot_b, ↓eqN_i, ↓ltN_i, ↓eqB_b, bnot_e, Int.ofNat_eq_natCast, Int.cast_ofNat_Int, Int.reduceBEq, Int.reduceAdd, Int.reduceNeg, Int.reduceNegSucc, Int.reduceLT, Int.reduceLE, Int.reduceMul, Int.reduceTMod, Int.reduceSub, Int.reduceBNe, Bool.not_true, Bool.not_false, decide_true, decide_false, w63_in, w31_in, ne_eq, not_false_eq_true, Int.reduceEq, reduceCtorEq, ww3131, ww6363, ww3163, ww6331, ww3231, ww3263, ww6463, ww6364, sh31, sh63, sl63, m31, m63, n63, s5a, s5b, s6a, s6b, b31, b32, b63, c63, c64, d64, iShl_c, iShr_c, sr3, sr6, sr7]
  | succ f ih =>
    intro m i h N l1 b1 l2 b2 at_ t bad u v ops D hf hm hi h30
    obtain ⟨m, rfl⟩ : ∃ k, m = k + 1 := ⟨m - 1, by omega⟩
    have len := fun k => lenL_sl D.v k
    have hlm : (ops.map fun n => AV.int 63 n).length = ops.length := by simp
    by_cases hl : i < ops.length
    · by_cases l30 : i < 30
      · obtain ⟨h1, at1, bad1, e1, D1⟩ := stepD D i hl l30
        obtain ⟨h2, at2, bad2, e2, D2⟩ := ih m (i + 1) D1 (by omega) (by omega) (by omega) (by omega)
        exact ⟨h2, at2, bad2, (lpn m e1).trans e2, D2⟩
      · have lt : (i : Int) < (ops.length : Int) := by omega
        have l30 : ¬ (i : Int) < 30 := by omega
        refine ⟨h, _, _, lpx m ?_, D⟩
        simp only [↓L5n1, ↓len, hlm, lt, l30, ↓uc_c, ↓uz_n, ↓cI_i, ↓cB_b, cB_b, ↓cT_t, cT_t, nth_z, nth_1, cK_b, ↓cK_b, ↓cK_i, cK_i, ifB_t, ifB_f, ↓ap_e, sel_t, sel_f, gsel_tt, gsel_tf, gsel_ft, gsel_ff, gsel_u, gd_tt, gd_tf, gd_ft, gd_ff, gd_u, ↓jn_n, jn_n, jn_r, ↓jn_r, blk_n, blk_r, ↓cl_r, cl_r, ↓iAdd_i, ↓iSub_i, ↓iMul_i, ↓iAnd_i, ↓iOr_i, ↓iXor_i, ↓iNeg_i, iQuo_i, iRem_i, ↓iConv_i, iConv_i, ↓bNot_b, bNot_b, ↓eqN_i, ↓ltN_i, ↓eqB_b, bnot_e, Int.ofNat_eq_natCast, Int.cast_ofNat_Int, Int.reduceBEq, Int.reduceAdd, Int.reduceNeg, Int.reduceNegSucc, Int.reduceLT, Int.reduceLE, Int.reduceMul, Int.reduceTMod, Int.reduceSub, Int.reduceBNe, Bool.not_true, Bool.not_false, decide_true, decide_false, w63_in, w31_in, ne_eq, not_false_eq_true, Int.reduceEq, reduceCtorEq, ww3131, ww6363, ww3163, ww6331, ww3231, ww3263, ww6463, ww6364, sh31, sh63, sl63, m31, m63, n63, s5a, s5b, s6a, s6b, b31, b32, b63, c63, c64, d64, iShl_c, iShr_c, sr3, sr6, sr7]
    · have lt : ¬ (i : Int) < (ops.length : Int) := by omega
      refine ⟨h, _, _, lpx m ?_, D⟩
      simp only [↓L5n1, ↓len, hlm, lt, ↓uc_c, ↓uz_n, ↓cI_i, ↓cB_b, cB_b, ↓cT_t, cT_t, nth_z, nth_1, cK_b, ↓cK_b, ↓cK_i, cK_i, ifB_t, ifB_f, ↓ap_e, sel_t, sel_f, gsel_tt, gsel_tf, gsel_ft, gsel_ff, gsel_u, gd_tt, gd_tf, gd_ft, gd_ff, gd_u, ↓jn_n, jn_n, jn_r, ↓jn_r, blk_n, blk_r, ↓cl_r, cl_r, ↓iAdd_i, ↓iSub_i, ↓iMul_i, ↓iAnd_i, ↓iOr_i, ↓iXor_i, ↓iNeg_i, iQuo_i, iRem_i, ↓iConv_i, iConv_i, ↓bNot_b, bNot_b, ↓eqN_i, ↓ltN_i, ↓eqB_b, bnot_e, Int.ofNat_eq_natCast, Int.cast_ofNat_Int, Int.reduceBEq, Int.reduceAdd, Int.reduceNeg, Int.reduceNegSucc, Int.reduceLT, Int.reduceLE, Int.reduceMul, Int.reduceTMod, Int.reduceSub, Int.reduceBNe, Bool.not_true, Bool.not_false, decide_true, decide_false, w63_in, w31_in, ne_eq, not_false_eq_true, Int.reduceEq, reduceCtorEq, ww3131, ww6363, ww3163, ww6331, ww3231, ww3263, ww6463, ww6364, sh31, sh63, sl63, m31, m63, n63, s5a, s5b, s6a, s6b, b31, b32, b63, c63, c64, d64, iShl_c, iShr_c, sr3, sr6, sr7]

/-- A cursor that is made as a struct of a row. -/
theorem mkCur {h : Hp} {lo : Nat} {v : AV} {t : List Nat} (hs : Sl h (fun x => lo ≤ x) v (Bs t)) (hw : Wf h) (hlo : lo ≤ h.nb) (ht : t.length ≤ 100000) (hb : ∀ x ∈ t, x < 256) :
    ∃ b h', (∀ k : AV → Hp → Res, (bld [(false, 1, v), (false, 1, .int 63 (.ofNat 0)), (false, 1, .bool false)] fun l => mk h (cells (.agg l)) k) = k (.ptr b 0) h') ∧ Cur h' lo b t 0 false ∧ To No h h' ∧ Wf h' ∧ h.nb ≤ b ∧ b < h'.nb := by
  have hone := one_sl hs
  have hbl : ∀ k : AV → Res, bld [(false, 1, v), (false, 1, .int 63 (.ofNat 0)), (false, 1, .bool false)] k = k (avL [v, .int 63 0, .bool false]) := fun k => by
    have : bld [(false, 1, v), (false, 1, .int 63 (.ofNat 0)), (false, 1, .bool false)] k = ifB (one v) (k (avL [v, .int 63 0, .bool false])) .fail := rfl
    rw [this, hone]; rfl
  obtain ⟨tr, t1, t2⟩ := lay_list [v, .int 63 0, .bool false] .e 0 (by
    intro x hx
    rcases List.mem_cons.1 hx with rfl | hx
    · exact hone
    · rcases List.mem_cons.1 hx with rfl | hx
      · rfl
      · rcases List.mem_cons.1 hx with rfl | hx
        · rfl
        · cases hx)
  have hm : ∀ k : AV → Hp → Res, mk h (avL [v, .int 63 0, .bool false]) k = k (.ptr h.nb 0) (nw h 3 .nil tr) := fun k => by
    have : mk h (avL [v, .int 63 0, .bool false]) k = lay (avL [v, .int 63 0, .bool false]) .e 0 fun t n => k (.ptr h.nb 0) (nw h n .nil t) := rfl
    rw [this, t1]; rfl
  obtain ⟨q1, q2⟩ := nw_own hw 3 .nil tr
  have hat : ∀ i (hi : i < 3), (⟨true, h.nb, 3, .nil, tr⟩ : Blk).at i = [v, .int 63 0, .bool false][i] := fun i hi => by
    rw [at_in _ (show i < 3 from hi)]
    simp only [t2 i]
    rw [dif_pos ⟨by omega, by simpa using hi⟩]
    simp
  exact ⟨h.nb, nw h 3 .nil tr, fun k => by rw [hbl]; exact hm k, ⟨⟨_, v, q1, rfl, hat 0 (by decide), hat 1 (by decide), hat 2 (by decide), (Sl.low hs).to q2 (fun _ _ f => f)⟩, Nat.zero_le _, ht, hlo, hb⟩, q2, q2.wf hw, Nat.le_refl _, q1.lt⟩

theorem lawReads {h : Hp} {v w : AV} {t : List Nat} {ops : List Int} (hs : Sl h (fun b => b < h.nb) v (Bs t)) (ho : Sl h (fun b => b < h.nb) w (ops.map fun n => AV.int 63 n)) (hw : Wf h) (hb : ∀ x ∈ t, x < 256) (ht : t.length ≤ 9223372036854775807) : ∃ h', s5 [v, w] h = .ret (.bool true) h' := by
  obtain ⟨h1, e1, o1, w1⟩ := t23 hw
  obtain ⟨v2, e2, s2⟩ := t24 (hs.to o1 (fun _ _ f => f)) 100 ht
  have z100 : ((100 : Nat) : Int) = 100 := rfl
  rw [z100] at e2
  have hb2 : ∀ x ∈ t.take 100, x < 256 := fun x hx => hb x (List.mem_of_mem_take hx)
  have hl2 : (t.take 100).length ≤ 100 := by simp; omega
  generalize t.take 100 = t2 at *
  have g0 : ∀ {h : Hp}, Gr h h.nb .nils [] := fun {h} => ⟨⟨by simp, .inl ⟨rfl, rfl⟩⟩, .inl rfl⟩
  have nof : ∀ {a b : Hp}, To (fun b => a.nb ≤ b) a b → To No a b := fun q => q.mono fun b hb hn => by omega
  obtain ⟨v3, h2, e3, s3, p3⟩ := apd_gr (by_ := 1) (Nat.le_refl _) w1 g0 s2 (by simp [Bs_len]; omega) (by simp [Bs_len]; omega)
  have p3 := nof p3
  have w3 := p3.wf w1
  rw [List.nil_append] at s3
  obtain ⟨b1, h3, e4, c4, p4, w4, n4⟩ := t25 s3.1 w3 (by omega) hb2
  obtain ⟨v5, h4, e5, g5, p5⟩ := apd_gr (by_ := 1) (Nat.le_refl _) w4 g0 (s3.1.to p4 (fun _ _ f => f)) (by simp [Bs_len]; omega) (by simp [Bs_len]; omega)
  have p5 := nof p5
  have w5 := p5.wf w4
  rw [List.nil_append] at g5
  obtain ⟨b2, h5, e6, c6, p6, w6, m6, n6⟩ := mkCur g5.1 w5 p5.nb (by omega) hb2
  have a1 := o1.nb
  have a3 := p3.nb
  have a4 := p4.nb
  have a5 := p5.nb
  have lo4 := c4.lo
  have D : Duo h5 h2.nb h2.nb b1 h3.nb b2 t2 0 false v3 w ops := by
    refine ⟨(c4.to p5 (fun _ _ _ f => f)).to p6 (fun _ _ _ f => f), c6, w6, Nat.le_refl _, by omega, n6, ?_, ?_⟩
    · exact (((((Sl.low s3.1).to p4 (fun _ _ f => f)).to p5 (fun _ _ f => f)).to p6 (fun _ _ f => f))).mono fun x hx => hx.2
    · exact ((((ho.to o1 (fun _ _ f => f)).to p3 (fun _ _ f => f)).to p4 (fun _ _ f => f)).to p5 (fun _ _ f => f)).to p6 (fun _ _ f => f) |>.mono fun x hx => by omega
  obtain ⟨h6, at2, bad2, e7, D6⟩ := loopD 30 most 0 D (by omega) (show _ < 1000000 by omega) (by omega) (by omega)
  have z0 : ((0 : Nat) : Int) = 0 := rfl
  rw [z0] at e7
  obtain ⟨vx, sx, f0, f1, f2⟩ := D6.c2.open
  have k1 := fun k => b2s_sl D6.u hb2 k
  have k2 := fun k => b2s_sl sx hb2 k
  refine ⟨h6, ?_⟩
  simp only [↓s5, ↓e1, ↓e2, ↓e3, ↓e4, ↓e5, ↓e6, e7, blk_e, ↓uc_c, ↓uz_n, ↓cI_i, ↓cB_b, cB_b, ↓cT_t, cT_t, nth_z, nth_1, cK_b, ↓cK_b, ↓cK_i, cK_i, ifB_t, ifB_f, ↓ap_e, sel_t, sel_f, gsel_tt, gsel_tf, gsel_ft, gsel_ff, gsel_u, gd_tt, gd_tf, gd_ft, gd_ff, gd_u, ↓jn_n, jn_n, jn_r, ↓jn_r, blk_n, blk_r, ↓cl_r, cl_r, ↓iAdd_i, ↓iSub_i, ↓iMul_i, ↓iAnd_i, ↓iOr_i, ↓iXor_i, ↓iNeg_i, iQuo_i, iRem_i, ↓iConv_i, iConv_i, ↓bNot_b, bNot_b, ↓eqN_i, ↓ltN_i, ↓eqB_b, bnot_e, Int.ofNat_eq_natCast, Int.cast_ofNat_Int, Int.reduceBEq, Int.reduceAdd, Int.reduceNeg, Int.reduceNegSucc, Int.reduceLT, Int.reduceLE, Int.reduceMul, Int.reduceTMod, Int.reduceSub, Int.reduceBNe, Bool.not_true, Bool.not_false, decide_true, decide_false, w63_in, w31_in, ne_eq, not_false_eq_true, Int.reduceEq, reduceCtorEq, ww3131, ww6363, ww3163, ww6331, ww3231, ww3263, ww6463, ww6364, sh31, sh63, sl63, m31, m63, n63, s5a, s5b, s6a, s6b, b31, b32, b63, c63, c64, d64, iShl_c, iShr_c, sr3, sr6, sr7]
  simp only [show Nat.beq 0 0 = true from rfl, ↓k1, ↓nck_p, ↓cP_p, ↓f0, ↓k2, ↓eqS_self, ↓uc_c, ↓uz_n, ↓cI_i, ↓cB_b, cB_b, ↓cT_t, cT_t, nth_z, nth_1, cK_b, ↓cK_b, ↓cK_i, cK_i, ifB_t, ifB_f, ↓ap_e, sel_t, sel_f, gsel_tt, gsel_tf, gsel_ft, gsel_ff, gsel_u, gd_tt, gd_tf, gd_ft, gd_ff, gd_u, ↓jn_n, jn_n, jn_r, ↓jn_r, blk_n, blk_r, ↓cl_r, cl_r, ↓iAdd_i, ↓iSub_i, ↓iMul_i, ↓iAnd_i, ↓iOr_i, ↓iXor_i, ↓iNeg_i, iQuo_i, iRem_i, ↓iConv_i, iConv_i, ↓bNot_b, bNot_b, ↓eqN_i, ↓ltN_i, ↓eqB_b, bnot_e, Int.ofNat_eq_natCast, Int.cast_ofNat_Int, Int.reduceBEq, Int.reduceAdd, Int.reduceNeg, Int.reduceNegSucc, Int.reduceLT, Int.reduceLE, Int.reduceMul, Int.reduceTMod, Int.reduceSub, Int.reduceBNe, Bool.not_true, Bool.not_false, decide_true, decide_false, w63_in, w31_in, ne_eq, not_false_eq_true, Int.reduceEq, reduceCtorEq, ww3131, ww6363, ww3163, ww6331, ww3231, ww3263, ww6463, ww6364, sh31, sh63, sl63, m31, m63, n63, s5a, s5b, s6a, s6b, b31, b32, b63, c63, c64, d64, iShl_c, iShr_c, sr3, sr6, sr7]
theorem walkReads (w : World) (V V2 : Value) (l l2 : List Int) (A : ArgS .u8 w V l) (A2 : ArgS .i64 w V2 l2) : Calls Try.prog 5 #[V, V2] w fun e w' => e = .returned (.bool true) ∧ Kept w w' := by
  obtain ⟨ρ, h, v, hA, -, hv, hs, -⟩ := add_arg (Args.none w) A
  obtain ⟨ρ2, h2, v2, hA2, hx, hv2, hs2, o2⟩ := add_arg hA A2
  obtain ⟨t, ht, hb, hl⟩ := bytes_of A
  rw [ht] at hs
  have hs' := (hs.to o2 (fun _ _ f => f)).mono (fun b hb => Nat.lt_of_lt_of_le hb o2.nb)
  obtain ⟨h', e⟩ := lawReads hs' hs2 hA2.wf hb (by have := ArgS.len A; omega)
  exact law_walk2 F5.1 hA2 e (.cons (hv.ext hx) (.cons hv2 .nil))
end Go.Proofs.Ytnpfppddongbhaa
