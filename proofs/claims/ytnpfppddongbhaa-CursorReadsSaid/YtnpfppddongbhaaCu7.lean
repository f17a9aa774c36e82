/-
  The cursor's laws, part 7: reckoned by the abstract machine.
-/
import Derived.Test.YtnpfppddongbhaaCu6
namespace Go.Proofs.Ytnpfppddongbhaa
open Go Go.AM
set_option autoImplicit false
set_option linter.unusedSimpArgs false
set_option linter.unusedVariables false
theorem beqi' (a : Int) : (a == a) = true := by simp
/-- Three cursors at one place of the same bytes; and slices that stay as they are. -/
structure Tri (h : Hp) (N l1 b1 l2 b2 l3 b3 : Nat) (t : List Nat) (at_ : Nat) (u v : AV) : Prop where
  c1 : Cur h l1 b1 t at_ false
  c2 : Cur h l2 b2 t at_ false
  c3 : Cur h l3 b3 t at_ false
  wf : Wf h
  o1 : N ≤ l1
  o2 : b1 < l2
  o3 : b2 < l3
  u : Sl h (fun x => x < N) u (Bs t)
  v : Sl h (fun x => b3 < x) v (Bs t)
theorem sh16' (m : Int) (k : AV → Res) : iShl (.int 63 m) (.int 64 16) k = k (.int 63 (wrapC 63 (m * 65536))) := sh16 m k
theorem i4 (i : Nat) (hi : i < 1000000) : wrapC 63 ((i : Int) + 4) = ((i + 4 : Nat) : Int) := by rw [w63_in _ (by omega) (by omega)]; omega
theorem stepT {h : Hp} {N l1 b1 l2 b2 l3 b3 : Nat} {t : List Nat} {at_ : Nat} {u v : AV} (T : Tri h N l1 b1 l2 b2 l3 b3 t at_ u v) (hat : at_ + 4 ≤ t.length) :
    ∃ h', L4n1 [u, .bool true, .ptr b1 0, .ptr b2 0, .ptr b3 0, v, .int 63 (at_ : Int)] h = .norm [u, .bool true, .ptr b1 0, .ptr b2 0, .ptr b3 0, v, .int 63 ((at_ + 4 : Nat) : Int)] h' ∧ Tri h' N l1 b1 l2 b2 l3 b3 t (at_ + 4) u v := by
  obtain ⟨c1, c2, c3, wf, o1, o2, o3, hu, hv⟩ := T
  have hlen := c1.len
  have q1 := c1.lo
  have q2 := c2.lo
  have q3 := c3.lo
  have n1 : ∀ x, l2 ≤ x → x ≤ b2 → ¬ At b1 x := fun x a b e => by have : x = b1 := e; omega
  have n2 : ∀ x, l3 ≤ x → x ≤ b3 → ¬ At b1 x := fun x a b e => by have : x = b1 := e; omega
  have n3 : ∀ x, l1 ≤ x → x ≤ b1 → ¬ At b2 x := fun x a b e => by have : x = b2 := e; omega
  have n4 : ∀ x, l3 ≤ x → x ≤ b3 → ¬ At b2 x := fun x a b e => by have : x = b2 := e; omega
  have n5 : ∀ x, l1 ≤ x → x ≤ b1 → ¬ At b3 x := fun x a b e => by have : x = b3 := e; omega
  have n6 : ∀ x, l2 ≤ x → x ≤ b2 → ¬ At b3 x := fun x a b e => by have : x = b3 := e; omega
  obtain ⟨h1, e1, c1, t1, w1⟩ := loop4 c1 wf hat u (.bool true) (.ptr b2 0) (.ptr b3 0) v (.int 63 (at_ : Int))
  obtain ⟨h2, e2, d2, t2, w2⟩ := t28 (c2.to t1 n1) w1
  have z2 : ((2 : Nat) : Int) = 2 := rfl
  have z4 : ((4 : Nat) : Int) = 4 := rfl
  obtain ⟨r1, r2, r3⟩ := win_in t at_ 2 (by omega)
  rw [z2] at r1 r2 r3
  rw [r2, r3] at d2
  rw [r1] at e2
  obtain ⟨h3, e3, d3, t3, w3⟩ := t28 d2 w2
  obtain ⟨r1, r2, r3⟩ := win_in t (at_ + 2) 2 (by omega)
  rw [z2] at r1 r2 r3
  rw [r2, r3] at d3
  rw [r1] at e3
  obtain ⟨h4, e4, d4, t4, w4⟩ := t29 (((c3.to t1 n2).to t2 n4).to t3 n4) w3
  obtain ⟨r1, r2, r3⟩ := win_in t at_ 4 (by omega)
  rw [z4] at r1 r2 r3
  rw [r2, r3] at d4
  rw [r1] at e4
  have l0 := fun k => lenL_sl hu k
  have lt : (at_ : Int) < (t.length : Int) := by omega
  have b0 : t[at_] < 256 := c2.byt _ (List.getElem_mem _)
  have b1' : t[at_ + 1] < 256 := c2.byt _ (List.getElem_mem _)
  have b2' : t[at_ + 1 + 1] < 256 := c2.byt _ (List.getElem_mem _)
  have b3' : t[at_ + 1 + 1 + 1] < 256 := c2.byt _ (List.getElem_mem _)
  have g4 : be ((t.drop at_).take 4) 0 = (((0 * 256 + t[at_]) * 256 + t[at_ + 1]) * 256 + t[at_ + 1 + 1]) * 256 + t[at_ + 1 + 1 + 1] := by
    rw [List.drop_eq_getElem_cons (by omega), List.drop_eq_getElem_cons (by omega), List.drop_eq_getElem_cons (by omega), List.drop_eq_getElem_cons (by omega)]
    rfl
  have g2 : be ((t.drop at_).take 2) 0 = (0 * 256 + t[at_]) * 256 + t[at_ + 1] := by
    rw [List.drop_eq_getElem_cons (by omega), List.drop_eq_getElem_cons (by omega)]
    rfl
  have g2' : be ((t.drop (at_ + 2)).take 2) 0 = (0 * 256 + t[at_ + 1 + 1]) * 256 + t[at_ + 1 + 1 + 1] := by
    rw [List.drop_eq_getElem_cons (by omega), List.drop_eq_getElem_cons (by omega)]
    rfl
  generalize be ((t.drop at_).take 4) 0 = B4 at *
  generalize be ((t.drop at_).take 2) 0 = B2 at *
  generalize be ((t.drop (at_ + 2)).take 2) 0 = C2 at *
  have m1 : wrapC 63 ((B2 : Int) * 65536) = ((B2 * 65536 : Nat) : Int) := by rw [w63_in _ (by omega) (by omega)]; omega
  have m2 : wrapC 63 (((B2 * 65536 : Nat) : Int) + 0) = ((B2 * 65536 : Nat) : Int) := by rw [w63_in _ (by omega) (by omega)]; omega
  have m3 : wrapC 63 (((B2 * 65536 : Nat) : Int) + (C2 : Int)) = (B4 : Int) := by rw [w63_in _ (by omega) (by omega)]; omega
  refine ⟨h4, ?_, ⟨((c1.to t2 n3).to t3 n3).to t4 n5, d3.to t4 n6, d4, w4, o1, o2, o3,
    (((hu.to t1 (fun x hx e => by have : x = b1 := e; omega)).to t2 (fun x hx e => by have : x = b2 := e; omega)).to t3 (fun x hx e => by have : x = b2 := e; omega)).to t4 (fun x hx e => by have : x = b3 := e; omega),
    (((hv.to t1 (fun x hx e => by have : x = b1 := e; omega)).to t2 (fun x hx e => by have : x = b2 := e; omega)).to t3 (fun x hx e => by have : x = b2 := e; omega)).to t4 (fun x hx e => by have : x = b3 := e; omega)⟩⟩
  simp only [↓L4n1, ↓l0, Bs_len, lt, e1, blk_e, show Nat.beq 2 2 = true from rfl, ↓uc_c, ↓uz_n, ↓cI_i, ↓cB_b, cB_b, ↓cT_t, cT_t, nth_z, nth_1, cK_b, ↓cK_b, ↓cK_i, cK_i, ifB_t, ifB_f, ↓ap_e, sel_t, sel_f, gsel_tt, gsel_tf, gsel_ft, gsel_ff, gsel_u, gd_tt, gd_tf, gd_ft, gd_ff, gd_u, ↓jn_n, jn_n, jn_r, ↓jn_r, blk_n, blk_r, ↓cl_r, cl_r, ↓iAdd_i, ↓iSub_i, ↓iMul_i, ↓iAnd_i, ↓iOr_i, ↓iXor_i, ↓iNeg_i, iQuo_i, iRem_i, ↓iConv_i, iConv_i, ↓bNot_b, bNot_b, ↓eqN_i, ↓ltN_i, ↓eqB_b, bnot_e, Int.ofNat_eq_natCast, Int.cast_ofNat_Int, Int.reduceBEq, Int.reduceAdd, Int.reduceNeg, Int.reduceNegSucc, Int.reduceLT, Int.reduceLE, Int.reduceMul, Int.reduceTMod, Int.reduceSub, Int.reduceBNe, Bool.not_true, Bool.not_false, decide_true, decide_false, w63_in, w31_in, ne_eq, not_false_eq_true, Int.reduceEq, reduceCtorEq, ww3131, ww6363, ww3163, ww6331, ww3231, ww3263, ww6463, ww6364, sh31, sh63, sl63, m31, m63, n63, s5a, s5b, s6a, s6b, b31, b32, b63, c63, c64, d64, iShl_c, iShr_c, sr3, sr6, sr7]
  simp only [↓e2, ↓sh16', m1, m2, ↓e3, m3, beqi', ↓e4, i4 at_ (by omega), ↓uc_c, ↓uz_n, ↓cI_i, ↓cB_b, cB_b, ↓cT_t, cT_t, nth_z, nth_1, cK_b, ↓cK_b, ↓cK_i, cK_i, ifB_t, ifB_f, ↓ap_e, sel_t, sel_f, gsel_tt, gsel_tf, gsel_ft, gsel_ff, gsel_u, gd_tt, gd_tf, gd_ft, gd_ff, gd_u, ↓jn_n, jn_n, jn_r, ↓jn_r, blk_n, blk_r, ↓cl_r, cl_r, ↓iAdd_i, ↓iSub_i, ↓iMul_i, ↓iAnd_i, ↓iOr_i, ↓iXor_i, ↓iNeg_i, iQuo_i, iRem_i, ↓iConv_i, iConv_i, ↓bNot_b, bNot_b, ↓eqN_i, ↓ltN_i, ↓eqB_b, bnot_e, Int.ofNat_eq_natCast, Int.cast_ofNat_Int, Int.reduceBEq, Int.reduceAdd, Int.reduceNeg, Int.reduceNegSucc, Int.reduceLT, Int.reduceLE, Int.reduceMul, Int.reduceTMod, Int.reduceSub, Int.reduceBNe, Bool.not_true, Bool.not_false, decide_true, decide_false, w63_in, w31_in, ne_eq, not_false_eq_true, Int.reduceEq, reduceCtorEq, ww3131, ww6363, ww3163, ww6331, ww3231, ww3263, ww6463, ww6364, sh31, sh63, sl63, m31, m63, n63, s5a, s5b, s6a, s6b, b31, b32, b63, c63, c64, d64, iShl_c, iShr_c, sr3, sr6, sr7]
theorem loopT : ∀ (f m : Nat) {h : Hp} {N l1 b1 l2 b2 l3 b3 : Nat} {t : List Nat} {at_ : Nat} {u v : AV}, Tri h N l1 b1 l2 b2 l3 b3 t at_ u v → t.length = at_ + 4 * f → f < m →
    ∃ h', lp L4n1 m [u, .bool true, .ptr b1 0, .ptr b2 0, .ptr b3 0, v, .int 63 (at_ : Int)] h = .exit 0 [u, .bool true, .ptr b1 0, .ptr b2 0, .ptr b3 0, v] h' ∧ Tri h' N l1 b1 l2 b2 l3 b3 t t.length u v := by
  intro f
  induction f with
  | zero =>
    intro m h N l1 b1 l2 b2 l3 b3 t at_ u v T ht hm
    obtain ⟨m, rfl⟩ : ∃ k, m = k + 1 := ⟨m - 1, by omega⟩
    have l0 := fun k => lenL_sl T.u k
    have lt : ¬ (at_ : Int) < (t.length : Int) := by omega
    have e : L4n1 [u, .bool true, .ptr b1 0, .ptr b2 0, .ptr b3 0, v, .int 63 (at_ : Int)] h = .exit 0 [u, .bool true, .ptr b1 0, .ptr b2 0, .ptr b3 0, v] h := by simp only [↓L4n1, ↓l0, Bs_len, lt, ↓uc_c, ↓uz_n, ↓cI_i, ↓cB_b, cB_b, ↓cT_t, cT_t, nth_z, nth_1, cK_b, ↓cK_b, ↓cK_i, cK_i, ifB_t, ifB_f, ↓ap_e, sel_t, sel_f, gsel_tt, gsel_tf, gsel_ft, gsel_ff, gsel_u, gd_tt, gd_tf, gd_ft, gd_ff, gd_u, ↓jn_n, jn_n, jn_r, ↓jn_r, blk_n, blk_r, ↓cl_r, cl_r, ↓iAdd_i, ↓iSub_i, ↓iMul_i, ↓iAnd_i, ↓iOr_i, ↓iXor_i, ↓iNeg_i, iQuo_i, iRem_i, ↓iConv_i, iConv_i, ↓bNot_b, bNot_b, ↓eqN_i, ↓ltN_i, ↓eqB_b, bnot_e, Int.ofNat_eq_natCast, Int.cast_ofNat_Int, Int.reduceBEq, Int.reduceAdd, Int.reduceNeg, Int.reduceNegSucc, Int.reduceLT, Int.reduceLE, Int.reduceMul, Int.reduceTMod, Int.reduceSub, Int.reduceBNe, Bool.not_true, Bool.not_false, decide_true, decide_false, w63_in, w31_in, ne_eq, not_false_eq_true, Int.reduceEq, reduceCtorEq, ww3131, ww6363, ww3163, ww6331, ww3231, ww3263, ww6463, ww6364, sh31, sh63, sl63, m31, m63, n63, s5a, s5b, s6a, s6b, b31, b32, b63, c63, c64, d64, iShl_c, iShr_c, sr3, sr6, sr7]
    have : at_ = t.length := by omega
    subst this
    exact ⟨h, lpx m e, T⟩
  | succ f ih =>
    intro m h N l1 b1 l2 b2 l3 b3 t at_ u v T ht hm
    obtain ⟨m, rfl⟩ : ∃ k, m = k + 1 := ⟨m - 1, by omega⟩
    obtain ⟨h1, e1, T1⟩ := stepT T (by omega)
    obtain ⟨h2, e2, T2⟩ := ih m T1 (by omega) (by omega)
    exact ⟨h2, (lpn m e1).trans e2, T2⟩

theorem lawWhole {h : Hp} {P : Nat → Prop} {v : AV} {t : List Nat} (hs : Sl h (fun b => b < h.nb) v (Bs t)) (hw : Wf h) (hb : ∀ x ∈ t, x < 256) (ht : t.length ≤ 9223372036854775807) : ∃ h', s4 [v] h = .ret (.bool true) h' := by
  obtain ⟨h1, e1, o1, w1⟩ := t23 hw
  obtain ⟨v2, e2, s2⟩ := t24 (hs.to o1 (fun _ _ f => f)) 64 ht
  have z64 : ((64 : Nat) : Int) = 64 := rfl
  rw [z64] at e2
  have hb2 : ∀ x ∈ t.take 64, x < 256 := fun x hx => hb x (List.mem_of_mem_take hx)
  have hl2 : (t.take 64).length ≤ 64 := by simp; omega
  generalize t.take 64 = t2 at *
  have l2 := fun k => lenL_sl s2 k
  have w4 : wrapC 63 ((t2.length : Int).tdiv 4) = ((t2.length / 4 : Nat) : Int) := by
    have : (t2.length : Int).tdiv 4 = ((t2.length / 4 : Nat) : Int) := by rw [Int.tdiv_eq_ediv_of_nonneg (by omega)]; omega
    rw [this, w63_in _ (by omega) (by omega)]
  have w5 : wrapC 63 (((t2.length / 4 : Nat) : Int) * 4) = ((t2.length / 4 * 4 : Nat) : Int) := by rw [w63_in _ (by omega) (by omega)]; omega
  obtain ⟨v3, e3, s3⟩ := cut_sl s2 (c1 := 63) (c2 := 63) 0 (t2.length / 4 * 4) (by omega) (by rw [Bs_len]; omega)
  have e3' : ((Bs t2).drop 0).take (t2.length / 4 * 4 - 0) = Bs (t2.take (t2.length / 4 * 4)) := by simp [Bs, List.map_take]
  rw [e3'] at s3
  have e3z : ∀ k : AV → Res, cutS 1 v2 (some (.int 63 0)) (some (.int 63 ((t2.length / 4 * 4 : Nat) : Int))) none k = k v3 := e3
  have hb3 : ∀ x ∈ t2.take (t2.length / 4 * 4), x < 256 := fun x hx => hb2 x (List.mem_of_mem_take hx)
  have hl3 : (t2.take (t2.length / 4 * 4)).length = 4 * (t2.length / 4) := by simp; omega
  generalize t2.take (t2.length / 4 * 4) = t3 at *
  have nn := o1.nb
  obtain ⟨b1, h2, f1, c1, p1, w1, n1⟩ := t25 s3 w1 (by omega) hb3
  obtain ⟨b2, h3, f2, c2, p2, w2, n2⟩ := t25 (s3.to p1 (fun _ _ f => f)) w1 (by omega) hb3
  obtain ⟨b3, h4, f3, c3, p3, w3, n3⟩ := t25 ((s3.to p1 (fun _ _ f => f)).to p2 (fun _ _ f => f)) w2 (by omega) hb3
  obtain ⟨b4, h5, f4, c4, p4, w4', n4⟩ := t25 (((s3.to p1 (fun _ _ f => f)).to p2 (fun _ _ f => f)).to p3 (fun _ _ f => f)) w3 (by omega) hb3
  obtain ⟨va, h6, f5, s5, c5, p5, w5'⟩ := t26 c4 w4' (t3.length : Int)
  obtain ⟨r1, -, -⟩ := win_in t3 0 t3.length (by omega)
  rw [r1, List.drop_zero, List.take_length] at s5
  have lo1 := c1.lo
  have lo2 := c2.lo
  have lo3 := c3.lo
  have lo4 := c4.lo
  have nb4 : ∀ {lo b}, b < b4 → ∀ x, lo ≤ x → x ≤ b → ¬ At b4 x := fun hb x _ hx e => by have : x = b4 := e; omega
  have T : Tri h6 h.nb h1.nb b1 h2.nb b2 h3.nb b3 t3 0 v3 va := by
    refine ⟨(((c1.to p2 (fun _ _ _ f => f)).to p3 (fun _ _ _ f => f)).to p4 (fun _ _ _ f => f)).to p5 (nb4 (by omega)), ((c2.to p3 (fun _ _ _ f => f)).to p4 (fun _ _ _ f => f)).to p5 (nb4 (by omega)), (c3.to p4 (fun _ _ _ f => f)).to p5 (nb4 (by omega)), w5', nn, by omega, by omega, ?_, s5.mono fun x hx => by omega⟩
    exact ((((s3.to p1 (fun _ _ f => f)).to p2 (fun _ _ f => f)).to p3 (fun _ _ f => f)).to p4 (fun _ _ f => f)).to p5 (fun x hx e => by have : x = b4 := e; omega)
  obtain ⟨h7, e7, T7⟩ := loopT (t2.length / 4) most T (by omega) (show _ < 1000000 by omega)
  have z0 : ((0 : Nat) : Int) = 0 := rfl
  rw [z0] at e7
  have l3 := fun k => lenL_sl ((((s3.to p1 (fun _ _ f => f)).to p2 (fun _ _ f => f)).to p3 (fun _ _ f => f)).to p4 (fun _ _ f => f)) k
  have x1 := fun k => b2s_sl T7.u hb3 k
  have x2 := fun k => b2s_sl T7.v hb3 k
  have x3 := t30 T7.c1
  have x4 := t30 T7.c2
  have x5 := t30 T7.c3
  have x6 := t31 T7.c1
  rw [Nat.sub_self, z0] at x6
  refine ⟨h7, ?_⟩
  simp only [↓s4, ↓e1, ↓e2, ↓l2, Bs_len, w4, w5, ↓cut_lo0, ↓e3, ↓e3z, ↓f1, ↓f2, ↓f3, ↓f4, ↓l3, ↓f5, e7, blk_e, ↓uc_c, ↓uz_n, ↓cI_i, ↓cB_b, cB_b, ↓cT_t, cT_t, nth_z, nth_1, cK_b, ↓cK_b, ↓cK_i, cK_i, ifB_t, ifB_f, ↓ap_e, sel_t, sel_f, gsel_tt, gsel_tf, gsel_ft, gsel_ff, gsel_u, gd_tt, gd_tf, gd_ft, gd_ff, gd_u, ↓jn_n, jn_n, jn_r, ↓jn_r, blk_n, blk_r, ↓cl_r, cl_r, ↓iAdd_i, ↓iSub_i, ↓iMul_i, ↓iAnd_i, ↓iOr_i, ↓iXor_i, ↓iNeg_i, iQuo_i, iRem_i, ↓iConv_i, iConv_i, ↓bNot_b, bNot_b, ↓eqN_i, ↓ltN_i, ↓eqB_b, bnot_e, Int.ofNat_eq_natCast, Int.cast_ofNat_Int, Int.reduceBEq, Int.reduceAdd, Int.reduceNeg, Int.reduceNegSucc, Int.reduceLT, Int.reduceLE, Int.reduceMul, Int.reduceTMod, Int.reduceSub, Int.reduceBNe, Bool.not_true, Bool.not_false, decide_true, decide_false, w63_in, w31_in, ne_eq, not_false_eq_true, Int.reduceEq, reduceCtorEq, ww3131, ww6363, ww3163, ww6331, ww3231, ww3263, ww6463, ww6364, sh31, sh63, sl63, m31, m63, n63, s5a, s5b, s6a, s6b, b31, b32, b63, c63, c64, d64, iShl_c, iShr_c, sr3, sr6, sr7]
  simp only [show Nat.beq 0 0 = true from rfl, ↓x1, ↓x2, ↓eqS_self, ↓x3, ↓x4, ↓x5, ↓x6, ↓uc_c, ↓uz_n, ↓cI_i, ↓cB_b, cB_b, ↓cT_t, cT_t, nth_z, nth_1, cK_b, ↓cK_b, ↓cK_i, cK_i, ifB_t, ifB_f, ↓ap_e, sel_t, sel_f, gsel_tt, gsel_tf, gsel_ft, gsel_ff, gsel_u, gd_tt, gd_tf, gd_ft, gd_ff, gd_u, ↓jn_n, jn_n, jn_r, ↓jn_r, blk_n, blk_r, ↓cl_r, cl_r, ↓iAdd_i, ↓iSub_i, ↓iMul_i, ↓iAnd_i, ↓iOr_i, ↓iXor_i, ↓iNeg_i, iQuo_i, iRem_i, ↓iConv_i, iConv_i, ↓bNot_b, bNot_b, ↓eqN_i, ↓ltN_i, ↓eqB_b, bnot_e, Int.ofNat_eq_natCast, Int.cast_ofNat_Int, Int.reduceBEq, Int.reduceAdd, Int.reduceNeg, Int.reduceNegSucc, Int.reduceLT, Int.reduceLE, Int.reduceMul, Int.reduceTMod, Int.reduceSub, Int.reduceBNe, Bool.not_true, Bool.not_false, decide_true, decide_false, w63_in, w31_in, ne_eq, not_false_eq_true, Int.reduceEq, reduceCtorEq, ww3131, ww6363, ww3163, ww6331, ww3231, ww3263, ww6463, ww6364, sh31, sh63, sl63, m31, m63, n63, s5a, s5b, s6a, s6b, b31, b32, b63, c63, c64, d64, iShl_c, iShr_c, sr3, sr6, sr7]
theorem bytes_of {w : World} {V : Value} {l : List Int} (A : ArgS .u8 w V l) : ∃ t : List Nat, (l.map fun n => AV.int (cOf .u8) n) = Bs t ∧ (∀ x ∈ t, x < 256) ∧ t.length = l.length := by
  have hwf := A.wf
  refine ⟨l.map Int.toNat, ?_, ?_, by simp⟩
  · simp only [Bs, List.map_map]
    refine List.map_congr_left fun n hn => ?_
    have := hwf n hn
    simp [Lit.wf, IntKind.min, IntKind.max, IntKind.signed, IntKind.bits] at this
    show AV.int 8 n = AV.int 8 (n.toNat : Int)
    congr 1
    omega
  · intro x hx
    obtain ⟨n, hn, rfl⟩ := List.mem_map.1 hx
    have := hwf n hn
    simp [Lit.wf, IntKind.min, IntKind.max, IntKind.signed, IntKind.bits] at this
    omega
theorem ArgS.len {k : IntKind} {w : World} {V : Value} {l : List Int} (A : ArgS k w V l) : l.length ≤ 9223372036854775807 := by
  rcases A with ⟨-, rfl⟩ | ⟨a, len, cap, zs, -, h1, h2, h3, rfl, -⟩
  · simp
  · have : maxLen ≤ 9223372036854775807 := by decide
    simp; omega
theorem walkWhole (w : World) (V : Value) (l : List Int) (A : ArgS .u8 w V l) : Calls Try.prog 4 #[V] w fun e w' => e = .returned (.bool true) ∧ Kept w w' := by
  obtain ⟨ρ, h, v, hA, -, hv, hs, -⟩ := add_arg (Args.none w) A
  obtain ⟨t, ht, hb, hl⟩ := bytes_of A
  rw [ht] at hs
  obtain ⟨h', e⟩ := lawWhole (P := fun _ => True) hs hA.wf hb (by have := ArgS.len A; omega)
  exact law_walk2 F4.1 hA e (.cons hv .nil)
end Go.Proofs.Ytnpfppddongbhaa
