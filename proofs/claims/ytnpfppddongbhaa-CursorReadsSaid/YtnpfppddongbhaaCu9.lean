/-
  The cursor's laws, part 9: reckoned by the abstract machine.
-/
import Derived.Test.YtnpfppddongbhaaCu8
namespace Go.Proofs.Ytnpfppddongbhaa
open Go Go.AM
set_option autoImplicit false
set_option linter.unusedSimpArgs false
set_option linter.unusedVariables false
theorem same_i (c : Nat) (n : Int) (k : Res) : same (.int c n) (.int c n) k = k := by
  have e : same (.int c n) (.int c n) k = ifB (eqAV (.int c n) (.int c n)) k .fail := rfl
  have e2 : eqAV (.int c n) (.int c n) = bAnd (Nat.beq c c) (eqI n n) := rfl
  have e3 : eqI n n = true := by
    cases n with
    | ofNat m => exact (beq_iff m m).2 rfl
    | negSucc m => exact (beq_iff m m).2 rfl
  rw [e, e2, e3, (beq_iff c c).2 rfl]; rfl
theorem same_bb (b : Bool) (k : Res) : same (.bool b) (.bool b) k = k := by cases b <;> rfl
theorem ixA_l (b n j : Nat) (hj : j < n) (c : Option Nat) (k : AV → Res) : ixA 1 (.sl b 0 n 1 c) (.int 63 (j : Int)) k = k (.ptr b j) := by
  have e : ixA 1 (.sl b 0 n 1 c) (.int 63 (j : Int)) k = ifB (Nat.blt j n) (ifB (Nat.beq 1 1) (k (.ptr b (Nat.add 0 (Nat.mul j 1)))) .fail) .fail := rfl
  rw [e, (blt_iff _ _).2 hj]
  have e2 : Nat.add 0 (Nat.mul j 1) = j := by show 0 + j * 1 = j; omega
  show k (.ptr b (Nat.add 0 (Nat.mul j 1))) = _
  rw [e2]
/-- A copy's bytes are turned: nothing else. -/
theorem loop5 {b n : Nat} (v1 v2 v3 v4 v5 v6 : AV) : ∀ (f m i : Nat) (h : Hp) (B : Blk), Own h b B → B.lim = n → (∀ j, j < n → ∃ y : Int, B.at j = .int 8 y) → n - i ≤ f → f < m → i ≤ n → n ≤ 100000 → Wf h →
    ∃ h', lp L5n0 m [v1, v2, v3, v4, v5, v6, .sl b 0 n 1 none, .int 63 (i : Int)] h = .exit 3 [v1, v2, v3, v4, v5, v6] h' ∧ To (At b) h h' ∧ Wf h' := by
  have len : ∀ k : AV → Res, lenL (.sl b 0 n 1 none) k = k (.int 63 (n : Int)) := fun k => rfl
  have stop : ∀ (f m i : Nat) (h : Hp), f < m → ¬ i < n → Wf h → ∃ h', lp L5n0 m [v1, v2, v3, v4, v5, v6, .sl b 0 n 1 none, .int 63 (i : Int)] h = .exit 3 [v1, v2, v3, v4, v5, v6] h' ∧ To (At b) h h' ∧ Wf h' := by
    intro f m i h hm hi hw
    obtain ⟨m, rfl⟩ : ∃ k, m = k + 1 := ⟨m - 1, by omega⟩
    have e1 : ¬ (i : Int) < (n : Int) := by omega
    exact ⟨h, lpx m (by simp only [↓L5n0, ↓len, e1, ↓uc_c, ↓uz_n, ↓cI_i, ↓cB_b, cB_b, ↓cT_t, cT_t, nth_z, nth_1, cK_b, ↓cK_b, ↓cK_i, cK_i, ifB_t, ifB_f, ↓ap_e, sel_t, sel_f, gsel_tt, gsel_tf, gsel_ft, gsel_ff, gsel_u, gd_tt, gd_tf, gd_ft, gd_ff, gd_u, ↓jn_n, jn_n, jn_r, ↓jn_r, blk_n, blk_r, ↓cl_r, cl_r, ↓iAdd_i, ↓iSub_i, ↓iMul_i, ↓iAnd_i, ↓iOr_i, ↓iXor_i, ↓iNeg_i, iQuo_i, iRem_i, ↓iConv_i, iConv_i, ↓bNot_b, bNot_b, ↓eqN_i, ↓ltN_i, ↓eqB_b, bnot_e, Int.ofNat_eq_natCast, Int.cast_ofNat_Int, Int.reduceBEq, Int.reduceAdd, Int.reduceNeg, Int.reduceNegSucc, Int.reduceLT, Int.reduceLE, Int.reduceMul, Int.reduceTMod, Int.reduceSub, Int.reduceBNe, Bool.not_true, Bool.not_false, decide_true, decide_false, w63_in, w31_in, ne_eq, not_false_eq_true, Int.reduceEq, reduceCtorEq, ww3131, ww6363, ww3163, ww6331, ww3231, ww3263, ww6463, ww6364, sh31, sh63, sl63, m31, m63, n63, s5a, s5b, s6a, s6b, b31, b32, b63, c63, c64, d64, iShl_c, iShr_c, sr3, sr6, sr7]), To.refl _ _, hw⟩
  intro f
  induction f with
  | zero => intro m i h B hB hl hy hf hm hi hn hw; exact stop 0 m i h hm (by omega) hw
  | succ f ih =>
    intro m i h B hB hl hy hf hm hi hn hw
    by_cases hin : i < n
    · obtain ⟨m, rfl⟩ : ∃ k, m = k + 1 := ⟨m - 1, by omega⟩
      have e1 : (i : Int) < (n : Int) := by omega
      obtain ⟨y, hy0⟩ := hy i hin
      have ix : ∀ k : AV → Res, ixA 1 (.sl b 0 n 1 none) (.int 63 (i : Int)) k = k (.ptr b i) := fun k => ixA_l b n i hin none k
      have l1 : ∀ k : AV → Res, ld1 h (.ptr b i) k = k (.int 8 y) := fun k => (ld1_rd hB.rd hy0 k).trans (cK_i _ _ _)
      obtain ⟨h1, s1, s2, s3, s4⟩ := st1_own (o := i) (v := .int 8 (wrapC 8 (Int.ofNat (Nat.xor (toU 8 y) (toU 8 (.ofNat 5)))))) hB (by omega) rfl
      have hat : ∀ j, j < n → ∃ y' : Int, (setC B i (.int 8 (wrapC 8 (Int.ofNat (Nat.xor (toU 8 y) (toU 8 (.ofNat 5))))))).at j = .int 8 y' := by
        intro j hj
        have q := setC_at (v := .int 8 (wrapC 8 (Int.ofNat (Nat.xor (toU 8 y) (toU 8 (.ofNat 5)))))) (show i < B.lim by omega) j
        by_cases e : j = i
        · rw [if_pos e] at q; exact ⟨_, q⟩
        · rw [if_neg e] at q
          obtain ⟨y', hy'⟩ := hy j hj
          exact ⟨y', q.trans hy'⟩
      have e : L5n0 [v1, v2, v3, v4, v5, v6, .sl b 0 n 1 none, .int 63 (i : Int)] h = .norm [v1, v2, v3, v4, v5, v6, .sl b 0 n 1 none, .int 63 ((i + 1 : Nat) : Int)] h1 := by
        have x5 : ∀ k : AV → Res, iXor (.int 8 y) (.int 8 (.ofNat 5)) k = k (.int 8 (wrapC 8 (Int.ofNat (Nat.xor (toU 8 y) (toU 8 (.ofNat 5)))))) := fun k => iXor_i ..
        generalize wrapC 8 (Int.ofNat (Nat.xor (toU 8 y) (toU 8 (.ofNat 5)))) = z at *
        simp only [↓L5n0, ↓len, e1, ↓ix, ↓l1, ↓x5, ↓s1, s1n i (by omega), ↓uc_c, ↓uz_n, ↓cI_i, ↓cB_b, cB_b, ↓cT_t, cT_t, nth_z, nth_1, cK_b, ↓cK_b, ↓cK_i, cK_i, ifB_t, ifB_f, ↓ap_e, sel_t, sel_f, gsel_tt, gsel_tf, gsel_ft, gsel_ff, gsel_u, gd_tt, gd_tf, gd_ft, gd_ff, gd_u, ↓jn_n, jn_n, jn_r, ↓jn_r, blk_n, blk_r, ↓cl_r, cl_r, ↓iAdd_i, ↓iSub_i, ↓iMul_i, ↓iAnd_i, ↓iOr_i, ↓iXor_i, ↓iNeg_i, iQuo_i, iRem_i, ↓iConv_i, iConv_i, ↓bNot_b, bNot_b, ↓eqN_i, ↓ltN_i, ↓eqB_b, bnot_e, Int.ofNat_eq_natCast, Int.cast_ofNat_Int, Int.reduceBEq, Int.reduceAdd, Int.reduceNeg, Int.reduceNegSucc, Int.reduceLT, Int.reduceLE, Int.reduceMul, Int.reduceTMod, Int.reduceSub, Int.reduceBNe, Bool.not_true, Bool.not_false, decide_true, decide_false, w63_in, w31_in, ne_eq, not_false_eq_true, Int.reduceEq, reduceCtorEq, ww3131, ww6363, ww3163, ww6331, ww3231, ww3263, ww6463, ww6364, sh31, sh63, sl63, m31, m63, n63, s5a, s5b, s6a, s6b, b31, b32, b63, c63, c64, d64, iShl_c, iShr_c, sr3, sr6, sr7]
      obtain ⟨h2, e2, t2, w2⟩ := ih m (i + 1) h1 _ s2 hl hat (by omega) (by omega) (by omega) hn (s3.wf hw)
      exact ⟨h2, (lpn m e).trans e2, s3.trans t2, w2⟩
    · exact stop (f + 1) m i h hm hin hw

theorem loop5r {h : Hp} {N : Nat} {x : AV} {t : List Nat} (hr : Row h N x t) (hw : Wf h) (ht : t.length ≤ 100000) (v1 v2 v3 v4 v5 v6 : AV) :
    ∃ h', lp L5n0 most [v1, v2, v3, v4, v5, v6, x, .int 63 0] h = .exit 3 [v1, v2, v3, v4, v5, v6] h' ∧ To (fun b => N ≤ b) h h' ∧ Wf h' := by
  rcases hr with ⟨rfl, hr⟩ | ⟨b, B, rfl, o, hl, hN, hat⟩
  · have len := fun k => lenL_sl hr k
    have z : (([] : List AV).length : Int) = 0 := rfl
    refine ⟨h, ?_, To.refl _ _, hw⟩
    refine lpx 999999 ?_
    simp only [↓L5n0, ↓len, Bs, List.map_nil, z, Int.lt_irrefl, ↓uc_c, ↓uz_n, ↓cI_i, ↓cB_b, cB_b, ↓cT_t, cT_t, nth_z, nth_1, cK_b, ↓cK_b, ↓cK_i, cK_i, ifB_t, ifB_f, ↓ap_e, sel_t, sel_f, gsel_tt, gsel_tf, gsel_ft, gsel_ff, gsel_u, gd_tt, gd_tf, gd_ft, gd_ff, gd_u, ↓jn_n, jn_n, jn_r, ↓jn_r, blk_n, blk_r, ↓cl_r, cl_r, ↓iAdd_i, ↓iSub_i, ↓iMul_i, ↓iAnd_i, ↓iOr_i, ↓iXor_i, ↓iNeg_i, iQuo_i, iRem_i, ↓iConv_i, iConv_i, ↓bNot_b, bNot_b, ↓eqN_i, ↓ltN_i, ↓eqB_b, bnot_e, Int.ofNat_eq_natCast, Int.cast_ofNat_Int, Int.reduceBEq, Int.reduceAdd, Int.reduceNeg, Int.reduceNegSucc, Int.reduceLT, Int.reduceLE, Int.reduceMul, Int.reduceTMod, Int.reduceSub, Int.reduceBNe, Bool.not_true, Bool.not_false, decide_true, decide_false, w63_in, w31_in, ne_eq, not_false_eq_true, Int.reduceEq, reduceCtorEq, ww3131, ww6363, ww3163, ww6331, ww3231, ww3263, ww6463, ww6364, sh31, sh63, sl63, m31, m63, n63, s5a, s5b, s6a, s6b, b31, b32, b63, c63, c64, d64, iShl_c, iShr_c, sr3, sr6, sr7]
  · obtain ⟨h', e, q, w⟩ := loop5 (b := b) v1 v2 v3 v4 v5 v6 t.length most 0 h B o hl (fun j hj => ⟨_, hat j hj⟩) (by omega) (show _ < 1000000 by omega) (by omega) ht hw
    exact ⟨h', e, q.mono fun x _ e => by have : x = b := e; omega, w⟩

/-- Two cursors at one place of the same bytes, and slices that stay as they are. -/
structure Duo (h : Hp) (N l1 b1 l2 b2 : Nat) (t : List Nat) (at_ : Nat) (bad : Bool) (u v : AV) (ops : List Int) : Prop where
  c1 : Cur h l1 b1 t at_ bad
  c2 : Cur h l2 b2 t at_ bad
  wf : Wf h
  o1 : N ≤ l1
  o2 : b1 < l2
  nb : b2 < h.nb
  u : Sl h (fun x => x < N) u (Bs t)
  v : Sl h (fun x => x < N) v (ops.map fun n => AV.int 63 n)
theorem Cur.nb {h : Hp} {lo b at_ : Nat} {t : List Nat} {bad : Bool} (hc : Cur h lo b t at_ bad) : b < h.nb := by
  obtain ⟨B, v, o, -⟩ := hc.own
  exact o.lt
/-- Both cursors have moved. -/
theorem Duo.go {h h1 h2 : Hp} {N l1 b1 l2 b2 : Nat} {t : List Nat} {at_ at2 : Nat} {bad bad2 : Bool} {u v : AV} {ops : List Int} (D : Duo h N l1 b1 l2 b2 t at_ bad u v ops)
    (c1 : Cur h1 l1 b1 t at2 bad2) (t1 : To (At b1) h h1) (c2 : Cur h2 l2 b2 t at2 bad2) (t2 : To (At b2) h1 h2) (w2 : Wf h2) : Duo h2 N l1 b1 l2 b2 t at2 bad2 u v ops := by
  have q1 := D.c1.lo
  have q2 := D.c2.lo
  have p1 := D.o1
  have p2 := D.o2
  exact ⟨c1.to t2 (fun x a b e => by have : x = b2 := e; omega), c2, w2, D.o1, D.o2, c2.nb,
    (D.u.to t1 (fun x hx e => by have : x = b1 := e; omega)).to t2 (fun x hx e => by have : x = b2 := e; omega),
    (D.v.to t1 (fun x hx e => by have : x = b1 := e; omega)).to t2 (fun x hx e => by have : x = b2 := e; omega)⟩
end Go.Proofs.Ytnpfppddongbhaa
