/-
  The law InstrBranch, part 1: reckoned by the abstract machine.
-/
import Derived.Test.YtnpfppddongbhaaFa
import Derived.Test.YtnpfppddongbhaaAm39
import Derived.Test.YtnpfppddongbhaaFe
import Derived.Test.YtnpfppddongbhaaAm40
import Derived.Test.YtnpfppddongbhaaAm41
section
namespace Go.Proofs.Ytnpfppddongbhaa
open Go Go.AM
set_option autoImplicit false
set_option linter.unusedSimpArgs false
set_option linter.unusedVariables false
theorem nck_p (b o : Nat) (k : AV → Res) : nck (.ptr b o) k = k (.ptr b o) := of_eq_true (eq_self _)
theorem eqP_pn (b o : Nat) (k : Bool → Res) : eqP (.ptr b o) .nilp k = k false := of_eq_true (eq_self _)
@[congr] theorem nck_cg {v v' : AV} (h : v = v') (k : AV → Res) : nck v k = nck v' k := by rw [h]
@[congr] theorem cP_cg {v v' : AV} (h : v = v') (k : Nat → Nat → Res) : cP v k = cP v' k := by rw [h]
@[congr] theorem lenL_cg {v v' : AV} (h : v = v') (k : AV → Res) : lenL v k = lenL v' k := by rw [h]
theorem lpn {F : List AV → Hp → Res} {vs vs' : List AV} {h h' : Hp} (m : Nat) (e : F vs h = .norm vs' h') : lp F (m + 1) vs h = lp F m vs' h' := by
  have : lp F (m + 1) vs h = Res.rec (motive := fun _ => Res) .fail (lp F m) (fun i vs h => .exit i vs h) (fun v h => .ret v h) (F vs h) := rfl
  rw [this, e]
theorem lpx {F : List AV → Hp → Res} {vs vs' : List AV} {h h' : Hp} {i : Nat} (m : Nat) (e : F vs h = .exit i vs' h') : lp F (m + 1) vs h = .exit i vs' h' := by
  have : lp F (m + 1) vs h = Res.rec (motive := fun _ => Res) .fail (lp F m) (fun i vs h => .exit i vs h) (fun v h => .ret v h) (F vs h) := rfl
  rw [this, e]
theorem lpr {F : List AV → Hp → Res} {vs : List AV} {v : AV} {h h' : Hp} (m : Nat) (e : F vs h = .ret v h') : lp F (m + 1) vs h = .ret v h' := by
  have : lp F (m + 1) vs h = Res.rec (motive := fun _ => Res) .fail (lp F m) (fun i vs h => .exit i vs h) (fun v h => .ret v h) (F vs h) := rfl
  rw [this, e]
theorem n63 (i : Nat) (hi : i < 1000000) : wrapC 63 (i : Int) = (i : Int) := w63_in _ (by omega) (by omega)

/-- Bytes. -/
def Bs (t : List Nat) : List AV := t.map fun (x : Nat) => AV.int 8 (x : Int)
theorem Bs_len (t : List Nat) : (Bs t).length = t.length := by simp [Bs]
theorem Bs_one (t : List Nat) : ∀ x ∈ Bs t, one x = true := by
  intro x hx
  obtain ⟨y, -, rfl⟩ := List.mem_map.1 hx
  rfl

/-- A copy. -/
theorem t68 {h : Hp} {P : Nat → Prop} {v : AV} {t : List Nat} (hs : Sl h P v (Bs t)) (hw : Wf h) (ht : t.length ≤ 100000) :
    ∃ v' h', s68 [v] h = .ret v' h' ∧ Sl h' (fun b => h.nb ≤ b ∧ b < h'.nb) v' (Bs t) ∧ To No h h' ∧ Wf h' := by
  have low : ∀ {h' : Hp} {v' : AV} {l : List AV}, Sl h' (fun b => h.nb ≤ b) v' l → Sl h' (fun b => h.nb ≤ b ∧ b < h'.nb) v' l := by
    intro h' v' l hs
    obtain ⟨h1, h2⟩ := hs
    refine ⟨h1, ?_⟩
    rcases h2 with h2 | h2 | ⟨b, o, c, B, h2, h3, h4, h5, hc, h6⟩
    · exact .inl h2
    · exact .inr (.inl h2)
    · exact .inr (.inr ⟨b, o, c, B, h2, ⟨h3, h4.lt⟩, h4, fun hf => ⟨h5 hf, (h4.grp hf).1⟩, hc, h6⟩)
  obtain ⟨b, e1, e2⟩ := eqL_nil hs (fun b2 => cB (.bool b2) fun b3 => ifB b3 (cK .nils fun v4 => .ret v4 h) (bld [] fun l5 => mkS h 1 0 l5 fun v6 h7 => apd h7 1 1 v6 v fun v8 h9 => cK v8 fun v10 => .ret v10 h9))
  have e0 : s68 [v] h = eqL v .nils (fun b2 => cB (.bool b2) fun b3 => ifB b3 (cK .nils fun v4 => .ret v4 h) (bld [] fun l5 => mkS h 1 0 l5 fun v6 h7 => apd h7 1 1 v6 v fun v8 h9 => cK v8 fun v10 => .ret v10 h9)) := rfl
  rw [e0, e1]
  cases b with
  | true =>
    have := e2 rfl
    exact ⟨.nils, h, rfl, ⟨Bs_one t, .inl ⟨rfl, this⟩⟩, To.refl _ _, hw⟩
  | false =>
    obtain ⟨o1, o2⟩ := nw_own hw 0 .nil .e
    have g : Gr (nw h 0 .nil .e) h.nb (.sl h.nb 0 0 1 (some 0)) [] :=
      ⟨⟨by simp, .inr (.inr ⟨h.nb, 0, _, _, rfl, Nat.le_refl _, o1.rd, fun _ => Nat.le_refl _, (fun c e => by cases e; exact Nat.le_refl _), fun i hi => by simp at hi⟩)⟩, .inr (.inl ⟨_, rfl, rfl⟩)⟩
    obtain ⟨v', h', a1, a2, a3⟩ := apd_gr (by_ := 1) o2.nb (o2.wf hw) g (hs.to o2 (fun _ _ f => f)) (by simp [Bs_len]; omega) (by simp [Bs_len]; omega)
    rw [List.nil_append] at a2
    refine ⟨v', h', ?_, low a2.1, (To.trans (o2.mono fun _ _ f => f.elim) a3).mono (fun b hb hn => by omega), a3.wf (o2.wf hw)⟩
    show (apd (nw h 0 .nil .e) 1 1 (.sl h.nb 0 0 1 (some 0)) v fun v8 h9 => cK v8 fun v10 => .ret v10 h9) = _
    rw [a1, cK_sl a2.1]

/-- A cursor: its variable is block b; its bytes lie in blocks from lo on, below b. -/
structure Cur (h : Hp) (lo b : Nat) (t : List Nat) (at_ : Nat) (bad : Bool) : Prop where
  own : ∃ B v, Own h b B ∧ B.lim = 3 ∧ B.at 0 = v ∧ B.at 1 = .int 63 (at_ : Int) ∧ B.at 2 = .bool bad ∧ Sl h (fun x => lo ≤ x ∧ x < b) v (Bs t)
  le : at_ ≤ t.length
  len : t.length ≤ 100000
  lo : lo ≤ b
  byt : ∀ x ∈ t, x < 256

theorem Cur.to {W : Nat → Prop} {h h' : Hp} {lo b at_ : Nat} {t : List Nat} {bad : Bool} (hc : Cur h lo b t at_ bad) (ht : To W h h') (hw : ∀ x, lo ≤ x → x ≤ b → ¬ W x) : Cur h' lo b t at_ bad := by
  obtain ⟨B, v, o, h1, h2, h3, h4, h5⟩ := hc.own
  exact ⟨⟨B, v, o.to ht (hw b hc.lo (Nat.le_refl _)), h1, h2, h3, h4, h5.to ht (fun x hx => hw x hx.1 (Nat.le_of_lt hx.2))⟩, hc.le, hc.len, hc.lo, hc.byt⟩

theorem one_sl' {h : Hp} {P : Nat → Prop} {v : AV} {l : List AV} (hs : Sl h P v l) : one v = true := one_sl hs

theorem t25 {h : Hp} {P : Nat → Prop} {v : AV} {t : List Nat} (hs : Sl h P v (Bs t)) (hw : Wf h) (ht : t.length ≤ 100000) (hb : ∀ x ∈ t, x < 256) :
    ∃ b h', s25 [v] h = .ret (.ptr b 0) h' ∧ Cur h' h.nb b t 0 false ∧ To No h h' ∧ Wf h' ∧ h'.nb = b + 1 := by
  obtain ⟨v', h1, e1, s1, o1, w1⟩ := t68 hs hw ht
  have hone := one_sl s1
  have hbl : ∀ k : AV → Res, bld [(false, 1, v'), (false, 1, .int 63 (.ofNat 0)), (false, 1, .bool false)] k = k (avL [v', .int 63 0, .bool false]) := fun k => by
    have : bld [(false, 1, v'), (false, 1, .int 63 (.ofNat 0)), (false, 1, .bool false)] k = ifB (one v') (k (avL [v', .int 63 0, .bool false])) .fail := rfl
    rw [this, hone]; rfl
  obtain ⟨tr, t1, t2⟩ := lay_list [v', .int 63 0, .bool false] .e 0 (by
    intro x hx
    rcases List.mem_cons.1 hx with rfl | hx
    · exact hone
    · rcases List.mem_cons.1 hx with rfl | hx
      · rfl
      · rcases List.mem_cons.1 hx with rfl | hx
        · rfl
        · cases hx)
  have hm : ∀ k : AV → Hp → Res, mk h1 (avL [v', .int 63 0, .bool false]) k = k (.ptr h1.nb 0) (nw h1 3 .nil tr) := fun k => by
    have : mk h1 (avL [v', .int 63 0, .bool false]) k = lay (avL [v', .int 63 0, .bool false]) .e 0 fun t n => k (.ptr h1.nb 0) (nw h1 n .nil t) := rfl
    rw [this, t1]; rfl
  obtain ⟨q1, q2⟩ := nw_own w1 3 .nil tr
  have hat : ∀ i (hi : i < 3), (⟨true, h1.nb, 3, .nil, tr⟩ : Blk).at i = [v', .int 63 0, .bool false][i] := fun i hi => by
    rw [at_in _ (show i < 3 from hi)]
    simp only [t2 i]
    rw [dif_pos ⟨by omega, by simpa using hi⟩]
    simp
  refine ⟨h1.nb, nw h1 3 .nil tr, ?_, ⟨⟨_, v', q1, rfl, hat 0 (by decide), hat 1 (by decide), hat 2 (by decide), s1.to q2 (fun _ _ f => f)⟩, Nat.zero_le _, ht, o1.nb, hb⟩, o1.trans q2, q2.wf w1, rfl⟩
  have e0 : s25 [v] h = cl (s68 [v] h) fun v2 h3 => bld [(false, 1, v2), (false, 1, (.int 63 (.ofNat 0))), (false, 1, (.bool false))] fun l4 => mk h3 (cells (.agg l4)) fun v5 h6 => cK v5 fun v7 => .ret v7 h6 := rfl
  rw [e0, e1, cl_r, hbl]
  show (mk h1 (avL [v', .int 63 0, .bool false]) fun v5 h6 => cK v5 fun v7 => .ret v7 h6) = _
  rw [hm]; rfl
end Go.Proofs.Ytnpfppddongbhaa
end

section
namespace Go.Proofs.Ytnpfppddongbhaa
open Go Go.AM
set_option autoImplicit false
set_option linter.unusedSimpArgs false
set_option linter.unusedVariables false
section
variable {h : Hp} {lo b at_ : Nat} {t : List Nat} {bad : Bool}
theorem Cur.open (hc : Cur h lo b t at_ bad) : ∃ v, Sl h (fun x => lo ≤ x ∧ x < b) v (Bs t) ∧ (∀ k, ld1 h (.ptr b (Nat.add 0 0)) k = k v) ∧ (∀ k, ld1 h (.ptr b (Nat.add 0 1)) k = k (.int 63 (at_ : Int))) ∧ (∀ k, ld1 h (.ptr b (Nat.add 0 2)) k = k (.bool bad)) := by
  obtain ⟨B, v, o, h1, h2, h3, h4, h5⟩ := hc.own
  exact ⟨v, h5, fun k => (ld1_rd o.rd h2 k).trans (cK_sl h5 k), fun k => (ld1_rd o.rd h3 k).trans (cK_i _ _ _), fun k => (ld1_rd o.rd h4 k).trans (cK_b _ _)⟩
theorem Cur.move (hc : Cur h lo b t at_ bad) (m : Nat) (hm : m ≤ t.length) : ∃ h', (∀ k, st1 h (.ptr b (Nat.add 0 1)) (.int 63 (m : Int)) k = k h') ∧ Cur h' lo b t m bad ∧ To (At b) h h' := by
  obtain ⟨B, v, o, h1, h2, h3, h4, h5⟩ := hc.own
  obtain ⟨h', e1, e2, e3, -⟩ := st1_own (o := 1) (v := .int 63 (m : Int)) o (by omega) rfl
  refine ⟨h', e1, ⟨⟨_, v, e2, h1, ?_, ?_, ?_, h5.to e3 (fun x hx e => by have : x = b := e; omega)⟩, hm, hc.len, hc.lo, hc.byt⟩, e3⟩
  · rw [setC_at (by omega), if_neg (by decide)]; exact h2
  · rw [setC_at (by omega), if_pos rfl]
  · rw [setC_at (by omega), if_neg (by decide)]; exact h4
theorem Cur.fall (hc : Cur h lo b t at_ bad) : ∃ h', (∀ k, st1 h (.ptr b (Nat.add 0 2)) (.bool true) k = k h') ∧ Cur h' lo b t at_ true ∧ To (At b) h h' := by
  obtain ⟨B, v, o, h1, h2, h3, h4, h5⟩ := hc.own
  obtain ⟨h', e1, e2, e3, -⟩ := st1_own (o := 2) (v := .bool true) o (by omega) rfl
  refine ⟨h', e1, ⟨⟨_, v, e2, h1, ?_, ?_, ?_, h5.to e3 (fun x hx e => by have : x = b := e; omega)⟩, hc.le, hc.len, hc.lo, hc.byt⟩, e3⟩
  · rw [setC_at (by omega), if_neg (by decide)]; exact h2
  · rw [setC_at (by omega), if_neg (by decide)]; exact h3
  · rw [setC_at (by omega), if_pos rfl]

theorem t69_no (hc : Cur h lo b t at_ bad) (hw : Wf h) (n : Int) (hn : bad = true ∨ n < 0 ∨ (t.length : Int) - at_ < n) :
    ∃ h', s69 [.ptr b 0, .int 63 n] h = .ret .nils h' ∧ Cur h' lo b t at_ true ∧ To (At b) h h' ∧ Wf h' := by
  obtain ⟨v, hs, e0, e1, e2⟩ := hc.open
  obtain ⟨h', e3, c', o'⟩ := hc.fall
  refine ⟨h', ?_, c', o', o'.wf hw⟩
  have l0 := fun k => lenL_sl hs k
  have w1 : wrapC 63 ((t.length : Int) - (at_ : Int)) = (t.length : Int) - (at_ : Int) := w63_in _ (by have := hc.le; have := hc.len; omega) (by have := hc.len; omega)
  cases bad with
  | true => simp only [↓s69, ↓nck_p, ↓cP_p, ↓eqP_pn, ↓e0, ↓e1, ↓e2, ↓e3, ↓l0, Bs_len, ↓uc_c, ↓uz_n, ↓cI_i, ↓cB_b, cB_b, ↓cT_t, cT_t, nth_z, nth_1, cK_b, ↓cK_b, ↓cK_i, cK_i, ifB_t, ifB_f, ↓ap_e, sel_t, sel_f, gsel_tt, gsel_tf, gsel_ft, gsel_ff, gsel_u, gd_tt, gd_tf, gd_ft, gd_ff, gd_u, ↓jn_n, jn_n, jn_r, ↓jn_r, blk_n, blk_r, ↓cl_r, cl_r, ↓iAdd_i, ↓iSub_i, ↓iMul_i, ↓iAnd_i, ↓iOr_i, ↓iXor_i, ↓iNeg_i, iQuo_i, iRem_i, ↓iConv_i, iConv_i, ↓bNot_b, bNot_b, ↓eqN_i, ↓ltN_i, ↓eqB_b, bnot_e, Int.ofNat_eq_natCast, Int.cast_ofNat_Int, Int.reduceBEq, Int.reduceAdd, Int.reduceNeg, Int.reduceNegSucc, Int.reduceLT, Int.reduceLE, Int.reduceMul, Int.reduceTMod, Int.reduceSub, Int.reduceBNe, Bool.not_true, Bool.not_false, decide_true, decide_false, w63_in, w31_in, ne_eq, not_false_eq_true, Int.reduceEq, reduceCtorEq, ww3131, ww6363, ww3163, ww6331, ww3231, ww3263, ww6463, ww6364, sh31, sh63, sl63, m31, m63, n63, s5a, s5b, s6a, s6b, b31, b32, b63, c63, c64, d64, iShl_c, iShr_c, sr3, sr6, sr7]; rfl
  | false =>
    by_cases h1 : n < 0
    · simp only [↓s69, ↓nck_p, ↓cP_p, ↓eqP_pn, ↓e0, ↓e1, ↓e2, ↓e3, ↓l0, Bs_len, h1, ↓uc_c, ↓uz_n, ↓cI_i, ↓cB_b, cB_b, ↓cT_t, cT_t, nth_z, nth_1, cK_b, ↓cK_b, ↓cK_i, cK_i, ifB_t, ifB_f, ↓ap_e, sel_t, sel_f, gsel_tt, gsel_tf, gsel_ft, gsel_ff, gsel_u, gd_tt, gd_tf, gd_ft, gd_ff, gd_u, ↓jn_n, jn_n, jn_r, ↓jn_r, blk_n, blk_r, ↓cl_r, cl_r, ↓iAdd_i, ↓iSub_i, ↓iMul_i, ↓iAnd_i, ↓iOr_i, ↓iXor_i, ↓iNeg_i, iQuo_i, iRem_i, ↓iConv_i, iConv_i, ↓bNot_b, bNot_b, ↓eqN_i, ↓ltN_i, ↓eqB_b, bnot_e, Int.ofNat_eq_natCast, Int.cast_ofNat_Int, Int.reduceBEq, Int.reduceAdd, Int.reduceNeg, Int.reduceNegSucc, Int.reduceLT, Int.reduceLE, Int.reduceMul, Int.reduceTMod, Int.reduceSub, Int.reduceBNe, Bool.not_true, Bool.not_false, decide_true, decide_false, w63_in, w31_in, ne_eq, not_false_eq_true, Int.reduceEq, reduceCtorEq, ww3131, ww6363, ww3163, ww6331, ww3231, ww3263, ww6463, ww6364, sh31, sh63, sl63, m31, m63, n63, s5a, s5b, s6a, s6b, b31, b32, b63, c63, c64, d64, iShl_c, iShr_c, sr3, sr6, sr7]; rfl
    · have h2 : (t.length : Int) - at_ < n := by
        rcases hn with hn | hn | hn
        · cases hn
        · exact absurd hn h1
        · exact hn
      simp only [↓s69, ↓nck_p, ↓cP_p, ↓eqP_pn, ↓e0, ↓e1, ↓e2, ↓e3, ↓l0, Bs_len, h1, h2, w1, ↓uc_c, ↓uz_n, ↓cI_i, ↓cB_b, cB_b, ↓cT_t, cT_t, nth_z, nth_1, cK_b, ↓cK_b, ↓cK_i, cK_i, ifB_t, ifB_f, ↓ap_e, sel_t, sel_f, gsel_tt, gsel_tf, gsel_ft, gsel_ff, gsel_u, gd_tt, gd_tf, gd_ft, gd_ff, gd_u, ↓jn_n, jn_n, jn_r, ↓jn_r, blk_n, blk_r, ↓cl_r, cl_r, ↓iAdd_i, ↓iSub_i, ↓iMul_i, ↓iAnd_i, ↓iOr_i, ↓iXor_i, ↓iNeg_i, iQuo_i, iRem_i, ↓iConv_i, iConv_i, ↓bNot_b, bNot_b, ↓eqN_i, ↓ltN_i, ↓eqB_b, bnot_e, Int.ofNat_eq_natCast, Int.cast_ofNat_Int, Int.reduceBEq, Int.reduceAdd, Int.reduceNeg, Int.reduceNegSucc, Int.reduceLT, Int.reduceLE, Int.reduceMul, Int.reduceTMod, Int.reduceSub, Int.reduceBNe, Bool.not_true, Bool.not_false, decide_true, decide_false, w63_in, w31_in, ne_eq, not_false_eq_true, Int.reduceEq, reduceCtorEq, ww3131, ww6363, ww3163, ww6331, ww3231, ww3263, ww6463, ww6364, sh31, sh63, sl63, m31, m63, n63, s5a, s5b, s6a, s6b, b31, b32, b63, c63, c64, d64, iShl_c, iShr_c, sr3, sr6, sr7]; rfl

theorem t69_ok (hc : Cur h lo b t at_ false) (hw : Wf h) (n : Nat) (hn : at_ + n ≤ t.length) :
    ∃ v h', s69 [.ptr b 0, .int 63 (n : Int)] h = .ret v h' ∧ Sl h' (fun x => lo ≤ x ∧ x < b) v (Bs ((t.drop at_).take n)) ∧ Cur h' lo b t (at_ + n) false ∧ To (At b) h h' ∧ Wf h' := by
  obtain ⟨v, hs, e0, e1, e2⟩ := hc.open
  obtain ⟨h', e3, c', o'⟩ := hc.move (at_ + n) hn
  obtain ⟨v2, hs2, f0, f1, f2⟩ := c'.open
  have l0 := fun k => lenL_sl hs k
  have hlen := hc.len
  have w1 : wrapC 63 ((t.length : Int) - (at_ : Int)) = (t.length : Int) - (at_ : Int) := w63_in _ (by omega) (by omega)
  have w2 : wrapC 63 ((at_ : Int) + (n : Int)) = ((at_ + n : Nat) : Int) := by rw [w63_in _ (by omega) (by omega)]; omega
  have w3 : wrapC 63 (((at_ + n : Nat) : Int) - (n : Int)) = (at_ : Int) := by rw [w63_in _ (by omega) (by omega)]; omega
  have h1 : ¬ (n : Int) < 0 := by omega
  have h2 : ¬ (t.length : Int) - at_ < (n : Int) := by omega
  obtain ⟨v', g1, g2⟩ := cut_sl hs2 (c1 := 63) (c2 := 63) at_ (at_ + n) (by omega) (by rw [Bs_len]; exact hn)
  have g2' : Sl h' (fun x => lo ≤ x ∧ x < b) v' (Bs ((t.drop at_).take n)) := by
    have e : ((Bs t).drop at_).take (at_ + n - at_) = Bs ((t.drop at_).take n) := by rw [Nat.add_sub_cancel_left]; simp [Bs, List.map_drop, List.map_take]
    rwa [e] at g2
  have cv := fun k => cK_sl g2' k
  exact ⟨v', h', by simp only [↓s69, ↓nck_p, ↓cP_p, ↓eqP_pn, ↓e0, ↓e1, ↓e2, ↓e3, ↓f0, ↓f1, ↓f2, ↓l0, Bs_len, h1, h2, w1, w2, w3, ↓g1, ↓cv, ↓uc_c, ↓uz_n, ↓cI_i, ↓cB_b, cB_b, ↓cT_t, cT_t, nth_z, nth_1, cK_b, ↓cK_b, ↓cK_i, cK_i, ifB_t, ifB_f, ↓ap_e, sel_t, sel_f, gsel_tt, gsel_tf, gsel_ft, gsel_ff, gsel_u, gd_tt, gd_tf, gd_ft, gd_ff, gd_u, ↓jn_n, jn_n, jn_r, ↓jn_r, blk_n, blk_r, ↓cl_r, cl_r, ↓iAdd_i, ↓iSub_i, ↓iMul_i, ↓iAnd_i, ↓iOr_i, ↓iXor_i, ↓iNeg_i, iQuo_i, iRem_i, ↓iConv_i, iConv_i, ↓bNot_b, bNot_b, ↓eqN_i, ↓ltN_i, ↓eqB_b, bnot_e, Int.ofNat_eq_natCast, Int.cast_ofNat_Int, Int.reduceBEq, Int.reduceAdd, Int.reduceNeg, Int.reduceNegSucc, Int.reduceLT, Int.reduceLE, Int.reduceMul, Int.reduceTMod, Int.reduceSub, Int.reduceBNe, Bool.not_true, Bool.not_false, decide_true, decide_false, w63_in, w31_in, ne_eq, not_false_eq_true, Int.reduceEq, reduceCtorEq, ww3131, ww6363, ww3163, ww6331, ww3231, ww3263, ww6463, ww6364, sh31, sh63, sl63, m31, m63, n63, s5a, s5b, s6a, s6b, b31, b32, b63, c63, c64, d64, iShl_c, iShr_c, sr3, sr6, sr7], g2', c', o', o'.wf hw⟩

theorem t30 (hc : Cur h lo b t at_ bad) : s30 [.ptr b 0] h = .ret (.bool (!bad)) h := by
  obtain ⟨v, hs, e0, e1, e2⟩ := hc.open
  simp only [↓s30, ↓nck_p, ↓cP_p, ↓eqP_pn, ↓e0, ↓e1, ↓e2, ↓uc_c, ↓uz_n, ↓cI_i, ↓cB_b, cB_b, ↓cT_t, cT_t, nth_z, nth_1, cK_b, ↓cK_b, ↓cK_i, cK_i, ifB_t, ifB_f, ↓ap_e, sel_t, sel_f, gsel_tt, gsel_tf, gsel_ft, gsel_ff, gsel_u, gd_tt, gd_tf, gd_ft, gd_ff, gd_u, ↓jn_n, jn_n, jn_r, ↓jn_r, blk_n, blk_r, ↓cl_r, cl_r, ↓iAdd_i, ↓iSub_i, ↓iMul_i, ↓iAnd_i, ↓iOr_i, ↓iXor_i, ↓iNeg_i, iQuo_i, iRem_i, ↓iConv_i, iConv_i, ↓bNot_b, bNot_b, ↓eqN_i, ↓ltN_i, ↓eqB_b, bnot_e, Int.ofNat_eq_natCast, Int.cast_ofNat_Int, Int.reduceBEq, Int.reduceAdd, Int.reduceNeg, Int.reduceNegSucc, Int.reduceLT, Int.reduceLE, Int.reduceMul, Int.reduceTMod, Int.reduceSub, Int.reduceBNe, Bool.not_true, Bool.not_false, decide_true, decide_false, w63_in, w31_in, ne_eq, not_false_eq_true, Int.reduceEq, reduceCtorEq, ww3131, ww6363, ww3163, ww6331, ww3231, ww3263, ww6463, ww6364, sh31, sh63, sl63, m31, m63, n63, s5a, s5b, s6a, s6b, b31, b32, b63, c63, c64, d64, iShl_c, iShr_c, sr3, sr6, sr7]
theorem t31 (hc : Cur h lo b t at_ bad) : s31 [.ptr b 0] h = .ret (.int 63 ((t.length - at_ : Nat) : Int)) h := by
  obtain ⟨v, hs, e0, e1, e2⟩ := hc.open
  have l0 := fun k => lenL_sl hs k
  have hlen := hc.len
  have hle := hc.le
  have w1 : wrapC 63 ((t.length : Int) - (at_ : Int)) = ((t.length - at_ : Nat) : Int) := by rw [w63_in _ (by omega) (by omega)]; omega
  simp only [↓s31, ↓nck_p, ↓cP_p, ↓eqP_pn, ↓e0, ↓e1, ↓e2, ↓l0, Bs_len, w1, ↓uc_c, ↓uz_n, ↓cI_i, ↓cB_b, cB_b, ↓cT_t, cT_t, nth_z, nth_1, cK_b, ↓cK_b, ↓cK_i, cK_i, ifB_t, ifB_f, ↓ap_e, sel_t, sel_f, gsel_tt, gsel_tf, gsel_ft, gsel_ff, gsel_u, gd_tt, gd_tf, gd_ft, gd_ff, gd_u, ↓jn_n, jn_n, jn_r, ↓jn_r, blk_n, blk_r, ↓cl_r, cl_r, ↓iAdd_i, ↓iSub_i, ↓iMul_i, ↓iAnd_i, ↓iOr_i, ↓iXor_i, ↓iNeg_i, iQuo_i, iRem_i, ↓iConv_i, iConv_i, ↓bNot_b, bNot_b, ↓eqN_i, ↓ltN_i, ↓eqB_b, bnot_e, Int.ofNat_eq_natCast, Int.cast_ofNat_Int, Int.reduceBEq, Int.reduceAdd, Int.reduceNeg, Int.reduceNegSucc, Int.reduceLT, Int.reduceLE, Int.reduceMul, Int.reduceTMod, Int.reduceSub, Int.reduceBNe, Bool.not_true, Bool.not_false, decide_true, decide_false, w63_in, w31_in, ne_eq, not_false_eq_true, Int.reduceEq, reduceCtorEq, ww3131, ww6363, ww3163, ww6331, ww3231, ww3263, ww6463, ww6364, sh31, sh63, sl63, m31, m63, n63, s5a, s5b, s6a, s6b, b31, b32, b63, c63, c64, d64, iShl_c, iShr_c, sr3, sr6, sr7]
theorem t35 (hc : Cur h lo b t at_ bad) : s35 [.ptr b 0] h = .ret (.int 63 ((t.length - at_ : Nat) : Int)) h := by
  obtain ⟨v, hs, e0, e1, e2⟩ := hc.open
  have l0 := fun k => lenL_sl hs k
  have hlen := hc.len
  have hle := hc.le
  have w1 : wrapC 63 ((t.length : Int) - (at_ : Int)) = ((t.length - at_ : Nat) : Int) := by rw [w63_in _ (by omega) (by omega)]; omega
  simp only [↓s35, ↓nck_p, ↓cP_p, ↓eqP_pn, ↓e0, ↓e1, ↓e2, ↓l0, Bs_len, w1, ↓uc_c, ↓uz_n, ↓cI_i, ↓cB_b, cB_b, ↓cT_t, cT_t, nth_z, nth_1, cK_b, ↓cK_b, ↓cK_i, cK_i, ifB_t, ifB_f, ↓ap_e, sel_t, sel_f, gsel_tt, gsel_tf, gsel_ft, gsel_ff, gsel_u, gd_tt, gd_tf, gd_ft, gd_ff, gd_u, ↓jn_n, jn_n, jn_r, ↓jn_r, blk_n, blk_r, ↓cl_r, cl_r, ↓iAdd_i, ↓iSub_i, ↓iMul_i, ↓iAnd_i, ↓iOr_i, ↓iXor_i, ↓iNeg_i, iQuo_i, iRem_i, ↓iConv_i, iConv_i, ↓bNot_b, bNot_b, ↓eqN_i, ↓ltN_i, ↓eqB_b, bnot_e, Int.ofNat_eq_natCast, Int.cast_ofNat_Int, Int.reduceBEq, Int.reduceAdd, Int.reduceNeg, Int.reduceNegSucc, Int.reduceLT, Int.reduceLE, Int.reduceMul, Int.reduceTMod, Int.reduceSub, Int.reduceBNe, Bool.not_true, Bool.not_false, decide_true, decide_false, w63_in, w31_in, ne_eq, not_false_eq_true, Int.reduceEq, reduceCtorEq, ww3131, ww6363, ww3163, ww6331, ww3231, ww3263, ww6463, ww6364, sh31, sh63, sl63, m31, m63, n63, s5a, s5b, s6a, s6b, b31, b32, b63, c63, c64, d64, iShl_c, iShr_c, sr3, sr6, sr7]
theorem t34 (hc : Cur h lo b t at_ bad) : s34 [.ptr b 0] h = .ret (.int 63 (at_ : Int)) h := by
  obtain ⟨v, hs, e0, e1, e2⟩ := hc.open
  simp only [↓s34, ↓nck_p, ↓cP_p, ↓eqP_pn, ↓e0, ↓e1, ↓e2, ↓uc_c, ↓uz_n, ↓cI_i, ↓cB_b, cB_b, ↓cT_t, cT_t, nth_z, nth_1, cK_b, ↓cK_b, ↓cK_i, cK_i, ifB_t, ifB_f, ↓ap_e, sel_t, sel_f, gsel_tt, gsel_tf, gsel_ft, gsel_ff, gsel_u, gd_tt, gd_tf, gd_ft, gd_ff, gd_u, ↓jn_n, jn_n, jn_r, ↓jn_r, blk_n, blk_r, ↓cl_r, cl_r, ↓iAdd_i, ↓iSub_i, ↓iMul_i, ↓iAnd_i, ↓iOr_i, ↓iXor_i, ↓iNeg_i, iQuo_i, iRem_i, ↓iConv_i, iConv_i, ↓bNot_b, bNot_b, ↓eqN_i, ↓ltN_i, ↓eqB_b, bnot_e, Int.ofNat_eq_natCast, Int.cast_ofNat_Int, Int.reduceBEq, Int.reduceAdd, Int.reduceNeg, Int.reduceNegSucc, Int.reduceLT, Int.reduceLE, Int.reduceMul, Int.reduceTMod, Int.reduceSub, Int.reduceBNe, Bool.not_true, Bool.not_false, decide_true, decide_false, w63_in, w31_in, ne_eq, not_false_eq_true, Int.reduceEq, reduceCtorEq, ww3131, ww6363, ww3163, ww6331, ww3231, ww3263, ww6463, ww6364, sh31, sh63, sl63, m31, m63, n63, s5a, s5b, s6a, s6b, b31, b32, b63, c63, c64, d64, iShl_c, iShr_c, sr3, sr6, sr7]
end
end Go.Proofs.Ytnpfppddongbhaa
end

section
namespace Go.Proofs.Ytnpfppddongbhaa
open Go Go.AM
set_option autoImplicit false
set_option linter.unusedSimpArgs false
set_option linter.unusedVariables false
/-- A read that the cursor can do. -/
def okc (t : List Nat) (at_ : Nat) (bad : Bool) (n : Int) : Prop := bad = false ∧ 0 ≤ n ∧ n ≤ (t.length : Int) - at_
instance (t : List Nat) (at_ : Nat) (bad : Bool) (n : Int) : Decidable (okc t at_ bad n) := inferInstanceAs (Decidable (_ ∧ _ ∧ _))
def win (t : List Nat) (at_ : Nat) (bad : Bool) (n : Int) : List Nat := if okc t at_ bad n then (t.drop at_).take n.toNat else []
def nat_ (t : List Nat) (at_ : Nat) (bad : Bool) (n : Int) : Nat := if okc t at_ bad n then at_ + n.toNat else at_
def nbad (t : List Nat) (at_ : Nat) (bad : Bool) (n : Int) : Bool := if okc t at_ bad n then false else true
/-- The number that bytes state, the highest first. -/
def be : List Nat → Nat → Nat
  | [], a => a
  | x :: l, a => be l (a * 256 + x)
theorem Sl_nil (h : Hp) (P : Nat → Prop) : Sl h P .nils (Bs []) := ⟨by simp [Bs], .inl ⟨rfl, rfl⟩⟩
theorem win_byt {t : List Nat} (hb : ∀ x ∈ t, x < 256) (at_ : Nat) (bad : Bool) (n : Int) : ∀ x ∈ win t at_ bad n, x < 256 := by
  intro x hx
  unfold win at hx
  split at hx
  · exact hb x (List.mem_of_mem_drop (List.mem_of_mem_take hx))
  · cases hx
theorem win_len (t : List Nat) (at_ : Nat) (bad : Bool) (n : Int) : (win t at_ bad n).length ≤ n.toNat := by
  unfold win
  split
  · simp; omega
  · simp
theorem win_len2 (t : List Nat) (at_ : Nat) (bad : Bool) (n : Int) : (win t at_ bad n).length ≤ t.length := by
  unfold win
  split
  · simp; omega
  · simp
section
variable {h : Hp} {lo b at_ : Nat} {t : List Nat} {bad : Bool}
theorem t69 (hc : Cur h lo b t at_ bad) (hw : Wf h) (n : Int) :
    ∃ v h', s69 [.ptr b 0, .int 63 n] h = .ret v h' ∧ Sl h' (fun x => lo ≤ x ∧ x < b) v (Bs (win t at_ bad n)) ∧ Cur h' lo b t (nat_ t at_ bad n) (nbad t at_ bad n) ∧ To (At b) h h' ∧ Wf h' := by
  by_cases ho : okc t at_ bad n
  · obtain ⟨rfl, h0, h1⟩ := id ho
    obtain ⟨m, rfl⟩ : ∃ m : Nat, n = (m : Int) := ⟨n.toNat, by omega⟩
    have := hc.le
    have r := t69_ok hc hw m (by omega)
    simp only [win, nat_, nbad, if_pos ho, Int.toNat_natCast]
    exact r
  · obtain ⟨h', e1, e2, e3, e4⟩ := t69_no hc hw n (by
      cases bad with
      | true => exact .inl rfl
      | false =>
        refine .inr ?_
        by_cases h0 : n < 0
        · exact .inl h0
        · refine .inr ?_
          have : ¬ (n ≤ (t.length : Int) - at_) := fun h1 => ho ⟨rfl, by omega, h1⟩
          omega)
    simp only [win, nat_, nbad, if_neg ho]
    exact ⟨.nils, h', e1, Sl_nil _ _, e2, e3, e4⟩

theorem sh8 (m : Int) (k : AV → Res) : iShl (.int 63 m) (.int 64 (.ofNat 8)) k = k (.int 63 (wrapC 63 (m * 256))) := iShl_i k 63 m 64 8 (by decide)
theorem c8 (x : Nat) (hx : x < 256) : wrapC 63 (x : Int) = (x : Int) := w63_in _ (by omega) (by omega)
theorem m8 (a : Nat) (ha : a < 1099511627776) : wrapC 63 ((a : Int) * 256) = ((a * 256 : Nat) : Int) := by rw [w63_in _ (by omega) (by omega)]; omega
theorem or8 (a x : Nat) (ha : a < 1099511627776) (hx : x < 256) : wrapC 63 ((Nat.lor (toU 63 ((a * 256 : Nat) : Int)) (toU 63 (x : Int)) : Nat) : Int) = ((a * 256 + x : Nat) : Int) := by
  have e1 : toU 63 ((a * 256 : Nat) : Int) = a * 256 := by have := toU63 ((a * 256 : Nat) : Int); omega
  have e2 : toU 63 (x : Int) = x := by have := toU63 (x : Int); omega
  have e3 : Nat.lor (a * 256) x = a * 256 + x := by
    have := Nat.two_pow_add_eq_or_of_lt (i := 8) (b := x) (by omega) a
    have e : Nat.lor (a * 256) x = (2 ^ 8 * a) ||| x := by rw [Nat.mul_comm]; rfl
    rw [e, ← this]; omega
  rw [e1, e2, e3]
  exact w63_in _ (by omega) (by omega)
theorem ad8 (a x : Nat) (ha : a < 1099511627776) (hx : x < 256) : wrapC 63 (((a * 256 : Nat) : Int) + (x : Int)) = ((a * 256 + x : Nat) : Int) := by rw [w63_in _ (by omega) (by omega)]; omega
theorem s1n (i : Nat) (hi : i < 1000000) : wrapC 63 ((i : Int) + 1) = ((i + 1 : Nat) : Int) := by rw [w63_in _ (by omega) (by omega)]; omega

theorem loop70 {P : Nat → Prop} {v : AV} {l : List Nat} (hs : Sl h P v (Bs l)) (hl : l.length ≤ 4) (hb : ∀ x ∈ l, x < 256) : ∀ (f m i a : Nat), l.length - i ≤ f → f < m → i ≤ l.length → a < 256 ^ i → lp L70n0 m [.int 63 (a : Int), v, .int 63 (l.length : Int), .int 63 (i : Int)] h = .exit 0 [.int 63 (be (l.drop i) a : Int)] h := by
  have stop : ∀ (f m i a : Nat), f < m → ¬ i < l.length → lp L70n0 m [.int 63 (a : Int), v, .int 63 (l.length : Int), .int 63 (i : Int)] h = .exit 0 [.int 63 (be (l.drop i) a : Int)] h := by
    intro f m i a hm hi
    obtain ⟨m, rfl⟩ : ∃ k, m = k + 1 := ⟨m - 1, by omega⟩
    have e1 : ¬ (i : Int) < (l.length : Int) := by omega
    have e : L70n0 [.int 63 (a : Int), v, .int 63 (l.length : Int), .int 63 (i : Int)] h = .exit 0 [.int 63 (a : Int)] h := by simp only [↓L70n0, e1, ↓uc_c, ↓uz_n, ↓cI_i, ↓cB_b, cB_b, ↓cT_t, cT_t, nth_z, nth_1, cK_b, ↓cK_b, ↓cK_i, cK_i, ifB_t, ifB_f, ↓ap_e, sel_t, sel_f, gsel_tt, gsel_tf, gsel_ft, gsel_ff, gsel_u, gd_tt, gd_tf, gd_ft, gd_ff, gd_u, ↓jn_n, jn_n, jn_r, ↓jn_r, blk_n, blk_r, ↓cl_r, cl_r, ↓iAdd_i, ↓iSub_i, ↓iMul_i, ↓iAnd_i, ↓iOr_i, ↓iXor_i, ↓iNeg_i, iQuo_i, iRem_i, ↓iConv_i, iConv_i, ↓bNot_b, bNot_b, ↓eqN_i, ↓ltN_i, ↓eqB_b, bnot_e, Int.ofNat_eq_natCast, Int.cast_ofNat_Int, Int.reduceBEq, Int.reduceAdd, Int.reduceNeg, Int.reduceNegSucc, Int.reduceLT, Int.reduceLE, Int.reduceMul, Int.reduceTMod, Int.reduceSub, Int.reduceBNe, Bool.not_true, Bool.not_false, decide_true, decide_false, w63_in, w31_in, ne_eq, not_false_eq_true, Int.reduceEq, reduceCtorEq, ww3131, ww6363, ww3163, ww6331, ww3231, ww3263, ww6463, ww6364, sh31, sh63, sl63, m31, m63, n63, s5a, s5b, s6a, s6b, b31, b32, b63, c63, c64, d64, iShl_c, iShr_c, sr3, sr6, sr7]
    rw [List.drop_eq_nil_of_le (by omega)]
    exact lpx m e
  intro f
  induction f with
  | zero => intro m i a hf hm hi ha; exact stop 0 m i a hm (by omega)
  | succ f ih =>
    intro m i a hf hm hi ha
    by_cases hin : i < l.length
    · obtain ⟨m, rfl⟩ : ∃ k, m = k + 1 := ⟨m - 1, by omega⟩
      have e1 : (i : Int) < (l.length : Int) := by omega
      have hx : l[i] < 256 := hb _ (List.getElem_mem _)
      have g : (Bs l)[i]'(by rw [Bs_len]; exact hin) = .int 8 (l[i] : Int) := by simp [Bs]
      have iv := fun k => ix_sl hs (c := 63) i (by rw [Bs_len]; exact hin) k
      rw [g] at iv
      have ha' : a < 1099511627776 := Nat.lt_of_lt_of_le ha (Nat.le_trans (Nat.pow_le_pow_right (by omega) (show i ≤ 4 by omega)) (by decide))
      have e : L70n0 [.int 63 (a : Int), v, .int 63 (l.length : Int), .int 63 (i : Int)] h = .norm [.int 63 ((a * 256 + l[i] : Nat) : Int), v, .int 63 (l.length : Int), .int 63 ((i + 1 : Nat) : Int)] h := by
        simp only [↓L70n0, e1, ↓iv, ↓sh8, m8 a ha', c8 _ hx, or8 a _ ha' hx, s1n i (by omega), ↓uc_c, ↓uz_n, ↓cI_i, ↓cB_b, cB_b, ↓cT_t, cT_t, nth_z, nth_1, cK_b, ↓cK_b, ↓cK_i, cK_i, ifB_t, ifB_f, ↓ap_e, sel_t, sel_f, gsel_tt, gsel_tf, gsel_ft, gsel_ff, gsel_u, gd_tt, gd_tf, gd_ft, gd_ff, gd_u, ↓jn_n, jn_n, jn_r, ↓jn_r, blk_n, blk_r, ↓cl_r, cl_r, ↓iAdd_i, ↓iSub_i, ↓iMul_i, ↓iAnd_i, ↓iOr_i, ↓iXor_i, ↓iNeg_i, iQuo_i, iRem_i, ↓iConv_i, iConv_i, ↓bNot_b, bNot_b, ↓eqN_i, ↓ltN_i, ↓eqB_b, bnot_e, Int.ofNat_eq_natCast, Int.cast_ofNat_Int, Int.reduceBEq, Int.reduceAdd, Int.reduceNeg, Int.reduceNegSucc, Int.reduceLT, Int.reduceLE, Int.reduceMul, Int.reduceTMod, Int.reduceSub, Int.reduceBNe, Bool.not_true, Bool.not_false, decide_true, decide_false, w63_in, w31_in, ne_eq, not_false_eq_true, Int.reduceEq, reduceCtorEq, ww3131, ww6363, ww3163, ww6331, ww3231, ww3263, ww6463, ww6364, sh31, sh63, sl63, m31, m63, n63, s5a, s5b, s6a, s6b, b31, b32, b63, c63, c64, d64, iShl_c, iShr_c, sr3, sr6, sr7]
      rw [lpn m e]
      have := ih m (i + 1) (a * 256 + l[i]) (by omega) (by omega) (by omega) (by rw [Nat.pow_succ]; omega)
      rw [this]
      have hd : l.drop i = l[i] :: l.drop (i + 1) := List.drop_eq_getElem_cons hin
      rw [hd]; rfl
    · exact stop (f + 1) m i a hm hin

theorem t70 (hc : Cur h lo b t at_ bad) (hw : Wf h) (n : Nat) (hn : n ≤ 4) :
    ∃ h', s70 [.ptr b 0, .int 63 (n : Int)] h = .ret (.int 63 (be (win t at_ bad n) 0 : Int)) h' ∧ Cur h' lo b t (nat_ t at_ bad n) (nbad t at_ bad n) ∧ To (At b) h h' ∧ Wf h' := by
  obtain ⟨v, h', e1, s1, c1, o1, w1⟩ := t69 hc hw (n : Int)
  have hl := win_len t at_ bad n
  have lp0 := loop70 s1 (by omega) (win_byt hc.byt _ _ _) (win t at_ bad n).length most 0 0 (by omega) (show _ < 1000000 by omega) (by omega) (by decide)
  have z0 : ((0 : Nat) : Int) = 0 := rfl
  rw [z0] at lp0
  have l0 := fun k => lenL_sl s1 k
  rw [List.drop_zero] at lp0
  exact ⟨h', by simp only [↓s70, ↓e1, ↓l0, Bs_len, lp0, blk_e, ↓uc_c, ↓uz_n, ↓cI_i, ↓cB_b, cB_b, ↓cT_t, cT_t, nth_z, nth_1, cK_b, ↓cK_b, ↓cK_i, cK_i, ifB_t, ifB_f, ↓ap_e, sel_t, sel_f, gsel_tt, gsel_tf, gsel_ft, gsel_ff, gsel_u, gd_tt, gd_tf, gd_ft, gd_ff, gd_u, ↓jn_n, jn_n, jn_r, ↓jn_r, blk_n, blk_r, ↓cl_r, cl_r, ↓iAdd_i, ↓iSub_i, ↓iMul_i, ↓iAnd_i, ↓iOr_i, ↓iXor_i, ↓iNeg_i, iQuo_i, iRem_i, ↓iConv_i, iConv_i, ↓bNot_b, bNot_b, ↓eqN_i, ↓ltN_i, ↓eqB_b, bnot_e, Int.ofNat_eq_natCast, Int.cast_ofNat_Int, Int.reduceBEq, Int.reduceAdd, Int.reduceNeg, Int.reduceNegSucc, Int.reduceLT, Int.reduceLE, Int.reduceMul, Int.reduceTMod, Int.reduceSub, Int.reduceBNe, Bool.not_true, Bool.not_false, decide_true, decide_false, w63_in, w31_in, ne_eq, not_false_eq_true, Int.reduceEq, reduceCtorEq, ww3131, ww6363, ww3163, ww6331, ww3231, ww3263, ww6463, ww6364, sh31, sh63, sl63, m31, m63, n63, s5a, s5b, s6a, s6b, b31, b32, b63, c63, c64, d64, iShl_c, iShr_c, sr3, sr6, sr7]; rfl, c1, o1, w1⟩
theorem t27 (hc : Cur h lo b t at_ bad) (hw : Wf h) :
    ∃ h', s27 [.ptr b 0] h = .ret (.int 63 (be (win t at_ bad 1) 0 : Int)) h' ∧ Cur h' lo b t (nat_ t at_ bad 1) (nbad t at_ bad 1) ∧ To (At b) h h' ∧ Wf h' := by
  obtain ⟨h', e, r⟩ := t70 hc hw 1 (by decide)
  have z0 : ((1 : Nat) : Int) = 1 := rfl
  rw [z0] at e r
  exact ⟨h', by simp only [↓s27, e, ↓uc_c, ↓uz_n, ↓cI_i, ↓cB_b, cB_b, ↓cT_t, cT_t, nth_z, nth_1, cK_b, ↓cK_b, ↓cK_i, cK_i, ifB_t, ifB_f, ↓ap_e, sel_t, sel_f, gsel_tt, gsel_tf, gsel_ft, gsel_ff, gsel_u, gd_tt, gd_tf, gd_ft, gd_ff, gd_u, ↓jn_n, jn_n, jn_r, ↓jn_r, blk_n, blk_r, ↓cl_r, cl_r, ↓iAdd_i, ↓iSub_i, ↓iMul_i, ↓iAnd_i, ↓iOr_i, ↓iXor_i, ↓iNeg_i, iQuo_i, iRem_i, ↓iConv_i, iConv_i, ↓bNot_b, bNot_b, ↓eqN_i, ↓ltN_i, ↓eqB_b, bnot_e, Int.ofNat_eq_natCast, Int.cast_ofNat_Int, Int.reduceBEq, Int.reduceAdd, Int.reduceNeg, Int.reduceNegSucc, Int.reduceLT, Int.reduceLE, Int.reduceMul, Int.reduceTMod, Int.reduceSub, Int.reduceBNe, Bool.not_true, Bool.not_false, decide_true, decide_false, w63_in, w31_in, ne_eq, not_false_eq_true, Int.reduceEq, reduceCtorEq, ww3131, ww6363, ww3163, ww6331, ww3231, ww3263, ww6463, ww6364, sh31, sh63, sl63, m31, m63, n63, s5a, s5b, s6a, s6b, b31, b32, b63, c63, c64, d64, iShl_c, iShr_c, sr3, sr6, sr7], r⟩
theorem t28 (hc : Cur h lo b t at_ bad) (hw : Wf h) :
    ∃ h', s28 [.ptr b 0] h = .ret (.int 63 (be (win t at_ bad 2) 0 : Int)) h' ∧ Cur h' lo b t (nat_ t at_ bad 2) (nbad t at_ bad 2) ∧ To (At b) h h' ∧ Wf h' := by
  obtain ⟨h', e, r⟩ := t70 hc hw 2 (by decide)
  have z0 : ((2 : Nat) : Int) = 2 := rfl
  rw [z0] at e r
  exact ⟨h', by simp only [↓s28, e, ↓uc_c, ↓uz_n, ↓cI_i, ↓cB_b, cB_b, ↓cT_t, cT_t, nth_z, nth_1, cK_b, ↓cK_b, ↓cK_i, cK_i, ifB_t, ifB_f, ↓ap_e, sel_t, sel_f, gsel_tt, gsel_tf, gsel_ft, gsel_ff, gsel_u, gd_tt, gd_tf, gd_ft, gd_ff, gd_u, ↓jn_n, jn_n, jn_r, ↓jn_r, blk_n, blk_r, ↓cl_r, cl_r, ↓iAdd_i, ↓iSub_i, ↓iMul_i, ↓iAnd_i, ↓iOr_i, ↓iXor_i, ↓iNeg_i, iQuo_i, iRem_i, ↓iConv_i, iConv_i, ↓bNot_b, bNot_b, ↓eqN_i, ↓ltN_i, ↓eqB_b, bnot_e, Int.ofNat_eq_natCast, Int.cast_ofNat_Int, Int.reduceBEq, Int.reduceAdd, Int.reduceNeg, Int.reduceNegSucc, Int.reduceLT, Int.reduceLE, Int.reduceMul, Int.reduceTMod, Int.reduceSub, Int.reduceBNe, Bool.not_true, Bool.not_false, decide_true, decide_false, w63_in, w31_in, ne_eq, not_false_eq_true, Int.reduceEq, reduceCtorEq, ww3131, ww6363, ww3163, ww6331, ww3231, ww3263, ww6463, ww6364, sh31, sh63, sl63, m31, m63, n63, s5a, s5b, s6a, s6b, b31, b32, b63, c63, c64, d64, iShl_c, iShr_c, sr3, sr6, sr7], r⟩
theorem t29 (hc : Cur h lo b t at_ bad) (hw : Wf h) :
    ∃ h', s29 [.ptr b 0] h = .ret (.int 63 (be (win t at_ bad 4) 0 : Int)) h' ∧ Cur h' lo b t (nat_ t at_ bad 4) (nbad t at_ bad 4) ∧ To (At b) h h' ∧ Wf h' := by
  obtain ⟨h', e, r⟩ := t70 hc hw 4 (by decide)
  have z0 : ((4 : Nat) : Int) = 4 := rfl
  rw [z0] at e r
  exact ⟨h', by simp only [↓s29, e, ↓uc_c, ↓uz_n, ↓cI_i, ↓cB_b, cB_b, ↓cT_t, cT_t, nth_z, nth_1, cK_b, ↓cK_b, ↓cK_i, cK_i, ifB_t, ifB_f, ↓ap_e, sel_t, sel_f, gsel_tt, gsel_tf, gsel_ft, gsel_ff, gsel_u, gd_tt, gd_tf, gd_ft, gd_ff, gd_u, ↓jn_n, jn_n, jn_r, ↓jn_r, blk_n, blk_r, ↓cl_r, cl_r, ↓iAdd_i, ↓iSub_i, ↓iMul_i, ↓iAnd_i, ↓iOr_i, ↓iXor_i, ↓iNeg_i, iQuo_i, iRem_i, ↓iConv_i, iConv_i, ↓bNot_b, bNot_b, ↓eqN_i, ↓ltN_i, ↓eqB_b, bnot_e, Int.ofNat_eq_natCast, Int.cast_ofNat_Int, Int.reduceBEq, Int.reduceAdd, Int.reduceNeg, Int.reduceNegSucc, Int.reduceLT, Int.reduceLE, Int.reduceMul, Int.reduceTMod, Int.reduceSub, Int.reduceBNe, Bool.not_true, Bool.not_false, decide_true, decide_false, w63_in, w31_in, ne_eq, not_false_eq_true, Int.reduceEq, reduceCtorEq, ww3131, ww6363, ww3163, ww6331, ww3231, ww3263, ww6463, ww6364, sh31, sh63, sl63, m31, m63, n63, s5a, s5b, s6a, s6b, b31, b32, b63, c63, c64, d64, iShl_c, iShr_c, sr3, sr6, sr7], r⟩

/-- Bytes out of a cursor: a copy. -/
theorem t26 (hc : Cur h lo b t at_ bad) (hw : Wf h) (n : Int) :
    ∃ v h', s26 [.ptr b 0, .int 63 n] h = .ret v h' ∧ Sl h' (fun x => h.nb ≤ x ∧ x < h'.nb) v (Bs (win t at_ bad n)) ∧ Cur h' lo b t (nat_ t at_ bad n) (nbad t at_ bad n) ∧ To (At b) h h' ∧ Wf h' := by
  obtain ⟨v, h1, e1, s1, c1, o1, w1⟩ := t69 hc hw n
  have hl := win_len2 t at_ bad n
  obtain ⟨v2, h2, e2, s2, o2, w2⟩ := t68 s1 w1 (by have := hc.len; omega)
  have cv := fun k => cK_sl s2 k
  refine ⟨v2, h2, by simp only [↓s26, ↓e1, ↓e2, ↓cv, ↓uc_c, ↓uz_n, ↓cI_i, ↓cB_b, cB_b, ↓cT_t, cT_t, nth_z, nth_1, cK_b, ↓cK_b, ↓cK_i, cK_i, ifB_t, ifB_f, ↓ap_e, sel_t, sel_f, gsel_tt, gsel_tf, gsel_ft, gsel_ff, gsel_u, gd_tt, gd_tf, gd_ft, gd_ff, gd_u, ↓jn_n, jn_n, jn_r, ↓jn_r, blk_n, blk_r, ↓cl_r, cl_r, ↓iAdd_i, ↓iSub_i, ↓iMul_i, ↓iAnd_i, ↓iOr_i, ↓iXor_i, ↓iNeg_i, iQuo_i, iRem_i, ↓iConv_i, iConv_i, ↓bNot_b, bNot_b, ↓eqN_i, ↓ltN_i, ↓eqB_b, bnot_e, Int.ofNat_eq_natCast, Int.cast_ofNat_Int, Int.reduceBEq, Int.reduceAdd, Int.reduceNeg, Int.reduceNegSucc, Int.reduceLT, Int.reduceLE, Int.reduceMul, Int.reduceTMod, Int.reduceSub, Int.reduceBNe, Bool.not_true, Bool.not_false, decide_true, decide_false, w63_in, w31_in, ne_eq, not_false_eq_true, Int.reduceEq, reduceCtorEq, ww3131, ww6363, ww3163, ww6331, ww3231, ww3263, ww6463, ww6364, sh31, sh63, sl63, m31, m63, n63, s5a, s5b, s6a, s6b, b31, b32, b63, c63, c64, d64, iShl_c, iShr_c, sr3, sr6, sr7], s2.mono (fun x hx => ⟨Nat.le_trans o1.nb hx.1, hx.2⟩), c1.to o2 (fun _ _ _ f => f), o1.trans (o2.mono fun _ _ f => f.elim), w2⟩
end
end Go.Proofs.Ytnpfppddongbhaa
end

section
namespace Go.Proofs.Ytnpfppddongbhaa
open Go Go.AM
set_option autoImplicit false
set_option linter.unusedSimpArgs false
set_option linter.unusedVariables false
section
variable {h : Hp} {lo b at_ : Nat} {t : List Nat} {bad : Bool}
theorem loop32 (hc : Cur h lo b t at_ bad) (n : Nat) (hn : n ≤ 4) (ht : at_ + n ≤ t.length) : ∀ (f m i a : Nat), n - i ≤ f → f < m → i ≤ n → a < 256 ^ i →
    lp L32n0 m [.ptr b 0, .int 63 (n : Int), .int 63 (a : Int), .int 63 (i : Int)] h = .exit 0 [.ptr b 0, .int 63 (n : Int), .int 63 (be (((t.drop at_).take n).drop i) a : Int)] h := by
  obtain ⟨v, hs, e0, e1, e2⟩ := hc.open
  have hlen := hc.len
  have hll : ((t.drop at_).take n).length = n := by simp; omega
  have stop : ∀ (f m i a : Nat), f < m → ¬ i < n → lp L32n0 m [.ptr b 0, .int 63 (n : Int), .int 63 (a : Int), .int 63 (i : Int)] h = .exit 0 [.ptr b 0, .int 63 (n : Int), .int 63 (be (((t.drop at_).take n).drop i) a : Int)] h := by
    intro f m i a hm hi
    obtain ⟨m, rfl⟩ : ∃ k, m = k + 1 := ⟨m - 1, by omega⟩
    have e3 : ¬ (i : Int) < (n : Int) := by omega
    have e : L32n0 [.ptr b 0, .int 63 (n : Int), .int 63 (a : Int), .int 63 (i : Int)] h = .exit 0 [.ptr b 0, .int 63 (n : Int), .int 63 (a : Int)] h := by simp only [↓L32n0, e3, ↓uc_c, ↓uz_n, ↓cI_i, ↓cB_b, cB_b, ↓cT_t, cT_t, nth_z, nth_1, cK_b, ↓cK_b, ↓cK_i, cK_i, ifB_t, ifB_f, ↓ap_e, sel_t, sel_f, gsel_tt, gsel_tf, gsel_ft, gsel_ff, gsel_u, gd_tt, gd_tf, gd_ft, gd_ff, gd_u, ↓jn_n, jn_n, jn_r, ↓jn_r, blk_n, blk_r, ↓cl_r, cl_r, ↓iAdd_i, ↓iSub_i, ↓iMul_i, ↓iAnd_i, ↓iOr_i, ↓iXor_i, ↓iNeg_i, iQuo_i, iRem_i, ↓iConv_i, iConv_i, ↓bNot_b, bNot_b, ↓eqN_i, ↓ltN_i, ↓eqB_b, bnot_e, Int.ofNat_eq_natCast, Int.cast_ofNat_Int, Int.reduceBEq, Int.reduceAdd, Int.reduceNeg, Int.reduceNegSucc, Int.reduceLT, Int.reduceLE, Int.reduceMul, Int.reduceTMod, Int.reduceSub, Int.reduceBNe, Bool.not_true, Bool.not_false, decide_true, decide_false, w63_in, w31_in, ne_eq, not_false_eq_true, Int.reduceEq, reduceCtorEq, ww3131, ww6363, ww3163, ww6331, ww3231, ww3263, ww6463, ww6364, sh31, sh63, sl63, m31, m63, n63, s5a, s5b, s6a, s6b, b31, b32, b63, c63, c64, d64, iShl_c, iShr_c, sr3, sr6, sr7]
    rw [List.drop_eq_nil_of_le (by omega)]
    exact lpx m e
  intro f
  induction f with
  | zero => intro m i a hf hm hi ha; exact stop 0 m i a hm (by omega)
  | succ f ih =>
    intro m i a hf hm hi ha
    by_cases hin : i < n
    · obtain ⟨m, rfl⟩ : ∃ k, m = k + 1 := ⟨m - 1, by omega⟩
      have e3 : (i : Int) < (n : Int) := by omega
      have hit : at_ + i < t.length := by omega
      have hx : t[at_ + i] < 256 := hc.byt _ (List.getElem_mem _)
      have g : (Bs t)[at_ + i]'(by rw [Bs_len]; exact hit) = .int 8 (t[at_ + i] : Int) := by simp [Bs]
      have iv := fun k => ix_sl hs (c := 63) (at_ + i) (by rw [Bs_len]; exact hit) k
      rw [g] at iv
      have ha' : a < 1099511627776 := Nat.lt_of_lt_of_le ha (Nat.le_trans (Nat.pow_le_pow_right (by omega) (show i ≤ 4 by omega)) (by decide))
      have w1 : wrapC 63 ((at_ : Int) + (i : Int)) = ((at_ + i : Nat) : Int) := by rw [w63_in _ (by omega) (by omega)]; omega
      have e : L32n0 [.ptr b 0, .int 63 (n : Int), .int 63 (a : Int), .int 63 (i : Int)] h = .norm [.ptr b 0, .int 63 (n : Int), .int 63 ((a * 256 + t[at_ + i] : Nat) : Int), .int 63 ((i + 1 : Nat) : Int)] h := by
        simp only [↓L32n0, ↓nck_p, ↓cP_p, ↓e0, ↓e1, ↓e2, e3, w1, ↓iv, ↓sh8, m8 a ha', c8 _ hx, ad8 a _ ha' hx, s1n i (by omega), ↓uc_c, ↓uz_n, ↓cI_i, ↓cB_b, cB_b, ↓cT_t, cT_t, nth_z, nth_1, cK_b, ↓cK_b, ↓cK_i, cK_i, ifB_t, ifB_f, ↓ap_e, sel_t, sel_f, gsel_tt, gsel_tf, gsel_ft, gsel_ff, gsel_u, gd_tt, gd_tf, gd_ft, gd_ff, gd_u, ↓jn_n, jn_n, jn_r, ↓jn_r, blk_n, blk_r, ↓cl_r, cl_r, ↓iAdd_i, ↓iSub_i, ↓iMul_i, ↓iAnd_i, ↓iOr_i, ↓iXor_i, ↓iNeg_i, iQuo_i, iRem_i, ↓iConv_i, iConv_i, ↓bNot_b, bNot_b, ↓eqN_i, ↓ltN_i, ↓eqB_b, bnot_e, Int.ofNat_eq_natCast, Int.cast_ofNat_Int, Int.reduceBEq, Int.reduceAdd, Int.reduceNeg, Int.reduceNegSucc, Int.reduceLT, Int.reduceLE, Int.reduceMul, Int.reduceTMod, Int.reduceSub, Int.reduceBNe, Bool.not_true, Bool.not_false, decide_true, decide_false, w63_in, w31_in, ne_eq, not_false_eq_true, Int.reduceEq, reduceCtorEq, ww3131, ww6363, ww3163, ww6331, ww3231, ww3263, ww6463, ww6364, sh31, sh63, sl63, m31, m63, n63, s5a, s5b, s6a, s6b, b31, b32, b63, c63, c64, d64, iShl_c, iShr_c, sr3, sr6, sr7]
      rw [lpn m e]
      have := ih m (i + 1) (a * 256 + t[at_ + i]) (by omega) (by omega) (by omega) (by rw [Nat.pow_succ]; omega)
      rw [this]
      have hd : ((t.drop at_).take n).drop i = t[at_ + i] :: ((t.drop at_).take n).drop (i + 1) := by
        rw [List.drop_eq_getElem_cons (by rw [hll]; exact hin)]
        simp
      rw [hd]; rfl
    · exact stop (f + 1) m i a hm hin

theorem t32 (hc : Cur h lo b t at_ bad) (hw : Wf h) (n : Nat) (hn : n ≤ 4) :
    ∃ h', s32 [.ptr b 0, .int 63 (n : Int)] h = .ret (.int 63 (be (win t at_ bad n) 0 : Int)) h' ∧ Cur h' lo b t (nat_ t at_ bad n) (nbad t at_ bad n) ∧ To (At b) h h' ∧ Wf h' := by
  obtain ⟨v, hs, e0, e1, e2⟩ := hc.open
  have l0 := fun k => lenL_sl hs k
  have hlen := hc.len
  have hle := hc.le
  have w1 : wrapC 63 ((t.length : Int) - (at_ : Int)) = (t.length : Int) - (at_ : Int) := w63_in _ (by omega) (by omega)
  have z0 : ((0 : Nat) : Int) = 0 := rfl
  by_cases ho : okc t at_ bad (n : Int)
  · obtain ⟨rfl, h0, h1⟩ := id ho
    obtain ⟨h', e3, c', o'⟩ := hc.move (at_ + n) (by omega)
    have w2 : wrapC 63 ((at_ : Int) + (n : Int)) = ((at_ + n : Nat) : Int) := by rw [w63_in _ (by omega) (by omega)]; omega
    have h2 : ¬ (t.length : Int) - at_ < (n : Int) := by omega
    have lp0 := loop32 hc n hn (by omega) n most 0 0 (by omega) (show _ < 1000000 by omega) (by omega) (by decide)
    rw [z0, List.drop_zero] at lp0
    simp only [win, nat_, nbad, if_pos ho, Int.toNat_natCast]
    refine ⟨h', ?_, c', o', o'.wf hw⟩
    simp only [↓s32, ↓nck_p, ↓cP_p, ↓eqP_pn, ↓e0, ↓e1, ↓e2, ↓e3, ↓l0, Bs_len, h2, w1, w2, lp0, blk_e, ↓uc_c, ↓uz_n, ↓cI_i, ↓cB_b, cB_b, ↓cT_t, cT_t, nth_z, nth_1, cK_b, ↓cK_b, ↓cK_i, cK_i, ifB_t, ifB_f, ↓ap_e, sel_t, sel_f, gsel_tt, gsel_tf, gsel_ft, gsel_ff, gsel_u, gd_tt, gd_tf, gd_ft, gd_ff, gd_u, ↓jn_n, jn_n, jn_r, ↓jn_r, blk_n, blk_r, ↓cl_r, cl_r, ↓iAdd_i, ↓iSub_i, ↓iMul_i, ↓iAnd_i, ↓iOr_i, ↓iXor_i, ↓iNeg_i, iQuo_i, iRem_i, ↓iConv_i, iConv_i, ↓bNot_b, bNot_b, ↓eqN_i, ↓ltN_i, ↓eqB_b, bnot_e, Int.ofNat_eq_natCast, Int.cast_ofNat_Int, Int.reduceBEq, Int.reduceAdd, Int.reduceNeg, Int.reduceNegSucc, Int.reduceLT, Int.reduceLE, Int.reduceMul, Int.reduceTMod, Int.reduceSub, Int.reduceBNe, Bool.not_true, Bool.not_false, decide_true, decide_false, w63_in, w31_in, ne_eq, not_false_eq_true, Int.reduceEq, reduceCtorEq, ww3131, ww6363, ww3163, ww6331, ww3231, ww3263, ww6463, ww6364, sh31, sh63, sl63, m31, m63, n63, s5a, s5b, s6a, s6b, b31, b32, b63, c63, c64, d64, iShl_c, iShr_c, sr3, sr6, sr7]
    simp only [show Nat.beq 0 0 = true from rfl, ↓nck_p, ↓cP_p, ↓e0, ↓e1, ↓e2, ↓e3, w2, ↓uc_c, ↓uz_n, ↓cI_i, ↓cB_b, cB_b, ↓cT_t, cT_t, nth_z, nth_1, cK_b, ↓cK_b, ↓cK_i, cK_i, ifB_t, ifB_f, ↓ap_e, sel_t, sel_f, gsel_tt, gsel_tf, gsel_ft, gsel_ff, gsel_u, gd_tt, gd_tf, gd_ft, gd_ff, gd_u, ↓jn_n, jn_n, jn_r, ↓jn_r, blk_n, blk_r, ↓cl_r, cl_r, ↓iAdd_i, ↓iSub_i, ↓iMul_i, ↓iAnd_i, ↓iOr_i, ↓iXor_i, ↓iNeg_i, iQuo_i, iRem_i, ↓iConv_i, iConv_i, ↓bNot_b, bNot_b, ↓eqN_i, ↓ltN_i, ↓eqB_b, bnot_e, Int.ofNat_eq_natCast, Int.cast_ofNat_Int, Int.reduceBEq, Int.reduceAdd, Int.reduceNeg, Int.reduceNegSucc, Int.reduceLT, Int.reduceLE, Int.reduceMul, Int.reduceTMod, Int.reduceSub, Int.reduceBNe, Bool.not_true, Bool.not_false, decide_true, decide_false, w63_in, w31_in, ne_eq, not_false_eq_true, Int.reduceEq, reduceCtorEq, ww3131, ww6363, ww3163, ww6331, ww3231, ww3263, ww6463, ww6364, sh31, sh63, sl63, m31, m63, n63, s5a, s5b, s6a, s6b, b31, b32, b63, c63, c64, d64, iShl_c, iShr_c, sr3, sr6, sr7]
  · obtain ⟨h', e3, c', o'⟩ := hc.fall
    simp only [win, nat_, nbad, if_neg ho]
    refine ⟨h', ?_, c', o', o'.wf hw⟩
    cases bad with
    | true => simp only [↓s32, ↓nck_p, ↓cP_p, ↓eqP_pn, ↓e0, ↓e1, ↓e2, ↓e3, ↓l0, Bs_len, ↓uc_c, ↓uz_n, ↓cI_i, ↓cB_b, cB_b, ↓cT_t, cT_t, nth_z, nth_1, cK_b, ↓cK_b, ↓cK_i, cK_i, ifB_t, ifB_f, ↓ap_e, sel_t, sel_f, gsel_tt, gsel_tf, gsel_ft, gsel_ff, gsel_u, gd_tt, gd_tf, gd_ft, gd_ff, gd_u, ↓jn_n, jn_n, jn_r, ↓jn_r, blk_n, blk_r, ↓cl_r, cl_r, ↓iAdd_i, ↓iSub_i, ↓iMul_i, ↓iAnd_i, ↓iOr_i, ↓iXor_i, ↓iNeg_i, iQuo_i, iRem_i, ↓iConv_i, iConv_i, ↓bNot_b, bNot_b, ↓eqN_i, ↓ltN_i, ↓eqB_b, bnot_e, Int.ofNat_eq_natCast, Int.cast_ofNat_Int, Int.reduceBEq, Int.reduceAdd, Int.reduceNeg, Int.reduceNegSucc, Int.reduceLT, Int.reduceLE, Int.reduceMul, Int.reduceTMod, Int.reduceSub, Int.reduceBNe, Bool.not_true, Bool.not_false, decide_true, decide_false, w63_in, w31_in, ne_eq, not_false_eq_true, Int.reduceEq, reduceCtorEq, ww3131, ww6363, ww3163, ww6331, ww3231, ww3263, ww6463, ww6364, sh31, sh63, sl63, m31, m63, n63, s5a, s5b, s6a, s6b, b31, b32, b63, c63, c64, d64, iShl_c, iShr_c, sr3, sr6, sr7]; rfl
    | false =>
      have h2 : (t.length : Int) - at_ < (n : Int) := by
        have : ¬ ((n : Int) ≤ (t.length : Int) - at_) := fun h1 => ho ⟨rfl, by omega, h1⟩
        omega
      simp only [↓s32, ↓nck_p, ↓cP_p, ↓eqP_pn, ↓e0, ↓e1, ↓e2, ↓e3, ↓l0, Bs_len, h2, w1, ↓uc_c, ↓uz_n, ↓cI_i, ↓cB_b, cB_b, ↓cT_t, cT_t, nth_z, nth_1, cK_b, ↓cK_b, ↓cK_i, cK_i, ifB_t, ifB_f, ↓ap_e, sel_t, sel_f, gsel_tt, gsel_tf, gsel_ft, gsel_ff, gsel_u, gd_tt, gd_tf, gd_ft, gd_ff, gd_u, ↓jn_n, jn_n, jn_r, ↓jn_r, blk_n, blk_r, ↓cl_r, cl_r, ↓iAdd_i, ↓iSub_i, ↓iMul_i, ↓iAnd_i, ↓iOr_i, ↓iXor_i, ↓iNeg_i, iQuo_i, iRem_i, ↓iConv_i, iConv_i, ↓bNot_b, bNot_b, ↓eqN_i, ↓ltN_i, ↓eqB_b, bnot_e, Int.ofNat_eq_natCast, Int.cast_ofNat_Int, Int.reduceBEq, Int.reduceAdd, Int.reduceNeg, Int.reduceNegSucc, Int.reduceLT, Int.reduceLE, Int.reduceMul, Int.reduceTMod, Int.reduceSub, Int.reduceBNe, Bool.not_true, Bool.not_false, decide_true, decide_false, w63_in, w31_in, ne_eq, not_false_eq_true, Int.reduceEq, reduceCtorEq, ww3131, ww6363, ww3163, ww6331, ww3231, ww3263, ww6463, ww6364, sh31, sh63, sl63, m31, m63, n63, s5a, s5b, s6a, s6b, b31, b32, b63, c63, c64, d64, iShl_c, iShr_c, sr3, sr6, sr7]; rfl

theorem t33 (hc : Cur h lo b t at_ bad) (hw : Wf h) (n : Int) :
    ∃ v h', s33 [.ptr b 0, .int 63 n] h = .ret v h' ∧ Sl h' (fun x => lo ≤ x ∧ x < b) v (Bs (win t at_ bad n)) ∧ Cur h' lo b t (nat_ t at_ bad n) (nbad t at_ bad n) ∧ To (At b) h h' ∧ Wf h' := by
  obtain ⟨v, hs, e0, e1, e2⟩ := hc.open
  have l0 := fun k => lenL_sl hs k
  have hlen := hc.len
  have hle := hc.le
  have w1 : wrapC 63 ((t.length : Int) - (at_ : Int)) = (t.length : Int) - (at_ : Int) := w63_in _ (by omega) (by omega)
  by_cases ho : okc t at_ bad n
  · obtain ⟨rfl, h0, h1⟩ := id ho
    obtain ⟨n, rfl⟩ : ∃ m : Nat, n = (m : Int) := ⟨n.toNat, by omega⟩
    obtain ⟨h', e3, c', o'⟩ := hc.move (at_ + n) (by omega)
    have w2 : wrapC 63 ((at_ : Int) + (n : Int)) = ((at_ + n : Nat) : Int) := by rw [w63_in _ (by omega) (by omega)]; omega
    have h2 : ¬ (t.length : Int) - at_ < (n : Int) := by omega
    have h3 : ¬ (n : Int) < 0 := by omega
    obtain ⟨v', g1, g2⟩ := cut_sl hs (c1 := 63) (c2 := 63) at_ (at_ + n) (by omega) (by rw [Bs_len]; omega)
    have g2' : Sl h (fun x => lo ≤ x ∧ x < b) v' (Bs ((t.drop at_).take n)) := by
      have e : ((Bs t).drop at_).take (at_ + n - at_) = Bs ((t.drop at_).take n) := by rw [Nat.add_sub_cancel_left]; simp [Bs, List.map_drop, List.map_take]
      rwa [e] at g2
    have cv := fun k => cK_sl g2' k
    simp only [win, nat_, nbad, if_pos ho, Int.toNat_natCast]
    refine ⟨v', h', ?_, g2'.to o' (fun x hx e => by have : x = b := e; omega), c', o', o'.wf hw⟩
    simp only [↓s33, ↓nck_p, ↓cP_p, ↓eqP_pn, ↓e0, ↓e1, ↓e2, ↓e3, ↓l0, Bs_len, h2, h3, w1, w2, ↓g1, ↓cv, ↓uc_c, ↓uz_n, ↓cI_i, ↓cB_b, cB_b, ↓cT_t, cT_t, nth_z, nth_1, cK_b, ↓cK_b, ↓cK_i, cK_i, ifB_t, ifB_f, ↓ap_e, sel_t, sel_f, gsel_tt, gsel_tf, gsel_ft, gsel_ff, gsel_u, gd_tt, gd_tf, gd_ft, gd_ff, gd_u, ↓jn_n, jn_n, jn_r, ↓jn_r, blk_n, blk_r, ↓cl_r, cl_r, ↓iAdd_i, ↓iSub_i, ↓iMul_i, ↓iAnd_i, ↓iOr_i, ↓iXor_i, ↓iNeg_i, iQuo_i, iRem_i, ↓iConv_i, iConv_i, ↓bNot_b, bNot_b, ↓eqN_i, ↓ltN_i, ↓eqB_b, bnot_e, Int.ofNat_eq_natCast, Int.cast_ofNat_Int, Int.reduceBEq, Int.reduceAdd, Int.reduceNeg, Int.reduceNegSucc, Int.reduceLT, Int.reduceLE, Int.reduceMul, Int.reduceTMod, Int.reduceSub, Int.reduceBNe, Bool.not_true, Bool.not_false, decide_true, decide_false, w63_in, w31_in, ne_eq, not_false_eq_true, Int.reduceEq, reduceCtorEq, ww3131, ww6363, ww3163, ww6331, ww3231, ww3263, ww6463, ww6364, sh31, sh63, sl63, m31, m63, n63, s5a, s5b, s6a, s6b, b31, b32, b63, c63, c64, d64, iShl_c, iShr_c, sr3, sr6, sr7]
  · obtain ⟨h', e3, c', o'⟩ := hc.fall
    simp only [win, nat_, nbad, if_neg ho]
    refine ⟨.nils, h', ?_, Sl_nil _ _, c', o', o'.wf hw⟩
    cases bad with
    | true => simp only [↓s33, ↓nck_p, ↓cP_p, ↓eqP_pn, ↓e0, ↓e1, ↓e2, ↓e3, ↓l0, Bs_len, ↓uc_c, ↓uz_n, ↓cI_i, ↓cB_b, cB_b, ↓cT_t, cT_t, nth_z, nth_1, cK_b, ↓cK_b, ↓cK_i, cK_i, ifB_t, ifB_f, ↓ap_e, sel_t, sel_f, gsel_tt, gsel_tf, gsel_ft, gsel_ff, gsel_u, gd_tt, gd_tf, gd_ft, gd_ff, gd_u, ↓jn_n, jn_n, jn_r, ↓jn_r, blk_n, blk_r, ↓cl_r, cl_r, ↓iAdd_i, ↓iSub_i, ↓iMul_i, ↓iAnd_i, ↓iOr_i, ↓iXor_i, ↓iNeg_i, iQuo_i, iRem_i, ↓iConv_i, iConv_i, ↓bNot_b, bNot_b, ↓eqN_i, ↓ltN_i, ↓eqB_b, bnot_e, Int.ofNat_eq_natCast, Int.cast_ofNat_Int, Int.reduceBEq, Int.reduceAdd, Int.reduceNeg, Int.reduceNegSucc, Int.reduceLT, Int.reduceLE, Int.reduceMul, Int.reduceTMod, Int.reduceSub, Int.reduceBNe, Bool.not_true, Bool.not_false, decide_true, decide_false, w63_in, w31_in, ne_eq, not_false_eq_true, Int.reduceEq, reduceCtorEq, ww3131, ww6363, ww3163, ww6331, ww3231, ww3263, ww6463, ww6364, sh31, sh63, sl63, m31, m63, n63, s5a, s5b, s6a, s6b, b31, b32, b63, c63, c64, d64, iShl_c, iShr_c, sr3, sr6, sr7]; rfl
    | false =>
      by_cases h1 : n < 0
      · simp only [↓s33, ↓nck_p, ↓cP_p, ↓eqP_pn, ↓e0, ↓e1, ↓e2, ↓e3, ↓l0, Bs_len, h1, ↓uc_c, ↓uz_n, ↓cI_i, ↓cB_b, cB_b, ↓cT_t, cT_t, nth_z, nth_1, cK_b, ↓cK_b, ↓cK_i, cK_i, ifB_t, ifB_f, ↓ap_e, sel_t, sel_f, gsel_tt, gsel_tf, gsel_ft, gsel_ff, gsel_u, gd_tt, gd_tf, gd_ft, gd_ff, gd_u, ↓jn_n, jn_n, jn_r, ↓jn_r, blk_n, blk_r, ↓cl_r, cl_r, ↓iAdd_i, ↓iSub_i, ↓iMul_i, ↓iAnd_i, ↓iOr_i, ↓iXor_i, ↓iNeg_i, iQuo_i, iRem_i, ↓iConv_i, iConv_i, ↓bNot_b, bNot_b, ↓eqN_i, ↓ltN_i, ↓eqB_b, bnot_e, Int.ofNat_eq_natCast, Int.cast_ofNat_Int, Int.reduceBEq, Int.reduceAdd, Int.reduceNeg, Int.reduceNegSucc, Int.reduceLT, Int.reduceLE, Int.reduceMul, Int.reduceTMod, Int.reduceSub, Int.reduceBNe, Bool.not_true, Bool.not_false, decide_true, decide_false, w63_in, w31_in, ne_eq, not_false_eq_true, Int.reduceEq, reduceCtorEq, ww3131, ww6363, ww3163, ww6331, ww3231, ww3263, ww6463, ww6364, sh31, sh63, sl63, m31, m63, n63, s5a, s5b, s6a, s6b, b31, b32, b63, c63, c64, d64, iShl_c, iShr_c, sr3, sr6, sr7]; rfl
      · have h2 : (t.length : Int) - at_ < n := by
          have : ¬ (n ≤ (t.length : Int) - at_) := fun h3 => ho ⟨rfl, by omega, h3⟩
          omega
        simp only [↓s33, ↓nck_p, ↓cP_p, ↓eqP_pn, ↓e0, ↓e1, ↓e2, ↓e3, ↓l0, Bs_len, h1, h2, w1, ↓uc_c, ↓uz_n, ↓cI_i, ↓cB_b, cB_b, ↓cT_t, cT_t, nth_z, nth_1, cK_b, ↓cK_b, ↓cK_i, cK_i, ifB_t, ifB_f, ↓ap_e, sel_t, sel_f, gsel_tt, gsel_tf, gsel_ft, gsel_ff, gsel_u, gd_tt, gd_tf, gd_ft, gd_ff, gd_u, ↓jn_n, jn_n, jn_r, ↓jn_r, blk_n, blk_r, ↓cl_r, cl_r, ↓iAdd_i, ↓iSub_i, ↓iMul_i, ↓iAnd_i, ↓iOr_i, ↓iXor_i, ↓iNeg_i, iQuo_i, iRem_i, ↓iConv_i, iConv_i, ↓bNot_b, bNot_b, ↓eqN_i, ↓ltN_i, ↓eqB_b, bnot_e, Int.ofNat_eq_natCast, Int.cast_ofNat_Int, Int.reduceBEq, Int.reduceAdd, Int.reduceNeg, Int.reduceNegSucc, Int.reduceLT, Int.reduceLE, Int.reduceMul, Int.reduceTMod, Int.reduceSub, Int.reduceBNe, Bool.not_true, Bool.not_false, decide_true, decide_false, w63_in, w31_in, ne_eq, not_false_eq_true, Int.reduceEq, reduceCtorEq, ww3131, ww6363, ww3163, ww6331, ww3231, ww3263, ww6463, ww6364, sh31, sh63, sl63, m31, m63, n63, s5a, s5b, s6a, s6b, b31, b32, b63, c63, c64, d64, iShl_c, iShr_c, sr3, sr6, sr7]; rfl
end
theorem cut_lo0 (z : Nat) (x : AV) (hi : Option AV) (k : AV → Res) : cutS z x none hi none k = cutS z x (some (.int 63 ((0 : Nat) : Int))) hi none k := by cases x <;> rfl
theorem t24 {h : Hp} {P : Nat → Prop} {v : AV} {t : List Nat} (hs : Sl h P v (Bs t)) (n : Nat) (ht : t.length ≤ 9223372036854775807) : ∃ v', s24 [v, .int 63 (n : Int)] h = .ret v' h ∧ Sl h P v' (Bs (t.take n)) := by
  have l0 := fun k => lenL_sl hs k
  have cv := fun k => cK_sl hs k
  by_cases hl : n < t.length
  · obtain ⟨v', g1, g2⟩ := cut_sl hs (c1 := 63) (c2 := 63) 0 n (by omega) (by rw [Bs_len]; omega)
    have e : (((Bs t).drop 0).take (n - 0)) = Bs (t.take n) := by simp [Bs, List.map_take]
    rw [e] at g2
    have cv' := fun k => cK_sl g2 k
    have h1 : (n : Int) < (t.length : Int) := by omega
    exact ⟨v', by simp only [↓s24, ↓l0, Bs_len, h1, ↓cut_lo0, ↓g1, ↓cv', ↓uc_c, ↓uz_n, ↓cI_i, ↓cB_b, cB_b, ↓cT_t, cT_t, nth_z, nth_1, cK_b, ↓cK_b, ↓cK_i, cK_i, ifB_t, ifB_f, ↓ap_e, sel_t, sel_f, gsel_tt, gsel_tf, gsel_ft, gsel_ff, gsel_u, gd_tt, gd_tf, gd_ft, gd_ff, gd_u, ↓jn_n, jn_n, jn_r, ↓jn_r, blk_n, blk_r, ↓cl_r, cl_r, ↓iAdd_i, ↓iSub_i, ↓iMul_i, ↓iAnd_i, ↓iOr_i, ↓iXor_i, ↓iNeg_i, iQuo_i, iRem_i, ↓iConv_i, iConv_i, ↓bNot_b, bNot_b, ↓eqN_i, ↓ltN_i, ↓eqB_b, bnot_e, Int.ofNat_eq_natCast, Int.cast_ofNat_Int, Int.reduceBEq, Int.reduceAdd, Int.reduceNeg, Int.reduceNegSucc, Int.reduceLT, Int.reduceLE, Int.reduceMul, Int.reduceTMod, Int.reduceSub, Int.reduceBNe, Bool.not_true, Bool.not_false, decide_true, decide_false, w63_in, w31_in, ne_eq, not_false_eq_true, Int.reduceEq, reduceCtorEq, ww3131, ww6363, ww3163, ww6331, ww3231, ww3263, ww6463, ww6364, sh31, sh63, sl63, m31, m63, n63, s5a, s5b, s6a, s6b, b31, b32, b63, c63, c64, d64, iShl_c, iShr_c, sr3, sr6, sr7], g2⟩
  · have h1 : ¬ (n : Int) < (t.length : Int) := by omega
    rw [List.take_of_length_le (by omega)]
    exact ⟨v, by simp only [↓s24, ↓l0, Bs_len, h1, ↓cv, ↓uc_c, ↓uz_n, ↓cI_i, ↓cB_b, cB_b, ↓cT_t, cT_t, nth_z, nth_1, cK_b, ↓cK_b, ↓cK_i, cK_i, ifB_t, ifB_f, ↓ap_e, sel_t, sel_f, gsel_tt, gsel_tf, gsel_ft, gsel_ff, gsel_u, gd_tt, gd_tf, gd_ft, gd_ff, gd_u, ↓jn_n, jn_n, jn_r, ↓jn_r, blk_n, blk_r, ↓cl_r, cl_r, ↓iAdd_i, ↓iSub_i, ↓iMul_i, ↓iAnd_i, ↓iOr_i, ↓iXor_i, ↓iNeg_i, iQuo_i, iRem_i, ↓iConv_i, iConv_i, ↓bNot_b, bNot_b, ↓eqN_i, ↓ltN_i, ↓eqB_b, bnot_e, Int.ofNat_eq_natCast, Int.cast_ofNat_Int, Int.reduceBEq, Int.reduceAdd, Int.reduceNeg, Int.reduceNegSucc, Int.reduceLT, Int.reduceLE, Int.reduceMul, Int.reduceTMod, Int.reduceSub, Int.reduceBNe, Bool.not_true, Bool.not_false, decide_true, decide_false, w63_in, w31_in, ne_eq, not_false_eq_true, Int.reduceEq, reduceCtorEq, ww3131, ww6363, ww3163, ww6331, ww3231, ww3263, ww6463, ww6364, sh31, sh63, sl63, m31, m63, n63, s5a, s5b, s6a, s6b, b31, b32, b63, c63, c64, d64, iShl_c, iShr_c, sr3, sr6, sr7], hs⟩
end Go.Proofs.Ytnpfppddongbhaa
end

section
namespace Go.Proofs.Ytnpfppddongbhaa
open Go Go.AM
set_option autoImplicit false
set_option linter.unusedSimpArgs false
set_option linter.unusedVariables false
theorem mkS_lit {h : Hp} (hw : Wf h) (l : List AV) (hl : ∀ x ∈ l, one x = true) :
    ∃ v h', (∀ k : AV → Hp → Res, mkS h 1 l.length (avL l) k = k v h') ∧ Sl h' (fun x => h.nb ≤ x ∧ x < h'.nb) v l ∧ To No h h' ∧ Wf h' ∧ h'.nb = h.nb + 1 := by
  obtain ⟨t, h1, h2⟩ := lay_list l .e 0 hl
  have e2 : Nat.beq (0 + l.length) (Nat.mul l.length 1) = true := by rw [beq_iff]; show 0 + l.length = l.length * 1; omega
  obtain ⟨o1, o2⟩ := nw_own hw (0 + l.length) .nil t
  have hat : ∀ i (hi : i < l.length), (⟨true, h.nb, 0 + l.length, .nil, t⟩ : Blk).at (0 + i) = l[i] := by
    intro i hi
    rw [at_in _ (show 0 + i < 0 + l.length by omega)]
    simp only [h2 (0 + i)]
    rw [dif_pos ⟨by omega, by omega⟩]
    simp
  refine ⟨.sl h.nb 0 l.length 1 (some l.length), nw h (0 + l.length) .nil t, fun k => ?_, ⟨hl, .inr (.inr ⟨h.nb, 0, _, _, rfl, ⟨Nat.le_refl _, Nat.lt_succ_self _⟩, o1.rd, fun _ => ⟨Nat.le_refl _, Nat.lt_succ_self _⟩, (fun c h => by cases h; exact Nat.le_refl _), hat⟩)⟩, o2, o2.wf hw, rfl⟩
  have e : mkS h 1 l.length (avL l) k = lay (avL l) .e 0 fun t m => ifB (Nat.beq m (Nat.mul l.length 1)) (k (.sl h.nb 0 l.length 1 (some l.length)) (nw h m .nil t)) .fail := rfl
  rw [e, h1, e2, ifB_t]

theorem t23 {h : Hp} (hw : Wf h) : ∃ h', s23 [] h = .ret (.bool true) h' ∧ To No h h' ∧ Wf h' := by
  obtain ⟨v, h1, e1, s1, o1, w1, n1⟩ := mkS_lit hw (Bs [1, 2, 3, 4, 5, 6, 7]) (Bs_one _)
  have hb : ∀ k : AV → Res, bld [(false, 1, (.int 8 (.ofNat 1))), (false, 1, (.int 8 (.ofNat 2))), (false, 1, (.int 8 (.ofNat 3))), (false, 1, (.int 8 (.ofNat 4))), (false, 1, (.int 8 (.ofNat 5))), (false, 1, (.int 8 (.ofNat 6))), (false, 1, (.int 8 (.ofNat 7)))] k = k (avL (Bs [1, 2, 3, 4, 5, 6, 7])) := fun k => rfl
  have e1' : ∀ k : AV → Hp → Res, mkS h 1 7 (avL (Bs [1, 2, 3, 4, 5, 6, 7])) k = k v h1 := e1
  obtain ⟨b, h2, e2, c2, o2, w2, n2⟩ := t25 s1 w1 (by decide) (by decide)
  obtain ⟨h3, e3, c3, o3, w3⟩ := t27 c2 w2
  obtain ⟨h4, e4, c4, o4, w4⟩ := t28 c3 w3
  obtain ⟨h5, e5, c5, o5, w5⟩ := t29 c4 w4
  have e6 := t30 c5
  have e7 := t31 c5
  obtain ⟨h8, e8, c8, o8, w8⟩ := t27 c5 w5
  have e9 := t30 c8
  rw [show (be (win [1, 2, 3, 4, 5, 6, 7] 0 false 1) 0 : Nat) = 1 by decide] at e3
  rw [show (be (win [1, 2, 3, 4, 5, 6, 7] (nat_ [1, 2, 3, 4, 5, 6, 7] 0 false 1) (nbad [1, 2, 3, 4, 5, 6, 7] 0 false 1) 2) 0 : Nat) = 515 by decide] at e4
  have z1 : ((1 : Nat) : Int) = 1 := rfl
  have z2 : ((515 : Nat) : Int) = 515 := rfl
  have z3 : ((67438087 : Nat) : Int) = 67438087 := rfl
  have z0 : ((0 : Nat) : Int) = 0 := rfl
  rw [z1] at e3
  rw [z2] at e4
  simp only [show nat_ [1, 2, 3, 4, 5, 6, 7] 0 false 1 = 1 by decide, show nbad [1, 2, 3, 4, 5, 6, 7] 0 false 1 = false by decide, show nat_ [1, 2, 3, 4, 5, 6, 7] 1 false 2 = 3 by decide, show nbad [1, 2, 3, 4, 5, 6, 7] 1 false 2 = false by decide,
    show nat_ [1, 2, 3, 4, 5, 6, 7] 3 false 4 = 7 by decide, show nbad [1, 2, 3, 4, 5, 6, 7] 3 false 4 = false by decide, show nbad [1, 2, 3, 4, 5, 6, 7] 7 false 1 = true by decide,
    show (be (win [1, 2, 3, 4, 5, 6, 7] 3 false 4) 0 : Nat) = 67438087 by decide, show (be (win [1, 2, 3, 4, 5, 6, 7] 7 false 1) 0 : Nat) = 0 by decide, z0, z3, List.length_cons, List.length_nil, Nat.reduceAdd, Nat.reduceSub, Bool.not_true, Bool.not_false] at e5 e6 e7 e8 e9
  have tb : ∀ {x y : Hp}, To (At b) x y → To (fun q => h.nb ≤ q) x y := fun q => q.mono fun p _ e => by
    have : p = b := e
    have := o1.nb
    have := c2.lo
    omega
  have tn : ∀ {x y : Hp}, To No x y → To (fun q => h.nb ≤ q) x y := fun q => q.mono fun _ _ f => f.elim
  have tot := ((((tn o1).trans (tn o2)).trans (tb o3)).trans (tb o4)).trans ((tb o5).trans (tb o8))
  exact ⟨h8, by simp only [↓s23, ↓hb, ↓e1', ↓e2, ↓eqP_pn, ↓e3, ↓e4, ↓e5, ↓e6, ↓e7, ↓e8, ↓e9, ↓uc_c, ↓uz_n, ↓cI_i, ↓cB_b, cB_b, ↓cT_t, cT_t, nth_z, nth_1, cK_b, ↓cK_b, ↓cK_i, cK_i, ifB_t, ifB_f, ↓ap_e, sel_t, sel_f, gsel_tt, gsel_tf, gsel_ft, gsel_ff, gsel_u, gd_tt, gd_tf, gd_ft, gd_ff, gd_u, ↓jn_n, jn_n, jn_r, ↓jn_r, blk_n, blk_r, ↓cl_r, cl_r, ↓iAdd_i, ↓iSub_i, ↓iMul_i, ↓iAnd_i, ↓iOr_i, ↓iXor_i, ↓iNeg_i, iQuo_i, iRem_i, ↓iConv_i, iConv_i, ↓bNot_b, bNot_b, ↓eqN_i, ↓ltN_i, ↓eqB_b, bnot_e, Int.ofNat_eq_natCast, Int.cast_ofNat_Int, Int.reduceBEq, Int.reduceAdd, Int.reduceNeg, Int.reduceNegSucc, Int.reduceLT, Int.reduceLE, Int.reduceMul, Int.reduceTMod, Int.reduceSub, Int.reduceBNe, Bool.not_true, Bool.not_false, decide_true, decide_false, w63_in, w31_in, ne_eq, not_false_eq_true, Int.reduceEq, reduceCtorEq, ww3131, ww6363, ww3163, ww6331, ww3231, ww3263, ww6463, ww6364, sh31, sh63, sl63, m31, m63, n63, s5a, s5b, s6a, s6b, b31, b32, b63, c63, c64, d64, iShl_c, iShr_c, sr3, sr6, sr7], tot.mono fun p hp hn => by omega, w8⟩
end Go.Proofs.Ytnpfppddongbhaa
end

section
namespace Go.Proofs.Ytnpfppddongbhaa
open Go Go.AM
set_option autoImplicit false
set_option linter.unusedSimpArgs false
set_option linter.unusedVariables false
/-- The number that a text's bytes state, the lowest first. -/
def pk : List Nat → Nat
  | [] => 0
  | x :: l => x + 256 * pk l
theorem packL_bs : ∀ (t : List Nat) (k : Nat → Res), (∀ x ∈ t, x < 256) → packL (avL (Bs t)) k = k (pk t) := by
  intro t
  induction t with
  | nil => intro k _; rfl
  | cons x l ih =>
    intro k hb
    have e : packL (avL (Bs (x :: l))) k = ifB (Nat.blt x 256) (packL (avL (Bs l)) fun p => k (Nat.add x (Nat.mul 256 p))) .fail := rfl
    rw [e, (blt_iff _ _).2 (hb x (List.mem_cons_self ..)), ih _ (fun y hy => hb y (List.mem_cons_of_mem _ hy))]
    rfl
theorem b2s_sl {h : Hp} {P : Nat → Prop} {v : AV} {t : List Nat} (hs : Sl h P v (Bs t)) (hb : ∀ x ∈ t, x < 256) (k : AV → Res) : b2s h v k = k (.str t.length (pk t)) := by
  have e : b2s h v k = src h 1 v fun n l => packL l fun p => k (.str n p) := by
    rcases hs.2 with ⟨rfl, -⟩ | ⟨rfl, -⟩ | ⟨b, o, c, B, rfl, -⟩ <;> rfl
  rw [e, src_sl hs, packL_bs t _ hb, Bs_len]
theorem eqS_self (n x : Nat) (k : Bool → Res) : eqS (.str n x) (.str n x) k = k true := by
  have e : eqS (.str n x) (.str n x) k = k (sEq n x n x) := rfl
  rw [e]
  have : sEq n x n x = true := by simp [sEq]
  rw [this]
/-- A read that succeeds. -/
theorem win_in (t : List Nat) (at_ n : Nat) (h : at_ + n ≤ t.length) : win t at_ false (n : Int) = (t.drop at_).take n ∧ nat_ t at_ false (n : Int) = at_ + n ∧ nbad t at_ false (n : Int) = false := by
  have ho : okc t at_ false (n : Int) := ⟨rfl, by omega, by omega⟩
  simp only [win, nat_, nbad, if_pos ho, Int.toNat_natCast]
  exact ⟨trivial, trivial, trivial⟩
theorem sh16 (m : Int) (k : AV → Res) : iShl (.int 63 m) (.int 64 (.ofNat 16)) k = k (.int 63 (wrapC 63 (m * 65536))) := iShl_i k 63 m 64 16 (by decide)
section
variable {h : Hp} {lo b at_ : Nat} {t : List Nat}
theorem step4 (hc : Cur h lo b t at_ false) (hw : Wf h) (hat : at_ < t.length) (a k : Nat) (ha : a < 1099511627776) (hk : k < 4) (v44 v46 v50 v52 v54 v56 : AV) :
    ∃ h', L4n0 [v44, v46, .ptr b 0, v50, v52, v54, v56, .int 63 (a : Int), .int 63 (k : Int)] h = .norm [v44, v46, .ptr b 0, v50, v52, v54, v56, .int 63 ((a * 256 + t[at_] : Nat) : Int), .int 63 ((k + 1 : Nat) : Int)] h' ∧ Cur h' lo b t (at_ + 1) false ∧ To (At b) h h' ∧ Wf h' := by
  obtain ⟨h', e1, c1, o1, w1⟩ := t27 hc hw
  have z1 : ((1 : Nat) : Int) = 1 := rfl
  obtain ⟨q1, q2, q3⟩ := win_in t at_ 1 hat
  rw [z1] at q1 q2 q3
  have q4 : (t.drop at_).take 1 = [t[at_]] := by rw [List.drop_eq_getElem_cons hat]; rfl
  have hx : t[at_] < 256 := hc.byt _ (List.getElem_mem _)
  rw [q2, q3] at c1
  rw [q1, q4, show be [t[at_]] 0 = t[at_] by simp [be]] at e1
  have h4 : (k : Int) < 4 := by omega
  exact ⟨h', by simp only [↓L4n0, h4, ↓sh8, ↓e1, m8 a ha, ad8 a _ ha hx, s1n k (by omega), ↓uc_c, ↓uz_n, ↓cI_i, ↓cB_b, cB_b, ↓cT_t, cT_t, nth_z, nth_1, cK_b, ↓cK_b, ↓cK_i, cK_i, ifB_t, ifB_f, ↓ap_e, sel_t, sel_f, gsel_tt, gsel_tf, gsel_ft, gsel_ff, gsel_u, gd_tt, gd_tf, gd_ft, gd_ff, gd_u, ↓jn_n, jn_n, jn_r, ↓jn_r, blk_n, blk_r, ↓cl_r, cl_r, ↓iAdd_i, ↓iSub_i, ↓iMul_i, ↓iAnd_i, ↓iOr_i, ↓iXor_i, ↓iNeg_i, iQuo_i, iRem_i, ↓iConv_i, iConv_i, ↓bNot_b, bNot_b, ↓eqN_i, ↓ltN_i, ↓eqB_b, bnot_e, Int.ofNat_eq_natCast, Int.cast_ofNat_Int, Int.reduceBEq, Int.reduceAdd, Int.reduceNeg, Int.reduceNegSucc, Int.reduceLT, Int.reduceLE, Int.reduceMul, Int.reduceTMod, Int.reduceSub, Int.reduceBNe, Bool.not_true, Bool.not_false, decide_true, decide_false, w63_in, w31_in, ne_eq, not_false_eq_true, Int.reduceEq, reduceCtorEq, ww3131, ww6363, ww3163, ww6331, ww3231, ww3263, ww6463, ww6364, sh31, sh63, sl63, m31, m63, n63, s5a, s5b, s6a, s6b, b31, b32, b63, c63, c64, d64, iShl_c, iShr_c, sr3, sr6, sr7], c1, o1, w1⟩
theorem stop4 (v44 v46 v48 v50 v52 v54 v56 v58 : AV) : L4n0 [v44, v46, v48, v50, v52, v54, v56, v58, .int 63 ((4 : Nat) : Int)] h = .exit 2 [v44, v46, v48, v50, v52, v54, v56, v58] h := by
  have z : ((4 : Nat) : Int) = 4 := rfl
  have z2 : (Int.ofNat 4) = 4 := rfl
  simp only [↓L4n0, z, z2, Int.lt_irrefl, ↓uc_c, ↓uz_n, ↓cI_i, ↓cB_b, cB_b, ↓cT_t, cT_t, nth_z, nth_1, cK_b, ↓cK_b, ↓cK_i, cK_i, ifB_t, ifB_f, ↓ap_e, sel_t, sel_f, gsel_tt, gsel_tf, gsel_ft, gsel_ff, gsel_u, gd_tt, gd_tf, gd_ft, gd_ff, gd_u, ↓jn_n, jn_n, jn_r, ↓jn_r, blk_n, blk_r, ↓cl_r, cl_r, ↓iAdd_i, ↓iSub_i, ↓iMul_i, ↓iAnd_i, ↓iOr_i, ↓iXor_i, ↓iNeg_i, iQuo_i, iRem_i, ↓iConv_i, iConv_i, ↓bNot_b, bNot_b, ↓eqN_i, ↓ltN_i, ↓eqB_b, bnot_e, Int.ofNat_eq_natCast, Int.cast_ofNat_Int, Int.reduceBEq, Int.reduceAdd, Int.reduceNeg, Int.reduceNegSucc, Int.reduceLT, Int.reduceLE, Int.reduceMul, Int.reduceTMod, Int.reduceSub, Int.reduceBNe, Bool.not_true, Bool.not_false, decide_true, decide_false, w63_in, w31_in, ne_eq, not_false_eq_true, Int.reduceEq, reduceCtorEq, ww3131, ww6363, ww3163, ww6331, ww3231, ww3263, ww6463, ww6364, sh31, sh63, sl63, m31, m63, n63, s5a, s5b, s6a, s6b, b31, b32, b63, c63, c64, d64, iShl_c, iShr_c, sr3, sr6, sr7]
theorem loop4 (hc : Cur h lo b t at_ false) (hw : Wf h) (hat : at_ + 4 ≤ t.length) (v44 v46 v50 v52 v54 v56 : AV) :
    ∃ h', lp L4n0 most [v44, v46, .ptr b 0, v50, v52, v54, v56, .int 63 0, .int 63 0] h = .exit 2 [v44, v46, .ptr b 0, v50, v52, v54, v56, .int 63 (be ((t.drop at_).take 4) 0 : Int)] h' ∧ Cur h' lo b t (at_ + 4) false ∧ To (At b) h h' ∧ Wf h' := by
  obtain ⟨h1, e1, c1, o1, w1⟩ := step4 hc hw (by omega) 0 0 (by omega) (by omega) v44 v46 v50 v52 v54 v56
  have l0 : t[at_] < 256 := hc.byt _ (List.getElem_mem _)
  have l1 : t[at_ + 1] < 256 := hc.byt _ (List.getElem_mem _)
  have l2 : t[at_ + 1 + 1] < 256 := hc.byt _ (List.getElem_mem _)
  have l3 : t[at_ + 1 + 1 + 1] < 256 := hc.byt _ (List.getElem_mem _)
  obtain ⟨h2, e2, c2, o2, w2⟩ := step4 c1 w1 (by omega) (0 * 256 + t[at_]) (0 + 1) (by omega) (by omega) v44 v46 v50 v52 v54 v56
  obtain ⟨h3, e3, c3, o3, w3⟩ := step4 c2 w2 (by omega) ((0 * 256 + t[at_]) * 256 + t[at_ + 1]) (0 + 1 + 1) (by omega) (by omega) v44 v46 v50 v52 v54 v56
  obtain ⟨h4, e4, c4, o4, w4⟩ := step4 c3 w3 (by omega) (((0 * 256 + t[at_]) * 256 + t[at_ + 1]) * 256 + t[at_ + 1 + 1]) (0 + 1 + 1 + 1) (by omega) (by omega) v44 v46 v50 v52 v54 v56
  have q : (t.drop at_).take 4 = [t[at_], t[at_ + 1], t[at_ + 1 + 1], t[at_ + 1 + 1 + 1]] := by
    rw [List.drop_eq_getElem_cons (by omega), List.drop_eq_getElem_cons (by omega), List.drop_eq_getElem_cons (by omega), List.drop_eq_getElem_cons (by omega)]
    rfl
  refine ⟨h4, ?_, c4, ((o1.trans o2).trans o3).trans o4, w4⟩
  rw [q]
  have hm : most = 999995 + 1 + 1 + 1 + 1 + 1 := rfl
  rw [hm]
  exact ((lpn _ e1).trans ((lpn _ e2).trans ((lpn _ e3).trans ((lpn _ e4).trans (lpx _ (stop4 ..))))))
end
end Go.Proofs.Ytnpfppddongbhaa
end

section
namespace Go.Proofs.Ytnpfppddongbhaa
open Go Go.AM
set_option autoImplicit false
set_option linter.unusedSimpArgs false
set_option linter.unusedVariables false
theorem beqi' (a : Int) : (a == a) = true := by simp
/-- Three cursors at one place of the same bytes; and slices that stay as they are. -/
structure Tri (h : Hp) (N l1 b1 l2 b2 l3 b3 : Nat) (t : List Nat) (at_ : Nat) (u v : AV) : Prop where
  c1 : Cur h l1 b1 t at_ false
  c2 : Cur h l2 b2 t at_ false
  c3 : Cur h l3 b3 t at_ false
  wf : Wf h
  o1 : N ≤ l1
  o2 : b1 < l2
  o3 : b2 < l3
  u : Sl h (fun x => x < N) u (Bs t)
  v : Sl h (fun x => b3 < x) v (Bs t)
theorem sh16' (m : Int) (k : AV → Res) : iShl (.int 63 m) (.int 64 16) k = k (.int 63 (wrapC 63 (m * 65536))) := sh16 m k
theorem i4 (i : Nat) (hi : i < 1000000) : wrapC 63 ((i : Int) + 4) = ((i + 4 : Nat) : Int) := by rw [w63_in _ (by omega) (by omega)]; omega
theorem stepT {h : Hp} {N l1 b1 l2 b2 l3 b3 : Nat} {t : List Nat} {at_ : Nat} {u v : AV} (T : Tri h N l1 b1 l2 b2 l3 b3 t at_ u v) (hat : at_ + 4 ≤ t.length) :
    ∃ h', L4n1 [u, .bool true, .ptr b1 0, .ptr b2 0, .ptr b3 0, v, .int 63 (at_ : Int)] h = .norm [u, .bool true, .ptr b1 0, .ptr b2 0, .ptr b3 0, v, .int 63 ((at_ + 4 : Nat) : Int)] h' ∧ Tri h' N l1 b1 l2 b2 l3 b3 t (at_ + 4) u v := by
  obtain ⟨c1, c2, c3, wf, o1, o2, o3, hu, hv⟩ := T
  have hlen := c1.len
  have q1 := c1.lo
  have q2 := c2.lo
  have q3 := c3.lo
  have n1 : ∀ x, l2 ≤ x → x ≤ b2 → ¬ At b1 x := fun x a b e => by have : x = b1 := e; omega
  have n2 : ∀ x, l3 ≤ x → x ≤ b3 → ¬ At b1 x := fun x a b e => by have : x = b1 := e; omega
  have n3 : ∀ x, l1 ≤ x → x ≤ b1 → ¬ At b2 x := fun x a b e => by have : x = b2 := e; omega
  have n4 : ∀ x, l3 ≤ x → x ≤ b3 → ¬ At b2 x := fun x a b e => by have : x = b2 := e; omega
  have n5 : ∀ x, l1 ≤ x → x ≤ b1 → ¬ At b3 x := fun x a b e => by have : x = b3 := e; omega
  have n6 : ∀ x, l2 ≤ x → x ≤ b2 → ¬ At b3 x := fun x a b e => by have : x = b3 := e; omega
  obtain ⟨h1, e1, c1, t1, w1⟩ := loop4 c1 wf hat u (.bool true) (.ptr b2 0) (.ptr b3 0) v (.int 63 (at_ : Int))
  obtain ⟨h2, e2, d2, t2, w2⟩ := t28 (c2.to t1 n1) w1
  have z2 : ((2 : Nat) : Int) = 2 := rfl
  have z4 : ((4 : Nat) : Int) = 4 := rfl
  obtain ⟨r1, r2, r3⟩ := win_in t at_ 2 (by omega)
  rw [z2] at r1 r2 r3
  rw [r2, r3] at d2
  rw [r1] at e2
  obtain ⟨h3, e3, d3, t3, w3⟩ := t28 d2 w2
  obtain ⟨r1, r2, r3⟩ := win_in t (at_ + 2) 2 (by omega)
  rw [z2] at r1 r2 r3
  rw [r2, r3] at d3
  rw [r1] at e3
  obtain ⟨h4, e4, d4, t4, w4⟩ := t29 (((c3.to t1 n2).to t2 n4).to t3 n4) w3
  obtain ⟨r1, r2, r3⟩ := win_in t at_ 4 (by omega)
  rw [z4] at r1 r2 r3
  rw [r2, r3] at d4
  rw [r1] at e4
  have l0 := fun k => lenL_sl hu k
  have lt : (at_ : Int) < (t.length : Int) := by omega
  have b0 : t[at_] < 256 := c2.byt _ (List.getElem_mem _)
  have b1' : t[at_ + 1] < 256 := c2.byt _ (List.getElem_mem _)
  have b2' : t[at_ + 1 + 1] < 256 := c2.byt _ (List.getElem_mem _)
  have b3' : t[at_ + 1 + 1 + 1] < 256 := c2.byt _ (List.getElem_mem _)
  have g4 : be ((t.drop at_).take 4) 0 = (((0 * 256 + t[at_]) * 256 + t[at_ + 1]) * 256 + t[at_ + 1 + 1]) * 256 + t[at_ + 1 + 1 + 1] := by
    rw [List.drop_eq_getElem_cons (by omega), List.drop_eq_getElem_cons (by omega), List.drop_eq_getElem_cons (by omega), List.drop_eq_getElem_cons (by omega)]
    rfl
  have g2 : be ((t.drop at_).take 2) 0 = (0 * 256 + t[at_]) * 256 + t[at_ + 1] := by
    rw [List.drop_eq_getElem_cons (by omega), List.drop_eq_getElem_cons (by omega)]
    rfl
  have g2' : be ((t.drop (at_ + 2)).take 2) 0 = (0 * 256 + t[at_ + 1 + 1]) * 256 + t[at_ + 1 + 1 + 1] := by
    rw [List.drop_eq_getElem_cons (by omega), List.drop_eq_getElem_cons (by omega)]
    rfl
  generalize be ((t.drop at_).take 4) 0 = B4 at *
  generalize be ((t.drop at_).take 2) 0 = B2 at *
  generalize be ((t.drop (at_ + 2)).take 2) 0 = C2 at *
  have m1 : wrapC 63 ((B2 : Int) * 65536) = ((B2 * 65536 : Nat) : Int) := by rw [w63_in _ (by omega) (by omega)]; omega
  have m2 : wrapC 63 (((B2 * 65536 : Nat) : Int) + 0) = ((B2 * 65536 : Nat) : Int) := by rw [w63_in _ (by omega) (by omega)]; omega
  have m3 : wrapC 63 (((B2 * 65536 : Nat) : Int) + (C2 : Int)) = (B4 : Int) := by rw [w63_in _ (by omega) (by omega)]; omega
  refine ⟨h4, ?_, ⟨((c1.to t2 n3).to t3 n3).to t4 n5, d3.to t4 n6, d4, w4, o1, o2, o3,
    (((hu.to t1 (fun x hx e => by have : x = b1 := e; omega)).to t2 (fun x hx e => by have : x = b2 := e; omega)).to t3 (fun x hx e => by have : x = b2 := e; omega)).to t4 (fun x hx e => by have : x = b3 := e; omega),
    (((hv.to t1 (fun x hx e => by have : x = b1 := e; omega)).to t2 (fun x hx e => by have : x = b2 := e; omega)).to t3 (fun x hx e => by have : x = b2 := e; omega)).to t4 (fun x hx e => by have : x = b3 := e; omega)⟩⟩
  simp only [↓L4n1, ↓l0, Bs_len, lt, e1, blk_e, show Nat.beq 2 2 = true from rfl, ↓uc_c, ↓uz_n, ↓cI_i, ↓cB_b, cB_b, ↓cT_t, cT_t, nth_z, nth_1, cK_b, ↓cK_b, ↓cK_i, cK_i, ifB_t, ifB_f, ↓ap_e, sel_t, sel_f, gsel_tt, gsel_tf, gsel_ft, gsel_ff, gsel_u, gd_tt, gd_tf, gd_ft, gd_ff, gd_u, ↓jn_n, jn_n, jn_r, ↓jn_r, blk_n, blk_r, ↓cl_r, cl_r, ↓iAdd_i, ↓iSub_i, ↓iMul_i, ↓iAnd_i, ↓iOr_i, ↓iXor_i, ↓iNeg_i, iQuo_i, iRem_i, ↓iConv_i, iConv_i, ↓bNot_b, bNot_b, ↓eqN_i, ↓ltN_i, ↓eqB_b, bnot_e, Int.ofNat_eq_natCast, Int.cast_ofNat_Int, Int.reduceBEq, Int.reduceAdd, Int.reduceNeg, Int.reduceNegSucc, Int.reduceLT, Int.reduceLE, Int.reduceMul, Int.reduceTMod, Int.reduceSub, Int.reduceBNe, Bool.not_true, Bool.not_false, decide_true, decide_false, w63_in, w31_in, ne_eq, not_false_eq_true, Int.reduceEq, reduceCtorEq, ww3131, ww6363, ww3163, ww6331, ww3231, ww3263, ww6463, ww6364, sh31, sh63, sl63, m31, m63, n63, s5a, s5b, s6a, s6b, b31, b32, b63, c63, c64, d64, iShl_c, iShr_c, sr3, sr6, sr7]
  simp only [↓e2, ↓sh16', m1, m2, ↓e3, m3, beqi', ↓e4, i4 at_ (by omega), ↓uc_c, ↓uz_n, ↓cI_i, ↓cB_b, cB_b, ↓cT_t, cT_t, nth_z, nth_1, cK_b, ↓cK_b, ↓cK_i, cK_i, ifB_t, ifB_f, ↓ap_e, sel_t, sel_f, gsel_tt, gsel_tf, gsel_ft, gsel_ff, gsel_u, gd_tt, gd_tf, gd_ft, gd_ff, gd_u, ↓jn_n, jn_n, jn_r, ↓jn_r, blk_n, blk_r, ↓cl_r, cl_r, ↓iAdd_i, ↓iSub_i, ↓iMul_i, ↓iAnd_i, ↓iOr_i, ↓iXor_i, ↓iNeg_i, iQuo_i, iRem_i, ↓iConv_i, iConv_i, ↓bNot_b, bNot_b, ↓eqN_i, ↓ltN_i, ↓eqB_b, bnot_e, Int.ofNat_eq_natCast, Int.cast_ofNat_Int, Int.reduceBEq, Int.reduceAdd, Int.reduceNeg, Int.reduceNegSucc, Int.reduceLT, Int.reduceLE, Int.reduceMul, Int.reduceTMod, Int.reduceSub, Int.reduceBNe, Bool.not_true, Bool.not_false, decide_true, decide_false, w63_in, w31_in, ne_eq, not_false_eq_true, Int.reduceEq, reduceCtorEq, ww3131, ww6363, ww3163, ww6331, ww3231, ww3263, ww6463, ww6364, sh31, sh63, sl63, m31, m63, n63, s5a, s5b, s6a, s6b, b31, b32, b63, c63, c64, d64, iShl_c, iShr_c, sr3, sr6, sr7]
theorem loopT : ∀ (f m : Nat) {h : Hp} {N l1 b1 l2 b2 l3 b3 : Nat} {t : List Nat} {at_ : Nat} {u v : AV}, Tri h N l1 b1 l2 b2 l3 b3 t at_ u v → t.length = at_ + 4 * f → f < m →
    ∃ h', lp L4n1 m [u, .bool true, .ptr b1 0, .ptr b2 0, .ptr b3 0, v, .int 63 (at_ : Int)] h = .exit 0 [u, .bool true, .ptr b1 0, .ptr b2 0, .ptr b3 0, v] h' ∧ Tri h' N l1 b1 l2 b2 l3 b3 t t.length u v := by
  intro f
  induction f with
  | zero =>
    intro m h N l1 b1 l2 b2 l3 b3 t at_ u v T ht hm
    obtain ⟨m, rfl⟩ : ∃ k, m = k + 1 := ⟨m - 1, by omega⟩
    have l0 := fun k => lenL_sl T.u k
    have lt : ¬ (at_ : Int) < (t.length : Int) := by omega
    have e : L4n1 [u, .bool true, .ptr b1 0, .ptr b2 0, .ptr b3 0, v, .int 63 (at_ : Int)] h = .exit 0 [u, .bool true, .ptr b1 0, .ptr b2 0, .ptr b3 0, v] h := by simp only [↓L4n1, ↓l0, Bs_len, lt, ↓uc_c, ↓uz_n, ↓cI_i, ↓cB_b, cB_b, ↓cT_t, cT_t, nth_z, nth_1, cK_b, ↓cK_b, ↓cK_i, cK_i, ifB_t, ifB_f, ↓ap_e, sel_t, sel_f, gsel_tt, gsel_tf, gsel_ft, gsel_ff, gsel_u, gd_tt, gd_tf, gd_ft, gd_ff, gd_u, ↓jn_n, jn_n, jn_r, ↓jn_r, blk_n, blk_r, ↓cl_r, cl_r, ↓iAdd_i, ↓iSub_i, ↓iMul_i, ↓iAnd_i, ↓iOr_i, ↓iXor_i, ↓iNeg_i, iQuo_i, iRem_i, ↓iConv_i, iConv_i, ↓bNot_b, bNot_b, ↓eqN_i, ↓ltN_i, ↓eqB_b, bnot_e, Int.ofNat_eq_natCast, Int.cast_ofNat_Int, Int.reduceBEq, Int.reduceAdd, Int.reduceNeg, Int.reduceNegSucc, Int.reduceLT, Int.reduceLE, Int.reduceMul, Int.reduceTMod, Int.reduceSub, Int.reduceBNe, Bool.not_true, Bool.not_false, decide_true, decide_false, w63_in, w31_in, ne_eq, not_false_eq_true, Int.reduceEq, reduceCtorEq, ww3131, ww6363, ww3163, ww6331, ww3231, ww3263, ww6463, ww6364, sh31, sh63, sl63, m31, m63, n63, s5a, s5b, s6a, s6b, b31, b32, b63, c63, c64, d64, iShl_c, iShr_c, sr3, sr6, sr7]
    have : at_ = t.length := by omega
    subst this
    exact ⟨h, lpx m e, T⟩
  | succ f ih =>
    intro m h N l1 b1 l2 b2 l3 b3 t at_ u v T ht hm
    obtain ⟨m, rfl⟩ : ∃ k, m = k + 1 := ⟨m - 1, by omega⟩
    obtain ⟨h1, e1, T1⟩ := stepT T (by omega)
    obtain ⟨h2, e2, T2⟩ := ih m T1 (by omega) (by omega)
    exact ⟨h2, (lpn m e1).trans e2, T2⟩

theorem lawWhole {h : Hp} {P : Nat → Prop} {v : AV} {t : List Nat} (hs : Sl h (fun b => b < h.nb) v (Bs t)) (hw : Wf h) (hb : ∀ x ∈ t, x < 256) (ht : t.length ≤ 9223372036854775807) : ∃ h', s4 [v] h = .ret (.bool true) h' := by
  obtain ⟨h1, e1, o1, w1⟩ := t23 hw
  obtain ⟨v2, e2, s2⟩ := t24 (hs.to o1 (fun _ _ f => f)) 64 ht
  have z64 : ((64 : Nat) : Int) = 64 := rfl
  rw [z64] at e2
  have hb2 : ∀ x ∈ t.take 64, x < 256 := fun x hx => hb x (List.mem_of_mem_take hx)
  have hl2 : (t.take 64).length ≤ 64 := by simp; omega
  generalize t.take 64 = t2 at *
  have l2 := fun k => lenL_sl s2 k
  have w4 : wrapC 63 ((t2.length : Int).tdiv 4) = ((t2.length / 4 : Nat) : Int) := by
    have : (t2.length : Int).tdiv 4 = ((t2.length / 4 : Nat) : Int) := by rw [Int.tdiv_eq_ediv_of_nonneg (by omega)]; omega
    rw [this, w63_in _ (by omega) (by omega)]
  have w5 : wrapC 63 (((t2.length / 4 : Nat) : Int) * 4) = ((t2.length / 4 * 4 : Nat) : Int) := by rw [w63_in _ (by omega) (by omega)]; omega
  obtain ⟨v3, e3, s3⟩ := cut_sl s2 (c1 := 63) (c2 := 63) 0 (t2.length / 4 * 4) (by omega) (by rw [Bs_len]; omega)
  have e3' : ((Bs t2).drop 0).take (t2.length / 4 * 4 - 0) = Bs (t2.take (t2.length / 4 * 4)) := by simp [Bs, List.map_take]
  rw [e3'] at s3
  have e3z : ∀ k : AV → Res, cutS 1 v2 (some (.int 63 0)) (some (.int 63 ((t2.length / 4 * 4 : Nat) : Int))) none k = k v3 := e3
  have hb3 : ∀ x ∈ t2.take (t2.length / 4 * 4), x < 256 := fun x hx => hb2 x (List.mem_of_mem_take hx)
  have hl3 : (t2.take (t2.length / 4 * 4)).length = 4 * (t2.length / 4) := by simp; omega
  generalize t2.take (t2.length / 4 * 4) = t3 at *
  have nn := o1.nb
  obtain ⟨b1, h2, f1, c1, p1, w1, n1⟩ := t25 s3 w1 (by omega) hb3
  obtain ⟨b2, h3, f2, c2, p2, w2, n2⟩ := t25 (s3.to p1 (fun _ _ f => f)) w1 (by omega) hb3
  obtain ⟨b3, h4, f3, c3, p3, w3, n3⟩ := t25 ((s3.to p1 (fun _ _ f => f)).to p2 (fun _ _ f => f)) w2 (by omega) hb3
  obtain ⟨b4, h5, f4, c4, p4, w4', n4⟩ := t25 (((s3.to p1 (fun _ _ f => f)).to p2 (fun _ _ f => f)).to p3 (fun _ _ f => f)) w3 (by omega) hb3
  obtain ⟨va, h6, f5, s5, c5, p5, w5'⟩ := t26 c4 w4' (t3.length : Int)
  obtain ⟨r1, -, -⟩ := win_in t3 0 t3.length (by omega)
  rw [r1, List.drop_zero, List.take_length] at s5
  have lo1 := c1.lo
  have lo2 := c2.lo
  have lo3 := c3.lo
  have lo4 := c4.lo
  have nb4 : ∀ {lo b}, b < b4 → ∀ x, lo ≤ x → x ≤ b → ¬ At b4 x := fun hb x _ hx e => by have : x = b4 := e; omega
  have T : Tri h6 h.nb h1.nb b1 h2.nb b2 h3.nb b3 t3 0 v3 va := by
    refine ⟨(((c1.to p2 (fun _ _ _ f => f)).to p3 (fun _ _ _ f => f)).to p4 (fun _ _ _ f => f)).to p5 (nb4 (by omega)), ((c2.to p3 (fun _ _ _ f => f)).to p4 (fun _ _ _ f => f)).to p5 (nb4 (by omega)), (c3.to p4 (fun _ _ _ f => f)).to p5 (nb4 (by omega)), w5', nn, by omega, by omega, ?_, s5.mono fun x hx => by omega⟩
    exact ((((s3.to p1 (fun _ _ f => f)).to p2 (fun _ _ f => f)).to p3 (fun _ _ f => f)).to p4 (fun _ _ f => f)).to p5 (fun x hx e => by have : x = b4 := e; omega)
  obtain ⟨h7, e7, T7⟩ := loopT (t2.length / 4) most T (by omega) (show _ < 1000000 by omega)
  have z0 : ((0 : Nat) : Int) = 0 := rfl
  rw [z0] at e7
  have l3 := fun k => lenL_sl ((((s3.to p1 (fun _ _ f => f)).to p2 (fun _ _ f => f)).to p3 (fun _ _ f => f)).to p4 (fun _ _ f => f)) k
  have x1 := fun k => b2s_sl T7.u hb3 k
  have x2 := fun k => b2s_sl T7.v hb3 k
  have x3 := t30 T7.c1
  have x4 := t30 T7.c2
  have x5 := t30 T7.c3
  have x6 := t31 T7.c1
  rw [Nat.sub_self, z0] at x6
  refine ⟨h7, ?_⟩
  simp only [↓s4, ↓e1, ↓e2, ↓l2, Bs_len, w4, w5, ↓cut_lo0, ↓e3, ↓e3z, ↓f1, ↓f2, ↓f3, ↓f4, ↓l3, ↓f5, e7, blk_e, ↓uc_c, ↓uz_n, ↓cI_i, ↓cB_b, cB_b, ↓cT_t, cT_t, nth_z, nth_1, cK_b, ↓cK_b, ↓cK_i, cK_i, ifB_t, ifB_f, ↓ap_e, sel_t, sel_f, gsel_tt, gsel_tf, gsel_ft, gsel_ff, gsel_u, gd_tt, gd_tf, gd_ft, gd_ff, gd_u, ↓jn_n, jn_n, jn_r, ↓jn_r, blk_n, blk_r, ↓cl_r, cl_r, ↓iAdd_i, ↓iSub_i, ↓iMul_i, ↓iAnd_i, ↓iOr_i, ↓iXor_i, ↓iNeg_i, iQuo_i, iRem_i, ↓iConv_i, iConv_i, ↓bNot_b, bNot_b, ↓eqN_i, ↓ltN_i, ↓eqB_b, bnot_e, Int.ofNat_eq_natCast, Int.cast_ofNat_Int, Int.reduceBEq, Int.reduceAdd, Int.reduceNeg, Int.reduceNegSucc, Int.reduceLT, Int.reduceLE, Int.reduceMul, Int.reduceTMod, Int.reduceSub, Int.reduceBNe, Bool.not_true, Bool.not_false, decide_true, decide_false, w63_in, w31_in, ne_eq, not_false_eq_true, Int.reduceEq, reduceCtorEq, ww3131, ww6363, ww3163, ww6331, ww3231, ww3263, ww6463, ww6364, sh31, sh63, sl63, m31, m63, n63, s5a, s5b, s6a, s6b, b31, b32, b63, c63, c64, d64, iShl_c, iShr_c, sr3, sr6, sr7]
  simp only [show Nat.beq 0 0 = true from rfl, ↓x1, ↓x2, ↓eqS_self, ↓x3, ↓x4, ↓x5, ↓x6, ↓uc_c, ↓uz_n, ↓cI_i, ↓cB_b, cB_b, ↓cT_t, cT_t, nth_z, nth_1, cK_b, ↓cK_b, ↓cK_i, cK_i, ifB_t, ifB_f, ↓ap_e, sel_t, sel_f, gsel_tt, gsel_tf, gsel_ft, gsel_ff, gsel_u, gd_tt, gd_tf, gd_ft, gd_ff, gd_u, ↓jn_n, jn_n, jn_r, ↓jn_r, blk_n, blk_r, ↓cl_r, cl_r, ↓iAdd_i, ↓iSub_i, ↓iMul_i, ↓iAnd_i, ↓iOr_i, ↓iXor_i, ↓iNeg_i, iQuo_i, iRem_i, ↓iConv_i, iConv_i, ↓bNot_b, bNot_b, ↓eqN_i, ↓ltN_i, ↓eqB_b, bnot_e, Int.ofNat_eq_natCast, Int.cast_ofNat_Int, Int.reduceBEq, Int.reduceAdd, Int.reduceNeg, Int.reduceNegSucc, Int.reduceLT, Int.reduceLE, Int.reduceMul, Int.reduceTMod, Int.reduceSub, Int.reduceBNe, Bool.not_true, Bool.not_false, decide_true, decide_false, w63_in, w31_in, ne_eq, not_false_eq_true, Int.reduceEq, reduceCtorEq, ww3131, ww6363, ww3163, ww6331, ww3231, ww3263, ww6463, ww6364, sh31, sh63, sl63, m31, m63, n63, s5a, s5b, s6a, s6b, b31, b32, b63, c63, c64, d64, iShl_c, iShr_c, sr3, sr6, sr7]
theorem bytes_of {w : World} {V : Value} {l : List Int} (A : ArgS .u8 w V l) : ∃ t : List Nat, (l.map fun n => AV.int (cOf .u8) n) = Bs t ∧ (∀ x ∈ t, x < 256) ∧ t.length = l.length := by
  have hwf := A.wf
  refine ⟨l.map Int.toNat, ?_, ?_, by simp⟩
  · simp only [Bs, List.map_map]
    refine List.map_congr_left fun n hn => ?_
    have := hwf n hn
    simp [Lit.wf, IntKind.min, IntKind.max, IntKind.signed, IntKind.bits] at this
    show AV.int 8 n = AV.int 8 (n.toNat : Int)
    congr 1
    omega
  · intro x hx
    obtain ⟨n, hn, rfl⟩ := List.mem_map.1 hx
    have := hwf n hn
    simp [Lit.wf, IntKind.min, IntKind.max, IntKind.signed, IntKind.bits] at this
    omega
theorem ArgS.len {k : IntKind} {w : World} {V : Value} {l : List Int} (A : ArgS k w V l) : l.length ≤ 9223372036854775807 := by
  rcases A with ⟨-, rfl⟩ | ⟨a, len, cap, zs, -, h1, h2, h3, rfl, -⟩
  · simp
  · have : maxLen ≤ 9223372036854775807 := by decide
    simp; omega
theorem walkWhole (w : World) (V : Value) (l : List Int) (A : ArgS .u8 w V l) : Calls Try.prog 4 #[V] w fun e w' => e = .returned (.bool true) ∧ Kept w w' := by
  obtain ⟨ρ, h, v, hA, -, hv, hs, -⟩ := add_arg (Args.none w) A
  obtain ⟨t, ht, hb, hl⟩ := bytes_of A
  rw [ht] at hs
  obtain ⟨h', e⟩ := lawWhole (P := fun _ => True) hs hA.wf hb (by have := ArgS.len A; omega)
  exact law_walk2 F4.1 hA e (.cons hv .nil)
end Go.Proofs.Ytnpfppddongbhaa
end

section
namespace Go.Proofs.Ytnpfppddongbhaa
open Go Go.AM
set_option autoImplicit false
set_option linter.unusedSimpArgs false
set_option linter.unusedVariables false
theorem Sl.low {h : Hp} {N : Nat} {v : AV} {l : List AV} (hs : Sl h (fun b => N ≤ b) v l) : Sl h (fun b => N ≤ b ∧ b < h.nb) v l := by
  obtain ⟨h1, h2⟩ := hs
  refine ⟨h1, ?_⟩
  rcases h2 with h2 | h2 | ⟨b, o, c, B, h2, h3, h4, h5, hc, h6⟩
  · exact .inl h2
  · exact .inr (.inl h2)
  · exact .inr (.inr ⟨b, o, c, B, h2, ⟨h3, h4.lt⟩, h4, fun hf => ⟨h5 hf, (h4.grp hf).1⟩, hc, h6⟩)
/-- A row of bytes of its own, from block N on. -/
def Row (h : Hp) (N : Nat) (v : AV) (t : List Nat) : Prop :=
  (t = [] ∧ Sl h (fun b => N ≤ b ∧ b < h.nb) v (Bs [])) ∨ ∃ b B, v = .sl b 0 t.length 1 none ∧ Own h b B ∧ B.lim = t.length ∧ N ≤ b ∧ ∀ i (hi : i < t.length), B.at i = .int 8 (t[i] : Int)
theorem Row.sl {h : Hp} {N : Nat} {v : AV} {t : List Nat} (hr : Row h N v t) : Sl h (fun b => N ≤ b ∧ b < h.nb) v (Bs t) := by
  rcases hr with ⟨rfl, hr⟩ | ⟨b, B, rfl, o, hl, hN, hat⟩
  · exact hr
  · refine ⟨Bs_one _, .inr (.inr ⟨b, 0, none, B, by rw [Bs_len], ⟨hN, o.lt⟩, o.rd, fun _ => by rw [o.g]; exact ⟨hN, o.lt⟩, (fun c e => by cases e), fun i hi => ?_⟩)⟩
    rw [Bs_len] at hi
    rw [Nat.zero_add, hat i hi]
    simp [Bs]
theorem Row.to {W : Nat → Prop} {h h' : Hp} {N : Nat} {v : AV} {t : List Nat} (hr : Row h N v t) (ht : To W h h') (hd : ∀ b, N ≤ b → b < h.nb → ¬ W b) : Row h' N v t := by
  rcases hr with ⟨rfl, hr⟩ | ⟨b, B, rfl, o, hl, hN, hat⟩
  · exact .inl ⟨rfl, (hr.to ht (fun b hb => hd b hb.1 hb.2)).mono fun b hb => ⟨hb.1, Nat.lt_of_lt_of_le hb.2 ht.nb⟩⟩
  · exact .inr ⟨b, B, rfl, o.to ht (hd b hN o.lt), hl, hN, hat⟩
theorem Row.mono {h : Hp} {N M : Nat} {v : AV} {t : List Nat} (hr : Row h N v t) (hM : M ≤ N) : Row h M v t := by
  rcases hr with ⟨rfl, hr⟩ | ⟨b, B, rfl, o, hl, hN, hat⟩
  · exact .inl ⟨rfl, hr.mono fun b hb => ⟨Nat.le_trans hM hb.1, hb.2⟩⟩
  · exact .inr ⟨b, B, rfl, o, hl, Nat.le_trans hM hN, hat⟩
theorem grown_own {h : Hp} (hw : Wf h) (t : List Nat) :
    ∃ b h', (∀ k : AV → Hp → Res, grown h 1 t.length (avL (Bs t)) k = k (.sl b 0 t.length 1 none) h') ∧ Row h' h.nb (.sl b 0 t.length 1 none) t ∧ To No h h' ∧ Wf h' := by
  obtain ⟨tr, h1, h2⟩ := lay_list (Bs t) .e 0 (Bs_one t)
  have e2 : Nat.beq (0 + (Bs t).length) (Nat.mul t.length 1) = true := by rw [beq_iff, Bs_len]; show 0 + t.length = t.length * 1; omega
  have hrun : ∀ k : AV → Hp → Res, grown h 1 t.length (avL (Bs t)) k = k (.sl h.nb 0 t.length 1 none) (nw h (0 + (Bs t).length) .nil tr) := fun k => by
    have e : grown h 1 t.length (avL (Bs t)) k = lay (avL (Bs t)) .e 0 fun t' j => ifB (Nat.beq j (Nat.mul t.length 1)) (k (.sl h.nb 0 t.length 1 none) (nw h j .nil t')) .fail := rfl
    rw [e, h1, e2, ifB_t]
  obtain ⟨o1, o2⟩ := nw_own hw (0 + (Bs t).length) .nil tr
  refine ⟨h.nb, _, hrun, .inr ⟨h.nb, _, rfl, o1, by show 0 + (Bs t).length = _; rw [Bs_len]; omega, Nat.le_refl _, fun i hi => ?_⟩, o2, o2.wf hw⟩
  rw [at_in _ (show i < 0 + (Bs t).length by rw [Bs_len]; omega)]
  simp only [h2 i]
  rw [dif_pos ⟨by omega, by rw [Bs_len]; omega⟩]
  simp [Bs]
theorem t68o {h : Hp} {P : Nat → Prop} {v : AV} {t : List Nat} (hs : Sl h P v (Bs t)) (hw : Wf h) (ht : t.length ≤ 100000) :
    ∃ v' h', s68 [v] h = .ret v' h' ∧ Row h' h.nb v' t ∧ To No h h' ∧ Wf h' := by
  by_cases h0 : t = []
  · subst h0
    obtain ⟨v', h', e, s, o, w⟩ := t68 hs hw ht
    exact ⟨v', h', e, .inl ⟨rfl, s⟩, o, w⟩
  · obtain ⟨b, e1, e2⟩ := eqL_nil hs (fun b2 => cB (.bool b2) fun b3 => ifB b3 (cK .nils fun v4 => .ret v4 h) (bld [] fun l5 => mkS h 1 0 l5 fun v6 h7 => apd h7 1 1 v6 v fun v8 h9 => cK v8 fun v10 => .ret v10 h9))
    have e0 : s68 [v] h = eqL v .nils (fun b2 => cB (.bool b2) fun b3 => ifB b3 (cK .nils fun v4 => .ret v4 h) (bld [] fun l5 => mkS h 1 0 l5 fun v6 h7 => apd h7 1 1 v6 v fun v8 h9 => cK v8 fun v10 => .ret v10 h9)) := rfl
    rw [e0, e1]
    cases b with
    | true =>
      have := e2 rfl
      exact absurd (List.map_eq_nil_iff.1 this) h0
    | false =>
      obtain ⟨o1, o2⟩ := nw_own hw 0 .nil .e
      have w1 := o2.wf hw
      obtain ⟨b, h', g1, g2, g3, g4⟩ := grown_own w1 t
      have hy := hs.to o2 (fun _ _ f => f)
      have hpos : t.length ≠ 0 := fun h => h0 (List.eq_nil_of_length_eq_zero h)
      have q1 : Nat.beq t.length 0 = false := by rw [Bool.eq_false_iff, ne_eq, beq_iff]; exact hpos
      have q2 : Nat.ble (Nat.mul (Nat.add 0 t.length) 1) 140737488355328 = true := by rw [ble_iff]; show (0 + t.length) * 1 ≤ _; omega
      have q3 : Nat.ble (Nat.add 0 t.length) 9223372036854775807 = true := by rw [ble_iff]; show 0 + t.length ≤ _; omega
      have q4 : Nat.ble (Nat.add 0 t.length) 0 = false := by rw [Bool.eq_false_iff, ne_eq, ble_iff]; show ¬ 0 + t.length ≤ 0; omega
      have run : ∀ k : AV → Hp → Res, apd (nw h 0 .nil .e) 1 1 (.sl h.nb 0 0 1 (some 0)) v k = k (.sl b 0 t.length 1 none) h' := fun k => by
        unfold apd
        rw [src_sl hy, Bs_len]
        show ifB (Nat.beq 1 1) (ifB (Nat.beq t.length 0) _ (ifB (Nat.ble (Nat.mul (Nat.add 0 t.length) 1) 140737488355328) (ifB (Nat.ble (Nat.add 0 t.length) 9223372036854775807) (ifB (Nat.ble (Nat.add 0 t.length) 0) _ (gb (nw h 0 .nil .e) h.nb fun B => rds B (Nat.mul 0 1) 0 fun old => grown (nw h 0 .nil .e) 1 (Nat.add 0 t.length) (app old (avL (Bs t))) k)) .fail) .fail)) .fail = _
        have e0 : Nat.add 0 t.length = t.length := Nat.zero_add _
        rw [q2, q3, q4, q1, e0]
        show (gb (nw h 0 .nil .e) h.nb fun B => rds B (Nat.mul 0 1) 0 fun old => grown (nw h 0 .nil .e) 1 t.length (app old (avL (Bs t))) k) = _
        rw [gb_rd o1.rd]
        exact g1 k
      refine ⟨_, h', ?_, g2.mono (Nat.le_of_lt (Nat.lt_succ_self _)), o2.trans g3, g4⟩
      show (apd (nw h 0 .nil .e) 1 1 (.sl h.nb 0 0 1 (some 0)) v fun v8 h9 => cK v8 fun v10 => .ret v10 h9) = _
      rw [run]
      rfl
theorem t26o {h : Hp} {lo b at_ : Nat} {t : List Nat} {bad : Bool} (hc : Cur h lo b t at_ bad) (hw : Wf h) (n : Int) :
    ∃ v h', s26 [.ptr b 0, .int 63 n] h = .ret v h' ∧ Row h' h.nb v (win t at_ bad n) ∧ Cur h' lo b t (nat_ t at_ bad n) (nbad t at_ bad n) ∧ To (At b) h h' ∧ Wf h' := by
  obtain ⟨v, h1, e1, s1, c1, o1, w1⟩ := t69 hc hw n
  have hl := win_len2 t at_ bad n
  obtain ⟨v2, h2, e2, s2, o2, w2⟩ := t68o s1 w1 (by have := hc.len; omega)
  have cv := fun k => cK_sl s2.sl k
  refine ⟨v2, h2, by simp only [↓s26, ↓e1, ↓e2, ↓cv, ↓uc_c, ↓uz_n, ↓cI_i, ↓cB_b, cB_b, ↓cT_t, cT_t, nth_z, nth_1, cK_b, ↓cK_b, ↓cK_i, cK_i, ifB_t, ifB_f, ↓ap_e, sel_t, sel_f, gsel_tt, gsel_tf, gsel_ft, gsel_ff, gsel_u, gd_tt, gd_tf, gd_ft, gd_ff, gd_u, ↓jn_n, jn_n, jn_r, ↓jn_r, blk_n, blk_r, ↓cl_r, cl_r, ↓iAdd_i, ↓iSub_i, ↓iMul_i, ↓iAnd_i, ↓iOr_i, ↓iXor_i, ↓iNeg_i, iQuo_i, iRem_i, ↓iConv_i, iConv_i, ↓bNot_b, bNot_b, ↓eqN_i, ↓ltN_i, ↓eqB_b, bnot_e, Int.ofNat_eq_natCast, Int.cast_ofNat_Int, Int.reduceBEq, Int.reduceAdd, Int.reduceNeg, Int.reduceNegSucc, Int.reduceLT, Int.reduceLE, Int.reduceMul, Int.reduceTMod, Int.reduceSub, Int.reduceBNe, Bool.not_true, Bool.not_false, decide_true, decide_false, w63_in, w31_in, ne_eq, not_false_eq_true, Int.reduceEq, reduceCtorEq, ww3131, ww6363, ww3163, ww6331, ww3231, ww3263, ww6463, ww6364, sh31, sh63, sl63, m31, m63, n63, s5a, s5b, s6a, s6b, b31, b32, b63, c63, c64, d64, iShl_c, iShr_c, sr3, sr6, sr7], s2.mono o1.nb, c1.to o2 (fun _ _ _ f => f), o1.trans (o2.mono fun _ _ f => f.elim), w2⟩
end Go.Proofs.Ytnpfppddongbhaa
end

section
namespace Go.Proofs.Ytnpfppddongbhaa
open Go Go.AM
set_option autoImplicit false
set_option linter.unusedSimpArgs false
set_option linter.unusedVariables false
theorem same_i (c : Nat) (n : Int) (k : Res) : same (.int c n) (.int c n) k = k := by
  have e : same (.int c n) (.int c n) k = ifB (eqAV (.int c n) (.int c n)) k .fail := rfl
  have e2 : eqAV (.int c n) (.int c n) = bAnd (Nat.beq c c) (eqI n n) := rfl
  have e3 : eqI n n = true := by
    cases n with
    | ofNat m => exact (beq_iff m m).2 rfl
    | negSucc m => exact (beq_iff m m).2 rfl
  rw [e, e2, e3, (beq_iff c c).2 rfl]; rfl
theorem same_bb (b : Bool) (k : Res) : same (.bool b) (.bool b) k = k := by cases b <;> rfl
theorem ixA_l (b n j : Nat) (hj : j < n) (c : Option Nat) (k : AV → Res) : ixA 1 (.sl b 0 n 1 c) (.int 63 (j : Int)) k = k (.ptr b j) := by
  have e : ixA 1 (.sl b 0 n 1 c) (.int 63 (j : Int)) k = ifB (Nat.blt j n) (ifB (Nat.beq 1 1) (k (.ptr b (Nat.add 0 (Nat.mul j 1)))) .fail) .fail := rfl
  rw [e, (blt_iff _ _).2 hj]
  have e2 : Nat.add 0 (Nat.mul j 1) = j := by show 0 + j * 1 = j; omega
  show k (.ptr b (Nat.add 0 (Nat.mul j 1))) = _
  rw [e2]
/-- A copy's bytes are turned: nothing else. -/
theorem loop5 {b n : Nat} (v1 v2 v3 v4 v5 v6 : AV) : ∀ (f m i : Nat) (h : Hp) (B : Blk), Own h b B → B.lim = n → (∀ j, j < n → ∃ y : Int, B.at j = .int 8 y) → n - i ≤ f → f < m → i ≤ n → n ≤ 100000 → Wf h →
    ∃ h', lp L5n0 m [v1, v2, v3, v4, v5, v6, .sl b 0 n 1 none, .int 63 (i : Int)] h = .exit 3 [v1, v2, v3, v4, v5, v6] h' ∧ To (At b) h h' ∧ Wf h' := by
  have len : ∀ k : AV → Res, lenL (.sl b 0 n 1 none) k = k (.int 63 (n : Int)) := fun k => rfl
  have stop : ∀ (f m i : Nat) (h : Hp), f < m → ¬ i < n → Wf h → ∃ h', lp L5n0 m [v1, v2, v3, v4, v5, v6, .sl b 0 n 1 none, .int 63 (i : Int)] h = .exit 3 [v1, v2, v3, v4, v5, v6] h' ∧ To (At b) h h' ∧ Wf h' := by
    intro f m i h hm hi hw
    obtain ⟨m, rfl⟩ : ∃ k, m = k + 1 := ⟨m - 1, by omega⟩
    have e1 : ¬ (i : Int) < (n : Int) := by omega
    exact ⟨h, lpx m (by simp only [↓L5n0, ↓len, e1, ↓uc_c, ↓uz_n, ↓cI_i, ↓cB_b, cB_b, ↓cT_t, cT_t, nth_z, nth_1, cK_b, ↓cK_b, ↓cK_i, cK_i, ifB_t, ifB_f, ↓ap_e, sel_t, sel_f, gsel_tt, gsel_tf, gsel_ft, gsel_ff, gsel_u, gd_tt, gd_tf, gd_ft, gd_ff, gd_u, ↓jn_n, jn_n, jn_r, ↓jn_r, blk_n, blk_r, ↓cl_r, cl_r, ↓iAdd_i, ↓iSub_i, ↓iMul_i, ↓iAnd_i, ↓iOr_i, ↓iXor_i, ↓iNeg_i, iQuo_i, iRem_i, ↓iConv_i, iConv_i, ↓bNot_b, bNot_b, ↓eqN_i, ↓ltN_i, ↓eqB_b, bnot_e, Int.ofNat_eq_natCast, Int.cast_ofNat_Int, Int.reduceBEq, Int.reduceAdd, Int.reduceNeg, Int.reduceNegSucc, Int.reduceLT, Int.reduceLE, Int.reduceMul, Int.reduceTMod, Int.reduceSub, Int.reduceBNe, Bool.not_true, Bool.not_false, decide_true, decide_false, w63_in, w31_in, ne_eq, not_false_eq_true, Int.reduceEq, reduceCtorEq, ww3131, ww6363, ww3163, ww6331, ww3231, ww3263, ww6463, ww6364, sh31, sh63, sl63, m31, m63, n63, s5a, s5b, s6a, s6b, b31, b32, b63, c63, c64, d64, iShl_c, iShr_c, sr3, sr6, sr7]), To.refl _ _, hw⟩
  intro f
  induction f with
  | zero => intro m i h B hB hl hy hf hm hi hn hw; exact stop 0 m i h hm (by omega) hw
  | succ f ih =>
    intro m i h B hB hl hy hf hm hi hn hw
    by_cases hin : i < n
    · obtain ⟨m, rfl⟩ : ∃ k, m = k + 1 := ⟨m - 1, by omega⟩
      have e1 : (i : Int) < (n : Int) := by omega
      obtain ⟨y, hy0⟩ := hy i hin
      have ix : ∀ k : AV → Res, ixA 1 (.sl b 0 n 1 none) (.int 63 (i : Int)) k = k (.ptr b i) := fun k => ixA_l b n i hin none k
      have l1 : ∀ k : AV → Res, ld1 h (.ptr b i) k = k (.int 8 y) := fun k => (ld1_rd hB.rd hy0 k).trans (cK_i _ _ _)
      obtain ⟨h1, s1, s2, s3, s4⟩ := st1_own (o := i) (v := .int 8 (wrapC 8 (Int.ofNat (Nat.xor (toU 8 y) (toU 8 (.ofNat 5)))))) hB (by omega) rfl
      have hat : ∀ j, j < n → ∃ y' : Int, (setC B i (.int 8 (wrapC 8 (Int.ofNat (Nat.xor (toU 8 y) (toU 8 (.ofNat 5))))))).at j = .int 8 y' := by
        intro j hj
        have q := setC_at (v := .int 8 (wrapC 8 (Int.ofNat (Nat.xor (toU 8 y) (toU 8 (.ofNat 5)))))) (show i < B.lim by omega) j
        by_cases e : j = i
        · rw [if_pos e] at q; exact ⟨_, q⟩
        · rw [if_neg e] at q
          obtain ⟨y', hy'⟩ := hy j hj
          exact ⟨y', q.trans hy'⟩
      have e : L5n0 [v1, v2, v3, v4, v5, v6, .sl b 0 n 1 none, .int 63 (i : Int)] h = .norm [v1, v2, v3, v4, v5, v6, .sl b 0 n 1 none, .int 63 ((i + 1 : Nat) : Int)] h1 := by
        have x5 : ∀ k : AV → Res, iXor (.int 8 y) (.int 8 (.ofNat 5)) k = k (.int 8 (wrapC 8 (Int.ofNat (Nat.xor (toU 8 y) (toU 8 (.ofNat 5)))))) := fun k => iXor_i ..
        generalize wrapC 8 (Int.ofNat (Nat.xor (toU 8 y) (toU 8 (.ofNat 5)))) = z at *
        simp only [↓L5n0, ↓len, e1, ↓ix, ↓l1, ↓x5, ↓s1, s1n i (by omega), ↓uc_c, ↓uz_n, ↓cI_i, ↓cB_b, cB_b, ↓cT_t, cT_t, nth_z, nth_1, cK_b, ↓cK_b, ↓cK_i, cK_i, ifB_t, ifB_f, ↓ap_e, sel_t, sel_f, gsel_tt, gsel_tf, gsel_ft, gsel_ff, gsel_u, gd_tt, gd_tf, gd_ft, gd_ff, gd_u, ↓jn_n, jn_n, jn_r, ↓jn_r, blk_n, blk_r, ↓cl_r, cl_r, ↓iAdd_i, ↓iSub_i, ↓iMul_i, ↓iAnd_i, ↓iOr_i, ↓iXor_i, ↓iNeg_i, iQuo_i, iRem_i, ↓iConv_i, iConv_i, ↓bNot_b, bNot_b, ↓eqN_i, ↓ltN_i, ↓eqB_b, bnot_e, Int.ofNat_eq_natCast, Int.cast_ofNat_Int, Int.reduceBEq, Int.reduceAdd, Int.reduceNeg, Int.reduceNegSucc, Int.reduceLT, Int.reduceLE, Int.reduceMul, Int.reduceTMod, Int.reduceSub, Int.reduceBNe, Bool.not_true, Bool.not_false, decide_true, decide_false, w63_in, w31_in, ne_eq, not_false_eq_true, Int.reduceEq, reduceCtorEq, ww3131, ww6363, ww3163, ww6331, ww3231, ww3263, ww6463, ww6364, sh31, sh63, sl63, m31, m63, n63, s5a, s5b, s6a, s6b, b31, b32, b63, c63, c64, d64, iShl_c, iShr_c, sr3, sr6, sr7]
      obtain ⟨h2, e2, t2, w2⟩ := ih m (i + 1) h1 _ s2 hl hat (by omega) (by omega) (by omega) hn (s3.wf hw)
      exact ⟨h2, (lpn m e).trans e2, s3.trans t2, w2⟩
    · exact stop (f + 1) m i h hm hin hw

theorem loop5r {h : Hp} {N : Nat} {x : AV} {t : List Nat} (hr : Row h N x t) (hw : Wf h) (ht : t.length ≤ 100000) (v1 v2 v3 v4 v5 v6 : AV) :
    ∃ h', lp L5n0 most [v1, v2, v3, v4, v5, v6, x, .int 63 0] h = .exit 3 [v1, v2, v3, v4, v5, v6] h' ∧ To (fun b => N ≤ b) h h' ∧ Wf h' := by
  rcases hr with ⟨rfl, hr⟩ | ⟨b, B, rfl, o, hl, hN, hat⟩
  · have len := fun k => lenL_sl hr k
    have z : (([] : List AV).length : Int) = 0 := rfl
    refine ⟨h, ?_, To.refl _ _, hw⟩
    refine lpx 999999 ?_
    simp only [↓L5n0, ↓len, Bs, List.map_nil, z, Int.lt_irrefl, ↓uc_c, ↓uz_n, ↓cI_i, ↓cB_b, cB_b, ↓cT_t, cT_t, nth_z, nth_1, cK_b, ↓cK_b, ↓cK_i, cK_i, ifB_t, ifB_f, ↓ap_e, sel_t, sel_f, gsel_tt, gsel_tf, gsel_ft, gsel_ff, gsel_u, gd_tt, gd_tf, gd_ft, gd_ff, gd_u, ↓jn_n, jn_n, jn_r, ↓jn_r, blk_n, blk_r, ↓cl_r, cl_r, ↓iAdd_i, ↓iSub_i, ↓iMul_i, ↓iAnd_i, ↓iOr_i, ↓iXor_i, ↓iNeg_i, iQuo_i, iRem_i, ↓iConv_i, iConv_i, ↓bNot_b, bNot_b, ↓eqN_i, ↓ltN_i, ↓eqB_b, bnot_e, Int.ofNat_eq_natCast, Int.cast_ofNat_Int, Int.reduceBEq, Int.reduceAdd, Int.reduceNeg, Int.reduceNegSucc, Int.reduceLT, Int.reduceLE, Int.reduceMul, Int.reduceTMod, Int.reduceSub, Int.reduceBNe, Bool.not_true, Bool.not_false, decide_true, decide_false, w63_in, w31_in, ne_eq, not_false_eq_true, Int.reduceEq, reduceCtorEq, ww3131, ww6363, ww3163, ww6331, ww3231, ww3263, ww6463, ww6364, sh31, sh63, sl63, m31, m63, n63, s5a, s5b, s6a, s6b, b31, b32, b63, c63, c64, d64, iShl_c, iShr_c, sr3, sr6, sr7]
  · obtain ⟨h', e, q, w⟩ := loop5 (b := b) v1 v2 v3 v4 v5 v6 t.length most 0 h B o hl (fun j hj => ⟨_, hat j hj⟩) (by omega) (show _ < 1000000 by omega) (by omega) ht hw
    exact ⟨h', e, q.mono fun x _ e => by have : x = b := e; omega, w⟩

/-- Two cursors at one place of the same bytes, and slices that stay as they are. -/
structure Duo (h : Hp) (N l1 b1 l2 b2 : Nat) (t : List Nat) (at_ : Nat) (bad : Bool) (u v : AV) (ops : List Int) : Prop where
  c1 : Cur h l1 b1 t at_ bad
  c2 : Cur h l2 b2 t at_ bad
  wf : Wf h
  o1 : N ≤ l1
  o2 : b1 < l2
  nb : b2 < h.nb
  u : Sl h (fun x => x < N) u (Bs t)
  v : Sl h (fun x => x < N) v (ops.map fun n => AV.int 63 n)
theorem Cur.nb {h : Hp} {lo b at_ : Nat} {t : List Nat} {bad : Bool} (hc : Cur h lo b t at_ bad) : b < h.nb := by
  obtain ⟨B, v, o, -⟩ := hc.own
  exact o.lt
/-- Both cursors have moved. -/
theorem Duo.go {h h1 h2 : Hp} {N l1 b1 l2 b2 : Nat} {t : List Nat} {at_ at2 : Nat} {bad bad2 : Bool} {u v : AV} {ops : List Int} (D : Duo h N l1 b1 l2 b2 t at_ bad u v ops)
    (c1 : Cur h1 l1 b1 t at2 bad2) (t1 : To (At b1) h h1) (c2 : Cur h2 l2 b2 t at2 bad2) (t2 : To (At b2) h1 h2) (w2 : Wf h2) : Duo h2 N l1 b1 l2 b2 t at2 bad2 u v ops := by
  have q1 := D.c1.lo
  have q2 := D.c2.lo
  have p1 := D.o1
  have p2 := D.o2
  exact ⟨c1.to t2 (fun x a b e => by have : x = b2 := e; omega), c2, w2, D.o1, D.o2, c2.nb,
    (D.u.to t1 (fun x hx e => by have : x = b1 := e; omega)).to t2 (fun x hx e => by have : x = b2 := e; omega),
    (D.v.to t1 (fun x hx e => by have : x = b1 := e; omega)).to t2 (fun x hx e => by have : x = b2 := e; omega)⟩
end Go.Proofs.Ytnpfppddongbhaa
end

section
namespace Go.Proofs.Ytnpfppddongbhaa
open Go Go.AM
set_option autoImplicit false
set_option linter.unusedSimpArgs false
set_option linter.unusedVariables false
theorem ixA_2 (b n j : Nat) (hj : j < n) (c : Option Nat) (k : AV → Res) : ixA 2 (.sl b 0 n 2 c) (.int 63 (j : Int)) k = k (.ptr b (2 * j)) := by
  have e : ixA 2 (.sl b 0 n 2 c) (.int 63 (j : Int)) k = ifB (Nat.blt j n) (ifB (Nat.beq 2 2) (k (.ptr b (Nat.add 0 (Nat.mul j 2)))) .fail) .fail := rfl
  rw [e, (blt_iff _ _).2 hj]
  have e2 : Nat.add 0 (Nat.mul j 2) = 2 * j := by show 0 + j * 2 = 2 * j; omega
  show k (.ptr b (Nat.add 0 (Nat.mul j 2))) = _
  rw [e2]
theorem To.fresh {a b c : Hp} {W : Nat → Prop} (h1 : To No a b) (h2 : To W b c) (hW : ∀ x, W x → a.nb ≤ x) : To No a c := by
  have q : To (fun q => a.nb ≤ q) a c := (h1.mono fun _ _ f => f.elim).trans (h2.mono fun x _ hx => hW x hx)
  exact q.mono fun b hb hn => by omega
/-- One row of the table of kept opcodes. -/
theorem step79 {h : Hp} {b n : Nat} {B : Blk} (hr : Rd h b B) (hw : Wf h) (op lo hi : Int) (i : Nat) (hi' : i < n) (hn : n < 1000) (e0 : B.at (2 * i) = .int 63 lo) (e1 : B.at (2 * i + 1) = .int 63 hi) :
    ∃ h', L79n0 [.int 63 op, .sl b 0 n 2 (some n), .int 63 (n : Int), .int 63 (i : Int)] h = (if lo ≤ op ∧ op ≤ hi then .ret (.bool true) h' else .norm [.int 63 op, .sl b 0 n 2 (some n), .int 63 (n : Int), .int 63 ((i + 1 : Nat) : Int)] h') ∧ To No h h' ∧ Wf h' := by
  have ld : ∀ k : AV → Res, ldN h 2 (.ptr b (2 * i)) k = k (.agg (avL [.int 63 lo, .int 63 hi])) := fun k => ldN_rd (l := [.int 63 lo, .int 63 hi]) hr (fun j hj => by
    match j, hj with
    | 0, _ => exact e0
    | 1, _ => exact e1) (fun v hv => by
    rcases List.mem_cons.1 hv with rfl | hv
    · exact fun h => by cases h
    · rcases List.mem_cons.1 hv with rfl | hv
      · exact fun h => by cases h
      · cases hv) k
  have one2 : ∀ a c : Int, ∀ v ∈ [AV.int 63 a, AV.int 63 c], one v = true := fun a c v hv => by
    rcases List.mem_cons.1 hv with rfl | hv
    · rfl
    · rcases List.mem_cons.1 hv with rfl | hv
      · rfl
      · cases hv
  obtain ⟨h1, B1, m1, m2, m3, -, m5, m6, m7⟩ := mk_own hw [.int 63 0, .int 63 0] (one2 0 0)
  have m1 : ∀ k : AV → Hp → Res, mk h (.cons (.int 63 0) (.cons (.int 63 0) .nil)) k = k (.ptr h.nb 0) h1 := m1
  obtain ⟨h2, B2, s1, s2, s3, s4, s5, s6⟩ := stN_own (o := 0) (l := [.int 63 lo, .int 63 hi]) m2 (by rw [m3]; simp) (one2 lo hi)
  have s1 : ∀ k : Hp → Res, stN h1 2 (.ptr h.nb 0) (.agg (avL [.int 63 lo, .int 63 hi])) k = k h2 := s1
  have a0 : B2.at 0 = .int 63 lo := s4 0
  have a1 : B2.at 1 = .int 63 hi := s4 1
  have l0 : ∀ k : AV → Res, ld1 h2 (.ptr h.nb 0) k = k (.int 63 lo) := fun k => (ld1_rd s2.rd a0 k).trans (cK_i _ _ _)
  have l1 : ∀ k : AV → Res, ld1 h2 (.ptr h.nb 1) k = k (.int 63 hi) := fun k => (ld1_rd s2.rd a1 k).trans (cK_i _ _ _)
  have x0 : ∀ k : AV → Res, ixP 2 1 (.ptr h.nb 0) (.int 63 0) k = k (.ptr h.nb 0) := fun k => rfl
  have x1 : ∀ k : AV → Res, ixP 2 1 (.ptr h.nb 0) (.int 63 1) k = k (.ptr h.nb 1) := fun k => rfl
  have lt : (i : Int) < (n : Int) := by omega
  have e6 : wrapC 63 ((i : Int) + 1) = ((i + 1 : Nat) : Int) := by rw [w63_in _ (by omega) (by omega)]; omega
  have hTo : To No h h2 := To.fresh m5 s5 (fun x e => by have : x = h.nb := e; omega)
  refine ⟨h2, ?_, hTo, s5.wf m6⟩
  by_cases h1' : op < lo
  · rw [if_neg (by omega)]
    simp only [↓L79n0, lt, ixA_2 b n i hi', ↓ld, m1, s1, x0, l0, h1', e6, ↓uc_c, ↓uz_n, ↓cI_i, ↓cB_b, cB_b, ↓cT_t, cT_t, nth_z, nth_1, cK_b, ↓cK_b, ↓cK_i, cK_i, ifB_t, ifB_f, ↓ap_e, sel_t, sel_f, gsel_tt, gsel_tf, gsel_ft, gsel_ff, gsel_u, gd_tt, gd_tf, gd_ft, gd_ff, gd_u, ↓jn_n, jn_n, jn_r, ↓jn_r, blk_n, blk_r, ↓cl_r, cl_r, ↓iAdd_i, ↓iSub_i, ↓iMul_i, ↓iAnd_i, ↓iOr_i, ↓iXor_i, ↓iNeg_i, iQuo_i, iRem_i, ↓iConv_i, iConv_i, ↓bNot_b, bNot_b, ↓eqN_i, ↓ltN_i, ↓eqB_b, bnot_e, Int.ofNat_eq_natCast, Int.cast_ofNat_Int, Int.reduceBEq, Int.reduceAdd, Int.reduceNeg, Int.reduceNegSucc, Int.reduceLT, Int.reduceLE, Int.reduceMul, Int.reduceTMod, Int.reduceSub, Int.reduceBNe, Bool.not_true, Bool.not_false, decide_true, decide_false, w63_in, w31_in, ne_eq, not_false_eq_true, Int.reduceEq, reduceCtorEq, ww3131, ww6363, ww3163, ww6331, ww3231, ww3263, ww6463, ww6364, sh31, sh63, sl63, m31, m63, n63, s5a, s5b, s6a, s6b, b31, b32, b63, c63, c64, d64, iShl_c, iShr_c, sr3, sr6, sr7]
  · by_cases h2' : hi < op
    · rw [if_neg (by omega)]
      simp only [↓L79n0, lt, ixA_2 b n i hi', ↓ld, m1, s1, x0, l0, x1, l1, h1', h2', e6, ↓uc_c, ↓uz_n, ↓cI_i, ↓cB_b, cB_b, ↓cT_t, cT_t, nth_z, nth_1, cK_b, ↓cK_b, ↓cK_i, cK_i, ifB_t, ifB_f, ↓ap_e, sel_t, sel_f, gsel_tt, gsel_tf, gsel_ft, gsel_ff, gsel_u, gd_tt, gd_tf, gd_ft, gd_ff, gd_u, ↓jn_n, jn_n, jn_r, ↓jn_r, blk_n, blk_r, ↓cl_r, cl_r, ↓iAdd_i, ↓iSub_i, ↓iMul_i, ↓iAnd_i, ↓iOr_i, ↓iXor_i, ↓iNeg_i, iQuo_i, iRem_i, ↓iConv_i, iConv_i, ↓bNot_b, bNot_b, ↓eqN_i, ↓ltN_i, ↓eqB_b, bnot_e, Int.ofNat_eq_natCast, Int.cast_ofNat_Int, Int.reduceBEq, Int.reduceAdd, Int.reduceNeg, Int.reduceNegSucc, Int.reduceLT, Int.reduceLE, Int.reduceMul, Int.reduceTMod, Int.reduceSub, Int.reduceBNe, Bool.not_true, Bool.not_false, decide_true, decide_false, w63_in, w31_in, ne_eq, not_false_eq_true, Int.reduceEq, reduceCtorEq, ww3131, ww6363, ww3163, ww6331, ww3231, ww3263, ww6463, ww6364, sh31, sh63, sl63, m31, m63, n63, s5a, s5b, s6a, s6b, b31, b32, b63, c63, c64, d64, iShl_c, iShr_c, sr3, sr6, sr7]
    · rw [if_pos (by omega)]
      simp only [↓L79n0, lt, ixA_2 b n i hi', ↓ld, m1, s1, x0, l0, x1, l1, h1', h2', e6, ↓uc_c, ↓uz_n, ↓cI_i, ↓cB_b, cB_b, ↓cT_t, cT_t, nth_z, nth_1, cK_b, ↓cK_b, ↓cK_i, cK_i, ifB_t, ifB_f, ↓ap_e, sel_t, sel_f, gsel_tt, gsel_tf, gsel_ft, gsel_ff, gsel_u, gd_tt, gd_tf, gd_ft, gd_ff, gd_u, ↓jn_n, jn_n, jn_r, ↓jn_r, blk_n, blk_r, ↓cl_r, cl_r, ↓iAdd_i, ↓iSub_i, ↓iMul_i, ↓iAnd_i, ↓iOr_i, ↓iXor_i, ↓iNeg_i, iQuo_i, iRem_i, ↓iConv_i, iConv_i, ↓bNot_b, bNot_b, ↓eqN_i, ↓ltN_i, ↓eqB_b, bnot_e, Int.ofNat_eq_natCast, Int.cast_ofNat_Int, Int.reduceBEq, Int.reduceAdd, Int.reduceNeg, Int.reduceNegSucc, Int.reduceLT, Int.reduceLE, Int.reduceMul, Int.reduceTMod, Int.reduceSub, Int.reduceBNe, Bool.not_true, Bool.not_false, decide_true, decide_false, w63_in, w31_in, ne_eq, not_false_eq_true, Int.reduceEq, reduceCtorEq, ww3131, ww6363, ww3163, ww6331, ww3231, ww3263, ww6463, ww6364, sh31, sh63, sl63, m31, m63, n63, s5a, s5b, s6a, s6b, b31, b32, b63, c63, c64, d64, iShl_c, iShr_c, sr3, sr6, sr7]
end Go.Proofs.Ytnpfppddongbhaa
end

section
namespace Go.Proofs.Ytnpfppddongbhaa
open Go Go.AM
set_option autoImplicit false
set_option linter.unusedSimpArgs false
set_option linter.unusedVariables false
theorem loop79 {tb : List (Int × Int)} (hn : tb.length < 1000) (op : Int) : ∀ (f m i : Nat) (h : Hp) (b : Nat) (B : Blk), Rd h b B → B.fr = true → B.g = b → Wf h → (∀ j (hj : j < tb.length), B.at (2 * j) = .int 63 tb[j].1 ∧ B.at (2 * j + 1) = .int 63 tb[j].2) → tb.length - i ≤ f → f < m → i ≤ tb.length →
    ((tb.drop i).any fun p => decide (p.1 ≤ op ∧ op ≤ p.2)) = true →
    ∃ h', lp L79n0 m [.int 63 op, .sl b 0 tb.length 2 (some tb.length), .int 63 (tb.length : Int), .int 63 (i : Int)] h = .ret (.bool true) h' ∧ To No h h' ∧ Wf h' := by
  intro f
  induction f with
  | zero =>
    intro m i h b B hr hf hg hw ht hl hm hi ha
    rw [List.drop_eq_nil_of_le (by omega)] at ha
    cases ha
  | succ f ih =>
    intro m i h b B hr hf hg hw ht hl hm hi ha
    by_cases hin : i < tb.length
    · obtain ⟨m, rfl⟩ : ∃ k, m = k + 1 := ⟨m - 1, by omega⟩
      obtain ⟨h1, e1, o1, w1⟩ := step79 hr hw op tb[i].1 tb[i].2 i hin hn (ht i hin).1 (ht i hin).2
      by_cases hc : tb[i].1 ≤ op ∧ op ≤ tb[i].2
      · rw [if_pos hc] at e1
        exact ⟨h1, lpr m e1, o1, w1⟩
      · rw [if_neg hc] at e1
        rw [List.drop_eq_getElem_cons hin, List.any_cons, decide_eq_false hc, Bool.false_or] at ha
        obtain ⟨h2, e2, o2, w2⟩ := ih m (i + 1) h1 b B (hr.to o1 (fun f => f) (fun _ f => f)) hf hg w1 ht (by omega) (by omega) (by omega) ha
        exact ⟨h2, (lpn m e1).trans e2, o1.trans o2, w2⟩
    · rw [List.drop_eq_nil_of_le (by omega)] at ha
      cases ha
end Go.Proofs.Ytnpfppddongbhaa
end

section
namespace Go.Proofs.Ytnpfppddongbhaa
open Go Go.AM
set_option autoImplicit false
set_option linter.unusedSimpArgs false
set_option linter.unusedVariables false
theorem mkS_own {h : Hp} (hw : Wf h) (z n : Nat) (l : List AV) (hl : ∀ x ∈ l, one x = true) (hz : l.length = n * z) :
    ∃ h' B, (∀ k : AV → Hp → Res, mkS h z n (avL l) k = k (.sl h.nb 0 n z (some n)) h') ∧ Own h' h.nb B ∧ B.lim = l.length ∧ (∀ i (hi : i < l.length), B.at i = l[i]) ∧ To No h h' ∧ Wf h' ∧ h'.nb = h.nb + 1 := by
  obtain ⟨t, h1, h2⟩ := lay_list l .e 0 hl
  have e2 : Nat.beq (0 + l.length) (Nat.mul n z) = true := by rw [beq_iff]; show 0 + l.length = n * z; omega
  obtain ⟨o1, o2⟩ := nw_own hw (0 + l.length) .nil t
  refine ⟨nw h (0 + l.length) .nil t, _, fun k => ?_, o1, Nat.zero_add _, fun i hi => ?_, o2, o2.wf hw, rfl⟩
  · have e : mkS h z n (avL l) k = lay (avL l) .e 0 fun t m => ifB (Nat.beq m (Nat.mul n z)) (k (.sl h.nb 0 n z (some n)) (nw h m .nil t)) .fail := rfl
    rw [e, h1, e2, ifB_t]
  · rw [at_in _ (show i < 0 + l.length by omega)]
    simp only [h2 i]
    rw [dif_pos ⟨by omega, by omega⟩]
    simp
def tb79 : List (Int × Int) := [(0, 10), (16, 22), (25, 33), (42, 47), (50, 55), (58, 66), (75, 80), (83, 97), (100, 101), (104, 105), (108, 109), (112, 113), (116, 117), (120, 133), (136, 136), (145, 148), (153, 167), (170, 173), (176, 185), (187, 200)]
def flat (t : List (Int × Int)) : List AV := t.flatMap fun p => [.int 63 p.1, .int 63 p.2]
theorem flat_one (t : List (Int × Int)) : ∀ x ∈ flat t, one x = true := by
  intro x hx
  obtain ⟨p, -, hp⟩ := List.mem_flatMap.1 hx
  rcases List.mem_cons.1 hp with rfl | hp
  · rfl
  · rcases List.mem_cons.1 hp with rfl | hp
    · rfl
    · cases hp
theorem flat_a : ∀ (t : List (Int × Int)) (j : Nat) (hj : j < t.length) (h : 2 * j < (flat t).length), (flat t)[2 * j] = .int 63 t[j].1 := by
  intro t
  induction t with
  | nil => intro j hj; exact absurd hj (Nat.not_lt_zero _)
  | cons p t ih =>
    intro j hj h
    cases j with
    | zero => rfl
    | succ j =>
      have e : flat (p :: t) = .int 63 p.1 :: .int 63 p.2 :: flat t := rfl
      simp only [e, show 2 * (j + 1) = 2 * j + 1 + 1 by omega, List.getElem_cons_succ]
      exact ih j (by simpa using hj) _
theorem flat_b : ∀ (t : List (Int × Int)) (j : Nat) (hj : j < t.length) (h : 2 * j + 1 < (flat t).length), (flat t)[2 * j + 1] = .int 63 t[j].2 := by
  intro t
  induction t with
  | nil => intro j hj; exact absurd hj (Nat.not_lt_zero _)
  | cons p t ih =>
    intro j hj h
    cases j with
    | zero => rfl
    | succ j =>
      have e : flat (p :: t) = .int 63 p.1 :: .int 63 p.2 :: flat t := rfl
      simp only [e, show 2 * (j + 1) + 1 = 2 * j + 1 + 1 + 1 by omega, List.getElem_cons_succ]
      exact ih j (by simpa using hj) _
theorem t79 {h : Hp} (hw : Wf h) (op : Int) (ho : (tb79.any fun p => decide (p.1 ≤ op ∧ op ≤ p.2)) = true) :
    ∃ h', s79 [.int 63 op] h = .ret (.bool true) h' ∧ To No h h' ∧ Wf h' := by
  obtain ⟨h1, B, m1, m2, m3, m4, m5, m6, -⟩ := mkS_own hw 2 20 (flat tb79) (flat_one _) (by decide)
  have e0 : s79 [.int 63 op] h = mkS h 2 20 (avL (flat tb79)) fun v23 h24 => lenL v23 fun v25 => blk 0 (lp L79n0 most [.int 63 op, v23, v25, (.int 63 (.ofNat 0))] h24) fun _ h72 => cK (.bool false) fun v73 => .ret v73 h72 := rfl
  obtain ⟨h2, e2, o2, w2⟩ := loop79 (tb := tb79) (by decide) op 20 most 0 h1 h.nb B m2.rd m2.fr m2.g m6 (fun j hj => by
    have hj : j < 20 := hj
    have a := m4 (2 * j) (by show 2 * j < 40; omega)
    have c := m4 (2 * j + 1) (by show 2 * j + 1 < 40; omega)
    rw [a, c]
    exact ⟨flat_a tb79 j hj _, flat_b tb79 j hj _⟩) (by decide) (by decide) (by decide) ho
  have e2 : lp L79n0 most [.int 63 op, .sl h.nb 0 20 2 (some 20), .int 63 20, .int 63 0] h1 = .ret (.bool true) h2 := e2
  refine ⟨h2, ?_, m5.trans o2, w2⟩
  rw [e0, m1]
  show blk 0 (lp L79n0 most [.int 63 op, .sl h.nb 0 20 2 (some 20), .int 63 20, .int 63 0] h1) _ = _
  rw [e2, blk_r]
end Go.Proofs.Ytnpfppddongbhaa
end

section
namespace Go.Proofs.Ytnpfppddongbhaa
open Go Go.AM
set_option autoImplicit false
set_option linter.unusedSimpArgs false
set_option linter.unusedVariables false
def Is (t : List Int) : List AV := t.map fun x => AV.int 63 x
theorem Is_len (t : List Int) : (Is t).length = t.length := by simp [Is]
theorem Is_one (t : List Int) : ∀ x ∈ Is t, one x = true := by
  intro x hx
  obtain ⟨y, -, rfl⟩ := List.mem_map.1 hx
  rfl
theorem loop100 {h : Hp} {P : Nat → Prop} {v : AV} {t : List Int} (hs : Sl h P v (Is t)) (hl : t.length < 1000) (op : Int) (hb : ∀ x ∈ t, 0 ≤ x ∧ x + 4 ≤ op ∧ x < 1000) : ∀ (f m i : Nat), t.length - i ≤ f → f < m → i ≤ t.length →
    lp L100n0 m [.int 63 op, v, .int 63 (t.length : Int), .int 63 (i : Int)] h = .exit 0 [] h := by
  intro f
  induction f with
  | zero =>
    intro m i hf hm hi
    obtain ⟨m, rfl⟩ : ∃ k, m = k + 1 := ⟨m - 1, by omega⟩
    have e1 : ¬ (i : Int) < (t.length : Int) := by omega
    exact lpx m (by simp only [↓L100n0, e1, ↓uc_c, ↓uz_n, ↓cI_i, ↓cB_b, cB_b, ↓cT_t, cT_t, nth_z, nth_1, cK_b, ↓cK_b, ↓cK_i, cK_i, ifB_t, ifB_f, ↓ap_e, sel_t, sel_f, gsel_tt, gsel_tf, gsel_ft, gsel_ff, gsel_u, gd_tt, gd_tf, gd_ft, gd_ff, gd_u, ↓jn_n, jn_n, jn_r, ↓jn_r, blk_n, blk_r, ↓cl_r, cl_r, ↓iAdd_i, ↓iSub_i, ↓iMul_i, ↓iAnd_i, ↓iOr_i, ↓iXor_i, ↓iNeg_i, iQuo_i, iRem_i, ↓iConv_i, iConv_i, ↓bNot_b, bNot_b, ↓eqN_i, ↓ltN_i, ↓eqB_b, bnot_e, Int.ofNat_eq_natCast, Int.cast_ofNat_Int, Int.reduceBEq, Int.reduceAdd, Int.reduceNeg, Int.reduceNegSucc, Int.reduceLT, Int.reduceLE, Int.reduceMul, Int.reduceTMod, Int.reduceSub, Int.reduceBNe, Bool.not_true, Bool.not_false, decide_true, decide_false, w63_in, w31_in, ne_eq, not_false_eq_true, Int.reduceEq, reduceCtorEq, ww3131, ww6363, ww3163, ww6331, ww3231, ww3263, ww6463, ww6364, sh31, sh63, sl63, m31, m63, n63, s5a, s5b, s6a, s6b, b31, b32, b63, c63, c64, d64, iShl_c, iShr_c, sr3, sr6, sr7])
  | succ f ih =>
    intro m i hf hm hi
    obtain ⟨m, rfl⟩ : ∃ k, m = k + 1 := ⟨m - 1, by omega⟩
    by_cases hin : i < t.length
    · have e1 : (i : Int) < (t.length : Int) := by omega
      have iv := fun k => ix_sl hs (c := 63) i (by rw [Is_len]; exact hin) k
      have g : (Is t)[i]'(by rw [Is_len]; exact hin) = .int 63 t[i] := by simp [Is]
      rw [g] at iv
      obtain ⟨q0, q1, q2⟩ := hb _ (List.getElem_mem hin)
      generalize t[i] = x at *
      have a1 : ¬ op < x := by omega
      have a2 : ¬ op < x + 4 := by omega
      have w4 : wrapC 63 (x + 4) = x + 4 := w63_in _ (by omega) (by omega)
      have e : L100n0 [.int 63 op, v, .int 63 (t.length : Int), .int 63 (i : Int)] h = .norm [.int 63 op, v, .int 63 (t.length : Int), .int 63 ((i + 1 : Nat) : Int)] h := by
        simp only [↓L100n0, e1, ↓iv, a1, w4, a2, s1n i (by omega), ↓uc_c, ↓uz_n, ↓cI_i, ↓cB_b, cB_b, ↓cT_t, cT_t, nth_z, nth_1, cK_b, ↓cK_b, ↓cK_i, cK_i, ifB_t, ifB_f, ↓ap_e, sel_t, sel_f, gsel_tt, gsel_tf, gsel_ft, gsel_ff, gsel_u, gd_tt, gd_tf, gd_ft, gd_ff, gd_u, ↓jn_n, jn_n, jn_r, ↓jn_r, blk_n, blk_r, ↓cl_r, cl_r, ↓iAdd_i, ↓iSub_i, ↓iMul_i, ↓iAnd_i, ↓iOr_i, ↓iXor_i, ↓iNeg_i, iQuo_i, iRem_i, ↓iConv_i, iConv_i, ↓bNot_b, bNot_b, ↓eqN_i, ↓ltN_i, ↓eqB_b, bnot_e, Int.ofNat_eq_natCast, Int.cast_ofNat_Int, Int.reduceBEq, Int.reduceAdd, Int.reduceNeg, Int.reduceNegSucc, Int.reduceLT, Int.reduceLE, Int.reduceMul, Int.reduceTMod, Int.reduceSub, Int.reduceBNe, Bool.not_true, Bool.not_false, decide_true, decide_false, w63_in, w31_in, ne_eq, not_false_eq_true, Int.reduceEq, reduceCtorEq, ww3131, ww6363, ww3163, ww6331, ww3231, ww3263, ww6463, ww6364, sh31, sh63, sl63, m31, m63, n63, s5a, s5b, s6a, s6b, b31, b32, b63, c63, c64, d64, iShl_c, iShr_c, sr3, sr6, sr7]
      rw [lpn m e]
      exact ih m (i + 1) (by omega) (by omega) (by omega)
    · have e1 : ¬ (i : Int) < (t.length : Int) := by omega
      exact lpx m (by simp only [↓L100n0, e1, ↓uc_c, ↓uz_n, ↓cI_i, ↓cB_b, cB_b, ↓cT_t, cT_t, nth_z, nth_1, cK_b, ↓cK_b, ↓cK_i, cK_i, ifB_t, ifB_f, ↓ap_e, sel_t, sel_f, gsel_tt, gsel_tf, gsel_ft, gsel_ff, gsel_u, gd_tt, gd_tf, gd_ft, gd_ff, gd_u, ↓jn_n, jn_n, jn_r, ↓jn_r, blk_n, blk_r, ↓cl_r, cl_r, ↓iAdd_i, ↓iSub_i, ↓iMul_i, ↓iAnd_i, ↓iOr_i, ↓iXor_i, ↓iNeg_i, iQuo_i, iRem_i, ↓iConv_i, iConv_i, ↓bNot_b, bNot_b, ↓eqN_i, ↓ltN_i, ↓eqB_b, bnot_e, Int.ofNat_eq_natCast, Int.cast_ofNat_Int, Int.reduceBEq, Int.reduceAdd, Int.reduceNeg, Int.reduceNegSucc, Int.reduceLT, Int.reduceLE, Int.reduceMul, Int.reduceTMod, Int.reduceSub, Int.reduceBNe, Bool.not_true, Bool.not_false, decide_true, decide_false, w63_in, w31_in, ne_eq, not_false_eq_true, Int.reduceEq, reduceCtorEq, ww3131, ww6363, ww3163, ww6331, ww3231, ww3263, ww6463, ww6364, sh31, sh63, sl63, m31, m63, n63, s5a, s5b, s6a, s6b, b31, b32, b63, c63, c64, d64, iShl_c, iShr_c, sr3, sr6, sr7])
theorem t100 {h : Hp} (hw : Wf h) (op : Int) (ho : 79 ≤ op) : ∃ h', s100 [.int 63 op] h = .ret (.tup (.cons (.int 63 0) (.cons (.bool false) .nil))) h' ∧ To No h h' ∧ Wf h' := by
  obtain ⟨v, h1, m1, m2, m3, m4, -⟩ := mkS_lit hw (Is [26, 30, 42, 59, 63, 75]) (Is_one _)
  have e0 : s100 [.int 63 op] h = mkS h 1 6 (avL (Is [26, 30, 42, 59, 63, 75])) fun v3 h4 => lenL v3 fun v5 => blk 0 (lp L100n0 most [.int 63 op, v3, v5, (.int 63 (.ofNat 0))] h4) fun _ h46 => cK (.int 63 (.ofNat 0)) fun v47 => cK (.bool false) fun v48 => .ret (.tup (.cons v47 (.cons v48 .nil))) h46 := rfl
  have m1 : ∀ k : AV → Hp → Res, mkS h 1 6 (avL (Is [26, 30, 42, 59, 63, 75])) k = k v h1 := m1
  have ln := fun k => lenL_sl m2 k
  have lp0 := loop100 m2 (by decide) op (by
    intro x hx
    simp at hx
    omega) 6 most 0 (by decide) (by decide) (by decide)
  refine ⟨h1, ?_, m3, m4⟩
  rw [e0, m1, ln]
  show blk 0 (lp L100n0 most [.int 63 op, v, .int 63 (([26, 30, 42, 59, 63, 75] : List Int).length : Int), .int 63 ((0 : Nat) : Int)] h1) _ = _
  rw [lp0, blk_e]
  rfl
theorem t102 (h : Hp) (op : Int) (ho : 79 ≤ op) : s102 [.int 63 op] h = .ret (.bool false) h := by
  have n1 : (op == 21) = false := beq_eq_false_iff_ne.2 (by omega)
  have n2 : (op == 22) = false := beq_eq_false_iff_ne.2 (by omega)
  have n3 : (op == 25) = false := beq_eq_false_iff_ne.2 (by omega)
  have n4 : (op == 54) = false := beq_eq_false_iff_ne.2 (by omega)
  have n5 : (op == 55) = false := beq_eq_false_iff_ne.2 (by omega)
  have n6 : (op == 58) = false := beq_eq_false_iff_ne.2 (by omega)
  simp only [↓s102, n1, n2, n3, n4, n5, n6, ↓uc_c, ↓uz_n, ↓cI_i, ↓cB_b, cB_b, ↓cT_t, cT_t, nth_z, nth_1, cK_b, ↓cK_b, ↓cK_i, cK_i, ifB_t, ifB_f, ↓ap_e, sel_t, sel_f, gsel_tt, gsel_tf, gsel_ft, gsel_ff, gsel_u, gd_tt, gd_tf, gd_ft, gd_ff, gd_u, ↓jn_n, jn_n, jn_r, ↓jn_r, blk_n, blk_r, ↓cl_r, cl_r, ↓iAdd_i, ↓iSub_i, ↓iMul_i, ↓iAnd_i, ↓iOr_i, ↓iXor_i, ↓iNeg_i, iQuo_i, iRem_i, ↓iConv_i, iConv_i, ↓bNot_b, bNot_b, ↓eqN_i, ↓ltN_i, ↓eqB_b, bnot_e, Int.ofNat_eq_natCast, Int.cast_ofNat_Int, Int.reduceBEq, Int.reduceAdd, Int.reduceNeg, Int.reduceNegSucc, Int.reduceLT, Int.reduceLE, Int.reduceMul, Int.reduceTMod, Int.reduceSub, Int.reduceBNe, Bool.not_true, Bool.not_false, decide_true, decide_false, w63_in, w31_in, ne_eq, not_false_eq_true, Int.reduceEq, reduceCtorEq, ww3131, ww6363, ww3163, ww6331, ww3231, ww3263, ww6463, ww6364, sh31, sh63, sl63, m31, m63, n63, s5a, s5b, s6a, s6b, b31, b32, b63, c63, c64, d64, iShl_c, iShr_c, sr3, sr6, sr7]
theorem t105 (h : Hp) (op : Int) (ho : 153 ≤ op ∧ op ≤ 167 ∨ op = 200) : s105 [.int 63 op] h = .ret (.bool true) h := by
  have a1 : ¬ op < 153 := by omega
  by_cases h1 : 167 < op
  · have o : op = 200 := by omega
    subst o
    simp only [↓s105, ↓uc_c, ↓uz_n, ↓cI_i, ↓cB_b, cB_b, ↓cT_t, cT_t, nth_z, nth_1, cK_b, ↓cK_b, ↓cK_i, cK_i, ifB_t, ifB_f, ↓ap_e, sel_t, sel_f, gsel_tt, gsel_tf, gsel_ft, gsel_ff, gsel_u, gd_tt, gd_tf, gd_ft, gd_ff, gd_u, ↓jn_n, jn_n, jn_r, ↓jn_r, blk_n, blk_r, ↓cl_r, cl_r, ↓iAdd_i, ↓iSub_i, ↓iMul_i, ↓iAnd_i, ↓iOr_i, ↓iXor_i, ↓iNeg_i, iQuo_i, iRem_i, ↓iConv_i, iConv_i, ↓bNot_b, bNot_b, ↓eqN_i, ↓ltN_i, ↓eqB_b, bnot_e, Int.ofNat_eq_natCast, Int.cast_ofNat_Int, Int.reduceBEq, Int.reduceAdd, Int.reduceNeg, Int.reduceNegSucc, Int.reduceLT, Int.reduceLE, Int.reduceMul, Int.reduceTMod, Int.reduceSub, Int.reduceBNe, Bool.not_true, Bool.not_false, decide_true, decide_false, w63_in, w31_in, ne_eq, not_false_eq_true, Int.reduceEq, reduceCtorEq, ww3131, ww6363, ww3163, ww6331, ww3231, ww3263, ww6463, ww6364, sh31, sh63, sl63, m31, m63, n63, s5a, s5b, s6a, s6b, b31, b32, b63, c63, c64, d64, iShl_c, iShr_c, sr3, sr6, sr7]
  · simp only [↓s105, a1, h1, ↓uc_c, ↓uz_n, ↓cI_i, ↓cB_b, cB_b, ↓cT_t, cT_t, nth_z, nth_1, cK_b, ↓cK_b, ↓cK_i, cK_i, ifB_t, ifB_f, ↓ap_e, sel_t, sel_f, gsel_tt, gsel_tf, gsel_ft, gsel_ff, gsel_u, gd_tt, gd_tf, gd_ft, gd_ff, gd_u, ↓jn_n, jn_n, jn_r, ↓jn_r, blk_n, blk_r, ↓cl_r, cl_r, ↓iAdd_i, ↓iSub_i, ↓iMul_i, ↓iAnd_i, ↓iOr_i, ↓iXor_i, ↓iNeg_i, iQuo_i, iRem_i, ↓iConv_i, iConv_i, ↓bNot_b, bNot_b, ↓eqN_i, ↓ltN_i, ↓eqB_b, bnot_e, Int.ofNat_eq_natCast, Int.cast_ofNat_Int, Int.reduceBEq, Int.reduceAdd, Int.reduceNeg, Int.reduceNegSucc, Int.reduceLT, Int.reduceLE, Int.reduceMul, Int.reduceTMod, Int.reduceSub, Int.reduceBNe, Bool.not_true, Bool.not_false, decide_true, decide_false, w63_in, w31_in, ne_eq, not_false_eq_true, Int.reduceEq, reduceCtorEq, ww3131, ww6363, ww3163, ww6331, ww3231, ww3263, ww6463, ww6364, sh31, sh63, sl63, m31, m63, n63, s5a, s5b, s6a, s6b, b31, b32, b63, c63, c64, d64, iShl_c, iShr_c, sr3, sr6, sr7]
end Go.Proofs.Ytnpfppddongbhaa
end

section
namespace Go.Proofs.Ytnpfppddongbhaa
open Go Go.AM
set_option autoImplicit false
set_option linter.unusedSimpArgs false
set_option linter.unusedVariables false
/-- A number with a sign, the highest byte first. -/
def sb : List Nat → Int → Int
  | [], a => a
  | x :: l, a => sb l (a * 256 + x)
def s8v (x : Nat) : Int := Int.bmod (x : Int) 256
theorem orS (a : Int) (x : Nat) (h1 : -1099511627776 ≤ a) (h2 : a < 1099511627776) (hx : x < 256) : wrapC 63 ((Nat.lor (toU 63 (wrapC 63 (a * 256))) (toU 63 (x : Int)) : Nat) : Int) = a * 256 + x := by
  have w : wrapC 63 (a * 256) = a * 256 := w63_in _ (by omega) (by omega)
  have e2 : toU 63 (x : Int) = x := by have := toU63 (x : Int); omega
  rw [w, e2]
  have e1 := toU63 (a * 256)
  generalize toU 63 (a * 256) = u at *
  obtain ⟨q, rfl⟩ : ∃ q, u = q * 256 := ⟨u / 256, by omega⟩
  have e3 : Nat.lor (q * 256) x = q * 256 + x := by
    have := Nat.two_pow_add_eq_or_of_lt (i := 8) (b := x) (by omega) q
    have e : Nat.lor (q * 256) x = (2 ^ 8 * q) ||| x := by rw [Nat.mul_comm]; rfl
    rw [e, ← this]; omega
  rw [e3, w63]
  simp only [Int.bmod]
  split <;> omega
theorem loop101 {h : Hp} {P : Nat → Prop} {v : AV} {l : List Nat} (hs : Sl h P v (Bs l)) (hl : l.length ≤ 3) (hb : ∀ x ∈ l, x < 256) (v1 v2 : AV) : ∀ (f m i : Nat) (a : Int), l.length - i ≤ f → f < m → i ≤ l.length → -(128 * 256 ^ i) ≤ a → a < 128 * 256 ^ i → lp L101n0 m [v1, v2, .int 63 a, v, .int 63 (l.length : Int), .int 63 (i : Int)] h = .exit 0 [v1, v2, .int 63 (sb (l.drop i) a)] h := by
  intro f
  induction f with
  | zero =>
    intro m i a hf hm hi ha hb'
    obtain ⟨m, rfl⟩ : ∃ k, m = k + 1 := ⟨m - 1, by omega⟩
    have e1 : ¬ (i : Int) < (l.length : Int) := by omega
    rw [List.drop_eq_nil_of_le (by omega)]
    exact lpx m (by simp only [↓L101n0, e1, sb, ↓uc_c, ↓uz_n, ↓cI_i, ↓cB_b, cB_b, ↓cT_t, cT_t, nth_z, nth_1, cK_b, ↓cK_b, ↓cK_i, cK_i, ifB_t, ifB_f, ↓ap_e, sel_t, sel_f, gsel_tt, gsel_tf, gsel_ft, gsel_ff, gsel_u, gd_tt, gd_tf, gd_ft, gd_ff, gd_u, ↓jn_n, jn_n, jn_r, ↓jn_r, blk_n, blk_r, ↓cl_r, cl_r, ↓iAdd_i, ↓iSub_i, ↓iMul_i, ↓iAnd_i, ↓iOr_i, ↓iXor_i, ↓iNeg_i, iQuo_i, iRem_i, ↓iConv_i, iConv_i, ↓bNot_b, bNot_b, ↓eqN_i, ↓ltN_i, ↓eqB_b, bnot_e, Int.ofNat_eq_natCast, Int.cast_ofNat_Int, Int.reduceBEq, Int.reduceAdd, Int.reduceNeg, Int.reduceNegSucc, Int.reduceLT, Int.reduceLE, Int.reduceMul, Int.reduceTMod, Int.reduceSub, Int.reduceBNe, Bool.not_true, Bool.not_false, decide_true, decide_false, w63_in, w31_in, ne_eq, not_false_eq_true, Int.reduceEq, reduceCtorEq, ww3131, ww6363, ww3163, ww6331, ww3231, ww3263, ww6463, ww6364, sh31, sh63, sl63, m31, m63, n63, s5a, s5b, s6a, s6b, b31, b32, b63, c63, c64, d64, iShl_c, iShr_c, sr3, sr6, sr7])
  | succ f ih =>
    intro m i a hf hm hi ha hb'
    obtain ⟨m, rfl⟩ : ∃ k, m = k + 1 := ⟨m - 1, by omega⟩
    by_cases hin : i < l.length
    · have e1 : (i : Int) < (l.length : Int) := by omega
      have hx : l[i] < 256 := hb _ (List.getElem_mem _)
      have g : (Bs l)[i]'(by rw [Bs_len]; exact hin) = .int 8 (l[i] : Int) := by simp [Bs]
      have iv := fun k => ix_sl hs (c := 63) i (by rw [Bs_len]; exact hin) k
      rw [g] at iv
      have p3 : (256 : Int) ^ i ≤ 65536 := by
        have : i = 0 ∨ i = 1 ∨ i = 2 := by omega
        rcases this with rfl | rfl | rfl <;> decide
      have e : L101n0 [v1, v2, .int 63 a, v, .int 63 (l.length : Int), .int 63 (i : Int)] h = .norm [v1, v2, .int 63 (a * 256 + l[i]), v, .int 63 (l.length : Int), .int 63 ((i + 1 : Nat) : Int)] h := by
        simp only [↓L101n0, e1, ↓iv, ↓sh8, c8 _ hx, orS a _ (by omega) (by omega) hx, s1n i (by omega), ↓uc_c, ↓uz_n, ↓cI_i, ↓cB_b, cB_b, ↓cT_t, cT_t, nth_z, nth_1, cK_b, ↓cK_b, ↓cK_i, cK_i, ifB_t, ifB_f, ↓ap_e, sel_t, sel_f, gsel_tt, gsel_tf, gsel_ft, gsel_ff, gsel_u, gd_tt, gd_tf, gd_ft, gd_ff, gd_u, ↓jn_n, jn_n, jn_r, ↓jn_r, blk_n, blk_r, ↓cl_r, cl_r, ↓iAdd_i, ↓iSub_i, ↓iMul_i, ↓iAnd_i, ↓iOr_i, ↓iXor_i, ↓iNeg_i, iQuo_i, iRem_i, ↓iConv_i, iConv_i, ↓bNot_b, bNot_b, ↓eqN_i, ↓ltN_i, ↓eqB_b, bnot_e, Int.ofNat_eq_natCast, Int.cast_ofNat_Int, Int.reduceBEq, Int.reduceAdd, Int.reduceNeg, Int.reduceNegSucc, Int.reduceLT, Int.reduceLE, Int.reduceMul, Int.reduceTMod, Int.reduceSub, Int.reduceBNe, Bool.not_true, Bool.not_false, decide_true, decide_false, w63_in, w31_in, ne_eq, not_false_eq_true, Int.reduceEq, reduceCtorEq, ww3131, ww6363, ww3163, ww6331, ww3231, ww3263, ww6463, ww6364, sh31, sh63, sl63, m31, m63, n63, s5a, s5b, s6a, s6b, b31, b32, b63, c63, c64, d64, iShl_c, iShr_c, sr3, sr6, sr7]
      rw [lpn m e]
      have q : (256 : Int) ^ (i + 1) = 256 ^ i * 256 := Int.pow_succ ..
      have := ih m (i + 1) (a * 256 + l[i]) (by omega) (by omega) (by omega) (by rw [q]; omega) (by rw [q]; omega)
      rw [this, List.drop_eq_getElem_cons hin]
      rfl
    · have e1 : ¬ (i : Int) < (l.length : Int) := by omega
      rw [List.drop_eq_nil_of_le (by omega)]
      exact lpx m (by simp only [↓L101n0, e1, sb, ↓uc_c, ↓uz_n, ↓cI_i, ↓cB_b, cB_b, ↓cT_t, cT_t, nth_z, nth_1, cK_b, ↓cK_b, ↓cK_i, cK_i, ifB_t, ifB_f, ↓ap_e, sel_t, sel_f, gsel_tt, gsel_tf, gsel_ft, gsel_ff, gsel_u, gd_tt, gd_tf, gd_ft, gd_ff, gd_u, ↓jn_n, jn_n, jn_r, ↓jn_r, blk_n, blk_r, ↓cl_r, cl_r, ↓iAdd_i, ↓iSub_i, ↓iMul_i, ↓iAnd_i, ↓iOr_i, ↓iXor_i, ↓iNeg_i, iQuo_i, iRem_i, ↓iConv_i, iConv_i, ↓bNot_b, bNot_b, ↓eqN_i, ↓ltN_i, ↓eqB_b, bnot_e, Int.ofNat_eq_natCast, Int.cast_ofNat_Int, Int.reduceBEq, Int.reduceAdd, Int.reduceNeg, Int.reduceNegSucc, Int.reduceLT, Int.reduceLE, Int.reduceMul, Int.reduceTMod, Int.reduceSub, Int.reduceBNe, Bool.not_true, Bool.not_false, decide_true, decide_false, w63_in, w31_in, ne_eq, not_false_eq_true, Int.reduceEq, reduceCtorEq, ww3131, ww6363, ww3163, ww6331, ww3231, ww3263, ww6463, ww6364, sh31, sh63, sl63, m31, m63, n63, s5a, s5b, s6a, s6b, b31, b32, b63, c63, c64, d64, iShl_c, iShr_c, sr3, sr6, sr7])
end Go.Proofs.Ytnpfppddongbhaa
end

section
namespace Go.Proofs.Ytnpfppddongbhaa
open Go Go.AM
set_option autoImplicit false
set_option linter.unusedSimpArgs false
set_option linter.unusedVariables false
section
variable {h : Hp} {lo b at_ : Nat} {t : List Nat}
/-- A number with a sign is read. -/
theorem t101 (hc : Cur h lo b t at_ false) (hw : Wf h) (n : Nat) (h1 : 1 ≤ n) (h4 : n ≤ 4) (hn : at_ + n ≤ t.length) :
    ∃ h', s101 [.ptr b 0, .int 63 (n : Int)] h = .ret (.int 63 (sb ((t.drop (at_ + 1)).take (n - 1)) (Int.bmod (t[at_]'(by omega) : Int) 256))) h' ∧ Cur h' lo b t (at_ + n) false ∧ To (At b) h h' ∧ Wf h' := by
  obtain ⟨v, hs, e0, e1, e2⟩ := hc.open
  obtain ⟨h', e3, c', o'⟩ := hc.move (at_ + n) hn
  have l0 := fun k => lenL_sl hs k
  have hlen := hc.len
  have hat : at_ < t.length := by omega
  have w1 : wrapC 63 ((t.length : Int) - (at_ : Int)) = (t.length : Int) - (at_ : Int) := w63_in _ (by omega) (by omega)
  have w2 : wrapC 63 ((at_ : Int) + (n : Int)) = ((at_ + n : Nat) : Int) := by rw [w63_in _ (by omega) (by omega)]; omega
  have w3 : wrapC 63 ((at_ : Int) + 1) = ((at_ + 1 : Nat) : Int) := s1n _ (by omega)
  have h2 : ¬ (t.length : Int) - at_ < (n : Int) := by omega
  have iv := fun k => ix_sl hs (c := 63) at_ (by rw [Bs_len]; exact hat) k
  have g : (Bs t)[at_]'(by rw [Bs_len]; exact hat) = .int 8 (t[at_] : Int) := by simp [Bs]
  rw [g] at iv
  have s7 : wrapC 7 (t[at_] : Int) = Int.bmod (t[at_] : Int) 256 := w7 _
  have hb7 : -128 ≤ Int.bmod (t[at_] : Int) 256 ∧ Int.bmod (t[at_] : Int) 256 < 128 := by simp only [Int.bmod]; split <;> omega
  have s6 : wrapC 63 (Int.bmod (t[at_] : Int) 256) = Int.bmod (t[at_] : Int) 256 := w63_in _ (by omega) (by omega)
  obtain ⟨v', g1, g2⟩ := cut_sl hs (c1 := 63) (c2 := 63) (at_ + 1) (at_ + n) (by omega) (by rw [Bs_len]; exact hn)
  have g2' : Sl h (fun x => lo ≤ x ∧ x < b) v' (Bs ((t.drop (at_ + 1)).take (n - 1))) := by
    have e : ((Bs t).drop (at_ + 1)).take (at_ + n - (at_ + 1)) = Bs ((t.drop (at_ + 1)).take (n - 1)) := by rw [show at_ + n - (at_ + 1) = n - 1 by omega]; simp [Bs, List.map_drop, List.map_take]
    rwa [e] at g2
  have hll : ((t.drop (at_ + 1)).take (n - 1)).length ≤ 3 := by simp; omega
  have ln := fun k => lenL_sl g2' k
  have lp0 := loop101 g2' hll (fun x hx => hc.byt x (List.mem_of_mem_drop (List.mem_of_mem_take hx))) (.ptr b 0) (.int 63 (n : Int)) 3 most 0 (Int.bmod (t[at_] : Int) 256) (by omega) (by decide) (by omega) (by simpa using hb7.1) (by simpa using hb7.2)
  rw [show ((0 : Nat) : Int) = 0 from rfl, List.drop_zero] at lp0
  refine ⟨h', ?_, c', o', o'.wf hw⟩
  simp only [↓s101, ↓nck_p, ↓cP_p, ↓e0, ↓e1, ↓e2, ↓l0, Bs_len, w1, h2, ↓iv, s7, s6, w3, w2, ↓g1, ↓ln, lp0, blk_e, ↓uc_c, ↓uz_n, ↓cI_i, ↓cB_b, cB_b, ↓cT_t, cT_t, nth_z, nth_1, cK_b, ↓cK_b, ↓cK_i, cK_i, ifB_t, ifB_f, ↓ap_e, sel_t, sel_f, gsel_tt, gsel_tf, gsel_ft, gsel_ff, gsel_u, gd_tt, gd_tf, gd_ft, gd_ff, gd_u, ↓jn_n, jn_n, jn_r, ↓jn_r, blk_n, blk_r, ↓cl_r, cl_r, ↓iAdd_i, ↓iSub_i, ↓iMul_i, ↓iAnd_i, ↓iOr_i, ↓iXor_i, ↓iNeg_i, iQuo_i, iRem_i, ↓iConv_i, iConv_i, ↓bNot_b, bNot_b, ↓eqN_i, ↓ltN_i, ↓eqB_b, bnot_e, Int.ofNat_eq_natCast, Int.cast_ofNat_Int, Int.reduceBEq, Int.reduceAdd, Int.reduceNeg, Int.reduceNegSucc, Int.reduceLT, Int.reduceLE, Int.reduceMul, Int.reduceTMod, Int.reduceSub, Int.reduceBNe, Bool.not_true, Bool.not_false, decide_true, decide_false, w63_in, w31_in, ne_eq, not_false_eq_true, Int.reduceEq, reduceCtorEq, ww3131, ww6363, ww3163, ww6331, ww3231, ww3263, ww6463, ww6364, sh31, sh63, sl63, m31, m63, n63, s5a, s5b, s6a, s6b, b31, b32, b63, c63, c64, d64, iShl_c, iShr_c, sr3, sr6, sr7]
  simp only [show Nat.beq 0 0 = true from rfl, ↓nck_p, ↓cP_p, ↓e1, w2, ↓e3, ↓uc_c, ↓uz_n, ↓cI_i, ↓cB_b, cB_b, ↓cT_t, cT_t, nth_z, nth_1, cK_b, ↓cK_b, ↓cK_i, cK_i, ifB_t, ifB_f, ↓ap_e, sel_t, sel_f, gsel_tt, gsel_tf, gsel_ft, gsel_ff, gsel_u, gd_tt, gd_tf, gd_ft, gd_ff, gd_u, ↓jn_n, jn_n, jn_r, ↓jn_r, blk_n, blk_r, ↓cl_r, cl_r, ↓iAdd_i, ↓iSub_i, ↓iMul_i, ↓iAnd_i, ↓iOr_i, ↓iXor_i, ↓iNeg_i, iQuo_i, iRem_i, ↓iConv_i, iConv_i, ↓bNot_b, bNot_b, ↓eqN_i, ↓ltN_i, ↓eqB_b, bnot_e, Int.ofNat_eq_natCast, Int.cast_ofNat_Int, Int.reduceBEq, Int.reduceAdd, Int.reduceNeg, Int.reduceNegSucc, Int.reduceLT, Int.reduceLE, Int.reduceMul, Int.reduceTMod, Int.reduceSub, Int.reduceBNe, Bool.not_true, Bool.not_false, decide_true, decide_false, w63_in, w31_in, ne_eq, not_false_eq_true, Int.reduceEq, reduceCtorEq, ww3131, ww6363, ww3163, ww6331, ww3231, ww3263, ww6463, ww6364, sh31, sh63, sl63, m31, m63, n63, s5a, s5b, s6a, s6b, b31, b32, b63, c63, c64, d64, iShl_c, iShr_c, sr3, sr6, sr7]
end
end Go.Proofs.Ytnpfppddongbhaa
end

section
namespace Go.Proofs.Ytnpfppddongbhaa
open Go Go.AM
set_option autoImplicit false
set_option linter.unusedSimpArgs false
set_option linter.unusedVariables false
section
variable {h : Hp} {lo b at_ : Nat} {t : List Nat}
def numAt (t : List Nat) (at_ n : Nat) (hn : at_ < t.length) : Int := sb ((t.drop (at_ + 1)).take (n - 1)) (Int.bmod (t[at_] : Int) 256)
/-- A branch's operand. -/
theorem t80 (hc : Cur h lo b t at_ false) (hw : Wf h) {c : Nat} {C : Blk} (oc : Own h c C) (hl : C.lim = 8) (hbc : b < c) (at0 op : Int) (n : Nat) (ho : (153 ≤ op ∧ op ≤ 167 ∧ n = 2) ∨ (op = 200 ∧ n = 4)) (hn : at_ + n ≤ t.length)
    (c0 : C.at 0 = .int 63 at0) (c2 : C.at 2 = .int 63 op) (hlt : at_ < t.length) (hsm : wrapC 63 (at0 + numAt t at_ n hlt) = at0 + numAt t at_ n hlt) :
    ∃ h' C', s80 [.ptr b 0, .ptr c 0] h = .ret (.tup .nil) h' ∧ Own h' c C' ∧ C'.lim = 8 ∧ (∀ i, C'.at i = if i = 4 then .int 63 (at0 + numAt t at_ n hlt) else C.at i) ∧ Cur h' lo b t (at_ + n) false ∧ To (fun x => x = b ∨ x = c) h h' ∧ Wf h' := by
  obtain ⟨h1, e1, o1, w1⟩ := t100 hw op (by omega)
  have oc1 := oc.to o1 (fun f => f)
  have hc1 := hc.to o1 (fun _ _ _ f => f)
  obtain ⟨h2, e2, d2, o2, w2⟩ := t101 hc1 w1 n (by omega) (by omega) hn
  have oc2 := oc1.to o2 (fun e => by have : c = b := e; omega)
  obtain ⟨h3, e3, oc3, o3, -⟩ := st1_own (o := 4) (v := .int 63 (at0 + numAt t at_ n hlt)) oc2 (by omega) rfl
  have r0 : ∀ k : AV → Res, ld1 h (.ptr c (Nat.add 0 2)) k = k (.int 63 op) := fun k => (ld1_rd oc.rd c2 k).trans (cK_i _ _ _)
  have r1 : ∀ k : AV → Res, ld1 h1 (.ptr c (Nat.add 0 2)) k = k (.int 63 op) := fun k => (ld1_rd oc1.rd c2 k).trans (cK_i _ _ _)
  have r2 : ∀ k : AV → Res, ld1 h1 (.ptr c (Nat.add 0 0)) k = k (.int 63 at0) := fun k => (ld1_rd oc1.rd c0 k).trans (cK_i _ _ _)
  have r3 : ∀ k : AV → Res, ld1 h2 (.ptr c (Nat.add 0 0)) k = k (.int 63 at0) := fun k => (ld1_rd oc2.rd c0 k).trans (cK_i _ _ _)
  have e3 : ∀ k : Hp → Res, st1 h2 (.ptr c (Nat.add 0 4)) (.int 63 (at0 + numAt t at_ n hlt)) k = k h3 := e3
  have e2' : s101 [.ptr b 0, .int 63 (n : Int)] h1 = .ret (.int 63 (numAt t at_ n hlt)) h2 := e2
  have tot : To (fun x => x = b ∨ x = c) h h3 := ((o1.mono fun _ _ f => f.elim).trans (o2.mono fun x _ e => .inl e)).trans (o3.mono fun x _ e => .inr e)
  refine ⟨h3, _, ?_, oc3, hl, fun i => by rw [setC_at (by omega)], d2.to o3 (fun x _ hx e => by have : x = c := e; omega), tot, o3.wf w2⟩
  have p102 := t102 h1 op (by omega)
  have p105 := t105 h1 op (by omega)
  rcases ho with ⟨a1, a2, rfl⟩ | ⟨rfl, rfl⟩
  · have m1 : ¬ op < 2 := by omega
    have m2 : (8 : Int) < op := by omega
    have m3 : op < 178 := by omega
    have q9 : (op == 9) = false := beq_eq_false_iff_ne.2 (by omega)
    have q10 : (op == 10) = false := beq_eq_false_iff_ne.2 (by omega)
    have q16 : (op == 16) = false := beq_eq_false_iff_ne.2 (by omega)
    have q17 : (op == 17) = false := beq_eq_false_iff_ne.2 (by omega)
    have q18 : (op == 18) = false := beq_eq_false_iff_ne.2 (by omega)
    have q188 : (op == 188) = false := beq_eq_false_iff_ne.2 (by omega)
    have q19 : (op == 19) = false := beq_eq_false_iff_ne.2 (by omega)
    have q20 : (op == 20) = false := beq_eq_false_iff_ne.2 (by omega)
    have q187 : (op == 187) = false := beq_eq_false_iff_ne.2 (by omega)
    have q189 : (op == 189) = false := beq_eq_false_iff_ne.2 (by omega)
    have q192 : (op == 192) = false := beq_eq_false_iff_ne.2 (by omega)
    have q193 : (op == 193) = false := beq_eq_false_iff_ne.2 (by omega)
    have q132 : (op == 132) = false := beq_eq_false_iff_ne.2 (by omega)
    have q197 : (op == 197) = false := beq_eq_false_iff_ne.2 (by omega)
    have q185 : (op == 185) = false := beq_eq_false_iff_ne.2 (by omega)
    have q200 : (op == 200) = false := beq_eq_false_iff_ne.2 (by omega)
    rw [show ((2 : Nat) : Int) = 2 from rfl] at e2'
    simp only [↓s80, ↓nck_p, ↓cP_p, ↓r0, ↓e1, nth_z, nth_1, ↓r1, m1, m2, m3, q9, q10, q16, q17, q18, q188, q19, q20, q187, q189, q192, q193, q132, q197, q185, q200, ↓p102, ↓p105, ↓r2, ↓e2', ↓r3, ↓same_i, hsm, ↓e3, ↓uc_c, ↓uz_n, ↓cI_i, ↓cB_b, cB_b, ↓cT_t, cT_t, nth_z, nth_1, cK_b, ↓cK_b, ↓cK_i, cK_i, ifB_t, ifB_f, ↓ap_e, sel_t, sel_f, gsel_tt, gsel_tf, gsel_ft, gsel_ff, gsel_u, gd_tt, gd_tf, gd_ft, gd_ff, gd_u, ↓jn_n, jn_n, jn_r, ↓jn_r, blk_n, blk_r, ↓cl_r, cl_r, ↓iAdd_i, ↓iSub_i, ↓iMul_i, ↓iAnd_i, ↓iOr_i, ↓iXor_i, ↓iNeg_i, iQuo_i, iRem_i, ↓iConv_i, iConv_i, ↓bNot_b, bNot_b, ↓eqN_i, ↓ltN_i, ↓eqB_b, bnot_e, Int.ofNat_eq_natCast, Int.cast_ofNat_Int, Int.reduceBEq, Int.reduceAdd, Int.reduceNeg, Int.reduceNegSucc, Int.reduceLT, Int.reduceLE, Int.reduceMul, Int.reduceTMod, Int.reduceSub, Int.reduceBNe, Bool.not_true, Bool.not_false, decide_true, decide_false, w63_in, w31_in, ne_eq, not_false_eq_true, Int.reduceEq, reduceCtorEq, ww3131, ww6363, ww3163, ww6331, ww3231, ww3263, ww6463, ww6364, sh31, sh63, sl63, m31, m63, n63, s5a, s5b, s6a, s6b, b31, b32, b63, c63, c64, d64, iShl_c, iShr_c, sr3, sr6, sr7]
  · rw [show ((4 : Nat) : Int) = 4 from rfl] at e2'
    simp only [↓s80, ↓nck_p, ↓cP_p, ↓r0, ↓e1, nth_z, nth_1, ↓r1, ↓p102, ↓p105, ↓r2, ↓e2', ↓r3, ↓same_i, hsm, ↓e3, ↓uc_c, ↓uz_n, ↓cI_i, ↓cB_b, cB_b, ↓cT_t, cT_t, nth_z, nth_1, cK_b, ↓cK_b, ↓cK_i, cK_i, ifB_t, ifB_f, ↓ap_e, sel_t, sel_f, gsel_tt, gsel_tf, gsel_ft, gsel_ff, gsel_u, gd_tt, gd_tf, gd_ft, gd_ff, gd_u, ↓jn_n, jn_n, jn_r, ↓jn_r, blk_n, blk_r, ↓cl_r, cl_r, ↓iAdd_i, ↓iSub_i, ↓iMul_i, ↓iAnd_i, ↓iOr_i, ↓iXor_i, ↓iNeg_i, iQuo_i, iRem_i, ↓iConv_i, iConv_i, ↓bNot_b, bNot_b, ↓eqN_i, ↓ltN_i, ↓eqB_b, bnot_e, Int.ofNat_eq_natCast, Int.cast_ofNat_Int, Int.reduceBEq, Int.reduceAdd, Int.reduceNeg, Int.reduceNegSucc, Int.reduceLT, Int.reduceLE, Int.reduceMul, Int.reduceTMod, Int.reduceSub, Int.reduceBNe, Bool.not_true, Bool.not_false, decide_true, decide_false, w63_in, w31_in, ne_eq, not_false_eq_true, Int.reduceEq, reduceCtorEq, ww3131, ww6363, ww3163, ww6331, ww3231, ww3263, ww6463, ww6364, sh31, sh63, sl63, m31, m63, n63, s5a, s5b, s6a, s6b, b31, b32, b63, c63, c64, d64, iShl_c, iShr_c, sr3, sr6, sr7]
end
end Go.Proofs.Ytnpfppddongbhaa
end

section
namespace Go.Proofs.Ytnpfppddongbhaa
open Go Go.AM
set_option autoImplicit false
set_option linter.unusedSimpArgs false
set_option linter.unusedVariables false
theorem ixs2 {h : Hp} {P : Nat → Prop} {v : AV} {l : List AV} (hs : Sl h P v l) (j : Nat) (hj : j < l.length) : ∃ p, (∀ k : AV → Res, ixA 1 v (.int 63 (j : Int)) k = k p) ∧ ∀ (W : Nat → Prop) (h' : Hp), To W h h' → (∀ b, P b → ¬ W b) → ∀ k : AV → Res, ld1 h' p k = k l[j] := by
  rcases hs.2 with ⟨-, rfl⟩ | ⟨-, rfl⟩ | ⟨b, o, cc, B, rfl, h3, h4, h5, hc, h6⟩
  · simp at hj
  · simp at hj
  · refine ⟨.ptr b (o + j), fun k => ?_, fun W h' ht hd k => (ld1_rd (h4.to ht (hd b h3) (fun hf => hd _ (h5 hf))) (h6 j hj) k).trans (cK_one (hs.1 _ (List.getElem_mem hj)) k)⟩
    have e : ixA 1 (.sl b o l.length 1 cc) (.int 63 (j : Int)) k = ifB (Nat.blt j l.length) (ifB (Nat.beq 1 1) (k (.ptr b (Nat.add o (Nat.mul j 1)))) .fail) .fail := rfl
    rw [e, (blt_iff _ _).2 hj]
    have e2 : Nat.add o (Nat.mul j 1) = o + j := by show o + j * 1 = o + j; omega
    show k (.ptr b (Nat.add o (Nat.mul j 1))) = _
    rw [e2]
/-- A reader that is made over bytes. -/
theorem mkRd {h : Hp} {v : AV} {t : List Nat} {at_ : Nat} (hs : Sl h (fun x => x < h.nb) v (Bs t)) (hw : Wf h) (ht : t.length ≤ 100000) (ha : at_ ≤ t.length) (hb : ∀ x ∈ t, x < 256) :
    ∃ h', (∀ k : AV → Hp → Res, (bld [(false, 1, v), (false, 1, .int 63 (at_ : Int)), (false, 1, .bool false)] fun l => mk h (cells (.agg l)) k) = k (.ptr h.nb 0) h') ∧ Cur h' 0 h.nb t at_ false ∧ To No h h' ∧ Wf h' ∧ h'.nb = h.nb + 1 := by
  have hone := one_sl hs
  have hl : ∀ x ∈ [v, .int 63 (at_ : Int), .bool false], one x = true := by
    intro x hx
    rcases List.mem_cons.1 hx with rfl | hx
    · exact hone
    · rcases List.mem_cons.1 hx with rfl | hx
      · rfl
      · rcases List.mem_cons.1 hx with rfl | hx
        · rfl
        · cases hx
  obtain ⟨h', B, m1, m2, m3, m4, m5, m6, m7⟩ := mk_own hw [v, .int 63 (at_ : Int), .bool false] hl
  refine ⟨h', fun k => ?_, ⟨⟨B, v, m2, m3, m4 0 (by simp), m4 1 (by simp), m4 2 (by simp), (hs.to m5 (fun _ _ f => f)).mono fun x hx => ⟨Nat.zero_le _, hx⟩⟩, ha, ht, Nat.zero_le _, hb⟩, m5, m6, m7⟩
  have : bld [(false, 1, v), (false, 1, .int 63 (at_ : Int)), (false, 1, .bool false)] (fun l => mk h (cells (.agg l)) k) = ifB (one v) (mk h (avL [v, .int 63 (at_ : Int), .bool false]) k) .fail := rfl
  rw [this, hone, ifB_t, m1]
end Go.Proofs.Ytnpfppddongbhaa
end

section
namespace Go.Proofs.Ytnpfppddongbhaa
open Go Go.AM
set_option autoImplicit false
set_option linter.unusedSimpArgs false
set_option linter.unusedVariables false
/-- The fields of an instruction. -/
def fl (a l o : Int) (w : Bool) (x y : Int) : List AV := [.int 63 a, .int 63 l, .int 63 o, .bool w, .int 63 x, .int 63 y, .nils, .nils]
theorem fl_one (a l o : Int) (w : Bool) (x y : Int) : ∀ v ∈ fl a l o w x y, one v = true := by
  intro v hv
  simp only [fl, List.mem_cons, List.not_mem_nil, or_false] at hv
  rcases hv with rfl | rfl | rfl | rfl | rfl | rfl | rfl | rfl <;> rfl
theorem fl_bld (a l o x y : Int) (w : Bool) (k : AV → Res) : bld [(false, 1, .int 63 a), (false, 1, .int 63 l), (false, 1, .int 63 o), (false, 1, .bool w), (false, 1, .int 63 x), (false, 1, .int 63 y), (false, 1, .nils), (false, 1, .nils)] k = k (avL (fl a l o w x y)) := of_eq_true (eq_self _)
end Go.Proofs.Ytnpfppddongbhaa
end

section
namespace Go.Proofs.Ytnpfppddongbhaa
open Go Go.AM
set_option autoImplicit false
set_option linter.unusedSimpArgs false
set_option linter.unusedVariables false
theorem kept_any (op : Int) (ho : (153 ≤ op ∧ op ≤ 167) ∨ op = 200) : (tb79.any fun p => decide (p.1 ≤ op ∧ op ≤ p.2)) = true := by
  rw [List.any_eq_true]
  rcases ho with ho | rfl
  · exact ⟨(153, 167), by decide, decide_eq_true ho⟩
  · exact ⟨(187, 200), by decide, by decide⟩
/-- An instruction that branches is read. -/
theorem t53 {h : Hp} {v : AV} {t : List Nat} (hs : Sl h (fun x => x < h.nb) v (Bs t)) (hw : Wf h) (ht : t.length ≤ 100000) (hb : ∀ x ∈ t, x < 256) (at_ op n : Nat) (hat : at_ < t.length) (hop : t[at_] = op)
    (ho : (153 ≤ op ∧ op ≤ 167 ∧ n = 2) ∨ (op = 200 ∧ n = 4)) (hn : at_ + 1 + n ≤ t.length) (num : Int) (hlt : at_ + 1 < t.length) (hnum : numAt t (at_ + 1) n hlt = num) (hsm : -1000000000000 ≤ num ∧ num ≤ 1000000000000) :
    ∃ h', s53 [v, .int 63 (at_ : Int)] h = .ret (.tup (.cons (.agg (avL (fl at_ ((n + 1 : Nat) : Int) op false (at_ + num) 0))) (.cons (.bool true) .nil))) h' ∧ To No h h' ∧ Wf h' := by
  have hx : op < 256 := hop ▸ hb _ (List.getElem_mem hat)
  obtain ⟨h1, B1, a1, a2, a3, a4, a5, a6, a7⟩ := mk_own hw (fl 0 0 0 false 0 0) (fl_one _ _ _ _ _ _)
  have a1 : ∀ k : AV → Hp → Res, mk h (.cons (.int 63 0) (.cons (.int 63 0) (.cons (.int 63 0) (.cons (.bool false) (.cons (.int 63 0) (.cons (.int 63 0) (.cons .nils (.cons .nils .nil)))))))) k = k (.ptr h.nb 0) h1 := a1
  have hs1 := (hs.to a5 (fun _ _ f => f)).mono (fun x hx => Nat.lt_of_lt_of_le hx a5.nb)
  have len : ∀ k : AV → Res, lenL v k = k (.int 63 (t.length : Int)) := fun k => by have := lenL_sl hs k; rwa [Bs_len] at this
  have c0 : ¬ (at_ : Int) < 0 := by omega
  have c1 : (at_ : Int) < (t.length : Int) := by omega
  obtain ⟨p, p1, p2⟩ := ixs2 hs at_ (by rw [Bs_len]; exact hat)
  have p2 := fun W h' ht => p2 W h' ht
  have g : (Bs t)[at_]'(by rw [Bs_len]; exact hat) = .int 8 (op : Int) := by simp [Bs, hop]
  rw [g] at p2
  have l1 := p2 No h1 a5 (fun _ _ f => f)
  obtain ⟨h2, e2, o2, w2⟩ := t79 a6 (op : Int) (kept_any _ (by omega))
  have hs2 := (hs1.to o2 (fun _ _ f => f)).mono (fun x hx => Nat.lt_of_lt_of_le hx o2.nb)
  obtain ⟨h3, m1, m2, m3, m4, m5⟩ := mkRd (at_ := at_ + 1) hs2 w2 ht (by omega) hb
  have w1 : wrapC 63 ((at_ : Int) + 1) = ((at_ + 1 : Nat) : Int) := s1n _ (by omega)
  have l3 := p2 No h3 ((a5.trans o2).trans m3) (fun _ _ f => f)
  obtain ⟨h4, C0, q1, q2, q3, q4, q5, q6, q7⟩ := mk_own m4 (fl 0 0 0 false 0 0) (fl_one _ _ _ _ _ _)
  have q1 : ∀ k : AV → Hp → Res, mk h3 (.cons (.int 63 0) (.cons (.int 63 0) (.cons (.int 63 0) (.cons (.bool false) (.cons (.int 63 0) (.cons (.int 63 0) (.cons .nils (.cons .nils .nil)))))))) k = k (.ptr h3.nb 0) h4 := q1
  obtain ⟨h5, C, r1, r2, r3, r4, r5, r6⟩ := stN_own (o := 0) (l := fl at_ 0 op false 0 0) q2 (by rw [q3]; simp [fl]) (fl_one _ _ _ _ _ _)
  have r1 : ∀ k : Hp → Res, stN h4 8 (.ptr h3.nb 0) (.agg (avL (fl at_ 0 op false 0 0))) k = k h5 := r1
  have m2' := (m2.to q5 (fun _ _ _ f => f)).to r5 (fun x _ hx e => by have : x = h3.nb := e; omega)
  have w5 := r5.wf q6
  have k0 : C.at 0 = .int 63 (at_ : Int) := r4 0
  have k2 : C.at 2 = .int 63 (op : Int) := r4 2
  have hsum : wrapC 63 ((at_ : Int) + num) = at_ + num := w63_in _ (by omega) (by omega)
  obtain ⟨h6, C', u1, u2, u3, u4, u5, u6, u7⟩ := t80 m2' w5 r2 (by rw [r3, q3]; rfl) (by omega) (at_ : Int) (op : Int) n (by omega) hn k0 k2 hlt (by rw [hnum]; exact hsum)
  rw [hnum] at u4
  obtain ⟨-, -, -, d1, d2⟩ := u5.open
  have w2' : wrapC 63 (((at_ + 1 + n : Nat) : Int) - (at_ : Int)) = ((n + 1 : Nat) : Int) := by rw [w63_in _ (by omega) (by omega)]; omega
  obtain ⟨h7, x1, x2, x3, x4⟩ := st1_own (o := 1) (v := .int 63 ((n + 1 : Nat) : Int)) u2 (by omega) rfl
  have x1 : ∀ k : Hp → Res, st1 h6 (.ptr h3.nb (Nat.add 0 1)) (.int 63 ((n + 1 : Nat) : Int)) k = k h7 := x1
  have w6 := x3.wf u7
  have hC : ∀ i (hi : i < (fl at_ ((n + 1 : Nat) : Int) op false (at_ + num) 0).length), (setC C' 1 (.int 63 ((n + 1 : Nat) : Int))).at (0 + i) = (fl at_ ((n + 1 : Nat) : Int) op false (at_ + num) 0)[i] := by
    intro i hi
    rw [Nat.zero_add, setC_at (by omega)]
    have hi : i < 8 := hi
    by_cases e1 : i = 1
    · subst e1; rfl
    · rw [if_neg e1, u4]
      by_cases e4 : i = 4
      · subst e4; rfl
      · rw [if_neg e4, r4, dif_pos ⟨Nat.zero_le _, by show i < 0 + 8; omega⟩]
        have : i = 0 ∨ i = 2 ∨ i = 3 ∨ i = 5 ∨ i = 6 ∨ i = 7 := by omega
        rcases this with rfl | rfl | rfl | rfl | rfl | rfl <;> rfl
  have y1 : ∀ k : AV → Res, ldN h7 8 (.ptr h3.nb 0) k = k (.agg (avL (fl at_ ((n + 1 : Nat) : Int) op false (at_ + num) 0))) := fun k => ldN_rd (l := fl at_ ((n + 1 : Nat) : Int) op false (at_ + num) 0) x2.rd hC (fun v hv => one_unk (fl_one _ _ _ _ _ _ v hv)) k
  have n1 : h.nb + 1 ≤ h2.nb := by have := o2.nb; omega
  have n2 : h2.nb + 1 ≤ h3.nb := by omega
  have oB := ((((((a2.to o2 (fun f => f)).to m3 (fun f => f)).to q5 (fun f => f)).to r5 (fun e => by have : h.nb = h3.nb := e; omega)).to u6 (fun e => by rcases e with e | e <;> omega)).to x3 (fun e => by have : h.nb = h3.nb := e; omega))
  obtain ⟨h8, D, z1, z2, z3, z4, z5, z6⟩ := stN_own (o := 0) (l := fl at_ ((n + 1 : Nat) : Int) op false (at_ + num) 0) oB (by rw [a3]; simp [fl]) (fl_one _ _ _ _ _ _)
  have z1 : ∀ k : Hp → Res, stN h7 8 (.ptr h.nb 0) (.agg (avL (fl at_ ((n + 1 : Nat) : Int) op false (at_ + num) 0))) k = k h8 := z1
  have y2 : ∀ k : AV → Res, ldN h8 8 (.ptr h.nb 0) k = k (.agg (avL (fl at_ ((n + 1 : Nat) : Int) op false (at_ + num) 0))) := fun k => ldN_rd (l := fl at_ ((n + 1 : Nat) : Int) op false (at_ + num) 0) z2.rd (fun i hi => by
    rw [Nat.zero_add, z4, dif_pos ⟨Nat.zero_le _, by omega⟩]; rfl) (fun v hv => one_unk (fl_one _ _ _ _ _ _ v hv)) k
  have tot : To (fun x => h.nb ≤ x) h h8 :=
    (((((((a5.mono fun _ _ f => f.elim).trans (o2.mono fun _ _ f => f.elim)).trans (m3.mono fun _ _ f => f.elim)).trans (q5.mono fun _ _ f => f.elim)).trans (r5.mono fun x _ e => by have : x = h3.nb := e; omega)).trans (u6.mono fun x _ e => by rcases e with e | e <;> omega)).trans (x3.mono fun x _ e => by have : x = h3.nb := e; omega)).trans (z5.mono fun x _ e => by have : x = h.nb := e; omega)
  have fl0 : avL (fl at_ 0 op false 0 0) = .cons (.int 63 at_) (.cons (.int 63 0) (.cons (.int 63 op) (.cons (.bool false) (.cons (.int 63 0) (.cons (.int 63 0) (.cons .nils (.cons .nils .nil))))))) := rfl
  refine ⟨h8, ?_, tot.mono fun x hx hn => by omega, z5.wf w6⟩
  have w8 : wrapC 63 (op : Int) = op := w63_in _ (by omega) (by omega)
  simp only [↓s53, ↓a1, c0, ↓len, c1, ↓p1, ↓l1, w8, ↓e2, w1, ↓m1, ↓l3, ↓fl_bld, ↓q1, ↓r1, ↓u1, ↓nck_p, ↓cP_p, ↓d2, ↓d1, w2', ↓x1, ↓y1, ↓z1, ↓y2, cK_a, ↓cK_a, ↓uc_c, ↓uz_n, ↓cI_i, ↓cB_b, cB_b, ↓cT_t, cT_t, nth_z, nth_1, cK_b, ↓cK_b, ↓cK_i, cK_i, ifB_t, ifB_f, ↓ap_e, sel_t, sel_f, gsel_tt, gsel_tf, gsel_ft, gsel_ff, gsel_u, gd_tt, gd_tf, gd_ft, gd_ff, gd_u, ↓jn_n, jn_n, jn_r, ↓jn_r, blk_n, blk_r, ↓cl_r, cl_r, ↓iAdd_i, ↓iSub_i, ↓iMul_i, ↓iAnd_i, ↓iOr_i, ↓iXor_i, ↓iNeg_i, iQuo_i, iRem_i, ↓iConv_i, iConv_i, ↓bNot_b, bNot_b, ↓eqN_i, ↓ltN_i, ↓eqB_b, bnot_e, Int.ofNat_eq_natCast, Int.cast_ofNat_Int, Int.reduceBEq, Int.reduceAdd, Int.reduceNeg, Int.reduceNegSucc, Int.reduceLT, Int.reduceLE, Int.reduceMul, Int.reduceTMod, Int.reduceSub, Int.reduceBNe, Bool.not_true, Bool.not_false, decide_true, decide_false, w63_in, w31_in, ne_eq, not_false_eq_true, Int.reduceEq, reduceCtorEq, ww3131, ww6363, ww3163, ww6331, ww3231, ww3263, ww6463, ww6364, sh31, sh63, sl63, m31, m63, n63, s5a, s5b, s6a, s6b, b31, b32, b63, c63, c64, d64, iShl_c, iShr_c, sr3, sr6, sr7]
end Go.Proofs.Ytnpfppddongbhaa
end

section
namespace Go.Proofs.Ytnpfppddongbhaa
open Go Go.AM
set_option autoImplicit false
set_option linter.unusedSimpArgs false
set_option linter.unusedVariables false
theorem t52 : ∃ h1, s52 [] H0 = .ret (.bool true) h1 ∧ Wf h1 := isTH_inv (by kernel_rfl)
theorem tk1 (t : List Nat) (j : Nat) (h : j < t.length) : (t.drop j).take 1 = [t[j]] := by rw [List.drop_eq_getElem_cons h]; rfl
theorem tk3 (t : List Nat) (j : Nat) (h : j + 2 < t.length) : (t.drop j).take 3 = [t[j], t[j + 1], t[j + 2]] := by
  rw [List.drop_eq_getElem_cons (by omega), List.drop_eq_getElem_cons (by omega), List.drop_eq_getElem_cons (by omega)]; rfl
/-- The byte of a number. -/
noncomputable def byt (d : Int) (n : Nat) : Nat := (wrapC 8 (shrI d n)).toNat
theorem byt_lt (d : Int) (n : Nat) : byt d n < 256 := by unfold byt; rw [w8]; omega
theorem byt_c (d : Int) (n : Nat) : wrapC 8 (shrI d n) = (byt d n : Int) := by unfold byt; rw [w8]; omega
theorem byt_0 (d : Int) : wrapC 8 d = (byt d 0 : Int) := by
  have e : shrI d 0 = d := by rw [shr_ok]; simp
  rw [← byt_c, e]
theorem byt_v (d : Int) (n : Nat) : (byt d n : Int) = d.fdiv (2 ^ n) % 256 := by rw [← byt_c, w8, shr_ok]
theorem two_b (d : Int) (h1 : -32768 ≤ d) (h2 : d ≤ 32767) : Int.bmod (byt d 8 : Int) 256 * 256 + byt d 0 = d := by
  have e1 := byt_v d 8
  have e0 := byt_v d 0
  rw [Int.fdiv_eq_ediv_of_nonneg _ (by decide)] at e1 e0
  rw [e1, e0]
  simp only [Int.bmod]
  split <;> omega
theorem four_b (d : Int) (h1 : -32768 ≤ d) (h2 : d ≤ 32767) : ((Int.bmod (byt d 24 : Int) 256 * 256 + byt d 16) * 256 + byt d 8) * 256 + byt d 0 = d := by
  have e3 := byt_v d 24
  have e2 := byt_v d 16
  have e1 := byt_v d 8
  have e0 := byt_v d 0
  rw [Int.fdiv_eq_ediv_of_nonneg _ (by decide)] at e3 e2 e1 e0
  rw [e3, e2, e1, e0]
  simp only [Int.bmod]
  split <;> omega
end Go.Proofs.Ytnpfppddongbhaa
end

section
namespace Go.Proofs.Ytnpfppddongbhaa
open Go Go.AM
set_option autoImplicit false
set_option linter.unusedSimpArgs false
set_option linter.unusedVariables false
theorem ixR (b n j : Nat) (hj : j < n) (k : AV → Res) : ixA 1 (.sl b 0 n 1 (some n)) (.int 63 (j : Int)) k = k (.ptr b j) := ixA_l b n j hj (some n) k
theorem rep_lt (n : Nat) : ∀ x ∈ List.replicate n 0, x < 256 := fun x hx => by rw [List.eq_of_mem_replicate hx]; decide
theorem set_lt {t : List Nat} {j x : Nat} (h : ∀ y ∈ t, y < 256) (hx : x < 256) : ∀ y ∈ t.set j x, y < 256 := fun y hy => by
  rcases List.mem_or_eq_of_mem_set hy with h' | rfl
  · exact h _ h'
  · exact hx
/-- Where an instruction's fields were stored. -/
theorem two53 {h : Hp} (hw : Wf h) (a l o : Int) (x : Int) :
    ∃ h1 h2, (∀ k : AV → Hp → Res, mk h (.cons (.int 63 0) (.cons (.int 63 0) (.cons (.int 63 0) (.cons (.bool false) (.cons (.int 63 0) (.cons (.int 63 0) (.cons .nils (.cons .nils .nil)))))))) k = k (.ptr h.nb 0) h1) ∧
      (∀ k : Hp → Res, stN h1 8 (.ptr h.nb 0) (.agg (avL (fl a l o false x 0))) k = k h2) ∧ To No h h2 ∧ Wf h2 ∧ h.nb < h2.nb ∧
      ∀ (W : Nat → Prop) (h' : Hp), To W h2 h' → ¬ W h.nb → (∀ k : AV → Res, ld1 h' (.ptr h.nb (Nat.add 0 4)) k = k (.int 63 x)) ∧ (∀ k : AV → Res, ld1 h' (.ptr h.nb (Nat.add 0 1)) k = k (.int 63 l)) := by
  obtain ⟨h1, B1, a1, a2, a3, a4, a5, a6, a7⟩ := mk_own hw (fl 0 0 0 false 0 0) (fl_one _ _ _ _ _ _)
  obtain ⟨h2, D, z1, z2, z3, z4, z5, z6⟩ := stN_own (o := 0) (l := fl a l o false x 0) a2 (by rw [a3]; simp [fl]) (fl_one _ _ _ _ _ _)
  have k4 : D.at 4 = .int 63 x := z4 4
  have k1 : D.at 1 = .int 63 l := z4 1
  refine ⟨h1, h2, a1, z1, To.fresh a5 z5 (fun x e => by have : x = h.nb := e; omega), z5.wf a6, by omega, fun W h' ht hn => ?_⟩
  have r := (z2.to ht hn).rd
  exact ⟨fun k => (ld1_rd r k4 k).trans (cK_i _ _ _), fun k => (ld1_rd r k1 k).trans (cK_i _ _ _)⟩
theorem row3 {h : Hp} (hw : Wf h) (a op : Nat) (ho : op < 256) (d : Int) (ha : a ≤ 100) :
    ∃ h1 h2 h3 h4 t, (∀ k : AV → Hp → Res, mkM h (.cons (.int 8 0) .nil) 1 (.int 63 ((a + 3 : Nat) : Int)) (.int 63 ((a + 3 : Nat) : Int)) k = k (.sl h.nb 0 (a + 3) 1 (some (a + 3))) h1) ∧
      (∀ k : Hp → Res, st1 h1 (.ptr h.nb a) (.int 8 (op : Int)) k = k h2) ∧ (∀ k : Hp → Res, st1 h2 (.ptr h.nb (a + 1)) (.int 8 (byt d 8 : Int)) k = k h3) ∧ (∀ k : Hp → Res, st1 h3 (.ptr h.nb (a + 2)) (.int 8 (byt d 0 : Int)) k = k h4) ∧
      Sl h4 (fun x => x < h4.nb) (.sl h.nb 0 (a + 3) 1 (some (a + 3))) (Bs t) ∧ To No h h4 ∧ Wf h4 ∧ (∀ x ∈ t, x < 256) ∧ ∃ hl : t.length = a + 3, t[a] = op ∧ t[a + 1] = byt d 8 ∧ t[a + 2] = byt d 0 := by
  obtain ⟨h1, e1, r1, t1, w1, n1⟩ := mkRowN hw (a + 3) (by omega)
  obtain ⟨h2, e2, r2, t2, n2⟩ := r1.put a op (by simp)
  obtain ⟨h3, e3, r3, t3, n3⟩ := r2.put (a + 1) (byt d 8) (by simp)
  obtain ⟨h4, e4, r4, t4, n4⟩ := r3.put (a + 2) (byt d 0) (by simp)
  have hl : ((((List.replicate (a + 3) 0).set a op).set (a + 1) (byt d 8)).set (a + 2) (byt d 0)).length = a + 3 := by simp
  have hs := r4.sl (fun x => x < h4.nb) (by show h.nb < h4.nb; omega)
  rw [hl] at hs
  refine ⟨h1, h2, h3, h4, _, e1, e2, e3, e4, hs, ?_, t4.wf (t3.wf (t2.wf w1)), set_lt (set_lt (set_lt (rep_lt _) ho) (byt_lt _ _)) (byt_lt _ _), hl, ?_, ?_, ?_⟩
  · exact (((t1.mono fun _ _ f => f.elim).trans (t2.mono fun _ _ e => e)).trans (t3.mono fun _ _ e => e)).trans (t4.mono fun _ _ e => e) |>.mono fun x hx e => by have : x = h.nb := e; omega
  · simp [List.getElem_set]
  · simp [List.getElem_set]
  · simp [List.getElem_set]
theorem row5 {h : Hp} (hw : Wf h) (a : Nat) (d : Int) (ha : a ≤ 100) :
    ∃ h1 h2 h3 h4 h5 h6 t, (∀ k : AV → Hp → Res, mkM h (.cons (.int 8 0) .nil) 1 (.int 63 ((a + 5 : Nat) : Int)) (.int 63 ((a + 5 : Nat) : Int)) k = k (.sl h.nb 0 (a + 5) 1 (some (a + 5))) h1) ∧
      (∀ k : Hp → Res, st1 h1 (.ptr h.nb a) (.int 8 200) k = k h2) ∧ (∀ k : Hp → Res, st1 h2 (.ptr h.nb (a + 1)) (.int 8 (byt d 24 : Int)) k = k h3) ∧ (∀ k : Hp → Res, st1 h3 (.ptr h.nb (a + 2)) (.int 8 (byt d 16 : Int)) k = k h4) ∧ (∀ k : Hp → Res, st1 h4 (.ptr h.nb (a + 3)) (.int 8 (byt d 8 : Int)) k = k h5) ∧ (∀ k : Hp → Res, st1 h5 (.ptr h.nb (a + 4)) (.int 8 (byt d 0 : Int)) k = k h6) ∧
      Sl h6 (fun x => x < h6.nb) (.sl h.nb 0 (a + 5) 1 (some (a + 5))) (Bs t) ∧ To No h h6 ∧ Wf h6 ∧ (∀ x ∈ t, x < 256) ∧ ∃ hl : t.length = a + 5, t[a] = 200 ∧ t[a + 1] = byt d 24 ∧ t[a + 2] = byt d 16 ∧ t[a + 3] = byt d 8 ∧ t[a + 4] = byt d 0 := by
  obtain ⟨h1, e1, r1, t1, w1, n1⟩ := mkRowN hw (a + 5) (by omega)
  obtain ⟨h2, e2, r2, t2, n2⟩ := r1.put a 200 (by simp)
  obtain ⟨h3, e3, r3, t3, n3⟩ := r2.put (a + 1) (byt d 24) (by simp)
  obtain ⟨h4, e4, r4, t4, n4⟩ := r3.put (a + 2) (byt d 16) (by simp)
  obtain ⟨h5, e5, r5, t5, n5⟩ := r4.put (a + 3) (byt d 8) (by simp)
  obtain ⟨h6, e6, r6, t6, n6⟩ := r5.put (a + 4) (byt d 0) (by simp)
  have hl : ((((((List.replicate (a + 5) 0).set a 200).set (a + 1) (byt d 24)).set (a + 2) (byt d 16)).set (a + 3) (byt d 8)).set (a + 4) (byt d 0)).length = a + 5 := by simp
  have hs := r6.sl (fun x => x < h6.nb) (by show h.nb < h6.nb; omega)
  rw [hl] at hs
  refine ⟨h1, h2, h3, h4, h5, h6, _, e1, e2, e3, e4, e5, e6, hs, ?_, t6.wf (t5.wf (t4.wf (t3.wf (t2.wf w1)))), set_lt (set_lt (set_lt (set_lt (set_lt (rep_lt _) (by decide)) (byt_lt _ _)) (byt_lt _ _)) (byt_lt _ _)) (byt_lt _ _), hl, ?_, ?_, ?_, ?_, ?_⟩
  · exact (((((t1.mono fun _ _ f => f.elim).trans (t2.mono fun _ _ e => e)).trans (t3.mono fun _ _ e => e)).trans (t4.mono fun _ _ e => e)).trans (t5.mono fun _ _ e => e)).trans (t6.mono fun _ _ e => e) |>.mono fun x hx e => by have : x = h.nb := e; omega
  · simp [List.getElem_set]
  · simp [List.getElem_set]
  · simp [List.getElem_set]
  · simp [List.getElem_set]
  · simp [List.getElem_set]
end Go.Proofs.Ytnpfppddongbhaa
end

section
namespace Go.Proofs.Ytnpfppddongbhaa
open Go Go.AM
set_option autoImplicit false
set_option linter.unusedSimpArgs false
set_option linter.unusedVariables false
theorem branch_in (a op : Nat) (d : Int) (ha : a ≤ 100) (d1 : -32768 ≤ d) (d2 : d ≤ 32767) (o1 : 153 ≤ op) (o2 : op ≤ 167) :
    ∃ h', s20 [.int 63 (a : Int), .int 63 d, .int 63 (op : Int)] H0 = .ret (.bool true) h' := by
  obtain ⟨g1, eb, wb⟩ := t52
  obtain ⟨h1, h2, h3, h4, t, m1, s1, s2, s3, hs, o4, w4, hb, hl, q0, q1, q2⟩ := row3 wb a op (by omega) d ha
  have hnum : numAt t (a + 1) 2 (by omega) = d := by
    have : numAt t (a + 1) 2 (by omega) = sb ((t.drop (a + 2)).take 1) (Int.bmod (t[a + 1] : Int) 256) := rfl
    rw [this, tk1 _ _ (by omega), q1, q2]
    exact two_b d d1 d2
  obtain ⟨h5, e5, o5, w5⟩ := t53 hs w4 (by omega) hb a op 2 (by omega) q0 (.inl ⟨o1, o2, rfl⟩) (by omega) d (by omega) hnum (by omega)
  rw [show ((2 + 1 : Nat) : Int) = 3 from rfl] at e5
  obtain ⟨h6, h7, x1, x2, o7, w7, n7, l7⟩ := two53 w5 a 3 op (a + d)
  obtain ⟨h8, h9, h10, h11, h12, h13, t', m1', s1', s2', s3', s4', s5', hs', o13, w13, hb', hl', q0', q1', q2', q3', q4'⟩ := row5 w7 a d ha
  have hnum' : numAt t' (a + 1) 4 (by omega) = d := by
    have : numAt t' (a + 1) 4 (by omega) = sb ((t'.drop (a + 2)).take 3) (Int.bmod (t'[a + 1] : Int) 256) := rfl
    rw [this, tk3 _ _ (by omega), q1', q2', q3', q4']
    exact four_b d d1 d2
  obtain ⟨h14, e14, o14, w14⟩ := t53 hs' w13 (by omega) hb' a 200 4 (by omega) q0' (.inr ⟨rfl, rfl⟩) (by omega) d (by omega) hnum' (by omega)
  rw [show ((4 + 1 : Nat) : Int) = 5 from rfl, show ((200 : Nat) : Int) = 200 from rfl] at e14
  obtain ⟨h15, h16, y1, y2, o16, w16, n16, l16⟩ := two53 w14 a 5 200 (a + d)
  obtain ⟨r4, r1⟩ := l7 No h16 ((o13.trans o14).trans o16) (fun f => f)
  obtain ⟨r4', r1'⟩ := l16 No h16 (To.refl _ _) (fun f => f)
  have c0 : ¬ (a : Int) < 0 := by omega
  have c1 : ¬ (100 : Int) < (a : Int) := by omega
  have c2 : ¬ d < -32768 := by omega
  have c3 : ¬ (32767 : Int) < d := by omega
  have c4 : ¬ (op : Int) < 153 := by omega
  have c5 : ¬ (167 : Int) < (op : Int) := by omega
  have z1 : wrapC 63 ((a : Int) + 1) = ((a + 1 : Nat) : Int) := s1n _ (by omega)
  have z2 : wrapC 63 ((a : Int) + 2) = ((a + 2 : Nat) : Int) := by rw [w63_in _ (by omega) (by omega)]; omega
  have z3 : wrapC 63 ((a : Int) + 3) = ((a + 3 : Nat) : Int) := by rw [w63_in _ (by omega) (by omega)]; omega
  have z4 : wrapC 63 ((a : Int) + 4) = ((a + 4 : Nat) : Int) := by rw [w63_in _ (by omega) (by omega)]; omega
  have z5 : wrapC 63 ((a : Int) + 5) = ((a + 5 : Nat) : Int) := by rw [w63_in _ (by omega) (by omega)]; omega
  have z6 : wrapC 63 ((a : Int) + d) = a + d := w63_in _ (by omega) (by omega)
  have b0 : wrapC 8 d = (byt d 0 : Int) := byt_0 d
  have bo : wrapC 8 (op : Int) = op := w8_in _ (by omega) (by omega)
  have h8c : ∀ (k : AV → Res), iShr (.int 63 d) (.int 64 (.ofNat 8)) k = k (.int 63 (shrI d 8)) := fun k => iShr_i k 63 d 64 8 (by decide)
  have h16c : ∀ (k : AV → Res), iShr (.int 63 d) (.int 64 (.ofNat 16)) k = k (.int 63 (shrI d 16)) := fun k => iShr_i k 63 d 64 16 (by decide)
  have h24c : ∀ (k : AV → Res), iShr (.int 63 d) (.int 64 (.ofNat 24)) k = k (.int 63 (shrI d 24)) := fun k => iShr_i k 63 d 64 24 (by decide)
  refine ⟨h16, ?_⟩
  simp only [↓s20, ↓eb, c0, c1, c2, c3, c4, c5, z1, z2, z3, z4, z5, z6, b0, bo, ↓h8c, ↓h16c, ↓h24c, byt_c, ↓m1, ↓ixR _ _ a (show a < a + 3 by omega), ↓ixR _ _ (a + 1) (show a + 1 < a + 3 by omega), ↓ixR _ _ (a + 2) (show a + 2 < a + 3 by omega), ↓s1, ↓s2, ↓s3, ↓e5, ↓x1, ↓x2, ↓m1',
    ↓ixR _ _ a (show a < a + 5 by omega), ↓ixR _ _ (a + 1) (show a + 1 < a + 5 by omega), ↓ixR _ _ (a + 2) (show a + 2 < a + 5 by omega), ↓ixR _ _ (a + 3) (show a + 3 < a + 5 by omega), ↓ixR _ _ (a + 4) (show a + 4 < a + 5 by omega), ↓s1', ↓s2', ↓s3', ↓s4', ↓s5', ↓e14, ↓y1, ↓y2, ↓r4, ↓r1, ↓r4', ↓r1', cK_a, ↓cK_a, ↓nck_p, ↓cP_p, beq_self_eq_true, ↓uc_c, ↓uz_n, ↓cI_i, ↓cB_b, cB_b, ↓cT_t, cT_t, nth_z, nth_1, cK_b, ↓cK_b, ↓cK_i, cK_i, ifB_t, ifB_f, ↓ap_e, sel_t, sel_f, gsel_tt, gsel_tf, gsel_ft, gsel_ff, gsel_u, gd_tt, gd_tf, gd_ft, gd_ff, gd_u, ↓jn_n, jn_n, jn_r, ↓jn_r, blk_n, blk_r, ↓cl_r, cl_r, ↓iAdd_i, ↓iSub_i, ↓iMul_i, ↓iAnd_i, ↓iOr_i, ↓iXor_i, ↓iNeg_i, iQuo_i, iRem_i, ↓iConv_i, iConv_i, ↓bNot_b, bNot_b, ↓eqN_i, ↓ltN_i, ↓eqB_b, bnot_e, Int.ofNat_eq_natCast, Int.cast_ofNat_Int, Int.reduceBEq, Int.reduceAdd, Int.reduceNeg, Int.reduceNegSucc, Int.reduceLT, Int.reduceLE, Int.reduceMul, Int.reduceTMod, Int.reduceSub, Int.reduceBNe, Bool.not_true, Bool.not_false, decide_true, decide_false, w63_in, w31_in, ne_eq, not_false_eq_true, Int.reduceEq, reduceCtorEq, ww3131, ww6363, ww3163, ww6331, ww3231, ww3263, ww6463, ww6364, sh31, sh63, sl63, m31, m63, n63, s5a, s5b, s6a, s6b, b31, b32, b63, c63, c64, d64, iShl_c, iShr_c, sr3, sr6, sr7]
end Go.Proofs.Ytnpfppddongbhaa
end

section
namespace Go.Proofs.Ytnpfppddongbhaa
open Go Go.AM
set_option autoImplicit false
set_option linter.unusedSimpArgs false
set_option linter.unusedVariables false
theorem lawBranch (a d op : Int) : ∃ h', s20 [.int 63 a, .int 63 d, .int 63 op] H0 = .ret (.bool true) h' := by
  obtain ⟨g1, eb, wb⟩ := t52
  by_cases c0 : a < 0
  · exact ⟨g1, by simp only [↓s20, ↓eb, c0, ↓uc_c, ↓uz_n, ↓cI_i, ↓cB_b, cB_b, ↓cT_t, cT_t, nth_z, nth_1, cK_b, ↓cK_b, ↓cK_i, cK_i, ifB_t, ifB_f, ↓ap_e, sel_t, sel_f, gsel_tt, gsel_tf, gsel_ft, gsel_ff, gsel_u, gd_tt, gd_tf, gd_ft, gd_ff, gd_u, ↓jn_n, jn_n, jn_r, ↓jn_r, blk_n, blk_r, ↓cl_r, cl_r, ↓iAdd_i, ↓iSub_i, ↓iMul_i, ↓iAnd_i, ↓iOr_i, ↓iXor_i, ↓iNeg_i, iQuo_i, iRem_i, ↓iConv_i, iConv_i, ↓bNot_b, bNot_b, ↓eqN_i, ↓ltN_i, ↓eqB_b, bnot_e, Int.ofNat_eq_natCast, Int.cast_ofNat_Int, Int.reduceBEq, Int.reduceAdd, Int.reduceNeg, Int.reduceNegSucc, Int.reduceLT, Int.reduceLE, Int.reduceMul, Int.reduceTMod, Int.reduceSub, Int.reduceBNe, Bool.not_true, Bool.not_false, decide_true, decide_false, w63_in, w31_in, ne_eq, not_false_eq_true, Int.reduceEq, reduceCtorEq, ww3131, ww6363, ww3163, ww6331, ww3231, ww3263, ww6463, ww6364, sh31, sh63, sl63, m31, m63, n63, s5a, s5b, s6a, s6b, b31, b32, b63, c63, c64, d64, iShl_c, iShr_c, sr3, sr6, sr7]⟩
  by_cases c1 : 100 < a
  · exact ⟨g1, by simp only [↓s20, ↓eb, c0, c1, ↓uc_c, ↓uz_n, ↓cI_i, ↓cB_b, cB_b, ↓cT_t, cT_t, nth_z, nth_1, cK_b, ↓cK_b, ↓cK_i, cK_i, ifB_t, ifB_f, ↓ap_e, sel_t, sel_f, gsel_tt, gsel_tf, gsel_ft, gsel_ff, gsel_u, gd_tt, gd_tf, gd_ft, gd_ff, gd_u, ↓jn_n, jn_n, jn_r, ↓jn_r, blk_n, blk_r, ↓cl_r, cl_r, ↓iAdd_i, ↓iSub_i, ↓iMul_i, ↓iAnd_i, ↓iOr_i, ↓iXor_i, ↓iNeg_i, iQuo_i, iRem_i, ↓iConv_i, iConv_i, ↓bNot_b, bNot_b, ↓eqN_i, ↓ltN_i, ↓eqB_b, bnot_e, Int.ofNat_eq_natCast, Int.cast_ofNat_Int, Int.reduceBEq, Int.reduceAdd, Int.reduceNeg, Int.reduceNegSucc, Int.reduceLT, Int.reduceLE, Int.reduceMul, Int.reduceTMod, Int.reduceSub, Int.reduceBNe, Bool.not_true, Bool.not_false, decide_true, decide_false, w63_in, w31_in, ne_eq, not_false_eq_true, Int.reduceEq, reduceCtorEq, ww3131, ww6363, ww3163, ww6331, ww3231, ww3263, ww6463, ww6364, sh31, sh63, sl63, m31, m63, n63, s5a, s5b, s6a, s6b, b31, b32, b63, c63, c64, d64, iShl_c, iShr_c, sr3, sr6, sr7]⟩
  by_cases c2 : d < -32768
  · exact ⟨g1, by simp only [↓s20, ↓eb, c0, c1, c2, ↓uc_c, ↓uz_n, ↓cI_i, ↓cB_b, cB_b, ↓cT_t, cT_t, nth_z, nth_1, cK_b, ↓cK_b, ↓cK_i, cK_i, ifB_t, ifB_f, ↓ap_e, sel_t, sel_f, gsel_tt, gsel_tf, gsel_ft, gsel_ff, gsel_u, gd_tt, gd_tf, gd_ft, gd_ff, gd_u, ↓jn_n, jn_n, jn_r, ↓jn_r, blk_n, blk_r, ↓cl_r, cl_r, ↓iAdd_i, ↓iSub_i, ↓iMul_i, ↓iAnd_i, ↓iOr_i, ↓iXor_i, ↓iNeg_i, iQuo_i, iRem_i, ↓iConv_i, iConv_i, ↓bNot_b, bNot_b, ↓eqN_i, ↓ltN_i, ↓eqB_b, bnot_e, Int.ofNat_eq_natCast, Int.cast_ofNat_Int, Int.reduceBEq, Int.reduceAdd, Int.reduceNeg, Int.reduceNegSucc, Int.reduceLT, Int.reduceLE, Int.reduceMul, Int.reduceTMod, Int.reduceSub, Int.reduceBNe, Bool.not_true, Bool.not_false, decide_true, decide_false, w63_in, w31_in, ne_eq, not_false_eq_true, Int.reduceEq, reduceCtorEq, ww3131, ww6363, ww3163, ww6331, ww3231, ww3263, ww6463, ww6364, sh31, sh63, sl63, m31, m63, n63, s5a, s5b, s6a, s6b, b31, b32, b63, c63, c64, d64, iShl_c, iShr_c, sr3, sr6, sr7]⟩
  by_cases c3 : 32767 < d
  · exact ⟨g1, by simp only [↓s20, ↓eb, c0, c1, c2, c3, ↓uc_c, ↓uz_n, ↓cI_i, ↓cB_b, cB_b, ↓cT_t, cT_t, nth_z, nth_1, cK_b, ↓cK_b, ↓cK_i, cK_i, ifB_t, ifB_f, ↓ap_e, sel_t, sel_f, gsel_tt, gsel_tf, gsel_ft, gsel_ff, gsel_u, gd_tt, gd_tf, gd_ft, gd_ff, gd_u, ↓jn_n, jn_n, jn_r, ↓jn_r, blk_n, blk_r, ↓cl_r, cl_r, ↓iAdd_i, ↓iSub_i, ↓iMul_i, ↓iAnd_i, ↓iOr_i, ↓iXor_i, ↓iNeg_i, iQuo_i, iRem_i, ↓iConv_i, iConv_i, ↓bNot_b, bNot_b, ↓eqN_i, ↓ltN_i, ↓eqB_b, bnot_e, Int.ofNat_eq_natCast, Int.cast_ofNat_Int, Int.reduceBEq, Int.reduceAdd, Int.reduceNeg, Int.reduceNegSucc, Int.reduceLT, Int.reduceLE, Int.reduceMul, Int.reduceTMod, Int.reduceSub, Int.reduceBNe, Bool.not_true, Bool.not_false, decide_true, decide_false, w63_in, w31_in, ne_eq, not_false_eq_true, Int.reduceEq, reduceCtorEq, ww3131, ww6363, ww3163, ww6331, ww3231, ww3263, ww6463, ww6364, sh31, sh63, sl63, m31, m63, n63, s5a, s5b, s6a, s6b, b31, b32, b63, c63, c64, d64, iShl_c, iShr_c, sr3, sr6, sr7]⟩
  by_cases c4 : op < 153
  · exact ⟨g1, by simp only [↓s20, ↓eb, c0, c1, c2, c3, c4, ↓uc_c, ↓uz_n, ↓cI_i, ↓cB_b, cB_b, ↓cT_t, cT_t, nth_z, nth_1, cK_b, ↓cK_b, ↓cK_i, cK_i, ifB_t, ifB_f, ↓ap_e, sel_t, sel_f, gsel_tt, gsel_tf, gsel_ft, gsel_ff, gsel_u, gd_tt, gd_tf, gd_ft, gd_ff, gd_u, ↓jn_n, jn_n, jn_r, ↓jn_r, blk_n, blk_r, ↓cl_r, cl_r, ↓iAdd_i, ↓iSub_i, ↓iMul_i, ↓iAnd_i, ↓iOr_i, ↓iXor_i, ↓iNeg_i, iQuo_i, iRem_i, ↓iConv_i, iConv_i, ↓bNot_b, bNot_b, ↓eqN_i, ↓ltN_i, ↓eqB_b, bnot_e, Int.ofNat_eq_natCast, Int.cast_ofNat_Int, Int.reduceBEq, Int.reduceAdd, Int.reduceNeg, Int.reduceNegSucc, Int.reduceLT, Int.reduceLE, Int.reduceMul, Int.reduceTMod, Int.reduceSub, Int.reduceBNe, Bool.not_true, Bool.not_false, decide_true, decide_false, w63_in, w31_in, ne_eq, not_false_eq_true, Int.reduceEq, reduceCtorEq, ww3131, ww6363, ww3163, ww6331, ww3231, ww3263, ww6463, ww6364, sh31, sh63, sl63, m31, m63, n63, s5a, s5b, s6a, s6b, b31, b32, b63, c63, c64, d64, iShl_c, iShr_c, sr3, sr6, sr7]⟩
  by_cases c5 : 167 < op
  · exact ⟨g1, by simp only [↓s20, ↓eb, c0, c1, c2, c3, c4, c5, ↓uc_c, ↓uz_n, ↓cI_i, ↓cB_b, cB_b, ↓cT_t, cT_t, nth_z, nth_1, cK_b, ↓cK_b, ↓cK_i, cK_i, ifB_t, ifB_f, ↓ap_e, sel_t, sel_f, gsel_tt, gsel_tf, gsel_ft, gsel_ff, gsel_u, gd_tt, gd_tf, gd_ft, gd_ff, gd_u, ↓jn_n, jn_n, jn_r, ↓jn_r, blk_n, blk_r, ↓cl_r, cl_r, ↓iAdd_i, ↓iSub_i, ↓iMul_i, ↓iAnd_i, ↓iOr_i, ↓iXor_i, ↓iNeg_i, iQuo_i, iRem_i, ↓iConv_i, iConv_i, ↓bNot_b, bNot_b, ↓eqN_i, ↓ltN_i, ↓eqB_b, bnot_e, Int.ofNat_eq_natCast, Int.cast_ofNat_Int, Int.reduceBEq, Int.reduceAdd, Int.reduceNeg, Int.reduceNegSucc, Int.reduceLT, Int.reduceLE, Int.reduceMul, Int.reduceTMod, Int.reduceSub, Int.reduceBNe, Bool.not_true, Bool.not_false, decide_true, decide_false, w63_in, w31_in, ne_eq, not_false_eq_true, Int.reduceEq, reduceCtorEq, ww3131, ww6363, ww3163, ww6331, ww3231, ww3263, ww6463, ww6364, sh31, sh63, sl63, m31, m63, n63, s5a, s5b, s6a, s6b, b31, b32, b63, c63, c64, d64, iShl_c, iShr_c, sr3, sr6, sr7]⟩
  obtain ⟨a, rfl⟩ : ∃ n : Nat, a = n := ⟨a.toNat, by omega⟩
  obtain ⟨op, rfl⟩ : ∃ n : Nat, op = n := ⟨op.toNat, by omega⟩
  exact branch_in a op d (by omega) (by omega) (by omega) (by omega) (by omega)
end Go.Proofs.Ytnpfppddongbhaa
end
