/-
  The reader of stated frames, and what they mean: what each function answers (part Na).
-/
import Derived.Test.YtnpfppddongbhaaFa
set_option linter.unusedVariables false
set_option linter.unusedSimpArgs false
namespace Go.AM
open Go
theorem SD : type_of% (And.intro @uc_c (And.intro @uz_n (And.intro @cI_i (And.intro @cB_b (And.intro @cT_t (And.intro @cK_b (And.intro @cK_i (And.intro @ap_e (And.intro @jn_n (And.intro @jn_r (And.intro @cl_r (And.intro @iAdd_i (And.intro @iSub_i (And.intro @iMul_i (And.intro @iAnd_i (And.intro @iOr_i (And.intro @iXor_i (And.intro @iNeg_i (And.intro @iConv_i (And.intro @bNot_b (And.intro @eqN_i (And.intro @ltN_i (@eqB_b))))))))))))))))))))))) := And.intro @uc_c (And.intro @uz_n (And.intro @cI_i (And.intro @cB_b (And.intro @cT_t (And.intro @cK_b (And.intro @cK_i (And.intro @ap_e (And.intro @jn_n (And.intro @jn_r (And.intro @cl_r (And.intro @iAdd_i (And.intro @iSub_i (And.intro @iMul_i (And.intro @iAnd_i (And.intro @iOr_i (And.intro @iXor_i (And.intro @iNeg_i (And.intro @iConv_i (And.intro @bNot_b (And.intro @eqN_i (And.intro @ltN_i (@eqB_b))))))))))))))))))))))
theorem SA : type_of% (And.intro @cB_b (And.intro @cT_t (And.intro @nth_z (And.intro @nth_1 (And.intro @cK_b (And.intro @cK_i (And.intro @ifB_t (And.intro @ifB_f (And.intro @sel_t (And.intro @sel_f (And.intro @gsel_tt (And.intro @gsel_tf (And.intro @gsel_ft (And.intro @gsel_ff (And.intro @gsel_u (And.intro @gd_tt (And.intro @gd_tf (And.intro @gd_ft (And.intro @gd_ff (And.intro @gd_u (And.intro @jn_n (And.intro @jn_r (And.intro @blk_n (And.intro @blk_r (And.intro @cl_r (And.intro @iQuo_i (And.intro @iRem_i (And.intro @iConv_i (And.intro @bNot_b (And.intro @bnot_e (And.intro @w63_in (And.intro @w31_in (And.intro @ww3131 (And.intro @ww6363 (And.intro @ww3163 (And.intro @ww6331 (And.intro @ww3231 (And.intro @ww3263 (And.intro @ww6463 (And.intro @ww6364 (And.intro @sh31 (And.intro @sh63 (And.intro @sl63 (And.intro @m31 (And.intro @m63 (And.intro @n63 (And.intro @s5a (And.intro @s5b (And.intro @s6a (And.intro @s6b (And.intro @b31 (And.intro @b32 (And.intro @b63 (And.intro @c63 (And.intro @c64 (And.intro @d64 (And.intro @iShl_c (And.intro @iShr_c (And.intro @sr3 (And.intro @sr6 (@sr7))))))))))))))))))))))))))))))))))))))))))))))))))))))))))))) := And.intro @cB_b (And.intro @cT_t (And.intro @nth_z (And.intro @nth_1 (And.intro @cK_b (And.intro @cK_i (And.intro @ifB_t (And.intro @ifB_f (And.intro @sel_t (And.intro @sel_f (And.intro @gsel_tt (And.intro @gsel_tf (And.intro @gsel_ft (And.intro @gsel_ff (And.intro @gsel_u (And.intro @gd_tt (And.intro @gd_tf (And.intro @gd_ft (And.intro @gd_ff (And.intro @gd_u (And.intro @jn_n (And.intro @jn_r (And.intro @blk_n (And.intro @blk_r (And.intro @cl_r (And.intro @iQuo_i (And.intro @iRem_i (And.intro @iConv_i (And.intro @bNot_b (And.intro @bnot_e (And.intro @w63_in (And.intro @w31_in (And.intro @ww3131 (And.intro @ww6363 (And.intro @ww3163 (And.intro @ww6331 (And.intro @ww3231 (And.intro @ww3263 (And.intro @ww6463 (And.intro @ww6364 (And.intro @sh31 (And.intro @sh63 (And.intro @sl63 (And.intro @m31 (And.intro @m63 (And.intro @n63 (And.intro @s5a (And.intro @s5b (And.intro @s6a (And.intro @s6b (And.intro @b31 (And.intro @b32 (And.intro @b63 (And.intro @c63 (And.intro @c64 (And.intro @d64 (And.intro @iShl_c (And.intro @iShr_c (And.intro @sr3 (And.intro @sr6 (@sr7))))))))))))))))))))))))))))))))))))))))))))))))))))))))))))
end Go.AM
section
namespace Go.Proofs.Ytnpfppddongbhaa
open Go Go.AM
set_option autoImplicit false
theorem nck_p (b o : Nat) (k : AV → Res) : nck (.ptr b o) k = k (.ptr b o) := of_eq_true (eq_self _)
theorem eqP_pn (b o : Nat) (k : Bool → Res) : eqP (.ptr b o) .nilp k = k false := of_eq_true (eq_self _)
@[congr] theorem nck_cg {v v' : AV} (h : v = v') (k : AV → Res) : nck v k = nck v' k := by rw [h]
@[congr] theorem cP_cg {v v' : AV} (h : v = v') (k : Nat → Nat → Res) : cP v k = cP v' k := by rw [h]
@[congr] theorem lenL_cg {v v' : AV} (h : v = v') (k : AV → Res) : lenL v k = lenL v' k := by rw [h]
theorem lpn {F : List AV → Hp → Res} {vs vs' : List AV} {h h' : Hp} (m : Nat) (e : F vs h = .norm vs' h') : lp F (m + 1) vs h = lp F m vs' h' := by
  have : lp F (m + 1) vs h = Res.rec (motive := fun _ => Res) .fail (lp F m) (fun i vs h => .exit i vs h) (fun v h => .ret v h) (F vs h) := rfl
  rw [this, e]
theorem lpx {F : List AV → Hp → Res} {vs vs' : List AV} {h h' : Hp} {i : Nat} (m : Nat) (e : F vs h = .exit i vs' h') : lp F (m + 1) vs h = .exit i vs' h' := by
  have : lp F (m + 1) vs h = Res.rec (motive := fun _ => Res) .fail (lp F m) (fun i vs h => .exit i vs h) (fun v h => .ret v h) (F vs h) := rfl
  rw [this, e]
theorem lpr {F : List AV → Hp → Res} {vs : List AV} {v : AV} {h h' : Hp} (m : Nat) (e : F vs h = .ret v h') : lp F (m + 1) vs h = .ret v h' := by
  have : lp F (m + 1) vs h = Res.rec (motive := fun _ => Res) .fail (lp F m) (fun i vs h => .exit i vs h) (fun v h => .ret v h) (F vs h) := rfl
  rw [this, e]
theorem n63 (i : Nat) (hi : i < 1000000) : wrapC 63 (i : Int) = (i : Int) := w63_in _ (by omega) (by omega)

/-- Bytes. -/
def Bs (t : List Nat) : List AV := t.map fun (x : Nat) => AV.int 8 (x : Int)
theorem Bs_len (t : List Nat) : (Bs t).length = t.length := by simp [Bs]
theorem Bs_one (t : List Nat) : ∀ x ∈ Bs t, one x = true := by
  intro x hx
  obtain ⟨y, -, rfl⟩ := List.mem_map.1 hx
  rfl

/-- A copy. -/
theorem t68 {h : Hp} {P : Nat → Prop} {v : AV} {t : List Nat} (hs : Sl h P v (Bs t)) (hw : Wf h) (ht : t.length ≤ 100000) :
    ∃ v' h', s68 [v] h = .ret v' h' ∧ Sl h' (fun b => h.nb ≤ b ∧ b < h'.nb) v' (Bs t) ∧ To No h h' ∧ Wf h' := by
  have low : ∀ {h' : Hp} {v' : AV} {l : List AV}, Sl h' (fun b => h.nb ≤ b) v' l → Sl h' (fun b => h.nb ≤ b ∧ b < h'.nb) v' l := by
    intro h' v' l hs
    obtain ⟨h1, h2⟩ := hs
    refine ⟨h1, ?_⟩
    rcases h2 with h2 | h2 | ⟨b, o, c, B, h2, h3, h4, h5, hc, h6⟩
    · exact .inl h2
    · exact .inr (.inl h2)
    · exact .inr (.inr ⟨b, o, c, B, h2, ⟨h3, h4.lt⟩, h4, fun hf => ⟨h5 hf, (h4.grp hf).1⟩, hc, h6⟩)
  obtain ⟨b, e1, e2⟩ := eqL_nil hs (fun b2 => cB (.bool b2) fun b3 => ifB b3 (cK .nils fun v4 => .ret v4 h) (bld [] fun l5 => mkS h 1 0 l5 fun v6 h7 => apd h7 1 1 v6 v fun v8 h9 => cK v8 fun v10 => .ret v10 h9))
  have e0 : s68 [v] h = eqL v .nils (fun b2 => cB (.bool b2) fun b3 => ifB b3 (cK .nils fun v4 => .ret v4 h) (bld [] fun l5 => mkS h 1 0 l5 fun v6 h7 => apd h7 1 1 v6 v fun v8 h9 => cK v8 fun v10 => .ret v10 h9)) := rfl
  rw [e0, e1]
  cases b with
  | true =>
    have := e2 rfl
    exact ⟨.nils, h, rfl, ⟨Bs_one t, .inl ⟨rfl, this⟩⟩, To.refl _ _, hw⟩
  | false =>
    obtain ⟨o1, o2⟩ := nw_own hw 0 .nil .e
    have g : Gr (nw h 0 .nil .e) h.nb (.sl h.nb 0 0 1 (some 0)) [] :=
      ⟨⟨by simp, .inr (.inr ⟨h.nb, 0, _, _, rfl, Nat.le_refl _, o1.rd, fun _ => Nat.le_refl _, (fun c e => by cases e; exact Nat.le_refl _), fun i hi => by simp at hi⟩)⟩, .inr (.inl ⟨_, rfl, rfl⟩)⟩
    obtain ⟨v', h', a1, a2, a3⟩ := apd_gr (by_ := 1) o2.nb (o2.wf hw) g (hs.to o2 (fun _ _ f => f)) (by simp [Bs_len]; omega) (by simp [Bs_len]; omega)
    rw [List.nil_append] at a2
    refine ⟨v', h', ?_, low a2.1, (To.trans (o2.mono fun _ _ f => f.elim) a3).mono (fun b hb hn => by omega), a3.wf (o2.wf hw)⟩
    show (apd (nw h 0 .nil .e) 1 1 (.sl h.nb 0 0 1 (some 0)) v fun v8 h9 => cK v8 fun v10 => .ret v10 h9) = _
    rw [a1, cK_sl a2.1]

/-- A cursor: its variable is block b; its bytes lie in blocks from lo on, below b. -/
structure Cur (h : Hp) (lo b : Nat) (t : List Nat) (at_ : Nat) (bad : Bool) : Prop where
  own : ∃ B v, Own h b B ∧ B.lim = 3 ∧ B.at 0 = v ∧ B.at 1 = .int 63 (at_ : Int) ∧ B.at 2 = .bool bad ∧ Sl h (fun x => lo ≤ x ∧ x < b) v (Bs t)
  le : at_ ≤ t.length
  len : t.length ≤ 100000
  lo : lo ≤ b
  byt : ∀ x ∈ t, x < 256

theorem Cur.to {W : Nat → Prop} {h h' : Hp} {lo b at_ : Nat} {t : List Nat} {bad : Bool} (hc : Cur h lo b t at_ bad) (ht : To W h h') (hw : ∀ x, lo ≤ x → x ≤ b → ¬ W x) : Cur h' lo b t at_ bad := by
  obtain ⟨B, v, o, h1, h2, h3, h4, h5⟩ := hc.own
  exact ⟨⟨B, v, o.to ht (hw b hc.lo (Nat.le_refl _)), h1, h2, h3, h4, h5.to ht (fun x hx => hw x hx.1 (Nat.le_of_lt hx.2))⟩, hc.le, hc.len, hc.lo, hc.byt⟩

theorem one_sl' {h : Hp} {P : Nat → Prop} {v : AV} {l : List AV} (hs : Sl h P v l) : one v = true := one_sl hs

theorem t25 {h : Hp} {P : Nat → Prop} {v : AV} {t : List Nat} (hs : Sl h P v (Bs t)) (hw : Wf h) (ht : t.length ≤ 100000) (hb : ∀ x ∈ t, x < 256) :
    ∃ b h', s25 [v] h = .ret (.ptr b 0) h' ∧ Cur h' h.nb b t 0 false ∧ To No h h' ∧ Wf h' ∧ h'.nb = b + 1 := by
  obtain ⟨v', h1, e1, s1, o1, w1⟩ := t68 hs hw ht
  have hone := one_sl s1
  have hbl : ∀ k : AV → Res, bld [(false, 1, v'), (false, 1, .int 63 (.ofNat 0)), (false, 1, .bool false)] k = k (avL [v', .int 63 0, .bool false]) := fun k => by
    have : bld [(false, 1, v'), (false, 1, .int 63 (.ofNat 0)), (false, 1, .bool false)] k = ifB (one v') (k (avL [v', .int 63 0, .bool false])) .fail := rfl
    rw [this, hone]; rfl
  obtain ⟨tr, t1, t2⟩ := lay_list [v', .int 63 0, .bool false] .e 0 (by
    intro x hx
    rcases List.mem_cons.1 hx with rfl | hx
    · exact hone
    · rcases List.mem_cons.1 hx with rfl | hx
      · rfl
      · rcases List.mem_cons.1 hx with rfl | hx
        · rfl
        · cases hx)
  have hm : ∀ k : AV → Hp → Res, mk h1 (avL [v', .int 63 0, .bool false]) k = k (.ptr h1.nb 0) (nw h1 3 .nil tr) := fun k => by
    have : mk h1 (avL [v', .int 63 0, .bool false]) k = lay (avL [v', .int 63 0, .bool false]) .e 0 fun t n => k (.ptr h1.nb 0) (nw h1 n .nil t) := rfl
    rw [this, t1]; rfl
  obtain ⟨q1, q2⟩ := nw_own w1 3 .nil tr
  have hat : ∀ i (hi : i < 3), (⟨true, h1.nb, 3, .nil, tr⟩ : Blk).at i = [v', .int 63 0, .bool false][i] := fun i hi => by
    rw [at_in _ (show i < 3 from hi)]
    simp only [t2 i]
    rw [dif_pos ⟨by omega, by simpa using hi⟩]
    simp
  refine ⟨h1.nb, nw h1 3 .nil tr, ?_, ⟨⟨_, v', q1, rfl, hat 0 (by decide), hat 1 (by decide), hat 2 (by decide), s1.to q2 (fun _ _ f => f)⟩, Nat.zero_le _, ht, o1.nb, hb⟩, o1.trans q2, q2.wf w1, rfl⟩
  have e0 : s25 [v] h = cl (s68 [v] h) fun v2 h3 => bld [(false, 1, v2), (false, 1, (.int 63 (.ofNat 0))), (false, 1, (.bool false))] fun l4 => mk h3 (cells (.agg l4)) fun v5 h6 => cK v5 fun v7 => .ret v7 h6 := rfl
  rw [e0, e1, cl_r, hbl]
  show (mk h1 (avL [v', .int 63 0, .bool false]) fun v5 h6 => cK v5 fun v7 => .ret v7 h6) = _
  rw [hm]; rfl
end Go.Proofs.Ytnpfppddongbhaa
end

section
namespace Go.Proofs.Ytnpfppddongbhaa
open Go Go.AM
set_option autoImplicit false
section
variable {h : Hp} {lo b at_ : Nat} {t : List Nat} {bad : Bool}
theorem Cur.open (hc : Cur h lo b t at_ bad) : ∃ v, Sl h (fun x => lo ≤ x ∧ x < b) v (Bs t) ∧ (∀ k, ld1 h (.ptr b (Nat.add 0 0)) k = k v) ∧ (∀ k, ld1 h (.ptr b (Nat.add 0 1)) k = k (.int 63 (at_ : Int))) ∧ (∀ k, ld1 h (.ptr b (Nat.add 0 2)) k = k (.bool bad)) := by
  obtain ⟨B, v, o, h1, h2, h3, h4, h5⟩ := hc.own
  exact ⟨v, h5, fun k => (ld1_rd o.rd h2 k).trans (cK_sl h5 k), fun k => (ld1_rd o.rd h3 k).trans (cK_i _ _ _), fun k => (ld1_rd o.rd h4 k).trans (cK_b _ _)⟩
theorem Cur.move (hc : Cur h lo b t at_ bad) (m : Nat) (hm : m ≤ t.length) : ∃ h', (∀ k, st1 h (.ptr b (Nat.add 0 1)) (.int 63 (m : Int)) k = k h') ∧ Cur h' lo b t m bad ∧ To (At b) h h' := by
  obtain ⟨B, v, o, h1, h2, h3, h4, h5⟩ := hc.own
  obtain ⟨h', e1, e2, e3, -⟩ := st1_own (o := 1) (v := .int 63 (m : Int)) o (by omega) rfl
  refine ⟨h', e1, ⟨⟨_, v, e2, h1, ?_, ?_, ?_, h5.to e3 (fun x hx e => by have : x = b := e; omega)⟩, hm, hc.len, hc.lo, hc.byt⟩, e3⟩
  · rw [setC_at (by omega), if_neg (by decide)]; exact h2
  · rw [setC_at (by omega), if_pos rfl]
  · rw [setC_at (by omega), if_neg (by decide)]; exact h4
theorem Cur.fall (hc : Cur h lo b t at_ bad) : ∃ h', (∀ k, st1 h (.ptr b (Nat.add 0 2)) (.bool true) k = k h') ∧ Cur h' lo b t at_ true ∧ To (At b) h h' := by
  obtain ⟨B, v, o, h1, h2, h3, h4, h5⟩ := hc.own
  obtain ⟨h', e1, e2, e3, -⟩ := st1_own (o := 2) (v := .bool true) o (by omega) rfl
  refine ⟨h', e1, ⟨⟨_, v, e2, h1, ?_, ?_, ?_, h5.to e3 (fun x hx e => by have : x = b := e; omega)⟩, hc.le, hc.len, hc.lo, hc.byt⟩, e3⟩
  · rw [setC_at (by omega), if_neg (by decide)]; exact h2
  · rw [setC_at (by omega), if_neg (by decide)]; exact h3
  · rw [setC_at (by omega), if_pos rfl]

theorem t69_no (hc : Cur h lo b t at_ bad) (hw : Wf h) (n : Int) (hn : bad = true ∨ n < 0 ∨ (t.length : Int) - at_ < n) :
    ∃ h', s69 [.ptr b 0, .int 63 n] h = .ret .nils h' ∧ Cur h' lo b t at_ true ∧ To (At b) h h' ∧ Wf h' := by
  obtain ⟨v, hs, e0, e1, e2⟩ := hc.open
  obtain ⟨h', e3, c', o'⟩ := hc.fall
  refine ⟨h', ?_, c', o', o'.wf hw⟩
  have l0 := fun k => lenL_sl hs k
  have w1 : wrapC 63 ((t.length : Int) - (at_ : Int)) = (t.length : Int) - (at_ : Int) := w63_in _ (by have := hc.le; have := hc.len; omega) (by have := hc.len; omega)
  cases bad with
  | true => simp only [↓s69, ↓nck_p, ↓cP_p, ↓eqP_pn, ↓e0, ↓e1, ↓e2, ↓e3, ↓l0, Bs_len, ↓SD, SA, Int.ofNat_eq_natCast, Int.cast_ofNat_Int, Int.reduceBEq, Int.reduceAdd, Int.reduceNeg, Int.reduceNegSucc, Int.reduceLT, Int.reduceLE, Int.reduceMul, Int.reduceTMod, Int.reduceSub, Int.reduceBNe, Bool.not_true, Bool.not_false, decide_true, decide_false, ne_eq, not_false_eq_true, Int.reduceEq, reduceCtorEq]; rfl
  | false =>
    by_cases h1 : n < 0
    · simp only [↓s69, ↓nck_p, ↓cP_p, ↓eqP_pn, ↓e0, ↓e1, ↓e2, ↓e3, ↓l0, Bs_len, h1, ↓SD, SA, Int.ofNat_eq_natCast, Int.cast_ofNat_Int, Int.reduceBEq, Int.reduceAdd, Int.reduceNeg, Int.reduceNegSucc, Int.reduceLT, Int.reduceLE, Int.reduceMul, Int.reduceTMod, Int.reduceSub, Int.reduceBNe, Bool.not_true, Bool.not_false, decide_true, decide_false, ne_eq, not_false_eq_true, Int.reduceEq, reduceCtorEq]; rfl
    · have h2 : (t.length : Int) - at_ < n := by
        rcases hn with hn | hn | hn
        · cases hn
        · exact absurd hn h1
        · exact hn
      simp only [↓s69, ↓nck_p, ↓cP_p, ↓eqP_pn, ↓e0, ↓e1, ↓e2, ↓e3, ↓l0, Bs_len, h1, h2, w1, ↓SD, SA, Int.ofNat_eq_natCast, Int.cast_ofNat_Int, Int.reduceBEq, Int.reduceAdd, Int.reduceNeg, Int.reduceNegSucc, Int.reduceLT, Int.reduceLE, Int.reduceMul, Int.reduceTMod, Int.reduceSub, Int.reduceBNe, Bool.not_true, Bool.not_false, decide_true, decide_false, ne_eq, not_false_eq_true, Int.reduceEq, reduceCtorEq]; rfl

theorem t69_ok (hc : Cur h lo b t at_ false) (hw : Wf h) (n : Nat) (hn : at_ + n ≤ t.length) :
    ∃ v h', s69 [.ptr b 0, .int 63 (n : Int)] h = .ret v h' ∧ Sl h' (fun x => lo ≤ x ∧ x < b) v (Bs ((t.drop at_).take n)) ∧ Cur h' lo b t (at_ + n) false ∧ To (At b) h h' ∧ Wf h' := by
  obtain ⟨v, hs, e0, e1, e2⟩ := hc.open
  obtain ⟨h', e3, c', o'⟩ := hc.move (at_ + n) hn
  obtain ⟨v2, hs2, f0, f1, f2⟩ := c'.open
  have l0 := fun k => lenL_sl hs k
  have hlen := hc.len
  have w1 : wrapC 63 ((t.length : Int) - (at_ : Int)) = (t.length : Int) - (at_ : Int) := w63_in _ (by omega) (by omega)
  have w2 : wrapC 63 ((at_ : Int) + (n : Int)) = ((at_ + n : Nat) : Int) := by rw [w63_in _ (by omega) (by omega)]; omega
  have w3 : wrapC 63 (((at_ + n : Nat) : Int) - (n : Int)) = (at_ : Int) := by rw [w63_in _ (by omega) (by omega)]; omega
  have h1 : ¬ (n : Int) < 0 := by omega
  have h2 : ¬ (t.length : Int) - at_ < (n : Int) := by omega
  obtain ⟨v', g1, g2⟩ := cut_sl hs2 (c1 := 63) (c2 := 63) at_ (at_ + n) (by omega) (by rw [Bs_len]; exact hn)
  have g2' : Sl h' (fun x => lo ≤ x ∧ x < b) v' (Bs ((t.drop at_).take n)) := by
    have e : ((Bs t).drop at_).take (at_ + n - at_) = Bs ((t.drop at_).take n) := by rw [Nat.add_sub_cancel_left]; simp [Bs, List.map_drop, List.map_take]
    rwa [e] at g2
  have cv := fun k => cK_sl g2' k
  exact ⟨v', h', by simp only [↓s69, ↓nck_p, ↓cP_p, ↓eqP_pn, ↓e0, ↓e1, ↓e2, ↓e3, ↓f0, ↓f1, ↓f2, ↓l0, Bs_len, h1, h2, w1, w2, w3, ↓g1, ↓cv, ↓SD, SA, Int.ofNat_eq_natCast, Int.cast_ofNat_Int, Int.reduceBEq, Int.reduceAdd, Int.reduceNeg, Int.reduceNegSucc, Int.reduceLT, Int.reduceLE, Int.reduceMul, Int.reduceTMod, Int.reduceSub, Int.reduceBNe, Bool.not_true, Bool.not_false, decide_true, decide_false, ne_eq, not_false_eq_true, Int.reduceEq, reduceCtorEq], g2', c', o', o'.wf hw⟩

theorem t30 (hc : Cur h lo b t at_ bad) : s30 [.ptr b 0] h = .ret (.bool (!bad)) h := by
  obtain ⟨v, hs, e0, e1, e2⟩ := hc.open
  simp only [↓s30, ↓nck_p, ↓cP_p, ↓eqP_pn, ↓e0, ↓e1, ↓e2, ↓SD, SA, Int.ofNat_eq_natCast, Int.cast_ofNat_Int, Int.reduceBEq, Int.reduceAdd, Int.reduceNeg, Int.reduceNegSucc, Int.reduceLT, Int.reduceLE, Int.reduceMul, Int.reduceTMod, Int.reduceSub, Int.reduceBNe, Bool.not_true, Bool.not_false, decide_true, decide_false, ne_eq, not_false_eq_true, Int.reduceEq, reduceCtorEq]
theorem t31 (hc : Cur h lo b t at_ bad) : s31 [.ptr b 0] h = .ret (.int 63 ((t.length - at_ : Nat) : Int)) h := by
  obtain ⟨v, hs, e0, e1, e2⟩ := hc.open
  have l0 := fun k => lenL_sl hs k
  have hlen := hc.len
  have hle := hc.le
  have w1 : wrapC 63 ((t.length : Int) - (at_ : Int)) = ((t.length - at_ : Nat) : Int) := by rw [w63_in _ (by omega) (by omega)]; omega
  simp only [↓s31, ↓nck_p, ↓cP_p, ↓eqP_pn, ↓e0, ↓e1, ↓e2, ↓l0, Bs_len, w1, ↓SD, SA, Int.ofNat_eq_natCast, Int.cast_ofNat_Int, Int.reduceBEq, Int.reduceAdd, Int.reduceNeg, Int.reduceNegSucc, Int.reduceLT, Int.reduceLE, Int.reduceMul, Int.reduceTMod, Int.reduceSub, Int.reduceBNe, Bool.not_true, Bool.not_false, decide_true, decide_false, ne_eq, not_false_eq_true, Int.reduceEq, reduceCtorEq]
theorem t35 (hc : Cur h lo b t at_ bad) : s35 [.ptr b 0] h = .ret (.int 63 ((t.length - at_ : Nat) : Int)) h := by
  obtain ⟨v, hs, e0, e1, e2⟩ := hc.open
  have l0 := fun k => lenL_sl hs k
  have hlen := hc.len
  have hle := hc.le
  have w1 : wrapC 63 ((t.length : Int) - (at_ : Int)) = ((t.length - at_ : Nat) : Int) := by rw [w63_in _ (by omega) (by omega)]; omega
  simp only [↓s35, ↓nck_p, ↓cP_p, ↓eqP_pn, ↓e0, ↓e1, ↓e2, ↓l0, Bs_len, w1, ↓SD, SA, Int.ofNat_eq_natCast, Int.cast_ofNat_Int, Int.reduceBEq, Int.reduceAdd, Int.reduceNeg, Int.reduceNegSucc, Int.reduceLT, Int.reduceLE, Int.reduceMul, Int.reduceTMod, Int.reduceSub, Int.reduceBNe, Bool.not_true, Bool.not_false, decide_true, decide_false, ne_eq, not_false_eq_true, Int.reduceEq, reduceCtorEq]
theorem t34 (hc : Cur h lo b t at_ bad) : s34 [.ptr b 0] h = .ret (.int 63 (at_ : Int)) h := by
  obtain ⟨v, hs, e0, e1, e2⟩ := hc.open
  simp only [↓s34, ↓nck_p, ↓cP_p, ↓eqP_pn, ↓e0, ↓e1, ↓e2, ↓SD, SA, Int.ofNat_eq_natCast, Int.cast_ofNat_Int, Int.reduceBEq, Int.reduceAdd, Int.reduceNeg, Int.reduceNegSucc, Int.reduceLT, Int.reduceLE, Int.reduceMul, Int.reduceTMod, Int.reduceSub, Int.reduceBNe, Bool.not_true, Bool.not_false, decide_true, decide_false, ne_eq, not_false_eq_true, Int.reduceEq, reduceCtorEq]
end
end Go.Proofs.Ytnpfppddongbhaa
end

section
namespace Go.Proofs.Ytnpfppddongbhaa
open Go Go.AM
set_option autoImplicit false
/-- A read that the cursor can do. -/
def okc (t : List Nat) (at_ : Nat) (bad : Bool) (n : Int) : Prop := bad = false ∧ 0 ≤ n ∧ n ≤ (t.length : Int) - at_
instance (t : List Nat) (at_ : Nat) (bad : Bool) (n : Int) : Decidable (okc t at_ bad n) := inferInstanceAs (Decidable (_ ∧ _ ∧ _))
def win (t : List Nat) (at_ : Nat) (bad : Bool) (n : Int) : List Nat := if okc t at_ bad n then (t.drop at_).take n.toNat else []
def nat_ (t : List Nat) (at_ : Nat) (bad : Bool) (n : Int) : Nat := if okc t at_ bad n then at_ + n.toNat else at_
def nbad (t : List Nat) (at_ : Nat) (bad : Bool) (n : Int) : Bool := if okc t at_ bad n then false else true
/-- The number that bytes state, the highest first. -/
def be : List Nat → Nat → Nat
  | [], a => a
  | x :: l, a => be l (a * 256 + x)
theorem Sl_nil (h : Hp) (P : Nat → Prop) : Sl h P .nils (Bs []) := ⟨by simp [Bs], .inl ⟨rfl, rfl⟩⟩
theorem win_byt {t : List Nat} (hb : ∀ x ∈ t, x < 256) (at_ : Nat) (bad : Bool) (n : Int) : ∀ x ∈ win t at_ bad n, x < 256 := by
  intro x hx
  unfold win at hx
  split at hx
  · exact hb x (List.mem_of_mem_drop (List.mem_of_mem_take hx))
  · cases hx
theorem win_len (t : List Nat) (at_ : Nat) (bad : Bool) (n : Int) : (win t at_ bad n).length ≤ n.toNat := by
  unfold win
  split
  · simp; omega
  · simp
theorem win_len2 (t : List Nat) (at_ : Nat) (bad : Bool) (n : Int) : (win t at_ bad n).length ≤ t.length := by
  unfold win
  split
  · simp; omega
  · simp
section
variable {h : Hp} {lo b at_ : Nat} {t : List Nat} {bad : Bool}
theorem t69 (hc : Cur h lo b t at_ bad) (hw : Wf h) (n : Int) :
    ∃ v h', s69 [.ptr b 0, .int 63 n] h = .ret v h' ∧ Sl h' (fun x => lo ≤ x ∧ x < b) v (Bs (win t at_ bad n)) ∧ Cur h' lo b t (nat_ t at_ bad n) (nbad t at_ bad n) ∧ To (At b) h h' ∧ Wf h' := by
  by_cases ho : okc t at_ bad n
  · obtain ⟨rfl, h0, h1⟩ := id ho
    obtain ⟨m, rfl⟩ : ∃ m : Nat, n = (m : Int) := ⟨n.toNat, by omega⟩
    have := hc.le
    have r := t69_ok hc hw m (by omega)
    simp only [win, nat_, nbad, if_pos ho, Int.toNat_natCast]
    exact r
  · obtain ⟨h', e1, e2, e3, e4⟩ := t69_no hc hw n (by
      cases bad with
      | true => exact .inl rfl
      | false =>
        refine .inr ?_
        by_cases h0 : n < 0
        · exact .inl h0
        · refine .inr ?_
          have : ¬ (n ≤ (t.length : Int) - at_) := fun h1 => ho ⟨rfl, by omega, h1⟩
          omega)
    simp only [win, nat_, nbad, if_neg ho]
    exact ⟨.nils, h', e1, Sl_nil _ _, e2, e3, e4⟩

theorem sh8 (m : Int) (k : AV → Res) : iShl (.int 63 m) (.int 64 (.ofNat 8)) k = k (.int 63 (wrapC 63 (m * 256))) := iShl_i k 63 m 64 8 (by decide)
theorem c8 (x : Nat) (hx : x < 256) : wrapC 63 (x : Int) = (x : Int) := w63_in _ (by omega) (by omega)
theorem m8 (a : Nat) (ha : a < 1099511627776) : wrapC 63 ((a : Int) * 256) = ((a * 256 : Nat) : Int) := by rw [w63_in _ (by omega) (by omega)]; omega
theorem or8 (a x : Nat) (ha : a < 1099511627776) (hx : x < 256) : wrapC 63 ((Nat.lor (toU 63 ((a * 256 : Nat) : Int)) (toU 63 (x : Int)) : Nat) : Int) = ((a * 256 + x : Nat) : Int) := by
  have e1 : toU 63 ((a * 256 : Nat) : Int) = a * 256 := by have := toU63 ((a * 256 : Nat) : Int); omega
  have e2 : toU 63 (x : Int) = x := by have := toU63 (x : Int); omega
  have e3 : Nat.lor (a * 256) x = a * 256 + x := by
    have := Nat.two_pow_add_eq_or_of_lt (i := 8) (b := x) (by omega) a
    have e : Nat.lor (a * 256) x = (2 ^ 8 * a) ||| x := by rw [Nat.mul_comm]; rfl
    rw [e, ← this]; omega
  rw [e1, e2, e3]
  exact w63_in _ (by omega) (by omega)
theorem ad8 (a x : Nat) (ha : a < 1099511627776) (hx : x < 256) : wrapC 63 (((a * 256 : Nat) : Int) + (x : Int)) = ((a * 256 + x : Nat) : Int) := by rw [w63_in _ (by omega) (by omega)]; omega
theorem s1n (i : Nat) (hi : i < 1000000) : wrapC 63 ((i : Int) + 1) = ((i + 1 : Nat) : Int) := by rw [w63_in _ (by omega) (by omega)]; omega

theorem loop70 {P : Nat → Prop} {v : AV} {l : List Nat} (hs : Sl h P v (Bs l)) (hl : l.length ≤ 4) (hb : ∀ x ∈ l, x < 256) : ∀ (f m i a : Nat), l.length - i ≤ f → f < m → i ≤ l.length → a < 256 ^ i → lp L70n0 m [.int 63 (a : Int), v, .int 63 (l.length : Int), .int 63 (i : Int)] h = .exit 0 [.int 63 (be (l.drop i) a : Int)] h := by
  have stop : ∀ (f m i a : Nat), f < m → ¬ i < l.length → lp L70n0 m [.int 63 (a : Int), v, .int 63 (l.length : Int), .int 63 (i : Int)] h = .exit 0 [.int 63 (be (l.drop i) a : Int)] h := by
    intro f m i a hm hi
    obtain ⟨m, rfl⟩ : ∃ k, m = k + 1 := ⟨m - 1, by omega⟩
    have e1 : ¬ (i : Int) < (l.length : Int) := by omega
    have e : L70n0 [.int 63 (a : Int), v, .int 63 (l.length : Int), .int 63 (i : Int)] h = .exit 0 [.int 63 (a : Int)] h := by simp only [↓L70n0, e1, ↓SD, SA, Int.ofNat_eq_natCast, Int.cast_ofNat_Int, Int.reduceBEq, Int.reduceAdd, Int.reduceNeg, Int.reduceNegSucc, Int.reduceLT, Int.reduceLE, Int.reduceMul, Int.reduceTMod, Int.reduceSub, Int.reduceBNe, Bool.not_true, Bool.not_false, decide_true, decide_false, ne_eq, not_false_eq_true, Int.reduceEq, reduceCtorEq]
    rw [List.drop_eq_nil_of_le (by omega)]
    exact lpx m e
  intro f
  induction f with
  | zero => intro m i a hf hm hi ha; exact stop 0 m i a hm (by omega)
  | succ f ih =>
    intro m i a hf hm hi ha
    by_cases hin : i < l.length
    · obtain ⟨m, rfl⟩ : ∃ k, m = k + 1 := ⟨m - 1, by omega⟩
      have e1 : (i : Int) < (l.length : Int) := by omega
      have hx : l[i] < 256 := hb _ (List.getElem_mem _)
      have g : (Bs l)[i]'(by rw [Bs_len]; exact hin) = .int 8 (l[i] : Int) := by simp [Bs]
      have iv := fun k => ix_sl hs (c := 63) i (by rw [Bs_len]; exact hin) k
      rw [g] at iv
      have ha' : a < 1099511627776 := Nat.lt_of_lt_of_le ha (Nat.le_trans (Nat.pow_le_pow_right (by omega) (show i ≤ 4 by omega)) (by decide))
      have e : L70n0 [.int 63 (a : Int), v, .int 63 (l.length : Int), .int 63 (i : Int)] h = .norm [.int 63 ((a * 256 + l[i] : Nat) : Int), v, .int 63 (l.length : Int), .int 63 ((i + 1 : Nat) : Int)] h := by
        simp only [↓L70n0, e1, ↓iv, ↓sh8, m8 a ha', c8 _ hx, or8 a _ ha' hx, s1n i (by omega), ↓SD, SA, Int.ofNat_eq_natCast, Int.cast_ofNat_Int, Int.reduceBEq, Int.reduceAdd, Int.reduceNeg, Int.reduceNegSucc, Int.reduceLT, Int.reduceLE, Int.reduceMul, Int.reduceTMod, Int.reduceSub, Int.reduceBNe, Bool.not_true, Bool.not_false, decide_true, decide_false, ne_eq, not_false_eq_true, Int.reduceEq, reduceCtorEq]
      rw [lpn m e]
      have := ih m (i + 1) (a * 256 + l[i]) (by omega) (by omega) (by omega) (by rw [Nat.pow_succ]; omega)
      rw [this]
      have hd : l.drop i = l[i] :: l.drop (i + 1) := List.drop_eq_getElem_cons hin
      rw [hd]; rfl
    · exact stop (f + 1) m i a hm hin

theorem t70 (hc : Cur h lo b t at_ bad) (hw : Wf h) (n : Nat) (hn : n ≤ 4) :
    ∃ h', s70 [.ptr b 0, .int 63 (n : Int)] h = .ret (.int 63 (be (win t at_ bad n) 0 : Int)) h' ∧ Cur h' lo b t (nat_ t at_ bad n) (nbad t at_ bad n) ∧ To (At b) h h' ∧ Wf h' := by
  obtain ⟨v, h', e1, s1, c1, o1, w1⟩ := t69 hc hw (n : Int)
  have hl := win_len t at_ bad n
  have lp0 := loop70 s1 (by omega) (win_byt hc.byt _ _ _) (win t at_ bad n).length most 0 0 (by omega) (show _ < 1000000 by omega) (by omega) (by decide)
  have z0 : ((0 : Nat) : Int) = 0 := rfl
  rw [z0] at lp0
  have l0 := fun k => lenL_sl s1 k
  rw [List.drop_zero] at lp0
  exact ⟨h', by simp only [↓s70, ↓e1, ↓l0, Bs_len, lp0, blk_e, ↓SD, SA, Int.ofNat_eq_natCast, Int.cast_ofNat_Int, Int.reduceBEq, Int.reduceAdd, Int.reduceNeg, Int.reduceNegSucc, Int.reduceLT, Int.reduceLE, Int.reduceMul, Int.reduceTMod, Int.reduceSub, Int.reduceBNe, Bool.not_true, Bool.not_false, decide_true, decide_false, ne_eq, not_false_eq_true, Int.reduceEq, reduceCtorEq]; rfl, c1, o1, w1⟩
theorem t27 (hc : Cur h lo b t at_ bad) (hw : Wf h) :
    ∃ h', s27 [.ptr b 0] h = .ret (.int 63 (be (win t at_ bad 1) 0 : Int)) h' ∧ Cur h' lo b t (nat_ t at_ bad 1) (nbad t at_ bad 1) ∧ To (At b) h h' ∧ Wf h' := by
  obtain ⟨h', e, r⟩ := t70 hc hw 1 (by decide)
  have z0 : ((1 : Nat) : Int) = 1 := rfl
  rw [z0] at e r
  exact ⟨h', by simp only [↓s27, e, ↓SD, SA, Int.ofNat_eq_natCast, Int.cast_ofNat_Int, Int.reduceBEq, Int.reduceAdd, Int.reduceNeg, Int.reduceNegSucc, Int.reduceLT, Int.reduceLE, Int.reduceMul, Int.reduceTMod, Int.reduceSub, Int.reduceBNe, Bool.not_true, Bool.not_false, decide_true, decide_false, ne_eq, not_false_eq_true, Int.reduceEq, reduceCtorEq], r⟩
theorem t28 (hc : Cur h lo b t at_ bad) (hw : Wf h) :
    ∃ h', s28 [.ptr b 0] h = .ret (.int 63 (be (win t at_ bad 2) 0 : Int)) h' ∧ Cur h' lo b t (nat_ t at_ bad 2) (nbad t at_ bad 2) ∧ To (At b) h h' ∧ Wf h' := by
  obtain ⟨h', e, r⟩ := t70 hc hw 2 (by decide)
  have z0 : ((2 : Nat) : Int) = 2 := rfl
  rw [z0] at e r
  exact ⟨h', by simp only [↓s28, e, ↓SD, SA, Int.ofNat_eq_natCast, Int.cast_ofNat_Int, Int.reduceBEq, Int.reduceAdd, Int.reduceNeg, Int.reduceNegSucc, Int.reduceLT, Int.reduceLE, Int.reduceMul, Int.reduceTMod, Int.reduceSub, Int.reduceBNe, Bool.not_true, Bool.not_false, decide_true, decide_false, ne_eq, not_false_eq_true, Int.reduceEq, reduceCtorEq], r⟩
theorem t29 (hc : Cur h lo b t at_ bad) (hw : Wf h) :
    ∃ h', s29 [.ptr b 0] h = .ret (.int 63 (be (win t at_ bad 4) 0 : Int)) h' ∧ Cur h' lo b t (nat_ t at_ bad 4) (nbad t at_ bad 4) ∧ To (At b) h h' ∧ Wf h' := by
  obtain ⟨h', e, r⟩ := t70 hc hw 4 (by decide)
  have z0 : ((4 : Nat) : Int) = 4 := rfl
  rw [z0] at e r
  exact ⟨h', by simp only [↓s29, e, ↓SD, SA, Int.ofNat_eq_natCast, Int.cast_ofNat_Int, Int.reduceBEq, Int.reduceAdd, Int.reduceNeg, Int.reduceNegSucc, Int.reduceLT, Int.reduceLE, Int.reduceMul, Int.reduceTMod, Int.reduceSub, Int.reduceBNe, Bool.not_true, Bool.not_false, decide_true, decide_false, ne_eq, not_false_eq_true, Int.reduceEq, reduceCtorEq], r⟩

/-- Bytes out of a cursor: a copy. -/
theorem t26 (hc : Cur h lo b t at_ bad) (hw : Wf h) (n : Int) :
    ∃ v h', s26 [.ptr b 0, .int 63 n] h = .ret v h' ∧ Sl h' (fun x => h.nb ≤ x ∧ x < h'.nb) v (Bs (win t at_ bad n)) ∧ Cur h' lo b t (nat_ t at_ bad n) (nbad t at_ bad n) ∧ To (At b) h h' ∧ Wf h' := by
  obtain ⟨v, h1, e1, s1, c1, o1, w1⟩ := t69 hc hw n
  have hl := win_len2 t at_ bad n
  obtain ⟨v2, h2, e2, s2, o2, w2⟩ := t68 s1 w1 (by have := hc.len; omega)
  have cv := fun k => cK_sl s2 k
  refine ⟨v2, h2, by simp only [↓s26, ↓e1, ↓e2, ↓cv, ↓SD, SA, Int.ofNat_eq_natCast, Int.cast_ofNat_Int, Int.reduceBEq, Int.reduceAdd, Int.reduceNeg, Int.reduceNegSucc, Int.reduceLT, Int.reduceLE, Int.reduceMul, Int.reduceTMod, Int.reduceSub, Int.reduceBNe, Bool.not_true, Bool.not_false, decide_true, decide_false, ne_eq, not_false_eq_true, Int.reduceEq, reduceCtorEq], s2.mono (fun x hx => ⟨Nat.le_trans o1.nb hx.1, hx.2⟩), c1.to o2 (fun _ _ _ f => f), o1.trans (o2.mono fun _ _ f => f.elim), w2⟩
end
end Go.Proofs.Ytnpfppddongbhaa
end

section
namespace Go.Proofs.Ytnpfppddongbhaa
open Go Go.AM
set_option autoImplicit false
section
variable {h : Hp} {lo b at_ : Nat} {t : List Nat} {bad : Bool}
theorem loop32 (hc : Cur h lo b t at_ bad) (n : Nat) (hn : n ≤ 4) (ht : at_ + n ≤ t.length) : ∀ (f m i a : Nat), n - i ≤ f → f < m → i ≤ n → a < 256 ^ i →
    lp L32n0 m [.ptr b 0, .int 63 (n : Int), .int 63 (a : Int), .int 63 (i : Int)] h = .exit 0 [.ptr b 0, .int 63 (n : Int), .int 63 (be (((t.drop at_).take n).drop i) a : Int)] h := by
  obtain ⟨v, hs, e0, e1, e2⟩ := hc.open
  have hlen := hc.len
  have hll : ((t.drop at_).take n).length = n := by simp; omega
  have stop : ∀ (f m i a : Nat), f < m → ¬ i < n → lp L32n0 m [.ptr b 0, .int 63 (n : Int), .int 63 (a : Int), .int 63 (i : Int)] h = .exit 0 [.ptr b 0, .int 63 (n : Int), .int 63 (be (((t.drop at_).take n).drop i) a : Int)] h := by
    intro f m i a hm hi
    obtain ⟨m, rfl⟩ : ∃ k, m = k + 1 := ⟨m - 1, by omega⟩
    have e3 : ¬ (i : Int) < (n : Int) := by omega
    have e : L32n0 [.ptr b 0, .int 63 (n : Int), .int 63 (a : Int), .int 63 (i : Int)] h = .exit 0 [.ptr b 0, .int 63 (n : Int), .int 63 (a : Int)] h := by simp only [↓L32n0, e3, ↓SD, SA, Int.ofNat_eq_natCast, Int.cast_ofNat_Int, Int.reduceBEq, Int.reduceAdd, Int.reduceNeg, Int.reduceNegSucc, Int.reduceLT, Int.reduceLE, Int.reduceMul, Int.reduceTMod, Int.reduceSub, Int.reduceBNe, Bool.not_true, Bool.not_false, decide_true, decide_false, ne_eq, not_false_eq_true, Int.reduceEq, reduceCtorEq]
    rw [List.drop_eq_nil_of_le (by omega)]
    exact lpx m e
  intro f
  induction f with
  | zero => intro m i a hf hm hi ha; exact stop 0 m i a hm (by omega)
  | succ f ih =>
    intro m i a hf hm hi ha
    by_cases hin : i < n
    · obtain ⟨m, rfl⟩ : ∃ k, m = k + 1 := ⟨m - 1, by omega⟩
      have e3 : (i : Int) < (n : Int) := by omega
      have hit : at_ + i < t.length := by omega
      have hx : t[at_ + i] < 256 := hc.byt _ (List.getElem_mem _)
      have g : (Bs t)[at_ + i]'(by rw [Bs_len]; exact hit) = .int 8 (t[at_ + i] : Int) := by simp [Bs]
      have iv := fun k => ix_sl hs (c := 63) (at_ + i) (by rw [Bs_len]; exact hit) k
      rw [g] at iv
      have ha' : a < 1099511627776 := Nat.lt_of_lt_of_le ha (Nat.le_trans (Nat.pow_le_pow_right (by omega) (show i ≤ 4 by omega)) (by decide))
      have w1 : wrapC 63 ((at_ : Int) + (i : Int)) = ((at_ + i : Nat) : Int) := by rw [w63_in _ (by omega) (by omega)]; omega
      have e : L32n0 [.ptr b 0, .int 63 (n : Int), .int 63 (a : Int), .int 63 (i : Int)] h = .norm [.ptr b 0, .int 63 (n : Int), .int 63 ((a * 256 + t[at_ + i] : Nat) : Int), .int 63 ((i + 1 : Nat) : Int)] h := by
        simp only [↓L32n0, ↓nck_p, ↓cP_p, ↓e0, ↓e1, ↓e2, e3, w1, ↓iv, ↓sh8, m8 a ha', c8 _ hx, ad8 a _ ha' hx, s1n i (by omega), ↓SD, SA, Int.ofNat_eq_natCast, Int.cast_ofNat_Int, Int.reduceBEq, Int.reduceAdd, Int.reduceNeg, Int.reduceNegSucc, Int.reduceLT, Int.reduceLE, Int.reduceMul, Int.reduceTMod, Int.reduceSub, Int.reduceBNe, Bool.not_true, Bool.not_false, decide_true, decide_false, ne_eq, not_false_eq_true, Int.reduceEq, reduceCtorEq]
      rw [lpn m e]
      have := ih m (i + 1) (a * 256 + t[at_ + i]) (by omega) (by omega) (by omega) (by rw [Nat.pow_succ]; omega)
      rw [this]
      have hd : ((t.drop at_).take n).drop i = t[at_ + i] :: ((t.drop at_).take n).drop (i + 1) := by
        rw [List.drop_eq_getElem_cons (by rw [hll]; exact hin)]
        simp
      rw [hd]; rfl
    · exact stop (f + 1) m i a hm hin

theorem t32 (hc : Cur h lo b t at_ bad) (hw : Wf h) (n : Nat) (hn : n ≤ 4) :
    ∃ h', s32 [.ptr b 0, .int 63 (n : Int)] h = .ret (.int 63 (be (win t at_ bad n) 0 : Int)) h' ∧ Cur h' lo b t (nat_ t at_ bad n) (nbad t at_ bad n) ∧ To (At b) h h' ∧ Wf h' := by
  obtain ⟨v, hs, e0, e1, e2⟩ := hc.open
  have l0 := fun k => lenL_sl hs k
  have hlen := hc.len
  have hle := hc.le
  have w1 : wrapC 63 ((t.length : Int) - (at_ : Int)) = (t.length : Int) - (at_ : Int) := w63_in _ (by omega) (by omega)
  have z0 : ((0 : Nat) : Int) = 0 := rfl
  by_cases ho : okc t at_ bad (n : Int)
  · obtain ⟨rfl, h0, h1⟩ := id ho
    obtain ⟨h', e3, c', o'⟩ := hc.move (at_ + n) (by omega)
    have w2 : wrapC 63 ((at_ : Int) + (n : Int)) = ((at_ + n : Nat) : Int) := by rw [w63_in _ (by omega) (by omega)]; omega
    have h2 : ¬ (t.length : Int) - at_ < (n : Int) := by omega
    have lp0 := loop32 hc n hn (by omega) n most 0 0 (by omega) (show _ < 1000000 by omega) (by omega) (by decide)
    rw [z0, List.drop_zero] at lp0
    simp only [win, nat_, nbad, if_pos ho, Int.toNat_natCast]
    refine ⟨h', ?_, c', o', o'.wf hw⟩
    simp only [↓s32, ↓nck_p, ↓cP_p, ↓eqP_pn, ↓e0, ↓e1, ↓e2, ↓e3, ↓l0, Bs_len, h2, w1, w2, lp0, blk_e, ↓SD, SA, Int.ofNat_eq_natCast, Int.cast_ofNat_Int, Int.reduceBEq, Int.reduceAdd, Int.reduceNeg, Int.reduceNegSucc, Int.reduceLT, Int.reduceLE, Int.reduceMul, Int.reduceTMod, Int.reduceSub, Int.reduceBNe, Bool.not_true, Bool.not_false, decide_true, decide_false, ne_eq, not_false_eq_true, Int.reduceEq, reduceCtorEq]
    simp only [show Nat.beq 0 0 = true from rfl, ↓nck_p, ↓cP_p, ↓e0, ↓e1, ↓e2, ↓e3, w2, ↓SD, SA, Int.ofNat_eq_natCast, Int.cast_ofNat_Int, Int.reduceBEq, Int.reduceAdd, Int.reduceNeg, Int.reduceNegSucc, Int.reduceLT, Int.reduceLE, Int.reduceMul, Int.reduceTMod, Int.reduceSub, Int.reduceBNe, Bool.not_true, Bool.not_false, decide_true, decide_false, ne_eq, not_false_eq_true, Int.reduceEq, reduceCtorEq]
  · obtain ⟨h', e3, c', o'⟩ := hc.fall
    simp only [win, nat_, nbad, if_neg ho]
    refine ⟨h', ?_, c', o', o'.wf hw⟩
    cases bad with
    | true => simp only [↓s32, ↓nck_p, ↓cP_p, ↓eqP_pn, ↓e0, ↓e1, ↓e2, ↓e3, ↓l0, Bs_len, ↓SD, SA, Int.ofNat_eq_natCast, Int.cast_ofNat_Int, Int.reduceBEq, Int.reduceAdd, Int.reduceNeg, Int.reduceNegSucc, Int.reduceLT, Int.reduceLE, Int.reduceMul, Int.reduceTMod, Int.reduceSub, Int.reduceBNe, Bool.not_true, Bool.not_false, decide_true, decide_false, ne_eq, not_false_eq_true, Int.reduceEq, reduceCtorEq]; rfl
    | false =>
      have h2 : (t.length : Int) - at_ < (n : Int) := by
        have : ¬ ((n : Int) ≤ (t.length : Int) - at_) := fun h1 => ho ⟨rfl, by omega, h1⟩
        omega
      simp only [↓s32, ↓nck_p, ↓cP_p, ↓eqP_pn, ↓e0, ↓e1, ↓e2, ↓e3, ↓l0, Bs_len, h2, w1, ↓SD, SA, Int.ofNat_eq_natCast, Int.cast_ofNat_Int, Int.reduceBEq, Int.reduceAdd, Int.reduceNeg, Int.reduceNegSucc, Int.reduceLT, Int.reduceLE, Int.reduceMul, Int.reduceTMod, Int.reduceSub, Int.reduceBNe, Bool.not_true, Bool.not_false, decide_true, decide_false, ne_eq, not_false_eq_true, Int.reduceEq, reduceCtorEq]; rfl

theorem t33 (hc : Cur h lo b t at_ bad) (hw : Wf h) (n : Int) :
    ∃ v h', s33 [.ptr b 0, .int 63 n] h = .ret v h' ∧ Sl h' (fun x => lo ≤ x ∧ x < b) v (Bs (win t at_ bad n)) ∧ Cur h' lo b t (nat_ t at_ bad n) (nbad t at_ bad n) ∧ To (At b) h h' ∧ Wf h' := by
  obtain ⟨v, hs, e0, e1, e2⟩ := hc.open
  have l0 := fun k => lenL_sl hs k
  have hlen := hc.len
  have hle := hc.le
  have w1 : wrapC 63 ((t.length : Int) - (at_ : Int)) = (t.length : Int) - (at_ : Int) := w63_in _ (by omega) (by omega)
  by_cases ho : okc t at_ bad n
  · obtain ⟨rfl, h0, h1⟩ := id ho
    obtain ⟨n, rfl⟩ : ∃ m : Nat, n = (m : Int) := ⟨n.toNat, by omega⟩
    obtain ⟨h', e3, c', o'⟩ := hc.move (at_ + n) (by omega)
    have w2 : wrapC 63 ((at_ : Int) + (n : Int)) = ((at_ + n : Nat) : Int) := by rw [w63_in _ (by omega) (by omega)]; omega
    have h2 : ¬ (t.length : Int) - at_ < (n : Int) := by omega
    have h3 : ¬ (n : Int) < 0 := by omega
    obtain ⟨v', g1, g2⟩ := cut_sl hs (c1 := 63) (c2 := 63) at_ (at_ + n) (by omega) (by rw [Bs_len]; omega)
    have g2' : Sl h (fun x => lo ≤ x ∧ x < b) v' (Bs ((t.drop at_).take n)) := by
      have e : ((Bs t).drop at_).take (at_ + n - at_) = Bs ((t.drop at_).take n) := by rw [Nat.add_sub_cancel_left]; simp [Bs, List.map_drop, List.map_take]
      rwa [e] at g2
    have cv := fun k => cK_sl g2' k
    simp only [win, nat_, nbad, if_pos ho, Int.toNat_natCast]
    refine ⟨v', h', ?_, g2'.to o' (fun x hx e => by have : x = b := e; omega), c', o', o'.wf hw⟩
    simp only [↓s33, ↓nck_p, ↓cP_p, ↓eqP_pn, ↓e0, ↓e1, ↓e2, ↓e3, ↓l0, Bs_len, h2, h3, w1, w2, ↓g1, ↓cv, ↓SD, SA, Int.ofNat_eq_natCast, Int.cast_ofNat_Int, Int.reduceBEq, Int.reduceAdd, Int.reduceNeg, Int.reduceNegSucc, Int.reduceLT, Int.reduceLE, Int.reduceMul, Int.reduceTMod, Int.reduceSub, Int.reduceBNe, Bool.not_true, Bool.not_false, decide_true, decide_false, ne_eq, not_false_eq_true, Int.reduceEq, reduceCtorEq]
  · obtain ⟨h', e3, c', o'⟩ := hc.fall
    simp only [win, nat_, nbad, if_neg ho]
    refine ⟨.nils, h', ?_, Sl_nil _ _, c', o', o'.wf hw⟩
    cases bad with
    | true => simp only [↓s33, ↓nck_p, ↓cP_p, ↓eqP_pn, ↓e0, ↓e1, ↓e2, ↓e3, ↓l0, Bs_len, ↓SD, SA, Int.ofNat_eq_natCast, Int.cast_ofNat_Int, Int.reduceBEq, Int.reduceAdd, Int.reduceNeg, Int.reduceNegSucc, Int.reduceLT, Int.reduceLE, Int.reduceMul, Int.reduceTMod, Int.reduceSub, Int.reduceBNe, Bool.not_true, Bool.not_false, decide_true, decide_false, ne_eq, not_false_eq_true, Int.reduceEq, reduceCtorEq]; rfl
    | false =>
      by_cases h1 : n < 0
      · simp only [↓s33, ↓nck_p, ↓cP_p, ↓eqP_pn, ↓e0, ↓e1, ↓e2, ↓e3, ↓l0, Bs_len, h1, ↓SD, SA, Int.ofNat_eq_natCast, Int.cast_ofNat_Int, Int.reduceBEq, Int.reduceAdd, Int.reduceNeg, Int.reduceNegSucc, Int.reduceLT, Int.reduceLE, Int.reduceMul, Int.reduceTMod, Int.reduceSub, Int.reduceBNe, Bool.not_true, Bool.not_false, decide_true, decide_false, ne_eq, not_false_eq_true, Int.reduceEq, reduceCtorEq]; rfl
      · have h2 : (t.length : Int) - at_ < n := by
          have : ¬ (n ≤ (t.length : Int) - at_) := fun h3 => ho ⟨rfl, by omega, h3⟩
          omega
        simp only [↓s33, ↓nck_p, ↓cP_p, ↓eqP_pn, ↓e0, ↓e1, ↓e2, ↓e3, ↓l0, Bs_len, h1, h2, w1, ↓SD, SA, Int.ofNat_eq_natCast, Int.cast_ofNat_Int, Int.reduceBEq, Int.reduceAdd, Int.reduceNeg, Int.reduceNegSucc, Int.reduceLT, Int.reduceLE, Int.reduceMul, Int.reduceTMod, Int.reduceSub, Int.reduceBNe, Bool.not_true, Bool.not_false, decide_true, decide_false, ne_eq, not_false_eq_true, Int.reduceEq, reduceCtorEq]; rfl
end
theorem cut_lo0 (z : Nat) (x : AV) (hi : Option AV) (k : AV → Res) : cutS z x none hi none k = cutS z x (some (.int 63 ((0 : Nat) : Int))) hi none k := by cases x <;> rfl
theorem t24 {h : Hp} {P : Nat → Prop} {v : AV} {t : List Nat} (hs : Sl h P v (Bs t)) (n : Nat) (ht : t.length ≤ 9223372036854775807) : ∃ v', s24 [v, .int 63 (n : Int)] h = .ret v' h ∧ Sl h P v' (Bs (t.take n)) := by
  have l0 := fun k => lenL_sl hs k
  have cv := fun k => cK_sl hs k
  by_cases hl : n < t.length
  · obtain ⟨v', g1, g2⟩ := cut_sl hs (c1 := 63) (c2 := 63) 0 n (by omega) (by rw [Bs_len]; omega)
    have e : (((Bs t).drop 0).take (n - 0)) = Bs (t.take n) := by simp [Bs, List.map_take]
    rw [e] at g2
    have cv' := fun k => cK_sl g2 k
    have h1 : (n : Int) < (t.length : Int) := by omega
    exact ⟨v', by simp only [↓s24, ↓l0, Bs_len, h1, ↓cut_lo0, ↓g1, ↓cv', ↓SD, SA, Int.ofNat_eq_natCast, Int.cast_ofNat_Int, Int.reduceBEq, Int.reduceAdd, Int.reduceNeg, Int.reduceNegSucc, Int.reduceLT, Int.reduceLE, Int.reduceMul, Int.reduceTMod, Int.reduceSub, Int.reduceBNe, Bool.not_true, Bool.not_false, decide_true, decide_false, ne_eq, not_false_eq_true, Int.reduceEq, reduceCtorEq], g2⟩
  · have h1 : ¬ (n : Int) < (t.length : Int) := by omega
    rw [List.take_of_length_le (by omega)]
    exact ⟨v, by simp only [↓s24, ↓l0, Bs_len, h1, ↓cv, ↓SD, SA, Int.ofNat_eq_natCast, Int.cast_ofNat_Int, Int.reduceBEq, Int.reduceAdd, Int.reduceNeg, Int.reduceNegSucc, Int.reduceLT, Int.reduceLE, Int.reduceMul, Int.reduceTMod, Int.reduceSub, Int.reduceBNe, Bool.not_true, Bool.not_false, decide_true, decide_false, ne_eq, not_false_eq_true, Int.reduceEq, reduceCtorEq], hs⟩
end Go.Proofs.Ytnpfppddongbhaa
end

section
namespace Go.AM
open Go
set_option autoImplicit false
/-! ### slices of values of several cells -/
theorem fl_len {n : Nat} : ∀ (rs : List (List AV)), (∀ r ∈ rs, r.length = n) → rs.flatten.length = rs.length * n
  | [], _ => by simp
  | r :: rs, h => by
    rw [List.flatten_cons, List.length_append, fl_len rs (fun x hx => h x (List.mem_cons_of_mem _ hx)), h r (List.mem_cons_self ..), List.length_cons, Nat.succ_mul]; omega
theorem fl_get {n : Nat} : ∀ (rs : List (List AV)) (hr : ∀ r ∈ rs, r.length = n) (i j : Nat) (hi : i < rs.length) (hj : j < n) (h1 : i * n + j < rs.flatten.length) (h2 : j < (rs[i]).length), rs.flatten[i * n + j] = (rs[i])[j]
  | [], _, i, j, hi, _, _, _ => by simp at hi
  | r :: rs, hr, i, j, hi, hj, h1, h2 => by
    have hl : r.length = n := hr r (List.mem_cons_self ..)
    simp only [List.flatten_cons]
    cases i with
    | zero => rw [List.getElem_append_left (by omega)]; simp
    | succ i =>
      have e1 : (i + 1) * n = i * n + n := Nat.succ_mul _ _
      rw [List.getElem_append_right (by omega)]
      have e2 : (i + 1) * n + j - r.length = i * n + j := by omega
      simp only [e2, List.getElem_cons_succ]
      have hi' : i < rs.length := by simpa using hi
      have hlt : i * n + j < rs.flatten.length := by
        rw [fl_len rs (fun x hx => hr x (List.mem_cons_of_mem _ hx))]
        have := Nat.mul_le_mul_right n (show i + 1 ≤ rs.length by omega)
        omega
      exact fl_get rs (fun x hx => hr x (List.mem_cons_of_mem _ hx)) i j hi' hj hlt (by simpa using h2)
/-- The slice v, which grows by append, reads as the rows rs of n cells each; its blocks are of those that P lets. -/
def Rws (h : Hp) (P : Nat → Prop) (n : Nat) (v : AV) (rs : List (List AV)) : Prop :=
  (∀ r ∈ rs, r.length = n ∧ ∀ x ∈ r, one x = true) ∧ ((v = .nils ∧ rs = []) ∨ ∃ b B, v = .sl b 0 rs.length n none ∧ P b ∧ Rd h b B ∧ B.fr = true ∧ P B.g ∧ rs.length * n ≤ B.lim ∧ ∀ i (hi : i < rs.flatten.length), B.at i = rs.flatten[i])
theorem Rws.nil (h : Hp) (P : Nat → Prop) (n : Nat) : Rws h P n .nils [] := ⟨fun r hr => by simp at hr, .inl ⟨rfl, rfl⟩⟩
theorem Rws.to {h h' : Hp} {P W : Nat → Prop} {n : Nat} {v : AV} {rs : List (List AV)} (hg : Rws h P n v rs) (ht : To W h h') (hd : ∀ b, P b → b < h.nb → ¬ W b) : Rws h' P n v rs := by
  obtain ⟨h0, hg⟩ := hg
  refine ⟨h0, ?_⟩
  rcases hg with e | ⟨b, B, e, h1, h2, h3, h4, h5, h6⟩
  · exact .inl e
  · exact .inr ⟨b, B, e, h1, h2.to ht (hd b h1 h2.lt) (fun _ => hd _ h4 (h2.grp h3).1), h3, h4, h5, h6⟩
theorem Rws.mono {h : Hp} {P Q : Nat → Prop} {n : Nat} {v : AV} {rs : List (List AV)} (hg : Rws h P n v rs) (hd : ∀ b, P b → b < h.nb → Q b) : Rws h Q n v rs := by
  obtain ⟨h0, hg⟩ := hg
  refine ⟨h0, ?_⟩
  rcases hg with e | ⟨b, B, e, h1, h2, h3, h4, h5, h6⟩
  · exact .inl e
  · exact .inr ⟨b, B, e, hd b h1 h2.lt, h2, h3, hd _ h4 (h2.grp h3).1, h5, h6⟩
theorem Rws.len {h : Hp} {P : Nat → Prop} {n : Nat} {v : AV} {rs : List (List AV)} (hg : Rws h P n v rs) (k : AV → Res) : lenL v k = k (.int 63 (rs.length : Int)) := by
  rcases hg.2 with ⟨rfl, rfl⟩ | ⟨b, B, rfl, -⟩ <;> rfl
theorem Rws.cK {h : Hp} {P : Nat → Prop} {n : Nat} {v : AV} {rs : List (List AV)} (hg : Rws h P n v rs) (k : AV → Res) : cK v k = k v := by
  rcases hg.2 with ⟨rfl, rfl⟩ | ⟨b, B, rfl, -⟩ <;> rfl
theorem Rws.one {h : Hp} {P : Nat → Prop} {n : Nat} {v : AV} {rs : List (List AV)} (hg : Rws h P n v rs) : one v = true := by
  rcases hg.2 with ⟨rfl, rfl⟩ | ⟨b, B, rfl, -⟩ <;> rfl
/-- A row's place, and its cells. -/
theorem Rws.pt {h : Hp} {P : Nat → Prop} {n : Nat} {v : AV} {rs : List (List AV)} (hg : Rws h P n v rs) (i : Nat) (hi : i < rs.length) :
    ∃ b o, (∀ k : AV → Res, ixA n v (.int 63 (i : Int)) k = k (.ptr b o)) ∧ (∀ k : AV → Res, ldN h n (.ptr b o) k = k (.agg (avL rs[i]))) ∧ (∀ j (hj : j < rs[i].length) (k : AV → Res), ld1 h (.ptr b (Nat.add o j)) k = k (rs[i])[j]) := by
  obtain ⟨h0, hg⟩ := hg
  have hrow := h0 _ (List.getElem_mem hi)
  rcases hg with ⟨rfl, rfl⟩ | ⟨b, B, rfl, h1, h2, h3, h4, h5, h6⟩
  · simp at hi
  · have hl := fl_len rs (fun r hr => (h0 r hr).1)
    have key : ∀ j (hj : j < rs[i].length), B.at (i * n + j) = (rs[i])[j] := fun j hj => by
      have hj' : j < n := by rw [← hrow.1]; exact hj
      have hlt : i * n + j < rs.flatten.length := by
        rw [hl]
        have := Nat.mul_le_mul_right n (show i + 1 ≤ rs.length by omega)
        have e1 : (i + 1) * n = i * n + n := Nat.succ_mul _ _
        omega
      rw [h6 _ hlt, fl_get rs (fun r hr => (h0 r hr).1) i j hi hj' hlt hj]
    refine ⟨b, i * n, fun k => ?_, fun k => ?_, fun j hj k => ?_⟩
    · have e : ixA n (.sl b 0 rs.length n none) (.int 63 (i : Int)) k = ifB (Nat.blt i rs.length) (ifB (Nat.beq n n) (k (.ptr b (Nat.add 0 (Nat.mul i n)))) .fail) .fail := rfl
      have e2 : Nat.add 0 (Nat.mul i n) = i * n := by show 0 + i * n = i * n; omega
      rw [e, (blt_iff _ _).2 hi, (beq_iff _ _).2 rfl, e2]; rfl
    · have := ldN_rd (l := rs[i]) h2 key (fun v hv => one_unk (hrow.2 v hv)) k
      rw [hrow.1] at this
      exact this
    · exact (ld1_rd h2 (key j hj) k).trans (cK_one (hrow.2 _ (List.getElem_mem hj)) k)
theorem apd_rows {h : Hp} {P : Nat → Prop} {n by_ : Nat} {v : AV} {rs : List (List AV)} (hw : Wf h) (hv : Rws h P n v rs) (hpos : 0 < n) (r : List AV) (hr : r.length = n) (hone : ∀ x ∈ r, one x = true) (hb : (rs.length + 1) * by_ ≤ 140737488355328) (hb2 : rs.length + 1 ≤ 9223372036854775807) :
    ∃ v' h1 h', (∀ k : AV → Hp → Res, mkS h n 1 (avL r) k = k (.sl h.nb 0 1 n (some 1)) h1) ∧ (∀ k : AV → Hp → Res, apd h1 n by_ v (.sl h.nb 0 1 n (some 1)) k = k v' h') ∧ Rws h' (fun x => P x ∨ h.nb ≤ x) n v' (rs ++ [r]) ∧ To P h h' ∧ Wf h' := by
  obtain ⟨t0, l1, l2⟩ := lay_list r .e 0 hone
  rw [hr] at l1
  obtain ⟨o1, o2⟩ := nw_own hw (0 + n) .nil t0
  have w1 : Wf (nw h (0 + n) .nil t0) := o2.wf hw
  have mul1 : Nat.beq (0 + n) (Nat.mul 1 n) = true := by rw [beq_iff]; show 0 + n = 1 * n; omega
  have nn : Nat.beq n n = true := (beq_iff n n).2 rfl
  have m1 : ∀ k : AV → Hp → Res, mkS h n 1 (avL r) k = k (.sl h.nb 0 1 n (some 1)) (nw h (0 + n) .nil t0) := fun k => by
    have e : mkS h n 1 (avL r) k = lay (avL r) .e 0 fun t m => ifB (Nat.beq m (Nat.mul 1 n)) (k (.sl h.nb 0 1 n (some 1)) (nw h m .nil t)) .fail := rfl
    rw [e, l1, mul1]; rfl
  have hat0 : ∀ i (hi : i < r.length), (⟨true, h.nb, 0 + n, .nil, t0⟩ : Blk).at (0 + i) = r[i] := by
    intro i hi
    rw [at_in _ (show 0 + i < 0 + n by omega)]
    simp only [l2 (0 + i)]
    rw [dif_pos ⟨by omega, by omega⟩]
    simp
  have hv1 : Rws (nw h (0 + n) .nil t0) P n v rs := hv.to o2 (fun _ _ _ f => f)
  have nb1 : (nw h (0 + n) .nil t0).nb = h.nb + 1 := rfl
  generalize hh1 : nw h (0 + n) .nil t0 = h1 at *
  have src1 : ∀ k : Nat → AV → Res, src h1 n (.sl h.nb 0 1 n (some 1)) k = k 1 (avL r) := fun k => by
    have e : src h1 n (.sl h.nb 0 1 n (some 1)) k = ifB (Nat.beq n n) (gb h1 h.nb fun B => rds B (Nat.mul 1 n) 0 fun l => k 1 l) .fail := rfl
    have e2 : Nat.mul 1 n = r.length := by show 1 * n = _; omega
    rw [e, nn, ifB_t, gb_rd o1.rd, e2, rds_list r 0 _ hat0 (fun v hv => one_unk (hone v hv))]
  have t1 : To P h h1 := o2.mono fun _ _ f => f.elim
  have hrs' : ∀ x ∈ rs ++ [r], x.length = n ∧ ∀ y ∈ x, AM.one y = true := fun x hx => by
    rcases List.mem_append.1 hx with hx | hx
    · exact hv.1 x hx
    · rw [List.mem_singleton.1 hx]; exact ⟨hr, hone⟩
  rcases hv1 with ⟨h00, ⟨rfl, rfl⟩ | ⟨b, B, rfl, g1, g2, g3, g4, g5, g6⟩⟩
  · obtain ⟨p1, p2⟩ := nw_own w1 (0 + n) .nil t0
    refine ⟨.sl h1.nb 0 1 n none, h1, nw h1 (0 + n) .nil t0, m1, fun k => ?_, ⟨hrs', .inr ⟨h1.nb, _, rfl, .inr (by omega), p1.rd, rfl, .inr (by show h.nb ≤ h1.nb; omega), by show 1 * n ≤ 0 + n; omega, fun i hi => ?_⟩⟩, t1.trans (p2.mono fun _ _ f => f.elim), p2.wf w1⟩
    · unfold apd
      rw [src1]
      show ifB (Nat.beq 1 0) (k AV.nils h1) (ifB (Nat.ble (Nat.mul 1 by_) 140737488355328) (ifB (Nat.ble 1 9223372036854775807) (grown h1 n 1 (avL r) k) .fail) .fail) = _
      have e1 : Nat.ble (Nat.mul 1 by_) 140737488355328 = true := by rw [ble_iff]; show 1 * by_ ≤ _; have : (0 + 1) * by_ ≤ 140737488355328 := hb; omega
      rw [e1]
      show grown h1 n 1 (avL r) k = _
      have e : grown h1 n 1 (avL r) k = lay (avL r) .e 0 fun t m => ifB (Nat.beq m (Nat.mul 1 n)) (k (.sl h1.nb 0 1 n none) (nw h1 m .nil t)) .fail := rfl
      rw [e, l1, mul1]; rfl
    · have e : ([] ++ [r] : List (List AV)).flatten = r := by simp
      simp only [e] at hi ⊢
      have := hat0 i hi
      rw [show 0 + i = i from Nat.zero_add i] at this
      rw [← this]
      rw [at_in _ (show i < 0 + n by omega), at_in _ (show i < 0 + n by omega)]
  · obtain ⟨t, t1', t2⟩ : ∃ t', (∀ k : T AV → Nat → Res, lay (avL r) B.cs (rs.length * n) k = k t' (rs.length * n + n)) ∧ ∀ j, t'.get j = if hh : rs.length * n ≤ j ∧ j < rs.length * n + n then some (r[j - rs.length * n]'(by omega)) else B.cs.get j := by
      have := lay_list r B.cs (rs.length * n) hone
      simpa only [hr] using this
    generalize hold : ifN (h1.grp B.g).1 b B.lim (rs.length * n) (h1.grp B.g).2 h1.nb = old
    have hle : old ≤ h1.nb := by
      have q := (g2.grp g3).2
      have hlt := g2.lt
      have e : ifN (h1.grp B.g).1 b B.lim (rs.length * n) (h1.grp B.g).2 h1.nb = Bool.rec (motive := fun _ => Nat) h1.nb (Bool.rec (motive := fun _ => Nat) h1.nb (h1.grp B.g).2 (Nat.ble B.lim (rs.length * n))) (Nat.beq (h1.grp B.g).1 b) := rfl
      rw [← hold, e, recB, recB]
      split
      · split
        · omega
        · exact Nat.le_refl _
      · exact Nat.le_refl _
    have mul2 : Nat.mul (Nat.add rs.length 1) n = rs.length * n + n := by show (rs.length + 1) * n = _; exact Nat.succ_mul _ _
    have hrun : ∀ k : AV → Hp → Res, apd h1 n by_ (.sl b 0 rs.length n none) (.sl h.nb 0 1 n (some 1)) k = k (.sl h1.nb 0 (rs.length + 1) n none) ⟨Nat.succ h1.nb, h1.bs.set ⟨true, B.g, rs.length * n + n, B.df, t⟩ h1.nb, h1.gs.set (h1.nb, old) B.g, h1.ms⟩ := fun k => by
      unfold apd
      rw [src1]
      show ifB (Nat.beq n n) (ifB (Nat.beq 1 0) _ (ifB (Nat.ble (Nat.mul (Nat.add rs.length 1) by_) 140737488355328) (ifB (Nat.ble (Nat.add rs.length 1) 9223372036854775807)
        (gb h1 b fun B => ifB B.fr (ifB (Nat.beq 0 0) (lay (avL r) B.cs (Nat.mul rs.length n) fun t e => ifB (Nat.beq e (Nat.mul (Nat.add rs.length 1) n)) (ifB (Nat.ble (Nat.mul rs.length n) B.lim)
          (k (.sl h1.nb 0 (Nat.add rs.length 1) n none) ⟨Nat.succ h1.nb, h1.bs.set ⟨true, B.g, e, B.df, t⟩ h1.nb, h1.gs.set (h1.nb, ifN (h1.grp B.g).1 b B.lim (Nat.mul rs.length n) (h1.grp B.g).2 h1.nb) B.g, h1.ms⟩) .fail) .fail) _) .fail) .fail) .fail)) .fail = _
      have e1 : Nat.ble (Nat.mul (Nat.add rs.length 1) by_) 140737488355328 = true := by rw [ble_iff]; exact hb
      have e2 : Nat.ble (Nat.add rs.length 1) 9223372036854775807 = true := by rw [ble_iff]; exact hb2
      rw [e1, e2, nn]
      show (gb h1 b fun B => ifB B.fr (ifB (Nat.beq 0 0) (lay (avL r) B.cs (Nat.mul rs.length n) fun t e => ifB (Nat.beq e (Nat.mul (Nat.add rs.length 1) n)) (ifB (Nat.ble (Nat.mul rs.length n) B.lim)
          (k (.sl h1.nb 0 (Nat.add rs.length 1) n none) ⟨Nat.succ h1.nb, h1.bs.set ⟨true, B.g, e, B.df, t⟩ h1.nb, h1.gs.set (h1.nb, ifN (h1.grp B.g).1 b B.lim (Nat.mul rs.length n) (h1.grp B.g).2 h1.nb) B.g, h1.ms⟩) .fail) .fail) _) .fail) = _
      rw [gb_rd g2, g3, ifB_t]
      have e3 : Nat.mul rs.length n = rs.length * n := rfl
      show (lay (avL r) B.cs (Nat.mul rs.length n) fun t e => ifB (Nat.beq e (Nat.mul (Nat.add rs.length 1) n)) (ifB (Nat.ble (Nat.mul rs.length n) B.lim)
          (k (.sl h1.nb 0 (Nat.add rs.length 1) n none) ⟨Nat.succ h1.nb, h1.bs.set ⟨true, B.g, e, B.df, t⟩ h1.nb, h1.gs.set (h1.nb, ifN (h1.grp B.g).1 b B.lim (Nat.mul rs.length n) (h1.grp B.g).2 h1.nb) B.g, h1.ms⟩) .fail) .fail) = _
      rw [e3, hold, mul2, t1', (beq_iff _ _).2 rfl, (ble_iff _ _).2 g5]
      rfl
    have hget2 : ∀ x, (h1.bs.set ⟨true, B.g, rs.length * n + n, B.df, t⟩ h1.nb).get x = if x = h1.nb then some ⟨true, B.g, rs.length * n + n, B.df, t⟩ else h1.bs.get x := fun x => T.get_set _ _ _ _
    have hgs2 : ∀ x, (h1.gs.set (h1.nb, old) B.g).get x = if x = B.g then some (h1.nb, old) else h1.gs.get x := fun x => T.get_set _ _ _ _
    have hBg := g2.grp g3
    have tfin : To P h1 ⟨Nat.succ h1.nb, h1.bs.set ⟨true, B.g, rs.length * n + n, B.df, t⟩ h1.nb, h1.gs.set (h1.nb, old) B.g, h1.ms⟩ := by
      refine ⟨Nat.le_succ _, fun x hx hn => ?_, fun x hx hn => ?_, fun hn g hg => ?_⟩
      · show (h1.bs.set _ h1.nb).get x = _
        rw [hget2, if_neg (by omega)]
      · show (h1.gs.set (h1.nb, old) B.g).get x = _
        rw [hgs2, if_neg (fun e => hn (by rw [e]; exact g4))]
      · show (h1.gs.set (h1.nb, old) B.g).get g = none
        have hg : h1.nb + 1 ≤ g := hg
        rw [hgs2, if_neg (by omega)]
        exact hn g (by omega)
    have hcat : (rs ++ [r]).flatten = rs.flatten ++ r := by simp
    refine ⟨_, h1, _, m1, hrun, ⟨hrs', .inr ⟨h1.nb, ⟨true, B.g, rs.length * n + n, B.df, t⟩, by rw [List.length_append]; rfl, .inr (by omega), ⟨by show (h1.bs.set _ h1.nb).get h1.nb = _; rw [hget2, if_pos rfl], Nat.lt_succ_self _, fun _ => ⟨Nat.lt_succ_of_lt hBg.1, ?_⟩⟩, rfl, .inl g4, by rw [List.length_append]; show (rs.length + 1) * n ≤ rs.length * n + n; rw [Nat.succ_mul]; exact Nat.le_refl _, fun i hi => ?_⟩⟩, t1.trans tfin, tfin.wf w1⟩
    · show (Hp.grp ⟨_, _, h1.gs.set (h1.nb, old) B.g, _⟩ B.g).2 ≤ h1.nb
      simp only [Hp.grp, hgs2, if_pos]
      exact hle
    · simp only [hcat] at hi ⊢
      have hfl := fl_len rs (fun r hr => (hv.1 r hr).1)
      rw [List.length_append, hr] at hi
      rw [at_in _ (show i < rs.length * n + n by omega)]
      simp only [t2 i]
      by_cases c : rs.length * n ≤ i
      · rw [dif_pos ⟨c, by omega⟩, List.getElem_append_right (by omega)]
        simp only [hfl]
      · rw [dif_neg (by omega), List.getElem_append_left (by omega)]
        have := g6 i (by omega)
        rw [at_in B (by omega)] at this
        exact this
end Go.AM
end

section
namespace Go.AM
open Go
set_option autoImplicit false
/-! ### variables of several cells -/
/-- The variable b holds the cells r. -/
def Ce (h : Hp) (b : Nat) (r : List AV) : Prop := (∀ x ∈ r, one x = true) ∧ ∃ B, Own h b B ∧ B.lim = r.length ∧ ∀ i (hi : i < r.length), B.at i = r[i]
section
variable {h h' : Hp} {b : Nat} {r : List AV}
theorem Ce.to {W : Nat → Prop} (hc : Ce h b r) (ht : To W h h') (hw : ¬ W b) : Ce h' b r := by
  obtain ⟨h1, B, o, q⟩ := hc
  exact ⟨h1, B, o.to ht hw, q⟩
theorem Ce.lt (hc : Ce h b r) : b < h.nb := by obtain ⟨h1, B, o, q⟩ := hc; exact o.lt
theorem ce_mk (hw : Wf h) (r : List AV) (ho : ∀ x ∈ r, one x = true) : ∃ h', (∀ k : AV → Hp → Res, mk h (avL r) k = k (.ptr h.nb 0) h') ∧ Ce h' h.nb r ∧ To No h h' ∧ Wf h' ∧ h'.nb = h.nb + 1 := by
  obtain ⟨h', B, m1, m2, m3, m4, m5, m6, m7⟩ := mk_own hw r ho
  exact ⟨h', m1, ⟨ho, B, m2, m3, m4⟩, m5, m6, m7⟩
theorem Ce.st (hw : Wf h) (hc : Ce h b r) (r' : List AV) (hl : r'.length = r.length) (ho : ∀ x ∈ r', one x = true) : ∃ h', (∀ k : Hp → Res, stN h r'.length (.ptr b 0) (.agg (avL r')) k = k h') ∧ Ce h' b r' ∧ To (At b) h h' ∧ Wf h' ∧ h'.nb = h.nb := by
  obtain ⟨h1, B, o, hl1, q⟩ := hc
  obtain ⟨h', B', s1, s2, s3, s4, s5, s6⟩ := stN_own (o := 0) (l := r') o (by omega) ho
  refine ⟨h', s1, ⟨ho, B', s2, by omega, fun i hi => ?_⟩, s5, s5.wf hw, s6⟩
  rw [s4, dif_pos ⟨Nat.zero_le _, by omega⟩]; rfl
theorem Ce.ld (hc : Ce h b r) (k : AV → Res) : ldN h r.length (.ptr b 0) k = k (.agg (avL r)) := by
  obtain ⟨h1, B, o, hl1, q⟩ := hc
  exact ldN_rd (l := r) o.rd (fun i hi => by rw [Nat.zero_add]; exact q i hi) (fun v hv => one_unk (h1 v hv)) k
theorem Ce.l (hc : Ce h b r) (j : Nat) (hj : j < r.length) (k : AV → Res) : ld1 h (.ptr b (Nat.add 0 j)) k = k r[j] := by
  obtain ⟨h1, B, o, hl1, q⟩ := hc
  exact (ld1_rd o.rd (by rw [show Nat.add 0 j = j from Nat.zero_add j]; exact q j hj) k).trans (cK_one (h1 _ (List.getElem_mem hj)) k)
theorem Ce.s (hw : Wf h) (hc : Ce h b r) (j : Nat) (hj : j < r.length) (v : AV) (hv : one v = true) : ∃ h', (∀ k : Hp → Res, st1 h (.ptr b (Nat.add 0 j)) v k = k h') ∧ Ce h' b (r.set j v) ∧ To (At b) h h' ∧ Wf h' ∧ h'.nb = h.nb := by
  obtain ⟨h1, B, o, hl1, q⟩ := hc
  obtain ⟨h', s1, s2, s3, s4⟩ := st1_own (o := j) (v := v) o (by omega) hv
  refine ⟨h', fun k => by rw [show Nat.add 0 j = j from Nat.zero_add j]; exact s1 k, ⟨fun x hx => ?_, _, s2, by rw [List.length_set]; exact hl1, fun i hi => ?_⟩, s3, s3.wf hw, s4⟩
  · rcases List.mem_or_eq_of_mem_set hx with hx | rfl
    · exact h1 x hx
    · exact hv
  · rw [List.length_set] at hi
    rw [setC_at (by omega), List.getElem_set]
    by_cases e : j = i
    · rw [if_pos e, if_pos e.symm]
    · rw [if_neg e, if_neg (Ne.symm e)]; exact q i hi
end
theorem band_t {a b : Bool} (ha : a = true) (hb : b = true) : bAnd a b = true := by subst ha; subst hb; rfl
theorem eqI_self (n : Int) : eqI n n = true := by rw [eqI_eq]; exact beq_self_eq_true n
theorem same_n (c : Nat) (n : Int) (k : Res) : same (.int c n) (.int c n) k = k := by
  have e : same (.int c n) (.int c n) k = ifB (bAnd (Nat.beq c c) (eqI n n)) k .fail := rfl
  have e2 := band_t ((beq_iff c c).2 rfl) (eqI_self n)
  rw [e]
  exact (congrArg (fun b => ifB b k .fail) e2).trans rfl
theorem nbeq (g i : Nat) : (((g : Nat) : Int) == ((i : Nat) : Int)) = decide (g = i) := by
  rw [Bool.eq_iff_iff]
  simp only [beq_iff_eq, decide_eq_true_eq]
  omega
end Go.AM
namespace Go.Proofs.Ytnpfppddongbhaa
open Go Go.AM
/-! ### the cursor's reads -/
abbrev Sq := Nat × Bool
def val (t : List Nat) (q : Sq) (n : Int) : Nat := be (win t q.1 q.2 n) 0
def adv (t : List Nat) (q : Sq) (n : Int) : Sq := (nat_ t q.1 q.2 n, nbad t q.1 q.2 n)
abbrev CurQ (h : Hp) (lo b : Nat) (t : List Nat) (q : Sq) : Prop := Cur h lo b t q.1 q.2
section
variable {h : Hp} {lo b : Nat} {t : List Nat} {q : Sq}
theorem u1 (hc : CurQ h lo b t q) (hw : Wf h) : ∃ h', s27 [.ptr b 0] h = .ret (.int 63 (val t q 1 : Int)) h' ∧ CurQ h' lo b t (adv t q 1) ∧ To (At b) h h' ∧ Wf h' := t27 hc hw
theorem u2 (hc : CurQ h lo b t q) (hw : Wf h) : ∃ h', s28 [.ptr b 0] h = .ret (.int 63 (val t q 2 : Int)) h' ∧ CurQ h' lo b t (adv t q 2) ∧ To (At b) h h' ∧ Wf h' := t28 hc hw
theorem n1 (hc : CurQ h lo b t q) (hw : Wf h) : ∃ h', s32 [.ptr b 0, .int 63 (.ofNat 1)] h = .ret (.int 63 (val t q 1 : Int)) h' ∧ CurQ h' lo b t (adv t q 1) ∧ To (At b) h h' ∧ Wf h' := t32 hc hw 1 (by decide)
theorem n2 (hc : CurQ h lo b t q) (hw : Wf h) : ∃ h', s32 [.ptr b 0, .int 63 (.ofNat 2)] h = .ret (.int 63 (val t q 2 : Int)) h' ∧ CurQ h' lo b t (adv t q 2) ∧ To (At b) h h' ∧ Wf h' := t32 hc hw 2 (by decide)
end
theorem be_lt : ∀ (l : List Nat) (a : Nat), (∀ x ∈ l, x < 256) → be l a < (a + 1) * 256 ^ l.length
  | [], a, _ => by simp [be]
  | x :: l, a, h => by
    have h1 := be_lt l (a * 256 + x) (fun y hy => h y (List.mem_cons_of_mem _ hy))
    have hx := h x (List.mem_cons_self ..)
    have h2 : (a * 256 + x + 1) * 256 ^ l.length ≤ ((a + 1) * 256) * 256 ^ l.length := Nat.mul_le_mul_right _ (by omega)
    show be l (a * 256 + x) < (a + 1) * 256 ^ (l.length + 1)
    rw [Nat.pow_succ, Nat.mul_comm (256 ^ l.length), ← Nat.mul_assoc]
    omega
theorem val_lt {t : List Nat} (hb : ∀ x ∈ t, x < 256) (q : Sq) (n : Nat) : val t q (n : Int) < 256 ^ n := by
  unfold val
  have h1 := be_lt (win t q.1 q.2 (n : Int)) 0 (win_byt hb _ _ _)
  have h2 := win_len t q.1 q.2 (n : Int)
  have h3 : 256 ^ (win t q.1 q.2 (n : Int)).length ≤ 256 ^ n := Nat.pow_le_pow_right (by decide) (by omega)
  omega
theorem val_bad {t : List Nat} {q : Sq} {n : Int} (h : (adv t q n).2 = true) : val t q n = 0 := by
  have h : nbad t q.1 q.2 n = true := h
  unfold val win
  unfold nbad at h
  split at h
  · cases h
  · rename_i hn; rw [if_neg hn]; rfl
/-! ### the pool -/
noncomputable def pl : List (List AV) := [[.int 63 0, .str 0 0, .int 63 0, .int 63 0, .int 63 0], [.int 63 1, .str 1 97, .int 63 0, .int 63 0, .int 63 0], [.int 63 7, .str 0 0, .int 63 0, .int 63 1, .int 63 0], [.int 63 1, .str 2 18779, .int 63 0, .int 63 0, .int 63 0], [.int 63 7, .str 0 0, .int 63 0, .int 63 3, .int 63 0]]
/-- The variable b is the pool. -/
def Pool (h : Hp) (b : Nat) : Prop := Ce h b pl.flatten
theorem pl_one : ∀ x ∈ pl.flatten, one x = true := by
  intro x hx
  simp only [pl, List.flatten_cons, List.flatten_nil, List.cons_append, List.nil_append, List.mem_cons, List.not_mem_nil, or_false] at hx
  rcases hx with rfl | rfl | rfl | rfl | rfl | rfl | rfl | rfl | rfl | rfl | rfl | rfl | rfl | rfl | rfl | rfl | rfl | rfl | rfl | rfl | rfl | rfl | rfl | rfl | rfl <;> rfl
abbrev plv (b : Nat) : AV := .sl b 0 5 5 (some 5)
theorem t62 {h : Hp} (hw : Wf h) : ∃ h', s62 [] h = .ret (plv h.nb) h' ∧ Pool h' h.nb ∧ To No h h' ∧ Wf h' ∧ h'.nb = h.nb + 1 := by
  obtain ⟨t0, l1, l2⟩ := lay_list pl.flatten .e 0 pl_one
  have hl : pl.flatten.length = 25 := rfl
  rw [hl] at l1
  obtain ⟨o1, o2⟩ := nw_own hw (0 + 25) .nil t0
  refine ⟨nw h (0 + 25) .nil t0, ?_, ⟨pl_one, _, o1, rfl, fun i hi => ?_⟩, o2, o2.wf hw, rfl⟩
  · have e : s62 [] h = lay (avL pl.flatten) .e 0 fun t m => ifB (Nat.beq m (Nat.mul 5 5)) (.ret (.sl h.nb 0 5 5 (some 5)) (nw h m .nil t)) .fail := rfl
    rw [e, l1]; rfl
  · rw [hl] at hi
    rw [at_in _ (show i < 0 + 25 by omega)]
    simp only [l2 i]
    rw [dif_pos ⟨by omega, by omega⟩]
    simp
theorem Pool.ix {h : Hp} {b : Nat} (hp : Pool h b) (i : Nat) (hi : i < 5) (k : AV → Res) : ixA 5 (plv b) (.int 63 (i : Int)) k = k (.ptr b (Nat.add 0 (i * 5))) := by
  have e : ixA 5 (plv b) (.int 63 (i : Int)) k = ifB (Nat.blt i 5) (ifB (Nat.beq 5 5) (k (.ptr b (Nat.add 0 (Nat.mul i 5)))) .fail) .fail := rfl
  rw [e, (blt_iff _ _).2 hi]; rfl
theorem lenP (b : Nat) (k : AV → Res) : lenL (plv b) k = k (.int 63 5) := rfl
theorem Pool.l {h : Hp} {b : Nat} (hp : Pool h b) (j : Nat) (hj : j < 25) (k : AV → Res) : ld1 h (.ptr b j) k = k (pl.flatten[j]'hj) := by
  have := Ce.l hp j hj k
  rwa [show Nat.add 0 j = j from Nat.zero_add j] at this
end Go.Proofs.Ytnpfppddongbhaa
end

section
namespace Go.Proofs.Ytnpfppddongbhaa
open Go Go.AM
set_option autoImplicit false
/-! ### what the pool's entries are: the program's words and the reference's -/
def isC (i : Nat) : Bool := decide (i = 2) || decide (i = 4)
noncomputable def nmC (i : Nat) : AV := if i = 2 then .str 1 97 else if i = 4 then .str 2 18779 else .str 0 0
theorem cK_str (n a : Nat) (k : AV → Res) : cK (.str n a) k = k (.str n a) := of_eq_true (eq_self _)
theorem cK_nils (k : AV → Res) : cK .nils k = k .nils := of_eq_true (eq_self _)
section
variable {h : Hp} {b : Nat}
theorem tag0_1 (hp : Pool h b) : s115 [plv b, .int 63 0, .int 63 (.ofNat 1)] h = .ret (.bool false) h := by
  have x0 : ∀ k : AV → Res, ixA 5 (plv b) (.int 63 0) k = k (.ptr b 0) := fun k => hp.ix 0 (by decide) k
  have l0_0 : ∀ k : AV → Res, ld1 h (.ptr b (Nat.add 0 0)) k = k (.int 63 0) := fun k => hp.l 0 (by decide) k
  have m0_0 : ∀ k : AV → Res, ld1 h (.ptr b 0) k = k (.int 63 0) := fun k => hp.l 0 (by decide) k
  have n0_0 : ∀ k : AV → Res, ld1 h (.ptr b (0 + 0)) k = k (.int 63 0) := fun k => hp.l 0 (by decide) k
  have ln : ∀ k : AV → Res, lenL (plv b) k = k (.int 63 5) := fun k => rfl
  have gv : gsel (.bool true) true (plv b) = plv b := rfl
  have gi : ∀ x : Int, gsel (.bool true) true (.int 63 x) = .int 63 x := fun x => rfl
  have gv2 : gsel (.bool false) false (plv b) = plv b := rfl
  have gi2 : ∀ x : Int, gsel (.bool false) false (.int 63 x) = .int 63 x := fun x => rfl
  simp only [↓s115, ↓ln, ↓gv, ↓gi, ↓gv2, ↓gi2, ↓cP_p, ↓x0, ↓l0_0, ↓m0_0, ↓n0_0, ↓cK_str, cK_str, ↓SD, SA, Int.ofNat_eq_natCast, Int.cast_ofNat_Int, Int.reduceBEq, Int.reduceAdd, Int.reduceNeg, Int.reduceNegSucc, Int.reduceLT, Int.reduceLE, Int.reduceMul, Int.reduceTMod, Int.reduceSub, Int.reduceBNe, Bool.not_true, Bool.not_false, decide_true, decide_false, ne_eq, not_false_eq_true, Int.reduceEq, reduceCtorEq]
theorem tag0_7 (hp : Pool h b) : s115 [plv b, .int 63 0, .int 63 (.ofNat 7)] h = .ret (.bool false) h := by
  have x0 : ∀ k : AV → Res, ixA 5 (plv b) (.int 63 0) k = k (.ptr b 0) := fun k => hp.ix 0 (by decide) k
  have l0_0 : ∀ k : AV → Res, ld1 h (.ptr b (Nat.add 0 0)) k = k (.int 63 0) := fun k => hp.l 0 (by decide) k
  have m0_0 : ∀ k : AV → Res, ld1 h (.ptr b 0) k = k (.int 63 0) := fun k => hp.l 0 (by decide) k
  have n0_0 : ∀ k : AV → Res, ld1 h (.ptr b (0 + 0)) k = k (.int 63 0) := fun k => hp.l 0 (by decide) k
  have ln : ∀ k : AV → Res, lenL (plv b) k = k (.int 63 5) := fun k => rfl
  have gv : gsel (.bool true) true (plv b) = plv b := rfl
  have gi : ∀ x : Int, gsel (.bool true) true (.int 63 x) = .int 63 x := fun x => rfl
  have gv2 : gsel (.bool false) false (plv b) = plv b := rfl
  have gi2 : ∀ x : Int, gsel (.bool false) false (.int 63 x) = .int 63 x := fun x => rfl
  simp only [↓s115, ↓ln, ↓gv, ↓gi, ↓gv2, ↓gi2, ↓cP_p, ↓x0, ↓l0_0, ↓m0_0, ↓n0_0, ↓cK_str, cK_str, ↓SD, SA, Int.ofNat_eq_natCast, Int.cast_ofNat_Int, Int.reduceBEq, Int.reduceAdd, Int.reduceNeg, Int.reduceNegSucc, Int.reduceLT, Int.reduceLE, Int.reduceMul, Int.reduceTMod, Int.reduceSub, Int.reduceBNe, Bool.not_true, Bool.not_false, decide_true, decide_false, ne_eq, not_false_eq_true, Int.reduceEq, reduceCtorEq]
theorem tag1_1 (hp : Pool h b) : s115 [plv b, .int 63 1, .int 63 (.ofNat 1)] h = .ret (.bool true) h := by
  have x1 : ∀ k : AV → Res, ixA 5 (plv b) (.int 63 1) k = k (.ptr b 5) := fun k => hp.ix 1 (by decide) k
  have l1_0 : ∀ k : AV → Res, ld1 h (.ptr b (Nat.add 5 0)) k = k (.int 63 1) := fun k => hp.l 5 (by decide) k
  have m1_0 : ∀ k : AV → Res, ld1 h (.ptr b 5) k = k (.int 63 1) := fun k => hp.l 5 (by decide) k
  have n1_0 : ∀ k : AV → Res, ld1 h (.ptr b (5 + 0)) k = k (.int 63 1) := fun k => hp.l 5 (by decide) k
  have ln : ∀ k : AV → Res, lenL (plv b) k = k (.int 63 5) := fun k => rfl
  have gv : gsel (.bool true) true (plv b) = plv b := rfl
  have gi : ∀ x : Int, gsel (.bool true) true (.int 63 x) = .int 63 x := fun x => rfl
  have gv2 : gsel (.bool false) false (plv b) = plv b := rfl
  have gi2 : ∀ x : Int, gsel (.bool false) false (.int 63 x) = .int 63 x := fun x => rfl
  simp only [↓s115, ↓ln, ↓gv, ↓gi, ↓gv2, ↓gi2, ↓cP_p, ↓x1, ↓l1_0, ↓m1_0, ↓n1_0, ↓cK_str, cK_str, ↓SD, SA, Int.ofNat_eq_natCast, Int.cast_ofNat_Int, Int.reduceBEq, Int.reduceAdd, Int.reduceNeg, Int.reduceNegSucc, Int.reduceLT, Int.reduceLE, Int.reduceMul, Int.reduceTMod, Int.reduceSub, Int.reduceBNe, Bool.not_true, Bool.not_false, decide_true, decide_false, ne_eq, not_false_eq_true, Int.reduceEq, reduceCtorEq]
theorem tag1_7 (hp : Pool h b) : s115 [plv b, .int 63 1, .int 63 (.ofNat 7)] h = .ret (.bool false) h := by
  have x1 : ∀ k : AV → Res, ixA 5 (plv b) (.int 63 1) k = k (.ptr b 5) := fun k => hp.ix 1 (by decide) k
  have l1_0 : ∀ k : AV → Res, ld1 h (.ptr b (Nat.add 5 0)) k = k (.int 63 1) := fun k => hp.l 5 (by decide) k
  have m1_0 : ∀ k : AV → Res, ld1 h (.ptr b 5) k = k (.int 63 1) := fun k => hp.l 5 (by decide) k
  have n1_0 : ∀ k : AV → Res, ld1 h (.ptr b (5 + 0)) k = k (.int 63 1) := fun k => hp.l 5 (by decide) k
  have ln : ∀ k : AV → Res, lenL (plv b) k = k (.int 63 5) := fun k => rfl
  have gv : gsel (.bool true) true (plv b) = plv b := rfl
  have gi : ∀ x : Int, gsel (.bool true) true (.int 63 x) = .int 63 x := fun x => rfl
  have gv2 : gsel (.bool false) false (plv b) = plv b := rfl
  have gi2 : ∀ x : Int, gsel (.bool false) false (.int 63 x) = .int 63 x := fun x => rfl
  simp only [↓s115, ↓ln, ↓gv, ↓gi, ↓gv2, ↓gi2, ↓cP_p, ↓x1, ↓l1_0, ↓m1_0, ↓n1_0, ↓cK_str, cK_str, ↓SD, SA, Int.ofNat_eq_natCast, Int.cast_ofNat_Int, Int.reduceBEq, Int.reduceAdd, Int.reduceNeg, Int.reduceNegSucc, Int.reduceLT, Int.reduceLE, Int.reduceMul, Int.reduceTMod, Int.reduceSub, Int.reduceBNe, Bool.not_true, Bool.not_false, decide_true, decide_false, ne_eq, not_false_eq_true, Int.reduceEq, reduceCtorEq]
theorem tag2_1 (hp : Pool h b) : s115 [plv b, .int 63 2, .int 63 (.ofNat 1)] h = .ret (.bool false) h := by
  have x2 : ∀ k : AV → Res, ixA 5 (plv b) (.int 63 2) k = k (.ptr b 10) := fun k => hp.ix 2 (by decide) k
  have l2_0 : ∀ k : AV → Res, ld1 h (.ptr b (Nat.add 10 0)) k = k (.int 63 7) := fun k => hp.l 10 (by decide) k
  have m2_0 : ∀ k : AV → Res, ld1 h (.ptr b 10) k = k (.int 63 7) := fun k => hp.l 10 (by decide) k
  have n2_0 : ∀ k : AV → Res, ld1 h (.ptr b (10 + 0)) k = k (.int 63 7) := fun k => hp.l 10 (by decide) k
  have ln : ∀ k : AV → Res, lenL (plv b) k = k (.int 63 5) := fun k => rfl
  have gv : gsel (.bool true) true (plv b) = plv b := rfl
  have gi : ∀ x : Int, gsel (.bool true) true (.int 63 x) = .int 63 x := fun x => rfl
  have gv2 : gsel (.bool false) false (plv b) = plv b := rfl
  have gi2 : ∀ x : Int, gsel (.bool false) false (.int 63 x) = .int 63 x := fun x => rfl
  simp only [↓s115, ↓ln, ↓gv, ↓gi, ↓gv2, ↓gi2, ↓cP_p, ↓x2, ↓l2_0, ↓m2_0, ↓n2_0, ↓cK_str, cK_str, ↓SD, SA, Int.ofNat_eq_natCast, Int.cast_ofNat_Int, Int.reduceBEq, Int.reduceAdd, Int.reduceNeg, Int.reduceNegSucc, Int.reduceLT, Int.reduceLE, Int.reduceMul, Int.reduceTMod, Int.reduceSub, Int.reduceBNe, Bool.not_true, Bool.not_false, decide_true, decide_false, ne_eq, not_false_eq_true, Int.reduceEq, reduceCtorEq]
theorem tag2_7 (hp : Pool h b) : s115 [plv b, .int 63 2, .int 63 (.ofNat 7)] h = .ret (.bool true) h := by
  have x2 : ∀ k : AV → Res, ixA 5 (plv b) (.int 63 2) k = k (.ptr b 10) := fun k => hp.ix 2 (by decide) k
  have l2_0 : ∀ k : AV → Res, ld1 h (.ptr b (Nat.add 10 0)) k = k (.int 63 7) := fun k => hp.l 10 (by decide) k
  have m2_0 : ∀ k : AV → Res, ld1 h (.ptr b 10) k = k (.int 63 7) := fun k => hp.l 10 (by decide) k
  have n2_0 : ∀ k : AV → Res, ld1 h (.ptr b (10 + 0)) k = k (.int 63 7) := fun k => hp.l 10 (by decide) k
  have ln : ∀ k : AV → Res, lenL (plv b) k = k (.int 63 5) := fun k => rfl
  have gv : gsel (.bool true) true (plv b) = plv b := rfl
  have gi : ∀ x : Int, gsel (.bool true) true (.int 63 x) = .int 63 x := fun x => rfl
  have gv2 : gsel (.bool false) false (plv b) = plv b := rfl
  have gi2 : ∀ x : Int, gsel (.bool false) false (.int 63 x) = .int 63 x := fun x => rfl
  simp only [↓s115, ↓ln, ↓gv, ↓gi, ↓gv2, ↓gi2, ↓cP_p, ↓x2, ↓l2_0, ↓m2_0, ↓n2_0, ↓cK_str, cK_str, ↓SD, SA, Int.ofNat_eq_natCast, Int.cast_ofNat_Int, Int.reduceBEq, Int.reduceAdd, Int.reduceNeg, Int.reduceNegSucc, Int.reduceLT, Int.reduceLE, Int.reduceMul, Int.reduceTMod, Int.reduceSub, Int.reduceBNe, Bool.not_true, Bool.not_false, decide_true, decide_false, ne_eq, not_false_eq_true, Int.reduceEq, reduceCtorEq]
theorem tag3_1 (hp : Pool h b) : s115 [plv b, .int 63 3, .int 63 (.ofNat 1)] h = .ret (.bool true) h := by
  have x3 : ∀ k : AV → Res, ixA 5 (plv b) (.int 63 3) k = k (.ptr b 15) := fun k => hp.ix 3 (by decide) k
  have l3_0 : ∀ k : AV → Res, ld1 h (.ptr b (Nat.add 15 0)) k = k (.int 63 1) := fun k => hp.l 15 (by decide) k
  have m3_0 : ∀ k : AV → Res, ld1 h (.ptr b 15) k = k (.int 63 1) := fun k => hp.l 15 (by decide) k
  have n3_0 : ∀ k : AV → Res, ld1 h (.ptr b (15 + 0)) k = k (.int 63 1) := fun k => hp.l 15 (by decide) k
  have ln : ∀ k : AV → Res, lenL (plv b) k = k (.int 63 5) := fun k => rfl
  have gv : gsel (.bool true) true (plv b) = plv b := rfl
  have gi : ∀ x : Int, gsel (.bool true) true (.int 63 x) = .int 63 x := fun x => rfl
  have gv2 : gsel (.bool false) false (plv b) = plv b := rfl
  have gi2 : ∀ x : Int, gsel (.bool false) false (.int 63 x) = .int 63 x := fun x => rfl
  simp only [↓s115, ↓ln, ↓gv, ↓gi, ↓gv2, ↓gi2, ↓cP_p, ↓x3, ↓l3_0, ↓m3_0, ↓n3_0, ↓cK_str, cK_str, ↓SD, SA, Int.ofNat_eq_natCast, Int.cast_ofNat_Int, Int.reduceBEq, Int.reduceAdd, Int.reduceNeg, Int.reduceNegSucc, Int.reduceLT, Int.reduceLE, Int.reduceMul, Int.reduceTMod, Int.reduceSub, Int.reduceBNe, Bool.not_true, Bool.not_false, decide_true, decide_false, ne_eq, not_false_eq_true, Int.reduceEq, reduceCtorEq]
theorem tag3_7 (hp : Pool h b) : s115 [plv b, .int 63 3, .int 63 (.ofNat 7)] h = .ret (.bool false) h := by
  have x3 : ∀ k : AV → Res, ixA 5 (plv b) (.int 63 3) k = k (.ptr b 15) := fun k => hp.ix 3 (by decide) k
  have l3_0 : ∀ k : AV → Res, ld1 h (.ptr b (Nat.add 15 0)) k = k (.int 63 1) := fun k => hp.l 15 (by decide) k
  have m3_0 : ∀ k : AV → Res, ld1 h (.ptr b 15) k = k (.int 63 1) := fun k => hp.l 15 (by decide) k
  have n3_0 : ∀ k : AV → Res, ld1 h (.ptr b (15 + 0)) k = k (.int 63 1) := fun k => hp.l 15 (by decide) k
  have ln : ∀ k : AV → Res, lenL (plv b) k = k (.int 63 5) := fun k => rfl
  have gv : gsel (.bool true) true (plv b) = plv b := rfl
  have gi : ∀ x : Int, gsel (.bool true) true (.int 63 x) = .int 63 x := fun x => rfl
  have gv2 : gsel (.bool false) false (plv b) = plv b := rfl
  have gi2 : ∀ x : Int, gsel (.bool false) false (.int 63 x) = .int 63 x := fun x => rfl
  simp only [↓s115, ↓ln, ↓gv, ↓gi, ↓gv2, ↓gi2, ↓cP_p, ↓x3, ↓l3_0, ↓m3_0, ↓n3_0, ↓cK_str, cK_str, ↓SD, SA, Int.ofNat_eq_natCast, Int.cast_ofNat_Int, Int.reduceBEq, Int.reduceAdd, Int.reduceNeg, Int.reduceNegSucc, Int.reduceLT, Int.reduceLE, Int.reduceMul, Int.reduceTMod, Int.reduceSub, Int.reduceBNe, Bool.not_true, Bool.not_false, decide_true, decide_false, ne_eq, not_false_eq_true, Int.reduceEq, reduceCtorEq]
theorem tag4_1 (hp : Pool h b) : s115 [plv b, .int 63 4, .int 63 (.ofNat 1)] h = .ret (.bool false) h := by
  have x4 : ∀ k : AV → Res, ixA 5 (plv b) (.int 63 4) k = k (.ptr b 20) := fun k => hp.ix 4 (by decide) k
  have l4_0 : ∀ k : AV → Res, ld1 h (.ptr b (Nat.add 20 0)) k = k (.int 63 7) := fun k => hp.l 20 (by decide) k
  have m4_0 : ∀ k : AV → Res, ld1 h (.ptr b 20) k = k (.int 63 7) := fun k => hp.l 20 (by decide) k
  have n4_0 : ∀ k : AV → Res, ld1 h (.ptr b (20 + 0)) k = k (.int 63 7) := fun k => hp.l 20 (by decide) k
  have ln : ∀ k : AV → Res, lenL (plv b) k = k (.int 63 5) := fun k => rfl
  have gv : gsel (.bool true) true (plv b) = plv b := rfl
  have gi : ∀ x : Int, gsel (.bool true) true (.int 63 x) = .int 63 x := fun x => rfl
  have gv2 : gsel (.bool false) false (plv b) = plv b := rfl
  have gi2 : ∀ x : Int, gsel (.bool false) false (.int 63 x) = .int 63 x := fun x => rfl
  simp only [↓s115, ↓ln, ↓gv, ↓gi, ↓gv2, ↓gi2, ↓cP_p, ↓x4, ↓l4_0, ↓m4_0, ↓n4_0, ↓cK_str, cK_str, ↓SD, SA, Int.ofNat_eq_natCast, Int.cast_ofNat_Int, Int.reduceBEq, Int.reduceAdd, Int.reduceNeg, Int.reduceNegSucc, Int.reduceLT, Int.reduceLE, Int.reduceMul, Int.reduceTMod, Int.reduceSub, Int.reduceBNe, Bool.not_true, Bool.not_false, decide_true, decide_false, ne_eq, not_false_eq_true, Int.reduceEq, reduceCtorEq]
theorem tag4_7 (hp : Pool h b) : s115 [plv b, .int 63 4, .int 63 (.ofNat 7)] h = .ret (.bool true) h := by
  have x4 : ∀ k : AV → Res, ixA 5 (plv b) (.int 63 4) k = k (.ptr b 20) := fun k => hp.ix 4 (by decide) k
  have l4_0 : ∀ k : AV → Res, ld1 h (.ptr b (Nat.add 20 0)) k = k (.int 63 7) := fun k => hp.l 20 (by decide) k
  have m4_0 : ∀ k : AV → Res, ld1 h (.ptr b 20) k = k (.int 63 7) := fun k => hp.l 20 (by decide) k
  have n4_0 : ∀ k : AV → Res, ld1 h (.ptr b (20 + 0)) k = k (.int 63 7) := fun k => hp.l 20 (by decide) k
  have ln : ∀ k : AV → Res, lenL (plv b) k = k (.int 63 5) := fun k => rfl
  have gv : gsel (.bool true) true (plv b) = plv b := rfl
  have gi : ∀ x : Int, gsel (.bool true) true (.int 63 x) = .int 63 x := fun x => rfl
  have gv2 : gsel (.bool false) false (plv b) = plv b := rfl
  have gi2 : ∀ x : Int, gsel (.bool false) false (.int 63 x) = .int 63 x := fun x => rfl
  simp only [↓s115, ↓ln, ↓gv, ↓gi, ↓gv2, ↓gi2, ↓cP_p, ↓x4, ↓l4_0, ↓m4_0, ↓n4_0, ↓cK_str, cK_str, ↓SD, SA, Int.ofNat_eq_natCast, Int.cast_ofNat_Int, Int.reduceBEq, Int.reduceAdd, Int.reduceNeg, Int.reduceNegSucc, Int.reduceLT, Int.reduceLE, Int.reduceMul, Int.reduceTMod, Int.reduceSub, Int.reduceBNe, Bool.not_true, Bool.not_false, decide_true, decide_false, ne_eq, not_false_eq_true, Int.reduceEq, reduceCtorEq]
theorem tagB_1 (hp : Pool h b) (i : Nat) (hi : 5 ≤ i) : s115 [plv b, .int 63 (i : Int), .int 63 (.ofNat 1)] h = .ret (.bool false) h := by
  have ln : ∀ k : AV → Res, lenL (plv b) k = k (.int 63 5) := fun k => rfl
  have gv : gsel (.bool true) true (plv b) = plv b := rfl
  have gi : ∀ x : Int, gsel (.bool true) true (.int 63 x) = .int 63 x := fun x => rfl
  have gv2 : gsel (.bool false) false (plv b) = plv b := rfl
  have gi2 : ∀ x : Int, gsel (.bool false) false (.int 63 x) = .int 63 x := fun x => rfl
  have c1 : (0 : Int) < (i : Int) := by omega
  have c2 : ¬ (i : Int) < 5 := by omega
  simp only [↓s115, ↓ln, ↓gv, ↓gi, c1, c2, ↓cK_str, cK_str, ↓SD, SA, Int.ofNat_eq_natCast, Int.cast_ofNat_Int, Int.reduceBEq, Int.reduceAdd, Int.reduceNeg, Int.reduceNegSucc, Int.reduceLT, Int.reduceLE, Int.reduceMul, Int.reduceTMod, Int.reduceSub, Int.reduceBNe, Bool.not_true, Bool.not_false, decide_true, decide_false, ne_eq, not_false_eq_true, Int.reduceEq, reduceCtorEq]
theorem tagB_7 (hp : Pool h b) (i : Nat) (hi : 5 ≤ i) : s115 [plv b, .int 63 (i : Int), .int 63 (.ofNat 7)] h = .ret (.bool false) h := by
  have ln : ∀ k : AV → Res, lenL (plv b) k = k (.int 63 5) := fun k => rfl
  have gv : gsel (.bool true) true (plv b) = plv b := rfl
  have gi : ∀ x : Int, gsel (.bool true) true (.int 63 x) = .int 63 x := fun x => rfl
  have gv2 : gsel (.bool false) false (plv b) = plv b := rfl
  have gi2 : ∀ x : Int, gsel (.bool false) false (.int 63 x) = .int 63 x := fun x => rfl
  have c1 : (0 : Int) < (i : Int) := by omega
  have c2 : ¬ (i : Int) < 5 := by omega
  simp only [↓s115, ↓ln, ↓gv, ↓gi, c1, c2, ↓cK_str, cK_str, ↓SD, SA, Int.ofNat_eq_natCast, Int.cast_ofNat_Int, Int.reduceBEq, Int.reduceAdd, Int.reduceNeg, Int.reduceNegSucc, Int.reduceLT, Int.reduceLE, Int.reduceMul, Int.reduceTMod, Int.reduceSub, Int.reduceBNe, Bool.not_true, Bool.not_false, decide_true, decide_false, ne_eq, not_false_eq_true, Int.reduceEq, reduceCtorEq]
theorem text1 (hp : Pool h b) : s116 [plv b, .int 63 1] h = .ret (.tup (.cons (.str 1 97) (.cons (.bool true) .nil))) h := by
  have x1 : ∀ k : AV → Res, ixA 5 (plv b) (.int 63 1) k = k (.ptr b 5) := fun k => hp.ix 1 (by decide) k
  have l1_1 : ∀ k : AV → Res, ld1 h (.ptr b (Nat.add 5 1)) k = k (.str 1 97) := fun k => hp.l 6 (by decide) k
  have m1_1 : ∀ k : AV → Res, ld1 h (.ptr b 6) k = k (.str 1 97) := fun k => hp.l 6 (by decide) k
  have n1_1 : ∀ k : AV → Res, ld1 h (.ptr b (5 + 1)) k = k (.str 1 97) := fun k => hp.l 6 (by decide) k
  have e := tag1_1 hp
  have e : s115 [plv b, .int 63 1, .int 63 1] h = .ret (.bool true) h := e
  simp only [↓s116, ↓e, ↓cP_p, ↓x1, ↓l1_1, ↓m1_1, ↓n1_1, ↓cK_str, cK_str, ↓SD, SA, Int.ofNat_eq_natCast, Int.cast_ofNat_Int, Int.reduceBEq, Int.reduceAdd, Int.reduceNeg, Int.reduceNegSucc, Int.reduceLT, Int.reduceLE, Int.reduceMul, Int.reduceTMod, Int.reduceSub, Int.reduceBNe, Bool.not_true, Bool.not_false, decide_true, decide_false, ne_eq, not_false_eq_true, Int.reduceEq, reduceCtorEq]
theorem text3 (hp : Pool h b) : s116 [plv b, .int 63 3] h = .ret (.tup (.cons (.str 2 18779) (.cons (.bool true) .nil))) h := by
  have x3 : ∀ k : AV → Res, ixA 5 (plv b) (.int 63 3) k = k (.ptr b 15) := fun k => hp.ix 3 (by decide) k
  have l3_1 : ∀ k : AV → Res, ld1 h (.ptr b (Nat.add 15 1)) k = k (.str 2 18779) := fun k => hp.l 16 (by decide) k
  have m3_1 : ∀ k : AV → Res, ld1 h (.ptr b 16) k = k (.str 2 18779) := fun k => hp.l 16 (by decide) k
  have n3_1 : ∀ k : AV → Res, ld1 h (.ptr b (15 + 1)) k = k (.str 2 18779) := fun k => hp.l 16 (by decide) k
  have e := tag3_1 hp
  have e : s115 [plv b, .int 63 3, .int 63 1] h = .ret (.bool true) h := e
  simp only [↓s116, ↓e, ↓cP_p, ↓x3, ↓l3_1, ↓m3_1, ↓n3_1, ↓cK_str, cK_str, ↓SD, SA, Int.ofNat_eq_natCast, Int.cast_ofNat_Int, Int.reduceBEq, Int.reduceAdd, Int.reduceNeg, Int.reduceNegSucc, Int.reduceLT, Int.reduceLE, Int.reduceMul, Int.reduceTMod, Int.reduceSub, Int.reduceBNe, Bool.not_true, Bool.not_false, decide_true, decide_false, ne_eq, not_false_eq_true, Int.reduceEq, reduceCtorEq]
theorem t111 (hp : Pool h b) (i : Nat) : s111 [plv b, .int 63 (i : Int)] h = .ret (.tup (.cons (nmC i) (.cons (.bool (isC i)) .nil))) h := by
  by_cases c : 5 ≤ i
  · have e := tagB_7 hp i c
    have e : s115 [plv b, .int 63 (i : Int), .int 63 7] h = .ret (.bool false) h := e
    have q1 : isC i = false := by unfold isC; rw [decide_eq_false (by omega), decide_eq_false (by omega)]; rfl
    have q2 : nmC i = .str 0 0 := by unfold nmC; rw [if_neg (by omega), if_neg (by omega)]
    rw [q1, q2]
    simp only [↓s111, ↓e, ↓cK_str, cK_str, ↓SD, SA, Int.ofNat_eq_natCast, Int.cast_ofNat_Int, Int.reduceBEq, Int.reduceAdd, Int.reduceNeg, Int.reduceNegSucc, Int.reduceLT, Int.reduceLE, Int.reduceMul, Int.reduceTMod, Int.reduceSub, Int.reduceBNe, Bool.not_true, Bool.not_false, decide_true, decide_false, ne_eq, not_false_eq_true, Int.reduceEq, reduceCtorEq]
  · have c : i < 5 := by omega
    match i, c with
    | 0, _ =>
      have e := tag0_7 hp
      have e : s115 [plv b, .int 63 0, .int 63 7] h = .ret (.bool false) h := e
      show s111 [plv b, .int 63 0] h = .ret (.tup (.cons (.str 0 0) (.cons (.bool false) .nil))) h
      simp only [↓s111, ↓e, ↓cK_str, cK_str, ↓SD, SA, Int.ofNat_eq_natCast, Int.cast_ofNat_Int, Int.reduceBEq, Int.reduceAdd, Int.reduceNeg, Int.reduceNegSucc, Int.reduceLT, Int.reduceLE, Int.reduceMul, Int.reduceTMod, Int.reduceSub, Int.reduceBNe, Bool.not_true, Bool.not_false, decide_true, decide_false, ne_eq, not_false_eq_true, Int.reduceEq, reduceCtorEq]
    | 1, _ =>
      have e := tag1_7 hp
      have e : s115 [plv b, .int 63 1, .int 63 7] h = .ret (.bool false) h := e
      show s111 [plv b, .int 63 1] h = .ret (.tup (.cons (.str 0 0) (.cons (.bool false) .nil))) h
      simp only [↓s111, ↓e, ↓cK_str, cK_str, ↓SD, SA, Int.ofNat_eq_natCast, Int.cast_ofNat_Int, Int.reduceBEq, Int.reduceAdd, Int.reduceNeg, Int.reduceNegSucc, Int.reduceLT, Int.reduceLE, Int.reduceMul, Int.reduceTMod, Int.reduceSub, Int.reduceBNe, Bool.not_true, Bool.not_false, decide_true, decide_false, ne_eq, not_false_eq_true, Int.reduceEq, reduceCtorEq]
    | 2, _ =>
      have e := tag2_7 hp
      have e : s115 [plv b, .int 63 2, .int 63 7] h = .ret (.bool true) h := e
      have x2 : ∀ k : AV → Res, ixA 5 (plv b) (.int 63 2) k = k (.ptr b 10) := fun k => hp.ix 2 (by decide) k
      have l2_3 : ∀ k : AV → Res, ld1 h (.ptr b (Nat.add 10 3)) k = k (.int 63 1) := fun k => hp.l 13 (by decide) k
      have m2_3 : ∀ k : AV → Res, ld1 h (.ptr b 13) k = k (.int 63 1) := fun k => hp.l 13 (by decide) k
      have n2_3 : ∀ k : AV → Res, ld1 h (.ptr b (10 + 3)) k = k (.int 63 1) := fun k => hp.l 13 (by decide) k
      have e2 := text1 hp
      show s111 [plv b, .int 63 2] h = .ret (.tup (.cons (.str 1 97) (.cons (.bool true) .nil))) h
      simp only [↓s111, ↓e, ↓e2, ↓cP_p, nth_z, nth_1, ↓x2, ↓l2_3, ↓m2_3, ↓n2_3, ↓cK_str, cK_str, ↓SD, SA, Int.ofNat_eq_natCast, Int.cast_ofNat_Int, Int.reduceBEq, Int.reduceAdd, Int.reduceNeg, Int.reduceNegSucc, Int.reduceLT, Int.reduceLE, Int.reduceMul, Int.reduceTMod, Int.reduceSub, Int.reduceBNe, Bool.not_true, Bool.not_false, decide_true, decide_false, ne_eq, not_false_eq_true, Int.reduceEq, reduceCtorEq]
      try rfl
    | 3, _ =>
      have e := tag3_7 hp
      have e : s115 [plv b, .int 63 3, .int 63 7] h = .ret (.bool false) h := e
      show s111 [plv b, .int 63 3] h = .ret (.tup (.cons (.str 0 0) (.cons (.bool false) .nil))) h
      simp only [↓s111, ↓e, ↓cK_str, cK_str, ↓SD, SA, Int.ofNat_eq_natCast, Int.cast_ofNat_Int, Int.reduceBEq, Int.reduceAdd, Int.reduceNeg, Int.reduceNegSucc, Int.reduceLT, Int.reduceLE, Int.reduceMul, Int.reduceTMod, Int.reduceSub, Int.reduceBNe, Bool.not_true, Bool.not_false, decide_true, decide_false, ne_eq, not_false_eq_true, Int.reduceEq, reduceCtorEq]
    | 4, _ =>
      have e := tag4_7 hp
      have e : s115 [plv b, .int 63 4, .int 63 7] h = .ret (.bool true) h := e
      have x4 : ∀ k : AV → Res, ixA 5 (plv b) (.int 63 4) k = k (.ptr b 20) := fun k => hp.ix 4 (by decide) k
      have l4_3 : ∀ k : AV → Res, ld1 h (.ptr b (Nat.add 20 3)) k = k (.int 63 3) := fun k => hp.l 23 (by decide) k
      have m4_3 : ∀ k : AV → Res, ld1 h (.ptr b 23) k = k (.int 63 3) := fun k => hp.l 23 (by decide) k
      have n4_3 : ∀ k : AV → Res, ld1 h (.ptr b (20 + 3)) k = k (.int 63 3) := fun k => hp.l 23 (by decide) k
      have e2 := text3 hp
      show s111 [plv b, .int 63 4] h = .ret (.tup (.cons (.str 2 18779) (.cons (.bool true) .nil))) h
      simp only [↓s111, ↓e, ↓e2, ↓cP_p, nth_z, nth_1, ↓x4, ↓l4_3, ↓m4_3, ↓n4_3, ↓cK_str, cK_str, ↓SD, SA, Int.ofNat_eq_natCast, Int.cast_ofNat_Int, Int.reduceBEq, Int.reduceAdd, Int.reduceNeg, Int.reduceNegSucc, Int.reduceLT, Int.reduceLE, Int.reduceMul, Int.reduceTMod, Int.reduceSub, Int.reduceBNe, Bool.not_true, Bool.not_false, decide_true, decide_false, ne_eq, not_false_eq_true, Int.reduceEq, reduceCtorEq]
      try rfl
theorem rtag0 (hp : Pool h b) : s113 [plv b, .int 63 0] h = .ret (.int 63 0) h := by
  have x0 : ∀ k : AV → Res, ixA 5 (plv b) (.int 63 0) k = k (.ptr b 0) := fun k => hp.ix 0 (by decide) k
  have l0_0 : ∀ k : AV → Res, ld1 h (.ptr b (Nat.add 0 0)) k = k (.int 63 0) := fun k => hp.l 0 (by decide) k
  have m0_0 : ∀ k : AV → Res, ld1 h (.ptr b 0) k = k (.int 63 0) := fun k => hp.l 0 (by decide) k
  have n0_0 : ∀ k : AV → Res, ld1 h (.ptr b (0 + 0)) k = k (.int 63 0) := fun k => hp.l 0 (by decide) k
  have ln : ∀ k : AV → Res, lenL (plv b) k = k (.int 63 5) := fun k => rfl
  have gv : gsel (.bool true) true (plv b) = plv b := rfl
  have gi : ∀ x : Int, gsel (.bool true) true (.int 63 x) = .int 63 x := fun x => rfl
  have gv2 : gsel (.bool false) false (plv b) = plv b := rfl
  have gi2 : ∀ x : Int, gsel (.bool false) false (.int 63 x) = .int 63 x := fun x => rfl
  simp only [↓s113, ↓ln, ↓gv, ↓gi, ↓gv2, ↓gi2, ↓cP_p, ↓x0, ↓l0_0, ↓m0_0, ↓n0_0, ↓cK_str, cK_str, ↓SD, SA, Int.ofNat_eq_natCast, Int.cast_ofNat_Int, Int.reduceBEq, Int.reduceAdd, Int.reduceNeg, Int.reduceNegSucc, Int.reduceLT, Int.reduceLE, Int.reduceMul, Int.reduceTMod, Int.reduceSub, Int.reduceBNe, Bool.not_true, Bool.not_false, decide_true, decide_false, ne_eq, not_false_eq_true, Int.reduceEq, reduceCtorEq]
theorem rtag1 (hp : Pool h b) : s113 [plv b, .int 63 1] h = .ret (.int 63 1) h := by
  have x1 : ∀ k : AV → Res, ixA 5 (plv b) (.int 63 1) k = k (.ptr b 5) := fun k => hp.ix 1 (by decide) k
  have l1_0 : ∀ k : AV → Res, ld1 h (.ptr b (Nat.add 5 0)) k = k (.int 63 1) := fun k => hp.l 5 (by decide) k
  have m1_0 : ∀ k : AV → Res, ld1 h (.ptr b 5) k = k (.int 63 1) := fun k => hp.l 5 (by decide) k
  have n1_0 : ∀ k : AV → Res, ld1 h (.ptr b (5 + 0)) k = k (.int 63 1) := fun k => hp.l 5 (by decide) k
  have ln : ∀ k : AV → Res, lenL (plv b) k = k (.int 63 5) := fun k => rfl
  have gv : gsel (.bool true) true (plv b) = plv b := rfl
  have gi : ∀ x : Int, gsel (.bool true) true (.int 63 x) = .int 63 x := fun x => rfl
  have gv2 : gsel (.bool false) false (plv b) = plv b := rfl
  have gi2 : ∀ x : Int, gsel (.bool false) false (.int 63 x) = .int 63 x := fun x => rfl
  simp only [↓s113, ↓ln, ↓gv, ↓gi, ↓gv2, ↓gi2, ↓cP_p, ↓x1, ↓l1_0, ↓m1_0, ↓n1_0, ↓cK_str, cK_str, ↓SD, SA, Int.ofNat_eq_natCast, Int.cast_ofNat_Int, Int.reduceBEq, Int.reduceAdd, Int.reduceNeg, Int.reduceNegSucc, Int.reduceLT, Int.reduceLE, Int.reduceMul, Int.reduceTMod, Int.reduceSub, Int.reduceBNe, Bool.not_true, Bool.not_false, decide_true, decide_false, ne_eq, not_false_eq_true, Int.reduceEq, reduceCtorEq]
theorem rtag2 (hp : Pool h b) : s113 [plv b, .int 63 2] h = .ret (.int 63 7) h := by
  have x2 : ∀ k : AV → Res, ixA 5 (plv b) (.int 63 2) k = k (.ptr b 10) := fun k => hp.ix 2 (by decide) k
  have l2_0 : ∀ k : AV → Res, ld1 h (.ptr b (Nat.add 10 0)) k = k (.int 63 7) := fun k => hp.l 10 (by decide) k
  have m2_0 : ∀ k : AV → Res, ld1 h (.ptr b 10) k = k (.int 63 7) := fun k => hp.l 10 (by decide) k
  have n2_0 : ∀ k : AV → Res, ld1 h (.ptr b (10 + 0)) k = k (.int 63 7) := fun k => hp.l 10 (by decide) k
  have ln : ∀ k : AV → Res, lenL (plv b) k = k (.int 63 5) := fun k => rfl
  have gv : gsel (.bool true) true (plv b) = plv b := rfl
  have gi : ∀ x : Int, gsel (.bool true) true (.int 63 x) = .int 63 x := fun x => rfl
  have gv2 : gsel (.bool false) false (plv b) = plv b := rfl
  have gi2 : ∀ x : Int, gsel (.bool false) false (.int 63 x) = .int 63 x := fun x => rfl
  simp only [↓s113, ↓ln, ↓gv, ↓gi, ↓gv2, ↓gi2, ↓cP_p, ↓x2, ↓l2_0, ↓m2_0, ↓n2_0, ↓cK_str, cK_str, ↓SD, SA, Int.ofNat_eq_natCast, Int.cast_ofNat_Int, Int.reduceBEq, Int.reduceAdd, Int.reduceNeg, Int.reduceNegSucc, Int.reduceLT, Int.reduceLE, Int.reduceMul, Int.reduceTMod, Int.reduceSub, Int.reduceBNe, Bool.not_true, Bool.not_false, decide_true, decide_false, ne_eq, not_false_eq_true, Int.reduceEq, reduceCtorEq]
theorem rtag3 (hp : Pool h b) : s113 [plv b, .int 63 3] h = .ret (.int 63 1) h := by
  have x3 : ∀ k : AV → Res, ixA 5 (plv b) (.int 63 3) k = k (.ptr b 15) := fun k => hp.ix 3 (by decide) k
  have l3_0 : ∀ k : AV → Res, ld1 h (.ptr b (Nat.add 15 0)) k = k (.int 63 1) := fun k => hp.l 15 (by decide) k
  have m3_0 : ∀ k : AV → Res, ld1 h (.ptr b 15) k = k (.int 63 1) := fun k => hp.l 15 (by decide) k
  have n3_0 : ∀ k : AV → Res, ld1 h (.ptr b (15 + 0)) k = k (.int 63 1) := fun k => hp.l 15 (by decide) k
  have ln : ∀ k : AV → Res, lenL (plv b) k = k (.int 63 5) := fun k => rfl
  have gv : gsel (.bool true) true (plv b) = plv b := rfl
  have gi : ∀ x : Int, gsel (.bool true) true (.int 63 x) = .int 63 x := fun x => rfl
  have gv2 : gsel (.bool false) false (plv b) = plv b := rfl
  have gi2 : ∀ x : Int, gsel (.bool false) false (.int 63 x) = .int 63 x := fun x => rfl
  simp only [↓s113, ↓ln, ↓gv, ↓gi, ↓gv2, ↓gi2, ↓cP_p, ↓x3, ↓l3_0, ↓m3_0, ↓n3_0, ↓cK_str, cK_str, ↓SD, SA, Int.ofNat_eq_natCast, Int.cast_ofNat_Int, Int.reduceBEq, Int.reduceAdd, Int.reduceNeg, Int.reduceNegSucc, Int.reduceLT, Int.reduceLE, Int.reduceMul, Int.reduceTMod, Int.reduceSub, Int.reduceBNe, Bool.not_true, Bool.not_false, decide_true, decide_false, ne_eq, not_false_eq_true, Int.reduceEq, reduceCtorEq]
theorem rtag4 (hp : Pool h b) : s113 [plv b, .int 63 4] h = .ret (.int 63 7) h := by
  have x4 : ∀ k : AV → Res, ixA 5 (plv b) (.int 63 4) k = k (.ptr b 20) := fun k => hp.ix 4 (by decide) k
  have l4_0 : ∀ k : AV → Res, ld1 h (.ptr b (Nat.add 20 0)) k = k (.int 63 7) := fun k => hp.l 20 (by decide) k
  have m4_0 : ∀ k : AV → Res, ld1 h (.ptr b 20) k = k (.int 63 7) := fun k => hp.l 20 (by decide) k
  have n4_0 : ∀ k : AV → Res, ld1 h (.ptr b (20 + 0)) k = k (.int 63 7) := fun k => hp.l 20 (by decide) k
  have ln : ∀ k : AV → Res, lenL (plv b) k = k (.int 63 5) := fun k => rfl
  have gv : gsel (.bool true) true (plv b) = plv b := rfl
  have gi : ∀ x : Int, gsel (.bool true) true (.int 63 x) = .int 63 x := fun x => rfl
  have gv2 : gsel (.bool false) false (plv b) = plv b := rfl
  have gi2 : ∀ x : Int, gsel (.bool false) false (.int 63 x) = .int 63 x := fun x => rfl
  simp only [↓s113, ↓ln, ↓gv, ↓gi, ↓gv2, ↓gi2, ↓cP_p, ↓x4, ↓l4_0, ↓m4_0, ↓n4_0, ↓cK_str, cK_str, ↓SD, SA, Int.ofNat_eq_natCast, Int.cast_ofNat_Int, Int.reduceBEq, Int.reduceAdd, Int.reduceNeg, Int.reduceNegSucc, Int.reduceLT, Int.reduceLE, Int.reduceMul, Int.reduceTMod, Int.reduceSub, Int.reduceBNe, Bool.not_true, Bool.not_false, decide_true, decide_false, ne_eq, not_false_eq_true, Int.reduceEq, reduceCtorEq]
theorem rtagB (hp : Pool h b) (i : Nat) (hi : 5 ≤ i) : s113 [plv b, .int 63 (i : Int)] h = .ret (.int 63 0) h := by
  have ln : ∀ k : AV → Res, lenL (plv b) k = k (.int 63 5) := fun k => rfl
  have gv : gsel (.bool true) true (plv b) = plv b := rfl
  have gi : ∀ x : Int, gsel (.bool true) true (.int 63 x) = .int 63 x := fun x => rfl
  have gv2 : gsel (.bool false) false (plv b) = plv b := rfl
  have gi2 : ∀ x : Int, gsel (.bool false) false (.int 63 x) = .int 63 x := fun x => rfl
  have c1 : ¬ (i : Int) < 0 := by omega
  have c2 : ¬ (i : Int) < 5 := by omega
  simp only [↓s113, ↓ln, ↓gv, ↓gi, ↓gv2, ↓gi2, c1, c2, ↓cK_str, cK_str, ↓SD, SA, Int.ofNat_eq_natCast, Int.cast_ofNat_Int, Int.reduceBEq, Int.reduceAdd, Int.reduceNeg, Int.reduceNegSucc, Int.reduceLT, Int.reduceLE, Int.reduceMul, Int.reduceTMod, Int.reduceSub, Int.reduceBNe, Bool.not_true, Bool.not_false, decide_true, decide_false, ne_eq, not_false_eq_true, Int.reduceEq, reduceCtorEq]
theorem rtext1 (hp : Pool h b) : s114 [plv b, .int 63 1] h = .ret (.tup (.cons (.str 1 97) (.cons (.bool true) .nil))) h := by
  have x1 : ∀ k : AV → Res, ixA 5 (plv b) (.int 63 1) k = k (.ptr b 5) := fun k => hp.ix 1 (by decide) k
  have l1_1 : ∀ k : AV → Res, ld1 h (.ptr b (Nat.add 5 1)) k = k (.str 1 97) := fun k => hp.l 6 (by decide) k
  have m1_1 : ∀ k : AV → Res, ld1 h (.ptr b 6) k = k (.str 1 97) := fun k => hp.l 6 (by decide) k
  have n1_1 : ∀ k : AV → Res, ld1 h (.ptr b (5 + 1)) k = k (.str 1 97) := fun k => hp.l 6 (by decide) k
  have e := rtag1 hp
  simp only [↓s114, ↓e, ↓cP_p, ↓x1, ↓l1_1, ↓m1_1, ↓n1_1, ↓cK_str, cK_str, ↓SD, SA, Int.ofNat_eq_natCast, Int.cast_ofNat_Int, Int.reduceBEq, Int.reduceAdd, Int.reduceNeg, Int.reduceNegSucc, Int.reduceLT, Int.reduceLE, Int.reduceMul, Int.reduceTMod, Int.reduceSub, Int.reduceBNe, Bool.not_true, Bool.not_false, decide_true, decide_false, ne_eq, not_false_eq_true, Int.reduceEq, reduceCtorEq]
theorem rtext3 (hp : Pool h b) : s114 [plv b, .int 63 3] h = .ret (.tup (.cons (.str 2 18779) (.cons (.bool true) .nil))) h := by
  have x3 : ∀ k : AV → Res, ixA 5 (plv b) (.int 63 3) k = k (.ptr b 15) := fun k => hp.ix 3 (by decide) k
  have l3_1 : ∀ k : AV → Res, ld1 h (.ptr b (Nat.add 15 1)) k = k (.str 2 18779) := fun k => hp.l 16 (by decide) k
  have m3_1 : ∀ k : AV → Res, ld1 h (.ptr b 16) k = k (.str 2 18779) := fun k => hp.l 16 (by decide) k
  have n3_1 : ∀ k : AV → Res, ld1 h (.ptr b (15 + 1)) k = k (.str 2 18779) := fun k => hp.l 16 (by decide) k
  have e := rtag3 hp
  simp only [↓s114, ↓e, ↓cP_p, ↓x3, ↓l3_1, ↓m3_1, ↓n3_1, ↓cK_str, cK_str, ↓SD, SA, Int.ofNat_eq_natCast, Int.cast_ofNat_Int, Int.reduceBEq, Int.reduceAdd, Int.reduceNeg, Int.reduceNegSucc, Int.reduceLT, Int.reduceLE, Int.reduceMul, Int.reduceTMod, Int.reduceSub, Int.reduceBNe, Bool.not_true, Bool.not_false, decide_true, decide_false, ne_eq, not_false_eq_true, Int.reduceEq, reduceCtorEq]
theorem t109 (hp : Pool h b) (i : Nat) : s109 [plv b, .int 63 (i : Int)] h = .ret (.tup (.cons (nmC i) (.cons (.bool (isC i)) .nil))) h := by
  by_cases c : 5 ≤ i
  · have e := rtagB hp i c
    have q1 : isC i = false := by unfold isC; rw [decide_eq_false (by omega), decide_eq_false (by omega)]; rfl
    have q2 : nmC i = .str 0 0 := by unfold nmC; rw [if_neg (by omega), if_neg (by omega)]
    rw [q1, q2]
    simp only [↓s109, ↓e, ↓cK_str, cK_str, ↓SD, SA, Int.ofNat_eq_natCast, Int.cast_ofNat_Int, Int.reduceBEq, Int.reduceAdd, Int.reduceNeg, Int.reduceNegSucc, Int.reduceLT, Int.reduceLE, Int.reduceMul, Int.reduceTMod, Int.reduceSub, Int.reduceBNe, Bool.not_true, Bool.not_false, decide_true, decide_false, ne_eq, not_false_eq_true, Int.reduceEq, reduceCtorEq]
  · have c : i < 5 := by omega
    match i, c with
    | 0, _ =>
      have e := rtag0 hp
      show s109 [plv b, .int 63 0] h = .ret (.tup (.cons (.str 0 0) (.cons (.bool false) .nil))) h
      simp only [↓s109, ↓e, ↓cK_str, cK_str, ↓SD, SA, Int.ofNat_eq_natCast, Int.cast_ofNat_Int, Int.reduceBEq, Int.reduceAdd, Int.reduceNeg, Int.reduceNegSucc, Int.reduceLT, Int.reduceLE, Int.reduceMul, Int.reduceTMod, Int.reduceSub, Int.reduceBNe, Bool.not_true, Bool.not_false, decide_true, decide_false, ne_eq, not_false_eq_true, Int.reduceEq, reduceCtorEq]
    | 1, _ =>
      have e := rtag1 hp
      show s109 [plv b, .int 63 1] h = .ret (.tup (.cons (.str 0 0) (.cons (.bool false) .nil))) h
      simp only [↓s109, ↓e, ↓cK_str, cK_str, ↓SD, SA, Int.ofNat_eq_natCast, Int.cast_ofNat_Int, Int.reduceBEq, Int.reduceAdd, Int.reduceNeg, Int.reduceNegSucc, Int.reduceLT, Int.reduceLE, Int.reduceMul, Int.reduceTMod, Int.reduceSub, Int.reduceBNe, Bool.not_true, Bool.not_false, decide_true, decide_false, ne_eq, not_false_eq_true, Int.reduceEq, reduceCtorEq]
    | 2, _ =>
      have e := rtag2 hp
      have x2 : ∀ k : AV → Res, ixA 5 (plv b) (.int 63 2) k = k (.ptr b 10) := fun k => hp.ix 2 (by decide) k
      have l2_3 : ∀ k : AV → Res, ld1 h (.ptr b (Nat.add 10 3)) k = k (.int 63 1) := fun k => hp.l 13 (by decide) k
      have m2_3 : ∀ k : AV → Res, ld1 h (.ptr b 13) k = k (.int 63 1) := fun k => hp.l 13 (by decide) k
      have n2_3 : ∀ k : AV → Res, ld1 h (.ptr b (10 + 3)) k = k (.int 63 1) := fun k => hp.l 13 (by decide) k
      have e2 := rtext1 hp
      show s109 [plv b, .int 63 2] h = .ret (.tup (.cons (.str 1 97) (.cons (.bool true) .nil))) h
      simp only [↓s109, ↓e, ↓e2, ↓cP_p, nth_z, nth_1, ↓x2, ↓l2_3, ↓m2_3, ↓n2_3, ↓cK_str, cK_str, ↓SD, SA, Int.ofNat_eq_natCast, Int.cast_ofNat_Int, Int.reduceBEq, Int.reduceAdd, Int.reduceNeg, Int.reduceNegSucc, Int.reduceLT, Int.reduceLE, Int.reduceMul, Int.reduceTMod, Int.reduceSub, Int.reduceBNe, Bool.not_true, Bool.not_false, decide_true, decide_false, ne_eq, not_false_eq_true, Int.reduceEq, reduceCtorEq]
      try rfl
    | 3, _ =>
      have e := rtag3 hp
      show s109 [plv b, .int 63 3] h = .ret (.tup (.cons (.str 0 0) (.cons (.bool false) .nil))) h
      simp only [↓s109, ↓e, ↓cK_str, cK_str, ↓SD, SA, Int.ofNat_eq_natCast, Int.cast_ofNat_Int, Int.reduceBEq, Int.reduceAdd, Int.reduceNeg, Int.reduceNegSucc, Int.reduceLT, Int.reduceLE, Int.reduceMul, Int.reduceTMod, Int.reduceSub, Int.reduceBNe, Bool.not_true, Bool.not_false, decide_true, decide_false, ne_eq, not_false_eq_true, Int.reduceEq, reduceCtorEq]
    | 4, _ =>
      have e := rtag4 hp
      have x4 : ∀ k : AV → Res, ixA 5 (plv b) (.int 63 4) k = k (.ptr b 20) := fun k => hp.ix 4 (by decide) k
      have l4_3 : ∀ k : AV → Res, ld1 h (.ptr b (Nat.add 20 3)) k = k (.int 63 3) := fun k => hp.l 23 (by decide) k
      have m4_3 : ∀ k : AV → Res, ld1 h (.ptr b 23) k = k (.int 63 3) := fun k => hp.l 23 (by decide) k
      have n4_3 : ∀ k : AV → Res, ld1 h (.ptr b (20 + 3)) k = k (.int 63 3) := fun k => hp.l 23 (by decide) k
      have e2 := rtext3 hp
      show s109 [plv b, .int 63 4] h = .ret (.tup (.cons (.str 2 18779) (.cons (.bool true) .nil))) h
      simp only [↓s109, ↓e, ↓e2, ↓cP_p, nth_z, nth_1, ↓x4, ↓l4_3, ↓m4_3, ↓n4_3, ↓cK_str, cK_str, ↓SD, SA, Int.ofNat_eq_natCast, Int.cast_ofNat_Int, Int.reduceBEq, Int.reduceAdd, Int.reduceNeg, Int.reduceNegSucc, Int.reduceLT, Int.reduceLE, Int.reduceMul, Int.reduceTMod, Int.reduceSub, Int.reduceBNe, Bool.not_true, Bool.not_false, decide_true, decide_false, ne_eq, not_false_eq_true, Int.reduceEq, reduceCtorEq]
      try rfl
end
end Go.Proofs.Ytnpfppddongbhaa
end

section
namespace Go.Proofs.Ytnpfppddongbhaa
open Go Go.AM
set_option autoImplicit false
/-! ### a type of the checker, as it is read -/
noncomputable def vL (k a : Nat) : List AV := [.int 63 (k : Int), .str 0 0, .int 63 (a : Int)]
theorem vL_one (k a : Nat) : ∀ x ∈ vL k a, one x = true := by
  intro x hx
  simp only [vL, List.mem_cons, List.not_mem_nil, or_false] at hx
  rcases hx with rfl | rfl | rfl <;> rfl
def isK (g : Nat) : Bool := decide (g = 0) || decide (g = 1) || decide (g = 4) || decide (g = 5) || decide (g = 6)
/-- A type: its kind and its place, whether it is one, where the cursor is then. -/
def kd (t : List Nat) (q : Sq) : (Nat × Nat) × Bool × Sq :=
  if isK (val t q 1) = true then ((val t q 1, 0), true, adv t q 1)
  else if val t q 1 = 7 then ((7, val t (adv t q 1) 2), isC (val t (adv t q 1) 2), adv t (adv t q 1) 2)
  else if val t q 1 = 8 then ((8, val t (adv t q 1) 2), true, adv t (adv t q 1) 2)
  else ((val t q 1, 0), false, adv t q 1)
noncomputable def kdV (e : (Nat × Nat) × Bool × Sq) : AV := .tup (.cons (.agg (avL (vL e.1.1 e.1.2))) (.cons (.bool e.2.1) .nil))
theorem cK_nm (i : Nat) (k : AV → Res) : cK (nmC i) k = k (nmC i) := by unfold nmC; split; exact cK_str _ _ _; split; exact cK_str _ _ _; exact cK_str _ _ _
theorem cK_agg (t : AV) (k : AV → Res) : cK (.agg t) k = k (.agg t) := of_eq_true (eq_self _)
theorem bldV (g : Nat) (k : AV → Res) : bld [(false, 1, (.int 63 (g : Int))), (false, 1, (.str 0 0)), (false, 1, (.int 63 (.ofNat 0)))] k = k (avL (vL g 0)) := of_eq_true (eq_self _)
theorem bldV' (g : Nat) (k : AV → Res) : bld [(false, 1, (.int 63 (g : Int))), (false, 1, (.str 0 0)), (false, 1, (.int 63 0))] k = k (avL (vL g 0)) := of_eq_true (eq_self _)
section
variable {h : Hp} {lo b pb : Nat} {t : List Nat} {q : Sq}
theorem mkV0 (hw : Wf h) : ∃ h', (∀ k : AV → Hp → Res, mk h (.cons (.int 63 (.ofNat 0)) (.cons (.str 0 0) (.cons (.int 63 (.ofNat 0)) .nil))) k = k (.ptr h.nb 0) h') ∧ (∀ k : AV → Hp → Res, mk h (.cons (.int 63 0) (.cons (.str 0 0) (.cons (.int 63 0) .nil))) k = k (.ptr h.nb 0) h') ∧ Ce h' h.nb (vL 0 0) ∧ To No h h' ∧ Wf h' ∧ h'.nb = h.nb + 1 := by
  obtain ⟨h', m1, r⟩ := ce_mk hw (vL 0 0) (vL_one 0 0)
  exact ⟨h', fun k => m1 k, fun k => m1 k, r⟩
theorem Ce.stV {b : Nat} {k0 a0 : Nat} (hw : Wf h) (hc : Ce h b (vL k0 a0)) (k a : Nat) : ∃ h', (∀ kk : Hp → Res, stN h 3 (.ptr b 0) (.agg (avL (vL k a))) kk = kk h') ∧ Ce h' b (vL k a) ∧ To (At b) h h' ∧ Wf h' ∧ h'.nb = h.nb := Ce.st hw hc (vL k a) rfl (vL_one k a)
theorem Ce.ldV {b : Nat} {k a : Nat} (hc : Ce h b (vL k a)) (kk : AV → Res) : ldN h 3 (.ptr b 0) kk = kk (.agg (avL (vL k a))) := Ce.ld hc kk
theorem t112 (hc : CurQ h lo b t q) (hp : Pool h pb) (hpb : pb ≠ b) (hw : Wf h) :
    ∃ h', s112 [.ptr b 0, plv pb] h = .ret (kdV (kd t q)) h' ∧ CurQ h' lo b t (kd t q).2.2 ∧ To (At b) h h' ∧ Wf h' := by
  have hb : b < h.nb := by obtain ⟨B, v, o, r⟩ := hc.own; exact o.lt
  obtain ⟨h1, m1, m1', c1, o1, w1, x1⟩ := mkV0 hw
  obtain ⟨h2, e2, q2, o2, w2⟩ := u1 (hc.to o1 (fun _ _ _ f => f)) w1
  obtain ⟨h3, m3, m3', c3, o3, w3, x3⟩ := mkV0 w2
  obtain ⟨h4, s4, c4, o4, w4, x4⟩ := Ce.stV w3 c3 (val t q 1) 0
  have nb2 := o2.nb
  have q4 : CurQ h4 lo b t (adv t q 1) := (q2.to o3 (fun _ _ _ f => f)).to o4 (fun x _ hx e => by have : x = h2.nb := e; omega)
  have c14 : Ce h4 h.nb (vL 0 0) := ((c1.to o2 (fun e => by have : h.nb = b := e; omega)).to o3 (fun f => f)).to o4 (fun e => by have : h.nb = h2.nb := e; omega)
  have o14 : To (fun x => x = b ∨ h.nb ≤ x) h h4 := (((o1.mono fun _ _ f => f.elim).trans (o2.mono fun x _ e => .inl e)).trans (o3.mono fun _ _ f => f.elim)).trans (o4.mono fun x _ e => by have : x = h2.nb := e; exact .inr (by omega))
  have fin : ∀ {g : Hp}, To (fun x => x = b ∨ h.nb ≤ x) h4 g → To (At b) h g := fun tt => (o14.trans tt).mono fun x hx e => by
    rcases e with e | e
    · exact e
    · omega
  have hp4 : Pool h4 pb := hp.to o14 (fun e => by rcases e with e | e; exact hpb e; have := Ce.lt hp; omega)
  have l4 : ∀ kk : AV → Res, ld1 h4 (.ptr h2.nb (Nat.add 0 0)) kk = kk (.int 63 (val t q 1 : Int)) := fun kk => Ce.l c4 0 (by simp [vL]) kk
  have l4' : ∀ kk : AV → Res, ld1 h4 (.ptr h2.nb 0) kk = kk (.int 63 (val t q 1 : Int)) := l4
  have d4 := fun kk => Ce.ldV c4 kk
  have f0 : (((val t q 1 : Nat) : Int) == 0) = decide (val t q 1 = 0) := nbeq _ 0
  have f1 : (((val t q 1 : Nat) : Int) == 1) = decide (val t q 1 = 1) := nbeq _ 1
  have f4 : (((val t q 1 : Nat) : Int) == 4) = decide (val t q 1 = 4) := nbeq _ 4
  have f5 : (((val t q 1 : Nat) : Int) == 5) = decide (val t q 1 = 5) := nbeq _ 5
  have f6 : (((val t q 1 : Nat) : Int) == 6) = decide (val t q 1 = 6) := nbeq _ 6
  have f7 : (((val t q 1 : Nat) : Int) == 7) = decide (val t q 1 = 7) := nbeq _ 7
  have f8 : (((val t q 1 : Nat) : Int) == 8) = decide (val t q 1 = 8) := nbeq _ 8
  have last : ∀ {g5 : Hp} (k a : Nat), Ce g5 h.nb (vL 0 0) → Wf g5 → ∃ h5, (∀ kk : Hp → Res, stN g5 3 (.ptr h.nb 0) (.agg (avL (vL k a))) kk = kk h5) ∧ (∀ kk : AV → Res, ldN h5 3 (.ptr h.nb 0) kk = kk (.agg (avL (vL k a)))) ∧ To (At h.nb) g5 h5 ∧ Wf h5 := fun k a c w => by
    obtain ⟨h5, s5, c5, o5, w5, x5⟩ := Ce.stV w c k a
    exact ⟨h5, s5, fun kk => Ce.ldV c5 kk, o5, w5⟩
  by_cases k0 : val t q 1 = 0
  · rw [decide_eq_true k0] at f0
    obtain ⟨h5, s5, d5, o5, w5⟩ := last (val t q 1) 0 c14 w4
    have ek : kd t q = ((val t q 1, 0), true, adv t q 1) := by unfold kd isK; simp [k0]
    rw [ek]
    refine ⟨h5, ?_, q4.to o5 (fun x _ hx e => by have : x = h.nb := e; omega), fin (o5.mono fun x _ e => by have : x = h.nb := e; exact .inr (by omega)), w5⟩
    simp only [↓s112, ↓m1, ↓m1', ↓e2, ↓bldV, ↓bldV', ↓m3, ↓m3', ↓s4, ↓cP_p, ↓l4, ↓l4', f0, ↓d4, ↓s5, ↓d5, ↓cK_agg, ↓SD, SA, Int.ofNat_eq_natCast, Int.cast_ofNat_Int, Int.reduceBEq, Int.reduceAdd, Int.reduceNeg, Int.reduceNegSucc, Int.reduceLT, Int.reduceLE, Int.reduceMul, Int.reduceTMod, Int.reduceSub, Int.reduceBNe, Bool.not_true, Bool.not_false, decide_true, decide_false, ne_eq, not_false_eq_true, Int.reduceEq, reduceCtorEq]
    try rfl
  rw [decide_eq_false k0] at f0
  by_cases k1 : val t q 1 = 1
  · rw [decide_eq_true k1] at f1
    obtain ⟨h5, s5, d5, o5, w5⟩ := last (val t q 1) 0 c14 w4
    have ek : kd t q = ((val t q 1, 0), true, adv t q 1) := by unfold kd isK; simp [k0, k1]
    rw [ek]
    refine ⟨h5, ?_, q4.to o5 (fun x _ hx e => by have : x = h.nb := e; omega), fin (o5.mono fun x _ e => by have : x = h.nb := e; exact .inr (by omega)), w5⟩
    simp only [↓s112, ↓m1, ↓m1', ↓e2, ↓bldV, ↓bldV', ↓m3, ↓m3', ↓s4, ↓cP_p, ↓l4, ↓l4', f0, f1, ↓d4, ↓s5, ↓d5, ↓cK_agg, ↓SD, SA, Int.ofNat_eq_natCast, Int.cast_ofNat_Int, Int.reduceBEq, Int.reduceAdd, Int.reduceNeg, Int.reduceNegSucc, Int.reduceLT, Int.reduceLE, Int.reduceMul, Int.reduceTMod, Int.reduceSub, Int.reduceBNe, Bool.not_true, Bool.not_false, decide_true, decide_false, ne_eq, not_false_eq_true, Int.reduceEq, reduceCtorEq]
    try rfl
  rw [decide_eq_false k1] at f1
  by_cases k4 : val t q 1 = 4
  · rw [decide_eq_true k4] at f4
    obtain ⟨h5, s5, d5, o5, w5⟩ := last (val t q 1) 0 c14 w4
    have ek : kd t q = ((val t q 1, 0), true, adv t q 1) := by unfold kd isK; simp [k0, k1, k4]
    rw [ek]
    refine ⟨h5, ?_, q4.to o5 (fun x _ hx e => by have : x = h.nb := e; omega), fin (o5.mono fun x _ e => by have : x = h.nb := e; exact .inr (by omega)), w5⟩
    simp only [↓s112, ↓m1, ↓m1', ↓e2, ↓bldV, ↓bldV', ↓m3, ↓m3', ↓s4, ↓cP_p, ↓l4, ↓l4', f0, f1, f4, ↓d4, ↓s5, ↓d5, ↓cK_agg, ↓SD, SA, Int.ofNat_eq_natCast, Int.cast_ofNat_Int, Int.reduceBEq, Int.reduceAdd, Int.reduceNeg, Int.reduceNegSucc, Int.reduceLT, Int.reduceLE, Int.reduceMul, Int.reduceTMod, Int.reduceSub, Int.reduceBNe, Bool.not_true, Bool.not_false, decide_true, decide_false, ne_eq, not_false_eq_true, Int.reduceEq, reduceCtorEq]
    try rfl
  rw [decide_eq_false k4] at f4
  by_cases k5 : val t q 1 = 5
  · rw [decide_eq_true k5] at f5
    obtain ⟨h5, s5, d5, o5, w5⟩ := last (val t q 1) 0 c14 w4
    have ek : kd t q = ((val t q 1, 0), true, adv t q 1) := by unfold kd isK; simp [k0, k1, k4, k5]
    rw [ek]
    refine ⟨h5, ?_, q4.to o5 (fun x _ hx e => by have : x = h.nb := e; omega), fin (o5.mono fun x _ e => by have : x = h.nb := e; exact .inr (by omega)), w5⟩
    simp only [↓s112, ↓m1, ↓m1', ↓e2, ↓bldV, ↓bldV', ↓m3, ↓m3', ↓s4, ↓cP_p, ↓l4, ↓l4', f0, f1, f4, f5, ↓d4, ↓s5, ↓d5, ↓cK_agg, ↓SD, SA, Int.ofNat_eq_natCast, Int.cast_ofNat_Int, Int.reduceBEq, Int.reduceAdd, Int.reduceNeg, Int.reduceNegSucc, Int.reduceLT, Int.reduceLE, Int.reduceMul, Int.reduceTMod, Int.reduceSub, Int.reduceBNe, Bool.not_true, Bool.not_false, decide_true, decide_false, ne_eq, not_false_eq_true, Int.reduceEq, reduceCtorEq]
    try rfl
  rw [decide_eq_false k5] at f5
  by_cases k6 : val t q 1 = 6
  · rw [decide_eq_true k6] at f6
    obtain ⟨h5, s5, d5, o5, w5⟩ := last (val t q 1) 0 c14 w4
    have ek : kd t q = ((val t q 1, 0), true, adv t q 1) := by unfold kd isK; simp [k0, k1, k4, k5, k6]
    rw [ek]
    refine ⟨h5, ?_, q4.to o5 (fun x _ hx e => by have : x = h.nb := e; omega), fin (o5.mono fun x _ e => by have : x = h.nb := e; exact .inr (by omega)), w5⟩
    simp only [↓s112, ↓m1, ↓m1', ↓e2, ↓bldV, ↓bldV', ↓m3, ↓m3', ↓s4, ↓cP_p, ↓l4, ↓l4', f0, f1, f4, f5, f6, ↓d4, ↓s5, ↓d5, ↓cK_agg, ↓SD, SA, Int.ofNat_eq_natCast, Int.cast_ofNat_Int, Int.reduceBEq, Int.reduceAdd, Int.reduceNeg, Int.reduceNegSucc, Int.reduceLT, Int.reduceLE, Int.reduceMul, Int.reduceTMod, Int.reduceSub, Int.reduceBNe, Bool.not_true, Bool.not_false, decide_true, decide_false, ne_eq, not_false_eq_true, Int.reduceEq, reduceCtorEq]
    try rfl
  rw [decide_eq_false k6] at f6
  by_cases k7 : val t q 1 = 7
  · rw [decide_eq_true k7] at f7
    obtain ⟨g1, e5, q5, p1, v1⟩ := u2 q4 w4
    have nb5 := p1.nb
    have hb5 : b ≠ h2.nb := by omega
    obtain ⟨g2, s6, c6, p2, v2, y2⟩ := Ce.s v1 (c4.to p1 (fun e => hb5 (Eq.symm e))) 2 (by simp [vL]) (.int 63 (val t (adv t q 1) 2 : Int)) rfl
    have c6 : Ce g2 h2.nb (vL (val t q 1) (val t (adv t q 1) 2)) := c6
    have s6 : ∀ kk : Hp → Res, st1 g1 (.ptr h2.nb (Nat.add 0 2)) (.int 63 (val t (adv t q 1) 2 : Int)) kk = kk g2 := s6
    have s6' : ∀ kk : Hp → Res, st1 g1 (.ptr h2.nb 2) (.int 63 (val t (adv t q 1) 2 : Int)) kk = kk g2 := s6
    have l6 : ∀ kk : AV → Res, ld1 g2 (.ptr h2.nb (Nat.add 0 2)) kk = kk (.int 63 (val t (adv t q 1) 2 : Int)) := fun kk => Ce.l c6 2 (by simp [vL]) kk
    have l6' : ∀ kk : AV → Res, ld1 g2 (.ptr h2.nb 2) kk = kk (.int 63 (val t (adv t q 1) 2 : Int)) := l6
    have d6 := fun kk => Ce.ldV c6 kk
    have hpl := Ce.lt hp
    have hp6 : Pool g2 pb := (hp4.to p1 hpb).to p2 (fun e => by have : pb = h2.nb := e; omega)
    have e7 := t111 hp6 (val t (adv t q 1) 2)
    have c16 : Ce g2 h.nb (vL 0 0) := (c14.to p1 (fun e => by have : h.nb = b := e; omega)).to p2 (fun e => by have : h.nb = h2.nb := e; omega)
    obtain ⟨h5, s5, d5, o5, w5⟩ := last (val t q 1) (val t (adv t q 1) 2) c16 v2
    have ek : kd t q = ((val t q 1, val t (adv t q 1) 2), isC (val t (adv t q 1) 2), adv t (adv t q 1) 2) := by unfold kd isK; simp [k7]
    rw [ek]
    refine ⟨h5, ?_, (q5.to p2 (fun x _ hx e => by have : x = h2.nb := e; omega)).to o5 (fun x _ hx e => by have : x = h.nb := e; omega), fin (((p1.mono fun x _ e => .inl e).trans (p2.mono fun x _ e => by have : x = h2.nb := e; exact .inr (by omega))).trans (o5.mono fun x _ e => by have : x = h.nb := e; exact .inr (by omega))), w5⟩
    simp only [↓s112, ↓m1, ↓m1', ↓e2, ↓bldV, ↓bldV', ↓m3, ↓m3', ↓s4, ↓cP_p, ↓l4, ↓l4', f0, f1, f4, f5, f6, f7, ↓e5, ↓s6, ↓s6', ↓l6, ↓l6', ↓e7, ↓cK_nm, ↓d6, ↓s5, ↓d5, ↓cK_agg, nth_z, nth_1, ↓SD, SA, Int.ofNat_eq_natCast, Int.cast_ofNat_Int, Int.reduceBEq, Int.reduceAdd, Int.reduceNeg, Int.reduceNegSucc, Int.reduceLT, Int.reduceLE, Int.reduceMul, Int.reduceTMod, Int.reduceSub, Int.reduceBNe, Bool.not_true, Bool.not_false, decide_true, decide_false, ne_eq, not_false_eq_true, Int.reduceEq, reduceCtorEq]
    try rfl
  rw [decide_eq_false k7] at f7
  by_cases k8 : val t q 1 = 8
  · rw [decide_eq_true k8] at f8
    obtain ⟨g1, e5, q5, p1, v1⟩ := u2 q4 w4
    have nb5 := p1.nb
    have hb5 : b ≠ h2.nb := by omega
    obtain ⟨g2, s6, c6, p2, v2, y2⟩ := Ce.s v1 (c4.to p1 (fun e => hb5 (Eq.symm e))) 2 (by simp [vL]) (.int 63 (val t (adv t q 1) 2 : Int)) rfl
    have c6 : Ce g2 h2.nb (vL (val t q 1) (val t (adv t q 1) 2)) := c6
    have s6 : ∀ kk : Hp → Res, st1 g1 (.ptr h2.nb (Nat.add 0 2)) (.int 63 (val t (adv t q 1) 2 : Int)) kk = kk g2 := s6
    have s6' : ∀ kk : Hp → Res, st1 g1 (.ptr h2.nb 2) (.int 63 (val t (adv t q 1) 2 : Int)) kk = kk g2 := s6
    have d6 := fun kk => Ce.ldV c6 kk
    have c16 : Ce g2 h.nb (vL 0 0) := (c14.to p1 (fun e => by have : h.nb = b := e; omega)).to p2 (fun e => by have : h.nb = h2.nb := e; omega)
    obtain ⟨h5, s5, d5, o5, w5⟩ := last (val t q 1) (val t (adv t q 1) 2) c16 v2
    have ek : kd t q = ((val t q 1, val t (adv t q 1) 2), true, adv t (adv t q 1) 2) := by unfold kd isK; simp [k8]
    rw [ek]
    refine ⟨h5, ?_, (q5.to p2 (fun x _ hx e => by have : x = h2.nb := e; omega)).to o5 (fun x _ hx e => by have : x = h.nb := e; omega), fin (((p1.mono fun x _ e => .inl e).trans (p2.mono fun x _ e => by have : x = h2.nb := e; exact .inr (by omega))).trans (o5.mono fun x _ e => by have : x = h.nb := e; exact .inr (by omega))), w5⟩
    simp only [↓s112, ↓m1, ↓m1', ↓e2, ↓bldV, ↓bldV', ↓m3, ↓m3', ↓s4, ↓cP_p, ↓l4, ↓l4', f0, f1, f4, f5, f6, f7, f8, ↓e5, ↓s6, ↓s6', ↓d6, ↓s5, ↓d5, ↓cK_agg, nth_z, nth_1, ↓SD, SA, Int.ofNat_eq_natCast, Int.cast_ofNat_Int, Int.reduceBEq, Int.reduceAdd, Int.reduceNeg, Int.reduceNegSucc, Int.reduceLT, Int.reduceLE, Int.reduceMul, Int.reduceTMod, Int.reduceSub, Int.reduceBNe, Bool.not_true, Bool.not_false, decide_true, decide_false, ne_eq, not_false_eq_true, Int.reduceEq, reduceCtorEq]
    try rfl
  rw [decide_eq_false k8] at f8
  obtain ⟨h5, s5, d5, o5, w5⟩ := last (val t q 1) 0 c14 w4
  have ek : kd t q = ((val t q 1, 0), false, adv t q 1) := by unfold kd isK; simp [k0, k1, k4, k5, k6, k7, k8]
  rw [ek]
  refine ⟨h5, ?_, q4.to o5 (fun x _ hx e => by have : x = h.nb := e; omega), fin (o5.mono fun x _ e => by have : x = h.nb := e; exact .inr (by omega)), w5⟩
  simp only [↓s112, ↓m1, ↓m1', ↓e2, ↓bldV, ↓bldV', ↓m3, ↓m3', ↓s4, ↓cP_p, ↓l4, ↓l4', f0, f1, f4, f5, f6, f7, f8, ↓d4, ↓s5, ↓d5, ↓cK_agg, ↓SD, SA, Int.ofNat_eq_natCast, Int.cast_ofNat_Int, Int.reduceBEq, Int.reduceAdd, Int.reduceNeg, Int.reduceNegSucc, Int.reduceLT, Int.reduceLE, Int.reduceMul, Int.reduceTMod, Int.reduceSub, Int.reduceBNe, Bool.not_true, Bool.not_false, decide_true, decide_false, ne_eq, not_false_eq_true, Int.reduceEq, reduceCtorEq]
  try rfl
end
end Go.Proofs.Ytnpfppddongbhaa
end

section
namespace Go.Proofs.Ytnpfppddongbhaa
open Go Go.AM
set_option autoImplicit false
/-! ### types, one after another -/
noncomputable def vP (p : Nat × Nat) : List AV := vL p.1 p.2
def kds (t : List Nat) : Nat → Sq → List (Nat × Nat) → Option (List (Nat × Nat) × Sq)
  | 0, q, l => some (l, q)
  | n + 1, q, l => if (kd t q).2.1 = true ∧ (kd t q).2.2.2 = false then kds t n (kd t q).2.2 (l ++ [(kd t q).1]) else none
theorem bldR (k a : Nat) (f : AV → Res) : bld [(true, 3, .agg (avL (vL k a)))] f = f (avL (vL k a)) := of_eq_true (eq_self _)
abbrev nilF : AV := .tup (.cons .nils (.cons (.bool false) .nil))
theorem loop108 {lo b pb N : Nat} {t : List Nat} (hb : b < N) (hpb : pb < N) (hne : pb ≠ b) : ∀ (n i m : Nat) (q : Sq) (l : List (Nat × Nat)) (v : AV) (h : Hp), n < m → i + n ≤ 70000 → l.length ≤ i → N ≤ h.nb → Wf h → CurQ h lo b t q → Pool h pb → Rws h (fun x => N ≤ x) 3 v (l.map vP) →
    (kds t n q l = none ∧ ∃ h', lp L108n0 m [.ptr b 0, plv pb, v, .int 63 ((i + n : Nat) : Int), .int 63 (i : Int)] h = .ret nilF h' ∧ (∃ q', CurQ h' lo b t q') ∧ To (fun x => x = b ∨ N ≤ x) h h' ∧ Wf h') ∨
    (∃ r v' h', kds t n q l = some r ∧ lp L108n0 m [.ptr b 0, plv pb, v, .int 63 ((i + n : Nat) : Int), .int 63 (i : Int)] h = .exit 0 [v'] h' ∧ Rws h' (fun x => N ≤ x) 3 v' (r.1.map vP) ∧ CurQ h' lo b t r.2 ∧ To (fun x => x = b ∨ N ≤ x) h h' ∧ Wf h') := by
  intro n
  induction n with
  | zero =>
    intro i m q l v h hm hi hl hnb hw hc hp hr
    obtain ⟨m, rfl⟩ : ∃ k, m = k + 1 := ⟨m - 1, by omega⟩
    have c1 : ¬ (i : Int) < (i : Int) := by omega
    exact .inr ⟨(l, q), v, h, rfl, lpx m (by simp only [↓L108n0, Nat.add_zero, c1, ↓SD, SA, Int.ofNat_eq_natCast, Int.cast_ofNat_Int, Int.reduceBEq, Int.reduceAdd, Int.reduceNeg, Int.reduceNegSucc, Int.reduceLT, Int.reduceLE, Int.reduceMul, Int.reduceTMod, Int.reduceSub, Int.reduceBNe, Bool.not_true, Bool.not_false, decide_true, decide_false, ne_eq, not_false_eq_true, Int.reduceEq, reduceCtorEq]), hr, hc, To.refl _ _, hw⟩
  | succ n ih =>
    intro i m q l v h hm hi hl hnb hw hc hp hr
    obtain ⟨m, rfl⟩ : ∃ k, m = k + 1 := ⟨m - 1, by omega⟩
    have c1 : (i : Int) < ((i + (n + 1) : Nat) : Int) := by omega
    obtain ⟨h1, e1, q1, o1, w1⟩ := t112 hc hp hne hw
    have nb1 := o1.nb
    obtain ⟨h2, m2, m2', c2, o2, w2, x2⟩ := mkV0 w1
    obtain ⟨h3, s3, c3, o3, w3, x3⟩ := Ce.stV w2 c2 (kd t q).1.1 (kd t q).1.2
    have q3 : CurQ h3 lo b t (kd t q).2.2 := (q1.to o2 (fun _ _ _ f => f)).to o3 (fun x _ hx e => by have : x = h1.nb := e; omega)
    have o13 : To (fun x => x = b ∨ N ≤ x) h h3 := ((o1.mono fun x _ e => Or.inl e).trans (o2.mono fun _ _ f => f.elim)).trans (o3.mono fun x _ e => by have : x = h1.nb := e; exact .inr (by omega))
    have r1 : Rws h1 (fun x => N ≤ x ∧ x < h1.nb) 3 v (l.map vP) := (hr.to o1 (fun x hx _ e => by have hx : N ≤ x := hx; have : x = b := e; omega)).mono fun x hx hlt => ⟨hx, hlt⟩
    have r3 : Rws h3 (fun x => N ≤ x) 3 v (l.map vP) := ((r1.to o2 (fun _ _ _ f => f)).to o3 (fun x hx _ e => by have : x = h1.nb := e; have := hx.2; omega)).mono fun x hx _ => hx.1
    have p3 : Pool h3 pb := hp.to o13 (fun e => by rcases e with e | e; exact hne e; omega)
    have e30 := t30 q3
    have d3 := fun kk => Ce.ldV c3 kk
    have i1 := s1n i (by omega)
    have gp : gsel (.bool false) false (.ptr b 0) = .ptr b 0 := rfl
    have e1 : s112 [.ptr b 0, plv pb] h = .ret (.tup (.cons (.agg (avL (vL (kd t q).1.1 (kd t q).1.2))) (.cons (.bool (kd t q).2.1) .nil))) h1 := e1
    have hkd : kds t (n + 1) q l = if (kd t q).2.1 = true ∧ (kd t q).2.2.2 = false then kds t n (kd t q).2.2 (l ++ [(kd t q).1]) else none := rfl
    rw [hkd]
    generalize kd t q = E at *
    obtain ⟨⟨k, a⟩, ok, q'⟩ := E
    simp only at *
    cases ok with
    | false =>
      refine .inl ⟨if_neg (fun hh => by cases hh.1), h3, ?_, ⟨_, q3⟩, o13, w3⟩
      exact lpr m (by simp only [↓L108n0, c1, ↓e1, nth_z, nth_1, ↓cK_agg, ↓m2, ↓m2', ↓s3, ↓cK_nils, ↓SD, SA, Int.ofNat_eq_natCast, Int.cast_ofNat_Int, Int.reduceBEq, Int.reduceAdd, Int.reduceNeg, Int.reduceNegSucc, Int.reduceLT, Int.reduceLE, Int.reduceMul, Int.reduceTMod, Int.reduceSub, Int.reduceBNe, Bool.not_true, Bool.not_false, decide_true, decide_false, ne_eq, not_false_eq_true, Int.reduceEq, reduceCtorEq])
    | true =>
      cases hbad : q'.2 with
      | true =>
        rw [hbad] at e30
        refine .inl ⟨if_neg (fun hh => by cases hh.2), h3, ?_, ⟨_, q3⟩, o13, w3⟩
        exact lpr m (by simp only [↓L108n0, c1, ↓e1, nth_z, nth_1, ↓cK_agg, ↓m2, ↓m2', ↓s3, ↓gp, ↓e30, ↓cK_nils, Bool.not_true, ↓SD, SA, Int.ofNat_eq_natCast, Int.cast_ofNat_Int, Int.reduceBEq, Int.reduceAdd, Int.reduceNeg, Int.reduceNegSucc, Int.reduceLT, Int.reduceLE, Int.reduceMul, Int.reduceTMod, Int.reduceSub, Int.reduceBNe, Bool.not_true, Bool.not_false, decide_true, decide_false, ne_eq, not_false_eq_true, Int.reduceEq, reduceCtorEq])
      | false =>
        rw [hbad] at e30
        obtain ⟨v', h4, h5, g4, g5, r5, o5, w5⟩ := apd_rows (by_ := 32) w3 r3 (by decide) (vL k a) rfl (vL_one k a) (by simp; omega) (by simp; omega)
        have g4 : ∀ kk : AV → Hp → Res, mkS h3 3 1 (avL (vL k a)) kk = kk (.sl h3.nb 0 1 3 (some 1)) h4 := g4
        have r5 : Rws h5 (fun x => N ≤ x) 3 v' ((l ++ [(k, a)]).map vP) := by
          rw [List.map_append]
          refine r5.mono fun x hx _ => ?_
          have nb3 := o13.nb
          rcases hx with hx | hx
          · exact hx
          · omega
        have o5' := o5
        have o5 : To (fun x => x = b ∨ N ≤ x) h3 h5 := o5.mono fun x _ e => .inr e
        have e : L108n0 [.ptr b 0, plv pb, v, .int 63 ((i + (n + 1) : Nat) : Int), .int 63 (i : Int)] h = .norm [.ptr b 0, plv pb, v', .int 63 ((i + (n + 1) : Nat) : Int), .int 63 ((i + 1 : Nat) : Int)] h5 := by
          simp only [↓L108n0, c1, ↓e1, nth_z, nth_1, ↓cK_agg, ↓m2, ↓m2', ↓s3, ↓gp, ↓e30, Bool.not_false, ↓d3, ↓bldR, ↓g4, ↓g5, i1, ↓SD, SA, Int.ofNat_eq_natCast, Int.cast_ofNat_Int, Int.reduceBEq, Int.reduceAdd, Int.reduceNeg, Int.reduceNegSucc, Int.reduceLT, Int.reduceLE, Int.reduceMul, Int.reduceTMod, Int.reduceSub, Int.reduceBNe, Bool.not_true, Bool.not_false, decide_true, decide_false, ne_eq, not_false_eq_true, Int.reduceEq, reduceCtorEq]
        have o15 := o13.trans o5
        have nb5 := o15.nb
        rw [if_pos ⟨rfl, rfl⟩]
        have ei : i + (n + 1) = (i + 1) + n := by omega
        rw [lpn m e, ei]
        rcases ih (i + 1) m q' (l ++ [(k, a)]) v' h5 (by omega) (by omega) (by simp; omega) (by omega) w5 (q3.to o5' (fun x _ hx e => by have : N ≤ x := e; omega)) (p3.to o5 (fun e => by rcases e with e | e; exact hne e; omega)) r5 with ⟨f1, h6, f2, f3, f4, f5⟩ | ⟨r, v6, h6, f1, f2, f3, f4, f5, f6⟩
        · exact .inl ⟨f1, h6, f2, f3, o15.trans f4, f5⟩
        · exact .inr ⟨r, v6, h6, f1, f2, f3, f4, o15.trans f5, f6⟩
theorem t108 {h : Hp} {lo b pb : Nat} {t : List Nat} {q : Sq} (hc : CurQ h lo b t q) (hp : Pool h pb) (hne : pb ≠ b) (hw : Wf h) (n : Nat) (hn : n ≤ 70000) :
    (kds t n q [] = none ∧ ∃ h', s108 [.ptr b 0, plv pb, .int 63 (n : Int)] h = .ret nilF h' ∧ (∃ q', CurQ h' lo b t q') ∧ To (At b) h h' ∧ Wf h') ∨
    (∃ r v' h', kds t n q [] = some r ∧ s108 [.ptr b 0, plv pb, .int 63 (n : Int)] h = .ret (.tup (.cons v' (.cons (.bool true) .nil))) h' ∧ Rws h' (fun x => h.nb ≤ x) 3 v' (r.1.map vP) ∧ CurQ h' lo b t r.2 ∧ To (At b) h h' ∧ Wf h') := by
  have hb : b < h.nb := by obtain ⟨B, v, o, r⟩ := hc.own; exact o.lt
  have fin : ∀ {g : Hp}, To (fun x => x = b ∨ h.nb ≤ x) h g → To (At b) h g := fun tt => tt.mono fun x hx e => by
    rcases e with e | e
    · exact e
    · omega
  have e0 : ∀ _ : Nat, s108 [.ptr b 0, plv pb, .int 63 (n : Int)] h = blk 0 (lp L108n0 most [.ptr b 0, plv pb, .nils, .int 63 (n : Int), .int 63 (.ofNat 0)] h) fun w62 h63 => uc w62 fun v64 _ => cK v64 fun v65 => cK (.bool true) fun v66 => .ret (.tup (.cons v65 (.cons v66 .nil))) h63 := fun _ => rfl
  have hm : n < most := by unfold most; omega
  rcases loop108 hb (Ce.lt hp) hne n 0 most q [] .nils h hm (by omega) (Nat.le_refl _) (Nat.le_refl _) hw hc hp (Rws.nil _ _ _) with ⟨f1, h', f2, f3, f4, f5⟩ | ⟨r, v', h', f1, f2, f3, f4, f5, f6⟩
  · rw [Nat.zero_add] at f2
    have f2 : lp L108n0 most [.ptr b 0, plv pb, .nils, .int 63 (n : Int), .int 63 (.ofNat 0)] h = .ret nilF h' := f2
    refine .inl ⟨f1, h', ?_, f3, fin f4, f5⟩
    rw [e0 0, f2]; rfl
  · rw [Nat.zero_add] at f2
    have f2 : lp L108n0 most [.ptr b 0, plv pb, .nils, .int 63 (n : Int), .int 63 (.ofNat 0)] h = .exit 0 [v'] h' := f2
    refine .inr ⟨r, v', h', f1, ?_, f3, f4, fin f5, f6⟩
    rw [e0 0, f2]
    show (cK v' fun v65 => cK (.bool true) fun v66 => .ret (.tup (.cons v65 (.cons v66 .nil))) h') = _
    rw [f3.cK]; rfl
/-! the same of the reference -/
theorem loop88 {lo b pb N : Nat} {t : List Nat} (hb : b < N) (hpb : pb < N) (hne : pb ≠ b) : ∀ (n i m : Nat) (q : Sq) (l : List (Nat × Nat)) (v : AV) (h : Hp), n < m → i + n ≤ 70000 → l.length ≤ i → N ≤ h.nb → Wf h → CurQ h lo b t q → Pool h pb → Rws h (fun x => N ≤ x) 3 v (l.map vP) →
    (kds t n q l = none ∧ ∃ h', lp L88n0 m [.ptr b 0, plv pb, .int 63 (n : Int), v] h = .ret nilF h' ∧ (∃ q', CurQ h' lo b t q') ∧ To (fun x => x = b ∨ N ≤ x) h h' ∧ Wf h') ∨
    (∃ r v' h', kds t n q l = some r ∧ lp L88n0 m [.ptr b 0, plv pb, .int 63 (n : Int), v] h = .exit 0 [v'] h' ∧ Rws h' (fun x => N ≤ x) 3 v' (r.1.map vP) ∧ CurQ h' lo b t r.2 ∧ To (fun x => x = b ∨ N ≤ x) h h' ∧ Wf h') := by
  intro n
  induction n with
  | zero =>
    intro i m q l v h hm hi hl hnb hw hc hp hr
    obtain ⟨m, rfl⟩ : ∃ k, m = k + 1 := ⟨m - 1, by omega⟩
    exact .inr ⟨(l, q), v, h, rfl, lpx m (by simp only [↓L88n0, ↓SD, SA, Int.ofNat_eq_natCast, Int.cast_ofNat_Int, Int.reduceBEq, Int.reduceAdd, Int.reduceNeg, Int.reduceNegSucc, Int.reduceLT, Int.reduceLE, Int.reduceMul, Int.reduceTMod, Int.reduceSub, Int.reduceBNe, Bool.not_true, Bool.not_false, decide_true, decide_false, ne_eq, not_false_eq_true, Int.reduceEq, reduceCtorEq]; try rfl), hr, hc, To.refl _ _, hw⟩
  | succ n ih =>
    intro i m q l v h hm hi hl hnb hw hc hp hr
    obtain ⟨m, rfl⟩ : ∃ k, m = k + 1 := ⟨m - 1, by omega⟩
    have c1 : (0 : Int) < ((n + 1 : Nat) : Int) := by omega
    have c1 : (0 : Int) < ((n + 1 : Nat) : Int) := by omega
    obtain ⟨h1, e1, q1, o1, w1⟩ := n1 hc hw
    have nb1 := o1.nb
    obtain ⟨h2, m2, m2', c2, o2, w2, x2⟩ := mkV0 w1
    obtain ⟨h3, s3, c3, o3, w3, x3⟩ := Ce.stV w2 c2 (val t q 1) 0
    have q3 : CurQ h3 lo b t (adv t q 1) := (q1.to o2 (fun _ _ _ f => f)).to o3 (fun x _ hx e => by have : x = h1.nb := e; omega)
    have o13 : To (fun x => x = b ∨ N ≤ x) h h3 := ((o1.mono fun x _ e => Or.inl e).trans (o2.mono fun _ _ f => f.elim)).trans (o3.mono fun x _ e => by have : x = h1.nb := e; exact .inr (by omega))
    have r1 : Rws h1 (fun x => N ≤ x ∧ x < h1.nb) 3 v (l.map vP) := (hr.to o1 (fun x hx _ e => by have hx : N ≤ x := hx; have : x = b := e; omega)).mono fun x hx hlt => ⟨hx, hlt⟩
    have r3 : Rws h3 (fun x => N ≤ x ∧ x < h1.nb) 3 v (l.map vP) := (r1.to o2 (fun _ _ _ f => f)).to o3 (fun x hx _ e => by have : x = h1.nb := e; have := hx.2; omega)
    have p3 : Pool h3 pb := hp.to o13 (fun e => by rcases e with e | e; exact hne e; omega)
    have i1 : wrapC 63 (((n + 1 : Nat) : Int) - 1) = (n : Int) := by rw [w63_in _ (by omega) (by omega)]; omega
    have l3 : ∀ kk : AV → Res, ld1 h3 (.ptr h1.nb (Nat.add 0 0)) kk = kk (.int 63 (val t q 1 : Int)) := fun kk => Ce.l c3 0 (by simp [vL]) kk
    have l3' : ∀ kk : AV → Res, ld1 h3 (.ptr h1.nb 0) kk = kk (.int 63 (val t q 1 : Int)) := l3
    have d3 := fun kk => Ce.ldV c3 kk
    -- what is left when the type was read: it is put behind the others, if the bytes did not end
    have rest : ∀ (k a : Nat) (q' : Sq) (h4 : Hp), kd t q = ((k, a), true, q') → Ce h4 h1.nb (vL k a) → CurQ h4 lo b t q' → To (fun x => x = b ∨ N ≤ x) h h4 → Pool h4 pb → Rws h4 (fun x => N ≤ x ∧ x < h1.nb) 3 v (l.map vP) → Wf h4 →
        ((q'.2 = true ∧ kds t (n + 1) q l = none) ∨ (q'.2 = false ∧ kds t (n + 1) q l = kds t n q' (l ++ [(k, a)]) ∧ ∃ v' h5 h6, (∀ kk : AV → Hp → Res, mkS h4 3 1 (avL (vL k a)) kk = kk (.sl h4.nb 0 1 3 (some 1)) h5) ∧ (∀ kk : AV → Hp → Res, apd h5 3 32 v (.sl h4.nb 0 1 3 (some 1)) kk = kk v' h6) ∧ Rws h6 (fun x => N ≤ x) 3 v' ((l ++ [(k, a)]).map vP) ∧ CurQ h6 lo b t q' ∧ Pool h6 pb ∧ To (fun x => x = b ∨ N ≤ x) h h6 ∧ Wf h6)) := fun k a q' h4 ek c4 q4 o4 p4 r4 w4 => by
      have hkd : kds t (n + 1) q l = if (kd t q).2.1 = true ∧ (kd t q).2.2.2 = false then kds t n (kd t q).2.2 (l ++ [(kd t q).1]) else none := rfl
      rw [hkd, ek]
      have nb4 := o4.nb
      cases hq : q'.2 with
      | true => exact .inl ⟨rfl, if_neg (fun hh => by cases hh.2)⟩
      | false =>
        obtain ⟨v', h5, h6, g4, g5, r5, o5, w5⟩ := apd_rows (by_ := 32) w4 r4 (by decide) (vL k a) rfl (vL_one k a) (by simp; omega) (by simp; omega)
        refine .inr ⟨rfl, if_pos ⟨rfl, rfl⟩, v', h5, h6, g4, g5, ?_, q4.to o5 (fun x _ hx e => by have := e.1; omega), p4.to o5 (fun e => by have := e.1; omega), o4.trans (o5.mono fun x _ e => .inr e.1), w5⟩
        rw [List.map_append]
        refine r5.mono fun x hx _ => ?_
        rcases hx with hx | hx
        · exact hx.1
        · omega
    have f0 : (((val t q 1 : Nat) : Int) == 0) = decide (val t q 1 = 0) := nbeq _ 0
    have f1 : (((val t q 1 : Nat) : Int) == 1) = decide (val t q 1 = 1) := nbeq _ 1
    have f4 : (((val t q 1 : Nat) : Int) == 4) = decide (val t q 1 = 4) := nbeq _ 4
    have f5 : (((val t q 1 : Nat) : Int) == 5) = decide (val t q 1 = 5) := nbeq _ 5
    have f6 : (((val t q 1 : Nat) : Int) == 6) = decide (val t q 1 = 6) := nbeq _ 6
    have f7 : (((val t q 1 : Nat) : Int) == 7) = decide (val t q 1 = 7) := nbeq _ 7
    have f8 : (((val t q 1 : Nat) : Int) == 8) = decide (val t q 1 = 8) := nbeq _ 8
    have bad_ : ∀ {g : Hp} {q' : Sq}, CurQ g lo b t q' → (∀ kk : AV → Res, ld1 g (.ptr b (Nat.add 0 2)) kk = kk (.bool q'.2)) ∧ (∀ kk : AV → Res, ld1 g (.ptr b 2) kk = kk (.bool q'.2)) := fun c => by
      obtain ⟨v, hs, a0, a1, a2⟩ := c.open
      exact ⟨a2, a2⟩
    have go : ∀ {h6 : Hp} {v' : AV} {q' : Sq} {p : Nat × Nat}, kds t (n + 1) q l = kds t n q' (l ++ [p]) → L88n0 [.ptr b 0, plv pb, .int 63 ((n + 1 : Nat) : Int), v] h = .norm [.ptr b 0, plv pb, .int 63 (n : Int), v'] h6 → Rws h6 (fun x => N ≤ x) 3 v' ((l ++ [p]).map vP) → CurQ h6 lo b t q' → Pool h6 pb → To (fun x => x = b ∨ N ≤ x) h h6 → Wf h6 →
      (kds t (n + 1) q l = none ∧ ∃ h', lp L88n0 (m + 1) [.ptr b 0, plv pb, .int 63 ((n + 1 : Nat) : Int), v] h = .ret nilF h' ∧ (∃ q', CurQ h' lo b t q') ∧ To (fun x => x = b ∨ N ≤ x) h h' ∧ Wf h') ∨
      (∃ r v' h', kds t (n + 1) q l = some r ∧ lp L88n0 (m + 1) [.ptr b 0, plv pb, .int 63 ((n + 1 : Nat) : Int), v] h = .exit 0 [v'] h' ∧ Rws h' (fun x => N ≤ x) 3 v' (r.1.map vP) ∧ CurQ h' lo b t r.2 ∧ To (fun x => x = b ∨ N ≤ x) h h' ∧ Wf h') := fun {h6 v' q' p} hk e r6 q6 p6 o6 w6 => by
      rw [hk, lpn m e]
      have nb6 := o6.nb
      rcases ih (i + 1) m q' (l ++ [p]) v' h6 (by omega) (by omega) (by simp; omega) (by omega) w6 q6 p6 r6 with ⟨f1, h7, f2, f3, f4, f5⟩ | ⟨r, v7, h7, f1, f2, f3, f4, f5, f6⟩
      · exact .inl ⟨f1, h7, f2, f3, o6.trans f4, f5⟩
      · exact .inr ⟨r, v7, h7, f1, f2, f3, f4, o6.trans f5, f6⟩
    by_cases k0 : val t q 1 = 0
    · rw [decide_eq_true k0] at f0
      obtain ⟨b1, b2⟩ := bad_ q3
      rcases rest (val t q 1) 0 (adv t q 1) h3 (by unfold kd isK; simp [k0]) c3 q3 o13 p3 r3 w3 with ⟨hq, hk⟩ | ⟨hq, hk, v', h5, h6, g4, g5, r6, q6, p6, o6, w6⟩
      · exact .inl ⟨hk, _, lpr m (by simp only [↓L88n0, c1, ↓e1, ↓bldV, ↓bldV', ↓m2, ↓m2', ↓s3, ↓cP_p, ↓l3, ↓l3', f0, ↓nck_p, ↓b1, ↓b2, hq,  ↓cK_nils, ↓SD, SA, Int.ofNat_eq_natCast, Int.cast_ofNat_Int, Int.reduceBEq, Int.reduceAdd, Int.reduceNeg, Int.reduceNegSucc, Int.reduceLT, Int.reduceLE, Int.reduceMul, Int.reduceTMod, Int.reduceSub, Int.reduceBNe, Bool.not_true, Bool.not_false, decide_true, decide_false, ne_eq, not_false_eq_true, Int.reduceEq, reduceCtorEq]), ⟨_, q3⟩, o13, w3⟩
      · exact go hk (by simp only [↓L88n0, c1, ↓e1, ↓bldV, ↓bldV', ↓m2, ↓m2', ↓s3, ↓cP_p, ↓l3, ↓l3', f0, ↓nck_p, ↓b1, ↓b2, hq,  ↓d3, ↓bldR, ↓g4, ↓g5, i1, ↓SD, SA, Int.ofNat_eq_natCast, Int.cast_ofNat_Int, Int.reduceBEq, Int.reduceAdd, Int.reduceNeg, Int.reduceNegSucc, Int.reduceLT, Int.reduceLE, Int.reduceMul, Int.reduceTMod, Int.reduceSub, Int.reduceBNe, Bool.not_true, Bool.not_false, decide_true, decide_false, ne_eq, not_false_eq_true, Int.reduceEq, reduceCtorEq]) r6 q6 p6 o6 w6
    rw [decide_eq_false k0] at f0
    by_cases k1 : val t q 1 = 1
    · rw [decide_eq_true k1] at f1
      obtain ⟨b1, b2⟩ := bad_ q3
      rcases rest (val t q 1) 0 (adv t q 1) h3 (by unfold kd isK; simp [k0, k1]) c3 q3 o13 p3 r3 w3 with ⟨hq, hk⟩ | ⟨hq, hk, v', h5, h6, g4, g5, r6, q6, p6, o6, w6⟩
      · exact .inl ⟨hk, _, lpr m (by simp only [↓L88n0, c1, ↓e1, ↓bldV, ↓bldV', ↓m2, ↓m2', ↓s3, ↓cP_p, ↓l3, ↓l3', f0, f1, ↓nck_p, ↓b1, ↓b2, hq,  ↓cK_nils, ↓SD, SA, Int.ofNat_eq_natCast, Int.cast_ofNat_Int, Int.reduceBEq, Int.reduceAdd, Int.reduceNeg, Int.reduceNegSucc, Int.reduceLT, Int.reduceLE, Int.reduceMul, Int.reduceTMod, Int.reduceSub, Int.reduceBNe, Bool.not_true, Bool.not_false, decide_true, decide_false, ne_eq, not_false_eq_true, Int.reduceEq, reduceCtorEq]), ⟨_, q3⟩, o13, w3⟩
      · exact go hk (by simp only [↓L88n0, c1, ↓e1, ↓bldV, ↓bldV', ↓m2, ↓m2', ↓s3, ↓cP_p, ↓l3, ↓l3', f0, f1, ↓nck_p, ↓b1, ↓b2, hq,  ↓d3, ↓bldR, ↓g4, ↓g5, i1, ↓SD, SA, Int.ofNat_eq_natCast, Int.cast_ofNat_Int, Int.reduceBEq, Int.reduceAdd, Int.reduceNeg, Int.reduceNegSucc, Int.reduceLT, Int.reduceLE, Int.reduceMul, Int.reduceTMod, Int.reduceSub, Int.reduceBNe, Bool.not_true, Bool.not_false, decide_true, decide_false, ne_eq, not_false_eq_true, Int.reduceEq, reduceCtorEq]) r6 q6 p6 o6 w6
    rw [decide_eq_false k1] at f1
    by_cases k4 : val t q 1 = 4
    · rw [decide_eq_true k4] at f4
      obtain ⟨b1, b2⟩ := bad_ q3
      rcases rest (val t q 1) 0 (adv t q 1) h3 (by unfold kd isK; simp [k0, k1, k4]) c3 q3 o13 p3 r3 w3 with ⟨hq, hk⟩ | ⟨hq, hk, v', h5, h6, g4, g5, r6, q6, p6, o6, w6⟩
      · exact .inl ⟨hk, _, lpr m (by simp only [↓L88n0, c1, ↓e1, ↓bldV, ↓bldV', ↓m2, ↓m2', ↓s3, ↓cP_p, ↓l3, ↓l3', f0, f1, f4, ↓nck_p, ↓b1, ↓b2, hq,  ↓cK_nils, ↓SD, SA, Int.ofNat_eq_natCast, Int.cast_ofNat_Int, Int.reduceBEq, Int.reduceAdd, Int.reduceNeg, Int.reduceNegSucc, Int.reduceLT, Int.reduceLE, Int.reduceMul, Int.reduceTMod, Int.reduceSub, Int.reduceBNe, Bool.not_true, Bool.not_false, decide_true, decide_false, ne_eq, not_false_eq_true, Int.reduceEq, reduceCtorEq]), ⟨_, q3⟩, o13, w3⟩
      · exact go hk (by simp only [↓L88n0, c1, ↓e1, ↓bldV, ↓bldV', ↓m2, ↓m2', ↓s3, ↓cP_p, ↓l3, ↓l3', f0, f1, f4, ↓nck_p, ↓b1, ↓b2, hq,  ↓d3, ↓bldR, ↓g4, ↓g5, i1, ↓SD, SA, Int.ofNat_eq_natCast, Int.cast_ofNat_Int, Int.reduceBEq, Int.reduceAdd, Int.reduceNeg, Int.reduceNegSucc, Int.reduceLT, Int.reduceLE, Int.reduceMul, Int.reduceTMod, Int.reduceSub, Int.reduceBNe, Bool.not_true, Bool.not_false, decide_true, decide_false, ne_eq, not_false_eq_true, Int.reduceEq, reduceCtorEq]) r6 q6 p6 o6 w6
    rw [decide_eq_false k4] at f4
    by_cases k5 : val t q 1 = 5
    · rw [decide_eq_true k5] at f5
      obtain ⟨b1, b2⟩ := bad_ q3
      rcases rest (val t q 1) 0 (adv t q 1) h3 (by unfold kd isK; simp [k0, k1, k4, k5]) c3 q3 o13 p3 r3 w3 with ⟨hq, hk⟩ | ⟨hq, hk, v', h5, h6, g4, g5, r6, q6, p6, o6, w6⟩
      · exact .inl ⟨hk, _, lpr m (by simp only [↓L88n0, c1, ↓e1, ↓bldV, ↓bldV', ↓m2, ↓m2', ↓s3, ↓cP_p, ↓l3, ↓l3', f0, f1, f4, f5, ↓nck_p, ↓b1, ↓b2, hq,  ↓cK_nils, ↓SD, SA, Int.ofNat_eq_natCast, Int.cast_ofNat_Int, Int.reduceBEq, Int.reduceAdd, Int.reduceNeg, Int.reduceNegSucc, Int.reduceLT, Int.reduceLE, Int.reduceMul, Int.reduceTMod, Int.reduceSub, Int.reduceBNe, Bool.not_true, Bool.not_false, decide_true, decide_false, ne_eq, not_false_eq_true, Int.reduceEq, reduceCtorEq]), ⟨_, q3⟩, o13, w3⟩
      · exact go hk (by simp only [↓L88n0, c1, ↓e1, ↓bldV, ↓bldV', ↓m2, ↓m2', ↓s3, ↓cP_p, ↓l3, ↓l3', f0, f1, f4, f5, ↓nck_p, ↓b1, ↓b2, hq,  ↓d3, ↓bldR, ↓g4, ↓g5, i1, ↓SD, SA, Int.ofNat_eq_natCast, Int.cast_ofNat_Int, Int.reduceBEq, Int.reduceAdd, Int.reduceNeg, Int.reduceNegSucc, Int.reduceLT, Int.reduceLE, Int.reduceMul, Int.reduceTMod, Int.reduceSub, Int.reduceBNe, Bool.not_true, Bool.not_false, decide_true, decide_false, ne_eq, not_false_eq_true, Int.reduceEq, reduceCtorEq]) r6 q6 p6 o6 w6
    rw [decide_eq_false k5] at f5
    by_cases k6 : val t q 1 = 6
    · rw [decide_eq_true k6] at f6
      obtain ⟨b1, b2⟩ := bad_ q3
      rcases rest (val t q 1) 0 (adv t q 1) h3 (by unfold kd isK; simp [k0, k1, k4, k5, k6]) c3 q3 o13 p3 r3 w3 with ⟨hq, hk⟩ | ⟨hq, hk, v', h5, h6, g4, g5, r6, q6, p6, o6, w6⟩
      · exact .inl ⟨hk, _, lpr m (by simp only [↓L88n0, c1, ↓e1, ↓bldV, ↓bldV', ↓m2, ↓m2', ↓s3, ↓cP_p, ↓l3, ↓l3', f0, f1, f4, f5, f6, ↓nck_p, ↓b1, ↓b2, hq,  ↓cK_nils, ↓SD, SA, Int.ofNat_eq_natCast, Int.cast_ofNat_Int, Int.reduceBEq, Int.reduceAdd, Int.reduceNeg, Int.reduceNegSucc, Int.reduceLT, Int.reduceLE, Int.reduceMul, Int.reduceTMod, Int.reduceSub, Int.reduceBNe, Bool.not_true, Bool.not_false, decide_true, decide_false, ne_eq, not_false_eq_true, Int.reduceEq, reduceCtorEq]), ⟨_, q3⟩, o13, w3⟩
      · exact go hk (by simp only [↓L88n0, c1, ↓e1, ↓bldV, ↓bldV', ↓m2, ↓m2', ↓s3, ↓cP_p, ↓l3, ↓l3', f0, f1, f4, f5, f6, ↓nck_p, ↓b1, ↓b2, hq,  ↓d3, ↓bldR, ↓g4, ↓g5, i1, ↓SD, SA, Int.ofNat_eq_natCast, Int.cast_ofNat_Int, Int.reduceBEq, Int.reduceAdd, Int.reduceNeg, Int.reduceNegSucc, Int.reduceLT, Int.reduceLE, Int.reduceMul, Int.reduceTMod, Int.reduceSub, Int.reduceBNe, Bool.not_true, Bool.not_false, decide_true, decide_false, ne_eq, not_false_eq_true, Int.reduceEq, reduceCtorEq]) r6 q6 p6 o6 w6
    rw [decide_eq_false k6] at f6
    by_cases k7 : val t q 1 = 7
    · rw [decide_eq_true k7] at f7
      obtain ⟨g1, e5, q5, p1, v1⟩ := n2 q3 w3
      have nb5 := p1.nb
      have hb5 : b ≠ h1.nb := by omega
      obtain ⟨g2, s6, c6, p2, v2, y2⟩ := Ce.s v1 (c3.to p1 (fun e => hb5 (Eq.symm e))) 2 (by simp [vL]) (.int 63 (val t (adv t q 1) 2 : Int)) rfl
      have c6 : Ce g2 h1.nb (vL (val t q 1) (val t (adv t q 1) 2)) := c6
      have s6 : ∀ kk : Hp → Res, st1 g1 (.ptr h1.nb (Nat.add 0 2)) (.int 63 (val t (adv t q 1) 2 : Int)) kk = kk g2 := s6
      have s6' : ∀ kk : Hp → Res, st1 g1 (.ptr h1.nb 2) (.int 63 (val t (adv t q 1) 2 : Int)) kk = kk g2 := s6
      have d6 := fun kk => Ce.ldV c6 kk
      have q6 : CurQ g2 lo b t (adv t (adv t q 1) 2) := q5.to p2 (fun x _ hx e => by have : x = h1.nb := e; omega)
      have o36 : To (fun x => x = b ∨ N ≤ x) h3 g2 := (p1.mono fun x _ e => Or.inl e).trans (p2.mono fun x _ e => by have : x = h1.nb := e; exact .inr (by omega))
      have p6 : Pool g2 pb := p3.to o36 (fun e => by rcases e with e | e; exact hne e; omega)
      have r6 : Rws g2 (fun x => N ≤ x ∧ x < h1.nb) 3 v (l.map vP) := (r3.to p1 (fun x hx _ e => by have hx := hx.1; have : x = b := e; omega)).to p2 (fun x hx _ e => by have : x = h1.nb := e; have := hx.2; omega)
      have o16 := o13.trans o36
      have l6 : ∀ kk : AV → Res, ld1 g2 (.ptr h1.nb (Nat.add 0 2)) kk = kk (.int 63 (val t (adv t q 1) 2 : Int)) := fun kk => Ce.l c6 2 (by simp [vL]) kk
      have l6' : ∀ kk : AV → Res, ld1 g2 (.ptr h1.nb 2) kk = kk (.int 63 (val t (adv t q 1) 2 : Int)) := l6
      have e7 := t109 p6 (val t (adv t q 1) 2)
      cases hC : isC (val t (adv t q 1) 2) with
      | false =>
        rw [hC] at e7
        refine .inl ⟨?_, g2, lpr m (by simp only [↓L88n0, c1, ↓e1, ↓bldV, ↓bldV', ↓m2, ↓m2', ↓s3, ↓cP_p, ↓l3, ↓l3', f0, f1, f4, f5, f6, f7, ↓e5, ↓s6, ↓s6', ↓l6, ↓l6', ↓e7, ↓cK_nm, nth_z, nth_1, ↓cK_nils, ↓SD, SA, Int.ofNat_eq_natCast, Int.cast_ofNat_Int, Int.reduceBEq, Int.reduceAdd, Int.reduceNeg, Int.reduceNegSucc, Int.reduceLT, Int.reduceLE, Int.reduceMul, Int.reduceTMod, Int.reduceSub, Int.reduceBNe, Bool.not_true, Bool.not_false, decide_true, decide_false, ne_eq, not_false_eq_true, Int.reduceEq, reduceCtorEq]), ⟨_, q6⟩, o16, v2⟩
        have ek : kd t q = ((val t q 1, val t (adv t q 1) 2), false, adv t (adv t q 1) 2) := by unfold kd isK; simp [k7, hC]
        have hkd : kds t (n + 1) q l = if (kd t q).2.1 = true ∧ (kd t q).2.2.2 = false then kds t n (kd t q).2.2 (l ++ [(kd t q).1]) else none := rfl
        rw [hkd, ek]; exact if_neg (fun hh => by cases hh.1)
      | true =>
        rw [hC] at e7
        obtain ⟨b1, b2⟩ := bad_ q6
        rcases rest (val t q 1) (val t (adv t q 1) 2) (adv t (adv t q 1) 2) g2 (by unfold kd isK; simp [k0, k1, k4, k5, k6, k7, hC]) c6 q6 o16 p6 r6 v2 with ⟨hq, hk⟩ | ⟨hq, hk, v', h5, h6, g4, g5, r8, q8, p8, o8, w8⟩
        · exact .inl ⟨hk, _, lpr m (by simp only [↓L88n0, c1, ↓e1, ↓bldV, ↓bldV', ↓m2, ↓m2', ↓s3, ↓cP_p, ↓l3, ↓l3', f0, f1, f4, f5, f6, f7, ↓e5, ↓s6, ↓s6', ↓l6, ↓l6', ↓e7, ↓cK_nm, nth_z, nth_1, ↓nck_p, ↓b1, ↓b2, hq,  ↓cK_nils, ↓SD, SA, Int.ofNat_eq_natCast, Int.cast_ofNat_Int, Int.reduceBEq, Int.reduceAdd, Int.reduceNeg, Int.reduceNegSucc, Int.reduceLT, Int.reduceLE, Int.reduceMul, Int.reduceTMod, Int.reduceSub, Int.reduceBNe, Bool.not_true, Bool.not_false, decide_true, decide_false, ne_eq, not_false_eq_true, Int.reduceEq, reduceCtorEq]), ⟨_, q6⟩, o16, v2⟩
        · exact go hk (by simp only [↓L88n0, c1, ↓e1, ↓bldV, ↓bldV', ↓m2, ↓m2', ↓s3, ↓cP_p, ↓l3, ↓l3', f0, f1, f4, f5, f6, f7, ↓e5, ↓s6, ↓s6', ↓l6, ↓l6', ↓e7, ↓cK_nm, nth_z, nth_1, ↓nck_p, ↓b1, ↓b2, hq,  ↓d6, ↓bldR, ↓g4, ↓g5, i1, ↓SD, SA, Int.ofNat_eq_natCast, Int.cast_ofNat_Int, Int.reduceBEq, Int.reduceAdd, Int.reduceNeg, Int.reduceNegSucc, Int.reduceLT, Int.reduceLE, Int.reduceMul, Int.reduceTMod, Int.reduceSub, Int.reduceBNe, Bool.not_true, Bool.not_false, decide_true, decide_false, ne_eq, not_false_eq_true, Int.reduceEq, reduceCtorEq]) r8 q8 p8 o8 w8
    rw [decide_eq_false k7] at f7
    by_cases k8 : val t q 1 = 8
    · rw [decide_eq_true k8] at f8
      obtain ⟨g1, e5, q5, p1, v1⟩ := n2 q3 w3
      have nb5 := p1.nb
      have hb5 : b ≠ h1.nb := by omega
      obtain ⟨g2, s6, c6, p2, v2, y2⟩ := Ce.s v1 (c3.to p1 (fun e => hb5 (Eq.symm e))) 2 (by simp [vL]) (.int 63 (val t (adv t q 1) 2 : Int)) rfl
      have c6 : Ce g2 h1.nb (vL (val t q 1) (val t (adv t q 1) 2)) := c6
      have s6 : ∀ kk : Hp → Res, st1 g1 (.ptr h1.nb (Nat.add 0 2)) (.int 63 (val t (adv t q 1) 2 : Int)) kk = kk g2 := s6
      have s6' : ∀ kk : Hp → Res, st1 g1 (.ptr h1.nb 2) (.int 63 (val t (adv t q 1) 2 : Int)) kk = kk g2 := s6
      have d6 := fun kk => Ce.ldV c6 kk
      have q6 : CurQ g2 lo b t (adv t (adv t q 1) 2) := q5.to p2 (fun x _ hx e => by have : x = h1.nb := e; omega)
      have o36 : To (fun x => x = b ∨ N ≤ x) h3 g2 := (p1.mono fun x _ e => Or.inl e).trans (p2.mono fun x _ e => by have : x = h1.nb := e; exact .inr (by omega))
      have p6 : Pool g2 pb := p3.to o36 (fun e => by rcases e with e | e; exact hne e; omega)
      have r6 : Rws g2 (fun x => N ≤ x ∧ x < h1.nb) 3 v (l.map vP) := (r3.to p1 (fun x hx _ e => by have hx := hx.1; have : x = b := e; omega)).to p2 (fun x hx _ e => by have : x = h1.nb := e; have := hx.2; omega)
      have o16 := o13.trans o36
      obtain ⟨b1, b2⟩ := bad_ q6
      rcases rest (val t q 1) (val t (adv t q 1) 2) (adv t (adv t q 1) 2) g2 (by unfold kd isK; simp [k0, k1, k4, k5, k6, k7, k8]) c6 q6 o16 p6 r6 v2 with ⟨hq, hk⟩ | ⟨hq, hk, v', h5, h6, g4, g5, r8, q8, p8, o8, w8⟩
      · exact .inl ⟨hk, _, lpr m (by simp only [↓L88n0, c1, ↓e1, ↓bldV, ↓bldV', ↓m2, ↓m2', ↓s3, ↓cP_p, ↓l3, ↓l3', f0, f1, f4, f5, f6, f7, f8, ↓e5, ↓s6, ↓s6', ↓nck_p, ↓b1, ↓b2, hq,  ↓cK_nils, ↓SD, SA, Int.ofNat_eq_natCast, Int.cast_ofNat_Int, Int.reduceBEq, Int.reduceAdd, Int.reduceNeg, Int.reduceNegSucc, Int.reduceLT, Int.reduceLE, Int.reduceMul, Int.reduceTMod, Int.reduceSub, Int.reduceBNe, Bool.not_true, Bool.not_false, decide_true, decide_false, ne_eq, not_false_eq_true, Int.reduceEq, reduceCtorEq]), ⟨_, q6⟩, o16, v2⟩
      · exact go hk (by simp only [↓L88n0, c1, ↓e1, ↓bldV, ↓bldV', ↓m2, ↓m2', ↓s3, ↓cP_p, ↓l3, ↓l3', f0, f1, f4, f5, f6, f7, f8, ↓e5, ↓s6, ↓s6', ↓nck_p, ↓b1, ↓b2, hq,  ↓d6, ↓bldR, ↓g4, ↓g5, i1, ↓SD, SA, Int.ofNat_eq_natCast, Int.cast_ofNat_Int, Int.reduceBEq, Int.reduceAdd, Int.reduceNeg, Int.reduceNegSucc, Int.reduceLT, Int.reduceLE, Int.reduceMul, Int.reduceTMod, Int.reduceSub, Int.reduceBNe, Bool.not_true, Bool.not_false, decide_true, decide_false, ne_eq, not_false_eq_true, Int.reduceEq, reduceCtorEq]) r8 q8 p8 o8 w8
    rw [decide_eq_false k8] at f8
    refine .inl ⟨?_, h3, lpr m (by simp only [↓L88n0, c1, ↓e1, ↓bldV, ↓bldV', ↓m2, ↓m2', ↓s3, ↓cP_p, ↓l3, ↓l3', f0, f1, f4, f5, f6, f7, f8, ↓cK_nils, ↓SD, SA, Int.ofNat_eq_natCast, Int.cast_ofNat_Int, Int.reduceBEq, Int.reduceAdd, Int.reduceNeg, Int.reduceNegSucc, Int.reduceLT, Int.reduceLE, Int.reduceMul, Int.reduceTMod, Int.reduceSub, Int.reduceBNe, Bool.not_true, Bool.not_false, decide_true, decide_false, ne_eq, not_false_eq_true, Int.reduceEq, reduceCtorEq]), ⟨_, q3⟩, o13, w3⟩
    have ek : kd t q = ((val t q 1, 0), false, adv t q 1) := by unfold kd isK; simp [k0, k1, k4, k5, k6, k7, k8]
    have hkd : kds t (n + 1) q l = if (kd t q).2.1 = true ∧ (kd t q).2.2.2 = false then kds t n (kd t q).2.2 (l ++ [(kd t q).1]) else none := rfl
    rw [hkd, ek]; exact if_neg (fun hh => by cases hh.1)
theorem t88 {h : Hp} {lo b pb : Nat} {t : List Nat} {q : Sq} (hc : CurQ h lo b t q) (hp : Pool h pb) (hne : pb ≠ b) (hw : Wf h) (n : Nat) (hn : n ≤ 70000) :
    (kds t n q [] = none ∧ ∃ h', s88 [.ptr b 0, plv pb, .int 63 (n : Int)] h = .ret nilF h' ∧ (∃ q', CurQ h' lo b t q') ∧ To (At b) h h' ∧ Wf h') ∨
    (∃ r v' h', kds t n q [] = some r ∧ s88 [.ptr b 0, plv pb, .int 63 (n : Int)] h = .ret (.tup (.cons v' (.cons (.bool true) .nil))) h' ∧ Rws h' (fun x => h.nb ≤ x) 3 v' (r.1.map vP) ∧ CurQ h' lo b t r.2 ∧ To (At b) h h' ∧ Wf h') := by
  have hb : b < h.nb := by obtain ⟨B, v, o, r⟩ := hc.own; exact o.lt
  have fin : ∀ {g : Hp}, To (fun x => x = b ∨ h.nb ≤ x) h g → To (At b) h g := fun tt => tt.mono fun x hx e => by
    rcases e with e | e
    · exact e
    · omega
  have e0 : ∀ _ : Nat, s88 [.ptr b 0, plv pb, .int 63 (n : Int)] h = blk 0 (lp L88n0 most [.ptr b 0, plv pb, .int 63 (n : Int), .nils] h) fun w62 h63 => uc w62 fun v64 _ => cK v64 fun v65 => cK (.bool true) fun v66 => .ret (.tup (.cons v65 (.cons v66 .nil))) h63 := fun _ => rfl
  have hm : n < most := by unfold most; omega
  rcases loop88 hb (Ce.lt hp) hne n 0 most q [] .nils h hm (by omega) (Nat.le_refl _) (Nat.le_refl _) hw hc hp (Rws.nil _ _ _) with ⟨f1, h', f2, f3, f4, f5⟩ | ⟨r, v', h', f1, f2, f3, f4, f5, f6⟩
  · refine .inl ⟨f1, h', ?_, f3, fin f4, f5⟩
    rw [e0 0, f2]; rfl
  · refine .inr ⟨r, v', h', f1, ?_, f3, f4, fin f5, f6⟩
    rw [e0 0, f2]
    show (cK v' fun v65 => cK (.bool true) fun v66 => .ret (.tup (.cons v65 (.cons v66 .nil))) h') = _
    rw [f3.cK]; rfl
end Go.Proofs.Ytnpfppddongbhaa
end

section
namespace Go.Proofs.Ytnpfppddongbhaa
open Go Go.AM
set_option autoImplicit false
/-! ### an entry -/
structure Mv where
  tag : Nat
  delta : Nat
  loc : List (Nat × Nat)
  stk : List (Nat × Nat)
noncomputable def mL (g d : Nat) (vl vs : AV) : List AV := [.int 63 (g : Int), .int 63 (d : Int), vl, vs]
theorem mL_one {g d : Nat} {vl vs : AV} (h1 : one vl = true) (h2 : one vs = true) : ∀ x ∈ mL g d vl vs, one x = true := by
  intro x hx
  simp only [mL, List.mem_cons, List.not_mem_nil, or_false] at hx
  rcases hx with rfl | rfl | rfl | rfl
  · rfl
  · rfl
  · exact h1
  · exact h2
theorem eqA_int (c : Nat) (n : Int) : eqAV (.int c n) (.int c n) = true := band_t ((beq_iff c c).2 rfl) (eqI_self n)
theorem Rws.eqA {h : Hp} {P : Nat → Prop} {n : Nat} {v : AV} {rs : List (List AV)} (hg : Rws h P n v rs) (hn : 0 < n) : eqAV v v = true := by
  rcases hg.2 with ⟨rfl, rfl⟩ | ⟨b, B, rfl, -⟩
  · rfl
  · have e : eqAV (.sl b 0 rs.length n none) (.sl b 0 rs.length n none) = bAnd (Nat.beq b b) (bAnd (Nat.beq 0 0) (bAnd (Nat.beq rs.length rs.length) (bAnd (Nat.beq n n) (Nat.blt 0 n)))) := rfl
    rw [e, (beq_iff b b).2 rfl, (beq_iff rs.length rs.length).2 rfl, (beq_iff n n).2 rfl, (blt_iff 0 n).2 hn]; rfl
theorem nil_eqA : eqAV .nils .nils = true := rfl
theorem same_mL {g d : Nat} {vl vs : AV} (h1 : eqAV vl vl = true) (h2 : eqAV vs vs = true) (k : Res) : same (.agg (avL (mL g d vl vs))) (.agg (avL (mL g d vl vs))) k = k := by
  have e : eqAV (.agg (avL (mL g d vl vs))) (.agg (avL (mL g d vl vs))) = bAnd (eqAV (.int 63 (g : Int)) (.int 63 (g : Int))) (bAnd (eqAV (.int 63 (d : Int)) (.int 63 (d : Int))) (bAnd (eqAV vl vl) (bAnd (eqAV vs vs) true))) := rfl
  have e2 : same (.agg (avL (mL g d vl vs))) (.agg (avL (mL g d vl vs))) k = ifB (eqAV (.agg (avL (mL g d vl vs))) (.agg (avL (mL g d vl vs)))) k .fail := rfl
  rw [e2, e, eqA_int, eqA_int, h1, h2]; rfl
def fn (m : Mv) (q : Sq) : Option (Mv × Sq) := if q.2 = false then some (m, q) else none
/-- An entry, and where the cursor is then; none: it is none. -/
def en (t : List Nat) (q : Sq) : Option (Mv × Sq) :=
  if val t q 1 < 64 then fn ⟨val t q 1, val t q 1, [], []⟩ (adv t q 1)
  else if val t q 1 < 128 then (match kds t 1 (adv t q 1) [] with | none => none | some r => fn ⟨val t q 1, val t q 1 - 64, [], r.1⟩ r.2)
  else if val t q 1 < 247 then none
  else if val t q 1 = 247 then (match kds t 1 (adv t (adv t q 1) 2) [] with | none => none | some r => fn ⟨val t q 1, val t (adv t q 1) 2, [], r.1⟩ r.2)
  else if val t q 1 < 252 then fn ⟨val t q 1, val t (adv t q 1) 2, [], []⟩ (adv t (adv t q 1) 2)
  else if val t q 1 < 255 then (match kds t (val t q 1 - 251) (adv t (adv t q 1) 2) [] with | none => none | some r => fn ⟨val t q 1, val t (adv t q 1) 2, r.1, []⟩ r.2)
  else (match kds t (val t (adv t (adv t q 1) 2) 2) (adv t (adv t (adv t q 1) 2) 2) [] with | none => none | some r => (match kds t (val t r.2 2) (adv t r.2 2) [] with | none => none | some s => fn ⟨val t q 1, val t (adv t q 1) 2, r.1, s.1⟩ s.2))
theorem bldM (g : Nat) (k : AV → Res) : bld [(false, 1, (.int 63 (g : Int))), (false, 1, (.int 63 (.ofNat 0))), (false, 1, .nils), (false, 1, .nils)] k = k (avL (mL g 0 .nils .nils)) := of_eq_true (eq_self _)
theorem bldM' (g : Nat) (k : AV → Res) : bld [(false, 1, (.int 63 (g : Int))), (false, 1, (.int 63 0)), (false, 1, .nils), (false, 1, .nils)] k = k (avL (mL g 0 .nils .nils)) := of_eq_true (eq_self _)
theorem bldMT (g d : Nat) (vl vs : AV) (f : AV → Res) : bld [(true, 4, .agg (avL (mL g d vl vs)))] f = f (avL (mL g d vl vs)) := of_eq_true (eq_self _)
section
variable {h : Hp} {lo b pb : Nat} {t : List Nat} {q : Sq}
theorem mkM0 (hw : Wf h) : ∃ h', (∀ k : AV → Hp → Res, mk h (.cons (.int 63 (.ofNat 0)) (.cons (.int 63 (.ofNat 0)) (.cons .nils (.cons .nils .nil)))) k = k (.ptr h.nb 0) h') ∧ (∀ k : AV → Hp → Res, mk h (.cons (.int 63 0) (.cons (.int 63 0) (.cons .nils (.cons .nils .nil)))) k = k (.ptr h.nb 0) h') ∧ Ce h' h.nb (mL 0 0 .nils .nils) ∧ To No h h' ∧ Wf h' ∧ h'.nb = h.nb + 1 := by
  obtain ⟨h', m1, r⟩ := ce_mk hw (mL 0 0 .nils .nils) (mL_one rfl rfl)
  exact ⟨h', fun k => m1 k, fun k => m1 k, r⟩
theorem Ce.stM {b : Nat} {g0 d0 : Nat} {v0 w0 : AV} (hw : Wf h) (hc : Ce h b (mL g0 d0 v0 w0)) (g d : Nat) {vl vs : AV} (h1 : one vl = true) (h2 : one vs = true) : ∃ h', (∀ kk : Hp → Res, stN h 4 (.ptr b 0) (.agg (avL (mL g d vl vs))) kk = kk h') ∧ Ce h' b (mL g d vl vs) ∧ To (At b) h h' ∧ Wf h' ∧ h'.nb = h.nb := Ce.st hw hc (mL g d vl vs) rfl (mL_one h1 h2)
theorem Ce.ldM {b : Nat} {g d : Nat} {vl vs : AV} (hc : Ce h b (mL g d vl vs)) (kk : AV → Res) : ldN h 4 (.ptr b 0) kk = kk (.agg (avL (mL g d vl vs))) := Ce.ld hc kk
/-- The fields of an entry's variable: read. -/
theorem Ce.lM {b : Nat} {g d : Nat} {vl vs : AV} (hc : Ce h b (mL g d vl vs)) : (∀ kk : AV → Res, ld1 h (.ptr b (Nat.add 0 0)) kk = kk (.int 63 (g : Int))) ∧ (∀ kk : AV → Res, ld1 h (.ptr b 0) kk = kk (.int 63 (g : Int))) :=
  ⟨fun kk => Ce.l hc 0 (by simp [mL]) kk, fun kk => Ce.l hc 0 (by simp [mL]) kk⟩
theorem Ce.sD {b : Nat} {g d : Nat} {vl vs : AV} (hw : Wf h) (hc : Ce h b (mL g d vl vs)) (d' : Nat) : ∃ h', (∀ kk : Hp → Res, st1 h (.ptr b (Nat.add 0 1)) (.int 63 (d' : Int)) kk = kk h') ∧ (∀ kk : Hp → Res, st1 h (.ptr b 1) (.int 63 (d' : Int)) kk = kk h') ∧ Ce h' b (mL g d' vl vs) ∧ To (At b) h h' ∧ Wf h' ∧ h'.nb = h.nb := by
  obtain ⟨h', s, c, r⟩ := Ce.s hw hc 1 (by simp [mL]) (.int 63 (d' : Int)) rfl
  exact ⟨h', s, s, c, r⟩
theorem Ce.sL {b : Nat} {g d : Nat} {vl vs : AV} (hw : Wf h) (hc : Ce h b (mL g d vl vs)) (v : AV) (hv : one v = true) : ∃ h', (∀ kk : Hp → Res, st1 h (.ptr b (Nat.add 0 2)) v kk = kk h') ∧ (∀ kk : Hp → Res, st1 h (.ptr b 2) v kk = kk h') ∧ Ce h' b (mL g d v vs) ∧ To (At b) h h' ∧ Wf h' ∧ h'.nb = h.nb := by
  obtain ⟨h', s, c, r⟩ := Ce.s hw hc 2 (by simp [mL]) v hv
  exact ⟨h', s, s, c, r⟩
theorem Ce.sS {b : Nat} {g d : Nat} {vl vs : AV} (hw : Wf h) (hc : Ce h b (mL g d vl vs)) (v : AV) (hv : one v = true) : ∃ h', (∀ kk : Hp → Res, st1 h (.ptr b (Nat.add 0 3)) v kk = kk h') ∧ (∀ kk : Hp → Res, st1 h (.ptr b 3) v kk = kk h') ∧ Ce h' b (mL g d vl v) ∧ To (At b) h h' ∧ Wf h' ∧ h'.nb = h.nb := by
  obtain ⟨h', s, c, r⟩ := Ce.s hw hc 3 (by simp [mL]) v hv
  exact ⟨h', s, s, c, r⟩
end
end Go.Proofs.Ytnpfppddongbhaa
end

section
namespace Go.Proofs.Ytnpfppddongbhaa
open Go Go.AM
set_option autoImplicit false
theorem t87 {h : Hp} {lo b pb : Nat} {t : List Nat} {q : Sq} (hc : CurQ h lo b t q) (hp : Pool h pb) (hpb : pb ≠ b) (hw : Wf h) :
    (en t q = none ∧ ∃ g d vl vs h', one vl = true ∧ one vs = true ∧ s87 [.ptr b 0, plv pb] h = .ret (.tup (.cons (.agg (avL (mL g d vl vs))) (.cons (.bool false) .nil))) h' ∧ To (At b) h h' ∧ Wf h') ∨
    (∃ r vl vs h', en t q = some r ∧ s87 [.ptr b 0, plv pb] h = .ret (.tup (.cons (.agg (avL (mL r.1.tag r.1.delta vl vs))) (.cons (.bool true) .nil))) h' ∧ Rws h' (fun x => h.nb ≤ x) 3 vl (r.1.loc.map vP) ∧ Rws h' (fun x => h.nb ≤ x) 3 vs (r.1.stk.map vP) ∧ CurQ h' lo b t r.2 ∧ To (At b) h h' ∧ Wf h') := by
  have hb : b < h.nb := by obtain ⟨B, v, o, r⟩ := hc.own; exact o.lt
  have hpl := Ce.lt hp
  have hbyt := hc.byt
  obtain ⟨h1, m1, m1', c1, o1, w1, x1⟩ := mkM0 hw
  obtain ⟨h2, e2, q2, o2, w2⟩ := u1 (hc.to o1 (fun _ _ _ f => f)) w1
  obtain ⟨h3, m3, m3', c3, o3, w3, x3⟩ := mkM0 w2
  obtain ⟨h4, s4, c4, o4, w4, x4⟩ := Ce.stM w3 c3 (val t q 1) 0 (vl := .nils) (vs := .nils) rfl rfl
  have nb2 := o2.nb
  have q4 : CurQ h4 lo b t (adv t q 1) := (q2.to o3 (fun _ _ _ f => f)).to o4 (fun x _ hx e => by have : x = h2.nb := e; omega)
  have z4 : Ce h4 h.nb (mL 0 0 .nils .nils) := ((c1.to o2 (fun e => by have : h.nb = b := e; omega)).to o3 (fun f => f)).to o4 (fun e => by have : h.nb = h2.nb := e; omega)
  have o14 : To (fun x => x = b ∨ h.nb ≤ x) h h4 := (((o1.mono fun _ _ f => f.elim).trans (o2.mono fun x _ e => .inl e)).trans (o3.mono fun _ _ f => f.elim)).trans (o4.mono fun x _ e => by have : x = h2.nb := e; exact .inr (by omega))
  have fin : ∀ {g : Hp}, To (fun x => x = b ∨ h.nb ≤ x) h g → To (At b) h g := fun tt => tt.mono fun x hx e => by
    rcases e with e | e
    · exact e
    · omega
  have p4 : Pool h4 pb := hp.to o14 (fun e => by rcases e with e | e; exact hpb e; omega)
  obtain ⟨l4, l4'⟩ := Ce.lM c4
  have g256 : val t q 1 < 256 := val_lt hbyt q 1
  have gp : gsel (.bool true) true (.ptr b 0) = .ptr b 0 := rfl
  have gb_ : ∀ x : Bool, gsel (.bool true) true (.bool x) = .bool x := fun x => rfl
  by_cases k64 : val t q 1 < 64
  · have i64 : ((val t q 1 : Nat) : Int) < 64 := by omega
    obtain ⟨g1, s2, s2', c3, t4, w5, y6⟩ := Ce.sD w4 c4 (val t q 1)
    have q7 := q4.to t4 (fun x _ hx e => by have : x = h2.nb := e; omega)
    have z8 := z4.to t4 (fun e => by have : h.nb = h2.nb := e; omega)
    have o9 := o14.trans (t4.mono fun x _ e => by have : x = h2.nb := e; exact Or.inr (by omega))
    have p10 : Pool g1 pb := p4.to t4 (fun e => by have : pb = h2.nb := e; omega)
    have e11 := t30 q7
    have d12 := fun kk => Ce.ldM c3 kk
    obtain ⟨g13, s14, c15, t16, w17, y18⟩ := Ce.stM w5 z8 (val t q 1) (val t q 1) (vl := .nils) (vs := .nils) rfl rfl
    have d19 := fun kk => Ce.ldM c15 kk
    have sm20 := fun kk => same_mL (g := (val t q 1)) (d := (val t q 1)) nil_eqA nil_eqA kk
    have fo21 : To (fun x => x = b ∨ h.nb ≤ x) h g13 := o9.trans (t16.mono fun x _ e => by have : x = h.nb := e; exact Or.inr (by omega))
    have he22 : en t q = fn ⟨(val t q 1), (val t q 1), [], []⟩ (adv t q 1) := by unfold en; rw [if_pos k64]
    cases hq : (adv t q 1).2 with
    | true =>
      rw [hq] at e11
      refine .inl ⟨by rw [he22]; unfold fn; rw [hq]; rfl, (val t q 1), (val t q 1), .nils, .nils, g13, rfl, rfl, ?_, fin fo21, w17⟩
      simp only [↓s87, ↓m1, ↓m1', ↓e2, ↓bldM, ↓bldM', ↓m3, ↓m3', ↓s4, ↓cP_p, ↓l4, ↓l4', i64, ↓s2, ↓s2', ↓d12, ↓gp, ↓gb_, ↓e11, ↓sm20, ↓s14, ↓d19, ↓cK_agg, ↓cK_nils, nth_z, nth_1, Bool.not_true, Bool.not_false, ↓SD, SA, Int.ofNat_eq_natCast, Int.cast_ofNat_Int, Int.reduceBEq, Int.reduceAdd, Int.reduceNeg, Int.reduceNegSucc, Int.reduceLT, Int.reduceLE, Int.reduceMul, Int.reduceTMod, Int.reduceSub, Int.reduceBNe, Bool.not_true, Bool.not_false, decide_true, decide_false, ne_eq, not_false_eq_true, Int.reduceEq, reduceCtorEq]
    | false =>
      rw [hq] at e11
      refine .inr ⟨(⟨(val t q 1), (val t q 1), [], []⟩, (adv t q 1)), .nils, .nils, g13, by rw [he22]; unfold fn; rw [hq]; rfl, ?_, (Rws.nil _ _ _), (Rws.nil _ _ _), q7.to t16 (fun x _ hx e => by have : x = h.nb := e; omega), fin fo21, w17⟩
      simp only [↓s87, ↓m1, ↓m1', ↓e2, ↓bldM, ↓bldM', ↓m3, ↓m3', ↓s4, ↓cP_p, ↓l4, ↓l4', i64, ↓s2, ↓s2', ↓d12, ↓gp, ↓gb_, ↓e11, ↓sm20, ↓s14, ↓d19, ↓cK_agg, ↓cK_nils, nth_z, nth_1, Bool.not_true, Bool.not_false, ↓SD, SA, Int.ofNat_eq_natCast, Int.cast_ofNat_Int, Int.reduceBEq, Int.reduceAdd, Int.reduceNeg, Int.reduceNegSucc, Int.reduceLT, Int.reduceLE, Int.reduceMul, Int.reduceTMod, Int.reduceSub, Int.reduceBNe, Bool.not_true, Bool.not_false, decide_true, decide_false, ne_eq, not_false_eq_true, Int.reduceEq, reduceCtorEq]
  have i64 : ¬ ((val t q 1 : Nat) : Int) < 64 := by omega
  by_cases k128 : val t q 1 < 128
  · have i128 : ((val t q 1 : Nat) : Int) < 128 := by omega
    have u64 : wrapC 63 (((val t q 1 : Nat) : Int) - 64) = ((val t q 1 - 64 : Nat) : Int) := by rw [w63_in _ (by omega) (by omega)]; omega
    obtain ⟨g23, s24, s24', c25, t26, w27, y28⟩ := Ce.sD w4 c4 (val t q 1 - 64)
    have q29 := q4.to t26 (fun x _ hx e => by have : x = h2.nb := e; omega)
    have z30 := z4.to t26 (fun e => by have : h.nb = h2.nb := e; omega)
    have o31 := o14.trans (t26.mono fun x _ e => by have : x = h2.nb := e; exact Or.inr (by omega))
    have p32 : Pool g23 pb := p4.to t26 (fun e => by have : pb = h2.nb := e; omega)
    have lt33 := Ce.lt c25
    rcases t108 q29 p32 hpb w27 1 (by omega) with ⟨kn34, g35, e36, ⟨qx37, q38⟩, t39, w40⟩ | ⟨⟨l41, qq42⟩, vv43, g35, ks44, e36, r45, q38, t39, w40⟩
    ·
      have e36' : s108 [.ptr b 0, plv pb, .int 63 1] g23 = .ret nilF g35 := e36
      have z46 := z30.to t39 (fun e => by have : h.nb = b := e; omega)
      have c47 := c25.to t39 (fun e => by have : h2.nb = b := e; omega)
      have o48 := o31.trans (t39.mono fun x _ e => Or.inl e)
      have p49 : Pool g35 pb := p32.to t39 (fun e => hpb e)
      obtain ⟨g50, s51, s51', c52, t53, w54, y55⟩ := Ce.sS w40 c47 .nils rfl
      have q56 := q38.to t53 (fun x _ hx e => by have : x = h2.nb := e; omega)
      have z57 := z46.to t53 (fun e => by have : h.nb = h2.nb := e; omega)
      have o58 := o48.trans (t53.mono fun x _ e => by have : x = h2.nb := e; exact Or.inr (by omega))
      have p59 : Pool g50 pb := p49.to t53 (fun e => by have : pb = h2.nb := e; omega)
      have d60 := fun kk => Ce.ldM c52 kk
      obtain ⟨g61, s62, c63, t64, w65, y66⟩ := Ce.stM w54 z57 (val t q 1) (val t q 1 - 64) (vl := .nils) (vs := .nils) rfl rfl
      have d67 := fun kk => Ce.ldM c63 kk
      have sm68 := fun kk => same_mL (g := (val t q 1)) (d := (val t q 1 - 64)) nil_eqA nil_eqA kk
      have fo69 : To (fun x => x = b ∨ h.nb ≤ x) h g61 := o58.trans (t64.mono fun x _ e => by have : x = h.nb := e; exact Or.inr (by omega))
      refine .inl ⟨by unfold en; rw [if_neg k64, if_pos k128, kn34], (val t q 1), (val t q 1 - 64), .nils, .nils, g61, rfl, rfl, ?_, fin fo69, w65⟩
      simp only [↓s87, ↓m1, ↓m1', ↓e2, ↓bldM, ↓bldM', ↓m3, ↓m3', ↓s4, ↓cP_p, ↓l4, ↓l4', i64, i128, u64, ↓s24, ↓s24', ↓e36, ↓e36', ↓s51, ↓s51', ↓d60, ↓gp, ↓gb_, ↓sm68, ↓s62, ↓d67, ↓cK_agg, ↓cK_nils, nth_z, nth_1, ↓SD, SA, Int.ofNat_eq_natCast, Int.cast_ofNat_Int, Int.reduceBEq, Int.reduceAdd, Int.reduceNeg, Int.reduceNegSucc, Int.reduceLT, Int.reduceLE, Int.reduceMul, Int.reduceTMod, Int.reduceSub, Int.reduceBNe, Bool.not_true, Bool.not_false, decide_true, decide_false, ne_eq, not_false_eq_true, Int.reduceEq, reduceCtorEq]
    ·
      have r45 : Rws g35 (fun x => g23.nb ≤ x) 3 vv43 (l41.map vP) := r45
      have q38 : CurQ g35 lo b t qq42 := q38
      have e36' : s108 [.ptr b 0, plv pb, .int 63 1] g23 = .ret (.tup (.cons vv43 (.cons (.bool true) .nil))) g35 := e36
      have z70 := z30.to t39 (fun e => by have : h.nb = b := e; omega)
      have c71 := c25.to t39 (fun e => by have : h2.nb = b := e; omega)
      have o72 := o31.trans (t39.mono fun x _ e => Or.inl e)
      have p73 : Pool g35 pb := p32.to t39 (fun e => hpb e)
      have ck74 := fun kk => r45.cK kk
      have on75 := r45.one
      have ea76 := Rws.eqA r45 (by decide)
      obtain ⟨g77, s78, s78', c79, t80, w81, y82⟩ := Ce.sS w40 c71 vv43 on75
      have q83 := q38.to t80 (fun x _ hx e => by have : x = h2.nb := e; omega)
      have z84 := z70.to t80 (fun e => by have : h.nb = h2.nb := e; omega)
      have o85 := o72.trans (t80.mono fun x _ e => by have : x = h2.nb := e; exact Or.inr (by omega))
      have p86 : Pool g77 pb := p73.to t80 (fun e => by have : pb = h2.nb := e; omega)
      have r87 := r45.to t80 (fun x hx _ e => by have hx : g23.nb ≤ x := hx; have : x = h2.nb := e; omega)
      have e88 := t30 q83
      have d89 := fun kk => Ce.ldM c79 kk
      obtain ⟨g90, s91, c92, t93, w94, y95⟩ := Ce.stM w81 z84 (val t q 1) (val t q 1 - 64) (vl := .nils) (vs := vv43) rfl on75
      have d96 := fun kk => Ce.ldM c92 kk
      have sm97 := fun kk => same_mL (g := (val t q 1)) (d := (val t q 1 - 64)) nil_eqA ea76 kk
      have fo98 : To (fun x => x = b ∨ h.nb ≤ x) h g90 := o85.trans (t93.mono fun x _ e => by have : x = h.nb := e; exact Or.inr (by omega))
      have he99 : en t q = fn ⟨(val t q 1), (val t q 1 - 64), [], l41⟩ qq42 := by unfold en; rw [if_neg k64, if_pos k128, ks44]
      cases hq : qq42.2 with
      | true =>
        rw [hq] at e88
        refine .inl ⟨by rw [he99]; unfold fn; rw [hq]; rfl, (val t q 1), (val t q 1 - 64), .nils, vv43, g90, rfl, on75, ?_, fin fo98, w94⟩
        simp only [↓s87, ↓m1, ↓m1', ↓e2, ↓bldM, ↓bldM', ↓m3, ↓m3', ↓s4, ↓cP_p, ↓l4, ↓l4', i64, i128, u64, ↓s24, ↓s24', ↓e36, ↓e36', ↓ck74, ↓s78, ↓s78', ↓d89, ↓gp, ↓gb_, ↓e88, ↓sm97, ↓s91, ↓d96, ↓cK_agg, ↓cK_nils, nth_z, nth_1, Bool.not_true, Bool.not_false, ↓SD, SA, Int.ofNat_eq_natCast, Int.cast_ofNat_Int, Int.reduceBEq, Int.reduceAdd, Int.reduceNeg, Int.reduceNegSucc, Int.reduceLT, Int.reduceLE, Int.reduceMul, Int.reduceTMod, Int.reduceSub, Int.reduceBNe, Bool.not_true, Bool.not_false, decide_true, decide_false, ne_eq, not_false_eq_true, Int.reduceEq, reduceCtorEq]
      | false =>
        rw [hq] at e88
        refine .inr ⟨(⟨(val t q 1), (val t q 1 - 64), [], l41⟩, qq42), .nils, vv43, g90, by rw [he99]; unfold fn; rw [hq]; rfl, ?_, (Rws.nil _ _ _), ((r87.to t93 (fun x hx _ e => by have hx : g23.nb ≤ x := hx; have : x = h.nb := e; omega)).mono fun x hx _ => by have hx : g23.nb ≤ x := hx; show h.nb ≤ x; omega), q83.to t93 (fun x _ hx e => by have : x = h.nb := e; omega), fin fo98, w94⟩
        simp only [↓s87, ↓m1, ↓m1', ↓e2, ↓bldM, ↓bldM', ↓m3, ↓m3', ↓s4, ↓cP_p, ↓l4, ↓l4', i64, i128, u64, ↓s24, ↓s24', ↓e36, ↓e36', ↓ck74, ↓s78, ↓s78', ↓d89, ↓gp, ↓gb_, ↓e88, ↓sm97, ↓s91, ↓d96, ↓cK_agg, ↓cK_nils, nth_z, nth_1, Bool.not_true, Bool.not_false, ↓SD, SA, Int.ofNat_eq_natCast, Int.cast_ofNat_Int, Int.reduceBEq, Int.reduceAdd, Int.reduceNeg, Int.reduceNegSucc, Int.reduceLT, Int.reduceLE, Int.reduceMul, Int.reduceTMod, Int.reduceSub, Int.reduceBNe, Bool.not_true, Bool.not_false, decide_true, decide_false, ne_eq, not_false_eq_true, Int.reduceEq, reduceCtorEq]
  have i128 : ¬ ((val t q 1 : Nat) : Int) < 128 := by omega
  by_cases k247 : val t q 1 < 247
  · have i247 : ((val t q 1 : Nat) : Int) < 247 := by omega
    have d100 := fun kk => Ce.ldM c4 kk
    obtain ⟨g101, s102, c103, t104, w105, y106⟩ := Ce.stM w4 z4 (val t q 1) 0 (vl := .nils) (vs := .nils) rfl rfl
    have d107 := fun kk => Ce.ldM c103 kk
    have sm108 := fun kk => same_mL (g := (val t q 1)) (d := 0) nil_eqA nil_eqA kk
    have fo109 : To (fun x => x = b ∨ h.nb ≤ x) h g101 := o14.trans (t104.mono fun x _ e => by have : x = h.nb := e; exact Or.inr (by omega))
    refine .inl ⟨by unfold en; rw [if_neg k64, if_neg k128, if_pos k247], (val t q 1), 0, .nils, .nils, g101, rfl, rfl, ?_, fin fo109, w105⟩
    simp only [↓s87, ↓m1, ↓m1', ↓e2, ↓bldM, ↓bldM', ↓m3, ↓m3', ↓s4, ↓cP_p, ↓l4, ↓l4', i64, i128, i247, ↓d100, ↓gp, ↓gb_, ↓sm108, ↓s102, ↓d107, ↓cK_agg, ↓cK_nils, nth_z, nth_1, ↓SD, SA, Int.ofNat_eq_natCast, Int.cast_ofNat_Int, Int.reduceBEq, Int.reduceAdd, Int.reduceNeg, Int.reduceNegSucc, Int.reduceLT, Int.reduceLE, Int.reduceMul, Int.reduceTMod, Int.reduceSub, Int.reduceBNe, Bool.not_true, Bool.not_false, decide_true, decide_false, ne_eq, not_false_eq_true, Int.reduceEq, reduceCtorEq]
  have i247 : ¬ ((val t q 1 : Nat) : Int) < 247 := by omega
  have f247 : (((val t q 1 : Nat) : Int) == 247) = decide (val t q 1 = 247) := nbeq _ 247
  by_cases e247 : val t q 1 = 247
  · rw [decide_eq_true e247] at f247
    obtain ⟨g110, e111, q112, t113, w114⟩ := u2 q4 w4
    have z115 := z4.to t113 (fun e => by have : h.nb = b := e; omega)
    have c116 := c4.to t113 (fun e => by have : h2.nb = b := e; omega)
    have o117 := o14.trans (t113.mono fun x _ e => Or.inl e)
    have p118 : Pool g110 pb := p4.to t113 (fun e => hpb e)
    obtain ⟨g119, s120, s120', c121, t122, w123, y124⟩ := Ce.sD w114 c116 (val t (adv t q 1) 2)
    have q125 := q112.to t122 (fun x _ hx e => by have : x = h2.nb := e; omega)
    have z126 := z115.to t122 (fun e => by have : h.nb = h2.nb := e; omega)
    have o127 := o117.trans (t122.mono fun x _ e => by have : x = h2.nb := e; exact Or.inr (by omega))
    have p128 : Pool g119 pb := p118.to t122 (fun e => by have : pb = h2.nb := e; omega)
    have lt129 := Ce.lt c121
    rcases t108 q125 p128 hpb w123 1 (by omega) with ⟨kn130, g131, e132, ⟨qx133, q134⟩, t135, w136⟩ | ⟨⟨l137, qq138⟩, vv139, g131, ks140, e132, r141, q134, t135, w136⟩
    ·
      have e132' : s108 [.ptr b 0, plv pb, .int 63 1] g119 = .ret nilF g131 := e132
      have z142 := z126.to t135 (fun e => by have : h.nb = b := e; omega)
      have c143 := c121.to t135 (fun e => by have : h2.nb = b := e; omega)
      have o144 := o127.trans (t135.mono fun x _ e => Or.inl e)
      have p145 : Pool g131 pb := p128.to t135 (fun e => hpb e)
      obtain ⟨g146, s147, s147', c148, t149, w150, y151⟩ := Ce.sS w136 c143 .nils rfl
      have q152 := q134.to t149 (fun x _ hx e => by have : x = h2.nb := e; omega)
      have z153 := z142.to t149 (fun e => by have : h.nb = h2.nb := e; omega)
      have o154 := o144.trans (t149.mono fun x _ e => by have : x = h2.nb := e; exact Or.inr (by omega))
      have p155 : Pool g146 pb := p145.to t149 (fun e => by have : pb = h2.nb := e; omega)
      have d156 := fun kk => Ce.ldM c148 kk
      obtain ⟨g157, s158, c159, t160, w161, y162⟩ := Ce.stM w150 z153 (val t q 1) (val t (adv t q 1) 2) (vl := .nils) (vs := .nils) rfl rfl
      have d163 := fun kk => Ce.ldM c159 kk
      have sm164 := fun kk => same_mL (g := (val t q 1)) (d := (val t (adv t q 1) 2)) nil_eqA nil_eqA kk
      have fo165 : To (fun x => x = b ∨ h.nb ≤ x) h g157 := o154.trans (t160.mono fun x _ e => by have : x = h.nb := e; exact Or.inr (by omega))
      refine .inl ⟨by unfold en; rw [if_neg k64, if_neg k128, if_neg k247, if_pos e247, kn130], (val t q 1), (val t (adv t q 1) 2), .nils, .nils, g157, rfl, rfl, ?_, fin fo165, w161⟩
      simp only [↓s87, ↓m1, ↓m1', ↓e2, ↓bldM, ↓bldM', ↓m3, ↓m3', ↓s4, ↓cP_p, ↓l4, ↓l4', i64, i128, i247, f247, ↓e111, ↓s120, ↓s120', ↓e132, ↓e132', ↓s147, ↓s147', ↓d156, ↓gp, ↓gb_, ↓sm164, ↓s158, ↓d163, ↓cK_agg, ↓cK_nils, nth_z, nth_1, ↓SD, SA, Int.ofNat_eq_natCast, Int.cast_ofNat_Int, Int.reduceBEq, Int.reduceAdd, Int.reduceNeg, Int.reduceNegSucc, Int.reduceLT, Int.reduceLE, Int.reduceMul, Int.reduceTMod, Int.reduceSub, Int.reduceBNe, Bool.not_true, Bool.not_false, decide_true, decide_false, ne_eq, not_false_eq_true, Int.reduceEq, reduceCtorEq]
    ·
      have r141 : Rws g131 (fun x => g119.nb ≤ x) 3 vv139 (l137.map vP) := r141
      have q134 : CurQ g131 lo b t qq138 := q134
      have e132' : s108 [.ptr b 0, plv pb, .int 63 1] g119 = .ret (.tup (.cons vv139 (.cons (.bool true) .nil))) g131 := e132
      have z166 := z126.to t135 (fun e => by have : h.nb = b := e; omega)
      have c167 := c121.to t135 (fun e => by have : h2.nb = b := e; omega)
      have o168 := o127.trans (t135.mono fun x _ e => Or.inl e)
      have p169 : Pool g131 pb := p128.to t135 (fun e => hpb e)
      have ck170 := fun kk => r141.cK kk
      have on171 := r141.one
      have ea172 := Rws.eqA r141 (by decide)
      obtain ⟨g173, s174, s174', c175, t176, w177, y178⟩ := Ce.sS w136 c167 vv139 on171
      have q179 := q134.to t176 (fun x _ hx e => by have : x = h2.nb := e; omega)
      have z180 := z166.to t176 (fun e => by have : h.nb = h2.nb := e; omega)
      have o181 := o168.trans (t176.mono fun x _ e => by have : x = h2.nb := e; exact Or.inr (by omega))
      have p182 : Pool g173 pb := p169.to t176 (fun e => by have : pb = h2.nb := e; omega)
      have r183 := r141.to t176 (fun x hx _ e => by have hx : g119.nb ≤ x := hx; have : x = h2.nb := e; omega)
      have e184 := t30 q179
      have d185 := fun kk => Ce.ldM c175 kk
      obtain ⟨g186, s187, c188, t189, w190, y191⟩ := Ce.stM w177 z180 (val t q 1) (val t (adv t q 1) 2) (vl := .nils) (vs := vv139) rfl on171
      have d192 := fun kk => Ce.ldM c188 kk
      have sm193 := fun kk => same_mL (g := (val t q 1)) (d := (val t (adv t q 1) 2)) nil_eqA ea172 kk
      have fo194 : To (fun x => x = b ∨ h.nb ≤ x) h g186 := o181.trans (t189.mono fun x _ e => by have : x = h.nb := e; exact Or.inr (by omega))
      have he195 : en t q = fn ⟨(val t q 1), (val t (adv t q 1) 2), [], l137⟩ qq138 := by unfold en; rw [if_neg k64, if_neg k128, if_neg k247, if_pos e247, ks140]
      cases hq : qq138.2 with
      | true =>
        rw [hq] at e184
        refine .inl ⟨by rw [he195]; unfold fn; rw [hq]; rfl, (val t q 1), (val t (adv t q 1) 2), .nils, vv139, g186, rfl, on171, ?_, fin fo194, w190⟩
        simp only [↓s87, ↓m1, ↓m1', ↓e2, ↓bldM, ↓bldM', ↓m3, ↓m3', ↓s4, ↓cP_p, ↓l4, ↓l4', i64, i128, i247, f247, ↓e111, ↓s120, ↓s120', ↓e132, ↓e132', ↓ck170, ↓s174, ↓s174', ↓d185, ↓gp, ↓gb_, ↓e184, ↓sm193, ↓s187, ↓d192, ↓cK_agg, ↓cK_nils, nth_z, nth_1, Bool.not_true, Bool.not_false, ↓SD, SA, Int.ofNat_eq_natCast, Int.cast_ofNat_Int, Int.reduceBEq, Int.reduceAdd, Int.reduceNeg, Int.reduceNegSucc, Int.reduceLT, Int.reduceLE, Int.reduceMul, Int.reduceTMod, Int.reduceSub, Int.reduceBNe, Bool.not_true, Bool.not_false, decide_true, decide_false, ne_eq, not_false_eq_true, Int.reduceEq, reduceCtorEq]
      | false =>
        rw [hq] at e184
        refine .inr ⟨(⟨(val t q 1), (val t (adv t q 1) 2), [], l137⟩, qq138), .nils, vv139, g186, by rw [he195]; unfold fn; rw [hq]; rfl, ?_, (Rws.nil _ _ _), ((r183.to t189 (fun x hx _ e => by have hx : g119.nb ≤ x := hx; have : x = h.nb := e; omega)).mono fun x hx _ => by have hx : g119.nb ≤ x := hx; show h.nb ≤ x; omega), q179.to t189 (fun x _ hx e => by have : x = h.nb := e; omega), fin fo194, w190⟩
        simp only [↓s87, ↓m1, ↓m1', ↓e2, ↓bldM, ↓bldM', ↓m3, ↓m3', ↓s4, ↓cP_p, ↓l4, ↓l4', i64, i128, i247, f247, ↓e111, ↓s120, ↓s120', ↓e132, ↓e132', ↓ck170, ↓s174, ↓s174', ↓d185, ↓gp, ↓gb_, ↓e184, ↓sm193, ↓s187, ↓d192, ↓cK_agg, ↓cK_nils, nth_z, nth_1, Bool.not_true, Bool.not_false, ↓SD, SA, Int.ofNat_eq_natCast, Int.cast_ofNat_Int, Int.reduceBEq, Int.reduceAdd, Int.reduceNeg, Int.reduceNegSucc, Int.reduceLT, Int.reduceLE, Int.reduceMul, Int.reduceTMod, Int.reduceSub, Int.reduceBNe, Bool.not_true, Bool.not_false, decide_true, decide_false, ne_eq, not_false_eq_true, Int.reduceEq, reduceCtorEq]
  rw [decide_eq_false e247] at f247
  by_cases k252 : val t q 1 < 252
  · have i251 : ¬ (251 : Int) < ((val t q 1 : Nat) : Int) := by omega
    obtain ⟨g196, e197, q198, t199, w200⟩ := u2 q4 w4
    have z201 := z4.to t199 (fun e => by have : h.nb = b := e; omega)
    have c202 := c4.to t199 (fun e => by have : h2.nb = b := e; omega)
    have o203 := o14.trans (t199.mono fun x _ e => Or.inl e)
    have p204 : Pool g196 pb := p4.to t199 (fun e => hpb e)
    obtain ⟨g205, s206, s206', c207, t208, w209, y210⟩ := Ce.sD w200 c202 (val t (adv t q 1) 2)
    have q211 := q198.to t208 (fun x _ hx e => by have : x = h2.nb := e; omega)
    have z212 := z201.to t208 (fun e => by have : h.nb = h2.nb := e; omega)
    have o213 := o203.trans (t208.mono fun x _ e => by have : x = h2.nb := e; exact Or.inr (by omega))
    have p214 : Pool g205 pb := p204.to t208 (fun e => by have : pb = h2.nb := e; omega)
    have e215 := t30 q211
    have d216 := fun kk => Ce.ldM c207 kk
    obtain ⟨g217, s218, c219, t220, w221, y222⟩ := Ce.stM w209 z212 (val t q 1) (val t (adv t q 1) 2) (vl := .nils) (vs := .nils) rfl rfl
    have d223 := fun kk => Ce.ldM c219 kk
    have sm224 := fun kk => same_mL (g := (val t q 1)) (d := (val t (adv t q 1) 2)) nil_eqA nil_eqA kk
    have fo225 : To (fun x => x = b ∨ h.nb ≤ x) h g217 := o213.trans (t220.mono fun x _ e => by have : x = h.nb := e; exact Or.inr (by omega))
    have he226 : en t q = fn ⟨(val t q 1), (val t (adv t q 1) 2), [], []⟩ (adv t (adv t q 1) 2) := by unfold en; rw [if_neg k64, if_neg k128, if_neg k247, if_neg e247, if_pos k252]
    cases hq : (adv t (adv t q 1) 2).2 with
    | true =>
      rw [hq] at e215
      refine .inl ⟨by rw [he226]; unfold fn; rw [hq]; rfl, (val t q 1), (val t (adv t q 1) 2), .nils, .nils, g217, rfl, rfl, ?_, fin fo225, w221⟩
      simp only [↓s87, ↓m1, ↓m1', ↓e2, ↓bldM, ↓bldM', ↓m3, ↓m3', ↓s4, ↓cP_p, ↓l4, ↓l4', i64, i128, i247, f247, i251, ↓e197, ↓s206, ↓s206', ↓d216, ↓gp, ↓gb_, ↓e215, ↓sm224, ↓s218, ↓d223, ↓cK_agg, ↓cK_nils, nth_z, nth_1, Bool.not_true, Bool.not_false, ↓SD, SA, Int.ofNat_eq_natCast, Int.cast_ofNat_Int, Int.reduceBEq, Int.reduceAdd, Int.reduceNeg, Int.reduceNegSucc, Int.reduceLT, Int.reduceLE, Int.reduceMul, Int.reduceTMod, Int.reduceSub, Int.reduceBNe, Bool.not_true, Bool.not_false, decide_true, decide_false, ne_eq, not_false_eq_true, Int.reduceEq, reduceCtorEq]
    | false =>
      rw [hq] at e215
      refine .inr ⟨(⟨(val t q 1), (val t (adv t q 1) 2), [], []⟩, (adv t (adv t q 1) 2)), .nils, .nils, g217, by rw [he226]; unfold fn; rw [hq]; rfl, ?_, (Rws.nil _ _ _), (Rws.nil _ _ _), q211.to t220 (fun x _ hx e => by have : x = h.nb := e; omega), fin fo225, w221⟩
      simp only [↓s87, ↓m1, ↓m1', ↓e2, ↓bldM, ↓bldM', ↓m3, ↓m3', ↓s4, ↓cP_p, ↓l4, ↓l4', i64, i128, i247, f247, i251, ↓e197, ↓s206, ↓s206', ↓d216, ↓gp, ↓gb_, ↓e215, ↓sm224, ↓s218, ↓d223, ↓cK_agg, ↓cK_nils, nth_z, nth_1, Bool.not_true, Bool.not_false, ↓SD, SA, Int.ofNat_eq_natCast, Int.cast_ofNat_Int, Int.reduceBEq, Int.reduceAdd, Int.reduceNeg, Int.reduceNegSucc, Int.reduceLT, Int.reduceLE, Int.reduceMul, Int.reduceTMod, Int.reduceSub, Int.reduceBNe, Bool.not_true, Bool.not_false, decide_true, decide_false, ne_eq, not_false_eq_true, Int.reduceEq, reduceCtorEq]
  have i251 : (251 : Int) < ((val t q 1 : Nat) : Int) := by omega
  by_cases k255 : val t q 1 < 255
  · have i255 : ((val t q 1 : Nat) : Int) < 255 := by omega
    have u251 : wrapC 63 (((val t q 1 : Nat) : Int) - 251) = ((val t q 1 - 251 : Nat) : Int) := by rw [w63_in _ (by omega) (by omega)]; omega
    obtain ⟨g227, e228, q229, t230, w231⟩ := u2 q4 w4
    have z232 := z4.to t230 (fun e => by have : h.nb = b := e; omega)
    have c233 := c4.to t230 (fun e => by have : h2.nb = b := e; omega)
    have o234 := o14.trans (t230.mono fun x _ e => Or.inl e)
    have p235 : Pool g227 pb := p4.to t230 (fun e => hpb e)
    obtain ⟨g236, s237, s237', c238, t239, w240, y241⟩ := Ce.sD w231 c233 (val t (adv t q 1) 2)
    have q242 := q229.to t239 (fun x _ hx e => by have : x = h2.nb := e; omega)
    have z243 := z232.to t239 (fun e => by have : h.nb = h2.nb := e; omega)
    have o244 := o234.trans (t239.mono fun x _ e => by have : x = h2.nb := e; exact Or.inr (by omega))
    have p245 : Pool g236 pb := p235.to t239 (fun e => by have : pb = h2.nb := e; omega)
    obtain ⟨l246, l246'⟩ := Ce.lM c238
    have lt247 := Ce.lt c238
    rcases t108 q242 p245 hpb w240 (val t q 1 - 251) (by omega) with ⟨kn248, g249, e250, ⟨qx251, q252⟩, t253, w254⟩ | ⟨⟨l255, qq256⟩, vv257, g249, ks258, e250, r259, q252, t253, w254⟩
    ·
      have z260 := z243.to t253 (fun e => by have : h.nb = b := e; omega)
      have c261 := c238.to t253 (fun e => by have : h2.nb = b := e; omega)
      have o262 := o244.trans (t253.mono fun x _ e => Or.inl e)
      have p263 : Pool g249 pb := p245.to t253 (fun e => hpb e)
      obtain ⟨g264, s265, s265', c266, t267, w268, y269⟩ := Ce.sL w254 c261 .nils rfl
      have q270 := q252.to t267 (fun x _ hx e => by have : x = h2.nb := e; omega)
      have z271 := z260.to t267 (fun e => by have : h.nb = h2.nb := e; omega)
      have o272 := o262.trans (t267.mono fun x _ e => by have : x = h2.nb := e; exact Or.inr (by omega))
      have p273 : Pool g264 pb := p263.to t267 (fun e => by have : pb = h2.nb := e; omega)
      have d274 := fun kk => Ce.ldM c266 kk
      obtain ⟨g275, s276, c277, t278, w279, y280⟩ := Ce.stM w268 z271 (val t q 1) (val t (adv t q 1) 2) (vl := .nils) (vs := .nils) rfl rfl
      have d281 := fun kk => Ce.ldM c277 kk
      have sm282 := fun kk => same_mL (g := (val t q 1)) (d := (val t (adv t q 1) 2)) nil_eqA nil_eqA kk
      have fo283 : To (fun x => x = b ∨ h.nb ≤ x) h g275 := o272.trans (t278.mono fun x _ e => by have : x = h.nb := e; exact Or.inr (by omega))
      refine .inl ⟨by unfold en; rw [if_neg k64, if_neg k128, if_neg k247, if_neg e247, if_neg k252, if_pos k255, kn248], (val t q 1), (val t (adv t q 1) 2), .nils, .nils, g275, rfl, rfl, ?_, fin fo283, w279⟩
      simp only [↓s87, ↓m1, ↓m1', ↓e2, ↓bldM, ↓bldM', ↓m3, ↓m3', ↓s4, ↓cP_p, ↓l4, ↓l4', i64, i128, i247, f247, i251, i255, u251, ↓e228, ↓s237, ↓s237', ↓l246, ↓l246', ↓e250, ↓s265, ↓s265', ↓d274, ↓gp, ↓gb_, ↓sm282, ↓s276, ↓d281, ↓cK_agg, ↓cK_nils, nth_z, nth_1, ↓SD, SA, Int.ofNat_eq_natCast, Int.cast_ofNat_Int, Int.reduceBEq, Int.reduceAdd, Int.reduceNeg, Int.reduceNegSucc, Int.reduceLT, Int.reduceLE, Int.reduceMul, Int.reduceTMod, Int.reduceSub, Int.reduceBNe, Bool.not_true, Bool.not_false, decide_true, decide_false, ne_eq, not_false_eq_true, Int.reduceEq, reduceCtorEq]
    ·
      have r259 : Rws g249 (fun x => g236.nb ≤ x) 3 vv257 (l255.map vP) := r259
      have q252 : CurQ g249 lo b t qq256 := q252
      have z284 := z243.to t253 (fun e => by have : h.nb = b := e; omega)
      have c285 := c238.to t253 (fun e => by have : h2.nb = b := e; omega)
      have o286 := o244.trans (t253.mono fun x _ e => Or.inl e)
      have p287 : Pool g249 pb := p245.to t253 (fun e => hpb e)
      have ck288 := fun kk => r259.cK kk
      have on289 := r259.one
      have ea290 := Rws.eqA r259 (by decide)
      obtain ⟨g291, s292, s292', c293, t294, w295, y296⟩ := Ce.sL w254 c285 vv257 on289
      have q297 := q252.to t294 (fun x _ hx e => by have : x = h2.nb := e; omega)
      have z298 := z284.to t294 (fun e => by have : h.nb = h2.nb := e; omega)
      have o299 := o286.trans (t294.mono fun x _ e => by have : x = h2.nb := e; exact Or.inr (by omega))
      have p300 : Pool g291 pb := p287.to t294 (fun e => by have : pb = h2.nb := e; omega)
      have r301 := r259.to t294 (fun x hx _ e => by have hx : g236.nb ≤ x := hx; have : x = h2.nb := e; omega)
      have e302 := t30 q297
      have d303 := fun kk => Ce.ldM c293 kk
      obtain ⟨g304, s305, c306, t307, w308, y309⟩ := Ce.stM w295 z298 (val t q 1) (val t (adv t q 1) 2) (vl := vv257) (vs := .nils) on289 rfl
      have d310 := fun kk => Ce.ldM c306 kk
      have sm311 := fun kk => same_mL (g := (val t q 1)) (d := (val t (adv t q 1) 2)) ea290 nil_eqA kk
      have fo312 : To (fun x => x = b ∨ h.nb ≤ x) h g304 := o299.trans (t307.mono fun x _ e => by have : x = h.nb := e; exact Or.inr (by omega))
      have he313 : en t q = fn ⟨(val t q 1), (val t (adv t q 1) 2), l255, []⟩ qq256 := by unfold en; rw [if_neg k64, if_neg k128, if_neg k247, if_neg e247, if_neg k252, if_pos k255, ks258]
      cases hq : qq256.2 with
      | true =>
        rw [hq] at e302
        refine .inl ⟨by rw [he313]; unfold fn; rw [hq]; rfl, (val t q 1), (val t (adv t q 1) 2), vv257, .nils, g304, on289, rfl, ?_, fin fo312, w308⟩
        simp only [↓s87, ↓m1, ↓m1', ↓e2, ↓bldM, ↓bldM', ↓m3, ↓m3', ↓s4, ↓cP_p, ↓l4, ↓l4', i64, i128, i247, f247, i251, i255, u251, ↓e228, ↓s237, ↓s237', ↓l246, ↓l246', ↓e250, ↓ck288, ↓s292, ↓s292', ↓d303, ↓gp, ↓gb_, ↓e302, ↓sm311, ↓s305, ↓d310, ↓cK_agg, ↓cK_nils, nth_z, nth_1, Bool.not_true, Bool.not_false, ↓SD, SA, Int.ofNat_eq_natCast, Int.cast_ofNat_Int, Int.reduceBEq, Int.reduceAdd, Int.reduceNeg, Int.reduceNegSucc, Int.reduceLT, Int.reduceLE, Int.reduceMul, Int.reduceTMod, Int.reduceSub, Int.reduceBNe, Bool.not_true, Bool.not_false, decide_true, decide_false, ne_eq, not_false_eq_true, Int.reduceEq, reduceCtorEq]
      | false =>
        rw [hq] at e302
        refine .inr ⟨(⟨(val t q 1), (val t (adv t q 1) 2), l255, []⟩, qq256), vv257, .nils, g304, by rw [he313]; unfold fn; rw [hq]; rfl, ?_, ((r301.to t307 (fun x hx _ e => by have hx : g236.nb ≤ x := hx; have : x = h.nb := e; omega)).mono fun x hx _ => by have hx : g236.nb ≤ x := hx; show h.nb ≤ x; omega), (Rws.nil _ _ _), q297.to t307 (fun x _ hx e => by have : x = h.nb := e; omega), fin fo312, w308⟩
        simp only [↓s87, ↓m1, ↓m1', ↓e2, ↓bldM, ↓bldM', ↓m3, ↓m3', ↓s4, ↓cP_p, ↓l4, ↓l4', i64, i128, i247, f247, i251, i255, u251, ↓e228, ↓s237, ↓s237', ↓l246, ↓l246', ↓e250, ↓ck288, ↓s292, ↓s292', ↓d303, ↓gp, ↓gb_, ↓e302, ↓sm311, ↓s305, ↓d310, ↓cK_agg, ↓cK_nils, nth_z, nth_1, Bool.not_true, Bool.not_false, ↓SD, SA, Int.ofNat_eq_natCast, Int.cast_ofNat_Int, Int.reduceBEq, Int.reduceAdd, Int.reduceNeg, Int.reduceNegSucc, Int.reduceLT, Int.reduceLE, Int.reduceMul, Int.reduceTMod, Int.reduceSub, Int.reduceBNe, Bool.not_true, Bool.not_false, decide_true, decide_false, ne_eq, not_false_eq_true, Int.reduceEq, reduceCtorEq]
  have i255 : ¬ ((val t q 1 : Nat) : Int) < 255 := by omega
  obtain ⟨g314, e315, q316, t317, w318⟩ := u2 q4 w4
  have z319 := z4.to t317 (fun e => by have : h.nb = b := e; omega)
  have c320 := c4.to t317 (fun e => by have : h2.nb = b := e; omega)
  have o321 := o14.trans (t317.mono fun x _ e => Or.inl e)
  have p322 : Pool g314 pb := p4.to t317 (fun e => hpb e)
  obtain ⟨g323, s324, s324', c325, t326, w327, y328⟩ := Ce.sD w318 c320 (val t (adv t q 1) 2)
  have q329 := q316.to t326 (fun x _ hx e => by have : x = h2.nb := e; omega)
  have z330 := z319.to t326 (fun e => by have : h.nb = h2.nb := e; omega)
  have o331 := o321.trans (t326.mono fun x _ e => by have : x = h2.nb := e; exact Or.inr (by omega))
  have p332 : Pool g323 pb := p322.to t326 (fun e => by have : pb = h2.nb := e; omega)
  obtain ⟨g333, e334, q335, t336, w337⟩ := u2 q329 w327
  have z338 := z330.to t336 (fun e => by have : h.nb = b := e; omega)
  have c339 := c325.to t336 (fun e => by have : h2.nb = b := e; omega)
  have o340 := o331.trans (t336.mono fun x _ e => Or.inl e)
  have p341 : Pool g333 pb := p332.to t336 (fun e => hpb e)
  have b1 : (val t (adv t (adv t q 1) 2) 2) < 65536 := val_lt hbyt _ 2
  have lt342 := Ce.lt c339
  rcases t108 q335 p341 hpb w337 (val t (adv t (adv t q 1) 2) 2) (by omega) with ⟨kn343, g344, e345, ⟨qx346, q347⟩, t348, w349⟩ | ⟨⟨l350, qq351⟩, vv352, g344, ks353, e345, r354, q347, t348, w349⟩
  ·
    have z355 := z338.to t348 (fun e => by have : h.nb = b := e; omega)
    have c356 := c339.to t348 (fun e => by have : h2.nb = b := e; omega)
    have o357 := o340.trans (t348.mono fun x _ e => Or.inl e)
    have p358 : Pool g344 pb := p341.to t348 (fun e => hpb e)
    obtain ⟨g359, s360, s360', c361, t362, w363, y364⟩ := Ce.sL w349 c356 .nils rfl
    have q365 := q347.to t362 (fun x _ hx e => by have : x = h2.nb := e; omega)
    have z366 := z355.to t362 (fun e => by have : h.nb = h2.nb := e; omega)
    have o367 := o357.trans (t362.mono fun x _ e => by have : x = h2.nb := e; exact Or.inr (by omega))
    have p368 : Pool g359 pb := p358.to t362 (fun e => by have : pb = h2.nb := e; omega)
    have d369 := fun kk => Ce.ldM c361 kk
    obtain ⟨g370, s371, c372, t373, w374, y375⟩ := Ce.stM w363 z366 (val t q 1) (val t (adv t q 1) 2) (vl := .nils) (vs := .nils) rfl rfl
    have d376 := fun kk => Ce.ldM c372 kk
    have sm377 := fun kk => same_mL (g := (val t q 1)) (d := (val t (adv t q 1) 2)) nil_eqA nil_eqA kk
    have fo378 : To (fun x => x = b ∨ h.nb ≤ x) h g370 := o367.trans (t373.mono fun x _ e => by have : x = h.nb := e; exact Or.inr (by omega))
    refine .inl ⟨by unfold en; rw [if_neg k64, if_neg k128, if_neg k247, if_neg e247, if_neg k252, if_neg k255, kn343], (val t q 1), (val t (adv t q 1) 2), .nils, .nils, g370, rfl, rfl, ?_, fin fo378, w374⟩
    simp only [↓s87, ↓m1, ↓m1', ↓e2, ↓bldM, ↓bldM', ↓m3, ↓m3', ↓s4, ↓cP_p, ↓l4, ↓l4', i64, i128, i247, f247, i251, i255, ↓e315, ↓s324, ↓s324', ↓e334, ↓e345, ↓s360, ↓s360', ↓d369, ↓gp, ↓gb_, ↓sm377, ↓s371, ↓d376, ↓cK_agg, ↓cK_nils, nth_z, nth_1, ↓SD, SA, Int.ofNat_eq_natCast, Int.cast_ofNat_Int, Int.reduceBEq, Int.reduceAdd, Int.reduceNeg, Int.reduceNegSucc, Int.reduceLT, Int.reduceLE, Int.reduceMul, Int.reduceTMod, Int.reduceSub, Int.reduceBNe, Bool.not_true, Bool.not_false, decide_true, decide_false, ne_eq, not_false_eq_true, Int.reduceEq, reduceCtorEq]
  ·
    have r354 : Rws g344 (fun x => g333.nb ≤ x) 3 vv352 (l350.map vP) := r354
    have q347 : CurQ g344 lo b t qq351 := q347
    have z379 := z338.to t348 (fun e => by have : h.nb = b := e; omega)
    have c380 := c339.to t348 (fun e => by have : h2.nb = b := e; omega)
    have o381 := o340.trans (t348.mono fun x _ e => Or.inl e)
    have p382 : Pool g344 pb := p341.to t348 (fun e => hpb e)
    have ck383 := fun kk => r354.cK kk
    have on384 := r354.one
    have ea385 := Rws.eqA r354 (by decide)
    obtain ⟨g386, s387, s387', c388, t389, w390, y391⟩ := Ce.sL w349 c380 vv352 on384
    have q392 := q347.to t389 (fun x _ hx e => by have : x = h2.nb := e; omega)
    have z393 := z379.to t389 (fun e => by have : h.nb = h2.nb := e; omega)
    have o394 := o381.trans (t389.mono fun x _ e => by have : x = h2.nb := e; exact Or.inr (by omega))
    have p395 : Pool g386 pb := p382.to t389 (fun e => by have : pb = h2.nb := e; omega)
    have r396 := r354.to t389 (fun x hx _ e => by have hx : g333.nb ≤ x := hx; have : x = h2.nb := e; omega)
    obtain ⟨g397, e398, q399, t400, w401⟩ := u2 q392 w390
    have z402 := z393.to t400 (fun e => by have : h.nb = b := e; omega)
    have c403 := c388.to t400 (fun e => by have : h2.nb = b := e; omega)
    have o404 := o394.trans (t400.mono fun x _ e => Or.inl e)
    have p405 : Pool g397 pb := p395.to t400 (fun e => hpb e)
    have r406 := r396.to t400 (fun x hx _ e => by have hx : g333.nb ≤ x := hx; have : x = b := e; omega)
    have b2 : (val t qq351 2) < 65536 := val_lt hbyt _ 2
    have lt407 := Ce.lt c403
    rcases t108 q399 p405 hpb w401 (val t qq351 2) (by omega) with ⟨kn408, g409, e410, ⟨qx411, q412⟩, t413, w414⟩ | ⟨⟨l415, qq416⟩, vv417, g409, ks418, e410, r419, q412, t413, w414⟩
    ·
      have z420 := z402.to t413 (fun e => by have : h.nb = b := e; omega)
      have c421 := c403.to t413 (fun e => by have : h2.nb = b := e; omega)
      have o422 := o404.trans (t413.mono fun x _ e => Or.inl e)
      have p423 : Pool g409 pb := p405.to t413 (fun e => hpb e)
      have r424 := r406.to t413 (fun x hx _ e => by have hx : g333.nb ≤ x := hx; have : x = b := e; omega)
      obtain ⟨g425, s426, s426', c427, t428, w429, y430⟩ := Ce.sS w414 c421 .nils rfl
      have q431 := q412.to t428 (fun x _ hx e => by have : x = h2.nb := e; omega)
      have z432 := z420.to t428 (fun e => by have : h.nb = h2.nb := e; omega)
      have o433 := o422.trans (t428.mono fun x _ e => by have : x = h2.nb := e; exact Or.inr (by omega))
      have p434 : Pool g425 pb := p423.to t428 (fun e => by have : pb = h2.nb := e; omega)
      have r435 := r424.to t428 (fun x hx _ e => by have hx : g333.nb ≤ x := hx; have : x = h2.nb := e; omega)
      have d436 := fun kk => Ce.ldM c427 kk
      obtain ⟨g437, s438, c439, t440, w441, y442⟩ := Ce.stM w429 z432 (val t q 1) (val t (adv t q 1) 2) (vl := vv352) (vs := .nils) on384 rfl
      have d443 := fun kk => Ce.ldM c439 kk
      have sm444 := fun kk => same_mL (g := (val t q 1)) (d := (val t (adv t q 1) 2)) ea385 nil_eqA kk
      have fo445 : To (fun x => x = b ∨ h.nb ≤ x) h g437 := o433.trans (t440.mono fun x _ e => by have : x = h.nb := e; exact Or.inr (by omega))
      refine .inl ⟨by unfold en; rw [if_neg k64, if_neg k128, if_neg k247, if_neg e247, if_neg k252, if_neg k255, ks353]; simp only []; rw [kn408], (val t q 1), (val t (adv t q 1) 2), vv352, .nils, g437, on384, rfl, ?_, fin fo445, w441⟩
      simp only [↓s87, ↓m1, ↓m1', ↓e2, ↓bldM, ↓bldM', ↓m3, ↓m3', ↓s4, ↓cP_p, ↓l4, ↓l4', i64, i128, i247, f247, i251, i255, ↓e315, ↓s324, ↓s324', ↓e334, ↓e345, ↓ck383, ↓s387, ↓s387', ↓e398, ↓e410, ↓s426, ↓s426', ↓d436, ↓gp, ↓gb_, ↓sm444, ↓s438, ↓d443, ↓cK_agg, ↓cK_nils, nth_z, nth_1, ↓SD, SA, Int.ofNat_eq_natCast, Int.cast_ofNat_Int, Int.reduceBEq, Int.reduceAdd, Int.reduceNeg, Int.reduceNegSucc, Int.reduceLT, Int.reduceLE, Int.reduceMul, Int.reduceTMod, Int.reduceSub, Int.reduceBNe, Bool.not_true, Bool.not_false, decide_true, decide_false, ne_eq, not_false_eq_true, Int.reduceEq, reduceCtorEq]
    ·
      have r419 : Rws g409 (fun x => g397.nb ≤ x) 3 vv417 (l415.map vP) := r419
      have q412 : CurQ g409 lo b t qq416 := q412
      have z446 := z402.to t413 (fun e => by have : h.nb = b := e; omega)
      have c447 := c403.to t413 (fun e => by have : h2.nb = b := e; omega)
      have o448 := o404.trans (t413.mono fun x _ e => Or.inl e)
      have p449 : Pool g409 pb := p405.to t413 (fun e => hpb e)
      have r450 := r406.to t413 (fun x hx _ e => by have hx : g333.nb ≤ x := hx; have : x = b := e; omega)
      have ck451 := fun kk => r419.cK kk
      have on452 := r419.one
      have ea453 := Rws.eqA r419 (by decide)
      obtain ⟨g454, s455, s455', c456, t457, w458, y459⟩ := Ce.sS w414 c447 vv417 on452
      have q460 := q412.to t457 (fun x _ hx e => by have : x = h2.nb := e; omega)
      have z461 := z446.to t457 (fun e => by have : h.nb = h2.nb := e; omega)
      have o462 := o448.trans (t457.mono fun x _ e => by have : x = h2.nb := e; exact Or.inr (by omega))
      have p463 : Pool g454 pb := p449.to t457 (fun e => by have : pb = h2.nb := e; omega)
      have r464 := r450.to t457 (fun x hx _ e => by have hx : g333.nb ≤ x := hx; have : x = h2.nb := e; omega)
      have r465 := r419.to t457 (fun x hx _ e => by have hx : g397.nb ≤ x := hx; have : x = h2.nb := e; omega)
      have e466 := t30 q460
      have d467 := fun kk => Ce.ldM c456 kk
      obtain ⟨g468, s469, c470, t471, w472, y473⟩ := Ce.stM w458 z461 (val t q 1) (val t (adv t q 1) 2) (vl := vv352) (vs := vv417) on384 on452
      have d474 := fun kk => Ce.ldM c470 kk
      have sm475 := fun kk => same_mL (g := (val t q 1)) (d := (val t (adv t q 1) 2)) ea385 ea453 kk
      have fo476 : To (fun x => x = b ∨ h.nb ≤ x) h g468 := o462.trans (t471.mono fun x _ e => by have : x = h.nb := e; exact Or.inr (by omega))
      have he477 : en t q = fn ⟨(val t q 1), (val t (adv t q 1) 2), l350, l415⟩ qq416 := by unfold en; rw [if_neg k64, if_neg k128, if_neg k247, if_neg e247, if_neg k252, if_neg k255, ks353]; simp only []; rw [ks418]
      cases hq : qq416.2 with
      | true =>
        rw [hq] at e466
        refine .inl ⟨by rw [he477]; unfold fn; rw [hq]; rfl, (val t q 1), (val t (adv t q 1) 2), vv352, vv417, g468, on384, on452, ?_, fin fo476, w472⟩
        simp only [↓s87, ↓m1, ↓m1', ↓e2, ↓bldM, ↓bldM', ↓m3, ↓m3', ↓s4, ↓cP_p, ↓l4, ↓l4', i64, i128, i247, f247, i251, i255, ↓e315, ↓s324, ↓s324', ↓e334, ↓e345, ↓ck383, ↓s387, ↓s387', ↓e398, ↓e410, ↓ck451, ↓s455, ↓s455', ↓d467, ↓gp, ↓gb_, ↓e466, ↓sm475, ↓s469, ↓d474, ↓cK_agg, ↓cK_nils, nth_z, nth_1, Bool.not_true, Bool.not_false, ↓SD, SA, Int.ofNat_eq_natCast, Int.cast_ofNat_Int, Int.reduceBEq, Int.reduceAdd, Int.reduceNeg, Int.reduceNegSucc, Int.reduceLT, Int.reduceLE, Int.reduceMul, Int.reduceTMod, Int.reduceSub, Int.reduceBNe, Bool.not_true, Bool.not_false, decide_true, decide_false, ne_eq, not_false_eq_true, Int.reduceEq, reduceCtorEq]
      | false =>
        rw [hq] at e466
        refine .inr ⟨(⟨(val t q 1), (val t (adv t q 1) 2), l350, l415⟩, qq416), vv352, vv417, g468, by rw [he477]; unfold fn; rw [hq]; rfl, ?_, ((r464.to t471 (fun x hx _ e => by have hx : g333.nb ≤ x := hx; have : x = h.nb := e; omega)).mono fun x hx _ => by have hx : g333.nb ≤ x := hx; show h.nb ≤ x; omega), ((r465.to t471 (fun x hx _ e => by have hx : g397.nb ≤ x := hx; have : x = h.nb := e; omega)).mono fun x hx _ => by have hx : g397.nb ≤ x := hx; show h.nb ≤ x; omega), q460.to t471 (fun x _ hx e => by have : x = h.nb := e; omega), fin fo476, w472⟩
        simp only [↓s87, ↓m1, ↓m1', ↓e2, ↓bldM, ↓bldM', ↓m3, ↓m3', ↓s4, ↓cP_p, ↓l4, ↓l4', i64, i128, i247, f247, i251, i255, ↓e315, ↓s324, ↓s324', ↓e334, ↓e345, ↓ck383, ↓s387, ↓s387', ↓e398, ↓e410, ↓ck451, ↓s455, ↓s455', ↓d467, ↓gp, ↓gb_, ↓e466, ↓sm475, ↓s469, ↓d474, ↓cK_agg, ↓cK_nils, nth_z, nth_1, Bool.not_true, Bool.not_false, ↓SD, SA, Int.ofNat_eq_natCast, Int.cast_ofNat_Int, Int.reduceBEq, Int.reduceAdd, Int.reduceNeg, Int.reduceNegSucc, Int.reduceLT, Int.reduceLE, Int.reduceMul, Int.reduceTMod, Int.reduceSub, Int.reduceBNe, Bool.not_true, Bool.not_false, decide_true, decide_false, ne_eq, not_false_eq_true, Int.reduceEq, reduceCtorEq]
end Go.Proofs.Ytnpfppddongbhaa
end

section
namespace Go.Proofs.Ytnpfppddongbhaa
open Go Go.AM
set_option autoImplicit false
/-! ### entries, one after another -/
/-- The slice v reads as the entries ms; its own blocks lie from N on and below M; those of its entries' rows from N on, apart. -/
def MR (h : Hp) (N M : Nat) (v : AV) (ms : List Mv) : Prop :=
  ∃ (P : Nat → Prop) (rs : List (List AV)), Rws h P 4 v rs ∧ (∀ x, P x → N ≤ x ∧ x < M) ∧ rs.length = ms.length ∧ ∀ i (hi : i < ms.length) (hi' : i < rs.length), ∃ vl vs, rs[i] = mL ms[i].tag ms[i].delta vl vs ∧ Rws h (fun x => N ≤ x ∧ ¬ P x) 3 vl (ms[i].loc.map vP) ∧ Rws h (fun x => N ≤ x ∧ ¬ P x) 3 vs (ms[i].stk.map vP)
theorem MR.nil (h : Hp) (N M : Nat) : MR h N M .nils [] := ⟨fun _ => False, [], Rws.nil _ _ _, fun x f => f.elim, rfl, fun i hi => by simp at hi⟩
theorem MR.to {h h' : Hp} {N M : Nat} {v : AV} {ms : List Mv} {W : Nat → Prop} (hm : MR h N M v ms) (ht : To W h h') (hd : ∀ x, N ≤ x → x < h.nb → ¬ W x) : MR h' N M v ms := by
  obtain ⟨P, rs, r, hP, hl, hi⟩ := hm
  refine ⟨P, rs, r.to ht (fun x hx hlt => hd x (hP x hx).1 hlt), hP, hl, fun i h1 h2 => ?_⟩
  obtain ⟨vl, vs, e, r1, r2⟩ := hi i h1 h2
  exact ⟨vl, vs, e, r1.to ht (fun x hx hlt => hd x hx.1 hlt), r2.to ht (fun x hx hlt => hd x hx.1 hlt)⟩
theorem MR.grow {h : Hp} {N M M' : Nat} {v : AV} {ms : List Mv} (hm : MR h N M v ms) (h1 : M ≤ M') : MR h N M' v ms := by
  obtain ⟨P, rs, r, hP, hl, hi⟩ := hm
  exact ⟨P, rs, r, fun x hx => ⟨(hP x hx).1, by have := (hP x hx).2; omega⟩, hl, hi⟩
theorem MR.len {h : Hp} {N M : Nat} {v : AV} {ms : List Mv} (hm : MR h N M v ms) (k : AV → Res) : lenL v k = k (.int 63 (ms.length : Int)) := by
  obtain ⟨P, rs, r, hP, hl, hi⟩ := hm
  rw [← hl]; exact r.len k
theorem MR.cK {h : Hp} {N M : Nat} {v : AV} {ms : List Mv} (hm : MR h N M v ms) (k : AV → Res) : cK v k = k v := by
  obtain ⟨P, rs, r, hP, hl, hi⟩ := hm; exact r.cK k
theorem MR.app {h : Hp} {N M : Nat} {v : AV} {ms : List Mv} (hw : Wf h) (hm : MR h N M v ms) (hNM : N ≤ M) (hM : M ≤ h.nb) (m : Mv) {vl vs : AV} (r1 : Rws h (fun x => M ≤ x) 3 vl (m.loc.map vP)) (r2 : Rws h (fun x => M ≤ x) 3 vs (m.stk.map vP)) (hsz : ms.length ≤ 100000) :
    ∃ v' h1 h', (∀ k : AV → Hp → Res, mkS h 4 1 (avL (mL m.tag m.delta vl vs)) k = k (.sl h.nb 0 1 4 (some 1)) h1) ∧ (∀ k : AV → Hp → Res, apd h1 4 64 v (.sl h.nb 0 1 4 (some 1)) k = k v' h') ∧ MR h' N h'.nb v' (ms ++ [m]) ∧ To (fun x => N ≤ x ∧ x < M) h h' ∧ Wf h' := by
  obtain ⟨P, rs, r, hP, hl, hi⟩ := hm
  obtain ⟨v', h1, h', g1, g2, g3, g4, g5⟩ := apd_rows (by_ := 64) hw r (by decide) (mL m.tag m.delta vl vs) rfl (mL_one r1.one r2.one) (by omega) (by omega)
  have nb := g4.nb
  have keep : ∀ {w : AV} {l : List (List AV)}, Rws h (fun x => N ≤ x ∧ ¬ P x) 3 w l → Rws h' (fun x => N ≤ x ∧ ¬ (P x ∨ h.nb ≤ x ∧ x < h'.nb)) 3 w l := fun hr =>
    (hr.mono (Q := fun x => N ≤ x ∧ ¬ P x ∧ x < h.nb) fun x hx hlt => ⟨hx.1, hx.2, hlt⟩).to g4 (fun x hx _ => hx.2.1) |>.mono fun x hx _ => ⟨hx.1, fun hh => by rcases hh with hh | hh; exact hx.2.1 hh; omega⟩
  have new : ∀ {w : AV} {l : List (List AV)}, Rws h (fun x => M ≤ x) 3 w l → Rws h (fun x => N ≤ x ∧ ¬ P x) 3 w l := fun hr => hr.mono fun x hx _ => ⟨by have hx : M ≤ x := hx; omega, fun hh => by have hx : M ≤ x := hx; have := (hP x hh).2; omega⟩
  refine ⟨v', h1, h', g1, g2, ⟨fun x => P x ∨ h.nb ≤ x ∧ x < h'.nb, rs ++ [mL m.tag m.delta vl vs], g3.mono (fun x hx hlt => ?_), fun x hx => ?_, by simp [hl], fun i h3 h4 => ?_⟩, g4.mono fun x _ hx => hP x hx, g5⟩
  · rcases hx with hx | hx
    · exact .inl hx
    · exact .inr ⟨hx, hlt⟩
  · rcases hx with hx | hx
    · have := hP x hx; exact ⟨this.1, by omega⟩
    · omega
  · by_cases c : i < ms.length
    · obtain ⟨wl, ws, e, q1, q2⟩ := hi i c (by omega)
      refine ⟨wl, ws, ?_, ?_, ?_⟩
      · rw [List.getElem_append_left (by omega), List.getElem_append_left c]; exact e
      · rw [List.getElem_append_left c]; exact keep q1
      · rw [List.getElem_append_left c]; exact keep q2
    · have hlen : i = ms.length := by simp at h3; omega
      subst hlen
      refine ⟨vl, vs, ?_, ?_, ?_⟩
      · rw [List.getElem_append_right (by omega), List.getElem_append_right (by omega)]; simp [hl]
      · rw [List.getElem_append_right (by omega)]; simp only [Nat.sub_self, List.getElem_cons_zero]; exact keep (new r1)
      · rw [List.getElem_append_right (by omega)]; simp only [Nat.sub_self, List.getElem_cons_zero]; exact keep (new r2)
def ens (t : List Nat) : Nat → Sq → List Mv → Option (List Mv × Sq)
  | 0, q, l => some (l, q)
  | n + 1, q, l => match en t q with
    | none => none
    | some r => ens t n r.2 (l ++ [r.1])
theorem fn_ok {m : Mv} {q : Sq} {r : Mv × Sq} (h : fn m q = some r) : r.2.2 = false := by
  unfold fn at h
  split at h
  · cases h; assumption
  · cases h
theorem en_ok {t : List Nat} {q : Sq} {r : Mv × Sq} (h : en t q = some r) : r.2.2 = false := by
  unfold en at h
  split at h
  · exact fn_ok h
  split at h
  · split at h
    · cases h
    · exact fn_ok h
  split at h
  · cases h
  split at h
  · split at h
    · cases h
    · exact fn_ok h
  split at h
  · exact fn_ok h
  split at h
  · split at h
    · cases h
    · exact fn_ok h
  · split at h
    · cases h
    · split at h
      · cases h
      · exact fn_ok h
theorem ens_ok {t : List Nat} : ∀ (n : Nat) (q : Sq) (l : List Mv) (r : List Mv × Sq), ens t n q l = some r → q.2 = false → r.2.2 = false
  | 0, q, l, r, h, hq => by have h : some (l, q) = some r := h; cases h; exact hq
  | n + 1, q, l, r, h, hq => by
    unfold ens at h
    split at h
    · cases h
    · rename_i r' he
      exact ens_ok n _ _ _ h (en_ok he)
theorem loop61 {lo b pb N : Nat} {t : List Nat} (hb : b < N) (hpb : pb < N) (hne : pb ≠ b) : ∀ (n i m : Nat) (q : Sq) (l : List Mv) (v : AV) (h : Hp), n < m → i + n ≤ 70000 → l.length ≤ i → N ≤ h.nb → Wf h → CurQ h lo b t q → Pool h pb → MR h N h.nb v l →
    (ens t n q l = none ∧ ∃ h', lp L61n0 m [plv pb, .ptr b 0, v, .int 63 ((i + n : Nat) : Int), .int 63 (i : Int)] h = .ret nilF h' ∧ To (fun x => x = b ∨ N ≤ x) h h' ∧ Wf h') ∨
    (∃ r v' h', ens t n q l = some r ∧ lp L61n0 m [plv pb, .ptr b 0, v, .int 63 ((i + n : Nat) : Int), .int 63 (i : Int)] h = .exit 0 [.ptr b 0, v'] h' ∧ MR h' N h'.nb v' r.1 ∧ CurQ h' lo b t r.2 ∧ To (fun x => x = b ∨ N ≤ x) h h' ∧ Wf h') := by
  intro n
  induction n with
  | zero =>
    intro i m q l v h hm hi hl hnb hw hc hp hr
    obtain ⟨m, rfl⟩ : ∃ k, m = k + 1 := ⟨m - 1, by omega⟩
    have c1 : ¬ (i : Int) < (i : Int) := by omega
    exact .inr ⟨(l, q), v, h, rfl, lpx m (by simp only [↓L61n0, Nat.add_zero, c1, ↓SD, SA, Int.ofNat_eq_natCast, Int.cast_ofNat_Int, Int.reduceBEq, Int.reduceAdd, Int.reduceNeg, Int.reduceNegSucc, Int.reduceLT, Int.reduceLE, Int.reduceMul, Int.reduceTMod, Int.reduceSub, Int.reduceBNe, Bool.not_true, Bool.not_false, decide_true, decide_false, ne_eq, not_false_eq_true, Int.reduceEq, reduceCtorEq]), hr, hc, To.refl _ _, hw⟩
  | succ n ih =>
    intro i m q l v h hm hi hl hnb hw hc hp hr
    obtain ⟨m, rfl⟩ : ∃ k, m = k + 1 := ⟨m - 1, by omega⟩
    have c1 : (i : Int) < ((i + (n + 1) : Nat) : Int) := by omega
    have i1 := s1n i (by omega)
    have hens : ens t (n + 1) q l = match en t q with | none => none | some r => ens t n r.2 (l ++ [r.1]) := rfl
    rw [hens]
    rcases t87 hc hp hne hw with ⟨k1, g, d, vl, vs, h1, y1, y2, e1, o1, w1⟩ | ⟨r, vl, vs, h1, k1, e1, r1, r2, q1, o1, w1⟩
    · obtain ⟨h2, m2, m2', c2, o2, w2, x2⟩ := mkM0 w1
      obtain ⟨h3, s3, c3, o3, w3, x3⟩ := Ce.stM w2 c2 g d y1 y2
      rw [k1]
      have nb1 := o1.nb
      have o13 : To (fun x => x = b ∨ N ≤ x) h h3 := ((o1.mono fun x _ e => Or.inl e).trans (o2.mono fun _ _ f => f.elim)).trans (o3.mono fun x _ e => by have : x = h1.nb := e; exact .inr (by omega))
      refine .inl ⟨rfl, h3, lpr m (by simp only [↓L61n0, c1, ↓e1, nth_z, nth_1, ↓cK_agg, ↓m2, ↓m2', ↓s3, ↓cK_nils, ↓SD, SA, Int.ofNat_eq_natCast, Int.cast_ofNat_Int, Int.reduceBEq, Int.reduceAdd, Int.reduceNeg, Int.reduceNegSucc, Int.reduceLT, Int.reduceLE, Int.reduceMul, Int.reduceTMod, Int.reduceSub, Int.reduceBNe, Bool.not_true, Bool.not_false, decide_true, decide_false, ne_eq, not_false_eq_true, Int.reduceEq, reduceCtorEq]), o13, w3⟩
    · obtain ⟨h2, m2, m2', c2, o2, w2, x2⟩ := mkM0 w1
      obtain ⟨h3, s3, c3, o3, w3, x3⟩ := Ce.stM w2 c2 r.1.tag r.1.delta r1.one r2.one
      rw [k1]
      have nb1 := o1.nb
      have hc1 := Ce.lt c2
      have d3 := fun kk => Ce.ldM c3 kk
      have q3 : CurQ h3 lo b t r.2 := (q1.to o2 (fun _ _ _ f => f)).to o3 (fun x _ hx e => by have : x = h1.nb := e; omega)
      have o13 : To (fun x => x = b ∨ N ≤ x) h h3 := ((o1.mono fun x _ e => Or.inl e).trans (o2.mono fun _ _ f => f.elim)).trans (o3.mono fun x _ e => by have : x = h1.nb := e; exact .inr (by omega))
      have p3 : Pool h3 pb := hp.to o13 (fun e => by rcases e with e | e; exact hne e; omega)
      have step : ∀ {w : AV} {ls : List (List AV)}, Rws h1 (fun x => h.nb ≤ x) 3 w ls → Rws h3 (fun x => h.nb ≤ x) 3 w ls := fun hr =>
        (((hr.mono (Q := fun x => h.nb ≤ x ∧ x < h1.nb) fun x hx hlt => ⟨hx, hlt⟩).to o2 (fun _ _ _ f => f)).to o3 (fun x hx _ e => by have : x = h1.nb := e; have := hx.2; omega)).mono fun x hx _ => hx.1
      have hr1 : MR h1 N h.nb v l := hr.to o1 (fun x hx _ e => by have : x = b := e; omega)
      have hr3 : MR h3 N h.nb v l := by
        obtain ⟨P, rs, a1, a2, a3, a4⟩ := hr1
        have kp : ∀ {w : AV} {z : Nat} {ls : List (List AV)} {Q : Nat → Prop}, Rws h1 Q z w ls → Rws h3 Q z w ls := fun hr =>
          (((hr.mono (Q := fun x => _ ∧ x < h1.nb) fun x hx hlt => ⟨hx, hlt⟩).to o2 (fun _ _ _ f => f)).to o3 (fun x hx _ e => by have : x = h1.nb := e; have := hx.2; omega)).mono fun x hx _ => hx.1
        refine ⟨P, rs, kp a1, a2, a3, fun i b1 b2 => ?_⟩
        obtain ⟨wl, ws, e, z1, z2⟩ := a4 i b1 b2
        exact ⟨wl, ws, e, kp z1, kp z2⟩
      obtain ⟨v', h4, h5, g4, g5, r5, o5, w5⟩ := MR.app w3 hr3 hnb (by have := o13.nb; exact this) r.1 (step r1) (step r2) (by omega)
      have e : L61n0 [plv pb, .ptr b 0, v, .int 63 ((i + (n + 1) : Nat) : Int), .int 63 (i : Int)] h = .norm [plv pb, .ptr b 0, v', .int 63 ((i + (n + 1) : Nat) : Int), .int 63 ((i + 1 : Nat) : Int)] h5 := by
        simp only [↓L61n0, c1, ↓e1, nth_z, nth_1, ↓cK_agg, ↓m2, ↓m2', ↓s3, ↓d3, ↓bldMT, ↓g4, ↓g5, i1, ↓SD, SA, Int.ofNat_eq_natCast, Int.cast_ofNat_Int, Int.reduceBEq, Int.reduceAdd, Int.reduceNeg, Int.reduceNegSucc, Int.reduceLT, Int.reduceLE, Int.reduceMul, Int.reduceTMod, Int.reduceSub, Int.reduceBNe, Bool.not_true, Bool.not_false, decide_true, decide_false, ne_eq, not_false_eq_true, Int.reduceEq, reduceCtorEq]
      have o15 : To (fun x => x = b ∨ N ≤ x) h h5 := o13.trans (o5.mono fun x _ e => .inr e.1)
      have nb5 := o15.nb
      have ei : i + (n + 1) = (i + 1) + n := by omega
      rw [lpn m e, ei]
      rcases ih (i + 1) m r.2 (l ++ [r.1]) v' h5 (by omega) (by omega) (by simp; omega) (by omega) w5 (q3.to o5 (fun x _ hx e => by have := e.1; omega)) (p3.to o5 (fun e => by have := e.1; omega)) r5 with ⟨f1, h6, f2, f4, f5⟩ | ⟨r', v6, h6, f1, f2, f3, f4, f5, f6⟩
      · exact .inl ⟨f1, h6, f2, o15.trans f4, f5⟩
      · exact .inr ⟨r', v6, h6, f1, f2, f3, f4, o15.trans f5, f6⟩
end Go.Proofs.Ytnpfppddongbhaa
end

section
namespace Go.Proofs.Ytnpfppddongbhaa
open Go Go.AM
set_option autoImplicit false
/-- As MR; all the blocks lie below K. -/
def MK (h : Hp) (N M K : Nat) (v : AV) (ms : List Mv) : Prop :=
  ∃ (P : Nat → Prop) (rs : List (List AV)), Rws h P 4 v rs ∧ (∀ x, P x → N ≤ x ∧ x < M ∧ x < K) ∧ rs.length = ms.length ∧ ∀ i (hi : i < ms.length) (hi' : i < rs.length), ∃ vl vs, rs[i] = mL ms[i].tag ms[i].delta vl vs ∧ Rws h (fun x => (N ≤ x ∧ ¬ P x) ∧ x < K) 3 vl (ms[i].loc.map vP) ∧ Rws h (fun x => (N ≤ x ∧ ¬ P x) ∧ x < K) 3 vs (ms[i].stk.map vP)
theorem MR.mk {h : Hp} {N M : Nat} {v : AV} {ms : List Mv} (hm : MR h N M v ms) (hM : M ≤ h.nb) : MK h N M h.nb v ms := by
  obtain ⟨P, rs, r, hP, hl, hi⟩ := hm
  refine ⟨P, rs, r, fun x hx => ⟨(hP x hx).1, (hP x hx).2, by have := (hP x hx).2; omega⟩, hl, fun i h1 h2 => ?_⟩
  obtain ⟨vl, vs, e, r1, r2⟩ := hi i h1 h2
  exact ⟨vl, vs, e, r1.mono fun x hx hlt => ⟨hx, hlt⟩, r2.mono fun x hx hlt => ⟨hx, hlt⟩⟩
theorem MK.mr {h : Hp} {N M K : Nat} {v : AV} {ms : List Mv} (hm : MK h N M K v ms) : MR h N M v ms := by
  obtain ⟨P, rs, r, hP, hl, hi⟩ := hm
  refine ⟨P, rs, r, fun x hx => ⟨(hP x hx).1, (hP x hx).2.1⟩, hl, fun i h1 h2 => ?_⟩
  obtain ⟨vl, vs, e, r1, r2⟩ := hi i h1 h2
  exact ⟨vl, vs, e, r1.mono fun x hx _ => hx.1, r2.mono fun x hx _ => hx.1⟩
theorem MK.to {h h' : Hp} {N M K : Nat} {v : AV} {ms : List Mv} {W : Nat → Prop} (hm : MK h N M K v ms) (ht : To W h h') (hd : ∀ x, N ≤ x → x < K → ¬ W x) : MK h' N M K v ms := by
  obtain ⟨P, rs, r, hP, hl, hi⟩ := hm
  refine ⟨P, rs, r.to ht (fun x hx _ => hd x (hP x hx).1 (hP x hx).2.2), hP, hl, fun i h1 h2 => ?_⟩
  obtain ⟨vl, vs, e, r1, r2⟩ := hi i h1 h2
  exact ⟨vl, vs, e, r1.to ht (fun x hx _ => hd x hx.1.1 hx.2), r2.to ht (fun x hx _ => hd x hx.1.1 hx.2)⟩
/-- What the bytes of stated frames are. -/
def rdm (t : List Nat) : Option (List Mv) :=
  if (adv t (0, false) 2).2 = true then none else if 4096 < val t (0, false) 2 then none
  else match ens t (val t (0, false) 2) (adv t (0, false) 2) [] with
    | none => none
    | some r => if 0 < t.length - r.2.1 then none else some r.1
theorem blk_x0 {vs : List AV} {h : Hp} (k : List AV → Hp → Res) : blk 0 (.exit 0 vs h) k = k vs h := of_eq_true (eq_self _)
theorem t61 {h : Hp} {P : Nat → Prop} {v : AV} {t : List Nat} {pb : Nat} (hs : Sl h P v (Bs t)) (hw : Wf h) (ht : t.length ≤ 100000) (hb : ∀ x ∈ t, x < 256) (hp : Pool h pb) :
    (rdm t = none ∧ ∃ h', s61 [v, plv pb] h = .ret nilF h' ∧ To No h h' ∧ Wf h') ∨
    (∃ ms v' h', rdm t = some ms ∧ s61 [v, plv pb] h = .ret (.tup (.cons v' (.cons (.bool true) .nil))) h' ∧ MR h' h.nb h'.nb v' ms ∧ To No h h' ∧ Wf h') := by
  obtain ⟨b, h1, e1, c1, o1, w1, x1⟩ := t25 hs hw ht hb
  have nb1 := o1.nb
  have hpl := Ce.lt hp
  have hbl := c1.lo
  have c1 : CurQ h1 h.nb b t (0, false) := c1
  obtain ⟨h2, e2, q2, o2, w2⟩ := u2 c1 w1
  have nb2 := o2.nb
  have e3 := t30 q2
  have hv : val t (0, false) 2 < 65536 := val_lt hb _ 2
  have fin : ∀ {g : Hp}, To (fun x => h.nb ≤ x) h g → To No h g := fun tt => tt.mono fun x hx e => by have : h.nb ≤ x := e; omega
  have o12 : To (fun x => h.nb ≤ x) h h2 := (o1.mono fun _ _ f => f.elim).trans (o2.mono fun x _ e => by have : x = b := e; show h.nb ≤ x; omega)
  have p2 : Pool h2 pb := hp.to o12 (fun e => by have : h.nb ≤ pb := e; omega)
  have gi : ∀ x : Int, gsel (.bool false) false (.int 63 x) = .int 63 x := fun x => rfl
  cases hq : (adv t (0, false) 2).2 with
  | true =>
    rw [hq] at e3
    refine .inl ⟨by unfold rdm; rw [if_pos hq], h2, ?_, fin o12, w2⟩
    simp only [↓s61, ↓e1, ↓e2, ↓e3, ↓cK_nils, Bool.not_true, ↓SD, SA, Int.ofNat_eq_natCast, Int.cast_ofNat_Int, Int.reduceBEq, Int.reduceAdd, Int.reduceNeg, Int.reduceNegSucc, Int.reduceLT, Int.reduceLE, Int.reduceMul, Int.reduceTMod, Int.reduceSub, Int.reduceBNe, Bool.not_true, Bool.not_false, decide_true, decide_false, ne_eq, not_false_eq_true, Int.reduceEq, reduceCtorEq]
  | false =>
    rw [hq] at e3
    have hq' : ¬ (adv t (0, false) 2).2 = true := by rw [hq]; exact Bool.false_ne_true
    by_cases c : 4096 < val t (0, false) 2
    · have i4 : (4096 : Int) < ((val t (0, false) 2 : Nat) : Int) := by omega
      refine .inl ⟨by unfold rdm; rw [if_neg hq', if_pos c], h2, ?_, fin o12, w2⟩
      simp only [↓s61, ↓e1, ↓e2, ↓e3, ↓gi, i4, ↓cK_nils, Bool.not_false, ↓SD, SA, Int.ofNat_eq_natCast, Int.cast_ofNat_Int, Int.reduceBEq, Int.reduceAdd, Int.reduceNeg, Int.reduceNegSucc, Int.reduceLT, Int.reduceLE, Int.reduceMul, Int.reduceTMod, Int.reduceSub, Int.reduceBNe, Bool.not_true, Bool.not_false, decide_true, decide_false, ne_eq, not_false_eq_true, Int.reduceEq, reduceCtorEq]
    · have i4 : ¬ (4096 : Int) < ((val t (0, false) 2 : Nat) : Int) := by omega
      have hm : val t (0, false) 2 < most := by unfold most; omega
      have hne : pb ≠ b := by omega
      rcases loop61 (N := h2.nb) (by have := x1; omega) (by omega) hne (val t (0, false) 2) 0 most (adv t (0, false) 2) [] .nils h2 hm (by omega) (Nat.le_refl _) (Nat.le_refl _) w2 q2 p2 (MR.nil _ _ _) with ⟨f1, h', f2, f4, f5⟩ | ⟨r, v', h', f1, f2, f3, f4, f5, f6⟩
      · rw [Nat.zero_add] at f2
        have f2 : lp L61n0 most [plv pb, .ptr b 0, .nils, .int 63 ((val t (0, false) 2 : Nat) : Int), .int 63 0] h2 = .ret nilF h' := f2
        refine .inl ⟨by unfold rdm; rw [if_neg hq', if_neg c, f1], h', ?_, fin (o12.trans (f4.mono fun x _ e => by rcases e with e | e; show h.nb ≤ x; omega; show h.nb ≤ x; omega)), f5⟩
        simp only [↓s61, ↓e1, ↓e2, ↓e3, ↓gi, i4, Bool.not_false, ↓f2, ↓SD, SA, Int.ofNat_eq_natCast, Int.cast_ofNat_Int, Int.reduceBEq, Int.reduceAdd, Int.reduceNeg, Int.reduceNegSucc, Int.reduceLT, Int.reduceLE, Int.reduceMul, Int.reduceTMod, Int.reduceSub, Int.reduceBNe, Bool.not_true, Bool.not_false, decide_true, decide_false, ne_eq, not_false_eq_true, Int.reduceEq, reduceCtorEq]
      · rw [Nat.zero_add] at f2
        have f2 : lp L61n0 most [plv pb, .ptr b 0, .nils, .int 63 ((val t (0, false) 2 : Nat) : Int), .int 63 0] h2 = .exit 0 [.ptr b 0, v'] h' := f2
        have e4 := t31 f4
        have ck := fun kk => f3.cK kk
        have fo : To No h h' := fin (o12.trans (f5.mono fun x _ e => by rcases e with e | e; show h.nb ≤ x; omega; show h.nb ≤ x; omega))
        by_cases cl_ : 0 < t.length - r.2.1
        · have i5 : (0 : Int) < ((t.length - r.2.1 : Nat) : Int) := by omega
          refine .inl ⟨by unfold rdm; rw [if_neg hq', if_neg c, f1]; simp only []; rw [if_pos cl_], h', ?_, fo, f6⟩
          simp only [↓s61, ↓e1, ↓e2, ↓e3, ↓gi, i4, Bool.not_false, ↓f2, ↓e4, i5, ↓cK_nils, blk_x0, ↓SD, SA, Int.ofNat_eq_natCast, Int.cast_ofNat_Int, Int.reduceBEq, Int.reduceAdd, Int.reduceNeg, Int.reduceNegSucc, Int.reduceLT, Int.reduceLE, Int.reduceMul, Int.reduceTMod, Int.reduceSub, Int.reduceBNe, Bool.not_true, Bool.not_false, decide_true, decide_false, ne_eq, not_false_eq_true, Int.reduceEq, reduceCtorEq]
        · have i5 : ¬ (0 : Int) < ((t.length - r.2.1 : Nat) : Int) := by omega
          refine .inr ⟨r.1, v', h', by unfold rdm; rw [if_neg hq', if_neg c, f1]; simp only []; rw [if_neg cl_], ?_, ?_, fo, f6⟩
          · simp only [↓s61, ↓e1, ↓e2, ↓e3, ↓gi, i4, Bool.not_false, ↓f2, ↓e4, i5, ↓ck, blk_x0, ↓SD, SA, Int.ofNat_eq_natCast, Int.cast_ofNat_Int, Int.reduceBEq, Int.reduceAdd, Int.reduceNeg, Int.reduceNegSucc, Int.reduceLT, Int.reduceLE, Int.reduceMul, Int.reduceTMod, Int.reduceSub, Int.reduceBNe, Bool.not_true, Bool.not_false, decide_true, decide_false, ne_eq, not_false_eq_true, Int.reduceEq, reduceCtorEq]
          · obtain ⟨P, rs, a1, a2, a3, a4⟩ := f3
            have nb' := o12.nb
            refine ⟨P, rs, a1, fun x hx => ⟨by have := (a2 x hx).1; omega, (a2 x hx).2⟩, a3, fun i z1 z2 => ?_⟩
            obtain ⟨wl, ws, y1, y2, y3⟩ := a4 i z1 z2
            exact ⟨wl, ws, y1, y2.mono fun x hx _ => ⟨by have := hx.1; omega, hx.2⟩, y3.mono fun x hx _ => ⟨by have := hx.1; omega, hx.2⟩⟩
end Go.Proofs.Ytnpfppddongbhaa
end

section
namespace Go.Proofs.Ytnpfppddongbhaa
open Go Go.AM
set_option autoImplicit false
/-! ### the reference's reading -/
theorem step63 {lo b pb N n : Nat} {t : List Nat} {q : Sq} {l : List Mv} {v : AV} {h : Hp} (hb : b < N) (hpb : pb < N) (hne : pb ≠ b) (hn : n ≤ 70000) (hl : l.length ≤ 70000) (hnb : N ≤ h.nb) (hw : Wf h) (hc : CurQ h lo b t q) (hp : Pool h pb) (hm : MR h N h.nb v l) :
    (en t q = none ∧ ∃ h', L63n0 [plv pb, .ptr b 0, .int 63 ((n + 1 : Nat) : Int), v] h = .ret nilF h' ∧ To (fun x => x = b ∨ N ≤ x) h h' ∧ Wf h') ∨
    (∃ r v' h', en t q = some r ∧ L63n0 [plv pb, .ptr b 0, .int 63 ((n + 1 : Nat) : Int), v] h = .norm [plv pb, .ptr b 0, .int 63 (n : Int), v'] h' ∧ MR h' N h'.nb v' (l ++ [r.1]) ∧ CurQ h' lo b t r.2 ∧ Pool h' pb ∧ To (fun x => x = b ∨ N ≤ x) h h' ∧ Wf h') := by
  have hbyt := hc.byt
  have c0 : (0 : Int) < ((n + 1 : Nat) : Int) := by omega
  have i1 : wrapC 63 (((n + 1 : Nat) : Int) - 1) = (n : Int) := by rw [w63_in _ (by omega) (by omega)]; omega
  obtain ⟨h1, e1, q1, o1, w1⟩ := n1 hc hw
  obtain ⟨h2, m2, m2', c2, o2, w2, x2⟩ := mkM0 w1
  obtain ⟨h3, s3, c3, o3, w3, x3⟩ := Ce.stM w2 c2 (val t q 1) 0 (vl := .nils) (vs := .nils) rfl rfl
  have nb1 := o1.nb
  have q3 : CurQ h3 lo b t (adv t q 1) := (q1.to o2 (fun _ _ _ f => f)).to o3 (fun x _ hx e => by have : x = h1.nb := e; omega)
  have o13 : To (fun x => x = b ∨ N ≤ x) h h3 := ((o1.mono fun x _ e => Or.inl e).trans (o2.mono fun _ _ f => f.elim)).trans (o3.mono fun x _ e => by have : x = h1.nb := e; exact .inr (by omega))
  have k3 : MK h3 N h.nb h.nb v l := (((hm.mk (Nat.le_refl _)).to o1 (fun x hx _ e => by have : x = b := e; omega)).to o2 (fun _ _ _ f => f)).to o3 (fun x _ hx e => by have : x = h1.nb := e; omega)
  have p3 : Pool h3 pb := hp.to o13 (fun e => by rcases e with e | e; exact hne e; omega)
  obtain ⟨l3, l3'⟩ := Ce.lM c3
  have g256 : val t q 1 < 256 := val_lt hbyt q 1
  have gp : gsel (.bool false) false (.ptr b 0) = .ptr b 0 := rfl
  have gb_ : ∀ x : Bool, gsel (.bool false) false (.bool x) = .bool x := fun x => rfl
  have bad_ : ∀ {g : Hp} {q' : Sq}, CurQ g lo b t q' → (∀ kk : AV → Res, ld1 g (.ptr b (Nat.add 0 2)) kk = kk (.bool q'.2)) ∧ (∀ kk : AV → Res, ld1 g (.ptr b 2) kk = kk (.bool q'.2)) := fun c => by
    obtain ⟨v, hs, a0, a1, a2⟩ := c.open
    exact ⟨a2, a2⟩
  by_cases k64 : val t q 1 < 64
  · have i64 : ¬ (63 : Int) < ((val t q 1 : Nat) : Int) := by omega
    obtain ⟨g_1, s_2, s_2', c_3, t_4, w_5, y_6⟩ := Ce.sD w3 c3 (val t q 1)
    have q_7 := q3.to t_4 (fun x _ hx e => by have : x = h1.nb := e; omega)
    have k_8 := k3.to t_4 (fun x _ hx e => by have : x = h1.nb := e; omega)
    have o_9 := o13.trans (t_4.mono fun x _ e => by have : x = h1.nb := e; exact Or.inr (by omega))
    have p_10 : Pool g_1 pb := p3.to t_4 (fun e => by have : pb = h1.nb := e; omega)
    obtain ⟨b_11, b_11'⟩ := bad_ q_7
    have d_12 := fun kk => Ce.ldM c_3 kk
    have he_13 : en t q = fn ⟨(val t q 1), (val t q 1), [], []⟩ (adv t q 1) := by unfold en; rw [if_pos k64]
    have nb_14 := (o_9).nb
    obtain ⟨v_15, g_16, g_17, a_18, a_19, m_20, t_21, w_22⟩ := MR.app w_5 (MK.mr k_8) hnb nb_14 ⟨(val t q 1), (val t q 1), [], []⟩ (vl := .nils) (vs := .nils) (Rws.nil _ _ _) (Rws.nil _ _ _) (by omega)
    cases hq : (adv t q 1).2 with
    | true =>
      refine .inl ⟨by rw [he_13]; unfold fn; rw [hq]; rfl, _, ?_, o_9, w_5⟩
      simp only [↓L63n0, c0, ↓e1, ↓bldM, ↓bldM', ↓m2, ↓m2', ↓s3, ↓cP_p, ↓l3, ↓l3', ↓nck_p, i64, ↓s_2, ↓s_2', ↓d_12, ↓gp, ↓gb_, ↓b_11, ↓b_11', hq, ↓bldMT, ↓a_18, ↓a_19, i1, ↓cK_agg, ↓cK_nils, nth_z, nth_1, Bool.not_true, Bool.not_false, ↓SD, SA, Int.ofNat_eq_natCast, Int.cast_ofNat_Int, Int.reduceBEq, Int.reduceAdd, Int.reduceNeg, Int.reduceNegSucc, Int.reduceLT, Int.reduceLE, Int.reduceMul, Int.reduceTMod, Int.reduceSub, Int.reduceBNe, Bool.not_true, Bool.not_false, decide_true, decide_false, ne_eq, not_false_eq_true, Int.reduceEq, reduceCtorEq]
    | false =>
      refine .inr ⟨(⟨(val t q 1), (val t q 1), [], []⟩, (adv t q 1)), v_15, g_17, by rw [he_13]; unfold fn; rw [hq]; rfl, ?_, m_20, q_7.to t_21 (fun x _ hx e => by have := e.1; omega), p_10.to t_21 (fun e => by have := e.1; omega), o_9.trans (t_21.mono fun x _ e => Or.inr e.1), w_22⟩
      simp only [↓L63n0, c0, ↓e1, ↓bldM, ↓bldM', ↓m2, ↓m2', ↓s3, ↓cP_p, ↓l3, ↓l3', ↓nck_p, i64, ↓s_2, ↓s_2', ↓d_12, ↓gp, ↓gb_, ↓b_11, ↓b_11', hq, ↓bldMT, ↓a_18, ↓a_19, i1, ↓cK_agg, ↓cK_nils, nth_z, nth_1, Bool.not_true, Bool.not_false, ↓SD, SA, Int.ofNat_eq_natCast, Int.cast_ofNat_Int, Int.reduceBEq, Int.reduceAdd, Int.reduceNeg, Int.reduceNegSucc, Int.reduceLT, Int.reduceLE, Int.reduceMul, Int.reduceTMod, Int.reduceSub, Int.reduceBNe, Bool.not_true, Bool.not_false, decide_true, decide_false, ne_eq, not_false_eq_true, Int.reduceEq, reduceCtorEq]
  have i64 : (63 : Int) < ((val t q 1 : Nat) : Int) := by omega
  by_cases k128 : val t q 1 < 128
  · have i128 : ¬ (127 : Int) < ((val t q 1 : Nat) : Int) := by omega
    have u64 : wrapC 63 (((val t q 1 : Nat) : Int) - 64) = ((val t q 1 - 64 : Nat) : Int) := by rw [w63_in _ (by omega) (by omega)]; omega
    obtain ⟨g_23, s_24, s_24', c_25, t_26, w_27, y_28⟩ := Ce.sD w3 c3 (val t q 1 - 64)
    have q_29 := q3.to t_26 (fun x _ hx e => by have : x = h1.nb := e; omega)
    have k_30 := k3.to t_26 (fun x _ hx e => by have : x = h1.nb := e; omega)
    have o_31 := o13.trans (t_26.mono fun x _ e => by have : x = h1.nb := e; exact Or.inr (by omega))
    have p_32 : Pool g_23 pb := p3.to t_26 (fun e => by have : pb = h1.nb := e; omega)
    have lt_33 := Ce.lt c_25
    rcases t88 q_29 p_32 hne w_27 1 (by omega) with ⟨kn_34, g_35, e_36, ⟨qx_37, q_38⟩, t_39, w_40⟩ | ⟨⟨l_41, qq_42⟩, vv_43, g_35, ks_44, e_36, r_45, q_38, t_39, w_40⟩
    ·
      have e_36' : s88 [.ptr b 0, plv pb, .int 63 1] g_23 = .ret nilF g_35 := e_36
      have c_46 := c_25.to t_39 (fun e => by have : h1.nb = b := e; omega)
      have k_47 := k_30.to t_39 (fun x hx _ e => by have : x = b := e; omega)
      have o_48 := o_31.trans (t_39.mono fun x _ e => Or.inl e)
      have p_49 : Pool g_35 pb := p_32.to t_39 (fun e => hne e)
      obtain ⟨g_50, s_51, s_51', c_52, t_53, w_54, y_55⟩ := Ce.sS w_40 c_46 .nils rfl
      have q_56 := q_38.to t_53 (fun x _ hx e => by have : x = h1.nb := e; omega)
      have k_57 := k_47.to t_53 (fun x _ hx e => by have : x = h1.nb := e; omega)
      have o_58 := o_48.trans (t_53.mono fun x _ e => by have : x = h1.nb := e; exact Or.inr (by omega))
      have p_59 : Pool g_50 pb := p_49.to t_53 (fun e => by have : pb = h1.nb := e; omega)
      refine .inl ⟨by unfold en; rw [if_neg k64, if_pos k128, kn_34], _, ?_, o_58, w_54⟩
      simp only [↓L63n0, c0, ↓e1, ↓bldM, ↓bldM', ↓m2, ↓m2', ↓s3, ↓cP_p, ↓l3, ↓l3', ↓nck_p, i64, i128, u64, ↓s_24, ↓s_24', ↓e_36, ↓e_36', ↓s_51, ↓s_51', ↓gp, ↓gb_, ↓cK_agg, ↓cK_nils, nth_z, nth_1, ↓SD, SA, Int.ofNat_eq_natCast, Int.cast_ofNat_Int, Int.reduceBEq, Int.reduceAdd, Int.reduceNeg, Int.reduceNegSucc, Int.reduceLT, Int.reduceLE, Int.reduceMul, Int.reduceTMod, Int.reduceSub, Int.reduceBNe, Bool.not_true, Bool.not_false, decide_true, decide_false, ne_eq, not_false_eq_true, Int.reduceEq, reduceCtorEq]
    ·
      have r_45 : Rws g_35 (fun x => g_23.nb ≤ x) 3 vv_43 (l_41.map vP) := r_45
      have q_38 : CurQ g_35 lo b t qq_42 := q_38
      have e_36' : s88 [.ptr b 0, plv pb, .int 63 1] g_23 = .ret (.tup (.cons vv_43 (.cons (.bool true) .nil))) g_35 := e_36
      have c_60 := c_25.to t_39 (fun e => by have : h1.nb = b := e; omega)
      have k_61 := k_30.to t_39 (fun x hx _ e => by have : x = b := e; omega)
      have o_62 := o_31.trans (t_39.mono fun x _ e => Or.inl e)
      have p_63 : Pool g_35 pb := p_32.to t_39 (fun e => hne e)
      have ck_64 := fun kk => r_45.cK kk
      have on_65 := r_45.one
      obtain ⟨g_66, s_67, s_67', c_68, t_69, w_70, y_71⟩ := Ce.sS w_40 c_60 vv_43 on_65
      have q_72 := q_38.to t_69 (fun x _ hx e => by have : x = h1.nb := e; omega)
      have k_73 := k_61.to t_69 (fun x _ hx e => by have : x = h1.nb := e; omega)
      have o_74 := o_62.trans (t_69.mono fun x _ e => by have : x = h1.nb := e; exact Or.inr (by omega))
      have p_75 : Pool g_66 pb := p_63.to t_69 (fun e => by have : pb = h1.nb := e; omega)
      have r_76 := r_45.to t_69 (fun x hx _ e => by have hx : g_23.nb ≤ x := hx; have : x = h1.nb := e; omega)
      obtain ⟨b_77, b_77'⟩ := bad_ q_72
      have d_78 := fun kk => Ce.ldM c_68 kk
      have he_79 : en t q = fn ⟨(val t q 1), (val t q 1 - 64), [], l_41⟩ qq_42 := by unfold en; rw [if_neg k64, if_pos k128, ks_44]
      have nb_80 := (o_74).nb
      obtain ⟨v_81, g_82, g_83, a_84, a_85, m_86, t_87, w_88⟩ := MR.app w_70 (MK.mr k_73) hnb nb_80 ⟨(val t q 1), (val t q 1 - 64), [], l_41⟩ (vl := .nils) (vs := vv_43) (Rws.nil _ _ _) (r_76.mono fun x hx _ => by have hx : g_23.nb ≤ x := hx; show h.nb ≤ x; omega) (by omega)
      cases hq : qq_42.2 with
      | true =>
        refine .inl ⟨by rw [he_79]; unfold fn; rw [hq]; rfl, _, ?_, o_74, w_70⟩
        simp only [↓L63n0, c0, ↓e1, ↓bldM, ↓bldM', ↓m2, ↓m2', ↓s3, ↓cP_p, ↓l3, ↓l3', ↓nck_p, i64, i128, u64, ↓s_24, ↓s_24', ↓e_36, ↓e_36', ↓ck_64, ↓s_67, ↓s_67', ↓d_78, ↓gp, ↓gb_, ↓b_77, ↓b_77', hq, ↓bldMT, ↓a_84, ↓a_85, i1, ↓cK_agg, ↓cK_nils, nth_z, nth_1, Bool.not_true, Bool.not_false, ↓SD, SA, Int.ofNat_eq_natCast, Int.cast_ofNat_Int, Int.reduceBEq, Int.reduceAdd, Int.reduceNeg, Int.reduceNegSucc, Int.reduceLT, Int.reduceLE, Int.reduceMul, Int.reduceTMod, Int.reduceSub, Int.reduceBNe, Bool.not_true, Bool.not_false, decide_true, decide_false, ne_eq, not_false_eq_true, Int.reduceEq, reduceCtorEq]
      | false =>
        refine .inr ⟨(⟨(val t q 1), (val t q 1 - 64), [], l_41⟩, qq_42), v_81, g_83, by rw [he_79]; unfold fn; rw [hq]; rfl, ?_, m_86, q_72.to t_87 (fun x _ hx e => by have := e.1; omega), p_75.to t_87 (fun e => by have := e.1; omega), o_74.trans (t_87.mono fun x _ e => Or.inr e.1), w_88⟩
        simp only [↓L63n0, c0, ↓e1, ↓bldM, ↓bldM', ↓m2, ↓m2', ↓s3, ↓cP_p, ↓l3, ↓l3', ↓nck_p, i64, i128, u64, ↓s_24, ↓s_24', ↓e_36, ↓e_36', ↓ck_64, ↓s_67, ↓s_67', ↓d_78, ↓gp, ↓gb_, ↓b_77, ↓b_77', hq, ↓bldMT, ↓a_84, ↓a_85, i1, ↓cK_agg, ↓cK_nils, nth_z, nth_1, Bool.not_true, Bool.not_false, ↓SD, SA, Int.ofNat_eq_natCast, Int.cast_ofNat_Int, Int.reduceBEq, Int.reduceAdd, Int.reduceNeg, Int.reduceNegSucc, Int.reduceLT, Int.reduceLE, Int.reduceMul, Int.reduceTMod, Int.reduceSub, Int.reduceBNe, Bool.not_true, Bool.not_false, decide_true, decide_false, ne_eq, not_false_eq_true, Int.reduceEq, reduceCtorEq]
  have i128 : (127 : Int) < ((val t q 1 : Nat) : Int) := by omega
  by_cases k247 : val t q 1 < 247
  · have i247 : ¬ (246 : Int) < ((val t q 1 : Nat) : Int) := by omega
    refine .inl ⟨by unfold en; rw [if_neg k64, if_neg k128, if_pos k247], _, ?_, o13, w3⟩
    simp only [↓L63n0, c0, ↓e1, ↓bldM, ↓bldM', ↓m2, ↓m2', ↓s3, ↓cP_p, ↓l3, ↓l3', ↓nck_p, i64, i128, i247, ↓gp, ↓gb_, ↓cK_agg, ↓cK_nils, nth_z, nth_1, ↓SD, SA, Int.ofNat_eq_natCast, Int.cast_ofNat_Int, Int.reduceBEq, Int.reduceAdd, Int.reduceNeg, Int.reduceNegSucc, Int.reduceLT, Int.reduceLE, Int.reduceMul, Int.reduceTMod, Int.reduceSub, Int.reduceBNe, Bool.not_true, Bool.not_false, decide_true, decide_false, ne_eq, not_false_eq_true, Int.reduceEq, reduceCtorEq]
  have i247 : (246 : Int) < ((val t q 1 : Nat) : Int) := by omega
  have f247 : (((val t q 1 : Nat) : Int) == 247) = decide (val t q 1 = 247) := nbeq _ 247
  by_cases e247 : val t q 1 = 247
  · rw [decide_eq_true e247] at f247
    obtain ⟨g_89, e_90, q_91, t_92, w_93⟩ := n2 q3 w3
    have e_90' : s32 [.ptr b 0, .int 63 2] h3 = .ret (.int 63 (val t (adv t q 1) 2 : Int)) g_89 := e_90
    have c_94 := c3.to t_92 (fun e => by have : h1.nb = b := e; omega)
    have k_95 := k3.to t_92 (fun x hx _ e => by have : x = b := e; omega)
    have o_96 := o13.trans (t_92.mono fun x _ e => Or.inl e)
    have p_97 : Pool g_89 pb := p3.to t_92 (fun e => hne e)
    obtain ⟨g_98, s_99, s_99', c_100, t_101, w_102, y_103⟩ := Ce.sD w_93 c_94 (val t (adv t q 1) 2)
    have q_104 := q_91.to t_101 (fun x _ hx e => by have : x = h1.nb := e; omega)
    have k_105 := k_95.to t_101 (fun x _ hx e => by have : x = h1.nb := e; omega)
    have o_106 := o_96.trans (t_101.mono fun x _ e => by have : x = h1.nb := e; exact Or.inr (by omega))
    have p_107 : Pool g_98 pb := p_97.to t_101 (fun e => by have : pb = h1.nb := e; omega)
    have lt_108 := Ce.lt c_100
    rcases t88 q_104 p_107 hne w_102 1 (by omega) with ⟨kn_109, g_110, e_111, ⟨qx_112, q_113⟩, t_114, w_115⟩ | ⟨⟨l_116, qq_117⟩, vv_118, g_110, ks_119, e_111, r_120, q_113, t_114, w_115⟩
    ·
      have e_111' : s88 [.ptr b 0, plv pb, .int 63 1] g_98 = .ret nilF g_110 := e_111
      have c_121 := c_100.to t_114 (fun e => by have : h1.nb = b := e; omega)
      have k_122 := k_105.to t_114 (fun x hx _ e => by have : x = b := e; omega)
      have o_123 := o_106.trans (t_114.mono fun x _ e => Or.inl e)
      have p_124 : Pool g_110 pb := p_107.to t_114 (fun e => hne e)
      obtain ⟨g_125, s_126, s_126', c_127, t_128, w_129, y_130⟩ := Ce.sS w_115 c_121 .nils rfl
      have q_131 := q_113.to t_128 (fun x _ hx e => by have : x = h1.nb := e; omega)
      have k_132 := k_122.to t_128 (fun x _ hx e => by have : x = h1.nb := e; omega)
      have o_133 := o_123.trans (t_128.mono fun x _ e => by have : x = h1.nb := e; exact Or.inr (by omega))
      have p_134 : Pool g_125 pb := p_124.to t_128 (fun e => by have : pb = h1.nb := e; omega)
      refine .inl ⟨by unfold en; rw [if_neg k64, if_neg k128, if_neg k247, if_pos e247, kn_109], _, ?_, o_133, w_129⟩
      simp only [↓L63n0, c0, ↓e1, ↓bldM, ↓bldM', ↓m2, ↓m2', ↓s3, ↓cP_p, ↓l3, ↓l3', ↓nck_p, i64, i128, i247, f247, ↓e_90, ↓e_90', ↓s_99, ↓s_99', ↓e_111, ↓e_111', ↓s_126, ↓s_126', ↓gp, ↓gb_, ↓cK_agg, ↓cK_nils, nth_z, nth_1, ↓SD, SA, Int.ofNat_eq_natCast, Int.cast_ofNat_Int, Int.reduceBEq, Int.reduceAdd, Int.reduceNeg, Int.reduceNegSucc, Int.reduceLT, Int.reduceLE, Int.reduceMul, Int.reduceTMod, Int.reduceSub, Int.reduceBNe, Bool.not_true, Bool.not_false, decide_true, decide_false, ne_eq, not_false_eq_true, Int.reduceEq, reduceCtorEq]
    ·
      have r_120 : Rws g_110 (fun x => g_98.nb ≤ x) 3 vv_118 (l_116.map vP) := r_120
      have q_113 : CurQ g_110 lo b t qq_117 := q_113
      have e_111' : s88 [.ptr b 0, plv pb, .int 63 1] g_98 = .ret (.tup (.cons vv_118 (.cons (.bool true) .nil))) g_110 := e_111
      have c_135 := c_100.to t_114 (fun e => by have : h1.nb = b := e; omega)
      have k_136 := k_105.to t_114 (fun x hx _ e => by have : x = b := e; omega)
      have o_137 := o_106.trans (t_114.mono fun x _ e => Or.inl e)
      have p_138 : Pool g_110 pb := p_107.to t_114 (fun e => hne e)
      have ck_139 := fun kk => r_120.cK kk
      have on_140 := r_120.one
      obtain ⟨g_141, s_142, s_142', c_143, t_144, w_145, y_146⟩ := Ce.sS w_115 c_135 vv_118 on_140
      have q_147 := q_113.to t_144 (fun x _ hx e => by have : x = h1.nb := e; omega)
      have k_148 := k_136.to t_144 (fun x _ hx e => by have : x = h1.nb := e; omega)
      have o_149 := o_137.trans (t_144.mono fun x _ e => by have : x = h1.nb := e; exact Or.inr (by omega))
      have p_150 : Pool g_141 pb := p_138.to t_144 (fun e => by have : pb = h1.nb := e; omega)
      have r_151 := r_120.to t_144 (fun x hx _ e => by have hx : g_98.nb ≤ x := hx; have : x = h1.nb := e; omega)
      obtain ⟨b_152, b_152'⟩ := bad_ q_147
      have d_153 := fun kk => Ce.ldM c_143 kk
      have he_154 : en t q = fn ⟨(val t q 1), (val t (adv t q 1) 2), [], l_116⟩ qq_117 := by unfold en; rw [if_neg k64, if_neg k128, if_neg k247, if_pos e247, ks_119]
      have nb_155 := (o_149).nb
      obtain ⟨v_156, g_157, g_158, a_159, a_160, m_161, t_162, w_163⟩ := MR.app w_145 (MK.mr k_148) hnb nb_155 ⟨(val t q 1), (val t (adv t q 1) 2), [], l_116⟩ (vl := .nils) (vs := vv_118) (Rws.nil _ _ _) (r_151.mono fun x hx _ => by have hx : g_98.nb ≤ x := hx; show h.nb ≤ x; omega) (by omega)
      cases hq : qq_117.2 with
      | true =>
        refine .inl ⟨by rw [he_154]; unfold fn; rw [hq]; rfl, _, ?_, o_149, w_145⟩
        simp only [↓L63n0, c0, ↓e1, ↓bldM, ↓bldM', ↓m2, ↓m2', ↓s3, ↓cP_p, ↓l3, ↓l3', ↓nck_p, i64, i128, i247, f247, ↓e_90, ↓e_90', ↓s_99, ↓s_99', ↓e_111, ↓e_111', ↓ck_139, ↓s_142, ↓s_142', ↓d_153, ↓gp, ↓gb_, ↓b_152, ↓b_152', hq, ↓bldMT, ↓a_159, ↓a_160, i1, ↓cK_agg, ↓cK_nils, nth_z, nth_1, Bool.not_true, Bool.not_false, ↓SD, SA, Int.ofNat_eq_natCast, Int.cast_ofNat_Int, Int.reduceBEq, Int.reduceAdd, Int.reduceNeg, Int.reduceNegSucc, Int.reduceLT, Int.reduceLE, Int.reduceMul, Int.reduceTMod, Int.reduceSub, Int.reduceBNe, Bool.not_true, Bool.not_false, decide_true, decide_false, ne_eq, not_false_eq_true, Int.reduceEq, reduceCtorEq]
      | false =>
        refine .inr ⟨(⟨(val t q 1), (val t (adv t q 1) 2), [], l_116⟩, qq_117), v_156, g_158, by rw [he_154]; unfold fn; rw [hq]; rfl, ?_, m_161, q_147.to t_162 (fun x _ hx e => by have := e.1; omega), p_150.to t_162 (fun e => by have := e.1; omega), o_149.trans (t_162.mono fun x _ e => Or.inr e.1), w_163⟩
        simp only [↓L63n0, c0, ↓e1, ↓bldM, ↓bldM', ↓m2, ↓m2', ↓s3, ↓cP_p, ↓l3, ↓l3', ↓nck_p, i64, i128, i247, f247, ↓e_90, ↓e_90', ↓s_99, ↓s_99', ↓e_111, ↓e_111', ↓ck_139, ↓s_142, ↓s_142', ↓d_153, ↓gp, ↓gb_, ↓b_152, ↓b_152', hq, ↓bldMT, ↓a_159, ↓a_160, i1, ↓cK_agg, ↓cK_nils, nth_z, nth_1, Bool.not_true, Bool.not_false, ↓SD, SA, Int.ofNat_eq_natCast, Int.cast_ofNat_Int, Int.reduceBEq, Int.reduceAdd, Int.reduceNeg, Int.reduceNegSucc, Int.reduceLT, Int.reduceLE, Int.reduceMul, Int.reduceTMod, Int.reduceSub, Int.reduceBNe, Bool.not_true, Bool.not_false, decide_true, decide_false, ne_eq, not_false_eq_true, Int.reduceEq, reduceCtorEq]
  rw [decide_eq_false e247] at f247
  by_cases k252 : val t q 1 < 252
  · have i251 : ¬ (251 : Int) < ((val t q 1 : Nat) : Int) := by omega
    obtain ⟨g_164, e_165, q_166, t_167, w_168⟩ := n2 q3 w3
    have e_165' : s32 [.ptr b 0, .int 63 2] h3 = .ret (.int 63 (val t (adv t q 1) 2 : Int)) g_164 := e_165
    have c_169 := c3.to t_167 (fun e => by have : h1.nb = b := e; omega)
    have k_170 := k3.to t_167 (fun x hx _ e => by have : x = b := e; omega)
    have o_171 := o13.trans (t_167.mono fun x _ e => Or.inl e)
    have p_172 : Pool g_164 pb := p3.to t_167 (fun e => hne e)
    obtain ⟨g_173, s_174, s_174', c_175, t_176, w_177, y_178⟩ := Ce.sD w_168 c_169 (val t (adv t q 1) 2)
    have q_179 := q_166.to t_176 (fun x _ hx e => by have : x = h1.nb := e; omega)
    have k_180 := k_170.to t_176 (fun x _ hx e => by have : x = h1.nb := e; omega)
    have o_181 := o_171.trans (t_176.mono fun x _ e => by have : x = h1.nb := e; exact Or.inr (by omega))
    have p_182 : Pool g_173 pb := p_172.to t_176 (fun e => by have : pb = h1.nb := e; omega)
    obtain ⟨b_183, b_183'⟩ := bad_ q_179
    have d_184 := fun kk => Ce.ldM c_175 kk
    have he_185 : en t q = fn ⟨(val t q 1), (val t (adv t q 1) 2), [], []⟩ (adv t (adv t q 1) 2) := by unfold en; rw [if_neg k64, if_neg k128, if_neg k247, if_neg e247, if_pos k252]
    have nb_186 := (o_181).nb
    obtain ⟨v_187, g_188, g_189, a_190, a_191, m_192, t_193, w_194⟩ := MR.app w_177 (MK.mr k_180) hnb nb_186 ⟨(val t q 1), (val t (adv t q 1) 2), [], []⟩ (vl := .nils) (vs := .nils) (Rws.nil _ _ _) (Rws.nil _ _ _) (by omega)
    cases hq : (adv t (adv t q 1) 2).2 with
    | true =>
      refine .inl ⟨by rw [he_185]; unfold fn; rw [hq]; rfl, _, ?_, o_181, w_177⟩
      simp only [↓L63n0, c0, ↓e1, ↓bldM, ↓bldM', ↓m2, ↓m2', ↓s3, ↓cP_p, ↓l3, ↓l3', ↓nck_p, i64, i128, i247, f247, i251, ↓e_165, ↓e_165', ↓s_174, ↓s_174', ↓d_184, ↓gp, ↓gb_, ↓b_183, ↓b_183', hq, ↓bldMT, ↓a_190, ↓a_191, i1, ↓cK_agg, ↓cK_nils, nth_z, nth_1, Bool.not_true, Bool.not_false, ↓SD, SA, Int.ofNat_eq_natCast, Int.cast_ofNat_Int, Int.reduceBEq, Int.reduceAdd, Int.reduceNeg, Int.reduceNegSucc, Int.reduceLT, Int.reduceLE, Int.reduceMul, Int.reduceTMod, Int.reduceSub, Int.reduceBNe, Bool.not_true, Bool.not_false, decide_true, decide_false, ne_eq, not_false_eq_true, Int.reduceEq, reduceCtorEq]
    | false =>
      refine .inr ⟨(⟨(val t q 1), (val t (adv t q 1) 2), [], []⟩, (adv t (adv t q 1) 2)), v_187, g_189, by rw [he_185]; unfold fn; rw [hq]; rfl, ?_, m_192, q_179.to t_193 (fun x _ hx e => by have := e.1; omega), p_182.to t_193 (fun e => by have := e.1; omega), o_181.trans (t_193.mono fun x _ e => Or.inr e.1), w_194⟩
      simp only [↓L63n0, c0, ↓e1, ↓bldM, ↓bldM', ↓m2, ↓m2', ↓s3, ↓cP_p, ↓l3, ↓l3', ↓nck_p, i64, i128, i247, f247, i251, ↓e_165, ↓e_165', ↓s_174, ↓s_174', ↓d_184, ↓gp, ↓gb_, ↓b_183, ↓b_183', hq, ↓bldMT, ↓a_190, ↓a_191, i1, ↓cK_agg, ↓cK_nils, nth_z, nth_1, Bool.not_true, Bool.not_false, ↓SD, SA, Int.ofNat_eq_natCast, Int.cast_ofNat_Int, Int.reduceBEq, Int.reduceAdd, Int.reduceNeg, Int.reduceNegSucc, Int.reduceLT, Int.reduceLE, Int.reduceMul, Int.reduceTMod, Int.reduceSub, Int.reduceBNe, Bool.not_true, Bool.not_false, decide_true, decide_false, ne_eq, not_false_eq_true, Int.reduceEq, reduceCtorEq]
  have i251 : (251 : Int) < ((val t q 1 : Nat) : Int) := by omega
  by_cases k255 : val t q 1 < 255
  · have i254 : ¬ (254 : Int) < ((val t q 1 : Nat) : Int) := by omega
    have u251 : wrapC 63 (((val t q 1 : Nat) : Int) - 251) = ((val t q 1 - 251 : Nat) : Int) := by rw [w63_in _ (by omega) (by omega)]; omega
    obtain ⟨g_195, e_196, q_197, t_198, w_199⟩ := n2 q3 w3
    have e_196' : s32 [.ptr b 0, .int 63 2] h3 = .ret (.int 63 (val t (adv t q 1) 2 : Int)) g_195 := e_196
    have c_200 := c3.to t_198 (fun e => by have : h1.nb = b := e; omega)
    have k_201 := k3.to t_198 (fun x hx _ e => by have : x = b := e; omega)
    have o_202 := o13.trans (t_198.mono fun x _ e => Or.inl e)
    have p_203 : Pool g_195 pb := p3.to t_198 (fun e => hne e)
    obtain ⟨g_204, s_205, s_205', c_206, t_207, w_208, y_209⟩ := Ce.sD w_199 c_200 (val t (adv t q 1) 2)
    have q_210 := q_197.to t_207 (fun x _ hx e => by have : x = h1.nb := e; omega)
    have k_211 := k_201.to t_207 (fun x _ hx e => by have : x = h1.nb := e; omega)
    have o_212 := o_202.trans (t_207.mono fun x _ e => by have : x = h1.nb := e; exact Or.inr (by omega))
    have p_213 : Pool g_204 pb := p_203.to t_207 (fun e => by have : pb = h1.nb := e; omega)
    obtain ⟨l_214, l_214'⟩ := Ce.lM c_206
    have lt_215 := Ce.lt c_206
    rcases t88 q_210 p_213 hne w_208 (val t q 1 - 251) (by omega) with ⟨kn_216, g_217, e_218, ⟨qx_219, q_220⟩, t_221, w_222⟩ | ⟨⟨l_223, qq_224⟩, vv_225, g_217, ks_226, e_218, r_227, q_220, t_221, w_222⟩
    ·
      have c_228 := c_206.to t_221 (fun e => by have : h1.nb = b := e; omega)
      have k_229 := k_211.to t_221 (fun x hx _ e => by have : x = b := e; omega)
      have o_230 := o_212.trans (t_221.mono fun x _ e => Or.inl e)
      have p_231 : Pool g_217 pb := p_213.to t_221 (fun e => hne e)
      obtain ⟨g_232, s_233, s_233', c_234, t_235, w_236, y_237⟩ := Ce.sL w_222 c_228 .nils rfl
      have q_238 := q_220.to t_235 (fun x _ hx e => by have : x = h1.nb := e; omega)
      have k_239 := k_229.to t_235 (fun x _ hx e => by have : x = h1.nb := e; omega)
      have o_240 := o_230.trans (t_235.mono fun x _ e => by have : x = h1.nb := e; exact Or.inr (by omega))
      have p_241 : Pool g_232 pb := p_231.to t_235 (fun e => by have : pb = h1.nb := e; omega)
      refine .inl ⟨by unfold en; rw [if_neg k64, if_neg k128, if_neg k247, if_neg e247, if_neg k252, if_pos k255, kn_216], _, ?_, o_240, w_236⟩
      simp only [↓L63n0, c0, ↓e1, ↓bldM, ↓bldM', ↓m2, ↓m2', ↓s3, ↓cP_p, ↓l3, ↓l3', ↓nck_p, i64, i128, i247, f247, i251, i254, u251, ↓e_196, ↓e_196', ↓s_205, ↓s_205', ↓l_214, ↓l_214', ↓e_218, ↓s_233, ↓s_233', ↓gp, ↓gb_, ↓cK_agg, ↓cK_nils, nth_z, nth_1, ↓SD, SA, Int.ofNat_eq_natCast, Int.cast_ofNat_Int, Int.reduceBEq, Int.reduceAdd, Int.reduceNeg, Int.reduceNegSucc, Int.reduceLT, Int.reduceLE, Int.reduceMul, Int.reduceTMod, Int.reduceSub, Int.reduceBNe, Bool.not_true, Bool.not_false, decide_true, decide_false, ne_eq, not_false_eq_true, Int.reduceEq, reduceCtorEq]
    ·
      have r_227 : Rws g_217 (fun x => g_204.nb ≤ x) 3 vv_225 (l_223.map vP) := r_227
      have q_220 : CurQ g_217 lo b t qq_224 := q_220
      have c_242 := c_206.to t_221 (fun e => by have : h1.nb = b := e; omega)
      have k_243 := k_211.to t_221 (fun x hx _ e => by have : x = b := e; omega)
      have o_244 := o_212.trans (t_221.mono fun x _ e => Or.inl e)
      have p_245 : Pool g_217 pb := p_213.to t_221 (fun e => hne e)
      have ck_246 := fun kk => r_227.cK kk
      have on_247 := r_227.one
      obtain ⟨g_248, s_249, s_249', c_250, t_251, w_252, y_253⟩ := Ce.sL w_222 c_242 vv_225 on_247
      have q_254 := q_220.to t_251 (fun x _ hx e => by have : x = h1.nb := e; omega)
      have k_255 := k_243.to t_251 (fun x _ hx e => by have : x = h1.nb := e; omega)
      have o_256 := o_244.trans (t_251.mono fun x _ e => by have : x = h1.nb := e; exact Or.inr (by omega))
      have p_257 : Pool g_248 pb := p_245.to t_251 (fun e => by have : pb = h1.nb := e; omega)
      have r_258 := r_227.to t_251 (fun x hx _ e => by have hx : g_204.nb ≤ x := hx; have : x = h1.nb := e; omega)
      obtain ⟨b_259, b_259'⟩ := bad_ q_254
      have d_260 := fun kk => Ce.ldM c_250 kk
      have he_261 : en t q = fn ⟨(val t q 1), (val t (adv t q 1) 2), l_223, []⟩ qq_224 := by unfold en; rw [if_neg k64, if_neg k128, if_neg k247, if_neg e247, if_neg k252, if_pos k255, ks_226]
      have nb_262 := (o_256).nb
      obtain ⟨v_263, g_264, g_265, a_266, a_267, m_268, t_269, w_270⟩ := MR.app w_252 (MK.mr k_255) hnb nb_262 ⟨(val t q 1), (val t (adv t q 1) 2), l_223, []⟩ (vl := vv_225) (vs := .nils) (r_258.mono fun x hx _ => by have hx : g_204.nb ≤ x := hx; show h.nb ≤ x; omega) (Rws.nil _ _ _) (by omega)
      cases hq : qq_224.2 with
      | true =>
        refine .inl ⟨by rw [he_261]; unfold fn; rw [hq]; rfl, _, ?_, o_256, w_252⟩
        simp only [↓L63n0, c0, ↓e1, ↓bldM, ↓bldM', ↓m2, ↓m2', ↓s3, ↓cP_p, ↓l3, ↓l3', ↓nck_p, i64, i128, i247, f247, i251, i254, u251, ↓e_196, ↓e_196', ↓s_205, ↓s_205', ↓l_214, ↓l_214', ↓e_218, ↓ck_246, ↓s_249, ↓s_249', ↓d_260, ↓gp, ↓gb_, ↓b_259, ↓b_259', hq, ↓bldMT, ↓a_266, ↓a_267, i1, ↓cK_agg, ↓cK_nils, nth_z, nth_1, Bool.not_true, Bool.not_false, ↓SD, SA, Int.ofNat_eq_natCast, Int.cast_ofNat_Int, Int.reduceBEq, Int.reduceAdd, Int.reduceNeg, Int.reduceNegSucc, Int.reduceLT, Int.reduceLE, Int.reduceMul, Int.reduceTMod, Int.reduceSub, Int.reduceBNe, Bool.not_true, Bool.not_false, decide_true, decide_false, ne_eq, not_false_eq_true, Int.reduceEq, reduceCtorEq]
      | false =>
        refine .inr ⟨(⟨(val t q 1), (val t (adv t q 1) 2), l_223, []⟩, qq_224), v_263, g_265, by rw [he_261]; unfold fn; rw [hq]; rfl, ?_, m_268, q_254.to t_269 (fun x _ hx e => by have := e.1; omega), p_257.to t_269 (fun e => by have := e.1; omega), o_256.trans (t_269.mono fun x _ e => Or.inr e.1), w_270⟩
        simp only [↓L63n0, c0, ↓e1, ↓bldM, ↓bldM', ↓m2, ↓m2', ↓s3, ↓cP_p, ↓l3, ↓l3', ↓nck_p, i64, i128, i247, f247, i251, i254, u251, ↓e_196, ↓e_196', ↓s_205, ↓s_205', ↓l_214, ↓l_214', ↓e_218, ↓ck_246, ↓s_249, ↓s_249', ↓d_260, ↓gp, ↓gb_, ↓b_259, ↓b_259', hq, ↓bldMT, ↓a_266, ↓a_267, i1, ↓cK_agg, ↓cK_nils, nth_z, nth_1, Bool.not_true, Bool.not_false, ↓SD, SA, Int.ofNat_eq_natCast, Int.cast_ofNat_Int, Int.reduceBEq, Int.reduceAdd, Int.reduceNeg, Int.reduceNegSucc, Int.reduceLT, Int.reduceLE, Int.reduceMul, Int.reduceTMod, Int.reduceSub, Int.reduceBNe, Bool.not_true, Bool.not_false, decide_true, decide_false, ne_eq, not_false_eq_true, Int.reduceEq, reduceCtorEq]
  have i254 : (254 : Int) < ((val t q 1 : Nat) : Int) := by omega
  obtain ⟨g_271, e_272, q_273, t_274, w_275⟩ := n2 q3 w3
  have e_272' : s32 [.ptr b 0, .int 63 2] h3 = .ret (.int 63 (val t (adv t q 1) 2 : Int)) g_271 := e_272
  have c_276 := c3.to t_274 (fun e => by have : h1.nb = b := e; omega)
  have k_277 := k3.to t_274 (fun x hx _ e => by have : x = b := e; omega)
  have o_278 := o13.trans (t_274.mono fun x _ e => Or.inl e)
  have p_279 : Pool g_271 pb := p3.to t_274 (fun e => hne e)
  obtain ⟨g_280, s_281, s_281', c_282, t_283, w_284, y_285⟩ := Ce.sD w_275 c_276 (val t (adv t q 1) 2)
  have q_286 := q_273.to t_283 (fun x _ hx e => by have : x = h1.nb := e; omega)
  have k_287 := k_277.to t_283 (fun x _ hx e => by have : x = h1.nb := e; omega)
  have o_288 := o_278.trans (t_283.mono fun x _ e => by have : x = h1.nb := e; exact Or.inr (by omega))
  have p_289 : Pool g_280 pb := p_279.to t_283 (fun e => by have : pb = h1.nb := e; omega)
  obtain ⟨g_290, e_291, q_292, t_293, w_294⟩ := n2 q_286 w_284
  have e_291' : s32 [.ptr b 0, .int 63 2] g_280 = .ret (.int 63 (val t (adv t (adv t q 1) 2) 2 : Int)) g_290 := e_291
  have c_295 := c_282.to t_293 (fun e => by have : h1.nb = b := e; omega)
  have k_296 := k_287.to t_293 (fun x hx _ e => by have : x = b := e; omega)
  have o_297 := o_288.trans (t_293.mono fun x _ e => Or.inl e)
  have p_298 : Pool g_290 pb := p_289.to t_293 (fun e => hne e)
  have b1 : (val t (adv t (adv t q 1) 2) 2) < 65536 := val_lt hbyt _ 2
  have lt_299 := Ce.lt c_295
  rcases t88 q_292 p_298 hne w_294 (val t (adv t (adv t q 1) 2) 2) (by omega) with ⟨kn_300, g_301, e_302, ⟨qx_303, q_304⟩, t_305, w_306⟩ | ⟨⟨l_307, qq_308⟩, vv_309, g_301, ks_310, e_302, r_311, q_304, t_305, w_306⟩
  ·
    have c_312 := c_295.to t_305 (fun e => by have : h1.nb = b := e; omega)
    have k_313 := k_296.to t_305 (fun x hx _ e => by have : x = b := e; omega)
    have o_314 := o_297.trans (t_305.mono fun x _ e => Or.inl e)
    have p_315 : Pool g_301 pb := p_298.to t_305 (fun e => hne e)
    obtain ⟨g_316, s_317, s_317', c_318, t_319, w_320, y_321⟩ := Ce.sL w_306 c_312 .nils rfl
    have q_322 := q_304.to t_319 (fun x _ hx e => by have : x = h1.nb := e; omega)
    have k_323 := k_313.to t_319 (fun x _ hx e => by have : x = h1.nb := e; omega)
    have o_324 := o_314.trans (t_319.mono fun x _ e => by have : x = h1.nb := e; exact Or.inr (by omega))
    have p_325 : Pool g_316 pb := p_315.to t_319 (fun e => by have : pb = h1.nb := e; omega)
    obtain ⟨g_326, e_327, q_328, t_329, w_330⟩ := n2 q_322 w_320
    have e_327' : s32 [.ptr b 0, .int 63 2] g_316 = .ret (.int 63 (val t qx_303 2 : Int)) g_326 := e_327
    have c_331 := c_318.to t_329 (fun e => by have : h1.nb = b := e; omega)
    have k_332 := k_323.to t_329 (fun x hx _ e => by have : x = b := e; omega)
    have o_333 := o_324.trans (t_329.mono fun x _ e => Or.inl e)
    have p_334 : Pool g_326 pb := p_325.to t_329 (fun e => hne e)
    have b2 : (val t qx_303 2) < 65536 := val_lt hbyt _ 2
    have lt_335 := Ce.lt c_331
    rcases t88 q_328 p_334 hne w_330 (val t qx_303 2) (by omega) with ⟨kn_336, g_337, e_338, ⟨qx_339, q_340⟩, t_341, w_342⟩ | ⟨⟨l_343, qq_344⟩, vv_345, g_337, ks_346, e_338, r_347, q_340, t_341, w_342⟩
    ·
      have c_348 := c_331.to t_341 (fun e => by have : h1.nb = b := e; omega)
      have k_349 := k_332.to t_341 (fun x hx _ e => by have : x = b := e; omega)
      have o_350 := o_333.trans (t_341.mono fun x _ e => Or.inl e)
      have p_351 : Pool g_337 pb := p_334.to t_341 (fun e => hne e)
      obtain ⟨g_352, s_353, s_353', c_354, t_355, w_356, y_357⟩ := Ce.sS w_342 c_348 .nils rfl
      have q_358 := q_340.to t_355 (fun x _ hx e => by have : x = h1.nb := e; omega)
      have k_359 := k_349.to t_355 (fun x _ hx e => by have : x = h1.nb := e; omega)
      have o_360 := o_350.trans (t_355.mono fun x _ e => by have : x = h1.nb := e; exact Or.inr (by omega))
      have p_361 : Pool g_352 pb := p_351.to t_355 (fun e => by have : pb = h1.nb := e; omega)
      refine .inl ⟨by unfold en; rw [if_neg k64, if_neg k128, if_neg k247, if_neg e247, if_neg k252, if_neg k255, kn_300], _, ?_, o_360, w_356⟩
      simp only [↓L63n0, c0, ↓e1, ↓bldM, ↓bldM', ↓m2, ↓m2', ↓s3, ↓cP_p, ↓l3, ↓l3', ↓nck_p, i64, i128, i247, f247, i251, i254, ↓e_272, ↓e_272', ↓s_281, ↓s_281', ↓e_291, ↓e_291', ↓e_302, ↓s_317, ↓s_317', ↓e_327, ↓e_327', ↓e_338, ↓s_353, ↓s_353', ↓gp, ↓gb_, ↓cK_agg, ↓cK_nils, nth_z, nth_1, ↓SD, SA, Int.ofNat_eq_natCast, Int.cast_ofNat_Int, Int.reduceBEq, Int.reduceAdd, Int.reduceNeg, Int.reduceNegSucc, Int.reduceLT, Int.reduceLE, Int.reduceMul, Int.reduceTMod, Int.reduceSub, Int.reduceBNe, Bool.not_true, Bool.not_false, decide_true, decide_false, ne_eq, not_false_eq_true, Int.reduceEq, reduceCtorEq]
    ·
      have r_347 : Rws g_337 (fun x => g_326.nb ≤ x) 3 vv_345 (l_343.map vP) := r_347
      have q_340 : CurQ g_337 lo b t qq_344 := q_340
      have c_362 := c_331.to t_341 (fun e => by have : h1.nb = b := e; omega)
      have k_363 := k_332.to t_341 (fun x hx _ e => by have : x = b := e; omega)
      have o_364 := o_333.trans (t_341.mono fun x _ e => Or.inl e)
      have p_365 : Pool g_337 pb := p_334.to t_341 (fun e => hne e)
      have ck_366 := fun kk => r_347.cK kk
      have on_367 := r_347.one
      obtain ⟨g_368, s_369, s_369', c_370, t_371, w_372, y_373⟩ := Ce.sS w_342 c_362 vv_345 on_367
      have q_374 := q_340.to t_371 (fun x _ hx e => by have : x = h1.nb := e; omega)
      have k_375 := k_363.to t_371 (fun x _ hx e => by have : x = h1.nb := e; omega)
      have o_376 := o_364.trans (t_371.mono fun x _ e => by have : x = h1.nb := e; exact Or.inr (by omega))
      have p_377 : Pool g_368 pb := p_365.to t_371 (fun e => by have : pb = h1.nb := e; omega)
      have r_378 := r_347.to t_371 (fun x hx _ e => by have hx : g_326.nb ≤ x := hx; have : x = h1.nb := e; omega)
      refine .inl ⟨by unfold en; rw [if_neg k64, if_neg k128, if_neg k247, if_neg e247, if_neg k252, if_neg k255, kn_300], _, ?_, o_376, w_372⟩
      simp only [↓L63n0, c0, ↓e1, ↓bldM, ↓bldM', ↓m2, ↓m2', ↓s3, ↓cP_p, ↓l3, ↓l3', ↓nck_p, i64, i128, i247, f247, i251, i254, ↓e_272, ↓e_272', ↓s_281, ↓s_281', ↓e_291, ↓e_291', ↓e_302, ↓s_317, ↓s_317', ↓e_327, ↓e_327', ↓e_338, ↓ck_366, ↓s_369, ↓s_369', ↓gp, ↓gb_, ↓cK_agg, ↓cK_nils, nth_z, nth_1, ↓SD, SA, Int.ofNat_eq_natCast, Int.cast_ofNat_Int, Int.reduceBEq, Int.reduceAdd, Int.reduceNeg, Int.reduceNegSucc, Int.reduceLT, Int.reduceLE, Int.reduceMul, Int.reduceTMod, Int.reduceSub, Int.reduceBNe, Bool.not_true, Bool.not_false, decide_true, decide_false, ne_eq, not_false_eq_true, Int.reduceEq, reduceCtorEq]
  ·
    have r_311 : Rws g_301 (fun x => g_290.nb ≤ x) 3 vv_309 (l_307.map vP) := r_311
    have q_304 : CurQ g_301 lo b t qq_308 := q_304
    have c_379 := c_295.to t_305 (fun e => by have : h1.nb = b := e; omega)
    have k_380 := k_296.to t_305 (fun x hx _ e => by have : x = b := e; omega)
    have o_381 := o_297.trans (t_305.mono fun x _ e => Or.inl e)
    have p_382 : Pool g_301 pb := p_298.to t_305 (fun e => hne e)
    have ck_383 := fun kk => r_311.cK kk
    have on_384 := r_311.one
    obtain ⟨g_385, s_386, s_386', c_387, t_388, w_389, y_390⟩ := Ce.sL w_306 c_379 vv_309 on_384
    have q_391 := q_304.to t_388 (fun x _ hx e => by have : x = h1.nb := e; omega)
    have k_392 := k_380.to t_388 (fun x _ hx e => by have : x = h1.nb := e; omega)
    have o_393 := o_381.trans (t_388.mono fun x _ e => by have : x = h1.nb := e; exact Or.inr (by omega))
    have p_394 : Pool g_385 pb := p_382.to t_388 (fun e => by have : pb = h1.nb := e; omega)
    have r_395 := r_311.to t_388 (fun x hx _ e => by have hx : g_290.nb ≤ x := hx; have : x = h1.nb := e; omega)
    obtain ⟨g_396, e_397, q_398, t_399, w_400⟩ := n2 q_391 w_389
    have e_397' : s32 [.ptr b 0, .int 63 2] g_385 = .ret (.int 63 (val t qq_308 2 : Int)) g_396 := e_397
    have c_401 := c_387.to t_399 (fun e => by have : h1.nb = b := e; omega)
    have k_402 := k_392.to t_399 (fun x hx _ e => by have : x = b := e; omega)
    have o_403 := o_393.trans (t_399.mono fun x _ e => Or.inl e)
    have p_404 : Pool g_396 pb := p_394.to t_399 (fun e => hne e)
    have r_405 := r_395.to t_399 (fun x hx _ e => by have hx : g_290.nb ≤ x := hx; have : x = b := e; omega)
    have b2 : (val t qq_308 2) < 65536 := val_lt hbyt _ 2
    have lt_406 := Ce.lt c_401
    rcases t88 q_398 p_404 hne w_400 (val t qq_308 2) (by omega) with ⟨kn_407, g_408, e_409, ⟨qx_410, q_411⟩, t_412, w_413⟩ | ⟨⟨l_414, qq_415⟩, vv_416, g_408, ks_417, e_409, r_418, q_411, t_412, w_413⟩
    ·
      have c_419 := c_401.to t_412 (fun e => by have : h1.nb = b := e; omega)
      have k_420 := k_402.to t_412 (fun x hx _ e => by have : x = b := e; omega)
      have o_421 := o_403.trans (t_412.mono fun x _ e => Or.inl e)
      have p_422 : Pool g_408 pb := p_404.to t_412 (fun e => hne e)
      have r_423 := r_405.to t_412 (fun x hx _ e => by have hx : g_290.nb ≤ x := hx; have : x = b := e; omega)
      obtain ⟨g_424, s_425, s_425', c_426, t_427, w_428, y_429⟩ := Ce.sS w_413 c_419 .nils rfl
      have q_430 := q_411.to t_427 (fun x _ hx e => by have : x = h1.nb := e; omega)
      have k_431 := k_420.to t_427 (fun x _ hx e => by have : x = h1.nb := e; omega)
      have o_432 := o_421.trans (t_427.mono fun x _ e => by have : x = h1.nb := e; exact Or.inr (by omega))
      have p_433 : Pool g_424 pb := p_422.to t_427 (fun e => by have : pb = h1.nb := e; omega)
      have r_434 := r_423.to t_427 (fun x hx _ e => by have hx : g_290.nb ≤ x := hx; have : x = h1.nb := e; omega)
      refine .inl ⟨by unfold en; rw [if_neg k64, if_neg k128, if_neg k247, if_neg e247, if_neg k252, if_neg k255, ks_310]; simp only []; rw [kn_407], _, ?_, o_432, w_428⟩
      simp only [↓L63n0, c0, ↓e1, ↓bldM, ↓bldM', ↓m2, ↓m2', ↓s3, ↓cP_p, ↓l3, ↓l3', ↓nck_p, i64, i128, i247, f247, i251, i254, ↓e_272, ↓e_272', ↓s_281, ↓s_281', ↓e_291, ↓e_291', ↓e_302, ↓ck_383, ↓s_386, ↓s_386', ↓e_397, ↓e_397', ↓e_409, ↓s_425, ↓s_425', ↓gp, ↓gb_, ↓cK_agg, ↓cK_nils, nth_z, nth_1, ↓SD, SA, Int.ofNat_eq_natCast, Int.cast_ofNat_Int, Int.reduceBEq, Int.reduceAdd, Int.reduceNeg, Int.reduceNegSucc, Int.reduceLT, Int.reduceLE, Int.reduceMul, Int.reduceTMod, Int.reduceSub, Int.reduceBNe, Bool.not_true, Bool.not_false, decide_true, decide_false, ne_eq, not_false_eq_true, Int.reduceEq, reduceCtorEq]
    ·
      have r_418 : Rws g_408 (fun x => g_396.nb ≤ x) 3 vv_416 (l_414.map vP) := r_418
      have q_411 : CurQ g_408 lo b t qq_415 := q_411
      have c_435 := c_401.to t_412 (fun e => by have : h1.nb = b := e; omega)
      have k_436 := k_402.to t_412 (fun x hx _ e => by have : x = b := e; omega)
      have o_437 := o_403.trans (t_412.mono fun x _ e => Or.inl e)
      have p_438 : Pool g_408 pb := p_404.to t_412 (fun e => hne e)
      have r_439 := r_405.to t_412 (fun x hx _ e => by have hx : g_290.nb ≤ x := hx; have : x = b := e; omega)
      have ck_440 := fun kk => r_418.cK kk
      have on_441 := r_418.one
      obtain ⟨g_442, s_443, s_443', c_444, t_445, w_446, y_447⟩ := Ce.sS w_413 c_435 vv_416 on_441
      have q_448 := q_411.to t_445 (fun x _ hx e => by have : x = h1.nb := e; omega)
      have k_449 := k_436.to t_445 (fun x _ hx e => by have : x = h1.nb := e; omega)
      have o_450 := o_437.trans (t_445.mono fun x _ e => by have : x = h1.nb := e; exact Or.inr (by omega))
      have p_451 : Pool g_442 pb := p_438.to t_445 (fun e => by have : pb = h1.nb := e; omega)
      have r_452 := r_439.to t_445 (fun x hx _ e => by have hx : g_290.nb ≤ x := hx; have : x = h1.nb := e; omega)
      have r_453 := r_418.to t_445 (fun x hx _ e => by have hx : g_396.nb ≤ x := hx; have : x = h1.nb := e; omega)
      obtain ⟨b_454, b_454'⟩ := bad_ q_448
      have d_455 := fun kk => Ce.ldM c_444 kk
      have he_456 : en t q = fn ⟨(val t q 1), (val t (adv t q 1) 2), l_307, l_414⟩ qq_415 := by unfold en; rw [if_neg k64, if_neg k128, if_neg k247, if_neg e247, if_neg k252, if_neg k255, ks_310]; simp only []; rw [ks_417]
      have nb_457 := (o_450).nb
      obtain ⟨v_458, g_459, g_460, a_461, a_462, m_463, t_464, w_465⟩ := MR.app w_446 (MK.mr k_449) hnb nb_457 ⟨(val t q 1), (val t (adv t q 1) 2), l_307, l_414⟩ (vl := vv_309) (vs := vv_416) (r_452.mono fun x hx _ => by have hx : g_290.nb ≤ x := hx; show h.nb ≤ x; omega) (r_453.mono fun x hx _ => by have hx : g_396.nb ≤ x := hx; show h.nb ≤ x; omega) (by omega)
      cases hq : qq_415.2 with
      | true =>
        refine .inl ⟨by rw [he_456]; unfold fn; rw [hq]; rfl, _, ?_, o_450, w_446⟩
        simp only [↓L63n0, c0, ↓e1, ↓bldM, ↓bldM', ↓m2, ↓m2', ↓s3, ↓cP_p, ↓l3, ↓l3', ↓nck_p, i64, i128, i247, f247, i251, i254, ↓e_272, ↓e_272', ↓s_281, ↓s_281', ↓e_291, ↓e_291', ↓e_302, ↓ck_383, ↓s_386, ↓s_386', ↓e_397, ↓e_397', ↓e_409, ↓ck_440, ↓s_443, ↓s_443', ↓d_455, ↓gp, ↓gb_, ↓b_454, ↓b_454', hq, ↓bldMT, ↓a_461, ↓a_462, i1, ↓cK_agg, ↓cK_nils, nth_z, nth_1, Bool.not_true, Bool.not_false, ↓SD, SA, Int.ofNat_eq_natCast, Int.cast_ofNat_Int, Int.reduceBEq, Int.reduceAdd, Int.reduceNeg, Int.reduceNegSucc, Int.reduceLT, Int.reduceLE, Int.reduceMul, Int.reduceTMod, Int.reduceSub, Int.reduceBNe, Bool.not_true, Bool.not_false, decide_true, decide_false, ne_eq, not_false_eq_true, Int.reduceEq, reduceCtorEq]
      | false =>
        refine .inr ⟨(⟨(val t q 1), (val t (adv t q 1) 2), l_307, l_414⟩, qq_415), v_458, g_460, by rw [he_456]; unfold fn; rw [hq]; rfl, ?_, m_463, q_448.to t_464 (fun x _ hx e => by have := e.1; omega), p_451.to t_464 (fun e => by have := e.1; omega), o_450.trans (t_464.mono fun x _ e => Or.inr e.1), w_465⟩
        simp only [↓L63n0, c0, ↓e1, ↓bldM, ↓bldM', ↓m2, ↓m2', ↓s3, ↓cP_p, ↓l3, ↓l3', ↓nck_p, i64, i128, i247, f247, i251, i254, ↓e_272, ↓e_272', ↓s_281, ↓s_281', ↓e_291, ↓e_291', ↓e_302, ↓ck_383, ↓s_386, ↓s_386', ↓e_397, ↓e_397', ↓e_409, ↓ck_440, ↓s_443, ↓s_443', ↓d_455, ↓gp, ↓gb_, ↓b_454, ↓b_454', hq, ↓bldMT, ↓a_461, ↓a_462, i1, ↓cK_agg, ↓cK_nils, nth_z, nth_1, Bool.not_true, Bool.not_false, ↓SD, SA, Int.ofNat_eq_natCast, Int.cast_ofNat_Int, Int.reduceBEq, Int.reduceAdd, Int.reduceNeg, Int.reduceNegSucc, Int.reduceLT, Int.reduceLE, Int.reduceMul, Int.reduceTMod, Int.reduceSub, Int.reduceBNe, Bool.not_true, Bool.not_false, decide_true, decide_false, ne_eq, not_false_eq_true, Int.reduceEq, reduceCtorEq]
theorem loop63 {lo b pb N : Nat} {t : List Nat} (hb : b < N) (hpb : pb < N) (hne : pb ≠ b) : ∀ (n m : Nat) (q : Sq) (l : List Mv) (v : AV) (h : Hp), n < m → l.length + n ≤ 70000 → N ≤ h.nb → Wf h → CurQ h lo b t q → Pool h pb → MR h N h.nb v l →
    (ens t n q l = none ∧ ∃ h', lp L63n0 m [plv pb, .ptr b 0, .int 63 (n : Int), v] h = .ret nilF h' ∧ To (fun x => x = b ∨ N ≤ x) h h' ∧ Wf h') ∨
    (∃ r v' h', ens t n q l = some r ∧ lp L63n0 m [plv pb, .ptr b 0, .int 63 (n : Int), v] h = .exit 0 [.ptr b 0, v'] h' ∧ MR h' N h'.nb v' r.1 ∧ CurQ h' lo b t r.2 ∧ To (fun x => x = b ∨ N ≤ x) h h' ∧ Wf h') := by
  intro n
  induction n with
  | zero =>
    intro m q l v h hm hl hnb hw hc hp hr
    obtain ⟨m, rfl⟩ : ∃ k, m = k + 1 := ⟨m - 1, by omega⟩
    exact .inr ⟨(l, q), v, h, rfl, lpx m (by simp only [↓L63n0, ↓SD, SA, Int.ofNat_eq_natCast, Int.cast_ofNat_Int, Int.reduceBEq, Int.reduceAdd, Int.reduceNeg, Int.reduceNegSucc, Int.reduceLT, Int.reduceLE, Int.reduceMul, Int.reduceTMod, Int.reduceSub, Int.reduceBNe, Bool.not_true, Bool.not_false, decide_true, decide_false, ne_eq, not_false_eq_true, Int.reduceEq, reduceCtorEq]; try rfl), hr, hc, To.refl _ _, hw⟩
  | succ n ih =>
    intro m q l v h hm hl hnb hw hc hp hr
    obtain ⟨m, rfl⟩ : ∃ k, m = k + 1 := ⟨m - 1, by omega⟩
    have hens : ens t (n + 1) q l = match en t q with | none => none | some r => ens t n r.2 (l ++ [r.1]) := rfl
    rw [hens]
    rcases step63 (n := n) hb hpb hne (by omega) (by omega) hnb hw hc hp hr with ⟨k1, h1, e1, o1, w1⟩ | ⟨r, v1, h1, k1, e1, r1, q1, p1, o1, w1⟩
    · rw [k1]; exact .inl ⟨rfl, h1, lpr m e1, o1, w1⟩
    · rw [k1, lpn m e1]
      have nb1 := o1.nb
      rcases ih m r.2 (l ++ [r.1]) v1 h1 (by omega) (by simp; omega) (by omega) w1 q1 p1 r1 with ⟨f1, h6, f2, f4, f5⟩ | ⟨r', v6, h6, f1, f2, f3, f4, f5, f6⟩
      · exact .inl ⟨f1, h6, f2, o1.trans f4, f5⟩
      · exact .inr ⟨r', v6, h6, f1, f2, f3, f4, o1.trans f5, f6⟩
end Go.Proofs.Ytnpfppddongbhaa
end

section
namespace Go.Proofs.Ytnpfppddongbhaa
open Go Go.AM
set_option autoImplicit false
theorem Sl.low {h : Hp} {N : Nat} {v : AV} {l : List AV} (hs : Sl h (fun b => N ≤ b) v l) : Sl h (fun b => N ≤ b ∧ b < h.nb) v l := by
  obtain ⟨h1, h2⟩ := hs
  refine ⟨h1, ?_⟩
  rcases h2 with h2 | h2 | ⟨b, o, c, B, h2, h3, h4, h5, hc, h6⟩
  · exact .inl h2
  · exact .inr (.inl h2)
  · exact .inr (.inr ⟨b, o, c, B, h2, ⟨h3, h4.lt⟩, h4, fun hf => ⟨h5 hf, (h4.grp hf).1⟩, hc, h6⟩)
/-- A cursor that is made as a struct of a row. -/
theorem mkCur {h : Hp} {lo : Nat} {v : AV} {t : List Nat} (hs : Sl h (fun x => lo ≤ x) v (Bs t)) (hw : Wf h) (hlo : lo ≤ h.nb) (ht : t.length ≤ 100000) (hb : ∀ x ∈ t, x < 256) :
    ∃ b h', (∀ k : AV → Hp → Res, (bld [(false, 1, v), (false, 1, .int 63 (.ofNat 0)), (false, 1, .bool false)] fun l => mk h (cells (.agg l)) k) = k (.ptr b 0) h') ∧ Cur h' lo b t 0 false ∧ To No h h' ∧ Wf h' ∧ h.nb ≤ b ∧ b < h'.nb := by
  have hone := one_sl hs
  have hbl : ∀ k : AV → Res, bld [(false, 1, v), (false, 1, .int 63 (.ofNat 0)), (false, 1, .bool false)] k = k (avL [v, .int 63 0, .bool false]) := fun k => by
    have : bld [(false, 1, v), (false, 1, .int 63 (.ofNat 0)), (false, 1, .bool false)] k = ifB (one v) (k (avL [v, .int 63 0, .bool false])) .fail := rfl
    rw [this, hone]; rfl
  obtain ⟨tr, t1, t2⟩ := lay_list [v, .int 63 0, .bool false] .e 0 (by
    intro x hx
    rcases List.mem_cons.1 hx with rfl | hx
    · exact hone
    · rcases List.mem_cons.1 hx with rfl | hx
      · rfl
      · rcases List.mem_cons.1 hx with rfl | hx
        · rfl
        · cases hx)
  have hm : ∀ k : AV → Hp → Res, mk h (avL [v, .int 63 0, .bool false]) k = k (.ptr h.nb 0) (nw h 3 .nil tr) := fun k => by
    have : mk h (avL [v, .int 63 0, .bool false]) k = lay (avL [v, .int 63 0, .bool false]) .e 0 fun t n => k (.ptr h.nb 0) (nw h n .nil t) := rfl
    rw [this, t1]; rfl
  obtain ⟨q1, q2⟩ := nw_own hw 3 .nil tr
  have hat : ∀ i (hi : i < 3), (⟨true, h.nb, 3, .nil, tr⟩ : Blk).at i = [v, .int 63 0, .bool false][i] := fun i hi => by
    rw [at_in _ (show i < 3 from hi)]
    simp only [t2 i]
    rw [dif_pos ⟨by omega, by simpa using hi⟩]
    simp
  exact ⟨h.nb, nw h 3 .nil tr, fun k => by rw [hbl]; exact hm k, ⟨⟨_, v, q1, rfl, hat 0 (by decide), hat 1 (by decide), hat 2 (by decide), (Sl.low hs).to q2 (fun _ _ f => f)⟩, Nat.zero_le _, ht, hlo, hb⟩, q2, q2.wf hw, Nat.le_refl _, q1.lt⟩
/-- The reference reads the same frames. -/
theorem t63 {h : Hp} {P : Nat → Prop} {v : AV} {t : List Nat} {pb : Nat} (hs : Sl h P v (Bs t)) (hw : Wf h) (ht : t.length ≤ 100000) (hb : ∀ x ∈ t, x < 256) (hp : Pool h pb) :
    (rdm t = none ∧ ∃ h', s63 [v, plv pb] h = .ret nilF h' ∧ To No h h' ∧ Wf h') ∨
    (∃ ms v' h', rdm t = some ms ∧ s63 [v, plv pb] h = .ret (.tup (.cons v' (.cons (.bool true) .nil))) h' ∧ MR h' h.nb h'.nb v' ms ∧ To No h h' ∧ Wf h') := by
  obtain ⟨b, h1, e1, c1, o1, w1, x1, x1'⟩ := mkCur (lo := 0) (hs.mono fun x _ => Nat.zero_le x) hw (Nat.zero_le _) ht hb
  have nb1 := o1.nb
  have hpl := Ce.lt hp
  have c1 : CurQ h1 0 b t (0, false) := c1
  obtain ⟨h2, e2, q2, o2, w2⟩ := n2 c1 w1
  have nb2 := o2.nb
  have hv : val t (0, false) 2 < 65536 := val_lt hb _ 2
  have fin : ∀ {g : Hp}, To (fun x => h.nb ≤ x) h g → To No h g := fun tt => tt.mono fun x hx e => by have : h.nb ≤ x := e; omega
  have o12 : To (fun x => h.nb ≤ x) h h2 := (o1.mono fun _ _ f => f.elim).trans (o2.mono fun x _ e => by have : x = b := e; show h.nb ≤ x; omega)
  have p2 : Pool h2 pb := hp.to o12 (fun e => by have : h.nb ≤ pb := e; omega)
  have gp : gsel (.bool false) false (.ptr b 0) = .ptr b 0 := rfl
  have bad_ : ∀ {g : Hp} {q' : Sq}, CurQ g 0 b t q' → (∀ kk : AV → Res, ld1 g (.ptr b (Nat.add 0 2)) kk = kk (.bool q'.2)) ∧ (∀ kk : AV → Res, ld1 g (.ptr b 2) kk = kk (.bool q'.2)) := fun c => by
    obtain ⟨v, hs, a0, a1, a2⟩ := c.open
    exact ⟨a2, a2⟩
  by_cases c : 4096 < val t (0, false) 2
  · have i4 : (4096 : Int) < ((val t (0, false) 2 : Nat) : Int) := by omega
    have hr : rdm t = none := by
      unfold rdm
      by_cases hq : (adv t (0, false) 2).2 = true
      · rw [if_pos hq]
      · rw [if_neg hq, if_pos c]
    refine .inl ⟨hr, h2, ?_, fin o12, w2⟩
    simp only [↓s63, ↓e1, ↓e2, i4, ↓cK_nils, ↓SD, SA, Int.ofNat_eq_natCast, Int.cast_ofNat_Int, Int.reduceBEq, Int.reduceAdd, Int.reduceNeg, Int.reduceNegSucc, Int.reduceLT, Int.reduceLE, Int.reduceMul, Int.reduceTMod, Int.reduceSub, Int.reduceBNe, Bool.not_true, Bool.not_false, decide_true, decide_false, ne_eq, not_false_eq_true, Int.reduceEq, reduceCtorEq]
  · have i4 : ¬ (4096 : Int) < ((val t (0, false) 2 : Nat) : Int) := by omega
    have hm : val t (0, false) 2 < most := by unfold most; omega
    have hne : pb ≠ b := by omega
    rcases loop63 (N := h2.nb) (by have := x1'; omega) (by omega) hne (val t (0, false) 2) most (adv t (0, false) 2) [] .nils h2 hm (by simp; omega) (Nat.le_refl _) w2 q2 p2 (MR.nil _ _ _) with ⟨f1, h', f2, f4, f5⟩ | ⟨r, v', h', f1, f2, f3, f4, f5, f6⟩
    · have hr : rdm t = none := by
        unfold rdm
        by_cases hq : (adv t (0, false) 2).2 = true
        · rw [if_pos hq]
        · rw [if_neg hq, if_neg c, f1]
      refine .inl ⟨hr, h', ?_, fin (o12.trans (f4.mono fun x _ e => by rcases e with e | e; show h.nb ≤ x; omega; show h.nb ≤ x; omega)), f5⟩
      simp only [↓s63, ↓e1, ↓e2, i4, ↓f2, ↓SD, SA, Int.ofNat_eq_natCast, Int.cast_ofNat_Int, Int.reduceBEq, Int.reduceAdd, Int.reduceNeg, Int.reduceNegSucc, Int.reduceLT, Int.reduceLE, Int.reduceMul, Int.reduceTMod, Int.reduceSub, Int.reduceBNe, Bool.not_true, Bool.not_false, decide_true, decide_false, ne_eq, not_false_eq_true, Int.reduceEq, reduceCtorEq]
    · have e4 := t35 f4
      obtain ⟨b1, b1'⟩ := bad_ f4
      have ck := fun kk => f3.cK kk
      have fo : To No h h' := fin (o12.trans (f5.mono fun x _ e => by rcases e with e | e; show h.nb ≤ x; omega; show h.nb ≤ x; omega))
      cases hq2 : r.2.2 with
      | true =>
        have hr : rdm t = none := by
          unfold rdm
          by_cases hq : (adv t (0, false) 2).2 = true
          · rw [if_pos hq]
          · exfalso
            have := ens_ok _ _ _ _ f1 (by simpa using hq)
            rw [hq2] at this; cases this
        refine .inl ⟨hr, h', ?_, fo, f6⟩
        simp only [↓s63, ↓e1, ↓e2, i4, ↓f2, ↓nck_p, ↓cP_p, ↓b1, ↓b1', hq2, ↓cK_nils, blk_x0, ↓SD, SA, Int.ofNat_eq_natCast, Int.cast_ofNat_Int, Int.reduceBEq, Int.reduceAdd, Int.reduceNeg, Int.reduceNegSucc, Int.reduceLT, Int.reduceLE, Int.reduceMul, Int.reduceTMod, Int.reduceSub, Int.reduceBNe, Bool.not_true, Bool.not_false, decide_true, decide_false, ne_eq, not_false_eq_true, Int.reduceEq, reduceCtorEq]
      | false =>
        have hq : ¬ (adv t (0, false) 2).2 = true := by
          intro hq
          have h0 : val t (0, false) 2 = 0 := val_bad hq
          rw [h0] at f1
          have f1 : some ([], adv t (0, false) 2) = some r := f1
          obtain rfl := Option.some.inj f1
          have : (adv t (0, false) 2).2 = false := hq2
          rw [hq] at this; cases this
        by_cases cl_ : 0 < t.length - r.2.1
        · have i5 : (0 : Int) < ((t.length - r.2.1 : Nat) : Int) := by omega
          refine .inl ⟨by unfold rdm; rw [if_neg hq, if_neg c, f1]; simp only []; rw [if_pos cl_], h', ?_, fo, f6⟩
          simp only [↓s63, ↓e1, ↓e2, i4, ↓f2, ↓nck_p, ↓cP_p, ↓b1, ↓b1', hq2, ↓gp, ↓e4, i5, ↓cK_nils, blk_x0, ↓SD, SA, Int.ofNat_eq_natCast, Int.cast_ofNat_Int, Int.reduceBEq, Int.reduceAdd, Int.reduceNeg, Int.reduceNegSucc, Int.reduceLT, Int.reduceLE, Int.reduceMul, Int.reduceTMod, Int.reduceSub, Int.reduceBNe, Bool.not_true, Bool.not_false, decide_true, decide_false, ne_eq, not_false_eq_true, Int.reduceEq, reduceCtorEq]
        · have i5 : ¬ (0 : Int) < ((t.length - r.2.1 : Nat) : Int) := by omega
          refine .inr ⟨r.1, v', h', by unfold rdm; rw [if_neg hq, if_neg c, f1]; simp only []; rw [if_neg cl_], ?_, ?_, fo, f6⟩
          · simp only [↓s63, ↓e1, ↓e2, i4, ↓f2, ↓nck_p, ↓cP_p, ↓b1, ↓b1', hq2, ↓gp, ↓e4, i5, ↓ck, blk_x0, ↓SD, SA, Int.ofNat_eq_natCast, Int.cast_ofNat_Int, Int.reduceBEq, Int.reduceAdd, Int.reduceNeg, Int.reduceNegSucc, Int.reduceLT, Int.reduceLE, Int.reduceMul, Int.reduceTMod, Int.reduceSub, Int.reduceBNe, Bool.not_true, Bool.not_false, decide_true, decide_false, ne_eq, not_false_eq_true, Int.reduceEq, reduceCtorEq]
          · obtain ⟨P, rs, a1, a2, a3, a4⟩ := f3
            have nb' := o12.nb
            refine ⟨P, rs, a1, fun x hx => ⟨by have := (a2 x hx).1; omega, (a2 x hx).2⟩, a3, fun i z1 z2 => ?_⟩
            obtain ⟨wl, ws, y1, y2, y3⟩ := a4 i z1 z2
            exact ⟨wl, ws, y1, y2.mono fun x hx _ => ⟨by have := hx.1; omega, hx.2⟩, y3.mono fun x hx _ => ⟨by have := hx.1; omega, hx.2⟩⟩
end Go.Proofs.Ytnpfppddongbhaa
end

section
namespace Go.Proofs.Ytnpfppddongbhaa
open Go Go.AM
set_option autoImplicit false
/-! ### the same types -/
theorem vP_get (l : List (Nat × Nat)) (i : Nat) (hi : i < (l.map vP).length) : (l.map vP)[i] = [.int 63 ((l[i]'(by simpa using hi)).1 : Int), .str 0 0, .int 63 ((l[i]'(by simpa using hi)).2 : Int)] := by
  rw [List.getElem_map]; rfl
theorem eqS00 (k : Bool → Res) : eqS (.str 0 0) (.str 0 0) k = k true := rfl
theorem vP_pt {h : Hp} {P : Nat → Prop} {v : AV} {l : List (Nat × Nat)} (hr : Rws h P 3 v (l.map vP)) (i : Nat) (hi : i < l.length) :
    ∃ b o, (∀ k : AV → Res, ixA 3 v (.int 63 (i : Int)) k = k (.ptr b o)) ∧ (∀ k : AV → Res, ld1 h (.ptr b (Nat.add o 0)) k = k (.int 63 (l[i].1 : Int))) ∧ (∀ k : AV → Res, ld1 h (.ptr b (Nat.add o 1)) k = k (.str 0 0)) ∧ (∀ k : AV → Res, ld1 h (.ptr b (Nat.add o 2)) k = k (.int 63 (l[i].2 : Int))) := by
  have hi' : i < (l.map vP).length := by simpa using hi
  obtain ⟨b, o, e1, -, e3⟩ := hr.pt i hi'
  have hg := vP_get l i hi'
  refine ⟨b, o, e1, fun k => ?_, fun k => ?_, fun k => ?_⟩
  · have := e3 0 (by rw [hg]; simp) k; simp only [hg] at this; exact this
  · have := e3 1 (by rw [hg]; simp) k; simp only [hg] at this; exact this
  · have := e3 2 (by rw [hg]; simp) k; simp only [hg] at this; exact this
theorem loop64 {h : Hp} {P Q : Nat → Prop} {v w : AV} {l : List (Nat × Nat)} (r1 : Rws h P 3 v (l.map vP)) (r2 : Rws h Q 3 w (l.map vP)) (hl : l.length ≤ 100000) :
    ∀ (n i m : Nat), n < m → i + n = l.length → lp L64n0 m [v, w, .int 63 (i : Int)] h = .exit 0 [] h := by
  intro n
  induction n with
  | zero =>
    intro i m hm hi
    obtain ⟨m, rfl⟩ : ∃ k, m = k + 1 := ⟨m - 1, by omega⟩
    have c1 : ¬ (i : Int) < (l.length : Int) := by omega
    have hlen := fun kk => r1.len kk
    rw [List.length_map] at hlen
    exact lpx m (by simp only [↓L64n0, ↓hlen, c1, ↓SD, SA, Int.ofNat_eq_natCast, Int.cast_ofNat_Int, Int.reduceBEq, Int.reduceAdd, Int.reduceNeg, Int.reduceNegSucc, Int.reduceLT, Int.reduceLE, Int.reduceMul, Int.reduceTMod, Int.reduceSub, Int.reduceBNe, Bool.not_true, Bool.not_false, decide_true, decide_false, ne_eq, not_false_eq_true, Int.reduceEq, reduceCtorEq])
  | succ n ih =>
    intro i m hm hi
    obtain ⟨m, rfl⟩ : ∃ k, m = k + 1 := ⟨m - 1, by omega⟩
    have c1 : (i : Int) < (l.length : Int) := by omega
    have hlen := fun kk => r1.len kk
    rw [List.length_map] at hlen
    obtain ⟨b1, o1, x1, a0, a1, a2⟩ := vP_pt r1 i (by omega)
    obtain ⟨b2, o2, x2, g0, g1, g2⟩ := vP_pt r2 i (by omega)
    have i1 := s1n i (by omega)
    have gv : gsel (.bool false) false v = v := rfl
    have gw : gsel (.bool false) false w = w := rfl
    have gi : gsel (.bool false) false (.int 63 (i : Int)) = .int 63 (i : Int) := rfl
    have e : L64n0 [v, w, .int 63 (i : Int)] h = .norm [v, w, .int 63 ((i + 1 : Nat) : Int)] h := by
      simp only [↓L64n0, ↓hlen, c1, ↓x1, ↓x2, ↓cP_p, ↓a0, ↓a1, ↓a2, ↓g0, ↓g1, ↓g2, ↓gv, ↓gw, ↓gi, ↓eqS00, i1, beq_self_eq_true, ↓SD, SA, Int.ofNat_eq_natCast, Int.cast_ofNat_Int, Int.reduceBEq, Int.reduceAdd, Int.reduceNeg, Int.reduceNegSucc, Int.reduceLT, Int.reduceLE, Int.reduceMul, Int.reduceTMod, Int.reduceSub, Int.reduceBNe, Bool.not_true, Bool.not_false, decide_true, decide_false, ne_eq, not_false_eq_true, Int.reduceEq, reduceCtorEq]
    rw [lpn m e]
    exact ih (i + 1) m (by omega) (by omega)
theorem t64 {h : Hp} {P Q : Nat → Prop} {v w : AV} {l : List (Nat × Nat)} (r1 : Rws h P 3 v (l.map vP)) (r2 : Rws h Q 3 w (l.map vP)) (hl : l.length ≤ 100000) : s64 [v, w] h = .ret (.bool true) h := by
  have l1 := fun kk => r1.len kk
  have l2 := fun kk => r2.len kk
  rw [List.length_map] at l1 l2
  have hl' := loop64 r1 r2 hl l.length 0 most (by unfold most; omega) (by omega)
  have hl' : lp L64n0 most [v, w, .int 63 0] h = .exit 0 [] h := hl'
  simp only [↓s64, ↓l1, ↓l2, ↓hl', beq_self_eq_true, blk_x0, ↓SD, SA, Int.ofNat_eq_natCast, Int.cast_ofNat_Int, Int.reduceBEq, Int.reduceAdd, Int.reduceNeg, Int.reduceNegSucc, Int.reduceLT, Int.reduceLE, Int.reduceMul, Int.reduceTMod, Int.reduceSub, Int.reduceBNe, Bool.not_true, Bool.not_false, decide_true, decide_false, ne_eq, not_false_eq_true, Int.reduceEq, reduceCtorEq]
end Go.Proofs.Ytnpfppddongbhaa
end

section
namespace Go.Proofs.Ytnpfppddongbhaa
open Go Go.AM
set_option autoImplicit false
/-! ### how long the rows are -/
def Ok (m : Mv) : Prop := m.loc.length ≤ 65536 ∧ m.stk.length ≤ 65536
theorem fn_eq {m : Mv} {q : Sq} {r : Mv × Sq} (h : fn m q = some r) : r.1 = m := by
  unfold fn at h
  split at h
  · cases h; rfl
  · cases h
theorem kds_len {t : List Nat} : ∀ (n : Nat) (q : Sq) (l : List (Nat × Nat)) (r : List (Nat × Nat) × Sq), kds t n q l = some r → r.1.length = l.length + n := by
  intro n
  induction n with
  | zero => intro q l r h; have h : some (l, q) = some r := h; cases h; rfl
  | succ n ih =>
    intro q l r h
    have h : (if (kd t q).2.1 = true ∧ (kd t q).2.2.2 = false then kds t n (kd t q).2.2 (l ++ [(kd t q).1]) else none) = some r := h
    split at h
    · have := ih _ _ _ h; simp at this; omega
    · cases h
theorem en_small {t : List Nat} (hb : ∀ x ∈ t, x < 256) {q : Sq} {r : Mv × Sq} (h : en t q = some r) : Ok r.1 := by
  have v1 : val t q 1 < 256 := val_lt hb q 1
  have v2 : ∀ q, val t q 2 < 65536 := fun q => val_lt hb q 2
  unfold en at h
  split at h
  · rw [fn_eq h]; exact ⟨by simp, by simp⟩
  split at h
  · split at h
    · cases h
    · rename_i e; have := kds_len _ _ _ _ e; rw [fn_eq h]; exact ⟨by simp, by simp at this ⊢; omega⟩
  split at h
  · cases h
  split at h
  · split at h
    · cases h
    · rename_i e; have := kds_len _ _ _ _ e; rw [fn_eq h]; exact ⟨by simp, by simp at this ⊢; omega⟩
  split at h
  · rw [fn_eq h]; exact ⟨by simp, by simp⟩
  split at h
  · split at h
    · cases h
    · rename_i e; have := kds_len _ _ _ _ e; rw [fn_eq h]; exact ⟨by simp at this ⊢; omega, by simp⟩
  · split at h
    · cases h
    · rename_i e1
      split at h
      · cases h
      · rename_i e2
        have k1 := kds_len _ _ _ _ e1
        have k2 := kds_len _ _ _ _ e2
        have w1 := v2 (adv t (adv t q 1) 2)
        rw [fn_eq h]
        refine ⟨by simp at k1 ⊢; omega, ?_⟩
        rename_i r1 _ r2 _
        simp at k2 ⊢
        rw [k2]
        exact Nat.le_of_lt (v2 _)
theorem ens_small {t : List Nat} (hb : ∀ x ∈ t, x < 256) : ∀ (n : Nat) (q : Sq) (l : List Mv) (r : List Mv × Sq), ens t n q l = some r → (∀ m ∈ l, Ok m) → (∀ m ∈ r.1, Ok m) ∧ r.1.length = l.length + n := by
  intro n
  induction n with
  | zero => intro q l r h hl; have h : some (l, q) = some r := h; cases h; exact ⟨hl, rfl⟩
  | succ n ih =>
    intro q l r h hl
    have h : (match en t q with | none => none | some r => ens t n r.2 (l ++ [r.1])) = some r := h
    split at h
    · cases h
    · rename_i e
      have := ih _ _ _ h (fun m hm => by
        rcases List.mem_append.1 hm with hm | hm
        · exact hl m hm
        · rw [List.mem_singleton.1 hm]; exact en_small hb e)
      exact ⟨this.1, by rw [this.2]; simp; omega⟩
theorem rdm_small {t : List Nat} (hb : ∀ x ∈ t, x < 256) {ms : List Mv} (h : rdm t = some ms) : (∀ m ∈ ms, Ok m) ∧ ms.length ≤ 4096 := by
  unfold rdm at h
  split at h
  · cases h
  split at h
  · cases h
  split at h
  · cases h
  · rename_i e
    split at h
    · cases h
    · cases h
      have := ens_small hb _ _ _ _ e (fun m hm => by cases hm)
      exact ⟨this.1, by rw [this.2]; simp; omega⟩

/-! ### the same frames -/
theorem same_n (x : Nat) (k : Res) : same (.int 63 (x : Int)) (.int 63 (x : Int)) k = k := by
  have e : same (.int 63 (x : Int)) (.int 63 (x : Int)) k = ifB (bAnd (Nat.beq 63 63) (eqI (x : Int) (x : Int))) k .fail := rfl
  rw [e, eqI_eq, beq_self_eq_true]; rfl
theorem MR.pt {h : Hp} {N M : Nat} {v : AV} {ms : List Mv} (hm : MR h N M v ms) (i : Nat) (hi : i < ms.length) :
    ∃ b o vl vs P Q, (∀ k : AV → Res, ixA 4 v (.int 63 (i : Int)) k = k (.ptr b o)) ∧ (∀ k : AV → Res, ld1 h (.ptr b (Nat.add o 0)) k = k (.int 63 (ms[i].tag : Int))) ∧ (∀ k : AV → Res, ld1 h (.ptr b (Nat.add o 1)) k = k (.int 63 (ms[i].delta : Int))) ∧
      (∀ k : AV → Res, ld1 h (.ptr b (Nat.add o 2)) k = k vl) ∧ (∀ k : AV → Res, ld1 h (.ptr b (Nat.add o 3)) k = k vs) ∧ Rws h P 3 vl (ms[i].loc.map vP) ∧ Rws h Q 3 vs (ms[i].stk.map vP) := by
  obtain ⟨P, rs, r, hP, hl, hx⟩ := hm
  have hi' : i < rs.length := by omega
  obtain ⟨vl, vs, e, r1, r2⟩ := hx i hi hi'
  obtain ⟨b, o, e1, -, e3⟩ := r.pt i hi'
  have e : rs[i] = [.int 63 (ms[i].tag : Int), .int 63 (ms[i].delta : Int), vl, vs] := e
  refine ⟨b, o, vl, vs, _, _, e1, fun k => ?_, fun k => ?_, fun k => ?_, fun k => ?_, r1, r2⟩
  · have := e3 0 (by rw [e]; simp) k; simp only [e] at this; exact this
  · have := e3 1 (by rw [e]; simp) k; simp only [e] at this; exact this
  · have := e3 2 (by rw [e]; simp) k; simp only [e] at this; exact this
  · have := e3 3 (by rw [e]; simp) k; simp only [e] at this; exact this
theorem loop21 {h : Hp} {N M N' M' : Nat} {v w : AV} {ms : List Mv} (r1 : MR h N M v ms) (r2 : MR h N' M' w ms) (hs : ∀ m ∈ ms, Ok m) (hl : ms.length ≤ 4096) :
    ∀ (n i m : Nat), n < m → i + n = ms.length → lp L21n0 m [.bool true, v, w, .int 63 (i : Int)] h = .exit 0 [.bool true] h := by
  intro n
  induction n with
  | zero =>
    intro i m hm hi
    obtain ⟨m, rfl⟩ : ∃ k, m = k + 1 := ⟨m - 1, by omega⟩
    have c1 : ¬ (i : Int) < (ms.length : Int) := by omega
    have hlen := fun kk => r1.len kk
    exact lpx m (by simp only [↓L21n0, ↓hlen, c1, ↓SD, SA, Int.ofNat_eq_natCast, Int.cast_ofNat_Int, Int.reduceBEq, Int.reduceAdd, Int.reduceNeg, Int.reduceNegSucc, Int.reduceLT, Int.reduceLE, Int.reduceMul, Int.reduceTMod, Int.reduceSub, Int.reduceBNe, Bool.not_true, Bool.not_false, decide_true, decide_false, ne_eq, not_false_eq_true, Int.reduceEq, reduceCtorEq])
  | succ n ih =>
    intro i m hm hi
    obtain ⟨m, rfl⟩ : ∃ k, m = k + 1 := ⟨m - 1, by omega⟩
    have c1 : (i : Int) < (ms.length : Int) := by omega
    have hlen := fun kk => r1.len kk
    obtain ⟨b1, o1, vl1, vs1, P1, Q1, x1, a0, a1, a2, a3, R1, S1⟩ := r1.pt i (by omega)
    obtain ⟨b2, o2, vl2, vs2, P2, Q2, x2, g0, g1, g2, g3, R2, S2⟩ := r2.pt i (by omega)
    have ho := hs _ (List.getElem_mem (show i < ms.length by omega))
    have e64a := t64 R1 R2 (by have := ho.1; omega)
    have e64b := t64 S1 S2 (by have := ho.2; omega)
    have i1 := s1n i (by omega)
    have gv : gsel (.bool false) false v = v := rfl
    have gw : gsel (.bool false) false w = w := rfl
    have gi : gsel (.bool false) false (.int 63 (i : Int)) = .int 63 (i : Int) := rfl
    have e : L21n0 [.bool true, v, w, .int 63 (i : Int)] h = .norm [.bool true, v, w, .int 63 ((i + 1 : Nat) : Int)] h := by
      simp only [↓L21n0, ↓hlen, c1, ↓x1, ↓x2, ↓cP_p, ↓a0, ↓a1, ↓a2, ↓a3, ↓g0, ↓g1, ↓g2, ↓g3, ↓gv, ↓gw, ↓gi, ↓e64a, ↓e64b, ↓same_n, i1, beq_self_eq_true, ↓SD, SA, Int.ofNat_eq_natCast, Int.cast_ofNat_Int, Int.reduceBEq, Int.reduceAdd, Int.reduceNeg, Int.reduceNegSucc, Int.reduceLT, Int.reduceLE, Int.reduceMul, Int.reduceTMod, Int.reduceSub, Int.reduceBNe, Bool.not_true, Bool.not_false, decide_true, decide_false, ne_eq, not_false_eq_true, Int.reduceEq, reduceCtorEq]
    rw [lpn m e]
    exact ih (i + 1) m (by omega) (by omega)
end Go.Proofs.Ytnpfppddongbhaa
end

section
namespace Go.Proofs.Ytnpfppddongbhaa
open Go Go.AM
set_option autoImplicit false
/-! ### the law -/
theorem t60 (h : Hp) : s60 [] h = .ret (.bool true) h := rfl
theorem lawRead {h : Hp} {v : AV} {t : List Nat} (hs : Sl h (fun b => b < h.nb) v (Bs t)) (hw : Wf h) (hb : ∀ x ∈ t, x < 256) (ht : t.length ≤ 9223372036854775807) : ∃ h', s21 [v] h = .ret (.bool true) h' := by
  have e1 := t60 h
  obtain ⟨v2, e2, s2⟩ := t24 hs 300 ht
  have z300 : ((300 : Nat) : Int) = 300 := rfl
  rw [z300] at e2
  have hb2 : ∀ x ∈ t.take 300, x < 256 := fun x hx => hb x (List.mem_of_mem_take hx)
  have hl2 : (t.take 300).length ≤ 100000 := by simp; omega
  generalize t.take 300 = t2 at *
  obtain ⟨h1, e3, p1, o1, w1, n1⟩ := t62 hw
  have s3 := s2.to o1 (fun _ _ f => f)
  have gb_ : ∀ x : Bool, gsel (.bool false) false (.bool x) = .bool x := fun x => rfl
  have gn : gsel (.bool false) false .nils = .nils := rfl
  rcases t61 s3 w1 hl2 hb2 p1 with ⟨k1, h2, e4, o2, w2⟩ | ⟨ms, v4, h2, k1, e4, m4, o2, w2⟩
  · obtain ⟨h3, e5, p3, o3, w3, n3⟩ := t62 w2
    have s5 := (s3.to o2 (fun _ _ f => f)).to o3 (fun _ _ f => f)
    rcases t63 s5 w3 hl2 hb2 p3 with ⟨k2, h4, e6, o4, w4⟩ | ⟨ms', v6, h4, k2, e6, m6, o4, w4⟩
    · have r1 := MR.nil h4 0 0
      have hl := loop21 r1 r1 (fun m hm => by cases hm) (by simp) 0 0 most (by unfold most; omega) rfl
      have hl : lp L21n0 most [.bool true, .nils, .nils, .int 63 0] h4 = .exit 0 [.bool true] h4 := hl
      have ln : ∀ k : AV → Res, lenL .nils k = k (.int 63 0) := fun k => rfl
      refine ⟨h4, ?_⟩
      simp only [↓s21, ↓e1, ↓e2, ↓e3, ↓e4, ↓e5, ↓e6, ↓cK_nils, ↓gn, ↓ln, ↓hl, blk_x0, beq_self_eq_true, ↓SD, SA, Int.ofNat_eq_natCast, Int.cast_ofNat_Int, Int.reduceBEq, Int.reduceAdd, Int.reduceNeg, Int.reduceNegSucc, Int.reduceLT, Int.reduceLE, Int.reduceMul, Int.reduceTMod, Int.reduceSub, Int.reduceBNe, Bool.not_true, Bool.not_false, decide_true, decide_false, ne_eq, not_false_eq_true, Int.reduceEq, reduceCtorEq]
    · rw [k1] at k2; cases k2
  · obtain ⟨h3, e5, p3, o3, w3, n3⟩ := t62 w2
    have s5 := (s3.to o2 (fun _ _ f => f)).to o3 (fun _ _ f => f)
    rcases t63 s5 w3 hl2 hb2 p3 with ⟨k2, h4, e6, o4, w4⟩ | ⟨ms', v6, h4, k2, e6, m6, o4, w4⟩
    · rw [k1] at k2; cases k2
    · rw [k1] at k2
      obtain rfl := Option.some.inj k2
      obtain ⟨hsm, hln⟩ := rdm_small hb2 k1
      have m4' := (m4.to o3 (fun _ _ _ f => f)).to o4 (fun _ _ _ f => f)
      have hl := loop21 m4' m6 hsm hln ms.length 0 most (by unfold most; omega) (by omega)
      have hl : lp L21n0 most [.bool true, v4, v6, .int 63 0] h4 = .exit 0 [.bool true] h4 := hl
      have c4 := fun kk => m4'.cK kk
      have c6 := fun kk => m6.cK kk
      have l4 := fun kk => m4'.len kk
      have l6 := fun kk => m6.len kk
      have g4 : gsel (.bool false) false v4 = v4 := rfl
      have g6 : gsel (.bool false) false v6 = v6 := rfl
      refine ⟨h4, ?_⟩
      simp only [↓s21, ↓e1, ↓e2, ↓e3, ↓e4, ↓e5, ↓e6, ↓c4, ↓c6, ↓g4, ↓g6, ↓l4, ↓l6, ↓hl, blk_x0, beq_self_eq_true, ↓SD, SA, Int.ofNat_eq_natCast, Int.cast_ofNat_Int, Int.reduceBEq, Int.reduceAdd, Int.reduceNeg, Int.reduceNegSucc, Int.reduceLT, Int.reduceLE, Int.reduceMul, Int.reduceTMod, Int.reduceSub, Int.reduceBNe, Bool.not_true, Bool.not_false, decide_true, decide_false, ne_eq, not_false_eq_true, Int.reduceEq, reduceCtorEq]
end Go.Proofs.Ytnpfppddongbhaa
end
