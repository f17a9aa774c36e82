/-
  The cursor's laws, part 8: reckoned by the abstract machine.
-/
import Derived.Test.YtnpfppddongbhaaCu7
namespace Go.Proofs.Ytnpfppddongbhaa
open Go Go.AM
set_option autoImplicit false
set_option linter.unusedSimpArgs false
set_option linter.unusedVariables false
theorem Sl.low {h : Hp} {N : Nat} {v : AV} {l : List AV} (hs : Sl h (fun b => N ≤ b) v l) : Sl h (fun b => N ≤ b ∧ b < h.nb) v l := by
  obtain ⟨h1, h2⟩ := hs
  refine ⟨h1, ?_⟩
  rcases h2 with h2 | h2 | ⟨b, o, c, B, h2, h3, h4, h5, hc, h6⟩
  · exact .inl h2
  · exact .inr (.inl h2)
  · exact .inr (.inr ⟨b, o, c, B, h2, ⟨h3, h4.lt⟩, h4, fun hf => ⟨h5 hf, (h4.grp hf).1⟩, hc, h6⟩)
/-- A row of bytes of its own, from block N on. -/
def Row (h : Hp) (N : Nat) (v : AV) (t : List Nat) : Prop :=
  (t = [] ∧ Sl h (fun b => N ≤ b ∧ b < h.nb) v (Bs [])) ∨ ∃ b B, v = .sl b 0 t.length 1 none ∧ Own h b B ∧ B.lim = t.length ∧ N ≤ b ∧ ∀ i (hi : i < t.length), B.at i = .int 8 (t[i] : Int)
theorem Row.sl {h : Hp} {N : Nat} {v : AV} {t : List Nat} (hr : Row h N v t) : Sl h (fun b => N ≤ b ∧ b < h.nb) v (Bs t) := by
  rcases hr with ⟨rfl, hr⟩ | ⟨b, B, rfl, o, hl, hN, hat⟩
  · exact hr
  · refine ⟨Bs_one _, .inr (.inr ⟨b, 0, none, B, by rw [Bs_len], ⟨hN, o.lt⟩, o.rd, fun _ => by rw [o.g]; exact ⟨hN, o.lt⟩, (fun c e => by cases e), fun i hi => ?_⟩)⟩
    rw [Bs_len] at hi
    rw [Nat.zero_add, hat i hi]
    simp [Bs]
theorem Row.to {W : Nat → Prop} {h h' : Hp} {N : Nat} {v : AV} {t : List Nat} (hr : Row h N v t) (ht : To W h h') (hd : ∀ b, N ≤ b → b < h.nb → ¬ W b) : Row h' N v t := by
  rcases hr with ⟨rfl, hr⟩ | ⟨b, B, rfl, o, hl, hN, hat⟩
  · exact .inl ⟨rfl, (hr.to ht (fun b hb => hd b hb.1 hb.2)).mono fun b hb => ⟨hb.1, Nat.lt_of_lt_of_le hb.2 ht.nb⟩⟩
  · exact .inr ⟨b, B, rfl, o.to ht (hd b hN o.lt), hl, hN, hat⟩
theorem Row.mono {h : Hp} {N M : Nat} {v : AV} {t : List Nat} (hr : Row h N v t) (hM : M ≤ N) : Row h M v t := by
  rcases hr with ⟨rfl, hr⟩ | ⟨b, B, rfl, o, hl, hN, hat⟩
  · exact .inl ⟨rfl, hr.mono fun b hb => ⟨Nat.le_trans hM hb.1, hb.2⟩⟩
  · exact .inr ⟨b, B, rfl, o, hl, Nat.le_trans hM hN, hat⟩
theorem grown_own {h : Hp} (hw : Wf h) (t : List Nat) :
    ∃ b h', (∀ k : AV → Hp → Res, grown h 1 t.length (avL (Bs t)) k = k (.sl b 0 t.length 1 none) h') ∧ Row h' h.nb (.sl b 0 t.length 1 none) t ∧ To No h h' ∧ Wf h' := by
  obtain ⟨tr, h1, h2⟩ := lay_list (Bs t) .e 0 (Bs_one t)
  have e2 : Nat.beq (0 + (Bs t).length) (Nat.mul t.length 1) = true := by rw [beq_iff, Bs_len]; show 0 + t.length = t.length * 1; omega
  have hrun : ∀ k : AV → Hp → Res, grown h 1 t.length (avL (Bs t)) k = k (.sl h.nb 0 t.length 1 none) (nw h (0 + (Bs t).length) .nil tr) := fun k => by
    have e : grown h 1 t.length (avL (Bs t)) k = lay (avL (Bs t)) .e 0 fun t' j => ifB (Nat.beq j (Nat.mul t.length 1)) (k (.sl h.nb 0 t.length 1 none) (nw h j .nil t')) .fail := rfl
    rw [e, h1, e2, ifB_t]
  obtain ⟨o1, o2⟩ := nw_own hw (0 + (Bs t).length) .nil tr
  refine ⟨h.nb, _, hrun, .inr ⟨h.nb, _, rfl, o1, by show 0 + (Bs t).length = _; rw [Bs_len]; omega, Nat.le_refl _, fun i hi => ?_⟩, o2, o2.wf hw⟩
  rw [at_in _ (show i < 0 + (Bs t).length by rw [Bs_len]; omega)]
  simp only [h2 i]
  rw [dif_pos ⟨by omega, by rw [Bs_len]; omega⟩]
  simp [Bs]
theorem t68o {h : Hp} {P : Nat → Prop} {v : AV} {t : List Nat} (hs : Sl h P v (Bs t)) (hw : Wf h) (ht : t.length ≤ 100000) :
    ∃ v' h', s68 [v] h = .ret v' h' ∧ Row h' h.nb v' t ∧ To No h h' ∧ Wf h' := by
  by_cases h0 : t = []
  · subst h0
    obtain ⟨v', h', e, s, o, w⟩ := t68 hs hw ht
    exact ⟨v', h', e, .inl ⟨rfl, s⟩, o, w⟩
  · obtain ⟨b, e1, e2⟩ := eqL_nil hs (fun b2 => cB (.bool b2) fun b3 => ifB b3 (cK .nils fun v4 => .ret v4 h) (bld [] fun l5 => mkS h 1 0 l5 fun v6 h7 => apd h7 1 1 v6 v fun v8 h9 => cK v8 fun v10 => .ret v10 h9))
    have e0 : s68 [v] h = eqL v .nils (fun b2 => cB (.bool b2) fun b3 => ifB b3 (cK .nils fun v4 => .ret v4 h) (bld [] fun l5 => mkS h 1 0 l5 fun v6 h7 => apd h7 1 1 v6 v fun v8 h9 => cK v8 fun v10 => .ret v10 h9)) := rfl
    rw [e0, e1]
    cases b with
    | true =>
      have := e2 rfl
      exact absurd (List.map_eq_nil_iff.1 this) h0
    | false =>
      obtain ⟨o1, o2⟩ := nw_own hw 0 .nil .e
      have w1 := o2.wf hw
      obtain ⟨b, h', g1, g2, g3, g4⟩ := grown_own w1 t
      have hy := hs.to o2 (fun _ _ f => f)
      have hpos : t.length ≠ 0 := fun h => h0 (List.eq_nil_of_length_eq_zero h)
      have q1 : Nat.beq t.length 0 = false := by rw [Bool.eq_false_iff, ne_eq, beq_iff]; exact hpos
      have q2 : Nat.ble (Nat.mul (Nat.add 0 t.length) 1) 140737488355328 = true := by rw [ble_iff]; show (0 + t.length) * 1 ≤ _; omega
      have q3 : Nat.ble (Nat.add 0 t.length) 9223372036854775807 = true := by rw [ble_iff]; show 0 + t.length ≤ _; omega
      have q4 : Nat.ble (Nat.add 0 t.length) 0 = false := by rw [Bool.eq_false_iff, ne_eq, ble_iff]; show ¬ 0 + t.length ≤ 0; omega
      have run : ∀ k : AV → Hp → Res, apd (nw h 0 .nil .e) 1 1 (.sl h.nb 0 0 1 (some 0)) v k = k (.sl b 0 t.length 1 none) h' := fun k => by
        unfold apd
        rw [src_sl hy, Bs_len]
        show ifB (Nat.beq 1 1) (ifB (Nat.beq t.length 0) _ (ifB (Nat.ble (Nat.mul (Nat.add 0 t.length) 1) 140737488355328) (ifB (Nat.ble (Nat.add 0 t.length) 9223372036854775807) (ifB (Nat.ble (Nat.add 0 t.length) 0) _ (gb (nw h 0 .nil .e) h.nb fun B => rds B (Nat.mul 0 1) 0 fun old => grown (nw h 0 .nil .e) 1 (Nat.add 0 t.length) (app old (avL (Bs t))) k)) .fail) .fail)) .fail = _
        have e0 : Nat.add 0 t.length = t.length := Nat.zero_add _
        rw [q2, q3, q4, q1, e0]
        show (gb (nw h 0 .nil .e) h.nb fun B => rds B (Nat.mul 0 1) 0 fun old => grown (nw h 0 .nil .e) 1 t.length (app old (avL (Bs t))) k) = _
        rw [gb_rd o1.rd]
        exact g1 k
      refine ⟨_, h', ?_, g2.mono (Nat.le_of_lt (Nat.lt_succ_self _)), o2.trans g3, g4⟩
      show (apd (nw h 0 .nil .e) 1 1 (.sl h.nb 0 0 1 (some 0)) v fun v8 h9 => cK v8 fun v10 => .ret v10 h9) = _
      rw [run]
      rfl
theorem t26o {h : Hp} {lo b at_ : Nat} {t : List Nat} {bad : Bool} (hc : Cur h lo b t at_ bad) (hw : Wf h) (n : Int) :
    ∃ v h', s26 [.ptr b 0, .int 63 n] h = .ret v h' ∧ Row h' h.nb v (win t at_ bad n) ∧ Cur h' lo b t (nat_ t at_ bad n) (nbad t at_ bad n) ∧ To (At b) h h' ∧ Wf h' := by
  obtain ⟨v, h1, e1, s1, c1, o1, w1⟩ := t69 hc hw n
  have hl := win_len2 t at_ bad n
  obtain ⟨v2, h2, e2, s2, o2, w2⟩ := t68o s1 w1 (by have := hc.len; omega)
  have cv := fun k => cK_sl s2.sl k
  refine ⟨v2, h2, by simp only [↓s26, ↓e1, ↓e2, ↓cv, ↓uc_c, ↓uz_n, ↓cI_i, ↓cB_b, cB_b, ↓cT_t, cT_t, nth_z, nth_1, cK_b, ↓cK_b, ↓cK_i, cK_i, ifB_t, ifB_f, ↓ap_e, sel_t, sel_f, gsel_tt, gsel_tf, gsel_ft, gsel_ff, gsel_u, gd_tt, gd_tf, gd_ft, gd_ff, gd_u, ↓jn_n, jn_n, jn_r, ↓jn_r, blk_n, blk_r, ↓cl_r, cl_r, ↓iAdd_i, ↓iSub_i, ↓iMul_i, ↓iAnd_i, ↓iOr_i, ↓iXor_i, ↓iNeg_i, iQuo_i, iRem_i, ↓iConv_i, iConv_i, ↓bNot_b, bNot_b, ↓eqN_i, ↓ltN_i, ↓eqB_b, bnot_e, Int.ofNat_eq_natCast, Int.cast_ofNat_Int, Int.reduceBEq, Int.reduceAdd, Int.reduceNeg, Int.reduceNegSucc, Int.reduceLT, Int.reduceLE, Int.reduceMul, Int.reduceTMod, Int.reduceSub, Int.reduceBNe, Bool.not_true, Bool.not_false, decide_true, decide_false, w63_in, w31_in, ne_eq, not_false_eq_true, Int.reduceEq, reduceCtorEq, ww3131, ww6363, ww3163, ww6331, ww3231, ww3263, ww6463, ww6364, sh31, sh63, sl63, m31, m63, n63, s5a, s5b, s6a, s6b, b31, b32, b63, c63, c64, d64, iShl_c, iShr_c, sr3, sr6, sr7], s2.mono o1.nb, c1.to o2 (fun _ _ _ f => f), o1.trans (o2.mono fun _ _ f => f.elim), w2⟩
end Go.Proofs.Ytnpfppddongbhaa
