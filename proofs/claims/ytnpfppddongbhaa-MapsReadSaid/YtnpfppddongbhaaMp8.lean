/-
  The reader of stated frames: what each of its functions answers (part Mp8).
-/
import Derived.Test.YtnpfppddongbhaaMp7
set_option linter.unusedVariables false
set_option linter.unusedSimpArgs false
namespace Go.Proofs.Ytnpfppddongbhaa
open Go Go.AM
set_option autoImplicit false
set_option linter.unusedSimpArgs false
set_option linter.unusedVariables false
/-! ### entries, one after another -/
/-- The slice v reads as the entries ms; its own blocks lie from N on and below M; those of its entries' rows from N on, apart. -/
def MR (h : Hp) (N M : Nat) (v : AV) (ms : List Mv) : Prop :=
  ∃ (P : Nat → Prop) (rs : List (List AV)), Rws h P 4 v rs ∧ (∀ x, P x → N ≤ x ∧ x < M) ∧ rs.length = ms.length ∧ ∀ i (hi : i < ms.length) (hi' : i < rs.length), ∃ vl vs, rs[i] = mL ms[i].tag ms[i].delta vl vs ∧ Rws h (fun x => N ≤ x ∧ ¬ P x) 3 vl (ms[i].loc.map vP) ∧ Rws h (fun x => N ≤ x ∧ ¬ P x) 3 vs (ms[i].stk.map vP)
theorem MR.nil (h : Hp) (N M : Nat) : MR h N M .nils [] := ⟨fun _ => False, [], Rws.nil _ _ _, fun x f => f.elim, rfl, fun i hi => by simp at hi⟩
theorem MR.to {h h' : Hp} {N M : Nat} {v : AV} {ms : List Mv} {W : Nat → Prop} (hm : MR h N M v ms) (ht : To W h h') (hd : ∀ x, N ≤ x → x < h.nb → ¬ W x) : MR h' N M v ms := by
  obtain ⟨P, rs, r, hP, hl, hi⟩ := hm
  refine ⟨P, rs, r.to ht (fun x hx hlt => hd x (hP x hx).1 hlt), hP, hl, fun i h1 h2 => ?_⟩
  obtain ⟨vl, vs, e, r1, r2⟩ := hi i h1 h2
  exact ⟨vl, vs, e, r1.to ht (fun x hx hlt => hd x hx.1 hlt), r2.to ht (fun x hx hlt => hd x hx.1 hlt)⟩
theorem MR.grow {h : Hp} {N M M' : Nat} {v : AV} {ms : List Mv} (hm : MR h N M v ms) (h1 : M ≤ M') : MR h N M' v ms := by
  obtain ⟨P, rs, r, hP, hl, hi⟩ := hm
  exact ⟨P, rs, r, fun x hx => ⟨(hP x hx).1, by have := (hP x hx).2; omega⟩, hl, hi⟩
theorem MR.len {h : Hp} {N M : Nat} {v : AV} {ms : List Mv} (hm : MR h N M v ms) (k : AV → Res) : lenL v k = k (.int 63 (ms.length : Int)) := by
  obtain ⟨P, rs, r, hP, hl, hi⟩ := hm
  rw [← hl]; exact r.len k
theorem MR.cK {h : Hp} {N M : Nat} {v : AV} {ms : List Mv} (hm : MR h N M v ms) (k : AV → Res) : cK v k = k v := by
  obtain ⟨P, rs, r, hP, hl, hi⟩ := hm; exact r.cK k
theorem MR.app {h : Hp} {N M : Nat} {v : AV} {ms : List Mv} (hw : Wf h) (hm : MR h N M v ms) (hNM : N ≤ M) (hM : M ≤ h.nb) (m : Mv) {vl vs : AV} (r1 : Rws h (fun x => M ≤ x) 3 vl (m.loc.map vP)) (r2 : Rws h (fun x => M ≤ x) 3 vs (m.stk.map vP)) (hsz : ms.length ≤ 100000) :
    ∃ v' h1 h', (∀ k : AV → Hp → Res, mkS h 4 1 (avL (mL m.tag m.delta vl vs)) k = k (.sl h.nb 0 1 4 (some 1)) h1) ∧ (∀ k : AV → Hp → Res, apd h1 4 64 v (.sl h.nb 0 1 4 (some 1)) k = k v' h') ∧ MR h' N h'.nb v' (ms ++ [m]) ∧ To (fun x => N ≤ x ∧ x < M) h h' ∧ Wf h' := by
  obtain ⟨P, rs, r, hP, hl, hi⟩ := hm
  obtain ⟨v', h1, h', g1, g2, g3, g4, g5⟩ := apd_rows (by_ := 64) hw r (by decide) (mL m.tag m.delta vl vs) rfl (mL_one r1.one r2.one) (by omega) (by omega)
  have nb := g4.nb
  have keep : ∀ {w : AV} {l : List (List AV)}, Rws h (fun x => N ≤ x ∧ ¬ P x) 3 w l → Rws h' (fun x => N ≤ x ∧ ¬ (P x ∨ h.nb ≤ x ∧ x < h'.nb)) 3 w l := fun hr =>
    (hr.mono (Q := fun x => N ≤ x ∧ ¬ P x ∧ x < h.nb) fun x hx hlt => ⟨hx.1, hx.2, hlt⟩).to g4 (fun x hx _ => hx.2.1) |>.mono fun x hx _ => ⟨hx.1, fun hh => by rcases hh with hh | hh; exact hx.2.1 hh; omega⟩
  have new : ∀ {w : AV} {l : List (List AV)}, Rws h (fun x => M ≤ x) 3 w l → Rws h (fun x => N ≤ x ∧ ¬ P x) 3 w l := fun hr => hr.mono fun x hx _ => ⟨by have hx : M ≤ x := hx; omega, fun hh => by have hx : M ≤ x := hx; have := (hP x hh).2; omega⟩
  refine ⟨v', h1, h', g1, g2, ⟨fun x => P x ∨ h.nb ≤ x ∧ x < h'.nb, rs ++ [mL m.tag m.delta vl vs], g3.mono (fun x hx hlt => ?_), fun x hx => ?_, by simp [hl], fun i h3 h4 => ?_⟩, g4.mono fun x _ hx => hP x hx, g5⟩
  · rcases hx with hx | hx
    · exact .inl hx
    · exact .inr ⟨hx, hlt⟩
  · rcases hx with hx | hx
    · have := hP x hx; exact ⟨this.1, by omega⟩
    · omega
  · by_cases c : i < ms.length
    · obtain ⟨wl, ws, e, q1, q2⟩ := hi i c (by omega)
      refine ⟨wl, ws, ?_, ?_, ?_⟩
      · rw [List.getElem_append_left (by omega), List.getElem_append_left c]; exact e
      · rw [List.getElem_append_left c]; exact keep q1
      · rw [List.getElem_append_left c]; exact keep q2
    · have hlen : i = ms.length := by simp at h3; omega
      subst hlen
      refine ⟨vl, vs, ?_, ?_, ?_⟩
      · rw [List.getElem_append_right (by omega), List.getElem_append_right (by omega)]; simp [hl]
      · rw [List.getElem_append_right (by omega)]; simp only [Nat.sub_self, List.getElem_cons_zero]; exact keep (new r1)
      · rw [List.getElem_append_right (by omega)]; simp only [Nat.sub_self, List.getElem_cons_zero]; exact keep (new r2)
def ens (t : List Nat) : Nat → Sq → List Mv → Option (List Mv × Sq)
  | 0, q, l => some (l, q)
  | n + 1, q, l => match en t q with
    | none => none
    | some r => ens t n r.2 (l ++ [r.1])
theorem fn_ok {m : Mv} {q : Sq} {r : Mv × Sq} (h : fn m q = some r) : r.2.2 = false := by
  unfold fn at h
  split at h
  · cases h; assumption
  · cases h
theorem en_ok {t : List Nat} {q : Sq} {r : Mv × Sq} (h : en t q = some r) : r.2.2 = false := by
  unfold en at h
  split at h
  · exact fn_ok h
  split at h
  · split at h
    · cases h
    · exact fn_ok h
  split at h
  · cases h
  split at h
  · split at h
    · cases h
    · exact fn_ok h
  split at h
  · exact fn_ok h
  split at h
  · split at h
    · cases h
    · exact fn_ok h
  · split at h
    · cases h
    · split at h
      · cases h
      · exact fn_ok h
theorem ens_ok {t : List Nat} : ∀ (n : Nat) (q : Sq) (l : List Mv) (r : List Mv × Sq), ens t n q l = some r → q.2 = false → r.2.2 = false
  | 0, q, l, r, h, hq => by have h : some (l, q) = some r := h; cases h; exact hq
  | n + 1, q, l, r, h, hq => by
    unfold ens at h
    split at h
    · cases h
    · rename_i r' he
      exact ens_ok n _ _ _ h (en_ok he)
theorem loop61 {lo b pb N : Nat} {t : List Nat} (hb : b < N) (hpb : pb < N) (hne : pb ≠ b) : ∀ (n i m : Nat) (q : Sq) (l : List Mv) (v : AV) (h : Hp), n < m → i + n ≤ 70000 → l.length ≤ i → N ≤ h.nb → Wf h → CurQ h lo b t q → Pool h pb → MR h N h.nb v l →
    (ens t n q l = none ∧ ∃ h', lp L61n0 m [plv pb, .ptr b 0, v, .int 63 ((i + n : Nat) : Int), .int 63 (i : Int)] h = .ret nilF h' ∧ To (fun x => x = b ∨ N ≤ x) h h' ∧ Wf h') ∨
    (∃ r v' h', ens t n q l = some r ∧ lp L61n0 m [plv pb, .ptr b 0, v, .int 63 ((i + n : Nat) : Int), .int 63 (i : Int)] h = .exit 0 [.ptr b 0, v'] h' ∧ MR h' N h'.nb v' r.1 ∧ CurQ h' lo b t r.2 ∧ To (fun x => x = b ∨ N ≤ x) h h' ∧ Wf h') := by
  intro n
  induction n with
  | zero =>
    intro i m q l v h hm hi hl hnb hw hc hp hr
    obtain ⟨m, rfl⟩ : ∃ k, m = k + 1 := ⟨m - 1, by omega⟩
    have c1 : ¬ (i : Int) < (i : Int) := by omega
    exact .inr ⟨(l, q), v, h, rfl, lpx m (by simp only [↓L61n0, Nat.add_zero, c1, ↓uc_c, ↓uz_n, ↓cI_i, ↓cB_b, cB_b, ↓cT_t, cT_t, nth_z, nth_1, cK_b, ↓cK_b, ↓cK_i, cK_i, ifB_t, ifB_f, ↓ap_e, sel_t, sel_f, gsel_tt, gsel_tf, gsel_ft, gsel_ff, gsel_u, gd_tt, gd_tf, gd_ft, gd_ff, gd_u, ↓jn_n, jn_n, jn_r, ↓jn_r, blk_n, blk_r, ↓cl_r, cl_r, ↓iAdd_i, ↓iSub_i, ↓iMul_i, ↓iAnd_i, ↓iOr_i, ↓iXor_i, ↓iNeg_i, iQuo_i, iRem_i, ↓iConv_i, iConv_i, ↓bNot_b, bNot_b, ↓eqN_i, ↓ltN_i, ↓eqB_b, bnot_e, Int.ofNat_eq_natCast, Int.cast_ofNat_Int, Int.reduceBEq, Int.reduceAdd, Int.reduceNeg, Int.reduceNegSucc, Int.reduceLT, Int.reduceLE, Int.reduceMul, Int.reduceTMod, Int.reduceSub, Int.reduceBNe, Bool.not_true, Bool.not_false, decide_true, decide_false, w63_in, w31_in, ne_eq, not_false_eq_true, Int.reduceEq, reduceCtorEq, ww3131, ww6363, ww3163, ww6331, ww3231, ww3263, ww6463, ww6364, sh31, sh63, sl63, m31, m63, n63, s5a, s5b, s6a, s6b, b31, b32, b63, c63, c64, d64, iShl_c, iShr_c, sr3, sr6, sr7]), hr, hc, To.refl _ _, hw⟩
  | succ n ih =>
    intro i m q l v h hm hi hl hnb hw hc hp hr
    obtain ⟨m, rfl⟩ : ∃ k, m = k + 1 := ⟨m - 1, by omega⟩
    have c1 : (i : Int) < ((i + (n + 1) : Nat) : Int) := by omega
    have i1 := s1n i (by omega)
    have hens : ens t (n + 1) q l = match en t q with | none => none | some r => ens t n r.2 (l ++ [r.1]) := rfl
    rw [hens]
    rcases t87 hc hp hne hw with ⟨k1, g, d, vl, vs, h1, y1, y2, e1, o1, w1⟩ | ⟨r, vl, vs, h1, k1, e1, r1, r2, q1, o1, w1⟩
    · obtain ⟨h2, m2, m2', c2, o2, w2, x2⟩ := mkM0 w1
      obtain ⟨h3, s3, c3, o3, w3, x3⟩ := Ce.stM w2 c2 g d y1 y2
      rw [k1]
      have nb1 := o1.nb
      have o13 : To (fun x => x = b ∨ N ≤ x) h h3 := ((o1.mono fun x _ e => Or.inl e).trans (o2.mono fun _ _ f => f.elim)).trans (o3.mono fun x _ e => by have : x = h1.nb := e; exact .inr (by omega))
      refine .inl ⟨rfl, h3, lpr m (by simp only [↓L61n0, c1, ↓e1, nth_z, nth_1, ↓cK_agg, ↓m2, ↓m2', ↓s3, ↓cK_nils, ↓uc_c, ↓uz_n, ↓cI_i, ↓cB_b, cB_b, ↓cT_t, cT_t, nth_z, nth_1, cK_b, ↓cK_b, ↓cK_i, cK_i, ifB_t, ifB_f, ↓ap_e, sel_t, sel_f, gsel_tt, gsel_tf, gsel_ft, gsel_ff, gsel_u, gd_tt, gd_tf, gd_ft, gd_ff, gd_u, ↓jn_n, jn_n, jn_r, ↓jn_r, blk_n, blk_r, ↓cl_r, cl_r, ↓iAdd_i, ↓iSub_i, ↓iMul_i, ↓iAnd_i, ↓iOr_i, ↓iXor_i, ↓iNeg_i, iQuo_i, iRem_i, ↓iConv_i, iConv_i, ↓bNot_b, bNot_b, ↓eqN_i, ↓ltN_i, ↓eqB_b, bnot_e, Int.ofNat_eq_natCast, Int.cast_ofNat_Int, Int.reduceBEq, Int.reduceAdd, Int.reduceNeg, Int.reduceNegSucc, Int.reduceLT, Int.reduceLE, Int.reduceMul, Int.reduceTMod, Int.reduceSub, Int.reduceBNe, Bool.not_true, Bool.not_false, decide_true, decide_false, w63_in, w31_in, ne_eq, not_false_eq_true, Int.reduceEq, reduceCtorEq, ww3131, ww6363, ww3163, ww6331, ww3231, ww3263, ww6463, ww6364, sh31, sh63, sl63, m31, m63, n63, s5a, s5b, s6a, s6b, b31, b32, b63, c63, c64, d64, iShl_c, iShr_c, sr3, sr6, sr7]), o13, w3⟩
    · obtain ⟨h2, m2, m2', c2, o2, w2, x2⟩ := mkM0 w1
      obtain ⟨h3, s3, c3, o3, w3, x3⟩ := Ce.stM w2 c2 r.1.tag r.1.delta r1.one r2.one
      rw [k1]
      have nb1 := o1.nb
      have hc1 := Ce.lt c2
      have d3 := fun kk => Ce.ldM c3 kk
      have q3 : CurQ h3 lo b t r.2 := (q1.to o2 (fun _ _ _ f => f)).to o3 (fun x _ hx e => by have : x = h1.nb := e; omega)
      have o13 : To (fun x => x = b ∨ N ≤ x) h h3 := ((o1.mono fun x _ e => Or.inl e).trans (o2.mono fun _ _ f => f.elim)).trans (o3.mono fun x _ e => by have : x = h1.nb := e; exact .inr (by omega))
      have p3 : Pool h3 pb := hp.to o13 (fun e => by rcases e with e | e; exact hne e; omega)
      have step : ∀ {w : AV} {ls : List (List AV)}, Rws h1 (fun x => h.nb ≤ x) 3 w ls → Rws h3 (fun x => h.nb ≤ x) 3 w ls := fun hr =>
        (((hr.mono (Q := fun x => h.nb ≤ x ∧ x < h1.nb) fun x hx hlt => ⟨hx, hlt⟩).to o2 (fun _ _ _ f => f)).to o3 (fun x hx _ e => by have : x = h1.nb := e; have := hx.2; omega)).mono fun x hx _ => hx.1
      have hr1 : MR h1 N h.nb v l := hr.to o1 (fun x hx _ e => by have : x = b := e; omega)
      have hr3 : MR h3 N h.nb v l := by
        obtain ⟨P, rs, a1, a2, a3, a4⟩ := hr1
        have kp : ∀ {w : AV} {z : Nat} {ls : List (List AV)} {Q : Nat → Prop}, Rws h1 Q z w ls → Rws h3 Q z w ls := fun hr =>
          (((hr.mono (Q := fun x => _ ∧ x < h1.nb) fun x hx hlt => ⟨hx, hlt⟩).to o2 (fun _ _ _ f => f)).to o3 (fun x hx _ e => by have : x = h1.nb := e; have := hx.2; omega)).mono fun x hx _ => hx.1
        refine ⟨P, rs, kp a1, a2, a3, fun i b1 b2 => ?_⟩
        obtain ⟨wl, ws, e, z1, z2⟩ := a4 i b1 b2
        exact ⟨wl, ws, e, kp z1, kp z2⟩
      obtain ⟨v', h4, h5, g4, g5, r5, o5, w5⟩ := MR.app w3 hr3 hnb (by have := o13.nb; exact this) r.1 (step r1) (step r2) (by omega)
      have e : L61n0 [plv pb, .ptr b 0, v, .int 63 ((i + (n + 1) : Nat) : Int), .int 63 (i : Int)] h = .norm [plv pb, .ptr b 0, v', .int 63 ((i + (n + 1) : Nat) : Int), .int 63 ((i + 1 : Nat) : Int)] h5 := by
        simp only [↓L61n0, c1, ↓e1, nth_z, nth_1, ↓cK_agg, ↓m2, ↓m2', ↓s3, ↓d3, ↓bldMT, ↓g4, ↓g5, i1, ↓uc_c, ↓uz_n, ↓cI_i, ↓cB_b, cB_b, ↓cT_t, cT_t, nth_z, nth_1, cK_b, ↓cK_b, ↓cK_i, cK_i, ifB_t, ifB_f, ↓ap_e, sel_t, sel_f, gsel_tt, gsel_tf, gsel_ft, gsel_ff, gsel_u, gd_tt, gd_tf, gd_ft, gd_ff, gd_u, ↓jn_n, jn_n, jn_r, ↓jn_r, blk_n, blk_r, ↓cl_r, cl_r, ↓iAdd_i, ↓iSub_i, ↓iMul_i, ↓iAnd_i, ↓iOr_i, ↓iXor_i, ↓iNeg_i, iQuo_i, iRem_i, ↓iConv_i, iConv_i, ↓bNot_b, bNot_b, ↓eqN_i, ↓ltN_i, ↓eqB_b, bnot_e, Int.ofNat_eq_natCast, Int.cast_ofNat_Int, Int.reduceBEq, Int.reduceAdd, Int.reduceNeg, Int.reduceNegSucc, Int.reduceLT, Int.reduceLE, Int.reduceMul, Int.reduceTMod, Int.reduceSub, Int.reduceBNe, Bool.not_true, Bool.not_false, decide_true, decide_false, w63_in, w31_in, ne_eq, not_false_eq_true, Int.reduceEq, reduceCtorEq, ww3131, ww6363, ww3163, ww6331, ww3231, ww3263, ww6463, ww6364, sh31, sh63, sl63, m31, m63, n63, s5a, s5b, s6a, s6b, b31, b32, b63, c63, c64, d64, iShl_c, iShr_c, sr3, sr6, sr7]
      have o15 : To (fun x => x = b ∨ N ≤ x) h h5 := o13.trans (o5.mono fun x _ e => .inr e.1)
      have nb5 := o15.nb
      have ei : i + (n + 1) = (i + 1) + n := by omega
      rw [lpn m e, ei]
      rcases ih (i + 1) m r.2 (l ++ [r.1]) v' h5 (by omega) (by omega) (by simp; omega) (by omega) w5 (q3.to o5 (fun x _ hx e => by have := e.1; omega)) (p3.to o5 (fun e => by have := e.1; omega)) r5 with ⟨f1, h6, f2, f4, f5⟩ | ⟨r', v6, h6, f1, f2, f3, f4, f5, f6⟩
      · exact .inl ⟨f1, h6, f2, o15.trans f4, f5⟩
      · exact .inr ⟨r', v6, h6, f1, f2, f3, f4, o15.trans f5, f6⟩
end Go.Proofs.Ytnpfppddongbhaa
