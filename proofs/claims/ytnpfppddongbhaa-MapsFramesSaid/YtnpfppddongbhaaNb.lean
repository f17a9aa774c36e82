/-
  The reader of stated frames, and what they mean: what each function answers (part Nb).
-/
import Derived.Test.YtnpfppddongbhaaNa
set_option linter.unusedVariables false
set_option linter.unusedSimpArgs false
section
namespace Go.Proofs.Ytnpfppddongbhaa
open Go Go.AM
set_option autoImplicit false
/-! ### types with names -/
structure Vt where
  k : Nat
  n : Nat
  x : Nat
  a : Nat
noncomputable def vR (v : Vt) : List AV := [.int 63 (v.k : Int), .str v.n v.x, .int 63 (v.a : Int)]
theorem vR_one (v : Vt) : ∀ x ∈ vR v, one x = true := by
  intro x hx
  simp only [vR, List.mem_cons, List.not_mem_nil, or_false] at hx
  rcases hx with rfl | rfl | rfl <;> rfl
def nmN (i : Nat) : Nat × Nat := if i = 2 then (1, 97) else if i = 4 then (2, 18779) else (0, 0)
theorem nmC_N (i : Nat) : nmC i = .str (nmN i).1 (nmN i).2 := by unfold nmC nmN; split; rfl; split <;> rfl
def nmd (v : Vt) : Vt := if v.k = 7 then ⟨7, (nmN v.a).1, (nmN v.a).2, 0⟩ else v
def raw (p : Nat × Nat) : Vt := ⟨p.1, 0, 0, p.2⟩
theorem vP_raw (l : List (Nat × Nat)) : l.map vP = (l.map raw).map vR := by rw [List.map_map]; rfl
section
variable {h : Hp}
/-- A row's element: its place, what is there. -/
theorem vR_pt {P : Nat → Prop} {v : AV} {l : List Vt} (hr : Rws h P 3 v (l.map vR)) (i : Nat) (hi : i < l.length) :
    ∃ b o, (∀ k : AV → Res, ixA 3 v (.int 63 (i : Int)) k = k (.ptr b o)) ∧ (∀ k : AV → Res, ldN h 3 (.ptr b o) k = k (.agg (avL (vR l[i])))) ∧
      (∀ k : AV → Res, ld1 h (.ptr b (Nat.add o 0)) k = k (.int 63 (l[i].k : Int))) ∧ (∀ k : AV → Res, ld1 h (.ptr b (Nat.add o 1)) k = k (.str l[i].n l[i].x)) ∧ (∀ k : AV → Res, ld1 h (.ptr b (Nat.add o 2)) k = k (.int 63 (l[i].a : Int))) := by
  have hi' : i < (l.map vR).length := by simpa using hi
  obtain ⟨b, o, e1, e2, e3⟩ := hr.pt i hi'
  have hg : (l.map vR)[i] = [.int 63 (l[i].k : Int), .str l[i].n l[i].x, .int 63 (l[i].a : Int)] := by rw [List.getElem_map]; rfl
  refine ⟨b, o, e1, fun k => ?_, fun k => ?_, fun k => ?_, fun k => ?_⟩
  · have := e2 k; rw [hg] at this; exact this
  · have := e3 0 (by rw [hg]; simp) k; simp only [hg] at this; exact this
  · have := e3 1 (by rw [hg]; simp) k; simp only [hg] at this; exact this
  · have := e3 2 (by rw [hg]; simp) k; simp only [hg] at this; exact this
theorem vR_len {P : Nat → Prop} {v : AV} {l : List Vt} (hr : Rws h P 3 v (l.map vR)) (k : AV → Res) : lenL v k = k (.int 63 (l.length : Int)) := by
  have := hr.len k; rwa [List.length_map] at this
theorem Ce.stR {b : Nat} {v0 : Vt} (hw : Wf h) (hc : Ce h b (vR v0)) (v : Vt) : ∃ h', (∀ kk : Hp → Res, stN h 3 (.ptr b 0) (.agg (avL (vR v))) kk = kk h') ∧ Ce h' b (vR v) ∧ To (At b) h h' ∧ Wf h' ∧ h'.nb = h.nb := Ce.st hw hc (vR v) rfl (vR_one v)
theorem Ce.ldR {b : Nat} {v : Vt} (hc : Ce h b (vR v)) (kk : AV → Res) : ldN h 3 (.ptr b 0) kk = kk (.agg (avL (vR v))) := Ce.ld hc kk
theorem Ce.lR {b : Nat} {v : Vt} (hc : Ce h b (vR v)) : (∀ kk : AV → Res, ld1 h (.ptr b (Nat.add 0 0)) kk = kk (.int 63 (v.k : Int))) ∧ (∀ kk : AV → Res, ld1 h (.ptr b 0) kk = kk (.int 63 (v.k : Int))) ∧ (∀ kk : AV → Res, ld1 h (.ptr b (Nat.add 0 2)) kk = kk (.int 63 (v.a : Int))) ∧ (∀ kk : AV → Res, ld1 h (.ptr b 2) kk = kk (.int 63 (v.a : Int))) :=
  ⟨fun kk => Ce.l hc 0 (by simp [vR]) kk, fun kk => Ce.l hc 0 (by simp [vR]) kk, fun kk => Ce.l hc 2 (by simp [vR]) kk, fun kk => Ce.l hc 2 (by simp [vR]) kk⟩
theorem Ce.sN {b : Nat} {v : Vt} (hw : Wf h) (hc : Ce h b (vR v)) (n x : Nat) : ∃ h', (∀ kk : Hp → Res, st1 h (.ptr b (Nat.add 0 1)) (.str n x) kk = kk h') ∧ (∀ kk : Hp → Res, st1 h (.ptr b 1) (.str n x) kk = kk h') ∧ Ce h' b (vR ⟨v.k, n, x, v.a⟩) ∧ To (At b) h h' ∧ Wf h' ∧ h'.nb = h.nb := by
  obtain ⟨h', s, c, r⟩ := Ce.s hw hc 1 (by simp [vR]) (.str n x) rfl
  exact ⟨h', s, fun kk => s kk, c, r⟩
theorem Ce.sA {b : Nat} {v : Vt} (hw : Wf h) (hc : Ce h b (vR v)) (a : Nat) : ∃ h', (∀ kk : Hp → Res, st1 h (.ptr b (Nat.add 0 2)) (.int 63 (a : Int)) kk = kk h') ∧ (∀ kk : Hp → Res, st1 h (.ptr b 2) (.int 63 (a : Int)) kk = kk h') ∧ Ce h' b (vR ⟨v.k, v.n, v.x, a⟩) ∧ To (At b) h h' ∧ Wf h' ∧ h'.nb = h.nb := by
  obtain ⟨h', s, c, r⟩ := Ce.s hw hc 2 (by simp [vR]) (.int 63 (a : Int)) rfl
  exact ⟨h', s, fun kk => s kk, c, r⟩
theorem bldA (v : Vt) (f : AV → Res) : bld [(true, 3, .agg (avL (vR v)))] f = f (avL (vR v)) := of_eq_true (eq_self _)
/-- A row grows by one. -/
theorem vR_app {N : Nat} {v : AV} {l : List Vt} (hw : Wf h) (hN : N ≤ h.nb) (hv : Rws h (fun x => N ≤ x) 3 v (l.map vR)) (e : Vt) (hl : l.length ≤ 200000) :
    ∃ v' h1 h', (∀ k : AV → Hp → Res, mkS h 3 1 (avL (vR e)) k = k (.sl h.nb 0 1 3 (some 1)) h1) ∧ (∀ k : AV → Hp → Res, apd h1 3 32 v (.sl h.nb 0 1 3 (some 1)) k = k v' h') ∧ Rws h' (fun x => N ≤ x) 3 v' ((l ++ [e]).map vR) ∧ To (fun x => N ≤ x) h h' ∧ Wf h' := by
  obtain ⟨v', h1, h', g1, g2, g3, g4, g5⟩ := apd_rows (by_ := 32) hw hv (by decide) (vR e) rfl (vR_one e) (by simp; omega) (by simp; omega)
  refine ⟨v', h1, h', g1, g2, ?_, g4, g5⟩
  rw [List.map_append]
  exact g3.mono fun x hx _ => by rcases hx with hx | hx; exact hx; show N ≤ x; omega
end
/-! ### named -/
theorem loop95 {pb N : Nat} {P : Nat → Prop} {v : AV} {l : List Vt} (hP : ∀ x, P x → x < N) (hpb : pb < N) (hl : l.length ≤ 100000) : ∀ (n i m : Nat) (o : AV) (h : Hp), n < m → i + n = l.length → N ≤ h.nb → Wf h → Rws h P 3 v (l.map vR) → Pool h pb → Rws h (fun x => N ≤ x) 3 o (((l.take i).map nmd).map vR) →
    ∃ o' h', lp L95n0 m [plv pb, o, v, .int 63 (l.length : Int), .int 63 (i : Int)] h = .exit 0 [o'] h' ∧ Rws h' (fun x => N ≤ x) 3 o' ((l.map nmd).map vR) ∧ To (fun x => N ≤ x) h h' ∧ Wf h' := by
  intro n
  induction n with
  | zero =>
    intro i m o h hm hi hnb hw hv hp ho
    obtain ⟨m, rfl⟩ : ∃ k, m = k + 1 := ⟨m - 1, by omega⟩
    have c1 : ¬ (i : Int) < (l.length : Int) := by omega
    rw [List.take_of_length_le (by omega)] at ho
    exact ⟨o, h, lpx m (by simp only [↓L95n0, c1, ↓SD, SA, Int.ofNat_eq_natCast, Int.cast_ofNat_Int, Int.reduceBEq, Int.reduceAdd, Int.reduceNeg, Int.reduceNegSucc, Int.reduceLT, Int.reduceLE, Int.reduceMul, Int.reduceTMod, Int.reduceSub, Int.reduceBNe, Bool.not_true, Bool.not_false, decide_true, decide_false, ne_eq, not_false_eq_true, Int.reduceEq, reduceCtorEq]), ho, To.refl _ _, hw⟩
  | succ n ih =>
    intro i m o h hm hi hnb hw hv hp ho
    obtain ⟨m, rfl⟩ : ∃ k, m = k + 1 := ⟨m - 1, by omega⟩
    have c1 : (i : Int) < (l.length : Int) := by omega
    have hi' : i < l.length := by omega
    obtain ⟨b1, o1, x1, d1, a0, a1, a2⟩ := vR_pt hv i hi'
    obtain ⟨h2, m2, m2', c2, t2, w2, n2⟩ := mkV0 hw
    have c2 : Ce h2 h.nb (vR ⟨0, 0, 0, 0⟩) := c2
    obtain ⟨h3, s3, c3, t3, w3, n3⟩ := Ce.stR w2 c2 l[i]
    obtain ⟨l3, l3', l3a, l3a'⟩ := Ce.lR c3
    have o3 : To (fun x => N ≤ x) h h3 := (t2.mono fun _ _ f => f.elim).trans (t3.mono fun x _ e => by have : x = h.nb := e; show N ≤ x; omega)
    have r3 : Rws h3 (fun x => N ≤ x ∧ x < h.nb) 3 o (((l.take i).map nmd).map vR) := ((ho.mono fun x hx hlt => ⟨hx, hlt⟩).to t2 (fun _ _ _ f => f)).to t3 (fun x hx _ e => by have : x = h.nb := e; have := hx.2; omega)
    have p3 : Pool h3 pb := hp.to o3 (fun e => by have : N ≤ pb := e; omega)
    have i1 := s1n i (by omega)
    have htk : (l.take i).map nmd ++ [nmd l[i]] = (l.take (i + 1)).map nmd := by rw [← List.map_singleton, ← List.map_append, List.take_append_getElem hi']
    have hlen : ((l.take i).map nmd).length ≤ 200000 := by simp; omega
    by_cases c7 : l[i].k = 7
    · have e7 : s111 [plv pb, .int 63 (l[i].a : Int)] h3 = .ret (.tup (.cons (nmC l[i].a) (.cons (.bool (isC l[i].a)) .nil))) h3 := t111 p3 l[i].a
      rw [nmC_N] at e7
      obtain ⟨h4, s4, s4', c4, t4, w4, n4⟩ := Ce.sN w3 c3 (nmN l[i].a).1 (nmN l[i].a).2
      obtain ⟨h5, s5, s5', c5, t5, w5, n5⟩ := Ce.sA w4 c4 0
      have en : (⟨l[i].k, (nmN l[i].a).1, (nmN l[i].a).2, 0⟩ : Vt) = nmd l[i] := by unfold nmd; rw [if_pos c7, c7]
      rw [show (⟨(⟨l[i].k, (nmN l[i].a).1, (nmN l[i].a).2, l[i].a⟩ : Vt).k, (⟨l[i].k, (nmN l[i].a).1, (nmN l[i].a).2, l[i].a⟩ : Vt).n, (⟨l[i].k, (nmN l[i].a).1, (nmN l[i].a).2, l[i].a⟩ : Vt).x, 0⟩ : Vt) = nmd l[i] from en] at c5
      have s5'' : ∀ kk : Hp → Res, st1 h4 (.ptr h.nb (Nat.add 0 2)) (.int 63 0) kk = kk h5 := fun kk => s5 kk
      have s5 : ∀ kk : Hp → Res, st1 h4 (.ptr h.nb (Nat.add 0 2)) (.int 63 (.ofNat 0)) kk = kk h5 := fun kk => s5'' kk
      have s5' : ∀ kk : Hp → Res, st1 h4 (.ptr h.nb 2) (.int 63 0) kk = kk h5 := fun kk => s5'' kk
      have d5 := fun kk => Ce.ldR c5 kk
      have k7 : ((l[i].k : Nat) : Int) = 7 := by omega
      have r5 : Rws h5 (fun x => N ≤ x) 3 o (((l.take i).map nmd).map vR) := ((r3.to t4 (fun x hx _ e => by have : x = h.nb := e; have := hx.2; omega)).to t5 (fun x hx _ e => by have : x = h.nb := e; have := hx.2; omega)).mono fun x hx _ => hx.1
      have o5 : To (fun x => N ≤ x) h h5 := (o3.trans (t4.mono fun x _ e => by have : x = h.nb := e; show N ≤ x; omega)).trans (t5.mono fun x _ e => by have : x = h.nb := e; show N ≤ x; omega)
      obtain ⟨o', h6, h7, g1, g2, g3, g4, g5⟩ := vR_app w5 (by have := o5.nb; omega) r5 (nmd l[i]) hlen
      rw [htk] at g3
      have e : L95n0 [plv pb, o, v, .int 63 (l.length : Int), .int 63 (i : Int)] h = .norm [plv pb, o', v, .int 63 (l.length : Int), .int 63 ((i + 1 : Nat) : Int)] h7 := by
        simp only [↓L95n0, c1, ↓x1, ↓d1, ↓m2, ↓m2', ↓s3, ↓cP_p, ↓l3, ↓l3', k7, ↓l3a, ↓l3a', ↓e7, ↓cK_str, ↓s4, ↓s4', ↓s5, ↓s5', ↓s5'', ↓d5, ↓bldA, ↓g1, ↓g2, i1, nth_z, nth_1, beq_self_eq_true, ↓SD, SA, Int.ofNat_eq_natCast, Int.cast_ofNat_Int, Int.reduceBEq, Int.reduceAdd, Int.reduceNeg, Int.reduceNegSucc, Int.reduceLT, Int.reduceLE, Int.reduceMul, Int.reduceTMod, Int.reduceSub, Int.reduceBNe, Bool.not_true, Bool.not_false, decide_true, decide_false, ne_eq, not_false_eq_true, Int.reduceEq, reduceCtorEq]
      rw [lpn m e]
      have ot := o5.trans g4
      obtain ⟨o'', h8, f1, f2, f3, f4⟩ := ih (i + 1) m o' h7 (by omega) (by omega) (by have := ot.nb; omega) g5 (hv.to ot (fun x hx _ e => by have : N ≤ x := e; have := hP x hx; omega)) (hp.to ot (fun e => by have : N ≤ pb := e; omega)) g3
      exact ⟨o'', h8, f1, f2, ot.trans f3, f4⟩
    · have en : nmd l[i] = l[i] := by unfold nmd; rw [if_neg c7]
      have k7 : ¬ ((l[i].k : Nat) : Int) = 7 := by omega
      have k7' : (((l[i].k : Nat) : Int) == 7) = false := by simpa using k7
      have d5 := fun kk => Ce.ldR c3 kk
      obtain ⟨o', h6, h7, g1, g2, g3, g4, g5⟩ := vR_app w3 (by have := o3.nb; omega) (r3.mono fun x hx _ => hx.1) l[i] hlen
      rw [← en, htk] at g3
      have e : L95n0 [plv pb, o, v, .int 63 (l.length : Int), .int 63 (i : Int)] h = .norm [plv pb, o', v, .int 63 (l.length : Int), .int 63 ((i + 1 : Nat) : Int)] h7 := by
        simp only [↓L95n0, c1, ↓x1, ↓d1, ↓m2, ↓m2', ↓s3, ↓cP_p, ↓l3, ↓l3', k7', ↓d5, ↓bldA, ↓g1, ↓g2, i1, ↓SD, SA, Int.ofNat_eq_natCast, Int.cast_ofNat_Int, Int.reduceBEq, Int.reduceAdd, Int.reduceNeg, Int.reduceNegSucc, Int.reduceLT, Int.reduceLE, Int.reduceMul, Int.reduceTMod, Int.reduceSub, Int.reduceBNe, Bool.not_true, Bool.not_false, decide_true, decide_false, ne_eq, not_false_eq_true, Int.reduceEq, reduceCtorEq]
      rw [lpn m e]
      have ot := o3.trans g4
      obtain ⟨o'', h8, f1, f2, f3, f4⟩ := ih (i + 1) m o' h7 (by omega) (by omega) (by have := ot.nb; omega) g5 (hv.to ot (fun x hx _ e => by have : N ≤ x := e; have := hP x hx; omega)) (hp.to ot (fun e => by have : N ≤ pb := e; omega)) g3
      exact ⟨o'', h8, f1, f2, ot.trans f3, f4⟩
theorem t95 {h : Hp} {P : Nat → Prop} {v : AV} {l : List Vt} {pb : Nat} (hv : Rws h P 3 v (l.map vR)) (hw : Wf h) (hp : Pool h pb) (hl : l.length ≤ 100000) :
    ∃ o h', s95 [v, plv pb] h = .ret o h' ∧ Rws h' (fun x => h.nb ≤ x) 3 o ((l.map nmd).map vR) ∧ To No h h' ∧ Wf h' := by
  have hv' : Rws h (fun x => x < h.nb) 3 v (l.map vR) := hv.mono fun x _ hlt => hlt
  obtain ⟨o, h', e1, r1, t1, w1⟩ := loop95 (N := h.nb) (fun x hx => hx) (Ce.lt hp) hl l.length 0 most .nils h (by unfold most; omega) (by omega) (Nat.le_refl _) hw hv' hp (Rws.nil _ _ _)
  have e1 : lp L95n0 most [plv pb, .nils, v, .int 63 (l.length : Int), .int 63 0] h = .exit 0 [o] h' := e1
  have ln := fun kk => vR_len hv kk
  have ck := fun kk => r1.cK kk
  refine ⟨o, h', ?_, r1, t1.mono fun x hx e => (by have : h.nb ≤ x := e; omega), w1⟩
  simp only [↓s95, ↓ln, ↓e1, ↓ck, blk_x0, ↓SD, SA, Int.ofNat_eq_natCast, Int.cast_ofNat_Int, Int.reduceBEq, Int.reduceAdd, Int.reduceNeg, Int.reduceNegSucc, Int.reduceLT, Int.reduceLE, Int.reduceMul, Int.reduceTMod, Int.reduceSub, Int.reduceBNe, Bool.not_true, Bool.not_false, decide_true, decide_false, ne_eq, not_false_eq_true, Int.reduceEq, reduceCtorEq]
end Go.Proofs.Ytnpfppddongbhaa
end

section
namespace Go.Proofs.Ytnpfppddongbhaa
open Go Go.AM
set_option autoImplicit false
/-! ### the same of the reference -/
theorem loop90 {pb N : Nat} {P : Nat → Prop} {v : AV} {l : List Vt} (hP : ∀ x, P x → x < N) (hpb : pb < N) (hl : l.length ≤ 100000) : ∀ (n i m : Nat) (o : AV) (h : Hp), n < m → i + n = l.length → N ≤ h.nb → Wf h → Rws h P 3 v (l.map vR) → Pool h pb → Rws h (fun x => N ≤ x) 3 o (((l.take i).map nmd).map vR) →
    ∃ o' h', lp L90n0 m [v, plv pb, o, .int 63 (i : Int)] h = .exit 0 [o'] h' ∧ Rws h' (fun x => N ≤ x) 3 o' ((l.map nmd).map vR) ∧ To (fun x => N ≤ x) h h' ∧ Wf h' := by
  intro n
  induction n with
  | zero =>
    intro i m o h hm hi hnb hw hv hp ho
    obtain ⟨m, rfl⟩ : ∃ k, m = k + 1 := ⟨m - 1, by omega⟩
    have ln := fun kk => vR_len hv kk
    have c1 : ¬ (i : Int) < (l.length : Int) := by omega
    rw [List.take_of_length_le (by omega)] at ho
    exact ⟨o, h, lpx m (by simp only [↓L90n0, ↓ln, c1, ↓SD, SA, Int.ofNat_eq_natCast, Int.cast_ofNat_Int, Int.reduceBEq, Int.reduceAdd, Int.reduceNeg, Int.reduceNegSucc, Int.reduceLT, Int.reduceLE, Int.reduceMul, Int.reduceTMod, Int.reduceSub, Int.reduceBNe, Bool.not_true, Bool.not_false, decide_true, decide_false, ne_eq, not_false_eq_true, Int.reduceEq, reduceCtorEq]), ho, To.refl _ _, hw⟩
  | succ n ih =>
    intro i m o h hm hi hnb hw hv hp ho
    obtain ⟨m, rfl⟩ : ∃ k, m = k + 1 := ⟨m - 1, by omega⟩
    have ln := fun kk => vR_len hv kk
    have c1 : (i : Int) < (l.length : Int) := by omega
    have hi' : i < l.length := by omega
    obtain ⟨b1, o1, x1, d1, a0, a1, a2⟩ := vR_pt hv i hi'
    obtain ⟨h2, m2, m2', c2, t2, w2, n2⟩ := mkV0 hw
    have c2 : Ce h2 h.nb (vR ⟨0, 0, 0, 0⟩) := c2
    obtain ⟨h3, s3, c3, t3, w3, n3⟩ := Ce.stR w2 c2 l[i]
    obtain ⟨l3, l3', l3a, l3a'⟩ := Ce.lR c3
    have o3 : To (fun x => N ≤ x) h h3 := (t2.mono fun _ _ f => f.elim).trans (t3.mono fun x _ e => by have : x = h.nb := e; show N ≤ x; omega)
    have r3 : Rws h3 (fun x => N ≤ x ∧ x < h.nb) 3 o (((l.take i).map nmd).map vR) := ((ho.mono fun x hx hlt => ⟨hx, hlt⟩).to t2 (fun _ _ _ f => f)).to t3 (fun x hx _ e => by have : x = h.nb := e; have := hx.2; omega)
    have p3 : Pool h3 pb := hp.to o3 (fun e => by have : N ≤ pb := e; omega)
    have i1 := s1n i (by omega)
    have htk : (l.take i).map nmd ++ [nmd l[i]] = (l.take (i + 1)).map nmd := by rw [← List.map_singleton, ← List.map_append, List.take_append_getElem hi']
    have hlen : ((l.take i).map nmd).length ≤ 200000 := by simp; omega
    by_cases c7 : l[i].k = 7
    · have e7 : s109 [plv pb, .int 63 (l[i].a : Int)] h3 = .ret (.tup (.cons (nmC l[i].a) (.cons (.bool (isC l[i].a)) .nil))) h3 := t109 p3 l[i].a
      rw [nmC_N] at e7
      obtain ⟨h4, s4, s4', c4, t4, w4, n4⟩ := Ce.sN w3 c3 (nmN l[i].a).1 (nmN l[i].a).2
      obtain ⟨h5, s5, s5', c5, t5, w5, n5⟩ := Ce.sA w4 c4 0
      have en : (⟨l[i].k, (nmN l[i].a).1, (nmN l[i].a).2, 0⟩ : Vt) = nmd l[i] := by unfold nmd; rw [if_pos c7, c7]
      rw [show (⟨(⟨l[i].k, (nmN l[i].a).1, (nmN l[i].a).2, l[i].a⟩ : Vt).k, (⟨l[i].k, (nmN l[i].a).1, (nmN l[i].a).2, l[i].a⟩ : Vt).n, (⟨l[i].k, (nmN l[i].a).1, (nmN l[i].a).2, l[i].a⟩ : Vt).x, 0⟩ : Vt) = nmd l[i] from en] at c5
      have s5'' : ∀ kk : Hp → Res, st1 h4 (.ptr h.nb (Nat.add 0 2)) (.int 63 0) kk = kk h5 := fun kk => s5 kk
      have s5 : ∀ kk : Hp → Res, st1 h4 (.ptr h.nb (Nat.add 0 2)) (.int 63 (.ofNat 0)) kk = kk h5 := fun kk => s5'' kk
      have s5' : ∀ kk : Hp → Res, st1 h4 (.ptr h.nb 2) (.int 63 0) kk = kk h5 := fun kk => s5'' kk
      have d5 := fun kk => Ce.ldR c5 kk
      have k7 : ((l[i].k : Nat) : Int) = 7 := by omega
      have r5 : Rws h5 (fun x => N ≤ x) 3 o (((l.take i).map nmd).map vR) := ((r3.to t4 (fun x hx _ e => by have : x = h.nb := e; have := hx.2; omega)).to t5 (fun x hx _ e => by have : x = h.nb := e; have := hx.2; omega)).mono fun x hx _ => hx.1
      have o5 : To (fun x => N ≤ x) h h5 := (o3.trans (t4.mono fun x _ e => by have : x = h.nb := e; show N ≤ x; omega)).trans (t5.mono fun x _ e => by have : x = h.nb := e; show N ≤ x; omega)
      obtain ⟨o', h6, h7, g1, g2, g3, g4, g5⟩ := vR_app w5 (by have := o5.nb; omega) r5 (nmd l[i]) hlen
      rw [htk] at g3
      have e : L90n0 [v, plv pb, o, .int 63 (i : Int)] h = .norm [v, plv pb, o', .int 63 ((i + 1 : Nat) : Int)] h7 := by
        simp only [↓L90n0, ↓ln, c1, ↓x1, ↓d1, ↓m2, ↓m2', ↓s3, ↓cP_p, ↓l3, ↓l3', k7, ↓l3a, ↓l3a', ↓e7, ↓cK_str, ↓s4, ↓s4', ↓s5, ↓s5', ↓s5'', ↓d5, ↓bldA, ↓g1, ↓g2, i1, nth_z, nth_1, beq_self_eq_true, ↓SD, SA, Int.ofNat_eq_natCast, Int.cast_ofNat_Int, Int.reduceBEq, Int.reduceAdd, Int.reduceNeg, Int.reduceNegSucc, Int.reduceLT, Int.reduceLE, Int.reduceMul, Int.reduceTMod, Int.reduceSub, Int.reduceBNe, Bool.not_true, Bool.not_false, decide_true, decide_false, ne_eq, not_false_eq_true, Int.reduceEq, reduceCtorEq]
      rw [lpn m e]
      have ot := o5.trans g4
      obtain ⟨o'', h8, f1, f2, f3, f4⟩ := ih (i + 1) m o' h7 (by omega) (by omega) (by have := ot.nb; omega) g5 (hv.to ot (fun x hx _ e => by have : N ≤ x := e; have := hP x hx; omega)) (hp.to ot (fun e => by have : N ≤ pb := e; omega)) g3
      exact ⟨o'', h8, f1, f2, ot.trans f3, f4⟩
    · have en : nmd l[i] = l[i] := by unfold nmd; rw [if_neg c7]
      have k7 : ¬ ((l[i].k : Nat) : Int) = 7 := by omega
      have k7' : (((l[i].k : Nat) : Int) == 7) = false := by simpa using k7
      have d5 := fun kk => Ce.ldR c3 kk
      obtain ⟨o', h6, h7, g1, g2, g3, g4, g5⟩ := vR_app w3 (by have := o3.nb; omega) (r3.mono fun x hx _ => hx.1) l[i] hlen
      rw [← en, htk] at g3
      have e : L90n0 [v, plv pb, o, .int 63 (i : Int)] h = .norm [v, plv pb, o', .int 63 ((i + 1 : Nat) : Int)] h7 := by
        simp only [↓L90n0, ↓ln, c1, ↓x1, ↓d1, ↓m2, ↓m2', ↓s3, ↓cP_p, ↓l3, ↓l3', k7', ↓d5, ↓bldA, ↓g1, ↓g2, i1, ↓SD, SA, Int.ofNat_eq_natCast, Int.cast_ofNat_Int, Int.reduceBEq, Int.reduceAdd, Int.reduceNeg, Int.reduceNegSucc, Int.reduceLT, Int.reduceLE, Int.reduceMul, Int.reduceTMod, Int.reduceSub, Int.reduceBNe, Bool.not_true, Bool.not_false, decide_true, decide_false, ne_eq, not_false_eq_true, Int.reduceEq, reduceCtorEq]
      rw [lpn m e]
      have ot := o3.trans g4
      obtain ⟨o'', h8, f1, f2, f3, f4⟩ := ih (i + 1) m o' h7 (by omega) (by omega) (by have := ot.nb; omega) g5 (hv.to ot (fun x hx _ e => by have : N ≤ x := e; have := hP x hx; omega)) (hp.to ot (fun e => by have : N ≤ pb := e; omega)) g3
      exact ⟨o'', h8, f1, f2, ot.trans f3, f4⟩
theorem t90 {h : Hp} {P : Nat → Prop} {v : AV} {l : List Vt} {pb : Nat} (hv : Rws h P 3 v (l.map vR)) (hw : Wf h) (hp : Pool h pb) (hl : l.length ≤ 100000) :
    ∃ o h', s90 [v, plv pb] h = .ret o h' ∧ Rws h' (fun x => h.nb ≤ x) 3 o ((l.map nmd).map vR) ∧ To No h h' ∧ Wf h' := by
  have hv' : Rws h (fun x => x < h.nb) 3 v (l.map vR) := hv.mono fun x _ hlt => hlt
  obtain ⟨o, h', e1, r1, t1, w1⟩ := loop90 (N := h.nb) (fun x hx => hx) (Ce.lt hp) hl l.length 0 most .nils h (by unfold most; omega) (by omega) (Nat.le_refl _) hw hv' hp (Rws.nil _ _ _)
  have e1 : lp L90n0 most [v, plv pb, .nils, .int 63 0] h = .exit 0 [o] h' := e1
  have ln := fun kk => vR_len hv kk
  have ck := fun kk => r1.cK kk
  refine ⟨o, h', ?_, r1, t1.mono fun x hx e => (by have : h.nb ≤ x := e; omega), w1⟩
  simp only [↓s90, ↓e1, ↓ck, blk_x0, ↓SD, SA, Int.ofNat_eq_natCast, Int.cast_ofNat_Int, Int.reduceBEq, Int.reduceAdd, Int.reduceNeg, Int.reduceNegSucc, Int.reduceLT, Int.reduceLE, Int.reduceMul, Int.reduceTMod, Int.reduceSub, Int.reduceBNe, Bool.not_true, Bool.not_false, decide_true, decide_false, ne_eq, not_false_eq_true, Int.reduceEq, reduceCtorEq]

/-! ### a second word behind each long -/
def wid (s : Nat) (v : Vt) : List Vt := if v.k = 4 then [v, ⟨s, 0, 0, 0⟩] else [v]
theorem wid_take (s : Nat) (l : List Vt) (i : Nat) (hi : i < l.length) : (l.take i).flatMap (wid s) ++ wid s l[i] = (l.take (i + 1)).flatMap (wid s) := by
  rw [← List.take_append_getElem hi, List.flatMap_append]; simp
theorem wid_len (s : Nat) (l : List Vt) : (l.flatMap (wid s)).length ≤ 2 * l.length := by
  induction l with
  | nil => simp
  | cons v l ih =>
    rw [List.flatMap_cons, List.length_append, List.length_cons]
    have : (wid s v).length ≤ 2 := by unfold wid; split <;> simp
    omega
theorem bld0 (f : AV → Res) : bld [(false, 1, (.int 63 (.ofNat 0))), (false, 1, (.str 0 0)), (false, 1, (.int 63 (.ofNat 0)))] f = f (avL (vR ⟨0, 0, 0, 0⟩)) := of_eq_true (eq_self _)
theorem bld0' (f : AV → Res) : bld [(false, 1, (.int 63 0)), (false, 1, (.str 0 0)), (false, 1, (.int 63 0))] f = f (avL (vR ⟨0, 0, 0, 0⟩)) := of_eq_true (eq_self _)
theorem bldS (s : Nat) (f : AV → Res) : bld [(false, 1, (.int 63 (s : Int))), (false, 1, (.str 0 0)), (false, 1, (.int 63 (.ofNat 0)))] f = f (avL (vR ⟨s, 0, 0, 0⟩)) := of_eq_true (eq_self _)
theorem bldS' (s : Nat) (f : AV → Res) : bld [(false, 1, (.int 63 (s : Int))), (false, 1, (.str 0 0)), (false, 1, (.int 63 0))] f = f (avL (vR ⟨s, 0, 0, 0⟩)) := of_eq_true (eq_self _)
theorem t110 {h : Hp} (hw : Wf h) (s : Nat) : ∃ h', s110 [.int 63 (s : Int)] h = .ret (.agg (avL (vR ⟨s, 0, 0, 0⟩))) h' ∧ To No h h' ∧ Wf h' := by
  obtain ⟨h2, m2, m2', c2, t2, w2, n2⟩ := mkV0 hw
  have c2 : Ce h2 h.nb (vR ⟨0, 0, 0, 0⟩) := c2
  obtain ⟨h3, s3, c3, t3, w3, n3⟩ := Ce.stR w2 c2 ⟨s, 0, 0, 0⟩
  have d3 := fun kk => Ce.ldR c3 kk
  have ot : To (fun x => h.nb ≤ x) h h3 := (t2.mono fun _ _ f => f.elim).trans (t3.mono fun x _ e => by have : x = h.nb := e; show h.nb ≤ x; omega)
  refine ⟨h3, ?_, ot.mono fun x hx e => (by have : h.nb ≤ x := e; omega), w3⟩
  simp only [↓s110, ↓m2, ↓m2', ↓bldS, ↓bldS', ↓s3, ↓d3, ↓SD, SA, Int.ofNat_eq_natCast, Int.cast_ofNat_Int, Int.reduceBEq, Int.reduceAdd, Int.reduceNeg, Int.reduceNegSucc, Int.reduceLT, Int.reduceLE, Int.reduceMul, Int.reduceTMod, Int.reduceSub, Int.reduceBNe, Bool.not_true, Bool.not_false, decide_true, decide_false, ne_eq, not_false_eq_true, Int.reduceEq, reduceCtorEq]
/-- The same; the row's blocks so far lie below M, and only they (and new ones) are written. -/
theorem vR_app_at {h : Hp} {N M : Nat} {v : AV} {l : List Vt} (hw : Wf h) (hN : N ≤ h.nb) (hM : M ≤ h.nb) (hv : Rws h (fun x => N ≤ x ∧ x < M) 3 v (l.map vR)) (e : Vt) (hl : l.length ≤ 200000) :
    ∃ v' h1 h', (∀ k : AV → Hp → Res, mkS h 3 1 (avL (vR e)) k = k (.sl h.nb 0 1 3 (some 1)) h1) ∧ (∀ k : AV → Hp → Res, apd h1 3 32 v (.sl h.nb 0 1 3 (some 1)) k = k v' h') ∧ Rws h' (fun x => N ≤ x) 3 v' ((l ++ [e]).map vR) ∧ To (fun x => N ≤ x ∧ x < M ∧ x < M) h h' ∧ Wf h' := by
  obtain ⟨v', h1, h', g1, g2, g3, g4, g5⟩ := apd_rows (by_ := 32) hw hv (by decide) (vR e) rfl (vR_one e) (by simp; omega) (by simp; omega)
  refine ⟨v', h1, h', g1, g2, ?_, g4.mono fun x _ hx => ⟨hx.1, hx.2, hx.2⟩, g5⟩
  rw [List.map_append]
  exact g3.mono fun x hx _ => by
    rcases hx with hx | hx
    · exact hx.1
    · have hx : h.nb ≤ x := hx
      show N ≤ x; omega
theorem loop96 {N : Nat} {P : Nat → Prop} {v : AV} {l : List Vt} (hP : ∀ x, P x → x < N) (hl : l.length ≤ 100000) : ∀ (n i m : Nat) (o : AV) (h : Hp), n < m → i + n = l.length → N ≤ h.nb → Wf h → Rws h P 3 v (l.map vR) → Rws h (fun x => N ≤ x) 3 o (((l.take i).flatMap (wid 0)).map vR) →
    ∃ o' h', lp L96n0 m [o, v, .int 63 (l.length : Int), .int 63 (i : Int)] h = .exit 0 [o'] h' ∧ Rws h' (fun x => N ≤ x) 3 o' ((l.flatMap (wid 0)).map vR) ∧ To (fun x => N ≤ x) h h' ∧ Wf h' := by
  intro n
  induction n with
  | zero =>
    intro i m o h hm hi hnb hw hv ho
    obtain ⟨m, rfl⟩ : ∃ k, m = k + 1 := ⟨m - 1, by omega⟩
    have c1 : ¬ (i : Int) < (l.length : Int) := by omega
    rw [List.take_of_length_le (by omega)] at ho
    exact ⟨o, h, lpx m (by simp only [↓L96n0, c1, ↓SD, SA, Int.ofNat_eq_natCast, Int.cast_ofNat_Int, Int.reduceBEq, Int.reduceAdd, Int.reduceNeg, Int.reduceNegSucc, Int.reduceLT, Int.reduceLE, Int.reduceMul, Int.reduceTMod, Int.reduceSub, Int.reduceBNe, Bool.not_true, Bool.not_false, decide_true, decide_false, ne_eq, not_false_eq_true, Int.reduceEq, reduceCtorEq]), ho, To.refl _ _, hw⟩
  | succ n ih =>
    intro i m o h hm hi hnb hw hv ho
    obtain ⟨m, rfl⟩ : ∃ k, m = k + 1 := ⟨m - 1, by omega⟩
    have c1 : (i : Int) < (l.length : Int) := by omega
    have hi' : i < l.length := by omega
    obtain ⟨b1, o1, x1, d1, a0, a1, a2⟩ := vR_pt hv i hi'
    obtain ⟨h2, m2, m2', c2, t2, w2, n2⟩ := mkV0 hw
    have c2 : Ce h2 h.nb (vR ⟨0, 0, 0, 0⟩) := c2
    obtain ⟨h3, s3, c3, t3, w3, n3⟩ := Ce.stR w2 c2 l[i]
    have d3 := fun kk => Ce.ldR c3 kk
    have o3 : To (fun x => N ≤ x) h h3 := (t2.mono fun _ _ f => f.elim).trans (t3.mono fun x _ e => by have : x = h.nb := e; show N ≤ x; omega)
    have r3 : Rws h3 (fun x => N ≤ x ∧ x < h.nb) 3 o (((l.take i).flatMap (wid 0)).map vR) := ((ho.mono fun x hx hlt => ⟨hx, hlt⟩).to t2 (fun _ _ _ f => f)).to t3 (fun x hx _ e => by have : x = h.nb := e; have := hx.2; omega)
    have i1 := s1n i (by omega)
    have htk := wid_take 0 l i hi'
    have hlen : ((l.take i).flatMap (wid 0)).length ≤ 200000 := by have := wid_len 0 (l.take i); simp at this ⊢; omega
    obtain ⟨p', h6, h7, g1, g2, g3, g4, g5⟩ := vR_app_at (M := h.nb) w3 (by have := o3.nb; omega) (by have := o3.nb; omega) r3 l[i] hlen
    have c7 := c3.to g4 (fun e => by have := e.1; have := e.2.1; omega)
    obtain ⟨l3, l3', -, -⟩ := Ce.lR c7
    have ot := o3.trans (g4.mono fun x _ e => e.1)
    by_cases c4 : l[i].k = 4
    · have k4 : ((l[i].k : Nat) : Int) = 4 := by omega
      have hw4 : wid 0 l[i] = [l[i], ⟨0, 0, 0, 0⟩] := by unfold wid; rw [if_pos c4]
      obtain ⟨o', h8, h9, g6, g7, g8, g9, g10⟩ := vR_app g5 (by have := ot.nb; omega) g3 ⟨0, 0, 0, 0⟩ (by have := wid_len 0 (l.take i); simp at this ⊢; omega)
      rw [List.append_assoc, List.singleton_append, ← hw4, htk] at g8
      have e : L96n0 [o, v, .int 63 (l.length : Int), .int 63 (i : Int)] h = .norm [o', v, .int 63 (l.length : Int), .int 63 ((i + 1 : Nat) : Int)] h9 := by
        simp only [↓L96n0, c1, ↓x1, ↓d1, ↓m2, ↓m2', ↓s3, ↓d3, ↓bldA, ↓g1, ↓g2, ↓cP_p, ↓l3, ↓l3', k4, ↓bld0, ↓bld0', ↓g6, ↓g7, i1, beq_self_eq_true, ↓SD, SA, Int.ofNat_eq_natCast, Int.cast_ofNat_Int, Int.reduceBEq, Int.reduceAdd, Int.reduceNeg, Int.reduceNegSucc, Int.reduceLT, Int.reduceLE, Int.reduceMul, Int.reduceTMod, Int.reduceSub, Int.reduceBNe, Bool.not_true, Bool.not_false, decide_true, decide_false, ne_eq, not_false_eq_true, Int.reduceEq, reduceCtorEq]
      rw [lpn m e]
      have ot := ot.trans g9
      obtain ⟨o'', h10, f1, f2, f3, f4⟩ := ih (i + 1) m o' h9 (by omega) (by omega) (by have := ot.nb; omega) g10 (hv.to ot (fun x hx _ e => by have : N ≤ x := e; have := hP x hx; omega)) g8
      exact ⟨o'', h10, f1, f2, ot.trans f3, f4⟩
    · have k4 : (((l[i].k : Nat) : Int) == 4) = false := by have : ¬ ((l[i].k : Nat) : Int) = 4 := by omega
                                                            simpa using this
      have hw4 : wid 0 l[i] = [l[i]] := by unfold wid; rw [if_neg c4]
      rw [← hw4, htk] at g3
      have e : L96n0 [o, v, .int 63 (l.length : Int), .int 63 (i : Int)] h = .norm [p', v, .int 63 (l.length : Int), .int 63 ((i + 1 : Nat) : Int)] h7 := by
        simp only [↓L96n0, c1, ↓x1, ↓d1, ↓m2, ↓m2', ↓s3, ↓d3, ↓bldA, ↓g1, ↓g2, ↓cP_p, ↓l3, ↓l3', k4, i1, ↓SD, SA, Int.ofNat_eq_natCast, Int.cast_ofNat_Int, Int.reduceBEq, Int.reduceAdd, Int.reduceNeg, Int.reduceNegSucc, Int.reduceLT, Int.reduceLE, Int.reduceMul, Int.reduceTMod, Int.reduceSub, Int.reduceBNe, Bool.not_true, Bool.not_false, decide_true, decide_false, ne_eq, not_false_eq_true, Int.reduceEq, reduceCtorEq]
      rw [lpn m e]
      obtain ⟨o'', h10, f1, f2, f3, f4⟩ := ih (i + 1) m p' h7 (by omega) (by omega) (by have := ot.nb; omega) g5 (hv.to ot (fun x hx _ e => by have : N ≤ x := e; have := hP x hx; omega)) g3
      exact ⟨o'', h10, f1, f2, ot.trans f3, f4⟩
end Go.Proofs.Ytnpfppddongbhaa
end

section
namespace Go.Proofs.Ytnpfppddongbhaa
open Go Go.AM
set_option autoImplicit false
theorem ix_same {f : (AV → Res) → Res} {b1 o1 b2 o2 : Nat} (x1 : ∀ k : AV → Res, f k = k (.ptr b1 o1)) (x2 : ∀ k : AV → Res, f k = k (.ptr b2 o2)) : b1 = b2 ∧ o1 = o2 := by
  have h := (x1 fun a => .ret a H0).symm.trans (x2 fun a => .ret a H0)
  injection h with h1 h2
  injection h1 with h1 h2
  exact ⟨h1, h2⟩
theorem t96 {h : Hp} {P : Nat → Prop} {v : AV} {l : List Vt} (hv : Rws h P 3 v (l.map vR)) (hw : Wf h) (hl : l.length ≤ 100000) :
    ∃ o h', s96 [v] h = .ret o h' ∧ Rws h' (fun x => h.nb ≤ x) 3 o ((l.flatMap (wid 0)).map vR) ∧ To No h h' ∧ Wf h' := by
  have hv' : Rws h (fun x => x < h.nb) 3 v (l.map vR) := hv.mono fun x _ hlt => hlt
  obtain ⟨o, h', e1, r1, t1, w1⟩ := loop96 (N := h.nb) (fun x hx => hx) hl l.length 0 most .nils h (by unfold most; omega) (by omega) (Nat.le_refl _) hw hv' (Rws.nil _ _ _)
  have e1 : lp L96n0 most [.nils, v, .int 63 (l.length : Int), .int 63 0] h = .exit 0 [o] h' := e1
  have ln := fun kk => vR_len hv kk
  have ck := fun kk => r1.cK kk
  refine ⟨o, h', ?_, r1, t1.mono fun x hx e => (by have : h.nb ≤ x := e; omega), w1⟩
  simp only [↓s96, ↓ln, ↓e1, ↓ck, blk_x0, ↓SD, SA, Int.ofNat_eq_natCast, Int.cast_ofNat_Int, Int.reduceBEq, Int.reduceAdd, Int.reduceNeg, Int.reduceNegSucc, Int.reduceLT, Int.reduceLE, Int.reduceMul, Int.reduceTMod, Int.reduceSub, Int.reduceBNe, Bool.not_true, Bool.not_false, decide_true, decide_false, ne_eq, not_false_eq_true, Int.reduceEq, reduceCtorEq]
theorem t97 {h : Hp} {P : Nat → Prop} {v : AV} {l : List Vt} (hv : Rws h P 3 v (l.map vR)) (hw : Wf h) (hl : l.length ≤ 100000) :
    ∃ h', s97 [v] h = .ret (.int 63 ((l.flatMap (wid 0)).length : Int)) h' ∧ To No h h' ∧ Wf h' := by
  obtain ⟨o, h', e1, r1, t1, w1⟩ := t96 hv hw hl
  have ln := fun kk => vR_len r1 kk
  exact ⟨h', by simp only [↓s97, ↓e1, ↓ln, ↓SD, SA, Int.ofNat_eq_natCast, Int.cast_ofNat_Int, Int.reduceBEq, Int.reduceAdd, Int.reduceNeg, Int.reduceNegSucc, Int.reduceLT, Int.reduceLE, Int.reduceMul, Int.reduceTMod, Int.reduceSub, Int.reduceBNe, Bool.not_true, Bool.not_false, decide_true, decide_false, ne_eq, not_false_eq_true, Int.reduceEq, reduceCtorEq], t1, w1⟩
/-! ### the reference: a second word of a kind -/
theorem loop91 {s N : Nat} {P : Nat → Prop} {v : AV} {l : List Vt} (hP : ∀ x, P x → x < N) (hl : l.length ≤ 100000) : ∀ (n i m : Nat) (o : AV) (h : Hp), n < m → i + n = l.length → N ≤ h.nb → Wf h → Rws h P 3 v (l.map vR) → Rws h (fun x => N ≤ x) 3 o (((l.take i).flatMap (wid s)).map vR) →
    ∃ o' h', lp L91n0 m [v, .int 63 (s : Int), o, .int 63 (i : Int)] h = .exit 0 [o'] h' ∧ Rws h' (fun x => N ≤ x) 3 o' ((l.flatMap (wid s)).map vR) ∧ To (fun x => N ≤ x) h h' ∧ Wf h' := by
  intro n
  induction n with
  | zero =>
    intro i m o h hm hi hnb hw hv ho
    obtain ⟨m, rfl⟩ : ∃ k, m = k + 1 := ⟨m - 1, by omega⟩
    have ln := fun kk => vR_len hv kk
    have c1 : ¬ (i : Int) < (l.length : Int) := by omega
    rw [List.take_of_length_le (by omega)] at ho
    exact ⟨o, h, lpx m (by simp only [↓L91n0, ↓ln, c1, ↓SD, SA, Int.ofNat_eq_natCast, Int.cast_ofNat_Int, Int.reduceBEq, Int.reduceAdd, Int.reduceNeg, Int.reduceNegSucc, Int.reduceLT, Int.reduceLE, Int.reduceMul, Int.reduceTMod, Int.reduceSub, Int.reduceBNe, Bool.not_true, Bool.not_false, decide_true, decide_false, ne_eq, not_false_eq_true, Int.reduceEq, reduceCtorEq]), ho, To.refl _ _, hw⟩
  | succ n ih =>
    intro i m o h hm hi hnb hw hv ho
    obtain ⟨m, rfl⟩ : ∃ k, m = k + 1 := ⟨m - 1, by omega⟩
    have ln := fun kk => vR_len hv kk
    have c1 : (i : Int) < (l.length : Int) := by omega
    have hi' : i < l.length := by omega
    obtain ⟨b1, o1, x1, d1, a0, a1, a2⟩ := vR_pt hv i hi'
    have i1 := s1n i (by omega)
    have htk := wid_take s l i hi'
    have hlen : ((l.take i).flatMap (wid s)).length ≤ 200000 := by have := wid_len s (l.take i); simp at this ⊢; omega
    obtain ⟨p', h6, h7, g1, g2, g3, g4, g5⟩ := vR_app hw hnb ho l[i] hlen
    have hv7 : Rws h7 P 3 v (l.map vR) := hv.to g4 (fun x hx _ e => by have : N ≤ x := e; have := hP x hx; omega)
    obtain ⟨b2, o2, x2, d2, z0, z1, z2⟩ := vR_pt hv7 i hi'
    obtain ⟨rfl, rfl⟩ := ix_same x1 x2
    have nb7 := g4.nb
    by_cases c4 : l[i].k = 4
    · have k4 : ((l[i].k : Nat) : Int) = 4 := by omega
      have hw4 : wid s l[i] = [l[i], ⟨s, 0, 0, 0⟩] := by unfold wid; rw [if_pos c4]
      obtain ⟨h8, e8, t8, w8⟩ := t110 g5 s
      have nb8 := t8.nb
      have g3' := g3.to t8 (fun _ _ _ f => f)
      obtain ⟨o', h9, h10, g6, g7, g8, g9, g10⟩ := vR_app w8 (by omega) g3' ⟨s, 0, 0, 0⟩ (by have := wid_len s (l.take i); simp at this ⊢; omega)
      rw [List.append_assoc, List.singleton_append, ← hw4, htk] at g8
      have e : L91n0 [v, .int 63 (s : Int), o, .int 63 (i : Int)] h = .norm [v, .int 63 (s : Int), o', .int 63 ((i + 1 : Nat) : Int)] h10 := by
        simp only [↓L91n0, ↓ln, c1, ↓x1, ↓d1, ↓bldA, ↓g1, ↓g2, ↓x2, ↓cP_p, ↓z0, k4, ↓e8, ↓g6, ↓g7, i1, beq_self_eq_true, ↓SD, SA, Int.ofNat_eq_natCast, Int.cast_ofNat_Int, Int.reduceBEq, Int.reduceAdd, Int.reduceNeg, Int.reduceNegSucc, Int.reduceLT, Int.reduceLE, Int.reduceMul, Int.reduceTMod, Int.reduceSub, Int.reduceBNe, Bool.not_true, Bool.not_false, decide_true, decide_false, ne_eq, not_false_eq_true, Int.reduceEq, reduceCtorEq]
      rw [lpn m e]
      have ot : To (fun x => N ≤ x) h h10 := (g4.trans (t8.mono fun _ _ f => f.elim)).trans g9
      obtain ⟨o'', h11, f1, f2, f3, f4⟩ := ih (i + 1) m o' h10 (by omega) (by omega) (by have := ot.nb; omega) g10 (hv.to ot (fun x hx _ e => by have : N ≤ x := e; have := hP x hx; omega)) g8
      exact ⟨o'', h11, f1, f2, ot.trans f3, f4⟩
    · have k4 : (((l[i].k : Nat) : Int) == 4) = false := by have : ¬ ((l[i].k : Nat) : Int) = 4 := by omega
                                                            simpa using this
      have hw4 : wid s l[i] = [l[i]] := by unfold wid; rw [if_neg c4]
      rw [← hw4, htk] at g3
      have e : L91n0 [v, .int 63 (s : Int), o, .int 63 (i : Int)] h = .norm [v, .int 63 (s : Int), p', .int 63 ((i + 1 : Nat) : Int)] h7 := by
        simp only [↓L91n0, ↓ln, c1, ↓x1, ↓d1, ↓bldA, ↓g1, ↓g2, ↓x2, ↓cP_p, ↓z0, k4, i1, ↓SD, SA, Int.ofNat_eq_natCast, Int.cast_ofNat_Int, Int.reduceBEq, Int.reduceAdd, Int.reduceNeg, Int.reduceNegSucc, Int.reduceLT, Int.reduceLE, Int.reduceMul, Int.reduceTMod, Int.reduceSub, Int.reduceBNe, Bool.not_true, Bool.not_false, decide_true, decide_false, ne_eq, not_false_eq_true, Int.reduceEq, reduceCtorEq]
      rw [lpn m e]
      obtain ⟨o'', h11, f1, f2, f3, f4⟩ := ih (i + 1) m p' h7 (by omega) (by omega) (by omega) g5 hv7 g3
      exact ⟨o'', h11, f1, f2, g4.trans f3, f4⟩
theorem t91 {h : Hp} {P : Nat → Prop} {v : AV} {l : List Vt} (hv : Rws h P 3 v (l.map vR)) (hw : Wf h) (hl : l.length ≤ 100000) (s : Nat) :
    ∃ o h', s91 [v, .int 63 (s : Int)] h = .ret o h' ∧ Rws h' (fun x => h.nb ≤ x) 3 o ((l.flatMap (wid s)).map vR) ∧ To No h h' ∧ Wf h' := by
  have hv' : Rws h (fun x => x < h.nb) 3 v (l.map vR) := hv.mono fun x _ hlt => hlt
  obtain ⟨o, h', e1, r1, t1, w1⟩ := loop91 (s := s) (N := h.nb) (fun x hx => hx) hl l.length 0 most .nils h (by unfold most; omega) (by omega) (Nat.le_refl _) hw hv' (Rws.nil _ _ _)
  have e1 : lp L91n0 most [v, .int 63 (s : Int), .nils, .int 63 0] h = .exit 0 [o] h' := e1
  have ck := fun kk => r1.cK kk
  refine ⟨o, h', ?_, r1, t1.mono fun x hx e => (by have : h.nb ≤ x := e; omega), w1⟩
  simp only [↓s91, ↓e1, ↓ck, blk_x0, ↓SD, SA, Int.ofNat_eq_natCast, Int.cast_ofNat_Int, Int.reduceBEq, Int.reduceAdd, Int.reduceNeg, Int.reduceNegSucc, Int.reduceLT, Int.reduceLE, Int.reduceMul, Int.reduceTMod, Int.reduceSub, Int.reduceBNe, Bool.not_true, Bool.not_false, decide_true, decide_false, ne_eq, not_false_eq_true, Int.reduceEq, reduceCtorEq]
end Go.Proofs.Ytnpfppddongbhaa
end

section
namespace Go.Proofs.Ytnpfppddongbhaa
open Go Go.AM
set_option autoImplicit false
/-! ### a row's first part -/
theorem Rws.cut {h : Hp} {P : Nat → Prop} {n : Nat} {v : AV} {rs : List (List AV)} (hv : Rws h P n v rs) (k : Nat) (hk : k ≤ rs.length) :
    ∃ v', (∀ f : AV → Res, cutS n v none (some (.int 63 (k : Int))) none f = f v') ∧ Rws h P n v' (rs.take k) := by
  obtain ⟨h0, hv⟩ := hv
  have h0' : ∀ r ∈ rs.take k, r.length = n ∧ ∀ x ∈ r, AM.one x = true := fun r hr => h0 r (List.mem_of_mem_take hr)
  rcases hv with ⟨rfl, rfl⟩ | ⟨b, B, rfl, g1, g2, g3, g4, g5, g6⟩
  · obtain rfl : k = 0 := by simpa using hk
    exact ⟨.nils, fun f => rfl, h0', .inl ⟨rfl, rfl⟩⟩
  · refine ⟨.sl b 0 k n none, fun f => ?_, h0', .inr ⟨b, B, by rw [List.length_take, Nat.min_eq_left hk], g1, g2, g3, g4, ?_, fun i hi => ?_⟩⟩
    · have e : cutS n (.sl b 0 rs.length n none) none (some (.int 63 (k : Int))) none f = ifB (Nat.beq n n) (ifB (Nat.ble k rs.length) (ifB (Nat.ble 0 k) (ifB (Nat.beq 0 0) (f (.sl b 0 k n none)) .fail) .fail) .fail) .fail := rfl
      rw [e, (beq_iff n n).2 rfl, (ble_iff _ _).2 hk]; rfl
    · rw [List.length_take, Nat.min_eq_left hk]; exact Nat.le_trans (Nat.mul_le_mul_right n hk) g5
    · have hfl : rs.flatten = (rs.take k).flatten ++ (rs.drop k).flatten := by rw [← List.flatten_append, List.take_append_drop]
      have hi2 : i < rs.flatten.length := by rw [hfl, List.length_append]; omega
      rw [g6 i hi2]
      simp only [hfl]
      rw [List.getElem_append_left hi]
theorem vR_cut {h : Hp} {P : Nat → Prop} {v : AV} {l : List Vt} (hv : Rws h P 3 v (l.map vR)) (k : Nat) (hk : k ≤ l.length) :
    ∃ v', (∀ f : AV → Res, cutS 3 v none (some (.int 63 (k : Int))) none f = f v') ∧ Rws h P 3 v' ((l.take k).map vR) := by
  obtain ⟨v', e, r⟩ := Rws.cut hv k (by simpa using hk)
  exact ⟨v', e, by rw [List.map_take]; exact r⟩
/-! ### locals without what fills them -/
def strip (l : List Vt) : List Vt := (l.reverse.dropWhile fun v => v.k == 0).reverse
theorem strip_nil : strip [] = [] := rfl
theorem strip_top (l : List Vt) (x : Vt) (hx : x.k = 0) : strip (l ++ [x]) = strip l := by unfold strip; simp [hx]
theorem strip_not (l : List Vt) (x : Vt) (hx : x.k ≠ 0) : strip (l ++ [x]) = l ++ [x] := by unfold strip; simp [hx]
theorem strip_pre (l : List Vt) : ∃ r, l = strip l ++ r := by
  unfold strip
  refine ⟨(l.reverse.takeWhile fun v => v.k == 0).reverse, ?_⟩
  rw [← List.reverse_append, List.takeWhile_append_dropWhile, List.reverse_reverse]
theorem strip_take (l : List Vt) : l.take (strip l).length = strip l := by
  obtain ⟨r, hr⟩ := strip_pre l
  conv => lhs; arg 2; rw [hr]
  simp
theorem strip_le (l : List Vt) : (strip l).length ≤ l.length := by
  obtain ⟨r, hr⟩ := strip_pre l
  have := congrArg List.length hr
  rw [List.length_append] at this; omega
theorem s1m (n : Nat) (hn : n < 1000000) : wrapC 63 (((n + 1 : Nat) : Int) - 1) = (n : Int) := by rw [w63_in _ (by omega) (by omega)]; omega
theorem loop94 {h : Hp} {P : Nat → Prop} : ∀ (n m : Nat) (v : AV) (l : List Vt), l.length = n → n < m → n ≤ 100000 → Rws h P 3 v (l.map vR) →
    ∃ v', lp L94n0 m [v] h = .exit 0 [v'] h ∧ Rws h P 3 v' ((strip l).map vR) := by
  intro n
  induction n with
  | zero =>
    intro m v l hl hm hn hv
    obtain ⟨m, rfl⟩ : ∃ k, m = k + 1 := ⟨m - 1, by omega⟩
    obtain rfl : l = [] := List.length_eq_zero_iff.1 hl
    have ln := fun kk => vR_len hv kk
    have z : ((([] : List Vt).length : Nat) : Int) = 0 := rfl
    rw [z] at ln
    exact ⟨v, lpx m (by simp only [↓L94n0, ↓ln, ↓SD, SA, Int.ofNat_eq_natCast, Int.cast_ofNat_Int, Int.reduceBEq, Int.reduceAdd, Int.reduceNeg, Int.reduceNegSucc, Int.reduceLT, Int.reduceLE, Int.reduceMul, Int.reduceTMod, Int.reduceSub, Int.reduceBNe, Bool.not_true, Bool.not_false, decide_true, decide_false, ne_eq, not_false_eq_true, Int.reduceEq, reduceCtorEq]), hv⟩
  | succ n ih =>
    intro m v l hl hm hn hv
    obtain ⟨m, rfl⟩ : ∃ k, m = k + 1 := ⟨m - 1, by omega⟩
    have ln := fun kk => vR_len hv kk
    rw [hl] at ln
    have c0 : (0 : Int) < ((n + 1 : Nat) : Int) := by omega
    have i1 := s1m n (by omega)
    obtain ⟨b1, o1, x1, d1, a0, a1, a2⟩ := vR_pt hv n (by omega)
    have gv : gsel (.bool true) true v = v := rfl
    obtain ⟨v', e1, r1⟩ := vR_cut hv n (by omega)
    have hd : l.take n ++ [l[n]'(by omega)] = l := by rw [List.take_append_getElem (by omega), List.take_of_length_le (by omega)]
    by_cases ck : (l[n]'(by omega)).k = 0
    · have k0 : (((l[n]'(by omega)).k : Nat) : Int) = 0 := by omega
      have e : L94n0 [v] h = .norm [v'] h := by
        simp only [↓L94n0, ↓ln, c0, ↓gv, i1, ↓x1, ↓cP_p, ↓a0, k0, ↓e1, beq_self_eq_true, ↓SD, SA, Int.ofNat_eq_natCast, Int.cast_ofNat_Int, Int.reduceBEq, Int.reduceAdd, Int.reduceNeg, Int.reduceNegSucc, Int.reduceLT, Int.reduceLE, Int.reduceMul, Int.reduceTMod, Int.reduceSub, Int.reduceBNe, Bool.not_true, Bool.not_false, decide_true, decide_false, ne_eq, not_false_eq_true, Int.reduceEq, reduceCtorEq]
      obtain ⟨v'', f1, f2⟩ := ih m v' (l.take n) (by simp; omega) (by omega) (by omega) r1
      refine ⟨v'', by rw [lpn m e]; exact f1, ?_⟩
      rw [← strip_top (l.take n) _ ck, hd] at f2
      exact f2
    · have k0 : ((((l[n]'(by omega)).k : Nat) : Int) == 0) = false := by
        have : ¬ (((l[n]'(by omega)).k : Nat) : Int) = 0 := by omega
        simpa using this
      refine ⟨v, lpx m (by simp only [↓L94n0, ↓ln, c0, ↓gv, i1, ↓x1, ↓cP_p, ↓a0, k0, ↓SD, SA, Int.ofNat_eq_natCast, Int.cast_ofNat_Int, Int.reduceBEq, Int.reduceAdd, Int.reduceNeg, Int.reduceNegSucc, Int.reduceLT, Int.reduceLE, Int.reduceMul, Int.reduceTMod, Int.reduceSub, Int.reduceBNe, Bool.not_true, Bool.not_false, decide_true, decide_false, ne_eq, not_false_eq_true, Int.reduceEq, reduceCtorEq]), ?_⟩
      have := strip_not (l.take n) _ ck
      rw [hd] at this
      rw [this]; exact hv
theorem t94 {h : Hp} {P : Nat → Prop} {v : AV} {l : List Vt} (hv : Rws h P 3 v (l.map vR)) (hl : l.length ≤ 100000) :
    ∃ v', s94 [v] h = .ret v' h ∧ Rws h P 3 v' ((strip l).map vR) := by
  obtain ⟨v', e, r⟩ := loop94 l.length most v l rfl (by unfold most; omega) hl hv
  have ck := fun kk => r.cK kk
  exact ⟨v', by simp only [↓s94, ↓e, ↓ck, blk_x0, ↓SD, SA, Int.ofNat_eq_natCast, Int.cast_ofNat_Int, Int.reduceBEq, Int.reduceAdd, Int.reduceNeg, Int.reduceNegSucc, Int.reduceLT, Int.reduceLE, Int.reduceMul, Int.reduceTMod, Int.reduceSub, Int.reduceBNe, Bool.not_true, Bool.not_false, decide_true, decide_false, ne_eq, not_false_eq_true, Int.reduceEq, reduceCtorEq], r⟩
end Go.Proofs.Ytnpfppddongbhaa
end

section
namespace Go.Proofs.Ytnpfppddongbhaa
open Go Go.AM
set_option autoImplicit false
/-! ### without the word behind each long -/
def tgt : List Vt → List Vt
  | [] => []
  | [v] => [v]
  | v :: w :: r => if v.k = 4 then v :: tgt r else v :: tgt (w :: r)
theorem tgt_cons (v : Vt) (l : List Vt) : tgt (v :: l) = v :: (if v.k = 4 then tgt (l.drop 1) else tgt l) := by
  cases l with
  | nil => unfold tgt; simp [tgt]
  | cons w r => conv => lhs; unfold tgt
                split <;> simp_all
theorem tgt_len : ∀ (n : Nat) (l : List Vt), l.length ≤ n → (tgt l).length ≤ l.length := by
  intro n
  induction n with
  | zero => intro l hl; obtain rfl : l = [] := List.length_eq_zero_iff.1 (by omega); simp [tgt]
  | succ n ih =>
    intro l hl
    cases l with
    | nil => simp [tgt]
    | cons v l =>
      rw [tgt_cons]
      simp only [List.length_cons] at hl ⊢
      split
      · have := ih (l.drop 1) (by rw [List.length_drop]; omega)
        rw [List.length_drop] at this; omega
      · have := ih l (by omega); omega
theorem drop_at (l : List Vt) (i : Nat) (hi : i < l.length) : l.drop i = l[i] :: l.drop (i + 1) := List.drop_eq_getElem_cons hi
theorem loop93 {N : Nat} {P : Nat → Prop} {v : AV} {l : List Vt} (hP : ∀ x, P x → x < N) (hl : l.length ≤ 100000) : ∀ (d i m : Nat) (o : AV) (dn : List Vt) (h : Hp), l.length - i ≤ d → d < m → i ≤ l.length + 1 → dn.length ≤ i → N ≤ h.nb → Wf h → Rws h P 3 v (l.map vR) → Rws h (fun x => N ≤ x) 3 o (dn.map vR) →
    ∃ o' h', lp L93n0 m [v, o, .int 63 (i : Int)] h = .exit 0 [o'] h' ∧ Rws h' (fun x => N ≤ x) 3 o' ((dn ++ tgt (l.drop i)).map vR) ∧ To (fun x => N ≤ x) h h' ∧ Wf h' := by
  intro d
  induction d with
  | zero =>
    intro i m o dn h hd hm hi hdn hnb hw hv ho
    obtain ⟨m, rfl⟩ : ∃ k, m = k + 1 := ⟨m - 1, by omega⟩
    have ln := fun kk => vR_len hv kk
    have c1 : ¬ (i : Int) < (l.length : Int) := by omega
    rw [List.drop_eq_nil_of_le (by omega), tgt, List.append_nil]
    exact ⟨o, h, lpx m (by simp only [↓L93n0, ↓ln, c1, ↓SD, SA, Int.ofNat_eq_natCast, Int.cast_ofNat_Int, Int.reduceBEq, Int.reduceAdd, Int.reduceNeg, Int.reduceNegSucc, Int.reduceLT, Int.reduceLE, Int.reduceMul, Int.reduceTMod, Int.reduceSub, Int.reduceBNe, Bool.not_true, Bool.not_false, decide_true, decide_false, ne_eq, not_false_eq_true, Int.reduceEq, reduceCtorEq]), ho, To.refl _ _, hw⟩
  | succ d ih =>
    intro i m o dn h hd hm hi hdn hnb hw hv ho
    obtain ⟨m, rfl⟩ : ∃ k, m = k + 1 := ⟨m - 1, by omega⟩
    have ln := fun kk => vR_len hv kk
    by_cases hi' : i < l.length
    · have c1 : (i : Int) < (l.length : Int) := by omega
      obtain ⟨b1, o1, x1, d1, a0, a1, a2⟩ := vR_pt hv i hi'
      have i1 := s1n i (by omega)
      have i2 := s1n (i + 1) (by omega)
      obtain ⟨p', h6, h7, g1, g2, g3, g4, g5⟩ := vR_app hw hnb ho l[i] (by omega)
      have hv7 : Rws h7 P 3 v (l.map vR) := hv.to g4 (fun x hx _ e => by have : N ≤ x := e; have := hP x hx; omega)
      obtain ⟨b2, o2, x2, d2, z0, z1, z2⟩ := vR_pt hv7 i hi'
      obtain ⟨rfl, rfl⟩ := ix_same x1 x2
      have nb7 := g4.nb
      have hdr := drop_at l i hi'
      by_cases c4 : l[i].k = 4
      · have k4 : ((l[i].k : Nat) : Int) = 4 := by omega
        have e : L93n0 [v, o, .int 63 (i : Int)] h = .norm [v, p', .int 63 ((i + 1 + 1 : Nat) : Int)] h7 := by
          simp only [↓L93n0, ↓ln, c1, ↓x1, ↓d1, ↓bldA, ↓g1, ↓g2, ↓cP_p, ↓z0, k4, i1, i2, beq_self_eq_true, ↓SD, SA, Int.ofNat_eq_natCast, Int.cast_ofNat_Int, Int.reduceBEq, Int.reduceAdd, Int.reduceNeg, Int.reduceNegSucc, Int.reduceLT, Int.reduceLE, Int.reduceMul, Int.reduceTMod, Int.reduceSub, Int.reduceBNe, Bool.not_true, Bool.not_false, decide_true, decide_false, ne_eq, not_false_eq_true, Int.reduceEq, reduceCtorEq]
        rw [lpn m e]
        obtain ⟨o'', h11, f1, f2, f3, f4⟩ := ih (i + 1 + 1) m p' (dn ++ [l[i]]) h7 (by omega) (by omega) (by omega) (by simp; omega) (by omega) g5 hv7 g3
        refine ⟨o'', h11, f1, ?_, g4.trans f3, f4⟩
        rw [hdr, tgt_cons, if_pos c4, List.drop_drop]
        rw [List.append_assoc, List.singleton_append] at f2
        exact f2
      · have k4 : (((l[i].k : Nat) : Int) == 4) = false := by have : ¬ ((l[i].k : Nat) : Int) = 4 := by omega
                                                              simpa using this
        have e : L93n0 [v, o, .int 63 (i : Int)] h = .norm [v, p', .int 63 ((i + 1 : Nat) : Int)] h7 := by
          simp only [↓L93n0, ↓ln, c1, ↓x1, ↓d1, ↓bldA, ↓g1, ↓g2, ↓cP_p, ↓z0, k4, i1, ↓SD, SA, Int.ofNat_eq_natCast, Int.cast_ofNat_Int, Int.reduceBEq, Int.reduceAdd, Int.reduceNeg, Int.reduceNegSucc, Int.reduceLT, Int.reduceLE, Int.reduceMul, Int.reduceTMod, Int.reduceSub, Int.reduceBNe, Bool.not_true, Bool.not_false, decide_true, decide_false, ne_eq, not_false_eq_true, Int.reduceEq, reduceCtorEq]
        rw [lpn m e]
        obtain ⟨o'', h11, f1, f2, f3, f4⟩ := ih (i + 1) m p' (dn ++ [l[i]]) h7 (by omega) (by omega) (by omega) (by simp; omega) (by omega) g5 hv7 g3
        refine ⟨o'', h11, f1, ?_, g4.trans f3, f4⟩
        rw [hdr, tgt_cons, if_neg c4]
        rw [List.append_assoc, List.singleton_append] at f2
        exact f2
    · have c1 : ¬ (i : Int) < (l.length : Int) := by omega
      rw [List.drop_eq_nil_of_le (by omega), tgt, List.append_nil]
      exact ⟨o, h, lpx m (by simp only [↓L93n0, ↓ln, c1, ↓SD, SA, Int.ofNat_eq_natCast, Int.cast_ofNat_Int, Int.reduceBEq, Int.reduceAdd, Int.reduceNeg, Int.reduceNegSucc, Int.reduceLT, Int.reduceLE, Int.reduceMul, Int.reduceTMod, Int.reduceSub, Int.reduceBNe, Bool.not_true, Bool.not_false, decide_true, decide_false, ne_eq, not_false_eq_true, Int.reduceEq, reduceCtorEq]), ho, To.refl _ _, hw⟩
theorem t93 {h : Hp} {P : Nat → Prop} {v : AV} {l : List Vt} (hv : Rws h P 3 v (l.map vR)) (hw : Wf h) (hl : l.length ≤ 100000) :
    ∃ o h', s93 [v] h = .ret o h' ∧ Rws h' (fun x => h.nb ≤ x) 3 o ((tgt l).map vR) ∧ To No h h' ∧ Wf h' := by
  have hv' : Rws h (fun x => x < h.nb) 3 v (l.map vR) := hv.mono fun x _ hlt => hlt
  obtain ⟨o, h', e1, r1, t1, w1⟩ := loop93 (N := h.nb) (fun x hx => hx) hl l.length 0 most .nils [] h (by omega) (by unfold most; omega) (by omega) (Nat.le_refl _) (Nat.le_refl _) hw hv' (Rws.nil _ _ _)
  have e1 : lp L93n0 most [v, .nils, .int 63 0] h = .exit 0 [o] h' := e1
  have ck := fun kk => r1.cK kk
  refine ⟨o, h', ?_, by rw [List.nil_append, List.drop_zero] at r1; exact r1, t1.mono fun x hx e => (by have : h.nb ≤ x := e; omega), w1⟩
  simp only [↓s93, ↓e1, ↓ck, blk_x0, ↓SD, SA, Int.ofNat_eq_natCast, Int.cast_ofNat_Int, Int.reduceBEq, Int.reduceAdd, Int.reduceNeg, Int.reduceNegSucc, Int.reduceLT, Int.reduceLE, Int.reduceMul, Int.reduceTMod, Int.reduceSub, Int.reduceBNe, Bool.not_true, Bool.not_false, decide_true, decide_false, ne_eq, not_false_eq_true, Int.reduceEq, reduceCtorEq]
/-! ### the reference: cut -/
theorem loop89 {N : Nat} {P : Nat → Prop} {v : AV} {l : List Vt} (hP : ∀ x, P x → x < N) (hl : l.length ≤ 100000) : ∀ (d i m : Nat) (o : AV) (dn : List Vt) (h : Hp), l.length - i ≤ d → d < m → i ≤ l.length + 1 → dn.length ≤ i → N ≤ h.nb → Wf h → Rws h P 3 v (l.map vR) → Rws h (fun x => N ≤ x) 3 o (dn.map vR) →
    ∃ o' h', lp L89n0 m [v, o, .int 63 (i : Int)] h = .exit 0 [o'] h' ∧ Rws h' (fun x => N ≤ x) 3 o' ((dn ++ tgt (l.drop i)).map vR) ∧ To (fun x => N ≤ x) h h' ∧ Wf h' := by
  intro d
  induction d with
  | zero =>
    intro i m o dn h hd hm hi hdn hnb hw hv ho
    obtain ⟨m, rfl⟩ : ∃ k, m = k + 1 := ⟨m - 1, by omega⟩
    have ln := fun kk => vR_len hv kk
    have c1 : ¬ (i : Int) < (l.length : Int) := by omega
    rw [List.drop_eq_nil_of_le (by omega), tgt, List.append_nil]
    exact ⟨o, h, lpx m (by simp only [↓L89n0, ↓ln, c1, ↓SD, SA, Int.ofNat_eq_natCast, Int.cast_ofNat_Int, Int.reduceBEq, Int.reduceAdd, Int.reduceNeg, Int.reduceNegSucc, Int.reduceLT, Int.reduceLE, Int.reduceMul, Int.reduceTMod, Int.reduceSub, Int.reduceBNe, Bool.not_true, Bool.not_false, decide_true, decide_false, ne_eq, not_false_eq_true, Int.reduceEq, reduceCtorEq]), ho, To.refl _ _, hw⟩
  | succ d ih =>
    intro i m o dn h hd hm hi hdn hnb hw hv ho
    obtain ⟨m, rfl⟩ : ∃ k, m = k + 1 := ⟨m - 1, by omega⟩
    have ln := fun kk => vR_len hv kk
    by_cases hi' : i < l.length
    · have c1 : (i : Int) < (l.length : Int) := by omega
      obtain ⟨b1, o1, x1, d1, a0, a1, a2⟩ := vR_pt hv i hi'
      have i1 := s1n i (by omega)
      have i2 := s1n (i + 1) (by omega)
      obtain ⟨p', h6, h7, g1, g2, g3, g4, g5⟩ := vR_app hw hnb ho l[i] (by omega)
      have hv7 : Rws h7 P 3 v (l.map vR) := hv.to g4 (fun x hx _ e => by have : N ≤ x := e; have := hP x hx; omega)
      obtain ⟨b2, o2, x2, d2, z0, z1, z2⟩ := vR_pt hv7 i hi'
      obtain ⟨rfl, rfl⟩ := ix_same x1 x2
      have nb7 := g4.nb
      have hdr := drop_at l i hi'
      have gi : gsel (.bool true) true (.int 63 (i : Int)) = .int 63 (i : Int) := rfl
      have gv : gsel (.bool true) true v = v := rfl
      by_cases c4 : l[i].k = 4
      · have k4 : ((l[i].k : Nat) : Int) = 4 := by omega
        by_cases c5 : i + 1 < l.length
        · have j5 : ((i + 1 : Nat) : Int) < (l.length : Int) := by omega
          have e : L89n0 [v, o, .int 63 (i : Int)] h = .norm [v, p', .int 63 ((i + 1 + 1 : Nat) : Int)] h7 := by
            simp only [↓L89n0, ↓ln, c1, ↓x1, ↓d1, ↓bldA, ↓g1, ↓g2, ↓cP_p, ↓z0, k4, ↓gi, ↓gv, i1, j5, i2, beq_self_eq_true, ↓SD, SA, Int.ofNat_eq_natCast, Int.cast_ofNat_Int, Int.reduceBEq, Int.reduceAdd, Int.reduceNeg, Int.reduceNegSucc, Int.reduceLT, Int.reduceLE, Int.reduceMul, Int.reduceTMod, Int.reduceSub, Int.reduceBNe, Bool.not_true, Bool.not_false, decide_true, decide_false, ne_eq, not_false_eq_true, Int.reduceEq, reduceCtorEq]
          rw [lpn m e]
          obtain ⟨o'', h11, f1, f2, f3, f4⟩ := ih (i + 1 + 1) m p' (dn ++ [l[i]]) h7 (by omega) (by omega) (by omega) (by simp; omega) (by omega) g5 hv7 g3
          refine ⟨o'', h11, f1, ?_, g4.trans f3, f4⟩
          rw [hdr, tgt_cons, if_pos c4, List.drop_drop]
          rw [List.append_assoc, List.singleton_append] at f2
          exact f2
        · have j5 : ¬ ((i + 1 : Nat) : Int) < (l.length : Int) := by omega
          have e : L89n0 [v, o, .int 63 (i : Int)] h = .norm [v, p', .int 63 ((i + 1 : Nat) : Int)] h7 := by
            simp only [↓L89n0, ↓ln, c1, ↓x1, ↓d1, ↓bldA, ↓g1, ↓g2, ↓cP_p, ↓z0, k4, ↓gi, ↓gv, i1, j5, beq_self_eq_true, ↓SD, SA, Int.ofNat_eq_natCast, Int.cast_ofNat_Int, Int.reduceBEq, Int.reduceAdd, Int.reduceNeg, Int.reduceNegSucc, Int.reduceLT, Int.reduceLE, Int.reduceMul, Int.reduceTMod, Int.reduceSub, Int.reduceBNe, Bool.not_true, Bool.not_false, decide_true, decide_false, ne_eq, not_false_eq_true, Int.reduceEq, reduceCtorEq]
          rw [lpn m e]
          obtain ⟨o'', h11, f1, f2, f3, f4⟩ := ih (i + 1) m p' (dn ++ [l[i]]) h7 (by omega) (by omega) (by omega) (by simp; omega) (by omega) g5 hv7 g3
          refine ⟨o'', h11, f1, ?_, g4.trans f3, f4⟩
          rw [hdr, tgt_cons, if_pos c4, List.drop_drop, List.drop_eq_nil_of_le (show l.length ≤ i + 1 + 1 by omega)]
          rw [List.append_assoc, List.singleton_append, List.drop_eq_nil_of_le (show l.length ≤ i + 1 by omega)] at f2
          exact f2
      · have k4 : (((l[i].k : Nat) : Int) == 4) = false := by have : ¬ ((l[i].k : Nat) : Int) = 4 := by omega
                                                              simpa using this
        have e : L89n0 [v, o, .int 63 (i : Int)] h = .norm [v, p', .int 63 ((i + 1 : Nat) : Int)] h7 := by
          simp only [↓L89n0, ↓ln, c1, ↓x1, ↓d1, ↓bldA, ↓g1, ↓g2, ↓cP_p, ↓z0, k4, i1, ↓SD, SA, Int.ofNat_eq_natCast, Int.cast_ofNat_Int, Int.reduceBEq, Int.reduceAdd, Int.reduceNeg, Int.reduceNegSucc, Int.reduceLT, Int.reduceLE, Int.reduceMul, Int.reduceTMod, Int.reduceSub, Int.reduceBNe, Bool.not_true, Bool.not_false, decide_true, decide_false, ne_eq, not_false_eq_true, Int.reduceEq, reduceCtorEq]
        rw [lpn m e]
        obtain ⟨o'', h11, f1, f2, f3, f4⟩ := ih (i + 1) m p' (dn ++ [l[i]]) h7 (by omega) (by omega) (by omega) (by simp; omega) (by omega) g5 hv7 g3
        refine ⟨o'', h11, f1, ?_, g4.trans f3, f4⟩
        rw [hdr, tgt_cons, if_neg c4]
        rw [List.append_assoc, List.singleton_append] at f2
        exact f2
    · have c1 : ¬ (i : Int) < (l.length : Int) := by omega
      rw [List.drop_eq_nil_of_le (by omega), tgt, List.append_nil]
      exact ⟨o, h, lpx m (by simp only [↓L89n0, ↓ln, c1, ↓SD, SA, Int.ofNat_eq_natCast, Int.cast_ofNat_Int, Int.reduceBEq, Int.reduceAdd, Int.reduceNeg, Int.reduceNegSucc, Int.reduceLT, Int.reduceLE, Int.reduceMul, Int.reduceTMod, Int.reduceSub, Int.reduceBNe, Bool.not_true, Bool.not_false, decide_true, decide_false, ne_eq, not_false_eq_true, Int.reduceEq, reduceCtorEq]), ho, To.refl _ _, hw⟩
theorem loop89b {h : Hp} {P : Nat → Prop} {v : AV} {l : List Vt} (hv : Rws h P 3 v (l.map vR)) (hl : l.length ≤ 100000) : ∀ (n m : Nat), n ≤ l.length → n < m →
    lp L89n1 m [v, .int 63 (n : Int)] h = .exit 2 [v, .int 63 ((strip (l.take n)).length : Int)] h := by
  intro n
  induction n with
  | zero =>
    intro m hn hm
    obtain ⟨m, rfl⟩ : ∃ k, m = k + 1 := ⟨m - 1, by omega⟩
    have z : ((0 : Nat) : Int) = 0 := rfl
    have z2 : (((strip (l.take 0)).length : Nat) : Int) = 0 := by rw [List.take_zero]; rfl
    exact lpx m (by rw [z2]; simp only [↓L89n1, z, ↓SD, SA, Int.ofNat_eq_natCast, Int.cast_ofNat_Int, Int.reduceBEq, Int.reduceAdd, Int.reduceNeg, Int.reduceNegSucc, Int.reduceLT, Int.reduceLE, Int.reduceMul, Int.reduceTMod, Int.reduceSub, Int.reduceBNe, Bool.not_true, Bool.not_false, decide_true, decide_false, ne_eq, not_false_eq_true, Int.reduceEq, reduceCtorEq])
  | succ n ih =>
    intro m hn hm
    obtain ⟨m, rfl⟩ : ∃ k, m = k + 1 := ⟨m - 1, by omega⟩
    have c0 : (0 : Int) < ((n + 1 : Nat) : Int) := by omega
    have i1 := s1m n (by omega)
    obtain ⟨b1, o1, x1, d1, a0, a1, a2⟩ := vR_pt hv n (by omega)
    have gv : gsel (.bool true) true v = v := rfl
    have gi : gsel (.bool true) true (.int 63 ((n + 1 : Nat) : Int)) = .int 63 ((n + 1 : Nat) : Int) := rfl
    have hd : l.take (n + 1) = l.take n ++ [l[n]'(by omega)] := (List.take_append_getElem (by omega)).symm
    by_cases ck : (l[n]'(by omega)).k = 0
    · have k0 : (((l[n]'(by omega)).k : Nat) : Int) = 0 := by omega
      have e : L89n1 [v, .int 63 ((n + 1 : Nat) : Int)] h = .norm [v, .int 63 (n : Int)] h := by
        simp only [↓L89n1, c0, ↓gv, ↓gi, i1, ↓x1, ↓cP_p, ↓a0, k0, beq_self_eq_true, ↓SD, SA, Int.ofNat_eq_natCast, Int.cast_ofNat_Int, Int.reduceBEq, Int.reduceAdd, Int.reduceNeg, Int.reduceNegSucc, Int.reduceLT, Int.reduceLE, Int.reduceMul, Int.reduceTMod, Int.reduceSub, Int.reduceBNe, Bool.not_true, Bool.not_false, decide_true, decide_false, ne_eq, not_false_eq_true, Int.reduceEq, reduceCtorEq]
      rw [lpn m e, hd, strip_top _ _ ck]
      exact ih m (by omega) (by omega)
    · have k0 : ((((l[n]'(by omega)).k : Nat) : Int) == 0) = false := by
        have : ¬ (((l[n]'(by omega)).k : Nat) : Int) = 0 := by omega
        simpa using this
      have hln : (((strip (l.take (n + 1))).length : Nat) : Int) = ((n + 1 : Nat) : Int) := by rw [hd, strip_not _ _ ck]; simp; omega
      exact lpx m (by rw [hln]; simp only [↓L89n1, c0, ↓gv, ↓gi, i1, ↓x1, ↓cP_p, ↓a0, k0, ↓SD, SA, Int.ofNat_eq_natCast, Int.cast_ofNat_Int, Int.reduceBEq, Int.reduceAdd, Int.reduceNeg, Int.reduceNegSucc, Int.reduceLT, Int.reduceLE, Int.reduceMul, Int.reduceTMod, Int.reduceSub, Int.reduceBNe, Bool.not_true, Bool.not_false, decide_true, decide_false, ne_eq, not_false_eq_true, Int.reduceEq, reduceCtorEq])
theorem blk_x2 {vs : List AV} {h : Hp} (k : List AV → Hp → Res) : blk 2 (.exit 2 vs h) k = k vs h := of_eq_true (eq_self _)
theorem t89 {h : Hp} {P : Nat → Prop} {v : AV} {l : List Vt} (hv : Rws h P 3 v (l.map vR)) (hw : Wf h) (hl : l.length ≤ 100000) :
    ∃ o h', s89 [v] h = .ret o h' ∧ Rws h' (fun x => h.nb ≤ x) 3 o ((strip (tgt l)).map vR) ∧ To No h h' ∧ Wf h' := by
  have hv' : Rws h (fun x => x < h.nb) 3 v (l.map vR) := hv.mono fun x _ hlt => hlt
  obtain ⟨o, h', e1, r1, t1, w1⟩ := loop89 (N := h.nb) (fun x hx => hx) hl l.length 0 most .nils [] h (by omega) (by unfold most; omega) (by omega) (Nat.le_refl _) (Nat.le_refl _) hw hv' (Rws.nil _ _ _)
  rw [List.nil_append, List.drop_zero] at r1
  have e1 : lp L89n0 most [v, .nils, .int 63 0] h = .exit 0 [o] h' := e1
  have htl := tgt_len l.length l (Nat.le_refl _)
  have ln := fun kk => vR_len r1 kk
  have e2 := loop89b r1 (by omega) (tgt l).length most (Nat.le_refl _) (by unfold most; omega)
  rw [List.take_length] at e2
  obtain ⟨o2, e3, r3⟩ := vR_cut r1 (strip (tgt l)).length (strip_le _)
  rw [strip_take] at r3
  have ck := fun kk => r3.cK kk
  refine ⟨o2, h', ?_, r3, t1.mono fun x hx e => (by have : h.nb ≤ x := e; omega), w1⟩
  simp only [↓s89, ↓e1, ↓ln, ↓e2, ↓e3, ↓ck, blk_x0, blk_x2, ↓SD, SA, Int.ofNat_eq_natCast, Int.cast_ofNat_Int, Int.reduceBEq, Int.reduceAdd, Int.reduceNeg, Int.reduceNegSucc, Int.reduceLT, Int.reduceLE, Int.reduceMul, Int.reduceTMod, Int.reduceSub, Int.reduceBNe, Bool.not_true, Bool.not_false, decide_true, decide_false, ne_eq, not_false_eq_true, Int.reduceEq, reduceCtorEq]
end Go.Proofs.Ytnpfppddongbhaa
end

section
namespace Go.Proofs.Ytnpfppddongbhaa
open Go Go.AM
set_option autoImplicit false
/-! ### operands as entries -/
def nar (l : List Vt) : List Vt := l.filter fun v => !(v.k == 99)
theorem nar_take (l : List Vt) (i : Nat) (hi : i < l.length) : nar (l.take (i + 1)) = nar (l.take i) ++ nar [l[i]] := by
  unfold nar; rw [← List.filter_append, List.take_append_getElem hi]
theorem nar_len (l : List Vt) : (nar l).length ≤ l.length := List.length_filter_le _ _
theorem loop67 {N : Nat} {P : Nat → Prop} {v : AV} {l : List Vt} (hP : ∀ x, P x → x < N) (hl : l.length ≤ 200000) : ∀ (n i m : Nat) (o : AV) (h : Hp), n < m → i + n = l.length → N ≤ h.nb → Wf h → Rws h P 3 v (l.map vR) → Rws h (fun x => N ≤ x) 3 o ((nar (l.take i)).map vR) →
    ∃ o' h', lp L67n0 m [v, o, .int 63 (i : Int)] h = .exit 0 [o'] h' ∧ Rws h' (fun x => N ≤ x) 3 o' ((nar l).map vR) ∧ To (fun x => N ≤ x) h h' ∧ Wf h' := by
  intro n
  induction n with
  | zero =>
    intro i m o h hm hi hnb hw hv ho
    obtain ⟨m, rfl⟩ : ∃ k, m = k + 1 := ⟨m - 1, by omega⟩
    have ln := fun kk => vR_len hv kk
    have c1 : ¬ (i : Int) < (l.length : Int) := by omega
    rw [List.take_of_length_le (by omega)] at ho
    exact ⟨o, h, lpx m (by simp only [↓L67n0, ↓ln, c1, ↓SD, SA, Int.ofNat_eq_natCast, Int.cast_ofNat_Int, Int.reduceBEq, Int.reduceAdd, Int.reduceNeg, Int.reduceNegSucc, Int.reduceLT, Int.reduceLE, Int.reduceMul, Int.reduceTMod, Int.reduceSub, Int.reduceBNe, Bool.not_true, Bool.not_false, decide_true, decide_false, ne_eq, not_false_eq_true, Int.reduceEq, reduceCtorEq]), ho, To.refl _ _, hw⟩
  | succ n ih =>
    intro i m o h hm hi hnb hw hv ho
    obtain ⟨m, rfl⟩ : ∃ k, m = k + 1 := ⟨m - 1, by omega⟩
    have ln := fun kk => vR_len hv kk
    have c1 : (i : Int) < (l.length : Int) := by omega
    have hi' : i < l.length := by omega
    obtain ⟨b1, o1, x1, d1, a0, a1, a2⟩ := vR_pt hv i hi'
    have i1 := s1n i (by omega)
    have hnt := nar_take l i hi'
    have hlen : (nar (l.take i)).length ≤ 200000 := by have := nar_len (l.take i); simp at this ⊢; omega
    by_cases c9 : l[i].k = 99
    · have k9 : ((l[i].k : Nat) : Int) = 99 := by omega
      have hn9 : nar [l[i]] = [] := by unfold nar; simp [c9]
      rw [hn9, List.append_nil] at hnt
      have e : L67n0 [v, o, .int 63 (i : Int)] h = .norm [v, o, .int 63 ((i + 1 : Nat) : Int)] h := by
        simp only [↓L67n0, ↓ln, c1, ↓x1, ↓cP_p, ↓a0, k9, i1, beq_self_eq_true, ↓SD, SA, Int.ofNat_eq_natCast, Int.cast_ofNat_Int, Int.reduceBEq, Int.reduceAdd, Int.reduceNeg, Int.reduceNegSucc, Int.reduceLT, Int.reduceLE, Int.reduceMul, Int.reduceTMod, Int.reduceSub, Int.reduceBNe, Bool.not_true, Bool.not_false, decide_true, decide_false, ne_eq, not_false_eq_true, Int.reduceEq, reduceCtorEq]
      rw [lpn m e]
      exact ih (i + 1) m o h (by omega) (by omega) hnb hw hv (by rw [hnt]; exact ho)
    · have k9 : (((l[i].k : Nat) : Int) == 99) = false := by
        have : ¬ ((l[i].k : Nat) : Int) = 99 := by omega
        simpa using this
      have hn9 : nar [l[i]] = [l[i]] := by unfold nar; simp [c9]
      obtain ⟨p', h6, h7, g1, g2, g3, g4, g5⟩ := vR_app hw hnb ho l[i] hlen
      rw [← hn9, ← hnt] at g3
      have nb7 := g4.nb
      have e : L67n0 [v, o, .int 63 (i : Int)] h = .norm [v, p', .int 63 ((i + 1 : Nat) : Int)] h7 := by
        simp only [↓L67n0, ↓ln, c1, ↓x1, ↓cP_p, ↓a0, k9, ↓d1, ↓bldA, ↓g1, ↓g2, i1, ↓SD, SA, Int.ofNat_eq_natCast, Int.cast_ofNat_Int, Int.reduceBEq, Int.reduceAdd, Int.reduceNeg, Int.reduceNegSucc, Int.reduceLT, Int.reduceLE, Int.reduceMul, Int.reduceTMod, Int.reduceSub, Int.reduceBNe, Bool.not_true, Bool.not_false, decide_true, decide_false, ne_eq, not_false_eq_true, Int.reduceEq, reduceCtorEq]
      rw [lpn m e]
      obtain ⟨o'', h11, f1, f2, f3, f4⟩ := ih (i + 1) m p' h7 (by omega) (by omega) (by omega) g5 (hv.to g4 (fun x hx _ e => by have : N ≤ x := e; have := hP x hx; omega)) g3
      exact ⟨o'', h11, f1, f2, g4.trans f3, f4⟩
theorem t67 {h : Hp} {P : Nat → Prop} {v : AV} {l : List Vt} (hv : Rws h P 3 v (l.map vR)) (hw : Wf h) (hl : l.length ≤ 200000) :
    ∃ o h', s67 [v] h = .ret o h' ∧ Rws h' (fun x => h.nb ≤ x) 3 o ((nar l).map vR) ∧ To No h h' ∧ Wf h' := by
  have hv' : Rws h (fun x => x < h.nb) 3 v (l.map vR) := hv.mono fun x _ hlt => hlt
  obtain ⟨o, h', e1, r1, t1, w1⟩ := loop67 (N := h.nb) (fun x hx => hx) hl l.length 0 most .nils h (by unfold most; omega) (by omega) (Nat.le_refl _) hw hv' (Rws.nil _ _ _)
  have e1 : lp L67n0 most [v, .nils, .int 63 0] h = .exit 0 [o] h' := e1
  have ck := fun kk => r1.cK kk
  refine ⟨o, h', ?_, r1, t1.mono fun x hx e => (by have : h.nb ≤ x := e; omega), w1⟩
  simp only [↓s67, ↓e1, ↓ck, blk_x0, ↓SD, SA, Int.ofNat_eq_natCast, Int.cast_ofNat_Int, Int.reduceBEq, Int.reduceAdd, Int.reduceNeg, Int.reduceNegSucc, Int.reduceLT, Int.reduceLE, Int.reduceMul, Int.reduceTMod, Int.reduceSub, Int.reduceBNe, Bool.not_true, Bool.not_false, decide_true, decide_false, ne_eq, not_false_eq_true, Int.reduceEq, reduceCtorEq]
/-- Of operands whose kinds are no halves the entries are they themselves. -/
theorem nar_wid (l : List Vt) (hl : ∀ v ∈ l, v.k ≠ 99) : nar (l.flatMap (wid 99)) = l := by
  induction l with
  | nil => rfl
  | cons v l ih =>
    have h1 := hl v List.mem_cons_self
    have ih := ih (fun w hw => hl w (List.mem_cons_of_mem _ hw))
    unfold nar at ih ⊢
    rw [List.flatMap_cons, List.filter_append, ih]
    unfold wid
    split <;> simp [h1]
/-! ### the two ways to cut -/
/-- Behind each long stands a word that fills. -/
inductive Lt : List Vt → Prop where
  | nil : Lt []
  | one (v : Vt) (l : List Vt) : v.k ≠ 4 → Lt l → Lt (v :: l)
  | two (v w : Vt) (l : List Vt) : v.k = 4 → w.k = 0 → Lt l → Lt (v :: w :: l)
theorem strip_cons (v : Vt) (l : List Vt) : strip (v :: l) = if strip l = [] then (if v.k = 0 then [] else [v]) else v :: strip l := by
  unfold strip
  rw [List.reverse_cons, List.dropWhile_append]
  by_cases h : (l.reverse.dropWhile fun v => v.k == 0) = []
  · simp only [h, List.isEmpty_nil, if_true, List.reverse_nil]
    by_cases hv : v.k = 0
    · simp [hv]
    · simp [hv]
  · have h1 : (l.reverse.dropWhile fun v => v.k == 0).isEmpty = false := by simpa using h
    rw [h1]
    simp [h]
theorem cut_eq {l : List Vt} (h : Lt l) : tgt (strip l) = strip (tgt l) := by
  induction h with
  | nil => rfl
  | one v l hv hl ih =>
    rw [tgt_cons, if_neg hv, strip_cons, strip_cons, ← ih]
    by_cases hs : strip l = []
    · rw [if_pos hs, hs, show tgt [] = [] from rfl, if_pos rfl]
      split
      · rfl
      · simp [tgt]
    · rw [if_neg hs, tgt_cons, if_neg hv]
      have : tgt (strip l) ≠ [] := by
        cases hx : strip l with
        | nil => exact absurd hx hs
        | cons a b => rw [tgt_cons]; simp
      rw [if_neg this]
  | two v w l hv hw hl ih =>
    rw [tgt_cons, if_pos hv, List.drop_one, List.tail_cons, strip_cons, strip_cons v (tgt l), ← ih, strip_cons]
    have v0 : v.k ≠ 0 := by omega
    by_cases hs : strip l = []
    · rw [if_pos hs, if_pos hw, if_pos rfl, if_neg v0, hs, show tgt [] = [] from rfl, if_pos rfl]
      simp [tgt]
    · have h2 : tgt (strip l) ≠ [] := by
        cases hx : strip l with
        | nil => exact absurd hx hs
        | cons a b => rw [tgt_cons]; simp
      rw [if_neg hs, if_neg (by simp), if_neg h2, tgt_cons, if_pos hv]
      simp
end Go.Proofs.Ytnpfppddongbhaa
end

section
namespace Go.AM
open Go
set_option autoImplicit false
/-! ### rows put behind rows -/
theorem fl_one {n : Nat} {ss : List (List AV)} (h : ∀ r ∈ ss, r.length = n ∧ ∀ x ∈ r, one x = true) : ∀ x ∈ ss.flatten, one x = true := by
  intro x hx
  obtain ⟨r, hr, hx⟩ := List.mem_flatten.1 hx
  exact (h r hr).2 x hx
theorem Rws.src {h : Hp} {Q : Nat → Prop} {n : Nat} {w : AV} {ss : List (List AV)} (hs : Rws h Q n w ss) (k : Nat → AV → Res) : src h n w k = k ss.length (avL ss.flatten) := by
  obtain ⟨h0, ⟨rfl, rfl⟩ | ⟨b, B, rfl, g1, g2, g3, g4, g5, g6⟩⟩ := hs
  · rfl
  · have hl := fl_len ss (fun r hr => (h0 r hr).1)
    have e : AM.src h n (.sl b 0 ss.length n none) k = ifB (Nat.beq n n) (gb h b fun B => rds B (Nat.mul ss.length n) 0 fun l => k ss.length l) .fail := rfl
    have e2 : Nat.mul ss.length n = ss.flatten.length := hl.symm
    rw [e, (beq_iff n n).2 rfl, ifB_t, gb_rd g2, e2, rds_list ss.flatten 0 _ (fun i hi => by rw [Nat.zero_add]; exact g6 i hi) (fun v hv => one_unk (fl_one h0 v hv))]
theorem apd_rowsN {h : Hp} {P Q : Nat → Prop} {n by_ : Nat} {v w : AV} {rs ss : List (List AV)} (hw : Wf h) (hv : Rws h P n v rs) (hs : Rws h Q n w ss) (hb : (rs.length + ss.length) * by_ ≤ 140737488355328) (hb2 : rs.length + ss.length ≤ 9223372036854775807) :
    ∃ v' h', (∀ k : AV → Hp → Res, apd h n by_ v w k = k v' h') ∧ Rws h' (fun x => P x ∨ h.nb ≤ x) n v' (rs ++ ss) ∧ To P h h' ∧ Wf h' := by
  have hone := fl_one hs.1
  have hr := fl_len ss (fun r hr => (hs.1 r hr).1)
  have src1 := fun k => hs.src k
  have nn : Nat.beq n n = true := (beq_iff n n).2 rfl
  have hrs' : ∀ x ∈ rs ++ ss, x.length = n ∧ ∀ y ∈ x, AM.one y = true := fun x hx => by
    rcases List.mem_append.1 hx with hx | hx
    · exact hv.1 x hx
    · exact hs.1 x hx
  by_cases hM : ss = []
  · subst hM
    refine ⟨v, h, fun k => ?_, by rw [List.append_nil]; exact hv.mono fun x hx _ => .inl hx, To.refl _ _, hw⟩
    unfold apd
    rw [src1]
    obtain ⟨h00, ⟨rfl, rfl⟩ | ⟨b, B, rfl, -⟩⟩ := hv
    · rfl
    · show ifB (Nat.beq n n) _ _ = _
      rw [nn]; rfl
  · have hM0 : 0 < ss.length := List.length_pos_iff.2 hM
    have nM : Nat.beq ss.length 0 = false := by rw [Bool.eq_false_iff, ne_eq, beq_iff]; omega
    generalize hfl : ss.flatten = r at *
    rcases hv with ⟨h00, ⟨rfl, rfl⟩ | ⟨b, B, rfl, g1, g2, g3, g4, g5, g6⟩⟩
    · obtain ⟨t0, l1, l2⟩ := lay_list r .e 0 hone
      have hat0 : ∀ i (hi : i < r.length), (⟨true, h.nb, 0 + r.length, .nil, t0⟩ : Blk).at i = r[i] := by
        intro i hi
        rw [at_in _ (show i < 0 + r.length by omega)]
        simp only [l2 i]
        rw [dif_pos ⟨by omega, by omega⟩]
        simp
      obtain ⟨p1, p2⟩ := nw_own hw (0 + r.length) .nil t0
      have mul1 : Nat.beq (0 + r.length) (Nat.mul ss.length n) = true := by rw [beq_iff, Nat.zero_add]; exact hr
      refine ⟨.sl h.nb 0 ss.length n none, nw h (0 + r.length) .nil t0, fun k => ?_, ⟨hrs', .inr ⟨h.nb, _, by rw [List.nil_append], .inr (Nat.le_refl _), p1.rd, rfl, .inr (Nat.le_refl _), by rw [List.nil_append]; show ss.length * n ≤ 0 + r.length; rw [hr, Nat.zero_add]; exact Nat.le_refl _, fun i hi => ?_⟩⟩, p2.mono fun _ _ f => f.elim, p2.wf hw⟩
      · unfold apd
        rw [src1]
        show ifB (Nat.beq ss.length 0) (k AV.nils h) (ifB (Nat.ble (Nat.mul ss.length by_) 140737488355328) (ifB (Nat.ble ss.length 9223372036854775807) (grown h n ss.length (avL r) k) .fail) .fail) = _
        have e1 : Nat.ble (Nat.mul ss.length by_) 140737488355328 = true := by rw [ble_iff]; show ss.length * by_ ≤ _; have : (0 + ss.length) * by_ ≤ 140737488355328 := hb; rwa [Nat.zero_add] at this
        have e2 : Nat.ble ss.length 9223372036854775807 = true := by rw [ble_iff]; have : 0 + ss.length ≤ 9223372036854775807 := hb2; omega
        rw [nM, e1, e2]
        show grown h n ss.length (avL r) k = _
        have e : grown h n ss.length (avL r) k = lay (avL r) .e 0 fun t m => ifB (Nat.beq m (Nat.mul ss.length n)) (k (.sl h.nb 0 ss.length n none) (nw h m .nil t)) .fail := rfl
        rw [e, l1, mul1]; rfl
      · simp only [List.nil_append, hfl] at hi ⊢
        exact hat0 i hi
    · obtain ⟨t, t1', t2⟩ := lay_list r B.cs (rs.length * n) hone
      generalize hold : ifN (h.grp B.g).1 b B.lim (rs.length * n) (h.grp B.g).2 h.nb = old
      have hle : old ≤ h.nb := by
        have q := (g2.grp g3).2
        have hlt := g2.lt
        have e : ifN (h.grp B.g).1 b B.lim (rs.length * n) (h.grp B.g).2 h.nb = Bool.rec (motive := fun _ => Nat) h.nb (Bool.rec (motive := fun _ => Nat) h.nb (h.grp B.g).2 (Nat.ble B.lim (rs.length * n))) (Nat.beq (h.grp B.g).1 b) := rfl
        rw [← hold, e, recB, recB]
        split
        · split
          · omega
          · exact Nat.le_refl _
        · exact Nat.le_refl _
      have mul2 : Nat.mul (Nat.add rs.length ss.length) n = rs.length * n + r.length := by rw [hr]; exact Nat.add_mul _ _ _
      have hrun : ∀ k : AV → Hp → Res, apd h n by_ (.sl b 0 rs.length n none) w k = k (.sl h.nb 0 (rs.length + ss.length) n none) ⟨Nat.succ h.nb, h.bs.set ⟨true, B.g, rs.length * n + r.length, B.df, t⟩ h.nb, h.gs.set (h.nb, old) B.g, h.ms⟩ := fun k => by
        unfold apd
        rw [src1]
        show ifB (Nat.beq n n) (ifB (Nat.beq ss.length 0) _ (ifB (Nat.ble (Nat.mul (Nat.add rs.length ss.length) by_) 140737488355328) (ifB (Nat.ble (Nat.add rs.length ss.length) 9223372036854775807)
          (gb h b fun B => ifB B.fr (ifB (Nat.beq 0 0) (lay (avL r) B.cs (Nat.mul rs.length n) fun t e => ifB (Nat.beq e (Nat.mul (Nat.add rs.length ss.length) n)) (ifB (Nat.ble (Nat.mul rs.length n) B.lim)
            (k (.sl h.nb 0 (Nat.add rs.length ss.length) n none) ⟨Nat.succ h.nb, h.bs.set ⟨true, B.g, e, B.df, t⟩ h.nb, h.gs.set (h.nb, ifN (h.grp B.g).1 b B.lim (Nat.mul rs.length n) (h.grp B.g).2 h.nb) B.g, h.ms⟩) .fail) .fail) _) .fail) .fail) .fail)) .fail = _
        have e1 : Nat.ble (Nat.mul (Nat.add rs.length ss.length) by_) 140737488355328 = true := by rw [ble_iff]; exact hb
        have e2 : Nat.ble (Nat.add rs.length ss.length) 9223372036854775807 = true := by rw [ble_iff]; exact hb2
        rw [e1, e2, nn, nM]
        show (gb h b fun B => ifB B.fr (ifB (Nat.beq 0 0) (lay (avL r) B.cs (Nat.mul rs.length n) fun t e => ifB (Nat.beq e (Nat.mul (Nat.add rs.length ss.length) n)) (ifB (Nat.ble (Nat.mul rs.length n) B.lim)
            (k (.sl h.nb 0 (Nat.add rs.length ss.length) n none) ⟨Nat.succ h.nb, h.bs.set ⟨true, B.g, e, B.df, t⟩ h.nb, h.gs.set (h.nb, ifN (h.grp B.g).1 b B.lim (Nat.mul rs.length n) (h.grp B.g).2 h.nb) B.g, h.ms⟩) .fail) .fail) _) .fail) = _
        rw [gb_rd g2, g3, ifB_t]
        have e3 : Nat.mul rs.length n = rs.length * n := rfl
        show (lay (avL r) B.cs (Nat.mul rs.length n) fun t e => ifB (Nat.beq e (Nat.mul (Nat.add rs.length ss.length) n)) (ifB (Nat.ble (Nat.mul rs.length n) B.lim)
            (k (.sl h.nb 0 (Nat.add rs.length ss.length) n none) ⟨Nat.succ h.nb, h.bs.set ⟨true, B.g, e, B.df, t⟩ h.nb, h.gs.set (h.nb, ifN (h.grp B.g).1 b B.lim (Nat.mul rs.length n) (h.grp B.g).2 h.nb) B.g, h.ms⟩) .fail) .fail) = _
        rw [e3, hold, mul2, t1', (beq_iff _ _).2 rfl, (ble_iff _ _).2 g5]
        rfl
      have hget2 : ∀ x, (h.bs.set ⟨true, B.g, rs.length * n + r.length, B.df, t⟩ h.nb).get x = if x = h.nb then some ⟨true, B.g, rs.length * n + r.length, B.df, t⟩ else h.bs.get x := fun x => T.get_set _ _ _ _
      have hgs2 : ∀ x, (h.gs.set (h.nb, old) B.g).get x = if x = B.g then some (h.nb, old) else h.gs.get x := fun x => T.get_set _ _ _ _
      have hBg := g2.grp g3
      have tfin : To P h ⟨Nat.succ h.nb, h.bs.set ⟨true, B.g, rs.length * n + r.length, B.df, t⟩ h.nb, h.gs.set (h.nb, old) B.g, h.ms⟩ := by
        refine ⟨Nat.le_succ _, fun x hx hn => ?_, fun x hx hn => ?_, fun hn g hg => ?_⟩
        · show (h.bs.set _ h.nb).get x = _
          rw [hget2, if_neg (by omega)]
        · show (h.gs.set (h.nb, old) B.g).get x = _
          rw [hgs2, if_neg (fun e => hn (by rw [e]; exact g4))]
        · show (h.gs.set (h.nb, old) B.g).get g = none
          have hg : h.nb + 1 ≤ g := hg
          rw [hgs2, if_neg (by omega)]
          exact hn g (by omega)
      have hcat : (rs ++ ss).flatten = rs.flatten ++ r := by rw [List.flatten_append, hfl]
      have hfl2 := fl_len rs (fun r hr => (h00 r hr).1)
      refine ⟨_, _, hrun, ⟨hrs', .inr ⟨h.nb, ⟨true, B.g, rs.length * n + r.length, B.df, t⟩, by rw [List.length_append], .inr (Nat.le_refl _), ⟨by show (h.bs.set _ h.nb).get h.nb = _; rw [hget2, if_pos rfl], Nat.lt_succ_self _, fun _ => ⟨Nat.lt_succ_of_lt hBg.1, ?_⟩⟩, rfl, .inl g4, by rw [List.length_append, Nat.add_mul, ← hr]; exact Nat.le_refl _, fun i hi => ?_⟩⟩, tfin, tfin.wf hw⟩
      · show (Hp.grp ⟨_, _, h.gs.set (h.nb, old) B.g, _⟩ B.g).2 ≤ h.nb
        simp only [Hp.grp, hgs2, if_pos]
        exact hle
      · simp only [hcat] at hi ⊢
        rw [List.length_append] at hi
        rw [at_in _ (show i < rs.length * n + r.length by omega)]
        simp only [t2 i]
        by_cases c : rs.length * n ≤ i
        · rw [dif_pos ⟨c, by omega⟩, List.getElem_append_right (by omega)]
          simp only [hfl2]
        · rw [dif_neg (by omega), List.getElem_append_left (by omega)]
          have := g6 i (by omega)
          rw [at_in B (by omega)] at this
          exact this
end Go.AM
end

section
namespace Go.Proofs.Ytnpfppddongbhaa
open Go Go.AM
set_option autoImplicit false
/-! ### rows of types put behind rows; what fills -/
theorem vR_appN {h : Hp} {P Q : Nat → Prop} {v w : AV} {l m : List Vt} (hw : Wf h) (hv : Rws h P 3 v (l.map vR)) (hs : Rws h Q 3 w (m.map vR)) (hl : l.length ≤ 300000) (hm : m.length ≤ 300000) :
    ∃ v' h', (∀ k : AV → Hp → Res, apd h 3 32 v w k = k v' h') ∧ Rws h' (fun x => P x ∨ h.nb ≤ x) 3 v' ((l ++ m).map vR) ∧ To P h h' ∧ Wf h' := by
  obtain ⟨v', h', e, r, t, w'⟩ := apd_rowsN (by_ := 32) hw hv hs (by rw [List.length_map, List.length_map]; omega) (by rw [List.length_map, List.length_map]; omega)
  exact ⟨v', h', e, by rw [List.map_append]; exact r, t, w'⟩
def fil (l : List Vt) (n : Nat) : List Vt := l ++ List.replicate (n - l.length) (⟨0, 0, 0, 0⟩ : Vt)
theorem loop92 {N n : Nat} (hn : n ≤ 100000) : ∀ (d m : Nat) (o : AV) (l : List Vt) (h : Hp), n - l.length = d → d < m → N ≤ h.nb → Wf h → l.length ≤ 200000 → Rws h (fun x => N ≤ x) 3 o (l.map vR) →
    ∃ o' h', lp L92n0 m [.int 63 (n : Int), o] h = .exit 0 [o'] h' ∧ Rws h' (fun x => N ≤ x) 3 o' ((l ++ List.replicate d (⟨0, 0, 0, 0⟩ : Vt)).map vR) ∧ To (fun x => N ≤ x) h h' ∧ Wf h' := by
  intro d
  induction d with
  | zero =>
    intro m o l h hd hm hnb hw hl ho
    obtain ⟨m, rfl⟩ : ∃ k, m = k + 1 := ⟨m - 1, by omega⟩
    have ln := fun kk => vR_len ho kk
    have c1 : ¬ (l.length : Int) < (n : Int) := by omega
    exact ⟨o, h, lpx m (by simp only [↓L92n0, ↓ln, c1, ↓SD, SA, Int.ofNat_eq_natCast, Int.cast_ofNat_Int, Int.reduceBEq, Int.reduceAdd, Int.reduceNeg, Int.reduceNegSucc, Int.reduceLT, Int.reduceLE, Int.reduceMul, Int.reduceTMod, Int.reduceSub, Int.reduceBNe, Bool.not_true, Bool.not_false, decide_true, decide_false, ne_eq, not_false_eq_true, Int.reduceEq, reduceCtorEq]), by simpa using ho, To.refl _ _, hw⟩
  | succ d ih =>
    intro m o l h hd hm hnb hw hl ho
    obtain ⟨m, rfl⟩ : ∃ k, m = k + 1 := ⟨m - 1, by omega⟩
    have ln := fun kk => vR_len ho kk
    have c1 : (l.length : Int) < (n : Int) := by omega
    obtain ⟨h1, e1, t1, w1⟩ := t110 hw 0
    have e1 : s110 [.int 63 0] h = .ret (.agg (avL (vR ⟨0, 0, 0, 0⟩))) h1 := e1
    have nb1 := t1.nb
    obtain ⟨p', h6, h7, g1, g2, g3, g4, g5⟩ := vR_app w1 (by omega) (ho.to t1 (fun _ _ _ f => f)) ⟨0, 0, 0, 0⟩ hl
    have e : L92n0 [.int 63 (n : Int), o] h = .norm [.int 63 (n : Int), p'] h7 := by
      simp only [↓L92n0, ↓ln, c1, ↓e1, ↓bldA, ↓g1, ↓g2, ↓SD, SA, Int.ofNat_eq_natCast, Int.cast_ofNat_Int, Int.reduceBEq, Int.reduceAdd, Int.reduceNeg, Int.reduceNegSucc, Int.reduceLT, Int.reduceLE, Int.reduceMul, Int.reduceTMod, Int.reduceSub, Int.reduceBNe, Bool.not_true, Bool.not_false, decide_true, decide_false, ne_eq, not_false_eq_true, Int.reduceEq, reduceCtorEq]
    rw [lpn m e]
    have ot : To (fun x => N ≤ x) h h7 := (t1.mono fun _ _ f => f.elim).trans g4
    obtain ⟨o', h8, f1, f2, f3, f4⟩ := ih m p' (l ++ [⟨0, 0, 0, 0⟩]) h7 (by simp; omega) (by omega) (by have := ot.nb; omega) g5 (by simp; omega) g3
    refine ⟨o', h8, f1, ?_, ot.trans f3, f4⟩
    rw [List.append_assoc, List.singleton_append, ← List.replicate_succ] at f2
    exact f2
theorem t92 {h : Hp} {P : Nat → Prop} {v : AV} {l : List Vt} (hv : Rws h P 3 v (l.map vR)) (hw : Wf h) (hl : l.length ≤ 200000) (n : Nat) (hn : n ≤ 100000) :
    ∃ o h', s92 [v, .int 63 (n : Int)] h = .ret o h' ∧ Rws h' (fun x => h.nb ≤ x) 3 o ((fil l n).map vR) ∧ To No h h' ∧ Wf h' := by
  obtain ⟨v1, h1, e1, r1, t1, w1⟩ := vR_appN (l := []) (P := No) hw (Rws.nil h No 3) hv (by simp) (by omega)
  rw [List.nil_append] at r1
  have nb1 := t1.nb
  have r1' : Rws h1 (fun x => h.nb ≤ x) 3 v1 (l.map vR) := r1.mono fun x hx _ => hx.elim (fun f => f.elim) id
  obtain ⟨o, h', e2, r2, t2, w2⟩ := loop92 (N := h.nb) hn (n - l.length) most v1 l h1 rfl (by unfold most; omega) nb1 w1 hl r1'
  have ck := fun kk => r2.cK kk
  have ot : To (fun x => h.nb ≤ x) h h' := (t1.mono fun _ _ f => f.elim).trans t2
  refine ⟨o, h', ?_, r2, ot.mono fun x hx e => (by have : h.nb ≤ x := e; omega), w2⟩
  simp only [↓s92, ↓e1, ↓e2, ↓ck, blk_x0, ↓SD, SA, Int.ofNat_eq_natCast, Int.cast_ofNat_Int, Int.reduceBEq, Int.reduceAdd, Int.reduceNeg, Int.reduceNegSucc, Int.reduceLT, Int.reduceLE, Int.reduceMul, Int.reduceTMod, Int.reduceSub, Int.reduceBNe, Bool.not_true, Bool.not_false, decide_true, decide_false, ne_eq, not_false_eq_true, Int.reduceEq, reduceCtorEq]
end Go.Proofs.Ytnpfppddongbhaa
end

section
namespace Go.Proofs.Ytnpfppddongbhaa
open Go Go.AM
set_option autoImplicit false
/-! ### the same types, with names -/
theorem eqS_same (n x : Nat) (k : Bool → Res) : eqS (.str n x) (.str n x) k = k true := by
  have e : eqS (.str n x) (.str n x) k = k (sEq n x n x) := rfl
  have e2 : sEq n x n x = true := by
    have h : sEq n x n x = bAnd (Nat.beq n n) (Nat.beq x x) := rfl
    rw [h, (beq_iff n n).2 rfl, (beq_iff x x).2 rfl]; rfl
  rw [e, e2]
theorem loop64R {h : Hp} {P Q : Nat → Prop} {v w : AV} {l : List Vt} (r1 : Rws h P 3 v (l.map vR)) (r2 : Rws h Q 3 w (l.map vR)) (hl : l.length ≤ 300000) :
    ∀ (n i m : Nat), n < m → i + n = l.length → lp L64n0 m [v, w, .int 63 (i : Int)] h = .exit 0 [] h := by
  intro n
  induction n with
  | zero =>
    intro i m hm hi
    obtain ⟨m, rfl⟩ : ∃ k, m = k + 1 := ⟨m - 1, by omega⟩
    have c1 : ¬ (i : Int) < (l.length : Int) := by omega
    have hlen := fun kk => vR_len r1 kk
    exact lpx m (by simp only [↓L64n0, ↓hlen, c1, ↓SD, SA, Int.ofNat_eq_natCast, Int.cast_ofNat_Int, Int.reduceBEq, Int.reduceAdd, Int.reduceNeg, Int.reduceNegSucc, Int.reduceLT, Int.reduceLE, Int.reduceMul, Int.reduceTMod, Int.reduceSub, Int.reduceBNe, Bool.not_true, Bool.not_false, decide_true, decide_false, ne_eq, not_false_eq_true, Int.reduceEq, reduceCtorEq])
  | succ n ih =>
    intro i m hm hi
    obtain ⟨m, rfl⟩ : ∃ k, m = k + 1 := ⟨m - 1, by omega⟩
    have c1 : (i : Int) < (l.length : Int) := by omega
    have hlen := fun kk => vR_len r1 kk
    obtain ⟨b1, o1, x1, -, a0, a1, a2⟩ := vR_pt r1 i (by omega)
    obtain ⟨b2, o2, x2, -, g0, g1, g2⟩ := vR_pt r2 i (by omega)
    have i1 := s1n i (by omega)
    have gv : gsel (.bool false) false v = v := rfl
    have gw : gsel (.bool false) false w = w := rfl
    have gi : gsel (.bool false) false (.int 63 (i : Int)) = .int 63 (i : Int) := rfl
    have e : L64n0 [v, w, .int 63 (i : Int)] h = .norm [v, w, .int 63 ((i + 1 : Nat) : Int)] h := by
      simp only [↓L64n0, ↓hlen, c1, ↓x1, ↓x2, ↓cP_p, ↓a0, ↓a1, ↓a2, ↓g0, ↓g1, ↓g2, ↓gv, ↓gw, ↓gi, ↓eqS_same, i1, beq_self_eq_true, ↓SD, SA, Int.ofNat_eq_natCast, Int.cast_ofNat_Int, Int.reduceBEq, Int.reduceAdd, Int.reduceNeg, Int.reduceNegSucc, Int.reduceLT, Int.reduceLE, Int.reduceMul, Int.reduceTMod, Int.reduceSub, Int.reduceBNe, Bool.not_true, Bool.not_false, decide_true, decide_false, ne_eq, not_false_eq_true, Int.reduceEq, reduceCtorEq]
    rw [lpn m e]
    exact ih (i + 1) m (by omega) (by omega)
theorem t64R {h : Hp} {P Q : Nat → Prop} {v w : AV} {l : List Vt} (r1 : Rws h P 3 v (l.map vR)) (r2 : Rws h Q 3 w (l.map vR)) (hl : l.length ≤ 300000) : s64 [v, w] h = .ret (.bool true) h := by
  have l1 := fun kk => vR_len r1 kk
  have l2 := fun kk => vR_len r2 kk
  have hl' := loop64R r1 r2 hl l.length 0 most (by unfold most; omega) (by omega)
  have hl' : lp L64n0 most [v, w, .int 63 0] h = .exit 0 [] h := hl'
  simp only [↓s64, ↓l1, ↓l2, ↓hl', beq_self_eq_true, blk_x0, ↓SD, SA, Int.ofNat_eq_natCast, Int.cast_ofNat_Int, Int.reduceBEq, Int.reduceAdd, Int.reduceNeg, Int.reduceNegSucc, Int.reduceLT, Int.reduceLE, Int.reduceMul, Int.reduceTMod, Int.reduceSub, Int.reduceBNe, Bool.not_true, Bool.not_false, decide_true, decide_false, ne_eq, not_false_eq_true, Int.reduceEq, reduceCtorEq]
end Go.Proofs.Ytnpfppddongbhaa
end

section
namespace Go.Proofs.Ytnpfppddongbhaa
open Go Go.AM
set_option autoImplicit false
/-! ### the law's first locals -/
theorem mkS_litq {h : Hp} (hw : Wf h) (l : List AV) (hl : ∀ x ∈ l, one x = true) :
    ∃ v h', (∀ k : AV → Hp → Res, mkS h 1 l.length (avL l) k = k v h') ∧ Sl h' (fun x => h.nb ≤ x ∧ x < h'.nb) v l ∧ To No h h' ∧ Wf h' ∧ h'.nb = h.nb + 1 := by
  obtain ⟨t, h1, h2⟩ := lay_list l .e 0 hl
  have e2 : Nat.beq (0 + l.length) (Nat.mul l.length 1) = true := by rw [beq_iff]; show 0 + l.length = l.length * 1; omega
  obtain ⟨o1, o2⟩ := nw_own hw (0 + l.length) .nil t
  have hat : ∀ i (hi : i < l.length), (⟨true, h.nb, 0 + l.length, .nil, t⟩ : Blk).at (0 + i) = l[i] := by
    intro i hi
    rw [at_in _ (show 0 + i < 0 + l.length by omega)]
    simp only [h2 (0 + i)]
    rw [dif_pos ⟨by omega, by omega⟩]
    simp
  refine ⟨.sl h.nb 0 l.length 1 (some l.length), nw h (0 + l.length) .nil t, fun k => ?_, ⟨hl, .inr (.inr ⟨h.nb, 0, _, _, rfl, ⟨Nat.le_refl _, Nat.lt_succ_self _⟩, o1.rd, fun _ => ⟨Nat.le_refl _, Nat.lt_succ_self _⟩, (fun c h => by cases h; exact Nat.le_refl _), hat⟩)⟩, o2, o2.wf hw, rfl⟩
  have e : mkS h 1 l.length (avL l) k = lay (avL l) .e 0 fun t m => ifB (Nat.beq m (Nat.mul l.length 1)) (k (.sl h.nb 0 l.length 1 (some l.length)) (nw h m .nil t)) .fail := rfl
  rw [e, h1, e2, ifB_t]
theorem bfil (k : AV → Res) : (bld [(false, 1, (.int 63 (.ofNat 0))), (false, 1, (.str 0 0)), (false, 1, (.int 63 (.ofNat 0)))] fun l => bld [(true, 3, (.agg l))] k) = k (avL (vR ⟨0, 0, 0, 0⟩)) := of_eq_true (eq_self _)
theorem blk_n3 {vs : List AV} {h : Hp} (k : List AV → Hp → Res) : blk 3 (.norm vs h) k = k vs h := of_eq_true (eq_self _)
theorem loop22b {N n : Nat} (w1 w2 w3 : AV) (hn : n ≤ 100) : ∀ (d m : Nat) (o : AV) (l : List Vt) (h : Hp), n - l.length = d → d < m → N ≤ h.nb → Wf h → l.length ≤ 200 → Rws h (fun x => N ≤ x) 3 o (l.map vR) →
    ∃ o' h', lp L22n1 m [.int 63 (n : Int), w1, w2, w3, o] h = .exit 2 [.int 63 (n : Int), w1, w2, w3, o'] h' ∧ Rws h' (fun x => N ≤ x) 3 o' ((fil l n).map vR) ∧ To (fun x => N ≤ x) h h' ∧ Wf h' := by
  intro d
  induction d with
  | zero =>
    intro m o l h hd hm hnb hw hl ho
    obtain ⟨m, rfl⟩ : ∃ k, m = k + 1 := ⟨m - 1, by omega⟩
    have ln := fun kk => vR_len ho kk
    have c1 : ¬ (l.length : Int) < (n : Int) := by omega
    exact ⟨o, h, lpx m (by simp only [↓L22n1, ↓ln, c1, ↓SD, SA, Int.ofNat_eq_natCast, Int.cast_ofNat_Int, Int.reduceBEq, Int.reduceAdd, Int.reduceNeg, Int.reduceNegSucc, Int.reduceLT, Int.reduceLE, Int.reduceMul, Int.reduceTMod, Int.reduceSub, Int.reduceBNe, Bool.not_true, Bool.not_false, decide_true, decide_false, ne_eq, not_false_eq_true, Int.reduceEq, reduceCtorEq]), by unfold fil; rw [hd]; simpa using ho, To.refl _ _, hw⟩
  | succ d ih =>
    intro m o l h hd hm hnb hw hl ho
    obtain ⟨m, rfl⟩ : ∃ k, m = k + 1 := ⟨m - 1, by omega⟩
    have ln := fun kk => vR_len ho kk
    have c1 : (l.length : Int) < (n : Int) := by omega
    obtain ⟨p', h6, h7, g1, g2, g3, g4, g5⟩ := vR_app hw hnb ho ⟨0, 0, 0, 0⟩ (by omega)
    have e : L22n1 [.int 63 (n : Int), w1, w2, w3, o] h = .norm [.int 63 (n : Int), w1, w2, w3, p'] h7 := by
      simp only [↓L22n1, ↓ln, c1, ↓bfil, ↓g1, ↓g2, ↓SD, SA, Int.ofNat_eq_natCast, Int.cast_ofNat_Int, Int.reduceBEq, Int.reduceAdd, Int.reduceNeg, Int.reduceNegSucc, Int.reduceLT, Int.reduceLE, Int.reduceMul, Int.reduceTMod, Int.reduceSub, Int.reduceBNe, Bool.not_true, Bool.not_false, decide_true, decide_false, ne_eq, not_false_eq_true, Int.reduceEq, reduceCtorEq]
    rw [lpn m e]
    have nb7 := g4.nb
    obtain ⟨o', h8, f1, f2, f3, f4⟩ := ih m p' (l ++ [⟨0, 0, 0, 0⟩]) h7 (by simp; omega) (by omega) (by omega) g5 (by simp; omega) g3
    refine ⟨o', h8, f1, ?_, g4.trans f3, f4⟩
    have : fil (l ++ [⟨0, 0, 0, 0⟩]) n = fil l n := by
      unfold fil
      rw [show n - l.length = (n - (l ++ [(⟨0, 0, 0, 0⟩ : Vt)]).length) + 1 by simp; omega, List.replicate_succ, List.append_assoc, List.singleton_append]
    rwa [this] at f2
end Go.Proofs.Ytnpfppddongbhaa
end

section
namespace Go.Proofs.Ytnpfppddongbhaa
open Go Go.AM
set_option autoImplicit false
/-! ### the law's first locals, out of numbers -/
def jx (x : Int) : Nat := ((x.tmod 5 + 5).tmod 5).toNat
theorem jx_lt (x : Int) : jx x < 5 := by
  unfold jx
  have h1 := Int.tmod_lt_of_pos (x.tmod 5 + 5) (show (0:Int) < 5 by decide)
  omega
theorem jx_eq (x : Int) : (x.tmod 5 + 5).tmod 5 = (jx x : Int) := by
  unfold jx
  have h1 := Int.lt_tmod_of_pos x (show (0:Int) < 5 by decide)
  have h2 := Int.tmod_nonneg (a := x.tmod 5 + 5) 5 (by omega)
  omega
theorem jx_w (x : Int) : wrapC 63 (x.tmod 5 + 5) = x.tmod 5 + 5 := by
  have h1 := Int.lt_tmod_of_pos x (show (0:Int) < 5 by decide)
  have h2 := Int.tmod_lt_of_pos x (show (0:Int) < 5 by decide)
  exact w63_in _ (by omega) (by omega)
def kN : Nat → Nat
  | 0 => 0
  | 1 => 1
  | 2 => 5
  | 3 => 7
  | _ => 4
def kq (x : Int) : Nat := kN (jx x)
def gq (x : Int) : Vt := if kq x = 7 then ⟨7, 1, 113, 0⟩ else ⟨kq x, 0, 0, 0⟩
theorem gq_k (x : Int) : (gq x).k = kq x := by unfold gq; split <;> simp_all
def bq (x : Int) : List Vt := if kq x = 4 then [gq x, ⟨0, 0, 0, 0⟩] else [gq x]
noncomputable def K5 : List AV := [.int 63 0, .int 63 1, .int 63 5, .int 63 7, .int 63 4]
theorem K5_aux : ∀ (j : Nat) (h : j < 5), K5[j]'h = .int 63 (kN j : Int)
  | 0, _ => rfl
  | 1, _ => rfl
  | 2, _ => rfl
  | 3, _ => rfl
  | 4, _ => rfl
theorem K5_at (x : Int) : K5[jx x]'(jx_lt x) = .int 63 (kq x : Int) := K5_aux (jx x) (jx_lt x)
theorem vR_appP {h : Hp} {P : Nat → Prop} {v : AV} {l : List Vt} (hw : Wf h) (hv : Rws h P 3 v (l.map vR)) (e : Vt) (hl : l.length ≤ 200000) :
    ∃ v' h1 h', (∀ k : AV → Hp → Res, mkS h 3 1 (avL (vR e)) k = k (.sl h.nb 0 1 3 (some 1)) h1) ∧ (∀ k : AV → Hp → Res, apd h1 3 32 v (.sl h.nb 0 1 3 (some 1)) k = k v' h') ∧ Rws h' (fun x => P x ∨ h.nb ≤ x) 3 v' ((l ++ [e]).map vR) ∧ To P h h' ∧ Wf h' := by
  obtain ⟨v', h1, h', g1, g2, g3, g4, g5⟩ := apd_rows (by_ := 32) hw hv (by decide) (vR e) rfl (vR_one e) (by simp; omega) (by simp; omega)
  exact ⟨v', h1, h', g1, g2, by rw [List.map_append]; exact g3, g4, g5⟩
theorem bK5 (k : AV → Res) : bld [(false, 1, (.int 63 (.ofNat 0))), (false, 1, (.int 63 (.ofNat 1))), (false, 1, (.int 63 (.ofNat 5))), (false, 1, (.int 63 (.ofNat 7))), (false, 1, (.int 63 (.ofNat 4)))] k = k (avL K5) := of_eq_true (eq_self _)
theorem bgq (n : Nat) (k : AV → Res) : bld [(false, 1, .int 63 (n : Int)), (false, 1, (.str 0 0)), (false, 1, (.int 63 (.ofNat 0)))] k = k (avL (vR ⟨n, 0, 0, 0⟩)) := of_eq_true (eq_self _)
theorem bgq' (n : Nat) (k : AV → Res) : bld [(false, 1, .int 63 (n : Int)), (false, 1, (.str 0 0)), (false, 1, (.int 63 0))] k = k (avL (vR ⟨n, 0, 0, 0⟩)) := of_eq_true (eq_self _)
def fsq : List Int → Nat → List Vt → List Vt
  | [], _, l => l
  | x :: xs, n, l => if l.length < n then fsq xs n (l ++ bq x) else l
theorem fsq_in (fl : List Int) (n : Nat) (l : List Vt) (i : Nat) (hi : i < fl.length) (hl : l.length < n) : fsq (fl.drop i) n l = fsq (fl.drop (i + 1)) n (l ++ bq fl[i]) := by
  rw [List.drop_eq_getElem_cons hi, fsq, if_pos hl]
theorem fsq_out (fl : List Int) (n : Nat) (l : List Vt) (i : Nat) (h : ¬ (i < fl.length ∧ l.length < n)) : fsq (fl.drop i) n l = l := by
  by_cases hi : i < fl.length
  · rw [List.drop_eq_getElem_cons hi, fsq, if_neg (by omega)]
  · rw [List.drop_eq_nil_of_le (by omega), fsq]
theorem bq_len (x : Int) : 1 ≤ (bq x).length ∧ (bq x).length ≤ 2 := by unfold bq; split <;> simp
noncomputable def Is (l : List Int) : List AV := l.map fun x => .int 63 x
theorem blk_n1 {vs : List AV} {h : Hp} (k : List AV → Hp → Res) : blk 1 (.norm vs h) k = k vs h := of_eq_true (eq_self _)
theorem loop22a {N n : Nat} {P : Nat → Prop} {v : AV} {fl : List Int} (w2 w3 w4 : AV) (hP : ∀ x, P x → x < N) (hn : n ≤ 100) : ∀ (d i m : Nat) (o : AV) (l : List Vt) (h : Hp), n - l.length ≤ d → d < m → i ≤ l.length → l.length ≤ n + 1 → N ≤ h.nb → Wf h → Sl h P v (Is fl) → Rws h (fun x => N ≤ x) 3 o (l.map vR) →
    ∃ o' h', lp L22n0 m [v, .int 63 (n : Int), w2, w3, w4, o, .int 63 (i : Int)] h = .exit 0 [.int 63 (n : Int), w2, w3, w4, o'] h' ∧ Rws h' (fun x => N ≤ x) 3 o' ((fsq (fl.drop i) n l).map vR) ∧ To (fun x => N ≤ x) h h' ∧ Wf h' := by
  have stop : ∀ (i m : Nat) (o : AV) (l : List Vt) (h : Hp), ¬ (i < fl.length ∧ l.length < n) → Sl h P v (Is fl) → Rws h (fun x => N ≤ x) 3 o (l.map vR) →
      lp L22n0 (m + 1) [v, .int 63 (n : Int), w2, w3, w4, o, .int 63 (i : Int)] h = .exit 0 [.int 63 (n : Int), w2, w3, w4, o] h := by
    intro i m o l h hc hv ho
    have ln := fun kk => vR_len ho kk
    have lf : ∀ kk : AV → Res, lenL v kk = kk (.int 63 (fl.length : Int)) := fun kk => by have := lenL_sl hv kk; rwa [show (Is fl).length = fl.length from List.length_map _] at this
    by_cases hi : i < fl.length
    · have c1 : (i : Int) < (fl.length : Int) := by omega
      have c2 : ¬ (l.length : Int) < (n : Int) := by omega
      exact lpx m (by simp only [↓L22n0, ↓lf, ↓ln, c1, c2, ↓SD, SA, Int.ofNat_eq_natCast, Int.cast_ofNat_Int, Int.reduceBEq, Int.reduceAdd, Int.reduceNeg, Int.reduceNegSucc, Int.reduceLT, Int.reduceLE, Int.reduceMul, Int.reduceTMod, Int.reduceSub, Int.reduceBNe, Bool.not_true, Bool.not_false, decide_true, decide_false, ne_eq, not_false_eq_true, Int.reduceEq, reduceCtorEq])
    · have c1 : ¬ (i : Int) < (fl.length : Int) := by omega
      exact lpx m (by simp only [↓L22n0, ↓lf, ↓ln, c1, ↓SD, SA, Int.ofNat_eq_natCast, Int.cast_ofNat_Int, Int.reduceBEq, Int.reduceAdd, Int.reduceNeg, Int.reduceNegSucc, Int.reduceLT, Int.reduceLE, Int.reduceMul, Int.reduceTMod, Int.reduceSub, Int.reduceBNe, Bool.not_true, Bool.not_false, decide_true, decide_false, ne_eq, not_false_eq_true, Int.reduceEq, reduceCtorEq])
  intro d
  induction d with
  | zero =>
    intro i m o l h hd hm hil hln hnb hw hv ho
    obtain ⟨m, rfl⟩ : ∃ k, m = k + 1 := ⟨m - 1, by omega⟩
    refine ⟨o, h, stop i m o l h (by omega) hv ho, ?_, To.refl _ _, hw⟩
    rw [fsq_out _ _ _ _ (by omega)]; exact ho
  | succ d ih =>
    intro i m o l h hd hm hil hln hnb hw hv ho
    obtain ⟨m, rfl⟩ : ∃ k, m = k + 1 := ⟨m - 1, by omega⟩
    by_cases hc : i < fl.length ∧ l.length < n
    · obtain ⟨hi, hl⟩ := hc
      have ln := fun kk => vR_len ho kk
      have lf : ∀ kk : AV → Res, lenL v kk = kk (.int 63 (fl.length : Int)) := fun kk => by have := lenL_sl hv kk; rwa [show (Is fl).length = fl.length from List.length_map _] at this
      have c1 : (i : Int) < (fl.length : Int) := by omega
      have c2 : (l.length : Int) < (n : Int) := by omega
      obtain ⟨v1, h1, m1, s1, t1, w1, n1⟩ := mkS_litq hw K5 (by unfold K5; simp [one])
      have m1 : ∀ k : AV → Hp → Res, mkS h 1 5 (avL K5) k = k v1 h1 := m1
      have hv1 := hv.to t1 (fun _ _ f => f)
      have x0 : ∀ kk : AV → Res, (ixA 1 v (.int 63 (i : Int)) fun a => ld1 h1 a kk) = kk (.int 63 fl[i]) := fun kk => by
        have := ix_sl hv1 (c := 63) i (show i < (Is fl).length by rw [show (Is fl).length = fl.length from List.length_map _]; exact hi) kk
        rw [this]; unfold Is; rw [List.getElem_map]
      have x1 : ∀ kk : AV → Res, (ixA 1 v1 (.int 63 (jx fl[i] : Int)) fun a => ld1 h1 a kk) = kk (.int 63 (kq fl[i] : Int)) := fun kk => by
        have := ix_sl s1 (c := 63) (jx fl[i]) (jx_lt fl[i]) kk
        rw [this, K5_at]
      have j1 := jx_w fl[i]
      have j2 := jx_eq fl[i]
      obtain ⟨h2, m2, m2', c2', t2, w2', n2⟩ := mkV0 w1
      have c2' : Ce h2 h1.nb (vR ⟨0, 0, 0, 0⟩) := c2'
      obtain ⟨h3, s3, c3, t3, w3', n3⟩ := Ce.stR w2' c2' ⟨kq fl[i], 0, 0, 0⟩
      obtain ⟨l3, l3', l3a, l3a'⟩ := Ce.lR c3
      have l3 : ∀ kk : AV → Res, ld1 h3 (.ptr h1.nb (Nat.add 0 0)) kk = kk (.int 63 (kq fl[i] : Int)) := l3
      have l3' : ∀ kk : AV → Res, ld1 h3 (.ptr h1.nb 0) kk = kk (.int 63 (kq fl[i] : Int)) := l3'
      have o3 : To (fun x => N ≤ x) h h3 := ((t1.mono fun _ _ f => f.elim).trans (t2.mono fun _ _ f => f.elim)).trans (t3.mono fun x _ e => by have : x = h1.nb := e; show N ≤ x; omega)
      have r3 : Rws h3 (fun x => N ≤ x ∧ x < h1.nb) 3 o (l.map vR) := (((ho.to t1 (fun _ _ _ f => f)).mono fun x hx hlt => ⟨hx, hlt⟩).to t2 (fun _ _ _ f => f)).to t3 (fun x hx _ e => by have : x = h1.nb := e; have := hx.2; omega)
      have i1 := s1n i (by omega)
      -- the element with its name
      have go : ∃ h5, To (fun x => N ≤ x) h h5 ∧ Wf h5 ∧ Ce h5 h1.nb (vR (gq fl[i])) ∧ Rws h5 (fun x => N ≤ x ∧ x < h1.nb) 3 o (l.map vR) ∧
          ((kq fl[i] = 7 ∧ (∀ kk : Hp → Res, st1 h3 (.ptr h1.nb (Nat.add 0 1)) (.str 1 113) kk = kk h5) ∧ (∀ kk : Hp → Res, st1 h3 (.ptr h1.nb 1) (.str 1 113) kk = kk h5)) ∨ (kq fl[i] ≠ 7 ∧ h5 = h3)) := by
        by_cases c7 : kq fl[i] = 7
        · obtain ⟨h4, s4, s4', c4, t4, w4, n4⟩ := Ce.sN w3' c3 1 113
          have en : (⟨kq fl[i], 1, 113, 0⟩ : Vt) = gq fl[i] := by unfold gq; rw [if_pos c7, c7]
          refine ⟨h4, o3.trans (t4.mono fun x _ e => by have : x = h1.nb := e; show N ≤ x; omega), w4, ?_, r3.to t4 (fun x hx _ e => by have : x = h1.nb := e; have := hx.2; omega), .inl ⟨c7, s4, s4'⟩⟩
          rw [← en]; exact c4
        · refine ⟨h3, o3, w3', ?_, r3, .inr ⟨c7, rfl⟩⟩
          have en : (⟨kq fl[i], 0, 0, 0⟩ : Vt) = gq fl[i] := by unfold gq; rw [if_neg c7]
          rw [← en]; exact c3
      obtain ⟨h5, o5, w5, c5, r5, hcase⟩ := go
      have d5 := fun kk => Ce.ldR c5 kk
      have nb5 := o5.nb
      obtain ⟨p', h6, h7, g1, g2, g3, g4, g5⟩ := vR_appP w5 r5 (gq fl[i]) (by omega)
      have c7' := c5.to g4 (fun e => by have := e.2; omega)
      have l7 : ∀ kk : AV → Res, ld1 h7 (.ptr h1.nb (Nat.add 0 0)) kk = kk (.int 63 (kq fl[i] : Int)) := fun kk => by have := (Ce.lR c7').1 kk; rwa [gq_k] at this
      have l7' : ∀ kk : AV → Res, ld1 h7 (.ptr h1.nb 0) kk = kk (.int 63 (kq fl[i] : Int)) := l7
      have o7 : To (fun x => N ≤ x) h h7 := o5.trans (g4.mono fun x _ e => e.1)
      have g3 : Rws h7 (fun x => N ≤ x) 3 p' ((l ++ [gq fl[i]]).map vR) := g3.mono fun x hx _ => hx.elim (fun e => e.1) (fun e => by show N ≤ x; omega)
      have nb7 := o7.nb
      have hbl := bq_len fl[i]
      rw [fsq_in fl n l i hi hl]
      have fin : ∀ (q : AV) (h9 : Hp), L22n0 [v, .int 63 (n : Int), w2, w3, w4, o, .int 63 (i : Int)] h = .norm [v, .int 63 (n : Int), w2, w3, w4, q, .int 63 ((i + 1 : Nat) : Int)] h9 →
          To (fun x => N ≤ x) h h9 → Wf h9 → Rws h9 (fun x => N ≤ x) 3 q ((l ++ bq fl[i]).map vR) →
          ∃ o' h', lp L22n0 (m + 1) [v, .int 63 (n : Int), w2, w3, w4, o, .int 63 (i : Int)] h = .exit 0 [.int 63 (n : Int), w2, w3, w4, o'] h' ∧ Rws h' (fun x => N ≤ x) 3 o' ((fsq (fl.drop (i + 1)) n (l ++ bq fl[i])).map vR) ∧ To (fun x => N ≤ x) h h' ∧ Wf h' := by
        intro q h9 e o9 w9 r9
        rw [lpn m e]
        have nb9 := o9.nb
        obtain ⟨o'', h10, f1, f2, f3, f4⟩ := ih (i + 1) m q (l ++ bq fl[i]) h9 (by simp; omega) (by omega) (by simp; omega) (by simp; omega) (by omega) w9 (hv.to o9 (fun x hx e => by have : N ≤ x := e; have := hP x hx; omega)) r9
        exact ⟨o'', h10, f1, f2, o9.trans f3, f4⟩
      by_cases c4 : kq fl[i] = 4
      · have hb : bq fl[i] = [gq fl[i]] ++ [⟨0, 0, 0, 0⟩] := by unfold bq; rw [if_pos c4]; rfl
        obtain ⟨u', h8, h9, y1, y2, y3, y4, y5⟩ := vR_app g5 (by omega) g3 ⟨0, 0, 0, 0⟩ (by simp; omega)
        have k4 : ((kq fl[i] : Nat) : Int) = 4 := by omega
        rcases hcase with ⟨c7, _, _⟩ | ⟨c7, rfl⟩
        · omega
        refine fin u' h9 ?_ (o7.trans y4) y5 (by rw [hb, ← List.append_assoc]; exact y3)
        simp only [k4] at x1 l3 l3' l7 l7'
        have bq4 : ∀ k : AV → Res, bld [(false, 1, .int 63 4), (false, 1, (.str 0 0)), (false, 1, (.int 63 (.ofNat 0)))] k = k (avL (vR ⟨kq fl[i], 0, 0, 0⟩)) := fun k => by have := bgq (kq fl[i]) k; rwa [k4] at this
        have bq4' : ∀ k : AV → Res, bld [(false, 1, .int 63 4), (false, 1, (.str 0 0)), (false, 1, (.int 63 0))] k = k (avL (vR ⟨kq fl[i], 0, 0, 0⟩)) := fun k => bq4 k
        simp only [↓L22n0, ↓lf, ↓ln, c1, c2, ↓bK5, ↓m1, ↓x0, j1, j2, ↓x1, ↓bq4, ↓bq4', ↓m2, ↓m2', ↓s3, ↓cP_p, ↓l3, ↓l3', ↓d5, ↓bldA, ↓g1, ↓g2, ↓l7, ↓l7', ↓bfil, ↓y1, ↓y2, i1, blk_n1, beq_self_eq_true, ↓SD, SA, Int.ofNat_eq_natCast, Int.cast_ofNat_Int, Int.reduceBEq, Int.reduceAdd, Int.reduceNeg, Int.reduceNegSucc, Int.reduceLT, Int.reduceLE, Int.reduceMul, Int.reduceTMod, Int.reduceSub, Int.reduceBNe, Bool.not_true, Bool.not_false, decide_true, decide_false, ne_eq, not_false_eq_true, Int.reduceEq, reduceCtorEq]
      · have hb : bq fl[i] = [gq fl[i]] := by unfold bq; rw [if_neg c4]
        have k4 : (((kq fl[i] : Nat) : Int) == 4) = false := by have e : ¬ ((kq fl[i] : Nat) : Int) = 4 := (by omega); simpa using e
        refine fin p' h7 ?_ o7 g5 (by rw [hb]; exact g3)
        rcases hcase with ⟨c7, s4, s4'⟩ | ⟨c7, rfl⟩
        · have k7 : (((kq fl[i] : Nat) : Int) == 7) = true := by have e : ((kq fl[i] : Nat) : Int) = 7 := (by omega); simpa using e
          simp only [↓L22n0, ↓lf, ↓ln, c1, c2, ↓bK5, ↓m1, ↓x0, j1, j2, ↓x1, ↓bgq, ↓bgq', ↓m2, ↓m2', ↓s3, ↓cP_p, ↓l3, ↓l3', k7, ↓s4, ↓s4', ↓d5, ↓bldA, ↓g1, ↓g2, ↓l7, ↓l7', k4, i1, blk_n1, ↓SD, SA, Int.ofNat_eq_natCast, Int.cast_ofNat_Int, Int.reduceBEq, Int.reduceAdd, Int.reduceNeg, Int.reduceNegSucc, Int.reduceLT, Int.reduceLE, Int.reduceMul, Int.reduceTMod, Int.reduceSub, Int.reduceBNe, Bool.not_true, Bool.not_false, decide_true, decide_false, ne_eq, not_false_eq_true, Int.reduceEq, reduceCtorEq]
        · have k7 : (((kq fl[i] : Nat) : Int) == 7) = false := by have e : ¬ ((kq fl[i] : Nat) : Int) = 7 := (by omega); simpa using e
          simp only [↓L22n0, ↓lf, ↓ln, c1, c2, ↓bK5, ↓m1, ↓x0, j1, j2, ↓x1, ↓bgq, ↓bgq', ↓m2, ↓m2', ↓s3, ↓cP_p, ↓l3, ↓l3', k7, ↓d5, ↓bldA, ↓g1, ↓g2, ↓l7, ↓l7', k4, i1, blk_n1, ↓SD, SA, Int.ofNat_eq_natCast, Int.cast_ofNat_Int, Int.reduceBEq, Int.reduceAdd, Int.reduceNeg, Int.reduceNegSucc, Int.reduceLT, Int.reduceLE, Int.reduceMul, Int.reduceTMod, Int.reduceSub, Int.reduceBNe, Bool.not_true, Bool.not_false, decide_true, decide_false, ne_eq, not_false_eq_true, Int.reduceEq, reduceCtorEq]
    · refine ⟨o, h, stop i m o l h hc hv ho, ?_, To.refl _ _, hw⟩
      rw [fsq_out _ _ _ _ hc]; exact ho
end Go.Proofs.Ytnpfppddongbhaa
end

section
namespace Go.Proofs.Ytnpfppddongbhaa
open Go Go.AM
set_option autoImplicit false
/-! ### places rise -/
noncomputable def aR (a : Nat) : List AV := [.int 63 (a : Int)]
theorem aR_pt {h : Hp} {P : Nat → Prop} {v : AV} {l : List Nat} (hr : Rws h P 1 v (l.map aR)) (i : Nat) (hi : i < l.length) :
    ∃ b o, (∀ k : AV → Res, ixA 1 v (.int 63 (i : Int)) k = k (.ptr b o)) ∧ (∀ k : AV → Res, ld1 h (.ptr b o) k = k (.int 63 (l[i] : Int))) := by
  have hi' : i < (l.map aR).length := by simpa using hi
  obtain ⟨b, o, e1, e2, e3⟩ := hr.pt i hi'
  have hg : (l.map aR)[i] = [.int 63 (l[i] : Int)] := by rw [List.getElem_map]; rfl
  refine ⟨b, o, e1, fun k => ?_⟩
  have := e3 0 (by rw [hg]; simp) k; simp only [hg] at this; exact this
theorem aR_len {h : Hp} {P : Nat → Prop} {v : AV} {l : List Nat} (hr : Rws h P 1 v (l.map aR)) (k : AV → Res) : lenL v k = k (.int 63 (l.length : Int)) := by
  have := hr.len k; rwa [List.length_map] at this
theorem blk_n5 {vs : List AV} {h : Hp} (k : List AV → Hp → Res) : blk 5 (.norm vs h) k = k vs h := of_eq_true (eq_self _)
theorem loop22c {h : Hp} {P : Nat → Prop} {v : AV} {l : List Nat} (w1 w2 w3 w4 w5 w6 : AV) (r : Rws h P 1 v (l.map aR)) (hs : ∀ j (hj : j + 1 < l.length), l[j] < l[j + 1]) (hl : l.length ≤ 100000) :
    ∀ (n j m : Nat), n < m → l.length ≤ j + 1 + n → lp L22n2 m [w1, w2, w3, w4, w5, w6, v, .bool true, .int 63 ((j + 1 : Nat) : Int)] h = .exit 4 [w1, w2, w3, w4, w5, w6, v, .bool true] h := by
  have ln := fun kk => aR_len r kk
  have stop : ∀ (j m : Nat), ¬ j + 1 < l.length → lp L22n2 (m + 1) [w1, w2, w3, w4, w5, w6, v, .bool true, .int 63 ((j + 1 : Nat) : Int)] h = .exit 4 [w1, w2, w3, w4, w5, w6, v, .bool true] h := by
    intro j m hj
    have c1 : ¬ ((j + 1 : Nat) : Int) < (l.length : Int) := by omega
    exact lpx m (by simp only [↓L22n2, ↓ln, c1, ↓SD, SA, Int.ofNat_eq_natCast, Int.cast_ofNat_Int, Int.reduceBEq, Int.reduceAdd, Int.reduceNeg, Int.reduceNegSucc, Int.reduceLT, Int.reduceLE, Int.reduceMul, Int.reduceTMod, Int.reduceSub, Int.reduceBNe, Bool.not_true, Bool.not_false, decide_true, decide_false, ne_eq, not_false_eq_true, Int.reduceEq, reduceCtorEq])
  intro n
  induction n with
  | zero =>
    intro j m hm hj
    obtain ⟨m, rfl⟩ : ∃ k, m = k + 1 := ⟨m - 1, by omega⟩
    exact stop j m (by omega)
  | succ n ih =>
    intro j m hm hj
    obtain ⟨m, rfl⟩ : ∃ k, m = k + 1 := ⟨m - 1, by omega⟩
    by_cases hc : j + 1 < l.length
    · have c1 : ((j + 1 : Nat) : Int) < (l.length : Int) := by omega
      obtain ⟨b1, o1, x1, y1⟩ := aR_pt r (j + 1) hc
      obtain ⟨b2, o2, x2, y2⟩ := aR_pt r j (by omega)
      have h1 := hs j hc
      have c2 : ((l[j] : Nat) : Int) < ((l[j + 1] : Nat) : Int) := by omega
      have i1 := s1n (j + 1) (by omega)
      have i2 : wrapC 63 (((j + 1 : Nat) : Int) - 1) = (j : Int) := by rw [w63_in _ (by omega) (by omega)]; omega
      have e : L22n2 [w1, w2, w3, w4, w5, w6, v, .bool true, .int 63 ((j + 1 : Nat) : Int)] h = .norm [w1, w2, w3, w4, w5, w6, v, .bool true, .int 63 ((j + 1 + 1 : Nat) : Int)] h := by
        simp only [↓L22n2, ↓ln, c1, ↓x1, ↓y1, i2, ↓x2, ↓y2, c2, i1, blk_n5, ↓SD, SA, Int.ofNat_eq_natCast, Int.cast_ofNat_Int, Int.reduceBEq, Int.reduceAdd, Int.reduceNeg, Int.reduceNegSucc, Int.reduceLT, Int.reduceLE, Int.reduceMul, Int.reduceTMod, Int.reduceSub, Int.reduceBNe, Bool.not_true, Bool.not_false, decide_true, decide_false, ne_eq, not_false_eq_true, Int.reduceEq, reduceCtorEq]
      rw [lpn m e]
      exact ih (j + 1) m (by omega) (by omega)
    · exact stop j m hc
theorem loop22c0 {h : Hp} (w1 w2 w3 w4 w5 w6 : AV) (b : Bool) : lp L22n2 most [w1, w2, w3, w4, w5, w6, .nils, .bool b, .int 63 1] h = .exit 4 [w1, w2, w3, w4, w5, w6, .nils, .bool b] h := by
  have ln := fun kk => (Rws.nil h (fun _ => False) 1).len kk
  have ln : ∀ kk : AV → Res, lenL .nils kk = kk (.int 63 0) := ln
  have : lp L22n2 (999999 + 1) [w1, w2, w3, w4, w5, w6, .nils, .bool b, .int 63 1] h = .exit 4 [w1, w2, w3, w4, w5, w6, .nils, .bool b] h :=
    lpx _ (by simp only [↓L22n2, ↓ln, ↓SD, SA, Int.ofNat_eq_natCast, Int.cast_ofNat_Int, Int.reduceBEq, Int.reduceAdd, Int.reduceNeg, Int.reduceNegSucc, Int.reduceLT, Int.reduceLE, Int.reduceMul, Int.reduceTMod, Int.reduceSub, Int.reduceBNe, Bool.not_true, Bool.not_false, decide_true, decide_false, ne_eq, not_false_eq_true, Int.reduceEq, reduceCtorEq])
  exact this
/-! ### what stated frames mean -/
/-- The locals behind an entry. -/
def nxt (m : Mv) (l : List Vt) : Option (List Vt) :=
  if 248 ≤ m.tag ∧ m.tag ≤ 250 then (if l.length < 251 - m.tag then none else some (l.take (l.length - (251 - m.tag))))
  else if 252 ≤ m.tag ∧ m.tag ≤ 254 then some (l ++ (m.loc.map raw).map nmd)
  else if m.tag = 255 then some ((m.loc.map raw).map nmd)
  else some l
/-- A frame: its place, locals (as they are spread), operands (as they stand). -/
structure Fv where
  at_ : Nat
  loc : List Vt
  stk : List Vt
/-- The frames of entries, from locals l and the place p on, put behind those that are there. -/
def frs (N S : Nat) : List Mv → List Vt → Nat → List Fv → Option (List Fv)
  | [], _, _, a => some a
  | m :: ms, l, p, a => match nxt m l with
    | none => none
    | some l' =>
      if N < (l'.flatMap (wid 0)).length ∨ S < (((m.stk.map raw).map nmd).flatMap (wid 99)).length then none
      else frs N S ms l' (p + m.delta + 1) (a ++ [⟨p + m.delta, fil (l'.flatMap (wid 0)) N, (m.stk.map raw).map nmd⟩])
theorem frs_rise (N S : Nat) : ∀ (ms : List Mv) (l : List Vt) (p : Nat) (a r : List Fv), frs N S ms l p a = some r →
    (∀ f ∈ a, f.at_ < p) → (a.map (·.at_)).Pairwise (· < ·) → (r.map (·.at_)).Pairwise (· < ·) := by
  intro ms
  induction ms with
  | nil => intro l p a r h _ hp; simp only [frs, Option.some.injEq] at h; rwa [← h]
  | cons m ms ih =>
    intro l p a r h ha hp
    rw [frs] at h
    split at h
    · cases h
    · split at h
      · cases h
      · refine ih _ _ _ _ h (fun f hf => ?_) ?_
        · rcases List.mem_append.1 hf with hf | hf
          · have := ha f hf; omega
          · rw [List.mem_singleton] at hf; subst hf; show p + m.delta < p + m.delta + 1; omega
        · rw [List.map_append, List.pairwise_append]
          refine ⟨hp, by simp, fun x hx y hy => ?_⟩
          simp only [List.map_cons, List.map_nil, List.mem_singleton] at hy
          obtain ⟨f, hf, rfl⟩ := List.mem_map.1 hx
          have := ha f hf; omega
end Go.Proofs.Ytnpfppddongbhaa
end

section
namespace Go.Proofs.Ytnpfppddongbhaa
open Go Go.AM
set_option autoImplicit false
/-! ### rows of cells of which two are rows -/
/-- The slice v reads as the entries ms; its own blocks lie from N on and below M; those of its entries' rows from N on, apart. -/
def PR {α : Type} (n : Nat) (mk : α → AV → AV → List AV) (p q : α → List (List AV)) (h : Hp) (N M : Nat) (v : AV) (ms : List α) : Prop :=
  ∃ (P : Nat → Prop) (rs : List (List AV)), Rws h P n v rs ∧ (∀ x, P x → N ≤ x ∧ x < M) ∧ rs.length = ms.length ∧ ∀ i (hi : i < ms.length) (hi' : i < rs.length), ∃ vl vs, rs[i] = mk ms[i] vl vs ∧ Rws h (fun x => N ≤ x ∧ ¬ P x) 3 vl (p ms[i]) ∧ Rws h (fun x => N ≤ x ∧ ¬ P x) 3 vs (q ms[i])
theorem PR.nil {α : Type} (n : Nat) (mk : α → AV → AV → List AV) (p q : α → List (List AV)) (h : Hp) (N M : Nat) : PR n mk p q h N M .nils [] := ⟨fun _ => False, [], Rws.nil _ _ _, fun x f => f.elim, rfl, fun i hi => by simp at hi⟩
theorem PR.to {α : Type} {n : Nat} {mk : α → AV → AV → List AV} {p q : α → List (List AV)} {h h' : Hp} {N M : Nat} {v : AV} {ms : List α} {W : Nat → Prop} (hm : PR n mk p q h N M v ms) (ht : To W h h') (hd : ∀ x, N ≤ x → x < h.nb → ¬ W x) : PR n mk p q h' N M v ms := by
  obtain ⟨P, rs, r, hP, hl, hi⟩ := hm
  refine ⟨P, rs, r.to ht (fun x hx hlt => hd x (hP x hx).1 hlt), hP, hl, fun i h1 h2 => ?_⟩
  obtain ⟨vl, vs, e, r1, r2⟩ := hi i h1 h2
  exact ⟨vl, vs, e, r1.to ht (fun x hx hlt => hd x hx.1 hlt), r2.to ht (fun x hx hlt => hd x hx.1 hlt)⟩
theorem PR.grow {α : Type} {n : Nat} {mk : α → AV → AV → List AV} {p q : α → List (List AV)} {h : Hp} {N M M' : Nat} {v : AV} {ms : List α} (hm : PR n mk p q h N M v ms) (h1 : M ≤ M') : PR n mk p q h N M' v ms := by
  obtain ⟨P, rs, r, hP, hl, hi⟩ := hm
  exact ⟨P, rs, r, fun x hx => ⟨(hP x hx).1, by have := (hP x hx).2; omega⟩, hl, hi⟩
theorem PR.len {α : Type} {n : Nat} {mk : α → AV → AV → List AV} {p q : α → List (List AV)} {h : Hp} {N M : Nat} {v : AV} {ms : List α} (hm : PR n mk p q h N M v ms) (k : AV → Res) : lenL v k = k (.int 63 (ms.length : Int)) := by
  obtain ⟨P, rs, r, hP, hl, hi⟩ := hm
  rw [← hl]; exact r.len k
theorem PR.cK {α : Type} {n : Nat} {mk : α → AV → AV → List AV} {p q : α → List (List AV)} {h : Hp} {N M : Nat} {v : AV} {ms : List α} (hm : PR n mk p q h N M v ms) (k : AV → Res) : cK v k = k v := by
  obtain ⟨P, rs, r, hP, hl, hi⟩ := hm; exact r.cK k
theorem PR.app {α : Type} {n : Nat} {mk : α → AV → AV → List AV} {p q : α → List (List AV)} {h : Hp} {N M : Nat} {v : AV} {ms : List α} (hw : Wf h) (hm : PR n mk p q h N M v ms) (hNM : N ≤ M) (hM : M ≤ h.nb) (m : α) {vl vs : AV} (r1 : Rws h (fun x => M ≤ x) 3 vl (p m)) (r2 : Rws h (fun x => M ≤ x) 3 vs (q m)) (hsz : ms.length ≤ 100000) (by_ : Nat) (hb : by_ ≤ 64) (hn : 0 < n) (hk : (mk m vl vs).length = n) (ho : ∀ x ∈ mk m vl vs, one x = true) :
    ∃ v' h1 h', (∀ k : AV → Hp → Res, mkS h n 1 (avL (mk m vl vs)) k = k (.sl h.nb 0 1 n (some 1)) h1) ∧ (∀ k : AV → Hp → Res, apd h1 n by_ v (.sl h.nb 0 1 n (some 1)) k = k v' h') ∧ PR n mk p q h' N h'.nb v' (ms ++ [m]) ∧ To (fun x => N ≤ x ∧ x < M) h h' ∧ Wf h' := by
  obtain ⟨P, rs, r, hP, hl, hi⟩ := hm
  obtain ⟨v', h1, h', g1, g2, g3, g4, g5⟩ := apd_rows (by_ := by_) hw r hn (mk m vl vs) hk ho (by have := Nat.mul_le_mul (show rs.length + 1 ≤ 100001 by omega) hb; omega) (by omega)
  have nb := g4.nb
  have keep : ∀ {w : AV} {l : List (List AV)}, Rws h (fun x => N ≤ x ∧ ¬ P x) 3 w l → Rws h' (fun x => N ≤ x ∧ ¬ (P x ∨ h.nb ≤ x ∧ x < h'.nb)) 3 w l := fun hr =>
    (hr.mono (Q := fun x => N ≤ x ∧ ¬ P x ∧ x < h.nb) fun x hx hlt => ⟨hx.1, hx.2, hlt⟩).to g4 (fun x hx _ => hx.2.1) |>.mono fun x hx _ => ⟨hx.1, fun hh => by rcases hh with hh | hh; exact hx.2.1 hh; omega⟩
  have new : ∀ {w : AV} {l : List (List AV)}, Rws h (fun x => M ≤ x) 3 w l → Rws h (fun x => N ≤ x ∧ ¬ P x) 3 w l := fun hr => hr.mono fun x hx _ => ⟨by have hx : M ≤ x := hx; omega, fun hh => by have hx : M ≤ x := hx; have := (hP x hh).2; omega⟩
  refine ⟨v', h1, h', g1, g2, ⟨fun x => P x ∨ h.nb ≤ x ∧ x < h'.nb, rs ++ [mk m vl vs], g3.mono (fun x hx hlt => ?_), fun x hx => ?_, by simp [hl], fun i h3 h4 => ?_⟩, g4.mono fun x _ hx => hP x hx, g5⟩
  · rcases hx with hx | hx
    · exact .inl hx
    · exact .inr ⟨hx, hlt⟩
  · rcases hx with hx | hx
    · have := hP x hx; exact ⟨this.1, by omega⟩
    · omega
  · by_cases c : i < ms.length
    · obtain ⟨wl, ws, e, q1, q2⟩ := hi i c (by omega)
      refine ⟨wl, ws, ?_, ?_, ?_⟩
      · rw [List.getElem_append_left (by omega), List.getElem_append_left c]; exact e
      · rw [List.getElem_append_left c]; exact keep q1
      · rw [List.getElem_append_left c]; exact keep q2
    · have hlen : i = ms.length := by simp at h3; omega
      subst hlen
      refine ⟨vl, vs, ?_, ?_, ?_⟩
      · rw [List.getElem_append_right (by omega), List.getElem_append_right (by omega)]; simp [hl]
      · rw [List.getElem_append_right (by omega)]; simp only [Nat.sub_self, List.getElem_cons_zero]; exact keep (new r1)
      · rw [List.getElem_append_right (by omega)]; simp only [Nat.sub_self, List.getElem_cons_zero]; exact keep (new r2)
end Go.Proofs.Ytnpfppddongbhaa
end

section
namespace Go.Proofs.Ytnpfppddongbhaa
open Go Go.AM
set_option autoImplicit false
/-! ### rows whose capacity may be known -/
def Rwc (h : Hp) (P : Nat → Prop) (n : Nat) (v : AV) (rs : List (List AV)) : Prop :=
  ∃ w, Rws h P n w rs ∧ (v = w ∨ ∃ b, w = .sl b 0 rs.length n none ∧ v = .sl b 0 rs.length n (some rs.length))
section
variable {h h' : Hp} {P Q W : Nat → Prop} {n : Nat} {v : AV} {rs : List (List AV)}
theorem Rws.c (hr : Rws h P n v rs) : Rwc h P n v rs := ⟨v, hr, .inl rfl⟩
theorem Rwc.to (hr : Rwc h P n v rs) (ht : To W h h') (hd : ∀ b, P b → b < h.nb → ¬ W b) : Rwc h' P n v rs := by
  obtain ⟨w, r, e⟩ := hr; exact ⟨w, r.to ht hd, e⟩
theorem Rwc.mono (hr : Rwc h P n v rs) (hd : ∀ b, P b → b < h.nb → Q b) : Rwc h Q n v rs := by
  obtain ⟨w, r, e⟩ := hr; exact ⟨w, r.mono hd, e⟩
theorem Rwc.len (hr : Rwc h P n v rs) (k : AV → Res) : lenL v k = k (.int 63 (rs.length : Int)) := by
  obtain ⟨w, r, rfl | ⟨b, rfl, rfl⟩⟩ := hr
  · exact r.len k
  · rfl
theorem Rwc.src (hr : Rwc h P n v rs) (k : Nat → AV → Res) : src h n v k = k rs.length (avL rs.flatten) := by
  obtain ⟨w, r, rfl | ⟨b, rfl, rfl⟩⟩ := hr
  · exact r.src k
  · exact r.src k
theorem Rwc.pt (hr : Rwc h P n v rs) : ∃ w, Rws h P n w rs ∧ ∀ (i : AV) (k : AV → Res), ixA n v i k = ixA n w i k := by
  obtain ⟨w, r, rfl | ⟨b, rfl, rfl⟩⟩ := hr
  · exact ⟨v, r, fun _ _ => rfl⟩
  · exact ⟨_, r, fun _ _ => rfl⟩
theorem Rwc.cK (hr : Rwc h P n v rs) (k : AV → Res) : cK v k = k v := by
  obtain ⟨w, r, rfl | ⟨b, rfl, rfl⟩⟩ := hr
  · exact r.cK k
  · rfl
/-- A cut whose capacity is its length. -/
theorem Rwc.cut (hr : Rwc h P n v rs) (k : Nat) (hk : k ≤ rs.length) :
    ∃ v', (∀ f : AV → Res, cutS n v none (some (.int 63 (k : Int))) (some (.int 63 (k : Int))) f = f v') ∧ Rwc h P n v' (rs.take k) := by
  have nn : Nat.beq n n = true := (beq_iff n n).2 rfl
  have hl : (rs.take k).length = k := by rw [List.length_take, Nat.min_eq_left hk]
  have o0 : cutO 0 0 n k = 0 := by
    have e : cutO 0 0 n k = Bool.rec (motive := fun _ => Nat) (Nat.add 0 (Nat.mul 0 n)) 0 (Nat.beq k 0) := rfl
    rw [e]; cases Nat.beq k 0
    · show Nat.add 0 (0 * n) = 0; rw [Nat.zero_mul]
    · rfl
  have r0 : ∀ {w : AV}, Rws h P n w rs → ∃ w', (∀ f : AV → Res, cutS n w none (some (.int 63 (k : Int))) none f = f w') ∧ Rws h P n w' (rs.take k) := fun {w} r => Rws.cut r k hk
  obtain ⟨w, r, e⟩ := hr
  have r' := r
  obtain ⟨h0, ⟨rfl, rfl⟩ | ⟨b, B, rfl, g1, g2, g3, g4, g5, g6⟩⟩ := r'
  · rcases e with rfl | ⟨b, e, -⟩
    · obtain rfl : k = 0 := by simpa using hk
      exact ⟨.nils, fun f => rfl, by have := Rws.c r; simpa using this⟩
    · cases e
  · obtain ⟨w', c1, c2⟩ := r0 r
    have e1 : ∀ f : AV → Res, cutS n (.sl b 0 rs.length n none) none (some (.int 63 (k : Int))) none f = f (.sl b 0 k n none) := fun f => by
      have e : cutS n (.sl b 0 rs.length n none) none (some (.int 63 (k : Int))) none f = ifB (Nat.beq n n) (ifB (Nat.ble k rs.length) (ifB (Nat.ble 0 k) (ifB (Nat.beq 0 0) (f (.sl b 0 k n none)) .fail) .fail) .fail) .fail := rfl
      rw [e, nn, (ble_iff _ _).2 hk]; rfl
    have hb : ∃ b', w' = .sl b' 0 (rs.take k).length n none ∧ b' = b ∨ w' = .nils ∧ False := by
      obtain ⟨d0, ⟨rfl, e0⟩ | ⟨b', B', rfl, -⟩⟩ := c2
      · have := c1 (fun x => .ret x h); rw [e1] at this; cases this
      · have := c1 (fun x => .ret x h); rw [e1] at this
        injection this with q1 q2; injection q1 with q3 q4
        exact ⟨b', .inl ⟨rfl, q3.symm⟩⟩
    obtain ⟨b', ⟨rfl, rfl⟩ | ⟨_, f⟩⟩ := hb
    · refine ⟨.sl b' 0 k n (some k), fun f => ?_, ⟨_, c2, .inr ⟨b', rfl, by rw [hl]⟩⟩⟩
      rcases e with rfl | ⟨b2, e2, rfl⟩
      · have e : cutS n (.sl b' 0 rs.length n none) none (some (.int 63 (k : Int))) (some (.int 63 (k : Int))) f = ifB (Nat.beq n n) (ifB (Nat.ble k rs.length) (ifB (Nat.ble k k) (ifB (Nat.ble 0 k) (f (.sl b' (cutO 0 0 n k) (Nat.sub k 0) n (some (Nat.sub k 0)))) .fail) .fail) .fail) .fail := rfl
        rw [e, nn, (ble_iff _ _).2 hk, (ble_iff _ _).2 (Nat.le_refl k), o0]; rfl
      · injection e2 with q
        subst q
        have e : cutS n (.sl b' 0 rs.length n (some rs.length)) none (some (.int 63 (k : Int))) (some (.int 63 (k : Int))) f = ifB (Nat.beq n n) (ifB (Nat.ble k rs.length) (ifB (Nat.ble k k) (ifB (Nat.ble 0 k) (f (.sl b' (cutO 0 0 n k) (Nat.sub k 0) n (some (Nat.sub k 0)))) .fail) .fail) .fail) .fail := rfl
        rw [e, nn, (ble_iff _ _).2 hk, (ble_iff _ _).2 (Nat.le_refl k), o0]; rfl
    · exact f.elim
end
theorem vC_pt {h : Hp} {P : Nat → Prop} {v : AV} {l : List Vt} (hr : Rwc h P 3 v (l.map vR)) (i : Nat) (hi : i < l.length) :
    ∃ b o, (∀ k : AV → Res, ixA 3 v (.int 63 (i : Int)) k = k (.ptr b o)) ∧ (∀ k : AV → Res, ldN h 3 (.ptr b o) k = k (.agg (avL (vR l[i])))) ∧
      (∀ k : AV → Res, ld1 h (.ptr b (Nat.add o 0)) k = k (.int 63 (l[i].k : Int))) ∧ (∀ k : AV → Res, ld1 h (.ptr b (Nat.add o 1)) k = k (.str l[i].n l[i].x)) ∧ (∀ k : AV → Res, ld1 h (.ptr b (Nat.add o 2)) k = k (.int 63 (l[i].a : Int))) := by
  obtain ⟨w, r, e⟩ := hr.pt
  obtain ⟨b, o, x, y⟩ := vR_pt r i hi
  exact ⟨b, o, fun k => (e _ k).trans (x k), y⟩
theorem vC_len {h : Hp} {P : Nat → Prop} {v : AV} {l : List Vt} (hr : Rwc h P 3 v (l.map vR)) (k : AV → Res) : lenL v k = k (.int 63 (l.length : Int)) := by
  have := hr.len k; rwa [List.length_map] at this
theorem vC_cut {h : Hp} {P : Nat → Prop} {v : AV} {l : List Vt} (hv : Rwc h P 3 v (l.map vR)) (k : Nat) (hk : k ≤ l.length) :
    ∃ v', (∀ f : AV → Res, cutS 3 v none (some (.int 63 (k : Int))) (some (.int 63 (k : Int))) f = f v') ∧ Rwc h P 3 v' ((l.take k).map vR) := by
  obtain ⟨v', e, r⟩ := Rwc.cut hv k (by simpa using hk)
  exact ⟨v', e, by rw [List.map_take]; exact r⟩
/-- Rows behind rows, where those that are put may have a capacity. -/
theorem vC_appN {h : Hp} {P Q : Nat → Prop} {v w : AV} {l m : List Vt} (hw : Wf h) (hv : Rws h P 3 v (l.map vR)) (hs : Rwc h Q 3 w (m.map vR)) (hl : l.length ≤ 300000) (hm : m.length ≤ 300000) :
    ∃ v' h', (∀ k : AV → Hp → Res, apd h 3 32 v w k = k v' h') ∧ Rws h' (fun x => P x ∨ h.nb ≤ x) 3 v' ((l ++ m).map vR) ∧ To P h h' ∧ Wf h' := by
  have hs1 := hs.src
  obtain ⟨u, r, -⟩ := hs
  have hs2 := r.src
  obtain ⟨v', h', e, q⟩ := vR_appN hw hv r hl hm
  refine ⟨v', h', fun k => ?_, q⟩
  rw [← e k]
  show src h 3 w _ = src h 3 u _
  rw [hs1, hs2]
theorem loop91c {s N : Nat} {P : Nat → Prop} {v : AV} {l : List Vt} (hP : ∀ x, P x → x < N) (hl : l.length ≤ 100000) : ∀ (n i m : Nat) (o : AV) (h : Hp), n < m → i + n = l.length → N ≤ h.nb → Wf h → Rwc h P 3 v (l.map vR) → Rws h (fun x => N ≤ x) 3 o (((l.take i).flatMap (wid s)).map vR) →
    ∃ o' h', lp L91n0 m [v, .int 63 (s : Int), o, .int 63 (i : Int)] h = .exit 0 [o'] h' ∧ Rws h' (fun x => N ≤ x) 3 o' ((l.flatMap (wid s)).map vR) ∧ To (fun x => N ≤ x) h h' ∧ Wf h' := by
  intro n
  induction n with
  | zero =>
    intro i m o h hm hi hnb hw hv ho
    obtain ⟨m, rfl⟩ : ∃ k, m = k + 1 := ⟨m - 1, by omega⟩
    have ln := fun kk => vC_len hv kk
    have c1 : ¬ (i : Int) < (l.length : Int) := by omega
    rw [List.take_of_length_le (by omega)] at ho
    exact ⟨o, h, lpx m (by simp only [↓L91n0, ↓ln, c1, ↓SD, SA, Int.ofNat_eq_natCast, Int.cast_ofNat_Int, Int.reduceBEq, Int.reduceAdd, Int.reduceNeg, Int.reduceNegSucc, Int.reduceLT, Int.reduceLE, Int.reduceMul, Int.reduceTMod, Int.reduceSub, Int.reduceBNe, Bool.not_true, Bool.not_false, decide_true, decide_false, ne_eq, not_false_eq_true, Int.reduceEq, reduceCtorEq]), ho, To.refl _ _, hw⟩
  | succ n ih =>
    intro i m o h hm hi hnb hw hv ho
    obtain ⟨m, rfl⟩ : ∃ k, m = k + 1 := ⟨m - 1, by omega⟩
    have ln := fun kk => vC_len hv kk
    have c1 : (i : Int) < (l.length : Int) := by omega
    have hi' : i < l.length := by omega
    obtain ⟨b1, o1, x1, d1, a0, a1, a2⟩ := vC_pt hv i hi'
    have i1 := s1n i (by omega)
    have htk := wid_take s l i hi'
    have hlen : ((l.take i).flatMap (wid s)).length ≤ 200000 := by have := wid_len s (l.take i); simp at this ⊢; omega
    obtain ⟨p', h6, h7, g1, g2, g3, g4, g5⟩ := vR_app hw hnb ho l[i] hlen
    have hv7 : Rwc h7 P 3 v (l.map vR) := hv.to g4 (fun x hx _ e => by have : N ≤ x := e; have := hP x hx; omega)
    obtain ⟨b2, o2, x2, d2, z0, z1, z2⟩ := vC_pt hv7 i hi'
    obtain ⟨rfl, rfl⟩ := ix_same x1 x2
    have nb7 := g4.nb
    by_cases c4 : l[i].k = 4
    · have k4 : ((l[i].k : Nat) : Int) = 4 := by omega
      have hw4 : wid s l[i] = [l[i], ⟨s, 0, 0, 0⟩] := by unfold wid; rw [if_pos c4]
      obtain ⟨h8, e8, t8, w8⟩ := t110 g5 s
      have nb8 := t8.nb
      have g3' := g3.to t8 (fun _ _ _ f => f)
      obtain ⟨o', h9, h10, g6, g7, g8, g9, g10⟩ := vR_app w8 (by omega) g3' ⟨s, 0, 0, 0⟩ (by have := wid_len s (l.take i); simp at this ⊢; omega)
      rw [List.append_assoc, List.singleton_append, ← hw4, htk] at g8
      have e : L91n0 [v, .int 63 (s : Int), o, .int 63 (i : Int)] h = .norm [v, .int 63 (s : Int), o', .int 63 ((i + 1 : Nat) : Int)] h10 := by
        simp only [↓L91n0, ↓ln, c1, ↓x1, ↓d1, ↓bldA, ↓g1, ↓g2, ↓x2, ↓cP_p, ↓z0, k4, ↓e8, ↓g6, ↓g7, i1, beq_self_eq_true, ↓SD, SA, Int.ofNat_eq_natCast, Int.cast_ofNat_Int, Int.reduceBEq, Int.reduceAdd, Int.reduceNeg, Int.reduceNegSucc, Int.reduceLT, Int.reduceLE, Int.reduceMul, Int.reduceTMod, Int.reduceSub, Int.reduceBNe, Bool.not_true, Bool.not_false, decide_true, decide_false, ne_eq, not_false_eq_true, Int.reduceEq, reduceCtorEq]
      rw [lpn m e]
      have ot : To (fun x => N ≤ x) h h10 := (g4.trans (t8.mono fun _ _ f => f.elim)).trans g9
      obtain ⟨o'', h11, f1, f2, f3, f4⟩ := ih (i + 1) m o' h10 (by omega) (by omega) (by have := ot.nb; omega) g10 (hv.to ot (fun x hx _ e => by have : N ≤ x := e; have := hP x hx; omega)) g8
      exact ⟨o'', h11, f1, f2, ot.trans f3, f4⟩
    · have k4 : (((l[i].k : Nat) : Int) == 4) = false := by have : ¬ ((l[i].k : Nat) : Int) = 4 := by omega
                                                            simpa using this
      have hw4 : wid s l[i] = [l[i]] := by unfold wid; rw [if_neg c4]
      rw [← hw4, htk] at g3
      have e : L91n0 [v, .int 63 (s : Int), o, .int 63 (i : Int)] h = .norm [v, .int 63 (s : Int), p', .int 63 ((i + 1 : Nat) : Int)] h7 := by
        simp only [↓L91n0, ↓ln, c1, ↓x1, ↓d1, ↓bldA, ↓g1, ↓g2, ↓x2, ↓cP_p, ↓z0, k4, i1, ↓SD, SA, Int.ofNat_eq_natCast, Int.cast_ofNat_Int, Int.reduceBEq, Int.reduceAdd, Int.reduceNeg, Int.reduceNegSucc, Int.reduceLT, Int.reduceLE, Int.reduceMul, Int.reduceTMod, Int.reduceSub, Int.reduceBNe, Bool.not_true, Bool.not_false, decide_true, decide_false, ne_eq, not_false_eq_true, Int.reduceEq, reduceCtorEq]
      rw [lpn m e]
      obtain ⟨o'', h11, f1, f2, f3, f4⟩ := ih (i + 1) m p' h7 (by omega) (by omega) (by omega) g5 hv7 g3
      exact ⟨o'', h11, f1, f2, g4.trans f3, f4⟩
theorem t91c {h : Hp} {P : Nat → Prop} {v : AV} {l : List Vt} (hv : Rwc h P 3 v (l.map vR)) (hw : Wf h) (hl : l.length ≤ 100000) (s : Nat) :
    ∃ o h', s91 [v, .int 63 (s : Int)] h = .ret o h' ∧ Rws h' (fun x => h.nb ≤ x) 3 o ((l.flatMap (wid s)).map vR) ∧ To No h h' ∧ Wf h' := by
  have hv' : Rwc h (fun x => x < h.nb) 3 v (l.map vR) := hv.mono fun x _ hlt => hlt
  obtain ⟨o, h', e1, r1, t1, w1⟩ := loop91c (s := s) (N := h.nb) (fun x hx => hx) hl l.length 0 most .nils h (by unfold most; omega) (by omega) (Nat.le_refl _) hw hv' (Rws.nil _ _ _)
  have e1 : lp L91n0 most [v, .int 63 (s : Int), .nils, .int 63 0] h = .exit 0 [o] h' := e1
  have ck := fun kk => r1.cK kk
  refine ⟨o, h', ?_, r1, t1.mono fun x hx e => (by have : h.nb ≤ x := e; omega), w1⟩
  simp only [↓s91, ↓e1, ↓ck, blk_x0, ↓SD, SA, Int.ofNat_eq_natCast, Int.cast_ofNat_Int, Int.reduceBEq, Int.reduceAdd, Int.reduceNeg, Int.reduceNegSucc, Int.reduceLT, Int.reduceLE, Int.reduceMul, Int.reduceTMod, Int.reduceSub, Int.reduceBNe, Bool.not_true, Bool.not_false, decide_true, decide_false, ne_eq, not_false_eq_true, Int.reduceEq, reduceCtorEq]
end Go.Proofs.Ytnpfppddongbhaa
end

section
namespace Go.Proofs.Ytnpfppddongbhaa
open Go Go.AM
set_option autoImplicit false
/-! ### rows of which two cells are rows: the rows' own blocks in F, those of the parts in K -/
def PX {α : Type} (n : Nat) (mk : α → AV → AV → List AV) (p q : α → List (List AV)) (h : Hp) (F K : Nat → Prop) (v : AV) (aS : List α) : Prop :=
  ∃ rs : List (List AV), Rws h F n v rs ∧ rs.length = aS.length ∧ ∀ i (hi : i < aS.length) (hi' : i < rs.length), ∃ vl vs, rs[i] = mk aS[i] vl vs ∧ Rws h K 3 vl (p aS[i]) ∧ Rws h K 3 vs (q aS[i])
section
variable {α : Type} {n : Nat} {mk : α → AV → AV → List AV} {p q : α → List (List AV)} {h h' : Hp} {F K F' K' W : Nat → Prop} {v : AV} {aS : List α}
theorem PX.nil : PX n mk p q h F K .nils [] := ⟨[], Rws.nil _ _ _, rfl, fun i hi => by simp at hi⟩
theorem PX.to (hm : PX n mk p q h F K v aS) (ht : To W h h') (h1 : ∀ x, F x → x < h.nb → ¬ W x) (h2 : ∀ x, K x → x < h.nb → ¬ W x) : PX n mk p q h' F K v aS := by
  obtain ⟨rs, r, hl, hi⟩ := hm
  refine ⟨rs, r.to ht h1, hl, fun i g1 g2 => ?_⟩
  obtain ⟨vl, vs, e, r1, r2⟩ := hi i g1 g2
  exact ⟨vl, vs, e, r1.to ht h2, r2.to ht h2⟩
theorem PX.mono (hm : PX n mk p q h F K v aS) (h1 : ∀ x, F x → x < h.nb → F' x) (h2 : ∀ x, K x → x < h.nb → K' x) : PX n mk p q h F' K' v aS := by
  obtain ⟨rs, r, hl, hi⟩ := hm
  refine ⟨rs, r.mono h1, hl, fun i g1 g2 => ?_⟩
  obtain ⟨vl, vs, e, r1, r2⟩ := hi i g1 g2
  exact ⟨vl, vs, e, r1.mono h2, r2.mono h2⟩
theorem PX.len (hm : PX n mk p q h F K v aS) (k : AV → Res) : lenL v k = k (.int 63 (aS.length : Int)) := by
  obtain ⟨rs, r, hl, hi⟩ := hm
  rw [← hl]; exact r.len k
theorem PX.cK (hm : PX n mk p q h F K v aS) (k : AV → Res) : cK v k = k v := by
  obtain ⟨rs, r, hl, hi⟩ := hm; exact r.cK k
theorem PX.app (hw : Wf h) (hm : PX n mk p q h F K v aS) (hd : ∀ x, K x → ¬ F x) (a : α) {vl vs : AV} (r1 : Rws h K 3 vl (p a)) (r2 : Rws h K 3 vs (q a)) (hsz : aS.length ≤ 100000) (by_ : Nat) (hb : by_ ≤ 64) (hn : 0 < n) (hk : (mk a vl vs).length = n) (ho : ∀ x ∈ mk a vl vs, one x = true) :
    ∃ v' h1 h', (∀ k : AV → Hp → Res, mkS h n 1 (avL (mk a vl vs)) k = k (.sl h.nb 0 1 n (some 1)) h1) ∧ (∀ k : AV → Hp → Res, apd h1 n by_ v (.sl h.nb 0 1 n (some 1)) k = k v' h') ∧
      PX n mk p q h' (fun x => F x ∨ h.nb ≤ x) (fun x => K x ∧ x < h.nb) v' (aS ++ [a]) ∧ To F h h' ∧ Wf h' := by
  obtain ⟨rs, r, hl, hi⟩ := hm
  obtain ⟨v', h1, h', g1, g2, g3, g4, g5⟩ := apd_rows (by_ := by_) hw r hn (mk a vl vs) hk ho (by have := Nat.mul_le_mul (show rs.length + 1 ≤ 100001 by omega) hb; omega) (by omega)
  have keep : ∀ {w : AV} {l : List (List AV)}, Rws h K 3 w l → Rws h' (fun x => K x ∧ x < h.nb) 3 w l := fun hr =>
    (hr.mono (Q := fun x => K x ∧ x < h.nb) fun x hx hlt => ⟨hx, hlt⟩).to g4 (fun x hx _ => hd x hx.1)
  refine ⟨v', h1, h', g1, g2, ⟨rs ++ [mk a vl vs], g3, by simp [hl], fun i h3 h4 => ?_⟩, g4, g5⟩
  by_cases c : i < aS.length
  · obtain ⟨wl, ws, e, q1, q2⟩ := hi i c (by omega)
    refine ⟨wl, ws, ?_, ?_, ?_⟩
    · rw [List.getElem_append_left (by omega), List.getElem_append_left c]; exact e
    · rw [List.getElem_append_left c]; exact keep q1
    · rw [List.getElem_append_left c]; exact keep q2
  · have hlen : i = aS.length := by simp at h3; omega
    subst hlen
    refine ⟨vl, vs, ?_, ?_, ?_⟩
    · rw [List.getElem_append_right (by omega), List.getElem_append_right (by omega)]; simp [hl]
    · rw [List.getElem_append_right (by omega)]; simp only [Nat.sub_self, List.getElem_cons_zero]; exact keep r1
    · rw [List.getElem_append_right (by omega)]; simp only [Nat.sub_self, List.getElem_cons_zero]; exact keep r2
theorem PX.pt (hm : PX n mk p q h F K v aS) (i : Nat) (hi : i < aS.length) :
    ∃ b o vl vs, (∀ k : AV → Res, ixA n v (.int 63 (i : Int)) k = k (.ptr b o)) ∧ (∀ j (hj : j < (mk aS[i] vl vs).length) (k : AV → Res), ld1 h (.ptr b (Nat.add o j)) k = k (mk aS[i] vl vs)[j]) ∧ Rws h K 3 vl (p aS[i]) ∧ Rws h K 3 vs (q aS[i]) := by
  obtain ⟨rs, r, hl, hx⟩ := hm
  have hi' : i < rs.length := by omega
  obtain ⟨vl, vs, e, r1, r2⟩ := hx i hi hi'
  obtain ⟨b, o, e1, -, e3⟩ := r.pt i hi'
  refine ⟨b, o, vl, vs, e1, fun j hj k => ?_, r1, r2⟩
  have := e3 j (by rw [e]; exact hj) k
  simp only [e] at this; exact this
end
end Go.Proofs.Ytnpfppddongbhaa
end

section
namespace Go.Proofs.Ytnpfppddongbhaa
open Go Go.AM
set_option autoImplicit false
/-! ### the same frames, by both -/
theorem bAnd_tt {a b : Bool} (h1 : a = true) (h2 : b = true) : bAnd a b = true := by rw [h1, h2]; rfl
theorem Rws.same {h : Hp} {P : Nat → Prop} {n : Nat} {v : AV} {rs : List (List AV)} (r : Rws h P n v rs) (hn : 0 < n) (k : Res) : same v v k = k := by
  obtain ⟨-, ⟨rfl, -⟩ | ⟨b, B, rfl, -⟩⟩ := r
  · rfl
  · have nb := fun x => (beq_iff x x).2 rfl
    have e : eqAV (.sl b 0 rs.length n none) (.sl b 0 rs.length n none) = true := by
      simp [eqAV, nb, bAnd]
      show Nat.blt 0 n = true
      exact (blt_iff _ _).2 hn
    have e2 : AM.same (.sl b 0 rs.length n none) (.sl b 0 rs.length n none) k = ifB (eqAV (.sl b 0 rs.length n none) (.sl b 0 rs.length n none)) k .fail := rfl
    rw [e2, e]; rfl
theorem PX.ptN {α : Type} {n : Nat} {mk : α → AV → AV → List AV} {p q : α → List (List AV)} {h : Hp} {F K : Nat → Prop} {v : AV} {aS : List α} (hm : PX n mk p q h F K v aS) (i : Nat) (hi : i < aS.length) :
    ∃ b o vl vs, (∀ k : AV → Res, ixA n v (.int 63 (i : Int)) k = k (.ptr b o)) ∧ (∀ h', To No h h' → ∀ j (hj : j < (mk aS[i] vl vs).length) (k : AV → Res), ld1 h' (.ptr b (Nat.add o j)) k = k (mk aS[i] vl vs)[j]) ∧ Rws h K 3 vl (p aS[i]) ∧ Rws h K 3 vs (q aS[i]) := by
  obtain ⟨rs, r, hl, hx⟩ := hm
  have hi' : i < rs.length := by omega
  obtain ⟨vl, vs, e, r1, r2⟩ := hx i hi hi'
  obtain ⟨b, o, e1, -, e3⟩ := r.pt i hi'
  refine ⟨b, o, vl, vs, e1, fun h' ht j hj k => ?_, r1, r2⟩
  have r' := r.to ht (fun _ _ _ f => f)
  obtain ⟨b', o', e1', -, e3'⟩ := r'.pt i hi'
  obtain ⟨rfl, rfl⟩ := ix_same e1 e1'
  have := e3' j (by rw [e]; exact hj) k
  simp only [e] at this; exact this
noncomputable def gR (f : Fv) (vl vs : AV) : List AV := [.int 63 (f.at_ : Int), vl, vs]
noncomputable def fR (f : Fv) (vl vs : AV) : List AV := [vl, vs]
/-- The frames of the program. -/
def PG (h : Hp) (F K : Nat → Prop) (v : AV) (l : List Fv) : Prop := PX 3 gR (fun f => f.loc.map vR) (fun f => f.stk.map vR) h F K v l
/-- The frames of the reference. -/
def PF (h : Hp) (F K : Nat → Prop) (v : AV) (l : List Fv) : Prop := PX 2 fR (fun f => f.loc.map vR) (fun f => (f.stk.flatMap (wid 99)).map vR) h F K v l
theorem blk_n7 {vs : List AV} {h : Hp} (k : List AV → Hp → Res) : blk 7 (.norm vs h) k = k vs h := of_eq_true (eq_self _)
theorem loop22d {F K F' K' P : Nat → Prop} {v va w : AV} {l : List Fv} (hl : l.length ≤ 100000) (hs : ∀ f ∈ l, f.loc.length ≤ 100000 ∧ f.stk.length ≤ 100000 ∧ ∀ v ∈ f.stk, v.k ≠ 99) :
    ∀ (n i m : Nat) (h : Hp), n < m → i + n = l.length → Wf h → PF h F K v l → Rws h P 1 va ((l.map (·.at_)).map aR) → PG h F' K' w l → ∃ h', lp L22n3 m [.bool true, v, va, w, .int 63 (i : Int)] h = .exit 6 [.bool true] h' := by
  intro n
  induction n with
  | zero =>
    intro i m h hm hi hw hf ha hg
    obtain ⟨m, rfl⟩ : ∃ k, m = k + 1 := ⟨m - 1, by omega⟩
    have c1 : ¬ (i : Int) < (l.length : Int) := by omega
    have ln := fun kk => hf.len kk
    exact ⟨h, lpx m (by simp only [↓L22n3, ↓ln, c1, ↓SD, SA, Int.ofNat_eq_natCast, Int.cast_ofNat_Int, Int.reduceBEq, Int.reduceAdd, Int.reduceNeg, Int.reduceNegSucc, Int.reduceLT, Int.reduceLE, Int.reduceMul, Int.reduceTMod, Int.reduceSub, Int.reduceBNe, Bool.not_true, Bool.not_false, decide_true, decide_false, ne_eq, not_false_eq_true, Int.reduceEq, reduceCtorEq])⟩
  | succ n ih =>
    intro i m h hm hi hw hf ha hg
    obtain ⟨m, rfl⟩ : ∃ k, m = k + 1 := ⟨m - 1, by omega⟩
    have c1 : (i : Int) < (l.length : Int) := by omega
    have hi' : i < l.length := by omega
    have ln := fun kk => hf.len kk
    obtain ⟨b1, o1, vl1, vs1, x1, y1, R1, S1⟩ := hf.ptN i hi'
    obtain ⟨b2, o2, vl2, vs2, x2, y2, R2, S2⟩ := hg.ptN i hi'
    obtain ⟨b3, o3, x3, y3⟩ := aR_pt ha i (by simpa using hi')
    have ho := hs _ (List.getElem_mem hi')
    have hsl : (l[i].stk.flatMap (wid 99)).length ≤ 200000 := by have := wid_len 99 l[i].stk; omega
    obtain ⟨u, h', e67, r67, t67', w67⟩ := t67 S1 hw hsl
    rw [nar_wid _ ho.2.2] at r67
    have S2' := S2.to t67' (fun _ _ _ f => f)
    have e64a := t64R R2 R1 (by have := ho.1; omega)
    have e64b := t64R S2' r67 (by have := ho.2.1; omega)
    have ha' := ha.to t67' (fun _ _ _ f => f)
    obtain ⟨b3', o3', x3', y3'⟩ := aR_pt ha' i (by simpa using hi')
    obtain ⟨rfl, rfl⟩ := ix_same x3 x3'
    have hat : (l.map (·.at_))[i]'(by simpa using hi') = l[i].at_ := List.getElem_map _
    simp only [hat] at y3 y3'
    have T0 := To.refl (fun _ => False) h
    have f0 : ∀ kk : AV → Res, ld1 h (.ptr b1 (Nat.add o1 0)) kk = kk vl1 := fun kk => y1 h (To.refl _ _) 0 (by simp [fR]) kk
    have f1 : ∀ kk : AV → Res, ld1 h (.ptr b1 (Nat.add o1 1)) kk = kk vs1 := fun kk => y1 h (To.refl _ _) 1 (by simp [fR]) kk
    have g0 : ∀ kk : AV → Res, ld1 h (.ptr b2 (Nat.add o2 0)) kk = kk (.int 63 (l[i].at_ : Int)) := fun kk => y2 h (To.refl _ _) 0 (by simp [gR]) kk
    have g1 : ∀ kk : AV → Res, ld1 h (.ptr b2 (Nat.add o2 1)) kk = kk vl2 := fun kk => y2 h (To.refl _ _) 1 (by simp [gR]) kk
    have g2 : ∀ kk : AV → Res, ld1 h (.ptr b2 (Nat.add o2 2)) kk = kk vs2 := fun kk => y2 h (To.refl _ _) 2 (by simp [gR]) kk
    have k0 : ∀ kk : AV → Res, ld1 h' (.ptr b2 (Nat.add o2 0)) kk = kk (.int 63 (l[i].at_ : Int)) := fun kk => y2 h' t67' 0 (by simp [gR]) kk
    have k2 : ∀ kk : AV → Res, ld1 h' (.ptr b2 (Nat.add o2 2)) kk = kk vs2 := fun kk => y2 h' t67' 2 (by simp [gR]) kk
    have sm := fun kk => Rws.same S2 (by decide) kk
    have i1 := s1n i (by omega)
    have gs : ∀ x : AV, gsel (.bool false) false x = x := fun x => rfl
    have e : L22n3 [.bool true, v, va, w, .int 63 (i : Int)] h = .norm [.bool true, v, va, w, .int 63 ((i + 1 : Nat) : Int)] h' := by
      simp only [↓L22n3, ↓ln, c1, ↓x2, ↓cP_p, ↓g0, ↓x3, ↓y3, ↓gs, ↓g1, ↓x1, ↓f0, ↓e64a, ↓same_n, ↓g2, ↓f1, ↓e67, ↓k2, ↓sm, ↓y3', ↓k0, ↓e64b, i1, blk_n7, beq_self_eq_true, ↓SD, SA, Int.ofNat_eq_natCast, Int.cast_ofNat_Int, Int.reduceBEq, Int.reduceAdd, Int.reduceNeg, Int.reduceNegSucc, Int.reduceLT, Int.reduceLE, Int.reduceMul, Int.reduceTMod, Int.reduceSub, Int.reduceBNe, Bool.not_true, Bool.not_false, decide_true, decide_false, ne_eq, not_false_eq_true, Int.reduceEq, reduceCtorEq]
    rw [lpn m e]
    exact ih (i + 1) m h' (by omega) (by omega) w67 (hf.to t67' (fun _ _ _ f => f) (fun _ _ _ f => f)) ha' (hg.to t67' (fun _ _ _ f => f) (fun _ _ _ f => f))
end Go.Proofs.Ytnpfppddongbhaa
end
