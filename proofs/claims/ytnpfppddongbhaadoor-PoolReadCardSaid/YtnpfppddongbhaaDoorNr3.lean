/-
  Pools of constants: what each function of both readers answers (part Nr3).
-/
import Derived.Test.YtnpfppddongbhaaDoorNr2
set_option linter.unusedVariables false
set_option linter.unusedSimpArgs false
section
namespace Go.Proofs.YtnpfppddongbhaaDoor
open Go Go.AM
set_option autoImplicit false
theorem rep_set {cs : List Cn} {k : Nat} (c : Cn) : (cs ++ List.replicate (k + 1) cn0).set cs.length c = (cs ++ [c]) ++ List.replicate k cn0 := by
  rw [List.set_append_right _ _ (Nat.le_refl _), Nat.sub_self, List.replicate_succ, List.set_cons_zero, List.append_assoc, List.singleton_append]
theorem rep_get {cs : List Cn} {k : Nat} : (cs ++ List.replicate (k + 1) cn0).set cs.length cn0 = cs ++ List.replicate (k + 1) cn0 := by
  rw [rep_set, List.append_assoc, List.singleton_append, ← List.replicate_succ]
theorem rdl_good {t : List Nat} {n f : Nat} {q : Sq} {cs : List Cn} (hl : cs.length < n) : rdl t n (f + 1) q cs = if (ent t q).2.1 = true ∧ (ent t q).2.2.2 = false ∧ ¬ ((ent t q).1.tag = 5 ∧ cs.length = n - 1) then
    rdl t n f (ent t q).2.2 (if (ent t q).1.tag = 5 then cs ++ [(ent t q).1] ++ [cn0] else cs ++ [(ent t q).1]) else none := by
  conv => lhs; unfold rdl
  rw [if_pos hl]
theorem loop41 {lo b pb n : Nat} {t : List Nat} (hb : b < pb) (hn : n ≤ 1000) : ∀ (f m : Nat) (q : Sq) (cs : List Cn) (v : AV) (h : Hp), n - cs.length < f → f < m → 1 ≤ cs.length → cs.length ≤ n → pb < h.nb → Wf h → CurQ h lo b t q → Pl5 h (At pb) n v (cs ++ List.replicate (n - cs.length) cn0) →
    (rdl t n f q cs = none ∧ ∃ h', lp L41n0 m [.ptr b 0, .int 63 (n : Int), v, .int 63 (cs.length : Int)] h = .ret (.tup (.cons .nils (.cons (.bool false) .nil))) h' ∧ To (fun x => x = b ∨ x = pb) h h' ∧ Wf h') ∨
    (∃ p h', rdl t n f q cs = some p ∧ lp L41n0 m [.ptr b 0, .int 63 (n : Int), v, .int 63 (cs.length : Int)] h = .exit 0 [.int 63 (n : Int), v] h' ∧ Pl5 h' (At pb) n v p.1 ∧ CurQ h' lo b t p.2 ∧ To (fun x => x = b ∨ x = pb) h h' ∧ Wf h') := by
  intro f
  induction f with
  | zero => intro m q cs v h hf; omega
  | succ f ih =>
    intro m q cs v h hf hm h1 h2 hnb hw hc hp
    obtain ⟨m, rfl⟩ : ∃ k, m = k + 1 := ⟨m - 1, by omega⟩
    by_cases hl : cs.length < n
    rotate_left
    · have qq : ¬ (cs.length : Int) < (n : Int) := by omega
      have hz : n - cs.length = 0 := by omega
      rw [hz, List.replicate_zero, List.append_nil] at hp
      exact .inr ⟨(cs, q), h, by unfold rdl; rw [if_neg hl], lpx m (by simp only [↓L41n0, qq, ↓SD, SA, Int.ofNat_eq_natCast, Int.cast_ofNat_Int, Int.reduceBEq, Int.reduceAdd, Int.reduceNeg, Int.reduceNegSucc, Int.reduceLT, Int.reduceLE, Int.reduceMul, Int.reduceTMod, Int.reduceSub, Int.reduceBNe, Bool.not_true, Bool.not_false, decide_true, decide_false, ne_eq, not_false_eq_true, Int.reduceEq, reduceCtorEq]), hp, hc, To.refl _ _, hw⟩
    obtain ⟨k, hk⟩ : ∃ k, n - cs.length = k + 1 := ⟨n - cs.length - 1, by omega⟩
    rw [hk] at hp
    have hp' := hp
    rw [← rep_get] at hp'
    rw [rdl_good hl]
    rcases reg41 hw hb hnb hn hc (by simp; omega) hl (by omega) hp' with ⟨h3, e3, o3, w3, ng⟩ | ⟨h3, e3, g3, p3, q3, o3, w3⟩
    · have ng' : ¬ ((ent t q).2.1 = true ∧ (ent t q).2.2.2 = false ∧ ¬ ((ent t q).1.tag = 5 ∧ cs.length = n - 1)) := ng
      rw [if_neg ng']
      exact .inl ⟨rfl, h3, lpr m e3, o3, w3⟩
    · have g3' : (ent t q).2.1 = true ∧ (ent t q).2.2.2 = false ∧ ¬ ((ent t q).1.tag = 5 ∧ cs.length = n - 1) := g3
      rw [if_pos g3']
      rw [rep_set] at p3
      have nb3 := o3.nb
      by_cases g : (ent t q).1.tag = 5
      · have hk1 : ∃ j, k = j + 1 := ⟨k - 1, by have := g3'.2.2; omega⟩
        obtain ⟨j, rfl⟩ := hk1
        rw [if_pos g] at e3 ⊢
        have l2 : (cs ++ [(ent t q).1] ++ [cn0]).length = cs.length + 2 := by simp
        have hp3 : (cs ++ [(ent t q).1]) ++ List.replicate (j + 1) cn0 = (cs ++ [(ent t q).1] ++ [cn0]) ++ List.replicate j cn0 := by rw [List.replicate_succ, List.append_assoc (cs ++ [(ent t q).1]), List.singleton_append]
        rw [hp3] at p3
        have hj : j = n - (cs ++ [(ent t q).1] ++ [cn0]).length := by rw [l2]; omega
        rw [hj] at p3
        rw [← l2] at e3
        rcases ih m (ent t q).2.2 (cs ++ [(ent t q).1] ++ [cn0]) v h3 (by rw [l2]; omega) (by omega) (by rw [l2]; omega) (by rw [l2]; omega) (by omega) w3 q3 p3 with ⟨r1, h4, r2, r3, r4⟩ | ⟨p, h4, r1, r2, r3, r4, r5, r6⟩
        · exact .inl ⟨r1, h4, (lpn m e3).trans r2, o3.trans r3, r4⟩
        · exact .inr ⟨p, h4, r1, (lpn m e3).trans r2, r3, r4, o3.trans r5, r6⟩
      · rw [if_neg g] at e3 ⊢
        have l2 : (cs ++ [(ent t q).1]).length = cs.length + 1 := by simp
        have hj : k = n - (cs ++ [(ent t q).1]).length := by rw [l2]; omega
        rw [hj] at p3
        rw [← l2] at e3
        rcases ih m (ent t q).2.2 (cs ++ [(ent t q).1]) v h3 (by rw [l2]; omega) (by omega) (by rw [l2]; omega) (by rw [l2]; omega) (by omega) w3 q3 p3 with ⟨r1, h4, r2, r3, r4⟩ | ⟨p, h4, r1, r2, r3, r4, r5, r6⟩
        · exact .inl ⟨r1, h4, (lpn m e3).trans r2, o3.trans r3, r4⟩
        · exact .inr ⟨p, h4, r1, (lpn m e3).trans r2, r3, r4, o3.trans r5, r6⟩
theorem wtx_len (t : List Nat) (q : Sq) (n : Int) : (wtx t q n).length ≤ t.length := by unfold wtx; rw [List.length_map]; exact C.win_len2 _ _ _ _
theorem ent_tx (t : List Nat) (q : Sq) : (ent t q).1.tx.length ≤ t.length := by
  unfold ent
  simp only
  split
  · exact wtx_len _ _ _
  · split
    · simp
    · split
      · simp
      · split
        · simp
        · split
          · simp
          · simp [cn0]
theorem rdl_ok {t : List Nat} {n : Nat} : ∀ (f : Nat) (q : Sq) (cs : List Cn) (p : List Cn × Sq), rdl t n f q cs = some p → cs.length ≤ n → (∀ c ∈ cs, c.tx.length ≤ t.length) → 1 ≤ cs.length → (∀ h : 0 < cs.length, (cs[0]).tag = 0) →
    p.1.length = n ∧ (∀ c ∈ p.1, c.tx.length ≤ t.length) ∧ (∀ h : 0 < p.1.length, (p.1[0]).tag = 0) := by
  intro f
  induction f with
  | zero => intro q cs p h; cases h
  | succ f ih =>
    intro q cs p h hl ht h1 h0
    by_cases hlt : cs.length < n
    · rw [rdl_good hlt] at h
      split at h
      · rename_i hc
        refine ih _ _ _ h ?_ ?_ ?_ ?_
        · split
          · rename_i g; have := hc.2.2; simp; omega
          · simp; omega
        · intro c hcm
          have he := ent_tx t q
          split at hcm
          · simp only [List.mem_append, List.mem_singleton] at hcm
            rcases hcm with (hcm | rfl) | rfl
            · exact ht c hcm
            · exact he
            · simp [cn0]
          · simp only [List.mem_append, List.mem_singleton] at hcm
            rcases hcm with hcm | rfl
            · exact ht c hcm
            · exact he
        · split <;> simp
        · intro hh
          have hz := h0 (by omega)
          split
          · rw [List.getElem_append_left (by simp), List.getElem_append_left (by omega)]; exact hz
          · rw [List.getElem_append_left (by omega)]; exact hz
      · cases h
    · unfold rdl at h
      rw [if_neg hlt] at h
      cases h
      exact ⟨by show cs.length = n; omega, ht, h0⟩
end Go.Proofs.YtnpfppddongbhaaDoor
end

section
namespace Go.Proofs.YtnpfppddongbhaaDoor
open Go Go.AM
set_option autoImplicit false
def H0c (cs : List Cn) : Prop := ∀ h : 0 < cs.length, (cs[0]).tag = 0
def tgR (cs : List Cn) (i : Int) : Nat := if i < 0 then 0 else (match cs[i.toNat]? with | some c => c.tag | none => 0)
theorem tgR_eq {cs : List Cn} (h0 : H0c cs) (i : Int) (t : Nat) (ht : t ≠ 0) : (((tgR cs i : Nat) : Int) == (t : Int)) = tg cs i t := by
  rw [nbeq]
  unfold tgR tg
  by_cases h1 : i < 0
  · rw [if_pos h1, decide_eq_false (show ¬ 0 < i by omega), decide_eq_false (fun h => ht h.symm)]; rfl
  · rw [if_neg h1]
    by_cases h2 : 0 < i
    · rw [decide_eq_true h2, Bool.true_and]
      cases cs[i.toNat]? with
      | none => exact decide_eq_false (fun h => ht h.symm)
      | some c => rfl
    · obtain rfl : i = 0 := by omega
      rw [decide_eq_false h2, Bool.false_and]
      cases hc : cs[(0 : Int).toNat]? with
      | none => exact decide_eq_false (fun h => ht h.symm)
      | some c =>
        obtain ⟨hn, he⟩ := List.getElem?_eq_some_iff.1 hc
        have hz := h0 hn
        have he' : cs[0]'hn = c := he
        rw [he'] at hz
        exact decide_eq_false (fun h => ht (by rw [← h]; exact hz))
theorem t71 {h : Hp} {P : Nat → Prop} {cap : Nat} {v : AV} {cs : List Cn} (hp : Pl5 h P cap v cs) (i : Int) : s71 [v, .int 63 i] h = .ret (.int 63 (tgR cs i : Int)) h := by
  have ln := fun k => hp.len k
  have gi : ∀ x : Int, gsel (.bool false) false (.int 63 x) = .int 63 x := fun x => rfl
  have gv : gsel (.bool false) false v = v := rfl
  unfold tgR
  by_cases c1 : i < 0
  · rw [if_pos c1]
    simp only [↓s71, c1, ↓SD, SA, Int.ofNat_eq_natCast, Int.cast_ofNat_Int, Int.reduceBEq, Int.reduceAdd, Int.reduceNeg, Int.reduceNegSucc, Int.reduceLT, Int.reduceLE, Int.reduceMul, Int.reduceTMod, Int.reduceSub, Int.reduceBNe, Bool.not_true, Bool.not_false, decide_true, decide_false, ne_eq, not_false_eq_true, Int.reduceEq, reduceCtorEq]; try rfl
  obtain ⟨n, rfl⟩ : ∃ n : Nat, i = (n : Int) := ⟨i.toNat, by omega⟩
  rw [if_neg c1]
  by_cases c2 : n < cs.length
  rotate_left
  · have q : ¬ (n : Int) < (cs.length : Int) := by omega
    rw [Int.toNat_natCast, List.getElem?_eq_none (by omega)]
    simp only [↓s71, c1, ↓gv, ↓gi, ↓ln, q, ↓SD, SA, Int.ofNat_eq_natCast, Int.cast_ofNat_Int, Int.reduceBEq, Int.reduceAdd, Int.reduceNeg, Int.reduceNegSucc, Int.reduceLT, Int.reduceLE, Int.reduceMul, Int.reduceTMod, Int.reduceSub, Int.reduceBNe, Bool.not_true, Bool.not_false, decide_true, decide_false, ne_eq, not_false_eq_true, Int.reduceEq, reduceCtorEq]; try rfl
  have q : (n : Int) < (cs.length : Int) := by omega
  obtain ⟨b, o, p1, p2, f0, f1, f2, f3, f4⟩ := hp.pt n c2
  have f0' : ∀ k : AV → Res, ld1 h (.ptr b (o + 0)) k = k (.int 63 (cs[n].tag : Int)) := f0
  have f0'' : ∀ k : AV → Res, ld1 h (.ptr b o) k = k (.int 63 (cs[n].tag : Int)) := f0
  rw [Int.toNat_natCast, List.getElem?_eq_getElem c2]
  simp only [↓s71, c1, ↓gv, ↓gi, ↓ln, q, ↓p1, ↓cP_p, ↓f0, ↓f0', ↓f0'', ↓SD, SA, Int.ofNat_eq_natCast, Int.cast_ofNat_Int, Int.reduceBEq, Int.reduceAdd, Int.reduceNeg, Int.reduceNegSucc, Int.reduceLT, Int.reduceLE, Int.reduceMul, Int.reduceTMod, Int.reduceSub, Int.reduceBNe, Bool.not_true, Bool.not_false, decide_true, decide_false, ne_eq, not_false_eq_true, Int.reduceEq, reduceCtorEq]
section
variable {h : Hp} {P : Nat → Prop} {cap : Nat} {v : AV} {cs : List Cn}
theorem t44 (hp : Pl5 h P cap v cs) (h0 : H0c cs) (i : Int) : s44 [v, .int 63 i] h = .ret (txV (txo cs i)) h := by
  have e := t71 hp i
  have f1 : (((tgR cs i : Nat) : Int) == 1) = tg cs i 1 := tgR_eq h0 i 1 (by decide)
  unfold txo
  cases ht : tg cs i 1 with
  | false =>
    rw [ht] at f1
    simp only [↓s44, ↓e, f1, ↓SD, SA, Int.ofNat_eq_natCast, Int.cast_ofNat_Int, Int.reduceBEq, Int.reduceAdd, Int.reduceNeg, Int.reduceNegSucc, Int.reduceLT, Int.reduceLE, Int.reduceMul, Int.reduceTMod, Int.reduceSub, Int.reduceBNe, Bool.not_true, Bool.not_false, decide_true, decide_false, ne_eq, not_false_eq_true, Int.reduceEq, reduceCtorEq]; rfl
  | true =>
    rw [ht] at f1
    obtain ⟨n, rfl, hn, -⟩ := tg_inv ht
    obtain ⟨b, o, p1, p2, g0, g1, g2, g3, g4⟩ := hp.pt n hn
    have g1' : ∀ k : AV → Res, ld1 h (.ptr b (o + 1)) k = k (S cs[n].tx) := g1
    rw [if_pos rfl, Int.toNat_natCast, List.getElem?_eq_getElem hn]
    simp only [↓s44, ↓e, f1, ↓p1, ↓cP_p, ↓g1, ↓g1', ↓cK_S, ↓SD, SA, Int.ofNat_eq_natCast, Int.cast_ofNat_Int, Int.reduceBEq, Int.reduceAdd, Int.reduceNeg, Int.reduceNegSucc, Int.reduceLT, Int.reduceLE, Int.reduceMul, Int.reduceTMod, Int.reduceSub, Int.reduceBNe, Bool.not_true, Bool.not_false, decide_true, decide_false, ne_eq, not_false_eq_true, Int.reduceEq, reduceCtorEq]; rfl
theorem t46 (hp : Pl5 h P cap v cs) (h0 : H0c cs) (i : Int) : s46 [v, .int 63 i] h = .ret (txV (clo cs i)) h := by
  have e := t71 hp i
  have f7 : (((tgR cs i : Nat) : Int) == 7) = tg cs i 7 := tgR_eq h0 i 7 (by decide)
  unfold clo
  cases ht : tg cs i 7 with
  | false =>
    rw [ht] at f7
    simp only [↓s46, ↓e, f7, ↓SD, SA, Int.ofNat_eq_natCast, Int.cast_ofNat_Int, Int.reduceBEq, Int.reduceAdd, Int.reduceNeg, Int.reduceNegSucc, Int.reduceLT, Int.reduceLE, Int.reduceMul, Int.reduceTMod, Int.reduceSub, Int.reduceBNe, Bool.not_true, Bool.not_false, decide_true, decide_false, ne_eq, not_false_eq_true, Int.reduceEq, reduceCtorEq]; rfl
  | true =>
    rw [ht] at f7
    obtain ⟨n, rfl, hn, -⟩ := tg_inv ht
    obtain ⟨b, o, p1, p2, g0, g1, g2, g3, g4⟩ := hp.pt n hn
    have g3' : ∀ k : AV → Res, ld1 h (.ptr b (o + 3)) k = k (.int 63 (cs[n].a : Int)) := g3
    have e2 := t44 hp h0 (cs[n].a : Int)
    rw [if_pos rfl, Int.toNat_natCast, List.getElem?_eq_getElem hn]
    show s46 [v, .int 63 (n : Int)] h = .ret (txV (txo cs (cs[n].a : Int))) h
    generalize txo cs (cs[n].a : Int) = r at e2
    have e2 : s44 [v, .int 63 (cs[n].a : Int)] h = .ret (.tup (.cons (S (r.getD [])) (.cons (.bool r.isSome) .nil))) h := e2
    simp only [↓s46, ↓e, f7, ↓p1, ↓cP_p, ↓g3, ↓g3', ↓e2, nth_z, nth_1, ↓cK_S, ↓SD, SA, Int.ofNat_eq_natCast, Int.cast_ofNat_Int, Int.reduceBEq, Int.reduceAdd, Int.reduceNeg, Int.reduceNegSucc, Int.reduceLT, Int.reduceLE, Int.reduceMul, Int.reduceTMod, Int.reduceSub, Int.reduceBNe, Bool.not_true, Bool.not_false, decide_true, decide_false, ne_eq, not_false_eq_true, Int.reduceEq, reduceCtorEq]; rfl
theorem t48 (hp : Pl5 h P cap v cs) (h0 : H0c cs) (hw : Wf h) (i : Int) : ∃ h', s48 [v, .int 63 i] h = .ret (memV (memo cs i)) h' ∧ To No h h' ∧ Wf h' := by
  have e := t71 hp i
  have f9 : (((tgR cs i : Nat) : Int) == 9) = tg cs i 9 := tgR_eq h0 i 9 (by decide)
  have f10 : (((tgR cs i : Nat) : Int) == 10) = tg cs i 10 := tgR_eq h0 i 10 (by decide)
  have f11 : (((tgR cs i : Nat) : Int) == 11) = tg cs i 11 := tgR_eq h0 i 11 (by decide)
  have gi : ∀ x : Int, gsel (.bool true) true (.int 63 x) = .int 63 x := fun x => rfl
  have gi' : ∀ x : Int, gsel (.bool false) false (.int 63 x) = .int 63 x := fun x => rfl
  have gv' : gsel (.bool false) false v = v := rfl
  unfold memo
  by_cases hh : tg cs i 9 = true ∨ tg cs i 10 = true ∨ tg cs i 11 = true
  rotate_left
  · rw [if_neg hh]
    rw [show tg cs i 9 = false from by cases hx : tg cs i 9; rfl; exact absurd (.inl hx) hh] at f9
    rw [show tg cs i 10 = false from by cases hx : tg cs i 10; rfl; exact absurd (.inr (.inl hx)) hh] at f10
    rw [show tg cs i 11 = false from by cases hx : tg cs i 11; rfl; exact absurd (.inr (.inr hx)) hh] at f11
    exact ⟨h, by simp only [↓s48, ↓e, f9, f10, f11, ↓gi, ↓SD, SA, Int.ofNat_eq_natCast, Int.cast_ofNat_Int, Int.reduceBEq, Int.reduceAdd, Int.reduceNeg, Int.reduceNegSucc, Int.reduceLT, Int.reduceLE, Int.reduceMul, Int.reduceTMod, Int.reduceSub, Int.reduceBNe, Bool.not_true, Bool.not_false, decide_true, decide_false, ne_eq, not_false_eq_true, Int.reduceEq, reduceCtorEq]; rfl, To.refl _ _, hw⟩
  rw [if_pos hh]
  obtain ⟨n, rfl, hn⟩ : ∃ n : Nat, i = (n : Int) ∧ n < cs.length := by
    rcases hh with a | a | a <;> (obtain ⟨n, e, hn, -⟩ := tg_inv a; exact ⟨n, e, hn⟩)
  have tags : tg cs (n : Int) 9 = true ∨ (tg cs (n : Int) 9 = false ∧ tg cs (n : Int) 10 = true) ∨ (tg cs (n : Int) 9 = false ∧ tg cs (n : Int) 10 = false ∧ tg cs (n : Int) 11 = true) := by
    cases h1 : tg cs (n : Int) 9
    · cases h2 : tg cs (n : Int) 10
      · rcases hh with a | a | a
        · rw [h1] at a; cases a
        · rw [h2] at a; cases a
        · exact .inr (.inr ⟨rfl, rfl, a⟩)
      · exact .inr (.inl ⟨rfl, rfl⟩)
    · exact .inl rfl
  obtain ⟨b, o, p1, p2, g0, g1, g2, g3, g4⟩ := hp.pt n hn
  rw [Int.toNat_natCast, List.getElem?_eq_getElem hn]
  show ∃ h', s48 [v, .int 63 (n : Int)] h = .ret (memV (memC cs cs[n])) h' ∧ To No h h' ∧ Wf h'
  generalize cs[n] = c at *
  have g3' : ∀ k : AV → Res, ld1 h (.ptr b (o + 3)) k = k (.int 63 (c.a : Int)) := g3
  have g4' : ∀ k : AV → Res, ld1 h (.ptr b (o + 4)) k = k (.int 63 (c.b : Int)) := g4
  have e46 := t46 hp h0 (c.a : Int)
  have e71 := t71 hp (c.b : Int)
  have f12 : (((tgR cs (c.b : Int) : Nat) : Int) == 12) = tg cs (c.b : Int) 12 := tgR_eq h0 (c.b : Int) 12 (by decide)
  generalize tgR cs (n : Int) = T at *
  generalize tgR cs (c.b : Int) = T2 at *
  unfold memC
  cases hcl : clo cs (c.a : Int) with
  | none =>
    rw [hcl] at e46
    have e46 : s46 [v, .int 63 (c.a : Int)] h = .ret (.tup (.cons (S []) (.cons (.bool false) .nil))) h := e46
    refine ⟨h, ?_, To.refl _ _, hw⟩
    rcases tags with a | ⟨a, a'⟩ | ⟨a, a', a''⟩
    · rw [a] at f9
      simp only [↓s48, f9, ↓e, ↓gi, ↓gi', ↓gv', ↓p1, ↓cP_p, ↓g3, ↓g3', ↓e46, nth_z, nth_1, ↓cK_S, ↓SD, SA, Int.ofNat_eq_natCast, Int.cast_ofNat_Int, Int.reduceBEq, Int.reduceAdd, Int.reduceNeg, Int.reduceNegSucc, Int.reduceLT, Int.reduceLE, Int.reduceMul, Int.reduceTMod, Int.reduceSub, Int.reduceBNe, Bool.not_true, Bool.not_false, decide_true, decide_false, ne_eq, not_false_eq_true, Int.reduceEq, reduceCtorEq]; rfl
    · rw [a] at f9; rw [a'] at f10
      simp only [↓s48, f9, f10, ↓e, ↓gi, ↓gi', ↓gv', ↓p1, ↓cP_p, ↓g3, ↓g3', ↓e46, nth_z, nth_1, ↓cK_S, ↓SD, SA, Int.ofNat_eq_natCast, Int.cast_ofNat_Int, Int.reduceBEq, Int.reduceAdd, Int.reduceNeg, Int.reduceNegSucc, Int.reduceLT, Int.reduceLE, Int.reduceMul, Int.reduceTMod, Int.reduceSub, Int.reduceBNe, Bool.not_true, Bool.not_false, decide_true, decide_false, ne_eq, not_false_eq_true, Int.reduceEq, reduceCtorEq]; rfl
    · rw [a] at f9; rw [a'] at f10; rw [a''] at f11
      simp only [↓s48, f9, f10, f11, ↓e, ↓gi, ↓gi', ↓gv', ↓p1, ↓cP_p, ↓g3, ↓g3', ↓e46, nth_z, nth_1, ↓cK_S, ↓SD, SA, Int.ofNat_eq_natCast, Int.cast_ofNat_Int, Int.reduceBEq, Int.reduceAdd, Int.reduceNeg, Int.reduceNegSucc, Int.reduceLT, Int.reduceLE, Int.reduceMul, Int.reduceTMod, Int.reduceSub, Int.reduceBNe, Bool.not_true, Bool.not_false, decide_true, decide_false, ne_eq, not_false_eq_true, Int.reduceEq, reduceCtorEq]; rfl
  | some s =>
    rw [hcl] at e46
    have e46 : s46 [v, .int 63 (c.a : Int)] h = .ret (.tup (.cons (S s) (.cons (.bool true) .nil))) h := e46
    cases h12 : tg cs (c.b : Int) 12 with
    | false =>
      rw [h12] at f12
      refine ⟨h, ?_, To.refl _ _, hw⟩
      show s48 [v, .int 63 (n : Int)] h = .ret (memV none) h
      rcases tags with a | ⟨a, a'⟩ | ⟨a, a', a''⟩
      · rw [a] at f9
        simp only [↓s48, f9, ↓e, ↓gi, ↓gi', ↓gv', ↓p1, ↓cP_p, ↓g3, ↓g3', ↓e46, nth_z, nth_1, ↓cK_S, ↓g4, ↓g4', ↓e71, f12, ↓SD, SA, Int.ofNat_eq_natCast, Int.cast_ofNat_Int, Int.reduceBEq, Int.reduceAdd, Int.reduceNeg, Int.reduceNegSucc, Int.reduceLT, Int.reduceLE, Int.reduceMul, Int.reduceTMod, Int.reduceSub, Int.reduceBNe, Bool.not_true, Bool.not_false, decide_true, decide_false, ne_eq, not_false_eq_true, Int.reduceEq, reduceCtorEq]; rfl
      · rw [a] at f9; rw [a'] at f10
        simp only [↓s48, f9, f10, ↓e, ↓gi, ↓gi', ↓gv', ↓p1, ↓cP_p, ↓g3, ↓g3', ↓e46, nth_z, nth_1, ↓cK_S, ↓g4, ↓g4', ↓e71, f12, ↓SD, SA, Int.ofNat_eq_natCast, Int.cast_ofNat_Int, Int.reduceBEq, Int.reduceAdd, Int.reduceNeg, Int.reduceNegSucc, Int.reduceLT, Int.reduceLE, Int.reduceMul, Int.reduceTMod, Int.reduceSub, Int.reduceBNe, Bool.not_true, Bool.not_false, decide_true, decide_false, ne_eq, not_false_eq_true, Int.reduceEq, reduceCtorEq]; rfl
      · rw [a] at f9; rw [a'] at f10; rw [a''] at f11
        simp only [↓s48, f9, f10, f11, ↓e, ↓gi, ↓gi', ↓gv', ↓p1, ↓cP_p, ↓g3, ↓g3', ↓e46, nth_z, nth_1, ↓cK_S, ↓g4, ↓g4', ↓e71, f12, ↓SD, SA, Int.ofNat_eq_natCast, Int.cast_ofNat_Int, Int.reduceBEq, Int.reduceAdd, Int.reduceNeg, Int.reduceNegSucc, Int.reduceLT, Int.reduceLE, Int.reduceMul, Int.reduceTMod, Int.reduceSub, Int.reduceBNe, Bool.not_true, Bool.not_false, decide_true, decide_false, ne_eq, not_false_eq_true, Int.reduceEq, reduceCtorEq]; rfl
    | true =>
      rw [h12] at f12
      obtain ⟨m, hm, hml, -⟩ := tg_inv h12
      obtain rfl : m = c.b := by omega
      obtain ⟨b2, o2, q1, q2, -⟩ := hp.pt c.b hml
      rw [List.getElem?_eq_getElem hml]
      show ∃ h', s48 [v, .int 63 (n : Int)] h = .ret (memV (match txo cs (cs[c.b].a : Int), txo cs (cs[c.b].b : Int) with | some n, some d => some (s, n, d) | _, _ => none)) h' ∧ To No h h' ∧ Wf h'
      generalize cs[c.b] = x at *
      obtain ⟨h5, m5, m5', c5, o5, w5, n5⟩ := cn0_mk hw
      obtain ⟨h6, s6, c6, o6, w6, n6⟩ := c5.st w5 x
      have o56 : To No h h6 := o5.fresh o6 (fun x e => by have : x = h.nb := e; omega)
      have hp6 := hp.to o56 (fun _ _ f => f)
      have z3 := fun k => c6.l3 k
      have z4 := fun k => c6.l4 k
      have z3' : ∀ k : AV → Res, ld1 h6 (.ptr h.nb 3) k = k (.int 63 (x.a : Int)) := z3
      have z4' : ∀ k : AV → Res, ld1 h6 (.ptr h.nb 4) k = k (.int 63 (x.b : Int)) := z4
      have ea := t44 hp6 h0 (x.a : Int)
      have eb := t44 hp6 h0 (x.b : Int)
      have gb : ∀ y : Bool, gsel (.bool false) false (.bool y) = .bool y := fun y => rfl
      refine ⟨h6, ?_, o56, w6⟩
      cases ha : txo cs (x.a : Int) with
      | none =>
        rw [ha] at ea
        have ea : s44 [v, .int 63 (x.a : Int)] h6 = .ret (.tup (.cons (S []) (.cons (.bool false) .nil))) h6 := ea
        generalize txo cs (x.b : Int) = r at *
        have eb : s44 [v, .int 63 (x.b : Int)] h6 = .ret (.tup (.cons (S (r.getD [])) (.cons (.bool r.isSome) .nil))) h6 := eb
        show s48 [v, .int 63 (n : Int)] h = .ret (memV none) h6
        rcases tags with a | ⟨a, a'⟩ | ⟨a, a', a''⟩
        · rw [a] at f9
          simp only [↓s48, f9, ↓e, ↓gi, ↓gi', ↓gv', ↓p1, ↓cP_p, ↓g3, ↓g3', ↓e46, nth_z, nth_1, ↓cK_S, ↓g4, ↓g4', ↓e71, f12, ↓q1, ↓q2, ↓m5, ↓m5', ↓s6, ↓z3, ↓z3', ↓z4, ↓z4', ↓ea, ↓eb, ↓SD, SA, Int.ofNat_eq_natCast, Int.cast_ofNat_Int, Int.reduceBEq, Int.reduceAdd, Int.reduceNeg, Int.reduceNegSucc, Int.reduceLT, Int.reduceLE, Int.reduceMul, Int.reduceTMod, Int.reduceSub, Int.reduceBNe, Bool.not_true, Bool.not_false, decide_true, decide_false, ne_eq, not_false_eq_true, Int.reduceEq, reduceCtorEq]; rfl
        · rw [a] at f9; rw [a'] at f10
          simp only [↓s48, f9, f10, ↓e, ↓gi, ↓gi', ↓gv', ↓p1, ↓cP_p, ↓g3, ↓g3', ↓e46, nth_z, nth_1, ↓cK_S, ↓g4, ↓g4', ↓e71, f12, ↓q1, ↓q2, ↓m5, ↓m5', ↓s6, ↓z3, ↓z3', ↓z4, ↓z4', ↓ea, ↓eb, ↓SD, SA, Int.ofNat_eq_natCast, Int.cast_ofNat_Int, Int.reduceBEq, Int.reduceAdd, Int.reduceNeg, Int.reduceNegSucc, Int.reduceLT, Int.reduceLE, Int.reduceMul, Int.reduceTMod, Int.reduceSub, Int.reduceBNe, Bool.not_true, Bool.not_false, decide_true, decide_false, ne_eq, not_false_eq_true, Int.reduceEq, reduceCtorEq]; rfl
        · rw [a] at f9; rw [a'] at f10; rw [a''] at f11
          simp only [↓s48, f9, f10, f11, ↓e, ↓gi, ↓gi', ↓gv', ↓p1, ↓cP_p, ↓g3, ↓g3', ↓e46, nth_z, nth_1, ↓cK_S, ↓g4, ↓g4', ↓e71, f12, ↓q1, ↓q2, ↓m5, ↓m5', ↓s6, ↓z3, ↓z3', ↓z4, ↓z4', ↓ea, ↓eb, ↓SD, SA, Int.ofNat_eq_natCast, Int.cast_ofNat_Int, Int.reduceBEq, Int.reduceAdd, Int.reduceNeg, Int.reduceNegSucc, Int.reduceLT, Int.reduceLE, Int.reduceMul, Int.reduceTMod, Int.reduceSub, Int.reduceBNe, Bool.not_true, Bool.not_false, decide_true, decide_false, ne_eq, not_false_eq_true, Int.reduceEq, reduceCtorEq]; rfl
      | some nm =>
        rw [ha] at ea
        have ea : s44 [v, .int 63 (x.a : Int)] h6 = .ret (.tup (.cons (S nm) (.cons (.bool true) .nil))) h6 := ea
        cases hb : txo cs (x.b : Int) with
        | none =>
          rw [hb] at eb
          have eb : s44 [v, .int 63 (x.b : Int)] h6 = .ret (.tup (.cons (S []) (.cons (.bool false) .nil))) h6 := eb
          show s48 [v, .int 63 (n : Int)] h = .ret (memV none) h6
          rcases tags with a | ⟨a, a'⟩ | ⟨a, a', a''⟩
          · rw [a] at f9
            simp only [↓s48, f9, ↓e, ↓gi, ↓gi', ↓gv', ↓p1, ↓cP_p, ↓g3, ↓g3', ↓e46, nth_z, nth_1, ↓cK_S, ↓g4, ↓g4', ↓e71, f12, ↓q1, ↓q2, ↓m5, ↓m5', ↓s6, ↓z3, ↓z3', ↓z4, ↓z4', ↓ea, ↓eb, ↓gb, ↓SD, SA, Int.ofNat_eq_natCast, Int.cast_ofNat_Int, Int.reduceBEq, Int.reduceAdd, Int.reduceNeg, Int.reduceNegSucc, Int.reduceLT, Int.reduceLE, Int.reduceMul, Int.reduceTMod, Int.reduceSub, Int.reduceBNe, Bool.not_true, Bool.not_false, decide_true, decide_false, ne_eq, not_false_eq_true, Int.reduceEq, reduceCtorEq]; rfl
          · rw [a] at f9; rw [a'] at f10
            simp only [↓s48, f9, f10, ↓e, ↓gi, ↓gi', ↓gv', ↓p1, ↓cP_p, ↓g3, ↓g3', ↓e46, nth_z, nth_1, ↓cK_S, ↓g4, ↓g4', ↓e71, f12, ↓q1, ↓q2, ↓m5, ↓m5', ↓s6, ↓z3, ↓z3', ↓z4, ↓z4', ↓ea, ↓eb, ↓gb, ↓SD, SA, Int.ofNat_eq_natCast, Int.cast_ofNat_Int, Int.reduceBEq, Int.reduceAdd, Int.reduceNeg, Int.reduceNegSucc, Int.reduceLT, Int.reduceLE, Int.reduceMul, Int.reduceTMod, Int.reduceSub, Int.reduceBNe, Bool.not_true, Bool.not_false, decide_true, decide_false, ne_eq, not_false_eq_true, Int.reduceEq, reduceCtorEq]; rfl
          · rw [a] at f9; rw [a'] at f10; rw [a''] at f11
            simp only [↓s48, f9, f10, f11, ↓e, ↓gi, ↓gi', ↓gv', ↓p1, ↓cP_p, ↓g3, ↓g3', ↓e46, nth_z, nth_1, ↓cK_S, ↓g4, ↓g4', ↓e71, f12, ↓q1, ↓q2, ↓m5, ↓m5', ↓s6, ↓z3, ↓z3', ↓z4, ↓z4', ↓ea, ↓eb, ↓gb, ↓SD, SA, Int.ofNat_eq_natCast, Int.cast_ofNat_Int, Int.reduceBEq, Int.reduceAdd, Int.reduceNeg, Int.reduceNegSucc, Int.reduceLT, Int.reduceLE, Int.reduceMul, Int.reduceTMod, Int.reduceSub, Int.reduceBNe, Bool.not_true, Bool.not_false, decide_true, decide_false, ne_eq, not_false_eq_true, Int.reduceEq, reduceCtorEq]; rfl
        | some d =>
          rw [hb] at eb
          have eb : s44 [v, .int 63 (x.b : Int)] h6 = .ret (.tup (.cons (S d) (.cons (.bool true) .nil))) h6 := eb
          rcases tags with a | ⟨a, a'⟩ | ⟨a, a', a''⟩
          · rw [a] at f9
            simp only [↓s48, f9, ↓e, ↓gi, ↓gi', ↓gv', ↓p1, ↓cP_p, ↓g3, ↓g3', ↓e46, nth_z, nth_1, ↓cK_S, ↓g4, ↓g4', ↓e71, f12, ↓q1, ↓q2, ↓m5, ↓m5', ↓s6, ↓z3, ↓z3', ↓z4, ↓z4', ↓ea, ↓eb, ↓gb, ↓SD, SA, Int.ofNat_eq_natCast, Int.cast_ofNat_Int, Int.reduceBEq, Int.reduceAdd, Int.reduceNeg, Int.reduceNegSucc, Int.reduceLT, Int.reduceLE, Int.reduceMul, Int.reduceTMod, Int.reduceSub, Int.reduceBNe, Bool.not_true, Bool.not_false, decide_true, decide_false, ne_eq, not_false_eq_true, Int.reduceEq, reduceCtorEq]; rfl
          · rw [a] at f9; rw [a'] at f10
            simp only [↓s48, f9, f10, ↓e, ↓gi, ↓gi', ↓gv', ↓p1, ↓cP_p, ↓g3, ↓g3', ↓e46, nth_z, nth_1, ↓cK_S, ↓g4, ↓g4', ↓e71, f12, ↓q1, ↓q2, ↓m5, ↓m5', ↓s6, ↓z3, ↓z3', ↓z4, ↓z4', ↓ea, ↓eb, ↓gb, ↓SD, SA, Int.ofNat_eq_natCast, Int.cast_ofNat_Int, Int.reduceBEq, Int.reduceAdd, Int.reduceNeg, Int.reduceNegSucc, Int.reduceLT, Int.reduceLE, Int.reduceMul, Int.reduceTMod, Int.reduceSub, Int.reduceBNe, Bool.not_true, Bool.not_false, decide_true, decide_false, ne_eq, not_false_eq_true, Int.reduceEq, reduceCtorEq]; rfl
          · rw [a] at f9; rw [a'] at f10; rw [a''] at f11
            simp only [↓s48, f9, f10, f11, ↓e, ↓gi, ↓gi', ↓gv', ↓p1, ↓cP_p, ↓g3, ↓g3', ↓e46, nth_z, nth_1, ↓cK_S, ↓g4, ↓g4', ↓e71, f12, ↓q1, ↓q2, ↓m5, ↓m5', ↓s6, ↓z3, ↓z3', ↓z4, ↓z4', ↓ea, ↓eb, ↓gb, ↓SD, SA, Int.ofNat_eq_natCast, Int.cast_ofNat_Int, Int.reduceBEq, Int.reduceAdd, Int.reduceNeg, Int.reduceNegSucc, Int.reduceLT, Int.reduceLE, Int.reduceMul, Int.reduceTMod, Int.reduceSub, Int.reduceBNe, Bool.not_true, Bool.not_false, decide_true, decide_false, ne_eq, not_false_eq_true, Int.reduceEq, reduceCtorEq]; rfl
end
theorem t94 {l : List UInt8} (hl : l.length ≤ 100000) {h : Hp} (hw : Wf h) : ∃ h', s94 [S l] h = .ret (.bool (arB l)) h' ∧ To No h h' ∧ Wf h' := by
  obtain ⟨h2, e2, o2, w2⟩ := t27 hl hw
  obtain ⟨h3, m3, c3, o3, w3, n3⟩ := ty0_mk w2
  have m3' : ∀ k : AV → Hp → Res, mk h2 (.cons (.int 8 0) (.cons (.str 0 0) (.cons (.int 63 0) (.cons (.int 8 0) .nil)))) k = k (.ptr h2.nb 0) h3 := m3
  obtain ⟨h4, s4, c4, o4, w4, n4⟩ := c3.st w3 ((fld l).getD ty0)
  have s4 : ∀ k : Hp → Res, stN h3 4 (.ptr h2.nb 0) (tyV ((fld l).getD ty0)) k = k h4 := s4
  have oo : To No h h4 := o2.trans (o3.fresh o4 (fun x e => by have : x = h2.nb := e; omega))
  refine ⟨h4, ?_, oo, w4⟩
  unfold arB
  cases hf : fld l with
  | none =>
    have ef : fldV (fld l) = .tup (.cons (tyV ty0) (.cons (.bool false) .nil)) := by rw [hf]; rfl
    rw [ef] at e2
    rw [hf] at s4
    have s4 : ∀ k : Hp → Res, stN h3 4 (.ptr h2.nb 0) (tyV ty0) k = k h4 := s4
    simp only [↓s94, ↓e2, nth_z, nth_1, ↓cK_ty, ↓m3, ↓m3', ↓s4, ↓SD, SA, Int.ofNat_eq_natCast, Int.cast_ofNat_Int, Int.reduceBEq, Int.reduceAdd, Int.reduceNeg, Int.reduceNegSucc, Int.reduceLT, Int.reduceLE, Int.reduceMul, Int.reduceTMod, Int.reduceSub, Int.reduceBNe, Bool.not_true, Bool.not_false, decide_true, decide_false, ne_eq, not_false_eq_true, Int.reduceEq, reduceCtorEq]
  | some t =>
    have ef : fldV (fld l) = .tup (.cons (tyV t) (.cons (.bool true) .nil)) := by rw [hf]; rfl
    rw [ef] at e2
    rw [hf] at s4 c4
    have s4 : ∀ k : Hp → Res, stN h3 4 (.ptr h2.nb 0) (tyV t) k = k h4 := s4
    have c4 : Cel h4 h2.nb t := c4
    have l0 := fun k => c4.l0 k
    have l0' : ∀ k : AV → Res, ld1 h4 (.ptr h2.nb 0) k = k (.int 8 (t.k.toNat : Int)) := l0
    have f91 := c91 t.k
    show s94 [S l] h = .ret (.bool (decide (t.k = 91))) h4
    simp only [↓s94, ↓e2, nth_z, nth_1, ↓cK_ty, ↓m3, ↓m3', ↓s4, ↓cP_p, ↓l0, ↓l0', f91, ↓SD, SA, Int.ofNat_eq_natCast, Int.cast_ofNat_Int, Int.reduceBEq, Int.reduceAdd, Int.reduceNeg, Int.reduceNegSucc, Int.reduceLT, Int.reduceLE, Int.reduceMul, Int.reduceTMod, Int.reduceSub, Int.reduceBNe, Bool.not_true, Bool.not_false, decide_true, decide_false, ne_eq, not_false_eq_true, Int.reduceEq, reduceCtorEq]
end Go.Proofs.YtnpfppddongbhaaDoor
end

section
namespace Go.Proofs.YtnpfppddongbhaaDoor
open Go Go.AM
set_option autoImplicit false
noncomputable def namQ (cs : List Cn) (c : Cn) : Bool := match txo cs (c.a : Int), txo cs (c.b : Int) with
  | some n, some d => (plain n || decide (n = tInit)) && ((fld d).isSome || (md d).isSome)
  | _, _ => false
noncomputable def memQ (cs : List Cn) (c : Cn) : Bool := match memC cs c with
  | none => false
  | some (_, n, d) => if (fld d).isSome = decide (c.tag = 9) then (if n = tInit then decide (c.tag = 10) && decide (mdk d = 86) else decide (c.tag = 9) || (meth n && !decide (n = tClin))) else false
noncomputable def rgQ (cs : List Cn) (c : Cn) : Bool := if c.tag = 12 then namQ cs c else if c.tag = 9 ∨ c.tag = 10 ∨ c.tag = 11 then memQ cs c else rg cs c
theorem t33u {l : List UInt8} (hl : l.length ≤ 90000) {h : Hp} (hw : Wf h) : ∃ w ty h', (∀ k : AV → Res, cK w k = k w) ∧ s33 [S l] h = .ret (.tup (.cons w (.cons (tyV ty) (.cons (.bool (md l).isSome) .nil)))) h' ∧ ty.k = mdk l ∧ To No h h' ∧ Wf h' := by
  unfold mdk
  rcases t33 hl hw with ⟨em, h1, e1, o1, w1⟩ | ⟨p, v, h1, em, e1, g1, o1, w1⟩
  · rw [em]
    exact ⟨.nils, ty0, h1, fun k => rfl, e1, rfl, o1, w1⟩
  · rw [em]
    exact ⟨v, p.2, h1, fun k => g1.cK k, e1, rfl, o1, w1⟩
section
variable {h : Hp} {P : Nat → Prop} {cap : Nat} {v : AV} {cs : List Cn}
theorem t70a (hp : Pl5 h P cap v cs) (h0 : H0c cs) (hw : Wf h) (ht : Tx cs) (i : Nat) (hi : i < cs.length) (h9 : cs[i].tag ≠ 9) (h10 : cs[i].tag ≠ 10) (h11 : cs[i].tag ≠ 11) (h12 : cs[i].tag ≠ 12) :
    ∃ h', s70 [v, .int 63 (i : Int)] h = .ret (.bool (rg cs cs[i])) h' ∧ To No h h' ∧ Wf h' := by
  obtain ⟨b, o, p1, p2, a0, a1, a2, a3, a4⟩ := hp.pt i hi
  have htc := ht _ (List.getElem_mem hi)
  generalize cs[i] = c at *
  have a0' : ∀ k : AV → Res, ld1 h (.ptr b o) k = k (.int 63 (c.tag : Int)) := a0
  have a1' : ∀ k : AV → Res, ld1 h (.ptr b (o + 1)) k = k (S c.tx) := a1
  have a3' : ∀ k : AV → Res, ld1 h (.ptr b (o + 3)) k = k (.int 63 (c.a : Int)) := a3
  have f1 : (((c.tag : Nat) : Int) == 1) = decide (c.tag = 1) := nbeq _ 1
  have f7 : (((c.tag : Nat) : Int) == 7) = decide (c.tag = 7) := nbeq _ 7
  have f8 : (((c.tag : Nat) : Int) == 8) = decide (c.tag = 8) := nbeq _ 8
  have f9 : (((c.tag : Nat) : Int) == 9) = decide (c.tag = 9) := nbeq _ 9
  have f10 : (((c.tag : Nat) : Int) == 10) = decide (c.tag = 10) := nbeq _ 10
  have f11 : (((c.tag : Nat) : Int) == 11) = decide (c.tag = 11) := nbeq _ 11
  have f12 : (((c.tag : Nat) : Int) == 12) = decide (c.tag = 12) := nbeq _ 12
  rw [decide_eq_false h9] at f9
  rw [decide_eq_false h10] at f10
  rw [decide_eq_false h11] at f11
  rw [decide_eq_false h12] at f12
  have gs : ∀ x : List UInt8, gsel (.bool true) true (S x) = S x := fun x => rfl
  have gs' : ∀ x : List UInt8, gsel (.bool false) false (S x) = S x := fun x => rfl
  have gb : ∀ x : Bool, gsel (.bool true) true (.bool x) = .bool x := fun x => rfl
  unfold rg
  by_cases d1 : c.tag = 1
  · rw [decide_eq_true d1] at f1
    obtain ⟨w, h2, e2, ow, o2, w2⟩ := t51o (l := c.tx) (by omega) hw
    rw [if_pos d1]
    have kw : ∀ k : AV → Res, cK w k = k w := fun k => cK_one ow k
    exact ⟨h2, by simp only [↓s70, ↓p1, ↓cP_p, ↓a0, ↓a0', f1, ↓a1, ↓a1', ↓e2, nth_z, nth_1, ↓kw, ↓SD, SA, Int.ofNat_eq_natCast, Int.cast_ofNat_Int, Int.reduceBEq, Int.reduceAdd, Int.reduceNeg, Int.reduceNegSucc, Int.reduceLT, Int.reduceLE, Int.reduceMul, Int.reduceTMod, Int.reduceSub, Int.reduceBNe, Bool.not_true, Bool.not_false, decide_true, decide_false, ne_eq, not_false_eq_true, Int.reduceEq, reduceCtorEq], o2, w2⟩
  rw [decide_eq_false d1] at f1
  rw [if_neg d1]
  by_cases d7 : c.tag = 7
  · rw [decide_eq_true d7] at f7
    rw [if_pos d7]
    have e44 := t44 hp h0 (c.a : Int)
    cases hx : txo cs (c.a : Int) with
    | none =>
      rw [hx] at e44
      have e44 : s44 [v, .int 63 (c.a : Int)] h = .ret (.tup (.cons (S []) (.cons (.bool false) .nil))) h := e44
      exact ⟨h, by simp only [↓s70, ↓p1, ↓cP_p, ↓a0, ↓a0', f1, f7, ↓a3, ↓a3', ↓e44, nth_z, nth_1, ↓cK_S, ↓SD, SA, Int.ofNat_eq_natCast, Int.cast_ofNat_Int, Int.reduceBEq, Int.reduceAdd, Int.reduceNeg, Int.reduceNegSucc, Int.reduceLT, Int.reduceLE, Int.reduceMul, Int.reduceTMod, Int.reduceSub, Int.reduceBNe, Bool.not_true, Bool.not_false, decide_true, decide_false, ne_eq, not_false_eq_true, Int.reduceEq, reduceCtorEq], To.refl _ _, hw⟩
    | some s =>
      rw [hx] at e44
      have e44 : s44 [v, .int 63 (c.a : Int)] h = .ret (.tup (.cons (S s) (.cons (.bool true) .nil))) h := e44
      have hs := txo_len ht hx
      obtain ⟨h2, e2, o2, w2⟩ := t18 (l := s) (by omega) hw
      obtain ⟨h3, e3, o3, w3⟩ := t94 (l := s) (by omega) w2
      show ∃ h', s70 [v, .int 63 (i : Int)] h = .ret (.bool (cls s || arB s)) h' ∧ To No h h' ∧ Wf h'
      cases hcl : cls s with
      | true =>
        rw [hcl] at e2
        exact ⟨h2, by simp only [↓s70, ↓p1, ↓cP_p, ↓a0, ↓a0', f1, f7, ↓a3, ↓a3', ↓e44, nth_z, nth_1, ↓cK_S, ↓gs, ↓gb, ↓e2, ↓SD, SA, Int.ofNat_eq_natCast, Int.cast_ofNat_Int, Int.reduceBEq, Int.reduceAdd, Int.reduceNeg, Int.reduceNegSucc, Int.reduceLT, Int.reduceLE, Int.reduceMul, Int.reduceTMod, Int.reduceSub, Int.reduceBNe, Bool.not_true, Bool.not_false, decide_true, decide_false, ne_eq, not_false_eq_true, Int.reduceEq, reduceCtorEq]; try rfl, o2, w2⟩
      | false =>
        rw [hcl] at e2
        refine ⟨h3, ?_, o2.trans o3, w3⟩
        generalize arB s = ar at *
        cases ar <;> (simp only [↓s70, ↓p1, ↓cP_p, ↓a0, ↓a0', f1, f7, ↓a3, ↓a3', ↓e44, nth_z, nth_1, ↓cK_S, ↓gs, ↓gs', ↓gb, ↓e2, ↓e3, ↓SD, SA, Int.ofNat_eq_natCast, Int.cast_ofNat_Int, Int.reduceBEq, Int.reduceAdd, Int.reduceNeg, Int.reduceNegSucc, Int.reduceLT, Int.reduceLE, Int.reduceMul, Int.reduceTMod, Int.reduceSub, Int.reduceBNe, Bool.not_true, Bool.not_false, decide_true, decide_false, ne_eq, not_false_eq_true, Int.reduceEq, reduceCtorEq]; try rfl)
  rw [decide_eq_false d7] at f7
  rw [if_neg d7]
  by_cases d8 : c.tag = 8
  · rw [decide_eq_true d8] at f8
    rw [if_pos d8]
    have e71 := t71 hp (c.a : Int)
    have g1 : (((tgR cs (c.a : Int) : Nat) : Int) == 1) = tg cs (c.a : Int) 1 := tgR_eq h0 (c.a : Int) 1 (by decide)
    exact ⟨h, by simp only [↓s70, ↓p1, ↓cP_p, ↓a0, ↓a0', f1, f7, f8, ↓a3, ↓a3', ↓e71, g1, ↓SD, SA, Int.ofNat_eq_natCast, Int.cast_ofNat_Int, Int.reduceBEq, Int.reduceAdd, Int.reduceNeg, Int.reduceNegSucc, Int.reduceLT, Int.reduceLE, Int.reduceMul, Int.reduceTMod, Int.reduceSub, Int.reduceBNe, Bool.not_true, Bool.not_false, decide_true, decide_false, ne_eq, not_false_eq_true, Int.reduceEq, reduceCtorEq], To.refl _ _, hw⟩
  rw [decide_eq_false d8] at f8
  rw [if_neg d8]
  exact ⟨h, by simp only [↓s70, ↓p1, ↓cP_p, ↓a0, ↓a0', f1, f7, f8, f9, f10, f11, f12, ↓SD, SA, Int.ofNat_eq_natCast, Int.cast_ofNat_Int, Int.reduceBEq, Int.reduceAdd, Int.reduceNeg, Int.reduceNegSucc, Int.reduceLT, Int.reduceLE, Int.reduceMul, Int.reduceTMod, Int.reduceSub, Int.reduceBNe, Bool.not_true, Bool.not_false, decide_true, decide_false, ne_eq, not_false_eq_true, Int.reduceEq, reduceCtorEq], To.refl _ _, hw⟩
theorem t70n (hp : Pl5 h P cap v cs) (h0 : H0c cs) (hw : Wf h) (ht : Tx cs) (i : Nat) (hi : i < cs.length) (h12 : cs[i].tag = 12) :
    ∃ h', s70 [v, .int 63 (i : Int)] h = .ret (.bool (namQ cs cs[i])) h' ∧ To No h h' ∧ Wf h' := by
  obtain ⟨b, o, p1, p2, a0, a1, a2, a3, a4⟩ := hp.pt i hi
  generalize cs[i] = c at *
  rw [h12] at a0
  have q12 : ((12 : Nat) : Int) = 12 := rfl
  rw [q12] at a0
  have a0' : ∀ k : AV → Res, ld1 h (.ptr b o) k = k (.int 63 12) := a0
  have a3' : ∀ k : AV → Res, ld1 h (.ptr b (o + 3)) k = k (.int 63 (c.a : Int)) := a3
  have a4' : ∀ k : AV → Res, ld1 h (.ptr b (o + 4)) k = k (.int 63 (c.b : Int)) := a4
  have ea := t44 hp h0 (c.a : Int)
  have eb := t44 hp h0 (c.b : Int)
  have hlb := txo_lenD ht (c.b : Int)
  obtain ⟨h2, e2, o2, w2⟩ := t27 (l := (txo cs (c.b : Int)).getD []) (by omega) hw
  obtain ⟨h3, m3, c3, o3, w3, n3⟩ := ty0_mk w2
  have m3' : ∀ k : AV → Hp → Res, mk h2 (.cons (.int 8 0) (.cons (.str 0 0) (.cons (.int 63 0) (.cons (.int 8 0) .nil)))) k = k (.ptr h2.nb 0) h3 := m3
  obtain ⟨h4, p3, p4, o4, w4⟩ := fin1 w3 c3 ((fld ((txo cs (c.b : Int)).getD [])).getD ty0)
  obtain ⟨w, ty, h5, kw, e5, hk, o5, w5⟩ := t33u hlb w4
  obtain ⟨h6, m6, c6, o6, w6, n6⟩ := ty0_mk w5
  have m6' : ∀ k : AV → Hp → Res, mk h5 (.cons (.int 8 0) (.cons (.str 0 0) (.cons (.int 63 0) (.cons (.int 8 0) .nil)))) k = k (.ptr h5.nb 0) h6 := m6
  obtain ⟨h7, p5, p6, o7, w7⟩ := fin1 w6 c6 ty
  have e2 : s27 [S ((txo cs (c.b : Int)).getD [])] h = .ret (.tup (.cons (tyV ((fld ((txo cs (c.b : Int)).getD [])).getD ty0)) (.cons (.bool (fld ((txo cs (c.b : Int)).getD [])).isSome) .nil))) h2 := e2
  have ea : s44 [v, .int 63 (c.a : Int)] h = .ret (.tup (.cons (S ((txo cs (c.a : Int)).getD [])) (.cons (.bool (txo cs (c.a : Int)).isSome) .nil))) h := ea
  have eb : s44 [v, .int 63 (c.b : Int)] h = .ret (.tup (.cons (S ((txo cs (c.b : Int)).getD [])) (.cons (.bool (txo cs (c.b : Int)).isSome) .nil))) h := eb
  have ot : To No h h7 := ((o2.trans (o3.fresh o4 (fun x e => by have : x = h2.nb := e; omega))).trans o5).trans (o6.fresh o7 (fun x e => by have : x = h5.nb := e; omega))
  have gb : ∀ x : Bool, gsel (.bool true) true (.bool x) = .bool x := fun x => rfl
  have gb' : ∀ x : Bool, gsel (.bool false) false (.bool x) = .bool x := fun x => rfl
  have gs : ∀ x : List UInt8, gsel (.bool true) true (S x) = S x := fun x => rfl
  have gs' : ∀ x : List UInt8, gsel (.bool false) false (S x) = S x := fun x => rfl
  unfold namQ
  cases ha : txo cs (c.a : Int) with
  | none =>
    rw [ha] at ea
    have ea : s44 [v, .int 63 (c.a : Int)] h = .ret (.tup (.cons (S []) (.cons (.bool false) .nil))) h := ea
    generalize txo cs (c.b : Int) = r at *
    generalize (fld (r.getD [])).getD ty0 = T at *
    generalize (fld (r.getD [])).isSome = fb at *
    generalize (md (r.getD [])).isSome = mb at *
    refine ⟨h7, ?_, ot, w7⟩
    show s70 [v, .int 63 (i : Int)] h = .ret (.bool false) h7
    generalize r.isSome = rb at *
    simp only [↓s70, ↓p1, ↓cP_p, ↓a0, ↓a0', ↓a3, ↓a3', ↓a4, ↓a4', ↓ea, ↓eb, nth_z, nth_1, nth_2, ↓cK_S, ↓e2, ↓cK_ty, ↓m3, ↓m3', ↓p3, ↓e5, ↓kw, ↓m6, ↓m6', ↓p5, ↓SD, SA, Int.ofNat_eq_natCast, Int.cast_ofNat_Int, Int.reduceBEq, Int.reduceAdd, Int.reduceNeg, Int.reduceNegSucc, Int.reduceLT, Int.reduceLE, Int.reduceMul, Int.reduceTMod, Int.reduceSub, Int.reduceBNe, Bool.not_true, Bool.not_false, decide_true, decide_false, ne_eq, not_false_eq_true, Int.reduceEq, reduceCtorEq]
  | some n =>
    rw [ha] at ea
    have ea : s44 [v, .int 63 (c.a : Int)] h = .ret (.tup (.cons (S n) (.cons (.bool true) .nil))) h := ea
    cases hb : txo cs (c.b : Int) with
    | none =>
      rw [hb] at eb e2 p3 e5
      have eb : s44 [v, .int 63 (c.b : Int)] h = .ret (.tup (.cons (S []) (.cons (.bool false) .nil))) h := eb
      have e2 : s27 [S []] h = .ret (.tup (.cons (tyV ((fld []).getD ty0)) (.cons (.bool (fld []).isSome) .nil))) h2 := e2
      have p3 : ∀ k : Hp → Res, stN h3 4 (.ptr h2.nb 0) (tyV ((fld []).getD ty0)) k = k h4 := p3
      have e5 : s33 [S []] h4 = .ret (.tup (.cons w (.cons (tyV ty) (.cons (.bool (md []).isSome) .nil)))) h5 := e5
      refine ⟨h7, ?_, ot, w7⟩
      generalize (fld []).getD ty0 = T at *
      generalize (fld []).isSome = fb at *
      generalize (md []).isSome = mb at *
      show s70 [v, .int 63 (i : Int)] h = .ret (.bool false) h7
      simp only [↓s70, ↓p1, ↓cP_p, ↓a0, ↓a0', ↓a3, ↓a3', ↓a4, ↓a4', ↓ea, ↓eb, nth_z, nth_1, nth_2, ↓cK_S, ↓e2, ↓cK_ty, ↓m3, ↓m3', ↓p3, ↓e5, ↓kw, ↓m6, ↓m6', ↓p5, ↓gb, ↓SD, SA, Int.ofNat_eq_natCast, Int.cast_ofNat_Int, Int.reduceBEq, Int.reduceAdd, Int.reduceNeg, Int.reduceNegSucc, Int.reduceLT, Int.reduceLE, Int.reduceMul, Int.reduceTMod, Int.reduceSub, Int.reduceBNe, Bool.not_true, Bool.not_false, decide_true, decide_false, ne_eq, not_false_eq_true, Int.reduceEq, reduceCtorEq]
    | some d =>
      rw [hb] at eb e2 p3 e5
      have eb : s44 [v, .int 63 (c.b : Int)] h = .ret (.tup (.cons (S d) (.cons (.bool true) .nil))) h := eb
      have e2 : s27 [S d] h = .ret (.tup (.cons (tyV ((fld d).getD ty0)) (.cons (.bool (fld d).isSome) .nil))) h2 := e2
      have p3 : ∀ k : Hp → Res, stN h3 4 (.ptr h2.nb 0) (tyV ((fld d).getD ty0)) k = k h4 := p3
      have e5 : s33 [S d] h4 = .ret (.tup (.cons w (.cons (tyV ty) (.cons (.bool (md d).isSome) .nil)))) h5 := e5
      have ln := txo_len ht ha
      obtain ⟨h8, e8, o8, w8⟩ := t16 (l := n) (by omega) w7
      refine ⟨h8, ?_, ot.trans o8, w8⟩
      show s70 [v, .int 63 (i : Int)] h = .ret (.bool ((plain n || decide (n = tInit)) && ((fld d).isSome || (md d).isSome))) h8
      generalize (fld d).getD ty0 = T at *
      generalize (fld d).isSome = fb at *
      generalize (md d).isSome = mb at *
      cases hpn : plain n with
      | false =>
        rw [hpn] at e8
        cases hin : decide (n = tInit) <;> cases fb <;> cases mb <;> (simp only [↓s70, ↓p1, ↓cP_p, ↓a0, ↓a0', ↓a3, ↓a3', ↓a4, ↓a4', ↓ea, ↓eb, nth_z, nth_1, nth_2, ↓cK_S, ↓e2, ↓cK_ty, ↓m3, ↓m3', ↓p3, ↓e5, ↓kw, ↓m6, ↓m6', ↓p5, ↓gb, ↓gb', ↓gs, ↓gs', ↓e8, ↓S_init, ↓eqS_S, hin, ↓SD, SA, Int.ofNat_eq_natCast, Int.cast_ofNat_Int, Int.reduceBEq, Int.reduceAdd, Int.reduceNeg, Int.reduceNegSucc, Int.reduceLT, Int.reduceLE, Int.reduceMul, Int.reduceTMod, Int.reduceSub, Int.reduceBNe, Bool.not_true, Bool.not_false, decide_true, decide_false, ne_eq, not_false_eq_true, Int.reduceEq, reduceCtorEq]; try rfl)
      | true =>
        rw [hpn] at e8
        cases fb <;> cases mb <;> (simp only [↓s70, ↓p1, ↓cP_p, ↓a0, ↓a0', ↓a3, ↓a3', ↓a4, ↓a4', ↓ea, ↓eb, nth_z, nth_1, nth_2, ↓cK_S, ↓e2, ↓cK_ty, ↓m3, ↓m3', ↓p3, ↓e5, ↓kw, ↓m6, ↓m6', ↓p5, ↓gb, ↓gb', ↓gs, ↓gs', ↓e8, ↓SD, SA, Int.ofNat_eq_natCast, Int.cast_ofNat_Int, Int.reduceBEq, Int.reduceAdd, Int.reduceNeg, Int.reduceNegSucc, Int.reduceLT, Int.reduceLE, Int.reduceMul, Int.reduceTMod, Int.reduceSub, Int.reduceBNe, Bool.not_true, Bool.not_false, decide_true, decide_false, ne_eq, not_false_eq_true, Int.reduceEq, reduceCtorEq]; try rfl)
end
end Go.Proofs.YtnpfppddongbhaaDoor
end

section
namespace Go.Proofs.YtnpfppddongbhaaDoor
open Go Go.AM
set_option autoImplicit false
section
variable {h : Hp} {P : Nat → Prop} {cap : Nat} {v : AV} {cs : List Cn}
theorem t70m (hp : Pl5 h P cap v cs) (h0 : H0c cs) (hw : Wf h) (ht : Tx cs) (i : Nat) (hi : i < cs.length) (htg : cs[i].tag = 9 ∨ cs[i].tag = 10 ∨ cs[i].tag = 11) :
    ∃ h', s70 [v, .int 63 (i : Int)] h = .ret (.bool (memQ cs cs[i])) h' ∧ To No h h' ∧ Wf h' := by
  obtain ⟨h2, e2, o2, w2⟩ := t48 hp h0 hw (i : Int)
  rw [memo_of h0 hi htg] at e2
  obtain ⟨b, o, p1, p2, a0, -⟩ := hp.pt i hi
  have hlen : (((memC cs cs[i]).map (·.2.2)).getD []).length ≤ 90000 := by
    cases hm : memC cs cs[i] with
    | none => simp
    | some q => obtain ⟨s, n, d⟩ := q; exact (memC_len ht hm).2
  obtain ⟨h3, e3, o3, w3⟩ := t27 (l := ((memC cs cs[i]).map (·.2.2)).getD []) (by omega) w2
  obtain ⟨h4, m4, c4, o4, w4, n4⟩ := ty0_mk w3
  have m4' : ∀ k : AV → Hp → Res, mk h3 (.cons (.int 8 0) (.cons (.str 0 0) (.cons (.int 63 0) (.cons (.int 8 0) .nil)))) k = k (.ptr h3.nb 0) h4 := m4
  obtain ⟨h5, p3, p4, o5, w5⟩ := fin1 w4 c4 ((fld (((memC cs cs[i]).map (·.2.2)).getD [])).getD ty0)
  obtain ⟨w, ty, h6, kw, e6, hk, o6, w6⟩ := t33u hlen w5
  obtain ⟨h7, m7, c7, o7, w7, n7⟩ := ty0_mk w6
  have m7' : ∀ k : AV → Hp → Res, mk h6 (.cons (.int 8 0) (.cons (.str 0 0) (.cons (.int 63 0) (.cons (.int 8 0) .nil)))) k = k (.ptr h6.nb 0) h7 := m7
  obtain ⟨h8, s8, c8, o8, w8, n8⟩ := c7.st w7 ty
  have e3 : s27 [S (((memC cs cs[i]).map (·.2.2)).getD [])] h2 = .ret (.tup (.cons (tyV ((fld (((memC cs cs[i]).map (·.2.2)).getD [])).getD ty0)) (.cons (.bool (fld (((memC cs cs[i]).map (·.2.2)).getD [])).isSome) .nil))) h3 := e3
  have s8 : ∀ k : Hp → Res, stN h7 4 (.ptr h6.nb 0) (tyV ty) k = k h8 := s8
  have ot : To No h h8 := (((o2.trans o3).trans (o4.fresh o5 (fun x e => by have : x = h3.nb := e; omega))).trans o6).trans (o7.fresh o8 (fun x e => by have : x = h6.nb := e; omega))
  obtain ⟨b', o', p1', -, b0, -⟩ := (hp.to ot (fun _ _ f => f)).pt i hi
  obtain ⟨rfl, rfl⟩ := ix_same p1 p1'
  have k0 := fun k => c8.l0 k
  have k0' : ∀ k : AV → Res, ld1 h8 (.ptr h6.nb 0) k = k (.int 8 (ty.k.toNat : Int)) := k0
  have f86 := c86 ty.k
  generalize cs[i] = c at *
  have a0' : ∀ k : AV → Res, ld1 h (.ptr b o) k = k (.int 63 (c.tag : Int)) := a0
  have b0' : ∀ k : AV → Res, ld1 h8 (.ptr b o) k = k (.int 63 (c.tag : Int)) := b0
  have gb : ∀ x : Bool, gsel (.bool true) true (.bool x) = .bool x := fun x => rfl
  have gb' : ∀ x : Bool, gsel (.bool false) false (.bool x) = .bool x := fun x => rfl
  have gs : ∀ x : List UInt8, gsel (.bool true) true (S x) = S x := fun x => rfl
  have gs' : ∀ x : List UInt8, gsel (.bool false) false (S x) = S x := fun x => rfl
  have gi' : ∀ x : Int, gsel (.bool false) false (.int 63 x) = .int 63 x := fun x => rfl
  have gv' : gsel (.bool false) false v = v := by obtain ⟨b, B, rfl, -⟩ := hp; rfl
  unfold memQ
  cases hm : memC cs c with
  | none =>
    rw [hm] at e2 e3 p3 e6
    have e2 : s48 [v, .int 63 (i : Int)] h = .ret (.tup (.cons (S []) (.cons (S []) (.cons (S []) (.cons (.bool false) .nil))))) h2 := e2
    have e3 : s27 [S []] h2 = .ret (.tup (.cons (tyV ((fld []).getD ty0)) (.cons (.bool (fld []).isSome) .nil))) h3 := e3
    have p3 : ∀ k : Hp → Res, stN h4 4 (.ptr h3.nb 0) (tyV ((fld []).getD ty0)) k = k h5 := p3
    have e6 : s33 [S []] h5 = .ret (.tup (.cons w (.cons (tyV ty) (.cons (.bool (md []).isSome) .nil)))) h6 := e6
    refine ⟨h8, ?_, ot, w8⟩
    show s70 [v, .int 63 (i : Int)] h = .ret (.bool false) h8
    generalize (fld []).getD ty0 = T at *
    generalize (fld []).isSome = fb at *
    generalize (md []).isSome = mb at *
    rcases htg with g | g | g <;> rw [g] at a0 a0' b0 b0'
    · have q9 : ((9 : Nat) : Int) = 9 := rfl
      rw [q9] at a0 a0' b0 b0'
      simp only [↓s70, ↓p1, ↓cP_p, ↓a0, ↓a0', ↓e2, nth_z, nth_1, nth_2, nth_3, ↓cK_S, ↓e3, ↓cK_ty, ↓m4, ↓m4', ↓p3, ↓e6, ↓kw, ↓m7, ↓m7', ↓s8, ↓SD, SA, Int.ofNat_eq_natCast, Int.cast_ofNat_Int, Int.reduceBEq, Int.reduceAdd, Int.reduceNeg, Int.reduceNegSucc, Int.reduceLT, Int.reduceLE, Int.reduceMul, Int.reduceTMod, Int.reduceSub, Int.reduceBNe, Bool.not_true, Bool.not_false, decide_true, decide_false, ne_eq, not_false_eq_true, Int.reduceEq, reduceCtorEq]; try rfl
    · have q9 : ((10 : Nat) : Int) = 10 := rfl
      rw [q9] at a0 a0' b0 b0'
      simp only [↓s70, ↓p1, ↓cP_p, ↓a0, ↓a0', ↓e2, nth_z, nth_1, nth_2, nth_3, ↓cK_S, ↓e3, ↓cK_ty, ↓m4, ↓m4', ↓p3, ↓e6, ↓kw, ↓m7, ↓m7', ↓s8, ↓SD, SA, Int.ofNat_eq_natCast, Int.cast_ofNat_Int, Int.reduceBEq, Int.reduceAdd, Int.reduceNeg, Int.reduceNegSucc, Int.reduceLT, Int.reduceLE, Int.reduceMul, Int.reduceTMod, Int.reduceSub, Int.reduceBNe, Bool.not_true, Bool.not_false, decide_true, decide_false, ne_eq, not_false_eq_true, Int.reduceEq, reduceCtorEq]; try rfl
    · have q9 : ((11 : Nat) : Int) = 11 := rfl
      rw [q9] at a0 a0' b0 b0'
      simp only [↓s70, ↓p1, ↓cP_p, ↓a0, ↓a0', ↓e2, nth_z, nth_1, nth_2, nth_3, ↓cK_S, ↓e3, ↓cK_ty, ↓m4, ↓m4', ↓p3, ↓e6, ↓kw, ↓m7, ↓m7', ↓s8, ↓SD, SA, Int.ofNat_eq_natCast, Int.cast_ofNat_Int, Int.reduceBEq, Int.reduceAdd, Int.reduceNeg, Int.reduceNegSucc, Int.reduceLT, Int.reduceLE, Int.reduceMul, Int.reduceTMod, Int.reduceSub, Int.reduceBNe, Bool.not_true, Bool.not_false, decide_true, decide_false, ne_eq, not_false_eq_true, Int.reduceEq, reduceCtorEq]; try rfl
  | some q =>
    obtain ⟨s, n, d⟩ := q
    obtain ⟨ln, ld⟩ := memC_len ht hm
    rw [hm] at e2 e3 p3 e6 hk
    have e2 : s48 [v, .int 63 (i : Int)] h = .ret (.tup (.cons (S s) (.cons (S n) (.cons (S d) (.cons (.bool true) .nil))))) h2 := e2
    have e3 : s27 [S d] h2 = .ret (.tup (.cons (tyV ((fld d).getD ty0)) (.cons (.bool (fld d).isSome) .nil))) h3 := e3
    have p3 : ∀ k : Hp → Res, stN h4 4 (.ptr h3.nb 0) (tyV ((fld d).getD ty0)) k = k h5 := p3
    have e6 : s33 [S d] h5 = .ret (.tup (.cons w (.cons (tyV ty) (.cons (.bool (md d).isSome) .nil)))) h6 := e6
    have hk : ty.k = mdk d := hk
    obtain ⟨h9, e9, o9, w9⟩ := t20 (l := n) (by omega) w8
    show ∃ h', s70 [v, .int 63 (i : Int)] h = .ret (.bool (if (fld d).isSome = decide (c.tag = 9) then (if n = tInit then decide (c.tag = 10) && decide (mdk d = 86) else decide (c.tag = 9) || (meth n && !decide (n = tClin))) else false)) h' ∧ To No h h' ∧ Wf h'
    rw [← hk]
    generalize (fld d).getD ty0 = T at *
    generalize (fld d).isSome = fb at *
    generalize (md d).isSome = mb at *
    generalize decide (ty.k = 86) = k86 at *
    generalize meth n = me at *
    rcases htg with g | g | g <;> rw [g] at a0 a0' b0 b0' ⊢
    · have q9 : ((9 : Nat) : Int) = 9 := rfl
      rw [q9] at a0 a0' b0 b0'
      cases fb with
      | false => exact ⟨h8, by simp only [↓s70, ↓p1, ↓cP_p, ↓a0, ↓a0', ↓e2, nth_z, nth_1, nth_2, nth_3, ↓cK_S, ↓e3, ↓cK_ty, ↓m4, ↓m4', ↓p3, ↓e6, ↓kw, ↓m7, ↓m7', ↓s8, ↓gb, ↓gb', ↓gs, ↓gs', ↓gi', ↓gv', ↓b0, ↓b0', ↓S_init, ↓S_clin, ↓eqS_S, ↓SD, SA, Int.ofNat_eq_natCast, Int.cast_ofNat_Int, Int.reduceBEq, Int.reduceAdd, Int.reduceNeg, Int.reduceNegSucc, Int.reduceLT, Int.reduceLE, Int.reduceMul, Int.reduceTMod, Int.reduceSub, Int.reduceBNe, Bool.not_true, Bool.not_false, decide_true, decide_false, ne_eq, not_false_eq_true, Int.reduceEq, reduceCtorEq]; try rfl, ot, w8⟩
      | true =>
        rw [if_pos (by decide)]
        by_cases hin : n = tInit
        · rw [if_pos hin]
          have hd := decide_eq_true hin
          exact ⟨h8, by simp only [↓s70, ↓p1, ↓cP_p, ↓a0, ↓a0', ↓e2, nth_z, nth_1, nth_2, nth_3, ↓cK_S, ↓e3, ↓cK_ty, ↓m4, ↓m4', ↓p3, ↓e6, ↓kw, ↓m7, ↓m7', ↓s8, ↓gb, ↓gb', ↓gs, ↓gs', ↓gi', ↓gv', ↓b0, ↓b0', ↓S_init, ↓S_clin, ↓eqS_S, hd, ↓SD, SA, Int.ofNat_eq_natCast, Int.cast_ofNat_Int, Int.reduceBEq, Int.reduceAdd, Int.reduceNeg, Int.reduceNegSucc, Int.reduceLT, Int.reduceLE, Int.reduceMul, Int.reduceTMod, Int.reduceSub, Int.reduceBNe, Bool.not_true, Bool.not_false, decide_true, decide_false, ne_eq, not_false_eq_true, Int.reduceEq, reduceCtorEq]; try rfl, ot, w8⟩
        · rw [if_neg hin]
          have hd := decide_eq_false hin
          exact ⟨h8, by simp only [↓s70, ↓p1, ↓cP_p, ↓a0, ↓a0', ↓e2, nth_z, nth_1, nth_2, nth_3, ↓cK_S, ↓e3, ↓cK_ty, ↓m4, ↓m4', ↓p3, ↓e6, ↓kw, ↓m7, ↓m7', ↓s8, ↓gb, ↓gb', ↓gs, ↓gs', ↓gi', ↓gv', ↓b0, ↓b0', ↓S_init, ↓S_clin, ↓eqS_S, hd, ↓SD, SA, Int.ofNat_eq_natCast, Int.cast_ofNat_Int, Int.reduceBEq, Int.reduceAdd, Int.reduceNeg, Int.reduceNegSucc, Int.reduceLT, Int.reduceLE, Int.reduceMul, Int.reduceTMod, Int.reduceSub, Int.reduceBNe, Bool.not_true, Bool.not_false, decide_true, decide_false, ne_eq, not_false_eq_true, Int.reduceEq, reduceCtorEq]; try rfl, ot, w8⟩
    · have q9 : ((10 : Nat) : Int) = 10 := rfl
      rw [q9] at a0 a0' b0 b0'
      cases fb with
      | true => exact ⟨h8, by simp only [↓s70, ↓p1, ↓cP_p, ↓a0, ↓a0', ↓e2, nth_z, nth_1, nth_2, nth_3, ↓cK_S, ↓e3, ↓cK_ty, ↓m4, ↓m4', ↓p3, ↓e6, ↓kw, ↓m7, ↓m7', ↓s8, ↓gb, ↓gb', ↓gs, ↓gs', ↓gi', ↓gv', ↓b0, ↓b0', ↓S_init, ↓S_clin, ↓eqS_S, ↓SD, SA, Int.ofNat_eq_natCast, Int.cast_ofNat_Int, Int.reduceBEq, Int.reduceAdd, Int.reduceNeg, Int.reduceNegSucc, Int.reduceLT, Int.reduceLE, Int.reduceMul, Int.reduceTMod, Int.reduceSub, Int.reduceBNe, Bool.not_true, Bool.not_false, decide_true, decide_false, ne_eq, not_false_eq_true, Int.reduceEq, reduceCtorEq]; try rfl, ot, w8⟩
      | false =>
        rw [if_pos (by decide)]
        by_cases hin : n = tInit
        · rw [if_pos hin]
          have hd := decide_eq_true hin
          refine ⟨h8, ?_, ot, w8⟩
          cases k86 <;> (simp only [↓s70, ↓p1, ↓cP_p, ↓a0, ↓a0', ↓e2, nth_z, nth_1, nth_2, nth_3, ↓cK_S, ↓e3, ↓cK_ty, ↓m4, ↓m4', ↓p3, ↓e6, ↓kw, ↓m7, ↓m7', ↓s8, ↓gb, ↓gb', ↓gs, ↓gs', ↓gi', ↓gv', ↓b0, ↓b0', ↓S_init, ↓S_clin, ↓eqS_S, hd, ↓k0, ↓k0', f86, ↓SD, SA, Int.ofNat_eq_natCast, Int.cast_ofNat_Int, Int.reduceBEq, Int.reduceAdd, Int.reduceNeg, Int.reduceNegSucc, Int.reduceLT, Int.reduceLE, Int.reduceMul, Int.reduceTMod, Int.reduceSub, Int.reduceBNe, Bool.not_true, Bool.not_false, decide_true, decide_false, ne_eq, not_false_eq_true, Int.reduceEq, reduceCtorEq]; try rfl)
        · rw [if_neg hin]
          have hd := decide_eq_false hin
          refine ⟨h9, ?_, ot.trans o9, w9⟩
          cases me with
          | false => simp only [↓s70, ↓p1, ↓cP_p, ↓a0, ↓a0', ↓e2, nth_z, nth_1, nth_2, nth_3, ↓cK_S, ↓e3, ↓cK_ty, ↓m4, ↓m4', ↓p3, ↓e6, ↓kw, ↓m7, ↓m7', ↓s8, ↓gb, ↓gb', ↓gs, ↓gs', ↓gi', ↓gv', ↓b0, ↓b0', ↓S_init, ↓S_clin, ↓eqS_S, hd, ↓e9, ↓SD, SA, Int.ofNat_eq_natCast, Int.cast_ofNat_Int, Int.reduceBEq, Int.reduceAdd, Int.reduceNeg, Int.reduceNegSucc, Int.reduceLT, Int.reduceLE, Int.reduceMul, Int.reduceTMod, Int.reduceSub, Int.reduceBNe, Bool.not_true, Bool.not_false, decide_true, decide_false, ne_eq, not_false_eq_true, Int.reduceEq, reduceCtorEq]; try rfl
          | true => cases hcl : decide (n = tClin) <;> (simp only [↓s70, ↓p1, ↓cP_p, ↓a0, ↓a0', ↓e2, nth_z, nth_1, nth_2, nth_3, ↓cK_S, ↓e3, ↓cK_ty, ↓m4, ↓m4', ↓p3, ↓e6, ↓kw, ↓m7, ↓m7', ↓s8, ↓gb, ↓gb', ↓gs, ↓gs', ↓gi', ↓gv', ↓b0, ↓b0', ↓S_init, ↓S_clin, ↓eqS_S, hd, ↓e9, hcl, ↓SD, SA, Int.ofNat_eq_natCast, Int.cast_ofNat_Int, Int.reduceBEq, Int.reduceAdd, Int.reduceNeg, Int.reduceNegSucc, Int.reduceLT, Int.reduceLE, Int.reduceMul, Int.reduceTMod, Int.reduceSub, Int.reduceBNe, Bool.not_true, Bool.not_false, decide_true, decide_false, ne_eq, not_false_eq_true, Int.reduceEq, reduceCtorEq]; try rfl)
    · have q9 : ((11 : Nat) : Int) = 11 := rfl
      rw [q9] at a0 a0' b0 b0'
      cases fb with
      | true => exact ⟨h8, by simp only [↓s70, ↓p1, ↓cP_p, ↓a0, ↓a0', ↓e2, nth_z, nth_1, nth_2, nth_3, ↓cK_S, ↓e3, ↓cK_ty, ↓m4, ↓m4', ↓p3, ↓e6, ↓kw, ↓m7, ↓m7', ↓s8, ↓gb, ↓gb', ↓gs, ↓gs', ↓gi', ↓gv', ↓b0, ↓b0', ↓S_init, ↓S_clin, ↓eqS_S, ↓SD, SA, Int.ofNat_eq_natCast, Int.cast_ofNat_Int, Int.reduceBEq, Int.reduceAdd, Int.reduceNeg, Int.reduceNegSucc, Int.reduceLT, Int.reduceLE, Int.reduceMul, Int.reduceTMod, Int.reduceSub, Int.reduceBNe, Bool.not_true, Bool.not_false, decide_true, decide_false, ne_eq, not_false_eq_true, Int.reduceEq, reduceCtorEq]; try rfl, ot, w8⟩
      | false =>
        rw [if_pos (by decide)]
        by_cases hin : n = tInit
        · rw [if_pos hin]
          have hd := decide_eq_true hin
          exact ⟨h8, by simp only [↓s70, ↓p1, ↓cP_p, ↓a0, ↓a0', ↓e2, nth_z, nth_1, nth_2, nth_3, ↓cK_S, ↓e3, ↓cK_ty, ↓m4, ↓m4', ↓p3, ↓e6, ↓kw, ↓m7, ↓m7', ↓s8, ↓gb, ↓gb', ↓gs, ↓gs', ↓gi', ↓gv', ↓b0, ↓b0', ↓S_init, ↓S_clin, ↓eqS_S, hd, ↓SD, SA, Int.ofNat_eq_natCast, Int.cast_ofNat_Int, Int.reduceBEq, Int.reduceAdd, Int.reduceNeg, Int.reduceNegSucc, Int.reduceLT, Int.reduceLE, Int.reduceMul, Int.reduceTMod, Int.reduceSub, Int.reduceBNe, Bool.not_true, Bool.not_false, decide_true, decide_false, ne_eq, not_false_eq_true, Int.reduceEq, reduceCtorEq]; try rfl, ot, w8⟩
        · rw [if_neg hin]
          have hd := decide_eq_false hin
          refine ⟨h9, ?_, ot.trans o9, w9⟩
          cases me with
          | false => simp only [↓s70, ↓p1, ↓cP_p, ↓a0, ↓a0', ↓e2, nth_z, nth_1, nth_2, nth_3, ↓cK_S, ↓e3, ↓cK_ty, ↓m4, ↓m4', ↓p3, ↓e6, ↓kw, ↓m7, ↓m7', ↓s8, ↓gb, ↓gb', ↓gs, ↓gs', ↓gi', ↓gv', ↓b0, ↓b0', ↓S_init, ↓S_clin, ↓eqS_S, hd, ↓e9, ↓SD, SA, Int.ofNat_eq_natCast, Int.cast_ofNat_Int, Int.reduceBEq, Int.reduceAdd, Int.reduceNeg, Int.reduceNegSucc, Int.reduceLT, Int.reduceLE, Int.reduceMul, Int.reduceTMod, Int.reduceSub, Int.reduceBNe, Bool.not_true, Bool.not_false, decide_true, decide_false, ne_eq, not_false_eq_true, Int.reduceEq, reduceCtorEq]; try rfl
          | true => cases hcl : decide (n = tClin) <;> (simp only [↓s70, ↓p1, ↓cP_p, ↓a0, ↓a0', ↓e2, nth_z, nth_1, nth_2, nth_3, ↓cK_S, ↓e3, ↓cK_ty, ↓m4, ↓m4', ↓p3, ↓e6, ↓kw, ↓m7, ↓m7', ↓s8, ↓gb, ↓gb', ↓gs, ↓gs', ↓gi', ↓gv', ↓b0, ↓b0', ↓S_init, ↓S_clin, ↓eqS_S, hd, ↓e9, hcl, ↓SD, SA, Int.ofNat_eq_natCast, Int.cast_ofNat_Int, Int.reduceBEq, Int.reduceAdd, Int.reduceNeg, Int.reduceNegSucc, Int.reduceLT, Int.reduceLE, Int.reduceMul, Int.reduceTMod, Int.reduceSub, Int.reduceBNe, Bool.not_true, Bool.not_false, decide_true, decide_false, ne_eq, not_false_eq_true, Int.reduceEq, reduceCtorEq]; try rfl)
theorem t70F (hp : Pl5 h P cap v cs) (h0 : H0c cs) (hw : Wf h) (ht : Tx cs) (i : Nat) (hi : i < cs.length) :
    ∃ h', s70 [v, .int 63 (i : Int)] h = .ret (.bool (rgQ cs cs[i])) h' ∧ To No h h' ∧ Wf h' := by
  unfold rgQ
  by_cases h12 : cs[i].tag = 12
  · rw [if_pos h12]; exact t70n hp h0 hw ht i hi h12
  rw [if_neg h12]
  by_cases hm : cs[i].tag = 9 ∨ cs[i].tag = 10 ∨ cs[i].tag = 11
  · rw [if_pos hm]; exact t70m hp h0 hw ht i hi hm
  rw [if_neg hm]
  exact t70a hp h0 hw ht i hi (by omega) (by omega) (by omega) h12
end
end Go.Proofs.YtnpfppddongbhaaDoor
end

section
namespace Go.Proofs.YtnpfppddongbhaaDoor
open Go Go.AM
set_option autoImplicit false
noncomputable abbrev NF2 : AV := .tup (.cons .nils (.cons (.bool false) .nil))
theorem loop37F {P : Nat → Prop} {cap : Nat} {v : AV} {cs : List Cn} (hcs : cs.length ≤ 1000) (ht : Tx cs) (h0 : H0c cs) : ∀ (f m i : Nat) (h : Hp), cs.length - i ≤ f → f < m → i ≤ cs.length → Wf h → Pl5 h P cap v cs →
    ∃ h', lp L37n1 m [v, v, .int 63 (cs.length : Int), .int 63 (i : Int)] h = (if (cs.drop i).all (rg2 cs) = true then .exit 2 [v] h' else .ret NF2 h') ∧ To No h h' ∧ Wf h' := by
  have stop : ∀ (m i : Nat) (h : Hp), ¬ i < cs.length → Wf h → ∃ h', lp L37n1 (m + 1) [v, v, .int 63 (cs.length : Int), .int 63 (i : Int)] h = (if (cs.drop i).all (rg2 cs) = true then .exit 2 [v] h' else .ret NF2 h') ∧ To No h h' ∧ Wf h' := by
    intro m i h hi hw
    have q : ¬ (i : Int) < (cs.length : Int) := by omega
    rw [List.drop_eq_nil_of_le (by omega)]
    exact ⟨h, lpx m (by simp only [↓L37n1, q, ↓SD, SA, Int.ofNat_eq_natCast, Int.cast_ofNat_Int, Int.reduceBEq, Int.reduceAdd, Int.reduceNeg, Int.reduceNegSucc, Int.reduceLT, Int.reduceLE, Int.reduceMul, Int.reduceTMod, Int.reduceSub, Int.reduceBNe, Bool.not_true, Bool.not_false, decide_true, decide_false, ne_eq, not_false_eq_true, Int.reduceEq, reduceCtorEq]), To.refl _ _, hw⟩
  intro f
  induction f with
  | zero =>
    intro m i h hf hm hi hw hp
    obtain ⟨m, rfl⟩ : ∃ k, m = k + 1 := ⟨m - 1, by omega⟩
    exact stop m i h (by omega) hw
  | succ f ih =>
    intro m i h hf hm hi hw hp
    obtain ⟨m, rfl⟩ : ∃ k, m = k + 1 := ⟨m - 1, by omega⟩
    by_cases hin : i < cs.length
    · have q : (i : Int) < (cs.length : Int) := by omega
      obtain ⟨pb, po, x1, x2, -⟩ := hp.pt i hin
      obtain ⟨h1, m1, m1', c1, o1, w1, n1⟩ := cn0_mk hw
      obtain ⟨h2, p1, p2, o2, w2⟩ := fin5 w1 c1 cs[i]
      have o12 : To No h h2 := o1.fresh o2 (fun x e => by have : x = h.nb := e; omega)
      obtain ⟨h3, e3, o3, w3⟩ := t65F (hp.to o12 (fun _ _ f => f)) w2 ht hcs h0 cs[i] (List.getElem_mem hin)
      have o : To No h h3 := o12.trans o3
      rw [List.drop_eq_getElem_cons hin, List.all_cons]
      cases hr : rg2 cs cs[i] with
      | false =>
        rw [hr] at e3
        refine ⟨h3, ?_, o, w3⟩
        rw [Bool.false_and, if_neg (by decide)]
        exact lpr m (by simp only [↓L37n1, q, ↓x1, ↓x2, ↓m1, ↓m1', ↓p1, ↓p2, ↓e3, ↓SD, SA, Int.ofNat_eq_natCast, Int.cast_ofNat_Int, Int.reduceBEq, Int.reduceAdd, Int.reduceNeg, Int.reduceNegSucc, Int.reduceLT, Int.reduceLE, Int.reduceMul, Int.reduceTMod, Int.reduceSub, Int.reduceBNe, Bool.not_true, Bool.not_false, decide_true, decide_false, ne_eq, not_false_eq_true, Int.reduceEq, reduceCtorEq]; rfl)
      | true =>
        rw [hr] at e3
        have e : L37n1 [v, v, .int 63 (cs.length : Int), .int 63 (i : Int)] h = .norm [v, v, .int 63 (cs.length : Int), .int 63 ((i + 1 : Nat) : Int)] h3 := by
          simp only [↓L37n1, q, ↓x1, ↓x2, ↓m1, ↓m1', ↓p1, ↓p2, ↓e3, s1n i (by omega), ↓SD, SA, Int.ofNat_eq_natCast, Int.cast_ofNat_Int, Int.reduceBEq, Int.reduceAdd, Int.reduceNeg, Int.reduceNegSucc, Int.reduceLT, Int.reduceLE, Int.reduceMul, Int.reduceTMod, Int.reduceSub, Int.reduceBNe, Bool.not_true, Bool.not_false, decide_true, decide_false, ne_eq, not_false_eq_true, Int.reduceEq, reduceCtorEq]
        obtain ⟨h4, e4, o4, w4⟩ := ih m (i + 1) h3 (by omega) (by omega) (by omega) w3 (hp.to o (fun _ _ f => f))
        rw [Bool.true_and]
        exact ⟨h4, (lpn m e).trans e4, o.trans o4, w4⟩
    · exact stop m i h hin hw
theorem loop41b {P : Nat → Prop} {cap : Nat} {v : AV} {cs : List Cn} (hcs : cs.length ≤ 1000) (ht : Tx cs) (h0 : H0c cs) : ∀ (f m i : Nat) (h : Hp), cs.length - i ≤ f → f < m → i ≤ cs.length → Wf h → Pl5 h P cap v cs →
    ∃ h', lp L41n1 m [.int 63 (cs.length : Int), v, .int 63 (i : Int)] h = (if (cs.drop i).all (rgQ cs) = true then .exit 3 [v] h' else .ret NF2 h') ∧ To No h h' ∧ Wf h' := by
  have stop : ∀ (m i : Nat) (h : Hp), ¬ i < cs.length → Wf h → ∃ h', lp L41n1 (m + 1) [.int 63 (cs.length : Int), v, .int 63 (i : Int)] h = (if (cs.drop i).all (rgQ cs) = true then .exit 3 [v] h' else .ret NF2 h') ∧ To No h h' ∧ Wf h' := by
    intro m i h hi hw
    have q : ¬ (i : Int) < (cs.length : Int) := by omega
    rw [List.drop_eq_nil_of_le (by omega)]
    exact ⟨h, lpx m (by simp only [↓L41n1, q, ↓SD, SA, Int.ofNat_eq_natCast, Int.cast_ofNat_Int, Int.reduceBEq, Int.reduceAdd, Int.reduceNeg, Int.reduceNegSucc, Int.reduceLT, Int.reduceLE, Int.reduceMul, Int.reduceTMod, Int.reduceSub, Int.reduceBNe, Bool.not_true, Bool.not_false, decide_true, decide_false, ne_eq, not_false_eq_true, Int.reduceEq, reduceCtorEq]), To.refl _ _, hw⟩
  intro f
  induction f with
  | zero =>
    intro m i h hf hm hi hw hp
    obtain ⟨m, rfl⟩ : ∃ k, m = k + 1 := ⟨m - 1, by omega⟩
    exact stop m i h (by omega) hw
  | succ f ih =>
    intro m i h hf hm hi hw hp
    obtain ⟨m, rfl⟩ : ∃ k, m = k + 1 := ⟨m - 1, by omega⟩
    by_cases hin : i < cs.length
    · have q : (i : Int) < (cs.length : Int) := by omega
      obtain ⟨h3, e3, o3, w3⟩ := t70F hp h0 hw ht i hin
      rw [List.drop_eq_getElem_cons hin, List.all_cons]
      cases hr : rgQ cs cs[i] with
      | false =>
        rw [hr] at e3
        refine ⟨h3, ?_, o3, w3⟩
        rw [Bool.false_and, if_neg (by decide)]
        exact lpr m (by simp only [↓L41n1, q, ↓e3, ↓SD, SA, Int.ofNat_eq_natCast, Int.cast_ofNat_Int, Int.reduceBEq, Int.reduceAdd, Int.reduceNeg, Int.reduceNegSucc, Int.reduceLT, Int.reduceLE, Int.reduceMul, Int.reduceTMod, Int.reduceSub, Int.reduceBNe, Bool.not_true, Bool.not_false, decide_true, decide_false, ne_eq, not_false_eq_true, Int.reduceEq, reduceCtorEq]; rfl)
      | true =>
        rw [hr] at e3
        have e : L41n1 [.int 63 (cs.length : Int), v, .int 63 (i : Int)] h = .norm [.int 63 (cs.length : Int), v, .int 63 ((i + 1 : Nat) : Int)] h3 := by
          simp only [↓L41n1, q, ↓e3, s1n i (by omega), ↓SD, SA, Int.ofNat_eq_natCast, Int.cast_ofNat_Int, Int.reduceBEq, Int.reduceAdd, Int.reduceNeg, Int.reduceNegSucc, Int.reduceLT, Int.reduceLE, Int.reduceMul, Int.reduceTMod, Int.reduceSub, Int.reduceBNe, Bool.not_true, Bool.not_false, decide_true, decide_false, ne_eq, not_false_eq_true, Int.reduceEq, reduceCtorEq]
        obtain ⟨h4, e4, o4, w4⟩ := ih m (i + 1) h3 (by omega) (by omega) (by omega) w3 (hp.to o3 (fun _ _ f => f))
        rw [Bool.true_and]
        exact ⟨h4, (lpn m e).trans e4, o3.trans o4, w4⟩
    · exact stop m i h hin hw
noncomputable def rdW (g : List Cn → List Cn → Bool) (t : List Nat) (q : Sq) : Option (List Cn × Sq) :=
  if (adv t q 2).2 = true ∨ val t q 2 < 1 ∨ 1000 < val t q 2 then none
  else match rdl t (val t q 2) (val t q 2 + 1) (adv t q 2) [cn0] with
    | none => none
    | some p => if g p.1 p.1 = true then some p else none
noncomputable def g2 (cs l : List Cn) : Bool := l.all (rg2 cs)
noncomputable def gQ (cs l : List Cn) : Bool := (l.drop 1).all (rgQ cs)
theorem rdl_facts {t : List Nat} (htl : t.length ≤ 90000) {n : Nat} (hn : 1 ≤ n) {q : Sq} {p : List Cn × Sq} (h : rdl t n (n + 1) q [cn0] = some p) : p.1.length = n ∧ Tx p.1 ∧ H0c p.1 := by
  obtain ⟨a, b, c⟩ := rdl_ok (n + 1) q [cn0] p h (by simpa using hn) (by intro c hc; simp at hc; subst hc; simp [cn0]) (by simp) (by intro _; rfl)
  exact ⟨a, fun x hx => by have := b x hx; omega, c⟩
theorem t37F {h : Hp} {lo b : Nat} {t : List Nat} {q : Sq} (hc : CurQ h lo b t q) (hb : b < h.nb) (hw : Wf h) (htl : t.length ≤ 90000) :
    (rdW g2 t q = none ∧ ∃ h', s37 [.ptr b 0] h = .ret NF2 h' ∧ To (At b) h h' ∧ Wf h') ∨
    (∃ p v pb h', rdW g2 t q = some p ∧ s37 [.ptr b 0] h = .ret (.tup (.cons v (.cons (.bool true) .nil))) h' ∧ h.nb ≤ pb ∧ pb < h'.nb ∧ Pl5 h' (At pb) (val t q 2) v p.1 ∧ CurQ h' lo b t p.2 ∧ To (At b) h h' ∧ Wf h' ∧ p.1.length ≤ 1000 ∧ Tx p.1 ∧ H0c p.1) := by
  obtain ⟨h1, e1, q1, o1, w1⟩ := u2 hc hw
  have e63 := C.t63 q1
  have gi : ∀ x : Int, gsel (.bool false) false (.int 63 x) = .int 63 x := fun x => rfl
  unfold rdW
  cases hbad : (adv t q 2).2 with
  | true =>
    rw [hbad] at e63
    rw [if_pos (.inl rfl)]
    exact .inl ⟨rfl, h1, by simp only [↓s37, ↓e1, ↓e63, Bool.not_true, ↓SD, SA, Int.ofNat_eq_natCast, Int.cast_ofNat_Int, Int.reduceBEq, Int.reduceAdd, Int.reduceNeg, Int.reduceNegSucc, Int.reduceLT, Int.reduceLE, Int.reduceMul, Int.reduceTMod, Int.reduceSub, Int.reduceBNe, Bool.not_true, Bool.not_false, decide_true, decide_false, ne_eq, not_false_eq_true, Int.reduceEq, reduceCtorEq]; rfl, o1, w1⟩
  | false =>
    rw [hbad] at e63
    generalize hn : val t q 2 = n at *
    by_cases c1 : n < 1
    · have d1 : (n : Int) < 1 := by omega
      rw [if_pos (.inr (.inl c1))]
      exact .inl ⟨rfl, h1, by simp only [↓s37, ↓e1, ↓e63, Bool.not_false, ↓gi, d1, ↓SD, SA, Int.ofNat_eq_natCast, Int.cast_ofNat_Int, Int.reduceBEq, Int.reduceAdd, Int.reduceNeg, Int.reduceNegSucc, Int.reduceLT, Int.reduceLE, Int.reduceMul, Int.reduceTMod, Int.reduceSub, Int.reduceBNe, Bool.not_true, Bool.not_false, decide_true, decide_false, ne_eq, not_false_eq_true, Int.reduceEq, reduceCtorEq]; rfl, o1, w1⟩
    have d1 : ¬ (n : Int) < 1 := by omega
    by_cases c2 : 1000 < n
    · have d2 : (1000 : Int) < (n : Int) := by omega
      rw [if_pos (.inr (.inr c2))]
      exact .inl ⟨rfl, h1, by simp only [↓s37, ↓e1, ↓e63, Bool.not_false, ↓gi, d1, d2, ↓SD, SA, Int.ofNat_eq_natCast, Int.cast_ofNat_Int, Int.reduceBEq, Int.reduceAdd, Int.reduceNeg, Int.reduceNegSucc, Int.reduceLT, Int.reduceLE, Int.reduceMul, Int.reduceTMod, Int.reduceSub, Int.reduceBNe, Bool.not_true, Bool.not_false, decide_true, decide_false, ne_eq, not_false_eq_true, Int.reduceEq, reduceCtorEq]; rfl, o1, w1⟩
    have d2 : ¬ (1000 : Int) < (n : Int) := by omega
    rw [if_neg (by rintro (h | h | h); exact absurd h (by decide); omega; omega)]
    obtain ⟨h2, m2, p2, o2, w2, n2⟩ := mkM_pl w1 1 n 48 (by omega) (by omega) (by decide)
    have m2 : ∀ k : AV → Hp → Res, mkM h1 (.cons (.int 63 (.ofNat 0)) (.cons (.str 0 0) (.cons (.int 63 (.ofNat 0)) (.cons (.int 63 (.ofNat 0)) (.cons (.int 63 (.ofNat 0)) .nil))))) 48 (.int 63 (.ofNat 1)) (.int 63 (n : Int)) k = k (.sl h1.nb 0 1 5 (some n)) h2 := m2
    have m2' : ∀ k : AV → Hp → Res, mkM h1 (.cons (.int 63 0) (.cons (.str 0 0) (.cons (.int 63 0) (.cons (.int 63 0) (.cons (.int 63 0) .nil))))) 48 (.int 63 1) (.int 63 (n : Int)) k = k (.sl h1.nb 0 1 5 (some n)) h2 := m2
    have nb1 := o1.nb
    have p2 : Pl5 h2 (At h1.nb) n (.sl h1.nb 0 1 5 (some n)) [cn0] := p2
    have fin : ∀ {g : Hp}, To (fun x => x = b ∨ x = h1.nb) h2 g → To (At b) h g := fun tt => ((o1.mono fun x _ e => Or.inl e).trans ((o2.mono fun _ _ f => f.elim).trans tt)).mono fun x hx e => by
      rcases e with e | e
      · exact e
      · omega
    rcases loop37 (lo := lo) (b := b) (t := t) (pb := h1.nb) (n := n) (by omega) (by omega) (n + 1) most (adv t q 2) [cn0] _ h2 (by simp; omega) (by unfold most; omega) (by omega) w2 (q1.to o2 (fun _ _ _ f => f)) p2 with ⟨r1, h3, r2, r3, r4⟩ | ⟨p, v, h3, r1, r2, r3, r4, r5, r6⟩
    · rw [r1]
      exact .inl ⟨rfl, h3, by simp only [↓s37, ↓e1, ↓e63, Bool.not_false, ↓gi, d1, d2, ↓m2, ↓m2', ↓r2, ↓SD, SA, Int.ofNat_eq_natCast, Int.cast_ofNat_Int, Int.reduceBEq, Int.reduceAdd, Int.reduceNeg, Int.reduceNegSucc, Int.reduceLT, Int.reduceLE, Int.reduceMul, Int.reduceTMod, Int.reduceSub, Int.reduceBNe, Bool.not_true, Bool.not_false, decide_true, decide_false, ne_eq, not_false_eq_true, Int.reduceEq, reduceCtorEq], fin r3, r4⟩
    · obtain ⟨hl, htx, h0⟩ := rdl_facts htl (by omega) r1
      rw [r1]
      have ln := fun k => r3.len k
      have kv := fun k => r3.cK k
      obtain ⟨h4, e4, o4, w4⟩ := loop37F (by omega) htx h0 p.1.length most 0 h3 (by omega) (by unfold most; omega) (by omega) r6 r3
      rw [List.drop_zero] at e4
      have e4 : lp L37n1 most [v, v, .int 63 (p.1.length : Int), .int 63 0] h3 = (if p.1.all (rg2 p.1) = true then .exit 2 [v] h4 else .ret NF2 h4) := e4
      have nb5 := r5.nb
      have nb4 := o4.nb
      show (_ ∨ _)
      by_cases ha : p.1.all (rg2 p.1) = true
      · rw [if_pos ha] at e4
        refine .inr ⟨p, v, h1.nb, h4, if_pos ha, ?_, by omega, by omega, r3.to o4 (fun _ _ f => f), r4.to o4 (fun _ _ _ f => f), fin (r5.trans (o4.mono fun _ _ f => f.elim)), w4, by omega, htx, h0⟩
        simp only [↓s37, ↓e1, ↓e63, Bool.not_false, ↓gi, d1, d2, ↓m2, ↓m2', ↓r2, ↓blk_x, ↓ln, ↓e4, ↓kv, ↓SD, SA, Int.ofNat_eq_natCast, Int.cast_ofNat_Int, Int.reduceBEq, Int.reduceAdd, Int.reduceNeg, Int.reduceNegSucc, Int.reduceLT, Int.reduceLE, Int.reduceMul, Int.reduceTMod, Int.reduceSub, Int.reduceBNe, Bool.not_true, Bool.not_false, decide_true, decide_false, ne_eq, not_false_eq_true, Int.reduceEq, reduceCtorEq]
      · rw [if_neg ha] at e4
        refine .inl ⟨if_neg ha, h4, ?_, fin (r5.trans (o4.mono fun _ _ f => f.elim)), w4⟩
        simp only [↓s37, ↓e1, ↓e63, Bool.not_false, ↓gi, d1, d2, ↓m2, ↓m2', ↓r2, ↓blk_x, ↓ln, ↓e4, ↓SD, SA, Int.ofNat_eq_natCast, Int.cast_ofNat_Int, Int.reduceBEq, Int.reduceAdd, Int.reduceNeg, Int.reduceNegSucc, Int.reduceLT, Int.reduceLE, Int.reduceMul, Int.reduceTMod, Int.reduceSub, Int.reduceBNe, Bool.not_true, Bool.not_false, decide_true, decide_false, ne_eq, not_false_eq_true, Int.reduceEq, reduceCtorEq]
theorem t41 {h : Hp} {lo b : Nat} {t : List Nat} {q : Sq} (hc : CurQ h lo b t q) (hb : b < h.nb) (hw : Wf h) (htl : t.length ≤ 90000) :
    (rdW gQ t q = none ∧ ∃ h', s41 [.ptr b 0] h = .ret NF2 h' ∧ To (At b) h h' ∧ Wf h') ∨
    (∃ p v pb h', rdW gQ t q = some p ∧ s41 [.ptr b 0] h = .ret (.tup (.cons v (.cons (.bool true) .nil))) h' ∧ h.nb ≤ pb ∧ pb < h'.nb ∧ Pl5 h' (At pb) (val t q 2) v p.1 ∧ CurQ h' lo b t p.2 ∧ To (At b) h h' ∧ Wf h' ∧ p.1.length ≤ 1000 ∧ Tx p.1 ∧ H0c p.1) := by
  obtain ⟨h1, e1, q1, o1, w1⟩ := r2 hc hw
  obtain ⟨y2, y2'⟩ := rbad q1
  have gi : ∀ x : Int, gsel (.bool false) false (.int 63 x) = .int 63 x := fun x => rfl
  unfold rdW
  cases hbad : (adv t q 2).2 with
  | true =>
    rw [hbad] at y2 y2'
    rw [if_pos (.inl rfl)]
    exact .inl ⟨rfl, h1, by simp only [↓s41, ↓e1, ↓nck_p, ↓cP_p, ↓y2, ↓y2', ↓SD, SA, Int.ofNat_eq_natCast, Int.cast_ofNat_Int, Int.reduceBEq, Int.reduceAdd, Int.reduceNeg, Int.reduceNegSucc, Int.reduceLT, Int.reduceLE, Int.reduceMul, Int.reduceTMod, Int.reduceSub, Int.reduceBNe, Bool.not_true, Bool.not_false, decide_true, decide_false, ne_eq, not_false_eq_true, Int.reduceEq, reduceCtorEq]; rfl, o1, w1⟩
  | false =>
    rw [hbad] at y2 y2'
    generalize hn : val t q 2 = n at *
    by_cases c1 : n < 1
    · have d1 : (n : Int) < 1 := by omega
      rw [if_pos (.inr (.inl c1))]
      exact .inl ⟨rfl, h1, by simp only [↓s41, ↓e1, ↓nck_p, ↓cP_p, ↓y2, ↓y2', ↓gi, d1, ↓SD, SA, Int.ofNat_eq_natCast, Int.cast_ofNat_Int, Int.reduceBEq, Int.reduceAdd, Int.reduceNeg, Int.reduceNegSucc, Int.reduceLT, Int.reduceLE, Int.reduceMul, Int.reduceTMod, Int.reduceSub, Int.reduceBNe, Bool.not_true, Bool.not_false, decide_true, decide_false, ne_eq, not_false_eq_true, Int.reduceEq, reduceCtorEq]; rfl, o1, w1⟩
    have d1 : ¬ (n : Int) < 1 := by omega
    by_cases c2 : 1000 < n
    · have d2 : (1000 : Int) < (n : Int) := by omega
      rw [if_pos (.inr (.inr c2))]
      exact .inl ⟨rfl, h1, by simp only [↓s41, ↓e1, ↓nck_p, ↓cP_p, ↓y2, ↓y2', ↓gi, d1, d2, ↓SD, SA, Int.ofNat_eq_natCast, Int.cast_ofNat_Int, Int.reduceBEq, Int.reduceAdd, Int.reduceNeg, Int.reduceNegSucc, Int.reduceLT, Int.reduceLE, Int.reduceMul, Int.reduceTMod, Int.reduceSub, Int.reduceBNe, Bool.not_true, Bool.not_false, decide_true, decide_false, ne_eq, not_false_eq_true, Int.reduceEq, reduceCtorEq]; rfl, o1, w1⟩
    have d2 : ¬ (1000 : Int) < (n : Int) := by omega
    rw [if_neg (by rintro (h | h | h); exact absurd h (by decide); omega; omega)]
    obtain ⟨h2, m2, p2, o2, w2, n2⟩ := mkM_pl w1 n n 48 (Nat.le_refl _) (by omega) (by decide)
    have m2' : ∀ k : AV → Hp → Res, mkM h1 (.cons (.int 63 0) (.cons (.str 0 0) (.cons (.int 63 0) (.cons (.int 63 0) (.cons (.int 63 0) .nil))))) 48 (.int 63 (n : Int)) (.int 63 (n : Int)) k = k (.sl h1.nb 0 n 5 (some n)) h2 := m2
    have nb1 := o1.nb
    have hrep : List.replicate n cn0 = [cn0] ++ List.replicate (n - [cn0].length) cn0 := by
      rw [List.singleton_append, ← List.replicate_succ]; congr 1; simp; omega
    rw [hrep] at p2
    generalize hv : AV.sl h1.nb 0 n 5 (some n) = v at *
    have fin : ∀ {g : Hp}, To (fun x => x = b ∨ x = h1.nb) h2 g → To (At b) h g := fun tt => ((o1.mono fun x _ e => Or.inl e).trans ((o2.mono fun _ _ f => f.elim).trans tt)).mono fun x hx e => by
      rcases e with e | e
      · exact e
      · omega
    rcases loop41 (lo := lo) (b := b) (t := t) (pb := h1.nb) (n := n) (by omega) (by omega) (n + 1) most (adv t q 2) [cn0] v h2 (by simp; omega) (by unfold most; omega) (by simp) (by simp; omega) (by omega) w2 (q1.to o2 (fun _ _ _ f => f)) p2 with ⟨r1, h3, r2, r3, r4⟩ | ⟨p, h3, r1, r2, r3, r4, r5, r6⟩
    · rw [r1]
      have r2 : lp L41n0 most [.ptr b 0, .int 63 (n : Int), v, .int 63 1] h2 = .ret NF2 h3 := r2
      exact .inl ⟨rfl, h3, by simp only [↓s41, ↓e1, ↓nck_p, ↓cP_p, ↓y2, ↓y2', ↓gi, d1, d2, ↓m2, ↓m2', ↓r2, ↓SD, SA, Int.ofNat_eq_natCast, Int.cast_ofNat_Int, Int.reduceBEq, Int.reduceAdd, Int.reduceNeg, Int.reduceNegSucc, Int.reduceLT, Int.reduceLE, Int.reduceMul, Int.reduceTMod, Int.reduceSub, Int.reduceBNe, Bool.not_true, Bool.not_false, decide_true, decide_false, ne_eq, not_false_eq_true, Int.reduceEq, reduceCtorEq], fin r3, r4⟩
    · obtain ⟨hl, htx, h0⟩ := rdl_facts htl (by omega) r1
      rw [r1]
      have r2 : lp L41n0 most [.ptr b 0, .int 63 (n : Int), v, .int 63 1] h2 = .exit 0 [.int 63 (n : Int), v] h3 := r2
      have kv := fun k => r3.cK k
      obtain ⟨h4, e4, o4, w4⟩ := loop41b (by omega) htx h0 p.1.length most 1 h3 (by omega) (by unfold most; omega) (by omega) r6 r3
      rw [hl] at e4
      have e4 : lp L41n1 most [.int 63 (n : Int), v, .int 63 1] h3 = (if (p.1.drop 1).all (rgQ p.1) = true then .exit 3 [v] h4 else .ret NF2 h4) := e4
      have nb5 := r5.nb
      have nb4 := o4.nb
      show (_ ∨ _)
      by_cases ha : (p.1.drop 1).all (rgQ p.1) = true
      · rw [if_pos ha] at e4
        refine .inr ⟨p, v, h1.nb, h4, if_pos ha, ?_, by omega, by omega, r3.to o4 (fun _ _ f => f), r4.to o4 (fun _ _ _ f => f), fin (r5.trans (o4.mono fun _ _ f => f.elim)), w4, by omega, htx, h0⟩
        simp only [↓s41, ↓e1, ↓nck_p, ↓cP_p, ↓y2, ↓y2', ↓gi, d1, d2, ↓m2, ↓m2', ↓r2, ↓blk_x, ↓e4, ↓kv, ↓SD, SA, Int.ofNat_eq_natCast, Int.cast_ofNat_Int, Int.reduceBEq, Int.reduceAdd, Int.reduceNeg, Int.reduceNegSucc, Int.reduceLT, Int.reduceLE, Int.reduceMul, Int.reduceTMod, Int.reduceSub, Int.reduceBNe, Bool.not_true, Bool.not_false, decide_true, decide_false, ne_eq, not_false_eq_true, Int.reduceEq, reduceCtorEq]
      · rw [if_neg ha] at e4
        refine .inl ⟨if_neg ha, h4, ?_, fin (r5.trans (o4.mono fun _ _ f => f.elim)), w4⟩
        simp only [↓s41, ↓e1, ↓nck_p, ↓cP_p, ↓y2, ↓y2', ↓gi, d1, d2, ↓m2, ↓m2', ↓r2, ↓blk_x, ↓e4, ↓SD, SA, Int.ofNat_eq_natCast, Int.cast_ofNat_Int, Int.reduceBEq, Int.reduceAdd, Int.reduceNeg, Int.reduceNegSucc, Int.reduceLT, Int.reduceLE, Int.reduceMul, Int.reduceTMod, Int.reduceSub, Int.reduceBNe, Bool.not_true, Bool.not_false, decide_true, decide_false, ne_eq, not_false_eq_true, Int.reduceEq, reduceCtorEq]
end Go.Proofs.YtnpfppddongbhaaDoor
end

section
namespace Go.Proofs.YtnpfppddongbhaaDoor
open Go Go.AM
set_option autoImplicit false
theorem argZ_md (d : List UInt8) : decide (0 ≤ argZ d) = (md d).isSome := by
  unfold argZ
  cases md d with
  | none => rfl
  | some p => exact decide_eq_true (by simp only; omega)
theorem namR_eq (cs : List Cn) (c : Cn) : namR cs c = namQ cs c := by
  unfold namR namQ
  cases txo cs (c.a : Int) with
  | none => rfl
  | some n =>
    cases txo cs (c.b : Int) with
    | none => rfl
    | some d => simp only [argZ_md]
theorem memC_inv {cs : List Cn} {c : Cn} {s n d : List UInt8} (h : memC cs c = some (s, n, d)) : ∃ x ∈ cs.drop 1, x.tag = 12 ∧ txo cs (x.a : Int) = some n ∧ txo cs (x.b : Int) = some d := by
  unfold memC at h
  split at h
  · cases h
  · split at h
    · rename_i h12
      obtain ⟨m, hm, hml, htag⟩ := tg_inv h12
      have h0 : 0 < c.b := by
        unfold tg at h12
        rw [Bool.and_eq_true, decide_eq_true_eq] at h12
        omega
      obtain rfl : m = c.b := by omega
      rw [List.getElem?_eq_getElem hml] at h
      simp only at h
      cases ha : txo cs (cs[c.b].a : Int) with
      | none => rw [ha] at h; cases h
      | some n' =>
        cases hb : txo cs (cs[c.b].b : Int) with
        | none => rw [ha, hb] at h; cases h
        | some d' =>
          rw [ha, hb] at h
          cases h
          refine ⟨cs[c.b], ?_, htag, ha, hb⟩
          rw [List.mem_iff_getElem]
          refine ⟨c.b - 1, by simp; omega, ?_⟩
          rw [List.getElem_drop]
          congr 1; omega
    · cases h
theorem fld_paren (l : List UInt8) : fld (40 :: l) = none := by
  have hl : lead (40 :: l) = 0 := by unfold lead; rfl
  unfold fld fr
  rw [hl]
  have h0 : (40 :: l : List UInt8)[0]? = some 40 := rfl
  rw [h0]
  simp only
  rw [if_neg (by decide), if_neg (by decide), if_neg (by decide)]
theorem md_fld {d : List UInt8} (h : (md d).isSome = true) : (fld d).isSome = false := by
  unfold md at h
  split at h
  · rename_i h40
    cases d with
    | nil => cases h40
    | cons x l =>
      have hx : x = 40 := by simpa using h40
      subst hx
      rw [fld_paren]; rfl
  · cases h
theorem nam_inv {cs : List Cn} {x : Cn} {n d : List UInt8} (h : namQ cs x = true) (ha : txo cs (x.a : Int) = some n) (hb : txo cs (x.b : Int) = some d) : ((fld d).isSome || (md d).isSome) = true := by
  unfold namQ at h
  rw [ha, hb] at h
  simp only [Bool.and_eq_true] at h
  exact h.2
theorem memRQ {cs : List Cn} {c : Cn} (htg : c.tag = 9 ∨ c.tag = 10 ∨ c.tag = 11) (hn : ∀ x ∈ cs.drop 1, x.tag = 12 → namQ cs x = true) : memR cs c = memQ cs c := by
  unfold memR memQ
  cases hm : memC cs c with
  | none => rfl
  | some q =>
    obtain ⟨s, n, d⟩ := q
    obtain ⟨x, hx, hx12, hxa, hxb⟩ := memC_inv hm
    have hor := nam_inv (hn x hx hx12) hxa hxb
    simp only
    rcases htg with g | g | g
    · rw [if_pos g, g]
      cases hf : (fld d).isSome with
      | false => rfl
      | true =>
        by_cases hin : n = tInit
        · rw [decide_eq_true hin, if_pos (by decide), if_pos hin]; rfl
        · rw [decide_eq_false hin, if_pos (by decide), if_neg hin]; rfl
    all_goals
      rw [if_neg (by omega), g]
      unfold mtR
      cases hf : (fld d).isSome with
      | true =>
        have : (md d).isSome = false := by
          cases hmd : (md d).isSome with
          | false => rfl
          | true => rw [md_fld hmd] at hf; cases hf
        rw [this]; rfl
      | false =>
        rw [hf] at hor
        simp only [Bool.false_or] at hor
        rw [hor, if_pos (by decide)]
        by_cases hin : n = tInit
        · rw [if_pos hin, hin]
          have h1 : meth tInit = true := by unfold meth; rw [decide_eq_true rfl]; rfl
          rw [h1, decide_eq_true rfl, decide_eq_false (show ¬ tInit = tClin by decide)]
          simp
        · rw [if_neg hin, decide_eq_false hin]
          simp
theorem rgRQ {cs : List Cn} {c : Cn} (hn : ∀ x ∈ cs.drop 1, x.tag = 12 → namQ cs x = true) : rg2 cs c = rgQ cs c := by
  unfold rg2 rgQ
  rw [namR_eq]
  by_cases h12 : c.tag = 12
  · rw [if_pos h12, if_pos h12]
  rw [if_neg h12, if_neg h12]
  by_cases hm : c.tag = 9 ∨ c.tag = 10 ∨ c.tag = 11
  · rw [if_pos hm, if_pos hm]; exact memRQ hm hn
  · rw [if_neg hm, if_neg hm]
theorem g2Q {cs : List Cn} (h0 : H0c cs) (h1 : 1 ≤ cs.length) : g2 cs cs = gQ cs cs := by
  unfold g2 gQ
  have e : cs = cs[0]'(by omega) :: cs.drop 1 := by
    have := List.drop_eq_getElem_cons (l := cs) (i := 0) (by omega)
    rw [List.drop_zero] at this
    exact this
  have hz := h0 (by omega)
  have r0 : rg2 cs (cs[0]'(by omega)) = true := by
    unfold rg2 rg
    rw [hz]; rfl
  have e1 : cs.all (rg2 cs) = (cs.drop 1).all (rg2 cs) := by
    conv => lhs; arg 1; rw [e]
    rw [List.all_cons, r0, Bool.true_and]
  rw [e1, Bool.eq_iff_iff, List.all_eq_true, List.all_eq_true]
  have n2 : ∀ {x : Cn}, x.tag = 12 → rg2 cs x = namQ cs x := fun {x} hx => by unfold rg2; rw [if_pos hx, namR_eq]
  have nQ : ∀ {x : Cn}, x.tag = 12 → rgQ cs x = namQ cs x := fun {x} hx => by unfold rgQ; rw [if_pos hx]
  constructor
  · intro h c hc
    rw [← rgRQ fun x hx h12 => by rw [← n2 h12]; exact h x hx]; exact h c hc
  · intro h c hc
    rw [rgRQ fun x hx h12 => by rw [← nQ h12]; exact h x hx]; exact h c hc
theorem rdW_eq {t : List Nat} (htl : t.length ≤ 90000) (q : Sq) : rdW gQ t q = rdW g2 t q := by
  unfold rdW
  by_cases hc : (adv t q 2).2 = true ∨ val t q 2 < 1 ∨ 1000 < val t q 2
  · rw [if_pos hc, if_pos hc]
  rw [if_neg hc, if_neg hc]
  cases hr : rdl t (val t q 2) (val t q 2 + 1) (adv t q 2) [cn0] with
  | none => rfl
  | some p =>
    obtain ⟨hl, htx, h0⟩ := rdl_facts htl (by omega) hr
    simp only
    rw [g2Q h0 (by omega)]
end Go.Proofs.YtnpfppddongbhaaDoor
end

section
namespace Go.Proofs.YtnpfppddongbhaaDoor
open Go Go.AM
set_option autoImplicit false
theorem eqS_self (t : List UInt8) (k : Bool → Res) : eqS (S t) (S t) k = k true := by rw [eqS_S, decide_eq_true rfl]
theorem loop42 {h : Hp} {P Q : Nat → Prop} {c1 c2 : Nat} {v w : AV} {cs : List Cn} (hp : Pl5 h P c1 v cs) (hq : Pl5 h Q c2 w cs) (hcs : cs.length ≤ 1000) : ∀ (f m i : Nat), cs.length - i ≤ f → f < m → i ≤ cs.length →
    lp L42n0 m [v, w, .int 63 (i : Int)] h = .exit 0 [] h := by
  have ln := fun k => hp.len k
  have stop : ∀ (m i : Nat), ¬ i < cs.length → lp L42n0 (m + 1) [v, w, .int 63 (i : Int)] h = .exit 0 [] h := by
    intro m i hi
    have q : ¬ (i : Int) < (cs.length : Int) := by omega
    exact lpx m (by simp only [↓L42n0, ↓ln, q, ↓SD, SA, Int.ofNat_eq_natCast, Int.cast_ofNat_Int, Int.reduceBEq, Int.reduceAdd, Int.reduceNeg, Int.reduceNegSucc, Int.reduceLT, Int.reduceLE, Int.reduceMul, Int.reduceTMod, Int.reduceSub, Int.reduceBNe, Bool.not_true, Bool.not_false, decide_true, decide_false, ne_eq, not_false_eq_true, Int.reduceEq, reduceCtorEq])
  intro f
  induction f with
  | zero =>
    intro m i hf hm hi
    obtain ⟨m, rfl⟩ : ∃ k, m = k + 1 := ⟨m - 1, by omega⟩
    exact stop m i (by omega)
  | succ f ih =>
    intro m i hf hm hi
    obtain ⟨m, rfl⟩ : ∃ k, m = k + 1 := ⟨m - 1, by omega⟩
    by_cases hin : i < cs.length
    · have q : (i : Int) < (cs.length : Int) := by omega
      obtain ⟨b1, o1, p1, -, f0, f1, f2, f3, f4⟩ := hp.pt i hin
      obtain ⟨b2, o2, q1, -, g0, g1, g2, g3, g4⟩ := hq.pt i hin
      generalize cs[i] = c at *
      have f0' : ∀ k : AV → Res, ld1 h (.ptr b1 o1) k = k (.int 63 (c.tag : Int)) := f0
      have f1' : ∀ k : AV → Res, ld1 h (.ptr b1 (o1 + 1)) k = k (S c.tx) := f1
      have f2' : ∀ k : AV → Res, ld1 h (.ptr b1 (o1 + 2)) k = k (.int 63 c.num) := f2
      have f3' : ∀ k : AV → Res, ld1 h (.ptr b1 (o1 + 3)) k = k (.int 63 (c.a : Int)) := f3
      have f4' : ∀ k : AV → Res, ld1 h (.ptr b1 (o1 + 4)) k = k (.int 63 (c.b : Int)) := f4
      have g0' : ∀ k : AV → Res, ld1 h (.ptr b2 o2) k = k (.int 63 (c.tag : Int)) := g0
      have g1' : ∀ k : AV → Res, ld1 h (.ptr b2 (o2 + 1)) k = k (S c.tx) := g1
      have g2' : ∀ k : AV → Res, ld1 h (.ptr b2 (o2 + 2)) k = k (.int 63 c.num) := g2
      have g3' : ∀ k : AV → Res, ld1 h (.ptr b2 (o2 + 3)) k = k (.int 63 (c.a : Int)) := g3
      have g4' : ∀ k : AV → Res, ld1 h (.ptr b2 (o2 + 4)) k = k (.int 63 (c.b : Int)) := g4
      have gs : ∀ x : AV, gsel (.bool false) false x = x := fun x => rfl
      have e : L42n0 [v, w, .int 63 (i : Int)] h = .norm [v, w, .int 63 ((i + 1 : Nat) : Int)] h := by
        simp only [↓L42n0, ↓ln, q, ↓p1, ↓q1, ↓cP_p, ↓f0, ↓f0', ↓g0, ↓g0', ↓f1, ↓f1', ↓g1, ↓g1', ↓f2, ↓f2', ↓g2, ↓g2', ↓f3, ↓f3', ↓g3, ↓g3', ↓f4, ↓f4', ↓g4, ↓g4', ↓gs, ↓eqS_self, beq_self_eq_true, s1n i (by omega), ↓SD, SA, Int.ofNat_eq_natCast, Int.cast_ofNat_Int, Int.reduceBEq, Int.reduceAdd, Int.reduceNeg, Int.reduceNegSucc, Int.reduceLT, Int.reduceLE, Int.reduceMul, Int.reduceTMod, Int.reduceSub, Int.reduceBNe, Bool.not_true, Bool.not_false, decide_true, decide_false, ne_eq, not_false_eq_true, Int.reduceEq, reduceCtorEq]
      rw [lpn m e]
      exact ih m (i + 1) (by omega) (by omega) (by omega)
    · exact stop m i hin
theorem t42 {h : Hp} {P Q : Nat → Prop} {c1 c2 : Nat} {v w : AV} {cs : List Cn} (hp : Pl5 h P c1 v cs) (hq : Pl5 h Q c2 w cs) (hcs : cs.length ≤ 1000) : s42 [v, w] h = .ret (.bool true) h := by
  have ln := fun k => hp.len k
  have lw := fun k => hq.len k
  have e := loop42 hp hq hcs cs.length most 0 (by omega) (by unfold most; omega) (by omega)
  have e : lp L42n0 most [v, w, .int 63 0] h = .exit 0 [] h := e
  simp only [↓s42, ↓ln, ↓lw, ↓e, ↓blk_x, beq_self_eq_true, ↓SD, SA, Int.ofNat_eq_natCast, Int.cast_ofNat_Int, Int.reduceBEq, Int.reduceAdd, Int.reduceNeg, Int.reduceNegSucc, Int.reduceLT, Int.reduceLE, Int.reduceMul, Int.reduceTMod, Int.reduceSub, Int.reduceBNe, Bool.not_true, Bool.not_false, decide_true, decide_false, ne_eq, not_false_eq_true, Int.reduceEq, reduceCtorEq]
theorem loop12 {P Q : Nat → Prop} {c1 c2 : Nat} {v w : AV} {cs : List Cn} (h0 : H0c cs) (hcs : cs.length ≤ 1000) : ∀ (f m j : Nat) (h : Hp), 81 - j ≤ f → f < m → j ≤ 81 → Wf h → Pl5 h P c1 v cs → Pl5 h Q c2 w cs →
    ∃ h', lp L12n0 m [.bool true, v, .bool true, w, .int 63 ((j : Int) - 1)] h = .exit 0 [.bool true] h' := by
  have gv : ∀ {h : Hp}, Pl5 h P c1 v cs → gsel (.bool true) true v = v := fun hp => rfl
  have gi : ∀ x : Int, gsel (.bool true) true (.int 63 x) = .int 63 x := fun x => rfl
  intro f
  induction f with
  | zero =>
    intro m j h hf hm hj hw hp hq
    obtain ⟨m, rfl⟩ : ∃ k, m = k + 1 := ⟨m - 1, by omega⟩
    have ln := fun k => hp.len k
    have gv := gv hp
    have w2 : wrapC 63 ((cs.length : Int) + 2) = (cs.length : Int) + 2 := w63_in _ (by omega) (by omega)
    have hj81 : j = 81 := by omega
    have q2 : ¬ ((j : Int) - 1) < 80 := by omega
    by_cases q : ((j : Int) - 1) < (cs.length : Int) + 2
    · exact ⟨h, lpx m (by simp only [↓L12n0, ↓gv, ↓gi, ↓ln, w2, q, q2, ↓SD, SA, Int.ofNat_eq_natCast, Int.cast_ofNat_Int, Int.reduceBEq, Int.reduceAdd, Int.reduceNeg, Int.reduceNegSucc, Int.reduceLT, Int.reduceLE, Int.reduceMul, Int.reduceTMod, Int.reduceSub, Int.reduceBNe, Bool.not_true, Bool.not_false, decide_true, decide_false, ne_eq, not_false_eq_true, Int.reduceEq, reduceCtorEq])⟩
    · exact ⟨h, lpx m (by simp only [↓L12n0, ↓gv, ↓gi, ↓ln, w2, q, q2, ↓SD, SA, Int.ofNat_eq_natCast, Int.cast_ofNat_Int, Int.reduceBEq, Int.reduceAdd, Int.reduceNeg, Int.reduceNegSucc, Int.reduceLT, Int.reduceLE, Int.reduceMul, Int.reduceTMod, Int.reduceSub, Int.reduceBNe, Bool.not_true, Bool.not_false, decide_true, decide_false, ne_eq, not_false_eq_true, Int.reduceEq, reduceCtorEq])⟩
  | succ f ih =>
    intro m j h hf hm hj hw hp hq
    obtain ⟨m, rfl⟩ : ∃ k, m = k + 1 := ⟨m - 1, by omega⟩
    have ln := fun k => hp.len k
    have gv := gv hp
    have w2 : wrapC 63 ((cs.length : Int) + 2) = (cs.length : Int) + 2 := w63_in _ (by omega) (by omega)
    by_cases q : ((j : Int) - 1) < (cs.length : Int) + 2
    rotate_left
    · exact ⟨h, lpx m (by simp only [↓L12n0, ↓gv, ↓gi, ↓ln, w2, q, ↓SD, SA, Int.ofNat_eq_natCast, Int.cast_ofNat_Int, Int.reduceBEq, Int.reduceAdd, Int.reduceNeg, Int.reduceNegSucc, Int.reduceLT, Int.reduceLE, Int.reduceMul, Int.reduceTMod, Int.reduceSub, Int.reduceBNe, Bool.not_true, Bool.not_false, decide_true, decide_false, ne_eq, not_false_eq_true, Int.reduceEq, reduceCtorEq])⟩
    by_cases q2 : ((j : Int) - 1) < 80
    rotate_left
    · exact ⟨h, lpx m (by simp only [↓L12n0, ↓gv, ↓gi, ↓ln, w2, q, q2, ↓SD, SA, Int.ofNat_eq_natCast, Int.cast_ofNat_Int, Int.reduceBEq, Int.reduceAdd, Int.reduceNeg, Int.reduceNegSucc, Int.reduceLT, Int.reduceLE, Int.reduceMul, Int.reduceTMod, Int.reduceSub, Int.reduceBNe, Bool.not_true, Bool.not_false, decide_true, decide_false, ne_eq, not_false_eq_true, Int.reduceEq, reduceCtorEq])⟩
    have e39 := t39 hp ((j : Int) - 1)
    have e44 := t44 hq h0 ((j : Int) - 1)
    have e45 := t45 hp ((j : Int) - 1)
    have e46 := t46 hq h0 ((j : Int) - 1)
    have e47 := t47 hp ((j : Int) - 1)
    obtain ⟨h1, e48, o1, w1⟩ := t48 hq h0 hw ((j : Int) - 1)
    have i1 : wrapC 63 ((j : Int) - 1 + 1) = ((j + 1 : Nat) : Int) - 1 := by rw [w63_in _ (by omega) (by omega)]; omega
    generalize txo cs ((j : Int) - 1) = tt at *
    generalize clo cs ((j : Int) - 1) = cc at *
    generalize memo cs ((j : Int) - 1) = mm at *
    have e39 : s39 [v, .int 63 ((j : Int) - 1)] h = .ret (.tup (.cons (S (tt.getD [])) (.cons (.bool tt.isSome) .nil))) h := e39
    have e44 : s44 [w, .int 63 ((j : Int) - 1)] h = .ret (.tup (.cons (S (tt.getD [])) (.cons (.bool tt.isSome) .nil))) h := e44
    have e45 : s45 [v, .int 63 ((j : Int) - 1)] h = .ret (.tup (.cons (S (cc.getD [])) (.cons (.bool cc.isSome) .nil))) h := e45
    have e46 : s46 [w, .int 63 ((j : Int) - 1)] h = .ret (.tup (.cons (S (cc.getD [])) (.cons (.bool cc.isSome) .nil))) h := e46
    have e47 : s47 [v, .int 63 ((j : Int) - 1)] h = .ret (.tup (.cons (S ((mm.map (·.1)).getD [])) (.cons (S ((mm.map (·.2.1)).getD [])) (.cons (S ((mm.map (·.2.2)).getD [])) (.cons (.bool mm.isSome) .nil))))) h := e47
    have e48 : s48 [w, .int 63 ((j : Int) - 1)] h = .ret (.tup (.cons (S ((mm.map (·.1)).getD [])) (.cons (S ((mm.map (·.2.1)).getD [])) (.cons (S ((mm.map (·.2.2)).getD [])) (.cons (.bool mm.isSome) .nil))))) h1 := e48
    generalize (mm.map (·.1)).getD [] = m1 at *
    generalize (mm.map (·.2.1)).getD [] = m2 at *
    generalize (mm.map (·.2.2)).getD [] = m3 at *
    generalize mm.isSome = mb at *
    generalize tt.getD [] = tt1 at *
    generalize tt.isSome = tt2 at *
    generalize cc.getD [] = cc1 at *
    generalize cc.isSome = cc2 at *
    have gs : ∀ x : AV, gsel (.bool false) false x = x := fun x => rfl
    have e : L12n0 [.bool true, v, .bool true, w, .int 63 ((j : Int) - 1)] h = .norm [.bool true, v, .bool true, w, .int 63 (((j + 1 : Nat) : Int) - 1)] h1 := by
      simp only [↓L12n0, ↓gv, ↓gi, ↓ln, w2, q, q2, ↓e39, ↓e44, ↓e45, ↓e46, ↓e47, ↓e48, nth_z, nth_1, nth_2, nth_3, ↓cK_S, ↓eqS_self, ↓gs, beq_self_eq_true, i1, ↓SD, SA, Int.ofNat_eq_natCast, Int.cast_ofNat_Int, Int.reduceBEq, Int.reduceAdd, Int.reduceNeg, Int.reduceNegSucc, Int.reduceLT, Int.reduceLE, Int.reduceMul, Int.reduceTMod, Int.reduceSub, Int.reduceBNe, Bool.not_true, Bool.not_false, decide_true, decide_false, ne_eq, not_false_eq_true, Int.reduceEq, reduceCtorEq]
    obtain ⟨h', e'⟩ := ih m (j + 1) h1 (by omega) (by omega) (by omega) w1 (hp.to o1 (fun _ _ f => f)) (hq.to o1 (fun _ _ f => f))
    exact ⟨h', (lpn m e).trans e'⟩
theorem loop12n {h : Hp} (v w : AV) : lp L12n0 most [.bool true, v, .bool false, w, .int 63 (-1)] h = .exit 0 [.bool true] h := by
  have : lp L12n0 (999999 + 1) [.bool true, v, .bool false, w, .int 63 (-1)] h = .exit 0 [.bool true] h :=
    lpx _ (by simp only [↓L12n0, ↓SD, SA, Int.ofNat_eq_natCast, Int.cast_ofNat_Int, Int.reduceBEq, Int.reduceAdd, Int.reduceNeg, Int.reduceNegSucc, Int.reduceLT, Int.reduceLE, Int.reduceMul, Int.reduceTMod, Int.reduceSub, Int.reduceBNe, Bool.not_true, Bool.not_false, decide_true, decide_false, ne_eq, not_false_eq_true, Int.reduceEq, reduceCtorEq])
  exact this
end Go.Proofs.YtnpfppddongbhaaDoor
end

section
namespace Go.Proofs.YtnpfppddongbhaaDoor
open Go Go.AM
set_option autoImplicit false
theorem cut_from {h : Hp} {P : Nat → Prop} {v : AV} {l : List AV} (hs : Sl h P v l) {c1 : Nat} (lo : Nat) (h1 : lo ≤ l.length) :
    ∃ v', (∀ k : AV → Res, cutS 1 v (some (.int c1 (lo : Int))) none none k = k v') ∧ Sl h P v' (l.drop lo) := by
  obtain ⟨v', e, s⟩ := cut_sl hs (c1 := c1) (c2 := 63) lo l.length h1 (Nat.le_refl _)
  rw [show l.length - lo = (l.drop lo).length by simp, List.take_length] at s
  refine ⟨v', fun k => ?_, s⟩
  rw [← e k]
  rcases hs.2 with ⟨rfl, rfl⟩ | ⟨rfl, rfl⟩ | ⟨b, o, c, B, rfl, h3, h4, h5, hc, h6⟩
  · rfl
  · rfl
  · cases c <;> rfl
theorem apd_new {h : Hp} {P : Nat → Prop} {y : AV} {l : List AV} (hw : Wf h) (hy : Sl h P y l) (hb : l.length ≤ 140737488355328) :
    ∃ v' h', (∀ k : AV → Hp → Res, apd h 1 1 .nils y k = k v' h') ∧ To No h h' ∧ Wf h' ∧ (l = [] ∧ v' = .nils ∨ ∃ b B, h.nb ≤ b ∧ v' = .sl b 0 l.length 1 none ∧ Own h' b B ∧ B.lim = l.length ∧ ∀ i (hi : i < l.length), B.at i = l[i]) := by
  by_cases hm : l = []
  · subst hm
    refine ⟨.nils, h, fun k => ?_, To.refl _ _, hw, .inl ⟨rfl, rfl⟩⟩
    unfold apd; rw [src_sl hy]; rfl
  · have hml : Nat.beq l.length 0 = false := by
      rw [Bool.eq_false_iff, ne_eq, beq_iff]
      intro h0; exact hm (List.eq_nil_of_length_eq_zero h0)
    obtain ⟨t, t1, t2⟩ := lay_list l .e 0 hy.1
    obtain ⟨q1, q2⟩ := nw_own hw (0 + l.length) .nil t
    have hat : ∀ i (hi : i < l.length), (⟨true, h.nb, 0 + l.length, .nil, t⟩ : Blk).at i = l[i] := fun i hi => by
      rw [at_in _ (show i < 0 + l.length by omega)]
      simp only [t2 i]
      rw [dif_pos ⟨by omega, by omega⟩]
      simp
    have g1 : Nat.ble (Nat.mul l.length 1) 140737488355328 = true := by rw [ble_iff]; show l.length * 1 ≤ _; omega
    have g2 : Nat.ble l.length 9223372036854775807 = true := by rw [ble_iff]; omega
    have g3 : Nat.beq (0 + l.length) (Nat.mul l.length 1) = true := by rw [beq_iff]; show 0 + l.length = l.length * 1; omega
    refine ⟨.sl h.nb 0 l.length 1 none, nw h (0 + l.length) .nil t, fun k => ?_, q2, q2.wf hw, .inr ⟨h.nb, _, Nat.le_refl _, rfl, q1, Nat.zero_add _, hat⟩⟩
    unfold apd
    rw [src_sl hy]
    show ifB (Nat.beq l.length 0) _ (ifB (Nat.ble (Nat.mul l.length 1) 140737488355328) (ifB (Nat.ble l.length 9223372036854775807) (grown h 1 l.length (avL l) k) .fail) .fail) = _
    rw [hml, g1, g2]
    show grown h 1 l.length (avL l) k = _
    have e : grown h 1 l.length (avL l) k = lay (avL l) .e 0 fun t m => ifB (Nat.beq m (Nat.mul l.length 1)) (k (.sl h.nb 0 l.length 1 none) (nw h m .nil t)) .fail := rfl
    rw [e, t1, g3]; rfl
theorem sl_own {h : Hp} {b : Nat} {B : Blk} {l : List AV} (ho : Own h b B) (hone : ∀ x ∈ l, one x = true) (hat : ∀ i (hi : i < l.length), B.at i = l[i]) (hg : B.g = b ∨ True) : Sl h (fun x => x < h.nb) (.sl b 0 l.length 1 none) l :=
  ⟨hone, .inr (.inr ⟨b, 0, none, B, rfl, ho.lt, ho.rd, fun hf => (ho.rd.grp hf).1, (fun cap hc => by cases hc), fun i hi => by rw [Nat.zero_add]; exact hat i hi⟩)⟩
theorem mkR {h : Hp} {v : AV} {l : List AV} {P : Nat → Prop} (hw : Wf h) (hs : Sl h P v l) :
    ∃ h', (∀ k : AV → Hp → Res, (bld [(false, 1, v), (false, 1, (.int 63 (.ofNat 0))), (false, 1, (.bool false))] fun l => mk h (cells (.agg l)) k) = k (.ptr h.nb 0) h') ∧ To No h h' ∧ Wf h' ∧ h'.nb = h.nb + 1 ∧ ∃ B, Own h' h.nb B ∧ B.lim = 3 ∧ B.at 0 = v ∧ B.at 1 = .int 63 0 ∧ B.at 2 = .bool false := by
  have hone := one_sl hs
  obtain ⟨h', B, m1, m2, m3, m4, m5, m6, m7⟩ := mk_own hw [v, .int 63 0, .bool false] (by intro x hx; simp only [List.mem_cons, List.not_mem_nil, or_false] at hx; rcases hx with rfl | rfl | rfl; exact hone; rfl; rfl)
  refine ⟨h', fun k => ?_, m5, m6, m7, B, m2, m3, m4 0 (by simp), m4 1 (by simp), m4 2 (by simp)⟩
  have e : (bld [(false, 1, v), (false, 1, (.int 63 (.ofNat 0))), (false, 1, (.bool false))] fun l => mk h (cells (.agg l)) k) = ifB (one v) (mk h (avL [v, .int 63 0, .bool false]) k) .fail := rfl
  rw [e, hone, ifB_t, m1]
theorem xor_byte (x y : Int) : ∃ z : Nat, z < 256 ∧ wrapC 8 (Int.ofNat (Nat.xor (toU 8 x) (toU 8 y))) = (z : Int) := by
  rw [w8]
  refine ⟨(Int.ofNat (Nat.xor (toU 8 x) (toU 8 y)) % 256).toNat, by omega, by omega⟩
end Go.Proofs.YtnpfppddongbhaaDoor
end

section
namespace Go.Proofs.YtnpfppddongbhaaDoor
open Go Go.AM
set_option autoImplicit false
theorem lawTail {h : Hp} {v : AV} {t : List Nat} (hw : Wf h) (hs : Sl h (fun x => x < h.nb) v (C.Bs t)) (hb : ∀ x ∈ t, x < 256) (ht : t.length ≤ 90000) :
    ∃ b1 h1 h2, s38 [v] h = .ret (.ptr b1 0) h1 ∧ (∀ k : AV → Hp → Res, (bld [(false, 1, v), (false, 1, (.int 63 (.ofNat 0))), (false, 1, (.bool false))] fun l => mk h1 (cells (.agg l)) k) = k (.ptr h1.nb 0) h2) ∧
      ((∃ h3 h4, s37 [.ptr b1 0] h2 = .ret NF2 h3 ∧ s41 [.ptr h1.nb 0] h3 = .ret NF2 h4) ∨
       (∃ x y h3 h4, s37 [.ptr b1 0] h2 = .ret (.tup (.cons x (.cons (.bool true) .nil))) h3 ∧ s41 [.ptr h1.nb 0] h3 = .ret (.tup (.cons y (.cons (.bool true) .nil))) h4 ∧ s42 [x, y] h4 = .ret (.bool true) h4 ∧ (∀ k : AV → Res, cK x k = k x) ∧ (∀ k : AV → Res, cK y k = k y) ∧ gsel (.bool true) true x = x ∧ gsel (.bool true) true y = y ∧
        (∃ n : Nat, s43 [.ptr b1 0] h4 = .ret (.int 63 (n : Int)) h4 ∧ (∀ k : AV → Res, ld1 h4 (.ptr h1.nb (Nat.add 0 1)) k = k (.int 63 (n : Int))) ∧ (∀ k : AV → Res, ld1 h4 (.ptr h1.nb 1) k = k (.int 63 (n : Int)))) ∧
        (∃ h5, lp L12n0 most [.bool true, x, .bool true, y, .int 63 (-1)] h4 = .exit 0 [.bool true] h5))) := by
  obtain ⟨b1, h1, e1, c1, o1, w1, n1⟩ := C.t38 hs hw (by omega) hb
  have hs1 := hs.to o1 (fun _ _ f => f)
  obtain ⟨h2, e2, o2, w2, n2, B, q1, q2, q3, q4, q5⟩ := mkR w1 hs1
  have hb1 := c1.lo
  have c2 : CurQ h2 h.nb b1 t (0, false) := c1.to o2 (fun _ _ _ f => f)
  refine ⟨b1, h1, h2, e1, e2, ?_⟩
  have hs2 := hs1.to o2 (fun _ _ f => f)
  have ref : ∀ {g : Hp}, To (At b1) h2 g → CurQ g 0 h1.nb t (0, false) := fun {g} o => by
    have ho := q1.to o (fun e => by have : h1.nb = b1 := e; omega)
    exact ⟨⟨B, v, ho, q2, q3, q4, q5, (hs2.to o (fun x hx e => by have : x = b1 := e; omega)).mono fun x hx => ⟨Nat.zero_le _, by omega⟩⟩, Nat.zero_le _, by omega, Nat.zero_le _, hb⟩
  rcases t37F c2 (by omega) w2 ht with ⟨r1, h3, r2, r3, r4⟩ | ⟨p, x, pb, h3, r1, r2, r3, r3', r4, r5, r6, r7, r8, r9, r10⟩
  · have n3 := r3.nb
    rcases t41 (ref r3) (by omega) r4 ht with ⟨u1, h4, u2, u3, u4⟩ | ⟨p', y, pb', h4, u1, u2, u3, u3', u4, u5, u6, u7, u8, u9, u10⟩
    · exact .inl ⟨h3, h4, r2, u2⟩
    · rw [rdW_eq ht, r1] at u1; cases u1
  · have n3 := r6.nb
    rcases t41 (ref r6) (by omega) r7 ht with ⟨u1, h4, u2, u3, u4⟩ | ⟨p', y, pb', h4, u1, u2, u3, u3', u4, u5, u6, u7, u8, u9, u10⟩
    · rw [rdW_eq ht, r1] at u1; cases u1
    · rw [rdW_eq ht, r1] at u1
      obtain rfl := Option.some.inj u1
      have p4 := r4.to u6 (fun z hz e => by have h1_ : z = pb := hz; have h2_ : z = h1.nb := e; omega)
      have c4 : CurQ h4 h.nb b1 t p.2 := r5.to u6 (fun z _ hz e => by have : z = h1.nb := e; omega)
      have e42 := t42 p4 u4 r8
      obtain ⟨vv, -, -, y1, -⟩ := C.Cur.open u5
      have e43 := C.t43 c4
      obtain ⟨h5, e12⟩ := loop12 r10 r8 81 most 0 h4 (by omega) (by unfold most; omega) (by omega) u7 p4 u4
      have gx : gsel (.bool true) true x = x := by obtain ⟨b, B, rfl, -⟩ := r4; rfl
      have gy : gsel (.bool true) true y = y := by obtain ⟨b, B, rfl, -⟩ := u4; rfl
      exact .inr ⟨x, y, h3, h4, r2, u2, e42, fun k => r4.cK k, fun k => u4.cK k, gx, gy, ⟨p.2.1, e43, y1, fun k => y1 k⟩, h5, e12⟩
theorem law12 {h : Hp} {v : AV} {t : List Nat} {at_ from_ : Int} {x : Int} (hw : Wf h) (hs : Sl h (fun x => x < h.nb) v (C.Bs t)) (hb : ∀ x ∈ t, x < 256) (ht : t.length ≤ 9223372036854775807) :
    ∃ h', s12 [v, .int 63 at_, .int 8 x, .int 63 from_] h = .ret (.bool true) h' := by
  obtain ⟨h1, e1, o1, w1⟩ := t36 hw
  have hs1 := (hs.to o1 (fun _ _ f => f)).mono (fun y hy => Nat.lt_of_lt_of_le hy o1.nb)
  have ln : ∀ k : AV → Res, lenL v k = k (.int 63 (t.length : Int)) := fun k => by have := lenL_sl hs k; rwa [C.Bs_len] at this
  have gs : ∀ x : AV, gsel (.bool false) false x = x := fun x => rfl
  -- the place from which on
  obtain ⟨lo, hlo, hcond⟩ : ∃ lo : Nat, lo ≤ t.length ∧ ((from_ < 0 ∧ lo = 0) ∨ (¬ from_ < 0 ∧ (t.length : Int) < from_ ∧ lo = 0) ∨ (¬ from_ < 0 ∧ ¬ (t.length : Int) < from_ ∧ from_ = (lo : Int))) := by
    by_cases a : from_ < 0
    · exact ⟨0, Nat.zero_le _, .inl ⟨a, rfl⟩⟩
    · by_cases b : (t.length : Int) < from_
      · exact ⟨0, Nat.zero_le _, .inr (.inl ⟨a, b, rfl⟩)⟩
      · exact ⟨from_.toNat, by omega, .inr (.inr ⟨a, b, by omega⟩)⟩
  obtain ⟨v2, e2, s2⟩ := cut_from hs1 (c1 := 63) lo (by rw [C.Bs_len]; exact hlo)
  have hdr : (C.Bs t).drop lo = C.Bs (t.drop lo) := by simp [C.Bs, List.map_drop]
  rw [hdr] at s2
  obtain ⟨v3, e3, s3⟩ := C.t40 s2 3000 (by simp; omega)
  have z3000 : ((3000 : Nat) : Int) = 3000 := rfl
  rw [z3000] at e3
  have hb3 : ∀ x ∈ (t.drop lo).take 3000, x < 256 := fun x hx => hb x (List.mem_of_mem_drop (List.mem_of_mem_take hx))
  have hl3 : ((t.drop lo).take 3000).length ≤ 3000 := by simp; omega
  generalize (t.drop lo).take 3000 = t3 at *
  obtain ⟨v4, h4, e4, o4, w4, hv4⟩ := apd_new w1 s3 (by rw [C.Bs_len]; omega)
  have n4 := o4.nb
  -- the bytes that are read
  have key : ∃ h5 t5, Wf h5 ∧ Sl h5 (fun x => x < h5.nb) v4 (C.Bs t5) ∧ (∀ x ∈ t5, x < 256) ∧ t5.length ≤ 3000 ∧
      ((at_ < 0 ∧ h5 = h4) ∨ (¬ at_ < 0 ∧ (∀ k : AV → Res, lenL v4 k = k (.int 63 (t3.length : Int))) ∧ gsel (.bool true) true v4 = v4 ∧ ((¬ at_ < (t3.length : Int) ∧ h5 = h4) ∨ (at_ < (t3.length : Int) ∧ ∃ b o y z, (∀ k : AV → Res, ixA 1 v4 (.int 63 at_) k = k (.ptr b o)) ∧ (∀ k : AV → Res, ld1 h4 (.ptr b o) k = k (.int 8 y)) ∧ wrapC 8 (Int.ofNat (Nat.xor (toU 8 y) (toU 8 x))) = z ∧ (∀ k : Hp → Res, st1 h4 (.ptr b o) (.int 8 z) k = k h5))))) := by
    rcases hv4 with ⟨hz, rfl⟩ | ⟨b, B, hbn, hv, ho, hlim, hat⟩
    · have ht3 : t3 = [] := by cases t3 with
        | nil => rfl
        | cons a l => simp [C.Bs] at hz
      subst ht3
      refine ⟨h4, [], w4, ⟨by simp [C.Bs], .inl ⟨rfl, rfl⟩⟩, by simp, by simp, ?_⟩
      by_cases ha : at_ < 0
      · exact .inl ⟨ha, rfl⟩
      · exact .inr ⟨ha, fun k => rfl, rfl, .inl ⟨by simpa using ha, rfl⟩⟩
    · rw [C.Bs_len] at hv
      subst hv
      have hone : ∀ x ∈ C.Bs t3, one x = true := C.Bs_one t3
      have base : Sl h4 (fun x => x < h4.nb) (.sl b 0 t3.length 1 none) (C.Bs t3) := by
        have := sl_own (l := C.Bs t3) ho hone (fun i hi => hat i hi) (.inr trivial)
        rwa [C.Bs_len] at this
      have lnn : ∀ k : AV → Res, lenL (.sl b 0 t3.length 1 none) k = k (.int 63 (t3.length : Int)) := fun k => rfl
      by_cases ha : at_ < 0
      · exact ⟨h4, t3, w4, base, hb3, hl3, .inl ⟨ha, rfl⟩⟩
      by_cases hal : at_ < (t3.length : Int)
      rotate_left
      · exact ⟨h4, t3, w4, base, hb3, hl3, .inr ⟨ha, lnn, rfl, .inl ⟨hal, rfl⟩⟩⟩
      obtain ⟨n, rfl⟩ : ∃ n : Nat, at_ = (n : Int) := ⟨at_.toNat, by omega⟩
      have hn : n < t3.length := by omega
      have hbn2 : B.at n = .int 8 (t3[n] : Int) := by
        rw [hat n (by rw [C.Bs_len]; exact hn)]; simp [C.Bs]
      obtain ⟨z, hz, hxz⟩ := xor_byte (t3[n] : Int) x
      obtain ⟨h5, g1, g2, g3, g4⟩ := st1_own (o := n) (v := .int 8 (z : Int)) ho (by rw [hlim, C.Bs_len]; exact hn) rfl
      have hset : ∀ i (hi : i < (C.Bs (t3.set n z)).length), (setC B n (.int 8 (z : Int))).at i = (C.Bs (t3.set n z))[i] := fun i hi => by
        rw [C.Bs_len, List.length_set] at hi
        rw [setC_at (by rw [hlim, C.Bs_len]; exact hn)]
        have e : (C.Bs (t3.set n z))[i]'(by rw [C.Bs_len, List.length_set]; exact hi) = .int 8 ((t3.set n z)[i]'(by rw [List.length_set]; exact hi) : Int) := by simp only [C.Bs, List.getElem_map]
        rw [e, List.getElem_set]
        by_cases c : i = n
        · rw [if_pos c, if_pos c.symm]
        · rw [if_neg c, if_neg (fun h => c h.symm), hat i (by rw [C.Bs_len]; exact hi)]; simp [C.Bs]
      refine ⟨h5, t3.set n z, g3.wf w4, ?_, ?_, by rw [List.length_set]; exact hl3, .inr ⟨ha, lnn, rfl, .inr ⟨hal, b, n, (t3[n] : Int), (z : Int), fun k => ?_, fun k => ?_, hxz, g1⟩⟩⟩
      · have := sl_own (l := C.Bs (t3.set n z)) g2 (C.Bs_one _) hset (.inr trivial)
        rwa [C.Bs_len, List.length_set] at this
      · intro y hy
        rcases List.mem_or_eq_of_mem_set hy with hy | rfl
        · exact hb3 y hy
        · exact hz
      · have e : ixA 1 (.sl b 0 t3.length 1 none) (.int 63 (n : Int)) k = ifB (Nat.blt n t3.length) (ifB (Nat.beq 1 1) (k (.ptr b (Nat.add 0 (Nat.mul n 1)))) .fail) .fail := rfl
        rw [e, (blt_iff _ _).2 hn]
        have e2 : Nat.add 0 (Nat.mul n 1) = n := by show 0 + n * 1 = n; omega
        show k (.ptr b (Nat.add 0 (Nat.mul n 1))) = _
        rw [e2]
      · exact (ld1_rd ho.rd hbn2 k).trans (cK_i _ _ _)
  obtain ⟨h5, t5, w5, s5, hb5, hl5, hc5⟩ := key
  obtain ⟨b1, h6, h7, e6, e7, hfin⟩ := lawTail w5 s5 hb5 (by omega)
  have e7' : ∀ k : AV → Hp → Res, (bld [(false, 1, v4), (false, 1, (.int 63 0)), (false, 1, (.bool false))] fun l => mk h6 (cells (.agg l)) k) = k (.ptr h6.nb 0) h7 := e7
  have gp1 : gsel (.bool true) true (.ptr b1 0) = .ptr b1 0 := rfl
  have gp2 : gsel (.bool true) true (.ptr h6.nb 0) = .ptr h6.nb 0 := rfl
  have gi : gsel (.bool true) true (.int 63 at_) = .int 63 at_ := rfl
  rcases hcond with ⟨a1, rfl⟩ | ⟨a1, a2, rfl⟩ | ⟨a1, a2, rfl⟩
  · have e2' : ∀ k : AV → Res, cutS 1 v (some (.int 63 0)) none none k = k v2 := e2
    rcases hc5 with ⟨b1_, rfl⟩ | ⟨b1_, l4, g4, ⟨b2_, rfl⟩ | ⟨b2_, pb_, po_, yy, zz, q1, q2, q3, q4⟩⟩
    ·
      rcases hfin with ⟨h8, h9, r2, u2⟩ | ⟨x8, y8, h8, h9, r2, u2, e42, kx, ky, gx, gy, ⟨nn, e43, y1, y1'⟩, h10, e12⟩
      · have lpn1 : lp L12n0 most [.bool true, .nils, .bool false, .nils, .int 63 (-1)] h9 = .exit 0 [.bool true] h9 := loop12n .nils .nils
        have lpn2 : lp L12n0 most [.bool true, .nils, .bool false, .nils, .int 63 (.negSucc 0)] h9 = .exit 0 [.bool true] h9 := lpn1
        exact ⟨h9, by simp only [↓s12, ↓e1, ↓gs, ↓ln, ↓e2, ↓e2', ↓e3, ↓e4, a1, b1_, ↓e6, ↓e7, ↓e7', ↓r2, ↓u2, nth_z, nth_1, ↓cK_nils, ↓lpn1, ↓lpn2, ↓blk_x, beq_self_eq_true, ↓SD, SA, Int.ofNat_eq_natCast, Int.cast_ofNat_Int, Int.reduceBEq, Int.reduceAdd, Int.reduceNeg, Int.reduceNegSucc, Int.reduceLT, Int.reduceLE, Int.reduceMul, Int.reduceTMod, Int.reduceSub, Int.reduceBNe, Bool.not_true, Bool.not_false, decide_true, decide_false, ne_eq, not_false_eq_true, Int.reduceEq, reduceCtorEq]; try rfl⟩
      · have e12' : lp L12n0 most [.bool true, x8, .bool true, y8, .int 63 (.negSucc 0)] h9 = .exit 0 [.bool true] h10 := e12
        exact ⟨h10, by simp only [↓s12, ↓e1, ↓gs, ↓ln, ↓e2, ↓e2', ↓e3, ↓e4, a1, b1_, ↓e6, ↓e7, ↓e7', ↓r2, ↓u2, ↓e42, ↓kx, ↓ky, ↓gx, ↓gy, nth_z, nth_1, ↓gp1, ↓gp2, ↓nck_p, ↓cP_p, ↓y1, ↓y1', ↓e43, ↓same_n, ↓e12, ↓e12', ↓blk_x, beq_self_eq_true, ↓SD, SA, Int.ofNat_eq_natCast, Int.cast_ofNat_Int, Int.reduceBEq, Int.reduceAdd, Int.reduceNeg, Int.reduceNegSucc, Int.reduceLT, Int.reduceLE, Int.reduceMul, Int.reduceTMod, Int.reduceSub, Int.reduceBNe, Bool.not_true, Bool.not_false, decide_true, decide_false, ne_eq, not_false_eq_true, Int.reduceEq, reduceCtorEq]; try rfl⟩
    ·
      rcases hfin with ⟨h8, h9, r2, u2⟩ | ⟨x8, y8, h8, h9, r2, u2, e42, kx, ky, gx, gy, ⟨nn, e43, y1, y1'⟩, h10, e12⟩
      · have lpn1 : lp L12n0 most [.bool true, .nils, .bool false, .nils, .int 63 (-1)] h9 = .exit 0 [.bool true] h9 := loop12n .nils .nils
        have lpn2 : lp L12n0 most [.bool true, .nils, .bool false, .nils, .int 63 (.negSucc 0)] h9 = .exit 0 [.bool true] h9 := lpn1
        exact ⟨h9, by simp only [↓s12, ↓e1, ↓gs, ↓ln, ↓e2, ↓e2', ↓e3, ↓e4, a1, b1_, ↓gi, ↓g4, ↓l4, b2_, ↓e6, ↓e7, ↓e7', ↓r2, ↓u2, nth_z, nth_1, ↓cK_nils, ↓lpn1, ↓lpn2, ↓blk_x, beq_self_eq_true, ↓SD, SA, Int.ofNat_eq_natCast, Int.cast_ofNat_Int, Int.reduceBEq, Int.reduceAdd, Int.reduceNeg, Int.reduceNegSucc, Int.reduceLT, Int.reduceLE, Int.reduceMul, Int.reduceTMod, Int.reduceSub, Int.reduceBNe, Bool.not_true, Bool.not_false, decide_true, decide_false, ne_eq, not_false_eq_true, Int.reduceEq, reduceCtorEq]; try rfl⟩
      · have e12' : lp L12n0 most [.bool true, x8, .bool true, y8, .int 63 (.negSucc 0)] h9 = .exit 0 [.bool true] h10 := e12
        exact ⟨h10, by simp only [↓s12, ↓e1, ↓gs, ↓ln, ↓e2, ↓e2', ↓e3, ↓e4, a1, b1_, ↓gi, ↓g4, ↓l4, b2_, ↓e6, ↓e7, ↓e7', ↓r2, ↓u2, ↓e42, ↓kx, ↓ky, ↓gx, ↓gy, nth_z, nth_1, ↓gp1, ↓gp2, ↓nck_p, ↓cP_p, ↓y1, ↓y1', ↓e43, ↓same_n, ↓e12, ↓e12', ↓blk_x, beq_self_eq_true, ↓SD, SA, Int.ofNat_eq_natCast, Int.cast_ofNat_Int, Int.reduceBEq, Int.reduceAdd, Int.reduceNeg, Int.reduceNegSucc, Int.reduceLT, Int.reduceLE, Int.reduceMul, Int.reduceTMod, Int.reduceSub, Int.reduceBNe, Bool.not_true, Bool.not_false, decide_true, decide_false, ne_eq, not_false_eq_true, Int.reduceEq, reduceCtorEq]; try rfl⟩
    · have q3' : wrapC 8 ((Nat.xor (toU 8 yy) (toU 8 x) : Nat) : Int) = zz := q3
      rcases hfin with ⟨h8, h9, r2, u2⟩ | ⟨x8, y8, h8, h9, r2, u2, e42, kx, ky, gx, gy, ⟨nn, e43, y1, y1'⟩, h10, e12⟩
      · have lpn1 : lp L12n0 most [.bool true, .nils, .bool false, .nils, .int 63 (-1)] h9 = .exit 0 [.bool true] h9 := loop12n .nils .nils
        have lpn2 : lp L12n0 most [.bool true, .nils, .bool false, .nils, .int 63 (.negSucc 0)] h9 = .exit 0 [.bool true] h9 := lpn1
        exact ⟨h9, by simp only [↓s12, ↓e1, ↓gs, ↓ln, ↓e2, ↓e2', ↓e3, ↓e4, a1, b1_, ↓gi, ↓g4, ↓l4, b2_, ↓q1, ↓q2, q3, q3', ↓q4, ↓e6, ↓e7, ↓e7', ↓r2, ↓u2, nth_z, nth_1, ↓cK_nils, ↓lpn1, ↓lpn2, ↓blk_x, beq_self_eq_true, ↓SD, SA, Int.ofNat_eq_natCast, Int.cast_ofNat_Int, Int.reduceBEq, Int.reduceAdd, Int.reduceNeg, Int.reduceNegSucc, Int.reduceLT, Int.reduceLE, Int.reduceMul, Int.reduceTMod, Int.reduceSub, Int.reduceBNe, Bool.not_true, Bool.not_false, decide_true, decide_false, ne_eq, not_false_eq_true, Int.reduceEq, reduceCtorEq]; try rfl⟩
      · have e12' : lp L12n0 most [.bool true, x8, .bool true, y8, .int 63 (.negSucc 0)] h9 = .exit 0 [.bool true] h10 := e12
        exact ⟨h10, by simp only [↓s12, ↓e1, ↓gs, ↓ln, ↓e2, ↓e2', ↓e3, ↓e4, a1, b1_, ↓gi, ↓g4, ↓l4, b2_, ↓q1, ↓q2, q3, q3', ↓q4, ↓e6, ↓e7, ↓e7', ↓r2, ↓u2, ↓e42, ↓kx, ↓ky, ↓gx, ↓gy, nth_z, nth_1, ↓gp1, ↓gp2, ↓nck_p, ↓cP_p, ↓y1, ↓y1', ↓e43, ↓same_n, ↓e12, ↓e12', ↓blk_x, beq_self_eq_true, ↓SD, SA, Int.ofNat_eq_natCast, Int.cast_ofNat_Int, Int.reduceBEq, Int.reduceAdd, Int.reduceNeg, Int.reduceNegSucc, Int.reduceLT, Int.reduceLE, Int.reduceMul, Int.reduceTMod, Int.reduceSub, Int.reduceBNe, Bool.not_true, Bool.not_false, decide_true, decide_false, ne_eq, not_false_eq_true, Int.reduceEq, reduceCtorEq]; try rfl⟩
  · have e2' : ∀ k : AV → Res, cutS 1 v (some (.int 63 0)) none none k = k v2 := e2
    rcases hc5 with ⟨b1_, rfl⟩ | ⟨b1_, l4, g4, ⟨b2_, rfl⟩ | ⟨b2_, pb_, po_, yy, zz, q1, q2, q3, q4⟩⟩
    ·
      rcases hfin with ⟨h8, h9, r2, u2⟩ | ⟨x8, y8, h8, h9, r2, u2, e42, kx, ky, gx, gy, ⟨nn, e43, y1, y1'⟩, h10, e12⟩
      · have lpn1 : lp L12n0 most [.bool true, .nils, .bool false, .nils, .int 63 (-1)] h9 = .exit 0 [.bool true] h9 := loop12n .nils .nils
        have lpn2 : lp L12n0 most [.bool true, .nils, .bool false, .nils, .int 63 (.negSucc 0)] h9 = .exit 0 [.bool true] h9 := lpn1
        exact ⟨h9, by simp only [↓s12, ↓e1, ↓gs, ↓ln, ↓e2, ↓e2', ↓e3, ↓e4, a1, a2, b1_, ↓e6, ↓e7, ↓e7', ↓r2, ↓u2, nth_z, nth_1, ↓cK_nils, ↓lpn1, ↓lpn2, ↓blk_x, beq_self_eq_true, ↓SD, SA, Int.ofNat_eq_natCast, Int.cast_ofNat_Int, Int.reduceBEq, Int.reduceAdd, Int.reduceNeg, Int.reduceNegSucc, Int.reduceLT, Int.reduceLE, Int.reduceMul, Int.reduceTMod, Int.reduceSub, Int.reduceBNe, Bool.not_true, Bool.not_false, decide_true, decide_false, ne_eq, not_false_eq_true, Int.reduceEq, reduceCtorEq]; try rfl⟩
      · have e12' : lp L12n0 most [.bool true, x8, .bool true, y8, .int 63 (.negSucc 0)] h9 = .exit 0 [.bool true] h10 := e12
        exact ⟨h10, by simp only [↓s12, ↓e1, ↓gs, ↓ln, ↓e2, ↓e2', ↓e3, ↓e4, a1, a2, b1_, ↓e6, ↓e7, ↓e7', ↓r2, ↓u2, ↓e42, ↓kx, ↓ky, ↓gx, ↓gy, nth_z, nth_1, ↓gp1, ↓gp2, ↓nck_p, ↓cP_p, ↓y1, ↓y1', ↓e43, ↓same_n, ↓e12, ↓e12', ↓blk_x, beq_self_eq_true, ↓SD, SA, Int.ofNat_eq_natCast, Int.cast_ofNat_Int, Int.reduceBEq, Int.reduceAdd, Int.reduceNeg, Int.reduceNegSucc, Int.reduceLT, Int.reduceLE, Int.reduceMul, Int.reduceTMod, Int.reduceSub, Int.reduceBNe, Bool.not_true, Bool.not_false, decide_true, decide_false, ne_eq, not_false_eq_true, Int.reduceEq, reduceCtorEq]; try rfl⟩
    ·
      rcases hfin with ⟨h8, h9, r2, u2⟩ | ⟨x8, y8, h8, h9, r2, u2, e42, kx, ky, gx, gy, ⟨nn, e43, y1, y1'⟩, h10, e12⟩
      · have lpn1 : lp L12n0 most [.bool true, .nils, .bool false, .nils, .int 63 (-1)] h9 = .exit 0 [.bool true] h9 := loop12n .nils .nils
        have lpn2 : lp L12n0 most [.bool true, .nils, .bool false, .nils, .int 63 (.negSucc 0)] h9 = .exit 0 [.bool true] h9 := lpn1
        exact ⟨h9, by simp only [↓s12, ↓e1, ↓gs, ↓ln, ↓e2, ↓e2', ↓e3, ↓e4, a1, a2, b1_, ↓gi, ↓g4, ↓l4, b2_, ↓e6, ↓e7, ↓e7', ↓r2, ↓u2, nth_z, nth_1, ↓cK_nils, ↓lpn1, ↓lpn2, ↓blk_x, beq_self_eq_true, ↓SD, SA, Int.ofNat_eq_natCast, Int.cast_ofNat_Int, Int.reduceBEq, Int.reduceAdd, Int.reduceNeg, Int.reduceNegSucc, Int.reduceLT, Int.reduceLE, Int.reduceMul, Int.reduceTMod, Int.reduceSub, Int.reduceBNe, Bool.not_true, Bool.not_false, decide_true, decide_false, ne_eq, not_false_eq_true, Int.reduceEq, reduceCtorEq]; try rfl⟩
      · have e12' : lp L12n0 most [.bool true, x8, .bool true, y8, .int 63 (.negSucc 0)] h9 = .exit 0 [.bool true] h10 := e12
        exact ⟨h10, by simp only [↓s12, ↓e1, ↓gs, ↓ln, ↓e2, ↓e2', ↓e3, ↓e4, a1, a2, b1_, ↓gi, ↓g4, ↓l4, b2_, ↓e6, ↓e7, ↓e7', ↓r2, ↓u2, ↓e42, ↓kx, ↓ky, ↓gx, ↓gy, nth_z, nth_1, ↓gp1, ↓gp2, ↓nck_p, ↓cP_p, ↓y1, ↓y1', ↓e43, ↓same_n, ↓e12, ↓e12', ↓blk_x, beq_self_eq_true, ↓SD, SA, Int.ofNat_eq_natCast, Int.cast_ofNat_Int, Int.reduceBEq, Int.reduceAdd, Int.reduceNeg, Int.reduceNegSucc, Int.reduceLT, Int.reduceLE, Int.reduceMul, Int.reduceTMod, Int.reduceSub, Int.reduceBNe, Bool.not_true, Bool.not_false, decide_true, decide_false, ne_eq, not_false_eq_true, Int.reduceEq, reduceCtorEq]; try rfl⟩
    · have q3' : wrapC 8 ((Nat.xor (toU 8 yy) (toU 8 x) : Nat) : Int) = zz := q3
      rcases hfin with ⟨h8, h9, r2, u2⟩ | ⟨x8, y8, h8, h9, r2, u2, e42, kx, ky, gx, gy, ⟨nn, e43, y1, y1'⟩, h10, e12⟩
      · have lpn1 : lp L12n0 most [.bool true, .nils, .bool false, .nils, .int 63 (-1)] h9 = .exit 0 [.bool true] h9 := loop12n .nils .nils
        have lpn2 : lp L12n0 most [.bool true, .nils, .bool false, .nils, .int 63 (.negSucc 0)] h9 = .exit 0 [.bool true] h9 := lpn1
        exact ⟨h9, by simp only [↓s12, ↓e1, ↓gs, ↓ln, ↓e2, ↓e2', ↓e3, ↓e4, a1, a2, b1_, ↓gi, ↓g4, ↓l4, b2_, ↓q1, ↓q2, q3, q3', ↓q4, ↓e6, ↓e7, ↓e7', ↓r2, ↓u2, nth_z, nth_1, ↓cK_nils, ↓lpn1, ↓lpn2, ↓blk_x, beq_self_eq_true, ↓SD, SA, Int.ofNat_eq_natCast, Int.cast_ofNat_Int, Int.reduceBEq, Int.reduceAdd, Int.reduceNeg, Int.reduceNegSucc, Int.reduceLT, Int.reduceLE, Int.reduceMul, Int.reduceTMod, Int.reduceSub, Int.reduceBNe, Bool.not_true, Bool.not_false, decide_true, decide_false, ne_eq, not_false_eq_true, Int.reduceEq, reduceCtorEq]; try rfl⟩
      · have e12' : lp L12n0 most [.bool true, x8, .bool true, y8, .int 63 (.negSucc 0)] h9 = .exit 0 [.bool true] h10 := e12
        exact ⟨h10, by simp only [↓s12, ↓e1, ↓gs, ↓ln, ↓e2, ↓e2', ↓e3, ↓e4, a1, a2, b1_, ↓gi, ↓g4, ↓l4, b2_, ↓q1, ↓q2, q3, q3', ↓q4, ↓e6, ↓e7, ↓e7', ↓r2, ↓u2, ↓e42, ↓kx, ↓ky, ↓gx, ↓gy, nth_z, nth_1, ↓gp1, ↓gp2, ↓nck_p, ↓cP_p, ↓y1, ↓y1', ↓e43, ↓same_n, ↓e12, ↓e12', ↓blk_x, beq_self_eq_true, ↓SD, SA, Int.ofNat_eq_natCast, Int.cast_ofNat_Int, Int.reduceBEq, Int.reduceAdd, Int.reduceNeg, Int.reduceNegSucc, Int.reduceLT, Int.reduceLE, Int.reduceMul, Int.reduceTMod, Int.reduceSub, Int.reduceBNe, Bool.not_true, Bool.not_false, decide_true, decide_false, ne_eq, not_false_eq_true, Int.reduceEq, reduceCtorEq]; try rfl⟩
  · have e2' : ∀ k : AV → Res, cutS 1 v (some (.int 63 (lo : Int))) none none k = k v2 := e2
    rcases hc5 with ⟨b1_, rfl⟩ | ⟨b1_, l4, g4, ⟨b2_, rfl⟩ | ⟨b2_, pb_, po_, yy, zz, q1, q2, q3, q4⟩⟩
    ·
      rcases hfin with ⟨h8, h9, r2, u2⟩ | ⟨x8, y8, h8, h9, r2, u2, e42, kx, ky, gx, gy, ⟨nn, e43, y1, y1'⟩, h10, e12⟩
      · have lpn1 : lp L12n0 most [.bool true, .nils, .bool false, .nils, .int 63 (-1)] h9 = .exit 0 [.bool true] h9 := loop12n .nils .nils
        have lpn2 : lp L12n0 most [.bool true, .nils, .bool false, .nils, .int 63 (.negSucc 0)] h9 = .exit 0 [.bool true] h9 := lpn1
        exact ⟨h9, by simp only [↓s12, ↓e1, ↓gs, ↓ln, ↓e2, ↓e2', ↓e3, ↓e4, a1, a2, b1_, ↓e6, ↓e7, ↓e7', ↓r2, ↓u2, nth_z, nth_1, ↓cK_nils, ↓lpn1, ↓lpn2, ↓blk_x, beq_self_eq_true, ↓SD, SA, Int.ofNat_eq_natCast, Int.cast_ofNat_Int, Int.reduceBEq, Int.reduceAdd, Int.reduceNeg, Int.reduceNegSucc, Int.reduceLT, Int.reduceLE, Int.reduceMul, Int.reduceTMod, Int.reduceSub, Int.reduceBNe, Bool.not_true, Bool.not_false, decide_true, decide_false, ne_eq, not_false_eq_true, Int.reduceEq, reduceCtorEq]; try rfl⟩
      · have e12' : lp L12n0 most [.bool true, x8, .bool true, y8, .int 63 (.negSucc 0)] h9 = .exit 0 [.bool true] h10 := e12
        exact ⟨h10, by simp only [↓s12, ↓e1, ↓gs, ↓ln, ↓e2, ↓e2', ↓e3, ↓e4, a1, a2, b1_, ↓e6, ↓e7, ↓e7', ↓r2, ↓u2, ↓e42, ↓kx, ↓ky, ↓gx, ↓gy, nth_z, nth_1, ↓gp1, ↓gp2, ↓nck_p, ↓cP_p, ↓y1, ↓y1', ↓e43, ↓same_n, ↓e12, ↓e12', ↓blk_x, beq_self_eq_true, ↓SD, SA, Int.ofNat_eq_natCast, Int.cast_ofNat_Int, Int.reduceBEq, Int.reduceAdd, Int.reduceNeg, Int.reduceNegSucc, Int.reduceLT, Int.reduceLE, Int.reduceMul, Int.reduceTMod, Int.reduceSub, Int.reduceBNe, Bool.not_true, Bool.not_false, decide_true, decide_false, ne_eq, not_false_eq_true, Int.reduceEq, reduceCtorEq]; try rfl⟩
    ·
      rcases hfin with ⟨h8, h9, r2, u2⟩ | ⟨x8, y8, h8, h9, r2, u2, e42, kx, ky, gx, gy, ⟨nn, e43, y1, y1'⟩, h10, e12⟩
      · have lpn1 : lp L12n0 most [.bool true, .nils, .bool false, .nils, .int 63 (-1)] h9 = .exit 0 [.bool true] h9 := loop12n .nils .nils
        have lpn2 : lp L12n0 most [.bool true, .nils, .bool false, .nils, .int 63 (.negSucc 0)] h9 = .exit 0 [.bool true] h9 := lpn1
        exact ⟨h9, by simp only [↓s12, ↓e1, ↓gs, ↓ln, ↓e2, ↓e2', ↓e3, ↓e4, a1, a2, b1_, ↓gi, ↓g4, ↓l4, b2_, ↓e6, ↓e7, ↓e7', ↓r2, ↓u2, nth_z, nth_1, ↓cK_nils, ↓lpn1, ↓lpn2, ↓blk_x, beq_self_eq_true, ↓SD, SA, Int.ofNat_eq_natCast, Int.cast_ofNat_Int, Int.reduceBEq, Int.reduceAdd, Int.reduceNeg, Int.reduceNegSucc, Int.reduceLT, Int.reduceLE, Int.reduceMul, Int.reduceTMod, Int.reduceSub, Int.reduceBNe, Bool.not_true, Bool.not_false, decide_true, decide_false, ne_eq, not_false_eq_true, Int.reduceEq, reduceCtorEq]; try rfl⟩
      · have e12' : lp L12n0 most [.bool true, x8, .bool true, y8, .int 63 (.negSucc 0)] h9 = .exit 0 [.bool true] h10 := e12
        exact ⟨h10, by simp only [↓s12, ↓e1, ↓gs, ↓ln, ↓e2, ↓e2', ↓e3, ↓e4, a1, a2, b1_, ↓gi, ↓g4, ↓l4, b2_, ↓e6, ↓e7, ↓e7', ↓r2, ↓u2, ↓e42, ↓kx, ↓ky, ↓gx, ↓gy, nth_z, nth_1, ↓gp1, ↓gp2, ↓nck_p, ↓cP_p, ↓y1, ↓y1', ↓e43, ↓same_n, ↓e12, ↓e12', ↓blk_x, beq_self_eq_true, ↓SD, SA, Int.ofNat_eq_natCast, Int.cast_ofNat_Int, Int.reduceBEq, Int.reduceAdd, Int.reduceNeg, Int.reduceNegSucc, Int.reduceLT, Int.reduceLE, Int.reduceMul, Int.reduceTMod, Int.reduceSub, Int.reduceBNe, Bool.not_true, Bool.not_false, decide_true, decide_false, ne_eq, not_false_eq_true, Int.reduceEq, reduceCtorEq]; try rfl⟩
    · have q3' : wrapC 8 ((Nat.xor (toU 8 yy) (toU 8 x) : Nat) : Int) = zz := q3
      rcases hfin with ⟨h8, h9, r2, u2⟩ | ⟨x8, y8, h8, h9, r2, u2, e42, kx, ky, gx, gy, ⟨nn, e43, y1, y1'⟩, h10, e12⟩
      · have lpn1 : lp L12n0 most [.bool true, .nils, .bool false, .nils, .int 63 (-1)] h9 = .exit 0 [.bool true] h9 := loop12n .nils .nils
        have lpn2 : lp L12n0 most [.bool true, .nils, .bool false, .nils, .int 63 (.negSucc 0)] h9 = .exit 0 [.bool true] h9 := lpn1
        exact ⟨h9, by simp only [↓s12, ↓e1, ↓gs, ↓ln, ↓e2, ↓e2', ↓e3, ↓e4, a1, a2, b1_, ↓gi, ↓g4, ↓l4, b2_, ↓q1, ↓q2, q3, q3', ↓q4, ↓e6, ↓e7, ↓e7', ↓r2, ↓u2, nth_z, nth_1, ↓cK_nils, ↓lpn1, ↓lpn2, ↓blk_x, beq_self_eq_true, ↓SD, SA, Int.ofNat_eq_natCast, Int.cast_ofNat_Int, Int.reduceBEq, Int.reduceAdd, Int.reduceNeg, Int.reduceNegSucc, Int.reduceLT, Int.reduceLE, Int.reduceMul, Int.reduceTMod, Int.reduceSub, Int.reduceBNe, Bool.not_true, Bool.not_false, decide_true, decide_false, ne_eq, not_false_eq_true, Int.reduceEq, reduceCtorEq]; try rfl⟩
      · have e12' : lp L12n0 most [.bool true, x8, .bool true, y8, .int 63 (.negSucc 0)] h9 = .exit 0 [.bool true] h10 := e12
        exact ⟨h10, by simp only [↓s12, ↓e1, ↓gs, ↓ln, ↓e2, ↓e2', ↓e3, ↓e4, a1, a2, b1_, ↓gi, ↓g4, ↓l4, b2_, ↓q1, ↓q2, q3, q3', ↓q4, ↓e6, ↓e7, ↓e7', ↓r2, ↓u2, ↓e42, ↓kx, ↓ky, ↓gx, ↓gy, nth_z, nth_1, ↓gp1, ↓gp2, ↓nck_p, ↓cP_p, ↓y1, ↓y1', ↓e43, ↓same_n, ↓e12, ↓e12', ↓blk_x, beq_self_eq_true, ↓SD, SA, Int.ofNat_eq_natCast, Int.cast_ofNat_Int, Int.reduceBEq, Int.reduceAdd, Int.reduceNeg, Int.reduceNegSucc, Int.reduceLT, Int.reduceLE, Int.reduceMul, Int.reduceTMod, Int.reduceSub, Int.reduceBNe, Bool.not_true, Bool.not_false, decide_true, decide_false, ne_eq, not_false_eq_true, Int.reduceEq, reduceCtorEq]; try rfl⟩
end Go.Proofs.YtnpfppddongbhaaDoor
end
