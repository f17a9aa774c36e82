/-
  Pools of constants: what each function of both readers answers (part Nr2).
-/
import Derived.Test.YtnpfppddongbhaaDoorNr1
set_option linter.unusedVariables false
set_option linter.unusedSimpArgs false
section
namespace Go.Proofs.YtnpfppddongbhaaDoor
open Go Go.AM
set_option autoImplicit false
theorem c41 (c : UInt8) : (((c.toNat : Int) == 41) : Bool) = decide (c = 41) := c8e c 41 (by decide)
theorem c40 (c : UInt8) : (((c.toNat : Int) == 40) : Bool) = decide (c = 40) := c8e c 40 (by decide)
theorem take1 (l : List UInt8) (i : Nat) (hi : i < l.length) (c : UInt8) : (l.drop i).take 1 = [c] ↔ l[i] = c := by
  rw [List.drop_eq_getElem_cons hi]
  have e : (l[i] :: l.drop (i + 1)).take 1 = [l[i]] := rfl
  rw [e]
  exact ⟨fun h => (List.cons.inj h).1, fun h => by rw [h]⟩
theorem loop33 {l : List UInt8} (hl : l.length ≤ 90000) (b N : Nat) (hbN : b < N) : ∀ (f m i : Nat) (ts0 : List Ty) (v : AV) (h : Hp), l.length - i < f → f < m → i ≤ l.length → (l.length - i) + ts0.length ≤ 100000 → N ≤ h.nb → Wf h → Cel h b ty0 → GrT h N v ts0 →
    (ml f (l.drop i) = none ∧ ∃ h', (lp L33n0 m [S l, .ptr b 0, v, .int 63 (i : Int)] h = .ret (T3 .nils ty0 false) h' ∧ To (fun x => b ≤ x) h h' ∧ Wf h') ∨ (∃ v', lp L33n0 m [S l, .ptr b 0, v, .int 63 (i : Int)] h = .exit 0 [S l, .ptr b 0, v', .int 63 (l.length : Int)] h' ∧ To (fun x => N ≤ x) h h' ∧ Wf h')) ∨
    (∃ p v' j h', ml f (l.drop i) = some p ∧ j < l.length ∧ p.2 = l.drop j ∧ lp L33n0 m [S l, .ptr b 0, v, .int 63 (i : Int)] h = .exit 0 [S l, .ptr b 0, v', .int 63 (j : Int)] h' ∧ GrT h' N v' (ts0 ++ p.1) ∧ To (fun x => N ≤ x) h h' ∧ Wf h') := by
  intro f
  induction f with
  | zero => intro m i ts0 v h hf; omega
  | succ f ih =>
    intro m i ts0 v h hf hm hi hlt hN hw hc hg
    obtain ⟨m, rfl⟩ : ∃ k, m = k + 1 := ⟨m - 1, by omega⟩
    have gs : ∀ a : List UInt8, gsel (.bool true) true (S a) = S a := fun a => rfl
    have gi : ∀ x : Int, gsel (.bool true) true (.int 63 x) = .int 63 x := fun x => rfl
    by_cases hin : i < l.length
    rotate_left
    · have q : ¬ (i : Int) < (l.length : Int) := by omega
      have hd : l.drop i = [] := List.drop_eq_nil_of_le (by omega)
      obtain rfl : i = l.length := by omega
      refine .inl ⟨?_, h, .inr ⟨v, lpx m (by simp only [↓L33n0, ↓lenS_S, q, ↓SD, SA, Int.ofNat_eq_natCast, Int.cast_ofNat_Int, Int.reduceBEq, Int.reduceAdd, Int.reduceNeg, Int.reduceNegSucc, Int.reduceLT, Int.reduceLE, Int.reduceMul, Int.reduceTMod, Int.reduceSub, Int.reduceBNe, Bool.not_true, Bool.not_false, decide_true, decide_false, ne_eq, not_false_eq_true, Int.reduceEq, reduceCtorEq]), To.refl _ _, hw⟩⟩
      rw [hd]; unfold ml
      rw [if_neg (by simp)]
      have : fr [] = none := rfl
      rw [this]
    have q : (i : Int) < (l.length : Int) := by omega
    have x0 := fun k => sIdx_S l 63 i hin k
    have f41 := c41 l[i]
    by_cases hp : l[i] = 41
    · rw [decide_eq_true hp] at f41
      refine .inr ⟨([], l.drop i), v, i, h, by unfold ml; rw [if_pos ((take1 l i hin 41).2 hp)], hin, rfl, lpx m (by simp only [↓L33n0, ↓lenS_S, q, ↓gs, ↓gi, ↓x0, f41, Bool.not_true, ↓SD, SA, Int.ofNat_eq_natCast, Int.cast_ofNat_Int, Int.reduceBEq, Int.reduceAdd, Int.reduceNeg, Int.reduceNegSucc, Int.reduceLT, Int.reduceLE, Int.reduceMul, Int.reduceTMod, Int.reduceSub, Int.reduceBNe, Bool.not_true, Bool.not_false, decide_true, decide_false, ne_eq, not_false_eq_true, Int.reduceEq, reduceCtorEq]), by rw [List.append_nil]; exact hg, To.refl _ _, hw⟩
    · rw [decide_eq_false hp] at f41
      have hp' : ¬ (l.drop i).take 1 = [41] := fun e => hp ((take1 l i hin 41).1 e)
      have hdl : (l.drop i).length = l.length - i := by simp
      have x1 := fun k => cutL_S l 63 i hi k
      obtain ⟨h1, e1, o1, w1⟩ := t56 (l := l.drop i) (by omega) hw
      obtain ⟨h2, m2, c2, o2, w2, n2⟩ := ty0_mk w1
      have m2' : ∀ k : AV → Hp → Res, mk h1 (.cons (.int 8 0) (.cons (.str 0 0) (.cons (.int 63 0) (.cons (.int 8 0) .nil)))) k = k (.ptr h1.nb 0) h2 := m2
      have bz : ∀ k : AV → Res, bld [(false, 1, (.int 8 0)), (false, 1, (.str 0 0)), (false, 1, (.int 63 0)), (false, 1, (.int 8 0))] k = k (avL (tyL ty0)) := fun k => rfl
      have nb1 := o1.nb
      have hcb := hc.lt
      have hne : ¬ b = h1.nb := by omega
      cases hf' : fr (l.drop i) with
      | none =>
        have ef : frV (fr (l.drop i)) = .tup (.cons (tyV ty0) (.cons (.int 63 0) .nil)) := by rw [hf']; rfl
        rw [ef] at e1
        obtain ⟨h3, s3, c3, o3, w3, n3⟩ := c2.st w2 ty0
        have s3 : ∀ k : Hp → Res, stN h2 4 (.ptr h1.nb 0) (tyV ty0) k = k h3 := s3
        have cb : Cel h3 b ty0 := ((hc.to o1 (fun f => f)).to o2 (fun f => f)).to o3 hne
        obtain ⟨h4, p1, p2, o4, w4⟩ := fin1 w3 cb ty0
        have p1 : ∀ k : Hp → Res, stN h3 4 (.ptr b 0) (.agg (avL (tyL ty0))) k = k h4 := p1
        refine .inl ⟨by unfold ml; rw [if_neg hp', hf'], h4, .inl ⟨?_, ((((o1.mono fun _ _ f => f.elim).trans (o2.mono fun _ _ f => f.elim)).trans (o3.mono fun x _ e => by have : x = h1.nb := e; omega)).trans (o4.mono fun x _ e => by have : x = b := e; omega)), w4⟩⟩
        exact lpr m (by simp only [↓L33n0, ↓lenS_S, q, ↓gs, ↓gi, ↓x0, f41, Bool.not_false, ↓x1, ↓e1, nth_z, nth_1, ↓cK_ty, ↓m2, ↓m2', ↓s3, ↓bldz, ↓bz, ↓p1, ↓p2, ↓SD, SA, Int.ofNat_eq_natCast, Int.cast_ofNat_Int, Int.reduceBEq, Int.reduceAdd, Int.reduceNeg, Int.reduceNegSucc, Int.reduceLT, Int.reduceLE, Int.reduceMul, Int.reduceTMod, Int.reduceSub, Int.reduceBNe, Bool.not_true, Bool.not_false, decide_true, decide_false, ne_eq, not_false_eq_true, Int.reduceEq, reduceCtorEq]; rfl)
      | some qq =>
        obtain ⟨t, n⟩ := qq
        obtain ⟨hn, hn2⟩ := fr_pos hf'
        have ef : frV (fr (l.drop i)) = .tup (.cons (tyV t) (.cons (.int 63 (n : Int)) .nil)) := by rw [hf']; rfl
        rw [ef] at e1
        have q0 : (((n : Nat) : Int) == 0) = false := beq_eq_false_iff_ne.2 (by omega)
        obtain ⟨h3, s3, c3, o3, w3, n3⟩ := c2.st w2 t
        have s3 : ∀ k : Hp → Res, stN h2 4 (.ptr h1.nb 0) (tyV t) k = k h3 := s3
        have l3 := fun k => c3.ld k
        have cb : Cel h3 b ty0 := ((hc.to o1 (fun f => f)).to o2 (fun f => f)).to o3 hne
        have oo : To (fun x => h.nb ≤ x) h h3 := ((o1.mono fun _ _ f => f.elim).trans (o2.mono fun _ _ f => f.elim)).trans (o3.mono fun x _ e => by have : x = h1.nb := e; omega)
        have g3 : GrT h3 N v ts0 := hg.to oo (fun x _ h2' e => by omega)
        obtain ⟨v', h4, h5, p4, p5, g5, o5, w5⟩ := apd_ty (N := N) (by omega) w3 g3 (by omega) t
        have i1 : wrapC 63 ((i : Int) + (n : Int)) = ((i + n : Nat) : Int) := by rw [w63_in _ (by omega) (by omega)]; omega
        have e : L33n0 [S l, .ptr b 0, v, .int 63 (i : Int)] h = .norm [S l, .ptr b 0, v', .int 63 ((i + n : Nat) : Int)] h5 := by
          simp only [↓L33n0, ↓lenS_S, q, ↓gs, ↓gi, ↓x0, f41, Bool.not_false, ↓x1, ↓e1, nth_z, nth_1, ↓cK_ty, ↓m2, ↓m2', ↓s3, q0, ↓l3, ↓bldT, ↓p4, ↓p5, i1, ↓SD, SA, Int.ofNat_eq_natCast, Int.cast_ofNat_Int, Int.reduceBEq, Int.reduceAdd, Int.reduceNeg, Int.reduceNegSucc, Int.reduceLT, Int.reduceLE, Int.reduceMul, Int.reduceTMod, Int.reduceSub, Int.reduceBNe, Bool.not_true, Bool.not_false, decide_true, decide_false, ne_eq, not_false_eq_true, Int.reduceEq, reduceCtorEq]
        have c5 : Cel h5 b ty0 := cb.to o5 (fun e => by omega)
        have oN : To (fun x => N ≤ x) h h5 := (oo.mono fun x _ e => by omega).trans o5
        have nb5 := oN.nb
        have hdd : (l.drop i).drop n = l.drop (i + n) := by rw [List.drop_drop]
        rcases ih m (i + n) (ts0 ++ [t]) v' h5 (by omega) (by omega) (by omega) (by rw [List.length_append, List.length_singleton]; omega) (by omega) w5 c5 g5 with ⟨r1, h6, ⟨r2, r3, r4⟩ | ⟨v'', r2, r3, r4⟩⟩ | ⟨p, v'', j, h6, r1, r1', r1'', r2, r3, r4, r5⟩
        · refine .inl ⟨?_, h6, .inl ⟨(lpn m e).trans r2, (oN.mono fun x _ e => by omega).trans r3, r4⟩⟩
          unfold ml; rw [if_neg hp', hf']
          simp only [hdd, r1]
        · refine .inl ⟨?_, h6, .inr ⟨v'', (lpn m e).trans r2, oN.trans r3, r4⟩⟩
          unfold ml; rw [if_neg hp', hf']
          simp only [hdd, r1]
        · refine .inr ⟨(t :: p.1, p.2), v'', j, h6, ?_, r1', r1'', (lpn m e).trans r2, by simpa using r3, oN.trans r4, r5⟩
          unfold ml; rw [if_neg hp', hf']
          simp only [hdd, r1]
theorem t33 {l : List UInt8} (hl : l.length ≤ 90000) {h : Hp} (hw : Wf h) : Mth (s33 [S l] h) h (md l) := by
  obtain ⟨h1, m1, c1, o1, w1, n1⟩ := ty0_mk hw
  have fresh : ∀ {g : Hp}, To (fun x => h.nb ≤ x) h1 g → To No h g := fun t => o1.fresh t (fun x e => e)
  have gs : ∀ a : List UInt8, gsel (.bool false) false (S a) = S a := fun a => rfl
  have bz : ∀ k : AV → Res, bld [(false, 1, (.int 8 0)), (false, 1, (.str 0 0)), (false, 1, (.int 63 0)), (false, 1, (.int 8 0))] k = k (avL (tyL ty0)) := fun k => rfl
  have bz2 : ∀ k : AV → Res, bld [(false, 1, (.int 8 0)), (false, 1, S []), (false, 1, (.int 63 0)), (false, 1, (.int 8 0))] k = k (avL (tyL ty0)) := fun k => rfl
  have bv : ∀ k : AV → Res, bld [(false, 1, (.int 8 86)), (false, 1, (.str 0 0)), (false, 1, (.int 63 0)), (false, 1, (.int 8 0))] k = k (avL (tyL tyVoid)) := fun k => rfl
  obtain ⟨hz, z1, z2, oz, wz⟩ := fin1 w1 c1 ty0
  have z1 : ∀ k : Hp → Res, stN h1 4 (.ptr h.nb 0) (.agg (avL (tyL ty0))) k = k hz := z1
  have tz : To No h hz := fresh (oz.mono fun x _ e => by have : x = h.nb := e; omega)
  unfold md
  by_cases he : l = []
  · subst he
    rw [if_neg (by simp)]
    have z : decide (([] : List UInt8) = []) = true := rfl
    exact .inl ⟨rfl, hz, by simp only [↓s33, ↓m1, ↓S_0, ↓eqS_S, z, ↓bldz, ↓bz, ↓bz2, ↓z1, ↓z2, ↓cK_ty, ↓SD, SA, Int.ofNat_eq_natCast, Int.cast_ofNat_Int, Int.reduceBEq, Int.reduceAdd, Int.reduceNeg, Int.reduceNegSucc, Int.reduceLT, Int.reduceLE, Int.reduceMul, Int.reduceTMod, Int.reduceSub, Int.reduceBNe, Bool.not_true, Bool.not_false, decide_true, decide_false, ne_eq, not_false_eq_true, Int.reduceEq, reduceCtorEq]; rfl, tz, wz⟩
  have z : decide (l = ([] : List UInt8)) = false := decide_eq_false he
  have hpos : 0 < l.length := List.length_pos_iff.2 he
  have x0 : ∀ k : AV → Res, sIdx (S l) (.int 63 0) k = k (.int 8 (l[0].toNat : Int)) := fun k => sIdx_S l 63 0 hpos k
  have f40 := c40 l[0]
  have ht := take1 l 0 hpos 40
  rw [List.drop_zero] at ht
  by_cases hp : l[0] = 40
  rotate_left
  · rw [if_neg (fun e => hp (ht.1 e))]
    rw [decide_eq_false hp] at f40
    exact .inl ⟨rfl, hz, by simp only [↓s33, ↓m1, ↓S_0, ↓eqS_S, z, ↓gs, ↓x0, f40, Bool.not_false, ↓bldz, ↓bz, ↓bz2, ↓z1, ↓z2, ↓cK_ty, ↓SD, SA, Int.ofNat_eq_natCast, Int.cast_ofNat_Int, Int.reduceBEq, Int.reduceAdd, Int.reduceNeg, Int.reduceNegSucc, Int.reduceLT, Int.reduceLE, Int.reduceMul, Int.reduceTMod, Int.reduceSub, Int.reduceBNe, Bool.not_true, Bool.not_false, decide_true, decide_false, ne_eq, not_false_eq_true, Int.reduceEq, reduceCtorEq]; rfl, tz, wz⟩
  rw [if_pos (ht.2 hp)]
  rw [decide_eq_true hp] at f40
  have hl1 : (l.drop 1).length ≤ l.length := by simp
  rcases loop33 hl h.nb (h.nb + 1) (by omega) (l.length + 1) most 1 [] .nils h1 (by omega) (by unfold most; omega) (by omega) (by simp; omega) (by omega) w1 c1 (.inl ⟨rfl, rfl⟩) with ⟨r1, h6, ⟨r2, r3, r4⟩ | ⟨v, r2, r3, r4⟩⟩ | ⟨p, v, j, h6, r1, r1', r1'', r2, r3, r4, r5⟩
  · rw [r1]
    have r2 : lp L33n0 most [S l, .ptr h.nb 0, .nils, .int 63 1] h1 = .ret (T3 .nils ty0 false) h6 := r2
    exact .inl ⟨rfl, h6, by simp only [↓s33, ↓m1, ↓S_0, ↓eqS_S, z, ↓gs, ↓x0, f40, Bool.not_true, ↓r2, ↓SD, SA, Int.ofNat_eq_natCast, Int.cast_ofNat_Int, Int.reduceBEq, Int.reduceAdd, Int.reduceNeg, Int.reduceNegSucc, Int.reduceLT, Int.reduceLE, Int.reduceMul, Int.reduceTMod, Int.reduceSub, Int.reduceBNe, Bool.not_true, Bool.not_false, decide_true, decide_false, ne_eq, not_false_eq_true, Int.reduceEq, reduceCtorEq], fresh r3, r4⟩
  · rw [r1]
    have r2 : lp L33n0 most [S l, .ptr h.nb 0, .nils, .int 63 1] h1 = .exit 0 [S l, .ptr h.nb 0, v, .int 63 (l.length : Int)] h6 := r2
    have c6 : Cel h6 h.nb ty0 := c1.to r3 (fun e => by omega)
    obtain ⟨h7, p1, p2, o7, w7⟩ := fin1 r4 c6 ty0
    have p1 : ∀ k : Hp → Res, stN h6 4 (.ptr h.nb 0) (.agg (avL (tyL ty0))) k = k h7 := p1
    have qq : ¬ (l.length : Int) < (l.length : Int) := by omega
    exact .inl ⟨rfl, h7, by simp only [↓s33, ↓m1, ↓S_0, ↓eqS_S, z, ↓gs, ↓x0, f40, Bool.not_true, ↓r2, ↓blk_x, ↓lenS_S, qq, Bool.not_false, ↓bldz, ↓bz, ↓bz2, ↓p1, ↓p2, ↓cK_ty, ↓SD, SA, Int.ofNat_eq_natCast, Int.cast_ofNat_Int, Int.reduceBEq, Int.reduceAdd, Int.reduceNeg, Int.reduceNegSucc, Int.reduceLT, Int.reduceLE, Int.reduceMul, Int.reduceTMod, Int.reduceSub, Int.reduceBNe, Bool.not_true, Bool.not_false, decide_true, decide_false, ne_eq, not_false_eq_true, Int.reduceEq, reduceCtorEq]; rfl, fresh ((r3.mono fun x _ e => by omega).trans (o7.mono fun x _ e => by have : x = h.nb := e; omega)), w7⟩
  · rw [r1]
    have r2 : lp L33n0 most [S l, .ptr h.nb 0, .nils, .int 63 1] h1 = .exit 0 [S l, .ptr h.nb 0, v, .int 63 (j : Int)] h6 := r2
    obtain ⟨i1, i2⟩ := ml_inv _ _ _ r1
    have c6 : Cel h6 h.nb ty0 := c1.to r4 (fun e => by omega)
    have g6 : GrT h6 (h.nb + 1) v p.1 := by simpa using r3
    have t16 : To (fun x => h.nb ≤ x) h1 h6 := r4.mono fun x _ e => by omega
    have kv := fun k => g6.cK k
    have qq : (j : Int) < (l.length : Int) := by omega
    have j1 : wrapC 63 ((j : Int) + 1) = ((j + 1 : Nat) : Int) := s1n _ (by omega)
    have x1 := fun k => cutL_S l 63 (j + 1) (by omega) k
    have hp2 : p.2 = 41 :: l.drop (j + 1) := by
      rw [r1''] at i1 ⊢
      have := (take1 l j r1' 41).1 i1
      rw [List.drop_eq_getElem_cons r1', this]
    have hp3 : p.2.drop 1 = l.drop (j + 1) := by rw [hp2]; rfl
    show Mth (s33 [S l] h) h (if p.2 = [41, 86] then some (p.1, tyVoid) else match fld (p.2.drop 1) with | none => none | some t => some (p.1, t))
    by_cases hv : l.drop (j + 1) = [86]
    · rw [if_pos (by rw [hp2, hv])]
      have zz : decide (l.drop (j + 1) = [86]) = true := decide_eq_true hv
      obtain ⟨h7, p1, p2, o7, w7⟩ := fin1 r5 c6 tyVoid
      have p1 : ∀ k : Hp → Res, stN h6 4 (.ptr h.nb 0) (.agg (avL (tyL tyVoid))) k = k h7 := p1
      have g7 : GrT h7 h.nb v p.1 := (g6.to o7 (fun x e _ e2 => by have : x = h.nb := e2; omega)).mono (by omega)
      refine .inr ⟨(p.1, tyVoid), v, h7, rfl, ?_, g7, fresh (t16.trans (o7.mono fun x _ e => by have : x = h.nb := e; omega)), w7⟩
      simp only [↓s33, ↓m1, ↓S_0, ↓eqS_S, z, ↓gs, ↓x0, f40, Bool.not_true, ↓r2, ↓blk_x, ↓lenS_S, qq, j1, ↓x1, ↓S_86, zz, ↓bldV, ↓bv, ↓p1, ↓kv, ↓p2, ↓cK_ty, ↓SD, SA, Int.ofNat_eq_natCast, Int.cast_ofNat_Int, Int.reduceBEq, Int.reduceAdd, Int.reduceNeg, Int.reduceNegSucc, Int.reduceLT, Int.reduceLE, Int.reduceMul, Int.reduceTMod, Int.reduceSub, Int.reduceBNe, Bool.not_true, Bool.not_false, decide_true, decide_false, ne_eq, not_false_eq_true, Int.reduceEq, reduceCtorEq]; rfl
    · rw [if_neg (by rw [hp2]; simpa using hv)]
      have zz : decide (l.drop (j + 1) = [86]) = false := decide_eq_false hv
      rw [hp3]
      obtain ⟨h7, e26, o7, w7⟩ := t27 (l := l.drop (j + 1)) (by simp; omega) r5
      obtain ⟨h8, m8, c8, o8, w8, n8⟩ := ty0_mk w7
      have m8' : ∀ k : AV → Hp → Res, mk h7 (.cons (.int 8 0) (.cons (.str 0 0) (.cons (.int 63 0) (.cons (.int 8 0) .nil)))) k = k (.ptr h7.nb 0) h8 := m8
      have m8'' : ∀ k : AV → Hp → Res, mk h7 (.cons (.int 8 0) (.cons (S []) (.cons (.int 63 0) (.cons (.int 8 0) .nil)))) k = k (.ptr h7.nb 0) h8 := m8
      have nb6 := t16.nb
      have nb7 := o7.nb
      obtain ⟨h9, s9, c9, o9, w9, n9⟩ := c8.st w8 ((fld (l.drop (j + 1))).getD ty0)
      have oo : To (fun x => h6.nb ≤ x) h6 h9 := ((o7.mono fun _ _ f => f.elim).trans (o8.mono fun _ _ f => f.elim)).trans (o9.mono fun x _ e => by have : x = h7.nb := e; omega)
      have cb : Cel h9 h.nb ty0 := c6.to oo (fun e => by omega)
      have g9 : GrT h9 (h.nb + 1) v p.1 := g6.to oo (fun x _ h2' e => by omega)
      have t19 : To (fun x => h.nb ≤ x) h1 h9 := t16.trans (oo.mono fun x _ e => by omega)
      have l9 := fun k => c9.ld k
      cases hf : fld (l.drop (j + 1)) with
      | none =>
        have ef : fldV (fld (l.drop (j + 1))) = .tup (.cons (tyV ty0) (.cons (.bool false) .nil)) := by rw [hf]; rfl
        rw [ef] at e26
        rw [hf] at s9
        have s9 : ∀ k : Hp → Res, stN h8 4 (.ptr h7.nb 0) (tyV ty0) k = k h9 := s9
        obtain ⟨h10, p1, p2, o10, w10⟩ := fin1 w9 cb ty0
        have p1 : ∀ k : Hp → Res, stN h9 4 (.ptr h.nb 0) (.agg (avL (tyL ty0))) k = k h10 := p1
        refine .inl ⟨rfl, h10, ?_, fresh (t19.trans (o10.mono fun x _ e => by have : x = h.nb := e; omega)), w10⟩
        simp only [↓s33, ↓m1, ↓S_0, ↓eqS_S, z, ↓gs, ↓x0, f40, Bool.not_true, ↓r2, ↓blk_x, ↓lenS_S, qq, j1, ↓x1, ↓S_86, zz, ↓e26, nth_z, nth_1, ↓cK_ty, ↓m8, ↓m8', ↓m8'', ↓s9, ↓bldz, ↓bz, ↓bz2, ↓p1, ↓p2, ↓SD, SA, Int.ofNat_eq_natCast, Int.cast_ofNat_Int, Int.reduceBEq, Int.reduceAdd, Int.reduceNeg, Int.reduceNegSucc, Int.reduceLT, Int.reduceLE, Int.reduceMul, Int.reduceTMod, Int.reduceSub, Int.reduceBNe, Bool.not_true, Bool.not_false, decide_true, decide_false, ne_eq, not_false_eq_true, Int.reduceEq, reduceCtorEq]; rfl
      | some t =>
        have ef : fldV (fld (l.drop (j + 1))) = .tup (.cons (tyV t) (.cons (.bool true) .nil)) := by rw [hf]; rfl
        rw [ef] at e26
        rw [hf] at s9 l9
        have s9 : ∀ k : Hp → Res, stN h8 4 (.ptr h7.nb 0) (tyV t) k = k h9 := s9
        have l9 : ∀ k : AV → Res, ldN h9 4 (.ptr h7.nb 0) k = k (tyV t) := l9
        obtain ⟨h10, p1, p2, o10, w10⟩ := fin1 w9 cb t
        have g10 : GrT h10 h.nb v p.1 := (g9.to o10 (fun x e _ e2 => by have : x = h.nb := e2; omega)).mono (by omega)
        refine .inr ⟨(p.1, t), v, h10, rfl, ?_, g10, fresh (t19.trans (o10.mono fun x _ e => by have : x = h.nb := e; omega)), w10⟩
        simp only [↓s33, ↓m1, ↓S_0, ↓eqS_S, z, ↓gs, ↓x0, f40, Bool.not_true, ↓r2, ↓blk_x, ↓lenS_S, qq, j1, ↓x1, ↓S_86, zz, ↓e26, nth_z, nth_1, ↓cK_ty, ↓m8, ↓m8', ↓m8'', ↓s9, ↓l9, ↓p1, ↓kv, ↓p2, ↓SD, SA, Int.ofNat_eq_natCast, Int.cast_ofNat_Int, Int.reduceBEq, Int.reduceAdd, Int.reduceNeg, Int.reduceNegSucc, Int.reduceLT, Int.reduceLE, Int.reduceMul, Int.reduceTMod, Int.reduceSub, Int.reduceBNe, Bool.not_true, Bool.not_false, decide_true, decide_false, ne_eq, not_false_eq_true, Int.reduceEq, reduceCtorEq]; rfl
end Go.Proofs.YtnpfppddongbhaaDoor
end

section
namespace Go.Proofs.YtnpfppddongbhaaDoor
open Go Go.AM
set_option autoImplicit false
def sumw : List Ty → Nat
  | [] => 0
  | t :: ts => wd t.k + sumw ts
theorem wd_le (c : UInt8) : wd c ≤ 2 := by unfold wd; split; exact Nat.le_refl _; split <;> omega
theorem loop34 {ts : List Ty} {v : AV} {N : Nat} (htl : ts.length ≤ 90000) : ∀ (f m i acc : Nat) (h : Hp), ts.length - i ≤ f → f < m → i ≤ ts.length → acc + 2 * (ts.length - i) ≤ 1000000 → Wf h → GrT h N v ts →
    ∃ h', lp L34n0 m [.int 63 (acc : Int), v, .int 63 (ts.length : Int), .int 63 (i : Int)] h = .exit 0 [.int 63 ((acc + sumw (ts.drop i) : Nat) : Int)] h' ∧ To No h h' ∧ Wf h' := by
  have stop : ∀ (m i acc : Nat) (h : Hp), ¬ i < ts.length → Wf h → ∃ h', lp L34n0 (m + 1) [.int 63 (acc : Int), v, .int 63 (ts.length : Int), .int 63 (i : Int)] h = .exit 0 [.int 63 ((acc + sumw (ts.drop i) : Nat) : Int)] h' ∧ To No h h' ∧ Wf h' := by
    intro m i acc h hi hw
    have q : ¬ (i : Int) < (ts.length : Int) := by omega
    rw [List.drop_eq_nil_of_le (by omega)]
    exact ⟨h, lpx m (by simp only [↓L34n0, q, ↓SD, SA, Int.ofNat_eq_natCast, Int.cast_ofNat_Int, Int.reduceBEq, Int.reduceAdd, Int.reduceNeg, Int.reduceNegSucc, Int.reduceLT, Int.reduceLE, Int.reduceMul, Int.reduceTMod, Int.reduceSub, Int.reduceBNe, Bool.not_true, Bool.not_false, decide_true, decide_false, ne_eq, not_false_eq_true, Int.reduceEq, reduceCtorEq]; rfl), To.refl _ _, hw⟩
  intro f
  induction f with
  | zero =>
    intro m i acc h hf hm hi ha hw hg
    obtain ⟨m, rfl⟩ : ∃ k, m = k + 1 := ⟨m - 1, by omega⟩
    exact stop m i acc h (by omega) hw
  | succ f ih =>
    intro m i acc h hf hm hi ha hw hg
    obtain ⟨m, rfl⟩ : ∃ k, m = k + 1 := ⟨m - 1, by omega⟩
    by_cases hin : i < ts.length
    · have q : (i : Int) < (ts.length : Int) := by omega
      have x1 := fun k => hg.ix i hin k
      obtain ⟨h1, m1, c1, o1, w1, n1⟩ := ty0_mk hw
      have m1' : ∀ k : AV → Hp → Res, mk h (.cons (.int 8 0) (.cons (.str 0 0) (.cons (.int 63 0) (.cons (.int 8 0) .nil)))) k = k (.ptr h.nb 0) h1 := m1
      obtain ⟨h2, p1, p2, o2, w2⟩ := fin1 w1 c1 ts[i]
      obtain ⟨h3, e3, o3, w3⟩ := t29 ts[i] w2
      have o : To No h h3 := (o1.fresh o2 (fun x e => by have : x = h.nb := e; omega)).trans o3
      have hwd := wd_le ts[i].k
      have a1 : wrapC 63 ((acc : Int) + (wd ts[i].k : Int)) = ((acc + wd ts[i].k : Nat) : Int) := by rw [w63_in _ (by omega) (by omega)]; omega
      have e : L34n0 [.int 63 (acc : Int), v, .int 63 (ts.length : Int), .int 63 (i : Int)] h = .norm [.int 63 ((acc + wd ts[i].k : Nat) : Int), v, .int 63 (ts.length : Int), .int 63 ((i + 1 : Nat) : Int)] h3 := by
        simp only [↓L34n0, q, ↓x1, ↓m1, ↓m1', ↓p1, ↓p2, ↓e3, a1, s1n i (by omega), ↓SD, SA, Int.ofNat_eq_natCast, Int.cast_ofNat_Int, Int.reduceBEq, Int.reduceAdd, Int.reduceNeg, Int.reduceNegSucc, Int.reduceLT, Int.reduceLE, Int.reduceMul, Int.reduceTMod, Int.reduceSub, Int.reduceBNe, Bool.not_true, Bool.not_false, decide_true, decide_false, ne_eq, not_false_eq_true, Int.reduceEq, reduceCtorEq]
      obtain ⟨h4, e4, o4, w4⟩ := ih m (i + 1) (acc + wd ts[i].k) h3 (by omega) (by omega) (by omega) (by omega) w3 (hg.to o (fun _ _ _ f => f))
      refine ⟨h4, (lpn m e).trans (e4.trans ?_), o.trans o4, w4⟩
      rw [List.drop_eq_getElem_cons hin, sumw, Nat.add_assoc]
    · exact stop m i acc h hin hw
theorem md_len {l : List UInt8} {p : List Ty × Ty} (h : md l = some p) : p.1.length ≤ l.length := by
  unfold md at h
  split at h
  · cases hm : ml (l.length + 1) (l.drop 1) with
    | none => rw [hm] at h; cases h
    | some q =>
      rw [hm] at h
      simp only at h
      obtain ⟨-, h2⟩ := ml_inv _ _ _ hm
      simp at h2
      split at h
      · cases h; show q.1.length ≤ _; omega
      · cases hf : fld (q.2.drop 1) with
        | none => rw [hf] at h; cases h
        | some t => rw [hf] at h; cases h; show q.1.length ≤ _; omega
  · cases h
noncomputable def argZ (l : List UInt8) : Int := match md l with
  | none => -1
  | some p => (sumw p.1 : Int)
theorem t34 {l : List UInt8} (hl : l.length ≤ 90000) {h : Hp} (hw : Wf h) : ∃ h', s34 [S l] h = .ret (.int 63 (argZ l)) h' ∧ To No h h' ∧ Wf h' := by
  unfold argZ
  rcases t32 hl hw with ⟨em, h1, e1, o1, w1⟩ | ⟨p, v, h1, em, e1, g1, o1, w1⟩
  · obtain ⟨h2, m2, c2, o2, w2, n2⟩ := ty0_mk w1
    have m2' : ∀ k : AV → Hp → Res, mk h1 (.cons (.int 8 0) (.cons (.str 0 0) (.cons (.int 63 0) (.cons (.int 8 0) .nil)))) k = k (.ptr h1.nb 0) h2 := m2
    obtain ⟨h3, p1, p2, o3, w3⟩ := fin1 w2 c2 ty0
    rw [em]
    have e1 : s32 [S l] h = .ret (.tup (.cons .nils (.cons (tyV ty0) (.cons (.bool false) .nil)))) h1 := e1
    have kn : ∀ k : AV → Res, cK .nils k = k .nils := fun k => rfl
    exact ⟨h3, by simp only [↓s34, ↓e1, nth_z, nth_1, nth_2, ↓kn, ↓cK_ty, ↓m2, ↓m2', ↓p1, ↓SD, SA, Int.ofNat_eq_natCast, Int.cast_ofNat_Int, Int.reduceBEq, Int.reduceAdd, Int.reduceNeg, Int.reduceNegSucc, Int.reduceLT, Int.reduceLE, Int.reduceMul, Int.reduceTMod, Int.reduceSub, Int.reduceBNe, Bool.not_true, Bool.not_false, decide_true, decide_false, ne_eq, not_false_eq_true, Int.reduceEq, reduceCtorEq], o1.trans (o2.fresh o3 (fun x e => by have : x = h1.nb := e; omega)), w3⟩
  · obtain ⟨h2, m2, c2, o2, w2, n2⟩ := ty0_mk w1
    have m2' : ∀ k : AV → Hp → Res, mk h1 (.cons (.int 8 0) (.cons (.str 0 0) (.cons (.int 63 0) (.cons (.int 8 0) .nil)))) k = k (.ptr h1.nb 0) h2 := m2
    obtain ⟨h3, p1, p2, o3, w3⟩ := fin1 w2 c2 p.2
    have o23 : To No h1 h3 := o2.fresh o3 (fun x e => by have : x = h1.nb := e; omega)
    have g3 := g1.to o23 (fun _ _ _ f => f)
    have hlen := md_len em
    rw [em]
    have e1 : s32 [S l] h = .ret (.tup (.cons v (.cons (tyV p.2) (.cons (.bool true) .nil)))) h1 := e1
    have kv := fun k => g1.cK k
    have ln := fun k => g3.len k
    obtain ⟨h4, e4, o4, w4⟩ := loop34 (by omega) p.1.length most 0 0 h3 (by omega) (by unfold most; omega) (by omega) (by omega) w3 g3
    rw [List.drop_zero, Nat.zero_add] at e4
    have e4 : lp L34n0 most [.int 63 0, v, .int 63 (p.1.length : Int), .int 63 0] h3 = .exit 0 [.int 63 (sumw p.1 : Int)] h4 := e4
    exact ⟨h4, by simp only [↓s34, ↓e1, nth_z, nth_1, nth_2, ↓kv, ↓cK_ty, ↓m2, ↓m2', ↓p1, ↓ln, ↓e4, ↓blk_x, ↓SD, SA, Int.ofNat_eq_natCast, Int.cast_ofNat_Int, Int.reduceBEq, Int.reduceAdd, Int.reduceNeg, Int.reduceNegSucc, Int.reduceLT, Int.reduceLE, Int.reduceMul, Int.reduceTMod, Int.reduceSub, Int.reduceBNe, Bool.not_true, Bool.not_false, decide_true, decide_false, ne_eq, not_false_eq_true, Int.reduceEq, reduceCtorEq], (o1.trans o23).trans o4, w4⟩
end Go.Proofs.YtnpfppddongbhaaDoor
end

section
namespace Go.Proofs.YtnpfppddongbhaaDoor
open Go Go.AM
set_option autoImplicit false
theorem mkS_sl {h : Hp} (hw : Wf h) (m : List AV) (hm : ∀ x ∈ m, one x = true) : ∃ h', (∀ k : AV → Hp → Res, mkS h 1 m.length (avL m) k = k (.sl h.nb 0 m.length 1 (some m.length)) h') ∧ Sl h' (At h.nb) (.sl h.nb 0 m.length 1 (some m.length)) m ∧ To No h h' ∧ Wf h' := by
  obtain ⟨t, e1, e2⟩ := lay_list m .e 0 hm
  obtain ⟨o1, o2⟩ := nw_own hw (0 + m.length) .nil t
  refine ⟨nw h (0 + m.length) .nil t, fun k => ?_, ⟨hm, .inr (.inr ⟨h.nb, 0, some m.length, _, rfl, rfl, o1.rd, fun _ => rfl, (fun c e => by cases e; exact Nat.le_refl _), fun i hi => ?_⟩)⟩, o2, o2.wf hw⟩
  · have e : mkS h 1 m.length (avL m) k = lay (avL m) .e 0 fun t j => ifB (Nat.beq j (Nat.mul m.length 1)) (k (.sl h.nb 0 m.length 1 (some m.length)) (nw h j .nil t)) .fail := rfl
    have e3 : Nat.beq (0 + m.length) (Nat.mul m.length 1) = true := by rw [beq_iff]; show 0 + m.length = m.length * 1; omega
    rw [e, e1, e3, ifB_t]
  · rw [at_in _ (show 0 + i < 0 + m.length by omega)]
    simp only [e2 (0 + i)]
    rw [dif_pos ⟨by omega, by omega⟩]
    simp
theorem lead_n (n : Nat) (c : UInt8) (r : List UInt8) (hc : c ≠ 91) : lead (List.replicate n 91 ++ c :: r) = n := by
  induction n with
  | zero => rw [List.replicate_zero, List.nil_append, lead, if_neg hc]
  | succ n ih => rw [List.replicate_succ, List.cons_append, lead, if_pos rfl, ih]
theorem fr_n (n : Nat) (c : UInt8) (r : List UInt8) (hc : c ≠ 91) : fr (List.replicate n 91 ++ c :: r) = if 255 < n then none else
    if c ∈ prims then some (mkT c [] n, n + 1)
    else if c = 76 then match upto r with
      | none => none
      | some nm => if cls nm = true then some (mkT 76 nm n, n + 1 + (nm.length + 1)) else none
    else none := by
  have hlen : (List.replicate n (91 : UInt8)).length = n := by simp
  have hd : (List.replicate n 91 ++ c :: r).drop (n + 1) = r := by
    rw [show List.replicate n 91 ++ c :: r = (List.replicate n 91 ++ [c]) ++ r by simp, show n + 1 = (List.replicate n (91 : UInt8) ++ [c]).length by simp, List.drop_left]
  have hg : (List.replicate n 91 ++ c :: r)[n]? = some c := by
    rw [List.getElem?_append_right (by omega), hlen, Nat.sub_self]; rfl
  unfold fr
  rw [lead_n n c r hc, hg, hd]
  try rfl
end Go.Proofs.YtnpfppddongbhaaDoor
end

section
namespace Go.Proofs.YtnpfppddongbhaaDoor
open Go Go.AM
set_option autoImplicit false
def GrTx (h : Hp) (N c0 : Nat) (v : AV) (ts : List Ty) : Prop :=
  (v = .nils ∧ ts = []) ∨ ∃ b B, v = .sl b 0 ts.length 4 none ∧ N ≤ b ∧ Rd h b B ∧ B.fr = true ∧ N ≤ B.g ∧ B.g ≠ c0 ∧ ts.length * 4 ≤ B.lim ∧ ∀ i (hi : i < (flat ts).length), B.at i = (flat ts)[i]
theorem GrTx.to {h h' : Hp} {N c0 : Nat} {v : AV} {ts : List Ty} {W : Nat → Prop} (hg : GrTx h N c0 v ts) (ht : To W h h') (hd : ∀ b, N ≤ b → b < h.nb → ¬ W b) : GrTx h' N c0 v ts := by
  rcases hg with e | ⟨b, B, e, h1, h2, h3, h4, h4x, h5, h6⟩
  · exact .inl e
  · exact .inr ⟨b, B, e, h1, h2.to ht (hd b h1 h2.lt) (fun _ => hd _ h4 (h2.grp h3).1), h3, h4, h4x, h5, h6⟩
theorem GrT.x {h h' : Hp} {N c0 : Nat} {v : AV} {ts : List Ty} (hg : GrT h N v ts) (ht : To (fun x => h.nb ≤ x) h h') (hc : h.nb ≤ c0) : GrTx h' N c0 v ts := by
  rcases hg with e | ⟨b, B, e, h1, h2, h3, h4, h5, h6⟩
  · exact .inl e
  · have l1 := h2.lt
    have l2 := (h2.grp h3).1
    exact .inr ⟨b, B, e, h1, h2.to ht (fun e => by omega) (fun _ e => by omega), h3, h4, by omega, h5, h6⟩
def Okt (t : Ty) (x : List UInt8) : Prop := ∃ c nm d, t = mkT c nm d ∧ x = List.replicate d 91 ++ txt c nm ∧ d ≤ 255 ∧ (Prim c nm ∨ Ref c nm) ∧ (59 : UInt8) ∉ nm ∧ nm.length ≤ 3
theorem upto_ap (a b : List UInt8) (h : (59 : UInt8) ∉ a) : upto (a ++ 59 :: b) = some a := by
  induction a with
  | nil => rfl
  | cons c a ih =>
    have h1 : ¬ c = 59 := fun e => h (by simp [e])
    rw [List.cons_append, upto, if_neg h1, ih fun e => h (by simp [e])]; rfl
theorem Okt.fr {t : Ty} {x : List UInt8} (h : Okt t x) (r : List UInt8) : fr (x ++ r) = some (t, x.length) := by
  obtain ⟨c, nm, d, rfl, rfl, hd, hc, hn, hl⟩ := h
  rcases hc with ⟨hp, rfl⟩ | ⟨rfl, hcl, hnl⟩
  · obtain ⟨n1, n2, n3, n4, hv⟩ := prims_ne hp
    have e : txt c [] = [c] := if_neg n1
    rw [e, show List.replicate d 91 ++ [c] ++ r = List.replicate d 91 ++ c :: r by simp, fr_n d c r n4, if_neg (by omega), if_pos hp]
    simp
  · have e : txt 76 nm = 76 :: nm ++ [59] := if_pos rfl
    rw [e, show List.replicate d 91 ++ (76 :: nm ++ [59]) ++ r = List.replicate d 91 ++ 76 :: (nm ++ 59 :: r) by simp, fr_n d 76 _ (by decide), if_neg (by omega), if_neg (by decide), if_pos rfl, upto_ap nm r hn]
    show (if cls nm = true then _ else none) = _
    rw [if_pos hcl]
    simp; omega
theorem Okt.len {t : Ty} {x : List UInt8} (h : Okt t x) : 0 < x.length ∧ x.length ≤ 300 := by
  obtain ⟨c, nm, d, rfl, rfl, hd, hc, hn, hl⟩ := h
  unfold txt
  split <;> simp <;> omega
theorem Okt.head {t : Ty} {x : List UInt8} (h : Okt t x) (r : List UInt8) : ¬ (x ++ r).take 1 = [41] := by
  obtain ⟨c, nm, d, rfl, rfl, hd, hc, hn, hl⟩ := h
  cases d with
  | succ d => rw [List.replicate_succ]; simp
  | zero =>
    rcases hc with ⟨hp, rfl⟩ | ⟨rfl, hcl, hnl⟩
    · obtain ⟨n1, n2, n3, n4, hv⟩ := prims_ne hp
      have e : txt c [] = [c] := if_neg n1
      rw [e]
      intro h
      have : c = 41 := by simpa using h
      subst this
      exact absurd hp (by decide)
    · have e : txt 76 nm = 76 :: nm ++ [59] := if_pos rfl
      rw [e]; simp
theorem Okt.fld {t : Ty} {x : List UInt8} (h : Okt t x) : fld x = some t := by
  have := h.fr []
  rw [List.append_nil] at this
  unfold YtnpfppddongbhaaDoor.fld
  rw [this]
  show (if x.length = x.length then some t else none) = some t
  rw [if_pos rfl]
theorem Okt.ne {t : Ty} {x : List UInt8} (h : Okt t x) : x ≠ [86] := by
  intro e
  subst e
  have := h.fr []
  have e2 : YtnpfppddongbhaaDoor.fr ([86] ++ []) = none := by
    have := fr_n 0 86 [] (by decide)
    exact this.trans (by rw [if_neg (by decide), if_neg (by decide), if_neg (by decide)])
  rw [e2] at this; cases this
inductive Cat : List Ty → List UInt8 → Prop
  | nil : Cat [] []
  | cons {t : Ty} {x : List UInt8} {ts : List Ty} {s : List UInt8} : Okt t x → Cat ts s → Cat (t :: ts) (x ++ s)
theorem Cat.ml {ts : List Ty} {s : List UInt8} (h : Cat ts s) : ∀ (f : Nat) (r : List UInt8), s.length < f → r.take 1 = [41] → ml f (s ++ r) = some (ts, r) := by
  induction h with
  | nil =>
    intro f r hf hr
    obtain ⟨f, rfl⟩ : ∃ k, f = k + 1 := ⟨f - 1, by omega⟩
    unfold YtnpfppddongbhaaDoor.ml
    rw [List.nil_append, if_pos hr]
  | @cons t x ts s h1 _ ih =>
    intro f r hf hr
    obtain ⟨f, rfl⟩ : ∃ k, f = k + 1 := ⟨f - 1, by omega⟩
    have hl := h1.len
    rw [List.length_append] at hf
    unfold YtnpfppddongbhaaDoor.ml
    rw [List.append_assoc, if_neg (h1.head _), h1.fr]
    simp only [List.drop_left, ih f r (by omega) hr]
theorem Cat.md {ts : List Ty} {s : List UInt8} {t : Ty} {x : List UInt8} (h : Cat ts s) (ho : Okt t x) : md (40 :: s ++ [41] ++ x) = some (ts, t) := by
  unfold YtnpfppddongbhaaDoor.md
  rw [show (40 :: s ++ [41] ++ x : List UInt8) = 40 :: (s ++ 41 :: x) by simp, if_pos (show (40 :: (s ++ 41 :: x) : List UInt8).take 1 = [40] from rfl), show (40 :: (s ++ 41 :: x)).drop 1 = s ++ 41 :: x from rfl, h.ml _ (41 :: x) (by simp; omega) rfl]
  show (if (41 :: x : List UInt8) = [41, 86] then some (ts, tyVoid) else match YtnpfppddongbhaaDoor.fld ((41 :: x).drop 1) with | none => none | some t => some (ts, t)) = _
  rw [if_neg (fun e => ho.ne (List.cons.inj e).2), show (41 :: x).drop 1 = x from rfl, ho.fld]
end Go.Proofs.YtnpfppddongbhaaDoor
end

section
namespace Go.Proofs.YtnpfppddongbhaaDoor
open Go Go.AM
set_option autoImplicit false
def als : List Ty := [⟨73, [], 0, 0⟩, ⟨74, [], 0, 0⟩, ⟨66, [], 0, 0⟩, ⟨67, [], 0, 0⟩, ⟨83, [], 0, 0⟩, ⟨90, [], 0, 0⟩, ⟨76, [97, 47, 98], 0, 0⟩]
def AlsT (h : Hp) (b : Nat) : Prop := ∃ B, Own h b B ∧ ∀ i (hi : i < (flat als).length), B.at i = (flat als)[i]
theorem AlsT.to {h h' : Hp} {b : Nat} {W : Nat → Prop} (ha : AlsT h b) (ht : To W h h') (hw : ¬ W b) : AlsT h' b := by
  obtain ⟨B, o, r⟩ := ha
  exact ⟨B, o.to ht hw, r⟩
end Go.Proofs.YtnpfppddongbhaaDoor
end

section
namespace Go.Proofs.YtnpfppddongbhaaDoor.C
open Go Go.AM
set_option autoImplicit false
theorem nck_p (b o : Nat) (k : AV → Res) : nck (.ptr b o) k = k (.ptr b o) := of_eq_true (eq_self _)
theorem eqP_pn (b o : Nat) (k : Bool → Res) : eqP (.ptr b o) .nilp k = k false := of_eq_true (eq_self _)
theorem lpn {F : List AV → Hp → Res} {vs vs' : List AV} {h h' : Hp} (m : Nat) (e : F vs h = .norm vs' h') : lp F (m + 1) vs h = lp F m vs' h' := by
  have : lp F (m + 1) vs h = Res.rec (motive := fun _ => Res) .fail (lp F m) (fun i vs h => .exit i vs h) (fun v h => .ret v h) (F vs h) := rfl
  rw [this, e]
theorem lpx {F : List AV → Hp → Res} {vs vs' : List AV} {h h' : Hp} {i : Nat} (m : Nat) (e : F vs h = .exit i vs' h') : lp F (m + 1) vs h = .exit i vs' h' := by
  have : lp F (m + 1) vs h = Res.rec (motive := fun _ => Res) .fail (lp F m) (fun i vs h => .exit i vs h) (fun v h => .ret v h) (F vs h) := rfl
  rw [this, e]
theorem lpr {F : List AV → Hp → Res} {vs : List AV} {v : AV} {h h' : Hp} (m : Nat) (e : F vs h = .ret v h') : lp F (m + 1) vs h = .ret v h' := by
  have : lp F (m + 1) vs h = Res.rec (motive := fun _ => Res) .fail (lp F m) (fun i vs h => .exit i vs h) (fun v h => .ret v h) (F vs h) := rfl
  rw [this, e]
def Bs (t : List Nat) : List AV := t.map fun (x : Nat) => AV.int 8 (x : Int)
theorem Bs_len (t : List Nat) : (Bs t).length = t.length := by simp [Bs]
theorem Bs_one (t : List Nat) : ∀ x ∈ Bs t, one x = true := by
  intro x hx
  obtain ⟨y, -, rfl⟩ := List.mem_map.1 hx
  rfl
theorem t66 {h : Hp} {P : Nat → Prop} {v : AV} {t : List Nat} (hs : Sl h P v (Bs t)) (hw : Wf h) (ht : t.length ≤ 100000) :
    ∃ v' h', s66 [v] h = .ret v' h' ∧ Sl h' (fun b => h.nb ≤ b ∧ b < h'.nb) v' (Bs t) ∧ To No h h' ∧ Wf h' := by
  have low : ∀ {h' : Hp} {v' : AV} {l : List AV}, Sl h' (fun b => h.nb ≤ b) v' l → Sl h' (fun b => h.nb ≤ b ∧ b < h'.nb) v' l := by
    intro h' v' l hs
    obtain ⟨h1, h2⟩ := hs
    refine ⟨h1, ?_⟩
    rcases h2 with h2 | h2 | ⟨b, o, c, B, h2, h3, h4, h5, hc, h6⟩
    · exact .inl h2
    · exact .inr (.inl h2)
    · exact .inr (.inr ⟨b, o, c, B, h2, ⟨h3, h4.lt⟩, h4, fun hf => ⟨h5 hf, (h4.grp hf).1⟩, hc, h6⟩)
  obtain ⟨b, e1, e2⟩ := eqL_nil hs (fun b2 => cB (.bool b2) fun b3 => ifB b3 (cK .nils fun v4 => .ret v4 h) (bld [] fun l5 => mkS h 1 0 l5 fun v6 h7 => apd h7 1 1 v6 v fun v8 h9 => cK v8 fun v10 => .ret v10 h9))
  have e0 : s66 [v] h = eqL v .nils (fun b2 => cB (.bool b2) fun b3 => ifB b3 (cK .nils fun v4 => .ret v4 h) (bld [] fun l5 => mkS h 1 0 l5 fun v6 h7 => apd h7 1 1 v6 v fun v8 h9 => cK v8 fun v10 => .ret v10 h9)) := rfl
  rw [e0, e1]
  cases b with
  | true =>
    have := e2 rfl
    exact ⟨.nils, h, rfl, ⟨Bs_one t, .inl ⟨rfl, this⟩⟩, To.refl _ _, hw⟩
  | false =>
    obtain ⟨o1, o2⟩ := nw_own hw 0 .nil .e
    have g : Gr (nw h 0 .nil .e) h.nb (.sl h.nb 0 0 1 (some 0)) [] :=
      ⟨⟨by simp, .inr (.inr ⟨h.nb, 0, _, _, rfl, Nat.le_refl _, o1.rd, fun _ => Nat.le_refl _, (fun c e => by cases e; exact Nat.le_refl _), fun i hi => by simp at hi⟩)⟩, .inr (.inl ⟨_, rfl, rfl⟩)⟩
    obtain ⟨v', h', a1, a2, a3⟩ := apd_gr (by_ := 1) o2.nb (o2.wf hw) g (hs.to o2 (fun _ _ f => f)) (by simp [Bs_len]; omega) (by simp [Bs_len]; omega)
    rw [List.nil_append] at a2
    refine ⟨v', h', ?_, low a2.1, (To.trans (o2.mono fun _ _ f => f.elim) a3).mono (fun b hb hn => by omega), a3.wf (o2.wf hw)⟩
    show (apd (nw h 0 .nil .e) 1 1 (.sl h.nb 0 0 1 (some 0)) v fun v8 h9 => cK v8 fun v10 => .ret v10 h9) = _
    rw [a1, cK_sl a2.1]
structure Cur (h : Hp) (lo b : Nat) (t : List Nat) (at_ : Nat) (bad : Bool) : Prop where
  own : ∃ B v, Own h b B ∧ B.lim = 3 ∧ B.at 0 = v ∧ B.at 1 = .int 63 (at_ : Int) ∧ B.at 2 = .bool bad ∧ Sl h (fun x => lo ≤ x ∧ x < b) v (Bs t)
  le : at_ ≤ t.length
  len : t.length ≤ 100000
  lo : lo ≤ b
  byt : ∀ x ∈ t, x < 256
theorem Cur.to {W : Nat → Prop} {h h' : Hp} {lo b at_ : Nat} {t : List Nat} {bad : Bool} (hc : Cur h lo b t at_ bad) (ht : To W h h') (hw : ∀ x, lo ≤ x → x ≤ b → ¬ W x) : Cur h' lo b t at_ bad := by
  obtain ⟨B, v, o, h1, h2, h3, h4, h5⟩ := hc.own
  exact ⟨⟨B, v, o.to ht (hw b hc.lo (Nat.le_refl _)), h1, h2, h3, h4, h5.to ht (fun x hx => hw x hx.1 (Nat.le_of_lt hx.2))⟩, hc.le, hc.len, hc.lo, hc.byt⟩
theorem t38 {h : Hp} {P : Nat → Prop} {v : AV} {t : List Nat} (hs : Sl h P v (Bs t)) (hw : Wf h) (ht : t.length ≤ 100000) (hb : ∀ x ∈ t, x < 256) :
    ∃ b h', s38 [v] h = .ret (.ptr b 0) h' ∧ Cur h' h.nb b t 0 false ∧ To No h h' ∧ Wf h' ∧ h'.nb = b + 1 := by
  obtain ⟨v', h1, e1, s1, o1, w1⟩ := t66 hs hw ht
  have hone := one_sl s1
  have hbl : ∀ k : AV → Res, bld [(false, 1, v'), (false, 1, .int 63 (.ofNat 0)), (false, 1, .bool false)] k = k (avL [v', .int 63 0, .bool false]) := fun k => by
    have : bld [(false, 1, v'), (false, 1, .int 63 (.ofNat 0)), (false, 1, .bool false)] k = ifB (one v') (k (avL [v', .int 63 0, .bool false])) .fail := rfl
    rw [this, hone]; rfl
  obtain ⟨tr, t1, t2⟩ := lay_list [v', .int 63 0, .bool false] .e 0 (by
    intro x hx
    rcases List.mem_cons.1 hx with rfl | hx
    · exact hone
    · rcases List.mem_cons.1 hx with rfl | hx
      · rfl
      · rcases List.mem_cons.1 hx with rfl | hx
        · rfl
        · cases hx)
  have hm : ∀ k : AV → Hp → Res, mk h1 (avL [v', .int 63 0, .bool false]) k = k (.ptr h1.nb 0) (nw h1 3 .nil tr) := fun k => by
    have : mk h1 (avL [v', .int 63 0, .bool false]) k = lay (avL [v', .int 63 0, .bool false]) .e 0 fun t n => k (.ptr h1.nb 0) (nw h1 n .nil t) := rfl
    rw [this, t1]; rfl
  obtain ⟨q1, q2⟩ := nw_own w1 3 .nil tr
  have hat : ∀ i (hi : i < 3), (⟨true, h1.nb, 3, .nil, tr⟩ : Blk).at i = [v', .int 63 0, .bool false][i] := fun i hi => by
    rw [at_in _ (show i < 3 from hi)]
    simp only [t2 i]
    rw [dif_pos ⟨by omega, by simpa using hi⟩]
    simp
  refine ⟨h1.nb, nw h1 3 .nil tr, ?_, ⟨⟨_, v', q1, rfl, hat 0 (by decide), hat 1 (by decide), hat 2 (by decide), s1.to q2 (fun _ _ f => f)⟩, Nat.zero_le _, ht, o1.nb, hb⟩, o1.trans q2, q2.wf w1, rfl⟩
  have e0 : s38 [v] h = cl (s66 [v] h) fun v2 h3 => bld [(false, 1, v2), (false, 1, (.int 63 (.ofNat 0))), (false, 1, (.bool false))] fun l4 => mk h3 (cells (.agg l4)) fun v5 h6 => cK v5 fun v7 => .ret v7 h6 := rfl
  rw [e0, e1, cl_r, hbl]
  show (mk h1 (avL [v', .int 63 0, .bool false]) fun v5 h6 => cK v5 fun v7 => .ret v7 h6) = _
  rw [hm]; rfl
end Go.Proofs.YtnpfppddongbhaaDoor.C
end

section
namespace Go.Proofs.YtnpfppddongbhaaDoor.C
open Go Go.AM
set_option autoImplicit false
section
variable {h : Hp} {lo b at_ : Nat} {t : List Nat} {bad : Bool}
theorem Cur.open (hc : Cur h lo b t at_ bad) : ∃ v, Sl h (fun x => lo ≤ x ∧ x < b) v (Bs t) ∧ (∀ k, ld1 h (.ptr b (Nat.add 0 0)) k = k v) ∧ (∀ k, ld1 h (.ptr b (Nat.add 0 1)) k = k (.int 63 (at_ : Int))) ∧ (∀ k, ld1 h (.ptr b (Nat.add 0 2)) k = k (.bool bad)) := by
  obtain ⟨B, v, o, h1, h2, h3, h4, h5⟩ := hc.own
  exact ⟨v, h5, fun k => (ld1_rd o.rd h2 k).trans (cK_sl h5 k), fun k => (ld1_rd o.rd h3 k).trans (cK_i _ _ _), fun k => (ld1_rd o.rd h4 k).trans (cK_b _ _)⟩
theorem Cur.move (hc : Cur h lo b t at_ bad) (m : Nat) (hm : m ≤ t.length) : ∃ h', (∀ k, st1 h (.ptr b (Nat.add 0 1)) (.int 63 (m : Int)) k = k h') ∧ Cur h' lo b t m bad ∧ To (At b) h h' := by
  obtain ⟨B, v, o, h1, h2, h3, h4, h5⟩ := hc.own
  obtain ⟨h', e1, e2, e3, -⟩ := st1_own (o := 1) (v := .int 63 (m : Int)) o (by omega) rfl
  refine ⟨h', e1, ⟨⟨_, v, e2, h1, ?_, ?_, ?_, h5.to e3 (fun x hx e => by have : x = b := e; omega)⟩, hm, hc.len, hc.lo, hc.byt⟩, e3⟩
  · rw [setC_at (by omega), if_neg (by decide)]; exact h2
  · rw [setC_at (by omega), if_pos rfl]
  · rw [setC_at (by omega), if_neg (by decide)]; exact h4
theorem Cur.fall (hc : Cur h lo b t at_ bad) : ∃ h', (∀ k, st1 h (.ptr b (Nat.add 0 2)) (.bool true) k = k h') ∧ Cur h' lo b t at_ true ∧ To (At b) h h' := by
  obtain ⟨B, v, o, h1, h2, h3, h4, h5⟩ := hc.own
  obtain ⟨h', e1, e2, e3, -⟩ := st1_own (o := 2) (v := .bool true) o (by omega) rfl
  refine ⟨h', e1, ⟨⟨_, v, e2, h1, ?_, ?_, ?_, h5.to e3 (fun x hx e => by have : x = b := e; omega)⟩, hc.le, hc.len, hc.lo, hc.byt⟩, e3⟩
  · rw [setC_at (by omega), if_neg (by decide)]; exact h2
  · rw [setC_at (by omega), if_neg (by decide)]; exact h3
  · rw [setC_at (by omega), if_pos rfl]
theorem t109_no (hc : Cur h lo b t at_ bad) (hw : Wf h) (n : Int) (hn : bad = true ∨ n < 0 ∨ (t.length : Int) - at_ < n) :
    ∃ h', s109 [.ptr b 0, .int 63 n] h = .ret .nils h' ∧ Cur h' lo b t at_ true ∧ To (At b) h h' ∧ Wf h' := by
  obtain ⟨v, hs, e0, e1, e2⟩ := hc.open
  obtain ⟨h', e3, c', o'⟩ := hc.fall
  refine ⟨h', ?_, c', o', o'.wf hw⟩
  have l0 := fun k => lenL_sl hs k
  have w1 : wrapC 63 ((t.length : Int) - (at_ : Int)) = (t.length : Int) - (at_ : Int) := w63_in _ (by have := hc.le; have := hc.len; omega) (by have := hc.len; omega)
  cases bad with
  | true => simp only [↓s109, ↓nck_p, ↓cP_p, ↓eqP_pn, ↓e0, ↓e1, ↓e2, ↓e3, ↓l0, Bs_len, ↓SD, SA, Int.ofNat_eq_natCast, Int.cast_ofNat_Int, Int.reduceBEq, Int.reduceAdd, Int.reduceNeg, Int.reduceNegSucc, Int.reduceLT, Int.reduceLE, Int.reduceMul, Int.reduceTMod, Int.reduceSub, Int.reduceBNe, Bool.not_true, Bool.not_false, decide_true, decide_false, ne_eq, not_false_eq_true, Int.reduceEq, reduceCtorEq]; rfl
  | false =>
    by_cases h1 : n < 0
    · simp only [↓s109, ↓nck_p, ↓cP_p, ↓eqP_pn, ↓e0, ↓e1, ↓e2, ↓e3, ↓l0, Bs_len, h1, ↓SD, SA, Int.ofNat_eq_natCast, Int.cast_ofNat_Int, Int.reduceBEq, Int.reduceAdd, Int.reduceNeg, Int.reduceNegSucc, Int.reduceLT, Int.reduceLE, Int.reduceMul, Int.reduceTMod, Int.reduceSub, Int.reduceBNe, Bool.not_true, Bool.not_false, decide_true, decide_false, ne_eq, not_false_eq_true, Int.reduceEq, reduceCtorEq]; rfl
    · have h2 : (t.length : Int) - at_ < n := by
        rcases hn with hn | hn | hn
        · cases hn
        · exact absurd hn h1
        · exact hn
      simp only [↓s109, ↓nck_p, ↓cP_p, ↓eqP_pn, ↓e0, ↓e1, ↓e2, ↓e3, ↓l0, Bs_len, h1, h2, w1, ↓SD, SA, Int.ofNat_eq_natCast, Int.cast_ofNat_Int, Int.reduceBEq, Int.reduceAdd, Int.reduceNeg, Int.reduceNegSucc, Int.reduceLT, Int.reduceLE, Int.reduceMul, Int.reduceTMod, Int.reduceSub, Int.reduceBNe, Bool.not_true, Bool.not_false, decide_true, decide_false, ne_eq, not_false_eq_true, Int.reduceEq, reduceCtorEq]; rfl
theorem t109_ok (hc : Cur h lo b t at_ false) (hw : Wf h) (n : Nat) (hn : at_ + n ≤ t.length) :
    ∃ v h', s109 [.ptr b 0, .int 63 (n : Int)] h = .ret v h' ∧ Sl h' (fun x => lo ≤ x ∧ x < b) v (Bs ((t.drop at_).take n)) ∧ Cur h' lo b t (at_ + n) false ∧ To (At b) h h' ∧ Wf h' := by
  obtain ⟨v, hs, e0, e1, e2⟩ := hc.open
  obtain ⟨h', e3, c', o'⟩ := hc.move (at_ + n) hn
  obtain ⟨v2, hs2, f0, f1, f2⟩ := c'.open
  have l0 := fun k => lenL_sl hs k
  have hlen := hc.len
  have w1 : wrapC 63 ((t.length : Int) - (at_ : Int)) = (t.length : Int) - (at_ : Int) := w63_in _ (by omega) (by omega)
  have w2 : wrapC 63 ((at_ : Int) + (n : Int)) = ((at_ + n : Nat) : Int) := by rw [w63_in _ (by omega) (by omega)]; omega
  have w3 : wrapC 63 (((at_ + n : Nat) : Int) - (n : Int)) = (at_ : Int) := by rw [w63_in _ (by omega) (by omega)]; omega
  have h1 : ¬ (n : Int) < 0 := by omega
  have h2 : ¬ (t.length : Int) - at_ < (n : Int) := by omega
  obtain ⟨v', g1, g2⟩ := cut_sl hs2 (c1 := 63) (c2 := 63) at_ (at_ + n) (by omega) (by rw [Bs_len]; exact hn)
  have g2' : Sl h' (fun x => lo ≤ x ∧ x < b) v' (Bs ((t.drop at_).take n)) := by
    have e : ((Bs t).drop at_).take (at_ + n - at_) = Bs ((t.drop at_).take n) := by rw [Nat.add_sub_cancel_left]; simp [Bs, List.map_drop, List.map_take]
    rwa [e] at g2
  have cv := fun k => cK_sl g2' k
  exact ⟨v', h', by simp only [↓s109, ↓nck_p, ↓cP_p, ↓eqP_pn, ↓e0, ↓e1, ↓e2, ↓e3, ↓f0, ↓f1, ↓f2, ↓l0, Bs_len, h1, h2, w1, w2, w3, ↓g1, ↓cv, ↓SD, SA, Int.ofNat_eq_natCast, Int.cast_ofNat_Int, Int.reduceBEq, Int.reduceAdd, Int.reduceNeg, Int.reduceNegSucc, Int.reduceLT, Int.reduceLE, Int.reduceMul, Int.reduceTMod, Int.reduceSub, Int.reduceBNe, Bool.not_true, Bool.not_false, decide_true, decide_false, ne_eq, not_false_eq_true, Int.reduceEq, reduceCtorEq], g2', c', o', o'.wf hw⟩
theorem t63 (hc : Cur h lo b t at_ bad) : s63 [.ptr b 0] h = .ret (.bool (!bad)) h := by
  obtain ⟨v, hs, e0, e1, e2⟩ := hc.open
  simp only [↓s63, ↓nck_p, ↓cP_p, ↓eqP_pn, ↓e0, ↓e1, ↓e2, ↓SD, SA, Int.ofNat_eq_natCast, Int.cast_ofNat_Int, Int.reduceBEq, Int.reduceAdd, Int.reduceNeg, Int.reduceNegSucc, Int.reduceLT, Int.reduceLE, Int.reduceMul, Int.reduceTMod, Int.reduceSub, Int.reduceBNe, Bool.not_true, Bool.not_false, decide_true, decide_false, ne_eq, not_false_eq_true, Int.reduceEq, reduceCtorEq]
theorem t61 (hc : Cur h lo b t at_ bad) : s61 [.ptr b 0] h = .ret (.int 63 ((t.length - at_ : Nat) : Int)) h := by
  obtain ⟨v, hs, e0, e1, e2⟩ := hc.open
  have l0 := fun k => lenL_sl hs k
  have hlen := hc.len
  have hle := hc.le
  have w1 : wrapC 63 ((t.length : Int) - (at_ : Int)) = ((t.length - at_ : Nat) : Int) := by rw [w63_in _ (by omega) (by omega)]; omega
  simp only [↓s61, ↓nck_p, ↓cP_p, ↓eqP_pn, ↓e0, ↓e1, ↓e2, ↓l0, Bs_len, w1, ↓SD, SA, Int.ofNat_eq_natCast, Int.cast_ofNat_Int, Int.reduceBEq, Int.reduceAdd, Int.reduceNeg, Int.reduceNegSucc, Int.reduceLT, Int.reduceLE, Int.reduceMul, Int.reduceTMod, Int.reduceSub, Int.reduceBNe, Bool.not_true, Bool.not_false, decide_true, decide_false, ne_eq, not_false_eq_true, Int.reduceEq, reduceCtorEq]
theorem t43 (hc : Cur h lo b t at_ bad) : s43 [.ptr b 0] h = .ret (.int 63 (at_ : Int)) h := by
  obtain ⟨v, hs, e0, e1, e2⟩ := hc.open
  simp only [↓s43, ↓nck_p, ↓cP_p, ↓eqP_pn, ↓e0, ↓e1, ↓e2, ↓SD, SA, Int.ofNat_eq_natCast, Int.cast_ofNat_Int, Int.reduceBEq, Int.reduceAdd, Int.reduceNeg, Int.reduceNegSucc, Int.reduceLT, Int.reduceLE, Int.reduceMul, Int.reduceTMod, Int.reduceSub, Int.reduceBNe, Bool.not_true, Bool.not_false, decide_true, decide_false, ne_eq, not_false_eq_true, Int.reduceEq, reduceCtorEq]
end
end Go.Proofs.YtnpfppddongbhaaDoor.C
end

section
namespace Go.Proofs.YtnpfppddongbhaaDoor.C
open Go Go.AM
set_option autoImplicit false
def okc (t : List Nat) (at_ : Nat) (bad : Bool) (n : Int) : Prop := bad = false ∧ 0 ≤ n ∧ n ≤ (t.length : Int) - at_
instance (t : List Nat) (at_ : Nat) (bad : Bool) (n : Int) : Decidable (okc t at_ bad n) := inferInstanceAs (Decidable (_ ∧ _ ∧ _))
def win (t : List Nat) (at_ : Nat) (bad : Bool) (n : Int) : List Nat := if okc t at_ bad n then (t.drop at_).take n.toNat else []
def nat_ (t : List Nat) (at_ : Nat) (bad : Bool) (n : Int) : Nat := if okc t at_ bad n then at_ + n.toNat else at_
def nbad (t : List Nat) (at_ : Nat) (bad : Bool) (n : Int) : Bool := if okc t at_ bad n then false else true
def be : List Nat → Nat → Nat
  | [], a => a
  | x :: l, a => be l (a * 256 + x)
theorem Sl_nil (h : Hp) (P : Nat → Prop) : Sl h P .nils (Bs []) := ⟨by simp [Bs], .inl ⟨rfl, rfl⟩⟩
theorem win_byt {t : List Nat} (hb : ∀ x ∈ t, x < 256) (at_ : Nat) (bad : Bool) (n : Int) : ∀ x ∈ win t at_ bad n, x < 256 := by
  intro x hx
  unfold win at hx
  split at hx
  · exact hb x (List.mem_of_mem_drop (List.mem_of_mem_take hx))
  · cases hx
theorem win_len (t : List Nat) (at_ : Nat) (bad : Bool) (n : Int) : (win t at_ bad n).length ≤ n.toNat := by
  unfold win
  split
  · simp; omega
  · simp
theorem win_len2 (t : List Nat) (at_ : Nat) (bad : Bool) (n : Int) : (win t at_ bad n).length ≤ t.length := by
  unfold win
  split
  · simp; omega
  · simp
section
variable {h : Hp} {lo b at_ : Nat} {t : List Nat} {bad : Bool}
theorem t109 (hc : Cur h lo b t at_ bad) (hw : Wf h) (n : Int) :
    ∃ v h', s109 [.ptr b 0, .int 63 n] h = .ret v h' ∧ Sl h' (fun x => lo ≤ x ∧ x < b) v (Bs (win t at_ bad n)) ∧ Cur h' lo b t (nat_ t at_ bad n) (nbad t at_ bad n) ∧ To (At b) h h' ∧ Wf h' := by
  by_cases ho : okc t at_ bad n
  · obtain ⟨rfl, h0, h1⟩ := id ho
    obtain ⟨m, rfl⟩ : ∃ m : Nat, n = (m : Int) := ⟨n.toNat, by omega⟩
    have := hc.le
    have r := t109_ok hc hw m (by omega)
    simp only [win, nat_, nbad, if_pos ho, Int.toNat_natCast]
    exact r
  · obtain ⟨h', e1, e2, e3, e4⟩ := t109_no hc hw n (by
      cases bad with
      | true => exact .inl rfl
      | false =>
        refine .inr ?_
        by_cases h0 : n < 0
        · exact .inl h0
        · refine .inr ?_
          have : ¬ (n ≤ (t.length : Int) - at_) := fun h1 => ho ⟨rfl, by omega, h1⟩
          omega)
    simp only [win, nat_, nbad, if_neg ho]
    exact ⟨.nils, h', e1, Sl_nil _ _, e2, e3, e4⟩
theorem sh8 (m : Int) (k : AV → Res) : iShl (.int 63 m) (.int 64 (.ofNat 8)) k = k (.int 63 (wrapC 63 (m * 256))) := iShl_i k 63 m 64 8 (by decide)
theorem c8 (x : Nat) (hx : x < 256) : wrapC 63 (x : Int) = (x : Int) := w63_in _ (by omega) (by omega)
theorem m8 (a : Nat) (ha : a < 1099511627776) : wrapC 63 ((a : Int) * 256) = ((a * 256 : Nat) : Int) := by rw [w63_in _ (by omega) (by omega)]; omega
theorem or8 (a x : Nat) (ha : a < 1099511627776) (hx : x < 256) : wrapC 63 ((Nat.lor (toU 63 ((a * 256 : Nat) : Int)) (toU 63 (x : Int)) : Nat) : Int) = ((a * 256 + x : Nat) : Int) := by
  have e1 : toU 63 ((a * 256 : Nat) : Int) = a * 256 := by have := toU63 ((a * 256 : Nat) : Int); omega
  have e2 : toU 63 (x : Int) = x := by have := toU63 (x : Int); omega
  have e3 : Nat.lor (a * 256) x = a * 256 + x := by
    have := Nat.two_pow_add_eq_or_of_lt (i := 8) (b := x) (by omega) a
    have e : Nat.lor (a * 256) x = (2 ^ 8 * a) ||| x := by rw [Nat.mul_comm]; rfl
    rw [e, ← this]; omega
  rw [e1, e2, e3]
  exact w63_in _ (by omega) (by omega)
theorem ad8 (a x : Nat) (ha : a < 1099511627776) (hx : x < 256) : wrapC 63 (((a * 256 : Nat) : Int) + (x : Int)) = ((a * 256 + x : Nat) : Int) := by rw [w63_in _ (by omega) (by omega)]; omega
theorem s1n (i : Nat) (hi : i < 1000000) : wrapC 63 ((i : Int) + 1) = ((i + 1 : Nat) : Int) := by rw [w63_in _ (by omega) (by omega)]; omega
theorem loop70 {P : Nat → Prop} {v : AV} {l : List Nat} (hs : Sl h P v (Bs l)) (hl : l.length ≤ 4) (hb : ∀ x ∈ l, x < 256) : ∀ (f m i a : Nat), l.length - i ≤ f → f < m → i ≤ l.length → a < 256 ^ i → lp L87n0 m [.int 63 (a : Int), v, .int 63 (l.length : Int), .int 63 (i : Int)] h = .exit 0 [.int 63 (be (l.drop i) a : Int)] h := by
  have stop : ∀ (f m i a : Nat), f < m → ¬ i < l.length → lp L87n0 m [.int 63 (a : Int), v, .int 63 (l.length : Int), .int 63 (i : Int)] h = .exit 0 [.int 63 (be (l.drop i) a : Int)] h := by
    intro f m i a hm hi
    obtain ⟨m, rfl⟩ : ∃ k, m = k + 1 := ⟨m - 1, by omega⟩
    have e1 : ¬ (i : Int) < (l.length : Int) := by omega
    have e : L87n0 [.int 63 (a : Int), v, .int 63 (l.length : Int), .int 63 (i : Int)] h = .exit 0 [.int 63 (a : Int)] h := by simp only [↓L87n0, e1, ↓SD, SA, Int.ofNat_eq_natCast, Int.cast_ofNat_Int, Int.reduceBEq, Int.reduceAdd, Int.reduceNeg, Int.reduceNegSucc, Int.reduceLT, Int.reduceLE, Int.reduceMul, Int.reduceTMod, Int.reduceSub, Int.reduceBNe, Bool.not_true, Bool.not_false, decide_true, decide_false, ne_eq, not_false_eq_true, Int.reduceEq, reduceCtorEq]
    rw [List.drop_eq_nil_of_le (by omega)]
    exact lpx m e
  intro f
  induction f with
  | zero => intro m i a hf hm hi ha; exact stop 0 m i a hm (by omega)
  | succ f ih =>
    intro m i a hf hm hi ha
    by_cases hin : i < l.length
    · obtain ⟨m, rfl⟩ : ∃ k, m = k + 1 := ⟨m - 1, by omega⟩
      have e1 : (i : Int) < (l.length : Int) := by omega
      have hx : l[i] < 256 := hb _ (List.getElem_mem _)
      have g : (Bs l)[i]'(by rw [Bs_len]; exact hin) = .int 8 (l[i] : Int) := by simp [Bs]
      have iv := fun k => ix_sl hs (c := 63) i (by rw [Bs_len]; exact hin) k
      rw [g] at iv
      have ha' : a < 1099511627776 := Nat.lt_of_lt_of_le ha (Nat.le_trans (Nat.pow_le_pow_right (by omega) (show i ≤ 4 by omega)) (by decide))
      have e : L87n0 [.int 63 (a : Int), v, .int 63 (l.length : Int), .int 63 (i : Int)] h = .norm [.int 63 ((a * 256 + l[i] : Nat) : Int), v, .int 63 (l.length : Int), .int 63 ((i + 1 : Nat) : Int)] h := by
        simp only [↓L87n0, e1, ↓iv, ↓sh8, m8 a ha', c8 _ hx, or8 a _ ha' hx, s1n i (by omega), ↓SD, SA, Int.ofNat_eq_natCast, Int.cast_ofNat_Int, Int.reduceBEq, Int.reduceAdd, Int.reduceNeg, Int.reduceNegSucc, Int.reduceLT, Int.reduceLE, Int.reduceMul, Int.reduceTMod, Int.reduceSub, Int.reduceBNe, Bool.not_true, Bool.not_false, decide_true, decide_false, ne_eq, not_false_eq_true, Int.reduceEq, reduceCtorEq]
      rw [lpn m e]
      have := ih m (i + 1) (a * 256 + l[i]) (by omega) (by omega) (by omega) (by rw [Nat.pow_succ]; omega)
      rw [this]
      have hd : l.drop i = l[i] :: l.drop (i + 1) := List.drop_eq_getElem_cons hin
      rw [hd]; rfl
    · exact stop (f + 1) m i a hm hin
theorem t87 (hc : Cur h lo b t at_ bad) (hw : Wf h) (n : Nat) (hn : n ≤ 4) :
    ∃ h', s87 [.ptr b 0, .int 63 (n : Int)] h = .ret (.int 63 (be (win t at_ bad n) 0 : Int)) h' ∧ Cur h' lo b t (nat_ t at_ bad n) (nbad t at_ bad n) ∧ To (At b) h h' ∧ Wf h' := by
  obtain ⟨v, h', e1, s1, c1, o1, w1⟩ := t109 hc hw (n : Int)
  have hl := win_len t at_ bad n
  have lp0 := loop70 s1 (by omega) (win_byt hc.byt _ _ _) (win t at_ bad n).length most 0 0 (by omega) (show _ < 1000000 by omega) (by omega) (by decide)
  have z0 : ((0 : Nat) : Int) = 0 := rfl
  rw [z0] at lp0
  have l0 := fun k => lenL_sl s1 k
  rw [List.drop_zero] at lp0
  exact ⟨h', by simp only [↓s87, ↓e1, ↓l0, Bs_len, lp0, blk_e, ↓SD, SA, Int.ofNat_eq_natCast, Int.cast_ofNat_Int, Int.reduceBEq, Int.reduceAdd, Int.reduceNeg, Int.reduceNegSucc, Int.reduceLT, Int.reduceLE, Int.reduceMul, Int.reduceTMod, Int.reduceSub, Int.reduceBNe, Bool.not_true, Bool.not_false, decide_true, decide_false, ne_eq, not_false_eq_true, Int.reduceEq, reduceCtorEq]; rfl, c1, o1, w1⟩
theorem t88 (hc : Cur h lo b t at_ bad) (hw : Wf h) :
    ∃ h', s88 [.ptr b 0] h = .ret (.int 63 (be (win t at_ bad 1) 0 : Int)) h' ∧ Cur h' lo b t (nat_ t at_ bad 1) (nbad t at_ bad 1) ∧ To (At b) h h' ∧ Wf h' := by
  obtain ⟨h', e, r⟩ := t87 hc hw 1 (by decide)
  have z0 : ((1 : Nat) : Int) = 1 := rfl
  rw [z0] at e r
  exact ⟨h', by simp only [↓s88, e, ↓SD, SA, Int.ofNat_eq_natCast, Int.cast_ofNat_Int, Int.reduceBEq, Int.reduceAdd, Int.reduceNeg, Int.reduceNegSucc, Int.reduceLT, Int.reduceLE, Int.reduceMul, Int.reduceTMod, Int.reduceSub, Int.reduceBNe, Bool.not_true, Bool.not_false, decide_true, decide_false, ne_eq, not_false_eq_true, Int.reduceEq, reduceCtorEq], r⟩
theorem t62 (hc : Cur h lo b t at_ bad) (hw : Wf h) :
    ∃ h', s62 [.ptr b 0] h = .ret (.int 63 (be (win t at_ bad 2) 0 : Int)) h' ∧ Cur h' lo b t (nat_ t at_ bad 2) (nbad t at_ bad 2) ∧ To (At b) h h' ∧ Wf h' := by
  obtain ⟨h', e, r⟩ := t87 hc hw 2 (by decide)
  have z0 : ((2 : Nat) : Int) = 2 := rfl
  rw [z0] at e r
  exact ⟨h', by simp only [↓s62, e, ↓SD, SA, Int.ofNat_eq_natCast, Int.cast_ofNat_Int, Int.reduceBEq, Int.reduceAdd, Int.reduceNeg, Int.reduceNegSucc, Int.reduceLT, Int.reduceLE, Int.reduceMul, Int.reduceTMod, Int.reduceSub, Int.reduceBNe, Bool.not_true, Bool.not_false, decide_true, decide_false, ne_eq, not_false_eq_true, Int.reduceEq, reduceCtorEq], r⟩
theorem t90 (hc : Cur h lo b t at_ bad) (hw : Wf h) :
    ∃ h', s90 [.ptr b 0] h = .ret (.int 63 (be (win t at_ bad 4) 0 : Int)) h' ∧ Cur h' lo b t (nat_ t at_ bad 4) (nbad t at_ bad 4) ∧ To (At b) h h' ∧ Wf h' := by
  obtain ⟨h', e, r⟩ := t87 hc hw 4 (by decide)
  have z0 : ((4 : Nat) : Int) = 4 := rfl
  rw [z0] at e r
  exact ⟨h', by simp only [↓s90, e, ↓SD, SA, Int.ofNat_eq_natCast, Int.cast_ofNat_Int, Int.reduceBEq, Int.reduceAdd, Int.reduceNeg, Int.reduceNegSucc, Int.reduceLT, Int.reduceLE, Int.reduceMul, Int.reduceTMod, Int.reduceSub, Int.reduceBNe, Bool.not_true, Bool.not_false, decide_true, decide_false, ne_eq, not_false_eq_true, Int.reduceEq, reduceCtorEq], r⟩
theorem t89 (hc : Cur h lo b t at_ bad) (hw : Wf h) (n : Int) :
    ∃ v h', s89 [.ptr b 0, .int 63 n] h = .ret v h' ∧ Sl h' (fun x => h.nb ≤ x ∧ x < h'.nb) v (Bs (win t at_ bad n)) ∧ Cur h' lo b t (nat_ t at_ bad n) (nbad t at_ bad n) ∧ To (At b) h h' ∧ Wf h' := by
  obtain ⟨v, h1, e1, s1, c1, o1, w1⟩ := t109 hc hw n
  have hl := win_len2 t at_ bad n
  obtain ⟨v2, h2, e2, s2, o2, w2⟩ := t66 s1 w1 (by have := hc.len; omega)
  have cv := fun k => cK_sl s2 k
  refine ⟨v2, h2, by simp only [↓s89, ↓e1, ↓e2, ↓cv, ↓SD, SA, Int.ofNat_eq_natCast, Int.cast_ofNat_Int, Int.reduceBEq, Int.reduceAdd, Int.reduceNeg, Int.reduceNegSucc, Int.reduceLT, Int.reduceLE, Int.reduceMul, Int.reduceTMod, Int.reduceSub, Int.reduceBNe, Bool.not_true, Bool.not_false, decide_true, decide_false, ne_eq, not_false_eq_true, Int.reduceEq, reduceCtorEq], s2.mono (fun x hx => ⟨Nat.le_trans o1.nb hx.1, hx.2⟩), c1.to o2 (fun _ _ _ f => f), o1.trans (o2.mono fun _ _ f => f.elim), w2⟩
end
end Go.Proofs.YtnpfppddongbhaaDoor.C
end

section
namespace Go.Proofs.YtnpfppddongbhaaDoor.C
open Go Go.AM
set_option autoImplicit false
section
variable {h : Hp} {lo b at_ : Nat} {t : List Nat} {bad : Bool}
theorem loop32 (hc : Cur h lo b t at_ bad) (n : Nat) (hn : n ≤ 4) (ht : at_ + n ≤ t.length) : ∀ (f m i a : Nat), n - i ≤ f → f < m → i ≤ n → a < 256 ^ i →
    lp L68n0 m [.ptr b 0, .int 63 (n : Int), .int 63 (a : Int), .int 63 (i : Int)] h = .exit 0 [.ptr b 0, .int 63 (n : Int), .int 63 (be (((t.drop at_).take n).drop i) a : Int)] h := by
  obtain ⟨v, hs, e0, e1, e2⟩ := hc.open
  have hlen := hc.len
  have hll : ((t.drop at_).take n).length = n := by simp; omega
  have stop : ∀ (f m i a : Nat), f < m → ¬ i < n → lp L68n0 m [.ptr b 0, .int 63 (n : Int), .int 63 (a : Int), .int 63 (i : Int)] h = .exit 0 [.ptr b 0, .int 63 (n : Int), .int 63 (be (((t.drop at_).take n).drop i) a : Int)] h := by
    intro f m i a hm hi
    obtain ⟨m, rfl⟩ : ∃ k, m = k + 1 := ⟨m - 1, by omega⟩
    have e3 : ¬ (i : Int) < (n : Int) := by omega
    have e : L68n0 [.ptr b 0, .int 63 (n : Int), .int 63 (a : Int), .int 63 (i : Int)] h = .exit 0 [.ptr b 0, .int 63 (n : Int), .int 63 (a : Int)] h := by simp only [↓L68n0, e3, ↓SD, SA, Int.ofNat_eq_natCast, Int.cast_ofNat_Int, Int.reduceBEq, Int.reduceAdd, Int.reduceNeg, Int.reduceNegSucc, Int.reduceLT, Int.reduceLE, Int.reduceMul, Int.reduceTMod, Int.reduceSub, Int.reduceBNe, Bool.not_true, Bool.not_false, decide_true, decide_false, ne_eq, not_false_eq_true, Int.reduceEq, reduceCtorEq]
    rw [List.drop_eq_nil_of_le (by omega)]
    exact lpx m e
  intro f
  induction f with
  | zero => intro m i a hf hm hi ha; exact stop 0 m i a hm (by omega)
  | succ f ih =>
    intro m i a hf hm hi ha
    by_cases hin : i < n
    · obtain ⟨m, rfl⟩ : ∃ k, m = k + 1 := ⟨m - 1, by omega⟩
      have e3 : (i : Int) < (n : Int) := by omega
      have hit : at_ + i < t.length := by omega
      have hx : t[at_ + i] < 256 := hc.byt _ (List.getElem_mem _)
      have g : (Bs t)[at_ + i]'(by rw [Bs_len]; exact hit) = .int 8 (t[at_ + i] : Int) := by simp [Bs]
      have iv := fun k => ix_sl hs (c := 63) (at_ + i) (by rw [Bs_len]; exact hit) k
      rw [g] at iv
      have ha' : a < 1099511627776 := Nat.lt_of_lt_of_le ha (Nat.le_trans (Nat.pow_le_pow_right (by omega) (show i ≤ 4 by omega)) (by decide))
      have w1 : wrapC 63 ((at_ : Int) + (i : Int)) = ((at_ + i : Nat) : Int) := by rw [w63_in _ (by omega) (by omega)]; omega
      have e : L68n0 [.ptr b 0, .int 63 (n : Int), .int 63 (a : Int), .int 63 (i : Int)] h = .norm [.ptr b 0, .int 63 (n : Int), .int 63 ((a * 256 + t[at_ + i] : Nat) : Int), .int 63 ((i + 1 : Nat) : Int)] h := by
        simp only [↓L68n0, ↓nck_p, ↓cP_p, ↓e0, ↓e1, ↓e2, e3, w1, ↓iv, ↓sh8, m8 a ha', c8 _ hx, ad8 a _ ha' hx, s1n i (by omega), ↓SD, SA, Int.ofNat_eq_natCast, Int.cast_ofNat_Int, Int.reduceBEq, Int.reduceAdd, Int.reduceNeg, Int.reduceNegSucc, Int.reduceLT, Int.reduceLE, Int.reduceMul, Int.reduceTMod, Int.reduceSub, Int.reduceBNe, Bool.not_true, Bool.not_false, decide_true, decide_false, ne_eq, not_false_eq_true, Int.reduceEq, reduceCtorEq]
      rw [lpn m e]
      have := ih m (i + 1) (a * 256 + t[at_ + i]) (by omega) (by omega) (by omega) (by rw [Nat.pow_succ]; omega)
      rw [this]
      have hd : ((t.drop at_).take n).drop i = t[at_ + i] :: ((t.drop at_).take n).drop (i + 1) := by
        rw [List.drop_eq_getElem_cons (by rw [hll]; exact hin)]
        simp
      rw [hd]; rfl
    · exact stop (f + 1) m i a hm hin
theorem t68 (hc : Cur h lo b t at_ bad) (hw : Wf h) (n : Nat) (hn : n ≤ 4) :
    ∃ h', s68 [.ptr b 0, .int 63 (n : Int)] h = .ret (.int 63 (be (win t at_ bad n) 0 : Int)) h' ∧ Cur h' lo b t (nat_ t at_ bad n) (nbad t at_ bad n) ∧ To (At b) h h' ∧ Wf h' := by
  obtain ⟨v, hs, e0, e1, e2⟩ := hc.open
  have l0 := fun k => lenL_sl hs k
  have hlen := hc.len
  have hle := hc.le
  have w1 : wrapC 63 ((t.length : Int) - (at_ : Int)) = (t.length : Int) - (at_ : Int) := w63_in _ (by omega) (by omega)
  have z0 : ((0 : Nat) : Int) = 0 := rfl
  by_cases ho : okc t at_ bad (n : Int)
  · obtain ⟨rfl, h0, h1⟩ := id ho
    obtain ⟨h', e3, c', o'⟩ := hc.move (at_ + n) (by omega)
    have w2 : wrapC 63 ((at_ : Int) + (n : Int)) = ((at_ + n : Nat) : Int) := by rw [w63_in _ (by omega) (by omega)]; omega
    have h2 : ¬ (t.length : Int) - at_ < (n : Int) := by omega
    have lp0 := loop32 hc n hn (by omega) n most 0 0 (by omega) (show _ < 1000000 by omega) (by omega) (by decide)
    rw [z0, List.drop_zero] at lp0
    simp only [win, nat_, nbad, if_pos ho, Int.toNat_natCast]
    refine ⟨h', ?_, c', o', o'.wf hw⟩
    simp only [↓s68, ↓nck_p, ↓cP_p, ↓eqP_pn, ↓e0, ↓e1, ↓e2, ↓e3, ↓l0, Bs_len, h2, w1, w2, lp0, blk_e, ↓SD, SA, Int.ofNat_eq_natCast, Int.cast_ofNat_Int, Int.reduceBEq, Int.reduceAdd, Int.reduceNeg, Int.reduceNegSucc, Int.reduceLT, Int.reduceLE, Int.reduceMul, Int.reduceTMod, Int.reduceSub, Int.reduceBNe, Bool.not_true, Bool.not_false, decide_true, decide_false, ne_eq, not_false_eq_true, Int.reduceEq, reduceCtorEq]
    simp only [show Nat.beq 0 0 = true from rfl, ↓nck_p, ↓cP_p, ↓e0, ↓e1, ↓e2, ↓e3, w2, ↓SD, SA, Int.ofNat_eq_natCast, Int.cast_ofNat_Int, Int.reduceBEq, Int.reduceAdd, Int.reduceNeg, Int.reduceNegSucc, Int.reduceLT, Int.reduceLE, Int.reduceMul, Int.reduceTMod, Int.reduceSub, Int.reduceBNe, Bool.not_true, Bool.not_false, decide_true, decide_false, ne_eq, not_false_eq_true, Int.reduceEq, reduceCtorEq]
  · obtain ⟨h', e3, c', o'⟩ := hc.fall
    simp only [win, nat_, nbad, if_neg ho]
    refine ⟨h', ?_, c', o', o'.wf hw⟩
    cases bad with
    | true => simp only [↓s68, ↓nck_p, ↓cP_p, ↓eqP_pn, ↓e0, ↓e1, ↓e2, ↓e3, ↓l0, Bs_len, ↓SD, SA, Int.ofNat_eq_natCast, Int.cast_ofNat_Int, Int.reduceBEq, Int.reduceAdd, Int.reduceNeg, Int.reduceNegSucc, Int.reduceLT, Int.reduceLE, Int.reduceMul, Int.reduceTMod, Int.reduceSub, Int.reduceBNe, Bool.not_true, Bool.not_false, decide_true, decide_false, ne_eq, not_false_eq_true, Int.reduceEq, reduceCtorEq]; rfl
    | false =>
      have h2 : (t.length : Int) - at_ < (n : Int) := by
        have : ¬ ((n : Int) ≤ (t.length : Int) - at_) := fun h1 => ho ⟨rfl, by omega, h1⟩
        omega
      simp only [↓s68, ↓nck_p, ↓cP_p, ↓eqP_pn, ↓e0, ↓e1, ↓e2, ↓e3, ↓l0, Bs_len, h2, w1, ↓SD, SA, Int.ofNat_eq_natCast, Int.cast_ofNat_Int, Int.reduceBEq, Int.reduceAdd, Int.reduceNeg, Int.reduceNegSucc, Int.reduceLT, Int.reduceLE, Int.reduceMul, Int.reduceTMod, Int.reduceSub, Int.reduceBNe, Bool.not_true, Bool.not_false, decide_true, decide_false, ne_eq, not_false_eq_true, Int.reduceEq, reduceCtorEq]; rfl
theorem t69 (hc : Cur h lo b t at_ bad) (hw : Wf h) (n : Int) :
    ∃ v h', s69 [.ptr b 0, .int 63 n] h = .ret v h' ∧ Sl h' (fun x => lo ≤ x ∧ x < b) v (Bs (win t at_ bad n)) ∧ Cur h' lo b t (nat_ t at_ bad n) (nbad t at_ bad n) ∧ To (At b) h h' ∧ Wf h' := by
  obtain ⟨v, hs, e0, e1, e2⟩ := hc.open
  have l0 := fun k => lenL_sl hs k
  have hlen := hc.len
  have hle := hc.le
  have w1 : wrapC 63 ((t.length : Int) - (at_ : Int)) = (t.length : Int) - (at_ : Int) := w63_in _ (by omega) (by omega)
  by_cases ho : okc t at_ bad n
  · obtain ⟨rfl, h0, h1⟩ := id ho
    obtain ⟨n, rfl⟩ : ∃ m : Nat, n = (m : Int) := ⟨n.toNat, by omega⟩
    obtain ⟨h', e3, c', o'⟩ := hc.move (at_ + n) (by omega)
    have w2 : wrapC 63 ((at_ : Int) + (n : Int)) = ((at_ + n : Nat) : Int) := by rw [w63_in _ (by omega) (by omega)]; omega
    have h2 : ¬ (t.length : Int) - at_ < (n : Int) := by omega
    have h3 : ¬ (n : Int) < 0 := by omega
    obtain ⟨v', g1, g2⟩ := cut_sl hs (c1 := 63) (c2 := 63) at_ (at_ + n) (by omega) (by rw [Bs_len]; omega)
    have g2' : Sl h (fun x => lo ≤ x ∧ x < b) v' (Bs ((t.drop at_).take n)) := by
      have e : ((Bs t).drop at_).take (at_ + n - at_) = Bs ((t.drop at_).take n) := by rw [Nat.add_sub_cancel_left]; simp [Bs, List.map_drop, List.map_take]
      rwa [e] at g2
    have cv := fun k => cK_sl g2' k
    simp only [win, nat_, nbad, if_pos ho, Int.toNat_natCast]
    refine ⟨v', h', ?_, g2'.to o' (fun x hx e => by have : x = b := e; omega), c', o', o'.wf hw⟩
    simp only [↓s69, ↓nck_p, ↓cP_p, ↓eqP_pn, ↓e0, ↓e1, ↓e2, ↓e3, ↓l0, Bs_len, h2, h3, w1, w2, ↓g1, ↓cv, ↓SD, SA, Int.ofNat_eq_natCast, Int.cast_ofNat_Int, Int.reduceBEq, Int.reduceAdd, Int.reduceNeg, Int.reduceNegSucc, Int.reduceLT, Int.reduceLE, Int.reduceMul, Int.reduceTMod, Int.reduceSub, Int.reduceBNe, Bool.not_true, Bool.not_false, decide_true, decide_false, ne_eq, not_false_eq_true, Int.reduceEq, reduceCtorEq]
  · obtain ⟨h', e3, c', o'⟩ := hc.fall
    simp only [win, nat_, nbad, if_neg ho]
    refine ⟨.nils, h', ?_, Sl_nil _ _, c', o', o'.wf hw⟩
    cases bad with
    | true => simp only [↓s69, ↓nck_p, ↓cP_p, ↓eqP_pn, ↓e0, ↓e1, ↓e2, ↓e3, ↓l0, Bs_len, ↓SD, SA, Int.ofNat_eq_natCast, Int.cast_ofNat_Int, Int.reduceBEq, Int.reduceAdd, Int.reduceNeg, Int.reduceNegSucc, Int.reduceLT, Int.reduceLE, Int.reduceMul, Int.reduceTMod, Int.reduceSub, Int.reduceBNe, Bool.not_true, Bool.not_false, decide_true, decide_false, ne_eq, not_false_eq_true, Int.reduceEq, reduceCtorEq]; rfl
    | false =>
      by_cases h1 : n < 0
      · simp only [↓s69, ↓nck_p, ↓cP_p, ↓eqP_pn, ↓e0, ↓e1, ↓e2, ↓e3, ↓l0, Bs_len, h1, ↓SD, SA, Int.ofNat_eq_natCast, Int.cast_ofNat_Int, Int.reduceBEq, Int.reduceAdd, Int.reduceNeg, Int.reduceNegSucc, Int.reduceLT, Int.reduceLE, Int.reduceMul, Int.reduceTMod, Int.reduceSub, Int.reduceBNe, Bool.not_true, Bool.not_false, decide_true, decide_false, ne_eq, not_false_eq_true, Int.reduceEq, reduceCtorEq]; rfl
      · have h2 : (t.length : Int) - at_ < n := by
          have : ¬ (n ≤ (t.length : Int) - at_) := fun h3 => ho ⟨rfl, by omega, h3⟩
          omega
        simp only [↓s69, ↓nck_p, ↓cP_p, ↓eqP_pn, ↓e0, ↓e1, ↓e2, ↓e3, ↓l0, Bs_len, h1, h2, w1, ↓SD, SA, Int.ofNat_eq_natCast, Int.cast_ofNat_Int, Int.reduceBEq, Int.reduceAdd, Int.reduceNeg, Int.reduceNegSucc, Int.reduceLT, Int.reduceLE, Int.reduceMul, Int.reduceTMod, Int.reduceSub, Int.reduceBNe, Bool.not_true, Bool.not_false, decide_true, decide_false, ne_eq, not_false_eq_true, Int.reduceEq, reduceCtorEq]; rfl
end
theorem cut_lo0 (z : Nat) (x : AV) (hi : Option AV) (k : AV → Res) : cutS z x none hi none k = cutS z x (some (.int 63 ((0 : Nat) : Int))) hi none k := by cases x <;> rfl
theorem t40 {h : Hp} {P : Nat → Prop} {v : AV} {t : List Nat} (hs : Sl h P v (Bs t)) (n : Nat) (ht : t.length ≤ 9223372036854775807) : ∃ v', s40 [v, .int 63 (n : Int)] h = .ret v' h ∧ Sl h P v' (Bs (t.take n)) := by
  have l0 := fun k => lenL_sl hs k
  have cv := fun k => cK_sl hs k
  by_cases hl : n < t.length
  · obtain ⟨v', g1, g2⟩ := cut_sl hs (c1 := 63) (c2 := 63) 0 n (by omega) (by rw [Bs_len]; omega)
    have e : (((Bs t).drop 0).take (n - 0)) = Bs (t.take n) := by simp [Bs, List.map_take]
    rw [e] at g2
    have cv' := fun k => cK_sl g2 k
    have h1 : (n : Int) < (t.length : Int) := by omega
    exact ⟨v', by simp only [↓s40, ↓l0, Bs_len, h1, ↓cut_lo0, ↓g1, ↓cv', ↓SD, SA, Int.ofNat_eq_natCast, Int.cast_ofNat_Int, Int.reduceBEq, Int.reduceAdd, Int.reduceNeg, Int.reduceNegSucc, Int.reduceLT, Int.reduceLE, Int.reduceMul, Int.reduceTMod, Int.reduceSub, Int.reduceBNe, Bool.not_true, Bool.not_false, decide_true, decide_false, ne_eq, not_false_eq_true, Int.reduceEq, reduceCtorEq], g2⟩
  · have h1 : ¬ (n : Int) < (t.length : Int) := by omega
    rw [List.take_of_length_le (by omega)]
    exact ⟨v, by simp only [↓s40, ↓l0, Bs_len, h1, ↓cv, ↓SD, SA, Int.ofNat_eq_natCast, Int.cast_ofNat_Int, Int.reduceBEq, Int.reduceAdd, Int.reduceNeg, Int.reduceNegSucc, Int.reduceLT, Int.reduceLE, Int.reduceMul, Int.reduceTMod, Int.reduceSub, Int.reduceBNe, Bool.not_true, Bool.not_false, decide_true, decide_false, ne_eq, not_false_eq_true, Int.reduceEq, reduceCtorEq], hs⟩
end Go.Proofs.YtnpfppddongbhaaDoor.C
end

section
namespace Go.Proofs.YtnpfppddongbhaaDoor.C
open Go Go.AM
set_option autoImplicit false
def Row (h : Hp) (N : Nat) (v : AV) (t : List Nat) : Prop :=
  (t = [] ∧ Sl h (fun b => N ≤ b ∧ b < h.nb) v (Bs [])) ∨ ∃ b B, v = .sl b 0 t.length 1 none ∧ Own h b B ∧ B.lim = t.length ∧ N ≤ b ∧ ∀ i (hi : i < t.length), B.at i = .int 8 (t[i] : Int)
theorem Row.sl {h : Hp} {N : Nat} {v : AV} {t : List Nat} (hr : Row h N v t) : Sl h (fun b => N ≤ b ∧ b < h.nb) v (Bs t) := by
  rcases hr with ⟨rfl, hr⟩ | ⟨b, B, rfl, o, hl, hN, hat⟩
  · exact hr
  · refine ⟨Bs_one _, .inr (.inr ⟨b, 0, none, B, by rw [Bs_len], ⟨hN, o.lt⟩, o.rd, fun _ => by rw [o.g]; exact ⟨hN, o.lt⟩, (fun c e => by cases e), fun i hi => ?_⟩)⟩
    rw [Bs_len] at hi
    rw [Nat.zero_add, hat i hi]
    simp [Bs]
theorem Row.to {W : Nat → Prop} {h h' : Hp} {N : Nat} {v : AV} {t : List Nat} (hr : Row h N v t) (ht : To W h h') (hd : ∀ b, N ≤ b → b < h.nb → ¬ W b) : Row h' N v t := by
  rcases hr with ⟨rfl, hr⟩ | ⟨b, B, rfl, o, hl, hN, hat⟩
  · exact .inl ⟨rfl, (hr.to ht (fun b hb => hd b hb.1 hb.2)).mono fun b hb => ⟨hb.1, Nat.lt_of_lt_of_le hb.2 ht.nb⟩⟩
  · exact .inr ⟨b, B, rfl, o.to ht (hd b hN o.lt), hl, hN, hat⟩
theorem Row.mono {h : Hp} {N M : Nat} {v : AV} {t : List Nat} (hr : Row h N v t) (hM : M ≤ N) : Row h M v t := by
  rcases hr with ⟨rfl, hr⟩ | ⟨b, B, rfl, o, hl, hN, hat⟩
  · exact .inl ⟨rfl, hr.mono fun b hb => ⟨Nat.le_trans hM hb.1, hb.2⟩⟩
  · exact .inr ⟨b, B, rfl, o, hl, Nat.le_trans hM hN, hat⟩
end Go.Proofs.YtnpfppddongbhaaDoor.C
end

section
namespace Go.Proofs.YtnpfppddongbhaaDoor
open Go Go.AM
set_option autoImplicit false
structure Cn where
  tag : Nat
  tx : List UInt8
  num : Int
  a : Nat
  b : Nat
def cn0 : Cn := ⟨0, [], 0, 0, 0⟩
noncomputable def cnL (t : Cn) : List AV := [.int 63 (t.tag : Int), S t.tx, .int 63 t.num, .int 63 (t.a : Int), .int 63 (t.b : Int)]
noncomputable def cnV (t : Cn) : AV := .agg (avL (cnL t))
theorem cnL_one (t : Cn) : ∀ v ∈ cnL t, one v = true := by
  intro v hv
  simp only [cnL, List.mem_cons, List.not_mem_nil, or_false] at hv
  rcases hv with rfl | rfl | rfl | rfl | rfl <;> rfl
theorem cK_cn (t : Cn) (k : AV → Res) : cK (cnV t) k = k (cnV t) := rfl
def Cel5 (h : Hp) (b : Nat) (t : Cn) : Prop := ∃ B, Own h b B ∧ B.lim = 5 ∧ B.at 0 = .int 63 (t.tag : Int) ∧ B.at 1 = S t.tx ∧ B.at 2 = .int 63 t.num ∧ B.at 3 = .int 63 (t.a : Int) ∧ B.at 4 = .int 63 (t.b : Int)
theorem Cel5.to {h h' : Hp} {b : Nat} {t : Cn} {W : Nat → Prop} (hc : Cel5 h b t) (ht : To W h h') (hw : ¬ W b) : Cel5 h' b t := by
  obtain ⟨B, o, r⟩ := hc
  exact ⟨B, o.to ht hw, r⟩
theorem Cel5.lt {h : Hp} {b : Nat} {t : Cn} (hc : Cel5 h b t) : b < h.nb := by obtain ⟨B, o, r⟩ := hc; exact o.lt
theorem cn_mk {h : Hp} (hw : Wf h) (t : Cn) : ∃ h', (∀ k : AV → Hp → Res, mk h (avL (cnL t)) k = k (.ptr h.nb 0) h') ∧ Cel5 h' h.nb t ∧ To No h h' ∧ Wf h' ∧ h'.nb = h.nb + 1 := by
  obtain ⟨h', B, m1, m2, m3, m4, m5, m6, m7⟩ := mk_own hw (cnL t) (cnL_one t)
  exact ⟨h', m1, ⟨B, m2, m3, m4 0 (by simp [cnL]), m4 1 (by simp [cnL]), m4 2 (by simp [cnL]), m4 3 (by simp [cnL]), m4 4 (by simp [cnL])⟩, m5, m6, m7⟩
theorem cn0_mk {h : Hp} (hw : Wf h) : ∃ h', (∀ k : AV → Hp → Res, mk h (.cons (.int 63 (.ofNat 0)) (.cons (.str 0 0) (.cons (.int 63 (.ofNat 0)) (.cons (.int 63 (.ofNat 0)) (.cons (.int 63 (.ofNat 0)) .nil))))) k = k (.ptr h.nb 0) h') ∧ (∀ k : AV → Hp → Res, mk h (.cons (.int 63 0) (.cons (.str 0 0) (.cons (.int 63 0) (.cons (.int 63 0) (.cons (.int 63 0) .nil))))) k = k (.ptr h.nb 0) h') ∧ Cel5 h' h.nb cn0 ∧ To No h h' ∧ Wf h' ∧ h'.nb = h.nb + 1 := by
  obtain ⟨h', m1, r⟩ := cn_mk hw cn0
  exact ⟨h', fun k => m1 k, fun k => m1 k, r⟩
theorem cn_cells {h : Hp} (hw : Wf h) (t : Cn) : ∃ h', (∀ k : AV → Hp → Res, mk h (cells (cnV t)) k = k (.ptr h.nb 0) h') ∧ Cel5 h' h.nb t ∧ To No h h' ∧ Wf h' ∧ h'.nb = h.nb + 1 := by
  obtain ⟨h', m1, r⟩ := cn_mk hw t
  exact ⟨h', fun k => m1 k, r⟩
theorem Cel5.st {h : Hp} {b : Nat} {t0 : Cn} (hw : Wf h) (hc : Cel5 h b t0) (t : Cn) : ∃ h', (∀ k : Hp → Res, stN h 5 (.ptr b 0) (cnV t) k = k h') ∧ Cel5 h' b t ∧ To (At b) h h' ∧ Wf h' ∧ h'.nb = h.nb := by
  obtain ⟨B, o, hl, -⟩ := hc
  obtain ⟨h', B', s1, s2, s3, s4, s5, s6⟩ := stN_own (o := 0) (l := cnL t) o (by simp [cnL]; omega) (cnL_one t)
  have hat : ∀ i (hi : i < 5), B'.at i = (cnL t)[i]'(by simpa [cnL] using hi) := fun i hi => by
    rw [s4, dif_pos ⟨Nat.zero_le _, by simpa [cnL] using hi⟩]; rfl
  exact ⟨h', s1, ⟨B', s2, by rw [s3, hl], hat 0 (by decide), hat 1 (by decide), hat 2 (by decide), hat 3 (by decide), hat 4 (by decide)⟩, s5, s5.wf hw, s6⟩
theorem Cel5.ld {h : Hp} {b : Nat} {t : Cn} (hc : Cel5 h b t) (k : AV → Res) : ldN h 5 (.ptr b 0) k = k (cnV t) := by
  obtain ⟨B, o, hl, a0, a1, a2, a3, a4⟩ := hc
  refine ldN_rd (l := cnL t) o.rd (fun i hi => ?_) (fun v hv => one_unk (cnL_one t v hv)) k
  rw [Nat.zero_add]
  have hi : i < 5 := hi
  match i, hi with
  | 0, _ => exact a0
  | 1, _ => exact a1
  | 2, _ => exact a2
  | 3, _ => exact a3
  | 4, _ => exact a4
theorem Cel5.l0 {h : Hp} {b : Nat} {t : Cn} (hc : Cel5 h b t) (k : AV → Res) : ld1 h (.ptr b (Nat.add 0 0)) k = k (.int 63 (t.tag : Int)) := by
  obtain ⟨B, o, hl, a0, a1, a2, a3, a4⟩ := hc
  exact ld1_rd o.rd a0 k
theorem Cel5.l1 {h : Hp} {b : Nat} {t : Cn} (hc : Cel5 h b t) (k : AV → Res) : ld1 h (.ptr b (Nat.add 0 1)) k = k (S t.tx) := by
  obtain ⟨B, o, hl, a0, a1, a2, a3, a4⟩ := hc
  exact ld1_rd o.rd a1 k
theorem Cel5.l2 {h : Hp} {b : Nat} {t : Cn} (hc : Cel5 h b t) (k : AV → Res) : ld1 h (.ptr b (Nat.add 0 2)) k = k (.int 63 t.num) := by
  obtain ⟨B, o, hl, a0, a1, a2, a3, a4⟩ := hc
  exact ld1_rd o.rd a2 k
theorem Cel5.l3 {h : Hp} {b : Nat} {t : Cn} (hc : Cel5 h b t) (k : AV → Res) : ld1 h (.ptr b (Nat.add 0 3)) k = k (.int 63 (t.a : Int)) := by
  obtain ⟨B, o, hl, a0, a1, a2, a3, a4⟩ := hc
  exact ld1_rd o.rd a3 k
theorem Cel5.l4 {h : Hp} {b : Nat} {t : Cn} (hc : Cel5 h b t) (k : AV → Res) : ld1 h (.ptr b (Nat.add 0 4)) k = k (.int 63 (t.b : Int)) := by
  obtain ⟨B, o, hl, a0, a1, a2, a3, a4⟩ := hc
  exact ld1_rd o.rd a4 k
theorem Cel5.s1 {h : Hp} {b : Nat} {t : Cn} (hw : Wf h) (hc : Cel5 h b t) (x : List UInt8) : ∃ h', (∀ k : Hp → Res, st1 h (.ptr b (Nat.add 0 1)) (S x) k = k h') ∧ Cel5 h' b { t with tx := x } ∧ To (At b) h h' ∧ Wf h' ∧ h'.nb = h.nb := by
  obtain ⟨B, o, hl, a0, a1, a2, a3, a4⟩ := hc
  obtain ⟨h', s1, s2, s3, s4⟩ := st1_own (o := 1) (v := S x) o (by omega) rfl
  refine ⟨h', s1, ⟨_, s2, hl, ?_, ?_, ?_, ?_, ?_⟩, s3, s3.wf hw, s4⟩ <;> rw [setC_at (by omega)] <;> first | rfl | assumption
theorem Cel5.s2 {h : Hp} {b : Nat} {t : Cn} (hw : Wf h) (hc : Cel5 h b t) (x : Int) : ∃ h', (∀ k : Hp → Res, st1 h (.ptr b (Nat.add 0 2)) (.int 63 x) k = k h') ∧ Cel5 h' b { t with num := x } ∧ To (At b) h h' ∧ Wf h' ∧ h'.nb = h.nb := by
  obtain ⟨B, o, hl, a0, a1, a2, a3, a4⟩ := hc
  obtain ⟨h', s1, s2, s3, s4⟩ := st1_own (o := 2) (v := .int 63 x) o (by omega) rfl
  refine ⟨h', s1, ⟨_, s2, hl, ?_, ?_, ?_, ?_, ?_⟩, s3, s3.wf hw, s4⟩ <;> rw [setC_at (by omega)] <;> first | rfl | assumption
theorem Cel5.s3 {h : Hp} {b : Nat} {t : Cn} (hw : Wf h) (hc : Cel5 h b t) (x : Nat) : ∃ h', (∀ k : Hp → Res, st1 h (.ptr b (Nat.add 0 3)) (.int 63 (x : Int)) k = k h') ∧ Cel5 h' b { t with a := x } ∧ To (At b) h h' ∧ Wf h' ∧ h'.nb = h.nb := by
  obtain ⟨B, o, hl, a0, a1, a2, a3, a4⟩ := hc
  obtain ⟨h', s1, s2, s3, s4⟩ := st1_own (o := 3) (v := .int 63 (x : Int)) o (by omega) rfl
  refine ⟨h', s1, ⟨_, s2, hl, ?_, ?_, ?_, ?_, ?_⟩, s3, s3.wf hw, s4⟩ <;> rw [setC_at (by omega)] <;> first | rfl | assumption
theorem Cel5.s4 {h : Hp} {b : Nat} {t : Cn} (hw : Wf h) (hc : Cel5 h b t) (x : Nat) : ∃ h', (∀ k : Hp → Res, st1 h (.ptr b (Nat.add 0 4)) (.int 63 (x : Int)) k = k h') ∧ Cel5 h' b { t with b := x } ∧ To (At b) h h' ∧ Wf h' ∧ h'.nb = h.nb := by
  obtain ⟨B, o, hl, a0, a1, a2, a3, a4⟩ := hc
  obtain ⟨h', s1, s2, s3, s4⟩ := st1_own (o := 4) (v := .int 63 (x : Int)) o (by omega) rfl
  refine ⟨h', s1, ⟨_, s2, hl, ?_, ?_, ?_, ?_, ?_⟩, s3, s3.wf hw, s4⟩ <;> rw [setC_at (by omega)] <;> first | rfl | assumption
theorem bl5z (k : AV → Res) : bld [(false, 1, (.int 63 (.ofNat 0))), (false, 1, (.str 0 0)), (false, 1, (.int 63 (.ofNat 0))), (false, 1, (.int 63 (.ofNat 0))), (false, 1, (.int 63 (.ofNat 0)))] k = k (avL (cnL cn0)) := rfl
theorem bl5z' (k : AV → Res) : bld [(false, 1, (.int 63 0)), (false, 1, (.str 0 0)), (false, 1, (.int 63 0)), (false, 1, (.int 63 0)), (false, 1, (.int 63 0))] k = k (avL (cnL cn0)) := rfl
theorem bl5t (c : Nat) (k : AV → Res) : bld [(false, 1, (.int 63 (c : Int))), (false, 1, (.str 0 0)), (false, 1, (.int 63 (.ofNat 0))), (false, 1, (.int 63 (.ofNat 0))), (false, 1, (.int 63 (.ofNat 0)))] k = k (avL (cnL ⟨c, [], 0, 0, 0⟩)) := rfl
theorem bl5t' (c : Nat) (k : AV → Res) : bld [(false, 1, (.int 63 (c : Int))), (false, 1, (.str 0 0)), (false, 1, (.int 63 0)), (false, 1, (.int 63 0)), (false, 1, (.int 63 0))] k = k (avL (cnL ⟨c, [], 0, 0, 0⟩)) := rfl
theorem Bs_By (w : List Nat) (hb : ∀ x ∈ w, x < 256) : C.Bs w = By (w.map UInt8.ofNat) := by
  unfold C.Bs By
  rw [List.map_map]
  apply List.map_congr_left
  intro x hx
  simp only [Function.comp]
  rw [UInt8.toNat_ofNat_of_lt' (hb x hx)]
end Go.Proofs.YtnpfppddongbhaaDoor
end

section
namespace Go.Proofs.YtnpfppddongbhaaDoor
open Go Go.AM
set_option autoImplicit false
abbrev Sq := Nat × Bool
def val (t : List Nat) (q : Sq) (n : Int) : Nat := C.be (C.win t q.1 q.2 n) 0
def adv (t : List Nat) (q : Sq) (n : Int) : Sq := (C.nat_ t q.1 q.2 n, C.nbad t q.1 q.2 n)
abbrev CurQ (h : Hp) (lo b : Nat) (t : List Nat) (q : Sq) : Prop := C.Cur h lo b t q.1 q.2
theorem u1 {h : Hp} {lo b : Nat} {t : List Nat} {q : Sq} (hc : CurQ h lo b t q) (hw : Wf h) : ∃ h', s88 [.ptr b 0] h = .ret (.int 63 (val t q 1 : Int)) h' ∧ CurQ h' lo b t (adv t q 1) ∧ To (At b) h h' ∧ Wf h' := C.t88 hc hw
theorem u2 {h : Hp} {lo b : Nat} {t : List Nat} {q : Sq} (hc : CurQ h lo b t q) (hw : Wf h) : ∃ h', s62 [.ptr b 0] h = .ret (.int 63 (val t q 2 : Int)) h' ∧ CurQ h' lo b t (adv t q 2) ∧ To (At b) h h' ∧ Wf h' := C.t62 hc hw
theorem u4 {h : Hp} {lo b : Nat} {t : List Nat} {q : Sq} (hc : CurQ h lo b t q) (hw : Wf h) : ∃ h', s90 [.ptr b 0] h = .ret (.int 63 (val t q 4 : Int)) h' ∧ CurQ h' lo b t (adv t q 4) ∧ To (At b) h h' ∧ Wf h' := C.t90 hc hw
def wtx (t : List Nat) (q : Sq) (n : Int) : List UInt8 := (C.win t q.1 q.2 n).map UInt8.ofNat
theorem ub {h : Hp} {lo b : Nat} {t : List Nat} {q : Sq} (hc : CurQ h lo b t q) (hw : Wf h) (n : Int) :
    ∃ v h', s89 [.ptr b 0, .int 63 n] h = .ret v h' ∧ (∀ k : AV → Res, b2s h' v k = k (S (wtx t q n))) ∧ CurQ h' lo b t (adv t q n) ∧ To (At b) h h' ∧ Wf h' := by
  obtain ⟨v, h', e, s, c, o, w⟩ := C.t89 hc hw n
  have hb := C.win_byt hc.byt q.1 q.2 n
  rw [Bs_By _ hb] at s
  exact ⟨v, h', e, fun k => b2s_S s k, c, o, w⟩
noncomputable def n32 (x : Nat) : Int := wrapC 63 (wrapC 31 (x : Int))
noncomputable def n64 (x y : Nat) : Int := wrapC 63 (Int.ofNat (Nat.lor (toU 63 (wrapC 63 ((x : Int) * Int.ofNat (2 ^ 32)))) (toU 63 (y : Int))))
noncomputable def ent (t : List Nat) (q : Sq) : Cn × Bool × Sq :=
  let g := val t q 1
  let q1 := adv t q 1
  if g = 1 then (⟨1, wtx t (adv t q1 2) (val t q1 2 : Int), 0, 0, 0⟩, true, adv t (adv t q1 2) (val t q1 2 : Int))
  else if g = 3 then (⟨3, [], n32 (val t q1 4), 0, 0⟩, true, adv t q1 4)
  else if g = 5 then (⟨5, [], n64 (val t q1 4) (val t (adv t q1 4) 4), 0, 0⟩, true, adv t (adv t q1 4) 4)
  else if g = 7 ∨ g = 8 then (⟨g, [], 0, val t q1 2, 0⟩, true, adv t q1 2)
  else if g = 9 ∨ g = 10 ∨ g = 11 ∨ g = 12 then (⟨g, [], 0, val t q1 2, val t (adv t q1 2) 2⟩, true, adv t (adv t q1 2) 2)
  else (cn0, false, q1)
noncomputable def entV (e : Cn × Bool × Sq) : AV := .tup (.cons (cnV e.1) (.cons (.bool e.2.1) .nil))
theorem fin5 {h : Hp} {b1 : Nat} {x : Cn} (hw : Wf h) (h1 : Cel5 h b1 x) (t : Cn) : ∃ h4, (∀ k : Hp → Res, stN h 5 (.ptr b1 0) (cnV t) k = k h4) ∧ (∀ k : AV → Res, ldN h4 5 (.ptr b1 0) k = k (cnV t)) ∧ To (At b1) h h4 ∧ Wf h4 := by
  obtain ⟨h4, s1, s2, s3, s4, s5⟩ := h1.st hw t
  exact ⟨h4, s1, fun k => s2.ld k, s3, s4⟩
theorem same_n (c : Nat) (n : Int) (k : Res) : same (.int c n) (.int c n) k = k := by
  have e : same (.int c n) (.int c n) k = ifB (bAnd (Nat.beq c c) (eqI n n)) k .fail := rfl
  have e2 := band_t ((beq_iff c c).2 rfl) (eqI_self n)
  rw [e]
  exact (congrArg (fun b => ifB b k .fail) e2).trans rfl
theorem nbeq (g i : Nat) : (((g : Nat) : Int) == ((i : Nat) : Int)) = decide (g = i) := by
  rw [Bool.eq_iff_iff]
  simp only [beq_iff_eq, decide_eq_true_eq]
  omega
theorem t64 {h : Hp} {lo b : Nat} {t : List Nat} {q : Sq} (hc : CurQ h lo b t q) (hb : b < h.nb) (hw : Wf h) :
    ∃ h', s64 [.ptr b 0] h = .ret (entV (ent t q)) h' ∧ CurQ h' lo b t (ent t q).2.2 ∧ To (At b) h h' ∧ Wf h' := by
  obtain ⟨h1, m1, m1', c1, o1, w1, n1⟩ := cn0_mk hw
  obtain ⟨h2, e2, q2, o2, w2⟩ := u1 (hc.to o1 (fun _ _ _ f => f)) w1
  obtain ⟨h3, m3, m3', c3, o3, w3, n3⟩ := cn0_mk w2
  have nb2 := o2.nb
  obtain ⟨h4, s4, c4, o4, w4, n4⟩ := c3.st w3 ⟨val t q 1, [], 0, 0, 0⟩
  have s4 : ∀ kk : Hp → Res, stN h3 5 (.ptr h2.nb 0) (.agg (avL (cnL ⟨val t q 1, [], 0, 0, 0⟩))) kk = kk h4 := s4
  have l4 : ∀ kk : AV → Res, ld1 h4 (.ptr h2.nb (Nat.add 0 0)) kk = kk (.int 63 (val t q 1 : Int)) := fun kk => c4.l0 kk
  have l4' : ∀ kk : AV → Res, ld1 h4 (.ptr h2.nb 0) kk = kk (.int 63 (val t q 1 : Int)) := l4
  have q4 : CurQ h4 lo b t (adv t q 1) := (q2.to o3 (fun _ _ _ f => f)).to o4 (fun x _ hx e => by have : x = h2.nb := e; omega)
  have c14 : Cel5 h4 h.nb cn0 := ((c1.to o2 (fun e => by have : h.nb = b := e; omega)).to o3 (fun f => f)).to o4 (fun e => by have : h.nb = h2.nb := e; omega)
  have o14 : To (fun x => x = b ∨ h.nb ≤ x) h h4 := (((o1.mono fun _ _ f => f.elim).trans (o2.mono fun x _ e => .inl e)).trans (o3.mono fun _ _ f => f.elim)).trans (o4.mono fun x _ e => by have : x = h2.nb := e; exact .inr (by omega))
  have fin : ∀ {g : Hp}, To (fun x => x = b ∨ h.nb ≤ x) h4 g → To (At b) h g := fun tt => (o14.trans tt).mono fun x hx e => by
    rcases e with e | e
    · exact e
    · omega
  have done : ∀ {g : Hp} (k : Cn) (q' : Sq), Wf g → Cel5 g h2.nb k → CurQ g lo b t q' → To (fun x => x = b ∨ x = h2.nb) h4 g → ∃ h8, (∀ kk : AV → Res, ldN g 5 (.ptr h2.nb 0) kk = kk (cnV k)) ∧ (∀ kk : Hp → Res, stN g 5 (.ptr h.nb 0) (cnV k) kk = kk h8) ∧ (∀ kk : AV → Res, ldN h8 5 (.ptr h.nb 0) kk = kk (cnV k)) ∧ CurQ h8 lo b t q' ∧ To (At b) h h8 ∧ Wf h8 := by
    intro g k q' wg cg qg og
    have cz : Cel5 g h.nb cn0 := c14.to og (fun e => by rcases e with e | e <;> omega)
    obtain ⟨h8, p1, p2, p3, p4⟩ := fin5 wg cz k
    exact ⟨h8, fun kk => cg.ld kk, p1, p2, qg.to p3 (fun x _ hx e => by have : x = h.nb := e; omega), fin ((og.mono fun x _ e => by rcases e with e | e; exact .inl e; exact .inr (by omega)).trans (p3.mono fun x _ e => by have : x = h.nb := e; exact .inr (by omega))), p4⟩
  have hbb : ¬ h2.nb = b := by omega
  have f1 : (((val t q 1 : Nat) : Int) == 1) = decide (val t q 1 = 1) := nbeq _ 1
  have f3 : (((val t q 1 : Nat) : Int) == 3) = decide (val t q 1 = 3) := nbeq _ 3
  have f5 : (((val t q 1 : Nat) : Int) == 5) = decide (val t q 1 = 5) := nbeq _ 5
  have f7 : (((val t q 1 : Nat) : Int) == 7) = decide (val t q 1 = 7) := nbeq _ 7
  have f8 : (((val t q 1 : Nat) : Int) == 8) = decide (val t q 1 = 8) := nbeq _ 8
  have f9 : (((val t q 1 : Nat) : Int) == 9) = decide (val t q 1 = 9) := nbeq _ 9
  have f10 : (((val t q 1 : Nat) : Int) == 10) = decide (val t q 1 = 10) := nbeq _ 10
  have f11 : (((val t q 1 : Nat) : Int) == 11) = decide (val t q 1 = 11) := nbeq _ 11
  have f12 : (((val t q 1 : Nat) : Int) == 12) = decide (val t q 1 = 12) := nbeq _ 12
  by_cases d1 : val t q 1 = 1
  · rw [decide_eq_true d1] at f1
    have hent : ent t q = (⟨1, wtx t (adv t (adv t q 1) 2) (val t (adv t q 1) 2 : Int), 0, 0, 0⟩, true, adv t (adv t (adv t q 1) 2) (val t (adv t q 1) 2 : Int)) := by unfold ent; simp only [d1, if_true]; try rfl
    rw [hent]
    obtain ⟨h5, e5, q5, o5, w5⟩ := u2 q4 w4
    obtain ⟨v, h6, e6, k6, q6, o6, w6⟩ := ub q5 w5 (val t (adv t q 1) 2 : Int)
    obtain ⟨h7, z7, c7, o7, w7, n7⟩ := ((c4.to o5 hbb).to o6 hbb).s1 w6 (wtx t (adv t (adv t q 1) 2) (val t (adv t q 1) 2 : Int))
    have z7' : ∀ kk : Hp → Res, st1 h6 (.ptr h2.nb 1) (S (wtx t (adv t (adv t q 1) 2) (val t (adv t q 1) 2 : Int))) kk = kk h7 := z7
    rw [show ({ (⟨val t q 1, [], 0, 0, 0⟩ : Cn) with tx := wtx t (adv t (adv t q 1) 2) (val t (adv t q 1) 2 : Int) } : Cn) = ⟨1, wtx t (adv t (adv t q 1) 2) (val t (adv t q 1) 2 : Int), 0, 0, 0⟩ by rw [d1]] at c7
    obtain ⟨h8, a1, a2, a3, a4, a5, a6⟩ := done _ _ w7 c7 (q6.to o7 (fun x _ hx e => by have : x = h2.nb := e; omega)) (((o5.mono fun x _ e => .inl e).trans (o6.mono fun x _ e => .inl e)).trans (o7.mono fun x _ e => .inr e))
    exact ⟨h8, by simp only [↓s64, ↓m1, ↓m1', ↓e2, ↓bl5t, ↓bl5t', ↓m3, ↓m3', ↓s4, ↓cP_p, ↓l4, ↓l4', f1, ↓e5, ↓e6, ↓k6, ↓z7, ↓z7', ↓a1, ↓a2, ↓a3, ↓SD, SA, Int.ofNat_eq_natCast, Int.cast_ofNat_Int, Int.reduceBEq, Int.reduceAdd, Int.reduceNeg, Int.reduceNegSucc, Int.reduceLT, Int.reduceLE, Int.reduceMul, Int.reduceTMod, Int.reduceSub, Int.reduceBNe, Bool.not_true, Bool.not_false, decide_true, decide_false, ne_eq, not_false_eq_true, Int.reduceEq, reduceCtorEq]; rfl, a4, a5, a6⟩
  rw [decide_eq_false d1] at f1
  by_cases d3 : val t q 1 = 3
  · rw [decide_eq_true d3] at f3
    have hent : ent t q = (⟨3, [], n32 (val t (adv t q 1) 4), 0, 0⟩, true, adv t (adv t q 1) 4) := by unfold ent; simp only [d3, show ¬ (3 = 1) by decide, if_false, if_true]; try rfl
    rw [hent]
    obtain ⟨h5, e5, q5, o5, w5⟩ := u4 q4 w4
    obtain ⟨h7, z7, c7, o7, w7, n7⟩ := (c4.to o5 hbb).s2 w5 (n32 (val t (adv t q 1) 4))
    have z7 : ∀ kk : Hp → Res, st1 h5 (.ptr h2.nb (Nat.add 0 2)) (.int 63 (wrapC 63 (wrapC 31 (val t (adv t q 1) 4 : Int)))) kk = kk h7 := z7
    have z7' : ∀ kk : Hp → Res, st1 h5 (.ptr h2.nb 2) (.int 63 (wrapC 63 (wrapC 31 (val t (adv t q 1) 4 : Int)))) kk = kk h7 := z7
    rw [show ({ (⟨val t q 1, [], 0, 0, 0⟩ : Cn) with num := n32 (val t (adv t q 1) 4) } : Cn) = ⟨3, [], n32 (val t (adv t q 1) 4), 0, 0⟩ by rw [d3]] at c7
    obtain ⟨h8, a1, a2, a3, a4, a5, a6⟩ := done _ _ w7 c7 (q5.to o7 (fun x _ hx e => by have : x = h2.nb := e; omega)) ((o5.mono fun x _ e => .inl e).trans (o7.mono fun x _ e => .inr e))
    exact ⟨h8, by simp only [↓s64, ↓m1, ↓m1', ↓e2, ↓bl5t, ↓bl5t', ↓m3, ↓m3', ↓s4, ↓cP_p, ↓l4, ↓l4', f1, f3, ↓e5, ↓z7, ↓z7', ↓a1, ↓a2, ↓a3, ↓SD, SA, Int.ofNat_eq_natCast, Int.cast_ofNat_Int, Int.reduceBEq, Int.reduceAdd, Int.reduceNeg, Int.reduceNegSucc, Int.reduceLT, Int.reduceLE, Int.reduceMul, Int.reduceTMod, Int.reduceSub, Int.reduceBNe, Bool.not_true, Bool.not_false, decide_true, decide_false, ne_eq, not_false_eq_true, Int.reduceEq, reduceCtorEq]; rfl, a4, a5, a6⟩
  rw [decide_eq_false d3] at f3
  by_cases d5 : val t q 1 = 5
  · rw [decide_eq_true d5] at f5
    have hent : ent t q = (⟨5, [], n64 (val t (adv t q 1) 4) (val t (adv t (adv t q 1) 4) 4), 0, 0⟩, true, adv t (adv t (adv t q 1) 4) 4) := by unfold ent; simp only [d5, show ¬ (5 = 1) by decide, show ¬ (5 = 3) by decide, if_false, if_true]; try rfl
    rw [hent]
    obtain ⟨h5, e5, q5, o5, w5⟩ := u4 q4 w4
    have sh : ∀ kk : AV → Res, iShl (.int 63 (val t (adv t q 1) 4 : Int)) (.int 64 (.ofNat 32)) kk = kk (.int 63 (wrapC 63 ((val t (adv t q 1) 4 : Int) * Int.ofNat (2 ^ 32)))) := fun kk => iShl_i kk 63 _ 64 32 (by decide)
    have sh' : ∀ kk : AV → Res, iShl (.int 63 (val t (adv t q 1) 4 : Int)) (.int 64 32) kk = kk (.int 63 (wrapC 63 ((val t (adv t q 1) 4 : Int) * Int.ofNat (2 ^ 32)))) := sh
    obtain ⟨h6, z6, c6, o6, w6, n6⟩ := (c4.to o5 hbb).s2 w5 (wrapC 63 ((val t (adv t q 1) 4 : Int) * Int.ofNat (2 ^ 32)))
    generalize hA : wrapC 63 ((val t (adv t q 1) 4 : Int) * Int.ofNat (2 ^ 32)) = A at *
    have z6' : ∀ kk : Hp → Res, st1 h5 (.ptr h2.nb 2) (.int 63 A) kk = kk h6 := z6
    have y6 : ∀ kk : AV → Res, ld1 h6 (.ptr h2.nb (Nat.add 0 2)) kk = kk (.int 63 A) := fun kk => c6.l2 kk
    have y6' : ∀ kk : AV → Res, ld1 h6 (.ptr h2.nb 2) kk = kk (.int 63 A) := y6
    have q6 : CurQ h6 lo b t (adv t (adv t q 1) 4) := q5.to o6 (fun x _ hx e => by have : x = h2.nb := e; omega)
    obtain ⟨h7, e7, q7, o7, w7⟩ := u4 q6 w6
    have c67 := c6.to o7 hbb
    have y7 : ∀ kk : AV → Res, ld1 h7 (.ptr h2.nb (Nat.add 0 2)) kk = kk (.int 63 A) := fun kk => c67.l2 kk
    have y7' : ∀ kk : AV → Res, ld1 h7 (.ptr h2.nb 2) kk = kk (.int 63 A) := y7
    obtain ⟨h8, z8, c8, o8, w8, n8⟩ := c67.s2 w7 (n64 (val t (adv t q 1) 4) (val t (adv t (adv t q 1) 4) 4))
    have z8 : ∀ kk : Hp → Res, st1 h7 (.ptr h2.nb (Nat.add 0 2)) (.int 63 (wrapC 63 (Int.ofNat (Nat.lor (toU 63 A) (toU 63 (val t (adv t (adv t q 1) 4) 4 : Int)))))) kk = kk h8 := by rw [← hA]; exact z8
    have z8' : ∀ kk : Hp → Res, st1 h7 (.ptr h2.nb 2) (.int 63 (wrapC 63 (Int.ofNat (Nat.lor (toU 63 A) (toU 63 (val t (adv t (adv t q 1) 4) 4 : Int)))))) kk = kk h8 := z8
    have z8'' : ∀ kk : Hp → Res, st1 h7 (.ptr h2.nb 2) (.int 63 (wrapC 63 ((Nat.lor (toU 63 A) (toU 63 (val t (adv t (adv t q 1) 4) 4 : Int)) : Nat) : Int))) kk = kk h8 := z8
    have c8 : Cel5 h8 h2.nb ⟨5, [], n64 (val t (adv t q 1) 4) (val t (adv t (adv t q 1) 4) 4), 0, 0⟩ := by rw [← d5]; exact c8
    obtain ⟨h9, a1, a2, a3, a4, a5, a6⟩ := done _ _ w8 c8 (q7.to o8 (fun x _ hx e => by have : x = h2.nb := e; omega)) ((((o5.mono fun x _ e => .inl e).trans (o6.mono fun x _ e => .inr e)).trans (o7.mono fun x _ e => .inl e)).trans (o8.mono fun x _ e => .inr e))
    exact ⟨h9, by simp only [↓s64, ↓m1, ↓m1', ↓e2, ↓bl5t, ↓bl5t', ↓m3, ↓m3', ↓s4, ↓cP_p, ↓l4, ↓l4', f1, f3, f5, ↓e5, ↓sh, ↓sh', ↓z6, ↓z6', ↓y6, ↓y6', ↓e7, ↓y7, ↓y7', ↓same_n, ↓z8, ↓z8', ↓z8'', ↓a1, ↓a2, ↓a3, ↓SD, SA, Int.ofNat_eq_natCast, Int.cast_ofNat_Int, Int.reduceBEq, Int.reduceAdd, Int.reduceNeg, Int.reduceNegSucc, Int.reduceLT, Int.reduceLE, Int.reduceMul, Int.reduceTMod, Int.reduceSub, Int.reduceBNe, Bool.not_true, Bool.not_false, decide_true, decide_false, ne_eq, not_false_eq_true, Int.reduceEq, reduceCtorEq]; rfl, a4, a5, a6⟩
  rw [decide_eq_false d5] at f5
  by_cases d7 : val t q 1 = 7
  · rw [decide_eq_true d7] at f7
    have hent : ent t q = (⟨7, [], 0, val t (adv t q 1) 2, 0⟩, true, adv t (adv t q 1) 2) := by unfold ent; simp only [d7, show ¬ (7 = 1) by decide, show ¬ (7 = 3) by decide, show ¬ (7 = 5) by decide, if_false, true_or, if_true]; try rfl
    rw [hent]
    obtain ⟨h5, e5, q5, o5, w5⟩ := u2 q4 w4
    obtain ⟨h7, z7, c7, o7, w7, n7⟩ := (c4.to o5 hbb).s3 w5 (val t (adv t q 1) 2)
    have z7' : ∀ kk : Hp → Res, st1 h5 (.ptr h2.nb 3) (.int 63 (val t (adv t q 1) 2 : Int)) kk = kk h7 := z7
    have c7 : Cel5 h7 h2.nb ⟨7, [], 0, val t (adv t q 1) 2, 0⟩ := by rw [← d7]; exact c7
    obtain ⟨h8, a1, a2, a3, a4, a5, a6⟩ := done _ _ w7 c7 (q5.to o7 (fun x _ hx e => by have : x = h2.nb := e; omega)) ((o5.mono fun x _ e => .inl e).trans (o7.mono fun x _ e => .inr e))
    exact ⟨h8, by simp only [↓s64, ↓m1, ↓m1', ↓e2, ↓bl5t, ↓bl5t', ↓m3, ↓m3', ↓s4, ↓cP_p, ↓l4, ↓l4', f1, f3, f5, f7, ↓e5, ↓z7, ↓z7', ↓a1, ↓a2, ↓a3, ↓SD, SA, Int.ofNat_eq_natCast, Int.cast_ofNat_Int, Int.reduceBEq, Int.reduceAdd, Int.reduceNeg, Int.reduceNegSucc, Int.reduceLT, Int.reduceLE, Int.reduceMul, Int.reduceTMod, Int.reduceSub, Int.reduceBNe, Bool.not_true, Bool.not_false, decide_true, decide_false, ne_eq, not_false_eq_true, Int.reduceEq, reduceCtorEq]; rfl, a4, a5, a6⟩
  rw [decide_eq_false d7] at f7
  by_cases d8 : val t q 1 = 8
  · rw [decide_eq_true d8] at f8
    have hent : ent t q = (⟨8, [], 0, val t (adv t q 1) 2, 0⟩, true, adv t (adv t q 1) 2) := by unfold ent; simp only [d8, show ¬ (8 = 1) by decide, show ¬ (8 = 3) by decide, show ¬ (8 = 5) by decide, if_false, show ¬ (8 = 7) by decide, or_true, if_true]; try rfl
    rw [hent]
    obtain ⟨h5, e5, q5, o5, w5⟩ := u2 q4 w4
    obtain ⟨h7, z7, c7, o7, w7, n7⟩ := (c4.to o5 hbb).s3 w5 (val t (adv t q 1) 2)
    have z7' : ∀ kk : Hp → Res, st1 h5 (.ptr h2.nb 3) (.int 63 (val t (adv t q 1) 2 : Int)) kk = kk h7 := z7
    have c7 : Cel5 h7 h2.nb ⟨8, [], 0, val t (adv t q 1) 2, 0⟩ := by rw [← d8]; exact c7
    obtain ⟨h8, a1, a2, a3, a4, a5, a6⟩ := done _ _ w7 c7 (q5.to o7 (fun x _ hx e => by have : x = h2.nb := e; omega)) ((o5.mono fun x _ e => .inl e).trans (o7.mono fun x _ e => .inr e))
    exact ⟨h8, by simp only [↓s64, ↓m1, ↓m1', ↓e2, ↓bl5t, ↓bl5t', ↓m3, ↓m3', ↓s4, ↓cP_p, ↓l4, ↓l4', f1, f3, f5, f7, f8, ↓e5, ↓z7, ↓z7', ↓a1, ↓a2, ↓a3, ↓SD, SA, Int.ofNat_eq_natCast, Int.cast_ofNat_Int, Int.reduceBEq, Int.reduceAdd, Int.reduceNeg, Int.reduceNegSucc, Int.reduceLT, Int.reduceLE, Int.reduceMul, Int.reduceTMod, Int.reduceSub, Int.reduceBNe, Bool.not_true, Bool.not_false, decide_true, decide_false, ne_eq, not_false_eq_true, Int.reduceEq, reduceCtorEq]; rfl, a4, a5, a6⟩
  rw [decide_eq_false d8] at f8
  by_cases d9 : val t q 1 = 9
  · rw [decide_eq_true d9] at f9
    have hent : ent t q = (⟨9, [], 0, val t (adv t q 1) 2, val t (adv t (adv t q 1) 2) 2⟩, true, adv t (adv t (adv t q 1) 2) 2) := by unfold ent; simp only [d9, show ¬ (9 = 1) by decide, show ¬ (9 = 3) by decide, show ¬ (9 = 5) by decide, show ¬ (9 = 7) by decide, show ¬ (9 = 8) by decide, if_false, or_self, or_true, true_or, false_or, if_true]; try rfl
    rw [hent]
    obtain ⟨h5, e5, q5, o5, w5⟩ := u2 q4 w4
    obtain ⟨h6, z6, c6, o6, w6, n6⟩ := (c4.to o5 hbb).s3 w5 (val t (adv t q 1) 2)
    have z6' : ∀ kk : Hp → Res, st1 h5 (.ptr h2.nb 3) (.int 63 (val t (adv t q 1) 2 : Int)) kk = kk h6 := z6
    obtain ⟨h7, e7, q7, o7, w7⟩ := u2 (q5.to o6 (fun x _ hx e => by have : x = h2.nb := e; omega)) w6
    obtain ⟨h8, z8, c8, o8, w8, n8⟩ := (c6.to o7 hbb).s4 w7 (val t (adv t (adv t q 1) 2) 2)
    have z8' : ∀ kk : Hp → Res, st1 h7 (.ptr h2.nb 4) (.int 63 (val t (adv t (adv t q 1) 2) 2 : Int)) kk = kk h8 := z8
    have c8 : Cel5 h8 h2.nb ⟨9, [], 0, val t (adv t q 1) 2, val t (adv t (adv t q 1) 2) 2⟩ := by rw [← d9]; exact c8
    obtain ⟨h9, a1, a2, a3, a4, a5, a6⟩ := done _ _ w8 c8 (q7.to o8 (fun x _ hx e => by have : x = h2.nb := e; omega)) ((((o5.mono fun x _ e => .inl e).trans (o6.mono fun x _ e => .inr e)).trans (o7.mono fun x _ e => .inl e)).trans (o8.mono fun x _ e => .inr e))
    exact ⟨h9, by simp only [↓s64, ↓m1, ↓m1', ↓e2, ↓bl5t, ↓bl5t', ↓m3, ↓m3', ↓s4, ↓cP_p, ↓l4, ↓l4', f1, f3, f5, f7, f8, f9, ↓e5, ↓z6, ↓z6', ↓e7, ↓z8, ↓z8', ↓a1, ↓a2, ↓a3, ↓SD, SA, Int.ofNat_eq_natCast, Int.cast_ofNat_Int, Int.reduceBEq, Int.reduceAdd, Int.reduceNeg, Int.reduceNegSucc, Int.reduceLT, Int.reduceLE, Int.reduceMul, Int.reduceTMod, Int.reduceSub, Int.reduceBNe, Bool.not_true, Bool.not_false, decide_true, decide_false, ne_eq, not_false_eq_true, Int.reduceEq, reduceCtorEq]; rfl, a4, a5, a6⟩
  rw [decide_eq_false d9] at f9
  by_cases d10 : val t q 1 = 10
  · rw [decide_eq_true d10] at f10
    have hent : ent t q = (⟨10, [], 0, val t (adv t q 1) 2, val t (adv t (adv t q 1) 2) 2⟩, true, adv t (adv t (adv t q 1) 2) 2) := by unfold ent; simp only [d10, show ¬ (10 = 1) by decide, show ¬ (10 = 3) by decide, show ¬ (10 = 5) by decide, show ¬ (10 = 7) by decide, show ¬ (10 = 8) by decide, show ¬ (10 = 9) by decide, if_false, or_self, or_true, true_or, false_or, if_true]; try rfl
    rw [hent]
    obtain ⟨h5, e5, q5, o5, w5⟩ := u2 q4 w4
    obtain ⟨h6, z6, c6, o6, w6, n6⟩ := (c4.to o5 hbb).s3 w5 (val t (adv t q 1) 2)
    have z6' : ∀ kk : Hp → Res, st1 h5 (.ptr h2.nb 3) (.int 63 (val t (adv t q 1) 2 : Int)) kk = kk h6 := z6
    obtain ⟨h7, e7, q7, o7, w7⟩ := u2 (q5.to o6 (fun x _ hx e => by have : x = h2.nb := e; omega)) w6
    obtain ⟨h8, z8, c8, o8, w8, n8⟩ := (c6.to o7 hbb).s4 w7 (val t (adv t (adv t q 1) 2) 2)
    have z8' : ∀ kk : Hp → Res, st1 h7 (.ptr h2.nb 4) (.int 63 (val t (adv t (adv t q 1) 2) 2 : Int)) kk = kk h8 := z8
    have c8 : Cel5 h8 h2.nb ⟨10, [], 0, val t (adv t q 1) 2, val t (adv t (adv t q 1) 2) 2⟩ := by rw [← d10]; exact c8
    obtain ⟨h9, a1, a2, a3, a4, a5, a6⟩ := done _ _ w8 c8 (q7.to o8 (fun x _ hx e => by have : x = h2.nb := e; omega)) ((((o5.mono fun x _ e => .inl e).trans (o6.mono fun x _ e => .inr e)).trans (o7.mono fun x _ e => .inl e)).trans (o8.mono fun x _ e => .inr e))
    exact ⟨h9, by simp only [↓s64, ↓m1, ↓m1', ↓e2, ↓bl5t, ↓bl5t', ↓m3, ↓m3', ↓s4, ↓cP_p, ↓l4, ↓l4', f1, f3, f5, f7, f8, f9, f10, ↓e5, ↓z6, ↓z6', ↓e7, ↓z8, ↓z8', ↓a1, ↓a2, ↓a3, ↓SD, SA, Int.ofNat_eq_natCast, Int.cast_ofNat_Int, Int.reduceBEq, Int.reduceAdd, Int.reduceNeg, Int.reduceNegSucc, Int.reduceLT, Int.reduceLE, Int.reduceMul, Int.reduceTMod, Int.reduceSub, Int.reduceBNe, Bool.not_true, Bool.not_false, decide_true, decide_false, ne_eq, not_false_eq_true, Int.reduceEq, reduceCtorEq]; rfl, a4, a5, a6⟩
  rw [decide_eq_false d10] at f10
  by_cases d11 : val t q 1 = 11
  · rw [decide_eq_true d11] at f11
    have hent : ent t q = (⟨11, [], 0, val t (adv t q 1) 2, val t (adv t (adv t q 1) 2) 2⟩, true, adv t (adv t (adv t q 1) 2) 2) := by unfold ent; simp only [d11, show ¬ (11 = 1) by decide, show ¬ (11 = 3) by decide, show ¬ (11 = 5) by decide, show ¬ (11 = 7) by decide, show ¬ (11 = 8) by decide, show ¬ (11 = 9) by decide, show ¬ (11 = 10) by decide, if_false, or_self, or_true, true_or, false_or, if_true]; try rfl
    rw [hent]
    obtain ⟨h5, e5, q5, o5, w5⟩ := u2 q4 w4
    obtain ⟨h6, z6, c6, o6, w6, n6⟩ := (c4.to o5 hbb).s3 w5 (val t (adv t q 1) 2)
    have z6' : ∀ kk : Hp → Res, st1 h5 (.ptr h2.nb 3) (.int 63 (val t (adv t q 1) 2 : Int)) kk = kk h6 := z6
    obtain ⟨h7, e7, q7, o7, w7⟩ := u2 (q5.to o6 (fun x _ hx e => by have : x = h2.nb := e; omega)) w6
    obtain ⟨h8, z8, c8, o8, w8, n8⟩ := (c6.to o7 hbb).s4 w7 (val t (adv t (adv t q 1) 2) 2)
    have z8' : ∀ kk : Hp → Res, st1 h7 (.ptr h2.nb 4) (.int 63 (val t (adv t (adv t q 1) 2) 2 : Int)) kk = kk h8 := z8
    have c8 : Cel5 h8 h2.nb ⟨11, [], 0, val t (adv t q 1) 2, val t (adv t (adv t q 1) 2) 2⟩ := by rw [← d11]; exact c8
    obtain ⟨h9, a1, a2, a3, a4, a5, a6⟩ := done _ _ w8 c8 (q7.to o8 (fun x _ hx e => by have : x = h2.nb := e; omega)) ((((o5.mono fun x _ e => .inl e).trans (o6.mono fun x _ e => .inr e)).trans (o7.mono fun x _ e => .inl e)).trans (o8.mono fun x _ e => .inr e))
    exact ⟨h9, by simp only [↓s64, ↓m1, ↓m1', ↓e2, ↓bl5t, ↓bl5t', ↓m3, ↓m3', ↓s4, ↓cP_p, ↓l4, ↓l4', f1, f3, f5, f7, f8, f9, f10, f11, ↓e5, ↓z6, ↓z6', ↓e7, ↓z8, ↓z8', ↓a1, ↓a2, ↓a3, ↓SD, SA, Int.ofNat_eq_natCast, Int.cast_ofNat_Int, Int.reduceBEq, Int.reduceAdd, Int.reduceNeg, Int.reduceNegSucc, Int.reduceLT, Int.reduceLE, Int.reduceMul, Int.reduceTMod, Int.reduceSub, Int.reduceBNe, Bool.not_true, Bool.not_false, decide_true, decide_false, ne_eq, not_false_eq_true, Int.reduceEq, reduceCtorEq]; rfl, a4, a5, a6⟩
  rw [decide_eq_false d11] at f11
  by_cases d12 : val t q 1 = 12
  · rw [decide_eq_true d12] at f12
    have hent : ent t q = (⟨12, [], 0, val t (adv t q 1) 2, val t (adv t (adv t q 1) 2) 2⟩, true, adv t (adv t (adv t q 1) 2) 2) := by unfold ent; simp only [d12, show ¬ (12 = 1) by decide, show ¬ (12 = 3) by decide, show ¬ (12 = 5) by decide, show ¬ (12 = 7) by decide, show ¬ (12 = 8) by decide, show ¬ (12 = 9) by decide, show ¬ (12 = 10) by decide, show ¬ (12 = 11) by decide, if_false, or_self, or_true, true_or, false_or, if_true]; try rfl
    rw [hent]
    obtain ⟨h5, e5, q5, o5, w5⟩ := u2 q4 w4
    obtain ⟨h6, z6, c6, o6, w6, n6⟩ := (c4.to o5 hbb).s3 w5 (val t (adv t q 1) 2)
    have z6' : ∀ kk : Hp → Res, st1 h5 (.ptr h2.nb 3) (.int 63 (val t (adv t q 1) 2 : Int)) kk = kk h6 := z6
    obtain ⟨h7, e7, q7, o7, w7⟩ := u2 (q5.to o6 (fun x _ hx e => by have : x = h2.nb := e; omega)) w6
    obtain ⟨h8, z8, c8, o8, w8, n8⟩ := (c6.to o7 hbb).s4 w7 (val t (adv t (adv t q 1) 2) 2)
    have z8' : ∀ kk : Hp → Res, st1 h7 (.ptr h2.nb 4) (.int 63 (val t (adv t (adv t q 1) 2) 2 : Int)) kk = kk h8 := z8
    have c8 : Cel5 h8 h2.nb ⟨12, [], 0, val t (adv t q 1) 2, val t (adv t (adv t q 1) 2) 2⟩ := by rw [← d12]; exact c8
    obtain ⟨h9, a1, a2, a3, a4, a5, a6⟩ := done _ _ w8 c8 (q7.to o8 (fun x _ hx e => by have : x = h2.nb := e; omega)) ((((o5.mono fun x _ e => .inl e).trans (o6.mono fun x _ e => .inr e)).trans (o7.mono fun x _ e => .inl e)).trans (o8.mono fun x _ e => .inr e))
    exact ⟨h9, by simp only [↓s64, ↓m1, ↓m1', ↓e2, ↓bl5t, ↓bl5t', ↓m3, ↓m3', ↓s4, ↓cP_p, ↓l4, ↓l4', f1, f3, f5, f7, f8, f9, f10, f11, f12, ↓e5, ↓z6, ↓z6', ↓e7, ↓z8, ↓z8', ↓a1, ↓a2, ↓a3, ↓SD, SA, Int.ofNat_eq_natCast, Int.cast_ofNat_Int, Int.reduceBEq, Int.reduceAdd, Int.reduceNeg, Int.reduceNegSucc, Int.reduceLT, Int.reduceLE, Int.reduceMul, Int.reduceTMod, Int.reduceSub, Int.reduceBNe, Bool.not_true, Bool.not_false, decide_true, decide_false, ne_eq, not_false_eq_true, Int.reduceEq, reduceCtorEq]; rfl, a4, a5, a6⟩
  rw [decide_eq_false d12] at f12
  have hent : ent t q = (cn0, false, adv t q 1) := by unfold ent; simp only [d1, d3, d5, d7, d8, d9, d10, d11, d12, if_false, or_self]
  rw [hent]
  obtain ⟨h5, p1, p2, o5, w5⟩ := fin5 w4 c14 cn0
  have p1 : ∀ k : Hp → Res, stN h4 5 (.ptr h.nb 0) (.agg (avL (cnL cn0))) k = k h5 := p1
  exact ⟨h5, by simp only [↓s64, ↓m1, ↓m1', ↓e2, ↓bl5t, ↓bl5t', ↓m3, ↓m3', ↓s4, ↓cP_p, ↓l4, ↓l4', f1, f3, f5, f7, f8, f9, f10, f11, f12, ↓bl5z, ↓bl5z', ↓p1, ↓p2, ↓cK_cn, ↓SD, SA, Int.ofNat_eq_natCast, Int.cast_ofNat_Int, Int.reduceBEq, Int.reduceAdd, Int.reduceNeg, Int.reduceNegSucc, Int.reduceLT, Int.reduceLE, Int.reduceMul, Int.reduceTMod, Int.reduceSub, Int.reduceBNe, Bool.not_true, Bool.not_false, decide_true, decide_false, ne_eq, not_false_eq_true, Int.reduceEq, reduceCtorEq]; rfl, q4.to o5 (fun x _ hx e => by have : x = h.nb := e; omega), fin (o5.mono fun x _ e => by have : x = h.nb := e; exact .inr (by omega)), w5⟩
end Go.Proofs.YtnpfppddongbhaaDoor
end

section
namespace Go.Proofs.YtnpfppddongbhaaDoor
open Go Go.AM
set_option autoImplicit false
noncomputable def flat5 (ts : List Cn) : List AV := ts.flatMap cnL
theorem flat5_len (ts : List Cn) : (flat5 ts).length = ts.length * 5 := by
  induction ts with
  | nil => rfl
  | cons t ts ih =>
    have e : flat5 (t :: ts) = cnL t ++ flat5 ts := by simp [flat5]
    rw [e, List.length_append, ih, List.length_cons]
    have : (cnL t).length = 5 := rfl
    omega
theorem flat5_snoc (ts : List Cn) (t : Cn) : flat5 (ts ++ [t]) = flat5 ts ++ cnL t := by simp [flat5]
theorem flat5_get (ts : List Cn) (i j : Nat) (hi : i < ts.length) (hj : j < 5) : (flat5 ts)[i * 5 + j]'(by rw [flat5_len]; omega) = (cnL ts[i])[j]'(by have : (cnL ts[i]).length = 5 := rfl; omega) := by
  induction ts generalizing i with
  | nil => simp at hi
  | cons t ts ih =>
    have e : flat5 (t :: ts) = cnL t ++ flat5 ts := by simp [flat5]
    have h4 : (cnL t).length = 5 := rfl
    simp only [e]
    cases i with
    | zero => rw [List.getElem_append_left (by omega)]; simp
    | succ i =>
      rw [List.getElem_append_right (by omega)]
      have e2 : (i + 1) * 5 + j - (cnL t).length = i * 5 + j := by omega
      simp only [e2, List.getElem_cons_succ]
      exact ih i (by simpa using hi)
def Pl5 (h : Hp) (P : Nat → Prop) (cap : Nat) (v : AV) (cs : List Cn) : Prop :=
  ∃ b B, v = .sl b 0 cs.length 5 (some cap) ∧ P b ∧ Own h b B ∧ cap * 5 ≤ B.lim ∧ cs.length ≤ cap ∧ ∀ i (hi : i < (flat5 cs).length), B.at i = (flat5 cs)[i]
theorem Pl5.to {h h' : Hp} {P W : Nat → Prop} {cap : Nat} {v : AV} {cs : List Cn} (hp : Pl5 h P cap v cs) (ht : To W h h') (hd : ∀ b, P b → ¬ W b) : Pl5 h' P cap v cs := by
  obtain ⟨b, B, e, h1, h2, r⟩ := hp
  exact ⟨b, B, e, h1, h2.to ht (hd b h1), r⟩
theorem Pl5.len {h : Hp} {P : Nat → Prop} {cap : Nat} {v : AV} {cs : List Cn} (hp : Pl5 h P cap v cs) (k : AV → Res) : lenL v k = k (.int 63 (cs.length : Int)) := by
  obtain ⟨b, B, rfl, -⟩ := hp; rfl
theorem Pl5.cK {h : Hp} {P : Nat → Prop} {cap : Nat} {v : AV} {cs : List Cn} (hp : Pl5 h P cap v cs) (k : AV → Res) : cK v k = k v := by
  obtain ⟨b, B, rfl, -⟩ := hp; rfl
theorem Pl5.pt {h : Hp} {P : Nat → Prop} {cap : Nat} {v : AV} {cs : List Cn} (hp : Pl5 h P cap v cs) (i : Nat) (hi : i < cs.length) :
    ∃ b o, (∀ k : AV → Res, ixA 5 v (.int 63 (i : Int)) k = k (.ptr b o)) ∧ (∀ k : AV → Res, ldN h 5 (.ptr b o) k = k (cnV cs[i])) ∧ (∀ k : AV → Res, ld1 h (.ptr b (Nat.add o 0)) k = k (.int 63 (cs[i].tag : Int))) ∧ (∀ k : AV → Res, ld1 h (.ptr b (Nat.add o 1)) k = k (S cs[i].tx)) ∧ (∀ k : AV → Res, ld1 h (.ptr b (Nat.add o 2)) k = k (.int 63 cs[i].num)) ∧ (∀ k : AV → Res, ld1 h (.ptr b (Nat.add o 3)) k = k (.int 63 (cs[i].a : Int))) ∧ (∀ k : AV → Res, ld1 h (.ptr b (Nat.add o 4)) k = k (.int 63 (cs[i].b : Int))) := by
  obtain ⟨b, B, rfl, h1, h2, h3, h4, h5⟩ := hp
  have key : ∀ j (hj : j < 5), B.at (i * 5 + j) = (cnL cs[i])[j]'(by have : (cnL cs[i]).length = 5 := rfl; omega) := fun j hj => by
    rw [h5 (i * 5 + j) (by rw [flat5_len]; omega), flat5_get cs i j hi hj]
  refine ⟨b, i * 5, fun k => ?_, fun k => ?_, fun k => ?_, fun k => ?_, fun k => ?_, fun k => ?_, fun k => ?_⟩
  · have e : ixA 5 (.sl b 0 cs.length 5 (some cap)) (.int 63 (i : Int)) k = ifB (Nat.blt i cs.length) (ifB (Nat.beq 5 5) (k (.ptr b (Nat.add 0 (Nat.mul i 5)))) .fail) .fail := rfl
    rw [e, (blt_iff _ _).2 hi]
    have e2 : Nat.add 0 (Nat.mul i 5) = i * 5 := by show 0 + i * 5 = i * 5; omega
    show k (.ptr b (Nat.add 0 (Nat.mul i 5))) = _
    rw [e2]
  · exact ldN_rd (l := cnL cs[i]) h2.rd (fun j hj => key j hj) (fun v hv => one_unk (cnL_one _ v hv)) k
  · exact ld1_rd h2.rd (key 0 (by decide)) k
  · exact ld1_rd h2.rd (key 1 (by decide)) k
  · exact ld1_rd h2.rd (key 2 (by decide)) k
  · exact ld1_rd h2.rd (key 3 (by decide)) k
  · exact ld1_rd h2.rd (key 4 (by decide)) k
def tg (cs : List Cn) (i : Int) (t : Nat) : Bool := decide (0 < i) && (match cs[i.toNat]? with | some c => decide (c.tag = t) | none => false)
theorem tg_inv {cs : List Cn} {i : Int} {t : Nat} (h : tg cs i t = true) : ∃ n : Nat, i = (n : Int) ∧ ∃ hn : n < cs.length, cs[n].tag = t := by
  unfold tg at h
  rw [Bool.and_eq_true, decide_eq_true_eq] at h
  obtain ⟨h1, h2⟩ := h
  refine ⟨i.toNat, by omega, ?_⟩
  cases hc : cs[i.toNat]? with
  | none => rw [hc] at h2; cases h2
  | some c =>
    rw [hc] at h2
    obtain ⟨hn, he⟩ := List.getElem?_eq_some_iff.1 hc
    exact ⟨hn, by rw [he]; simpa using h2⟩
theorem t67 {h : Hp} {P : Nat → Prop} {cap : Nat} {v : AV} {cs : List Cn} (hp : Pl5 h P cap v cs) (i : Int) (t : Nat) : s67 [v, .int 63 i, .int 63 (t : Int)] h = .ret (.bool (tg cs i t)) h := by
  have ln := fun k => hp.len k
  have gi : ∀ x : Int, gsel (.bool true) true (.int 63 x) = .int 63 x := fun x => rfl
  have gv : gsel (.bool true) true v = v := rfl
  by_cases c1 : 0 < i
  rotate_left
  · have e : tg cs i t = false := by unfold tg; rw [decide_eq_false c1]; rfl
    rw [e]
    simp only [↓s67, c1, ↓SD, SA, Int.ofNat_eq_natCast, Int.cast_ofNat_Int, Int.reduceBEq, Int.reduceAdd, Int.reduceNeg, Int.reduceNegSucc, Int.reduceLT, Int.reduceLE, Int.reduceMul, Int.reduceTMod, Int.reduceSub, Int.reduceBNe, Bool.not_true, Bool.not_false, decide_true, decide_false, ne_eq, not_false_eq_true, Int.reduceEq, reduceCtorEq]
  obtain ⟨n, rfl⟩ : ∃ n : Nat, i = (n : Int) := ⟨i.toNat, by omega⟩
  by_cases c2 : n < cs.length
  rotate_left
  · have e : tg cs (n : Int) t = false := by unfold tg; rw [Int.toNat_natCast, List.getElem?_eq_none (by omega)]; simp
    have q : ¬ (n : Int) < (cs.length : Int) := by omega
    rw [e]
    simp only [↓s67, c1, ↓gv, ↓gi, ↓ln, q, ↓SD, SA, Int.ofNat_eq_natCast, Int.cast_ofNat_Int, Int.reduceBEq, Int.reduceAdd, Int.reduceNeg, Int.reduceNegSucc, Int.reduceLT, Int.reduceLE, Int.reduceMul, Int.reduceTMod, Int.reduceSub, Int.reduceBNe, Bool.not_true, Bool.not_false, decide_true, decide_false, ne_eq, not_false_eq_true, Int.reduceEq, reduceCtorEq]
  have q : (n : Int) < (cs.length : Int) := by omega
  obtain ⟨b, o, p1, p2, f0, f1, f2, f3, f4⟩ := hp.pt n c2
  have f0' : ∀ k : AV → Res, ld1 h (.ptr b (o + 0)) k = k (.int 63 (cs[n].tag : Int)) := f0
  have f0'' : ∀ k : AV → Res, ld1 h (.ptr b o) k = k (.int 63 (cs[n].tag : Int)) := f0
  have e : tg cs (n : Int) t = decide (cs[n].tag = t) := by unfold tg; rw [Int.toNat_natCast, List.getElem?_eq_getElem c2, decide_eq_true c1]; rfl
  have fe := nbeq cs[n].tag t
  rw [e]
  simp only [↓s67, c1, ↓gv, ↓gi, ↓ln, q, ↓p1, ↓cP_p, ↓f0, ↓f0', ↓f0'', fe, ↓SD, SA, Int.ofNat_eq_natCast, Int.cast_ofNat_Int, Int.reduceBEq, Int.reduceAdd, Int.reduceNeg, Int.reduceNegSucc, Int.reduceLT, Int.reduceLE, Int.reduceMul, Int.reduceTMod, Int.reduceSub, Int.reduceBNe, Bool.not_true, Bool.not_false, decide_true, decide_false, ne_eq, not_false_eq_true, Int.reduceEq, reduceCtorEq]
def txo (cs : List Cn) (i : Int) : Option (List UInt8) := if tg cs i 1 = true then (cs[i.toNat]?).map (·.tx) else none
noncomputable def txV (o : Option (List UInt8)) : AV := .tup (.cons (S (o.getD [])) (.cons (.bool o.isSome) .nil))
theorem t39 {h : Hp} {P : Nat → Prop} {cap : Nat} {v : AV} {cs : List Cn} (hp : Pl5 h P cap v cs) (i : Int) : s39 [v, .int 63 i] h = .ret (txV (txo cs i)) h := by
  have e := t67 hp i 1
  have e : s67 [v, .int 63 i, .int 63 1] h = .ret (.bool (tg cs i 1)) h := e
  unfold txo
  cases ht : tg cs i 1 with
  | false =>
    rw [ht] at e
    simp only [↓s39, ↓e, ↓SD, SA, Int.ofNat_eq_natCast, Int.cast_ofNat_Int, Int.reduceBEq, Int.reduceAdd, Int.reduceNeg, Int.reduceNegSucc, Int.reduceLT, Int.reduceLE, Int.reduceMul, Int.reduceTMod, Int.reduceSub, Int.reduceBNe, Bool.not_true, Bool.not_false, decide_true, decide_false, ne_eq, not_false_eq_true, Int.reduceEq, reduceCtorEq]; rfl
  | true =>
    rw [ht] at e
    obtain ⟨n, rfl, hn, -⟩ := tg_inv ht
    obtain ⟨b, o, p1, p2, f0, f1, f2, f3, f4⟩ := hp.pt n hn
    have f1' : ∀ k : AV → Res, ld1 h (.ptr b (o + 1)) k = k (S cs[n].tx) := f1
    rw [if_pos rfl, Int.toNat_natCast, List.getElem?_eq_getElem hn]
    simp only [↓s39, ↓e, ↓p1, ↓cP_p, ↓f1, ↓f1', ↓cK_S, ↓SD, SA, Int.ofNat_eq_natCast, Int.cast_ofNat_Int, Int.reduceBEq, Int.reduceAdd, Int.reduceNeg, Int.reduceNegSucc, Int.reduceLT, Int.reduceLE, Int.reduceMul, Int.reduceTMod, Int.reduceSub, Int.reduceBNe, Bool.not_true, Bool.not_false, decide_true, decide_false, ne_eq, not_false_eq_true, Int.reduceEq, reduceCtorEq]; rfl
def clo (cs : List Cn) (i : Int) : Option (List UInt8) := if tg cs i 7 = true then (match cs[i.toNat]? with | some c => txo cs (c.a : Int) | none => none) else none
theorem t45 {h : Hp} {P : Nat → Prop} {cap : Nat} {v : AV} {cs : List Cn} (hp : Pl5 h P cap v cs) (i : Int) : s45 [v, .int 63 i] h = .ret (txV (clo cs i)) h := by
  have e := t67 hp i 7
  have e : s67 [v, .int 63 i, .int 63 7] h = .ret (.bool (tg cs i 7)) h := e
  unfold clo
  cases ht : tg cs i 7 with
  | false =>
    rw [ht] at e
    simp only [↓s45, ↓e, ↓SD, SA, Int.ofNat_eq_natCast, Int.cast_ofNat_Int, Int.reduceBEq, Int.reduceAdd, Int.reduceNeg, Int.reduceNegSucc, Int.reduceLT, Int.reduceLE, Int.reduceMul, Int.reduceTMod, Int.reduceSub, Int.reduceBNe, Bool.not_true, Bool.not_false, decide_true, decide_false, ne_eq, not_false_eq_true, Int.reduceEq, reduceCtorEq]; rfl
  | true =>
    rw [ht] at e
    obtain ⟨n, rfl, hn, -⟩ := tg_inv ht
    obtain ⟨b, o, p1, p2, f0, f1, f2, f3, f4⟩ := hp.pt n hn
    have f3' : ∀ k : AV → Res, ld1 h (.ptr b (o + 3)) k = k (.int 63 (cs[n].a : Int)) := f3
    have e2 := t39 hp (cs[n].a : Int)
    rw [if_pos rfl, Int.toNat_natCast, List.getElem?_eq_getElem hn]
    show s45 [v, .int 63 (n : Int)] h = .ret (txV (txo cs (cs[n].a : Int))) h
    generalize txo cs (cs[n].a : Int) = r at e2
    have e2 : s39 [v, .int 63 (cs[n].a : Int)] h = .ret (.tup (.cons (S (r.getD [])) (.cons (.bool r.isSome) .nil))) h := e2
    simp only [↓s45, ↓e, ↓p1, ↓cP_p, ↓f3, ↓f3', ↓e2, nth_z, nth_1, ↓cK_S, ↓SD, SA, Int.ofNat_eq_natCast, Int.cast_ofNat_Int, Int.reduceBEq, Int.reduceAdd, Int.reduceNeg, Int.reduceNegSucc, Int.reduceLT, Int.reduceLE, Int.reduceMul, Int.reduceTMod, Int.reduceSub, Int.reduceBNe, Bool.not_true, Bool.not_false, decide_true, decide_false, ne_eq, not_false_eq_true, Int.reduceEq, reduceCtorEq]; rfl
end Go.Proofs.YtnpfppddongbhaaDoor
end

section
namespace Go.Proofs.YtnpfppddongbhaaDoor
open Go Go.AM
set_option autoImplicit false
theorem mkM_pl {h : Hp} (hw : Wf h) (l c by_ : Nat) (hl : l ≤ c) (hc : c ≤ 1000) (hby : by_ ≤ 100) :
    ∃ h', (∀ k : AV → Hp → Res, mkM h (.cons (.int 63 (.ofNat 0)) (.cons (.str 0 0) (.cons (.int 63 (.ofNat 0)) (.cons (.int 63 (.ofNat 0)) (.cons (.int 63 (.ofNat 0)) .nil))))) by_ (.int 63 (l : Int)) (.int 63 (c : Int)) k = k (.sl h.nb 0 l 5 (some c)) h') ∧
      Pl5 h' (At h.nb) c (.sl h.nb 0 l 5 (some c)) (List.replicate l cn0) ∧ To No h h' ∧ Wf h' ∧ h'.nb = h.nb + 1 := by
  obtain ⟨o1, o2⟩ := nw_own hw (c * 5) (avL (cnL cn0)) .e
  have hmul : by_ * c ≤ 140737488355328 := Nat.le_trans (Nat.mul_le_mul hby hc) (by decide)
  refine ⟨nw h (c * 5) (avL (cnL cn0)) .e, fun k => ?_, ⟨h.nb, _, by rw [List.length_replicate], rfl, o1, Nat.le_refl _, by rw [List.length_replicate]; exact hl, fun i hi => ?_⟩, o2, o2.wf hw, rfl⟩
  · have e : mkM h (.cons (.int 63 (.ofNat 0)) (.cons (.str 0 0) (.cons (.int 63 (.ofNat 0)) (.cons (.int 63 (.ofNat 0)) (.cons (.int 63 (.ofNat 0)) .nil))))) by_ (.int 63 (l : Int)) (.int 63 (c : Int)) k = ifB (Nat.ble l c) (ifB (Nat.ble (Nat.mul by_ c) 140737488355328) (ifB (Nat.ble c 9223372036854775807) (k (.sl h.nb 0 l 5 (some c)) (nw h (Nat.mul c 5) (avL (cnL cn0)) .e)) .fail) .fail) .fail := rfl
    rw [e, (ble_iff _ _).2 hl, (ble_iff _ _).2 (show Nat.mul by_ c ≤ _ from hmul), (ble_iff _ _).2 (show c ≤ 9223372036854775807 by omega)]; rfl
  · have hlen := flat5_len (List.replicate l cn0)
    rw [List.length_replicate] at hlen
    rw [hlen] at hi
    rw [at_in _ (show i < c * 5 by omega)]
    show nth (avL (cnL cn0)) (i % len (avL (cnL cn0))) = _
    have e5 : len (avL (cnL cn0)) = 5 := rfl
    rw [e5]
    have hi5 : i / 5 < l := by omega
    have hg := flat5_get (List.replicate l cn0) (i / 5) (i % 5) (by rw [List.length_replicate]; exact hi5) (Nat.mod_lt _ (by decide))
    have ei : i / 5 * 5 + i % 5 = i := by omega
    simp only [ei, List.getElem_replicate] at hg
    rw [hg]
    have key : ∀ (j : Nat) (hj : j < 5), nth (avL (cnL cn0)) j = (cnL cn0)[j]'hj := fun j hj => by
      match j, hj with
      | 0, _ => rfl
      | 1, _ => rfl
      | 2, _ => rfl
      | 3, _ => rfl
      | 4, _ => rfl
    exact key _ (Nat.mod_lt _ (by decide))
theorem bldC (t : Cn) (k : AV → Res) : bld [(true, 5, cnV t)] k = k (avL (cnL t)) := rfl
theorem bldC' (t : Cn) (k : AV → Res) : bld [(true, 5, .agg (avL (cnL t)))] k = k (avL (cnL t)) := rfl
theorem apd_cn {h : Hp} {P : Nat → Prop} {cap : Nat} {v : AV} {cs : List Cn} (hw : Wf h) (hp : Pl5 h P cap v cs) (hn : cs.length < cap) (hcap : cap ≤ 1000) (t : Cn) :
    ∃ v' h1 h', (∀ k : AV → Hp → Res, mkS h 5 1 (avL (cnL t)) k = k (.sl h.nb 0 1 5 (some 1)) h1) ∧ (∀ k : AV → Hp → Res, apd h1 5 48 v (.sl h.nb 0 1 5 (some 1)) k = k v' h') ∧ Pl5 h' P cap v' (cs ++ [t]) ∧ To P h h' ∧ Wf h' := by
  obtain ⟨t0, l1, l2⟩ := lay_list (cnL t) .e 0 (cnL_one t)
  obtain ⟨o1, o2⟩ := nw_own hw (0 + 5) .nil t0
  have w1 : Wf (nw h (0 + 5) .nil t0) := o2.wf hw
  have m1 : ∀ k : AV → Hp → Res, mkS h 5 1 (avL (cnL t)) k = k (.sl h.nb 0 1 5 (some 1)) (nw h (0 + 5) .nil t0) := fun k => by
    have e : mkS h 5 1 (avL (cnL t)) k = lay (avL (cnL t)) .e 0 fun t m => ifB (Nat.beq m (Nat.mul 1 5)) (k (.sl h.nb 0 1 5 (some 1)) (nw h m .nil t)) .fail := rfl
    rw [e, l1]; rfl
  have hat0 : ∀ i (hi : i < (cnL t).length), (⟨true, h.nb, 0 + 5, .nil, t0⟩ : Blk).at (0 + i) = (cnL t)[i] := by
    intro i hi
    have hi4 : i < 5 := hi
    rw [at_in _ (show 0 + i < 0 + 5 by omega)]
    simp only [l2 (0 + i)]
    rw [dif_pos ⟨by omega, by omega⟩]
    simp
  have hp1 : Pl5 (nw h (0 + 5) .nil t0) P cap v cs := hp.to o2 (fun _ _ f => f)
  generalize hh1 : nw h (0 + 5) .nil t0 = h1 at *
  have src1 : ∀ k : Nat → AV → Res, src h1 5 (.sl h.nb 0 1 5 (some 1)) k = k 1 (avL (cnL t)) := fun k => by
    have e : src h1 5 (.sl h.nb 0 1 5 (some 1)) k = gb h1 h.nb fun B => rds B (cnL t).length 0 fun l => k 1 l := rfl
    rw [e, gb_rd o1.rd, rds_list (cnL t) 0 _ hat0 (fun v hv => one_unk (cnL_one _ v hv))]
  obtain ⟨b, B, rfl, g1, g2, g3, g4, g5⟩ := hp1
  have h5 : (cnL t).length = 5 := rfl
  obtain ⟨t', t1, t2⟩ : ∃ t', (∀ k : T AV → Nat → Res, lay (avL (cnL t)) B.cs (cs.length * 5) k = k t' (cs.length * 5 + 5)) ∧ ∀ j, t'.get j = if hh : cs.length * 5 ≤ j ∧ j < cs.length * 5 + 5 then some ((cnL t)[j - cs.length * 5]'(by omega)) else B.cs.get j := lay_list (cnL t) B.cs (cs.length * 5) (cnL_one t)
  have hrun : ∀ k : AV → Hp → Res, apd h1 5 48 (.sl b 0 cs.length 5 (some cap)) (.sl h.nb 0 1 5 (some 1)) k = k (.sl b 0 (cs.length + 1) 5 (some cap)) (putB h1 b B t' h1.gs) := fun k => by
    unfold apd
    rw [src1]
    show ifB (Nat.beq 5 5) (ifB (Nat.beq 1 0) _ (ifB (Nat.ble (Nat.mul (Nat.add cs.length 1) 48) 140737488355328) (ifB (Nat.ble (Nat.add cs.length 1) 9223372036854775807)
      (ifB (Nat.ble (Nat.add cs.length 1) cap)
        (wb h1 b fun B gs => ifB (Nat.ble (Nat.add 0 (Nat.mul (Nat.add cs.length 1) 5)) B.lim)
          (lay (avL (cnL t)) B.cs (Nat.add 0 (Nat.mul cs.length 5)) fun t e => ifB (Nat.beq e (Nat.add 0 (Nat.mul (Nat.add cs.length 1) 5))) (k (.sl b 0 (Nat.add cs.length 1) 5 (some cap)) (putB h1 b B t gs)) .fail) .fail) _) .fail) .fail)) .fail = _
    have e1 : Nat.ble (Nat.mul (Nat.add cs.length 1) 48) 140737488355328 = true := by rw [ble_iff]; show (cs.length + 1) * 48 ≤ _; omega
    have e2 : Nat.ble (Nat.add cs.length 1) 9223372036854775807 = true := by rw [ble_iff]; show cs.length + 1 ≤ _; omega
    have e3 : Nat.ble (Nat.add cs.length 1) cap = true := by rw [ble_iff]; exact hn
    rw [e1, e2, e3]
    show (wb h1 b fun B gs => ifB (Nat.ble (Nat.add 0 (Nat.mul (Nat.add cs.length 1) 5)) B.lim)
          (lay (avL (cnL t)) B.cs (Nat.add 0 (Nat.mul cs.length 5)) fun t e => ifB (Nat.beq e (Nat.add 0 (Nat.mul (Nat.add cs.length 1) 5))) (k (.sl b 0 (Nat.add cs.length 1) 5 (some cap)) (putB h1 b B t gs)) .fail) .fail) = _
    rw [wb_own g2]
    have e4 : Nat.add 0 (Nat.mul (Nat.add cs.length 1) 5) = cs.length * 5 + 5 := by show 0 + (cs.length + 1) * 5 = _; omega
    have e5 : Nat.add 0 (Nat.mul cs.length 5) = cs.length * 5 := by show 0 + cs.length * 5 = _; omega
    rw [e4, e5, (ble_iff _ _).2 (show cs.length * 5 + 5 ≤ B.lim by omega), ifB_t, t1, (beq_iff _ _).2 rfl, ifB_t]
    try rfl
  have hget : ∀ x, (putB h1 b B t' h1.gs).bs.get x = if x = b then some ⟨B.fr, B.g, B.lim, B.df, t'⟩ else h1.bs.get x := fun x => T.get_set _ _ _ _
  have tt : To P h1 (putB h1 b B t' h1.gs) := ⟨Nat.le_refl _, fun x _ hx => by rw [hget, if_neg (fun e => hx (by rw [e]; exact g1))], fun _ _ _ => rfl, fun hn => hn⟩
  refine ⟨_, h1, _, m1, hrun, ⟨b, ⟨B.fr, B.g, B.lim, B.df, t'⟩, by rw [List.length_append]; rfl, g1, ⟨by rw [hget, if_pos rfl], g2.lt, g2.fr, g2.g, g2.gs⟩, g3, by rw [List.length_append]; exact hn, fun i hi => ?_⟩, (o2.mono fun _ _ f => f.elim).trans tt, tt.wf w1⟩
  simp only [flat5_snoc] at hi ⊢
  have hfl := flat5_len cs
  rw [List.length_append, h5] at hi
  rw [at_in (⟨B.fr, B.g, B.lim, B.df, t'⟩ : Blk) (show i < B.lim by omega)]
  simp only [t2 i]
  by_cases c : cs.length * 5 ≤ i
  · rw [dif_pos ⟨c, by omega⟩, List.getElem_append_right (by omega)]
    simp only [hfl]
  · rw [dif_neg (by omega), List.getElem_append_left (by omega)]
    have := g5 i (by omega)
    rw [at_in B (by omega)] at this
    exact this
end Go.Proofs.YtnpfppddongbhaaDoor
end

section
namespace Go.Proofs.YtnpfppddongbhaaDoor
open Go Go.AM
set_option autoImplicit false
noncomputable def rdl (t : List Nat) (n : Nat) : Nat → Sq → List Cn → Option (List Cn × Sq)
  | 0, _, _ => none
  | f + 1, q, cs => if cs.length < n then
      (if (ent t q).2.1 = true ∧ (ent t q).2.2.2 = false ∧ ¬ ((ent t q).1.tag = 5 ∧ cs.length = n - 1) then
        rdl t n f (ent t q).2.2 (if (ent t q).1.tag = 5 then cs ++ [(ent t q).1] ++ [cn0] else cs ++ [(ent t q).1])
      else none)
    else some (cs, q)
theorem loop37 {lo b pb n : Nat} {t : List Nat} (hpb : b < pb) (hn : n ≤ 1000) : ∀ (f m : Nat) (q : Sq) (cs : List Cn) (v : AV) (h : Hp), n - cs.length < f → f < m → pb < h.nb → Wf h → CurQ h lo b t q → Pl5 h (At pb) n v cs →
    (rdl t n f q cs = none ∧ ∃ h', lp L37n0 m [.ptr b 0, .int 63 (n : Int), v] h = .ret (.tup (.cons .nils (.cons (.bool false) .nil))) h' ∧ To (fun x => x = b ∨ x = pb) h h' ∧ Wf h') ∨
    (∃ p v' h', rdl t n f q cs = some p ∧ lp L37n0 m [.ptr b 0, .int 63 (n : Int), v] h = .exit 0 [v'] h' ∧ Pl5 h' (At pb) n v' p.1 ∧ CurQ h' lo b t p.2 ∧ To (fun x => x = b ∨ x = pb) h h' ∧ Wf h') := by
  intro f
  induction f with
  | zero => intro m q cs v h hf; omega
  | succ f ih =>
    intro m q cs v h hf hm hnb hw hc hp
    obtain ⟨m, rfl⟩ : ∃ k, m = k + 1 := ⟨m - 1, by omega⟩
    have ln := fun k => hp.len k
    by_cases hl : cs.length < n
    rotate_left
    · have qq : ¬ (cs.length : Int) < (n : Int) := by omega
      exact .inr ⟨(cs, q), v, h, by unfold rdl; rw [if_neg hl], lpx m (by simp only [↓L37n0, ↓ln, qq, ↓SD, SA, Int.ofNat_eq_natCast, Int.cast_ofNat_Int, Int.reduceBEq, Int.reduceAdd, Int.reduceNeg, Int.reduceNegSucc, Int.reduceLT, Int.reduceLE, Int.reduceMul, Int.reduceTMod, Int.reduceSub, Int.reduceBNe, Bool.not_true, Bool.not_false, decide_true, decide_false, ne_eq, not_false_eq_true, Int.reduceEq, reduceCtorEq]), hp, hc, To.refl _ _, hw⟩
    have qq : (cs.length : Int) < (n : Int) := by omega
    obtain ⟨h1, e1, q1, o1, w1⟩ := t64 hc (by omega) hw
    obtain ⟨h2, m2, m2', c2, o2, w2, n2⟩ := cn0_mk w1
    have nb1 := o1.nb
    obtain ⟨h3, s3, c3, o3, w3, n3⟩ := c2.st w2 (ent t q).1
    have q3 : CurQ h3 lo b t (ent t q).2.2 := (q1.to o2 (fun _ _ _ f => f)).to o3 (fun x _ hx e => by have : x = h1.nb := e; omega)
    have p3 : Pl5 h3 (At pb) n v cs := ((hp.to o1 (fun x hx e => by have : x = pb := hx; have : x = b := e; omega)).to o2 (fun _ _ f => f)).to o3 (fun x hx e => by have : x = pb := hx; have : x = h1.nb := e; omega)
    have o13 : To (fun x => x = b ∨ x = pb ∨ h.nb ≤ x) h h3 := ((o1.mono fun x _ e => Or.inl e).trans (o2.mono fun _ _ f => f.elim)).trans (o3.mono fun x _ e => by have : x = h1.nb := e; exact .inr (.inr (by omega)))
    have fin : ∀ {g : Hp}, To (fun x => x = b ∨ x = pb ∨ h.nb ≤ x) h3 g → To (fun x => x = b ∨ x = pb) h g := fun tt => (o13.trans tt).mono fun x hx e => by
      rcases e with e | e | e
      · exact .inl e
      · exact .inr e
      · omega
    have e63 := C.t63 q3
    have l0 : ∀ kk : AV → Res, ld1 h3 (.ptr h1.nb (Nat.add 0 0)) kk = kk (.int 63 ((ent t q).1.tag : Int)) := fun kk => c3.l0 kk
    have l0' : ∀ kk : AV → Res, ld1 h3 (.ptr h1.nb 0) kk = kk (.int 63 ((ent t q).1.tag : Int)) := l0
    have f5 : ((((ent t q).1.tag : Nat) : Int) == 5) = decide ((ent t q).1.tag = 5) := nbeq _ 5
    have fn : (((cs.length : Nat) : Int) == ((n - 1 : Nat) : Int)) = decide (cs.length = n - 1) := nbeq _ _
    have i1 : wrapC 63 ((n : Int) - 1) = ((n - 1 : Nat) : Int) := by rw [w63_in _ (by omega) (by omega)]; omega
    have ln3 := fun k => p3.len k
    have gp : gsel (.bool false) false (.ptr b 0) = .ptr b 0 := rfl
    have gv : gsel (.bool true) true v = v := rfl
    have gn : ∀ x : Int, gsel (.bool true) true (.int 63 x) = .int 63 x := fun x => rfl
    have ld3 := fun kk => c3.ld kk
    have hrd : rdl t n (f + 1) q cs = if (ent t q).2.1 = true ∧ (ent t q).2.2.2 = false ∧ ¬ ((ent t q).1.tag = 5 ∧ cs.length = n - 1) then
        rdl t n f (ent t q).2.2 (if (ent t q).1.tag = 5 then cs ++ [(ent t q).1] ++ [cn0] else cs ++ [(ent t q).1]) else none := by
      conv => lhs; unfold rdl
      rw [if_pos hl]
    rw [hrd]
    have e1 : s64 [.ptr b 0] h = .ret (.tup (.cons (cnV (ent t q).1) (.cons (.bool (ent t q).2.1) .nil))) h1 := e1
    generalize ent t q = E at *
    obtain ⟨c, ok, q'⟩ := E
    simp only at *
    cases ok with
    | false =>
      refine .inl ⟨if_neg (fun hh => by cases hh.1), h3, ?_, fin (To.refl _ _), w3⟩
      exact lpr m (by simp only [↓L37n0, ↓ln, qq, ↓e1, nth_z, nth_1, ↓cK_cn, ↓m2, ↓m2', ↓s3, ↓SD, SA, Int.ofNat_eq_natCast, Int.cast_ofNat_Int, Int.reduceBEq, Int.reduceAdd, Int.reduceNeg, Int.reduceNegSucc, Int.reduceLT, Int.reduceLE, Int.reduceMul, Int.reduceTMod, Int.reduceSub, Int.reduceBNe, Bool.not_true, Bool.not_false, decide_true, decide_false, ne_eq, not_false_eq_true, Int.reduceEq, reduceCtorEq]; rfl)
    | true =>
      cases hbad : q'.2 with
      | true =>
        rw [hbad] at e63
        refine .inl ⟨if_neg (fun hh => by cases hh.2.1), h3, ?_, fin (To.refl _ _), w3⟩
        exact lpr m (by simp only [↓L37n0, ↓ln, qq, ↓e1, nth_z, nth_1, ↓cK_cn, ↓m2, ↓m2', ↓s3, ↓gp, ↓e63, Bool.not_true, ↓SD, SA, Int.ofNat_eq_natCast, Int.cast_ofNat_Int, Int.reduceBEq, Int.reduceAdd, Int.reduceNeg, Int.reduceNegSucc, Int.reduceLT, Int.reduceLE, Int.reduceMul, Int.reduceTMod, Int.reduceSub, Int.reduceBNe, Bool.not_true, Bool.not_false, decide_true, decide_false, ne_eq, not_false_eq_true, Int.reduceEq, reduceCtorEq]; rfl)
      | false =>
        rw [hbad] at e63
        obtain ⟨v', h4, h5, p4, p5, g5, o5, w5⟩ := apd_cn w3 p3 hl hn c
        have hne : ¬ h1.nb = pb := by omega
        have c5 : Cel5 h5 h1.nb c := c3.to o5 hne
        have l5 : ∀ kk : AV → Res, ld1 h5 (.ptr h1.nb (Nat.add 0 0)) kk = kk (.int 63 (c.tag : Int)) := fun kk => c5.l0 kk
        have l5' : ∀ kk : AV → Res, ld1 h5 (.ptr h1.nb 0) kk = kk (.int 63 (c.tag : Int)) := l5
        have q5 : CurQ h5 lo b t q' := q3.to o5 (fun x _ hx e => by have : x = pb := e; omega)
        have nb3 := (o13.trans (o5.mono fun x _ e => .inr (.inl e))).nb
        by_cases g : c.tag = 5
        · rw [decide_eq_true g] at f5
          by_cases gl : cs.length = n - 1
          · rw [decide_eq_true gl] at fn
            refine .inl ⟨if_neg (fun hh => hh.2.2 ⟨g, gl⟩), h3, ?_, fin (To.refl _ _), w3⟩
            exact lpr m (by simp only [↓L37n0, ↓ln, qq, ↓e1, nth_z, nth_1, ↓cK_cn, ↓m2, ↓m2', ↓s3, ↓gp, ↓e63, Bool.not_false, Bool.not_true, ↓cP_p, ↓l0, ↓l0', f5, ↓gv, ↓ln3, ↓gn, i1, fn, ↓SD, SA, Int.ofNat_eq_natCast, Int.cast_ofNat_Int, Int.reduceBEq, Int.reduceAdd, Int.reduceNeg, Int.reduceNegSucc, Int.reduceLT, Int.reduceLE, Int.reduceMul, Int.reduceTMod, Int.reduceSub, Int.reduceBNe, Bool.not_true, Bool.not_false, decide_true, decide_false, ne_eq, not_false_eq_true, Int.reduceEq, reduceCtorEq]; rfl)
          · rw [decide_eq_false gl] at fn
            have hlen2 : (cs ++ [c]).length < n := by simp; omega
            obtain ⟨v'', h6, h7, r4, r5, g7, o7, w7⟩ := apd_cn w5 g5 hlen2 hn cn0
            have e : L37n0 [.ptr b 0, .int 63 (n : Int), v] h = .norm [.ptr b 0, .int 63 (n : Int), v''] h7 := by
              simp only [↓L37n0, ↓ln, qq, ↓e1, nth_z, nth_1, ↓cK_cn, ↓m2, ↓m2', ↓s3, ↓gp, ↓e63, Bool.not_false, Bool.not_true, ↓cP_p, ↓l0, ↓l0', f5, ↓gv, ↓ln3, ↓gn, i1, fn, ↓ld3, ↓bldC, ↓p4, ↓p5, ↓l5, ↓l5', ↓bl5z, ↓bl5z', ↓bldC', ↓r4, ↓r5, ↓SD, SA, Int.ofNat_eq_natCast, Int.cast_ofNat_Int, Int.reduceBEq, Int.reduceAdd, Int.reduceNeg, Int.reduceNegSucc, Int.reduceLT, Int.reduceLE, Int.reduceMul, Int.reduceTMod, Int.reduceSub, Int.reduceBNe, Bool.not_true, Bool.not_false, decide_true, decide_false, ne_eq, not_false_eq_true, Int.reduceEq, reduceCtorEq]
            have o37 : To (fun x => x = b ∨ x = pb) h h7 := fin ((o5.mono fun x _ e => .inr (.inl e)).trans (o7.mono fun x _ e => .inr (.inl e)))
            have nb7 := o37.nb
            rw [if_pos ⟨rfl, rfl, fun hh => gl hh.2⟩, if_pos g]
            rcases ih m q' (cs ++ [c] ++ [cn0]) v'' h7 (by simp; omega) (by omega) (by omega) w7 (q5.to o7 (fun x _ hx e => by have : x = pb := e; omega)) g7 with ⟨r1, h8, r2, r3, r6⟩ | ⟨p, v3, h8, r1, r2, r3, r6, r7, r8⟩
            · exact .inl ⟨r1, h8, (lpn m e).trans r2, o37.trans r3, r6⟩
            · exact .inr ⟨p, v3, h8, r1, (lpn m e).trans r2, r3, r6, o37.trans r7, r8⟩
        · rw [decide_eq_false g] at f5
          have e : L37n0 [.ptr b 0, .int 63 (n : Int), v] h = .norm [.ptr b 0, .int 63 (n : Int), v'] h5 := by
            simp only [↓L37n0, ↓ln, qq, ↓e1, nth_z, nth_1, ↓cK_cn, ↓m2, ↓m2', ↓s3, ↓gp, ↓e63, Bool.not_false, Bool.not_true, ↓cP_p, ↓l0, ↓l0', f5, ↓ld3, ↓bldC, ↓p4, ↓p5, ↓l5, ↓l5', ↓SD, SA, Int.ofNat_eq_natCast, Int.cast_ofNat_Int, Int.reduceBEq, Int.reduceAdd, Int.reduceNeg, Int.reduceNegSucc, Int.reduceLT, Int.reduceLE, Int.reduceMul, Int.reduceTMod, Int.reduceSub, Int.reduceBNe, Bool.not_true, Bool.not_false, decide_true, decide_false, ne_eq, not_false_eq_true, Int.reduceEq, reduceCtorEq]
          have o35 : To (fun x => x = b ∨ x = pb) h h5 := fin (o5.mono fun x _ e => .inr (.inl e))
          have nb5 := o35.nb
          rw [if_pos ⟨rfl, rfl, fun hh => g hh.1⟩, if_neg g]
          rcases ih m q' (cs ++ [c]) v' h5 (by simp; omega) (by omega) (by omega) w5 q5 g5 with ⟨r1, h8, r2, r3, r6⟩ | ⟨p, v3, h8, r1, r2, r3, r6, r7, r8⟩
          · exact .inl ⟨r1, h8, (lpn m e).trans r2, o35.trans r3, r6⟩
          · exact .inr ⟨p, v3, h8, r1, (lpn m e).trans r2, r3, r6, o35.trans r7, r8⟩
end Go.Proofs.YtnpfppddongbhaaDoor
end

section
namespace Go.Proofs.YtnpfppddongbhaaDoor
open Go Go.AM
set_option autoImplicit false
noncomputable def arB (l : List UInt8) : Bool := match fld l with
  | some t => decide (t.k = 91)
  | none => false
theorem t91 {l : List UInt8} (hl : l.length ≤ 100000) {h : Hp} (hw : Wf h) : ∃ w h', s91 [S l] h = .ret (.tup (.cons (tyV w) (.cons (.bool (arB l)) .nil))) h' ∧ To No h h' ∧ Wf h' := by
  obtain ⟨h1, m1, c1, o1, w1, n1⟩ := ty0_mk hw
  obtain ⟨h2, e2, o2, w2⟩ := t26 hl w1
  obtain ⟨h3, m3, c3, o3, w3, n3⟩ := ty0_mk w2
  have m3' : ∀ k : AV → Hp → Res, mk h2 (.cons (.int 8 0) (.cons (.str 0 0) (.cons (.int 63 0) (.cons (.int 8 0) .nil)))) k = k (.ptr h2.nb 0) h3 := m3
  have bz : ∀ k : AV → Res, bld [(false, 1, (.int 8 0)), (false, 1, (.str 0 0)), (false, 1, (.int 63 0)), (false, 1, (.int 8 0))] k = k (avL (tyL ty0)) := fun k => rfl
  have nb2 := o2.nb
  obtain ⟨h4, s4, c4, o4, w4, n4⟩ := c3.st w3 ((fld l).getD ty0)
  have s4 : ∀ k : Hp → Res, stN h3 4 (.ptr h2.nb 0) (tyV ((fld l).getD ty0)) k = k h4 := s4
  have oo : To (fun x => h.nb ≤ x) h h4 := (((o1.mono fun _ _ f => f.elim).trans (o2.mono fun _ _ f => f.elim)).trans (o3.mono fun _ _ f => f.elim)).trans (o4.mono fun x _ e => by have : x = h2.nb := e; omega)
  have c14 : Cel h4 h.nb ty0 := ((c1.to o2 (fun f => f)).to o3 (fun f => f)).to o4 (fun e => by have : h.nb = h2.nb := e; omega)
  have fin : ∀ {g : Hp}, To (At h.nb) h4 g → To No h g := fun tt => (oo.trans (tt.mono fun x _ e => by have : x = h.nb := e; omega)).mono fun x hx e => by omega
  unfold arB
  cases hf : fld l with
  | none =>
    have ef : fldV (fld l) = .tup (.cons (tyV ty0) (.cons (.bool false) .nil)) := by rw [hf]; rfl
    rw [ef] at e2
    rw [hf] at s4
    have s4 : ∀ k : Hp → Res, stN h3 4 (.ptr h2.nb 0) (tyV ty0) k = k h4 := s4
    obtain ⟨h5, p1, p2, o5, w5⟩ := fin1 w4 c14 ty0
    have p1 : ∀ k : Hp → Res, stN h4 4 (.ptr h.nb 0) (.agg (avL (tyL ty0))) k = k h5 := p1
    exact ⟨ty0, h5, by simp only [↓s91, ↓m1, ↓e2, nth_z, nth_1, ↓cK_ty, ↓m3, ↓m3', ↓s4, ↓bldz, ↓bz, ↓p1, ↓p2, ↓SD, SA, Int.ofNat_eq_natCast, Int.cast_ofNat_Int, Int.reduceBEq, Int.reduceAdd, Int.reduceNeg, Int.reduceNegSucc, Int.reduceLT, Int.reduceLE, Int.reduceMul, Int.reduceTMod, Int.reduceSub, Int.reduceBNe, Bool.not_true, Bool.not_false, decide_true, decide_false, ne_eq, not_false_eq_true, Int.reduceEq, reduceCtorEq], fin o5, w5⟩
  | some t =>
    have ef : fldV (fld l) = .tup (.cons (tyV t) (.cons (.bool true) .nil)) := by rw [hf]; rfl
    rw [ef] at e2
    rw [hf] at s4 c4
    have s4 : ∀ k : Hp → Res, stN h3 4 (.ptr h2.nb 0) (tyV t) k = k h4 := s4
    have c4 : Cel h4 h2.nb t := c4
    have l0 := fun k => c4.l0 k
    have l0' : ∀ k : AV → Res, ld1 h4 (.ptr h2.nb 0) k = k (.int 8 (t.k.toNat : Int)) := l0
    have ld := fun k => c4.ld k
    have f91 := c91 t.k
    show ∃ w h', s91 [S l] h = .ret (.tup (.cons (tyV w) (.cons (.bool (decide (t.k = 91))) .nil))) h' ∧ To No h h' ∧ Wf h'
    cases hd : decide (t.k = 91) with
    | true =>
      rw [hd] at f91
      obtain ⟨h5, p1, p2, o5, w5⟩ := fin1 w4 c14 t
      exact ⟨t, h5, by simp only [↓s91, ↓m1, ↓e2, nth_z, nth_1, ↓cK_ty, ↓m3, ↓m3', ↓s4, ↓cP_p, ↓l0, ↓l0', f91, Bool.not_true, ↓ld, ↓p1, ↓p2, ↓SD, SA, Int.ofNat_eq_natCast, Int.cast_ofNat_Int, Int.reduceBEq, Int.reduceAdd, Int.reduceNeg, Int.reduceNegSucc, Int.reduceLT, Int.reduceLE, Int.reduceMul, Int.reduceTMod, Int.reduceSub, Int.reduceBNe, Bool.not_true, Bool.not_false, decide_true, decide_false, ne_eq, not_false_eq_true, Int.reduceEq, reduceCtorEq], fin o5, w5⟩
    | false =>
      rw [hd] at f91
      obtain ⟨h5, p1, p2, o5, w5⟩ := fin1 w4 c14 ty0
      have p1 : ∀ k : Hp → Res, stN h4 4 (.ptr h.nb 0) (.agg (avL (tyL ty0))) k = k h5 := p1
      exact ⟨ty0, h5, by simp only [↓s91, ↓m1, ↓e2, nth_z, nth_1, ↓cK_ty, ↓m3, ↓m3', ↓s4, ↓cP_p, ↓l0, ↓l0', f91, Bool.not_false, ↓bldz, ↓bz, ↓p1, ↓p2, ↓SD, SA, Int.ofNat_eq_natCast, Int.cast_ofNat_Int, Int.reduceBEq, Int.reduceAdd, Int.reduceNeg, Int.reduceNegSucc, Int.reduceLT, Int.reduceLE, Int.reduceMul, Int.reduceTMod, Int.reduceSub, Int.reduceBNe, Bool.not_true, Bool.not_false, decide_true, decide_false, ne_eq, not_false_eq_true, Int.reduceEq, reduceCtorEq], fin o5, w5⟩
noncomputable def rg (cs : List Cn) (c : Cn) : Bool :=
  if c.tag = 1 then okD c.tx
  else if c.tag = 7 then (match txo cs (c.a : Int) with | some s => cls s || arB s | none => false)
  else if c.tag = 8 then tg cs (c.a : Int) 1
  else true
theorem t65 {h : Hp} {P : Nat → Prop} {cap : Nat} {v : AV} {cs : List Cn} (hp : Pl5 h P cap v cs) (hw : Wf h) (htx : ∀ c ∈ cs, c.tx.length ≤ 100000) (c : Cn) (hc : c.tx.length ≤ 100000) (h9 : c.tag ≠ 9) (h10 : c.tag ≠ 10) (h11 : c.tag ≠ 11) (h12 : c.tag ≠ 12) :
    ∃ h', s65 [v, cnV c] h = .ret (.bool (rg cs c)) h' ∧ To No h h' ∧ Wf h' := by
  obtain ⟨h1, m1, c1, o1, w1, n1⟩ := cn_cells hw c
  have hp1 := hp.to o1 (fun _ _ f => f)
  have a0 := fun k => c1.l0 k
  have a1 := fun k => c1.l1 k
  have a3 := fun k => c1.l3 k
  have a0' : ∀ k : AV → Res, ld1 h1 (.ptr h.nb 0) k = k (.int 63 (c.tag : Int)) := a0
  have a1' : ∀ k : AV → Res, ld1 h1 (.ptr h.nb 1) k = k (S c.tx) := a1
  have a3' : ∀ k : AV → Res, ld1 h1 (.ptr h.nb 3) k = k (.int 63 (c.a : Int)) := a3
  have f1 : (((c.tag : Nat) : Int) == 1) = decide (c.tag = 1) := nbeq _ 1
  have f7 : (((c.tag : Nat) : Int) == 7) = decide (c.tag = 7) := nbeq _ 7
  have f8 : (((c.tag : Nat) : Int) == 8) = decide (c.tag = 8) := nbeq _ 8
  have f9 : (((c.tag : Nat) : Int) == 9) = decide (c.tag = 9) := nbeq _ 9
  have f10 : (((c.tag : Nat) : Int) == 10) = decide (c.tag = 10) := nbeq _ 10
  have f11 : (((c.tag : Nat) : Int) == 11) = decide (c.tag = 11) := nbeq _ 11
  have f12 : (((c.tag : Nat) : Int) == 12) = decide (c.tag = 12) := nbeq _ 12
  rw [decide_eq_false h9] at f9
  rw [decide_eq_false h10] at f10
  rw [decide_eq_false h11] at f11
  rw [decide_eq_false h12] at f12
  unfold rg
  by_cases d1 : c.tag = 1
  · rw [decide_eq_true d1] at f1
    obtain ⟨w, h2, e2, ow, o2, w2⟩ := t49o hc w1
    rw [if_pos d1]
    have kw : ∀ k : AV → Res, cK w k = k w := fun k => cK_one ow k
    exact ⟨h2, by simp only [↓s65, ↓m1, ↓cP_p, ↓a0, ↓a0', f1, ↓a1, ↓a1', ↓e2, nth_z, nth_1, ↓kw, ↓SD, SA, Int.ofNat_eq_natCast, Int.cast_ofNat_Int, Int.reduceBEq, Int.reduceAdd, Int.reduceNeg, Int.reduceNegSucc, Int.reduceLT, Int.reduceLE, Int.reduceMul, Int.reduceTMod, Int.reduceSub, Int.reduceBNe, Bool.not_true, Bool.not_false, decide_true, decide_false, ne_eq, not_false_eq_true, Int.reduceEq, reduceCtorEq], o1.trans o2, w2⟩
  rw [decide_eq_false d1] at f1
  rw [if_neg d1]
  by_cases d7 : c.tag = 7
  · rw [decide_eq_true d7] at f7
    rw [if_pos d7]
    have e39 := t39 hp1 (c.a : Int)
    cases ht : txo cs (c.a : Int) with
    | none =>
      rw [ht] at e39
      have e39 : s39 [v, .int 63 (c.a : Int)] h1 = .ret (.tup (.cons (S []) (.cons (.bool false) .nil))) h1 := e39
      obtain ⟨w, h2, e2, o2, w2⟩ := t91 (l := []) (by simp) w1
      obtain ⟨h3, m3, c3, o3, w3, n3⟩ := ty0_mk w2
      have m3' : ∀ k : AV → Hp → Res, mk h2 (.cons (.int 8 0) (.cons (.str 0 0) (.cons (.int 63 0) (.cons (.int 8 0) .nil)))) k = k (.ptr h2.nb 0) h3 := m3
      obtain ⟨h4, p1, p2, o4, w4⟩ := fin1 w3 c3 w
      exact ⟨h4, by simp only [↓s65, ↓m1, ↓cP_p, ↓a0, ↓a0', f1, f7, ↓a3, ↓a3', ↓e39, nth_z, nth_1, ↓cK_S, ↓e2, ↓cK_ty, ↓m3, ↓m3', ↓p1, ↓SD, SA, Int.ofNat_eq_natCast, Int.cast_ofNat_Int, Int.reduceBEq, Int.reduceAdd, Int.reduceNeg, Int.reduceNegSucc, Int.reduceLT, Int.reduceLE, Int.reduceMul, Int.reduceTMod, Int.reduceSub, Int.reduceBNe, Bool.not_true, Bool.not_false, decide_true, decide_false, ne_eq, not_false_eq_true, Int.reduceEq, reduceCtorEq], (o1.trans o2).trans (o3.fresh o4 (fun x e => by have : x = h2.nb := e; omega)), w4⟩
    | some s =>
      rw [ht] at e39
      have e39 : s39 [v, .int 63 (c.a : Int)] h1 = .ret (.tup (.cons (S s) (.cons (.bool true) .nil))) h1 := e39
      have hs : s.length ≤ 100000 := by
        unfold txo at ht
        split at ht
        · rename_i hh
          obtain ⟨n, hn, hlt, -⟩ := tg_inv hh
          rw [hn, Int.toNat_natCast, List.getElem?_eq_getElem hlt] at ht
          cases ht
          exact htx _ (List.getElem_mem hlt)
        · cases ht
      obtain ⟨w, h2, e2, o2, w2⟩ := t91 hs w1
      obtain ⟨h3, m3, c3, o3, w3, n3⟩ := ty0_mk w2
      have m3' : ∀ k : AV → Hp → Res, mk h2 (.cons (.int 8 0) (.cons (.str 0 0) (.cons (.int 63 0) (.cons (.int 8 0) .nil)))) k = k (.ptr h2.nb 0) h3 := m3
      obtain ⟨h4, p1, p2, o4, w4⟩ := fin1 w3 c3 w
      obtain ⟨h5, e5, o5, w5⟩ := t17 hs w4
      have gs : gsel (.bool true) true (S s) = S s := rfl
      have ot : To No h h5 := ((o1.trans o2).trans (o3.fresh o4 (fun x e => by have : x = h2.nb := e; omega))).trans o5
      refine ⟨h5, ?_, ot, w5⟩
      show s65 [v, cnV c] h = .ret (.bool (cls s || arB s)) h5
      generalize arB s = ar at *
      cases hcl : cls s with
      | true =>
        rw [hcl] at e5
        simp only [↓s65, ↓m1, ↓cP_p, ↓a0, ↓a0', f1, f7, ↓a3, ↓a3', ↓e39, nth_z, nth_1, ↓cK_S, ↓e2, ↓cK_ty, ↓m3, ↓m3', ↓p1, ↓gs, ↓e5, ↓SD, SA, Int.ofNat_eq_natCast, Int.cast_ofNat_Int, Int.reduceBEq, Int.reduceAdd, Int.reduceNeg, Int.reduceNegSucc, Int.reduceLT, Int.reduceLE, Int.reduceMul, Int.reduceTMod, Int.reduceSub, Int.reduceBNe, Bool.not_true, Bool.not_false, decide_true, decide_false, ne_eq, not_false_eq_true, Int.reduceEq, reduceCtorEq]; try rfl
      | false =>
        rw [hcl] at e5
        cases ar <;> (simp only [↓s65, ↓m1, ↓cP_p, ↓a0, ↓a0', f1, f7, ↓a3, ↓a3', ↓e39, nth_z, nth_1, ↓cK_S, ↓e2, ↓cK_ty, ↓m3, ↓m3', ↓p1, ↓gs, ↓e5, ↓SD, SA, Int.ofNat_eq_natCast, Int.cast_ofNat_Int, Int.reduceBEq, Int.reduceAdd, Int.reduceNeg, Int.reduceNegSucc, Int.reduceLT, Int.reduceLE, Int.reduceMul, Int.reduceTMod, Int.reduceSub, Int.reduceBNe, Bool.not_true, Bool.not_false, decide_true, decide_false, ne_eq, not_false_eq_true, Int.reduceEq, reduceCtorEq]; try rfl)
  rw [decide_eq_false d7] at f7
  rw [if_neg d7]
  by_cases d8 : c.tag = 8
  · rw [decide_eq_true d8] at f8
    rw [if_pos d8]
    have e67 := t67 hp1 (c.a : Int) 1
    have e67 : s67 [v, .int 63 (c.a : Int), .int 63 1] h1 = .ret (.bool (tg cs (c.a : Int) 1)) h1 := e67
    exact ⟨h1, by simp only [↓s65, ↓m1, ↓cP_p, ↓a0, ↓a0', f1, f7, f8, ↓a3, ↓a3', ↓e67, ↓SD, SA, Int.ofNat_eq_natCast, Int.cast_ofNat_Int, Int.reduceBEq, Int.reduceAdd, Int.reduceNeg, Int.reduceNegSucc, Int.reduceLT, Int.reduceLE, Int.reduceMul, Int.reduceTMod, Int.reduceSub, Int.reduceBNe, Bool.not_true, Bool.not_false, decide_true, decide_false, ne_eq, not_false_eq_true, Int.reduceEq, reduceCtorEq], o1, w1⟩
  rw [decide_eq_false d8] at f8
  rw [if_neg d8]
  exact ⟨h1, by simp only [↓s65, ↓m1, ↓cP_p, ↓a0, ↓a0', f1, f7, f8, f9, f10, f11, f12, ↓SD, SA, Int.ofNat_eq_natCast, Int.cast_ofNat_Int, Int.reduceBEq, Int.reduceAdd, Int.reduceNeg, Int.reduceNegSucc, Int.reduceLT, Int.reduceLE, Int.reduceMul, Int.reduceTMod, Int.reduceSub, Int.reduceBNe, Bool.not_true, Bool.not_false, decide_true, decide_false, ne_eq, not_false_eq_true, Int.reduceEq, reduceCtorEq], o1, w1⟩
end Go.Proofs.YtnpfppddongbhaaDoor
end

section
namespace Go.Proofs.YtnpfppddongbhaaDoor
open Go Go.AM
set_option autoImplicit false
def Ez (cs : List Cn) : Prop := ∀ c ∈ cs, c.tag ≠ 9 ∧ c.tag ≠ 10 ∧ c.tag ≠ 11 ∧ c.tag ≠ 12 ∧ c.tx.length ≤ 100000
theorem loop37b {P : Nat → Prop} {cap : Nat} {v : AV} {cs : List Cn} (hcs : cs.length ≤ 1000) (hz : Ez cs) : ∀ (f m i : Nat) (h : Hp), cs.length - i ≤ f → f < m → i ≤ cs.length → Wf h → Pl5 h P cap v cs →
    ∃ h', lp L37n1 m [v, v, .int 63 (cs.length : Int), .int 63 (i : Int)] h = (if (cs.drop i).all (rg cs) = true then .exit 2 [v] h' else .ret (.tup (.cons .nils (.cons (.bool false) .nil))) h') ∧ To No h h' ∧ Wf h' := by
  have stop : ∀ (m i : Nat) (h : Hp), ¬ i < cs.length → Wf h → ∃ h', lp L37n1 (m + 1) [v, v, .int 63 (cs.length : Int), .int 63 (i : Int)] h = (if (cs.drop i).all (rg cs) = true then .exit 2 [v] h' else .ret (.tup (.cons .nils (.cons (.bool false) .nil))) h') ∧ To No h h' ∧ Wf h' := by
    intro m i h hi hw
    have q : ¬ (i : Int) < (cs.length : Int) := by omega
    rw [List.drop_eq_nil_of_le (by omega)]
    exact ⟨h, lpx m (by simp only [↓L37n1, q, ↓SD, SA, Int.ofNat_eq_natCast, Int.cast_ofNat_Int, Int.reduceBEq, Int.reduceAdd, Int.reduceNeg, Int.reduceNegSucc, Int.reduceLT, Int.reduceLE, Int.reduceMul, Int.reduceTMod, Int.reduceSub, Int.reduceBNe, Bool.not_true, Bool.not_false, decide_true, decide_false, ne_eq, not_false_eq_true, Int.reduceEq, reduceCtorEq]), To.refl _ _, hw⟩
  intro f
  induction f with
  | zero =>
    intro m i h hf hm hi hw hp
    obtain ⟨m, rfl⟩ : ∃ k, m = k + 1 := ⟨m - 1, by omega⟩
    exact stop m i h (by omega) hw
  | succ f ih =>
    intro m i h hf hm hi hw hp
    obtain ⟨m, rfl⟩ : ∃ k, m = k + 1 := ⟨m - 1, by omega⟩
    by_cases hin : i < cs.length
    · have q : (i : Int) < (cs.length : Int) := by omega
      obtain ⟨pb, po, x1, x2, -⟩ := hp.pt i hin
      obtain ⟨z9, z10, z11, z12, ztx⟩ := hz cs[i] (List.getElem_mem hin)
      obtain ⟨h1, m1, m1', c1, o1, w1, n1⟩ := cn0_mk hw
      obtain ⟨h2, p1, p2, o2, w2⟩ := fin5 w1 c1 cs[i]
      have o12 : To No h h2 := o1.fresh o2 (fun x e => by have : x = h.nb := e; omega)
      obtain ⟨h3, e3, o3, w3⟩ := t65 (hp.to o12 (fun _ _ f => f)) w2 (fun c hc => (hz c hc).2.2.2.2) cs[i] ztx z9 z10 z11 z12
      have o : To No h h3 := o12.trans o3
      rw [List.drop_eq_getElem_cons hin, List.all_cons]
      cases hr : rg cs cs[i] with
      | false =>
        rw [hr] at e3
        refine ⟨h3, ?_, o, w3⟩
        rw [Bool.false_and, if_neg (by decide)]
        exact lpr m (by simp only [↓L37n1, q, ↓x1, ↓x2, ↓m1, ↓m1', ↓p1, ↓p2, ↓e3, ↓SD, SA, Int.ofNat_eq_natCast, Int.cast_ofNat_Int, Int.reduceBEq, Int.reduceAdd, Int.reduceNeg, Int.reduceNegSucc, Int.reduceLT, Int.reduceLE, Int.reduceMul, Int.reduceTMod, Int.reduceSub, Int.reduceBNe, Bool.not_true, Bool.not_false, decide_true, decide_false, ne_eq, not_false_eq_true, Int.reduceEq, reduceCtorEq]; rfl)
      | true =>
        rw [hr] at e3
        have e : L37n1 [v, v, .int 63 (cs.length : Int), .int 63 (i : Int)] h = .norm [v, v, .int 63 (cs.length : Int), .int 63 ((i + 1 : Nat) : Int)] h3 := by
          simp only [↓L37n1, q, ↓x1, ↓x2, ↓m1, ↓m1', ↓p1, ↓p2, ↓e3, s1n i (by omega), ↓SD, SA, Int.ofNat_eq_natCast, Int.cast_ofNat_Int, Int.reduceBEq, Int.reduceAdd, Int.reduceNeg, Int.reduceNegSucc, Int.reduceLT, Int.reduceLE, Int.reduceMul, Int.reduceTMod, Int.reduceSub, Int.reduceBNe, Bool.not_true, Bool.not_false, decide_true, decide_false, ne_eq, not_false_eq_true, Int.reduceEq, reduceCtorEq]
        obtain ⟨h4, e4, o4, w4⟩ := ih m (i + 1) h3 (by omega) (by omega) (by omega) w3 (hp.to o (fun _ _ f => f))
        rw [Bool.true_and]
        exact ⟨h4, (lpn m e).trans e4, o.trans o4, w4⟩
    · exact stop m i h hin hw
noncomputable def rdP (t : List Nat) (q : Sq) : Option (List Cn × Sq) :=
  if (adv t q 2).2 = true ∨ val t q 2 < 1 ∨ 1000 < val t q 2 then none
  else match rdl t (val t q 2) (val t q 2 + 1) (adv t q 2) [cn0] with
    | none => none
    | some p => if p.1.all (rg p.1) = true then some p else none
theorem t37 {h : Hp} {lo b : Nat} {t : List Nat} {q : Sq} (hc : CurQ h lo b t q) (hb : b < h.nb) (hw : Wf h) (hz : ∀ p, rdl t (val t q 2) (val t q 2 + 1) (adv t q 2) [cn0] = some p → Ez p.1 ∧ p.1.length ≤ 1000) :
    (rdP t q = none ∧ ∃ h', s37 [.ptr b 0] h = .ret (.tup (.cons .nils (.cons (.bool false) .nil))) h' ∧ To (At b) h h' ∧ Wf h') ∨
    (∃ p v pb h', rdP t q = some p ∧ s37 [.ptr b 0] h = .ret (.tup (.cons v (.cons (.bool true) .nil))) h' ∧ h.nb ≤ pb ∧ Pl5 h' (At pb) (val t q 2) v p.1 ∧ CurQ h' lo b t p.2 ∧ To (At b) h h' ∧ Wf h') := by
  obtain ⟨h1, e1, q1, o1, w1⟩ := u2 hc hw
  have e63 := C.t63 q1
  have gi : ∀ x : Int, gsel (.bool false) false (.int 63 x) = .int 63 x := fun x => rfl
  unfold rdP
  cases hbad : (adv t q 2).2 with
  | true =>
    rw [hbad] at e63
    rw [if_pos (.inl rfl)]
    exact .inl ⟨rfl, h1, by simp only [↓s37, ↓e1, ↓e63, Bool.not_true, ↓SD, SA, Int.ofNat_eq_natCast, Int.cast_ofNat_Int, Int.reduceBEq, Int.reduceAdd, Int.reduceNeg, Int.reduceNegSucc, Int.reduceLT, Int.reduceLE, Int.reduceMul, Int.reduceTMod, Int.reduceSub, Int.reduceBNe, Bool.not_true, Bool.not_false, decide_true, decide_false, ne_eq, not_false_eq_true, Int.reduceEq, reduceCtorEq]; rfl, o1, w1⟩
  | false =>
    rw [hbad] at e63
    generalize hn : val t q 2 = n at *
    by_cases c1 : n < 1
    · have d1 : (n : Int) < 1 := by omega
      rw [if_pos (.inr (.inl c1))]
      exact .inl ⟨rfl, h1, by simp only [↓s37, ↓e1, ↓e63, Bool.not_false, ↓gi, d1, ↓SD, SA, Int.ofNat_eq_natCast, Int.cast_ofNat_Int, Int.reduceBEq, Int.reduceAdd, Int.reduceNeg, Int.reduceNegSucc, Int.reduceLT, Int.reduceLE, Int.reduceMul, Int.reduceTMod, Int.reduceSub, Int.reduceBNe, Bool.not_true, Bool.not_false, decide_true, decide_false, ne_eq, not_false_eq_true, Int.reduceEq, reduceCtorEq]; rfl, o1, w1⟩
    have d1 : ¬ (n : Int) < 1 := by omega
    by_cases c2 : 1000 < n
    · have d2 : (1000 : Int) < (n : Int) := by omega
      rw [if_pos (.inr (.inr c2))]
      exact .inl ⟨rfl, h1, by simp only [↓s37, ↓e1, ↓e63, Bool.not_false, ↓gi, d1, d2, ↓SD, SA, Int.ofNat_eq_natCast, Int.cast_ofNat_Int, Int.reduceBEq, Int.reduceAdd, Int.reduceNeg, Int.reduceNegSucc, Int.reduceLT, Int.reduceLE, Int.reduceMul, Int.reduceTMod, Int.reduceSub, Int.reduceBNe, Bool.not_true, Bool.not_false, decide_true, decide_false, ne_eq, not_false_eq_true, Int.reduceEq, reduceCtorEq]; rfl, o1, w1⟩
    have d2 : ¬ (1000 : Int) < (n : Int) := by omega
    rw [if_neg (by rintro (h | h | h); exact absurd h (by decide); omega; omega)]
    obtain ⟨h2, m2, p2, o2, w2, n2⟩ := mkM_pl w1 1 n 48 (by omega) (by omega) (by decide)
    have m2 : ∀ k : AV → Hp → Res, mkM h1 (.cons (.int 63 (.ofNat 0)) (.cons (.str 0 0) (.cons (.int 63 (.ofNat 0)) (.cons (.int 63 (.ofNat 0)) (.cons (.int 63 (.ofNat 0)) .nil))))) 48 (.int 63 (.ofNat 1)) (.int 63 (n : Int)) k = k (.sl h1.nb 0 1 5 (some n)) h2 := m2
    have m2' : ∀ k : AV → Hp → Res, mkM h1 (.cons (.int 63 0) (.cons (.str 0 0) (.cons (.int 63 0) (.cons (.int 63 0) (.cons (.int 63 0) .nil))))) 48 (.int 63 1) (.int 63 (n : Int)) k = k (.sl h1.nb 0 1 5 (some n)) h2 := m2
    have nb1 := o1.nb
    have p2 : Pl5 h2 (At h1.nb) n (.sl h1.nb 0 1 5 (some n)) [cn0] := p2
    have fin : ∀ {g : Hp}, To (fun x => x = b ∨ x = h1.nb) h2 g → To (At b) h g := fun tt => ((o1.mono fun x _ e => Or.inl e).trans ((o2.mono fun _ _ f => f.elim).trans tt)).mono fun x hx e => by
      rcases e with e | e
      · exact e
      · omega
    rcases loop37 (lo := lo) (b := b) (t := t) (pb := h1.nb) (n := n) (by omega) (by omega) (n + 1) most (adv t q 2) [cn0] _ h2 (by simp; omega) (by unfold most; omega) (by omega) w2 (q1.to o2 (fun _ _ _ f => f)) p2 with ⟨r1, h3, r2, r3, r4⟩ | ⟨p, v, h3, r1, r2, r3, r4, r5, r6⟩
    · rw [r1]
      exact .inl ⟨rfl, h3, by simp only [↓s37, ↓e1, ↓e63, Bool.not_false, ↓gi, d1, d2, ↓m2, ↓m2', ↓r2, ↓SD, SA, Int.ofNat_eq_natCast, Int.cast_ofNat_Int, Int.reduceBEq, Int.reduceAdd, Int.reduceNeg, Int.reduceNegSucc, Int.reduceLT, Int.reduceLE, Int.reduceMul, Int.reduceTMod, Int.reduceSub, Int.reduceBNe, Bool.not_true, Bool.not_false, decide_true, decide_false, ne_eq, not_false_eq_true, Int.reduceEq, reduceCtorEq], fin r3, r4⟩
    · obtain ⟨ez, hl⟩ := hz p r1
      rw [r1]
      have ln := fun k => r3.len k
      have kv := fun k => r3.cK k
      obtain ⟨h4, e4, o4, w4⟩ := loop37b hl ez p.1.length most 0 h3 (by omega) (by unfold most; omega) (by omega) r6 r3
      rw [List.drop_zero] at e4
      have e4 : lp L37n1 most [v, v, .int 63 (p.1.length : Int), .int 63 0] h3 = (if p.1.all (rg p.1) = true then .exit 2 [v] h4 else .ret (.tup (.cons .nils (.cons (.bool false) .nil))) h4) := e4
      show (_ ∨ _)
      by_cases ha : p.1.all (rg p.1) = true
      · rw [if_pos ha] at e4
        refine .inr ⟨p, v, h1.nb, h4, if_pos ha, ?_, by omega, r3.to o4 (fun _ _ f => f), r4.to o4 (fun _ _ _ f => f), fin (r5.trans (o4.mono fun _ _ f => f.elim)), w4⟩
        simp only [↓s37, ↓e1, ↓e63, Bool.not_false, ↓gi, d1, d2, ↓m2, ↓m2', ↓r2, ↓blk_x, ↓ln, ↓e4, ↓kv, ↓SD, SA, Int.ofNat_eq_natCast, Int.cast_ofNat_Int, Int.reduceBEq, Int.reduceAdd, Int.reduceNeg, Int.reduceNegSucc, Int.reduceLT, Int.reduceLE, Int.reduceMul, Int.reduceTMod, Int.reduceSub, Int.reduceBNe, Bool.not_true, Bool.not_false, decide_true, decide_false, ne_eq, not_false_eq_true, Int.reduceEq, reduceCtorEq]
      · rw [if_neg ha] at e4
        refine .inl ⟨if_neg ha, h4, ?_, fin (r5.trans (o4.mono fun _ _ f => f.elim)), w4⟩
        simp only [↓s37, ↓e1, ↓e63, Bool.not_false, ↓gi, d1, d2, ↓m2, ↓m2', ↓r2, ↓blk_x, ↓ln, ↓e4, ↓SD, SA, Int.ofNat_eq_natCast, Int.cast_ofNat_Int, Int.reduceBEq, Int.reduceAdd, Int.reduceNeg, Int.reduceNegSucc, Int.reduceLT, Int.reduceLE, Int.reduceMul, Int.reduceTMod, Int.reduceSub, Int.reduceBNe, Bool.not_true, Bool.not_false, decide_true, decide_false, ne_eq, not_false_eq_true, Int.reduceEq, reduceCtorEq]
end Go.Proofs.YtnpfppddongbhaaDoor
end

section
namespace Go.Proofs.YtnpfppddongbhaaDoor
open Go Go.AM
set_option autoImplicit false
abbrev tP : List Nat := [0, 3, 1, 0, 1, 97, 7, 0, 1, 9]
theorem rdl_P : rdl tP 3 4 (2, false) [cn0] = some ([cn0, ⟨1, [97], 0, 0, 0⟩, ⟨7, [], 0, 1, 0⟩], (9, false)) := by kernel_rfl
theorem rdP_P : rdP tP (0, false) = some ([cn0, ⟨1, [97], 0, 0, 0⟩, ⟨7, [], 0, 1, 0⟩], (9, false)) := by kernel_rfl
theorem val_P : val tP (0, false) 2 = 3 := by kernel_rfl
theorem adv_P : adv tP (0, false) 2 = (2, false) := by kernel_rfl
theorem t36 {h : Hp} (hw : Wf h) : ∃ h', s36 [] h = .ret (.bool true) h' ∧ To No h h' ∧ Wf h' := by
  obtain ⟨h1, m1, s1, o1, w1⟩ := mkS_sl hw (C.Bs tP) (C.Bs_one tP)
  have m1 : ∀ kk : AV → Hp → Res, (bld [(false, 1, (.int 8 (.ofNat 0))), (false, 1, (.int 8 (.ofNat 3))), (false, 1, (.int 8 (.ofNat 1))), (false, 1, (.int 8 (.ofNat 0))), (false, 1, (.int 8 (.ofNat 1))), (false, 1, (.int 8 (.ofNat 97))), (false, 1, (.int 8 (.ofNat 7))), (false, 1, (.int 8 (.ofNat 0))), (false, 1, (.int 8 (.ofNat 1))), (false, 1, (.int 8 (.ofNat 9)))] fun l0 => mkS h 1 10 l0 kk) = kk (.sl h.nb 0 10 1 (some 10)) h1 := fun kk => (show _ = mkS h 1 (C.Bs tP).length (avL (C.Bs tP)) kk from rfl).trans (m1 kk)
  obtain ⟨b, h2, e2, c2, o2, w2, n2⟩ := C.t38 s1 w1 (by decide) (by decide)
  have e2 : s38 [.sl h.nb 0 10 1 (some 10)] h1 = .ret (.ptr b 0) h2 := e2
  have c2 : CurQ h2 h1.nb b tP (0, false) := c2
  have lob := c2.lo
  have nb1 := o1.nb
  rcases t37 c2 (by omega) w2 (by
    intro p hp
    rw [val_P, adv_P, rdl_P] at hp
    obtain rfl := Option.some.inj hp
    refine ⟨fun c hc => ?_, by decide⟩
    simp only [List.mem_cons, List.not_mem_nil, or_false] at hc
    rcases hc with rfl | rfl | rfl <;> decide) with ⟨r1, -⟩ | ⟨p, v, pb, h3, r1, e3, hpb, p3, c3, o3, w3⟩
  · rw [rdP_P] at r1; cases r1
  · rw [rdP_P] at r1
    obtain rfl := Option.some.inj r1
    have e45 := t45 p3 2
    have hcl : clo [cn0, ⟨1, [97], 0, 0, 0⟩, ⟨7, [], 0, 1, 0⟩] 2 = some [97] := by decide
    rw [hcl] at e45
    have e45 : s45 [v, .int 63 2] h3 = .ret (.tup (.cons (S [97]) (.cons (.bool true) .nil))) h3 := e45
    have kv := fun k => p3.cK k
    have lv : ∀ k : AV → Res, lenL v k = k (.int 63 3) := fun k => p3.len k
    have e61 := C.t61 c3
    have e61 : s61 [.ptr b 0] h3 = .ret (.int 63 1) h3 := e61
    have gv : gsel (.bool true) true v = v := rfl
    have gp : gsel (.bool true) true (.ptr b 0) = .ptr b 0 := rfl
    have gb : ∀ x : Bool, gsel (.bool true) true (.bool x) = .bool x := fun x => rfl
    have gs : ∀ a : List UInt8, gsel (.bool true) true (S a) = S a := fun a => rfl
    have S97 : AV.str 1 97 = S [97] := rfl
    have z : decide (([97] : List UInt8) = [97]) = true := rfl
    have oo : To No h h3 := by
      have q1 : To (fun x => h.nb ≤ x) h h1 := o1.mono fun _ _ f => f.elim
      have q2 : To (fun x => h.nb ≤ x) h1 h2 := o2.mono fun _ _ f => f.elim
      have q3 : To (fun x => h.nb ≤ x) h2 h3 := o3.mono fun x _ e => by have : x = b := e; omega
      exact ((q1.trans q2).trans q3).mono fun x hx e => by omega
    refine ⟨h3, ?_, oo, w3⟩
    simp only [↓s36, ↓m1, ↓e2, ↓e3, nth_z, nth_1, ↓kv, ↓e45, ↓cK_S, ↓gv, ↓lv, ↓gb, ↓gs, ↓S97, ↓eqS_S, z, ↓gp, ↓e61, ↓SD, SA, Int.ofNat_eq_natCast, Int.cast_ofNat_Int, Int.reduceBEq, Int.reduceAdd, Int.reduceNeg, Int.reduceNegSucc, Int.reduceLT, Int.reduceLE, Int.reduceMul, Int.reduceTMod, Int.reduceSub, Int.reduceBNe, Bool.not_true, Bool.not_false, decide_true, decide_false, ne_eq, not_false_eq_true, Int.reduceEq, reduceCtorEq]
end Go.Proofs.YtnpfppddongbhaaDoor
end

section
namespace Go.Proofs.YtnpfppddongbhaaDoor
open Go Go.AM
set_option autoImplicit false
noncomputable def memC (cs : List Cn) (c : Cn) : Option (List UInt8 × List UInt8 × List UInt8) := match clo cs (c.a : Int) with
  | none => none
  | some s => if tg cs (c.b : Int) 12 = true then (match cs[c.b]? with
    | some x => (match txo cs (x.a : Int), txo cs (x.b : Int) with | some n, some d => some (s, n, d) | _, _ => none)
    | none => none) else none
noncomputable def memo (cs : List Cn) (i : Int) : Option (List UInt8 × List UInt8 × List UInt8) :=
  if tg cs i 9 = true ∨ tg cs i 10 = true ∨ tg cs i 11 = true then (match cs[i.toNat]? with | some c => memC cs c | none => none) else none
noncomputable def memV (o : Option (List UInt8 × List UInt8 × List UInt8)) : AV := .tup (.cons (S ((o.map (·.1)).getD [])) (.cons (S ((o.map (·.2.1)).getD [])) (.cons (S ((o.map (·.2.2)).getD [])) (.cons (.bool o.isSome) .nil))))
theorem t47 {h : Hp} {P : Nat → Prop} {cap : Nat} {v : AV} {cs : List Cn} (hp : Pl5 h P cap v cs) (i : Int) : s47 [v, .int 63 i] h = .ret (memV (memo cs i)) h := by
  have e9 : s67 [v, .int 63 i, .int 63 9] h = .ret (.bool (tg cs i 9)) h := t67 hp i 9
  have e10 : s67 [v, .int 63 i, .int 63 10] h = .ret (.bool (tg cs i 10)) h := t67 hp i 10
  have e11 : s67 [v, .int 63 i, .int 63 11] h = .ret (.bool (tg cs i 11)) h := t67 hp i 11
  have gi : ∀ x : Int, gsel (.bool true) true (.int 63 x) = .int 63 x := fun x => rfl
  have gv : gsel (.bool true) true v = v := rfl
  have gi' : ∀ x : Int, gsel (.bool false) false (.int 63 x) = .int 63 x := fun x => rfl
  have gv' : gsel (.bool false) false v = v := rfl
  unfold memo
  by_cases hh : tg cs i 9 = true ∨ tg cs i 10 = true ∨ tg cs i 11 = true
  rotate_left
  · rw [if_neg hh]
    rw [show tg cs i 9 = false from by cases hx : tg cs i 9; rfl; exact absurd (.inl hx) hh] at e9
    rw [show tg cs i 10 = false from by cases hx : tg cs i 10; rfl; exact absurd (.inr (.inl hx)) hh] at e10
    rw [show tg cs i 11 = false from by cases hx : tg cs i 11; rfl; exact absurd (.inr (.inr hx)) hh] at e11
    simp only [↓s47, ↓e9, ↓e10, ↓e11, ↓gi, ↓gv, ↓SD, SA, Int.ofNat_eq_natCast, Int.cast_ofNat_Int, Int.reduceBEq, Int.reduceAdd, Int.reduceNeg, Int.reduceNegSucc, Int.reduceLT, Int.reduceLE, Int.reduceMul, Int.reduceTMod, Int.reduceSub, Int.reduceBNe, Bool.not_true, Bool.not_false, decide_true, decide_false, ne_eq, not_false_eq_true, Int.reduceEq, reduceCtorEq]; rfl
  rw [if_pos hh]
  obtain ⟨n, rfl, hn⟩ : ∃ n : Nat, i = (n : Int) ∧ n < cs.length := by
    rcases hh with a | a | a <;> (obtain ⟨n, e, hn, -⟩ := tg_inv a; exact ⟨n, e, hn⟩)
  have tags : tg cs (n : Int) 9 = true ∨ (tg cs (n : Int) 9 = false ∧ tg cs (n : Int) 10 = true) ∨ (tg cs (n : Int) 9 = false ∧ tg cs (n : Int) 10 = false ∧ tg cs (n : Int) 11 = true) := by
    cases h1 : tg cs (n : Int) 9
    · cases h2 : tg cs (n : Int) 10
      · rcases hh with a | a | a
        · rw [h1] at a; cases a
        · rw [h2] at a; cases a
        · exact .inr (.inr ⟨rfl, rfl, a⟩)
      · exact .inr (.inl ⟨rfl, rfl⟩)
    · exact .inl rfl
  obtain ⟨b, o, p1, p2, f0, f1, f2, f3, f4⟩ := hp.pt n hn
  rw [Int.toNat_natCast, List.getElem?_eq_getElem hn]
  show s47 [v, .int 63 (n : Int)] h = .ret (memV (memC cs cs[n])) h
  generalize cs[n] = c at *
  have f3' : ∀ k : AV → Res, ld1 h (.ptr b (o + 3)) k = k (.int 63 (c.a : Int)) := f3
  have f4' : ∀ k : AV → Res, ld1 h (.ptr b (o + 4)) k = k (.int 63 (c.b : Int)) := f4
  have e45 := t45 hp (c.a : Int)
  have e12 : s67 [v, .int 63 (c.b : Int), .int 63 12] h = .ret (.bool (tg cs (c.b : Int) 12)) h := t67 hp (c.b : Int) 12
  unfold memC
  cases hcl : clo cs (c.a : Int) with
  | none =>
    rw [hcl] at e45
    have e45 : s45 [v, .int 63 (c.a : Int)] h = .ret (.tup (.cons (S []) (.cons (.bool false) .nil))) h := e45
    rcases tags with a | ⟨a, a'⟩ | ⟨a, a', a''⟩
    · rw [a] at e9
      simp only [↓s47, ↓e9, ↓gi, ↓gv, ↓gi', ↓gv', ↓p1, ↓cP_p, ↓f3, ↓f3', ↓e45, nth_z, nth_1, ↓cK_S, ↓SD, SA, Int.ofNat_eq_natCast, Int.cast_ofNat_Int, Int.reduceBEq, Int.reduceAdd, Int.reduceNeg, Int.reduceNegSucc, Int.reduceLT, Int.reduceLE, Int.reduceMul, Int.reduceTMod, Int.reduceSub, Int.reduceBNe, Bool.not_true, Bool.not_false, decide_true, decide_false, ne_eq, not_false_eq_true, Int.reduceEq, reduceCtorEq]; rfl
    · rw [a] at e9; rw [a'] at e10
      simp only [↓s47, ↓e9, ↓e10, ↓gi, ↓gv, ↓gi', ↓gv', ↓p1, ↓cP_p, ↓f3, ↓f3', ↓e45, nth_z, nth_1, ↓cK_S, ↓SD, SA, Int.ofNat_eq_natCast, Int.cast_ofNat_Int, Int.reduceBEq, Int.reduceAdd, Int.reduceNeg, Int.reduceNegSucc, Int.reduceLT, Int.reduceLE, Int.reduceMul, Int.reduceTMod, Int.reduceSub, Int.reduceBNe, Bool.not_true, Bool.not_false, decide_true, decide_false, ne_eq, not_false_eq_true, Int.reduceEq, reduceCtorEq]; rfl
    · rw [a] at e9; rw [a'] at e10; rw [a''] at e11
      simp only [↓s47, ↓e9, ↓e10, ↓e11, ↓gi, ↓gv, ↓gi', ↓gv', ↓p1, ↓cP_p, ↓f3, ↓f3', ↓e45, nth_z, nth_1, ↓cK_S, ↓SD, SA, Int.ofNat_eq_natCast, Int.cast_ofNat_Int, Int.reduceBEq, Int.reduceAdd, Int.reduceNeg, Int.reduceNegSucc, Int.reduceLT, Int.reduceLE, Int.reduceMul, Int.reduceTMod, Int.reduceSub, Int.reduceBNe, Bool.not_true, Bool.not_false, decide_true, decide_false, ne_eq, not_false_eq_true, Int.reduceEq, reduceCtorEq]; rfl
  | some s =>
    rw [hcl] at e45
    have e45 : s45 [v, .int 63 (c.a : Int)] h = .ret (.tup (.cons (S s) (.cons (.bool true) .nil))) h := e45
    cases h12 : tg cs (c.b : Int) 12 with
    | false =>
      rw [h12] at e12
      show s47 [v, .int 63 (n : Int)] h = .ret (memV none) h
      rcases tags with a | ⟨a, a'⟩ | ⟨a, a', a''⟩
      · rw [a] at e9
        simp only [↓s47, ↓e9, ↓gi, ↓gv, ↓gi', ↓gv', ↓p1, ↓cP_p, ↓f3, ↓f3', ↓e45, nth_z, nth_1, ↓cK_S, ↓f4, ↓f4', ↓e12, ↓SD, SA, Int.ofNat_eq_natCast, Int.cast_ofNat_Int, Int.reduceBEq, Int.reduceAdd, Int.reduceNeg, Int.reduceNegSucc, Int.reduceLT, Int.reduceLE, Int.reduceMul, Int.reduceTMod, Int.reduceSub, Int.reduceBNe, Bool.not_true, Bool.not_false, decide_true, decide_false, ne_eq, not_false_eq_true, Int.reduceEq, reduceCtorEq]; rfl
      · rw [a] at e9; rw [a'] at e10
        simp only [↓s47, ↓e9, ↓e10, ↓gi, ↓gv, ↓gi', ↓gv', ↓p1, ↓cP_p, ↓f3, ↓f3', ↓e45, nth_z, nth_1, ↓cK_S, ↓f4, ↓f4', ↓e12, ↓SD, SA, Int.ofNat_eq_natCast, Int.cast_ofNat_Int, Int.reduceBEq, Int.reduceAdd, Int.reduceNeg, Int.reduceNegSucc, Int.reduceLT, Int.reduceLE, Int.reduceMul, Int.reduceTMod, Int.reduceSub, Int.reduceBNe, Bool.not_true, Bool.not_false, decide_true, decide_false, ne_eq, not_false_eq_true, Int.reduceEq, reduceCtorEq]; rfl
      · rw [a] at e9; rw [a'] at e10; rw [a''] at e11
        simp only [↓s47, ↓e9, ↓e10, ↓e11, ↓gi, ↓gv, ↓gi', ↓gv', ↓p1, ↓cP_p, ↓f3, ↓f3', ↓e45, nth_z, nth_1, ↓cK_S, ↓f4, ↓f4', ↓e12, ↓SD, SA, Int.ofNat_eq_natCast, Int.cast_ofNat_Int, Int.reduceBEq, Int.reduceAdd, Int.reduceNeg, Int.reduceNegSucc, Int.reduceLT, Int.reduceLE, Int.reduceMul, Int.reduceTMod, Int.reduceSub, Int.reduceBNe, Bool.not_true, Bool.not_false, decide_true, decide_false, ne_eq, not_false_eq_true, Int.reduceEq, reduceCtorEq]; rfl
    | true =>
      rw [h12] at e12
      obtain ⟨m, hm, hml, -⟩ := tg_inv h12
      obtain rfl : m = c.b := by omega
      obtain ⟨b2, o2, q1, q2, g0, g1, g2, g3, g4⟩ := hp.pt c.b hml
      rw [List.getElem?_eq_getElem hml]
      show s47 [v, .int 63 (n : Int)] h = .ret (memV (match txo cs (cs[c.b].a : Int), txo cs (cs[c.b].b : Int) with | some n, some d => some (s, n, d) | _, _ => none)) h
      generalize cs[c.b] = x at *
      have g3' : ∀ k : AV → Res, ld1 h (.ptr b2 (o2 + 3)) k = k (.int 63 (x.a : Int)) := g3
      have g4' : ∀ k : AV → Res, ld1 h (.ptr b2 (o2 + 4)) k = k (.int 63 (x.b : Int)) := g4
      have ea := t39 hp (x.a : Int)
      have eb := t39 hp (x.b : Int)
      have gb : ∀ y : Bool, gsel (.bool false) false (.bool y) = .bool y := fun y => rfl
      cases ha : txo cs (x.a : Int) with
      | none =>
        rw [ha] at ea
        have ea : s39 [v, .int 63 (x.a : Int)] h = .ret (.tup (.cons (S []) (.cons (.bool false) .nil))) h := ea
        generalize txo cs (x.b : Int) = r at *
        have eb : s39 [v, .int 63 (x.b : Int)] h = .ret (.tup (.cons (S (r.getD [])) (.cons (.bool r.isSome) .nil))) h := eb
        show s47 [v, .int 63 (n : Int)] h = .ret (memV none) h
        rcases tags with a | ⟨a, a'⟩ | ⟨a, a', a''⟩
        · rw [a] at e9
          simp only [↓s47, ↓e9, ↓gi, ↓gv, ↓gi', ↓gv', ↓p1, ↓cP_p, ↓f3, ↓f3', ↓e45, nth_z, nth_1, ↓cK_S, ↓f4, ↓f4', ↓e12, ↓q1, ↓g3, ↓g3', ↓ea, ↓g4, ↓g4', ↓eb, ↓SD, SA, Int.ofNat_eq_natCast, Int.cast_ofNat_Int, Int.reduceBEq, Int.reduceAdd, Int.reduceNeg, Int.reduceNegSucc, Int.reduceLT, Int.reduceLE, Int.reduceMul, Int.reduceTMod, Int.reduceSub, Int.reduceBNe, Bool.not_true, Bool.not_false, decide_true, decide_false, ne_eq, not_false_eq_true, Int.reduceEq, reduceCtorEq]; rfl
        · rw [a] at e9; rw [a'] at e10
          simp only [↓s47, ↓e9, ↓e10, ↓gi, ↓gv, ↓gi', ↓gv', ↓p1, ↓cP_p, ↓f3, ↓f3', ↓e45, nth_z, nth_1, ↓cK_S, ↓f4, ↓f4', ↓e12, ↓q1, ↓g3, ↓g3', ↓ea, ↓g4, ↓g4', ↓eb, ↓SD, SA, Int.ofNat_eq_natCast, Int.cast_ofNat_Int, Int.reduceBEq, Int.reduceAdd, Int.reduceNeg, Int.reduceNegSucc, Int.reduceLT, Int.reduceLE, Int.reduceMul, Int.reduceTMod, Int.reduceSub, Int.reduceBNe, Bool.not_true, Bool.not_false, decide_true, decide_false, ne_eq, not_false_eq_true, Int.reduceEq, reduceCtorEq]; rfl
        · rw [a] at e9; rw [a'] at e10; rw [a''] at e11
          simp only [↓s47, ↓e9, ↓e10, ↓e11, ↓gi, ↓gv, ↓gi', ↓gv', ↓p1, ↓cP_p, ↓f3, ↓f3', ↓e45, nth_z, nth_1, ↓cK_S, ↓f4, ↓f4', ↓e12, ↓q1, ↓g3, ↓g3', ↓ea, ↓g4, ↓g4', ↓eb, ↓SD, SA, Int.ofNat_eq_natCast, Int.cast_ofNat_Int, Int.reduceBEq, Int.reduceAdd, Int.reduceNeg, Int.reduceNegSucc, Int.reduceLT, Int.reduceLE, Int.reduceMul, Int.reduceTMod, Int.reduceSub, Int.reduceBNe, Bool.not_true, Bool.not_false, decide_true, decide_false, ne_eq, not_false_eq_true, Int.reduceEq, reduceCtorEq]; rfl
      | some nm =>
        rw [ha] at ea
        have ea : s39 [v, .int 63 (x.a : Int)] h = .ret (.tup (.cons (S nm) (.cons (.bool true) .nil))) h := ea
        cases hb : txo cs (x.b : Int) with
        | none =>
          rw [hb] at eb
          have eb : s39 [v, .int 63 (x.b : Int)] h = .ret (.tup (.cons (S []) (.cons (.bool false) .nil))) h := eb
          show s47 [v, .int 63 (n : Int)] h = .ret (memV none) h
          rcases tags with a | ⟨a, a'⟩ | ⟨a, a', a''⟩
          · rw [a] at e9
            simp only [↓s47, ↓e9, ↓gi, ↓gv, ↓gi', ↓gv', ↓p1, ↓cP_p, ↓f3, ↓f3', ↓e45, nth_z, nth_1, ↓cK_S, ↓f4, ↓f4', ↓e12, ↓q1, ↓g3, ↓g3', ↓ea, ↓g4, ↓g4', ↓eb, ↓gb, ↓SD, SA, Int.ofNat_eq_natCast, Int.cast_ofNat_Int, Int.reduceBEq, Int.reduceAdd, Int.reduceNeg, Int.reduceNegSucc, Int.reduceLT, Int.reduceLE, Int.reduceMul, Int.reduceTMod, Int.reduceSub, Int.reduceBNe, Bool.not_true, Bool.not_false, decide_true, decide_false, ne_eq, not_false_eq_true, Int.reduceEq, reduceCtorEq]; rfl
          · rw [a] at e9; rw [a'] at e10
            simp only [↓s47, ↓e9, ↓e10, ↓gi, ↓gv, ↓gi', ↓gv', ↓p1, ↓cP_p, ↓f3, ↓f3', ↓e45, nth_z, nth_1, ↓cK_S, ↓f4, ↓f4', ↓e12, ↓q1, ↓g3, ↓g3', ↓ea, ↓g4, ↓g4', ↓eb, ↓gb, ↓SD, SA, Int.ofNat_eq_natCast, Int.cast_ofNat_Int, Int.reduceBEq, Int.reduceAdd, Int.reduceNeg, Int.reduceNegSucc, Int.reduceLT, Int.reduceLE, Int.reduceMul, Int.reduceTMod, Int.reduceSub, Int.reduceBNe, Bool.not_true, Bool.not_false, decide_true, decide_false, ne_eq, not_false_eq_true, Int.reduceEq, reduceCtorEq]; rfl
          · rw [a] at e9; rw [a'] at e10; rw [a''] at e11
            simp only [↓s47, ↓e9, ↓e10, ↓e11, ↓gi, ↓gv, ↓gi', ↓gv', ↓p1, ↓cP_p, ↓f3, ↓f3', ↓e45, nth_z, nth_1, ↓cK_S, ↓f4, ↓f4', ↓e12, ↓q1, ↓g3, ↓g3', ↓ea, ↓g4, ↓g4', ↓eb, ↓gb, ↓SD, SA, Int.ofNat_eq_natCast, Int.cast_ofNat_Int, Int.reduceBEq, Int.reduceAdd, Int.reduceNeg, Int.reduceNegSucc, Int.reduceLT, Int.reduceLE, Int.reduceMul, Int.reduceTMod, Int.reduceSub, Int.reduceBNe, Bool.not_true, Bool.not_false, decide_true, decide_false, ne_eq, not_false_eq_true, Int.reduceEq, reduceCtorEq]; rfl
        | some d =>
          rw [hb] at eb
          have eb : s39 [v, .int 63 (x.b : Int)] h = .ret (.tup (.cons (S d) (.cons (.bool true) .nil))) h := eb
          rcases tags with a | ⟨a, a'⟩ | ⟨a, a', a''⟩
          · rw [a] at e9
            simp only [↓s47, ↓e9, ↓gi, ↓gv, ↓gi', ↓gv', ↓p1, ↓cP_p, ↓f3, ↓f3', ↓e45, nth_z, nth_1, ↓cK_S, ↓f4, ↓f4', ↓e12, ↓q1, ↓g3, ↓g3', ↓ea, ↓g4, ↓g4', ↓eb, ↓gb, ↓SD, SA, Int.ofNat_eq_natCast, Int.cast_ofNat_Int, Int.reduceBEq, Int.reduceAdd, Int.reduceNeg, Int.reduceNegSucc, Int.reduceLT, Int.reduceLE, Int.reduceMul, Int.reduceTMod, Int.reduceSub, Int.reduceBNe, Bool.not_true, Bool.not_false, decide_true, decide_false, ne_eq, not_false_eq_true, Int.reduceEq, reduceCtorEq]; rfl
          · rw [a] at e9; rw [a'] at e10
            simp only [↓s47, ↓e9, ↓e10, ↓gi, ↓gv, ↓gi', ↓gv', ↓p1, ↓cP_p, ↓f3, ↓f3', ↓e45, nth_z, nth_1, ↓cK_S, ↓f4, ↓f4', ↓e12, ↓q1, ↓g3, ↓g3', ↓ea, ↓g4, ↓g4', ↓eb, ↓gb, ↓SD, SA, Int.ofNat_eq_natCast, Int.cast_ofNat_Int, Int.reduceBEq, Int.reduceAdd, Int.reduceNeg, Int.reduceNegSucc, Int.reduceLT, Int.reduceLE, Int.reduceMul, Int.reduceTMod, Int.reduceSub, Int.reduceBNe, Bool.not_true, Bool.not_false, decide_true, decide_false, ne_eq, not_false_eq_true, Int.reduceEq, reduceCtorEq]; rfl
          · rw [a] at e9; rw [a'] at e10; rw [a''] at e11
            simp only [↓s47, ↓e9, ↓e10, ↓e11, ↓gi, ↓gv, ↓gi', ↓gv', ↓p1, ↓cP_p, ↓f3, ↓f3', ↓e45, nth_z, nth_1, ↓cK_S, ↓f4, ↓f4', ↓e12, ↓q1, ↓g3, ↓g3', ↓ea, ↓g4, ↓g4', ↓eb, ↓gb, ↓SD, SA, Int.ofNat_eq_natCast, Int.cast_ofNat_Int, Int.reduceBEq, Int.reduceAdd, Int.reduceNeg, Int.reduceNegSucc, Int.reduceLT, Int.reduceLE, Int.reduceMul, Int.reduceTMod, Int.reduceSub, Int.reduceBNe, Bool.not_true, Bool.not_false, decide_true, decide_false, ne_eq, not_false_eq_true, Int.reduceEq, reduceCtorEq]; rfl
def eqC (x c : Cn) : Bool := ((x.tag : Int) == (c.tag : Int)) && (decide (x.tx = c.tx) && ((x.num == c.num) && (((x.a : Int) == (c.a : Int)) && ((x.b : Int) == (c.b : Int)))))
theorem eqC_self (c : Cn) : eqC c c = true := by unfold eqC; simp
theorem eqC_eq {x c : Cn} (h : eqC x c = true) : x = c := by
  unfold eqC at h
  simp only [Bool.and_eq_true, beq_iff_eq, decide_eq_true_eq] at h
  obtain ⟨h1, h2, h3, h4, h5⟩ := h
  cases x; cases c
  simp only at h1 h2 h3 h4 h5
  rw [Cn.mk.injEq]
  exact ⟨by omega, h2, h3, by omega, by omega⟩
theorem bAn5 (a b c d e : Bool) : bAn2 a (bAn2 b (bAn2 c (bAn2 d (bAn2 e true)))) = (a && (b && (c && (d && e)))) := by cases a <;> cases b <;> cases c <;> cases d <;> cases e <;> rfl
theorem cA_cn (t : Cn) (k : AV → Res) : cA (cnV t) k = k (avL (cnL t)) := of_eq_true (eq_self _)
theorem nc0 (t : Cn) : nth (avL (cnL t)) 0 = .int 63 (t.tag : Int) := of_eq_true (eq_self _)
theorem nc1 (t : Cn) : nth (avL (cnL t)) 1 = S t.tx := of_eq_true (eq_self _)
theorem nc2 (t : Cn) : nth (avL (cnL t)) 2 = .int 63 t.num := of_eq_true (eq_self _)
theorem nc3 (t : Cn) : nth (avL (cnL t)) 3 = .int 63 (t.a : Int) := of_eq_true (eq_self _)
theorem nc4 (t : Cn) : nth (avL (cnL t)) 4 = .int 63 (t.b : Int) := of_eq_true (eq_self _)
theorem loop92 {h : Hp} {P : Nat → Prop} {cap b : Nat} {v : AV} {cs : List Cn} {c : Cn} (hp : Pl5 h P cap v cs) (hc : Cel5 h b c) (hcs : cs.length ≤ 1000) (j : Nat) (hj : j < cs.length) (hjc : cs[j] = c) :
    ∀ (d i m : Nat), i + d = j → d < m → ∃ k, ∃ hk : k < cs.length, cs[k] = c ∧ lp L92n0 m [v, .ptr b 0, .int 63 (cs.length : Int), .int 63 (i : Int)] h = .ret (.int 63 (k : Int)) h := by
  have ldc := fun kk => hc.ld kk
  have step : ∀ i (hi : i < cs.length), L92n0 [v, .ptr b 0, .int 63 (cs.length : Int), .int 63 (i : Int)] h = (match eqC cs[i] c with | true => .ret (.int 63 (i : Int)) h | false => .norm [v, .ptr b 0, .int 63 (cs.length : Int), .int 63 ((i + 1 : Nat) : Int)] h) := by
    intro i hi
    obtain ⟨b2, o2, p1, p2, -⟩ := hp.pt i hi
    have q : (i : Int) < (cs.length : Int) := by omega
    have i1 := s1n i (by omega)
    cases he : eqC cs[i] c with
    | true =>
      unfold eqC at he
      simp only [↓L92n0, q, ↓p1, ↓p2, ↓ldc, ↓cA_cn, nc0, nc1, nc2, nc3, nc4, ↓eqS_S, bAn5, he, ↓SD, SA, Int.ofNat_eq_natCast, Int.cast_ofNat_Int, Int.reduceBEq, Int.reduceAdd, Int.reduceNeg, Int.reduceNegSucc, Int.reduceLT, Int.reduceLE, Int.reduceMul, Int.reduceTMod, Int.reduceSub, Int.reduceBNe, Bool.not_true, Bool.not_false, decide_true, decide_false, ne_eq, not_false_eq_true, Int.reduceEq, reduceCtorEq]
    | false =>
      unfold eqC at he
      simp only [↓L92n0, q, ↓p1, ↓p2, ↓ldc, ↓cA_cn, nc0, nc1, nc2, nc3, nc4, ↓eqS_S, bAn5, he, i1, ↓SD, SA, Int.ofNat_eq_natCast, Int.cast_ofNat_Int, Int.reduceBEq, Int.reduceAdd, Int.reduceNeg, Int.reduceNegSucc, Int.reduceLT, Int.reduceLE, Int.reduceMul, Int.reduceTMod, Int.reduceSub, Int.reduceBNe, Bool.not_true, Bool.not_false, decide_true, decide_false, ne_eq, not_false_eq_true, Int.reduceEq, reduceCtorEq]
  intro d
  induction d with
  | zero =>
    intro i m hi hm
    obtain ⟨m, rfl⟩ : ∃ k, m = k + 1 := ⟨m - 1, by omega⟩
    obtain rfl : i = j := by omega
    have := step i hj
    rw [hjc, eqC_self] at this
    exact ⟨i, hj, hjc, lpr m this⟩
  | succ d ih =>
    intro i m hi hm
    obtain ⟨m, rfl⟩ : ∃ k, m = k + 1 := ⟨m - 1, by omega⟩
    have st := step i (by omega)
    cases he : eqC (cs[i]'(by omega)) c with
    | true => rw [he] at st; exact ⟨i, by omega, eqC_eq he, lpr m st⟩
    | false =>
      rw [he] at st
      obtain ⟨k, hk, e, q⟩ := ih (i + 1) m (by omega) (by omega)
      exact ⟨k, hk, e, (lpn m st).trans q⟩
theorem t92 {h : Hp} {P : Nat → Prop} {cap : Nat} {v : AV} {cs : List Cn} {c : Cn} (hp : Pl5 h P cap v cs) (hw : Wf h) (hcs : cs.length ≤ 1000) (hc : c ∈ cs) :
    ∃ k h', ∃ hk : k < cs.length, cs[k] = c ∧ s92 [v, cnV c] h = .ret (.int 63 (k : Int)) h' ∧ To No h h' ∧ Wf h' := by
  obtain ⟨j, hj, hjc⟩ := List.getElem_of_mem hc
  obtain ⟨h1, m1, c1, o1, w1, n1⟩ := cn_cells hw c
  have hp1 := hp.to o1 (fun _ _ f => f)
  have ln := fun kk => hp1.len kk
  obtain ⟨k, hk, e, q⟩ := loop92 hp1 c1 hcs j hj hjc j 0 most (by omega) (by unfold most; omega)
  have q : lp L92n0 most [v, .ptr h.nb 0, .int 63 (cs.length : Int), .int 63 0] h1 = .ret (.int 63 (k : Int)) h1 := q
  exact ⟨k, h1, hk, e, by simp only [↓s92, ↓m1, ↓ln, ↓q, ↓SD, SA, Int.ofNat_eq_natCast, Int.cast_ofNat_Int, Int.reduceBEq, Int.reduceAdd, Int.reduceNeg, Int.reduceNegSucc, Int.reduceLT, Int.reduceLE, Int.reduceMul, Int.reduceTMod, Int.reduceSub, Int.reduceBNe, Bool.not_true, Bool.not_false, decide_true, decide_false, ne_eq, not_false_eq_true, Int.reduceEq, reduceCtorEq], o1, w1⟩
end Go.Proofs.YtnpfppddongbhaaDoor
end

section
namespace Go.Proofs.YtnpfppddongbhaaDoor
open Go Go.AM
set_option autoImplicit false
noncomputable def mdk (d : List UInt8) : UInt8 := ((md d).getD ([], ty0)).2.k
noncomputable def mtR (nm d : List UInt8) (t : Nat) : Bool := (md d).isSome && (meth nm && (!decide (nm = tClin) && (!decide (nm = tInit) || (decide (t = 10) && decide (mdk d = 86)))))
theorem c86 (k : UInt8) : ((((k.toNat : Nat) : Int)) == 86) = decide (k = 86) := by
  rw [Bool.eq_iff_iff]
  simp only [beq_iff_eq, decide_eq_true_eq]
  constructor
  · intro h
    exact UInt8.toNat_inj.1 (by show k.toNat = 86; omega)
  · rintro rfl; rfl
theorem t93 {nm d : List UInt8} (hn : nm.length ≤ 90000) (hd : d.length ≤ 90000) (t : Nat) {h : Hp} (hw : Wf h) : ∃ h', s93 [S nm, S d, .int 63 (t : Int)] h = .ret (.bool (mtR nm d t)) h' ∧ To No h h' ∧ Wf h' := by
  have gs : gsel (.bool true) true (S nm) = S nm := rfl
  have gi : ∀ x : Int, gsel (.bool false) false (.int 63 x) = .int 63 x := fun x => rfl
  have gb : ∀ x : Bool, gsel (.bool true) true (.bool x) = .bool x := fun x => rfl
  have gb' : ∀ x : Bool, gsel (.bool false) false (.bool x) = .bool x := fun x => rfl
  have ft : (((t : Nat) : Int) == 10) = decide (t = 10) := nbeq t 10
  unfold mtR mdk
  rcases t32 hd hw with ⟨em, h1, e1, o1, w1⟩ | ⟨p, v, h1, em, e1, g1, o1, w1⟩
  · obtain ⟨h2, m2, c2, o2, w2, n2⟩ := ty0_mk w1
    have m2' : ∀ k : AV → Hp → Res, mk h1 (.cons (.int 8 0) (.cons (.str 0 0) (.cons (.int 63 0) (.cons (.int 8 0) .nil)))) k = k (.ptr h1.nb 0) h2 := m2
    obtain ⟨h3, p1, p2, o3, w3⟩ := fin1 w2 c2 ty0
    rw [em]
    have e1 : s32 [S d] h = .ret (.tup (.cons .nils (.cons (tyV ty0) (.cons (.bool false) .nil)))) h1 := e1
    have kn : ∀ k : AV → Res, cK .nils k = k .nils := fun k => rfl
    exact ⟨h3, by simp only [↓s93, ↓e1, nth_z, nth_1, nth_2, ↓kn, ↓cK_ty, ↓m2, ↓m2', ↓p1, ↓SD, SA, Int.ofNat_eq_natCast, Int.cast_ofNat_Int, Int.reduceBEq, Int.reduceAdd, Int.reduceNeg, Int.reduceNegSucc, Int.reduceLT, Int.reduceLE, Int.reduceMul, Int.reduceTMod, Int.reduceSub, Int.reduceBNe, Bool.not_true, Bool.not_false, decide_true, decide_false, ne_eq, not_false_eq_true, Int.reduceEq, reduceCtorEq]; rfl, o1.trans (o2.fresh o3 (fun x e => by have : x = h1.nb := e; omega)), w3⟩
  · obtain ⟨h2, m2, c2, o2, w2, n2⟩ := ty0_mk w1
    have m2' : ∀ k : AV → Hp → Res, mk h1 (.cons (.int 8 0) (.cons (.str 0 0) (.cons (.int 63 0) (.cons (.int 8 0) .nil)))) k = k (.ptr h1.nb 0) h2 := m2
    have nb1 := o1.nb
    obtain ⟨h3, p1, c3, o3, w3, n3⟩ := c2.st w2 p.2
    have p1 : ∀ k : Hp → Res, stN h2 4 (.ptr h1.nb 0) (tyV p.2) k = k h3 := p1
    have o23 : To No h1 h3 := o2.fresh o3 (fun x e => by have : x = h1.nb := e; omega)
    rw [em]
    have e1 : s32 [S d] h = .ret (.tup (.cons v (.cons (tyV p.2) (.cons (.bool true) .nil)))) h1 := e1
    have kv := fun k => g1.cK k
    obtain ⟨h4, e4, o4, w4⟩ := t19 (l := nm) (by omega) w3
    have c4 := c3.to o4 (fun f => f)
    have l0 := fun k => c4.l0 k
    have l0' : ∀ k : AV → Res, ld1 h4 (.ptr h1.nb 0) k = k (.int 8 (p.2.k.toNat : Int)) := l0
    have f86 := c86 p.2.k
    show ∃ h', s93 [S nm, S d, .int 63 (t : Int)] h = .ret (.bool (meth nm && (!decide (nm = tClin) && (!decide (nm = tInit) || (decide (t = 10) && decide (p.2.k = 86)))))) h' ∧ To No h h' ∧ Wf h'
    refine ⟨h4, ?_, (o1.trans o23).trans o4, w4⟩
    cases hm : meth nm with
    | false =>
      rw [hm] at e4
      simp only [↓s93, ↓e1, nth_z, nth_1, nth_2, ↓kv, ↓cK_ty, ↓m2, ↓m2', ↓p1, ↓gs, ↓e4, ↓SD, SA, Int.ofNat_eq_natCast, Int.cast_ofNat_Int, Int.reduceBEq, Int.reduceAdd, Int.reduceNeg, Int.reduceNegSucc, Int.reduceLT, Int.reduceLE, Int.reduceMul, Int.reduceTMod, Int.reduceSub, Int.reduceBNe, Bool.not_true, Bool.not_false, decide_true, decide_false, ne_eq, not_false_eq_true, Int.reduceEq, reduceCtorEq]; rfl
    | true =>
      rw [hm] at e4
      cases d1 : decide (nm = tClin) with
      | true => simp only [↓s93, ↓e1, nth_z, nth_1, nth_2, ↓kv, ↓cK_ty, ↓m2, ↓m2', ↓p1, ↓gs, ↓e4, ↓S_clin, ↓eqS_S, d1, ↓SD, SA, Int.ofNat_eq_natCast, Int.cast_ofNat_Int, Int.reduceBEq, Int.reduceAdd, Int.reduceNeg, Int.reduceNegSucc, Int.reduceLT, Int.reduceLE, Int.reduceMul, Int.reduceTMod, Int.reduceSub, Int.reduceBNe, Bool.not_true, Bool.not_false, decide_true, decide_false, ne_eq, not_false_eq_true, Int.reduceEq, reduceCtorEq]; rfl
      | false =>
        cases d2 : decide (nm = tInit) with
        | false => simp only [↓s93, ↓e1, nth_z, nth_1, nth_2, ↓kv, ↓cK_ty, ↓m2, ↓m2', ↓p1, ↓gs, ↓gb, ↓e4, ↓S_clin, ↓S_init, ↓eqS_S, d1, d2, ↓SD, SA, Int.ofNat_eq_natCast, Int.cast_ofNat_Int, Int.reduceBEq, Int.reduceAdd, Int.reduceNeg, Int.reduceNegSucc, Int.reduceLT, Int.reduceLE, Int.reduceMul, Int.reduceTMod, Int.reduceSub, Int.reduceBNe, Bool.not_true, Bool.not_false, decide_true, decide_false, ne_eq, not_false_eq_true, Int.reduceEq, reduceCtorEq]; rfl
        | true =>
          cases d3 : decide (t = 10) with
          | false =>
            rw [d3] at ft
            simp only [↓s93, ↓e1, nth_z, nth_1, nth_2, ↓kv, ↓cK_ty, ↓m2, ↓m2', ↓p1, ↓gs, ↓gb, ↓gb', ↓gi, ft, ↓e4, ↓S_clin, ↓S_init, ↓eqS_S, d1, d2, ↓SD, SA, Int.ofNat_eq_natCast, Int.cast_ofNat_Int, Int.reduceBEq, Int.reduceAdd, Int.reduceNeg, Int.reduceNegSucc, Int.reduceLT, Int.reduceLE, Int.reduceMul, Int.reduceTMod, Int.reduceSub, Int.reduceBNe, Bool.not_true, Bool.not_false, decide_true, decide_false, ne_eq, not_false_eq_true, Int.reduceEq, reduceCtorEq]; rfl
          | true =>
            rw [d3] at ft
            cases d4 : decide (p.2.k = 86) with
            | false =>
              rw [d4] at f86
              simp only [↓s93, ↓e1, nth_z, nth_1, nth_2, ↓kv, ↓cK_ty, ↓m2, ↓m2', ↓p1, ↓gs, ↓gb, ↓gb', ↓gi, ft, ↓e4, ↓S_clin, ↓S_init, ↓eqS_S, d1, d2, ↓cP_p, ↓l0, ↓l0', f86, ↓SD, SA, Int.ofNat_eq_natCast, Int.cast_ofNat_Int, Int.reduceBEq, Int.reduceAdd, Int.reduceNeg, Int.reduceNegSucc, Int.reduceLT, Int.reduceLE, Int.reduceMul, Int.reduceTMod, Int.reduceSub, Int.reduceBNe, Bool.not_true, Bool.not_false, decide_true, decide_false, ne_eq, not_false_eq_true, Int.reduceEq, reduceCtorEq]; rfl
            | true =>
              rw [d4] at f86
              simp only [↓s93, ↓e1, nth_z, nth_1, nth_2, ↓kv, ↓cK_ty, ↓m2, ↓m2', ↓p1, ↓gs, ↓gb, ↓gb', ↓gi, ft, ↓e4, ↓S_clin, ↓S_init, ↓eqS_S, d1, d2, ↓cP_p, ↓l0, ↓l0', f86, ↓SD, SA, Int.ofNat_eq_natCast, Int.cast_ofNat_Int, Int.reduceBEq, Int.reduceAdd, Int.reduceNeg, Int.reduceNegSucc, Int.reduceLT, Int.reduceLE, Int.reduceMul, Int.reduceTMod, Int.reduceSub, Int.reduceBNe, Bool.not_true, Bool.not_false, decide_true, decide_false, ne_eq, not_false_eq_true, Int.reduceEq, reduceCtorEq]; rfl
end Go.Proofs.YtnpfppddongbhaaDoor
end

section
namespace Go.Proofs.YtnpfppddongbhaaDoor
open Go Go.AM
set_option autoImplicit false
noncomputable def namR (cs : List Cn) (c : Cn) : Bool := match txo cs (c.a : Int), txo cs (c.b : Int) with
  | some n, some d => (plain n || decide (n = tInit)) && ((fld d).isSome || decide (0 ≤ argZ d))
  | _, _ => false
noncomputable def memR (cs : List Cn) (c : Cn) : Bool := match memC cs c with
  | none => false
  | some (_, n, d) => if c.tag = 9 then (fld d).isSome && !decide (n = tInit) else mtR n d c.tag
noncomputable def rg2 (cs : List Cn) (c : Cn) : Bool := if c.tag = 12 then namR cs c else if c.tag = 9 ∨ c.tag = 10 ∨ c.tag = 11 then memR cs c else rg cs c
theorem txo_mem {cs : List Cn} {i : Int} {s : List UInt8} (h : txo cs i = some s) : ∃ c ∈ cs, c.tx = s := by
  unfold txo at h
  split at h
  · rename_i hh
    obtain ⟨n, hn, hlt, -⟩ := tg_inv hh
    rw [hn, Int.toNat_natCast, List.getElem?_eq_getElem hlt] at h
    cases h
    exact ⟨_, List.getElem_mem hlt, rfl⟩
  · cases h
def Tx (cs : List Cn) : Prop := ∀ c ∈ cs, c.tx.length ≤ 90000
theorem txo_len {cs : List Cn} (ht : Tx cs) {i : Int} {s : List UInt8} (h : txo cs i = some s) : s.length ≤ 90000 := by
  obtain ⟨c, hc, rfl⟩ := txo_mem h
  exact ht c hc
theorem txo_lenD {cs : List Cn} (ht : Tx cs) (i : Int) : ((txo cs i).getD []).length ≤ 90000 := by
  cases h : txo cs i with
  | none => simp
  | some s => exact txo_len ht h
theorem memC_len {cs : List Cn} (ht : Tx cs) {c : Cn} {s n d : List UInt8} (h : memC cs c = some (s, n, d)) : n.length ≤ 90000 ∧ d.length ≤ 90000 := by
  unfold memC at h
  split at h
  · cases h
  · split at h
    · split at h
      · rename_i x _
        cases ha : txo cs (x.a : Int) with
        | none => rw [ha] at h; cases h
        | some n' =>
          cases hb : txo cs (x.b : Int) with
          | none => rw [ha, hb] at h; cases h
          | some d' =>
            rw [ha, hb] at h
            cases h
            exact ⟨txo_len ht ha, txo_len ht hb⟩
      · cases h
    · cases h
theorem memo_of {cs : List Cn} (h0 : ∀ h : 0 < cs.length, (cs[0]).tag = 0) {k : Nat} (hk : k < cs.length) (ht : cs[k].tag = 9 ∨ cs[k].tag = 10 ∨ cs[k].tag = 11) : memo cs (k : Int) = memC cs cs[k] := by
  have hk0 : 0 < k := by
    rcases Nat.eq_zero_or_pos k with rfl | h
    · have := h0 hk; omega
    · exact h
  have tgk : ∀ t, tg cs (k : Int) t = decide (cs[k].tag = t) := fun t => by
    unfold tg
    rw [Int.toNat_natCast, List.getElem?_eq_getElem hk, decide_eq_true (show (0 : Int) < (k : Int) by omega)]; rfl
  unfold memo
  rw [tgk, tgk, tgk, if_pos (by simpa using ht), Int.toNat_natCast, List.getElem?_eq_getElem hk]
theorem t65n {h : Hp} {P : Nat → Prop} {cap : Nat} {v : AV} {cs : List Cn} (hp : Pl5 h P cap v cs) (hw : Wf h) (ht : Tx cs) (c : Cn) (h12 : c.tag = 12) :
    ∃ h', s65 [v, cnV c] h = .ret (.bool (namR cs c)) h' ∧ To No h h' ∧ Wf h' := by
  obtain ⟨h1, m1, c1, o1, w1, n1⟩ := cn_cells hw c
  have hp1 := hp.to o1 (fun _ _ f => f)
  have a0 := fun k => c1.l0 k
  have a3 := fun k => c1.l3 k
  have a4 := fun k => c1.l4 k
  have a0' : ∀ k : AV → Res, ld1 h1 (.ptr h.nb 0) k = k (.int 63 (c.tag : Int)) := a0
  have a3' : ∀ k : AV → Res, ld1 h1 (.ptr h.nb 3) k = k (.int 63 (c.a : Int)) := a3
  have a4' : ∀ k : AV → Res, ld1 h1 (.ptr h.nb 4) k = k (.int 63 (c.b : Int)) := a4
  rw [h12] at a0 a0'
  have q12 : ((12 : Nat) : Int) = 12 := rfl
  rw [q12] at a0 a0'
  have ea := t39 hp1 (c.a : Int)
  have eb := t39 hp1 (c.b : Int)
  obtain ⟨h2, e2, o2, w2⟩ := t26 (l := (txo cs (c.b : Int)).getD []) (by have := txo_lenD ht (c.b : Int); omega) w1
  obtain ⟨h3, m3, c3, o3, w3, n3⟩ := ty0_mk w2
  have m3' : ∀ k : AV → Hp → Res, mk h2 (.cons (.int 8 0) (.cons (.str 0 0) (.cons (.int 63 0) (.cons (.int 8 0) .nil)))) k = k (.ptr h2.nb 0) h3 := m3
  obtain ⟨h4, p1, p2, o4, w4⟩ := fin1 w3 c3 ((fld ((txo cs (c.b : Int)).getD [])).getD ty0)
  have e2 : s26 [S ((txo cs (c.b : Int)).getD [])] h1 = .ret (.tup (.cons (tyV ((fld ((txo cs (c.b : Int)).getD [])).getD ty0)) (.cons (.bool (fld ((txo cs (c.b : Int)).getD [])).isSome) .nil))) h2 := e2
  have ea : s39 [v, .int 63 (c.a : Int)] h1 = .ret (.tup (.cons (S ((txo cs (c.a : Int)).getD [])) (.cons (.bool (txo cs (c.a : Int)).isSome) .nil))) h1 := ea
  have eb : s39 [v, .int 63 (c.b : Int)] h1 = .ret (.tup (.cons (S ((txo cs (c.b : Int)).getD [])) (.cons (.bool (txo cs (c.b : Int)).isSome) .nil))) h1 := eb
  have ot : To No h h4 := (o1.trans o2).trans (o3.fresh o4 (fun x e => by have : x = h2.nb := e; omega))
  have gb : ∀ x : Bool, gsel (.bool true) true (.bool x) = .bool x := fun x => rfl
  have gs : ∀ x : List UInt8, gsel (.bool true) true (S x) = S x := fun x => rfl
  have gs' : ∀ x : List UInt8, gsel (.bool false) false (S x) = S x := fun x => rfl
  unfold namR
  cases ha : txo cs (c.a : Int) with
  | none =>
    rw [ha] at ea
    have ea : s39 [v, .int 63 (c.a : Int)] h1 = .ret (.tup (.cons (S []) (.cons (.bool false) .nil))) h1 := ea
    generalize txo cs (c.b : Int) = r at *
    generalize fld (r.getD []) = F at *
    refine ⟨h4, ?_, ot, w4⟩
    show s65 [v, cnV c] h = .ret (.bool false) h4
    generalize r.isSome = rb at *
    generalize F.isSome = fb at *
    simp only [↓s65, ↓m1, ↓cP_p, ↓a0, ↓a0', ↓a3, ↓a3', ↓a4, ↓a4', ↓ea, ↓eb, nth_z, nth_1, ↓cK_S, ↓e2, ↓cK_ty, ↓m3, ↓m3', ↓p1, ↓SD, SA, Int.ofNat_eq_natCast, Int.cast_ofNat_Int, Int.reduceBEq, Int.reduceAdd, Int.reduceNeg, Int.reduceNegSucc, Int.reduceLT, Int.reduceLE, Int.reduceMul, Int.reduceTMod, Int.reduceSub, Int.reduceBNe, Bool.not_true, Bool.not_false, decide_true, decide_false, ne_eq, not_false_eq_true, Int.reduceEq, reduceCtorEq]
  | some n =>
    rw [ha] at ea
    have ea : s39 [v, .int 63 (c.a : Int)] h1 = .ret (.tup (.cons (S n) (.cons (.bool true) .nil))) h1 := ea
    cases hb : txo cs (c.b : Int) with
    | none =>
      rw [hb] at eb e2 p1
      have eb : s39 [v, .int 63 (c.b : Int)] h1 = .ret (.tup (.cons (S []) (.cons (.bool false) .nil))) h1 := eb
      have e2 : s26 [S []] h1 = .ret (.tup (.cons (tyV ((fld []).getD ty0)) (.cons (.bool (fld []).isSome) .nil))) h2 := e2
      have p1 : ∀ k : Hp → Res, stN h3 4 (.ptr h2.nb 0) (tyV ((fld []).getD ty0)) k = k h4 := p1
      generalize fld [] = F at *
      refine ⟨h4, ?_, ot, w4⟩
      generalize F.isSome = fb at *
      show s65 [v, cnV c] h = .ret (.bool false) h4
      simp only [↓s65, ↓m1, ↓cP_p, ↓a0, ↓a0', ↓a3, ↓a3', ↓a4, ↓a4', ↓ea, ↓eb, nth_z, nth_1, ↓cK_S, ↓e2, ↓cK_ty, ↓m3, ↓m3', ↓p1, ↓gb, ↓gs, ↓SD, SA, Int.ofNat_eq_natCast, Int.cast_ofNat_Int, Int.reduceBEq, Int.reduceAdd, Int.reduceNeg, Int.reduceNegSucc, Int.reduceLT, Int.reduceLE, Int.reduceMul, Int.reduceTMod, Int.reduceSub, Int.reduceBNe, Bool.not_true, Bool.not_false, decide_true, decide_false, ne_eq, not_false_eq_true, Int.reduceEq, reduceCtorEq]
    | some d =>
      rw [hb] at eb e2 p1
      have eb : s39 [v, .int 63 (c.b : Int)] h1 = .ret (.tup (.cons (S d) (.cons (.bool true) .nil))) h1 := eb
      have e2 : s26 [S d] h1 = .ret (.tup (.cons (tyV ((fld d).getD ty0)) (.cons (.bool (fld d).isSome) .nil))) h2 := e2
      have p1 : ∀ k : Hp → Res, stN h3 4 (.ptr h2.nb 0) (tyV ((fld d).getD ty0)) k = k h4 := p1
      have ln := txo_len ht ha
      have ld := txo_len ht hb
      obtain ⟨h5, e5, o5, w5⟩ := t15 (l := n) (by omega) w4
      obtain ⟨h6, e6, o6, w6⟩ := t34 ld w5
      show ∃ h', s65 [v, cnV c] h = .ret (.bool ((plain n || decide (n = tInit)) && ((fld d).isSome || decide (0 ≤ argZ d)))) h' ∧ To No h h' ∧ Wf h'
      generalize fld d = F at *
      generalize F.getD ty0 = T at *
      generalize F.isSome = fb at *
      have lz : decide (0 ≤ argZ d) = !decide (argZ d < 0) := by
        by_cases h : argZ d < 0
        · rw [decide_eq_true h, decide_eq_false (by omega)]; rfl
        · rw [decide_eq_false h, decide_eq_true (by omega)]; rfl
      rw [lz]
      generalize argZ d = z at *
      cases hpn : plain n with
      | false =>
        rw [hpn] at e5
        cases hin : decide (n = tInit) with
        | false => exact ⟨h5, by simp only [↓s65, ↓m1, ↓cP_p, ↓a0, ↓a0', ↓a3, ↓a3', ↓a4, ↓a4', ↓ea, ↓eb, nth_z, nth_1, ↓cK_S, ↓e2, ↓cK_ty, ↓m3, ↓m3', ↓p1, ↓gb, ↓gs, ↓gs', ↓e5, ↓S_init, ↓eqS_S, hin, ↓SD, SA, Int.ofNat_eq_natCast, Int.cast_ofNat_Int, Int.reduceBEq, Int.reduceAdd, Int.reduceNeg, Int.reduceNegSucc, Int.reduceLT, Int.reduceLE, Int.reduceMul, Int.reduceTMod, Int.reduceSub, Int.reduceBNe, Bool.not_true, Bool.not_false, decide_true, decide_false, ne_eq, not_false_eq_true, Int.reduceEq, reduceCtorEq]; rfl, ot.trans o5, w5⟩
        | true =>
          cases fb with
          | true => exact ⟨h5, by simp only [↓s65, ↓m1, ↓cP_p, ↓a0, ↓a0', ↓a3, ↓a3', ↓a4, ↓a4', ↓ea, ↓eb, nth_z, nth_1, ↓cK_S, ↓e2, ↓cK_ty, ↓m3, ↓m3', ↓p1, ↓gb, ↓gs, ↓gs', ↓e5, ↓S_init, ↓eqS_S, hin, ↓SD, SA, Int.ofNat_eq_natCast, Int.cast_ofNat_Int, Int.reduceBEq, Int.reduceAdd, Int.reduceNeg, Int.reduceNegSucc, Int.reduceLT, Int.reduceLE, Int.reduceMul, Int.reduceTMod, Int.reduceSub, Int.reduceBNe, Bool.not_true, Bool.not_false, decide_true, decide_false, ne_eq, not_false_eq_true, Int.reduceEq, reduceCtorEq]; rfl, ot.trans o5, w5⟩
          | false =>
            refine ⟨h6, ?_, (ot.trans o5).trans o6, w6⟩
            by_cases hz : z < 0
            · simp only [↓s65, ↓m1, ↓cP_p, ↓a0, ↓a0', ↓a3, ↓a3', ↓a4, ↓a4', ↓ea, ↓eb, nth_z, nth_1, ↓cK_S, ↓e2, ↓cK_ty, ↓m3, ↓m3', ↓p1, ↓gb, ↓gs, ↓gs', ↓e5, ↓S_init, ↓eqS_S, hin, ↓e6, hz, ↓SD, SA, Int.ofNat_eq_natCast, Int.cast_ofNat_Int, Int.reduceBEq, Int.reduceAdd, Int.reduceNeg, Int.reduceNegSucc, Int.reduceLT, Int.reduceLE, Int.reduceMul, Int.reduceTMod, Int.reduceSub, Int.reduceBNe, Bool.not_true, Bool.not_false, decide_true, decide_false, ne_eq, not_false_eq_true, Int.reduceEq, reduceCtorEq]; rfl
            · simp only [↓s65, ↓m1, ↓cP_p, ↓a0, ↓a0', ↓a3, ↓a3', ↓a4, ↓a4', ↓ea, ↓eb, nth_z, nth_1, ↓cK_S, ↓e2, ↓cK_ty, ↓m3, ↓m3', ↓p1, ↓gb, ↓gs, ↓gs', ↓e5, ↓S_init, ↓eqS_S, hin, ↓e6, hz, ↓SD, SA, Int.ofNat_eq_natCast, Int.cast_ofNat_Int, Int.reduceBEq, Int.reduceAdd, Int.reduceNeg, Int.reduceNegSucc, Int.reduceLT, Int.reduceLE, Int.reduceMul, Int.reduceTMod, Int.reduceSub, Int.reduceBNe, Bool.not_true, Bool.not_false, decide_true, decide_false, ne_eq, not_false_eq_true, Int.reduceEq, reduceCtorEq]; rfl
      | true =>
        rw [hpn] at e5
        cases fb with
        | true => exact ⟨h5, by simp only [↓s65, ↓m1, ↓cP_p, ↓a0, ↓a0', ↓a3, ↓a3', ↓a4, ↓a4', ↓ea, ↓eb, nth_z, nth_1, ↓cK_S, ↓e2, ↓cK_ty, ↓m3, ↓m3', ↓p1, ↓gb, ↓gs, ↓gs', ↓e5, ↓SD, SA, Int.ofNat_eq_natCast, Int.cast_ofNat_Int, Int.reduceBEq, Int.reduceAdd, Int.reduceNeg, Int.reduceNegSucc, Int.reduceLT, Int.reduceLE, Int.reduceMul, Int.reduceTMod, Int.reduceSub, Int.reduceBNe, Bool.not_true, Bool.not_false, decide_true, decide_false, ne_eq, not_false_eq_true, Int.reduceEq, reduceCtorEq]; rfl, ot.trans o5, w5⟩
        | false =>
          refine ⟨h6, ?_, (ot.trans o5).trans o6, w6⟩
          by_cases hz : z < 0
          · simp only [↓s65, ↓m1, ↓cP_p, ↓a0, ↓a0', ↓a3, ↓a3', ↓a4, ↓a4', ↓ea, ↓eb, nth_z, nth_1, ↓cK_S, ↓e2, ↓cK_ty, ↓m3, ↓m3', ↓p1, ↓gb, ↓gs, ↓gs', ↓e5, ↓e6, hz, ↓SD, SA, Int.ofNat_eq_natCast, Int.cast_ofNat_Int, Int.reduceBEq, Int.reduceAdd, Int.reduceNeg, Int.reduceNegSucc, Int.reduceLT, Int.reduceLE, Int.reduceMul, Int.reduceTMod, Int.reduceSub, Int.reduceBNe, Bool.not_true, Bool.not_false, decide_true, decide_false, ne_eq, not_false_eq_true, Int.reduceEq, reduceCtorEq]; rfl
          · simp only [↓s65, ↓m1, ↓cP_p, ↓a0, ↓a0', ↓a3, ↓a3', ↓a4, ↓a4', ↓ea, ↓eb, nth_z, nth_1, ↓cK_S, ↓e2, ↓cK_ty, ↓m3, ↓m3', ↓p1, ↓gb, ↓gs, ↓gs', ↓e5, ↓e6, hz, ↓SD, SA, Int.ofNat_eq_natCast, Int.cast_ofNat_Int, Int.reduceBEq, Int.reduceAdd, Int.reduceNeg, Int.reduceNegSucc, Int.reduceLT, Int.reduceLE, Int.reduceMul, Int.reduceTMod, Int.reduceSub, Int.reduceBNe, Bool.not_true, Bool.not_false, decide_true, decide_false, ne_eq, not_false_eq_true, Int.reduceEq, reduceCtorEq]; rfl
end Go.Proofs.YtnpfppddongbhaaDoor
end

section
namespace Go.Proofs.YtnpfppddongbhaaDoor
open Go Go.AM
set_option autoImplicit false
theorem t65m {h : Hp} {P : Nat → Prop} {cap : Nat} {v : AV} {cs : List Cn} (hp : Pl5 h P cap v cs) (hw : Wf h) (ht : Tx cs) (hcs : cs.length ≤ 1000) (h0 : ∀ h : 0 < cs.length, (cs[0]).tag = 0) (c : Cn) (hc : c ∈ cs) (htg : c.tag = 9 ∨ c.tag = 10 ∨ c.tag = 11) :
    ∃ h', s65 [v, cnV c] h = .ret (.bool (memR cs c)) h' ∧ To No h h' ∧ Wf h' := by
  obtain ⟨h1, m1, c1, o1, w1, n1⟩ := cn_cells hw c
  have hp1 := hp.to o1 (fun _ _ f => f)
  have a0 := fun k => c1.l0 k
  have a0' : ∀ k : AV → Res, ld1 h1 (.ptr h.nb 0) k = k (.int 63 (c.tag : Int)) := a0
  have al := fun k => c1.ld k
  obtain ⟨k, h2, hk, hkc, e92, o2, w2⟩ := t92 hp1 w1 hcs hc
  have hp2 := hp1.to o2 (fun _ _ f => f)
  have e47 := t47 hp2 (k : Int)
  rw [memo_of h0 hk (by rw [hkc]; exact htg), hkc] at e47
  have hdl : ((memC cs c).map (·.2.2)).getD [] = ((memC cs c).map (·.2.2)).getD [] := rfl
  have hlen : (((memC cs c).map (·.2.2)).getD []).length ≤ 90000 := by
    cases hm : memC cs c with
    | none => simp
    | some q => obtain ⟨s, n, d⟩ := q; exact (memC_len ht hm).2
  obtain ⟨h3, e3, o3, w3⟩ := t26 (l := ((memC cs c).map (·.2.2)).getD []) (by omega) w2
  obtain ⟨h4, m4, c4, o4, w4, n4⟩ := ty0_mk w3
  have m4' : ∀ k : AV → Hp → Res, mk h3 (.cons (.int 8 0) (.cons (.str 0 0) (.cons (.int 63 0) (.cons (.int 8 0) .nil)))) k = k (.ptr h3.nb 0) h4 := m4
  obtain ⟨h5, p1, p2, o5, w5⟩ := fin1 w4 c4 ((fld (((memC cs c).map (·.2.2)).getD [])).getD ty0)
  have e3 : s26 [S (((memC cs c).map (·.2.2)).getD [])] h2 = .ret (.tup (.cons (tyV ((fld (((memC cs c).map (·.2.2)).getD [])).getD ty0)) (.cons (.bool (fld (((memC cs c).map (·.2.2)).getD [])).isSome) .nil))) h3 := e3
  have o45 : To No h3 h5 := o4.fresh o5 (fun x e => by have : x = h3.nb := e; omega)
  have ot : To No h h5 := ((o1.trans o2).trans o3).trans o45
  have nb1 := o1.nb
  have c5 : Cel5 h5 h.nb c := ((c1.to o2 (fun f => f)).to o3 (fun f => f)).to o45 (fun f => f)
  have b0 := fun k => c5.l0 k
  have b0' : ∀ k : AV → Res, ld1 h5 (.ptr h.nb 0) k = k (.int 63 (c.tag : Int)) := b0
  have gb : ∀ x : Bool, gsel (.bool true) true (.bool x) = .bool x := fun x => rfl
  have gs : ∀ x : List UInt8, gsel (.bool true) true (S x) = S x := fun x => rfl
  unfold memR
  cases hm : memC cs c with
  | none =>
    rw [hm] at e47 e3 p1
    have e47 : s47 [v, .int 63 (k : Int)] h2 = .ret (.tup (.cons (S []) (.cons (S []) (.cons (S []) (.cons (.bool false) .nil))))) h2 := e47
    have e3 : s26 [S []] h2 = .ret (.tup (.cons (tyV ((fld []).getD ty0)) (.cons (.bool (fld []).isSome) .nil))) h3 := e3
    have p1 : ∀ k : Hp → Res, stN h4 4 (.ptr h3.nb 0) (tyV ((fld []).getD ty0)) k = k h5 := p1
    refine ⟨h5, ?_, ot, w5⟩
    generalize (fld []).getD ty0 = T at *
    generalize (fld []).isSome = fb at *
    rcases htg with g | g | g <;> rw [g] at a0 a0' b0 b0'
    · have q9 : ((9 : Nat) : Int) = 9 := rfl
      rw [q9] at a0 a0' b0 b0'
      simp only [↓s65, ↓m1, ↓cP_p, ↓a0, ↓a0', ↓al, ↓e92, ↓e47, nth_z, nth_1, nth_2, nth_3, ↓cK_S, ↓e3, ↓cK_ty, ↓m4, ↓m4', ↓p1, ↓b0, ↓b0', ↓SD, SA, Int.ofNat_eq_natCast, Int.cast_ofNat_Int, Int.reduceBEq, Int.reduceAdd, Int.reduceNeg, Int.reduceNegSucc, Int.reduceLT, Int.reduceLE, Int.reduceMul, Int.reduceTMod, Int.reduceSub, Int.reduceBNe, Bool.not_true, Bool.not_false, decide_true, decide_false, ne_eq, not_false_eq_true, Int.reduceEq, reduceCtorEq]
    · have q9 : ((10 : Nat) : Int) = 10 := rfl
      rw [q9] at a0 a0' b0 b0'
      simp only [↓s65, ↓m1, ↓cP_p, ↓a0, ↓a0', ↓al, ↓e92, ↓e47, nth_z, nth_1, nth_2, nth_3, ↓cK_S, ↓e3, ↓cK_ty, ↓m4, ↓m4', ↓p1, ↓b0, ↓b0', ↓SD, SA, Int.ofNat_eq_natCast, Int.cast_ofNat_Int, Int.reduceBEq, Int.reduceAdd, Int.reduceNeg, Int.reduceNegSucc, Int.reduceLT, Int.reduceLE, Int.reduceMul, Int.reduceTMod, Int.reduceSub, Int.reduceBNe, Bool.not_true, Bool.not_false, decide_true, decide_false, ne_eq, not_false_eq_true, Int.reduceEq, reduceCtorEq]
    · have q9 : ((11 : Nat) : Int) = 11 := rfl
      rw [q9] at a0 a0' b0 b0'
      simp only [↓s65, ↓m1, ↓cP_p, ↓a0, ↓a0', ↓al, ↓e92, ↓e47, nth_z, nth_1, nth_2, nth_3, ↓cK_S, ↓e3, ↓cK_ty, ↓m4, ↓m4', ↓p1, ↓b0, ↓b0', ↓SD, SA, Int.ofNat_eq_natCast, Int.cast_ofNat_Int, Int.reduceBEq, Int.reduceAdd, Int.reduceNeg, Int.reduceNegSucc, Int.reduceLT, Int.reduceLE, Int.reduceMul, Int.reduceTMod, Int.reduceSub, Int.reduceBNe, Bool.not_true, Bool.not_false, decide_true, decide_false, ne_eq, not_false_eq_true, Int.reduceEq, reduceCtorEq]
  | some q =>
    obtain ⟨s, n, d⟩ := q
    obtain ⟨ln, ld⟩ := memC_len ht hm
    rw [hm] at e47 e3 p1
    have e47 : s47 [v, .int 63 (k : Int)] h2 = .ret (.tup (.cons (S s) (.cons (S n) (.cons (S d) (.cons (.bool true) .nil))))) h2 := e47
    have e3 : s26 [S d] h2 = .ret (.tup (.cons (tyV ((fld d).getD ty0)) (.cons (.bool (fld d).isSome) .nil))) h3 := e3
    have p1 : ∀ k : Hp → Res, stN h4 4 (.ptr h3.nb 0) (tyV ((fld d).getD ty0)) k = k h5 := p1
    show ∃ h', s65 [v, cnV c] h = .ret (.bool (if c.tag = 9 then (fld d).isSome && !decide (n = tInit) else mtR n d c.tag)) h' ∧ To No h h' ∧ Wf h'
    generalize (fld d).getD ty0 = T at *
    generalize (fld d).isSome = fb at *
    rcases htg with g | g | g
    · rw [if_pos g]
      rw [g] at a0 a0' b0 b0'
      have q9 : ((9 : Nat) : Int) = 9 := rfl
      rw [q9] at a0 a0' b0 b0'
      refine ⟨h5, ?_, ot, w5⟩
      cases fb with
      | false => simp only [↓s65, ↓m1, ↓cP_p, ↓a0, ↓a0', ↓al, ↓e92, ↓e47, nth_z, nth_1, nth_2, nth_3, ↓cK_S, ↓e3, ↓cK_ty, ↓m4, ↓m4', ↓p1, ↓b0, ↓b0', ↓gb, ↓SD, SA, Int.ofNat_eq_natCast, Int.cast_ofNat_Int, Int.reduceBEq, Int.reduceAdd, Int.reduceNeg, Int.reduceNegSucc, Int.reduceLT, Int.reduceLE, Int.reduceMul, Int.reduceTMod, Int.reduceSub, Int.reduceBNe, Bool.not_true, Bool.not_false, decide_true, decide_false, ne_eq, not_false_eq_true, Int.reduceEq, reduceCtorEq]; rfl
      | true => cases hin : decide (n = tInit) <;> (simp only [↓s65, ↓m1, ↓cP_p, ↓a0, ↓a0', ↓al, ↓e92, ↓e47, nth_z, nth_1, nth_2, nth_3, ↓cK_S, ↓e3, ↓cK_ty, ↓m4, ↓m4', ↓p1, ↓b0, ↓b0', ↓gb, ↓gs, ↓S_init, ↓eqS_S, hin, ↓SD, SA, Int.ofNat_eq_natCast, Int.cast_ofNat_Int, Int.reduceBEq, Int.reduceAdd, Int.reduceNeg, Int.reduceNegSucc, Int.reduceLT, Int.reduceLE, Int.reduceMul, Int.reduceTMod, Int.reduceSub, Int.reduceBNe, Bool.not_true, Bool.not_false, decide_true, decide_false, ne_eq, not_false_eq_true, Int.reduceEq, reduceCtorEq]; try rfl)
    · rw [if_neg (by omega), g]
      rw [g] at a0 a0' b0 b0'
      obtain ⟨h6, e6, o6, w6⟩ := t93 ln ld 10 w5
      have q9 : ((10 : Nat) : Int) = 10 := rfl
      rw [q9] at a0 a0' b0 b0' e6
      have gi : ∀ x : Int, gsel (.bool true) true (.int 63 x) = .int 63 x := fun x => rfl
      refine ⟨h6, ?_, ot.trans o6, w6⟩
      generalize mtR n d 10 = mm at *
      cases mm <;> simp only [↓s65, ↓m1, ↓cP_p, ↓a0, ↓a0', ↓al, ↓e92, ↓e47, nth_z, nth_1, nth_2, nth_3, ↓cK_S, ↓e3, ↓cK_ty, ↓m4, ↓m4', ↓p1, ↓b0, ↓b0', ↓gb, ↓gs, ↓gi, ↓e6, ↓SD, SA, Int.ofNat_eq_natCast, Int.cast_ofNat_Int, Int.reduceBEq, Int.reduceAdd, Int.reduceNeg, Int.reduceNegSucc, Int.reduceLT, Int.reduceLE, Int.reduceMul, Int.reduceTMod, Int.reduceSub, Int.reduceBNe, Bool.not_true, Bool.not_false, decide_true, decide_false, ne_eq, not_false_eq_true, Int.reduceEq, reduceCtorEq]
    · rw [if_neg (by omega), g]
      rw [g] at a0 a0' b0 b0'
      obtain ⟨h6, e6, o6, w6⟩ := t93 ln ld 11 w5
      have q9 : ((11 : Nat) : Int) = 11 := rfl
      rw [q9] at a0 a0' b0 b0' e6
      refine ⟨h6, ?_, ot.trans o6, w6⟩
      generalize mtR n d 11 = mm at *
      cases mm <;> simp only [↓s65, ↓m1, ↓cP_p, ↓a0, ↓a0', ↓al, ↓e92, ↓e47, nth_z, nth_1, nth_2, nth_3, ↓cK_S, ↓e3, ↓cK_ty, ↓m4, ↓m4', ↓p1, ↓b0, ↓b0', ↓gb, ↓gs, ↓e6, ↓SD, SA, Int.ofNat_eq_natCast, Int.cast_ofNat_Int, Int.reduceBEq, Int.reduceAdd, Int.reduceNeg, Int.reduceNegSucc, Int.reduceLT, Int.reduceLE, Int.reduceMul, Int.reduceTMod, Int.reduceSub, Int.reduceBNe, Bool.not_true, Bool.not_false, decide_true, decide_false, ne_eq, not_false_eq_true, Int.reduceEq, reduceCtorEq]
theorem t65F {h : Hp} {P : Nat → Prop} {cap : Nat} {v : AV} {cs : List Cn} (hp : Pl5 h P cap v cs) (hw : Wf h) (ht : Tx cs) (hcs : cs.length ≤ 1000) (h0 : ∀ h : 0 < cs.length, (cs[0]).tag = 0) (c : Cn) (hc : c ∈ cs) :
    ∃ h', s65 [v, cnV c] h = .ret (.bool (rg2 cs c)) h' ∧ To No h h' ∧ Wf h' := by
  unfold rg2
  by_cases h12 : c.tag = 12
  · rw [if_pos h12]; exact t65n hp hw ht c h12
  rw [if_neg h12]
  by_cases hm : c.tag = 9 ∨ c.tag = 10 ∨ c.tag = 11
  · rw [if_pos hm]; exact t65m hp hw ht hcs h0 c hc hm
  rw [if_neg hm]
  exact t65 hp hw (fun c hc => by have := ht c hc; omega) c (by have := ht c hc; omega) (by omega) (by omega) (by omega) h12
end Go.Proofs.YtnpfppddongbhaaDoor
end

section
namespace Go.Proofs.YtnpfppddongbhaaDoor.C
open Go Go.AM
set_option autoImplicit false
theorem wst (a x : Nat) : wrapC 63 (wrapC 63 (wrapC 63 (a : Int) * 256) + (x : Int)) = wrapC 63 ((a * 256 + x : Nat) : Int) := by
  have e : ((a * 256 + x : Nat) : Int) = (a : Int) * 256 + x := by omega
  rw [e]
  simp only [w63, Int.bmod_add_bmod, Int.bmod_mul_bmod]
theorem be_app (l m : List Nat) (a : Nat) : be (l ++ m) a = be m (be l a) := by
  induction l generalizing a with
  | nil => rfl
  | cons x l ih => exact ih _
theorem be_add (m : List Nat) (a : Nat) : be m a = a * 256 ^ m.length + be m 0 := by
  induction m generalizing a with
  | nil => simp [be]
  | cons x m ih =>
    have e1 : be (x :: m) a = be m (a * 256 + x) := rfl
    have e2 : be (x :: m) 0 = be m (0 * 256 + x) := rfl
    rw [e1, e2, ih (a * 256 + x), ih (0 * 256 + x), List.length_cons, Nat.pow_succ, Nat.add_mul, Nat.zero_mul, Nat.zero_add, Nat.mul_assoc, Nat.mul_comm 256 (256 ^ m.length), Nat.add_assoc]
theorem be_bd (l : List Nat) (hb : ∀ x ∈ l, x < 256) : be l 0 < 256 ^ l.length := by
  induction l with
  | nil => simp [be]
  | cons x l ih =>
    have e : be (x :: l) 0 = be l (0 * 256 + x) := rfl
    rw [e, be_add, List.length_cons, Nat.pow_succ]
    have h1 := ih (fun y hy => hb y (List.mem_cons_of_mem _ hy))
    have h2 := hb x List.mem_cons_self
    have h3 : (0 * 256 + x) * 256 ^ l.length + 256 ^ l.length ≤ 256 ^ l.length * 256 := by
      rw [Nat.zero_mul, Nat.zero_add, ← Nat.succ_mul, Nat.mul_comm]
      exact Nat.mul_le_mul (Nat.le_refl _) (by omega)
    omega
theorem n64_eq (x y : Nat) (hx : x < 4294967296) (hy : y < 4294967296) : n64 x y = wrapC 63 ((x * 4294967296 + y : Nat) : Int) := by
  unfold n64
  have e1 : toU 63 (wrapC 63 ((x : Int) * Int.ofNat (2 ^ 32))) = x * 4294967296 := by
    have h1 := toU63 (wrapC 63 ((x : Int) * Int.ofNat (2 ^ 32)))
    have h2 : ((x : Int) * Int.ofNat (2 ^ 32)) = ((x * 4294967296 : Nat) : Int) := by
      have : Int.ofNat (2 ^ 32) = 4294967296 := rfl
      rw [this]; omega
    rw [h2, w63] at h1
    rw [h2, w63]
    have h3 := Int.bmod_emod (x := ((x * 4294967296 : Nat) : Int)) (m := 18446744073709551616)
    omega
  have e2 : toU 63 (y : Int) = y := by have := toU63 (y : Int); omega
  have e3 : Nat.lor (x * 4294967296) y = x * 4294967296 + y := by
    have := Nat.two_pow_add_eq_or_of_lt (i := 32) (b := y) (by omega) x
    have e : Nat.lor (x * 4294967296) y = (2 ^ 32 * x) ||| y := by rw [Nat.mul_comm]; rfl
    rw [e, ← this]; omega
  rw [e1, e2, e3]; rfl
section
variable {h : Hp} {lo b at_ : Nat} {t : List Nat} {bad : Bool}
theorem loop68w (hc : Cur h lo b t at_ bad) (n : Nat) (hn : n ≤ 8) (ht : at_ + n ≤ t.length) : ∀ (f m i a : Nat), n - i ≤ f → f < m → i ≤ n →
    lp L68n0 m [.ptr b 0, .int 63 (n : Int), .int 63 (wrapC 63 (a : Int)), .int 63 (i : Int)] h = .exit 0 [.ptr b 0, .int 63 (n : Int), .int 63 (wrapC 63 (be (((t.drop at_).take n).drop i) a : Int))] h := by
  obtain ⟨v, hs, e0, e1, e2⟩ := hc.open
  have hlen := hc.len
  have hll : ((t.drop at_).take n).length = n := by simp; omega
  have stop : ∀ (m i a : Nat), ¬ i < n → lp L68n0 (m + 1) [.ptr b 0, .int 63 (n : Int), .int 63 (wrapC 63 (a : Int)), .int 63 (i : Int)] h = .exit 0 [.ptr b 0, .int 63 (n : Int), .int 63 (wrapC 63 (be (((t.drop at_).take n).drop i) a : Int))] h := by
    intro m i a hi
    have e3 : ¬ (i : Int) < (n : Int) := by omega
    have e : L68n0 [.ptr b 0, .int 63 (n : Int), .int 63 (wrapC 63 (a : Int)), .int 63 (i : Int)] h = .exit 0 [.ptr b 0, .int 63 (n : Int), .int 63 (wrapC 63 (a : Int))] h := by simp only [↓L68n0, e3, ↓SD, SA, Int.ofNat_eq_natCast, Int.cast_ofNat_Int, Int.reduceBEq, Int.reduceAdd, Int.reduceNeg, Int.reduceNegSucc, Int.reduceLT, Int.reduceLE, Int.reduceMul, Int.reduceTMod, Int.reduceSub, Int.reduceBNe, Bool.not_true, Bool.not_false, decide_true, decide_false, ne_eq, not_false_eq_true, Int.reduceEq, reduceCtorEq]
    rw [List.drop_eq_nil_of_le (by omega)]
    exact lpx m e
  intro f
  induction f with
  | zero =>
    intro m i a hf hm hi
    obtain ⟨m, rfl⟩ : ∃ k, m = k + 1 := ⟨m - 1, by omega⟩
    exact stop m i a (by omega)
  | succ f ih =>
    intro m i a hf hm hi
    obtain ⟨m, rfl⟩ : ∃ k, m = k + 1 := ⟨m - 1, by omega⟩
    by_cases hin : i < n
    · have e3 : (i : Int) < (n : Int) := by omega
      have hit : at_ + i < t.length := by omega
      have hx : t[at_ + i] < 256 := hc.byt _ (List.getElem_mem _)
      have g : (Bs t)[at_ + i]'(by rw [Bs_len]; exact hit) = .int 8 (t[at_ + i] : Int) := by simp [Bs]
      have iv := fun k => ix_sl hs (c := 63) (at_ + i) (by rw [Bs_len]; exact hit) k
      rw [g] at iv
      have w1 : wrapC 63 ((at_ : Int) + (i : Int)) = ((at_ + i : Nat) : Int) := by rw [w63_in _ (by omega) (by omega)]; omega
      have ws := wst a t[at_ + i]
      have e : L68n0 [.ptr b 0, .int 63 (n : Int), .int 63 (wrapC 63 (a : Int)), .int 63 (i : Int)] h = .norm [.ptr b 0, .int 63 (n : Int), .int 63 (wrapC 63 ((a * 256 + t[at_ + i] : Nat) : Int)), .int 63 ((i + 1 : Nat) : Int)] h := by
        simp only [↓L68n0, ↓nck_p, ↓cP_p, ↓e0, ↓e1, ↓e2, e3, w1, ↓iv, ↓sh8, c8 _ hx, ws, s1n i (by omega), ↓SD, SA, Int.ofNat_eq_natCast, Int.cast_ofNat_Int, Int.reduceBEq, Int.reduceAdd, Int.reduceNeg, Int.reduceNegSucc, Int.reduceLT, Int.reduceLE, Int.reduceMul, Int.reduceTMod, Int.reduceSub, Int.reduceBNe, Bool.not_true, Bool.not_false, decide_true, decide_false, ne_eq, not_false_eq_true, Int.reduceEq, reduceCtorEq]
      rw [lpn m e, ih m (i + 1) (a * 256 + t[at_ + i]) (by omega) (by omega) (by omega)]
      have hd : ((t.drop at_).take n).drop i = t[at_ + i] :: ((t.drop at_).take n).drop (i + 1) := by
        rw [List.drop_eq_getElem_cons (by rw [hll]; exact hin)]
        simp
      rw [hd]; rfl
    · exact stop m i a hin
theorem t68w (hc : Cur h lo b t at_ bad) (hw : Wf h) (n : Nat) (hn : n ≤ 8) :
    ∃ h', s68 [.ptr b 0, .int 63 (n : Int)] h = .ret (.int 63 (wrapC 63 (be (win t at_ bad n) 0 : Int))) h' ∧ Cur h' lo b t (nat_ t at_ bad n) (nbad t at_ bad n) ∧ To (At b) h h' ∧ Wf h' := by
  obtain ⟨v, hs, e0, e1, e2⟩ := hc.open
  have l0 := fun k => lenL_sl hs k
  have hlen := hc.len
  have hle := hc.le
  have w1 : wrapC 63 ((t.length : Int) - (at_ : Int)) = (t.length : Int) - (at_ : Int) := w63_in _ (by omega) (by omega)
  have z0 : ((0 : Nat) : Int) = 0 := rfl
  by_cases ho : okc t at_ bad (n : Int)
  · obtain ⟨rfl, h0, h1⟩ := id ho
    obtain ⟨h', e3, c', o'⟩ := hc.move (at_ + n) (by omega)
    have w2 : wrapC 63 ((at_ : Int) + (n : Int)) = ((at_ + n : Nat) : Int) := by rw [w63_in _ (by omega) (by omega)]; omega
    have h2 : ¬ (t.length : Int) - at_ < (n : Int) := by omega
    have lp0 := loop68w hc n hn (by omega) n most 0 0 (by omega) (show _ < 1000000 by omega) (by omega)
    rw [z0, List.drop_zero, show wrapC 63 0 = 0 from rfl] at lp0
    simp only [win, nat_, nbad, if_pos ho, Int.toNat_natCast]
    refine ⟨h', ?_, c', o', o'.wf hw⟩
    simp only [↓s68, ↓nck_p, ↓cP_p, ↓eqP_pn, ↓e0, ↓e1, ↓e2, ↓e3, ↓l0, Bs_len, h2, w1, w2, lp0, blk_e, ↓SD, SA, Int.ofNat_eq_natCast, Int.cast_ofNat_Int, Int.reduceBEq, Int.reduceAdd, Int.reduceNeg, Int.reduceNegSucc, Int.reduceLT, Int.reduceLE, Int.reduceMul, Int.reduceTMod, Int.reduceSub, Int.reduceBNe, Bool.not_true, Bool.not_false, decide_true, decide_false, ne_eq, not_false_eq_true, Int.reduceEq, reduceCtorEq]
    simp only [show Nat.beq 0 0 = true from rfl, ↓nck_p, ↓cP_p, ↓e0, ↓e1, ↓e2, ↓e3, w2, ↓SD, SA, Int.ofNat_eq_natCast, Int.cast_ofNat_Int, Int.reduceBEq, Int.reduceAdd, Int.reduceNeg, Int.reduceNegSucc, Int.reduceLT, Int.reduceLE, Int.reduceMul, Int.reduceTMod, Int.reduceSub, Int.reduceBNe, Bool.not_true, Bool.not_false, decide_true, decide_false, ne_eq, not_false_eq_true, Int.reduceEq, reduceCtorEq]
  · obtain ⟨h', e3, c', o'⟩ := hc.fall
    simp only [win, nat_, nbad, if_neg ho]
    refine ⟨h', ?_, c', o', o'.wf hw⟩
    cases bad with
    | true => simp only [↓s68, ↓nck_p, ↓cP_p, ↓eqP_pn, ↓e0, ↓e1, ↓e2, ↓e3, ↓l0, Bs_len, ↓SD, SA, Int.ofNat_eq_natCast, Int.cast_ofNat_Int, Int.reduceBEq, Int.reduceAdd, Int.reduceNeg, Int.reduceNegSucc, Int.reduceLT, Int.reduceLE, Int.reduceMul, Int.reduceTMod, Int.reduceSub, Int.reduceBNe, Bool.not_true, Bool.not_false, decide_true, decide_false, ne_eq, not_false_eq_true, Int.reduceEq, reduceCtorEq]; rfl
    | false =>
      have h2 : (t.length : Int) - at_ < (n : Int) := by
        have : ¬ ((n : Int) ≤ (t.length : Int) - at_) := fun h1 => ho ⟨rfl, by omega, h1⟩
        omega
      simp only [↓s68, ↓nck_p, ↓cP_p, ↓eqP_pn, ↓e0, ↓e1, ↓e2, ↓e3, ↓l0, Bs_len, h2, w1, ↓SD, SA, Int.ofNat_eq_natCast, Int.cast_ofNat_Int, Int.reduceBEq, Int.reduceAdd, Int.reduceNeg, Int.reduceNegSucc, Int.reduceLT, Int.reduceLE, Int.reduceMul, Int.reduceTMod, Int.reduceSub, Int.reduceBNe, Bool.not_true, Bool.not_false, decide_true, decide_false, ne_eq, not_false_eq_true, Int.reduceEq, reduceCtorEq]; rfl
end
end Go.Proofs.YtnpfppddongbhaaDoor.C
namespace Go.Proofs.YtnpfppddongbhaaDoor
open Go Go.AM
theorem val8 {t : List Nat} (hb : ∀ x ∈ t, x < 256) (q : Sq) (hok : (adv t q 8).2 = false) :
    adv t (adv t q 4) 4 = adv t q 8 ∧ n64 (val t q 4) (val t (adv t q 4) 4) = wrapC 63 (val t q 8 : Int) := by
  obtain ⟨a, bad⟩ := q
  have ho : C.okc t a bad 8 := by
    unfold adv C.nbad at hok
    simp only at hok
    split at hok
    · assumption
    · cases hok
  obtain ⟨rfl, h0, h1⟩ := id ho
  have ho4 : C.okc t a false 4 := ⟨rfl, by omega, by omega⟩
  have e4 : adv t (a, false) 4 = (a + 4, false) := by
    unfold adv C.nat_ C.nbad
    simp only [if_pos ho4]; rfl
  have ho4' : C.okc t (a + 4) false 4 := ⟨rfl, by omega, by omega⟩
  rw [e4]
  refine ⟨?_, ?_⟩
  · unfold adv C.nat_ C.nbad
    simp only [if_pos ho4', if_pos ho]; rfl
  · have v4 : val t (a, false) 4 = C.be ((t.drop a).take 4) 0 := by unfold val C.win; simp only [if_pos ho4]; rfl
    have v4' : val t (a + 4, false) 4 = C.be ((t.drop (a + 4)).take 4) 0 := by unfold val C.win; simp only [if_pos ho4']; rfl
    have v8 : val t (a, false) 8 = C.be ((t.drop a).take 8) 0 := by unfold val C.win; simp only [if_pos ho]; rfl
    have hsp : (t.drop a).take 8 = (t.drop a).take 4 ++ (t.drop (a + 4)).take 4 := by
      rw [show (8 : Nat) = 4 + 4 from rfl, List.take_add, List.drop_drop]
    have l1 : ((t.drop a).take 4).length = 4 := by simp; omega
    have l2 : ((t.drop (a + 4)).take 4).length = 4 := by simp; omega
    have b1 := C.be_bd ((t.drop a).take 4) (fun x hx => hb x (List.mem_of_mem_drop (List.mem_of_mem_take hx)))
    have b2 := C.be_bd ((t.drop (a + 4)).take 4) (fun x hx => hb x (List.mem_of_mem_drop (List.mem_of_mem_take hx)))
    rw [l1] at b1
    rw [l2] at b2
    rw [v4, v4', v8, hsp, C.be_app, C.be_add _ (C.be _ 0), l2, C.n64_eq _ _ b1 b2]
theorem bad8 {t : List Nat} (q : Sq) (hbad : (adv t q 8).2 = true) : (adv t (adv t q 4) 4).2 = true := by
  obtain ⟨a, bad⟩ := q
  have ho : ¬ C.okc t a bad 8 := by
    unfold adv C.nbad at hbad
    simp only at hbad
    split at hbad
    · cases hbad
    · assumption
  by_cases ho4 : C.okc t a bad 4
  · have e4 : adv t (a, bad) 4 = (a + 4, false) := by
      unfold adv C.nat_ C.nbad
      simp only [if_pos ho4]; rfl
    rw [e4]
    have : ¬ C.okc t (a + 4) false 4 := fun hh => ho ⟨ho4.1, by omega, by have := hh.2.2; omega⟩
    unfold adv C.nbad
    simp only [if_neg this]
  · have e4 : (adv t (a, bad) 4).2 = true := by
      unfold adv C.nbad
      simp only [if_neg ho4]
    generalize adv t (a, bad) 4 = q' at *
    obtain ⟨a', b'⟩ := q'
    simp only at e4
    subst e4
    have : ¬ C.okc t a' true 4 := fun hh => by cases hh.1
    unfold adv C.nbad
    simp only [if_neg this]
end Go.Proofs.YtnpfppddongbhaaDoor
end

section
namespace Go.Proofs.YtnpfppddongbhaaDoor
open Go Go.AM
set_option autoImplicit false
theorem flat5_set (cs : List Cn) (i : Nat) (hi : i < cs.length) (c' : Cn) (j : Nat) (hj : j < 5) (x : AV) (hc : cnL c' = (cnL cs[i]).set j x) : flat5 (cs.set i c') = (flat5 cs).set (i * 5 + j) x := by
  apply List.ext_getElem
  · rw [List.length_set, flat5_len, flat5_len, List.length_set]
  · intro k h1 h2
    have hk : k < cs.length * 5 := by rw [List.length_set, flat5_len] at h2; exact h2
    obtain ⟨i', j', rfl, hi', hj'⟩ : ∃ i' j', k = i' * 5 + j' ∧ i' < cs.length ∧ j' < 5 := ⟨k / 5, k % 5, by omega, by omega, by omega⟩
    have l5 : ∀ c : Cn, (cnL c).length = 5 := fun c => rfl
    have er : ((flat5 cs).set (i * 5 + j) x)[i' * 5 + j'] = if i * 5 + j = i' * 5 + j' then x else (cnL cs[i'])[j']'(by rw [l5]; exact hj') := by
      rw [List.getElem_set (l := flat5 cs), flat5_get cs i' j' hi' hj']
    rw [flat5_get (cs.set i c') i' j' (by rw [List.length_set]; exact hi') hj', er]
    by_cases e : i = i'
    · subst e
      have e1 : (cs.set i c')[i]'(by rw [List.length_set]; exact hi) = c' := by rw [List.getElem_set, if_pos rfl]
      simp only [e1, hc, List.getElem_set]
      by_cases ej : j = j'
      · rw [if_pos ej, if_pos (by omega)]
      · rw [if_neg ej, if_neg (by omega)]
    · have e1 : (cs.set i c')[i']'(by rw [List.length_set]; exact hi') = cs[i'] := by rw [List.getElem_set, if_neg e]
      simp only [e1]
      rw [if_neg (by omega)]
theorem ix_same {f : (AV → Res) → Res} {b1 o1 b2 o2 : Nat} (x1 : ∀ k : AV → Res, f k = k (.ptr b1 o1)) (x2 : ∀ k : AV → Res, f k = k (.ptr b2 o2)) : b1 = b2 ∧ o1 = o2 := by
  have h := (x1 fun v => .ret v H0).symm.trans (x2 fun v => .ret v H0)
  cases h; exact ⟨rfl, rfl⟩
theorem Pl5.sto {h : Hp} {P : Nat → Prop} {cap b o : Nat} {v : AV} {cs : List Cn} (hw : Wf h) (hp : Pl5 h P cap v cs) (i : Nat) (hi : i < cs.length) (x1 : ∀ k : AV → Res, ixA 5 v (.int 63 (i : Int)) k = k (.ptr b o)) (c' : Cn) (j : Nat) (hj : j < 5) (x : AV) (hx : one x = true) (hc : cnL c' = (cnL cs[i]).set j x) :
    ∃ h', (∀ k : Hp → Res, st1 h (.ptr b (Nat.add o j)) x k = k h') ∧ Pl5 h' P cap v (cs.set i c') ∧ To P h h' ∧ Wf h' := by
  obtain ⟨b', B, rfl, h1, h2, h3, h4, h5⟩ := hp
  have x2 : ∀ k : AV → Res, ixA 5 (.sl b' 0 cs.length 5 (some cap)) (.int 63 (i : Int)) k = k (.ptr b' (i * 5)) := fun k => by
    have e : ixA 5 (.sl b' 0 cs.length 5 (some cap)) (.int 63 (i : Int)) k = ifB (Nat.blt i cs.length) (ifB (Nat.beq 5 5) (k (.ptr b' (Nat.add 0 (Nat.mul i 5)))) .fail) .fail := rfl
    rw [e, (blt_iff _ _).2 hi]
    have e2 : Nat.add 0 (Nat.mul i 5) = i * 5 := by show 0 + i * 5 = i * 5; omega
    show k (.ptr b' (Nat.add 0 (Nat.mul i 5))) = _
    rw [e2]
  obtain ⟨rfl, rfl⟩ := ix_same x1 x2
  obtain ⟨h', s1, s2, s3, s4⟩ := st1_own (o := i * 5 + j) (v := x) h2 (by omega) hx
  refine ⟨h', s1, ⟨b, setC B (i * 5 + j) x, by rw [List.length_set], h1, s2, h3, by rw [List.length_set]; exact h4, fun k hk => ?_⟩, s3.mono fun y _ e => by have : y = b := e; rw [this]; exact h1, s3.wf hw⟩
  have hk' : k < (flat5 cs).length := by rw [flat5_set cs i hi c' j hj x hc, List.length_set] at hk; exact hk
  have hl := flat5_len cs
  rw [setC_at (by omega)]
  simp only [flat5_set cs i hi c' j hj x hc, List.getElem_set]
  by_cases e : k = i * 5 + j
  · rw [if_pos e, if_pos e.symm]
  · rw [if_neg e, if_neg (fun h => e h.symm)]; exact h5 k hk'
section
variable {h : Hp} {P : Nat → Prop} {cap b o i : Nat} {v : AV} {A : List Cn} {c : Cn}
theorem set_get (hi : i < A.length) : (A.set i c)[i]'(by rw [List.length_set]; exact hi) = c := by rw [List.getElem_set, if_pos rfl]
theorem Pl5.w (hw : Wf h) (hp : Pl5 h P cap v (A.set i c)) (hi : i < A.length) (x1 : ∀ k : AV → Res, ixA 5 v (.int 63 (i : Int)) k = k (.ptr b o)) (c' : Cn) (j : Nat) (hj : j < 5) (x : AV) (hx : one x = true) (hc : cnL c' = (cnL c).set j x) :
    ∃ h', (∀ k : Hp → Res, st1 h (.ptr b (Nat.add o j)) x k = k h') ∧ Pl5 h' P cap v (A.set i c') ∧ To P h h' ∧ Wf h' := by
  obtain ⟨h', s, p, t, w⟩ := Pl5.sto hw hp i (by rw [List.length_set]; exact hi) x1 c' j hj x hx (by rw [set_get hi]; exact hc)
  rw [List.set_set] at p
  exact ⟨h', s, p, t, w⟩
theorem Pl5.w0 (hw : Wf h) (hp : Pl5 h P cap v (A.set i c)) (hi : i < A.length) (x1 : ∀ k : AV → Res, ixA 5 v (.int 63 (i : Int)) k = k (.ptr b o)) (x : Nat) :
    ∃ h', (∀ k : Hp → Res, st1 h (.ptr b (Nat.add o 0)) (.int 63 (x : Int)) k = k h') ∧ (∀ k : Hp → Res, st1 h (.ptr b o) (.int 63 (x : Int)) k = k h') ∧ Pl5 h' P cap v (A.set i { c with tag := x }) ∧ To P h h' ∧ Wf h' := by
  obtain ⟨h', s, p⟩ := Pl5.w hw hp hi x1 { c with tag := x } 0 (by decide) (.int 63 (x : Int)) rfl rfl
  exact ⟨h', s, fun k => s k, p⟩
theorem Pl5.w1 (hw : Wf h) (hp : Pl5 h P cap v (A.set i c)) (hi : i < A.length) (x1 : ∀ k : AV → Res, ixA 5 v (.int 63 (i : Int)) k = k (.ptr b o)) (x : List UInt8) :
    ∃ h', (∀ k : Hp → Res, st1 h (.ptr b (Nat.add o 1)) (S x) k = k h') ∧ (∀ k : Hp → Res, st1 h (.ptr b (o + 1)) (S x) k = k h') ∧ Pl5 h' P cap v (A.set i { c with tx := x }) ∧ To P h h' ∧ Wf h' := by
  obtain ⟨h', s, p⟩ := Pl5.w hw hp hi x1 { c with tx := x } 1 (by decide) (S x) rfl rfl
  exact ⟨h', s, fun k => s k, p⟩
theorem Pl5.w2 (hw : Wf h) (hp : Pl5 h P cap v (A.set i c)) (hi : i < A.length) (x1 : ∀ k : AV → Res, ixA 5 v (.int 63 (i : Int)) k = k (.ptr b o)) (x : Int) :
    ∃ h', (∀ k : Hp → Res, st1 h (.ptr b (Nat.add o 2)) (.int 63 x) k = k h') ∧ (∀ k : Hp → Res, st1 h (.ptr b (o + 2)) (.int 63 x) k = k h') ∧ Pl5 h' P cap v (A.set i { c with num := x }) ∧ To P h h' ∧ Wf h' := by
  obtain ⟨h', s, p⟩ := Pl5.w hw hp hi x1 { c with num := x } 2 (by decide) (.int 63 x) rfl rfl
  exact ⟨h', s, fun k => s k, p⟩
theorem Pl5.w3 (hw : Wf h) (hp : Pl5 h P cap v (A.set i c)) (hi : i < A.length) (x1 : ∀ k : AV → Res, ixA 5 v (.int 63 (i : Int)) k = k (.ptr b o)) (x : Nat) :
    ∃ h', (∀ k : Hp → Res, st1 h (.ptr b (Nat.add o 3)) (.int 63 (x : Int)) k = k h') ∧ (∀ k : Hp → Res, st1 h (.ptr b (o + 3)) (.int 63 (x : Int)) k = k h') ∧ Pl5 h' P cap v (A.set i { c with a := x }) ∧ To P h h' ∧ Wf h' := by
  obtain ⟨h', s, p⟩ := Pl5.w hw hp hi x1 { c with a := x } 3 (by decide) (.int 63 (x : Int)) rfl rfl
  exact ⟨h', s, fun k => s k, p⟩
theorem Pl5.w4 (hw : Wf h) (hp : Pl5 h P cap v (A.set i c)) (hi : i < A.length) (x1 : ∀ k : AV → Res, ixA 5 v (.int 63 (i : Int)) k = k (.ptr b o)) (x : Nat) :
    ∃ h', (∀ k : Hp → Res, st1 h (.ptr b (Nat.add o 4)) (.int 63 (x : Int)) k = k h') ∧ (∀ k : Hp → Res, st1 h (.ptr b (o + 4)) (.int 63 (x : Int)) k = k h') ∧ Pl5 h' P cap v (A.set i { c with b := x }) ∧ To P h h' ∧ Wf h' := by
  obtain ⟨h', s, p⟩ := Pl5.w hw hp hi x1 { c with b := x } 4 (by decide) (.int 63 (x : Int)) rfl rfl
  exact ⟨h', s, fun k => s k, p⟩
theorem Pl5.g0 (hp : Pl5 h P cap v (A.set i c)) (hi : i < A.length) (x1 : ∀ k : AV → Res, ixA 5 v (.int 63 (i : Int)) k = k (.ptr b o)) : (∀ k : AV → Res, ld1 h (.ptr b (Nat.add o 0)) k = k (.int 63 (c.tag : Int))) ∧ (∀ k : AV → Res, ld1 h (.ptr b o) k = k (.int 63 (c.tag : Int))) := by
  obtain ⟨b2, o2, p1, p2, f0, -⟩ := hp.pt i (by rw [List.length_set]; exact hi)
  obtain ⟨rfl, rfl⟩ := ix_same x1 p1
  rw [set_get hi] at f0
  exact ⟨f0, fun k => f0 k⟩
end
end Go.Proofs.YtnpfppddongbhaaDoor
end

section
namespace Go.Proofs.YtnpfppddongbhaaDoor
open Go Go.AM
set_option autoImplicit false
theorem r1 {h : Hp} {lo b : Nat} {t : List Nat} {q : Sq} (hc : CurQ h lo b t q) (hw : Wf h) : ∃ h', s68 [.ptr b 0, .int 63 1] h = .ret (.int 63 (val t q 1 : Int)) h' ∧ CurQ h' lo b t (adv t q 1) ∧ To (At b) h h' ∧ Wf h' := C.t68 hc hw 1 (by decide)
theorem r2 {h : Hp} {lo b : Nat} {t : List Nat} {q : Sq} (hc : CurQ h lo b t q) (hw : Wf h) : ∃ h', s68 [.ptr b 0, .int 63 2] h = .ret (.int 63 (val t q 2 : Int)) h' ∧ CurQ h' lo b t (adv t q 2) ∧ To (At b) h h' ∧ Wf h' := C.t68 hc hw 2 (by decide)
theorem r4 {h : Hp} {lo b : Nat} {t : List Nat} {q : Sq} (hc : CurQ h lo b t q) (hw : Wf h) : ∃ h', s68 [.ptr b 0, .int 63 4] h = .ret (.int 63 (val t q 4 : Int)) h' ∧ CurQ h' lo b t (adv t q 4) ∧ To (At b) h h' ∧ Wf h' := C.t68 hc hw 4 (by decide)
theorem r8 {h : Hp} {lo b : Nat} {t : List Nat} {q : Sq} (hc : CurQ h lo b t q) (hw : Wf h) : ∃ h', s68 [.ptr b 0, .int 63 8] h = .ret (.int 63 (wrapC 63 (val t q 8 : Int))) h' ∧ CurQ h' lo b t (adv t q 8) ∧ To (At b) h h' ∧ Wf h' := C.t68w hc hw 8 (by decide)
theorem rS {h : Hp} {lo b : Nat} {t : List Nat} {q : Sq} (hc : CurQ h lo b t q) (hw : Wf h) (n : Int) :
    ∃ v h', s69 [.ptr b 0, .int 63 n] h = .ret v h' ∧ (∀ k : AV → Res, b2s h' v k = k (S (wtx t q n))) ∧ CurQ h' lo b t (adv t q n) ∧ To (At b) h h' ∧ Wf h' := by
  obtain ⟨v, h', e, s, c, o, w⟩ := C.t69 hc hw n
  have hb := C.win_byt hc.byt q.1 q.2 n
  rw [Bs_By _ hb] at s
  exact ⟨v, h', e, fun k => b2s_S s k, c, o, w⟩
theorem rbad {h : Hp} {lo b : Nat} {t : List Nat} {q : Sq} (hc : CurQ h lo b t q) : (∀ k : AV → Res, ld1 h (.ptr b (Nat.add 0 2)) k = k (.bool q.2)) ∧ (∀ k : AV → Res, ld1 h (.ptr b 2) k = k (.bool q.2)) := by
  obtain ⟨v, -, -, -, e⟩ := C.Cur.open hc
  exact ⟨e, fun k => e k⟩
def good (t : List Nat) (q : Sq) (i n : Nat) : Prop := (ent t q).2.1 = true ∧ (ent t q).2.2.2 = false ∧ ¬ ((ent t q).1.tag = 5 ∧ i = n - 1)
theorem cK_nils (k : AV → Res) : cK .nils k = k .nils := of_eq_true (eq_self _)
theorem blk_n2 {vs : List AV} {h : Hp} (k : List AV → Hp → Res) : blk 2 (.norm vs h) k = k vs h := of_eq_true (eq_self _)
theorem blk_r2 {v : AV} {h : Hp} (k : List AV → Hp → Res) : blk 2 (.ret v h) k = .ret v h := of_eq_true (eq_self _)
theorem blk_n1 {vs : List AV} {h : Hp} (k : List AV → Hp → Res) : blk 1 (.norm vs h) k = k vs h := of_eq_true (eq_self _)
theorem blk_r1 {v : AV} {h : Hp} (k : List AV → Hp → Res) : blk 1 (.ret v h) k = .ret v h := of_eq_true (eq_self _)
theorem reg41 {h : Hp} {lo b pb n i : Nat} {t : List Nat} {q : Sq} {v : AV} {A : List Cn} (hw : Wf h) (hb : b < pb) (hpb : pb < h.nb) (hn : n ≤ 1000) (hc : CurQ h lo b t q) (hA : A.length = n) (hi : i < n) (hi0 : 0 < i) (hp : Pl5 h (At pb) n v (A.set i cn0)) :
    (∃ h', L41n0 [.ptr b 0, .int 63 (n : Int), v, .int 63 (i : Int)] h = .ret (.tup (.cons .nils (.cons (.bool false) .nil))) h' ∧ To (fun x => x = b ∨ x = pb) h h' ∧ Wf h' ∧ ¬ good t q i n) ∨
    (∃ h', L41n0 [.ptr b 0, .int 63 (n : Int), v, .int 63 (i : Int)] h = .norm [.ptr b 0, .int 63 (n : Int), v, .int 63 ((if (ent t q).1.tag = 5 then i + 2 else i + 1 : Nat) : Int)] h' ∧ good t q i n ∧ Pl5 h' (At pb) n v (A.set i (ent t q).1) ∧ CurQ h' lo b t (ent t q).2.2 ∧ To (fun x => x = b ∨ x = pb) h h' ∧ Wf h') := by
  have hi' : i < A.length := by omega
  have ci : (i : Int) < (n : Int) := by omega
  have i1 := s1n i (by omega)
  have i2 := s1n (i + 1) (by omega)
  have tb : ∀ {g g' : Hp}, To (At b) g g' → To (fun x => x = b ∨ x = pb) g g' := fun t => t.mono fun x _ e => .inl e
  have tp : ∀ {g g' : Hp}, To (At pb) g g' → To (fun x => x = b ∨ x = pb) g g' := fun t => t.mono fun x _ e => .inr e
  have pb_ : ∀ x, At pb x → ¬ At b x := fun x e f => by have : x = pb := e; have : x = b := f; omega
  obtain ⟨pb1, po, x1, -⟩ := hp.pt i (by rw [List.length_set]; exact hi')
  obtain ⟨h1, e1, q1, o1, w1⟩ := r1 hc hw
  obtain ⟨h2, s0, s0', p2, o2, w2⟩ := Pl5.w0 w1 (hp.to o1 pb_) hi' x1 (val t q 1)
  have cu : ∀ {g g' : Hp} {q' : Sq}, CurQ g lo b t q' → To (At pb) g g' → CurQ g' lo b t q' := fun c o => c.to o (fun x _ hx e => by have : x = pb := e; omega)
  have q2 := cu q1 o2
  obtain ⟨l0, l0'⟩ := p2.g0 hi' x1
  simp only at l0 l0'
  have T2 := (tb o1).trans (tp o2)
  generalize hg : val t q 1 = g at *
  have f1 : (((g : Nat) : Int) == 1) = decide (g = 1) := nbeq g 1
  have f3 : (((g : Nat) : Int) == 3) = decide (g = 3) := nbeq g 3
  have f5 : (((g : Nat) : Int) == 5) = decide (g = 5) := nbeq g 5
  have f7 : (((g : Nat) : Int) == 7) = decide (g = 7) := nbeq g 7
  have f8 : (((g : Nat) : Int) == 8) = decide (g = 8) := nbeq g 8
  have f9 : (((g : Nat) : Int) == 9) = decide (g = 9) := nbeq g 9
  have f10 : (((g : Nat) : Int) == 10) = decide (g = 10) := nbeq g 10
  have f11 : (((g : Nat) : Int) == 11) = decide (g = 11) := nbeq g 11
  have f12 : (((g : Nat) : Int) == 12) = decide (g = 12) := nbeq g 12
  by_cases d1 : g = 1
  · have hif : (if g = 5 then i + 2 else i + 1) = i + 1 := if_neg (by omega)
    rw [decide_eq_true d1] at f1
    obtain ⟨h3, e3, q3, o3, w3⟩ := r2 q2 w2
    obtain ⟨vs, h4, e4, bs4, q4, o4, w4⟩ := rS q3 w3 (val t (adv t q 1) 2 : Int)
    obtain ⟨h5, s5, s5', p5, o5, w5⟩ := Pl5.w1 w4 ((p2.to o3 pb_).to o4 pb_) hi' x1 (wtx t (adv t (adv t q 1) 2) (val t (adv t q 1) 2 : Int))
    have q5 := cu q4 o5
    have T5 := ((T2.trans (tb o3)).trans (tb o4)).trans (tp o5)
    obtain ⟨y2, y2'⟩ := rbad q5
    have he : ent t q = (⟨g, wtx t (adv t (adv t q 1) 2) (val t (adv t q 1) 2 : Int), 0, 0, 0⟩, true, adv t (adv t (adv t q 1) 2) (val t (adv t q 1) 2 : Int)) := by unfold ent; simp only [hg, d1]; rfl
    cases hbad : (adv t (adv t (adv t q 1) 2) (val t (adv t q 1) 2 : Int)).2 with
    | true =>
      rw [hbad] at y2 y2'
      exact .inl ⟨h5, by simp only [↓L41n0, ci, ↓e1, ↓x1, ↓cP_p, ↓s0, ↓s0', ↓l0, ↓l0', f1, ↓e3, ↓e4, ↓bs4, ↓s5, ↓s5', ↓nck_p, ↓y2, ↓y2', blk_n2, blk_r1, ↓cK_nils, ↓SD, SA, Int.ofNat_eq_natCast, Int.cast_ofNat_Int, Int.reduceBEq, Int.reduceAdd, Int.reduceNeg, Int.reduceNegSucc, Int.reduceLT, Int.reduceLE, Int.reduceMul, Int.reduceTMod, Int.reduceSub, Int.reduceBNe, Bool.not_true, Bool.not_false, decide_true, decide_false, ne_eq, not_false_eq_true, Int.reduceEq, reduceCtorEq]; try rfl, T5, w5, fun hh => by have := hh.2.1; rw [he] at this; simp only at this; rw [hbad] at this; cases this⟩
    | false =>
      rw [hbad] at y2 y2'
      refine .inr ⟨h5, ?_, ⟨by rw [he], by rw [he]; exact hbad, by rw [he]; simp only; omega⟩, by rw [he]; exact p5, by rw [he]; exact q5, T5, w5⟩
      rw [he]
      show L41n0 [.ptr b 0, .int 63 (n : Int), v, .int 63 (i : Int)] h = .norm [.ptr b 0, .int 63 (n : Int), v, .int 63 ((if g = 5 then i + 2 else i + 1 : Nat) : Int)] h5
      rw [hif]
      simp only [↓L41n0, ci, ↓e1, ↓x1, ↓cP_p, ↓s0, ↓s0', ↓l0, ↓l0', f1, ↓e3, ↓e4, ↓bs4, ↓s5, ↓s5', ↓nck_p, ↓y2, ↓y2', blk_n2, blk_n1, i1, ↓SD, SA, Int.ofNat_eq_natCast, Int.cast_ofNat_Int, Int.reduceBEq, Int.reduceAdd, Int.reduceNeg, Int.reduceNegSucc, Int.reduceLT, Int.reduceLE, Int.reduceMul, Int.reduceTMod, Int.reduceSub, Int.reduceBNe, Bool.not_true, Bool.not_false, decide_true, decide_false, ne_eq, not_false_eq_true, Int.reduceEq, reduceCtorEq]; try rfl
  rw [decide_eq_false d1] at f1
  by_cases d3 : g = 3
  · have hif : (if g = 5 then i + 2 else i + 1) = i + 1 := if_neg (by omega)
    rw [decide_eq_true d3] at f3
    obtain ⟨h3, e3, q3, o3, w3⟩ := r4 q2 w2
    obtain ⟨h5, s5, s5', p5, o5, w5⟩ := Pl5.w2 w3 (p2.to o3 pb_) hi' x1 (wrapC 31 (val t (adv t q 1) 4 : Int))
    have q5 := cu q3 o5
    have T5 := (T2.trans (tb o3)).trans (tp o5)
    have hn32 : n32 (val t (adv t q 1) 4) = wrapC 31 (val t (adv t q 1) 4 : Int) := ww6331 _
    rw [← hn32] at p5
    obtain ⟨y2, y2'⟩ := rbad q5
    have he : ent t q = (⟨g, [], n32 (val t (adv t q 1) 4), 0, 0⟩, true, adv t (adv t q 1) 4) := by unfold ent; simp only [hg, d3]; rfl
    cases hbad : (adv t (adv t q 1) 4).2 with
    | true =>
      rw [hbad] at y2 y2'
      exact .inl ⟨h5, by simp only [↓L41n0, ci, ↓e1, ↓x1, ↓cP_p, ↓s0, ↓s0', ↓l0, ↓l0', f1, f3, ↓e3, ↓s5, ↓s5', ↓nck_p, ↓y2, ↓y2', blk_n2, blk_r1, ↓cK_nils, ↓SD, SA, Int.ofNat_eq_natCast, Int.cast_ofNat_Int, Int.reduceBEq, Int.reduceAdd, Int.reduceNeg, Int.reduceNegSucc, Int.reduceLT, Int.reduceLE, Int.reduceMul, Int.reduceTMod, Int.reduceSub, Int.reduceBNe, Bool.not_true, Bool.not_false, decide_true, decide_false, ne_eq, not_false_eq_true, Int.reduceEq, reduceCtorEq]; try rfl, T5, w5, fun hh => by have := hh.2.1; rw [he] at this; simp only at this; rw [hbad] at this; cases this⟩
    | false =>
      rw [hbad] at y2 y2'
      refine .inr ⟨h5, ?_, ⟨by rw [he], by rw [he]; exact hbad, by rw [he]; simp only; omega⟩, by rw [he]; exact p5, by rw [he]; exact q5, T5, w5⟩
      rw [he]
      show L41n0 [.ptr b 0, .int 63 (n : Int), v, .int 63 (i : Int)] h = .norm [.ptr b 0, .int 63 (n : Int), v, .int 63 ((if g = 5 then i + 2 else i + 1 : Nat) : Int)] h5
      rw [hif]
      simp only [↓L41n0, ci, ↓e1, ↓x1, ↓cP_p, ↓s0, ↓s0', ↓l0, ↓l0', f1, f3, ↓e3, ↓s5, ↓s5', ↓nck_p, ↓y2, ↓y2', blk_n2, blk_n1, i1, ↓SD, SA, Int.ofNat_eq_natCast, Int.cast_ofNat_Int, Int.reduceBEq, Int.reduceAdd, Int.reduceNeg, Int.reduceNegSucc, Int.reduceLT, Int.reduceLE, Int.reduceMul, Int.reduceTMod, Int.reduceSub, Int.reduceBNe, Bool.not_true, Bool.not_false, decide_true, decide_false, ne_eq, not_false_eq_true, Int.reduceEq, reduceCtorEq]; try rfl
  rw [decide_eq_false d3] at f3
  by_cases d5 : g = 5
  · have hif : (if g = 5 then i + 2 else i + 1) = i + 2 := if_pos (by omega)
    rw [decide_eq_true d5] at f5
    obtain ⟨h3, e3, q3, o3, w3⟩ := r8 q2 w2
    obtain ⟨h5, s5, s5', p5, o5, w5⟩ := Pl5.w2 w3 (p2.to o3 pb_) hi' x1 (wrapC 63 (val t (adv t q 1) 8 : Int))
    have q5 := cu q3 o5
    have T5 := (T2.trans (tb o3)).trans (tp o5)
    have he : ent t q = (⟨g, [], n64 (val t (adv t q 1) 4) (val t (adv t (adv t q 1) 4) 4), 0, 0⟩, true, adv t (adv t (adv t q 1) 4) 4) := by unfold ent; simp only [hg, d5]; rfl
    obtain ⟨y2, y2'⟩ := rbad q5
    by_cases hlast : i + 1 < n
    rotate_left
    · have c2 : ¬ ((i + 1 : Nat) : Int) < (n : Int) := by omega
      exact .inl ⟨h5, by simp only [↓L41n0, ci, ↓e1, ↓x1, ↓cP_p, ↓s0, ↓s0', ↓l0, ↓l0', f1, f3, f5, ↓e3, ↓s5, ↓s5', i1, c2, blk_r2, blk_r1, ↓cK_nils, ↓SD, SA, Int.ofNat_eq_natCast, Int.cast_ofNat_Int, Int.reduceBEq, Int.reduceAdd, Int.reduceNeg, Int.reduceNegSucc, Int.reduceLT, Int.reduceLE, Int.reduceMul, Int.reduceTMod, Int.reduceSub, Int.reduceBNe, Bool.not_true, Bool.not_false, decide_true, decide_false, ne_eq, not_false_eq_true, Int.reduceEq, reduceCtorEq]; try rfl, T5, w5, fun hh => hh.2.2 ⟨by rw [he]; exact d5, by omega⟩⟩
    have c2 : ((i + 1 : Nat) : Int) < (n : Int) := by omega
    cases hbad : (adv t (adv t q 1) 8).2 with
    | true =>
      rw [hbad] at y2 y2'
      have hbb := bad8 _ hbad
      exact .inl ⟨h5, by simp only [↓L41n0, ci, ↓e1, ↓x1, ↓cP_p, ↓s0, ↓s0', ↓l0, ↓l0', f1, f3, f5, ↓e3, ↓s5, ↓s5', i1, c2, ↓nck_p, ↓y2, ↓y2', blk_n2, blk_r1, ↓cK_nils, ↓SD, SA, Int.ofNat_eq_natCast, Int.cast_ofNat_Int, Int.reduceBEq, Int.reduceAdd, Int.reduceNeg, Int.reduceNegSucc, Int.reduceLT, Int.reduceLE, Int.reduceMul, Int.reduceTMod, Int.reduceSub, Int.reduceBNe, Bool.not_true, Bool.not_false, decide_true, decide_false, ne_eq, not_false_eq_true, Int.reduceEq, reduceCtorEq]; try rfl, T5, w5, fun hh => by have := hh.2.1; rw [he] at this; simp only at this; rw [hbb] at this; cases this⟩
    | false =>
      rw [hbad] at y2 y2'
      obtain ⟨v81, v82⟩ := val8 hc.byt _ hbad
      rw [← v82] at p5
      rw [v81] at he
      refine .inr ⟨h5, ?_, ⟨by rw [he], by rw [he]; exact hbad, by rw [he]; simp only; omega⟩, by rw [he]; exact p5, by rw [he]; exact q5, T5, w5⟩
      rw [he]
      show L41n0 [.ptr b 0, .int 63 (n : Int), v, .int 63 (i : Int)] h = .norm [.ptr b 0, .int 63 (n : Int), v, .int 63 ((if g = 5 then i + 2 else i + 1 : Nat) : Int)] h5
      rw [hif]
      simp only [↓L41n0, ci, ↓e1, ↓x1, ↓cP_p, ↓s0, ↓s0', ↓l0, ↓l0', f1, f3, f5, ↓e3, ↓s5, ↓s5', i1, c2, ↓nck_p, ↓y2, ↓y2', blk_n2, blk_n1, i2, ↓SD, SA, Int.ofNat_eq_natCast, Int.cast_ofNat_Int, Int.reduceBEq, Int.reduceAdd, Int.reduceNeg, Int.reduceNegSucc, Int.reduceLT, Int.reduceLE, Int.reduceMul, Int.reduceTMod, Int.reduceSub, Int.reduceBNe, Bool.not_true, Bool.not_false, decide_true, decide_false, ne_eq, not_false_eq_true, Int.reduceEq, reduceCtorEq]; try rfl
  rw [decide_eq_false d5] at f5
  by_cases d7 : g = 7
  · have hif : (if g = 5 then i + 2 else i + 1) = i + 1 := if_neg (by omega)
    rw [decide_eq_true d7] at f7
    obtain ⟨h3, e3, q3, o3, w3⟩ := r2 q2 w2
    obtain ⟨h5, s5, s5', p5, o5, w5⟩ := Pl5.w3 w3 (p2.to o3 pb_) hi' x1 (val t (adv t q 1) 2)
    have q5 := cu q3 o5
    have T5 := (T2.trans (tb o3)).trans (tp o5)
    obtain ⟨y2, y2'⟩ := rbad q5
    have he : ent t q = (⟨g, [], 0, val t (adv t q 1) 2, 0⟩, true, adv t (adv t q 1) 2) := by unfold ent; simp only [hg, d7]; rfl
    cases hbad : (adv t (adv t q 1) 2).2 with
    | true =>
      rw [hbad] at y2 y2'
      exact .inl ⟨h5, by simp only [↓L41n0, ci, ↓e1, ↓x1, ↓cP_p, ↓s0, ↓s0', ↓l0, ↓l0', f1, f3, f5, f7, ↓e3, ↓s5, ↓s5', ↓nck_p, ↓y2, ↓y2', blk_n2, blk_r1, ↓cK_nils, ↓SD, SA, Int.ofNat_eq_natCast, Int.cast_ofNat_Int, Int.reduceBEq, Int.reduceAdd, Int.reduceNeg, Int.reduceNegSucc, Int.reduceLT, Int.reduceLE, Int.reduceMul, Int.reduceTMod, Int.reduceSub, Int.reduceBNe, Bool.not_true, Bool.not_false, decide_true, decide_false, ne_eq, not_false_eq_true, Int.reduceEq, reduceCtorEq]; try rfl, T5, w5, fun hh => by have := hh.2.1; rw [he] at this; simp only at this; rw [hbad] at this; cases this⟩
    | false =>
      rw [hbad] at y2 y2'
      refine .inr ⟨h5, ?_, ⟨by rw [he], by rw [he]; exact hbad, by rw [he]; simp only; omega⟩, by rw [he]; exact p5, by rw [he]; exact q5, T5, w5⟩
      rw [he]
      show L41n0 [.ptr b 0, .int 63 (n : Int), v, .int 63 (i : Int)] h = .norm [.ptr b 0, .int 63 (n : Int), v, .int 63 ((if g = 5 then i + 2 else i + 1 : Nat) : Int)] h5
      rw [hif]
      simp only [↓L41n0, ci, ↓e1, ↓x1, ↓cP_p, ↓s0, ↓s0', ↓l0, ↓l0', f1, f3, f5, f7, ↓e3, ↓s5, ↓s5', ↓nck_p, ↓y2, ↓y2', blk_n2, blk_n1, i1, ↓SD, SA, Int.ofNat_eq_natCast, Int.cast_ofNat_Int, Int.reduceBEq, Int.reduceAdd, Int.reduceNeg, Int.reduceNegSucc, Int.reduceLT, Int.reduceLE, Int.reduceMul, Int.reduceTMod, Int.reduceSub, Int.reduceBNe, Bool.not_true, Bool.not_false, decide_true, decide_false, ne_eq, not_false_eq_true, Int.reduceEq, reduceCtorEq]; try rfl
  rw [decide_eq_false d7] at f7
  by_cases d8 : g = 8
  · have hif : (if g = 5 then i + 2 else i + 1) = i + 1 := if_neg (by omega)
    rw [decide_eq_true d8] at f8
    obtain ⟨h3, e3, q3, o3, w3⟩ := r2 q2 w2
    obtain ⟨h5, s5, s5', p5, o5, w5⟩ := Pl5.w3 w3 (p2.to o3 pb_) hi' x1 (val t (adv t q 1) 2)
    have q5 := cu q3 o5
    have T5 := (T2.trans (tb o3)).trans (tp o5)
    obtain ⟨y2, y2'⟩ := rbad q5
    have he : ent t q = (⟨g, [], 0, val t (adv t q 1) 2, 0⟩, true, adv t (adv t q 1) 2) := by unfold ent; simp only [hg, d8]; rfl
    cases hbad : (adv t (adv t q 1) 2).2 with
    | true =>
      rw [hbad] at y2 y2'
      exact .inl ⟨h5, by simp only [↓L41n0, ci, ↓e1, ↓x1, ↓cP_p, ↓s0, ↓s0', ↓l0, ↓l0', f1, f3, f5, f7, f8, ↓e3, ↓s5, ↓s5', ↓nck_p, ↓y2, ↓y2', blk_n2, blk_r1, ↓cK_nils, ↓SD, SA, Int.ofNat_eq_natCast, Int.cast_ofNat_Int, Int.reduceBEq, Int.reduceAdd, Int.reduceNeg, Int.reduceNegSucc, Int.reduceLT, Int.reduceLE, Int.reduceMul, Int.reduceTMod, Int.reduceSub, Int.reduceBNe, Bool.not_true, Bool.not_false, decide_true, decide_false, ne_eq, not_false_eq_true, Int.reduceEq, reduceCtorEq]; try rfl, T5, w5, fun hh => by have := hh.2.1; rw [he] at this; simp only at this; rw [hbad] at this; cases this⟩
    | false =>
      rw [hbad] at y2 y2'
      refine .inr ⟨h5, ?_, ⟨by rw [he], by rw [he]; exact hbad, by rw [he]; simp only; omega⟩, by rw [he]; exact p5, by rw [he]; exact q5, T5, w5⟩
      rw [he]
      show L41n0 [.ptr b 0, .int 63 (n : Int), v, .int 63 (i : Int)] h = .norm [.ptr b 0, .int 63 (n : Int), v, .int 63 ((if g = 5 then i + 2 else i + 1 : Nat) : Int)] h5
      rw [hif]
      simp only [↓L41n0, ci, ↓e1, ↓x1, ↓cP_p, ↓s0, ↓s0', ↓l0, ↓l0', f1, f3, f5, f7, f8, ↓e3, ↓s5, ↓s5', ↓nck_p, ↓y2, ↓y2', blk_n2, blk_n1, i1, ↓SD, SA, Int.ofNat_eq_natCast, Int.cast_ofNat_Int, Int.reduceBEq, Int.reduceAdd, Int.reduceNeg, Int.reduceNegSucc, Int.reduceLT, Int.reduceLE, Int.reduceMul, Int.reduceTMod, Int.reduceSub, Int.reduceBNe, Bool.not_true, Bool.not_false, decide_true, decide_false, ne_eq, not_false_eq_true, Int.reduceEq, reduceCtorEq]; try rfl
  rw [decide_eq_false d8] at f8
  by_cases d9 : g = 9
  · have hif : (if g = 5 then i + 2 else i + 1) = i + 1 := if_neg (by omega)
    rw [decide_eq_true d9] at f9
    obtain ⟨h3, e3, q3, o3, w3⟩ := r2 q2 w2
    obtain ⟨h5, s5, s5', p5, o5, w5⟩ := Pl5.w3 w3 (p2.to o3 pb_) hi' x1 (val t (adv t q 1) 2)
    obtain ⟨h6, e6, q6, o6, w6⟩ := r2 (cu q3 o5) w5
    obtain ⟨h7, s7, s7', p7, o7, w7⟩ := Pl5.w4 w6 (p5.to o6 pb_) hi' x1 (val t (adv t (adv t q 1) 2) 2)
    have q7 := cu q6 o7
    have T7 := (((T2.trans (tb o3)).trans (tp o5)).trans (tb o6)).trans (tp o7)
    obtain ⟨y2, y2'⟩ := rbad q7
    have he : ent t q = (⟨g, [], 0, val t (adv t q 1) 2, val t (adv t (adv t q 1) 2) 2⟩, true, adv t (adv t (adv t q 1) 2) 2) := by unfold ent; simp only [hg, d9]; rfl
    cases hbad : (adv t (adv t (adv t q 1) 2) 2).2 with
    | true =>
      rw [hbad] at y2 y2'
      exact .inl ⟨h7, by simp only [↓L41n0, ci, ↓e1, ↓x1, ↓cP_p, ↓s0, ↓s0', ↓l0, ↓l0', f1, f3, f5, f7, f8, f9, ↓e3, ↓s5, ↓s5', ↓e6, ↓s7, ↓s7', ↓nck_p, ↓y2, ↓y2', blk_n2, blk_r1, ↓cK_nils, ↓SD, SA, Int.ofNat_eq_natCast, Int.cast_ofNat_Int, Int.reduceBEq, Int.reduceAdd, Int.reduceNeg, Int.reduceNegSucc, Int.reduceLT, Int.reduceLE, Int.reduceMul, Int.reduceTMod, Int.reduceSub, Int.reduceBNe, Bool.not_true, Bool.not_false, decide_true, decide_false, ne_eq, not_false_eq_true, Int.reduceEq, reduceCtorEq]; try rfl, T7, w7, fun hh => by have := hh.2.1; rw [he] at this; simp only at this; rw [hbad] at this; cases this⟩
    | false =>
      rw [hbad] at y2 y2'
      refine .inr ⟨h7, ?_, ⟨by rw [he], by rw [he]; exact hbad, by rw [he]; simp only; omega⟩, by rw [he]; exact p7, by rw [he]; exact q7, T7, w7⟩
      rw [he]
      show L41n0 [.ptr b 0, .int 63 (n : Int), v, .int 63 (i : Int)] h = .norm [.ptr b 0, .int 63 (n : Int), v, .int 63 ((if g = 5 then i + 2 else i + 1 : Nat) : Int)] h7
      rw [hif]
      simp only [↓L41n0, ci, ↓e1, ↓x1, ↓cP_p, ↓s0, ↓s0', ↓l0, ↓l0', f1, f3, f5, f7, f8, f9, ↓e3, ↓s5, ↓s5', ↓e6, ↓s7, ↓s7', ↓nck_p, ↓y2, ↓y2', blk_n2, blk_n1, i1, ↓SD, SA, Int.ofNat_eq_natCast, Int.cast_ofNat_Int, Int.reduceBEq, Int.reduceAdd, Int.reduceNeg, Int.reduceNegSucc, Int.reduceLT, Int.reduceLE, Int.reduceMul, Int.reduceTMod, Int.reduceSub, Int.reduceBNe, Bool.not_true, Bool.not_false, decide_true, decide_false, ne_eq, not_false_eq_true, Int.reduceEq, reduceCtorEq]; try rfl
  rw [decide_eq_false d9] at f9
  by_cases d10 : g = 10
  · have hif : (if g = 5 then i + 2 else i + 1) = i + 1 := if_neg (by omega)
    rw [decide_eq_true d10] at f10
    obtain ⟨h3, e3, q3, o3, w3⟩ := r2 q2 w2
    obtain ⟨h5, s5, s5', p5, o5, w5⟩ := Pl5.w3 w3 (p2.to o3 pb_) hi' x1 (val t (adv t q 1) 2)
    obtain ⟨h6, e6, q6, o6, w6⟩ := r2 (cu q3 o5) w5
    obtain ⟨h7, s7, s7', p7, o7, w7⟩ := Pl5.w4 w6 (p5.to o6 pb_) hi' x1 (val t (adv t (adv t q 1) 2) 2)
    have q7 := cu q6 o7
    have T7 := (((T2.trans (tb o3)).trans (tp o5)).trans (tb o6)).trans (tp o7)
    obtain ⟨y2, y2'⟩ := rbad q7
    have he : ent t q = (⟨g, [], 0, val t (adv t q 1) 2, val t (adv t (adv t q 1) 2) 2⟩, true, adv t (adv t (adv t q 1) 2) 2) := by unfold ent; simp only [hg, d10]; rfl
    cases hbad : (adv t (adv t (adv t q 1) 2) 2).2 with
    | true =>
      rw [hbad] at y2 y2'
      exact .inl ⟨h7, by simp only [↓L41n0, ci, ↓e1, ↓x1, ↓cP_p, ↓s0, ↓s0', ↓l0, ↓l0', f1, f3, f5, f7, f8, f9, f10, ↓e3, ↓s5, ↓s5', ↓e6, ↓s7, ↓s7', ↓nck_p, ↓y2, ↓y2', blk_n2, blk_r1, ↓cK_nils, ↓SD, SA, Int.ofNat_eq_natCast, Int.cast_ofNat_Int, Int.reduceBEq, Int.reduceAdd, Int.reduceNeg, Int.reduceNegSucc, Int.reduceLT, Int.reduceLE, Int.reduceMul, Int.reduceTMod, Int.reduceSub, Int.reduceBNe, Bool.not_true, Bool.not_false, decide_true, decide_false, ne_eq, not_false_eq_true, Int.reduceEq, reduceCtorEq]; try rfl, T7, w7, fun hh => by have := hh.2.1; rw [he] at this; simp only at this; rw [hbad] at this; cases this⟩
    | false =>
      rw [hbad] at y2 y2'
      refine .inr ⟨h7, ?_, ⟨by rw [he], by rw [he]; exact hbad, by rw [he]; simp only; omega⟩, by rw [he]; exact p7, by rw [he]; exact q7, T7, w7⟩
      rw [he]
      show L41n0 [.ptr b 0, .int 63 (n : Int), v, .int 63 (i : Int)] h = .norm [.ptr b 0, .int 63 (n : Int), v, .int 63 ((if g = 5 then i + 2 else i + 1 : Nat) : Int)] h7
      rw [hif]
      simp only [↓L41n0, ci, ↓e1, ↓x1, ↓cP_p, ↓s0, ↓s0', ↓l0, ↓l0', f1, f3, f5, f7, f8, f9, f10, ↓e3, ↓s5, ↓s5', ↓e6, ↓s7, ↓s7', ↓nck_p, ↓y2, ↓y2', blk_n2, blk_n1, i1, ↓SD, SA, Int.ofNat_eq_natCast, Int.cast_ofNat_Int, Int.reduceBEq, Int.reduceAdd, Int.reduceNeg, Int.reduceNegSucc, Int.reduceLT, Int.reduceLE, Int.reduceMul, Int.reduceTMod, Int.reduceSub, Int.reduceBNe, Bool.not_true, Bool.not_false, decide_true, decide_false, ne_eq, not_false_eq_true, Int.reduceEq, reduceCtorEq]; try rfl
  rw [decide_eq_false d10] at f10
  by_cases d11 : g = 11
  · have hif : (if g = 5 then i + 2 else i + 1) = i + 1 := if_neg (by omega)
    rw [decide_eq_true d11] at f11
    obtain ⟨h3, e3, q3, o3, w3⟩ := r2 q2 w2
    obtain ⟨h5, s5, s5', p5, o5, w5⟩ := Pl5.w3 w3 (p2.to o3 pb_) hi' x1 (val t (adv t q 1) 2)
    obtain ⟨h6, e6, q6, o6, w6⟩ := r2 (cu q3 o5) w5
    obtain ⟨h7, s7, s7', p7, o7, w7⟩ := Pl5.w4 w6 (p5.to o6 pb_) hi' x1 (val t (adv t (adv t q 1) 2) 2)
    have q7 := cu q6 o7
    have T7 := (((T2.trans (tb o3)).trans (tp o5)).trans (tb o6)).trans (tp o7)
    obtain ⟨y2, y2'⟩ := rbad q7
    have he : ent t q = (⟨g, [], 0, val t (adv t q 1) 2, val t (adv t (adv t q 1) 2) 2⟩, true, adv t (adv t (adv t q 1) 2) 2) := by unfold ent; simp only [hg, d11]; rfl
    cases hbad : (adv t (adv t (adv t q 1) 2) 2).2 with
    | true =>
      rw [hbad] at y2 y2'
      exact .inl ⟨h7, by simp only [↓L41n0, ci, ↓e1, ↓x1, ↓cP_p, ↓s0, ↓s0', ↓l0, ↓l0', f1, f3, f5, f7, f8, f9, f10, f11, ↓e3, ↓s5, ↓s5', ↓e6, ↓s7, ↓s7', ↓nck_p, ↓y2, ↓y2', blk_n2, blk_r1, ↓cK_nils, ↓SD, SA, Int.ofNat_eq_natCast, Int.cast_ofNat_Int, Int.reduceBEq, Int.reduceAdd, Int.reduceNeg, Int.reduceNegSucc, Int.reduceLT, Int.reduceLE, Int.reduceMul, Int.reduceTMod, Int.reduceSub, Int.reduceBNe, Bool.not_true, Bool.not_false, decide_true, decide_false, ne_eq, not_false_eq_true, Int.reduceEq, reduceCtorEq]; try rfl, T7, w7, fun hh => by have := hh.2.1; rw [he] at this; simp only at this; rw [hbad] at this; cases this⟩
    | false =>
      rw [hbad] at y2 y2'
      refine .inr ⟨h7, ?_, ⟨by rw [he], by rw [he]; exact hbad, by rw [he]; simp only; omega⟩, by rw [he]; exact p7, by rw [he]; exact q7, T7, w7⟩
      rw [he]
      show L41n0 [.ptr b 0, .int 63 (n : Int), v, .int 63 (i : Int)] h = .norm [.ptr b 0, .int 63 (n : Int), v, .int 63 ((if g = 5 then i + 2 else i + 1 : Nat) : Int)] h7
      rw [hif]
      simp only [↓L41n0, ci, ↓e1, ↓x1, ↓cP_p, ↓s0, ↓s0', ↓l0, ↓l0', f1, f3, f5, f7, f8, f9, f10, f11, ↓e3, ↓s5, ↓s5', ↓e6, ↓s7, ↓s7', ↓nck_p, ↓y2, ↓y2', blk_n2, blk_n1, i1, ↓SD, SA, Int.ofNat_eq_natCast, Int.cast_ofNat_Int, Int.reduceBEq, Int.reduceAdd, Int.reduceNeg, Int.reduceNegSucc, Int.reduceLT, Int.reduceLE, Int.reduceMul, Int.reduceTMod, Int.reduceSub, Int.reduceBNe, Bool.not_true, Bool.not_false, decide_true, decide_false, ne_eq, not_false_eq_true, Int.reduceEq, reduceCtorEq]; try rfl
  rw [decide_eq_false d11] at f11
  by_cases d12 : g = 12
  · have hif : (if g = 5 then i + 2 else i + 1) = i + 1 := if_neg (by omega)
    rw [decide_eq_true d12] at f12
    obtain ⟨h3, e3, q3, o3, w3⟩ := r2 q2 w2
    obtain ⟨h5, s5, s5', p5, o5, w5⟩ := Pl5.w3 w3 (p2.to o3 pb_) hi' x1 (val t (adv t q 1) 2)
    obtain ⟨h6, e6, q6, o6, w6⟩ := r2 (cu q3 o5) w5
    obtain ⟨h7, s7, s7', p7, o7, w7⟩ := Pl5.w4 w6 (p5.to o6 pb_) hi' x1 (val t (adv t (adv t q 1) 2) 2)
    have q7 := cu q6 o7
    have T7 := (((T2.trans (tb o3)).trans (tp o5)).trans (tb o6)).trans (tp o7)
    obtain ⟨y2, y2'⟩ := rbad q7
    have he : ent t q = (⟨g, [], 0, val t (adv t q 1) 2, val t (adv t (adv t q 1) 2) 2⟩, true, adv t (adv t (adv t q 1) 2) 2) := by unfold ent; simp only [hg, d12]; rfl
    cases hbad : (adv t (adv t (adv t q 1) 2) 2).2 with
    | true =>
      rw [hbad] at y2 y2'
      exact .inl ⟨h7, by simp only [↓L41n0, ci, ↓e1, ↓x1, ↓cP_p, ↓s0, ↓s0', ↓l0, ↓l0', f1, f3, f5, f7, f8, f9, f10, f11, f12, ↓e3, ↓s5, ↓s5', ↓e6, ↓s7, ↓s7', ↓nck_p, ↓y2, ↓y2', blk_n2, blk_r1, ↓cK_nils, ↓SD, SA, Int.ofNat_eq_natCast, Int.cast_ofNat_Int, Int.reduceBEq, Int.reduceAdd, Int.reduceNeg, Int.reduceNegSucc, Int.reduceLT, Int.reduceLE, Int.reduceMul, Int.reduceTMod, Int.reduceSub, Int.reduceBNe, Bool.not_true, Bool.not_false, decide_true, decide_false, ne_eq, not_false_eq_true, Int.reduceEq, reduceCtorEq]; try rfl, T7, w7, fun hh => by have := hh.2.1; rw [he] at this; simp only at this; rw [hbad] at this; cases this⟩
    | false =>
      rw [hbad] at y2 y2'
      refine .inr ⟨h7, ?_, ⟨by rw [he], by rw [he]; exact hbad, by rw [he]; simp only; omega⟩, by rw [he]; exact p7, by rw [he]; exact q7, T7, w7⟩
      rw [he]
      show L41n0 [.ptr b 0, .int 63 (n : Int), v, .int 63 (i : Int)] h = .norm [.ptr b 0, .int 63 (n : Int), v, .int 63 ((if g = 5 then i + 2 else i + 1 : Nat) : Int)] h7
      rw [hif]
      simp only [↓L41n0, ci, ↓e1, ↓x1, ↓cP_p, ↓s0, ↓s0', ↓l0, ↓l0', f1, f3, f5, f7, f8, f9, f10, f11, f12, ↓e3, ↓s5, ↓s5', ↓e6, ↓s7, ↓s7', ↓nck_p, ↓y2, ↓y2', blk_n2, blk_n1, i1, ↓SD, SA, Int.ofNat_eq_natCast, Int.cast_ofNat_Int, Int.reduceBEq, Int.reduceAdd, Int.reduceNeg, Int.reduceNegSucc, Int.reduceLT, Int.reduceLE, Int.reduceMul, Int.reduceTMod, Int.reduceSub, Int.reduceBNe, Bool.not_true, Bool.not_false, decide_true, decide_false, ne_eq, not_false_eq_true, Int.reduceEq, reduceCtorEq]; try rfl
  rw [decide_eq_false d12] at f12
  have he : ent t q = (cn0, false, adv t q 1) := by
    unfold ent
    simp only [hg]
    rw [if_neg d1, if_neg d3, if_neg d5, if_neg (by omega), if_neg (by omega)]
  exact .inl ⟨h2, by simp only [↓L41n0, ci, ↓e1, ↓x1, ↓cP_p, ↓s0, ↓s0', ↓l0, ↓l0', f1, f3, f5, f7, f8, f9, f10, f11, f12, blk_r2, blk_r1, ↓cK_nils, ↓SD, SA, Int.ofNat_eq_natCast, Int.cast_ofNat_Int, Int.reduceBEq, Int.reduceAdd, Int.reduceNeg, Int.reduceNegSucc, Int.reduceLT, Int.reduceLE, Int.reduceMul, Int.reduceTMod, Int.reduceSub, Int.reduceBNe, Bool.not_true, Bool.not_false, decide_true, decide_false, ne_eq, not_false_eq_true, Int.reduceEq, reduceCtorEq]; try rfl, T2, w2, fun hh => by have := hh.1; rw [he] at this; cases this⟩
end Go.Proofs.YtnpfppddongbhaaDoor
end
