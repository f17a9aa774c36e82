/-
  The reader of stated frames: what each of its functions answers (part Mp13).
-/
import Derived.Test.YtnpfppddongbhaaMp12
set_option linter.unusedVariables false
set_option linter.unusedSimpArgs false
namespace Go.Proofs.Ytnpfppddongbhaa
open Go Go.AM
set_option autoImplicit false
set_option linter.unusedSimpArgs false
set_option linter.unusedVariables false
/-! ### how long the rows are -/
def Ok (m : Mv) : Prop := m.loc.length ≤ 65536 ∧ m.stk.length ≤ 65536
theorem fn_eq {m : Mv} {q : Sq} {r : Mv × Sq} (h : fn m q = some r) : r.1 = m := by
  unfold fn at h
  split at h
  · cases h; rfl
  · cases h
theorem kds_len {t : List Nat} : ∀ (n : Nat) (q : Sq) (l : List (Nat × Nat)) (r : List (Nat × Nat) × Sq), kds t n q l = some r → r.1.length = l.length + n := by
  intro n
  induction n with
  | zero => intro q l r h; have h : some (l, q) = some r := h; cases h; rfl
  | succ n ih =>
    intro q l r h
    have h : (if (kd t q).2.1 = true ∧ (kd t q).2.2.2 = false then kds t n (kd t q).2.2 (l ++ [(kd t q).1]) else none) = some r := h
    split at h
    · have := ih _ _ _ h; simp at this; omega
    · cases h
theorem en_small {t : List Nat} (hb : ∀ x ∈ t, x < 256) {q : Sq} {r : Mv × Sq} (h : en t q = some r) : Ok r.1 := by
  have v1 : val t q 1 < 256 := val_lt hb q 1
  have v2 : ∀ q, val t q 2 < 65536 := fun q => val_lt hb q 2
  unfold en at h
  split at h
  · rw [fn_eq h]; exact ⟨by simp, by simp⟩
  split at h
  · split at h
    · cases h
    · rename_i e; have := kds_len _ _ _ _ e; rw [fn_eq h]; exact ⟨by simp, by simp at this ⊢; omega⟩
  split at h
  · cases h
  split at h
  · split at h
    · cases h
    · rename_i e; have := kds_len _ _ _ _ e; rw [fn_eq h]; exact ⟨by simp, by simp at this ⊢; omega⟩
  split at h
  · rw [fn_eq h]; exact ⟨by simp, by simp⟩
  split at h
  · split at h
    · cases h
    · rename_i e; have := kds_len _ _ _ _ e; rw [fn_eq h]; exact ⟨by simp at this ⊢; omega, by simp⟩
  · split at h
    · cases h
    · rename_i e1
      split at h
      · cases h
      · rename_i e2
        have k1 := kds_len _ _ _ _ e1
        have k2 := kds_len _ _ _ _ e2
        have w1 := v2 (adv t (adv t q 1) 2)
        rw [fn_eq h]
        refine ⟨by simp at k1 ⊢; omega, ?_⟩
        rename_i r1 _ r2 _
        simp at k2 ⊢
        rw [k2]
        exact Nat.le_of_lt (v2 _)
theorem ens_small {t : List Nat} (hb : ∀ x ∈ t, x < 256) : ∀ (n : Nat) (q : Sq) (l : List Mv) (r : List Mv × Sq), ens t n q l = some r → (∀ m ∈ l, Ok m) → (∀ m ∈ r.1, Ok m) ∧ r.1.length = l.length + n := by
  intro n
  induction n with
  | zero => intro q l r h hl; have h : some (l, q) = some r := h; cases h; exact ⟨hl, rfl⟩
  | succ n ih =>
    intro q l r h hl
    have h : (match en t q with | none => none | some r => ens t n r.2 (l ++ [r.1])) = some r := h
    split at h
    · cases h
    · rename_i e
      have := ih _ _ _ h (fun m hm => by
        rcases List.mem_append.1 hm with hm | hm
        · exact hl m hm
        · rw [List.mem_singleton.1 hm]; exact en_small hb e)
      exact ⟨this.1, by rw [this.2]; simp; omega⟩
theorem rdm_small {t : List Nat} (hb : ∀ x ∈ t, x < 256) {ms : List Mv} (h : rdm t = some ms) : (∀ m ∈ ms, Ok m) ∧ ms.length ≤ 4096 := by
  unfold rdm at h
  split at h
  · cases h
  split at h
  · cases h
  split at h
  · cases h
  · rename_i e
    split at h
    · cases h
    · cases h
      have := ens_small hb _ _ _ _ e (fun m hm => by cases hm)
      exact ⟨this.1, by rw [this.2]; simp; omega⟩

/-! ### the same frames -/
theorem same_n (x : Nat) (k : Res) : same (.int 63 (x : Int)) (.int 63 (x : Int)) k = k := by
  have e : same (.int 63 (x : Int)) (.int 63 (x : Int)) k = ifB (bAnd (Nat.beq 63 63) (eqI (x : Int) (x : Int))) k .fail := rfl
  rw [e, eqI_eq, beq_self_eq_true]; rfl
theorem MR.pt {h : Hp} {N M : Nat} {v : AV} {ms : List Mv} (hm : MR h N M v ms) (i : Nat) (hi : i < ms.length) :
    ∃ b o vl vs P Q, (∀ k : AV → Res, ixA 4 v (.int 63 (i : Int)) k = k (.ptr b o)) ∧ (∀ k : AV → Res, ld1 h (.ptr b (Nat.add o 0)) k = k (.int 63 (ms[i].tag : Int))) ∧ (∀ k : AV → Res, ld1 h (.ptr b (Nat.add o 1)) k = k (.int 63 (ms[i].delta : Int))) ∧
      (∀ k : AV → Res, ld1 h (.ptr b (Nat.add o 2)) k = k vl) ∧ (∀ k : AV → Res, ld1 h (.ptr b (Nat.add o 3)) k = k vs) ∧ Rws h P 3 vl (ms[i].loc.map vP) ∧ Rws h Q 3 vs (ms[i].stk.map vP) := by
  obtain ⟨P, rs, r, hP, hl, hx⟩ := hm
  have hi' : i < rs.length := by omega
  obtain ⟨vl, vs, e, r1, r2⟩ := hx i hi hi'
  obtain ⟨b, o, e1, -, e3⟩ := r.pt i hi'
  have e : rs[i] = [.int 63 (ms[i].tag : Int), .int 63 (ms[i].delta : Int), vl, vs] := e
  refine ⟨b, o, vl, vs, _, _, e1, fun k => ?_, fun k => ?_, fun k => ?_, fun k => ?_, r1, r2⟩
  · have := e3 0 (by rw [e]; simp) k; simp only [e] at this; exact this
  · have := e3 1 (by rw [e]; simp) k; simp only [e] at this; exact this
  · have := e3 2 (by rw [e]; simp) k; simp only [e] at this; exact this
  · have := e3 3 (by rw [e]; simp) k; simp only [e] at this; exact this
theorem loop21 {h : Hp} {N M N' M' : Nat} {v w : AV} {ms : List Mv} (r1 : MR h N M v ms) (r2 : MR h N' M' w ms) (hs : ∀ m ∈ ms, Ok m) (hl : ms.length ≤ 4096) :
    ∀ (n i m : Nat), n < m → i + n = ms.length → lp L21n0 m [.bool true, v, w, .int 63 (i : Int)] h = .exit 0 [.bool true] h := by
  intro n
  induction n with
  | zero =>
    intro i m hm hi
    obtain ⟨m, rfl⟩ : ∃ k, m = k + 1 := ⟨m - 1, by omega⟩
    have c1 : ¬ (i : Int) < (ms.length : Int) := by omega
    have hlen := fun kk => r1.len kk
    exact lpx m (by simp only [↓L21n0, ↓hlen, c1, ↓uc_c, ↓uz_n, ↓cI_i, ↓cB_b, cB_b, ↓cT_t, cT_t, nth_z, nth_1, cK_b, ↓cK_b, ↓cK_i, cK_i, ifB_t, ifB_f, ↓ap_e, sel_t, sel_f, gsel_tt, gsel_tf, gsel_ft, gsel_ff, gsel_u, gd_tt, gd_tf, gd_ft, gd_ff, gd_u, ↓jn_n, jn_n, jn_r, ↓jn_r, blk_n, blk_r, ↓cl_r, cl_r, ↓iAdd_i, ↓iSub_i, ↓iMul_i, ↓iAnd_i, ↓iOr_i, ↓iXor_i, ↓iNeg_i, iQuo_i, iRem_i, ↓iConv_i, iConv_i, ↓bNot_b, bNot_b, ↓eqN_i, ↓ltN_i, ↓eqB_b, bnot_e, Int.ofNat_eq_natCast, Int.cast_ofNat_Int, Int.reduceBEq, Int.reduceAdd, Int.reduceNeg, Int.reduceNegSucc, Int.reduceLT, Int.reduceLE, Int.reduceMul, Int.reduceTMod, Int.reduceSub, Int.reduceBNe, Bool.not_true, Bool.not_false, decide_true, decide_false, w63_in, w31_in, ne_eq, not_false_eq_true, Int.reduceEq, reduceCtorEq, ww3131, ww6363, ww3163, ww6331, ww3231, ww3263, ww6463, ww6364, sh31, sh63, sl63, m31, m63, n63, s5a, s5b, s6a, s6b, b31, b32, b63, c63, c64, d64, iShl_c, iShr_c, sr3, sr6, sr7])
  | succ n ih =>
    intro i m hm hi
    obtain ⟨m, rfl⟩ : ∃ k, m = k + 1 := ⟨m - 1, by omega⟩
    have c1 : (i : Int) < (ms.length : Int) := by omega
    have hlen := fun kk => r1.len kk
    obtain ⟨b1, o1, vl1, vs1, P1, Q1, x1, a0, a1, a2, a3, R1, S1⟩ := r1.pt i (by omega)
    obtain ⟨b2, o2, vl2, vs2, P2, Q2, x2, g0, g1, g2, g3, R2, S2⟩ := r2.pt i (by omega)
    have ho := hs _ (List.getElem_mem (show i < ms.length by omega))
    have e64a := t64 R1 R2 (by have := ho.1; omega)
    have e64b := t64 S1 S2 (by have := ho.2; omega)
    have i1 := s1n i (by omega)
    have gv : gsel (.bool false) false v = v := rfl
    have gw : gsel (.bool false) false w = w := rfl
    have gi : gsel (.bool false) false (.int 63 (i : Int)) = .int 63 (i : Int) := rfl
    have e : L21n0 [.bool true, v, w, .int 63 (i : Int)] h = .norm [.bool true, v, w, .int 63 ((i + 1 : Nat) : Int)] h := by
      simp only [↓L21n0, ↓hlen, c1, ↓x1, ↓x2, ↓cP_p, ↓a0, ↓a1, ↓a2, ↓a3, ↓g0, ↓g1, ↓g2, ↓g3, ↓gv, ↓gw, ↓gi, ↓e64a, ↓e64b, ↓same_n, i1, beq_self_eq_true, ↓uc_c, ↓uz_n, ↓cI_i, ↓cB_b, cB_b, ↓cT_t, cT_t, nth_z, nth_1, cK_b, ↓cK_b, ↓cK_i, cK_i, ifB_t, ifB_f, ↓ap_e, sel_t, sel_f, gsel_tt, gsel_tf, gsel_ft, gsel_ff, gsel_u, gd_tt, gd_tf, gd_ft, gd_ff, gd_u, ↓jn_n, jn_n, jn_r, ↓jn_r, blk_n, blk_r, ↓cl_r, cl_r, ↓iAdd_i, ↓iSub_i, ↓iMul_i, ↓iAnd_i, ↓iOr_i, ↓iXor_i, ↓iNeg_i, iQuo_i, iRem_i, ↓iConv_i, iConv_i, ↓bNot_b, bNot_b, ↓eqN_i, ↓ltN_i, ↓eqB_b, bnot_e, Int.ofNat_eq_natCast, Int.cast_ofNat_Int, Int.reduceBEq, Int.reduceAdd, Int.reduceNeg, Int.reduceNegSucc, Int.reduceLT, Int.reduceLE, Int.reduceMul, Int.reduceTMod, Int.reduceSub, Int.reduceBNe, Bool.not_true, Bool.not_false, decide_true, decide_false, w63_in, w31_in, ne_eq, not_false_eq_true, Int.reduceEq, reduceCtorEq, ww3131, ww6363, ww3163, ww6331, ww3231, ww3263, ww6463, ww6364, sh31, sh63, sl63, m31, m63, n63, s5a, s5b, s6a, s6b, b31, b32, b63, c63, c64, d64, iShl_c, iShr_c, sr3, sr6, sr7]
    rw [lpn m e]
    exact ih (i + 1) m (by omega) (by omega)
end Go.Proofs.Ytnpfppddongbhaa
