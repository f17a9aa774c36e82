/-
  Texts of class files, part 6: reckoned by the abstract machine.
-/
import Derived.Test.YtnpfppddongbhaaMu5
namespace Go.AM
/-- Does p hold of all places of a trie that hold something? -/
noncomputable def T.all {α : Type} (p : Nat → Bool) (t : T α) : (Nat → Nat) → Bool :=
  T.rec (motive := fun _ => (Nat → Nat) → Bool) (fun _ => true)
    (fun v _ _ il ir f => Bool.rec (motive := fun _ => Bool) false (Bool.rec (motive := fun _ => Bool) false (ir fun k => f (2 * k + 2)) (il fun k => f (2 * k + 1))) (Option.rec (motive := fun _ => Bool) true (fun _ => p (f 0)) v)) t
theorem T.all_get {α : Type} (p : Nat → Bool) : ∀ (t : T α) (f : Nat → Nat) (k : Nat) (v : α), T.all p t f = true → t.get k = some v → p (f k) = true := by
  intro t
  induction t with
  | e => intro f k v _ h; cases h
  | n o l r ihl ihr =>
    intro f k v ha hg
    have e : T.all p (.n o l r) f = Bool.rec (motive := fun _ => Bool) false (Bool.rec (motive := fun _ => Bool) false (T.all p r fun k => f (2 * k + 2)) (T.all p l fun k => f (2 * k + 1))) (Option.rec (motive := fun _ => Bool) true (fun _ => p (f 0)) o) := rfl
    rw [e, recB, recB] at ha
    have h1 : (Option.rec (motive := fun _ => Bool) true (fun _ => p (f 0)) o) = true := by
      by_cases q : (Option.rec (motive := fun _ => Bool) true (fun _ => p (f 0)) o) = true
      · exact q
      · rw [if_neg q] at ha; cases ha
    rw [if_pos h1] at ha
    have h2 : T.all p l (fun k => f (2 * k + 1)) = true := by
      by_cases q : T.all p l (fun k => f (2 * k + 1)) = true
      · exact q
      · rw [if_neg q] at ha; cases ha
    rw [if_pos h2] at ha
    cases k with
    | zero =>
      have hg : o = some v := hg
      subst hg
      exact h1
    | succ m =>
      rw [T.get_ns] at hg
      by_cases hm : m % 2 = 1
      · rw [if_pos hm] at hg
        have := ihr _ _ _ ha hg
        have e : 2 * (m / 2) + 2 = m + 1 := by omega
        simpa [e] using this
      · rw [if_neg hm] at hg
        have := ihl _ _ _ h2 hg
        have e : 2 * (m / 2) + 1 = m + 1 := by omega
        simpa [e] using this
noncomputable def wfB (h : Hp) : Bool := T.all (fun k => Nat.blt k h.nb) h.gs fun k => k
theorem wf_of {h : Hp} (hb : wfB h = true) : Wf h := by
  intro g hg
  cases hq : h.gs.get g with
  | none => rfl
  | some q =>
    have := T.all_get _ _ _ _ _ hb hq
    rw [blt_iff] at this
    omega
/-- True, and memory is in order. -/
noncomputable def isTW (r : Res) : Bool := Bool.rec (motive := fun _ => Bool) false (Res.rec (motive := fun _ => Bool) false (fun _ _ => false) (fun _ _ _ => false) (fun _ h => wfB h) r) (isT r)
theorem isTW_inv {r : Res} (h : isTW r = true) : ∃ h', r = .ret (.bool true) h' ∧ Wf h' := by
  have e : isTW r = Bool.rec (motive := fun _ => Bool) false (Res.rec (motive := fun _ => Bool) false (fun _ _ => false) (fun _ _ _ => false) (fun _ h => wfB h) r) (isT r) := rfl
  rw [e, recB] at h
  by_cases q : isT r = true
  · rw [if_pos q] at h
    obtain ⟨h', rfl⟩ := isT_inv q
    exact ⟨h', rfl, wf_of h⟩
  · rw [if_neg q] at h; cases h
end Go.AM
namespace Go.Proofs.Ytnpfppddongbhaa
open Go Go.AM
set_option autoImplicit false
set_option linter.unusedSimpArgs false
set_option linter.unusedVariables false
theorem t36 : ∃ h1, s36 [] H0 = .ret (.bool true) h1 ∧ Wf h1 := isTW_inv (by kernel_rfl)
/-- A text that is cut. -/
theorem t37 (n x c : Nat) (h : Hp) : s37 [.str n x, .int 63 (c : Int)] h = .ret (.str (min n c) (if c < n then x % 2 ^ (8 * c) else x)) h := by
  by_cases hc : c < n
  · have e1 : (c : Int) < (n : Int) := by omega
    have e2 : ∀ k : AV → Res, cutT (.str n x) none (some (.int 63 (c : Int))) k = k (.str c (x % 2 ^ (8 * c))) := fun k => by
      have e : cutT (.str n x) none (some (.int 63 (c : Int))) k = ifB (Nat.ble c n) (ifB (Nat.ble 0 c) (k (.str (Nat.sub c 0) (Nat.mod (Nat.shiftRight x (Nat.mul 8 0)) (Nat.pow 2 (Nat.mul 8 (Nat.sub c 0)))))) .fail) .fail := rfl
      rw [e, (ble_iff _ _).2 (by omega), (ble_iff _ _).2 (by omega)]
      show k (.str (c - 0) (((x >>> (8 * 0))) % 2 ^ (8 * (c - 0)))) = _
      rw [Nat.sub_zero, Nat.mul_zero, Nat.shiftRight_zero]
    rw [if_pos hc, Nat.min_eq_right (by omega)]
    simp only [↓s37, ↓lenS_s, e1, ↓e2, cK_s, ↓uc_c, ↓uz_n, ↓cI_i, ↓cB_b, cB_b, ↓cT_t, cT_t, nth_z, nth_1, cK_b, ↓cK_b, ↓cK_i, cK_i, ifB_t, ifB_f, ↓ap_e, sel_t, sel_f, gsel_tt, gsel_tf, gsel_ft, gsel_ff, gsel_u, gd_tt, gd_tf, gd_ft, gd_ff, gd_u, ↓jn_n, jn_n, jn_r, ↓jn_r, blk_n, blk_r, ↓cl_r, cl_r, ↓iAdd_i, ↓iSub_i, ↓iMul_i, ↓iAnd_i, ↓iOr_i, ↓iXor_i, ↓iNeg_i, iQuo_i, iRem_i, ↓iConv_i, iConv_i, ↓bNot_b, bNot_b, ↓eqN_i, ↓ltN_i, ↓eqB_b, bnot_e, Int.ofNat_eq_natCast, Int.cast_ofNat_Int, Int.reduceBEq, Int.reduceAdd, Int.reduceNeg, Int.reduceNegSucc, Int.reduceLT, Int.reduceLE, Int.reduceMul, Int.reduceTMod, Int.reduceSub, Int.reduceBNe, Bool.not_true, Bool.not_false, decide_true, decide_false, w63_in, w31_in, ne_eq, not_false_eq_true, Int.reduceEq, reduceCtorEq, ww3131, ww6363, ww3163, ww6331, ww3231, ww3263, ww6463, ww6364, sh31, sh63, sl63, m31, m63, n63, s5a, s5b, s6a, s6b, b31, b32, b63, c63, c64, d64, iShl_c, iShr_c, sr3, sr6, sr7]
  · have e1 : ¬ (c : Int) < (n : Int) := by omega
    rw [if_neg hc, Nat.min_eq_left (by omega)]
    simp only [↓s37, ↓lenS_s, e1, cK_s, ↓uc_c, ↓uz_n, ↓cI_i, ↓cB_b, cB_b, ↓cT_t, cT_t, nth_z, nth_1, cK_b, ↓cK_b, ↓cK_i, cK_i, ifB_t, ifB_f, ↓ap_e, sel_t, sel_f, gsel_tt, gsel_tf, gsel_ft, gsel_ff, gsel_u, gd_tt, gd_tf, gd_ft, gd_ff, gd_u, ↓jn_n, jn_n, jn_r, ↓jn_r, blk_n, blk_r, ↓cl_r, cl_r, ↓iAdd_i, ↓iSub_i, ↓iMul_i, ↓iAnd_i, ↓iOr_i, ↓iXor_i, ↓iNeg_i, iQuo_i, iRem_i, ↓iConv_i, iConv_i, ↓bNot_b, bNot_b, ↓eqN_i, ↓ltN_i, ↓eqB_b, bnot_e, Int.ofNat_eq_natCast, Int.cast_ofNat_Int, Int.reduceBEq, Int.reduceAdd, Int.reduceNeg, Int.reduceNegSucc, Int.reduceLT, Int.reduceLE, Int.reduceMul, Int.reduceTMod, Int.reduceSub, Int.reduceBNe, Bool.not_true, Bool.not_false, decide_true, decide_false, w63_in, w31_in, ne_eq, not_false_eq_true, Int.reduceEq, reduceCtorEq, ww3131, ww6363, ww3163, ww6331, ww3231, ww3263, ww6463, ww6364, sh31, sh63, sl63, m31, m63, n63, s5a, s5b, s6a, s6b, b31, b32, b63, c63, c64, d64, iShl_c, iShr_c, sr3, sr6, sr7]
theorem got_inv {r : Res} {h : Hp} {o : Option (List Nat)} (g : Got r h o) : ∃ v h', r = .ret (.tup (.cons v (.cons (.bool o.isSome) .nil))) h' ∧ Sl h' (fun b => h.nb ≤ b) v (U (o.getD [])) ∧ To No h h' ∧ Wf h' := g
theorem dec_len (n : Nat) (Y : Nat → Nat) : ∀ (f i : Nat) (t : List Nat), dec n Y f i = some t → t.length ≤ f := by
  intro f
  induction f with
  | zero => intro i t h; cases h; simp
  | succ f ih =>
    intro i t h
    unfold dec at h
    have key : ∀ (v j : Nat), (dec n Y f j).map (v :: ·) = some t → t.length ≤ f + 1 := by
      intro v j hm
      cases hd : dec n Y f j with
      | none => rw [hd] at hm; cases hm
      | some t' => rw [hd] at hm; cases hm; have := ih j t' hd; simp; omega
    split at h
    · split at h
      · exact key _ _ h
      · split at h
        · exact key _ _ h
        · split at h
          · exact key _ _ h
          · cases h
    · cases h; simp
theorem Dec_len (n x : Nat) : ((Dec n x).getD []).length ≤ n := by
  cases hd : Dec n x with
  | none => simp
  | some t => exact dec_len _ _ _ _ _ hd
theorem lawDecode (n x : Nat) : ∃ h', s7 [.str n x] H0 = .ret (.bool true) h' := by
  obtain ⟨h1, e1, w1⟩ := t36
  have e2 := t37 n x 200 h1
  generalize hn : min n 200 = n' at e2
  generalize (if 200 < n then x % 2 ^ (8 * 200) else x) = x' at e2
  obtain ⟨u, h2, e3, s3, o3, w3⟩ := got_inv (t38 n' x' (by omega) h1 w1)
  obtain ⟨v, h3, e4, s4, o4, w4⟩ := got_inv (t39 n' x' (by omega) h2 w3)
  have s3' := s3.to o4 (fun _ _ f => f)
  have e5 := t40 s3' s4 (by have := Dec_len n' x'; omega)
  have e6 : (((200 : Nat) : Int)) = 200 := rfl
  rw [e6] at e2
  have e7 : ((Dec n' x').isSome == (Dec n' x').isSome) = true := by simp
  have cu := fun k => cK_sl s3 k
  have cv := fun k => cK_sl s4 k
  refine ⟨h3, ?_⟩
  simp only [↓s7, ↓e1, ↓e2, ↓e3, ↓e4, cu, cv, e7, ↓e5, ↓uc_c, ↓uz_n, ↓cI_i, ↓cB_b, cB_b, ↓cT_t, cT_t, nth_z, nth_1, cK_b, ↓cK_b, ↓cK_i, cK_i, ifB_t, ifB_f, ↓ap_e, sel_t, sel_f, gsel_tt, gsel_tf, gsel_ft, gsel_ff, gsel_u, gd_tt, gd_tf, gd_ft, gd_ff, gd_u, ↓jn_n, jn_n, jn_r, ↓jn_r, blk_n, blk_r, ↓cl_r, cl_r, ↓iAdd_i, ↓iSub_i, ↓iMul_i, ↓iAnd_i, ↓iOr_i, ↓iXor_i, ↓iNeg_i, iQuo_i, iRem_i, ↓iConv_i, iConv_i, ↓bNot_b, bNot_b, ↓eqN_i, ↓ltN_i, ↓eqB_b, bnot_e, Int.ofNat_eq_natCast, Int.cast_ofNat_Int, Int.reduceBEq, Int.reduceAdd, Int.reduceNeg, Int.reduceNegSucc, Int.reduceLT, Int.reduceLE, Int.reduceMul, Int.reduceTMod, Int.reduceSub, Int.reduceBNe, Bool.not_true, Bool.not_false, decide_true, decide_false, w63_in, w31_in, ne_eq, not_false_eq_true, Int.reduceEq, reduceCtorEq, ww3131, ww6363, ww3163, ww6331, ww3231, ww3263, ww6463, ww6364, sh31, sh63, sl63, m31, m63, n63, s5a, s5b, s6a, s6b, b31, b32, b63, c63, c64, d64, iShl_c, iShr_c, sr3, sr6, sr7]
end Go.Proofs.Ytnpfppddongbhaa
