/-
  The reader of stated frames: what each of its functions answers (part Mp2).
-/
import Derived.Test.YtnpfppddongbhaaMp1
set_option linter.unusedVariables false
set_option linter.unusedSimpArgs false
namespace Go.AM
open Go
set_option autoImplicit false
set_option linter.unusedSimpArgs false
set_option linter.unusedVariables false
/-! ### variables of several cells -/
/-- The variable b holds the cells r. -/
def Ce (h : Hp) (b : Nat) (r : List AV) : Prop := (∀ x ∈ r, one x = true) ∧ ∃ B, Own h b B ∧ B.lim = r.length ∧ ∀ i (hi : i < r.length), B.at i = r[i]
section
variable {h h' : Hp} {b : Nat} {r : List AV}
theorem Ce.to {W : Nat → Prop} (hc : Ce h b r) (ht : To W h h') (hw : ¬ W b) : Ce h' b r := by
  obtain ⟨h1, B, o, q⟩ := hc
  exact ⟨h1, B, o.to ht hw, q⟩
theorem Ce.lt (hc : Ce h b r) : b < h.nb := by obtain ⟨h1, B, o, q⟩ := hc; exact o.lt
theorem ce_mk (hw : Wf h) (r : List AV) (ho : ∀ x ∈ r, one x = true) : ∃ h', (∀ k : AV → Hp → Res, mk h (avL r) k = k (.ptr h.nb 0) h') ∧ Ce h' h.nb r ∧ To No h h' ∧ Wf h' ∧ h'.nb = h.nb + 1 := by
  obtain ⟨h', B, m1, m2, m3, m4, m5, m6, m7⟩ := mk_own hw r ho
  exact ⟨h', m1, ⟨ho, B, m2, m3, m4⟩, m5, m6, m7⟩
theorem Ce.st (hw : Wf h) (hc : Ce h b r) (r' : List AV) (hl : r'.length = r.length) (ho : ∀ x ∈ r', one x = true) : ∃ h', (∀ k : Hp → Res, stN h r'.length (.ptr b 0) (.agg (avL r')) k = k h') ∧ Ce h' b r' ∧ To (At b) h h' ∧ Wf h' ∧ h'.nb = h.nb := by
  obtain ⟨h1, B, o, hl1, q⟩ := hc
  obtain ⟨h', B', s1, s2, s3, s4, s5, s6⟩ := stN_own (o := 0) (l := r') o (by omega) ho
  refine ⟨h', s1, ⟨ho, B', s2, by omega, fun i hi => ?_⟩, s5, s5.wf hw, s6⟩
  rw [s4, dif_pos ⟨Nat.zero_le _, by omega⟩]; rfl
theorem Ce.ld (hc : Ce h b r) (k : AV → Res) : ldN h r.length (.ptr b 0) k = k (.agg (avL r)) := by
  obtain ⟨h1, B, o, hl1, q⟩ := hc
  exact ldN_rd (l := r) o.rd (fun i hi => by rw [Nat.zero_add]; exact q i hi) (fun v hv => one_unk (h1 v hv)) k
theorem Ce.l (hc : Ce h b r) (j : Nat) (hj : j < r.length) (k : AV → Res) : ld1 h (.ptr b (Nat.add 0 j)) k = k r[j] := by
  obtain ⟨h1, B, o, hl1, q⟩ := hc
  exact (ld1_rd o.rd (by rw [show Nat.add 0 j = j from Nat.zero_add j]; exact q j hj) k).trans (cK_one (h1 _ (List.getElem_mem hj)) k)
theorem Ce.s (hw : Wf h) (hc : Ce h b r) (j : Nat) (hj : j < r.length) (v : AV) (hv : one v = true) : ∃ h', (∀ k : Hp → Res, st1 h (.ptr b (Nat.add 0 j)) v k = k h') ∧ Ce h' b (r.set j v) ∧ To (At b) h h' ∧ Wf h' ∧ h'.nb = h.nb := by
  obtain ⟨h1, B, o, hl1, q⟩ := hc
  obtain ⟨h', s1, s2, s3, s4⟩ := st1_own (o := j) (v := v) o (by omega) hv
  refine ⟨h', fun k => by rw [show Nat.add 0 j = j from Nat.zero_add j]; exact s1 k, ⟨fun x hx => ?_, _, s2, by rw [List.length_set]; exact hl1, fun i hi => ?_⟩, s3, s3.wf hw, s4⟩
  · rcases List.mem_or_eq_of_mem_set hx with hx | rfl
    · exact h1 x hx
    · exact hv
  · rw [List.length_set] at hi
    rw [setC_at (by omega), List.getElem_set]
    by_cases e : j = i
    · rw [if_pos e, if_pos e.symm]
    · rw [if_neg e, if_neg (Ne.symm e)]; exact q i hi
end
theorem band_t {a b : Bool} (ha : a = true) (hb : b = true) : bAnd a b = true := by subst ha; subst hb; rfl
theorem eqI_self (n : Int) : eqI n n = true := by rw [eqI_eq]; exact beq_self_eq_true n
theorem same_n (c : Nat) (n : Int) (k : Res) : same (.int c n) (.int c n) k = k := by
  have e : same (.int c n) (.int c n) k = ifB (bAnd (Nat.beq c c) (eqI n n)) k .fail := rfl
  have e2 := band_t ((beq_iff c c).2 rfl) (eqI_self n)
  rw [e]
  exact (congrArg (fun b => ifB b k .fail) e2).trans rfl
theorem nbeq (g i : Nat) : (((g : Nat) : Int) == ((i : Nat) : Int)) = decide (g = i) := by
  rw [Bool.eq_iff_iff]
  simp only [beq_iff_eq, decide_eq_true_eq]
  omega
end Go.AM
namespace Go.Proofs.Ytnpfppddongbhaa
open Go Go.AM
/-! ### the cursor's reads -/
abbrev Sq := Nat × Bool
def val (t : List Nat) (q : Sq) (n : Int) : Nat := be (win t q.1 q.2 n) 0
def adv (t : List Nat) (q : Sq) (n : Int) : Sq := (nat_ t q.1 q.2 n, nbad t q.1 q.2 n)
abbrev CurQ (h : Hp) (lo b : Nat) (t : List Nat) (q : Sq) : Prop := Cur h lo b t q.1 q.2
section
variable {h : Hp} {lo b : Nat} {t : List Nat} {q : Sq}
theorem u1 (hc : CurQ h lo b t q) (hw : Wf h) : ∃ h', s27 [.ptr b 0] h = .ret (.int 63 (val t q 1 : Int)) h' ∧ CurQ h' lo b t (adv t q 1) ∧ To (At b) h h' ∧ Wf h' := t27 hc hw
theorem u2 (hc : CurQ h lo b t q) (hw : Wf h) : ∃ h', s28 [.ptr b 0] h = .ret (.int 63 (val t q 2 : Int)) h' ∧ CurQ h' lo b t (adv t q 2) ∧ To (At b) h h' ∧ Wf h' := t28 hc hw
theorem n1 (hc : CurQ h lo b t q) (hw : Wf h) : ∃ h', s32 [.ptr b 0, .int 63 (.ofNat 1)] h = .ret (.int 63 (val t q 1 : Int)) h' ∧ CurQ h' lo b t (adv t q 1) ∧ To (At b) h h' ∧ Wf h' := t32 hc hw 1 (by decide)
theorem n2 (hc : CurQ h lo b t q) (hw : Wf h) : ∃ h', s32 [.ptr b 0, .int 63 (.ofNat 2)] h = .ret (.int 63 (val t q 2 : Int)) h' ∧ CurQ h' lo b t (adv t q 2) ∧ To (At b) h h' ∧ Wf h' := t32 hc hw 2 (by decide)
end
theorem be_lt : ∀ (l : List Nat) (a : Nat), (∀ x ∈ l, x < 256) → be l a < (a + 1) * 256 ^ l.length
  | [], a, _ => by simp [be]
  | x :: l, a, h => by
    have h1 := be_lt l (a * 256 + x) (fun y hy => h y (List.mem_cons_of_mem _ hy))
    have hx := h x (List.mem_cons_self ..)
    have h2 : (a * 256 + x + 1) * 256 ^ l.length ≤ ((a + 1) * 256) * 256 ^ l.length := Nat.mul_le_mul_right _ (by omega)
    show be l (a * 256 + x) < (a + 1) * 256 ^ (l.length + 1)
    rw [Nat.pow_succ, Nat.mul_comm (256 ^ l.length), ← Nat.mul_assoc]
    omega
theorem val_lt {t : List Nat} (hb : ∀ x ∈ t, x < 256) (q : Sq) (n : Nat) : val t q (n : Int) < 256 ^ n := by
  unfold val
  have h1 := be_lt (win t q.1 q.2 (n : Int)) 0 (win_byt hb _ _ _)
  have h2 := win_len t q.1 q.2 (n : Int)
  have h3 : 256 ^ (win t q.1 q.2 (n : Int)).length ≤ 256 ^ n := Nat.pow_le_pow_right (by decide) (by omega)
  omega
theorem val_bad {t : List Nat} {q : Sq} {n : Int} (h : (adv t q n).2 = true) : val t q n = 0 := by
  have h : nbad t q.1 q.2 n = true := h
  unfold val win
  unfold nbad at h
  split at h
  · cases h
  · rename_i hn; rw [if_neg hn]; rfl
/-! ### the pool -/
noncomputable def pl : List (List AV) := [[.int 63 0, .str 0 0, .int 63 0, .int 63 0, .int 63 0], [.int 63 1, .str 1 97, .int 63 0, .int 63 0, .int 63 0], [.int 63 7, .str 0 0, .int 63 0, .int 63 1, .int 63 0], [.int 63 1, .str 2 18779, .int 63 0, .int 63 0, .int 63 0], [.int 63 7, .str 0 0, .int 63 0, .int 63 3, .int 63 0]]
/-- The variable b is the pool. -/
def Pool (h : Hp) (b : Nat) : Prop := Ce h b pl.flatten
theorem pl_one : ∀ x ∈ pl.flatten, one x = true := by
  intro x hx
  simp only [pl, List.flatten_cons, List.flatten_nil, List.cons_append, List.nil_append, List.mem_cons, List.not_mem_nil, or_false] at hx
  rcases hx with rfl | rfl | rfl | rfl | rfl | rfl | rfl | rfl | rfl | rfl | rfl | rfl | rfl | rfl | rfl | rfl | rfl | rfl | rfl | rfl | rfl | rfl | rfl | rfl | rfl <;> rfl
abbrev plv (b : Nat) : AV := .sl b 0 5 5 (some 5)
theorem t62 {h : Hp} (hw : Wf h) : ∃ h', s62 [] h = .ret (plv h.nb) h' ∧ Pool h' h.nb ∧ To No h h' ∧ Wf h' ∧ h'.nb = h.nb + 1 := by
  obtain ⟨t0, l1, l2⟩ := lay_list pl.flatten .e 0 pl_one
  have hl : pl.flatten.length = 25 := rfl
  rw [hl] at l1
  obtain ⟨o1, o2⟩ := nw_own hw (0 + 25) .nil t0
  refine ⟨nw h (0 + 25) .nil t0, ?_, ⟨pl_one, _, o1, rfl, fun i hi => ?_⟩, o2, o2.wf hw, rfl⟩
  · have e : s62 [] h = lay (avL pl.flatten) .e 0 fun t m => ifB (Nat.beq m (Nat.mul 5 5)) (.ret (.sl h.nb 0 5 5 (some 5)) (nw h m .nil t)) .fail := rfl
    rw [e, l1]; rfl
  · rw [hl] at hi
    rw [at_in _ (show i < 0 + 25 by omega)]
    simp only [l2 i]
    rw [dif_pos ⟨by omega, by omega⟩]
    simp
theorem Pool.ix {h : Hp} {b : Nat} (hp : Pool h b) (i : Nat) (hi : i < 5) (k : AV → Res) : ixA 5 (plv b) (.int 63 (i : Int)) k = k (.ptr b (Nat.add 0 (i * 5))) := by
  have e : ixA 5 (plv b) (.int 63 (i : Int)) k = ifB (Nat.blt i 5) (ifB (Nat.beq 5 5) (k (.ptr b (Nat.add 0 (Nat.mul i 5)))) .fail) .fail := rfl
  rw [e, (blt_iff _ _).2 hi]; rfl
theorem lenP (b : Nat) (k : AV → Res) : lenL (plv b) k = k (.int 63 5) := rfl
theorem Pool.l {h : Hp} {b : Nat} (hp : Pool h b) (j : Nat) (hj : j < 25) (k : AV → Res) : ld1 h (.ptr b j) k = k (pl.flatten[j]'hj) := by
  have := Ce.l hp j hj k
  rwa [show Nat.add 0 j = j from Nat.zero_add j] at this
end Go.Proofs.Ytnpfppddongbhaa
