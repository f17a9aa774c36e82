/-
  The reader of stated frames: what each of its functions answers (part Mp6).
-/
import Derived.Test.YtnpfppddongbhaaMp5
set_option linter.unusedVariables false
set_option linter.unusedSimpArgs false
namespace Go.Proofs.Ytnpfppddongbhaa
open Go Go.AM
set_option autoImplicit false
set_option linter.unusedSimpArgs false
set_option linter.unusedVariables false
/-! ### an entry -/
structure Mv where
  tag : Nat
  delta : Nat
  loc : List (Nat × Nat)
  stk : List (Nat × Nat)
noncomputable def mL (g d : Nat) (vl vs : AV) : List AV := [.int 63 (g : Int), .int 63 (d : Int), vl, vs]
theorem mL_one {g d : Nat} {vl vs : AV} (h1 : one vl = true) (h2 : one vs = true) : ∀ x ∈ mL g d vl vs, one x = true := by
  intro x hx
  simp only [mL, List.mem_cons, List.not_mem_nil, or_false] at hx
  rcases hx with rfl | rfl | rfl | rfl
  · rfl
  · rfl
  · exact h1
  · exact h2
theorem eqA_int (c : Nat) (n : Int) : eqAV (.int c n) (.int c n) = true := band_t ((beq_iff c c).2 rfl) (eqI_self n)
theorem Rws.eqA {h : Hp} {P : Nat → Prop} {n : Nat} {v : AV} {rs : List (List AV)} (hg : Rws h P n v rs) (hn : 0 < n) : eqAV v v = true := by
  rcases hg.2 with ⟨rfl, rfl⟩ | ⟨b, B, rfl, -⟩
  · rfl
  · have e : eqAV (.sl b 0 rs.length n none) (.sl b 0 rs.length n none) = bAnd (Nat.beq b b) (bAnd (Nat.beq 0 0) (bAnd (Nat.beq rs.length rs.length) (bAnd (Nat.beq n n) (Nat.blt 0 n)))) := rfl
    rw [e, (beq_iff b b).2 rfl, (beq_iff rs.length rs.length).2 rfl, (beq_iff n n).2 rfl, (blt_iff 0 n).2 hn]; rfl
theorem nil_eqA : eqAV .nils .nils = true := rfl
theorem same_mL {g d : Nat} {vl vs : AV} (h1 : eqAV vl vl = true) (h2 : eqAV vs vs = true) (k : Res) : same (.agg (avL (mL g d vl vs))) (.agg (avL (mL g d vl vs))) k = k := by
  have e : eqAV (.agg (avL (mL g d vl vs))) (.agg (avL (mL g d vl vs))) = bAnd (eqAV (.int 63 (g : Int)) (.int 63 (g : Int))) (bAnd (eqAV (.int 63 (d : Int)) (.int 63 (d : Int))) (bAnd (eqAV vl vl) (bAnd (eqAV vs vs) true))) := rfl
  have e2 : same (.agg (avL (mL g d vl vs))) (.agg (avL (mL g d vl vs))) k = ifB (eqAV (.agg (avL (mL g d vl vs))) (.agg (avL (mL g d vl vs)))) k .fail := rfl
  rw [e2, e, eqA_int, eqA_int, h1, h2]; rfl
def fn (m : Mv) (q : Sq) : Option (Mv × Sq) := if q.2 = false then some (m, q) else none
/-- An entry, and where the cursor is then; none: it is none. -/
def en (t : List Nat) (q : Sq) : Option (Mv × Sq) :=
  if val t q 1 < 64 then fn ⟨val t q 1, val t q 1, [], []⟩ (adv t q 1)
  else if val t q 1 < 128 then (match kds t 1 (adv t q 1) [] with | none => none | some r => fn ⟨val t q 1, val t q 1 - 64, [], r.1⟩ r.2)
  else if val t q 1 < 247 then none
  else if val t q 1 = 247 then (match kds t 1 (adv t (adv t q 1) 2) [] with | none => none | some r => fn ⟨val t q 1, val t (adv t q 1) 2, [], r.1⟩ r.2)
  else if val t q 1 < 252 then fn ⟨val t q 1, val t (adv t q 1) 2, [], []⟩ (adv t (adv t q 1) 2)
  else if val t q 1 < 255 then (match kds t (val t q 1 - 251) (adv t (adv t q 1) 2) [] with | none => none | some r => fn ⟨val t q 1, val t (adv t q 1) 2, r.1, []⟩ r.2)
  else (match kds t (val t (adv t (adv t q 1) 2) 2) (adv t (adv t (adv t q 1) 2) 2) [] with | none => none | some r => (match kds t (val t r.2 2) (adv t r.2 2) [] with | none => none | some s => fn ⟨val t q 1, val t (adv t q 1) 2, r.1, s.1⟩ s.2))
theorem bldM (g : Nat) (k : AV → Res) : bld [(false, 1, (.int 63 (g : Int))), (false, 1, (.int 63 (.ofNat 0))), (false, 1, .nils), (false, 1, .nils)] k = k (avL (mL g 0 .nils .nils)) := of_eq_true (eq_self _)
theorem bldM' (g : Nat) (k : AV → Res) : bld [(false, 1, (.int 63 (g : Int))), (false, 1, (.int 63 0)), (false, 1, .nils), (false, 1, .nils)] k = k (avL (mL g 0 .nils .nils)) := of_eq_true (eq_self _)
theorem bldMT (g d : Nat) (vl vs : AV) (f : AV → Res) : bld [(true, 4, .agg (avL (mL g d vl vs)))] f = f (avL (mL g d vl vs)) := of_eq_true (eq_self _)
section
variable {h : Hp} {lo b pb : Nat} {t : List Nat} {q : Sq}
theorem mkM0 (hw : Wf h) : ∃ h', (∀ k : AV → Hp → Res, mk h (.cons (.int 63 (.ofNat 0)) (.cons (.int 63 (.ofNat 0)) (.cons .nils (.cons .nils .nil)))) k = k (.ptr h.nb 0) h') ∧ (∀ k : AV → Hp → Res, mk h (.cons (.int 63 0) (.cons (.int 63 0) (.cons .nils (.cons .nils .nil)))) k = k (.ptr h.nb 0) h') ∧ Ce h' h.nb (mL 0 0 .nils .nils) ∧ To No h h' ∧ Wf h' ∧ h'.nb = h.nb + 1 := by
  obtain ⟨h', m1, r⟩ := ce_mk hw (mL 0 0 .nils .nils) (mL_one rfl rfl)
  exact ⟨h', fun k => m1 k, fun k => m1 k, r⟩
theorem Ce.stM {b : Nat} {g0 d0 : Nat} {v0 w0 : AV} (hw : Wf h) (hc : Ce h b (mL g0 d0 v0 w0)) (g d : Nat) {vl vs : AV} (h1 : one vl = true) (h2 : one vs = true) : ∃ h', (∀ kk : Hp → Res, stN h 4 (.ptr b 0) (.agg (avL (mL g d vl vs))) kk = kk h') ∧ Ce h' b (mL g d vl vs) ∧ To (At b) h h' ∧ Wf h' ∧ h'.nb = h.nb := Ce.st hw hc (mL g d vl vs) rfl (mL_one h1 h2)
theorem Ce.ldM {b : Nat} {g d : Nat} {vl vs : AV} (hc : Ce h b (mL g d vl vs)) (kk : AV → Res) : ldN h 4 (.ptr b 0) kk = kk (.agg (avL (mL g d vl vs))) := Ce.ld hc kk
/-- The fields of an entry's variable: read. -/
theorem Ce.lM {b : Nat} {g d : Nat} {vl vs : AV} (hc : Ce h b (mL g d vl vs)) : (∀ kk : AV → Res, ld1 h (.ptr b (Nat.add 0 0)) kk = kk (.int 63 (g : Int))) ∧ (∀ kk : AV → Res, ld1 h (.ptr b 0) kk = kk (.int 63 (g : Int))) :=
  ⟨fun kk => Ce.l hc 0 (by simp [mL]) kk, fun kk => Ce.l hc 0 (by simp [mL]) kk⟩
theorem Ce.sD {b : Nat} {g d : Nat} {vl vs : AV} (hw : Wf h) (hc : Ce h b (mL g d vl vs)) (d' : Nat) : ∃ h', (∀ kk : Hp → Res, st1 h (.ptr b (Nat.add 0 1)) (.int 63 (d' : Int)) kk = kk h') ∧ (∀ kk : Hp → Res, st1 h (.ptr b 1) (.int 63 (d' : Int)) kk = kk h') ∧ Ce h' b (mL g d' vl vs) ∧ To (At b) h h' ∧ Wf h' ∧ h'.nb = h.nb := by
  obtain ⟨h', s, c, r⟩ := Ce.s hw hc 1 (by simp [mL]) (.int 63 (d' : Int)) rfl
  exact ⟨h', s, s, c, r⟩
theorem Ce.sL {b : Nat} {g d : Nat} {vl vs : AV} (hw : Wf h) (hc : Ce h b (mL g d vl vs)) (v : AV) (hv : one v = true) : ∃ h', (∀ kk : Hp → Res, st1 h (.ptr b (Nat.add 0 2)) v kk = kk h') ∧ (∀ kk : Hp → Res, st1 h (.ptr b 2) v kk = kk h') ∧ Ce h' b (mL g d v vs) ∧ To (At b) h h' ∧ Wf h' ∧ h'.nb = h.nb := by
  obtain ⟨h', s, c, r⟩ := Ce.s hw hc 2 (by simp [mL]) v hv
  exact ⟨h', s, s, c, r⟩
theorem Ce.sS {b : Nat} {g d : Nat} {vl vs : AV} (hw : Wf h) (hc : Ce h b (mL g d vl vs)) (v : AV) (hv : one v = true) : ∃ h', (∀ kk : Hp → Res, st1 h (.ptr b (Nat.add 0 3)) v kk = kk h') ∧ (∀ kk : Hp → Res, st1 h (.ptr b 3) v kk = kk h') ∧ Ce h' b (mL g d vl v) ∧ To (At b) h h' ∧ Wf h' ∧ h'.nb = h.nb := by
  obtain ⟨h', s, c, r⟩ := Ce.s hw hc 3 (by simp [mL]) v hv
  exact ⟨h', s, s, c, r⟩
end
end Go.Proofs.Ytnpfppddongbhaa
