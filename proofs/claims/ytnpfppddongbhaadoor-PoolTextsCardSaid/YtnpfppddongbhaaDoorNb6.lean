/-
  Row laws, part Nb6: reckoned by the abstract machine.
-/
import Derived.Test.YtnpfppddongbhaaDoorNb5
section
namespace Go.Proofs.YtnpfppddongbhaaDoor
open Go Go.AM
set_option autoImplicit false
set_option linter.unusedSimpArgs false
set_option linter.unusedVariables false
/-! ### types of descriptors: values of four cells -/
structure Ty where
  k : UInt8
  nm : List UInt8
  d : Nat
  e : UInt8
def ty0 : Ty := ⟨0, [], 0, 0⟩
noncomputable def tyL (t : Ty) : List AV := [.int 8 (t.k.toNat : Int), S t.nm, .int 63 (t.d : Int), .int 8 (t.e.toNat : Int)]
noncomputable def tyV (t : Ty) : AV := .agg (avL (tyL t))
theorem tyL_one (t : Ty) : ∀ v ∈ tyL t, one v = true := by
  intro v hv
  simp only [tyL, List.mem_cons, List.not_mem_nil, or_false] at hv
  rcases hv with rfl | rfl | rfl | rfl <;> rfl
theorem cK_ty (t : Ty) (k : AV → Res) : cK (tyV t) k = k (tyV t) := rfl
/-- The variable b holds the type t. -/
def Cel (h : Hp) (b : Nat) (t : Ty) : Prop := ∃ B, Own h b B ∧ B.lim = 4 ∧ B.at 0 = .int 8 (t.k.toNat : Int) ∧ B.at 1 = S t.nm ∧ B.at 2 = .int 63 (t.d : Int) ∧ B.at 3 = .int 8 (t.e.toNat : Int)
theorem Cel.to {h h' : Hp} {b : Nat} {t : Ty} {W : Nat → Prop} (hc : Cel h b t) (ht : To W h h') (hw : ¬ W b) : Cel h' b t := by
  obtain ⟨B, o, r⟩ := hc
  exact ⟨B, o.to ht hw, r⟩
theorem Cel.lt {h : Hp} {b : Nat} {t : Ty} (hc : Cel h b t) : b < h.nb := by obtain ⟨B, o, r⟩ := hc; exact o.lt
theorem ty_mk {h : Hp} (hw : Wf h) (t : Ty) : ∃ h', (∀ k : AV → Hp → Res, mk h (avL (tyL t)) k = k (.ptr h.nb 0) h') ∧ Cel h' h.nb t ∧ To No h h' ∧ Wf h' ∧ h'.nb = h.nb + 1 := by
  obtain ⟨h', B, m1, m2, m3, m4, m5, m6, m7⟩ := mk_own hw (tyL t) (tyL_one t)
  exact ⟨h', m1, ⟨B, m2, m3, m4 0 (by simp [tyL]), m4 1 (by simp [tyL]), m4 2 (by simp [tyL]), m4 3 (by simp [tyL])⟩, m5, m6, m7⟩
theorem ty0_mk {h : Hp} (hw : Wf h) : ∃ h', (∀ k : AV → Hp → Res, mk h (.cons (.int 8 (.ofNat 0)) (.cons (.str 0 0) (.cons (.int 63 (.ofNat 0)) (.cons (.int 8 (.ofNat 0)) .nil)))) k = k (.ptr h.nb 0) h') ∧ Cel h' h.nb ty0 ∧ To No h h' ∧ Wf h' ∧ h'.nb = h.nb + 1 := by
  obtain ⟨h', m1, r⟩ := ty_mk hw ty0
  exact ⟨h', fun k => m1 k, r⟩
theorem ty_cells {h : Hp} (hw : Wf h) (t : Ty) : ∃ h', (∀ k : AV → Hp → Res, mk h (cells (tyV t)) k = k (.ptr h.nb 0) h') ∧ Cel h' h.nb t ∧ To No h h' ∧ Wf h' ∧ h'.nb = h.nb + 1 := by
  obtain ⟨h', m1, r⟩ := ty_mk hw t
  exact ⟨h', fun k => m1 k, r⟩
theorem Cel.st {h : Hp} {b : Nat} {t0 : Ty} (hw : Wf h) (hc : Cel h b t0) (t : Ty) : ∃ h', (∀ k : Hp → Res, stN h 4 (.ptr b 0) (.agg (avL (tyL t))) k = k h') ∧ Cel h' b t ∧ To (At b) h h' ∧ Wf h' ∧ h'.nb = h.nb := by
  obtain ⟨B, o, hl, -⟩ := hc
  obtain ⟨h', B', s1, s2, s3, s4, s5, s6⟩ := stN_own (o := 0) (l := tyL t) o (by simp [tyL]; omega) (tyL_one t)
  have hat : ∀ i (hi : i < 4), B'.at i = (tyL t)[i]'(by simpa [tyL] using hi) := fun i hi => by
    rw [s4, dif_pos ⟨Nat.zero_le _, by simpa [tyL] using hi⟩]; rfl
  exact ⟨h', s1, ⟨B', s2, by rw [s3, hl], hat 0 (by decide), hat 1 (by decide), hat 2 (by decide), hat 3 (by decide)⟩, s5, s5.wf hw, s6⟩
theorem Cel.ld {h : Hp} {b : Nat} {t : Ty} (hc : Cel h b t) (k : AV → Res) : ldN h 4 (.ptr b 0) k = k (tyV t) := by
  obtain ⟨B, o, hl, a0, a1, a2, a3⟩ := hc
  refine ldN_rd (l := tyL t) o.rd (fun i hi => ?_) (fun v hv => one_unk (tyL_one t v hv)) k
  rw [Nat.zero_add]
  have hi : i < 4 := hi
  match i, hi with
  | 0, _ => exact a0
  | 1, _ => exact a1
  | 2, _ => exact a2
  | 3, _ => exact a3
theorem Cel.l0 {h : Hp} {b : Nat} {t : Ty} (hc : Cel h b t) (k : AV → Res) : ld1 h (.ptr b (Nat.add 0 0)) k = k (.int 8 (t.k.toNat : Int)) := by
  obtain ⟨B, o, hl, a0, a1, a2, a3⟩ := hc
  exact ld1_rd o.rd a0 k
theorem Cel.l1 {h : Hp} {b : Nat} {t : Ty} (hc : Cel h b t) (k : AV → Res) : ld1 h (.ptr b (Nat.add 0 1)) k = k (S t.nm) := by
  obtain ⟨B, o, hl, a0, a1, a2, a3⟩ := hc
  exact ld1_rd o.rd a1 k
theorem Cel.l2 {h : Hp} {b : Nat} {t : Ty} (hc : Cel h b t) (k : AV → Res) : ld1 h (.ptr b (Nat.add 0 2)) k = k (.int 63 (t.d : Int)) := by
  obtain ⟨B, o, hl, a0, a1, a2, a3⟩ := hc
  exact ld1_rd o.rd a2 k
theorem Cel.l3 {h : Hp} {b : Nat} {t : Ty} (hc : Cel h b t) (k : AV → Res) : ld1 h (.ptr b (Nat.add 0 3)) k = k (.int 8 (t.e.toNat : Int)) := by
  obtain ⟨B, o, hl, a0, a1, a2, a3⟩ := hc
  exact ld1_rd o.rd a3 k
theorem Cel.s0 {h : Hp} {b : Nat} {t : Ty} (hw : Wf h) (hc : Cel h b t) (x : UInt8) : ∃ h', (∀ k : Hp → Res, st1 h (.ptr b (Nat.add 0 0)) (.int 8 (x.toNat : Int)) k = k h') ∧ Cel h' b { t with k := x } ∧ To (At b) h h' ∧ Wf h' ∧ h'.nb = h.nb := by
  obtain ⟨B, o, hl, a0, a1, a2, a3⟩ := hc
  obtain ⟨h', s1, s2, s3, s4⟩ := st1_own (o := 0) (v := .int 8 (x.toNat : Int)) o (by omega) rfl
  refine ⟨h', s1, ⟨_, s2, hl, ?_, ?_, ?_, ?_⟩, s3, s3.wf hw, s4⟩ <;> rw [setC_at (by omega)] <;> first | rfl | assumption
theorem Cel.s1 {h : Hp} {b : Nat} {t : Ty} (hw : Wf h) (hc : Cel h b t) (x : List UInt8) : ∃ h', (∀ k : Hp → Res, st1 h (.ptr b (Nat.add 0 1)) (S x) k = k h') ∧ Cel h' b { t with nm := x } ∧ To (At b) h h' ∧ Wf h' ∧ h'.nb = h.nb := by
  obtain ⟨B, o, hl, a0, a1, a2, a3⟩ := hc
  obtain ⟨h', s1, s2, s3, s4⟩ := st1_own (o := 1) (v := S x) o (by omega) rfl
  refine ⟨h', s1, ⟨_, s2, hl, ?_, ?_, ?_, ?_⟩, s3, s3.wf hw, s4⟩ <;> rw [setC_at (by omega)] <;> first | rfl | assumption
theorem Cel.s2 {h : Hp} {b : Nat} {t : Ty} (hw : Wf h) (hc : Cel h b t) (x : Nat) : ∃ h', (∀ k : Hp → Res, st1 h (.ptr b (Nat.add 0 2)) (.int 63 (x : Int)) k = k h') ∧ Cel h' b { t with d := x } ∧ To (At b) h h' ∧ Wf h' ∧ h'.nb = h.nb := by
  obtain ⟨B, o, hl, a0, a1, a2, a3⟩ := hc
  obtain ⟨h', s1, s2, s3, s4⟩ := st1_own (o := 2) (v := .int 63 (x : Int)) o (by omega) rfl
  refine ⟨h', s1, ⟨_, s2, hl, ?_, ?_, ?_, ?_⟩, s3, s3.wf hw, s4⟩ <;> rw [setC_at (by omega)] <;> first | rfl | assumption
theorem Cel.s3 {h : Hp} {b : Nat} {t : Ty} (hw : Wf h) (hc : Cel h b t) (x : UInt8) : ∃ h', (∀ k : Hp → Res, st1 h (.ptr b (Nat.add 0 3)) (.int 8 (x.toNat : Int)) k = k h') ∧ Cel h' b { t with e := x } ∧ To (At b) h h' ∧ Wf h' ∧ h'.nb = h.nb := by
  obtain ⟨B, o, hl, a0, a1, a2, a3⟩ := hc
  obtain ⟨h', s1, s2, s3, s4⟩ := st1_own (o := 3) (v := .int 8 (x.toNat : Int)) o (by omega) rfl
  refine ⟨h', s1, ⟨_, s2, hl, ?_, ?_, ?_, ?_⟩, s3, s3.wf hw, s4⟩ <;> rw [setC_at (by omega)] <;> first | rfl | assumption
theorem bldz (k : AV → Res) : bld [(false, 1, (.int 8 (.ofNat 0))), (false, 1, (.str 0 0)), (false, 1, (.int 63 (.ofNat 0))), (false, 1, (.int 8 (.ofNat 0)))] k = k (avL (tyL ty0)) := rfl
theorem bldk (c : UInt8) (k : AV → Res) : bld [(false, 1, (.int 8 (c.toNat : Int))), (false, 1, (.str 0 0)), (false, 1, (.int 63 (.ofNat 0))), (false, 1, (.int 8 (.ofNat 0)))] k = k (avL (tyL ⟨c, [], 0, 0⟩)) := rfl
theorem band_t {a b : Bool} (ha : a = true) (hb : b = true) : bAnd a b = true := by subst ha; subst hb; rfl
theorem eqI_self (n : Int) : eqI n n = true := by rw [eqI_eq]; exact beq_self_eq_true n
theorem sEq_self (n x : Nat) : sEq n x n x = true := by simp [sEq]
theorem same_ty (t : Ty) (r : Res) : same (tyV t) (tyV t) r = r := by
  have e : same (tyV t) (tyV t) r = ifB (bAnd (bAnd (Nat.beq 8 8) (eqI (t.k.toNat : Int) (t.k.toNat : Int))) (bAnd (sEq t.nm.length (packB t.nm) t.nm.length (packB t.nm)) (bAnd (bAnd (Nat.beq 63 63) (eqI (t.d : Int) (t.d : Int))) (bAnd (bAnd (Nat.beq 8 8) (eqI (t.e.toNat : Int) (t.e.toNat : Int))) true)))) r .fail := rfl
  have e2 := band_t (band_t (a := Nat.beq 8 8) rfl (eqI_self (t.k.toNat : Int))) (band_t (sEq_self t.nm.length (packB t.nm)) (band_t (band_t (a := Nat.beq 63 63) rfl (eqI_self (t.d : Int))) (band_t (band_t (a := Nat.beq 8 8) rfl (eqI_self (t.e.toNat : Int))) (rfl : true = true))))
  rw [e]
  exact (congrArg (fun b => ifB b r .fail) e2).trans rfl
end Go.Proofs.YtnpfppddongbhaaDoor
end

section
namespace Go.Proofs.YtnpfppddongbhaaDoor
open Go Go.AM
set_option autoImplicit false
set_option linter.unusedSimpArgs false
set_option linter.unusedVariables false
/-! ### the type that a text begins with -/
def lead : List UInt8 → Nat
  | [] => 0
  | c :: l => if c = 91 then lead l + 1 else 0
theorem lead_le (l : List UInt8) : lead l ≤ l.length := by
  induction l with
  | nil => exact Nat.le_refl _
  | cons c l ih => unfold lead; split <;> simp <;> omega
def upto : List UInt8 → Option (List UInt8)
  | [] => none
  | c :: l => if c = 59 then some [] else (upto l).map (c :: ·)
theorem upto_none (l : List UInt8) : upto l = none ↔ (59 : UInt8) ∉ l := by
  induction l with
  | nil => simp [upto]
  | cons c l ih =>
    unfold upto
    by_cases hc : c = 59
    · simp [hc]
    · have : ¬ 59 = c := fun h => hc h.symm
      simp [hc, this, ih]
theorem upto_some (l : List UInt8) : ∀ a, upto l = some a → ∃ b, l = a ++ 59 :: b ∧ (59 : UInt8) ∉ a := by
  induction l with
  | nil => intro a h; cases h
  | cons c l ih =>
    intro a h
    unfold upto at h
    by_cases hc : c = 59
    · rw [if_pos hc] at h; cases h
      exact ⟨l, by simp [hc], by simp⟩
    · rw [if_neg hc] at h
      cases hu : upto l with
      | none => rw [hu] at h; cases h
      | some x =>
        rw [hu] at h; cases h
        obtain ⟨b, rfl, hx⟩ := ih x hu
        refine ⟨b, rfl, fun hm => ?_⟩
        rcases List.mem_cons.1 hm with e | e
        · exact hc e.symm
        · exact hx e
theorem idx_ap (a b : List UInt8) (z : UInt8) (h : z ∉ a) : Lib.indexByte (a ++ z :: b) z = (a.length : Int) := by
  induction a with
  | nil => simp [Lib.indexByte]
  | cons c a ih =>
    have h1 : (c == z) = false := by
      have : ¬ c = z := fun e => h (by simp [e])
      simpa using this
    have h2 := ih fun e => h (by simp [e])
    have e2 : ((a.length : Int) == -1) = false := beq_eq_false_iff_ne.2 (by omega)
    rw [List.cons_append]
    unfold Lib.indexByte
    rw [h1, h2, e2]
    simp
noncomputable def mkT (c : UInt8) (nm : List UInt8) (d : Nat) : Ty := if 0 < d then ⟨91, nm, d, c⟩ else ⟨c, nm, 0, 0⟩
def prims : List UInt8 := [66, 67, 73, 74, 83, 90]
noncomputable def fr (l : List UInt8) : Option (Ty × Nat) :=
  match l[lead l]? with
  | none => none
  | some c => if 255 < lead l then none else
    if c ∈ prims then some (mkT c [] (lead l), lead l + 1)
    else if c = 76 then match upto (l.drop (lead l + 1)) with
      | none => none
      | some nm => if cls nm = true then some (mkT 76 nm (lead l), lead l + 1 + (nm.length + 1)) else none
    else none
noncomputable def frV (o : Option (Ty × Nat)) : AV := .tup (.cons (tyV ((o.map (·.1)).getD ty0)) (.cons (.int 63 (((o.map (·.2)).getD 0 : Nat) : Int)) .nil))
/-! ### where a stroke is, a text cut there -/
theorem t115c (l : List UInt8) (h : Hp) : s115 [S l, S [59]] h = .ret (.int 63 (Lib.indexByte l 59)) h := by
  have x1 := fun k => sIdx_S [59] 63 0 (by decide) k
  have x2 : ∀ k : AV → Res, sIdx (S [59]) (.int 63 0) k = k (.int 8 59) := x1
  have x3 : s103 [S l, .int 8 59] h = .ret (.int 63 (Lib.indexByte l 59)) h := t103 l 59 h
  by_cases hl : [59] = l
  · have z : decide (([59] : List UInt8) = l) = true := decide_eq_true hl
    have e0 : Lib.indexByte l 59 = 0 := by rw [← hl]; rfl
    rw [e0]
    simp only [↓s115, ↓lenS_S, List.length_cons, List.length_nil, ↓eqS_S, z, Nat.zero_add, Int.natCast_one, ↓SD, SA, Int.ofNat_eq_natCast, Int.cast_ofNat_Int, Int.reduceBEq, Int.reduceAdd, Int.reduceNeg, Int.reduceNegSucc, Int.reduceLT, Int.reduceLE, Int.reduceMul, Int.reduceTMod, Int.reduceSub, Int.reduceBNe, Bool.not_true, Bool.not_false, decide_true, decide_false, ne_eq, not_false_eq_true, Int.reduceEq, reduceCtorEq]
  · have z : decide (([59] : List UInt8) = l) = false := decide_eq_false hl
    simp only [↓s115, ↓lenS_S, List.length_cons, List.length_nil, ↓eqS_S, z, ↓x2, ↓x3, Nat.zero_add, Int.natCast_one, ↓SD, SA, Int.ofNat_eq_natCast, Int.cast_ofNat_Int, Int.reduceBEq, Int.reduceAdd, Int.reduceNeg, Int.reduceNegSucc, Int.reduceLT, Int.reduceLE, Int.reduceMul, Int.reduceTMod, Int.reduceSub, Int.reduceBNe, Bool.not_true, Bool.not_false, decide_true, decide_false, ne_eq, not_false_eq_true, Int.reduceEq, reduceCtorEq]
theorem t79_some (a b : List UInt8) (h : Hp) (hl : (a ++ 59 :: b).length ≤ 100000) (ha : (59 : UInt8) ∉ a) : s79 [S (a ++ 59 :: b), S [59]] h = .ret (.tup (.cons (S a) (.cons (S b) (.cons (.bool true) .nil)))) h := by
  have e1 := t115c (a ++ 59 :: b) h
  rw [idx_ap a b 59 ha] at e1
  have c1 : ¬ (a.length : Int) < 0 := by omega
  have hlen : (a ++ 59 :: b).length = a.length + (b.length + 1) := by simp
  have w2 : wrapC 63 ((a.length : Int) + 1) = ((a.length + 1 : Nat) : Int) := s1n _ (by omega)
  have x2 : ∀ k : AV → Res, cutT (S (a ++ 59 :: b)) none (some (.int 63 ((a.length : Nat) : Int))) k = k (S a) := fun k => by
    rw [cutR_S _ _ _ (by omega), List.take_left]
  have x3 : ∀ k : AV → Res, cutT (S (a ++ 59 :: b)) (some (.int 63 ((a.length + 1 : Nat) : Int))) none k = k (S b) := fun k => by
    rw [cutL_S _ _ _ (by omega), show a.length + 1 = (a ++ [59]).length by simp, show a ++ 59 :: b = (a ++ [59]) ++ b by simp, List.drop_left]
  have e2 : s104 [S (a ++ 59 :: b), S [59]] h = .ret (.tup (.cons (S a) (.cons (S b) (.cons (.bool true) .nil)))) h := by
    simp only [↓s104, ↓e1, c1, ↓x2, ↓lenS_S, List.length_cons, List.length_nil, Nat.zero_add, Int.natCast_one, w2, ↓x3, ↓cK_S, ↓SD, SA, Int.ofNat_eq_natCast, Int.cast_ofNat_Int, Int.reduceBEq, Int.reduceAdd, Int.reduceNeg, Int.reduceNegSucc, Int.reduceLT, Int.reduceLE, Int.reduceMul, Int.reduceTMod, Int.reduceSub, Int.reduceBNe, Bool.not_true, Bool.not_false, decide_true, decide_false, ne_eq, not_false_eq_true, Int.reduceEq, reduceCtorEq]
  simp only [↓s79, ↓e2, nth_z, nth_1, nth_2, ↓cK_S, ↓SD, SA, Int.ofNat_eq_natCast, Int.cast_ofNat_Int, Int.reduceBEq, Int.reduceAdd, Int.reduceNeg, Int.reduceNegSucc, Int.reduceLT, Int.reduceLE, Int.reduceMul, Int.reduceTMod, Int.reduceSub, Int.reduceBNe, Bool.not_true, Bool.not_false, decide_true, decide_false, ne_eq, not_false_eq_true, Int.reduceEq, reduceCtorEq]
theorem t79_none (l : List UInt8) (h : Hp) (hl : (59 : UInt8) ∉ l) : s79 [S l, S [59]] h = .ret (.tup (.cons (S l) (.cons (S []) (.cons (.bool false) .nil)))) h := by
  have e1 := t115c l h
  have c1 : Lib.indexByte l 59 < 0 := (idx_neg l 59).2 hl
  have e2 : s104 [S l, S [59]] h = .ret (.tup (.cons (S l) (.cons (S []) (.cons (.bool false) .nil)))) h := by
    simp only [↓s104, ↓e1, c1, ↓S_0, ↓cK_S, ↓SD, SA, Int.ofNat_eq_natCast, Int.cast_ofNat_Int, Int.reduceBEq, Int.reduceAdd, Int.reduceNeg, Int.reduceNegSucc, Int.reduceLT, Int.reduceLE, Int.reduceMul, Int.reduceTMod, Int.reduceSub, Int.reduceBNe, Bool.not_true, Bool.not_false, decide_true, decide_false, ne_eq, not_false_eq_true, Int.reduceEq, reduceCtorEq]
  simp only [↓s79, ↓e2, nth_z, nth_1, nth_2, ↓cK_S, ↓SD, SA, Int.ofNat_eq_natCast, Int.cast_ofNat_Int, Int.reduceBEq, Int.reduceAdd, Int.reduceNeg, Int.reduceNegSucc, Int.reduceLT, Int.reduceLE, Int.reduceMul, Int.reduceTMod, Int.reduceSub, Int.reduceBNe, Bool.not_true, Bool.not_false, decide_true, decide_false, ne_eq, not_false_eq_true, Int.reduceEq, reduceCtorEq]
theorem S_prims : AV.str 6 99313775100738 = S prims := by kernel_rfl
theorem S_59 : AV.str 1 59 = S [59] := rfl
theorem c91 (c : UInt8) : (((c.toNat : Int) == 91) : Bool) = decide (c = 91) := c8e c 91 (by decide)
theorem loop55 {l : List UInt8} (hl : l.length ≤ 100000) (v : AV) (h : Hp) : ∀ (f m i : Nat), l.length - i ≤ f → f < m → i ≤ l.length →
    lp L55n0 m [S l, v, .int 63 (i : Int)] h = .exit 0 [S l, v, .int 63 ((i + lead (l.drop i) : Nat) : Int)] h := by
  have gs : ∀ a : List UInt8, gsel (.bool true) true (S a) = S a := fun a => rfl
  have gi : ∀ x : Int, gsel (.bool true) true (.int 63 x) = .int 63 x := fun x => rfl
  have stop : ∀ (m i : Nat), ¬ i < l.length → i ≤ l.length → lp L55n0 (m + 1) [S l, v, .int 63 (i : Int)] h = .exit 0 [S l, v, .int 63 ((i + lead (l.drop i) : Nat) : Int)] h := by
    intro m i hi hi2
    have e1 : ¬ (i : Int) < (l.length : Int) := by omega
    rw [List.drop_eq_nil_of_le (by omega)]
    exact lpx m (by simp only [↓L55n0, ↓lenS_S, e1, ↓SD, SA, Int.ofNat_eq_natCast, Int.cast_ofNat_Int, Int.reduceBEq, Int.reduceAdd, Int.reduceNeg, Int.reduceNegSucc, Int.reduceLT, Int.reduceLE, Int.reduceMul, Int.reduceTMod, Int.reduceSub, Int.reduceBNe, Bool.not_true, Bool.not_false, decide_true, decide_false, ne_eq, not_false_eq_true, Int.reduceEq, reduceCtorEq]; rfl)
  intro f
  induction f with
  | zero =>
    intro m i hf hm hi
    obtain ⟨m, rfl⟩ : ∃ k, m = k + 1 := ⟨m - 1, by omega⟩
    exact stop m i (by omega) hi
  | succ f ih =>
    intro m i hf hm hi
    obtain ⟨m, rfl⟩ : ∃ k, m = k + 1 := ⟨m - 1, by omega⟩
    by_cases hin : i < l.length
    · have e1 : (i : Int) < (l.length : Int) := by omega
      have x1 := fun k => sIdx_S l 63 i hin k
      have e3 := c91 l[i]
      rw [List.drop_eq_getElem_cons hin]
      by_cases hc : l[i] = 91
      · rw [decide_eq_true hc] at e3
        have e : L55n0 [S l, v, .int 63 (i : Int)] h = .norm [S l, v, .int 63 ((i + 1 : Nat) : Int)] h := by
          simp only [↓L55n0, ↓lenS_S, e1, ↓gs, ↓gi, ↓x1, e3, s1n i (by omega), ↓SD, SA, Int.ofNat_eq_natCast, Int.cast_ofNat_Int, Int.reduceBEq, Int.reduceAdd, Int.reduceNeg, Int.reduceNegSucc, Int.reduceLT, Int.reduceLE, Int.reduceMul, Int.reduceTMod, Int.reduceSub, Int.reduceBNe, Bool.not_true, Bool.not_false, decide_true, decide_false, ne_eq, not_false_eq_true, Int.reduceEq, reduceCtorEq]
        rw [lpn m e, ih m (i + 1) (by omega) (by omega) (by omega), lead, if_pos hc, show i + 1 + lead (l.drop (i + 1)) = i + (lead (l.drop (i + 1)) + 1) by omega]
      · rw [decide_eq_false hc] at e3
        rw [lead, if_neg hc]
        exact lpx m (by simp only [↓L55n0, ↓lenS_S, e1, ↓gs, ↓gi, ↓x1, e3, ↓SD, SA, Int.ofNat_eq_natCast, Int.cast_ofNat_Int, Int.reduceBEq, Int.reduceAdd, Int.reduceNeg, Int.reduceNegSucc, Int.reduceLT, Int.reduceLE, Int.reduceMul, Int.reduceTMod, Int.reduceSub, Int.reduceBNe, Bool.not_true, Bool.not_false, decide_true, decide_false, ne_eq, not_false_eq_true, Int.reduceEq, reduceCtorEq]; rfl)
    · exact stop m i hin hi
/-- How the two readers end. -/
theorem fin1 {h : Hp} {b1 : Nat} {x : Ty} (hw : Wf h) (h1 : Cel h b1 x) (t : Ty) : ∃ h4, (∀ k : Hp → Res, stN h 4 (.ptr b1 0) (tyV t) k = k h4) ∧ (∀ k : AV → Res, ldN h4 4 (.ptr b1 0) k = k (tyV t)) ∧ To (At b1) h h4 ∧ Wf h4 := by
  obtain ⟨h4, s1, s2, s3, s4, s5⟩ := h1.st hw t
  exact ⟨h4, s1, fun k => s2.ld k, s3, s4⟩
end Go.Proofs.YtnpfppddongbhaaDoor
end

section
namespace Go.Proofs.YtnpfppddongbhaaDoor
open Go Go.AM
set_option autoImplicit false
set_option linter.unusedSimpArgs false
set_option linter.unusedVariables false
theorem fin2 {h : Hp} {b1 b2 : Nat} {x : Ty} {c : UInt8} {nm : List UInt8} (hw : Wf h) (h1 : Cel h b1 x) (h2 : Cel h b2 ⟨c, nm, 0, 0⟩) (hne : b1 ≠ b2) (d : Nat) :
    ∃ g1 g2 g3 g4, (∀ k : Hp → Res, st1 h (.ptr b2 (Nat.add 0 2)) (.int 63 (d : Int)) k = k g1) ∧ (∀ k : Hp → Res, st1 g1 (.ptr b2 (Nat.add 0 3)) (.int 8 (c.toNat : Int)) k = k g2) ∧ (∀ k : Hp → Res, st1 g2 (.ptr b2 (Nat.add 0 0)) (.int 8 91) k = k g3) ∧
      (∀ k : AV → Res, ldN g3 4 (.ptr b2 0) k = k (tyV ⟨91, nm, d, c⟩)) ∧ (∀ k : Hp → Res, stN g3 4 (.ptr b1 0) (tyV ⟨91, nm, d, c⟩) k = k g4) ∧ (∀ k : AV → Res, ldN g4 4 (.ptr b1 0) k = k (tyV ⟨91, nm, d, c⟩)) ∧ To (fun y => y = b1 ∨ y = b2) h g4 ∧ Wf g4 := by
  obtain ⟨g1, a1, a2, a3, a4, -⟩ := h2.s2 hw d
  obtain ⟨g2, d1, d2, d3, d4, -⟩ := a2.s3 a4 c
  obtain ⟨g3, e1, e2, e3, e4, -⟩ := d2.s0 d4 91
  have hb := ((h1.to a3 (fun e => hne e)).to d3 (fun e => hne e)).to e3 (fun e => hne e)
  obtain ⟨g4, f1, f2, f3, f4⟩ := fin1 e4 hb ⟨91, nm, d, c⟩
  exact ⟨g1, g2, g3, g4, a1, d1, fun k => e1 k, fun k => e2.ld k, f1, f2, ((((a3.trans d3).trans e3).mono fun y _ e => Or.inr e)).trans (f3.mono fun y _ e => Or.inl e), f4⟩
theorem t78c (c : UInt8) (h : Hp) : ∃ r : Int, s78 [S prims, .int 8 (c.toNat : Int)] h = .ret (.int 63 r) h ∧ (r < 0 ↔ c ∉ prims) := ⟨_, t78 prims c h, idx_neg prims c⟩
theorem t55 {l : List UInt8} (hl : l.length ≤ 100000) {h : Hp} (hw : Wf h) : ∃ h', s55 [S l] h = .ret (frV (fr l)) h' ∧ To No h h' ∧ Wf h' := by
  obtain ⟨h1, m1, c1, o1, w1, n1⟩ := ty0_mk hw
  have lp0 := loop55 hl (.ptr h.nb 0) h1 l.length most 0 (by omega) (by unfold most; omega) (by omega)
  rw [List.drop_zero, Nat.zero_add] at lp0
  have lp0 : lp L55n0 most [S l, .ptr h.nb 0, .int 63 0] h1 = .exit 0 [S l, .ptr h.nb 0, .int 63 (lead l : Int)] h1 := lp0
  have hle := lead_le l
  have gs : ∀ a : List UInt8, gsel (.bool false) false (S a) = S a := fun a => rfl
  have gi : ∀ x : Int, gsel (.bool false) false (.int 63 x) = .int 63 x := fun x => rfl
  have zero : ∀ {g : Hp}, Wf g → Cel g h.nb ty0 → ∃ h2, (∀ k : Hp → Res, stN g 4 (.ptr h.nb 0) (.agg (avL (tyL ty0))) k = k h2) ∧ (∀ k : AV → Res, ldN h2 4 (.ptr h.nb 0) k = k (tyV ty0)) ∧ To (At h.nb) g h2 ∧ Wf h2 := fun w c => fin1 w c ty0
  by_cases d255 : 255 < lead l
  · obtain ⟨h2, p1, p2, o2, w2⟩ := zero w1 c1
    have e : fr l = none := by unfold fr; cases hc : l[lead l]? <;> simp [d255]
    have q : (255 : Int) < (lead l : Int) := by omega
    refine ⟨h2, ?_, o1.fresh o2 (fun x e => by have : x = h.nb := e; omega), w2⟩
    rw [e]
    simp only [↓s55, ↓m1, ↓lp0, ↓blk_x, q, ↓bldz, ↓p1, ↓p2, ↓cK_ty, ↓SD, SA, Int.ofNat_eq_natCast, Int.cast_ofNat_Int, Int.reduceBEq, Int.reduceAdd, Int.reduceNeg, Int.reduceNegSucc, Int.reduceLT, Int.reduceLE, Int.reduceMul, Int.reduceTMod, Int.reduceSub, Int.reduceBNe, Bool.not_true, Bool.not_false, decide_true, decide_false, ne_eq, not_false_eq_true, Int.reduceEq, reduceCtorEq]; rfl
  have q : ¬ (255 : Int) < (lead l : Int) := by omega
  by_cases dl : lead l = l.length
  · obtain ⟨h2, p1, p2, o2, w2⟩ := zero w1 c1
    have e : fr l = none := by unfold fr; rw [List.getElem?_eq_none (by omega)]
    have q2 : (((lead l : Nat) : Int) == (l.length : Int)) = true := by rw [dl]; exact beq_self_eq_true _
    refine ⟨h2, ?_, o1.fresh o2 (fun x e => by have : x = h.nb := e; omega), w2⟩
    rw [e]
    simp only [↓s55, ↓m1, ↓lp0, ↓blk_x, q, q2, ↓gs, ↓gi, ↓lenS_S, ↓bldz, ↓p1, ↓p2, ↓cK_ty, ↓SD, SA, Int.ofNat_eq_natCast, Int.cast_ofNat_Int, Int.reduceBEq, Int.reduceAdd, Int.reduceNeg, Int.reduceNegSucc, Int.reduceLT, Int.reduceLE, Int.reduceMul, Int.reduceTMod, Int.reduceSub, Int.reduceBNe, Bool.not_true, Bool.not_false, decide_true, decide_false, ne_eq, not_false_eq_true, Int.reduceEq, reduceCtorEq]; rfl
  have q2 : (((lead l : Nat) : Int) == (l.length : Int)) = false := beq_eq_false_iff_ne.2 (by omega)
  have hin : lead l < l.length := by omega
  have x1 := fun k => sIdx_S l 63 (lead l) hin k
  have hfr : fr l = if l[lead l] ∈ prims then some (mkT l[lead l] [] (lead l), lead l + 1)
    else if l[lead l] = 76 then match upto (l.drop (lead l + 1)) with
      | none => none
      | some nm => if cls nm = true then some (mkT 76 nm (lead l), lead l + 1 + (nm.length + 1)) else none
    else none := by
    conv => lhs; unfold fr
    rw [List.getElem?_eq_getElem hin]
    simp only [if_neg d255]
    try rfl
  rw [hfr]
  generalize hcc : l[lead l] = c at *
  have i1 : wrapC 63 ((lead l : Int) + 1) = ((lead l + 1 : Nat) : Int) := s1n _ (by omega)
  obtain ⟨h3, m3, c3, o3, w3, n3⟩ := ty0_mk w1
  obtain ⟨h4, s4, c4, o4, w4, n4⟩ := c3.st w3 ⟨c, [], 0, 0⟩
  have c1' : Cel h4 h.nb ty0 := (c1.to o3 (fun f => f)).to o4 (fun f => by have : h.nb = h1.nb := f; omega)
  have l4 := fun k => c4.l0 k
  have l4 : ∀ k : AV → Res, ld1 h4 (.ptr h1.nb (Nat.add 0 0)) k = k (.int 8 (c.toNat : Int)) := l4
  have oo : To (fun y => h.nb ≤ y) h h4 := by
    have q1 : To (fun y => h.nb ≤ y) h h1 := o1.mono fun _ _ f => f.elim
    have q3 : To (fun y => h.nb ≤ y) h1 h3 := o3.mono fun _ _ f => f.elim
    exact (q1.trans q3).trans (o4.mono fun y _ e => by have : y = h1.nb := e; omega)
  have end2 : ∀ {g : Hp}, To (fun y => h.nb ≤ y) h4 g → To No h g := fun {g} t => (oo.trans t).mono fun y hy hn => by omega
  obtain ⟨r, e78, hr⟩ := t78c c h4
  have hne : h.nb ≠ h1.nb := by omega
  by_cases hp : c ∈ prims
  · rw [if_pos hp]
    have q3 : ¬ r < 0 := fun h => (hr.1 h) hp
    by_cases hd : 0 < lead l
    · have q4 : (0 : Int) < (lead l : Int) := by omega
      obtain ⟨g1, g2, g3, g4, a1, a2, a3, a4, a5, a6, a7, a8⟩ := fin2 w4 c1' c4 hne (lead l)
      have eT : mkT c [] (lead l) = ⟨91, [], lead l, c⟩ := if_pos hd
      refine ⟨g4, ?_, end2 (a7.mono fun y _ e => by rcases e with rfl | rfl <;> omega), a8⟩
      rw [eT]
      simp only [↓s55, ↓m1, ↓lp0, ↓blk_x, q, q2, ↓gs, ↓gi, ↓lenS_S, ↓x1, ↓bldk, i1, ↓m3, ↓s4, ↓cP_p, ↓l4, ↓S_prims, ↓e78, q3, q4, ↓a1, ↓a2, ↓a3, ↓a4, ↓a5, ↓a6, ↓cK_ty, ↓SD, SA, Int.ofNat_eq_natCast, Int.cast_ofNat_Int, Int.reduceBEq, Int.reduceAdd, Int.reduceNeg, Int.reduceNegSucc, Int.reduceLT, Int.reduceLE, Int.reduceMul, Int.reduceTMod, Int.reduceSub, Int.reduceBNe, Bool.not_true, Bool.not_false, decide_true, decide_false, ne_eq, not_false_eq_true, Int.reduceEq, reduceCtorEq]; rfl
    · have q4 : ¬ (0 : Int) < (lead l : Int) := by omega
      have eT : mkT c [] (lead l) = ⟨c, [], 0, 0⟩ := if_neg hd
      obtain ⟨g4, a5, a6, a7, a8⟩ := fin1 w4 c1' ⟨c, [], 0, 0⟩
      have a4 := fun k => c4.ld k
      refine ⟨g4, ?_, end2 (a7.mono fun y _ e => by have : y = h.nb := e; omega), a8⟩
      rw [eT]
      simp only [↓s55, ↓m1, ↓lp0, ↓blk_x, q, q2, ↓gs, ↓gi, ↓lenS_S, ↓x1, ↓bldk, i1, ↓m3, ↓s4, ↓cP_p, ↓l4, ↓S_prims, ↓e78, q3, q4, ↓a4, ↓a5, ↓a6, ↓cK_ty, ↓SD, SA, Int.ofNat_eq_natCast, Int.cast_ofNat_Int, Int.reduceBEq, Int.reduceAdd, Int.reduceNeg, Int.reduceNegSucc, Int.reduceLT, Int.reduceLE, Int.reduceMul, Int.reduceTMod, Int.reduceSub, Int.reduceBNe, Bool.not_true, Bool.not_false, decide_true, decide_false, ne_eq, not_false_eq_true, Int.reduceEq, reduceCtorEq]; rfl
  rw [if_neg hp]
  have q3 : r < 0 := hr.2 hp
  have c76 : (((c.toNat : Int) == 76) : Bool) = decide (c = 76) := c8e c 76 (by decide)
  by_cases h76 : c = 76
  · rw [if_pos h76]
    rw [decide_eq_true h76] at c76
    have x2 := fun k => cutL_S l 63 (lead l + 1) (by omega) k
    have hdl : (l.drop (lead l + 1)).length ≤ 100000 := by simp; omega
    cases hu : upto (l.drop (lead l + 1)) with
    | none =>
      obtain ⟨h5, p1, p2, o5, w5⟩ := zero w4 c1'
      have e79 := t79_none (l.drop (lead l + 1)) h4 ((upto_none _).1 hu)
      refine ⟨h5, ?_, end2 (o5.mono fun y _ e => by have : y = h.nb := e; omega), w5⟩
      simp only [↓s55, ↓m1, ↓lp0, ↓blk_x, q, q2, ↓gs, ↓gi, ↓lenS_S, ↓x1, ↓bldk, i1, ↓m3, ↓s4, ↓cP_p, ↓l4, ↓S_prims, ↓e78, q3, c76, ↓x2, ↓S_59, ↓e79, nth_z, nth_1, nth_2, ↓cK_S, ↓bldz, ↓p1, ↓p2, ↓cK_ty, ↓SD, SA, Int.ofNat_eq_natCast, Int.cast_ofNat_Int, Int.reduceBEq, Int.reduceAdd, Int.reduceNeg, Int.reduceNegSucc, Int.reduceLT, Int.reduceLE, Int.reduceMul, Int.reduceTMod, Int.reduceSub, Int.reduceBNe, Bool.not_true, Bool.not_false, decide_true, decide_false, ne_eq, not_false_eq_true, Int.reduceEq, reduceCtorEq]; rfl
    | some nm =>
      obtain ⟨b, eb, hn⟩ := upto_some _ nm hu
      rw [eb] at x2 hdl
      have hnl : nm.length + 1 + b.length = l.length - (lead l + 1) := by
        have := congrArg List.length eb
        simp at this; omega
      have e79 := t79_some nm b h4 hdl hn
      obtain ⟨h5, e17, o5, w5⟩ := t17 (l := nm) (by omega) w4
      have c15 : Cel h5 h.nb ty0 := c1'.to o5 (fun f => f)
      have c45 : Cel h5 h1.nb ⟨c, [], 0, 0⟩ := c4.to o5 (fun f => f)
      have gs2 : ∀ a : List UInt8, gsel (.bool false) false (S a) = S a := fun a => rfl
      show ∃ h', s55 [S l] h = .ret (frV (if cls nm = true then some (mkT 76 nm (lead l), lead l + 1 + (nm.length + 1)) else none)) h' ∧ To No h h' ∧ Wf h'
      cases hcl : cls nm with
      | false =>
        rw [hcl] at e17
        obtain ⟨h6, p1, p2, o6, w6⟩ := zero w5 c15
        rw [if_neg (by decide)]
        refine ⟨h6, ?_, end2 ((o5.mono fun _ _ f => f.elim).trans (o6.mono fun y _ e => by have : y = h.nb := e; omega)), w6⟩
        simp only [↓s55, ↓m1, ↓lp0, ↓blk_x, q, q2, ↓gs, ↓gi, ↓lenS_S, ↓x1, ↓bldk, i1, ↓m3, ↓s4, ↓cP_p, ↓l4, ↓S_prims, ↓e78, q3, c76, ↓x2, ↓S_59, ↓e79, nth_z, nth_1, nth_2, ↓cK_S, ↓e17, ↓bldz, ↓p1, ↓p2, ↓cK_ty, ↓SD, SA, Int.ofNat_eq_natCast, Int.cast_ofNat_Int, Int.reduceBEq, Int.reduceAdd, Int.reduceNeg, Int.reduceNegSucc, Int.reduceLT, Int.reduceLE, Int.reduceMul, Int.reduceTMod, Int.reduceSub, Int.reduceBNe, Bool.not_true, Bool.not_false, decide_true, decide_false, ne_eq, not_false_eq_true, Int.reduceEq, reduceCtorEq]; rfl
      | true =>
        rw [hcl] at e17
        obtain ⟨h6, s6, c6, o6, w6, n6⟩ := c45.s1 w5 nm
        have c6 : Cel h6 h1.nb ⟨c, nm, 0, 0⟩ := c6
        have c16 : Cel h6 h.nb ty0 := c15.to o6 (fun f => hne f)
        have i2 : wrapC 63 ((nm.length : Int) + 1) = ((nm.length + 1 : Nat) : Int) := s1n _ (by omega)
        have i3 : wrapC 63 (((lead l + 1 : Nat) : Int) + ((nm.length + 1 : Nat) : Int)) = ((lead l + 1 + (nm.length + 1) : Nat) : Int) := by rw [w63_in _ (by omega) (by omega)]; omega
        have l6 := fun k => c6.l0 k
        have l6 : ∀ k : AV → Res, ld1 h6 (.ptr h1.nb (Nat.add 0 0)) k = k (.int 8 (c.toNat : Int)) := l6
        have o46 : To (fun y => h.nb ≤ y) h4 h6 := (o5.mono fun _ _ f => f.elim).trans (o6.mono fun y _ e => by have : y = h1.nb := e; omega)
        by_cases hd : 0 < lead l
        · have q4 : (0 : Int) < (lead l : Int) := by omega
          obtain ⟨g1, g2, g3, g4, a1, a2, a3, a4, a5, a6, a7, a8⟩ := fin2 w6 c16 c6 hne (lead l)
          have eT : mkT 76 nm (lead l) = ⟨91, nm, lead l, c⟩ := by rw [h76]; exact if_pos hd
          refine ⟨g4, ?_, end2 (o46.trans (a7.mono fun y _ e => by rcases e with rfl | rfl <;> omega)), a8⟩
          rw [if_pos rfl, eT]
          simp only [↓s55, ↓m1, ↓lp0, ↓blk_x, q, q2, ↓gs, ↓gi, ↓lenS_S, ↓x1, ↓bldk, i1, ↓m3, ↓s4, ↓cP_p, ↓l4, ↓S_prims, ↓e78, q3, c76, ↓x2, ↓S_59, ↓e79, nth_z, nth_1, nth_2, ↓cK_S, ↓e17, ↓s6, i2, i3, q4, ↓l6, ↓a1, ↓a2, ↓a3, ↓a4, ↓a5, ↓a6, ↓cK_ty, ↓SD, SA, Int.ofNat_eq_natCast, Int.cast_ofNat_Int, Int.reduceBEq, Int.reduceAdd, Int.reduceNeg, Int.reduceNegSucc, Int.reduceLT, Int.reduceLE, Int.reduceMul, Int.reduceTMod, Int.reduceSub, Int.reduceBNe, Bool.not_true, Bool.not_false, decide_true, decide_false, ne_eq, not_false_eq_true, Int.reduceEq, reduceCtorEq]; rfl
        · have q4 : ¬ (0 : Int) < (lead l : Int) := by omega
          have eT : mkT 76 nm (lead l) = ⟨c, nm, 0, 0⟩ := by rw [h76]; exact if_neg hd
          obtain ⟨g4, a5, a6, a7, a8⟩ := fin1 w6 c16 ⟨c, nm, 0, 0⟩
          have a4 := fun k => c6.ld k
          refine ⟨g4, ?_, end2 (o46.trans (a7.mono fun y _ e => by have : y = h.nb := e; omega)), a8⟩
          rw [if_pos rfl, eT]
          simp only [↓s55, ↓m1, ↓lp0, ↓blk_x, q, q2, ↓gs, ↓gi, ↓lenS_S, ↓x1, ↓bldk, i1, ↓m3, ↓s4, ↓cP_p, ↓l4, ↓S_prims, ↓e78, q3, c76, ↓x2, ↓S_59, ↓e79, nth_z, nth_1, nth_2, ↓cK_S, ↓e17, ↓s6, i2, i3, q4, ↓a4, ↓a5, ↓a6, ↓cK_ty, ↓SD, SA, Int.ofNat_eq_natCast, Int.cast_ofNat_Int, Int.reduceBEq, Int.reduceAdd, Int.reduceNeg, Int.reduceNegSucc, Int.reduceLT, Int.reduceLE, Int.reduceMul, Int.reduceTMod, Int.reduceSub, Int.reduceBNe, Bool.not_true, Bool.not_false, decide_true, decide_false, ne_eq, not_false_eq_true, Int.reduceEq, reduceCtorEq]; rfl
  · rw [if_neg h76]
    rw [decide_eq_false h76] at c76
    obtain ⟨h5, p1, p2, o5, w5⟩ := zero w4 c1'
    refine ⟨h5, ?_, end2 (o5.mono fun y _ e => by have : y = h.nb := e; omega), w5⟩
    simp only [↓s55, ↓m1, ↓lp0, ↓blk_x, q, q2, ↓gs, ↓gi, ↓lenS_S, ↓x1, ↓bldk, i1, ↓m3, ↓s4, ↓cP_p, ↓l4, ↓S_prims, ↓e78, q3, c76, ↓bldz, ↓p1, ↓p2, ↓cK_ty, ↓SD, SA, Int.ofNat_eq_natCast, Int.cast_ofNat_Int, Int.reduceBEq, Int.reduceAdd, Int.reduceNeg, Int.reduceNegSucc, Int.reduceLT, Int.reduceLE, Int.reduceMul, Int.reduceTMod, Int.reduceSub, Int.reduceBNe, Bool.not_true, Bool.not_false, decide_true, decide_false, ne_eq, not_false_eq_true, Int.reduceEq, reduceCtorEq]; rfl
end Go.Proofs.YtnpfppddongbhaaDoor
end

section
namespace Go.Proofs.YtnpfppddongbhaaDoor
open Go Go.AM
set_option autoImplicit false
set_option linter.unusedSimpArgs false
set_option linter.unusedVariables false
def skip : List UInt8 → Nat
  | [] => 0
  | c :: l => if c = 59 then 0 else skip l + 1
theorem skip_le (l : List UInt8) : skip l ≤ l.length := by
  induction l with
  | nil => exact Nat.le_refl _
  | cons c l ih => unfold skip; split <;> simp; omega
theorem skip_ap (a b : List UInt8) (h : (59 : UInt8) ∉ a) : skip (a ++ 59 :: b) = a.length := by
  induction a with
  | nil => rfl
  | cons c a ih =>
    have h1 : ¬ c = 59 := fun e => h (by simp [e])
    rw [List.cons_append, skip, if_neg h1, ih fun e => h (by simp [e])]; rfl
theorem skip_none (l : List UInt8) (h : (59 : UInt8) ∉ l) : skip l = l.length := by
  induction l with
  | nil => rfl
  | cons c l ih =>
    have h1 : ¬ c = 59 := fun e => h (by simp [e])
    rw [skip, if_neg h1, ih fun e => h (by simp [e])]; rfl
theorem c59 (c : UInt8) : (((c.toNat : Int) == 59) : Bool) = decide (c = 59) := c8e c 59 (by decide)
theorem loop56 {l : List UInt8} (hl : l.length ≤ 100000) (v1 v2 v3 v4 : AV) (h : Hp) : ∀ (f m i : Nat), l.length - i ≤ f → f < m → i ≤ l.length →
    lp L56n1 m [S l, v1, v2, v3, .int 63 (i : Int), v4] h = .exit 3 [S l, v1, v2, v3, .int 63 ((i + skip (l.drop i) : Nat) : Int), v4] h := by
  have gs : ∀ a : List UInt8, gsel (.bool true) true (S a) = S a := fun a => rfl
  have gi : ∀ x : Int, gsel (.bool true) true (.int 63 x) = .int 63 x := fun x => rfl
  have stop : ∀ (m i : Nat), ¬ i < l.length → i ≤ l.length → lp L56n1 (m + 1) [S l, v1, v2, v3, .int 63 (i : Int), v4] h = .exit 3 [S l, v1, v2, v3, .int 63 ((i + skip (l.drop i) : Nat) : Int), v4] h := by
    intro m i hi hi2
    have e1 : ¬ (i : Int) < (l.length : Int) := by omega
    rw [List.drop_eq_nil_of_le (by omega)]
    exact lpx m (by simp only [↓L56n1, ↓lenS_S, e1, ↓SD, SA, Int.ofNat_eq_natCast, Int.cast_ofNat_Int, Int.reduceBEq, Int.reduceAdd, Int.reduceNeg, Int.reduceNegSucc, Int.reduceLT, Int.reduceLE, Int.reduceMul, Int.reduceTMod, Int.reduceSub, Int.reduceBNe, Bool.not_true, Bool.not_false, decide_true, decide_false, ne_eq, not_false_eq_true, Int.reduceEq, reduceCtorEq]; rfl)
  intro f
  induction f with
  | zero =>
    intro m i hf hm hi
    obtain ⟨m, rfl⟩ : ∃ k, m = k + 1 := ⟨m - 1, by omega⟩
    exact stop m i (by omega) hi
  | succ f ih =>
    intro m i hf hm hi
    obtain ⟨m, rfl⟩ : ∃ k, m = k + 1 := ⟨m - 1, by omega⟩
    by_cases hin : i < l.length
    · have e1 : (i : Int) < (l.length : Int) := by omega
      have x1 := fun k => sIdx_S l 63 i hin k
      have e3 := c59 l[i]
      rw [List.drop_eq_getElem_cons hin]
      by_cases hc : l[i] = 59
      · rw [decide_eq_true hc] at e3
        rw [skip, if_pos hc]
        exact lpx m (by simp only [↓L56n1, ↓lenS_S, e1, ↓gs, ↓gi, ↓x1, e3, ↓SD, SA, Int.ofNat_eq_natCast, Int.cast_ofNat_Int, Int.reduceBEq, Int.reduceAdd, Int.reduceNeg, Int.reduceNegSucc, Int.reduceLT, Int.reduceLE, Int.reduceMul, Int.reduceTMod, Int.reduceSub, Int.reduceBNe, Bool.not_true, Bool.not_false, decide_true, decide_false, ne_eq, not_false_eq_true, Int.reduceEq, reduceCtorEq]; rfl)
      · rw [decide_eq_false hc] at e3
        have e : L56n1 [S l, v1, v2, v3, .int 63 (i : Int), v4] h = .norm [S l, v1, v2, v3, .int 63 ((i + 1 : Nat) : Int), v4] h := by
          simp only [↓L56n1, ↓lenS_S, e1, ↓gs, ↓gi, ↓x1, e3, s1n i (by omega), ↓SD, SA, Int.ofNat_eq_natCast, Int.cast_ofNat_Int, Int.reduceBEq, Int.reduceAdd, Int.reduceNeg, Int.reduceNegSucc, Int.reduceLT, Int.reduceLE, Int.reduceMul, Int.reduceTMod, Int.reduceSub, Int.reduceBNe, Bool.not_true, Bool.not_false, decide_true, decide_false, ne_eq, not_false_eq_true, Int.reduceEq, reduceCtorEq]
        rw [lpn m e, ih m (i + 1) (by omega) (by omega) (by omega), skip, if_neg hc, show i + 1 + skip (l.drop (i + 1)) = i + (skip (l.drop (i + 1)) + 1) by omega]
    · exact stop m i hin hi
theorem fin3 {h : Hp} {b1 b2 : Nat} {x : Ty} {c : UInt8} {nm : List UInt8} (hw : Wf h) (h1 : Cel h b1 x) (h2 : Cel h b2 ⟨c, nm, 0, 0⟩) (hne : b1 ≠ b2) (d : Nat) :
    ∃ g1 g2 g3 g4, (∀ k : Hp → Res, st1 h (.ptr b2 (Nat.add 0 3)) (.int 8 (c.toNat : Int)) k = k g1) ∧ (∀ k : Hp → Res, st1 g1 (.ptr b2 (Nat.add 0 0)) (.int 8 91) k = k g2) ∧ (∀ k : Hp → Res, st1 g2 (.ptr b2 (Nat.add 0 2)) (.int 63 (d : Int)) k = k g3) ∧
      (∀ k : AV → Res, ldN g3 4 (.ptr b2 0) k = k (tyV ⟨91, nm, d, c⟩)) ∧ (∀ k : Hp → Res, stN g3 4 (.ptr b1 0) (tyV ⟨91, nm, d, c⟩) k = k g4) ∧ (∀ k : AV → Res, ldN g4 4 (.ptr b1 0) k = k (tyV ⟨91, nm, d, c⟩)) ∧ To (fun y => y = b1 ∨ y = b2) h g4 ∧ Wf g4 := by
  obtain ⟨g1, a1, a2, a3, a4, -⟩ := h2.s3 hw c
  obtain ⟨g2, d1, d2, d3, d4, -⟩ := a2.s0 a4 91
  obtain ⟨g3, e1, e2, e3, e4, -⟩ := d2.s2 d4 d
  have hb := ((h1.to a3 (fun e => hne e)).to d3 (fun e => hne e)).to e3 (fun e => hne e)
  obtain ⟨g4, f1, f2, f3, f4⟩ := fin1 e4 hb ⟨91, nm, d, c⟩
  exact ⟨g1, g2, g3, g4, a1, fun k => d1 k, e1, fun k => e2.ld k, f1, f2, ((((a3.trans d3).trans e3).mono fun y _ e => Or.inr e)).trans (f3.mono fun y _ e => Or.inl e), f4⟩
theorem t56 {l : List UInt8} (hl : l.length ≤ 100000) {h : Hp} (hw : Wf h) : ∃ h', s56 [S l] h = .ret (frV (fr l)) h' ∧ To No h h' ∧ Wf h' := by
  obtain ⟨h1, m1, c1, o1, w1, n1⟩ := ty0_mk hw
  have lp0 := loop55 hl (.ptr h.nb 0) h1 l.length most 0 (by omega) (by unfold most; omega) (by omega)
  rw [List.drop_zero, Nat.zero_add] at lp0
  have lp0 : lp L56n0 most [S l, .ptr h.nb 0, .int 63 0] h1 = .exit 0 [S l, .ptr h.nb 0, .int 63 (lead l : Int)] h1 := lp0
  have hle := lead_le l
  have gs : ∀ a : List UInt8, gsel (.bool false) false (S a) = S a := fun a => rfl
  have gi : ∀ x : Int, gsel (.bool false) false (.int 63 x) = .int 63 x := fun x => rfl
  have zero : ∀ {g : Hp}, Wf g → Cel g h.nb ty0 → ∃ h2, (∀ k : Hp → Res, stN g 4 (.ptr h.nb 0) (.agg (avL (tyL ty0))) k = k h2) ∧ (∀ k : AV → Res, ldN h2 4 (.ptr h.nb 0) k = k (tyV ty0)) ∧ To (At h.nb) g h2 ∧ Wf h2 := fun w c => fin1 w c ty0
  by_cases dl : lead l = l.length
  · obtain ⟨h2, p1, p2, o2, w2⟩ := zero w1 c1
    have e : fr l = none := by unfold fr; rw [List.getElem?_eq_none (by omega)]
    have q2 : ¬ (lead l : Int) < (l.length : Int) := by omega
    refine ⟨h2, ?_, o1.fresh o2 (fun x e => by have : x = h.nb := e; omega), w2⟩
    rw [e]
    simp only [↓s56, ↓m1, ↓lp0, ↓blk_x, q2, ↓gs, ↓gi, ↓lenS_S, ↓bldz, ↓p1, ↓p2, ↓cK_ty, ↓SD, SA, Int.ofNat_eq_natCast, Int.cast_ofNat_Int, Int.reduceBEq, Int.reduceAdd, Int.reduceNeg, Int.reduceNegSucc, Int.reduceLT, Int.reduceLE, Int.reduceMul, Int.reduceTMod, Int.reduceSub, Int.reduceBNe, Bool.not_true, Bool.not_false, decide_true, decide_false, ne_eq, not_false_eq_true, Int.reduceEq, reduceCtorEq]; rfl
  have q2 : (lead l : Int) < (l.length : Int) := by omega
  by_cases d255 : 255 < lead l
  · obtain ⟨h2, p1, p2, o2, w2⟩ := zero w1 c1
    have e : fr l = none := by unfold fr; cases hc : l[lead l]? <;> simp [d255]
    have q : (255 : Int) < (lead l : Int) := by omega
    refine ⟨h2, ?_, o1.fresh o2 (fun x e => by have : x = h.nb := e; omega), w2⟩
    rw [e]
    simp only [↓s56, ↓m1, ↓lp0, ↓blk_x, q, q2, ↓gs, ↓gi, ↓lenS_S, ↓bldz, ↓p1, ↓p2, ↓cK_ty, ↓SD, SA, Int.ofNat_eq_natCast, Int.cast_ofNat_Int, Int.reduceBEq, Int.reduceAdd, Int.reduceNeg, Int.reduceNegSucc, Int.reduceLT, Int.reduceLE, Int.reduceMul, Int.reduceTMod, Int.reduceSub, Int.reduceBNe, Bool.not_true, Bool.not_false, decide_true, decide_false, ne_eq, not_false_eq_true, Int.reduceEq, reduceCtorEq]; rfl
  have q : ¬ (255 : Int) < (lead l : Int) := by omega
  have hin : lead l < l.length := by omega
  have x1 := fun k => sIdx_S l 63 (lead l) hin k
  have hfr : fr l = if l[lead l] ∈ prims then some (mkT l[lead l] [] (lead l), lead l + 1)
    else if l[lead l] = 76 then match upto (l.drop (lead l + 1)) with
      | none => none
      | some nm => if cls nm = true then some (mkT 76 nm (lead l), lead l + 1 + (nm.length + 1)) else none
    else none := by
    conv => lhs; unfold fr
    rw [List.getElem?_eq_getElem hin]
    simp only [if_neg d255]
    try rfl
  rw [hfr]
  generalize hcc : l[lead l] = c at *
  have i1 : wrapC 63 ((lead l : Int) + 1) = ((lead l + 1 : Nat) : Int) := s1n _ (by omega)
  obtain ⟨h3, m3, c3, o3, w3, n3⟩ := ty0_mk w1
  obtain ⟨h4, s4, c4, o4, w4, n4⟩ := c3.st w3 ⟨c, [], 0, 0⟩
  have c1' : Cel h4 h.nb ty0 := (c1.to o3 (fun f => f)).to o4 (fun f => by have : h.nb = h1.nb := f; omega)
  have oo : To (fun y => h.nb ≤ y) h h4 := by
    have q1 : To (fun y => h.nb ≤ y) h h1 := o1.mono fun _ _ f => f.elim
    have q3 : To (fun y => h.nb ≤ y) h1 h3 := o3.mono fun _ _ f => f.elim
    exact (q1.trans q3).trans (o4.mono fun y _ e => by have : y = h1.nb := e; omega)
  have end2 : ∀ {g : Hp}, To (fun y => h.nb ≤ y) h4 g → To No h g := fun {g} t => (oo.trans t).mono fun y hy hn => by omega
  have hne : h.nb ≠ h1.nb := by omega
  have f66 : (((c.toNat : Int) == 66) : Bool) = decide (c = 66) := c8e c 66 (by decide)
  have f67 : (((c.toNat : Int) == 67) : Bool) = decide (c = 67) := c8e c 67 (by decide)
  have f73 : (((c.toNat : Int) == 73) : Bool) = decide (c = 73) := c8e c 73 (by decide)
  have f74 : (((c.toNat : Int) == 74) : Bool) = decide (c = 74) := c8e c 74 (by decide)
  have f83 : (((c.toNat : Int) == 83) : Bool) = decide (c = 83) := c8e c 83 (by decide)
  have f90 : (((c.toNat : Int) == 90) : Bool) = decide (c = 90) := c8e c 90 (by decide)
  by_cases hp : c ∈ prims
  · rw [if_pos hp]
    by_cases hd : 0 < lead l
    · have q4 : (0 : Int) < (lead l : Int) := by omega
      obtain ⟨g1, g2, g3, g4, a1, a2, a3, a4, a5, a6, a7, a8⟩ := fin3 w4 c1' c4 hne (lead l)
      have eT : mkT c [] (lead l) = ⟨91, [], lead l, c⟩ := if_pos hd
      refine ⟨g4, ?_, end2 (a7.mono fun y _ e => by rcases e with rfl | rfl <;> omega), a8⟩
      rw [eT]
      by_cases e66 : c = 66
      · rw [decide_eq_true e66] at f66
        simp only [↓s56, ↓m1, ↓lp0, ↓blk_x, q, q2, ↓gs, ↓gi, ↓lenS_S, ↓x1, ↓bldk, i1, ↓m3, ↓s4, ↓cP_p, f66, q4, ↓a1, ↓a2, ↓a3, ↓a4, ↓a5, ↓a6, ↓cK_ty, ↓SD, SA, Int.ofNat_eq_natCast, Int.cast_ofNat_Int, Int.reduceBEq, Int.reduceAdd, Int.reduceNeg, Int.reduceNegSucc, Int.reduceLT, Int.reduceLE, Int.reduceMul, Int.reduceTMod, Int.reduceSub, Int.reduceBNe, Bool.not_true, Bool.not_false, decide_true, decide_false, ne_eq, not_false_eq_true, Int.reduceEq, reduceCtorEq]; rfl
      rw [decide_eq_false e66] at f66
      by_cases e67 : c = 67
      · rw [decide_eq_true e67] at f67
        simp only [↓s56, ↓m1, ↓lp0, ↓blk_x, q, q2, ↓gs, ↓gi, ↓lenS_S, ↓x1, ↓bldk, i1, ↓m3, ↓s4, ↓cP_p, f66, f67, q4, ↓a1, ↓a2, ↓a3, ↓a4, ↓a5, ↓a6, ↓cK_ty, ↓SD, SA, Int.ofNat_eq_natCast, Int.cast_ofNat_Int, Int.reduceBEq, Int.reduceAdd, Int.reduceNeg, Int.reduceNegSucc, Int.reduceLT, Int.reduceLE, Int.reduceMul, Int.reduceTMod, Int.reduceSub, Int.reduceBNe, Bool.not_true, Bool.not_false, decide_true, decide_false, ne_eq, not_false_eq_true, Int.reduceEq, reduceCtorEq]; rfl
      rw [decide_eq_false e67] at f67
      by_cases e73 : c = 73
      · rw [decide_eq_true e73] at f73
        simp only [↓s56, ↓m1, ↓lp0, ↓blk_x, q, q2, ↓gs, ↓gi, ↓lenS_S, ↓x1, ↓bldk, i1, ↓m3, ↓s4, ↓cP_p, f66, f67, f73, q4, ↓a1, ↓a2, ↓a3, ↓a4, ↓a5, ↓a6, ↓cK_ty, ↓SD, SA, Int.ofNat_eq_natCast, Int.cast_ofNat_Int, Int.reduceBEq, Int.reduceAdd, Int.reduceNeg, Int.reduceNegSucc, Int.reduceLT, Int.reduceLE, Int.reduceMul, Int.reduceTMod, Int.reduceSub, Int.reduceBNe, Bool.not_true, Bool.not_false, decide_true, decide_false, ne_eq, not_false_eq_true, Int.reduceEq, reduceCtorEq]; rfl
      rw [decide_eq_false e73] at f73
      by_cases e74 : c = 74
      · rw [decide_eq_true e74] at f74
        simp only [↓s56, ↓m1, ↓lp0, ↓blk_x, q, q2, ↓gs, ↓gi, ↓lenS_S, ↓x1, ↓bldk, i1, ↓m3, ↓s4, ↓cP_p, f66, f67, f73, f74, q4, ↓a1, ↓a2, ↓a3, ↓a4, ↓a5, ↓a6, ↓cK_ty, ↓SD, SA, Int.ofNat_eq_natCast, Int.cast_ofNat_Int, Int.reduceBEq, Int.reduceAdd, Int.reduceNeg, Int.reduceNegSucc, Int.reduceLT, Int.reduceLE, Int.reduceMul, Int.reduceTMod, Int.reduceSub, Int.reduceBNe, Bool.not_true, Bool.not_false, decide_true, decide_false, ne_eq, not_false_eq_true, Int.reduceEq, reduceCtorEq]; rfl
      rw [decide_eq_false e74] at f74
      by_cases e83 : c = 83
      · rw [decide_eq_true e83] at f83
        simp only [↓s56, ↓m1, ↓lp0, ↓blk_x, q, q2, ↓gs, ↓gi, ↓lenS_S, ↓x1, ↓bldk, i1, ↓m3, ↓s4, ↓cP_p, f66, f67, f73, f74, f83, q4, ↓a1, ↓a2, ↓a3, ↓a4, ↓a5, ↓a6, ↓cK_ty, ↓SD, SA, Int.ofNat_eq_natCast, Int.cast_ofNat_Int, Int.reduceBEq, Int.reduceAdd, Int.reduceNeg, Int.reduceNegSucc, Int.reduceLT, Int.reduceLE, Int.reduceMul, Int.reduceTMod, Int.reduceSub, Int.reduceBNe, Bool.not_true, Bool.not_false, decide_true, decide_false, ne_eq, not_false_eq_true, Int.reduceEq, reduceCtorEq]; rfl
      rw [decide_eq_false e83] at f83
      have e90 : c = 90 := by simp only [prims, List.mem_cons, List.not_mem_nil, or_false, e66, e67, e73, e74, e83, false_or] at hp; exact hp
      rw [decide_eq_true e90] at f90
      simp only [↓s56, ↓m1, ↓lp0, ↓blk_x, q, q2, ↓gs, ↓gi, ↓lenS_S, ↓x1, ↓bldk, i1, ↓m3, ↓s4, ↓cP_p, f66, f67, f73, f74, f83, f90, q4, ↓a1, ↓a2, ↓a3, ↓a4, ↓a5, ↓a6, ↓cK_ty, ↓SD, SA, Int.ofNat_eq_natCast, Int.cast_ofNat_Int, Int.reduceBEq, Int.reduceAdd, Int.reduceNeg, Int.reduceNegSucc, Int.reduceLT, Int.reduceLE, Int.reduceMul, Int.reduceTMod, Int.reduceSub, Int.reduceBNe, Bool.not_true, Bool.not_false, decide_true, decide_false, ne_eq, not_false_eq_true, Int.reduceEq, reduceCtorEq]; rfl
    · have q4 : ¬ (0 : Int) < (lead l : Int) := by omega
      have eT : mkT c [] (lead l) = ⟨c, [], 0, 0⟩ := if_neg hd
      obtain ⟨g4, a5, a6, a7, a8⟩ := fin1 w4 c1' ⟨c, [], 0, 0⟩
      have a4 := fun k => c4.ld k
      refine ⟨g4, ?_, end2 (a7.mono fun y _ e => by have : y = h.nb := e; omega), a8⟩
      rw [eT]
      by_cases e66 : c = 66
      · rw [decide_eq_true e66] at f66
        simp only [↓s56, ↓m1, ↓lp0, ↓blk_x, q, q2, ↓gs, ↓gi, ↓lenS_S, ↓x1, ↓bldk, i1, ↓m3, ↓s4, ↓cP_p, f66, q4, ↓a4, ↓a5, ↓a6, ↓cK_ty, ↓SD, SA, Int.ofNat_eq_natCast, Int.cast_ofNat_Int, Int.reduceBEq, Int.reduceAdd, Int.reduceNeg, Int.reduceNegSucc, Int.reduceLT, Int.reduceLE, Int.reduceMul, Int.reduceTMod, Int.reduceSub, Int.reduceBNe, Bool.not_true, Bool.not_false, decide_true, decide_false, ne_eq, not_false_eq_true, Int.reduceEq, reduceCtorEq]; rfl
      rw [decide_eq_false e66] at f66
      by_cases e67 : c = 67
      · rw [decide_eq_true e67] at f67
        simp only [↓s56, ↓m1, ↓lp0, ↓blk_x, q, q2, ↓gs, ↓gi, ↓lenS_S, ↓x1, ↓bldk, i1, ↓m3, ↓s4, ↓cP_p, f66, f67, q4, ↓a4, ↓a5, ↓a6, ↓cK_ty, ↓SD, SA, Int.ofNat_eq_natCast, Int.cast_ofNat_Int, Int.reduceBEq, Int.reduceAdd, Int.reduceNeg, Int.reduceNegSucc, Int.reduceLT, Int.reduceLE, Int.reduceMul, Int.reduceTMod, Int.reduceSub, Int.reduceBNe, Bool.not_true, Bool.not_false, decide_true, decide_false, ne_eq, not_false_eq_true, Int.reduceEq, reduceCtorEq]; rfl
      rw [decide_eq_false e67] at f67
      by_cases e73 : c = 73
      · rw [decide_eq_true e73] at f73
        simp only [↓s56, ↓m1, ↓lp0, ↓blk_x, q, q2, ↓gs, ↓gi, ↓lenS_S, ↓x1, ↓bldk, i1, ↓m3, ↓s4, ↓cP_p, f66, f67, f73, q4, ↓a4, ↓a5, ↓a6, ↓cK_ty, ↓SD, SA, Int.ofNat_eq_natCast, Int.cast_ofNat_Int, Int.reduceBEq, Int.reduceAdd, Int.reduceNeg, Int.reduceNegSucc, Int.reduceLT, Int.reduceLE, Int.reduceMul, Int.reduceTMod, Int.reduceSub, Int.reduceBNe, Bool.not_true, Bool.not_false, decide_true, decide_false, ne_eq, not_false_eq_true, Int.reduceEq, reduceCtorEq]; rfl
      rw [decide_eq_false e73] at f73
      by_cases e74 : c = 74
      · rw [decide_eq_true e74] at f74
        simp only [↓s56, ↓m1, ↓lp0, ↓blk_x, q, q2, ↓gs, ↓gi, ↓lenS_S, ↓x1, ↓bldk, i1, ↓m3, ↓s4, ↓cP_p, f66, f67, f73, f74, q4, ↓a4, ↓a5, ↓a6, ↓cK_ty, ↓SD, SA, Int.ofNat_eq_natCast, Int.cast_ofNat_Int, Int.reduceBEq, Int.reduceAdd, Int.reduceNeg, Int.reduceNegSucc, Int.reduceLT, Int.reduceLE, Int.reduceMul, Int.reduceTMod, Int.reduceSub, Int.reduceBNe, Bool.not_true, Bool.not_false, decide_true, decide_false, ne_eq, not_false_eq_true, Int.reduceEq, reduceCtorEq]; rfl
      rw [decide_eq_false e74] at f74
      by_cases e83 : c = 83
      · rw [decide_eq_true e83] at f83
        simp only [↓s56, ↓m1, ↓lp0, ↓blk_x, q, q2, ↓gs, ↓gi, ↓lenS_S, ↓x1, ↓bldk, i1, ↓m3, ↓s4, ↓cP_p, f66, f67, f73, f74, f83, q4, ↓a4, ↓a5, ↓a6, ↓cK_ty, ↓SD, SA, Int.ofNat_eq_natCast, Int.cast_ofNat_Int, Int.reduceBEq, Int.reduceAdd, Int.reduceNeg, Int.reduceNegSucc, Int.reduceLT, Int.reduceLE, Int.reduceMul, Int.reduceTMod, Int.reduceSub, Int.reduceBNe, Bool.not_true, Bool.not_false, decide_true, decide_false, ne_eq, not_false_eq_true, Int.reduceEq, reduceCtorEq]; rfl
      rw [decide_eq_false e83] at f83
      have e90 : c = 90 := by simp only [prims, List.mem_cons, List.not_mem_nil, or_false, e66, e67, e73, e74, e83, false_or] at hp; exact hp
      rw [decide_eq_true e90] at f90
      simp only [↓s56, ↓m1, ↓lp0, ↓blk_x, q, q2, ↓gs, ↓gi, ↓lenS_S, ↓x1, ↓bldk, i1, ↓m3, ↓s4, ↓cP_p, f66, f67, f73, f74, f83, f90, q4, ↓a4, ↓a5, ↓a6, ↓cK_ty, ↓SD, SA, Int.ofNat_eq_natCast, Int.cast_ofNat_Int, Int.reduceBEq, Int.reduceAdd, Int.reduceNeg, Int.reduceNegSucc, Int.reduceLT, Int.reduceLE, Int.reduceMul, Int.reduceTMod, Int.reduceSub, Int.reduceBNe, Bool.not_true, Bool.not_false, decide_true, decide_false, ne_eq, not_false_eq_true, Int.reduceEq, reduceCtorEq]; rfl
  rw [if_neg hp]
  rw [decide_eq_false (fun e => hp (by rw [e]; decide))] at f66
  rw [decide_eq_false (fun e => hp (by rw [e]; decide))] at f67
  rw [decide_eq_false (fun e => hp (by rw [e]; decide))] at f73
  rw [decide_eq_false (fun e => hp (by rw [e]; decide))] at f74
  rw [decide_eq_false (fun e => hp (by rw [e]; decide))] at f83
  rw [decide_eq_false (fun e => hp (by rw [e]; decide))] at f90
  have c76 : (((c.toNat : Int) == 76) : Bool) = decide (c = 76) := c8e c 76 (by decide)
  by_cases h76 : c = 76
  · rw [if_pos h76]
    rw [decide_eq_true h76] at c76
    have hdl : (l.drop (lead l + 1)).length = l.length - (lead l + 1) := by simp
    have hsk := skip_le (l.drop (lead l + 1))
    have lp1 := loop56 hl (.ptr h.nb 0) (.int 63 (lead l : Int)) (.int 8 (c.toNat : Int)) (.ptr h1.nb 0) h4 l.length most (lead l + 1) (by omega) (by unfold most; omega) (by omega)
    cases hu : upto (l.drop (lead l + 1)) with
    | none =>
      obtain ⟨h5, p1, p2, o5, w5⟩ := zero w4 c1'
      have hs := skip_none _ ((upto_none _).1 hu)
      rw [hs, hdl] at lp1
      have q5 : ¬ ((lead l + 1 + (l.length - (lead l + 1)) : Nat) : Int) < (l.length : Int) := by omega
      refine ⟨h5, ?_, end2 (o5.mono fun y _ e => by have : y = h.nb := e; omega), w5⟩
      simp only [↓s56, ↓m1, ↓lp0, ↓blk_x, q, q2, ↓gs, ↓gi, ↓lenS_S, ↓x1, ↓bldk, i1, ↓m3, ↓s4, ↓cP_p, f66, f67, f73, f74, f83, f90, c76, ↓lp1, q5, ↓bldz, ↓p1, ↓p2, ↓cK_ty, ↓SD, SA, Int.ofNat_eq_natCast, Int.cast_ofNat_Int, Int.reduceBEq, Int.reduceAdd, Int.reduceNeg, Int.reduceNegSucc, Int.reduceLT, Int.reduceLE, Int.reduceMul, Int.reduceTMod, Int.reduceSub, Int.reduceBNe, Bool.not_true, Bool.not_false, decide_true, decide_false, ne_eq, not_false_eq_true, Int.reduceEq, reduceCtorEq]; rfl
    | some nm =>
      obtain ⟨b, eb, hn⟩ := upto_some _ nm hu
      rw [eb, skip_ap nm b hn] at lp1
      have hnl : nm.length + 1 + b.length = l.length - (lead l + 1) := by
        have := congrArg List.length eb
        simp at this; omega
      have q5 : ((lead l + 1 + nm.length : Nat) : Int) < (l.length : Int) := by omega
      have x3 := fun k => cut_S l 63 63 (lead l + 1) (lead l + 1 + nm.length) (by omega) (by omega) k
      rw [eb, show lead l + 1 + nm.length - (lead l + 1) = nm.length by omega, List.take_left] at x3
      obtain ⟨h5, e17, o5, w5⟩ := t18 (l := nm) (by omega) w4
      have c15 : Cel h5 h.nb ty0 := c1'.to o5 (fun f => f)
      have c45 : Cel h5 h1.nb ⟨c, [], 0, 0⟩ := c4.to o5 (fun f => f)
      show ∃ h', s56 [S l] h = .ret (frV (if cls nm = true then some (mkT 76 nm (lead l), lead l + 1 + (nm.length + 1)) else none)) h' ∧ To No h h' ∧ Wf h'
      cases hcl : cls nm with
      | false =>
        rw [hcl] at e17
        obtain ⟨h6, p1, p2, o6, w6⟩ := zero w5 c15
        rw [if_neg (by decide)]
        refine ⟨h6, ?_, end2 ((o5.mono fun _ _ f => f.elim).trans (o6.mono fun y _ e => by have : y = h.nb := e; omega)), w6⟩
        simp only [↓s56, ↓m1, ↓lp0, ↓blk_x, q, q2, ↓gs, ↓gi, ↓lenS_S, ↓x1, ↓bldk, i1, ↓m3, ↓s4, ↓cP_p, f66, f67, f73, f74, f83, f90, c76, ↓lp1, q5, ↓x3, ↓e17, ↓bldz, ↓p1, ↓p2, ↓cK_ty, ↓SD, SA, Int.ofNat_eq_natCast, Int.cast_ofNat_Int, Int.reduceBEq, Int.reduceAdd, Int.reduceNeg, Int.reduceNegSucc, Int.reduceLT, Int.reduceLE, Int.reduceMul, Int.reduceTMod, Int.reduceSub, Int.reduceBNe, Bool.not_true, Bool.not_false, decide_true, decide_false, ne_eq, not_false_eq_true, Int.reduceEq, reduceCtorEq]; rfl
      | true =>
        rw [hcl] at e17
        obtain ⟨h6, s6, c6, o6, w6, n6⟩ := c45.s1 w5 nm
        have c6 : Cel h6 h1.nb ⟨c, nm, 0, 0⟩ := c6
        have c16 : Cel h6 h.nb ty0 := c15.to o6 (fun f => hne f)
        have i3 : wrapC 63 (((lead l + 1 + nm.length : Nat) : Int) + 1) = ((lead l + 1 + (nm.length + 1) : Nat) : Int) := by rw [w63_in _ (by omega) (by omega)]; omega
        have o46 : To (fun y => h.nb ≤ y) h4 h6 := (o5.mono fun _ _ f => f.elim).trans (o6.mono fun y _ e => by have : y = h1.nb := e; omega)
        by_cases hd : 0 < lead l
        · have q4 : (0 : Int) < (lead l : Int) := by omega
          obtain ⟨g1, g2, g3, g4, a1, a2, a3, a4, a5, a6, a7, a8⟩ := fin3 w6 c16 c6 hne (lead l)
          have eT : mkT 76 nm (lead l) = ⟨91, nm, lead l, c⟩ := by rw [h76]; exact if_pos hd
          refine ⟨g4, ?_, end2 (o46.trans (a7.mono fun y _ e => by rcases e with rfl | rfl <;> omega)), a8⟩
          rw [if_pos rfl, eT]
          simp only [↓s56, ↓m1, ↓lp0, ↓blk_x, q, q2, ↓gs, ↓gi, ↓lenS_S, ↓x1, ↓bldk, i1, ↓m3, ↓s4, ↓cP_p, f66, f67, f73, f74, f83, f90, c76, ↓lp1, q5, ↓x3, ↓e17, ↓s6, i3, q4, ↓a1, ↓a2, ↓a3, ↓a4, ↓a5, ↓a6, ↓cK_ty, ↓SD, SA, Int.ofNat_eq_natCast, Int.cast_ofNat_Int, Int.reduceBEq, Int.reduceAdd, Int.reduceNeg, Int.reduceNegSucc, Int.reduceLT, Int.reduceLE, Int.reduceMul, Int.reduceTMod, Int.reduceSub, Int.reduceBNe, Bool.not_true, Bool.not_false, decide_true, decide_false, ne_eq, not_false_eq_true, Int.reduceEq, reduceCtorEq]; rfl
        · have q4 : ¬ (0 : Int) < (lead l : Int) := by omega
          have eT : mkT 76 nm (lead l) = ⟨c, nm, 0, 0⟩ := by rw [h76]; exact if_neg hd
          obtain ⟨g4, a5, a6, a7, a8⟩ := fin1 w6 c16 ⟨c, nm, 0, 0⟩
          have a4 := fun k => c6.ld k
          refine ⟨g4, ?_, end2 (o46.trans (a7.mono fun y _ e => by have : y = h.nb := e; omega)), a8⟩
          rw [if_pos rfl, eT]
          simp only [↓s56, ↓m1, ↓lp0, ↓blk_x, q, q2, ↓gs, ↓gi, ↓lenS_S, ↓x1, ↓bldk, i1, ↓m3, ↓s4, ↓cP_p, f66, f67, f73, f74, f83, f90, c76, ↓lp1, q5, ↓x3, ↓e17, ↓s6, i3, q4, ↓a4, ↓a5, ↓a6, ↓cK_ty, ↓SD, SA, Int.ofNat_eq_natCast, Int.cast_ofNat_Int, Int.reduceBEq, Int.reduceAdd, Int.reduceNeg, Int.reduceNegSucc, Int.reduceLT, Int.reduceLE, Int.reduceMul, Int.reduceTMod, Int.reduceSub, Int.reduceBNe, Bool.not_true, Bool.not_false, decide_true, decide_false, ne_eq, not_false_eq_true, Int.reduceEq, reduceCtorEq]; rfl
  · rw [if_neg h76]
    rw [decide_eq_false h76] at c76
    obtain ⟨h5, p1, p2, o5, w5⟩ := zero w4 c1'
    refine ⟨h5, ?_, end2 (o5.mono fun y _ e => by have : y = h.nb := e; omega), w5⟩
    simp only [↓s56, ↓m1, ↓lp0, ↓blk_x, q, q2, ↓gs, ↓gi, ↓lenS_S, ↓x1, ↓bldk, i1, ↓m3, ↓s4, ↓cP_p, f66, f67, f73, f74, f83, f90, c76, ↓bldz, ↓p1, ↓p2, ↓cK_ty, ↓SD, SA, Int.ofNat_eq_natCast, Int.cast_ofNat_Int, Int.reduceBEq, Int.reduceAdd, Int.reduceNeg, Int.reduceNegSucc, Int.reduceLT, Int.reduceLE, Int.reduceMul, Int.reduceTMod, Int.reduceSub, Int.reduceBNe, Bool.not_true, Bool.not_false, decide_true, decide_false, ne_eq, not_false_eq_true, Int.reduceEq, reduceCtorEq]; rfl
end Go.Proofs.YtnpfppddongbhaaDoor
end

section
namespace Go.Proofs.YtnpfppddongbhaaDoor
open Go Go.AM
set_option autoImplicit false
set_option linter.unusedSimpArgs false
set_option linter.unusedVariables false
/-! ### a field's type -/
noncomputable def fld (l : List UInt8) : Option Ty :=
  match fr l with
  | none => none
  | some (t, n) => if n = l.length then some t else none
noncomputable def fldV (o : Option Ty) : AV := .tup (.cons (tyV (o.getD ty0)) (.cons (.bool o.isSome) .nil))
theorem fr_pos {l : List UInt8} {t : Ty} {n : Nat} (h : fr l = some (t, n)) : 0 < n ∧ n ≤ l.length := by
  unfold fr at h
  cases hc : l[lead l]? with
  | none => rw [hc] at h; cases h
  | some c =>
    have hlt : lead l < l.length := (List.getElem?_eq_some_iff.1 hc).1
    rw [hc] at h
    simp only at h
    split at h
    · cases h
    split at h
    · cases h; omega
    split at h
    · cases hu : upto (l.drop (lead l + 1)) with
      | none => rw [hu] at h; cases h
      | some nm =>
        rw [hu] at h
        simp only at h
        obtain ⟨b, eb, -⟩ := upto_some _ nm hu
        have := congrArg List.length eb
        simp at this
        split at h
        · cases h; omega
        · cases h
    · cases h
theorem t26 {l : List UInt8} (hl : l.length ≤ 100000) {h : Hp} (hw : Wf h) : ∃ h', s26 [S l] h = .ret (fldV (fld l)) h' ∧ To No h h' ∧ Wf h' := by
  obtain ⟨h1, m1, c1, o1, w1, n1⟩ := ty0_mk hw
  obtain ⟨h2, e2, o2, w2⟩ := t55 hl w1
  obtain ⟨h3, m3, c3, o3, w3, n3⟩ := ty0_mk w2
  have nb2 := o2.nb
  have gs : ∀ a : List UInt8, gsel (.bool false) false (S a) = S a := fun a => rfl
  have gi : ∀ x : Int, gsel (.bool false) false (.int 63 x) = .int 63 x := fun x => rfl
  have c13 : Cel h3 h.nb ty0 := (c1.to o2 (fun f => f)).to o3 (fun f => f)
  have oo : To (fun y => h.nb ≤ y) h h3 := ((o1.mono fun _ _ f => f.elim).trans (o2.mono fun _ _ f => f.elim)).trans (o3.mono fun _ _ f => f.elim)
  have end2 : ∀ {g : Hp}, To (fun y => h.nb ≤ y) h3 g → To No h g := fun {g} t => (oo.trans t).mono fun y hy hn => by omega
  have hne : ¬ h.nb = h2.nb := by omega
  unfold fld
  cases hf : fr l with
  | none =>
    have ef : frV (fr l) = .tup (.cons (tyV ty0) (.cons (.int 63 0) .nil)) := by rw [hf]; rfl
    rw [ef] at e2
    obtain ⟨h4, s4, c4, o4, w4, n4⟩ := c3.st w3 ty0
    have s4 : ∀ k : Hp → Res, stN h3 4 (.ptr h2.nb 0) (tyV ty0) k = k h4 := s4
    obtain ⟨h5, p1, p2, o5, w5⟩ := fin1 w4 (c13.to o4 hne) ty0
    have p1 : ∀ k : Hp → Res, stN h4 4 (.ptr h.nb 0) (.agg (avL (tyL ty0))) k = k h5 := p1
    refine ⟨h5, ?_, end2 ((o4.mono fun y _ e => by have : y = h2.nb := e; omega).trans (o5.mono fun y _ e => by have : y = h.nb := e; omega)), w5⟩
    simp only [↓s26, ↓m1, ↓e2, nth_z, nth_1, ↓cK_ty, ↓m3, ↓s4, ↓bldz, ↓p1, ↓p2, ↓SD, SA, Int.ofNat_eq_natCast, Int.cast_ofNat_Int, Int.reduceBEq, Int.reduceAdd, Int.reduceNeg, Int.reduceNegSucc, Int.reduceLT, Int.reduceLE, Int.reduceMul, Int.reduceTMod, Int.reduceSub, Int.reduceBNe, Bool.not_true, Bool.not_false, decide_true, decide_false, ne_eq, not_false_eq_true, Int.reduceEq, reduceCtorEq]; rfl
  | some q =>
    obtain ⟨t, n⟩ := q
    obtain ⟨hn, hn2⟩ := fr_pos hf
    have ef : frV (fr l) = .tup (.cons (tyV t) (.cons (.int 63 (n : Int)) .nil)) := by rw [hf]; rfl
    rw [ef] at e2
    have q0 : (((n : Nat) : Int) == 0) = false := beq_eq_false_iff_ne.2 (by omega)
    obtain ⟨h4, s4, c4, o4, w4, n4⟩ := c3.st w3 t
    have s4 : ∀ k : Hp → Res, stN h3 4 (.ptr h2.nb 0) (tyV t) k = k h4 := s4
    show ∃ h', s26 [S l] h = .ret (fldV (if n = l.length then some t else none)) h' ∧ To No h h' ∧ Wf h'
    by_cases hnl : n = l.length
    · rw [if_pos hnl]
      have q1 : (((n : Nat) : Int) == (l.length : Int)) = true := by rw [hnl]; exact beq_self_eq_true _
      have l4 := fun k => c4.ld k
      obtain ⟨h5, p1, p2, o5, w5⟩ := fin1 w4 (c13.to o4 hne) t
      refine ⟨h5, ?_, end2 ((o4.mono fun y _ e => by have : y = h2.nb := e; omega).trans (o5.mono fun y _ e => by have : y = h.nb := e; omega)), w5⟩
      simp only [↓s26, ↓m1, ↓e2, nth_z, nth_1, ↓cK_ty, ↓m3, ↓s4, q0, ↓gs, ↓gi, ↓lenS_S, q1, Bool.not_true, ↓l4, ↓p1, ↓p2, ↓SD, SA, Int.ofNat_eq_natCast, Int.cast_ofNat_Int, Int.reduceBEq, Int.reduceAdd, Int.reduceNeg, Int.reduceNegSucc, Int.reduceLT, Int.reduceLE, Int.reduceMul, Int.reduceTMod, Int.reduceSub, Int.reduceBNe, Bool.not_true, Bool.not_false, decide_true, decide_false, ne_eq, not_false_eq_true, Int.reduceEq, reduceCtorEq]; rfl
    · rw [if_neg hnl]
      have q1 : (((n : Nat) : Int) == (l.length : Int)) = false := beq_eq_false_iff_ne.2 (by omega)
      obtain ⟨h5, p1, p2, o5, w5⟩ := fin1 w4 (c13.to o4 hne) ty0
      have p1 : ∀ k : Hp → Res, stN h4 4 (.ptr h.nb 0) (.agg (avL (tyL ty0))) k = k h5 := p1
      refine ⟨h5, ?_, end2 ((o4.mono fun y _ e => by have : y = h2.nb := e; omega).trans (o5.mono fun y _ e => by have : y = h.nb := e; omega)), w5⟩
      simp only [↓s26, ↓m1, ↓e2, nth_z, nth_1, ↓cK_ty, ↓m3, ↓s4, q0, ↓gs, ↓gi, ↓lenS_S, q1, Bool.not_false, ↓bldz, ↓p1, ↓p2, ↓SD, SA, Int.ofNat_eq_natCast, Int.cast_ofNat_Int, Int.reduceBEq, Int.reduceAdd, Int.reduceNeg, Int.reduceNegSucc, Int.reduceLT, Int.reduceLE, Int.reduceMul, Int.reduceTMod, Int.reduceSub, Int.reduceBNe, Bool.not_true, Bool.not_false, decide_true, decide_false, ne_eq, not_false_eq_true, Int.reduceEq, reduceCtorEq]; rfl
theorem t27 {l : List UInt8} (hl : l.length ≤ 100000) {h : Hp} (hw : Wf h) : ∃ h', s27 [S l] h = .ret (fldV (fld l)) h' ∧ To No h h' ∧ Wf h' := by
  obtain ⟨h1, m1, c1, o1, w1, n1⟩ := ty0_mk hw
  obtain ⟨h2, e2, o2, w2⟩ := t56 hl w1
  obtain ⟨h3, m3, c3, o3, w3, n3⟩ := ty0_mk w2
  have nb2 := o2.nb
  have gs : ∀ a : List UInt8, gsel (.bool false) false (S a) = S a := fun a => rfl
  have gi : ∀ x : Int, gsel (.bool false) false (.int 63 x) = .int 63 x := fun x => rfl
  have c13 : Cel h3 h.nb ty0 := (c1.to o2 (fun f => f)).to o3 (fun f => f)
  have oo : To (fun y => h.nb ≤ y) h h3 := ((o1.mono fun _ _ f => f.elim).trans (o2.mono fun _ _ f => f.elim)).trans (o3.mono fun _ _ f => f.elim)
  have end2 : ∀ {g : Hp}, To (fun y => h.nb ≤ y) h3 g → To No h g := fun {g} t => (oo.trans t).mono fun y hy hn => by omega
  have hne : ¬ h.nb = h2.nb := by omega
  unfold fld
  cases hf : fr l with
  | none =>
    have ef : frV (fr l) = .tup (.cons (tyV ty0) (.cons (.int 63 0) .nil)) := by rw [hf]; rfl
    rw [ef] at e2
    obtain ⟨h4, s4, c4, o4, w4, n4⟩ := c3.st w3 ty0
    have s4 : ∀ k : Hp → Res, stN h3 4 (.ptr h2.nb 0) (tyV ty0) k = k h4 := s4
    obtain ⟨h5, p1, p2, o5, w5⟩ := fin1 w4 (c13.to o4 hne) ty0
    have p1 : ∀ k : Hp → Res, stN h4 4 (.ptr h.nb 0) (.agg (avL (tyL ty0))) k = k h5 := p1
    refine ⟨h5, ?_, end2 ((o4.mono fun y _ e => by have : y = h2.nb := e; omega).trans (o5.mono fun y _ e => by have : y = h.nb := e; omega)), w5⟩
    simp only [↓s27, ↓m1, ↓e2, nth_z, nth_1, ↓cK_ty, ↓m3, ↓s4, ↓bldz, ↓p1, ↓p2, ↓SD, SA, Int.ofNat_eq_natCast, Int.cast_ofNat_Int, Int.reduceBEq, Int.reduceAdd, Int.reduceNeg, Int.reduceNegSucc, Int.reduceLT, Int.reduceLE, Int.reduceMul, Int.reduceTMod, Int.reduceSub, Int.reduceBNe, Bool.not_true, Bool.not_false, decide_true, decide_false, ne_eq, not_false_eq_true, Int.reduceEq, reduceCtorEq]; rfl
  | some q =>
    obtain ⟨t, n⟩ := q
    obtain ⟨hn, hn2⟩ := fr_pos hf
    have ef : frV (fr l) = .tup (.cons (tyV t) (.cons (.int 63 (n : Int)) .nil)) := by rw [hf]; rfl
    rw [ef] at e2
    have q0 : (((n : Nat) : Int) == 0) = false := beq_eq_false_iff_ne.2 (by omega)
    obtain ⟨h4, s4, c4, o4, w4, n4⟩ := c3.st w3 t
    have s4 : ∀ k : Hp → Res, stN h3 4 (.ptr h2.nb 0) (tyV t) k = k h4 := s4
    show ∃ h', s27 [S l] h = .ret (fldV (if n = l.length then some t else none)) h' ∧ To No h h' ∧ Wf h'
    by_cases hnl : n = l.length
    · rw [if_pos hnl]
      have q1 : (((n : Nat) : Int) == (l.length : Int)) = true := by rw [hnl]; exact beq_self_eq_true _
      have l4 := fun k => c4.ld k
      obtain ⟨h5, p1, p2, o5, w5⟩ := fin1 w4 (c13.to o4 hne) t
      refine ⟨h5, ?_, end2 ((o4.mono fun y _ e => by have : y = h2.nb := e; omega).trans (o5.mono fun y _ e => by have : y = h.nb := e; omega)), w5⟩
      simp only [↓s27, ↓m1, ↓e2, nth_z, nth_1, ↓cK_ty, ↓m3, ↓s4, q0, ↓gs, ↓gi, ↓lenS_S, q1, Bool.not_true, ↓l4, ↓p1, ↓p2, ↓SD, SA, Int.ofNat_eq_natCast, Int.cast_ofNat_Int, Int.reduceBEq, Int.reduceAdd, Int.reduceNeg, Int.reduceNegSucc, Int.reduceLT, Int.reduceLE, Int.reduceMul, Int.reduceTMod, Int.reduceSub, Int.reduceBNe, Bool.not_true, Bool.not_false, decide_true, decide_false, ne_eq, not_false_eq_true, Int.reduceEq, reduceCtorEq]; rfl
    · rw [if_neg hnl]
      have q1 : (((n : Nat) : Int) == (l.length : Int)) = false := beq_eq_false_iff_ne.2 (by omega)
      obtain ⟨h5, p1, p2, o5, w5⟩ := fin1 w4 (c13.to o4 hne) ty0
      have p1 : ∀ k : Hp → Res, stN h4 4 (.ptr h.nb 0) (.agg (avL (tyL ty0))) k = k h5 := p1
      refine ⟨h5, ?_, end2 ((o4.mono fun y _ e => by have : y = h2.nb := e; omega).trans (o5.mono fun y _ e => by have : y = h.nb := e; omega)), w5⟩
      simp only [↓s27, ↓m1, ↓e2, nth_z, nth_1, ↓cK_ty, ↓m3, ↓s4, q0, ↓gs, ↓gi, ↓lenS_S, q1, Bool.not_false, ↓bldz, ↓p1, ↓p2, ↓SD, SA, Int.ofNat_eq_natCast, Int.cast_ofNat_Int, Int.reduceBEq, Int.reduceAdd, Int.reduceNeg, Int.reduceNegSucc, Int.reduceLT, Int.reduceLE, Int.reduceMul, Int.reduceTMod, Int.reduceSub, Int.reduceBNe, Bool.not_true, Bool.not_false, decide_true, decide_false, ne_eq, not_false_eq_true, Int.reduceEq, reduceCtorEq]; rfl
/-! ### the same type; its words -/
theorem t28 (t : Ty) {h : Hp} (hw : Wf h) : ∃ h', s28 [tyV t, tyV t] h = .ret (.bool true) h' ∧ To No h h' ∧ Wf h' := by
  obtain ⟨h1, m1, c1, o1, w1, n1⟩ := ty_cells hw t
  obtain ⟨h2, m2, c2, o2, w2, n2⟩ := ty_cells w1 t
  have c12 : Cel h2 h.nb t := c1.to o2 (fun f => f)
  have a0 := fun k => c12.l0 k
  have a1 := fun k => c12.l1 k
  have a2 := fun k => c12.l2 k
  have a3 := fun k => c12.l3 k
  have b0 := fun k => c2.l0 k
  have b1 := fun k => c2.l1 k
  have b2 := fun k => c2.l2 k
  have b3 := fun k => c2.l3 k
  refine ⟨h2, ?_, o1.trans o2, w2⟩
  simp only [↓s28, ↓m1, ↓m2, ↓cP_p, ↓a0, ↓b0, beq_self_eq_true, ↓a1, ↓b1, ↓eqS_S, decide_true, ↓a2, ↓b2, ↓a3, ↓b3, ↓SD, SA, Int.ofNat_eq_natCast, Int.cast_ofNat_Int, Int.reduceBEq, Int.reduceAdd, Int.reduceNeg, Int.reduceNegSucc, Int.reduceLT, Int.reduceLE, Int.reduceMul, Int.reduceTMod, Int.reduceSub, Int.reduceBNe, Bool.not_true, Bool.not_false, decide_true, decide_false, ne_eq, not_false_eq_true, Int.reduceEq, reduceCtorEq]
def wd (c : UInt8) : Nat := if c = 74 then 2 else if c ∈ [66, 67, 73, 83, 90, 76, 91] then 1 else 0
theorem t29 (t : Ty) {h : Hp} (hw : Wf h) : ∃ h', s29 [tyV t] h = .ret (.int 63 (wd t.k : Int)) h' ∧ To No h h' ∧ Wf h' := by
  obtain ⟨h1, m1, c1, o1, w1, n1⟩ := ty_cells hw t
  have a0 := fun k => c1.l0 k
  refine ⟨h1, ?_, o1, w1⟩
  obtain ⟨c, nm, d, e⟩ := t
  have a0 : ∀ k : AV → Res, ld1 h1 (.ptr h.nb (Nat.add 0 0)) k = k (.int 8 (c.toNat : Int)) := a0
  show s29 [tyV ⟨c, nm, d, e⟩] h = .ret (.int 63 (wd c : Int)) h1
  have f66 : (((c.toNat : Int) == 66) : Bool) = decide (c = 66) := c8e c 66 (by decide)
  have f67 : (((c.toNat : Int) == 67) : Bool) = decide (c = 67) := c8e c 67 (by decide)
  have f73 : (((c.toNat : Int) == 73) : Bool) = decide (c = 73) := c8e c 73 (by decide)
  have f83 : (((c.toNat : Int) == 83) : Bool) = decide (c = 83) := c8e c 83 (by decide)
  have f90 : (((c.toNat : Int) == 90) : Bool) = decide (c = 90) := c8e c 90 (by decide)
  have f76 : (((c.toNat : Int) == 76) : Bool) = decide (c = 76) := c8e c 76 (by decide)
  have f91 : (((c.toNat : Int) == 91) : Bool) = decide (c = 91) := c8e c 91 (by decide)
  have f74 : (((c.toNat : Int) == 74) : Bool) = decide (c = 74) := c8e c 74 (by decide)
  by_cases e66 : c = 66
  · rw [decide_eq_true e66] at f66
    have hwd : wd c = 1 := by rw [e66]; decide
    rw [hwd]
    simp only [↓s29, ↓m1, ↓cP_p, ↓a0, f66, ↓SD, SA, Int.ofNat_eq_natCast, Int.cast_ofNat_Int, Int.reduceBEq, Int.reduceAdd, Int.reduceNeg, Int.reduceNegSucc, Int.reduceLT, Int.reduceLE, Int.reduceMul, Int.reduceTMod, Int.reduceSub, Int.reduceBNe, Bool.not_true, Bool.not_false, decide_true, decide_false, ne_eq, not_false_eq_true, Int.reduceEq, reduceCtorEq]
  rw [decide_eq_false e66] at f66
  by_cases e67 : c = 67
  · rw [decide_eq_true e67] at f67
    have hwd : wd c = 1 := by rw [e67]; decide
    rw [hwd]
    simp only [↓s29, ↓m1, ↓cP_p, ↓a0, f66, f67, ↓SD, SA, Int.ofNat_eq_natCast, Int.cast_ofNat_Int, Int.reduceBEq, Int.reduceAdd, Int.reduceNeg, Int.reduceNegSucc, Int.reduceLT, Int.reduceLE, Int.reduceMul, Int.reduceTMod, Int.reduceSub, Int.reduceBNe, Bool.not_true, Bool.not_false, decide_true, decide_false, ne_eq, not_false_eq_true, Int.reduceEq, reduceCtorEq]
  rw [decide_eq_false e67] at f67
  by_cases e73 : c = 73
  · rw [decide_eq_true e73] at f73
    have hwd : wd c = 1 := by rw [e73]; decide
    rw [hwd]
    simp only [↓s29, ↓m1, ↓cP_p, ↓a0, f66, f67, f73, ↓SD, SA, Int.ofNat_eq_natCast, Int.cast_ofNat_Int, Int.reduceBEq, Int.reduceAdd, Int.reduceNeg, Int.reduceNegSucc, Int.reduceLT, Int.reduceLE, Int.reduceMul, Int.reduceTMod, Int.reduceSub, Int.reduceBNe, Bool.not_true, Bool.not_false, decide_true, decide_false, ne_eq, not_false_eq_true, Int.reduceEq, reduceCtorEq]
  rw [decide_eq_false e73] at f73
  by_cases e83 : c = 83
  · rw [decide_eq_true e83] at f83
    have hwd : wd c = 1 := by rw [e83]; decide
    rw [hwd]
    simp only [↓s29, ↓m1, ↓cP_p, ↓a0, f66, f67, f73, f83, ↓SD, SA, Int.ofNat_eq_natCast, Int.cast_ofNat_Int, Int.reduceBEq, Int.reduceAdd, Int.reduceNeg, Int.reduceNegSucc, Int.reduceLT, Int.reduceLE, Int.reduceMul, Int.reduceTMod, Int.reduceSub, Int.reduceBNe, Bool.not_true, Bool.not_false, decide_true, decide_false, ne_eq, not_false_eq_true, Int.reduceEq, reduceCtorEq]
  rw [decide_eq_false e83] at f83
  by_cases e90 : c = 90
  · rw [decide_eq_true e90] at f90
    have hwd : wd c = 1 := by rw [e90]; decide
    rw [hwd]
    simp only [↓s29, ↓m1, ↓cP_p, ↓a0, f66, f67, f73, f83, f90, ↓SD, SA, Int.ofNat_eq_natCast, Int.cast_ofNat_Int, Int.reduceBEq, Int.reduceAdd, Int.reduceNeg, Int.reduceNegSucc, Int.reduceLT, Int.reduceLE, Int.reduceMul, Int.reduceTMod, Int.reduceSub, Int.reduceBNe, Bool.not_true, Bool.not_false, decide_true, decide_false, ne_eq, not_false_eq_true, Int.reduceEq, reduceCtorEq]
  rw [decide_eq_false e90] at f90
  by_cases e76 : c = 76
  · rw [decide_eq_true e76] at f76
    have hwd : wd c = 1 := by rw [e76]; decide
    rw [hwd]
    simp only [↓s29, ↓m1, ↓cP_p, ↓a0, f66, f67, f73, f83, f90, f76, ↓SD, SA, Int.ofNat_eq_natCast, Int.cast_ofNat_Int, Int.reduceBEq, Int.reduceAdd, Int.reduceNeg, Int.reduceNegSucc, Int.reduceLT, Int.reduceLE, Int.reduceMul, Int.reduceTMod, Int.reduceSub, Int.reduceBNe, Bool.not_true, Bool.not_false, decide_true, decide_false, ne_eq, not_false_eq_true, Int.reduceEq, reduceCtorEq]
  rw [decide_eq_false e76] at f76
  by_cases e91 : c = 91
  · rw [decide_eq_true e91] at f91
    have hwd : wd c = 1 := by rw [e91]; decide
    rw [hwd]
    simp only [↓s29, ↓m1, ↓cP_p, ↓a0, f66, f67, f73, f83, f90, f76, f91, ↓SD, SA, Int.ofNat_eq_natCast, Int.cast_ofNat_Int, Int.reduceBEq, Int.reduceAdd, Int.reduceNeg, Int.reduceNegSucc, Int.reduceLT, Int.reduceLE, Int.reduceMul, Int.reduceTMod, Int.reduceSub, Int.reduceBNe, Bool.not_true, Bool.not_false, decide_true, decide_false, ne_eq, not_false_eq_true, Int.reduceEq, reduceCtorEq]
  rw [decide_eq_false e91] at f91
  by_cases e74 : c = 74
  · rw [decide_eq_true e74] at f74
    have hwd : wd c = 2 := by rw [e74]; decide
    rw [hwd]
    simp only [↓s29, ↓m1, ↓cP_p, ↓a0, f66, f67, f73, f83, f90, f76, f91, f74, ↓SD, SA, Int.ofNat_eq_natCast, Int.cast_ofNat_Int, Int.reduceBEq, Int.reduceAdd, Int.reduceNeg, Int.reduceNegSucc, Int.reduceLT, Int.reduceLE, Int.reduceMul, Int.reduceTMod, Int.reduceSub, Int.reduceBNe, Bool.not_true, Bool.not_false, decide_true, decide_false, ne_eq, not_false_eq_true, Int.reduceEq, reduceCtorEq]
  rw [decide_eq_false e74] at f74
  have hwd : wd c = 0 := by unfold wd; rw [if_neg e74, if_neg (by simp only [List.mem_cons, List.not_mem_nil, or_false, e66, e67, e73, e83, e90, e76, e91, or_self, not_false_eq_true])]
  rw [hwd]
  simp only [↓s29, ↓m1, ↓cP_p, ↓a0, f66, f67, f73, f83, f90, f76, f91, f74, ↓SD, SA, Int.ofNat_eq_natCast, Int.cast_ofNat_Int, Int.reduceBEq, Int.reduceAdd, Int.reduceNeg, Int.reduceNegSucc, Int.reduceLT, Int.reduceLE, Int.reduceMul, Int.reduceTMod, Int.reduceSub, Int.reduceBNe, Bool.not_true, Bool.not_false, decide_true, decide_false, ne_eq, not_false_eq_true, Int.reduceEq, reduceCtorEq]
theorem t30 (t : Ty) {h : Hp} (hw : Wf h) : ∃ h', s30 [tyV t] h = .ret (.int 63 (wd t.k : Int)) h' ∧ To No h h' ∧ Wf h' := by
  obtain ⟨h1, m1, c1, o1, w1, n1⟩ := ty_cells hw t
  have a0 := fun k => c1.l0 k
  refine ⟨h1, ?_, o1, w1⟩
  obtain ⟨c, nm, d, e⟩ := t
  have a0 : ∀ k : AV → Res, ld1 h1 (.ptr h.nb (Nat.add 0 0)) k = k (.int 8 (c.toNat : Int)) := a0
  show s30 [tyV ⟨c, nm, d, e⟩] h = .ret (.int 63 (wd c : Int)) h1
  have f66 : (((c.toNat : Int) == 66) : Bool) = decide (c = 66) := c8e c 66 (by decide)
  have f67 : (((c.toNat : Int) == 67) : Bool) = decide (c = 67) := c8e c 67 (by decide)
  have f73 : (((c.toNat : Int) == 73) : Bool) = decide (c = 73) := c8e c 73 (by decide)
  have f83 : (((c.toNat : Int) == 83) : Bool) = decide (c = 83) := c8e c 83 (by decide)
  have f90 : (((c.toNat : Int) == 90) : Bool) = decide (c = 90) := c8e c 90 (by decide)
  have f76 : (((c.toNat : Int) == 76) : Bool) = decide (c = 76) := c8e c 76 (by decide)
  have f91 : (((c.toNat : Int) == 91) : Bool) = decide (c = 91) := c8e c 91 (by decide)
  have f74 : (((c.toNat : Int) == 74) : Bool) = decide (c = 74) := c8e c 74 (by decide)
  by_cases e74 : c = 74
  · rw [decide_eq_true e74] at f74
    have hwd : wd c = 2 := by rw [e74]; decide
    rw [hwd]
    simp only [↓s30, ↓m1, ↓cP_p, ↓a0, f74, ↓SD, SA, Int.ofNat_eq_natCast, Int.cast_ofNat_Int, Int.reduceBEq, Int.reduceAdd, Int.reduceNeg, Int.reduceNegSucc, Int.reduceLT, Int.reduceLE, Int.reduceMul, Int.reduceTMod, Int.reduceSub, Int.reduceBNe, Bool.not_true, Bool.not_false, decide_true, decide_false, ne_eq, not_false_eq_true, Int.reduceEq, reduceCtorEq]
  rw [decide_eq_false e74] at f74
  by_cases e66 : c = 66
  · rw [decide_eq_true e66] at f66
    have hwd : wd c = 1 := by rw [e66]; decide
    rw [hwd]
    simp only [↓s30, ↓m1, ↓cP_p, ↓a0, f74, f66, ↓SD, SA, Int.ofNat_eq_natCast, Int.cast_ofNat_Int, Int.reduceBEq, Int.reduceAdd, Int.reduceNeg, Int.reduceNegSucc, Int.reduceLT, Int.reduceLE, Int.reduceMul, Int.reduceTMod, Int.reduceSub, Int.reduceBNe, Bool.not_true, Bool.not_false, decide_true, decide_false, ne_eq, not_false_eq_true, Int.reduceEq, reduceCtorEq]
  rw [decide_eq_false e66] at f66
  by_cases e67 : c = 67
  · rw [decide_eq_true e67] at f67
    have hwd : wd c = 1 := by rw [e67]; decide
    rw [hwd]
    simp only [↓s30, ↓m1, ↓cP_p, ↓a0, f74, f66, f67, ↓SD, SA, Int.ofNat_eq_natCast, Int.cast_ofNat_Int, Int.reduceBEq, Int.reduceAdd, Int.reduceNeg, Int.reduceNegSucc, Int.reduceLT, Int.reduceLE, Int.reduceMul, Int.reduceTMod, Int.reduceSub, Int.reduceBNe, Bool.not_true, Bool.not_false, decide_true, decide_false, ne_eq, not_false_eq_true, Int.reduceEq, reduceCtorEq]
  rw [decide_eq_false e67] at f67
  by_cases e73 : c = 73
  · rw [decide_eq_true e73] at f73
    have hwd : wd c = 1 := by rw [e73]; decide
    rw [hwd]
    simp only [↓s30, ↓m1, ↓cP_p, ↓a0, f74, f66, f67, f73, ↓SD, SA, Int.ofNat_eq_natCast, Int.cast_ofNat_Int, Int.reduceBEq, Int.reduceAdd, Int.reduceNeg, Int.reduceNegSucc, Int.reduceLT, Int.reduceLE, Int.reduceMul, Int.reduceTMod, Int.reduceSub, Int.reduceBNe, Bool.not_true, Bool.not_false, decide_true, decide_false, ne_eq, not_false_eq_true, Int.reduceEq, reduceCtorEq]
  rw [decide_eq_false e73] at f73
  by_cases e83 : c = 83
  · rw [decide_eq_true e83] at f83
    have hwd : wd c = 1 := by rw [e83]; decide
    rw [hwd]
    simp only [↓s30, ↓m1, ↓cP_p, ↓a0, f74, f66, f67, f73, f83, ↓SD, SA, Int.ofNat_eq_natCast, Int.cast_ofNat_Int, Int.reduceBEq, Int.reduceAdd, Int.reduceNeg, Int.reduceNegSucc, Int.reduceLT, Int.reduceLE, Int.reduceMul, Int.reduceTMod, Int.reduceSub, Int.reduceBNe, Bool.not_true, Bool.not_false, decide_true, decide_false, ne_eq, not_false_eq_true, Int.reduceEq, reduceCtorEq]
  rw [decide_eq_false e83] at f83
  by_cases e90 : c = 90
  · rw [decide_eq_true e90] at f90
    have hwd : wd c = 1 := by rw [e90]; decide
    rw [hwd]
    simp only [↓s30, ↓m1, ↓cP_p, ↓a0, f74, f66, f67, f73, f83, f90, ↓SD, SA, Int.ofNat_eq_natCast, Int.cast_ofNat_Int, Int.reduceBEq, Int.reduceAdd, Int.reduceNeg, Int.reduceNegSucc, Int.reduceLT, Int.reduceLE, Int.reduceMul, Int.reduceTMod, Int.reduceSub, Int.reduceBNe, Bool.not_true, Bool.not_false, decide_true, decide_false, ne_eq, not_false_eq_true, Int.reduceEq, reduceCtorEq]
  rw [decide_eq_false e90] at f90
  by_cases e76 : c = 76
  · rw [decide_eq_true e76] at f76
    have hwd : wd c = 1 := by rw [e76]; decide
    rw [hwd]
    simp only [↓s30, ↓m1, ↓cP_p, ↓a0, f74, f66, f67, f73, f83, f90, f76, ↓SD, SA, Int.ofNat_eq_natCast, Int.cast_ofNat_Int, Int.reduceBEq, Int.reduceAdd, Int.reduceNeg, Int.reduceNegSucc, Int.reduceLT, Int.reduceLE, Int.reduceMul, Int.reduceTMod, Int.reduceSub, Int.reduceBNe, Bool.not_true, Bool.not_false, decide_true, decide_false, ne_eq, not_false_eq_true, Int.reduceEq, reduceCtorEq]
  rw [decide_eq_false e76] at f76
  by_cases e91 : c = 91
  · rw [decide_eq_true e91] at f91
    have hwd : wd c = 1 := by rw [e91]; decide
    rw [hwd]
    simp only [↓s30, ↓m1, ↓cP_p, ↓a0, f74, f66, f67, f73, f83, f90, f76, f91, ↓SD, SA, Int.ofNat_eq_natCast, Int.cast_ofNat_Int, Int.reduceBEq, Int.reduceAdd, Int.reduceNeg, Int.reduceNegSucc, Int.reduceLT, Int.reduceLE, Int.reduceMul, Int.reduceTMod, Int.reduceSub, Int.reduceBNe, Bool.not_true, Bool.not_false, decide_true, decide_false, ne_eq, not_false_eq_true, Int.reduceEq, reduceCtorEq]
  rw [decide_eq_false e91] at f91
  have hwd : wd c = 0 := by unfold wd; rw [if_neg e74, if_neg (by simp only [List.mem_cons, List.not_mem_nil, or_false, e66, e67, e73, e83, e90, e76, e91, or_self, not_false_eq_true])]
  rw [hwd]
  simp only [↓s30, ↓m1, ↓cP_p, ↓a0, f74, f66, f67, f73, f83, f90, f76, f91, ↓SD, SA, Int.ofNat_eq_natCast, Int.cast_ofNat_Int, Int.reduceBEq, Int.reduceAdd, Int.reduceNeg, Int.reduceNegSucc, Int.reduceLT, Int.reduceLE, Int.reduceMul, Int.reduceTMod, Int.reduceSub, Int.reduceBNe, Bool.not_true, Bool.not_false, decide_true, decide_false, ne_eq, not_false_eq_true, Int.reduceEq, reduceCtorEq]
end Go.Proofs.YtnpfppddongbhaaDoor
end

section
namespace Go.Proofs.YtnpfppddongbhaaDoor
open Go Go.AM
set_option autoImplicit false
set_option linter.unusedSimpArgs false
set_option linter.unusedVariables false
/-! ### how a type is printed -/
def primv : List UInt8 := [66, 67, 73, 74, 83, 90, 86]
theorem S_primv : AV.str 7 24306161772217154 = S primv := by kernel_rfl
theorem S_76 : AV.str 1 76 = S [76] := rfl
theorem S_86 : AV.str 1 86 = S [86] := rfl
theorem S_91 : AV.str 1 91 = S [91] := rfl
/-- What is no array. -/
def Prim (c : UInt8) (nm : List UInt8) : Prop := c ∈ prims ∧ nm = []
def Ref (c : UInt8) (nm : List UInt8) : Prop := c = 76 ∧ cls nm = true ∧ nm.length ≤ 90000
def txt (c : UInt8) (nm : List UInt8) : List UInt8 := if c = 76 then 76 :: nm ++ [59] else [c]
theorem prims_ne {c : UInt8} (h : c ∈ prims) : c ≠ 76 ∧ c ≠ 0 ∧ c ≠ 86 ∧ c ≠ 91 ∧ c ∈ primv := by
  simp only [prims, List.mem_cons, List.not_mem_nil, or_false] at h
  rcases h with rfl | rfl | rfl | rfl | rfl | rfl <;> decide
theorem mkS1 {h : Hp} (hw : Wf h) (c : UInt8) : ∃ h' B, (∀ k : AV → Hp → Res, mkS h 1 1 (.cons (.int 8 (c.toNat : Int)) .nil) k = k (.sl h.nb 0 1 1 (some 1)) h') ∧ RowB h' h.nb [c] ∧ B = h.nb ∧ To No h h' ∧ Wf h' := by
  obtain ⟨t, e1, e2⟩ := lay_list (By [c]) .e 0 (By_one _)
  obtain ⟨o1, o2⟩ := nw_own hw (0 + 1) .nil t
  refine ⟨nw h (0 + 1) .nil t, _, fun k => ?_, ⟨_, o1, rfl, fun j hj => ?_⟩, rfl, o2, o2.wf hw⟩
  · have e : mkS h 1 1 (.cons (.int 8 (c.toNat : Int)) .nil) k = lay (avL (By [c])) .e 0 fun t m => ifB (Nat.beq m (Nat.mul 1 1)) (k (.sl h.nb 0 1 1 (some 1)) (nw h m .nil t)) .fail := rfl
    rw [e, e1]
    rfl
  · have hj : j < 1 := hj
    obtain rfl : j = 0 := by omega
    rw [at_in _ (show 0 < 0 + 1 by omega)]
    show (match t.get 0 with | some v => v | none => _) = _
    rw [e2 0, dif_pos (by rw [By_len]; simp)]
    rfl
theorem t57p {c : UInt8} (hp : c ∈ prims) {h : Hp} (hw : Wf h) : ∃ h', s57 [.int 8 (c.toNat : Int), S []] h = .ret (S [c]) h' ∧ To No h h' ∧ Wf h' := by
  obtain ⟨n1, n2, n3, n4, hv⟩ := prims_ne hp
  have f76 : (((c.toNat : Int) == 76) : Bool) = false := by rw [show (((c.toNat : Int) == 76) : Bool) = decide (c = 76) from c8e c 76 (by decide)]; exact decide_eq_false n1
  have f0 : (((c.toNat : Int) == 0) : Bool) = false := by rw [show (((c.toNat : Int) == 0) : Bool) = decide (c = 0) from c8e c 0 (by decide)]; exact decide_eq_false n2
  have e78 := t78 primv c h
  have q : ¬ Lib.indexByte primv c < 0 := fun hh => (idx_neg primv c).1 hh hv
  have gi : ∀ x : Int, gsel (.bool true) true (.int 8 x) = .int 8 x := fun x => rfl
  have gs : ∀ a : List UInt8, gsel (.bool true) true (S a) = S a := fun a => rfl
  have z : decide (([] : List UInt8) = []) = true := rfl
  obtain ⟨h1, -, m1, r1, -, o1, w1⟩ := mkS1 hw c
  have b1 := fun k => b2s_S (r1.sl (n := 1) rfl (c := some 1) (fun cap e => by cases e; exact Nat.le_refl _)) k
  have hb : ∀ k : AV → Res, bld [(false, 1, .int 8 (c.toNat : Int))] k = k (.cons (.int 8 (c.toNat : Int)) .nil) := fun k => rfl
  exact ⟨h1, by simp only [↓s57, f76, f0, Bool.not_false, ↓gi, ↓gs, ↓S_primv, ↓e78, q, ↓S_0, ↓eqS_S, z, ↓hb, ↓m1, ↓b1, ↓cK_S, ↓SD, SA, Int.ofNat_eq_natCast, Int.cast_ofNat_Int, Int.reduceBEq, Int.reduceAdd, Int.reduceNeg, Int.reduceNegSucc, Int.reduceLT, Int.reduceLE, Int.reduceMul, Int.reduceTMod, Int.reduceSub, Int.reduceBNe, Bool.not_true, Bool.not_false, decide_true, decide_false, ne_eq, not_false_eq_true, Int.reduceEq, reduceCtorEq], o1, w1⟩
theorem t57r {nm : List UInt8} (hc : cls nm = true) (hl : nm.length ≤ 90000) {h : Hp} (hw : Wf h) : ∃ h', s57 [.int 8 76, S nm] h = .ret (S (76 :: nm ++ [59])) h' ∧ To No h h' ∧ Wf h' := by
  obtain ⟨h1, e1, o1, w1⟩ := t17 (l := nm) (by omega) hw
  rw [hc] at e1
  have gs : ∀ a : List UInt8, gsel (.bool true) true (S a) = S a := fun a => rfl
  have k1 := fun k => cat_S [76] nm (by simp; omega) k
  have k2 := fun k => cat_S ([76] ++ nm) [59] (by simp; omega) k
  refine ⟨h1, ?_, o1, w1⟩
  simp only [↓s57, ↓gs, ↓e1, ↓S_76, ↓k1, ↓S_59, ↓k2, ↓cK_S, ↓SD, SA, Int.ofNat_eq_natCast, Int.cast_ofNat_Int, Int.reduceBEq, Int.reduceAdd, Int.reduceNeg, Int.reduceNegSucc, Int.reduceLT, Int.reduceLE, Int.reduceMul, Int.reduceTMod, Int.reduceSub, Int.reduceBNe, Bool.not_true, Bool.not_false, decide_true, decide_false, ne_eq, not_false_eq_true, Int.reduceEq, reduceCtorEq]
  rfl
theorem t57 {c : UInt8} {nm : List UInt8} (hc : Prim c nm ∨ Ref c nm) {h : Hp} (hw : Wf h) : ∃ h', s57 [.int 8 (c.toNat : Int), S nm] h = .ret (S (txt c nm)) h' ∧ To No h h' ∧ Wf h' := by
  rcases hc with ⟨hp, rfl⟩ | ⟨rfl, hc, hl⟩
  · have : txt c [] = [c] := if_neg (prims_ne hp).1
    rw [this]; exact t57p hp hw
  · have : txt 76 nm = 76 :: nm ++ [59] := if_pos rfl
    rw [this]; exact t57r hc hl hw
theorem txt_ne {c : UInt8} {nm : List UInt8} (hc : Prim c nm ∨ Ref c nm) : txt c nm ≠ [] ∧ txt c nm ≠ [86] ∧ c ≠ 91 := by
  rcases hc with ⟨hp, rfl⟩ | ⟨rfl, hc, hl⟩
  · obtain ⟨n1, n2, n3, n4, hv⟩ := prims_ne hp
    have : txt c [] = [c] := if_neg n1
    rw [this]
    exact ⟨by simp, by simpa using n3, n4⟩
  · have : txt 76 nm = 76 :: nm ++ [59] := if_pos rfl
    rw [this]
    exact ⟨by simp, by simp, by decide⟩
theorem rep_91 (d : Nat) : Lib.repeatL [91] d = List.replicate d 91 := by
  induction d with
  | zero => rfl
  | succ d ih => rw [Lib.repeatL, ih]; rfl
theorem t58 (d : Nat) (hd : d ≤ 255) (h : Hp) : s58 [S [91], .int 63 (d : Int)] h = .ret (S (List.replicate d 91)) h := by
  have e : s58 [S [91], .int 63 (d : Int)] h = ifB (Nat.ble d 1000000) (ifB (Nat.ble (1 * d) 1000000) (.ret (.str (1 * d) (packB (Lib.repeatL (unp [(91 : UInt8)].length (packB [91])) d))) h) .fail) .fail := rfl
  rw [e, (ble_iff _ _).2 (by omega), (ble_iff _ _).2 (by omega), ifB_t, ifB_t, unp_pack, rep_91]
  unfold S
  simp
theorem t31 {c : UInt8} {nm : List UInt8} (hc : Prim c nm ∨ Ref c nm) (d : Nat) (hd : d ≤ 255) (hnm : nm.length ≤ 90000) {h : Hp} (hw : Wf h) :
    ∃ h', s31 [tyV (mkT c nm d)] h = .ret (S (List.replicate d 91 ++ txt c nm)) h' ∧ To No h h' ∧ Wf h' := by
  obtain ⟨x1, x2, x3⟩ := txt_ne hc
  have gs : ∀ a : List UInt8, gsel (.bool false) false (S a) = S a := fun a => rfl
  by_cases h0 : 0 < d
  · have eT : mkT c nm d = ⟨91, nm, d, c⟩ := if_pos h0
    rw [eT]
    obtain ⟨h1, m1, c1, o1, w1, n1⟩ := ty_cells hw ⟨91, nm, d, c⟩
    have a0 := fun k => c1.l0 k
    have a0 : ∀ k : AV → Res, ld1 h1 (.ptr h.nb (Nat.add 0 0)) k = k (.int 8 91) := a0
    have a1 : ∀ k : AV → Res, ld1 h1 (.ptr h.nb (Nat.add 0 1)) k = k (S nm) := fun k => c1.l1 k
    have a3 : ∀ k : AV → Res, ld1 h1 (.ptr h.nb (Nat.add 0 3)) k = k (.int 8 (c.toNat : Int)) := fun k => c1.l3 k
    obtain ⟨h2, e2, o2, w2⟩ := t57 hc w1
    have a2 : ∀ k : AV → Res, ld1 h2 (.ptr h.nb (Nat.add 0 2)) k = k (.int 63 (d : Int)) := fun k => (c1.to o2 (fun f => f)).l2 k
    have z1 : decide (txt c nm = []) = false := decide_eq_false x1
    have z2 : decide (txt c nm = [86]) = false := decide_eq_false x2
    have q1 : ¬ (d : Int) < 1 := by omega
    have q2 : ¬ (255 : Int) < (d : Int) := by omega
    have e58 := t58 d hd h2
    have hlt : (txt c nm).length ≤ 100000 := by unfold txt; split <;> simp; omega
    have k1 := fun k => cat_S (List.replicate d 91) (txt c nm) (by simp; omega) k
    exact ⟨h2, by simp only [↓s31, ↓m1, ↓cP_p, ↓a0, ↓a1, ↓a3, ↓e2, ↓S_0, ↓S_86, ↓S_91, ↓eqS_S, z1, z2, ↓gs, ↓a2, q1, q2, ↓e58, ↓k1, ↓cK_S, ↓SD, SA, Int.ofNat_eq_natCast, Int.cast_ofNat_Int, Int.reduceBEq, Int.reduceAdd, Int.reduceNeg, Int.reduceNegSucc, Int.reduceLT, Int.reduceLE, Int.reduceMul, Int.reduceTMod, Int.reduceSub, Int.reduceBNe, Bool.not_true, Bool.not_false, decide_true, decide_false, ne_eq, not_false_eq_true, Int.reduceEq, reduceCtorEq], o1.trans o2, w2⟩
  · obtain rfl : d = 0 := by omega
    have eT : mkT c nm 0 = ⟨c, nm, 0, 0⟩ := if_neg h0
    rw [eT]
    obtain ⟨h1, m1, c1, o1, w1, n1⟩ := ty_cells hw ⟨c, nm, 0, 0⟩
    have a0 : ∀ k : AV → Res, ld1 h1 (.ptr h.nb (Nat.add 0 0)) k = k (.int 8 (c.toNat : Int)) := fun k => c1.l0 k
    have a1 : ∀ k : AV → Res, ld1 h1 (.ptr h.nb (Nat.add 0 1)) k = k (S nm) := fun k => c1.l1 k
    have a2 : ∀ k : AV → Res, ld1 h1 (.ptr h.nb (Nat.add 0 2)) k = k (.int 63 0) := fun k => c1.l2 k
    have a3 : ∀ k : AV → Res, ld1 h1 (.ptr h.nb (Nat.add 0 3)) k = k (.int 8 0) := fun k => c1.l3 k
    obtain ⟨h2, e2, o2, w2⟩ := t57 hc w1
    have f91 := c91 c
    rw [decide_eq_false x3] at f91
    exact ⟨h2, by simp only [↓s31, ↓m1, ↓cP_p, ↓a0, f91, Bool.not_false, ↓a1, ↓a2, ↓a3, ↓e2, ↓cK_S, ↓SD, SA, Int.ofNat_eq_natCast, Int.cast_ofNat_Int, Int.reduceBEq, Int.reduceAdd, Int.reduceNeg, Int.reduceNegSucc, Int.reduceLT, Int.reduceLE, Int.reduceMul, Int.reduceTMod, Int.reduceSub, Int.reduceBNe, Bool.not_true, Bool.not_false, decide_true, decide_false, ne_eq, not_false_eq_true, Int.reduceEq, reduceCtorEq]; rfl, o1.trans o2, w2⟩
/-- A text that is a field's descriptor. -/
theorem lead_rep (l : List UInt8) : l = List.replicate (lead l) 91 ++ l.drop (lead l) := by
  induction l with
  | nil => rfl
  | cons c l ih =>
    unfold lead
    by_cases hc : c = 91
    · rw [if_pos hc, List.replicate_succ, List.drop_succ_cons, hc, List.cons_append, ← ih]
    · rw [if_neg hc]; simp
theorem fld_inv {l : List UInt8} {t : Ty} (hl : l.length ≤ 90000) (h : fld l = some t) : ∃ c nm d, t = mkT c nm d ∧ d ≤ 255 ∧ (Prim c nm ∨ Ref c nm) ∧ nm.length ≤ 90000 ∧ l = List.replicate d 91 ++ txt c nm := by
  unfold fld at h
  cases hf : fr l with
  | none => rw [hf] at h; cases h
  | some q =>
    obtain ⟨t', n⟩ := q
    rw [hf] at h
    simp only at h
    split at h
    rotate_left
    · cases h
    rename_i hn
    cases h
    unfold fr at hf
    have hrep := lead_rep l
    cases hc : l[lead l]? with
    | none => rw [hc] at hf; cases hf
    | some c =>
      obtain ⟨hlt, hge⟩ := List.getElem?_eq_some_iff.1 hc
      have hdr : l.drop (lead l) = c :: l.drop (lead l + 1) := by rw [List.drop_eq_getElem_cons hlt, hge]
      rw [hdr] at hrep
      rw [hc] at hf
      simp only at hf
      split at hf
      · cases hf
      rename_i h255
      split at hf
      · rename_i hp
        cases hf
        refine ⟨c, [], lead l, rfl, by omega, .inl ⟨hp, rfl⟩, Nat.zero_le _, ?_⟩
        have e : txt c [] = [c] := if_neg (prims_ne hp).1
        rw [e]
        conv => lhs; rw [hrep]
        rw [List.drop_eq_nil_of_le (by omega)]
      split at hf
      · rename_i hp h76
        cases hu : upto (l.drop (lead l + 1)) with
        | none => rw [hu] at hf; cases hf
        | some nm =>
          rw [hu] at hf
          simp only at hf
          obtain ⟨b, eb, hb⟩ := upto_some _ nm hu
          have hlen := congrArg List.length eb
          simp at hlen
          split at hf
          · rename_i hcl
            cases hf
            refine ⟨76, nm, lead l, rfl, by omega, .inr ⟨rfl, hcl, by omega⟩, by omega, ?_⟩
            have e : txt 76 nm = 76 :: nm ++ [59] := if_pos rfl
            rw [e]
            conv => lhs; rw [hrep]
            have hb0 : b = [] := List.eq_nil_of_length_eq_zero (by omega)
            rw [eb, hb0, h76]; simp
          · cases hf
      · cases hf
end Go.Proofs.YtnpfppddongbhaaDoor
end

section
namespace Go.Proofs.YtnpfppddongbhaaDoor
open Go Go.AM
set_option autoImplicit false
set_option linter.unusedSimpArgs false
set_option linter.unusedVariables false
theorem t25 : ∃ h1, s25 [] H0 = .ret (.bool true) h1 ∧ Wf h1 := isTH_inv (by kernel_rfl)
theorem lawField (x : List UInt8) : ∃ h', s6 [S x] H0 = .ret (.bool true) h' := by
  obtain ⟨h1, e1, w1⟩ := t25
  have hl : (x.take 600).length ≤ 600 := by simp; omega
  have c1 : s14 [S x, .int 63 600] h1 = .ret (S (x.take 600)) h1 := t14 (l := x) 600 h1
  generalize x.take 600 = l at hl c1
  obtain ⟨h2, e2, o2, w2⟩ := t26 (l := l) (by omega) w1
  obtain ⟨h3, m3, k3, o3, w3, n3⟩ := ty0_mk w2
  obtain ⟨h4, s4', k4, o4, w4, n4⟩ := k3.st w3 ((fld l).getD ty0)
  have s4' : ∀ k : Hp → Res, stN h3 4 (.ptr h2.nb 0) (tyV ((fld l).getD ty0)) k = k h4 := s4'
  obtain ⟨h5, e5, o5, w5⟩ := t27 (l := l) (by omega) w4
  obtain ⟨h6, m6, k6, o6, w6, n6⟩ := ty0_mk w5
  obtain ⟨h7, s7', k7, o7, w7, n7⟩ := k6.st w6 ((fld l).getD ty0)
  have s7' : ∀ k : Hp → Res, stN h6 4 (.ptr h5.nb 0) (tyV ((fld l).getD ty0)) k = k h7 := s7'
  have nb2 := o2.nb
  have nb5 := o5.nb
  have k47 : Cel h7 h2.nb ((fld l).getD ty0) := ((k4.to o5 (fun f => f)).to o6 (fun f => f)).to o7 (fun f => by have : h2.nb = h5.nb := f; omega)
  generalize ht : (fld l).getD ty0 = t at *
  have a1 := fun k => k47.ld k
  have a2 := fun k => k7.ld k
  obtain ⟨h8, e8, o8, w8⟩ := t28 t w7
  have b1 := fun k => (k47.to o8 (fun f => f)).ld k
  have b2 := fun k => (k7.to o8 (fun f => f)).ld k
  obtain ⟨h9, e9, o9, w9⟩ := t29 t w8
  have b3 := fun k => ((k7.to o8 (fun f => f)).to o9 (fun f => f)).ld k
  obtain ⟨h10, e10, o10, w10⟩ := t30 t w9
  have b4 := fun k => (((k47.to o8 (fun f => f)).to o9 (fun f => f)).to o10 (fun f => f)).ld k
  have gs : ∀ a : List UInt8, gsel (.bool false) false (S a) = S a := fun a => rfl
  have gb : ∀ b : Bool, gsel (.bool true) true (.bool b) = .bool b := fun b => rfl
  have gf : ∀ b : Bool, gsel (.bool false) false (.bool b) = .bool b := fun b => rfl
  cases hf : fld l with
  | none =>
    have ef : fldV (fld l) = .tup (.cons (tyV t) (.cons (.bool false) .nil)) := by unfold fldV; rw [ht, hf]; rfl
    rw [ef] at e2 e5
    exact ⟨h10, by simp only [↓s6, ↓e1, ↓c1, ↓e2, nth_z, nth_1, ↓cK_ty, ↓m3, ↓s4', ↓e5, ↓m6, ↓s7', ↓a1, ↓a2, ↓e8, ↓b1, ↓b2, ↓e9, ↓b3, ↓same_ty, ↓e10, beq_self_eq_true, ↓gb, ↓gs, ↓SD, SA, Int.ofNat_eq_natCast, Int.cast_ofNat_Int, Int.reduceBEq, Int.reduceAdd, Int.reduceNeg, Int.reduceNegSucc, Int.reduceLT, Int.reduceLE, Int.reduceMul, Int.reduceTMod, Int.reduceSub, Int.reduceBNe, Bool.not_true, Bool.not_false, decide_true, decide_false, ne_eq, not_false_eq_true, Int.reduceEq, reduceCtorEq]; try rfl⟩
  | some t' =>
    have ef : fldV (fld l) = .tup (.cons (tyV t) (.cons (.bool true) .nil)) := by unfold fldV; rw [ht, hf]; rfl
    rw [ef] at e2 e5
    obtain ⟨c, nm, d, q1, q2, q3, q4, q5⟩ := fld_inv (by omega) hf
    rw [hf] at ht
    have ht : t' = t := ht
    obtain ⟨h11, e11, o11, w11⟩ := t31 q3 d q2 q4 w10
    rw [← q1, ht, ← q5] at e11
    have z : decide (l = l) = true := decide_eq_true rfl
    exact ⟨h11, by simp only [↓s6, ↓e1, ↓c1, ↓e2, nth_z, nth_1, ↓cK_ty, ↓m3, ↓s4', ↓e5, ↓m6, ↓s7', ↓a1, ↓a2, ↓e8, ↓b1, ↓b2, ↓e9, ↓b3, ↓same_ty, ↓e10, beq_self_eq_true, ↓gb, ↓gs, ↓b4, ↓e11, ↓eqS_S, z, ↓SD, SA, Int.ofNat_eq_natCast, Int.cast_ofNat_Int, Int.reduceBEq, Int.reduceAdd, Int.reduceNeg, Int.reduceNegSucc, Int.reduceLT, Int.reduceLE, Int.reduceMul, Int.reduceTMod, Int.reduceSub, Int.reduceBNe, Bool.not_true, Bool.not_false, decide_true, decide_false, ne_eq, not_false_eq_true, Int.reduceEq, reduceCtorEq]; try rfl⟩
end Go.Proofs.YtnpfppddongbhaaDoor
end

section
namespace Go.Proofs.YtnpfppddongbhaaDoor
open Go Go.AM
set_option autoImplicit false
set_option linter.unusedSimpArgs false
set_option linter.unusedVariables false
/-! ### slices of types -/
noncomputable def flat (ts : List Ty) : List AV := ts.flatMap tyL
theorem flat_len (ts : List Ty) : (flat ts).length = ts.length * 4 := by
  induction ts with
  | nil => rfl
  | cons t ts ih =>
    have e : flat (t :: ts) = tyL t ++ flat ts := by simp [flat]
    rw [e, List.length_append, ih, List.length_cons]
    have : (tyL t).length = 4 := rfl
    omega
theorem flat_snoc (ts : List Ty) (t : Ty) : flat (ts ++ [t]) = flat ts ++ tyL t := by simp [flat]
theorem flat_get (ts : List Ty) (i j : Nat) (hi : i < ts.length) (hj : j < 4) : (flat ts)[i * 4 + j]'(by rw [flat_len]; omega) = (tyL ts[i])[j]'(by have : (tyL ts[i]).length = 4 := rfl; omega) := by
  induction ts generalizing i with
  | nil => simp at hi
  | cons t ts ih =>
    have e : flat (t :: ts) = tyL t ++ flat ts := by simp [flat]
    have h4 : (tyL t).length = 4 := rfl
    simp only [e]
    cases i with
    | zero => rw [List.getElem_append_left (by omega)]; simp
    | succ i =>
      rw [List.getElem_append_right (by omega)]
      have e2 : (i + 1) * 4 + j - (tyL t).length = i * 4 + j := by omega
      simp only [e2, List.getElem_cons_succ]
      exact ih i (by simpa using hi)
def GrT (h : Hp) (N : Nat) (v : AV) (ts : List Ty) : Prop :=
  (v = .nils ∧ ts = []) ∨ ∃ b B, v = .sl b 0 ts.length 4 none ∧ N ≤ b ∧ Rd h b B ∧ B.fr = true ∧ N ≤ B.g ∧ ts.length * 4 ≤ B.lim ∧ ∀ i (hi : i < (flat ts).length), B.at i = (flat ts)[i]
theorem GrT.to {h h' : Hp} {N : Nat} {v : AV} {ts : List Ty} {W : Nat → Prop} (hg : GrT h N v ts) (ht : To W h h') (hd : ∀ b, N ≤ b → b < h.nb → ¬ W b) : GrT h' N v ts := by
  rcases hg with e | ⟨b, B, e, h1, h2, h3, h4, h5, h6⟩
  · exact .inl e
  · exact .inr ⟨b, B, e, h1, h2.to ht (hd b h1 h2.lt) (fun _ => hd _ h4 (h2.grp h3).1), h3, h4, h5, h6⟩
theorem GrT.mono {h : Hp} {N M : Nat} {v : AV} {ts : List Ty} (hg : GrT h N v ts) (hd : M ≤ N) : GrT h M v ts := by
  rcases hg with e | ⟨b, B, e, h1, h2, h3, h4, h5, h6⟩
  · exact .inl e
  · exact .inr ⟨b, B, e, by omega, h2, h3, by omega, h5, h6⟩
theorem GrT.len {h : Hp} {N : Nat} {v : AV} {ts : List Ty} (hg : GrT h N v ts) (k : AV → Res) : lenL v k = k (.int 63 (ts.length : Int)) := by
  rcases hg with ⟨rfl, rfl⟩ | ⟨b, B, rfl, -⟩ <;> rfl
theorem GrT.cK {h : Hp} {N : Nat} {v : AV} {ts : List Ty} (hg : GrT h N v ts) (k : AV → Res) : cK v k = k v := by
  rcases hg with ⟨rfl, rfl⟩ | ⟨b, B, rfl, -⟩ <;> rfl
theorem GrT.ix {h : Hp} {N : Nat} {v : AV} {ts : List Ty} (hg : GrT h N v ts) (i : Nat) (hi : i < ts.length) (k : AV → Res) : (ixA 4 v (.int 63 (i : Int)) fun a => ldN h 4 a k) = k (tyV ts[i]) := by
  rcases hg with ⟨rfl, rfl⟩ | ⟨b, B, rfl, h1, h2, h3, h4, h5, h6⟩
  · simp at hi
  · have e : (ixA 4 (.sl b 0 ts.length 4 none) (.int 63 (i : Int)) fun a => ldN h 4 a k) = ifB (Nat.blt i ts.length) (ifB (Nat.beq 4 4) (ldN h 4 (.ptr b (Nat.add 0 (Nat.mul i 4))) k) .fail) .fail := rfl
    rw [e, (blt_iff _ _).2 hi]
    have e2 : Nat.add 0 (Nat.mul i 4) = i * 4 := by show 0 + i * 4 = i * 4; omega
    show ldN h 4 (.ptr b (Nat.add 0 (Nat.mul i 4))) k = _
    rw [e2]
    exact ldN_rd (l := tyL ts[i]) h2 (fun j hj => by
      have hj : j < 4 := hj
      rw [h6 (i * 4 + j) (by rw [flat_len]; omega), flat_get ts i j hi hj]) (fun v hv => one_unk (tyL_one _ v hv)) k
theorem bldT (t : Ty) (k : AV → Res) : bld [(true, 4, tyV t)] k = k (avL (tyL t)) := rfl
theorem apd_ty {h : Hp} {N : Nat} {v : AV} {ts : List Ty} (hN : N ≤ h.nb) (hw : Wf h) (hv : GrT h N v ts) (hn : ts.length ≤ 100000) (t : Ty) :
    ∃ v' h1 h', (∀ k : AV → Hp → Res, mkS h 4 1 (avL (tyL t)) k = k (.sl h.nb 0 1 4 (some 1)) h1) ∧ (∀ k : AV → Hp → Res, apd h1 4 40 v (.sl h.nb 0 1 4 (some 1)) k = k v' h') ∧ GrT h' N v' (ts ++ [t]) ∧ To (fun b => N ≤ b) h h' ∧ Wf h' := by
  obtain ⟨t0, l1, l2⟩ := lay_list (tyL t) .e 0 (tyL_one t)
  obtain ⟨o1, o2⟩ := nw_own hw (0 + 4) .nil t0
  have w1 : Wf (nw h (0 + 4) .nil t0) := o2.wf hw
  have m1 : ∀ k : AV → Hp → Res, mkS h 4 1 (avL (tyL t)) k = k (.sl h.nb 0 1 4 (some 1)) (nw h (0 + 4) .nil t0) := fun k => by
    have e : mkS h 4 1 (avL (tyL t)) k = lay (avL (tyL t)) .e 0 fun t m => ifB (Nat.beq m (Nat.mul 1 4)) (k (.sl h.nb 0 1 4 (some 1)) (nw h m .nil t)) .fail := rfl
    rw [e, l1]; rfl
  have hat0 : ∀ i (hi : i < (tyL t).length), (⟨true, h.nb, 0 + 4, .nil, t0⟩ : Blk).at (0 + i) = (tyL t)[i] := by
    intro i hi
    have hi4 : i < 4 := hi
    rw [at_in _ (show 0 + i < 0 + 4 by omega)]
    simp only [l2 (0 + i)]
    rw [dif_pos ⟨by omega, by omega⟩]
    simp
  have hv1 : GrT (nw h (0 + 4) .nil t0) N v ts := hv.to o2 (fun _ _ _ f => f)
  have nb1 : (nw h (0 + 4) .nil t0).nb = h.nb + 1 := rfl
  generalize hh1 : nw h (0 + 4) .nil t0 = h1 at *
  have src1 : ∀ k : Nat → AV → Res, src h1 4 (.sl h.nb 0 1 4 (some 1)) k = k 1 (avL (tyL t)) := fun k => by
    have e : src h1 4 (.sl h.nb 0 1 4 (some 1)) k = gb h1 h.nb fun B => rds B (tyL t).length 0 fun l => k 1 l := rfl
    rw [e, gb_rd o1.rd, rds_list (tyL t) 0 _ hat0 (fun v hv => one_unk (tyL_one _ v hv))]
  have t1 : To (fun b => N ≤ b) h h1 := o2.mono fun _ _ f => f.elim
  rcases hv1 with ⟨rfl, rfl⟩ | ⟨b, B, rfl, g1, g2, g3, g4, g5, g6⟩
  · obtain ⟨p1, p2⟩ := nw_own w1 (0 + 4) .nil t0
    refine ⟨.sl h1.nb 0 1 4 none, h1, nw h1 (0 + 4) .nil t0, m1, fun k => ?_, .inr ⟨h1.nb, _, rfl, by omega, p1.rd, rfl, by show N ≤ h1.nb; omega, by show 1 * 4 ≤ 0 + 4; omega, fun i hi => ?_⟩, t1.trans (p2.mono fun _ _ f => f.elim), p2.wf w1⟩
    · unfold apd
      rw [src1]
      show grown h1 4 1 (avL (tyL t)) k = _
      have e : grown h1 4 1 (avL (tyL t)) k = lay (avL (tyL t)) .e 0 fun t m => ifB (Nat.beq m (Nat.mul 1 4)) (k (.sl h1.nb 0 1 4 none) (nw h1 m .nil t)) .fail := rfl
      rw [e, l1]; rfl
    · have e : flat ([] ++ [t]) = tyL t := by simp [flat]
      simp only [e] at hi ⊢
      have := hat0 i hi
      rw [show 0 + i = i from Nat.zero_add i] at this
      rw [← this]
      have hi4 : i < 4 := hi
      rw [at_in _ (show i < 0 + 4 by omega), at_in _ (show i < 0 + 4 by omega)]
  · have h4 : (tyL t).length = 4 := rfl
    obtain ⟨t, t1', t2⟩ : ∃ t', (∀ k : T AV → Nat → Res, lay (avL (tyL t)) B.cs (ts.length * 4) k = k t' (ts.length * 4 + 4)) ∧ ∀ j, t'.get j = if hh : ts.length * 4 ≤ j ∧ j < ts.length * 4 + 4 then some ((tyL t)[j - ts.length * 4]'(by omega)) else B.cs.get j := lay_list (tyL t) B.cs (ts.length * 4) (tyL_one t)
    rename_i tt
    generalize hold : ifN (h1.grp B.g).1 b B.lim (ts.length * 4) (h1.grp B.g).2 h1.nb = old
    have hle : old ≤ h1.nb := by
      have q := (g2.grp g3).2
      have hlt := g2.lt
      have e : ifN (h1.grp B.g).1 b B.lim (ts.length * 4) (h1.grp B.g).2 h1.nb = Bool.rec (motive := fun _ => Nat) h1.nb (Bool.rec (motive := fun _ => Nat) h1.nb (h1.grp B.g).2 (Nat.ble B.lim (ts.length * 4))) (Nat.beq (h1.grp B.g).1 b) := rfl
      rw [← hold, e, recB, recB]
      split
      · split
        · omega
        · exact Nat.le_refl _
      · exact Nat.le_refl _
    have hrun : ∀ k : AV → Hp → Res, apd h1 4 40 (.sl b 0 ts.length 4 none) (.sl h.nb 0 1 4 (some 1)) k = k (.sl h1.nb 0 (ts.length + 1) 4 none) ⟨Nat.succ h1.nb, h1.bs.set ⟨true, B.g, ts.length * 4 + 4, B.df, t⟩ h1.nb, h1.gs.set (h1.nb, old) B.g, h1.ms⟩ := fun k => by
      unfold apd
      rw [src1]
      show ifB (Nat.beq 4 4) (ifB (Nat.beq 1 0) _ (ifB (Nat.ble (Nat.mul (Nat.add ts.length 1) 40) 140737488355328) (ifB (Nat.ble (Nat.add ts.length 1) 9223372036854775807)
        (gb h1 b fun B => ifB B.fr (ifB (Nat.beq 0 0) (lay (avL (tyL tt)) B.cs (Nat.mul ts.length 4) fun t e => ifB (Nat.beq e (Nat.mul (Nat.add ts.length 1) 4)) (ifB (Nat.ble (Nat.mul ts.length 4) B.lim)
          (k (.sl h1.nb 0 (Nat.add ts.length 1) 4 none) ⟨Nat.succ h1.nb, h1.bs.set ⟨true, B.g, e, B.df, t⟩ h1.nb, h1.gs.set (h1.nb, ifN (h1.grp B.g).1 b B.lim (Nat.mul ts.length 4) (h1.grp B.g).2 h1.nb) B.g, h1.ms⟩) .fail) .fail) _) .fail) .fail) .fail)) .fail = _
      have e1 : Nat.ble (Nat.mul (Nat.add ts.length 1) 40) 140737488355328 = true := by rw [ble_iff]; show (ts.length + 1) * 40 ≤ _; omega
      have e2 : Nat.ble (Nat.add ts.length 1) 9223372036854775807 = true := by rw [ble_iff]; show ts.length + 1 ≤ _; omega
      rw [e1, e2]
      show (gb h1 b fun B => ifB B.fr (ifB (Nat.beq 0 0) (lay (avL (tyL tt)) B.cs (Nat.mul ts.length 4) fun t e => ifB (Nat.beq e (Nat.mul (Nat.add ts.length 1) 4)) (ifB (Nat.ble (Nat.mul ts.length 4) B.lim)
          (k (.sl h1.nb 0 (Nat.add ts.length 1) 4 none) ⟨Nat.succ h1.nb, h1.bs.set ⟨true, B.g, e, B.df, t⟩ h1.nb, h1.gs.set (h1.nb, ifN (h1.grp B.g).1 b B.lim (Nat.mul ts.length 4) (h1.grp B.g).2 h1.nb) B.g, h1.ms⟩) .fail) .fail) _) .fail) = _
      rw [gb_rd g2, g3, ifB_t]
      have e3 : Nat.mul ts.length 4 = ts.length * 4 := rfl
      show (lay (avL (tyL tt)) B.cs (Nat.mul ts.length 4) fun t e => ifB (Nat.beq e (Nat.mul (Nat.add ts.length 1) 4)) (ifB (Nat.ble (Nat.mul ts.length 4) B.lim)
          (k (.sl h1.nb 0 (Nat.add ts.length 1) 4 none) ⟨Nat.succ h1.nb, h1.bs.set ⟨true, B.g, e, B.df, t⟩ h1.nb, h1.gs.set (h1.nb, ifN (h1.grp B.g).1 b B.lim (Nat.mul ts.length 4) (h1.grp B.g).2 h1.nb) B.g, h1.ms⟩) .fail) .fail) = _
      have e4 : Nat.mul (Nat.add ts.length 1) 4 = ts.length * 4 + 4 := by show (ts.length + 1) * 4 = _; omega
      rw [e3, hold, e4, t1', (beq_iff _ _).2 rfl, (ble_iff _ _).2 g5]
      rfl
    have hget2 : ∀ x, (h1.bs.set ⟨true, B.g, ts.length * 4 + 4, B.df, t⟩ h1.nb).get x = if x = h1.nb then some ⟨true, B.g, ts.length * 4 + 4, B.df, t⟩ else h1.bs.get x := fun x => T.get_set _ _ _ _
    have hgs2 : ∀ x, (h1.gs.set (h1.nb, old) B.g).get x = if x = B.g then some (h1.nb, old) else h1.gs.get x := fun x => T.get_set _ _ _ _
    have hBg := g2.grp g3
    have tfin : To (fun b => N ≤ b) h1 ⟨Nat.succ h1.nb, h1.bs.set ⟨true, B.g, ts.length * 4 + 4, B.df, t⟩ h1.nb, h1.gs.set (h1.nb, old) B.g, h1.ms⟩ := by
      refine ⟨Nat.le_succ _, fun x hx hn => ?_, fun x hx hn => ?_, fun hn g hg => ?_⟩
      · show (h1.bs.set _ h1.nb).get x = _
        rw [hget2, if_neg (by omega)]
      · show (h1.gs.set (h1.nb, old) B.g).get x = _
        rw [hgs2, if_neg (fun e => hn (by rw [e]; exact g4))]
      · show (h1.gs.set (h1.nb, old) B.g).get g = none
        have hg : h1.nb + 1 ≤ g := hg
        rw [hgs2, if_neg (by omega)]
        exact hn g (by omega)
    refine ⟨_, h1, _, m1, hrun, .inr ⟨h1.nb, ⟨true, B.g, ts.length * 4 + 4, B.df, t⟩, by rw [List.length_append]; rfl, by omega, ⟨by show (h1.bs.set _ h1.nb).get h1.nb = _; rw [hget2, if_pos rfl], Nat.lt_succ_self _, fun _ => ⟨Nat.lt_succ_of_lt hBg.1, ?_⟩⟩, rfl, g4, by rw [List.length_append]; show (ts.length + 1) * 4 ≤ ts.length * 4 + 4; omega, fun i hi => ?_⟩, t1.trans tfin, tfin.wf w1⟩
    · show (Hp.grp ⟨_, _, h1.gs.set (h1.nb, old) B.g, _⟩ B.g).2 ≤ h1.nb
      simp only [Hp.grp, hgs2, if_pos]
      exact hle
    · simp only [flat_snoc] at hi ⊢
      have hfl := flat_len ts
      rw [List.length_append, h4] at hi
      rw [at_in _ (show i < ts.length * 4 + 4 by omega)]
      simp only [t2 i]
      by_cases c : ts.length * 4 ≤ i
      · rw [dif_pos ⟨c, by omega⟩, List.getElem_append_right (by omega)]
        simp only [hfl]
      · rw [dif_neg (by omega), List.getElem_append_left (by omega)]
        have := g6 i (by omega)
        rw [at_in B (by omega)] at this
        exact this
end Go.Proofs.YtnpfppddongbhaaDoor
end

section
namespace Go.Proofs.YtnpfppddongbhaaDoor
open Go Go.AM
set_option autoImplicit false
set_option linter.unusedSimpArgs false
set_option linter.unusedVariables false
/-! ### a method's descriptor -/
theorem t86 (l : List UInt8) (c : UInt8) (h : Hp) : s86 [S l, S [c]] h = .ret (.bool (decide (l.take 1 = [c]))) h := by
  have gs : ∀ a : List UInt8, gsel (.bool true) true (S a) = S a := fun a => rfl
  have l1 : (([c] : List UInt8).length : Int) = 1 := rfl
  by_cases h1 : 1 ≤ l.length
  · have q : ¬ (l.length : Int) < 1 := by omega
    have x1 : ∀ k : AV → Res, cutT (S l) none (some (.int 63 1)) k = k (S (l.take 1)) := fun k => cutR_S l 63 1 h1 k
    simp only [↓s86, ↓lenS_S, l1, q, Bool.not_false, ↓gs, ↓x1, ↓eqS_S, ↓SD, SA, Int.ofNat_eq_natCast, Int.cast_ofNat_Int, Int.reduceBEq, Int.reduceAdd, Int.reduceNeg, Int.reduceNegSucc, Int.reduceLT, Int.reduceLE, Int.reduceMul, Int.reduceTMod, Int.reduceSub, Int.reduceBNe, Bool.not_true, Bool.not_false, decide_true, decide_false, ne_eq, not_false_eq_true, Int.reduceEq, reduceCtorEq]
  · have q : (l.length : Int) < 1 := by omega
    have e : l = [] := List.eq_nil_of_length_eq_zero (by omega)
    have z : decide (l.take 1 = [c]) = false := by rw [e]; rfl
    simp only [↓s86, ↓lenS_S, l1, q, Bool.not_true, z, ↓SD, SA, Int.ofNat_eq_natCast, Int.cast_ofNat_Int, Int.reduceBEq, Int.reduceAdd, Int.reduceNeg, Int.reduceNegSucc, Int.reduceLT, Int.reduceLE, Int.reduceMul, Int.reduceTMod, Int.reduceSub, Int.reduceBNe, Bool.not_true, Bool.not_false, decide_true, decide_false, ne_eq, not_false_eq_true, Int.reduceEq, reduceCtorEq]
theorem t60 (l : List UInt8) (c : UInt8) (h : Hp) : s60 [S l, S [c]] h = .ret (.bool (decide (l.take 1 = [c]))) h := by
  have e := t86 l c h
  simp only [↓s60, ↓e, ↓SD, SA, Int.ofNat_eq_natCast, Int.cast_ofNat_Int, Int.reduceBEq, Int.reduceAdd, Int.reduceNeg, Int.reduceNegSucc, Int.reduceLT, Int.reduceLE, Int.reduceMul, Int.reduceTMod, Int.reduceSub, Int.reduceBNe, Bool.not_true, Bool.not_false, decide_true, decide_false, ne_eq, not_false_eq_true, Int.reduceEq, reduceCtorEq]
theorem t59y (l : List UInt8) (c : UInt8) (h : Hp) (hc : l.take 1 = [c]) : s59 [S l, S [c]] h = .ret (.tup (.cons (S (l.drop 1)) (.cons (.bool true) .nil))) h := by
  have e := t86 l c h
  rw [decide_eq_true hc] at e
  have hl : 1 ≤ l.length := by
    have := congrArg List.length hc
    simp at this; omega
  have l1 : (([c] : List UInt8).length : Int) = 1 := rfl
  have x1 : ∀ k : AV → Res, cutT (S l) (some (.int 63 1)) none k = k (S (l.drop 1)) := fun k => cutL_S l 63 1 hl k
  have e2 : s85 [S l, S [c]] h = .ret (.tup (.cons (S (l.drop 1)) (.cons (.bool true) .nil))) h := by
    simp only [↓s85, ↓e, ↓lenS_S, l1, ↓x1, ↓cK_S, ↓SD, SA, Int.ofNat_eq_natCast, Int.cast_ofNat_Int, Int.reduceBEq, Int.reduceAdd, Int.reduceNeg, Int.reduceNegSucc, Int.reduceLT, Int.reduceLE, Int.reduceMul, Int.reduceTMod, Int.reduceSub, Int.reduceBNe, Bool.not_true, Bool.not_false, decide_true, decide_false, ne_eq, not_false_eq_true, Int.reduceEq, reduceCtorEq]
  simp only [↓s59, ↓e2, nth_z, nth_1, ↓cK_S, ↓SD, SA, Int.ofNat_eq_natCast, Int.cast_ofNat_Int, Int.reduceBEq, Int.reduceAdd, Int.reduceNeg, Int.reduceNegSucc, Int.reduceLT, Int.reduceLE, Int.reduceMul, Int.reduceTMod, Int.reduceSub, Int.reduceBNe, Bool.not_true, Bool.not_false, decide_true, decide_false, ne_eq, not_false_eq_true, Int.reduceEq, reduceCtorEq]
theorem t59n (l : List UInt8) (c : UInt8) (h : Hp) (hc : ¬ l.take 1 = [c]) : s59 [S l, S [c]] h = .ret (.tup (.cons (S l) (.cons (.bool false) .nil))) h := by
  have e := t86 l c h
  rw [decide_eq_false hc] at e
  have e2 : s85 [S l, S [c]] h = .ret (.tup (.cons (S l) (.cons (.bool false) .nil))) h := by
    simp only [↓s85, ↓e, ↓cK_S, ↓SD, SA, Int.ofNat_eq_natCast, Int.cast_ofNat_Int, Int.reduceBEq, Int.reduceAdd, Int.reduceNeg, Int.reduceNegSucc, Int.reduceLT, Int.reduceLE, Int.reduceMul, Int.reduceTMod, Int.reduceSub, Int.reduceBNe, Bool.not_true, Bool.not_false, decide_true, decide_false, ne_eq, not_false_eq_true, Int.reduceEq, reduceCtorEq]
  simp only [↓s59, ↓e2, nth_z, nth_1, ↓cK_S, ↓SD, SA, Int.ofNat_eq_natCast, Int.cast_ofNat_Int, Int.reduceBEq, Int.reduceAdd, Int.reduceNeg, Int.reduceNegSucc, Int.reduceLT, Int.reduceLE, Int.reduceMul, Int.reduceTMod, Int.reduceSub, Int.reduceBNe, Bool.not_true, Bool.not_false, decide_true, decide_false, ne_eq, not_false_eq_true, Int.reduceEq, reduceCtorEq]
noncomputable def ml : Nat → List UInt8 → Option (List Ty × List UInt8)
  | 0, _ => none
  | f + 1, l => if l.take 1 = [41] then some ([], l) else
    match fr l with
    | none => none
    | some q => match ml f (l.drop q.2) with
      | none => none
      | some p => some (q.1 :: p.1, p.2)
noncomputable def T3 (v : AV) (t : Ty) (b : Bool) : AV := .tup (.cons v (.cons (tyV t) (.cons (.bool b) .nil)))
theorem ml_inv : ∀ (f : Nat) (l : List UInt8) (p : List Ty × List UInt8), ml f l = some p → p.2.take 1 = [41] ∧ p.1.length + p.2.length ≤ l.length := by
  intro f
  induction f with
  | zero => intro l p h; cases h
  | succ f ih =>
    intro l p h
    unfold ml at h
    split at h
    · cases h; rename_i hh; exact ⟨hh, by simp⟩
    · cases hf : fr l with
      | none => rw [hf] at h; cases h
      | some q =>
        rw [hf] at h
        simp only at h
        have hq := fr_pos (show fr l = some (q.1, q.2) from hf)
        cases hm : ml f (l.drop q.2) with
        | none => rw [hm] at h; cases h
        | some p' =>
          rw [hm] at h
          cases h
          obtain ⟨h1, h2⟩ := ih _ _ hm
          refine ⟨h1, ?_⟩
          simp at h2 ⊢
          omega
theorem loop32 (b N : Nat) (hbN : b < N) : ∀ (f m : Nat) (l : List UInt8) (ts0 : List Ty) (v : AV) (h : Hp), l.length < f → f < m → l.length + ts0.length ≤ 100000 → N ≤ h.nb → Wf h → Cel h b ty0 → GrT h N v ts0 →
    (ml f l = none ∧ ∃ h', lp L32n0 m [S l, .ptr b 0, v] h = .ret (T3 .nils ty0 false) h' ∧ To (fun x => b ≤ x) h h' ∧ Wf h') ∨
    (∃ p v' h', ml f l = some p ∧ lp L32n0 m [S l, .ptr b 0, v] h = .exit 0 [S p.2, .ptr b 0, v'] h' ∧ GrT h' N v' (ts0 ++ p.1) ∧ To (fun x => N ≤ x) h h' ∧ Wf h') := by
  intro f
  induction f with
  | zero => intro m l ts0 v h hf; omega
  | succ f ih =>
    intro m l ts0 v h hf hm hl hN hw hc hg
    obtain ⟨m, rfl⟩ : ∃ k, m = k + 1 := ⟨m - 1, by omega⟩
    have e60 := t60 l 41 h
    have S41 : AV.str 1 41 = S [41] := rfl
    by_cases hp : l.take 1 = [41]
    · rw [decide_eq_true hp] at e60
      refine .inr ⟨([], l), v, h, by unfold ml; rw [if_pos hp], lpx m (by simp only [↓L32n0, ↓S41, ↓e60, ↓SD, SA, Int.ofNat_eq_natCast, Int.cast_ofNat_Int, Int.reduceBEq, Int.reduceAdd, Int.reduceNeg, Int.reduceNegSucc, Int.reduceLT, Int.reduceLE, Int.reduceMul, Int.reduceTMod, Int.reduceSub, Int.reduceBNe, Bool.not_true, Bool.not_false, decide_true, decide_false, ne_eq, not_false_eq_true, Int.reduceEq, reduceCtorEq]), by rw [List.append_nil]; exact hg, To.refl _ _, hw⟩
    · rw [decide_eq_false hp] at e60
      obtain ⟨h1, e1, o1, w1⟩ := t55 (l := l) (by omega) hw
      obtain ⟨h2, m2, c2, o2, w2, n2⟩ := ty0_mk w1
      have nb1 := o1.nb
      have hcb := hc.lt
      have hne : ¬ b = h1.nb := by omega
      cases hf' : fr l with
      | none =>
        have ef : frV (fr l) = .tup (.cons (tyV ty0) (.cons (.int 63 0) .nil)) := by rw [hf']; rfl
        rw [ef] at e1
        obtain ⟨h3, s3, c3, o3, w3, n3⟩ := c2.st w2 ty0
        have s3 : ∀ k : Hp → Res, stN h2 4 (.ptr h1.nb 0) (tyV ty0) k = k h3 := s3
        have cb : Cel h3 b ty0 := ((hc.to o1 (fun f => f)).to o2 (fun f => f)).to o3 hne
        obtain ⟨h4, p1, p2, o4, w4⟩ := fin1 w3 cb ty0
        have p1 : ∀ k : Hp → Res, stN h3 4 (.ptr b 0) (.agg (avL (tyL ty0))) k = k h4 := p1
        refine .inl ⟨by unfold ml; rw [if_neg hp, hf'], h4, ?_, ((((o1.mono fun _ _ f => f.elim).trans (o2.mono fun _ _ f => f.elim)).trans (o3.mono fun x _ e => by have : x = h1.nb := e; omega)).trans (o4.mono fun x _ e => by have : x = b := e; omega)), w4⟩
        exact lpr m (by simp only [↓L32n0, ↓S41, ↓e60, ↓e1, nth_z, nth_1, ↓cK_ty, ↓m2, ↓s3, ↓bldz, ↓p1, ↓p2, ↓SD, SA, Int.ofNat_eq_natCast, Int.cast_ofNat_Int, Int.reduceBEq, Int.reduceAdd, Int.reduceNeg, Int.reduceNegSucc, Int.reduceLT, Int.reduceLE, Int.reduceMul, Int.reduceTMod, Int.reduceSub, Int.reduceBNe, Bool.not_true, Bool.not_false, decide_true, decide_false, ne_eq, not_false_eq_true, Int.reduceEq, reduceCtorEq]; rfl)
      | some q =>
        obtain ⟨t, n⟩ := q
        obtain ⟨hn, hn2⟩ := fr_pos hf'
        have ef : frV (fr l) = .tup (.cons (tyV t) (.cons (.int 63 (n : Int)) .nil)) := by rw [hf']; rfl
        rw [ef] at e1
        have q0 : (((n : Nat) : Int) == 0) = false := beq_eq_false_iff_ne.2 (by omega)
        obtain ⟨h3, s3, c3, o3, w3, n3⟩ := c2.st w2 t
        have s3 : ∀ k : Hp → Res, stN h2 4 (.ptr h1.nb 0) (tyV t) k = k h3 := s3
        have l3 := fun k => c3.ld k
        have cb : Cel h3 b ty0 := ((hc.to o1 (fun f => f)).to o2 (fun f => f)).to o3 hne
        have oo : To (fun x => h.nb ≤ x) h h3 := ((o1.mono fun _ _ f => f.elim).trans (o2.mono fun _ _ f => f.elim)).trans (o3.mono fun x _ e => by have : x = h1.nb := e; omega)
        have g3 : GrT h3 N v ts0 := hg.to oo (fun x _ h2' e => by omega)
        obtain ⟨v', h4, h5, p4, p5, g5, o5, w5⟩ := apd_ty (N := N) (by omega) w3 g3 (by omega) t
        have x1 := fun k => cutL_S l 63 n hn2 k
        have e : L32n0 [S l, .ptr b 0, v] h = .norm [S (l.drop n), .ptr b 0, v'] h5 := by
          simp only [↓L32n0, ↓S41, ↓e60, ↓e1, nth_z, nth_1, ↓cK_ty, ↓m2, ↓s3, q0, ↓l3, ↓bldT, ↓p4, ↓p5, ↓x1, ↓SD, SA, Int.ofNat_eq_natCast, Int.cast_ofNat_Int, Int.reduceBEq, Int.reduceAdd, Int.reduceNeg, Int.reduceNegSucc, Int.reduceLT, Int.reduceLE, Int.reduceMul, Int.reduceTMod, Int.reduceSub, Int.reduceBNe, Bool.not_true, Bool.not_false, decide_true, decide_false, ne_eq, not_false_eq_true, Int.reduceEq, reduceCtorEq]
        have c5 : Cel h5 b ty0 := cb.to o5 (fun e => by omega)
        have oN : To (fun x => N ≤ x) h h5 := (oo.mono fun x _ e => by omega).trans o5
        have nb5 := oN.nb
        rcases ih m (l.drop n) (ts0 ++ [t]) v' h5 (by simp; omega) (by omega) (by simp; omega) (by omega) w5 c5 g5 with ⟨r1, h6, r2, r3, r4⟩ | ⟨p, v'', h6, r1, r2, r3, r4, r5⟩
        · refine .inl ⟨?_, h6, (lpn m e).trans r2, (oN.mono fun x _ e => by omega).trans r3, r4⟩
          unfold ml; rw [if_neg hp, hf']
          simp only [r1]
        · refine .inr ⟨(t :: p.1, p.2), v'', h6, ?_, (lpn m e).trans r2, by simpa using r3, oN.trans r4, r5⟩
          unfold ml; rw [if_neg hp, hf']
          simp only [r1]
noncomputable def tyVoid : Ty := ⟨86, [], 0, 0⟩
noncomputable def md (l : List UInt8) : Option (List Ty × Ty) :=
  if l.take 1 = [40] then
    match ml (l.length + 1) (l.drop 1) with
    | none => none
    | some p => if p.2 = [41, 86] then some (p.1, tyVoid) else
      match fld (p.2.drop 1) with
      | none => none
      | some t => some (p.1, t)
  else none
def Mth (r : Res) (h : Hp) (o : Option (List Ty × Ty)) : Prop :=
  (o = none ∧ ∃ h', r = .ret (T3 .nils ty0 false) h' ∧ To No h h' ∧ Wf h') ∨ (∃ p v h', o = some p ∧ r = .ret (T3 v p.2 true) h' ∧ GrT h' h.nb v p.1 ∧ To No h h' ∧ Wf h')
theorem bldV (k : AV → Res) : bld [(false, 1, (.int 8 (.ofNat 86))), (false, 1, (.str 0 0)), (false, 1, (.int 63 (.ofNat 0))), (false, 1, (.int 8 (.ofNat 0)))] k = k (avL (tyL tyVoid)) := rfl
theorem t32 {l : List UInt8} (hl : l.length ≤ 90000) {h : Hp} (hw : Wf h) : Mth (s32 [S l] h) h (md l) := by
  obtain ⟨h1, m1, c1, o1, w1, n1⟩ := ty0_mk hw
  have S40 : AV.str 1 40 = S [40] := rfl
  have S41V : AV.str 2 22057 = S [41, 86] := rfl
  have fresh : ∀ {g : Hp}, To (fun x => h.nb ≤ x) h1 g → To No h g := fun t => o1.fresh t (fun x e => e)
  unfold md
  by_cases hp : l.take 1 = [40]
  · rw [if_pos hp]
    have e59 := t59y l 40 h1 hp
    have hl1 : (l.drop 1).length ≤ l.length := by simp
    rcases loop32 h.nb (h.nb + 1) (by omega) (l.length + 1) most (l.drop 1) [] .nils h1 (by omega) (by unfold most; omega) (by simp; omega) (by omega) w1 c1 (.inl ⟨rfl, rfl⟩) with ⟨r1, h6, r2, r3, r4⟩ | ⟨p, v, h6, r1, r2, r3, r4, r5⟩
    · rw [r1]
      exact .inl ⟨rfl, h6, by simp only [↓s32, ↓m1, ↓S40, ↓e59, nth_z, nth_1, ↓cK_S, ↓r2, ↓SD, SA, Int.ofNat_eq_natCast, Int.cast_ofNat_Int, Int.reduceBEq, Int.reduceAdd, Int.reduceNeg, Int.reduceNegSucc, Int.reduceLT, Int.reduceLE, Int.reduceMul, Int.reduceTMod, Int.reduceSub, Int.reduceBNe, Bool.not_true, Bool.not_false, decide_true, decide_false, ne_eq, not_false_eq_true, Int.reduceEq, reduceCtorEq], fresh r3, r4⟩
    · rw [r1]
      obtain ⟨i1, i2⟩ := ml_inv _ _ _ r1
      have c6 : Cel h6 h.nb ty0 := c1.to r4 (fun e => by omega)
      have g6 : GrT h6 (h.nb + 1) v p.1 := by simpa using r3
      have t16 : To (fun x => h.nb ≤ x) h1 h6 := r4.mono fun x _ e => by omega
      have kv := fun k => g6.cK k
      have hpl : 1 ≤ p.2.length := by
        have := congrArg List.length i1
        simp at this; omega
      show Mth (s32 [S l] h) h (if p.2 = [41, 86] then some (p.1, tyVoid) else match fld (p.2.drop 1) with | none => none | some t => some (p.1, t))
      by_cases hv : p.2 = [41, 86]
      · rw [if_pos hv]
        have z : decide (p.2 = [41, 86]) = true := decide_eq_true hv
        obtain ⟨h7, p1, p2, o7, w7⟩ := fin1 r5 c6 tyVoid
        have p1 : ∀ k : Hp → Res, stN h6 4 (.ptr h.nb 0) (.agg (avL (tyL tyVoid))) k = k h7 := p1
        have g7 : GrT h7 h.nb v p.1 := (g6.to o7 (fun x e _ e2 => by have : x = h.nb := e2; omega)).mono (by omega)
        refine .inr ⟨(p.1, tyVoid), v, h7, rfl, ?_, g7, fresh (t16.trans (o7.mono fun x _ e => by have : x = h.nb := e; omega)), w7⟩
        simp only [↓s32, ↓m1, ↓S40, ↓e59, nth_z, nth_1, ↓cK_S, ↓r2, ↓blk_x, ↓S41V, ↓eqS_S, z, ↓bldV, ↓p1, ↓kv, ↓p2, ↓cK_ty, ↓SD, SA, Int.ofNat_eq_natCast, Int.cast_ofNat_Int, Int.reduceBEq, Int.reduceAdd, Int.reduceNeg, Int.reduceNegSucc, Int.reduceLT, Int.reduceLE, Int.reduceMul, Int.reduceTMod, Int.reduceSub, Int.reduceBNe, Bool.not_true, Bool.not_false, decide_true, decide_false, ne_eq, not_false_eq_true, Int.reduceEq, reduceCtorEq]; rfl
      · rw [if_neg hv]
        have z : decide (p.2 = [41, 86]) = false := decide_eq_false hv
        have x1 : ∀ k : AV → Res, cutT (S p.2) (some (.int 63 1)) none k = k (S (p.2.drop 1)) := fun k => cutL_S p.2 63 1 hpl k
        have hdl : (p.2.drop 1).length ≤ 100000 := by simp; omega
        obtain ⟨h7, e26, o7, w7⟩ := t26 hdl r5
        obtain ⟨h8, m8, c8, o8, w8, n8⟩ := ty0_mk w7
        have m8' : ∀ k : AV → Hp → Res, mk h7 (.cons (.int 8 0) (.cons (.str 0 0) (.cons (.int 63 0) (.cons (.int 8 0) .nil)))) k = k (.ptr h7.nb 0) h8 := m8
        have bz : ∀ k : AV → Res, bld [(false, 1, (.int 8 0)), (false, 1, (.str 0 0)), (false, 1, (.int 63 0)), (false, 1, (.int 8 0))] k = k (avL (tyL ty0)) := fun k => rfl
        have nb6 := t16.nb
        have nb7 := o7.nb
        obtain ⟨h9, s9, c9, o9, w9, n9⟩ := c8.st w8 ((fld (p.2.drop 1)).getD ty0)
        have s9 : ∀ k : Hp → Res, stN h8 4 (.ptr h7.nb 0) (tyV ((fld (p.2.drop 1)).getD ty0)) k = k h9 := s9
        have oo : To (fun x => h6.nb ≤ x) h6 h9 := ((o7.mono fun _ _ f => f.elim).trans (o8.mono fun _ _ f => f.elim)).trans (o9.mono fun x _ e => by have : x = h7.nb := e; omega)
        have cb : Cel h9 h.nb ty0 := c6.to oo (fun e => by omega)
        have g9 : GrT h9 (h.nb + 1) v p.1 := g6.to oo (fun x _ h2' e => by omega)
        have t19 : To (fun x => h.nb ≤ x) h1 h9 := t16.trans (oo.mono fun x _ e => by omega)
        have l9 := fun k => c9.ld k
        cases hf : fld (p.2.drop 1) with
        | none =>
          have ef : fldV (fld (p.2.drop 1)) = .tup (.cons (tyV ty0) (.cons (.bool false) .nil)) := by rw [hf]; rfl
          rw [ef] at e26
          rw [hf] at s9
          have s9 : ∀ k : Hp → Res, stN h8 4 (.ptr h7.nb 0) (tyV ty0) k = k h9 := s9
          obtain ⟨h10, p1, p2, o10, w10⟩ := fin1 w9 cb ty0
          have p1 : ∀ k : Hp → Res, stN h9 4 (.ptr h.nb 0) (.agg (avL (tyL ty0))) k = k h10 := p1
          refine .inl ⟨rfl, h10, ?_, fresh (t19.trans (o10.mono fun x _ e => by have : x = h.nb := e; omega)), w10⟩
          simp only [↓s32, ↓m1, ↓S40, ↓e59, nth_z, nth_1, ↓cK_S, ↓r2, ↓blk_x, ↓S41V, ↓eqS_S, z, ↓x1, ↓e26, ↓cK_ty, ↓m8, ↓m8', ↓s9, ↓bldz, ↓bz, ↓p1, ↓p2, ↓SD, SA, Int.ofNat_eq_natCast, Int.cast_ofNat_Int, Int.reduceBEq, Int.reduceAdd, Int.reduceNeg, Int.reduceNegSucc, Int.reduceLT, Int.reduceLE, Int.reduceMul, Int.reduceTMod, Int.reduceSub, Int.reduceBNe, Bool.not_true, Bool.not_false, decide_true, decide_false, ne_eq, not_false_eq_true, Int.reduceEq, reduceCtorEq]; rfl
        | some t =>
          have ef : fldV (fld (p.2.drop 1)) = .tup (.cons (tyV t) (.cons (.bool true) .nil)) := by rw [hf]; rfl
          rw [ef] at e26
          rw [hf] at s9 l9
          have s9 : ∀ k : Hp → Res, stN h8 4 (.ptr h7.nb 0) (tyV t) k = k h9 := s9
          have l9 : ∀ k : AV → Res, ldN h9 4 (.ptr h7.nb 0) k = k (tyV t) := l9
          obtain ⟨h10, p1, p2, o10, w10⟩ := fin1 w9 cb t
          have g10 : GrT h10 h.nb v p.1 := (g9.to o10 (fun x e _ e2 => by have : x = h.nb := e2; omega)).mono (by omega)
          refine .inr ⟨(p.1, t), v, h10, rfl, ?_, g10, fresh (t19.trans (o10.mono fun x _ e => by have : x = h.nb := e; omega)), w10⟩
          simp only [↓s32, ↓m1, ↓S40, ↓e59, nth_z, nth_1, ↓cK_S, ↓r2, ↓blk_x, ↓S41V, ↓eqS_S, z, ↓x1, ↓e26, ↓cK_ty, ↓m8, ↓m8', ↓s9, ↓l9, ↓p1, ↓kv, ↓p2, ↓SD, SA, Int.ofNat_eq_natCast, Int.cast_ofNat_Int, Int.reduceBEq, Int.reduceAdd, Int.reduceNeg, Int.reduceNegSucc, Int.reduceLT, Int.reduceLE, Int.reduceMul, Int.reduceTMod, Int.reduceSub, Int.reduceBNe, Bool.not_true, Bool.not_false, decide_true, decide_false, ne_eq, not_false_eq_true, Int.reduceEq, reduceCtorEq]; rfl
  · rw [if_neg hp]
    have e59 := t59n l 40 h1 hp
    obtain ⟨h4, p1, p2, o4, w4⟩ := fin1 w1 c1 ty0
    have p1 : ∀ k : Hp → Res, stN h1 4 (.ptr h.nb 0) (.agg (avL (tyL ty0))) k = k h4 := p1
    exact .inl ⟨rfl, h4, by simp only [↓s32, ↓m1, ↓S40, ↓e59, nth_z, nth_1, ↓cK_S, ↓bldz, ↓p1, ↓p2, ↓cK_ty, ↓SD, SA, Int.ofNat_eq_natCast, Int.cast_ofNat_Int, Int.reduceBEq, Int.reduceAdd, Int.reduceNeg, Int.reduceNegSucc, Int.reduceLT, Int.reduceLE, Int.reduceMul, Int.reduceTMod, Int.reduceSub, Int.reduceBNe, Bool.not_true, Bool.not_false, decide_true, decide_false, ne_eq, not_false_eq_true, Int.reduceEq, reduceCtorEq]; rfl, fresh (o4.mono fun x _ e => by have : x = h.nb := e; omega), w4⟩
end Go.Proofs.YtnpfppddongbhaaDoor
end

section
namespace Go.Proofs.YtnpfppddongbhaaDoor
open Go Go.AM
set_option autoImplicit false
set_option linter.unusedSimpArgs false
set_option linter.unusedVariables false
theorem c41 (c : UInt8) : (((c.toNat : Int) == 41) : Bool) = decide (c = 41) := c8e c 41 (by decide)
theorem c40 (c : UInt8) : (((c.toNat : Int) == 40) : Bool) = decide (c = 40) := c8e c 40 (by decide)
theorem take1 (l : List UInt8) (i : Nat) (hi : i < l.length) (c : UInt8) : (l.drop i).take 1 = [c] ↔ l[i] = c := by
  rw [List.drop_eq_getElem_cons hi]
  have e : (l[i] :: l.drop (i + 1)).take 1 = [l[i]] := rfl
  rw [e]
  exact ⟨fun h => (List.cons.inj h).1, fun h => by rw [h]⟩
theorem loop33 {l : List UInt8} (hl : l.length ≤ 90000) (b N : Nat) (hbN : b < N) : ∀ (f m i : Nat) (ts0 : List Ty) (v : AV) (h : Hp), l.length - i < f → f < m → i ≤ l.length → (l.length - i) + ts0.length ≤ 100000 → N ≤ h.nb → Wf h → Cel h b ty0 → GrT h N v ts0 →
    (ml f (l.drop i) = none ∧ ∃ h', (lp L33n0 m [S l, .ptr b 0, v, .int 63 (i : Int)] h = .ret (T3 .nils ty0 false) h' ∧ To (fun x => b ≤ x) h h' ∧ Wf h') ∨ (∃ v', lp L33n0 m [S l, .ptr b 0, v, .int 63 (i : Int)] h = .exit 0 [S l, .ptr b 0, v', .int 63 (l.length : Int)] h' ∧ To (fun x => N ≤ x) h h' ∧ Wf h')) ∨
    (∃ p v' j h', ml f (l.drop i) = some p ∧ j < l.length ∧ p.2 = l.drop j ∧ lp L33n0 m [S l, .ptr b 0, v, .int 63 (i : Int)] h = .exit 0 [S l, .ptr b 0, v', .int 63 (j : Int)] h' ∧ GrT h' N v' (ts0 ++ p.1) ∧ To (fun x => N ≤ x) h h' ∧ Wf h') := by
  intro f
  induction f with
  | zero => intro m i ts0 v h hf; omega
  | succ f ih =>
    intro m i ts0 v h hf hm hi hlt hN hw hc hg
    obtain ⟨m, rfl⟩ : ∃ k, m = k + 1 := ⟨m - 1, by omega⟩
    have gs : ∀ a : List UInt8, gsel (.bool true) true (S a) = S a := fun a => rfl
    have gi : ∀ x : Int, gsel (.bool true) true (.int 63 x) = .int 63 x := fun x => rfl
    by_cases hin : i < l.length
    rotate_left
    · have q : ¬ (i : Int) < (l.length : Int) := by omega
      have hd : l.drop i = [] := List.drop_eq_nil_of_le (by omega)
      obtain rfl : i = l.length := by omega
      refine .inl ⟨?_, h, .inr ⟨v, lpx m (by simp only [↓L33n0, ↓lenS_S, q, ↓SD, SA, Int.ofNat_eq_natCast, Int.cast_ofNat_Int, Int.reduceBEq, Int.reduceAdd, Int.reduceNeg, Int.reduceNegSucc, Int.reduceLT, Int.reduceLE, Int.reduceMul, Int.reduceTMod, Int.reduceSub, Int.reduceBNe, Bool.not_true, Bool.not_false, decide_true, decide_false, ne_eq, not_false_eq_true, Int.reduceEq, reduceCtorEq]), To.refl _ _, hw⟩⟩
      rw [hd]; unfold ml
      rw [if_neg (by simp)]
      have : fr [] = none := rfl
      rw [this]
    have q : (i : Int) < (l.length : Int) := by omega
    have x0 := fun k => sIdx_S l 63 i hin k
    have f41 := c41 l[i]
    by_cases hp : l[i] = 41
    · rw [decide_eq_true hp] at f41
      refine .inr ⟨([], l.drop i), v, i, h, by unfold ml; rw [if_pos ((take1 l i hin 41).2 hp)], hin, rfl, lpx m (by simp only [↓L33n0, ↓lenS_S, q, ↓gs, ↓gi, ↓x0, f41, Bool.not_true, ↓SD, SA, Int.ofNat_eq_natCast, Int.cast_ofNat_Int, Int.reduceBEq, Int.reduceAdd, Int.reduceNeg, Int.reduceNegSucc, Int.reduceLT, Int.reduceLE, Int.reduceMul, Int.reduceTMod, Int.reduceSub, Int.reduceBNe, Bool.not_true, Bool.not_false, decide_true, decide_false, ne_eq, not_false_eq_true, Int.reduceEq, reduceCtorEq]), by rw [List.append_nil]; exact hg, To.refl _ _, hw⟩
    · rw [decide_eq_false hp] at f41
      have hp' : ¬ (l.drop i).take 1 = [41] := fun e => hp ((take1 l i hin 41).1 e)
      have hdl : (l.drop i).length = l.length - i := by simp
      have x1 := fun k => cutL_S l 63 i hi k
      obtain ⟨h1, e1, o1, w1⟩ := t56 (l := l.drop i) (by omega) hw
      obtain ⟨h2, m2, c2, o2, w2, n2⟩ := ty0_mk w1
      have m2' : ∀ k : AV → Hp → Res, mk h1 (.cons (.int 8 0) (.cons (.str 0 0) (.cons (.int 63 0) (.cons (.int 8 0) .nil)))) k = k (.ptr h1.nb 0) h2 := m2
      have bz : ∀ k : AV → Res, bld [(false, 1, (.int 8 0)), (false, 1, (.str 0 0)), (false, 1, (.int 63 0)), (false, 1, (.int 8 0))] k = k (avL (tyL ty0)) := fun k => rfl
      have nb1 := o1.nb
      have hcb := hc.lt
      have hne : ¬ b = h1.nb := by omega
      cases hf' : fr (l.drop i) with
      | none =>
        have ef : frV (fr (l.drop i)) = .tup (.cons (tyV ty0) (.cons (.int 63 0) .nil)) := by rw [hf']; rfl
        rw [ef] at e1
        obtain ⟨h3, s3, c3, o3, w3, n3⟩ := c2.st w2 ty0
        have s3 : ∀ k : Hp → Res, stN h2 4 (.ptr h1.nb 0) (tyV ty0) k = k h3 := s3
        have cb : Cel h3 b ty0 := ((hc.to o1 (fun f => f)).to o2 (fun f => f)).to o3 hne
        obtain ⟨h4, p1, p2, o4, w4⟩ := fin1 w3 cb ty0
        have p1 : ∀ k : Hp → Res, stN h3 4 (.ptr b 0) (.agg (avL (tyL ty0))) k = k h4 := p1
        refine .inl ⟨by unfold ml; rw [if_neg hp', hf'], h4, .inl ⟨?_, ((((o1.mono fun _ _ f => f.elim).trans (o2.mono fun _ _ f => f.elim)).trans (o3.mono fun x _ e => by have : x = h1.nb := e; omega)).trans (o4.mono fun x _ e => by have : x = b := e; omega)), w4⟩⟩
        exact lpr m (by simp only [↓L33n0, ↓lenS_S, q, ↓gs, ↓gi, ↓x0, f41, Bool.not_false, ↓x1, ↓e1, nth_z, nth_1, ↓cK_ty, ↓m2, ↓m2', ↓s3, ↓bldz, ↓bz, ↓p1, ↓p2, ↓SD, SA, Int.ofNat_eq_natCast, Int.cast_ofNat_Int, Int.reduceBEq, Int.reduceAdd, Int.reduceNeg, Int.reduceNegSucc, Int.reduceLT, Int.reduceLE, Int.reduceMul, Int.reduceTMod, Int.reduceSub, Int.reduceBNe, Bool.not_true, Bool.not_false, decide_true, decide_false, ne_eq, not_false_eq_true, Int.reduceEq, reduceCtorEq]; rfl)
      | some qq =>
        obtain ⟨t, n⟩ := qq
        obtain ⟨hn, hn2⟩ := fr_pos hf'
        have ef : frV (fr (l.drop i)) = .tup (.cons (tyV t) (.cons (.int 63 (n : Int)) .nil)) := by rw [hf']; rfl
        rw [ef] at e1
        have q0 : (((n : Nat) : Int) == 0) = false := beq_eq_false_iff_ne.2 (by omega)
        obtain ⟨h3, s3, c3, o3, w3, n3⟩ := c2.st w2 t
        have s3 : ∀ k : Hp → Res, stN h2 4 (.ptr h1.nb 0) (tyV t) k = k h3 := s3
        have l3 := fun k => c3.ld k
        have cb : Cel h3 b ty0 := ((hc.to o1 (fun f => f)).to o2 (fun f => f)).to o3 hne
        have oo : To (fun x => h.nb ≤ x) h h3 := ((o1.mono fun _ _ f => f.elim).trans (o2.mono fun _ _ f => f.elim)).trans (o3.mono fun x _ e => by have : x = h1.nb := e; omega)
        have g3 : GrT h3 N v ts0 := hg.to oo (fun x _ h2' e => by omega)
        obtain ⟨v', h4, h5, p4, p5, g5, o5, w5⟩ := apd_ty (N := N) (by omega) w3 g3 (by omega) t
        have i1 : wrapC 63 ((i : Int) + (n : Int)) = ((i + n : Nat) : Int) := by rw [w63_in _ (by omega) (by omega)]; omega
        have e : L33n0 [S l, .ptr b 0, v, .int 63 (i : Int)] h = .norm [S l, .ptr b 0, v', .int 63 ((i + n : Nat) : Int)] h5 := by
          simp only [↓L33n0, ↓lenS_S, q, ↓gs, ↓gi, ↓x0, f41, Bool.not_false, ↓x1, ↓e1, nth_z, nth_1, ↓cK_ty, ↓m2, ↓m2', ↓s3, q0, ↓l3, ↓bldT, ↓p4, ↓p5, i1, ↓SD, SA, Int.ofNat_eq_natCast, Int.cast_ofNat_Int, Int.reduceBEq, Int.reduceAdd, Int.reduceNeg, Int.reduceNegSucc, Int.reduceLT, Int.reduceLE, Int.reduceMul, Int.reduceTMod, Int.reduceSub, Int.reduceBNe, Bool.not_true, Bool.not_false, decide_true, decide_false, ne_eq, not_false_eq_true, Int.reduceEq, reduceCtorEq]
        have c5 : Cel h5 b ty0 := cb.to o5 (fun e => by omega)
        have oN : To (fun x => N ≤ x) h h5 := (oo.mono fun x _ e => by omega).trans o5
        have nb5 := oN.nb
        have hdd : (l.drop i).drop n = l.drop (i + n) := by rw [List.drop_drop]
        rcases ih m (i + n) (ts0 ++ [t]) v' h5 (by omega) (by omega) (by omega) (by rw [List.length_append, List.length_singleton]; omega) (by omega) w5 c5 g5 with ⟨r1, h6, ⟨r2, r3, r4⟩ | ⟨v'', r2, r3, r4⟩⟩ | ⟨p, v'', j, h6, r1, r1', r1'', r2, r3, r4, r5⟩
        · refine .inl ⟨?_, h6, .inl ⟨(lpn m e).trans r2, (oN.mono fun x _ e => by omega).trans r3, r4⟩⟩
          unfold ml; rw [if_neg hp', hf']
          simp only [hdd, r1]
        · refine .inl ⟨?_, h6, .inr ⟨v'', (lpn m e).trans r2, oN.trans r3, r4⟩⟩
          unfold ml; rw [if_neg hp', hf']
          simp only [hdd, r1]
        · refine .inr ⟨(t :: p.1, p.2), v'', j, h6, ?_, r1', r1'', (lpn m e).trans r2, by simpa using r3, oN.trans r4, r5⟩
          unfold ml; rw [if_neg hp', hf']
          simp only [hdd, r1]
theorem t33 {l : List UInt8} (hl : l.length ≤ 90000) {h : Hp} (hw : Wf h) : Mth (s33 [S l] h) h (md l) := by
  obtain ⟨h1, m1, c1, o1, w1, n1⟩ := ty0_mk hw
  have fresh : ∀ {g : Hp}, To (fun x => h.nb ≤ x) h1 g → To No h g := fun t => o1.fresh t (fun x e => e)
  have gs : ∀ a : List UInt8, gsel (.bool false) false (S a) = S a := fun a => rfl
  have bz : ∀ k : AV → Res, bld [(false, 1, (.int 8 0)), (false, 1, (.str 0 0)), (false, 1, (.int 63 0)), (false, 1, (.int 8 0))] k = k (avL (tyL ty0)) := fun k => rfl
  have bz2 : ∀ k : AV → Res, bld [(false, 1, (.int 8 0)), (false, 1, S []), (false, 1, (.int 63 0)), (false, 1, (.int 8 0))] k = k (avL (tyL ty0)) := fun k => rfl
  have bv : ∀ k : AV → Res, bld [(false, 1, (.int 8 86)), (false, 1, (.str 0 0)), (false, 1, (.int 63 0)), (false, 1, (.int 8 0))] k = k (avL (tyL tyVoid)) := fun k => rfl
  obtain ⟨hz, z1, z2, oz, wz⟩ := fin1 w1 c1 ty0
  have z1 : ∀ k : Hp → Res, stN h1 4 (.ptr h.nb 0) (.agg (avL (tyL ty0))) k = k hz := z1
  have tz : To No h hz := fresh (oz.mono fun x _ e => by have : x = h.nb := e; omega)
  unfold md
  by_cases he : l = []
  · subst he
    rw [if_neg (by simp)]
    have z : decide (([] : List UInt8) = []) = true := rfl
    exact .inl ⟨rfl, hz, by simp only [↓s33, ↓m1, ↓S_0, ↓eqS_S, z, ↓bldz, ↓bz, ↓bz2, ↓z1, ↓z2, ↓cK_ty, ↓SD, SA, Int.ofNat_eq_natCast, Int.cast_ofNat_Int, Int.reduceBEq, Int.reduceAdd, Int.reduceNeg, Int.reduceNegSucc, Int.reduceLT, Int.reduceLE, Int.reduceMul, Int.reduceTMod, Int.reduceSub, Int.reduceBNe, Bool.not_true, Bool.not_false, decide_true, decide_false, ne_eq, not_false_eq_true, Int.reduceEq, reduceCtorEq]; rfl, tz, wz⟩
  have z : decide (l = ([] : List UInt8)) = false := decide_eq_false he
  have hpos : 0 < l.length := List.length_pos_iff.2 he
  have x0 : ∀ k : AV → Res, sIdx (S l) (.int 63 0) k = k (.int 8 (l[0].toNat : Int)) := fun k => sIdx_S l 63 0 hpos k
  have f40 := c40 l[0]
  have ht := take1 l 0 hpos 40
  rw [List.drop_zero] at ht
  by_cases hp : l[0] = 40
  rotate_left
  · rw [if_neg (fun e => hp (ht.1 e))]
    rw [decide_eq_false hp] at f40
    exact .inl ⟨rfl, hz, by simp only [↓s33, ↓m1, ↓S_0, ↓eqS_S, z, ↓gs, ↓x0, f40, Bool.not_false, ↓bldz, ↓bz, ↓bz2, ↓z1, ↓z2, ↓cK_ty, ↓SD, SA, Int.ofNat_eq_natCast, Int.cast_ofNat_Int, Int.reduceBEq, Int.reduceAdd, Int.reduceNeg, Int.reduceNegSucc, Int.reduceLT, Int.reduceLE, Int.reduceMul, Int.reduceTMod, Int.reduceSub, Int.reduceBNe, Bool.not_true, Bool.not_false, decide_true, decide_false, ne_eq, not_false_eq_true, Int.reduceEq, reduceCtorEq]; rfl, tz, wz⟩
  rw [if_pos (ht.2 hp)]
  rw [decide_eq_true hp] at f40
  have hl1 : (l.drop 1).length ≤ l.length := by simp
  rcases loop33 hl h.nb (h.nb + 1) (by omega) (l.length + 1) most 1 [] .nils h1 (by omega) (by unfold most; omega) (by omega) (by simp; omega) (by omega) w1 c1 (.inl ⟨rfl, rfl⟩) with ⟨r1, h6, ⟨r2, r3, r4⟩ | ⟨v, r2, r3, r4⟩⟩ | ⟨p, v, j, h6, r1, r1', r1'', r2, r3, r4, r5⟩
  · rw [r1]
    have r2 : lp L33n0 most [S l, .ptr h.nb 0, .nils, .int 63 1] h1 = .ret (T3 .nils ty0 false) h6 := r2
    exact .inl ⟨rfl, h6, by simp only [↓s33, ↓m1, ↓S_0, ↓eqS_S, z, ↓gs, ↓x0, f40, Bool.not_true, ↓r2, ↓SD, SA, Int.ofNat_eq_natCast, Int.cast_ofNat_Int, Int.reduceBEq, Int.reduceAdd, Int.reduceNeg, Int.reduceNegSucc, Int.reduceLT, Int.reduceLE, Int.reduceMul, Int.reduceTMod, Int.reduceSub, Int.reduceBNe, Bool.not_true, Bool.not_false, decide_true, decide_false, ne_eq, not_false_eq_true, Int.reduceEq, reduceCtorEq], fresh r3, r4⟩
  · rw [r1]
    have r2 : lp L33n0 most [S l, .ptr h.nb 0, .nils, .int 63 1] h1 = .exit 0 [S l, .ptr h.nb 0, v, .int 63 (l.length : Int)] h6 := r2
    have c6 : Cel h6 h.nb ty0 := c1.to r3 (fun e => by omega)
    obtain ⟨h7, p1, p2, o7, w7⟩ := fin1 r4 c6 ty0
    have p1 : ∀ k : Hp → Res, stN h6 4 (.ptr h.nb 0) (.agg (avL (tyL ty0))) k = k h7 := p1
    have qq : ¬ (l.length : Int) < (l.length : Int) := by omega
    exact .inl ⟨rfl, h7, by simp only [↓s33, ↓m1, ↓S_0, ↓eqS_S, z, ↓gs, ↓x0, f40, Bool.not_true, ↓r2, ↓blk_x, ↓lenS_S, qq, Bool.not_false, ↓bldz, ↓bz, ↓bz2, ↓p1, ↓p2, ↓cK_ty, ↓SD, SA, Int.ofNat_eq_natCast, Int.cast_ofNat_Int, Int.reduceBEq, Int.reduceAdd, Int.reduceNeg, Int.reduceNegSucc, Int.reduceLT, Int.reduceLE, Int.reduceMul, Int.reduceTMod, Int.reduceSub, Int.reduceBNe, Bool.not_true, Bool.not_false, decide_true, decide_false, ne_eq, not_false_eq_true, Int.reduceEq, reduceCtorEq]; rfl, fresh ((r3.mono fun x _ e => by omega).trans (o7.mono fun x _ e => by have : x = h.nb := e; omega)), w7⟩
  · rw [r1]
    have r2 : lp L33n0 most [S l, .ptr h.nb 0, .nils, .int 63 1] h1 = .exit 0 [S l, .ptr h.nb 0, v, .int 63 (j : Int)] h6 := r2
    obtain ⟨i1, i2⟩ := ml_inv _ _ _ r1
    have c6 : Cel h6 h.nb ty0 := c1.to r4 (fun e => by omega)
    have g6 : GrT h6 (h.nb + 1) v p.1 := by simpa using r3
    have t16 : To (fun x => h.nb ≤ x) h1 h6 := r4.mono fun x _ e => by omega
    have kv := fun k => g6.cK k
    have qq : (j : Int) < (l.length : Int) := by omega
    have j1 : wrapC 63 ((j : Int) + 1) = ((j + 1 : Nat) : Int) := s1n _ (by omega)
    have x1 := fun k => cutL_S l 63 (j + 1) (by omega) k
    have hp2 : p.2 = 41 :: l.drop (j + 1) := by
      rw [r1''] at i1 ⊢
      have := (take1 l j r1' 41).1 i1
      rw [List.drop_eq_getElem_cons r1', this]
    have hp3 : p.2.drop 1 = l.drop (j + 1) := by rw [hp2]; rfl
    show Mth (s33 [S l] h) h (if p.2 = [41, 86] then some (p.1, tyVoid) else match fld (p.2.drop 1) with | none => none | some t => some (p.1, t))
    by_cases hv : l.drop (j + 1) = [86]
    · rw [if_pos (by rw [hp2, hv])]
      have zz : decide (l.drop (j + 1) = [86]) = true := decide_eq_true hv
      obtain ⟨h7, p1, p2, o7, w7⟩ := fin1 r5 c6 tyVoid
      have p1 : ∀ k : Hp → Res, stN h6 4 (.ptr h.nb 0) (.agg (avL (tyL tyVoid))) k = k h7 := p1
      have g7 : GrT h7 h.nb v p.1 := (g6.to o7 (fun x e _ e2 => by have : x = h.nb := e2; omega)).mono (by omega)
      refine .inr ⟨(p.1, tyVoid), v, h7, rfl, ?_, g7, fresh (t16.trans (o7.mono fun x _ e => by have : x = h.nb := e; omega)), w7⟩
      simp only [↓s33, ↓m1, ↓S_0, ↓eqS_S, z, ↓gs, ↓x0, f40, Bool.not_true, ↓r2, ↓blk_x, ↓lenS_S, qq, j1, ↓x1, ↓S_86, zz, ↓bldV, ↓bv, ↓p1, ↓kv, ↓p2, ↓cK_ty, ↓SD, SA, Int.ofNat_eq_natCast, Int.cast_ofNat_Int, Int.reduceBEq, Int.reduceAdd, Int.reduceNeg, Int.reduceNegSucc, Int.reduceLT, Int.reduceLE, Int.reduceMul, Int.reduceTMod, Int.reduceSub, Int.reduceBNe, Bool.not_true, Bool.not_false, decide_true, decide_false, ne_eq, not_false_eq_true, Int.reduceEq, reduceCtorEq]; rfl
    · rw [if_neg (by rw [hp2]; simpa using hv)]
      have zz : decide (l.drop (j + 1) = [86]) = false := decide_eq_false hv
      rw [hp3]
      obtain ⟨h7, e26, o7, w7⟩ := t27 (l := l.drop (j + 1)) (by simp; omega) r5
      obtain ⟨h8, m8, c8, o8, w8, n8⟩ := ty0_mk w7
      have m8' : ∀ k : AV → Hp → Res, mk h7 (.cons (.int 8 0) (.cons (.str 0 0) (.cons (.int 63 0) (.cons (.int 8 0) .nil)))) k = k (.ptr h7.nb 0) h8 := m8
      have m8'' : ∀ k : AV → Hp → Res, mk h7 (.cons (.int 8 0) (.cons (S []) (.cons (.int 63 0) (.cons (.int 8 0) .nil)))) k = k (.ptr h7.nb 0) h8 := m8
      have nb6 := t16.nb
      have nb7 := o7.nb
      obtain ⟨h9, s9, c9, o9, w9, n9⟩ := c8.st w8 ((fld (l.drop (j + 1))).getD ty0)
      have oo : To (fun x => h6.nb ≤ x) h6 h9 := ((o7.mono fun _ _ f => f.elim).trans (o8.mono fun _ _ f => f.elim)).trans (o9.mono fun x _ e => by have : x = h7.nb := e; omega)
      have cb : Cel h9 h.nb ty0 := c6.to oo (fun e => by omega)
      have g9 : GrT h9 (h.nb + 1) v p.1 := g6.to oo (fun x _ h2' e => by omega)
      have t19 : To (fun x => h.nb ≤ x) h1 h9 := t16.trans (oo.mono fun x _ e => by omega)
      have l9 := fun k => c9.ld k
      cases hf : fld (l.drop (j + 1)) with
      | none =>
        have ef : fldV (fld (l.drop (j + 1))) = .tup (.cons (tyV ty0) (.cons (.bool false) .nil)) := by rw [hf]; rfl
        rw [ef] at e26
        rw [hf] at s9
        have s9 : ∀ k : Hp → Res, stN h8 4 (.ptr h7.nb 0) (tyV ty0) k = k h9 := s9
        obtain ⟨h10, p1, p2, o10, w10⟩ := fin1 w9 cb ty0
        have p1 : ∀ k : Hp → Res, stN h9 4 (.ptr h.nb 0) (.agg (avL (tyL ty0))) k = k h10 := p1
        refine .inl ⟨rfl, h10, ?_, fresh (t19.trans (o10.mono fun x _ e => by have : x = h.nb := e; omega)), w10⟩
        simp only [↓s33, ↓m1, ↓S_0, ↓eqS_S, z, ↓gs, ↓x0, f40, Bool.not_true, ↓r2, ↓blk_x, ↓lenS_S, qq, j1, ↓x1, ↓S_86, zz, ↓e26, nth_z, nth_1, ↓cK_ty, ↓m8, ↓m8', ↓m8'', ↓s9, ↓bldz, ↓bz, ↓bz2, ↓p1, ↓p2, ↓SD, SA, Int.ofNat_eq_natCast, Int.cast_ofNat_Int, Int.reduceBEq, Int.reduceAdd, Int.reduceNeg, Int.reduceNegSucc, Int.reduceLT, Int.reduceLE, Int.reduceMul, Int.reduceTMod, Int.reduceSub, Int.reduceBNe, Bool.not_true, Bool.not_false, decide_true, decide_false, ne_eq, not_false_eq_true, Int.reduceEq, reduceCtorEq]; rfl
      | some t =>
        have ef : fldV (fld (l.drop (j + 1))) = .tup (.cons (tyV t) (.cons (.bool true) .nil)) := by rw [hf]; rfl
        rw [ef] at e26
        rw [hf] at s9 l9
        have s9 : ∀ k : Hp → Res, stN h8 4 (.ptr h7.nb 0) (tyV t) k = k h9 := s9
        have l9 : ∀ k : AV → Res, ldN h9 4 (.ptr h7.nb 0) k = k (tyV t) := l9
        obtain ⟨h10, p1, p2, o10, w10⟩ := fin1 w9 cb t
        have g10 : GrT h10 h.nb v p.1 := (g9.to o10 (fun x e _ e2 => by have : x = h.nb := e2; omega)).mono (by omega)
        refine .inr ⟨(p.1, t), v, h10, rfl, ?_, g10, fresh (t19.trans (o10.mono fun x _ e => by have : x = h.nb := e; omega)), w10⟩
        simp only [↓s33, ↓m1, ↓S_0, ↓eqS_S, z, ↓gs, ↓x0, f40, Bool.not_true, ↓r2, ↓blk_x, ↓lenS_S, qq, j1, ↓x1, ↓S_86, zz, ↓e26, nth_z, nth_1, ↓cK_ty, ↓m8, ↓m8', ↓m8'', ↓s9, ↓l9, ↓p1, ↓kv, ↓p2, ↓SD, SA, Int.ofNat_eq_natCast, Int.cast_ofNat_Int, Int.reduceBEq, Int.reduceAdd, Int.reduceNeg, Int.reduceNegSucc, Int.reduceLT, Int.reduceLE, Int.reduceMul, Int.reduceTMod, Int.reduceSub, Int.reduceBNe, Bool.not_true, Bool.not_false, decide_true, decide_false, ne_eq, not_false_eq_true, Int.reduceEq, reduceCtorEq]; rfl
end Go.Proofs.YtnpfppddongbhaaDoor
end

section
namespace Go.Proofs.YtnpfppddongbhaaDoor
open Go Go.AM
set_option autoImplicit false
set_option linter.unusedSimpArgs false
set_option linter.unusedVariables false
/-! ### words of arguments -/
def sumw : List Ty → Nat
  | [] => 0
  | t :: ts => wd t.k + sumw ts
theorem wd_le (c : UInt8) : wd c ≤ 2 := by unfold wd; split; exact Nat.le_refl _; split <;> omega
theorem loop34 {ts : List Ty} {v : AV} {N : Nat} (htl : ts.length ≤ 90000) : ∀ (f m i acc : Nat) (h : Hp), ts.length - i ≤ f → f < m → i ≤ ts.length → acc + 2 * (ts.length - i) ≤ 1000000 → Wf h → GrT h N v ts →
    ∃ h', lp L34n0 m [.int 63 (acc : Int), v, .int 63 (ts.length : Int), .int 63 (i : Int)] h = .exit 0 [.int 63 ((acc + sumw (ts.drop i) : Nat) : Int)] h' ∧ To No h h' ∧ Wf h' := by
  have stop : ∀ (m i acc : Nat) (h : Hp), ¬ i < ts.length → Wf h → ∃ h', lp L34n0 (m + 1) [.int 63 (acc : Int), v, .int 63 (ts.length : Int), .int 63 (i : Int)] h = .exit 0 [.int 63 ((acc + sumw (ts.drop i) : Nat) : Int)] h' ∧ To No h h' ∧ Wf h' := by
    intro m i acc h hi hw
    have q : ¬ (i : Int) < (ts.length : Int) := by omega
    rw [List.drop_eq_nil_of_le (by omega)]
    exact ⟨h, lpx m (by simp only [↓L34n0, q, ↓SD, SA, Int.ofNat_eq_natCast, Int.cast_ofNat_Int, Int.reduceBEq, Int.reduceAdd, Int.reduceNeg, Int.reduceNegSucc, Int.reduceLT, Int.reduceLE, Int.reduceMul, Int.reduceTMod, Int.reduceSub, Int.reduceBNe, Bool.not_true, Bool.not_false, decide_true, decide_false, ne_eq, not_false_eq_true, Int.reduceEq, reduceCtorEq]; rfl), To.refl _ _, hw⟩
  intro f
  induction f with
  | zero =>
    intro m i acc h hf hm hi ha hw hg
    obtain ⟨m, rfl⟩ : ∃ k, m = k + 1 := ⟨m - 1, by omega⟩
    exact stop m i acc h (by omega) hw
  | succ f ih =>
    intro m i acc h hf hm hi ha hw hg
    obtain ⟨m, rfl⟩ : ∃ k, m = k + 1 := ⟨m - 1, by omega⟩
    by_cases hin : i < ts.length
    · have q : (i : Int) < (ts.length : Int) := by omega
      have x1 := fun k => hg.ix i hin k
      obtain ⟨h1, m1, c1, o1, w1, n1⟩ := ty0_mk hw
      have m1' : ∀ k : AV → Hp → Res, mk h (.cons (.int 8 0) (.cons (.str 0 0) (.cons (.int 63 0) (.cons (.int 8 0) .nil)))) k = k (.ptr h.nb 0) h1 := m1
      obtain ⟨h2, p1, p2, o2, w2⟩ := fin1 w1 c1 ts[i]
      obtain ⟨h3, e3, o3, w3⟩ := t29 ts[i] w2
      have o : To No h h3 := (o1.fresh o2 (fun x e => by have : x = h.nb := e; omega)).trans o3
      have hwd := wd_le ts[i].k
      have a1 : wrapC 63 ((acc : Int) + (wd ts[i].k : Int)) = ((acc + wd ts[i].k : Nat) : Int) := by rw [w63_in _ (by omega) (by omega)]; omega
      have e : L34n0 [.int 63 (acc : Int), v, .int 63 (ts.length : Int), .int 63 (i : Int)] h = .norm [.int 63 ((acc + wd ts[i].k : Nat) : Int), v, .int 63 (ts.length : Int), .int 63 ((i + 1 : Nat) : Int)] h3 := by
        simp only [↓L34n0, q, ↓x1, ↓m1, ↓m1', ↓p1, ↓p2, ↓e3, a1, s1n i (by omega), ↓SD, SA, Int.ofNat_eq_natCast, Int.cast_ofNat_Int, Int.reduceBEq, Int.reduceAdd, Int.reduceNeg, Int.reduceNegSucc, Int.reduceLT, Int.reduceLE, Int.reduceMul, Int.reduceTMod, Int.reduceSub, Int.reduceBNe, Bool.not_true, Bool.not_false, decide_true, decide_false, ne_eq, not_false_eq_true, Int.reduceEq, reduceCtorEq]
      obtain ⟨h4, e4, o4, w4⟩ := ih m (i + 1) (acc + wd ts[i].k) h3 (by omega) (by omega) (by omega) (by omega) w3 (hg.to o (fun _ _ _ f => f))
      refine ⟨h4, (lpn m e).trans (e4.trans ?_), o.trans o4, w4⟩
      rw [List.drop_eq_getElem_cons hin, sumw, Nat.add_assoc]
    · exact stop m i acc h hin hw
theorem loop35 {ts : List Ty} {v : AV} {N : Nat} (htl : ts.length ≤ 90000) : ∀ (f m i acc : Nat) (h : Hp), ts.length - i ≤ f → f < m → i ≤ ts.length → acc + 2 * (ts.length - i) ≤ 1000000 → Wf h → GrT h N v ts →
    ∃ h', lp L35n0 m [v, .int 63 (acc : Int), .int 63 (i : Int)] h = .exit 0 [.int 63 ((acc + sumw (ts.drop i) : Nat) : Int)] h' ∧ To No h h' ∧ Wf h' := by
  have stop : ∀ (m i acc : Nat) (h : Hp), ¬ i < ts.length → Wf h → GrT h N v ts → ∃ h', lp L35n0 (m + 1) [v, .int 63 (acc : Int), .int 63 (i : Int)] h = .exit 0 [.int 63 ((acc + sumw (ts.drop i) : Nat) : Int)] h' ∧ To No h h' ∧ Wf h' := by
    intro m i acc h hi hw hg
    have q : ¬ (i : Int) < (ts.length : Int) := by omega
    have ln := fun k => hg.len k
    rw [List.drop_eq_nil_of_le (by omega)]
    exact ⟨h, lpx m (by simp only [↓L35n0, ↓ln, q, ↓SD, SA, Int.ofNat_eq_natCast, Int.cast_ofNat_Int, Int.reduceBEq, Int.reduceAdd, Int.reduceNeg, Int.reduceNegSucc, Int.reduceLT, Int.reduceLE, Int.reduceMul, Int.reduceTMod, Int.reduceSub, Int.reduceBNe, Bool.not_true, Bool.not_false, decide_true, decide_false, ne_eq, not_false_eq_true, Int.reduceEq, reduceCtorEq]; rfl), To.refl _ _, hw⟩
  intro f
  induction f with
  | zero =>
    intro m i acc h hf hm hi ha hw hg
    obtain ⟨m, rfl⟩ : ∃ k, m = k + 1 := ⟨m - 1, by omega⟩
    exact stop m i acc h (by omega) hw hg
  | succ f ih =>
    intro m i acc h hf hm hi ha hw hg
    obtain ⟨m, rfl⟩ : ∃ k, m = k + 1 := ⟨m - 1, by omega⟩
    by_cases hin : i < ts.length
    · have q : (i : Int) < (ts.length : Int) := by omega
      have ln := fun k => hg.len k
      have x1 := fun k => hg.ix i hin k
      obtain ⟨h3, e3, o3, w3⟩ := t30 ts[i] hw
      have hwd := wd_le ts[i].k
      have a1 : wrapC 63 ((acc : Int) + (wd ts[i].k : Int)) = ((acc + wd ts[i].k : Nat) : Int) := by rw [w63_in _ (by omega) (by omega)]; omega
      have e : L35n0 [v, .int 63 (acc : Int), .int 63 (i : Int)] h = .norm [v, .int 63 ((acc + wd ts[i].k : Nat) : Int), .int 63 ((i + 1 : Nat) : Int)] h3 := by
        simp only [↓L35n0, ↓ln, q, ↓x1, ↓e3, a1, s1n i (by omega), ↓SD, SA, Int.ofNat_eq_natCast, Int.cast_ofNat_Int, Int.reduceBEq, Int.reduceAdd, Int.reduceNeg, Int.reduceNegSucc, Int.reduceLT, Int.reduceLE, Int.reduceMul, Int.reduceTMod, Int.reduceSub, Int.reduceBNe, Bool.not_true, Bool.not_false, decide_true, decide_false, ne_eq, not_false_eq_true, Int.reduceEq, reduceCtorEq]
      obtain ⟨h4, e4, o4, w4⟩ := ih m (i + 1) (acc + wd ts[i].k) h3 (by omega) (by omega) (by omega) (by omega) w3 (hg.to o3 (fun _ _ _ f => f))
      refine ⟨h4, (lpn m e).trans (e4.trans ?_), o3.trans o4, w4⟩
      rw [List.drop_eq_getElem_cons hin, sumw, Nat.add_assoc]
    · exact stop m i acc h hin hw hg
theorem md_len {l : List UInt8} {p : List Ty × Ty} (h : md l = some p) : p.1.length ≤ l.length := by
  unfold md at h
  split at h
  · cases hm : ml (l.length + 1) (l.drop 1) with
    | none => rw [hm] at h; cases h
    | some q =>
      rw [hm] at h
      simp only at h
      obtain ⟨-, h2⟩ := ml_inv _ _ _ hm
      simp at h2
      split at h
      · cases h; show q.1.length ≤ _; omega
      · cases hf : fld (q.2.drop 1) with
        | none => rw [hf] at h; cases h
        | some t => rw [hf] at h; cases h; show q.1.length ≤ _; omega
  · cases h
noncomputable def argZ (l : List UInt8) : Int := match md l with
  | none => -1
  | some p => (sumw p.1 : Int)
theorem t34 {l : List UInt8} (hl : l.length ≤ 90000) {h : Hp} (hw : Wf h) : ∃ h', s34 [S l] h = .ret (.int 63 (argZ l)) h' ∧ To No h h' ∧ Wf h' := by
  unfold argZ
  rcases t32 hl hw with ⟨em, h1, e1, o1, w1⟩ | ⟨p, v, h1, em, e1, g1, o1, w1⟩
  · obtain ⟨h2, m2, c2, o2, w2, n2⟩ := ty0_mk w1
    have m2' : ∀ k : AV → Hp → Res, mk h1 (.cons (.int 8 0) (.cons (.str 0 0) (.cons (.int 63 0) (.cons (.int 8 0) .nil)))) k = k (.ptr h1.nb 0) h2 := m2
    obtain ⟨h3, p1, p2, o3, w3⟩ := fin1 w2 c2 ty0
    rw [em]
    have e1 : s32 [S l] h = .ret (.tup (.cons .nils (.cons (tyV ty0) (.cons (.bool false) .nil)))) h1 := e1
    have kn : ∀ k : AV → Res, cK .nils k = k .nils := fun k => rfl
    exact ⟨h3, by simp only [↓s34, ↓e1, nth_z, nth_1, nth_2, ↓kn, ↓cK_ty, ↓m2, ↓m2', ↓p1, ↓SD, SA, Int.ofNat_eq_natCast, Int.cast_ofNat_Int, Int.reduceBEq, Int.reduceAdd, Int.reduceNeg, Int.reduceNegSucc, Int.reduceLT, Int.reduceLE, Int.reduceMul, Int.reduceTMod, Int.reduceSub, Int.reduceBNe, Bool.not_true, Bool.not_false, decide_true, decide_false, ne_eq, not_false_eq_true, Int.reduceEq, reduceCtorEq], o1.trans (o2.fresh o3 (fun x e => by have : x = h1.nb := e; omega)), w3⟩
  · obtain ⟨h2, m2, c2, o2, w2, n2⟩ := ty0_mk w1
    have m2' : ∀ k : AV → Hp → Res, mk h1 (.cons (.int 8 0) (.cons (.str 0 0) (.cons (.int 63 0) (.cons (.int 8 0) .nil)))) k = k (.ptr h1.nb 0) h2 := m2
    obtain ⟨h3, p1, p2, o3, w3⟩ := fin1 w2 c2 p.2
    have o23 : To No h1 h3 := o2.fresh o3 (fun x e => by have : x = h1.nb := e; omega)
    have g3 := g1.to o23 (fun _ _ _ f => f)
    have hlen := md_len em
    rw [em]
    have e1 : s32 [S l] h = .ret (.tup (.cons v (.cons (tyV p.2) (.cons (.bool true) .nil)))) h1 := e1
    have kv := fun k => g1.cK k
    have ln := fun k => g3.len k
    obtain ⟨h4, e4, o4, w4⟩ := loop34 (by omega) p.1.length most 0 0 h3 (by omega) (by unfold most; omega) (by omega) (by omega) w3 g3
    rw [List.drop_zero, Nat.zero_add] at e4
    have e4 : lp L34n0 most [.int 63 0, v, .int 63 (p.1.length : Int), .int 63 0] h3 = .exit 0 [.int 63 (sumw p.1 : Int)] h4 := e4
    exact ⟨h4, by simp only [↓s34, ↓e1, nth_z, nth_1, nth_2, ↓kv, ↓cK_ty, ↓m2, ↓m2', ↓p1, ↓ln, ↓e4, ↓blk_x, ↓SD, SA, Int.ofNat_eq_natCast, Int.cast_ofNat_Int, Int.reduceBEq, Int.reduceAdd, Int.reduceNeg, Int.reduceNegSucc, Int.reduceLT, Int.reduceLE, Int.reduceMul, Int.reduceTMod, Int.reduceSub, Int.reduceBNe, Bool.not_true, Bool.not_false, decide_true, decide_false, ne_eq, not_false_eq_true, Int.reduceEq, reduceCtorEq], (o1.trans o23).trans o4, w4⟩
theorem t35 {l : List UInt8} (hl : l.length ≤ 90000) {h : Hp} (hw : Wf h) : ∃ h', s35 [S l] h = .ret (.int 63 (argZ l)) h' ∧ To No h h' ∧ Wf h' := by
  unfold argZ
  rcases t33 hl hw with ⟨em, h1, e1, o1, w1⟩ | ⟨p, v, h1, em, e1, g1, o1, w1⟩
  · obtain ⟨h2, m2, c2, o2, w2, n2⟩ := ty0_mk w1
    have m2' : ∀ k : AV → Hp → Res, mk h1 (.cons (.int 8 0) (.cons (.str 0 0) (.cons (.int 63 0) (.cons (.int 8 0) .nil)))) k = k (.ptr h1.nb 0) h2 := m2
    obtain ⟨h3, p1, p2, o3, w3⟩ := fin1 w2 c2 ty0
    rw [em]
    have e1 : s33 [S l] h = .ret (.tup (.cons .nils (.cons (tyV ty0) (.cons (.bool false) .nil)))) h1 := e1
    have kn : ∀ k : AV → Res, cK .nils k = k .nils := fun k => rfl
    exact ⟨h3, by simp only [↓s35, ↓e1, nth_z, nth_1, nth_2, ↓kn, ↓cK_ty, ↓m2, ↓m2', ↓p1, ↓SD, SA, Int.ofNat_eq_natCast, Int.cast_ofNat_Int, Int.reduceBEq, Int.reduceAdd, Int.reduceNeg, Int.reduceNegSucc, Int.reduceLT, Int.reduceLE, Int.reduceMul, Int.reduceTMod, Int.reduceSub, Int.reduceBNe, Bool.not_true, Bool.not_false, decide_true, decide_false, ne_eq, not_false_eq_true, Int.reduceEq, reduceCtorEq], o1.trans (o2.fresh o3 (fun x e => by have : x = h1.nb := e; omega)), w3⟩
  · obtain ⟨h2, m2, c2, o2, w2, n2⟩ := ty0_mk w1
    have m2' : ∀ k : AV → Hp → Res, mk h1 (.cons (.int 8 0) (.cons (.str 0 0) (.cons (.int 63 0) (.cons (.int 8 0) .nil)))) k = k (.ptr h1.nb 0) h2 := m2
    obtain ⟨h3, p1, p2, o3, w3⟩ := fin1 w2 c2 p.2
    have o23 : To No h1 h3 := o2.fresh o3 (fun x e => by have : x = h1.nb := e; omega)
    have g3 := g1.to o23 (fun _ _ _ f => f)
    have hlen := md_len em
    rw [em]
    have e1 : s33 [S l] h = .ret (.tup (.cons v (.cons (tyV p.2) (.cons (.bool true) .nil)))) h1 := e1
    have kv := fun k => g1.cK k
    obtain ⟨h4, e4, o4, w4⟩ := loop35 (by omega) p.1.length most 0 0 h3 (by omega) (by unfold most; omega) (by omega) (by omega) w3 g3
    rw [List.drop_zero, Nat.zero_add] at e4
    have e4 : lp L35n0 most [v, .int 63 0, .int 63 0] h3 = .exit 0 [.int 63 (sumw p.1 : Int)] h4 := e4
    exact ⟨h4, by simp only [↓s35, ↓e1, nth_z, nth_1, nth_2, ↓kv, ↓cK_ty, ↓m2, ↓m2', ↓p1, ↓e4, ↓blk_x, ↓SD, SA, Int.ofNat_eq_natCast, Int.cast_ofNat_Int, Int.reduceBEq, Int.reduceAdd, Int.reduceNeg, Int.reduceNegSucc, Int.reduceLT, Int.reduceLE, Int.reduceMul, Int.reduceTMod, Int.reduceSub, Int.reduceBNe, Bool.not_true, Bool.not_false, decide_true, decide_false, ne_eq, not_false_eq_true, Int.reduceEq, reduceCtorEq], (o1.trans o23).trans o4, w4⟩
/-! ### DescrMethod -/
theorem loop7 {ts : List Ty} {v w : AV} {N M : Nat} (htl : ts.length ≤ 90000) (v0 : AV) : ∀ (f m i : Nat) (h : Hp), ts.length - i ≤ f → f < m → i ≤ ts.length → Wf h → GrT h N v ts → GrT h M w ts →
    ∃ h', lp L7n0 m [v0, v, w, .int 63 (i : Int)] h = .exit 0 [v0] h' ∧ To No h h' ∧ Wf h' := by
  have stop : ∀ (m i : Nat) (h : Hp), ¬ i < ts.length → Wf h → GrT h N v ts → ∃ h', lp L7n0 (m + 1) [v0, v, w, .int 63 (i : Int)] h = .exit 0 [v0] h' ∧ To No h h' ∧ Wf h' := by
    intro m i h hi hw hg
    have q : ¬ (i : Int) < (ts.length : Int) := by omega
    have ln := fun k => hg.len k
    exact ⟨h, lpx m (by simp only [↓L7n0, ↓ln, q, ↓SD, SA, Int.ofNat_eq_natCast, Int.cast_ofNat_Int, Int.reduceBEq, Int.reduceAdd, Int.reduceNeg, Int.reduceNegSucc, Int.reduceLT, Int.reduceLE, Int.reduceMul, Int.reduceTMod, Int.reduceSub, Int.reduceBNe, Bool.not_true, Bool.not_false, decide_true, decide_false, ne_eq, not_false_eq_true, Int.reduceEq, reduceCtorEq]), To.refl _ _, hw⟩
  intro f
  induction f with
  | zero =>
    intro m i h hf hm hi hw hg hg2
    obtain ⟨m, rfl⟩ : ∃ k, m = k + 1 := ⟨m - 1, by omega⟩
    exact stop m i h (by omega) hw hg
  | succ f ih =>
    intro m i h hf hm hi hw hg hg2
    obtain ⟨m, rfl⟩ : ∃ k, m = k + 1 := ⟨m - 1, by omega⟩
    by_cases hin : i < ts.length
    · have q : (i : Int) < (ts.length : Int) := by omega
      have ln := fun k => hg.len k
      have x1 := fun k => hg.ix i hin k
      have x2 := fun k => hg2.ix i hin k
      obtain ⟨h3, e3, o3, w3⟩ := t28 ts[i] hw
      have e : L7n0 [v0, v, w, .int 63 (i : Int)] h = .norm [v0, v, w, .int 63 ((i + 1 : Nat) : Int)] h3 := by
        simp only [↓L7n0, ↓ln, q, ↓x1, ↓x2, ↓e3, s1n i (by omega), ↓SD, SA, Int.ofNat_eq_natCast, Int.cast_ofNat_Int, Int.reduceBEq, Int.reduceAdd, Int.reduceNeg, Int.reduceNegSucc, Int.reduceLT, Int.reduceLE, Int.reduceMul, Int.reduceTMod, Int.reduceSub, Int.reduceBNe, Bool.not_true, Bool.not_false, decide_true, decide_false, ne_eq, not_false_eq_true, Int.reduceEq, reduceCtorEq]
      obtain ⟨h4, e4, o4, w4⟩ := ih m (i + 1) h3 (by omega) (by omega) (by omega) w3 (hg.to o3 (fun _ _ _ f => f)) (hg2.to o3 (fun _ _ _ f => f))
      exact ⟨h4, (lpn m e).trans e4, o3.trans o4, w4⟩
    · exact stop m i h hin hw hg
theorem lawMethod (x : List UInt8) : ∃ h', s7 [S x] H0 = .ret (.bool true) h' := by
  obtain ⟨h1, e1, w1⟩ := t25
  have hl : (x.take 600).length ≤ 600 := by simp; omega
  have c1 : s14 [S x, .int 63 600] h1 = .ret (S (x.take 600)) h1 := t14 (l := x) 600 h1
  generalize x.take 600 = l at hl c1
  have gs : ∀ a : List UInt8, gsel (.bool false) false (S a) = S a := fun a => rfl
  obtain ⟨v, ts, t, ok, h2, e2, g2, o2, w2, hb, htl⟩ : ∃ (v : AV) (ts : List Ty) (t : Ty) (ok : Bool) (h2 : Hp), s32 [S l] h1 = .ret (.tup (.cons v (.cons (tyV t) (.cons (.bool ok) .nil)))) h2 ∧ GrT h2 h1.nb v ts ∧ To No h1 h2 ∧ Wf h2 ∧ (ts, t, ok) = (match md l with | none => ([], ty0, false) | some p => (p.1, p.2, true)) ∧ ts.length ≤ 90000 := by
    rcases t32 (l := l) (by omega) w1 with ⟨em, h1', e1, o1, w1⟩ | ⟨p, v, h1', em, e1, g1, o1, w1⟩
    · exact ⟨.nils, [], ty0, false, h1', e1, .inl ⟨rfl, rfl⟩, o1, w1, by rw [em], by simp⟩
    · have hlen := md_len em
      exact ⟨v, p.1, p.2, true, h1', e1, g1, o1, w1, by rw [em], by omega⟩
  obtain ⟨h3, m3, k3, o3, w3, n3⟩ := ty0_mk w2
  have m3' : ∀ k : AV → Hp → Res, mk h2 (.cons (.int 8 0) (.cons (.str 0 0) (.cons (.int 63 0) (.cons (.int 8 0) .nil)))) k = k (.ptr h2.nb 0) h3 := m3
  obtain ⟨h4, s4', k4, o4, w4, n4⟩ := k3.st w3 t
  have s4' : ∀ k : Hp → Res, stN h3 4 (.ptr h2.nb 0) (tyV t) k = k h4 := s4'
  obtain ⟨w, h5, e5, g5, o5, w5⟩ : ∃ (w : AV) (h5 : Hp), s33 [S l] h4 = .ret (.tup (.cons w (.cons (tyV t) (.cons (.bool ok) .nil)))) h5 ∧ GrT h5 h4.nb w ts ∧ To No h4 h5 ∧ Wf h5 := by
    rcases t33 (l := l) (by omega) w4 with ⟨em, h1', e1, o1, w1⟩ | ⟨p, v, h1', em, e1, g1, o1, w1⟩
    · rw [em] at hb; cases hb
      exact ⟨.nils, h1', e1, .inl ⟨rfl, rfl⟩, o1, w1⟩
    · rw [em] at hb; cases hb
      exact ⟨v, h1', e1, g1, o1, w1⟩
  obtain ⟨h6, m6, k6, o6, w6, n6⟩ := ty0_mk w5
  have m6' : ∀ k : AV → Hp → Res, mk h5 (.cons (.int 8 0) (.cons (.str 0 0) (.cons (.int 63 0) (.cons (.int 8 0) .nil)))) k = k (.ptr h5.nb 0) h6 := m6
  obtain ⟨h7, s7', k7, o7, w7, n7⟩ := k6.st w6 t
  have s7' : ∀ k : Hp → Res, stN h6 4 (.ptr h5.nb 0) (tyV t) k = k h7 := s7'
  have nb2 := o2.nb
  have nb5 := o5.nb
  have k47 : Cel h7 h2.nb t := ((k4.to o5 (fun f => f)).to o6 (fun f => f)).to o7 (fun f => by have : h2.nb = h5.nb := f; omega)
  have o24 : To (fun y => h2.nb ≤ y) h2 h4 := (o3.mono fun _ _ f => f.elim).trans (o4.mono fun y _ e => by have : y = h2.nb := e; omega)
  have o57 : To (fun y => h5.nb ≤ y) h5 h7 := (o6.mono fun _ _ f => f.elim).trans (o7.mono fun y _ e => by have : y = h5.nb := e; omega)
  have v7 : GrT h7 h1.nb v ts := ((g2.to o24 (fun x _ h e => by omega)).to o5 (fun _ _ _ f => f)).to o57 (fun x _ h e => by omega)
  have u7 : GrT h7 h4.nb w ts := g5.to o57 (fun x _ h e => by omega)
  have a1 := fun k => k47.ld k
  have a2 := fun k => k7.ld k
  have kv := fun k => g2.cK k
  have kw := fun k => g5.cK k
  have lv := fun k => v7.len k
  have lw := fun k => u7.len k
  obtain ⟨h8, e8, o8, w8⟩ := t28 t w7
  obtain ⟨h9, e9, o9, w9⟩ := t34 (l := l) (by omega) w8
  obtain ⟨h10, e10, o10, w10⟩ := t35 (l := l) (by omega) w9
  have o810 : To No h7 h10 := (o8.trans o9).trans o10
  obtain ⟨h11, e11, o11, w11⟩ := loop7 htl (.bool true) ts.length most 0 h10 (by omega) (by unfold most; omega) (by omega) w10 (v7.to o810 (fun _ _ _ f => f)) (u7.to o810 (fun _ _ _ f => f))
  have e11 : lp L7n0 most [.bool true, v, w, .int 63 0] h10 = .exit 0 [.bool true] h11 := e11
  have gv : gsel (.bool false) false v = v := rfl
  have gw : gsel (.bool false) false w = w := rfl
  exact ⟨h11, by simp only [↓s7, ↓e1, ↓c1, ↓e2, nth_z, nth_1, nth_2, ↓kv, ↓cK_ty, ↓m3, ↓m3', ↓s4', ↓e5, ↓kw, ↓m6, ↓m6', ↓s7', beq_self_eq_true, Bool.not_true, ↓gv, ↓gw, ↓lv, ↓lw, ↓a1, ↓a2, ↓e8, ↓gs, ↓e9, ↓e10, ↓e11, ↓blk_x, ↓SD, SA, Int.ofNat_eq_natCast, Int.cast_ofNat_Int, Int.reduceBEq, Int.reduceAdd, Int.reduceNeg, Int.reduceNegSucc, Int.reduceLT, Int.reduceLE, Int.reduceMul, Int.reduceTMod, Int.reduceSub, Int.reduceBNe, Bool.not_true, Bool.not_false, decide_true, decide_false, ne_eq, not_false_eq_true, Int.reduceEq, reduceCtorEq]⟩
end Go.Proofs.YtnpfppddongbhaaDoor
end

section
namespace Go.Proofs.YtnpfppddongbhaaDoor
open Go Go.AM
set_option autoImplicit false
set_option linter.unusedSimpArgs false
set_option linter.unusedVariables false
/-! ### DescrDims -/
theorem mkS_sl {h : Hp} (hw : Wf h) (m : List AV) (hm : ∀ x ∈ m, one x = true) : ∃ h', (∀ k : AV → Hp → Res, mkS h 1 m.length (avL m) k = k (.sl h.nb 0 m.length 1 (some m.length)) h') ∧ Sl h' (At h.nb) (.sl h.nb 0 m.length 1 (some m.length)) m ∧ To No h h' ∧ Wf h' := by
  obtain ⟨t, e1, e2⟩ := lay_list m .e 0 hm
  obtain ⟨o1, o2⟩ := nw_own hw (0 + m.length) .nil t
  refine ⟨nw h (0 + m.length) .nil t, fun k => ?_, ⟨hm, .inr (.inr ⟨h.nb, 0, some m.length, _, rfl, rfl, o1.rd, fun _ => rfl, (fun c e => by cases e; exact Nat.le_refl _), fun i hi => ?_⟩)⟩, o2, o2.wf hw⟩
  · have e : mkS h 1 m.length (avL m) k = lay (avL m) .e 0 fun t j => ifB (Nat.beq j (Nat.mul m.length 1)) (k (.sl h.nb 0 m.length 1 (some m.length)) (nw h j .nil t)) .fail := rfl
    have e3 : Nat.beq (0 + m.length) (Nat.mul m.length 1) = true := by rw [beq_iff]; show 0 + m.length = m.length * 1; omega
    rw [e, e1, e3, ifB_t]
  · rw [at_in _ (show 0 + i < 0 + m.length by omega)]
    simp only [e2 (0 + i)]
    rw [dif_pos ⟨by omega, by omega⟩]
    simp
def el : Nat → List UInt8
  | 0 => [73]
  | 1 => [74]
  | 2 => [76, 120, 59]
  | 3 => [70]
  | _ => [86]
theorem lead_n (n : Nat) (c : UInt8) (r : List UInt8) (hc : c ≠ 91) : lead (List.replicate n 91 ++ c :: r) = n := by
  induction n with
  | zero => rw [List.replicate_zero, List.nil_append, lead, if_neg hc]
  | succ n ih => rw [List.replicate_succ, List.cons_append, lead, if_pos rfl, ih]
theorem fr_n (n : Nat) (c : UInt8) (r : List UInt8) (hc : c ≠ 91) : fr (List.replicate n 91 ++ c :: r) = if 255 < n then none else
    if c ∈ prims then some (mkT c [] n, n + 1)
    else if c = 76 then match upto r with
      | none => none
      | some nm => if cls nm = true then some (mkT 76 nm n, n + 1 + (nm.length + 1)) else none
    else none := by
  have hlen : (List.replicate n (91 : UInt8)).length = n := by simp
  have hd : (List.replicate n 91 ++ c :: r).drop (n + 1) = r := by
    rw [show List.replicate n 91 ++ c :: r = (List.replicate n 91 ++ [c]) ++ r by simp, show n + 1 = (List.replicate n (91 : UInt8) ++ [c]).length by simp, List.drop_left]
  have hg : (List.replicate n 91 ++ c :: r)[n]? = some c := by
    rw [List.getElem?_append_right (by omega), hlen, Nat.sub_self]; rfl
  unfold fr
  rw [lead_n n c r hc, hg, hd]
  try rfl
theorem mkT_d (c : UInt8) (nm : List UInt8) (n : Nat) : (mkT c nm n).d = n := by
  unfold mkT
  split
  · rfl
  · show 0 = n; omega
theorem fld_dims (n k : Nat) (hk : k < 5) : (fld (List.replicate n 91 ++ el k)).isSome = (decide (n ≤ 255) && decide (k < 3)) ∧ ∀ t, fld (List.replicate n 91 ++ el k) = some t → t.d = n := by
  have hx : cls [120] = true := by rw [Gd.one.cls]; decide
  by_cases h255 : 255 < n
  · have hn : ∀ (c : UInt8) (r : List UInt8), c ≠ 91 → fld (List.replicate n 91 ++ c :: r) = none := fun c r hc => by
      unfold fld; rw [fr_n n c r hc, if_pos h255]
    have : fld (List.replicate n 91 ++ el k) = none := by
      match k, hk with
      | 0, _ => exact hn _ _ (by decide)
      | 1, _ => exact hn _ _ (by decide)
      | 2, _ => exact hn _ _ (by decide)
      | 3, _ => exact hn _ _ (by decide)
      | 4, _ => exact hn _ _ (by decide)
    rw [this, decide_eq_false (show ¬ n ≤ 255 by omega)]
    exact ⟨rfl, fun t h => by cases h⟩
  · have hle : n ≤ 255 := by omega
    rw [decide_eq_true hle, Bool.true_and]
    have hp : ∀ (c : UInt8), c ∈ prims → c ≠ 91 → fld (List.replicate n 91 ++ [c]) = some (mkT c [] n) := fun c h1 h2 => by
      unfold fld; rw [fr_n n c [] h2, if_neg h255, if_pos h1]
      show (if n + 1 = (List.replicate n 91 ++ [c]).length then some (mkT c [] n) else none) = _
      rw [if_pos (by simp)]
    have hz : ∀ (c : UInt8), c ∉ prims → c ≠ 76 → c ≠ 91 → fld (List.replicate n 91 ++ [c]) = none := fun c h1 h2 h3 => by
      unfold fld; rw [fr_n n c [] h3, if_neg h255, if_neg h1, if_neg h2]
    match k, hk with
    | 0, _ =>
      have := hp 73 (by decide) (by decide)
      rw [show el 0 = [73] from rfl, this]; exact ⟨rfl, fun t h => by cases h; exact mkT_d _ _ _⟩
    | 1, _ =>
      have := hp 74 (by decide) (by decide)
      rw [show el 1 = [74] from rfl, this]; exact ⟨rfl, fun t h => by cases h; exact mkT_d _ _ _⟩
    | 2, _ =>
      have : fld (List.replicate n 91 ++ [76, 120, 59]) = some (mkT 76 [120] n) := by
        have hu : upto [120, 59] = some [120] := by decide
        have : fr (List.replicate n 91 ++ [76, 120, 59]) = some (mkT 76 [120] n, n + 1 + (1 + 1)) := by
          rw [fr_n n 76 [120, 59] (by decide), if_neg h255, if_neg (by decide), if_pos rfl, hu]
          show (if cls [120] = true then _ else none) = _
          rw [if_pos hx]; rfl
        unfold fld; rw [this]
        show (if n + 1 + (1 + 1) = (List.replicate n 91 ++ ([76, 120, 59] : List UInt8)).length then some (mkT 76 [120] n) else none) = _
        rw [if_pos (by simp)]
      rw [show el 2 = [76, 120, 59] from rfl, this]; exact ⟨rfl, fun t h => by cases h; exact mkT_d _ _ _⟩
    | 3, _ =>
      have := hz 70 (by decide) (by decide) (by decide)
      rw [show el 3 = [70] from rfl, this]; exact ⟨rfl, fun t h => by cases h⟩
    | 4, _ =>
      have := hz 86 (by decide) (by decide) (by decide)
      rw [show el 4 = [86] from rfl, this]; exact ⟨rfl, fun t h => by cases h⟩
theorem loop8 (n : Nat) (hn : n ≤ 300) (v2 v4 : AV) (h : Hp) : ∀ (f m i : Nat), n - i ≤ f → f < m → i ≤ n →
    lp L8n0 m [.int 63 (n : Int), v2, v4, S (List.replicate i 91), .int 63 (i : Int)] h = .exit 0 [.int 63 (n : Int), v2, v4, S (List.replicate n 91)] h := by
  intro f
  induction f with
  | zero =>
    intro m i hf hm hi
    obtain ⟨m, rfl⟩ : ∃ k, m = k + 1 := ⟨m - 1, by omega⟩
    obtain rfl : i = n := by omega
    have q : ¬ (i : Int) < (i : Int) := by omega
    exact lpx m (by simp only [↓L8n0, q, ↓SD, SA, Int.ofNat_eq_natCast, Int.cast_ofNat_Int, Int.reduceBEq, Int.reduceAdd, Int.reduceNeg, Int.reduceNegSucc, Int.reduceLT, Int.reduceLE, Int.reduceMul, Int.reduceTMod, Int.reduceSub, Int.reduceBNe, Bool.not_true, Bool.not_false, decide_true, decide_false, ne_eq, not_false_eq_true, Int.reduceEq, reduceCtorEq])
  | succ f ih =>
    intro m i hf hm hi
    obtain ⟨m, rfl⟩ : ∃ k, m = k + 1 := ⟨m - 1, by omega⟩
    by_cases hin : i < n
    · have q : (i : Int) < (n : Int) := by omega
      have k1 : ∀ k : AV → Res, sCat (S (List.replicate i 91)) (S [91]) k = k (S (List.replicate (i + 1) 91)) := fun k => by
        rw [cat_S _ _ (by simp; omega), List.replicate_succ']
      have e : L8n0 [.int 63 (n : Int), v2, v4, S (List.replicate i 91), .int 63 (i : Int)] h = .norm [.int 63 (n : Int), v2, v4, S (List.replicate (i + 1) 91), .int 63 ((i + 1 : Nat) : Int)] h := by
        simp only [↓L8n0, q, ↓S_91, ↓k1, s1n i (by omega), ↓SD, SA, Int.ofNat_eq_natCast, Int.cast_ofNat_Int, Int.reduceBEq, Int.reduceAdd, Int.reduceNeg, Int.reduceNegSucc, Int.reduceLT, Int.reduceLE, Int.reduceMul, Int.reduceTMod, Int.reduceSub, Int.reduceBNe, Bool.not_true, Bool.not_false, decide_true, decide_false, ne_eq, not_false_eq_true, Int.reduceEq, reduceCtorEq]
      rw [lpn m e, ih m (i + 1) (by omega) (by omega) (by omega)]
    · obtain rfl : i = n := by omega
      have q : ¬ (i : Int) < (i : Int) := by omega
      exact lpx m (by simp only [↓L8n0, q, ↓SD, SA, Int.ofNat_eq_natCast, Int.cast_ofNat_Int, Int.reduceBEq, Int.reduceAdd, Int.reduceNeg, Int.reduceNegSucc, Int.reduceLT, Int.reduceLE, Int.reduceMul, Int.reduceTMod, Int.reduceSub, Int.reduceBNe, Bool.not_true, Bool.not_false, decide_true, decide_false, ne_eq, not_false_eq_true, Int.reduceEq, reduceCtorEq])
theorem tm5 (e : Int) : -4 ≤ e.tmod 5 ∧ e.tmod 5 ≤ 4 := by
  have h1 := Int.tmod_lt_of_pos e (show (0 : Int) < 5 by decide)
  have h2 := Int.lt_tmod_of_pos e (show (0 : Int) < 5 by decide)
  omega
theorem lawDims (n e : Int) : ∃ h', s8 [.int 63 n, .int 63 e] H0 = .ret (.bool true) h' := by
  obtain ⟨h1, e1, w1⟩ := t25
  have gi : ∀ x : Int, gsel (.bool false) false (.int 63 x) = .int 63 x := fun x => rfl
  have gt : ∀ x : Int, gsel (.bool true) true (.int 63 x) = .int 63 x := fun x => rfl
  by_cases c1 : n < 0
  · exact ⟨h1, by simp only [↓s8, ↓e1, c1, ↓SD, SA, Int.ofNat_eq_natCast, Int.cast_ofNat_Int, Int.reduceBEq, Int.reduceAdd, Int.reduceNeg, Int.reduceNegSucc, Int.reduceLT, Int.reduceLE, Int.reduceMul, Int.reduceTMod, Int.reduceSub, Int.reduceBNe, Bool.not_true, Bool.not_false, decide_true, decide_false, ne_eq, not_false_eq_true, Int.reduceEq, reduceCtorEq]⟩
  by_cases c2 : 300 < n
  · exact ⟨h1, by simp only [↓s8, ↓e1, c1, c2, ↓gi, ↓SD, SA, Int.ofNat_eq_natCast, Int.cast_ofNat_Int, Int.reduceBEq, Int.reduceAdd, Int.reduceNeg, Int.reduceNegSucc, Int.reduceLT, Int.reduceLE, Int.reduceMul, Int.reduceTMod, Int.reduceSub, Int.reduceBNe, Bool.not_true, Bool.not_false, decide_true, decide_false, ne_eq, not_false_eq_true, Int.reduceEq, reduceCtorEq]⟩
  obtain ⟨n, rfl⟩ : ∃ m : Nat, n = (m : Int) := ⟨n.toNat, by omega⟩
  obtain ⟨b1, b2⟩ := tm5 e
  have r1 : ∀ k : AV → Res, iRem (.int 63 e) (.int 63 5) k = k (.int 63 (e.tmod 5)) := fun k => iRem_i (k := k) (c := 63) (m := e) (n := 5) (by decide)
  have a1 : wrapC 63 (e.tmod 5 + 5) = e.tmod 5 + 5 := w63_in _ (by omega) (by omega)
  obtain ⟨k, hk, hk2⟩ : ∃ k : Nat, k < 5 ∧ (e.tmod 5 + 5).tmod 5 = (k : Int) := by
    have h3 : (e.tmod 5 + 5).tmod 5 = (e.tmod 5 + 5) % 5 := Int.tmod_eq_emod_of_nonneg (by omega)
    exact ⟨((e.tmod 5 + 5) % 5).toNat, by omega, by rw [h3]; omega⟩
  have r2 : ∀ kk : AV → Res, iRem (.int 63 (e.tmod 5 + 5)) (.int 63 5) kk = kk (.int 63 (k : Int)) := fun kk => by
    rw [← hk2]; exact iRem_i (k := kk) (c := 63) (m := e.tmod 5 + 5) (n := 5) (by decide)
  have lp0 := loop8 n (by omega) (.int 63 e) (.bool true) h1 n most 0 (by omega) (by unfold most; omega) (by omega)
  have lp0 : lp L8n0 most [.int 63 (n : Int), .int 63 e, .bool true, .str 0 0, .int 63 0] h1 = .exit 0 [.int 63 (n : Int), .int 63 e, .bool true, S (List.replicate n 91)] h1 := lp0
  obtain ⟨h2, m2, s2, o2, w2⟩ := mkS_sl w1 [S [73], S [74], S [76, 120, 59], S [70], S [86]] (by
    intro x hx
    simp only [List.mem_cons, List.not_mem_nil, or_false] at hx
    rcases hx with rfl | rfl | rfl | rfl | rfl <;> rfl)
  have m2 : ∀ kk : AV → Hp → Res, (bld [(false, 1, (.str 1 73)), (false, 1, (.str 1 74)), (false, 1, (.str 3 3897420)), (false, 1, (.str 1 70)), (false, 1, (.str 1 86))] fun l54 => mkS h1 1 5 l54 kk) = kk (.sl h1.nb 0 5 1 (some 5)) h2 := fun kk => by
    have e : (bld [(false, 1, (.str 1 73)), (false, 1, (.str 1 74)), (false, 1, (.str 3 3897420)), (false, 1, (.str 1 70)), (false, 1, (.str 1 86))] fun l54 => mkS h1 1 5 l54 kk) = mkS h1 1 5 (avL [S [73], S [74], S [76, 120, 59], S [70], S [86]]) kk := by
      have z3 : AV.str 3 3897420 = S [76, 120, 59] := by kernel_rfl
      rw [z3]; rfl
    rw [e]; exact m2 kk
  have x2 : ∀ kk : AV → Res, (ixA 1 (.sl h1.nb 0 5 1 (some 5)) (.int 63 (k : Int)) fun a => ld1 h2 a kk) = kk (S (el k)) := fun kk => by
    have := ix_sl s2 (c := 63) k (by simpa using hk) kk
    refine Eq.trans this ?_
    match k, hk with
    | 0, _ => rfl
    | 1, _ => rfl
    | 2, _ => rfl
    | 3, _ => rfl
    | 4, _ => rfl
  have x2' : ∀ kk : AV → Res, (ixA 1 (.sl h1.nb 0 5 1 (some 5)) (.int 63 ((e.tmod 5 + 5).tmod 5)) fun a => ld1 h2 a kk) = kk (S (el k)) := fun kk => by rw [hk2]; exact x2 kk
  have hel : (el k).length ≤ 3 := by
    match k, hk with
    | 0, _ => decide
    | 1, _ => decide
    | 2, _ => decide
    | 3, _ => decide
    | 4, _ => decide
  have kc := fun kk => cat_S (List.replicate n 91) (el k) (by simp; omega) kk
  obtain ⟨h3, e3, o3, w3⟩ := t26 (l := List.replicate n 91 ++ el k) (by simp; omega) w2
  obtain ⟨d1, d2⟩ := fld_dims n k hk
  obtain ⟨h4, m4, c4, o4, w4, n4⟩ := ty0_mk w3
  have m4' : ∀ k : AV → Hp → Res, mk h3 (.cons (.int 8 0) (.cons (.str 0 0) (.cons (.int 63 0) (.cons (.int 8 0) .nil)))) k = k (.ptr h3.nb 0) h4 := m4
  obtain ⟨h5, s5', c5, o5, w5, n5⟩ := c4.st w4 ((fld (List.replicate n 91 ++ el k)).getD ty0)
  have s5' : ∀ kk : Hp → Res, stN h4 4 (.ptr h3.nb 0) (tyV ((fld (List.replicate n 91 ++ el k)).getD ty0)) kk = kk h5 := s5'
  have gb : ∀ b : Bool, gsel (.bool true) true (.bool b) = .bool b := fun b => rfl
  have l5 := fun kk => c5.l2 kk
  have q255 : (255 : Int) < (n : Int) ↔ ¬ n ≤ 255 := by omega
  have q3 : (k : Int) < 3 ↔ k < 3 := by omega
  cases hf : fld (List.replicate n 91 ++ el k) with
  | none =>
    have ef : fldV (fld (List.replicate n 91 ++ el k)) = .tup (.cons (tyV ty0) (.cons (.bool false) .nil)) := by rw [hf]; rfl
    rw [ef] at e3
    rw [hf] at s5' d1
    have s5' : ∀ kk : Hp → Res, stN h4 4 (.ptr h3.nb 0) (tyV ty0) kk = kk h5 := s5'
    have d1 : false = (decide (n ≤ 255) && decide (k < 3)) := d1
    by_cases g1 : n ≤ 255
    · have g2 : ¬ k < 3 := fun hh => by rw [decide_eq_true g1, decide_eq_true hh] at d1; cases d1
      have p1 : ¬ (255 : Int) < (n : Int) := by omega
      have p2 : ¬ (k : Int) < 3 := by omega
      exact ⟨h5, by simp only [↓s8, ↓e1, c1, c2, ↓gi, ↓lp0, ↓blk_x, ↓m2, ↓r1, a1, ↓r2, hk2, ↓x2, ↓x2', ↓kc, ↓e3, nth_z, nth_1, ↓cK_ty, ↓m4, ↓m4', ↓s5', p1, p2, Bool.not_false, ↓gt, ↓gb, beq_self_eq_true, ↓SD, SA, Int.ofNat_eq_natCast, Int.cast_ofNat_Int, Int.reduceBEq, Int.reduceAdd, Int.reduceNeg, Int.reduceNegSucc, Int.reduceLT, Int.reduceLE, Int.reduceMul, Int.reduceTMod, Int.reduceSub, Int.reduceBNe, Bool.not_true, Bool.not_false, decide_true, decide_false, ne_eq, not_false_eq_true, Int.reduceEq, reduceCtorEq]; try rfl⟩
    · have p1 : (255 : Int) < (n : Int) := by omega
      exact ⟨h5, by simp only [↓s8, ↓e1, c1, c2, ↓gi, ↓lp0, ↓blk_x, ↓m2, ↓r1, a1, ↓r2, hk2, ↓x2, ↓x2', ↓kc, ↓e3, nth_z, nth_1, ↓cK_ty, ↓m4, ↓m4', ↓s5', p1, Bool.not_true, ↓gt, ↓gb, beq_self_eq_true, ↓SD, SA, Int.ofNat_eq_natCast, Int.cast_ofNat_Int, Int.reduceBEq, Int.reduceAdd, Int.reduceNeg, Int.reduceNegSucc, Int.reduceLT, Int.reduceLE, Int.reduceMul, Int.reduceTMod, Int.reduceSub, Int.reduceBNe, Bool.not_true, Bool.not_false, decide_true, decide_false, ne_eq, not_false_eq_true, Int.reduceEq, reduceCtorEq]; try rfl⟩
  | some t =>
    have ef : fldV (fld (List.replicate n 91 ++ el k)) = .tup (.cons (tyV t) (.cons (.bool true) .nil)) := by rw [hf]; rfl
    have dn := d2 t hf
    rw [ef] at e3
    rw [hf] at s5' d1 l5
    have s5' : ∀ kk : Hp → Res, stN h4 4 (.ptr h3.nb 0) (tyV t) kk = kk h5 := s5'
    have l5 : ∀ kk : AV → Res, ld1 h5 (.ptr h3.nb (Nat.add 0 2)) kk = kk (.int 63 (t.d : Int)) := l5
    rw [dn] at l5
    have l5' : ∀ kk : AV → Res, ld1 h5 (.ptr h3.nb 2) kk = kk (.int 63 (n : Int)) := l5
    have d1 : true = (decide (n ≤ 255) && decide (k < 3)) := d1
    have g : n ≤ 255 ∧ k < 3 := by
      have := d1.symm
      simp only [Bool.and_eq_true, decide_eq_true_eq] at this
      exact this
    have p1 : ¬ (255 : Int) < (n : Int) := by omega
    have p2 : (k : Int) < 3 := by omega
    exact ⟨h5, by simp only [↓s8, ↓e1, c1, c2, ↓gi, ↓lp0, ↓blk_x, ↓m2, ↓r1, a1, ↓r2, hk2, ↓x2, ↓x2', ↓kc, ↓e3, nth_z, nth_1, ↓cK_ty, ↓m4, ↓m4', ↓s5', p1, p2, Bool.not_false, Bool.not_true, ↓gt, ↓gb, ↓cP_p, ↓l5, ↓l5', beq_self_eq_true, ↓SD, SA, Int.ofNat_eq_natCast, Int.cast_ofNat_Int, Int.reduceBEq, Int.reduceAdd, Int.reduceNeg, Int.reduceNegSucc, Int.reduceLT, Int.reduceLE, Int.reduceMul, Int.reduceTMod, Int.reduceSub, Int.reduceBNe, Bool.not_true, Bool.not_false, decide_true, decide_false, ne_eq, not_false_eq_true, Int.reduceEq, reduceCtorEq]; try rfl⟩
end Go.Proofs.YtnpfppddongbhaaDoor
end

section
namespace Go.Proofs.YtnpfppddongbhaaDoor
open Go Go.AM
set_option autoImplicit false
set_option linter.unusedSimpArgs false
set_option linter.unusedVariables false
/-- A slice of types whose group is not the variable c0. -/
def GrTx (h : Hp) (N c0 : Nat) (v : AV) (ts : List Ty) : Prop :=
  (v = .nils ∧ ts = []) ∨ ∃ b B, v = .sl b 0 ts.length 4 none ∧ N ≤ b ∧ Rd h b B ∧ B.fr = true ∧ N ≤ B.g ∧ B.g ≠ c0 ∧ ts.length * 4 ≤ B.lim ∧ ∀ i (hi : i < (flat ts).length), B.at i = (flat ts)[i]
theorem GrTx.to {h h' : Hp} {N c0 : Nat} {v : AV} {ts : List Ty} {W : Nat → Prop} (hg : GrTx h N c0 v ts) (ht : To W h h') (hd : ∀ b, N ≤ b → b < h.nb → ¬ W b) : GrTx h' N c0 v ts := by
  rcases hg with e | ⟨b, B, e, h1, h2, h3, h4, h4x, h5, h6⟩
  · exact .inl e
  · exact .inr ⟨b, B, e, h1, h2.to ht (hd b h1 h2.lt) (fun _ => hd _ h4 (h2.grp h3).1), h3, h4, h4x, h5, h6⟩
theorem GrT.x {h h' : Hp} {N c0 : Nat} {v : AV} {ts : List Ty} (hg : GrT h N v ts) (ht : To (fun x => h.nb ≤ x) h h') (hc : h.nb ≤ c0) : GrTx h' N c0 v ts := by
  rcases hg with e | ⟨b, B, e, h1, h2, h3, h4, h5, h6⟩
  · exact .inl e
  · have l1 := h2.lt
    have l2 := (h2.grp h3).1
    exact .inr ⟨b, B, e, h1, h2.to ht (fun e => by omega) (fun _ e => by omega), h3, h4, by omega, h5, h6⟩
theorem apd_tx {h : Hp} {N c0 : Nat} {v : AV} {ts : List Ty} (hN : N ≤ h.nb) (hw : Wf h) (hv : GrTx h N c0 v ts) (hn : ts.length ≤ 100000) (t : Ty) :
    ∃ v' h1 h', (∀ k : AV → Hp → Res, mkS h 4 1 (avL (tyL t)) k = k (.sl h.nb 0 1 4 (some 1)) h1) ∧ (∀ k : AV → Hp → Res, apd h1 4 40 v (.sl h.nb 0 1 4 (some 1)) k = k v' h') ∧ GrT h' N v' (ts ++ [t]) ∧ To (fun b => N ≤ b ∧ b ≠ c0) h h' ∧ Wf h' := by
  obtain ⟨t0, l1, l2⟩ := lay_list (tyL t) .e 0 (tyL_one t)
  obtain ⟨o1, o2⟩ := nw_own hw (0 + 4) .nil t0
  have w1 : Wf (nw h (0 + 4) .nil t0) := o2.wf hw
  have m1 : ∀ k : AV → Hp → Res, mkS h 4 1 (avL (tyL t)) k = k (.sl h.nb 0 1 4 (some 1)) (nw h (0 + 4) .nil t0) := fun k => by
    have e : mkS h 4 1 (avL (tyL t)) k = lay (avL (tyL t)) .e 0 fun t m => ifB (Nat.beq m (Nat.mul 1 4)) (k (.sl h.nb 0 1 4 (some 1)) (nw h m .nil t)) .fail := rfl
    rw [e, l1]; rfl
  have hat0 : ∀ i (hi : i < (tyL t).length), (⟨true, h.nb, 0 + 4, .nil, t0⟩ : Blk).at (0 + i) = (tyL t)[i] := by
    intro i hi
    have hi4 : i < 4 := hi
    rw [at_in _ (show 0 + i < 0 + 4 by omega)]
    simp only [l2 (0 + i)]
    rw [dif_pos ⟨by omega, by omega⟩]
    simp
  have hv1 : GrTx (nw h (0 + 4) .nil t0) N c0 v ts := hv.to o2 (fun _ _ _ f => f)
  have nb1 : (nw h (0 + 4) .nil t0).nb = h.nb + 1 := rfl
  generalize hh1 : nw h (0 + 4) .nil t0 = h1 at *
  have src1 : ∀ k : Nat → AV → Res, src h1 4 (.sl h.nb 0 1 4 (some 1)) k = k 1 (avL (tyL t)) := fun k => by
    have e : src h1 4 (.sl h.nb 0 1 4 (some 1)) k = gb h1 h.nb fun B => rds B (tyL t).length 0 fun l => k 1 l := rfl
    rw [e, gb_rd o1.rd, rds_list (tyL t) 0 _ hat0 (fun v hv => one_unk (tyL_one _ v hv))]
  have t1 : To (fun b => N ≤ b ∧ b ≠ c0) h h1 := o2.mono fun _ _ f => f.elim
  rcases hv1 with ⟨rfl, rfl⟩ | ⟨b, B, rfl, g1, g2, g3, g4, g4x, g5, g6⟩
  · obtain ⟨p1, p2⟩ := nw_own w1 (0 + 4) .nil t0
    refine ⟨.sl h1.nb 0 1 4 none, h1, nw h1 (0 + 4) .nil t0, m1, fun k => ?_, .inr ⟨h1.nb, _, rfl, by omega, p1.rd, rfl, by show N ≤ h1.nb; omega, by show 1 * 4 ≤ 0 + 4; omega, fun i hi => ?_⟩, t1.trans (p2.mono fun _ _ f => f.elim), p2.wf w1⟩
    · unfold apd
      rw [src1]
      show grown h1 4 1 (avL (tyL t)) k = _
      have e : grown h1 4 1 (avL (tyL t)) k = lay (avL (tyL t)) .e 0 fun t m => ifB (Nat.beq m (Nat.mul 1 4)) (k (.sl h1.nb 0 1 4 none) (nw h1 m .nil t)) .fail := rfl
      rw [e, l1]; rfl
    · have e : flat ([] ++ [t]) = tyL t := by simp [flat]
      simp only [e] at hi ⊢
      have := hat0 i hi
      rw [show 0 + i = i from Nat.zero_add i] at this
      rw [← this]
      have hi4 : i < 4 := hi
      rw [at_in _ (show i < 0 + 4 by omega), at_in _ (show i < 0 + 4 by omega)]
  · have h4 : (tyL t).length = 4 := rfl
    obtain ⟨t, t1', t2⟩ : ∃ t', (∀ k : T AV → Nat → Res, lay (avL (tyL t)) B.cs (ts.length * 4) k = k t' (ts.length * 4 + 4)) ∧ ∀ j, t'.get j = if hh : ts.length * 4 ≤ j ∧ j < ts.length * 4 + 4 then some ((tyL t)[j - ts.length * 4]'(by omega)) else B.cs.get j := lay_list (tyL t) B.cs (ts.length * 4) (tyL_one t)
    rename_i tt
    generalize hold : ifN (h1.grp B.g).1 b B.lim (ts.length * 4) (h1.grp B.g).2 h1.nb = old
    have hle : old ≤ h1.nb := by
      have q := (g2.grp g3).2
      have hlt := g2.lt
      have e : ifN (h1.grp B.g).1 b B.lim (ts.length * 4) (h1.grp B.g).2 h1.nb = Bool.rec (motive := fun _ => Nat) h1.nb (Bool.rec (motive := fun _ => Nat) h1.nb (h1.grp B.g).2 (Nat.ble B.lim (ts.length * 4))) (Nat.beq (h1.grp B.g).1 b) := rfl
      rw [← hold, e, recB, recB]
      split
      · split
        · omega
        · exact Nat.le_refl _
      · exact Nat.le_refl _
    have hrun : ∀ k : AV → Hp → Res, apd h1 4 40 (.sl b 0 ts.length 4 none) (.sl h.nb 0 1 4 (some 1)) k = k (.sl h1.nb 0 (ts.length + 1) 4 none) ⟨Nat.succ h1.nb, h1.bs.set ⟨true, B.g, ts.length * 4 + 4, B.df, t⟩ h1.nb, h1.gs.set (h1.nb, old) B.g, h1.ms⟩ := fun k => by
      unfold apd
      rw [src1]
      show ifB (Nat.beq 4 4) (ifB (Nat.beq 1 0) _ (ifB (Nat.ble (Nat.mul (Nat.add ts.length 1) 40) 140737488355328) (ifB (Nat.ble (Nat.add ts.length 1) 9223372036854775807)
        (gb h1 b fun B => ifB B.fr (ifB (Nat.beq 0 0) (lay (avL (tyL tt)) B.cs (Nat.mul ts.length 4) fun t e => ifB (Nat.beq e (Nat.mul (Nat.add ts.length 1) 4)) (ifB (Nat.ble (Nat.mul ts.length 4) B.lim)
          (k (.sl h1.nb 0 (Nat.add ts.length 1) 4 none) ⟨Nat.succ h1.nb, h1.bs.set ⟨true, B.g, e, B.df, t⟩ h1.nb, h1.gs.set (h1.nb, ifN (h1.grp B.g).1 b B.lim (Nat.mul ts.length 4) (h1.grp B.g).2 h1.nb) B.g, h1.ms⟩) .fail) .fail) _) .fail) .fail) .fail)) .fail = _
      have e1 : Nat.ble (Nat.mul (Nat.add ts.length 1) 40) 140737488355328 = true := by rw [ble_iff]; show (ts.length + 1) * 40 ≤ _; omega
      have e2 : Nat.ble (Nat.add ts.length 1) 9223372036854775807 = true := by rw [ble_iff]; show ts.length + 1 ≤ _; omega
      rw [e1, e2]
      show (gb h1 b fun B => ifB B.fr (ifB (Nat.beq 0 0) (lay (avL (tyL tt)) B.cs (Nat.mul ts.length 4) fun t e => ifB (Nat.beq e (Nat.mul (Nat.add ts.length 1) 4)) (ifB (Nat.ble (Nat.mul ts.length 4) B.lim)
          (k (.sl h1.nb 0 (Nat.add ts.length 1) 4 none) ⟨Nat.succ h1.nb, h1.bs.set ⟨true, B.g, e, B.df, t⟩ h1.nb, h1.gs.set (h1.nb, ifN (h1.grp B.g).1 b B.lim (Nat.mul ts.length 4) (h1.grp B.g).2 h1.nb) B.g, h1.ms⟩) .fail) .fail) _) .fail) = _
      rw [gb_rd g2, g3, ifB_t]
      have e3 : Nat.mul ts.length 4 = ts.length * 4 := rfl
      show (lay (avL (tyL tt)) B.cs (Nat.mul ts.length 4) fun t e => ifB (Nat.beq e (Nat.mul (Nat.add ts.length 1) 4)) (ifB (Nat.ble (Nat.mul ts.length 4) B.lim)
          (k (.sl h1.nb 0 (Nat.add ts.length 1) 4 none) ⟨Nat.succ h1.nb, h1.bs.set ⟨true, B.g, e, B.df, t⟩ h1.nb, h1.gs.set (h1.nb, ifN (h1.grp B.g).1 b B.lim (Nat.mul ts.length 4) (h1.grp B.g).2 h1.nb) B.g, h1.ms⟩) .fail) .fail) = _
      have e4 : Nat.mul (Nat.add ts.length 1) 4 = ts.length * 4 + 4 := by show (ts.length + 1) * 4 = _; omega
      rw [e3, hold, e4, t1', (beq_iff _ _).2 rfl, (ble_iff _ _).2 g5]
      rfl
    have hget2 : ∀ x, (h1.bs.set ⟨true, B.g, ts.length * 4 + 4, B.df, t⟩ h1.nb).get x = if x = h1.nb then some ⟨true, B.g, ts.length * 4 + 4, B.df, t⟩ else h1.bs.get x := fun x => T.get_set _ _ _ _
    have hgs2 : ∀ x, (h1.gs.set (h1.nb, old) B.g).get x = if x = B.g then some (h1.nb, old) else h1.gs.get x := fun x => T.get_set _ _ _ _
    have hBg := g2.grp g3
    have tfin : To (fun b => N ≤ b ∧ b ≠ c0) h1 ⟨Nat.succ h1.nb, h1.bs.set ⟨true, B.g, ts.length * 4 + 4, B.df, t⟩ h1.nb, h1.gs.set (h1.nb, old) B.g, h1.ms⟩ := by
      refine ⟨Nat.le_succ _, fun x hx hn => ?_, fun x hx hn => ?_, fun hn g hg => ?_⟩
      · show (h1.bs.set _ h1.nb).get x = _
        rw [hget2, if_neg (by omega)]
      · show (h1.gs.set (h1.nb, old) B.g).get x = _
        rw [hgs2, if_neg (fun e => hn (by rw [e]; exact ⟨g4, g4x⟩))]
      · show (h1.gs.set (h1.nb, old) B.g).get g = none
        have hg : h1.nb + 1 ≤ g := hg
        rw [hgs2, if_neg (by omega)]
        exact hn g (by omega)
    refine ⟨_, h1, _, m1, hrun, .inr ⟨h1.nb, ⟨true, B.g, ts.length * 4 + 4, B.df, t⟩, by rw [List.length_append]; rfl, by omega, ⟨by show (h1.bs.set _ h1.nb).get h1.nb = _; rw [hget2, if_pos rfl], Nat.lt_succ_self _, fun _ => ⟨Nat.lt_succ_of_lt hBg.1, ?_⟩⟩, rfl, g4, by rw [List.length_append]; show (ts.length + 1) * 4 ≤ ts.length * 4 + 4; omega, fun i hi => ?_⟩, t1.trans tfin, tfin.wf w1⟩
    · show (Hp.grp ⟨_, _, h1.gs.set (h1.nb, old) B.g, _⟩ B.g).2 ≤ h1.nb
      simp only [Hp.grp, hgs2, if_pos]
      exact hle
    · simp only [flat_snoc] at hi ⊢
      have hfl := flat_len ts
      rw [List.length_append, h4] at hi
      rw [at_in _ (show i < ts.length * 4 + 4 by omega)]
      simp only [t2 i]
      by_cases c : ts.length * 4 ≤ i
      · rw [dif_pos ⟨c, by omega⟩, List.getElem_append_right (by omega)]
        simp only [hfl]
      · rw [dif_neg (by omega), List.getElem_append_left (by omega)]
        have := g6 i (by omega)
        rw [at_in B (by omega)] at this
        exact this
/-! ### descriptors that are put together -/
def Okt (t : Ty) (x : List UInt8) : Prop := ∃ c nm d, t = mkT c nm d ∧ x = List.replicate d 91 ++ txt c nm ∧ d ≤ 255 ∧ (Prim c nm ∨ Ref c nm) ∧ (59 : UInt8) ∉ nm ∧ nm.length ≤ 3
theorem upto_ap (a b : List UInt8) (h : (59 : UInt8) ∉ a) : upto (a ++ 59 :: b) = some a := by
  induction a with
  | nil => rfl
  | cons c a ih =>
    have h1 : ¬ c = 59 := fun e => h (by simp [e])
    rw [List.cons_append, upto, if_neg h1, ih fun e => h (by simp [e])]; rfl
theorem Okt.fr {t : Ty} {x : List UInt8} (h : Okt t x) (r : List UInt8) : fr (x ++ r) = some (t, x.length) := by
  obtain ⟨c, nm, d, rfl, rfl, hd, hc, hn, hl⟩ := h
  rcases hc with ⟨hp, rfl⟩ | ⟨rfl, hcl, hnl⟩
  · obtain ⟨n1, n2, n3, n4, hv⟩ := prims_ne hp
    have e : txt c [] = [c] := if_neg n1
    rw [e, show List.replicate d 91 ++ [c] ++ r = List.replicate d 91 ++ c :: r by simp, fr_n d c r n4, if_neg (by omega), if_pos hp]
    simp
  · have e : txt 76 nm = 76 :: nm ++ [59] := if_pos rfl
    rw [e, show List.replicate d 91 ++ (76 :: nm ++ [59]) ++ r = List.replicate d 91 ++ 76 :: (nm ++ 59 :: r) by simp, fr_n d 76 _ (by decide), if_neg (by omega), if_neg (by decide), if_pos rfl, upto_ap nm r hn]
    show (if cls nm = true then _ else none) = _
    rw [if_pos hcl]
    simp; omega
theorem Okt.len {t : Ty} {x : List UInt8} (h : Okt t x) : 0 < x.length ∧ x.length ≤ 300 := by
  obtain ⟨c, nm, d, rfl, rfl, hd, hc, hn, hl⟩ := h
  unfold txt
  split <;> simp <;> omega
theorem Okt.head {t : Ty} {x : List UInt8} (h : Okt t x) (r : List UInt8) : ¬ (x ++ r).take 1 = [41] := by
  obtain ⟨c, nm, d, rfl, rfl, hd, hc, hn, hl⟩ := h
  cases d with
  | succ d => rw [List.replicate_succ]; simp
  | zero =>
    rcases hc with ⟨hp, rfl⟩ | ⟨rfl, hcl, hnl⟩
    · obtain ⟨n1, n2, n3, n4, hv⟩ := prims_ne hp
      have e : txt c [] = [c] := if_neg n1
      rw [e]
      intro h
      have : c = 41 := by simpa using h
      subst this
      exact absurd hp (by decide)
    · have e : txt 76 nm = 76 :: nm ++ [59] := if_pos rfl
      rw [e]; simp
theorem Okt.fld {t : Ty} {x : List UInt8} (h : Okt t x) : fld x = some t := by
  have := h.fr []
  rw [List.append_nil] at this
  unfold YtnpfppddongbhaaDoor.fld
  rw [this]
  show (if x.length = x.length then some t else none) = some t
  rw [if_pos rfl]
theorem Okt.ne {t : Ty} {x : List UInt8} (h : Okt t x) : x ≠ [86] := by
  intro e
  subst e
  have := h.fr []
  have e2 : YtnpfppddongbhaaDoor.fr ([86] ++ []) = none := by
    have := fr_n 0 86 [] (by decide)
    exact this.trans (by rw [if_neg (by decide), if_neg (by decide), if_neg (by decide)])
  rw [e2] at this; cases this
inductive Cat : List Ty → List UInt8 → Prop
  | nil : Cat [] []
  | cons {t : Ty} {x : List UInt8} {ts : List Ty} {s : List UInt8} : Okt t x → Cat ts s → Cat (t :: ts) (x ++ s)
theorem Cat.snoc {ts : List Ty} {s : List UInt8} {t : Ty} {x : List UInt8} (h : Cat ts s) (ho : Okt t x) : Cat (ts ++ [t]) (s ++ x) := by
  induction h with
  | nil => simpa using Cat.cons ho .nil
  | cons h1 _ ih => rw [List.cons_append, List.append_assoc]; exact .cons h1 ih
theorem Cat.ml {ts : List Ty} {s : List UInt8} (h : Cat ts s) : ∀ (f : Nat) (r : List UInt8), s.length < f → r.take 1 = [41] → ml f (s ++ r) = some (ts, r) := by
  induction h with
  | nil =>
    intro f r hf hr
    obtain ⟨f, rfl⟩ : ∃ k, f = k + 1 := ⟨f - 1, by omega⟩
    unfold YtnpfppddongbhaaDoor.ml
    rw [List.nil_append, if_pos hr]
  | @cons t x ts s h1 _ ih =>
    intro f r hf hr
    obtain ⟨f, rfl⟩ : ∃ k, f = k + 1 := ⟨f - 1, by omega⟩
    have hl := h1.len
    rw [List.length_append] at hf
    unfold YtnpfppddongbhaaDoor.ml
    rw [List.append_assoc, if_neg (h1.head _), h1.fr]
    simp only [List.drop_left, ih f r (by omega) hr]
theorem Cat.md {ts : List Ty} {s : List UInt8} {t : Ty} {x : List UInt8} (h : Cat ts s) (ho : Okt t x) : md (40 :: s ++ [41] ++ x) = some (ts, t) := by
  unfold YtnpfppddongbhaaDoor.md
  rw [show (40 :: s ++ [41] ++ x : List UInt8) = 40 :: (s ++ 41 :: x) by simp, if_pos (show (40 :: (s ++ 41 :: x) : List UInt8).take 1 = [40] from rfl), show (40 :: (s ++ 41 :: x)).drop 1 = s ++ 41 :: x from rfl, h.ml _ (41 :: x) (by simp; omega) rfl]
  show (if (41 :: x : List UInt8) = [41, 86] then some (ts, tyVoid) else match YtnpfppddongbhaaDoor.fld ((41 :: x).drop 1) with | none => none | some t => some (ts, t)) = _
  rw [if_neg (fun e => ho.ne (List.cons.inj e).2), show (41 :: x).drop 1 = x from rfl, ho.fld]
theorem Cat.mdV {ts : List Ty} {s : List UInt8} (h : Cat ts s) : YtnpfppddongbhaaDoor.md (40 :: s ++ [41, 86]) = some (ts, tyVoid) := by
  unfold YtnpfppddongbhaaDoor.md
  rw [show (40 :: s ++ [41, 86] : List UInt8) = 40 :: (s ++ [41, 86]) by simp, if_pos (show (40 :: (s ++ [41, 86]) : List UInt8).take 1 = [40] from rfl), show (40 :: (s ++ [41, 86])).drop 1 = s ++ [41, 86] from rfl, h.ml _ [41, 86] (by simp; omega) rfl]
  show (if ([41, 86] : List UInt8) = [41, 86] then some (ts, tyVoid) else _) = _
  rw [if_pos rfl]
end Go.Proofs.YtnpfppddongbhaaDoor
end

section
namespace Go.Proofs.YtnpfppddongbhaaDoor
open Go Go.AM
set_option autoImplicit false
set_option linter.unusedSimpArgs false
set_option linter.unusedVariables false
def alc : Nat → UInt8
  | 0 => 73
  | 1 => 74
  | 2 => 66
  | 3 => 67
  | 4 => 83
  | 5 => 90
  | _ => 76
def aln : Nat → List UInt8
  | 0 => []
  | 1 => []
  | 2 => []
  | 3 => []
  | 4 => []
  | 5 => []
  | _ => [97, 47, 98]
def als : List Ty := [⟨73, [], 0, 0⟩, ⟨74, [], 0, 0⟩, ⟨66, [], 0, 0⟩, ⟨67, [], 0, 0⟩, ⟨83, [], 0, 0⟩, ⟨90, [], 0, 0⟩, ⟨76, [97, 47, 98], 0, 0⟩]
theorem als_get (k : Nat) (hk : k < 7) : als[k]'hk = ⟨alc k, aln k, 0, 0⟩ := by
  match k, hk with
  | 0, _ => rfl
  | 1, _ => rfl
  | 2, _ => rfl
  | 3, _ => rfl
  | 4, _ => rfl
  | 5, _ => rfl
  | 6, _ => rfl
theorem cls_ab : cls [97, 47, 98] = true := by kernel_rfl
theorem okt (k d : Nat) (hk : k < 7) (hd : d ≤ 255) : Okt (mkT (alc k) (aln k) d) (List.replicate d 91 ++ txt (alc k) (aln k)) := by
  refine ⟨alc k, aln k, d, rfl, rfl, hd, ?_, ?_, ?_⟩
  · match k, hk with
    | 0, _ => exact .inl ⟨by decide, rfl⟩
    | 1, _ => exact .inl ⟨by decide, rfl⟩
    | 2, _ => exact .inl ⟨by decide, rfl⟩
    | 3, _ => exact .inl ⟨by decide, rfl⟩
    | 4, _ => exact .inl ⟨by decide, rfl⟩
    | 5, _ => exact .inl ⟨by decide, rfl⟩
    | 6, _ => exact .inr ⟨rfl, cls_ab, by decide⟩
  · match k, hk with
    | 0, _ => decide
    | 1, _ => decide
    | 2, _ => decide
    | 3, _ => decide
    | 4, _ => decide
    | 5, _ => decide
    | 6, _ => decide
  · match k, hk with
    | 0, _ => decide
    | 1, _ => decide
    | 2, _ => decide
    | 3, _ => decide
    | 4, _ => decide
    | 5, _ => decide
    | 6, _ => decide
/-- The seven types, laid. -/
def AlsT (h : Hp) (b : Nat) : Prop := ∃ B, Own h b B ∧ ∀ i (hi : i < (flat als).length), B.at i = (flat als)[i]
theorem AlsT.to {h h' : Hp} {b : Nat} {W : Nat → Prop} (ha : AlsT h b) (ht : To W h h') (hw : ¬ W b) : AlsT h' b := by
  obtain ⟨B, o, r⟩ := ha
  exact ⟨B, o.to ht hw, r⟩
theorem AlsT.ix {h : Hp} {b : Nat} (ha : AlsT h b) (k : Nat) (hk : k < 7) (kk : AV → Res) : (ixA 4 (.sl b 0 7 4 (some 7)) (.int 63 (k : Int)) fun a => ldN h 4 a kk) = kk (tyV ⟨alc k, aln k, 0, 0⟩) := by
  obtain ⟨B, o, r⟩ := ha
  have e : (ixA 4 (.sl b 0 7 4 (some 7)) (.int 63 (k : Int)) fun a => ldN h 4 a kk) = ifB (Nat.blt k 7) (ifB (Nat.beq 4 4) (ldN h 4 (.ptr b (Nat.add 0 (Nat.mul k 4))) kk) .fail) .fail := rfl
  rw [e, (blt_iff _ _).2 hk]
  have e2 : Nat.add 0 (Nat.mul k 4) = k * 4 := by show 0 + k * 4 = k * 4; omega
  show ldN h 4 (.ptr b (Nat.add 0 (Nat.mul k 4))) kk = _
  rw [e2, ← als_get k hk]
  exact ldN_rd (l := tyL (als[k]'hk)) o.rd (fun j hj => by
    have hj : j < 4 := hj
    have hk' : k < als.length := hk
    rw [r (k * 4 + j) (by rw [flat_len]; show k * 4 + j < 7 * 4; omega), flat_get als k j hk hj]) (fun v hv => one_unk (tyL_one _ v hv)) kk
theorem mkS_als {h : Hp} (hw : Wf h) : ∃ h', (∀ k : AV → Hp → Res, mkS h 4 7 (avL (flat als)) k = k (.sl h.nb 0 7 4 (some 7)) h') ∧ AlsT h' h.nb ∧ To No h h' ∧ Wf h' ∧ h'.nb = h.nb + 1 := by
  have hone : ∀ v ∈ flat als, one v = true := by
    intro v hv
    obtain ⟨t, -, ht⟩ := List.mem_flatMap.1 hv
    exact tyL_one t v ht
  obtain ⟨t, e1, e2⟩ := lay_list (flat als) .e 0 hone
  obtain ⟨o1, o2⟩ := nw_own hw (0 + (flat als).length) .nil t
  refine ⟨nw h (0 + (flat als).length) .nil t, fun k => ?_, ⟨_, o1, fun i hi => ?_⟩, o2, o2.wf hw, rfl⟩
  · have e : mkS h 4 7 (avL (flat als)) k = lay (avL (flat als)) .e 0 fun t j => ifB (Nat.beq j (Nat.mul 7 4)) (k (.sl h.nb 0 7 4 (some 7)) (nw h j .nil t)) .fail := rfl
    rw [e, e1]; rfl
  · rw [at_in _ (show i < 0 + (flat als).length by omega)]
    simp only [e2 i]
    rw [dif_pos ⟨by omega, by omega⟩]
    simp
theorem ixp_sl {h : Hp} {P : Nat → Prop} {v : AV} {l : List AV} (hs : Sl h P v l) (i : Nat) (hi : i < l.length) : ∃ b o, (∀ k : AV → Res, ixA 1 v (.int 63 (i : Int)) k = k (.ptr b o)) ∧ (∀ k : AV → Res, ld1 h (.ptr b o) k = k l[i]) := by
  rcases hs.2 with ⟨-, rfl⟩ | ⟨-, rfl⟩ | ⟨b, o, cc, B, rfl, h3, h4, h5, hc, h6⟩
  · simp at hi
  · simp at hi
  · refine ⟨b, o + i, fun k => ?_, fun k => ?_⟩
    · have e : ixA 1 (.sl b o l.length 1 cc) (.int 63 (i : Int)) k = ifB (Nat.blt i l.length) (ifB (Nat.beq 1 1) (k (.ptr b (Nat.add o (Nat.mul i 1)))) .fail) .fail := rfl
      rw [e, (blt_iff _ _).2 hi]
      have e2 : Nat.add o (Nat.mul i 1) = o + i := by show o + i * 1 = o + i; omega
      show k (.ptr b (Nat.add o (Nat.mul i 1))) = _
      rw [e2]
    · rw [ld1_rd h4 (h6 i hi)]
      exact cK_one (hs.1 _ (List.getElem_mem hi)) k
theorem k7 (x : Int) : ∃ k : Nat, k < 7 ∧ wrapC 63 (x.tmod 7 + 7) = x.tmod 7 + 7 ∧ (x.tmod 7 + 7).tmod 7 = (k : Int) := by
  have h1 := Int.tmod_lt_of_pos x (show (0 : Int) < 7 by decide)
  have h2 := Int.lt_tmod_of_pos x (show (0 : Int) < 7 by decide)
  have h3 : (x.tmod 7 + 7).tmod 7 = (x.tmod 7 + 7) % 7 := Int.tmod_eq_emod_of_nonneg (by omega)
  exact ⟨((x.tmod 7 + 7) % 7).toNat, by omega, w63_in _ (by omega) (by omega), by rw [h3]; omega⟩
theorem rem7 (x : Int) (k : AV → Res) : iRem (.int 63 x) (.int 63 7) k = k (.int 63 (x.tmod 7)) := iRem_i (k := k) (c := 63) (m := x) (n := 7) (by decide)
theorem sumw_snoc (ts : List Ty) (t : Ty) : sumw (ts ++ [t]) = sumw ts + wd t.k := by
  induction ts with
  | nil => simp [sumw]
  | cons a ts ih => rw [List.cons_append, sumw, ih, sumw]; omega
theorem sumw_le (ts : List Ty) : sumw ts ≤ 2 * ts.length := by
  induction ts with
  | nil => simp [sumw]
  | cons a ts ih => have := wd_le a.k; rw [sumw, List.length_cons]; omega
theorem after9 {h g : Hp} {N : Nat} {v : AV} {ts : List Ty} {t : Ty} {x : List UInt8} (hN : N ≤ h.nb) (hw : Wf g) (oo : To (fun y => h.nb ≤ y) h g) (hg : GrT h N v ts) (hc : Cel g h.nb t) (hx : Okt t x) (hn : ts.length ≤ 100) :
    ∃ v' h1 h2 h3 h4, (∀ k : AV → Res, ldN g 4 (.ptr h.nb 0) k = k (tyV t)) ∧ (∀ k : AV → Hp → Res, mkS g 4 1 (avL (tyL t)) k = k (.sl g.nb 0 1 4 (some 1)) h1) ∧ (∀ k : AV → Hp → Res, apd h1 4 40 v (.sl g.nb 0 1 4 (some 1)) k = k v' h2) ∧
      (∀ k : AV → Res, ldN h2 4 (.ptr h.nb 0) k = k (tyV t)) ∧ s31 [tyV t] h2 = .ret (S x) h3 ∧ (∀ k : AV → Res, ldN h3 4 (.ptr h.nb 0) k = k (tyV t)) ∧ s29 [tyV t] h3 = .ret (.int 63 (wd t.k : Int)) h4 ∧ GrT h4 N v' (ts ++ [t]) ∧ To (fun y => N ≤ y) g h4 ∧ Wf h4 := by
  have nbg := oo.nb
  obtain ⟨v', h1, h2, a1, a2, a3, a4, a5⟩ := apd_tx (N := N) (c0 := h.nb) (by omega) hw (hg.x oo (Nat.le_refl _)) (by omega) t
  have c2 : Cel h2 h.nb t := hc.to a4 (fun e => e.2 rfl)
  obtain ⟨c, nm, d, rfl, rfl, hd, hcc, hnn, hl⟩ := hx
  obtain ⟨h3, b1, b2, b3⟩ := t31 hcc d hd (by omega) a5
  obtain ⟨h4, d1, d2, d3⟩ := t29 (mkT c nm d) b3
  exact ⟨v', h1, h2, h3, h4, fun k => hc.ld k, a1, a2, fun k => c2.ld k, b1, fun k => (c2.to b2 (fun f => f)).ld k, d1, (a3.to b2 (fun _ _ _ f => f)).to d2 (fun _ _ _ f => f), ((a4.mono fun y _ e => e.1).trans (b2.mono fun _ _ f => f.elim)).trans (d2.mono fun _ _ f => f.elim), d3⟩
theorem set9 {h : Hp} {b : Nat} {c : UInt8} {nm : List UInt8} (hw : Wf h) (h2 : Cel h b ⟨c, nm, 0, 0⟩) (d : Nat) :
    ∃ g1 g2 g3, (∀ k : Hp → Res, st1 h (.ptr b (Nat.add 0 2)) (.int 63 (d : Int)) k = k g1) ∧ (∀ k : Hp → Res, st1 g1 (.ptr b (Nat.add 0 3)) (.int 8 (c.toNat : Int)) k = k g2) ∧ (∀ k : Hp → Res, st1 g2 (.ptr b (Nat.add 0 0)) (.int 8 91) k = k g3) ∧ Cel g3 b ⟨91, nm, d, c⟩ ∧ To (At b) h g3 ∧ Wf g3 := by
  obtain ⟨g1, a1, a2, a3, a4, -⟩ := h2.s2 hw d
  obtain ⟨g2, d1, d2, d3, d4, -⟩ := a2.s3 a4 c
  obtain ⟨g3, e1, e2, e3, e4, -⟩ := d2.s0 d4 91
  exact ⟨g1, g2, g3, a1, d1, fun k => e1 k, e2, (a3.trans d3).trans e3, e4⟩
def Is (l : List Int) : List AV := l.map fun n => AV.int 63 n
theorem Is_len (l : List Int) : (Is l).length = l.length := by simp [Is]
theorem Is_get (l : List Int) (i : Nat) (hi : i < l.length) : (Is l)[i]'(by rw [Is_len]; exact hi) = .int 63 l[i] := by simp [Is]
end Go.Proofs.YtnpfppddongbhaaDoor
end
