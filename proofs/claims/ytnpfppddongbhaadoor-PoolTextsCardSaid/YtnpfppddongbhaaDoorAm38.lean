/-
  The abstract machine, part 38: rows of values: a slice that reads as a list; its operations.
-/
import Derived.Test.YtnpfppddongbhaaDoorAm37
namespace Go.AM
open Go
set_option autoImplicit false

/-- The slice v of elements of one cell reads as the list l; its block is one of those that P lets. -/
def Sl (h : Hp) (P : Nat → Prop) (v : AV) (l : List AV) : Prop :=
  (∀ x ∈ l, one x = true) ∧ ((v = .nils ∧ l = []) ∨ (v = .esl ∧ l = []) ∨
    ∃ b o c B, v = .sl b o l.length 1 c ∧ P b ∧ Rd h b B ∧ (B.fr = true → P B.g) ∧ (∀ cap, c = some cap → l.length ≤ cap) ∧ ∀ i (hi : i < l.length), B.at (o + i) = l[i])

theorem Sl.to {h h' : Hp} {P W : Nat → Prop} {v : AV} {l : List AV} (hs : Sl h P v l) (ht : To W h h') (hd : ∀ b, P b → ¬ W b) : Sl h' P v l := by
  obtain ⟨h1, h2⟩ := hs
  refine ⟨h1, ?_⟩
  rcases h2 with h2 | h2 | ⟨b, o, c, B, h2, h3, h4, h5, hc, h6⟩
  · exact .inl h2
  · exact .inr (.inl h2)
  · exact .inr (.inr ⟨b, o, c, B, h2, h3, h4.to ht (hd b h3) (fun hf => hd _ (h5 hf)), h5, hc, h6⟩)

theorem Sl.mono {h : Hp} {P Q : Nat → Prop} {v : AV} {l : List AV} (hs : Sl h P v l) (hd : ∀ b, P b → Q b) : Sl h Q v l := by
  obtain ⟨h1, h2⟩ := hs
  refine ⟨h1, ?_⟩
  rcases h2 with h2 | h2 | ⟨b, o, c, B, h2, h3, h4, h5, hc, h6⟩
  · exact .inl h2
  · exact .inr (.inl h2)
  · exact .inr (.inr ⟨b, o, c, B, h2, hd _ h3, h4, fun hf => hd _ (h5 hf), hc, h6⟩)

theorem one_unk {x : AV} (h : one x = true) : x ≠ .unk := by intro e; subst e; exact Bool.noConfusion (show false = true from h)
theorem cK_one {x : AV} (h : one x = true) (k : AV → Res) : cK x k = k x := by
  have := one_unk h
  cases x <;> first | rfl | exact absurd rfl this
theorem cK_sl {h : Hp} {P : Nat → Prop} {v : AV} {l : List AV} (hs : Sl h P v l) (k : AV → Res) : cK v k = k v := by
  rcases hs.2 with ⟨rfl, -⟩ | ⟨rfl, -⟩ | ⟨b, o, c, B, rfl, -⟩ <;> rfl
theorem one_sl {h : Hp} {P : Nat → Prop} {v : AV} {l : List AV} (hs : Sl h P v l) : one v = true := by
  rcases hs.2 with ⟨rfl, -⟩ | ⟨rfl, -⟩ | ⟨b, o, c, B, rfl, -⟩ <;> rfl

theorem lenL_sl {h : Hp} {P : Nat → Prop} {v : AV} {l : List AV} (hs : Sl h P v l) (k : AV → Res) : lenL v k = k (.int 63 (l.length : Int)) := by
  rcases hs.2 with ⟨rfl, rfl⟩ | ⟨rfl, rfl⟩ | ⟨b, o, c, B, rfl, -⟩ <;> rfl
theorem lenV_sl {h : Hp} {P : Nat → Prop} {v : AV} {l : List AV} (hs : Sl h P v l) (k : AV → Res) : lenV v k = k (.int 63 (l.length : Int)) := by
  rcases hs.2 with ⟨rfl, rfl⟩ | ⟨rfl, rfl⟩ | ⟨b, o, c, B, rfl, -⟩ <;> rfl

/-- An element. -/
theorem ix_sl {h : Hp} {P : Nat → Prop} {v : AV} {l : List AV} (hs : Sl h P v l) {c : Nat} (j : Nat) (hj : j < l.length) (k : AV → Res) : (ixA 1 v (.int c (j : Int)) fun a => ld1 h a k) = k l[j] := by
  rcases hs.2 with ⟨-, rfl⟩ | ⟨-, rfl⟩ | ⟨b, o, cc, B, rfl, h3, h4, h5, hc, h6⟩
  · simp at hj
  · simp at hj
  · have e : (ixA 1 (.sl b o l.length 1 cc) (.int c (j : Int)) fun a => ld1 h a k) = ifB (Nat.blt j l.length) (ifB (Nat.beq 1 1) (ld1 h (.ptr b (Nat.add o (Nat.mul j 1))) k) .fail) .fail := rfl
    rw [e, (blt_iff _ _).2 hj]
    have e2 : Nat.add o (Nat.mul j 1) = o + j := by show o + j * 1 = o + j; omega
    show ld1 h (.ptr b (Nat.add o (Nat.mul j 1))) k = k l[j]
    rw [e2, ld1_rd h4 (h6 j hj)]
    exact cK_one (hs.1 _ (List.getElem_mem hj)) k

theorem eqL_nil {h : Hp} {P : Nat → Prop} {v : AV} {l : List AV} (hs : Sl h P v l) (k : Bool → Res) : ∃ b, eqL v .nils k = k b ∧ (b = true → l = []) := by
  rcases hs.2 with ⟨rfl, rfl⟩ | ⟨rfl, rfl⟩ | ⟨b, o, c, B, rfl, -⟩
  · exact ⟨true, rfl, fun _ => rfl⟩
  · exact ⟨false, rfl, fun _ => rfl⟩
  · exact ⟨false, rfl, fun h => by cases h⟩

/-- What a slice hands to an append or a copy. -/
theorem src_sl {h : Hp} {P : Nat → Prop} {v : AV} {l : List AV} (hs : Sl h P v l) (k : Nat → AV → Res) : src h 1 v k = k l.length (avL l) := by
  rcases hs.2 with ⟨rfl, rfl⟩ | ⟨rfl, rfl⟩ | ⟨b, o, c, B, rfl, h3, h4, h5, hc, h6⟩
  · rfl
  · rfl
  · have e : src h 1 (.sl b o l.length 1 c) k = ifB (Nat.beq 1 1) (gb h b fun B => rds B (Nat.mul l.length 1) o fun t => k l.length t) .fail := rfl
    rw [e]
    show (gb h b fun B => rds B (Nat.mul l.length 1) o fun t => k l.length t) = _
    rw [gb_rd h4]
    have e2 : Nat.mul l.length 1 = l.length := Nat.mul_one _
    rw [e2, rds_list l o _ h6 (fun v hv => one_unk (hs.1 v hv))]

/-- x[lo:hi]. -/
theorem cut_sl {h : Hp} {P : Nat → Prop} {v : AV} {l : List AV} (hs : Sl h P v l) {c1 c2 : Nat} (lo hi : Nat) (h1 : lo ≤ hi) (h2 : hi ≤ l.length) :
    ∃ v', (∀ k : AV → Res, cutS 1 v (some (.int c1 (lo : Int))) (some (.int c2 (hi : Int))) none k = k v') ∧ Sl h P v' ((l.drop lo).take (hi - lo)) := by
  have hone : ∀ x ∈ (l.drop lo).take (hi - lo), one x = true := fun x hx => hs.1 x (List.mem_of_mem_drop (List.mem_of_mem_take hx))
  have hlen : ((l.drop lo).take (hi - lo)).length = hi - lo := by simp; omega
  have hget : ∀ i (hi' : i < ((l.drop lo).take (hi - lo)).length), ((l.drop lo).take (hi - lo))[i] = l[lo + i]'(by rw [hlen] at hi'; omega) := by
    intro i hi'; simp
  rcases hs.2 with ⟨rfl, rfl⟩ | ⟨rfl, rfl⟩ | ⟨b, o, c, B, rfl, h3, h4, h5, hc, h6⟩
  · have e0 : hi = 0 := by simpa using h2
    have e1 : lo = 0 := by omega
    subst e0
    subst e1
    exact ⟨.nils, fun k => rfl, by simp, .inl ⟨rfl, by simp⟩⟩
  · have e0 : hi = 0 := by simpa using h2
    have e1 : lo = 0 := by omega
    subst e0
    subst e1
    exact ⟨.esl, fun k => rfl, by simp, .inr (.inl ⟨rfl, by simp⟩)⟩
  · cases c with
    | none =>
      have e : ∀ k : AV → Res, cutS 1 (.sl b o l.length 1 none) (some (.int c1 (lo : Int))) (some (.int c2 (hi : Int))) none k =
          ifB (Nat.ble hi l.length) (ifB (Nat.ble lo hi) (ifB (Nat.beq lo 0) (k (.sl b o hi 1 none)) (ifB (Nat.blt lo l.length) (k (.sl b (Nat.add o (Nat.mul lo 1)) (Nat.sub hi lo) 1 none)) (k .esl))) .fail) .fail := fun k => rfl
      simp only [e, (ble_iff _ _).2 h2, (ble_iff _ _).2 h1, ifB_t]
      by_cases z : lo = 0
      · subst z
        refine ⟨_, fun k => rfl, hone, .inr (.inr ⟨b, o, none, B, by rw [hlen]; rfl, h3, h4, h5, (fun cap h => by cases h), fun i hi' => ?_⟩)⟩
        rw [hget i hi']
        simpa using h6 i (by rw [hlen] at hi'; omega)
      · have z' : Nat.beq lo 0 = false := by rw [Bool.eq_false_iff, ne_eq, beq_iff]; exact z
        simp only [z', ifB_f]
        by_cases y : lo < l.length
        · simp only [(blt_iff _ _).2 y, ifB_t]
          refine ⟨_, fun k => rfl, hone, .inr (.inr ⟨b, o + lo, none, B, ?_, h3, h4, h5, (fun cap h => by cases h), fun i hi' => ?_⟩)⟩
          · rw [hlen]; show AV.sl b (o + lo * 1) (hi - lo) 1 none = _; rw [Nat.mul_one]
          · rw [hget i hi', Nat.add_assoc]
            exact h6 (lo + i) (by rw [hlen] at hi'; omega)
        · have y' : Nat.blt lo l.length = false := by rw [Bool.eq_false_iff, ne_eq, blt_iff]; exact y
          simp only [y', ifB_f]
          exact ⟨_, fun k => rfl, hone, .inr (.inl ⟨rfl, by apply List.eq_nil_of_length_eq_zero; rw [hlen]; omega⟩)⟩
    | some cap =>
      have hcap := hc cap rfl
      have e : ∀ k : AV → Res, cutS 1 (.sl b o l.length 1 (some cap)) (some (.int c1 (lo : Int))) (some (.int c2 (hi : Int))) none k =
          ifB (Nat.ble cap cap) (ifB (Nat.ble hi cap) (ifB (Nat.ble lo hi) (k (.sl b (cutO o lo 1 cap) (Nat.sub hi lo) 1 (some (Nat.sub cap lo)))) .fail) .fail) .fail := fun k => rfl
      simp only [e, (ble_iff _ _).2 (Nat.le_refl _), (ble_iff _ _).2 (show hi ≤ cap by omega), (ble_iff _ _).2 h1, ifB_t]
      by_cases z : lo = cap
      · refine ⟨_, fun k => rfl, hone, .inr (.inr ⟨b, cutO o lo 1 cap, some (Nat.sub cap lo), B, by rw [hlen]; rfl, h3, h4, h5, (fun c' h => by cases h; rw [hlen]; show hi - lo ≤ cap - lo; omega), fun i hi' => ?_⟩)⟩
        rw [hlen] at hi'; omega
      · refine ⟨_, fun k => rfl, hone, .inr (.inr ⟨b, o + lo, some (Nat.sub cap lo), B, ?_, h3, h4, h5, (fun c' h => by cases h; rw [hlen]; show hi - lo ≤ cap - lo; omega), fun i hi' => ?_⟩)⟩
        · have : cutO o lo 1 cap = o + lo := by
            have e : cutO o lo 1 cap = Bool.rec (motive := fun _ => Nat) (o + lo * 1) o (Nat.beq cap lo) := rfl
            rw [e, recB, if_neg (by rw [beq_iff]; omega)]; omega
          rw [hlen, this]; rfl
        · rw [hget i hi', Nat.add_assoc]
          exact h6 (lo + i) (by rw [hlen] at hi'; omega)

/-- A slice that grows: its blocks are those from N on. -/
def Gr (h : Hp) (N : Nat) (v : AV) (l : List AV) : Prop :=
  Sl h (fun b => N ≤ b) v l ∧ (v = .nils ∨ (∃ b, v = .sl b 0 0 1 (some 0) ∧ l = []) ∨ ∃ b B, v = .sl b 0 l.length 1 none ∧ h.bs.get b = some B ∧ B.fr = true ∧ l.length ≤ B.lim)

theorem new_sl {h : Hp} {N : Nat} (hN : N ≤ h.nb) (hw : Wf h) {m : List AV} (hm : ∀ x ∈ m, one x = true) :
    ∃ v' h', (∀ k : AV → Hp → Res, grown h 1 m.length (avL m) k = k v' h') ∧ Gr h' N v' m ∧ To No h h' := by
  obtain ⟨t, h1, h2⟩ := lay_list m .e 0 hm
  have e2 : Nat.beq (0 + m.length) (Nat.mul m.length 1) = true := by rw [beq_iff]; show 0 + m.length = m.length * 1; omega
  have hrun : ∀ k : AV → Hp → Res, grown h 1 m.length (avL m) k = k (.sl h.nb 0 m.length 1 none) (nw h (0 + m.length) .nil t) := fun k => by
    have e : grown h 1 m.length (avL m) k = lay (avL m) .e 0 fun t j => ifB (Nat.beq j (Nat.mul m.length 1)) (k (.sl h.nb 0 m.length 1 none) (nw h j .nil t)) .fail := rfl
    rw [e, h1, e2, ifB_t]
  obtain ⟨o1, o2⟩ := nw_own hw (0 + m.length) .nil t
  have hat : ∀ i (hi : i < m.length), (⟨true, h.nb, 0 + m.length, .nil, t⟩ : Blk).at (0 + i) = m[i] := by
    intro i hi
    rw [at_in _ (show 0 + i < 0 + m.length by omega)]
    simp only [h2 (0 + i)]
    rw [dif_pos ⟨by omega, by omega⟩]
    simp
  exact ⟨_, _, hrun, ⟨⟨hm, .inr (.inr ⟨h.nb, 0, none, _, rfl, hN, o1.rd, fun _ => hN, (fun c h => by cases h), hat⟩)⟩, .inr (.inr ⟨_, _, rfl, o1.get, rfl, by show m.length ≤ 0 + m.length; omega⟩)⟩, o2⟩

theorem apd_gr {h : Hp} {N : Nat} {v y : AV} {l m : List AV} {P : Nat → Prop} {by_ : Nat} (hN : N ≤ h.nb) (hw : Wf h) (hv : Gr h N v l) (hy : Sl h P y m) (hb : (l.length + m.length) * by_ ≤ 140737488355328) (hb2 : l.length + m.length ≤ 9223372036854775807)
    : ∃ v' h', (∀ k : AV → Hp → Res, apd h 1 by_ v y k = k v' h') ∧ Gr h' N v' (l ++ m) ∧ To (fun b => N ≤ b) h h' := by
  have noTo : ∀ {h'}, To No h h' → To (fun b => N ≤ b) h h' := fun ht => ht.mono fun _ _ f => f.elim
  obtain ⟨hs, hform⟩ := hv
  by_cases hm0 : m = []
  · subst hm0
    refine ⟨v, h, fun k => ?_, by rw [List.append_nil]; exact ⟨hs, hform⟩, To.refl _ _⟩
    unfold apd
    rw [src_sl hy]
    rcases hform with rfl | ⟨b, rfl, -⟩ | ⟨b, B, rfl, -⟩ <;> rfl
  · have hml : Nat.beq m.length 0 = false := by
      rw [Bool.eq_false_iff, ne_eq, beq_iff]
      intro h0; exact hm0 (List.eq_nil_of_length_eq_zero h0)
    have g1 : Nat.ble (Nat.mul m.length by_) 140737488355328 = true := by
      rw [ble_iff]; refine Nat.le_trans ?_ hb; exact Nat.mul_le_mul_right _ (Nat.le_add_left _ _)
    have g2 : Nat.ble m.length 9223372036854775807 = true := by rw [ble_iff]; omega
    have fresh : l = [] → (∀ k : AV → Hp → Res, apd h 1 by_ v y k = grown h 1 m.length (avL m) k) → ∃ v' h', (∀ k : AV → Hp → Res, apd h 1 by_ v y k = k v' h') ∧ Gr h' N v' (l ++ m) ∧ To (fun b => N ≤ b) h h' := by
      intro hl hr
      obtain ⟨v', h', e1, e2, e3⟩ := new_sl hN hw hy.1
      exact ⟨v', h', fun k => (hr k).trans (e1 k), by rw [hl]; exact e2, noTo e3⟩
    rcases hform with rfl | ⟨b, rfl, rfl⟩ | ⟨b, B, rfl, hget, hfr, hlim⟩
    · have hl : l = [] := by rcases hs.2 with ⟨-, e⟩ | ⟨e, -⟩ | ⟨_, _, _, _, e, -⟩ <;> first | exact e | cases e
      refine fresh hl fun k => ?_
      unfold apd
      rw [src_sl hy]
      show ifB (Nat.beq m.length 0) _ (ifB (Nat.ble (Nat.mul m.length by_) 140737488355328) (ifB (Nat.ble m.length 9223372036854775807) (grown h 1 m.length (avL m) k) .fail) .fail) = _
      rw [hml, g1, g2]; rfl
    · refine fresh rfl fun k => ?_
      unfold apd
      rw [src_sl hy]
      rcases hs.2 with ⟨e, -⟩ | ⟨e, -⟩ | ⟨b', o', c', B, e, h3, h4, h5, hc, h6⟩
      · cases e
      · cases e
      · cases e
        show ifB (Nat.beq 1 1) (ifB (Nat.beq m.length 0) _ (ifB (Nat.ble (Nat.mul (Nat.add 0 m.length) by_) 140737488355328) (ifB (Nat.ble (Nat.add 0 m.length) 9223372036854775807) (ifB (Nat.ble (Nat.add 0 m.length) 0) _ (gb h b fun B => rds B (Nat.mul 0 1) 0 fun old => grown h 1 (Nat.add 0 m.length) (app old (avL m)) k)) .fail) .fail)) .fail = _
        have e0 : Nat.add 0 m.length = m.length := Nat.zero_add _
        have e1 : Nat.ble m.length 0 = false := by
          rw [Bool.eq_false_iff, ne_eq, ble_iff]
          intro h0; exact hm0 (List.eq_nil_of_length_eq_zero (by omega))
        rw [e0, hml, g1, g2, e1]
        show (gb h b fun B => rds B (Nat.mul 0 1) 0 fun old => grown h 1 m.length (app old (avL m)) k) = _
        rw [gb_rd h4]
        rfl
    · rcases hs.2 with ⟨e, -⟩ | ⟨e, -⟩ | ⟨b', o', c', B', e, h3, h4, h5, hc, h6⟩
      · cases e
      · cases e
      · cases e
        obtain rfl : B = B' := by rw [h4.get] at hget; exact (Option.some.inj hget).symm
        have hat : ∀ i (hi : i < l.length), B.at i = l[i] := fun i hi => by have := h6 i hi; rwa [Nat.zero_add] at this
        obtain ⟨t, t1, t2⟩ := lay_list m B.cs l.length hy.1
        have hall : ∀ x ∈ l ++ m, one x = true := fun x hx => by
          rcases List.mem_append.1 hx with hx | hx
          · exact hs.1 x hx
          · exact hy.1 x hx
        generalize hold : ifN (h.grp B.g).1 b B.lim (Nat.mul l.length 1) (h.grp B.g).2 h.nb = old
        have hle : old ≤ h.nb := by
          have q := (h4.grp hfr).2
          have hlt := h4.lt
          have e : ifN (h.grp B.g).1 b B.lim (Nat.mul l.length 1) (h.grp B.g).2 h.nb = Bool.rec (motive := fun _ => Nat) h.nb (Bool.rec (motive := fun _ => Nat) h.nb (h.grp B.g).2 (Nat.ble B.lim (Nat.mul l.length 1))) (Nat.beq (h.grp B.g).1 b) := rfl
          rw [← hold, e, recB, recB]
          split
          · split
            · omega
            · exact Nat.le_refl _
          · exact Nat.le_refl _
        have hrun : ∀ k : AV → Hp → Res, apd h 1 by_ (.sl b 0 l.length 1 none) y k = k (.sl h.nb 0 (l.length + m.length) 1 none) ⟨Nat.succ h.nb, h.bs.set ⟨true, B.g, l.length + m.length, B.df, t⟩ h.nb, h.gs.set (h.nb, old) B.g, h.ms⟩ := fun k => by
          unfold apd
          rw [src_sl hy]
          show ifB (Nat.beq 1 1) (ifB (Nat.beq m.length 0) _ (ifB (Nat.ble (Nat.mul (Nat.add l.length m.length) by_) 140737488355328) (ifB (Nat.ble (Nat.add l.length m.length) 9223372036854775807)
            (gb h b fun B => ifB B.fr (ifB (Nat.beq 0 0) (lay (avL m) B.cs (Nat.mul l.length 1) fun t e => ifB (Nat.beq e (Nat.mul (Nat.add l.length m.length) 1)) (ifB (Nat.ble (Nat.mul l.length 1) B.lim)
              (k (.sl h.nb 0 (Nat.add l.length m.length) 1 none) ⟨Nat.succ h.nb, h.bs.set ⟨true, B.g, e, B.df, t⟩ h.nb, h.gs.set (h.nb, ifN (h.grp B.g).1 b B.lim (Nat.mul l.length 1) (h.grp B.g).2 h.nb) B.g, h.ms⟩) .fail) .fail) _) .fail) .fail) .fail)) .fail = _
          have e1 : Nat.ble (Nat.mul (Nat.add l.length m.length) by_) 140737488355328 = true := by rw [ble_iff]; exact hb
          have e2 : Nat.ble (Nat.add l.length m.length) 9223372036854775807 = true := by rw [ble_iff]; exact hb2
          rw [hml, e1, e2]
          show (gb h b fun B => ifB B.fr (ifB (Nat.beq 0 0) (lay (avL m) B.cs (Nat.mul l.length 1) fun t e => ifB (Nat.beq e (Nat.mul (Nat.add l.length m.length) 1)) (ifB (Nat.ble (Nat.mul l.length 1) B.lim)
              (k (.sl h.nb 0 (Nat.add l.length m.length) 1 none) ⟨Nat.succ h.nb, h.bs.set ⟨true, B.g, e, B.df, t⟩ h.nb, h.gs.set (h.nb, ifN (h.grp B.g).1 b B.lim (Nat.mul l.length 1) (h.grp B.g).2 h.nb) B.g, h.ms⟩) .fail) .fail) _) .fail) = _
          rw [gb_rd h4, hfr, ifB_t]
          show (lay (avL m) B.cs (Nat.mul l.length 1) fun t e => ifB (Nat.beq e (Nat.mul (Nat.add l.length m.length) 1)) (ifB (Nat.ble (Nat.mul l.length 1) B.lim)
              (k (.sl h.nb 0 (Nat.add l.length m.length) 1 none) ⟨Nat.succ h.nb, h.bs.set ⟨true, B.g, e, B.df, t⟩ h.nb, h.gs.set (h.nb, ifN (h.grp B.g).1 b B.lim (Nat.mul l.length 1) (h.grp B.g).2 h.nb) B.g, h.ms⟩) .fail) .fail) = _
          rw [hold]
          have e3 : Nat.mul l.length 1 = l.length := Nat.mul_one _
          have e4 : Nat.mul (Nat.add l.length m.length) 1 = l.length + m.length := Nat.mul_one _
          rw [e3, e4, t1, (beq_iff _ _).2 rfl, (ble_iff _ _).2 hlim]
          rfl
        have hget2 : ∀ x, (h.bs.set ⟨true, B.g, l.length + m.length, B.df, t⟩ h.nb).get x = if x = h.nb then some ⟨true, B.g, l.length + m.length, B.df, t⟩ else h.bs.get x := fun x => T.get_set _ _ _ _
        have hgs2 : ∀ x, (h.gs.set (h.nb, old) B.g).get x = if x = B.g then some (h.nb, old) else h.gs.get x := fun x => T.get_set _ _ _ _
        have hBg := h4.grp hfr
        have hPg : N ≤ B.g := h5 hfr
        refine ⟨_, _, hrun, ⟨⟨hall, .inr (.inr ⟨h.nb, 0, none, ⟨true, B.g, l.length + m.length, B.df, t⟩, by rw [List.length_append], hN, ⟨by rw [hget2, if_pos rfl], Nat.lt_succ_self _, fun _ => ⟨Nat.lt_succ_of_lt hBg.1, ?_⟩⟩, fun _ => hPg, (fun c h => by cases h), fun i hi => ?_⟩)⟩,
          .inr (.inr ⟨h.nb, _, by rw [List.length_append], by rw [hget2, if_pos rfl], rfl, by rw [List.length_append]; exact Nat.le_refl _⟩)⟩, ⟨Nat.le_succ _, fun x hx hn => ?_, fun x hx hn => ?_, fun hn g hg => ?_⟩⟩
        · show (Hp.grp ⟨_, _, h.gs.set (h.nb, old) B.g, _⟩ B.g).2 ≤ h.nb
          simp only [Hp.grp, hgs2, if_pos]
          exact hle
        · rw [List.length_append] at hi
          rw [Nat.zero_add, at_in _ (show i < l.length + m.length from hi)]
          simp only [t2 i]
          by_cases c : l.length ≤ i
          · rw [dif_pos ⟨c, by omega⟩, List.getElem_append_right c]
          · rw [dif_neg (by omega), List.getElem_append_left (by omega)]
            have := hat i (by omega)
            rw [at_in B (by omega)] at this
            exact this
        · rw [hget2, if_neg (by omega)]
        · show (h.gs.set (h.nb, old) B.g).get x = _
          rw [hgs2, if_neg (fun e => hn (by rw [e]; exact hPg))]
        · show (h.gs.set (h.nb, old) B.g).get g = none
          have hg : h.nb + 1 ≤ g := hg
          rw [hgs2, if_neg (by omega)]
          exact hn g (by omega)
end Go.AM
