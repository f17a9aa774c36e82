/-
  The abstract machine, part 26 (between 23 and 24): regions with a drawn order: the single operations.
-/
import Derived.Test.YtnpfppddongbhaaDoorAm23
import Derived.OrdersHeld
namespace Go.AM
open Go
set_option autoImplicit false

theorem bAnd_iff (a b : Bool) : bAnd a b = true ↔ a = true ∧ b = true := by cases a <;> cases b <;> decide

section
variable {ρ : Rho}

theorem packB_inj' {a b : ByteArray} (h1 : a.data.size = b.data.size) (h2 : packB a.data.toList = packB b.data.toList) : a = b := by
  have := packB_inj a.data.toList b.data.toList (by simpa using h1) h2
  have hd : a.data = b.data := Array.toList_inj.1 this
  cases a; cases b; simp_all

/-- What is surely the same stands for one value only. -/
theorem eqAV_det : ∀ (x y : AV), eqAV x y = true → (∀ V V', VR ρ x V → VR ρ y V' → V = V') ∧ (∀ l l', LR ρ x l → LR ρ y l' → l = l') := by
  intro x
  induction x with
  | bool b =>
    intro y e
    cases y <;> first
      | exact Bool.noConfusion (show false = true from e)
      | skip
    rename_i b'
    replace e : beqB b b' = true := e
    have : b = b' := by revert e; cases b <;> cases b' <;> decide
    subst this
    refine ⟨fun V V' h h' => ?_, fun l l' h => h.elim⟩
    have h : V = .bool b := h
    have h' : V' = .bool b := h'
    rw [h, h']
  | int c n =>
    intro y e
    cases y <;> first
      | exact Bool.noConfusion (show false = true from e)
      | skip
    rename_i c' n'
    replace e : bAnd (Nat.beq c c') (eqI n n') = true := e
    rw [bAnd_iff, beq_iff, eqI_eq] at e
    have hn : n = n' := by simpa using e.2
    obtain ⟨rfl, -⟩ := e
    subst hn
    refine ⟨fun V V' h h' => ?_, fun l l' h => h.elim⟩
    obtain ⟨k, e1, rfl⟩ := h
    obtain ⟨k', e2, rfl⟩ := h'
    rw [cOf_k e1 e2]
  | str n x =>
    intro y e
    cases y <;> first
      | exact Bool.noConfusion (show false = true from e)
      | skip
    rename_i n' x'
    replace e : sEq n x n' x' = true := e
    replace e : Bool.rec (motive := fun _ => Bool) false (Nat.beq x x') (Nat.beq n n') = true := e
    rw [recB] at e
    simp only [beq_iff] at e
    have h1 : n = n' := by
      by_cases h : n = n'
      · exact h
      · rw [if_neg h] at e; cases e
    rw [if_pos h1, beq_iff] at e
    subst h1
    subst e
    refine ⟨fun V V' h h' => ?_, fun l l' h => h.elim⟩
    obtain ⟨s, rfl, h1, h2⟩ := h
    obtain ⟨s', rfl, h3, h4⟩ := h'
    rw [packB_inj' (h1.trans h3.symm) (h2.trans h4.symm)]
  | ptr b o =>
    intro y e
    cases y <;> first
      | exact Bool.noConfusion (show false = true from e)
      | skip
    rename_i b' o'
    replace e : bAnd (Nat.beq b b') (Nat.beq o o') = true := e
    rw [bAnd_iff, beq_iff, beq_iff] at e
    obtain ⟨rfl, rfl⟩ := e
    refine ⟨fun V V' h h' => ?_, fun l l' h => h.elim⟩
    obtain ⟨p, e1, rfl⟩ := h
    obtain ⟨p', e2, rfl⟩ := h'
    rw [e1] at e2
    obtain rfl := Option.some.inj e2
    rfl
  | sl b o n z c =>
    intro y e
    cases y <;> first
      | exact Bool.noConfusion (show false = true from e)
      | skip
    rename_i b' o' n' z' c'
    replace e : bAnd (Nat.beq b b') (bAnd (Nat.beq o o') (bAnd (Nat.beq n n') (bAnd (Nat.beq z z') (optEq z c c')))) = true := e
    rw [bAnd_iff, bAnd_iff, bAnd_iff, bAnd_iff, beq_iff, beq_iff, beq_iff, beq_iff] at e
    obtain ⟨rfl, rfl, rfl, rfl, e⟩ := e
    refine ⟨fun V V' h h' => ?_, fun l l' h => h.elim⟩
    obtain ⟨p, d, e1, rfl, -, e2, -⟩ := h
    obtain ⟨p', d', e3, rfl, -, e4, -⟩ := h'
    rw [e1] at e3
    obtain rfl := Option.some.inj e3
    have : d = d' := by
      cases c with
      | none =>
        cases c' with
        | none =>
          replace e : Nat.blt 0 z = true := e
          rw [blt_iff] at e
          rcases e2 with ⟨-, e2⟩ | e2
          · rcases e4 with ⟨-, e4⟩ | e4
            · exact Nat.eq_of_mul_eq_mul_right e (by omega)
            · cases e4
          · cases e2
        | some m => cases e
      | some m =>
        cases c' with
        | none => cases e
        | some m' =>
          replace e : Nat.beq m m' = true := e
          rw [beq_iff] at e
          subst e
          rcases e2 with ⟨e2, -⟩ | e2
          · cases e2
          · rcases e4 with ⟨e4, -⟩ | e4
            · cases e4
            · rw [e2] at e4; exact Option.some.inj e4
    rw [this]
  | ifc t v ih =>
    intro y e
    cases y <;> first
      | exact Bool.noConfusion (show false = true from e)
      | skip
    rename_i t' v'
    replace e : bAnd (Nat.beq t t') (eqAV v v') = true := e
    rw [bAnd_iff, beq_iff] at e
    obtain ⟨rfl, e⟩ := e
    refine ⟨fun V V' h h' => ?_, fun l l' h => h.elim⟩
    obtain ⟨W, rfl, h1⟩ := h
    obtain ⟨W', rfl, h2⟩ := h'
    rw [(ih v' e).1 W W' h1 h2]
  | map b =>
    intro y e
    cases y <;> first
      | exact Bool.noConfusion (show false = true from e)
      | skip
    rename_i b'
    replace e : Nat.beq b b' = true := e
    rw [beq_iff] at e
    subst e
    refine ⟨fun V V' h h' => ?_, fun l l' h => h.elim⟩
    obtain ⟨p, e1, rfl⟩ := h
    obtain ⟨p', e2, rfl⟩ := h'
    rw [e1] at e2
    obtain rfl := Option.some.inj e2
    rfl
  | agg v ih =>
    intro y e
    cases y <;> first
      | exact Bool.noConfusion (show false = true from e)
      | skip
    rename_i v'
    replace e : eqAV v v' = true := e
    refine ⟨fun V V' h h' => ?_, fun l l' h => h.elim⟩
    obtain ⟨W, rfl, h1⟩ := h
    obtain ⟨W', rfl, h2⟩ := h'
    rw [Array.toList_inj.1 ((ih v' e).2 _ _ h1 h2)]
  | tup v ih =>
    intro y e
    cases y <;> first
      | exact Bool.noConfusion (show false = true from e)
      | skip
    rename_i v'
    replace e : eqAV v v' = true := e
    refine ⟨fun V V' h h' => ?_, fun l l' h => h.elim⟩
    obtain ⟨W, rfl, h1⟩ := h
    obtain ⟨W', rfl, h2⟩ := h'
    rw [Array.toList_inj.1 ((ih v' e).2 _ _ h1 h2)]
  | cons h t ihh iht =>
    intro y e
    cases y <;> first
      | exact Bool.noConfusion (show false = true from e)
      | skip
    rename_i h' t'
    replace e : bAnd (eqAV h h') (eqAV t t') = true := e
    rw [bAnd_iff] at e
    refine ⟨fun V V' h => h.elim, fun l l' g g' => ?_⟩
    obtain ⟨V, m, rfl, g1, g2⟩ := g
    obtain ⟨V', m', rfl, g3, g4⟩ := g'
    rw [(ihh h' e.1).1 V V' g1 g3, (iht t' e.2).2 m m' g2 g4]
  | nil =>
    intro y e
    cases y <;> first
      | exact Bool.noConfusion (show false = true from e)
      | skip
    refine ⟨fun V V' h => h.elim, fun l l' g g' => ?_⟩
    have g : l = [] := g
    have g' : l' = [] := g'
    rw [g, g']
  | _ =>
    intro y e
    cases y <;> first
      | exact Bool.noConfusion (show false = true from e)
      | exact ⟨fun V V' h h' => (show V = _ from h).trans (show V' = _ from h').symm, fun l l' h => h.elim⟩
end
end Go.AM
