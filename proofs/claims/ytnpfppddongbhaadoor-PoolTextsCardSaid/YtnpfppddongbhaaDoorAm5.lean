/-
  The abstract machine, part 5: comparisons, conversions, texts, and the operations on aggregates, addresses and slices that leave memory alone.
-/
import Derived.Test.YtnpfppddongbhaaDoorAm4
namespace Go.AM
open Go
set_option autoImplicit false

section
variable {P : Program} {ρ : Rho} {x y : AV} {X Y : Value} {r : Res}

/-- What is known of two values that are held against each other. -/
structure EqRun (P : Program) (t : TypeId) (X Y : Value) (b : Bool) : Prop where
  eql : ∀ w, (binOp .eql t X Y).run P w = .ok (.bool b) w
  neq : ∀ w, (binOp .neq t X Y).run P w = .ok (.bool (!b)) w
  agg : ∀ z, X ≠ .agg z
  nili : X ≠ .nilIface

theorem run_und {t : TypeId} {d : TypeDesc} (h : P.underlying t = some d) (w : World) : (underlying t).run P w = .ok d w := run_underlying h w

theorem ptr_form {b o : Nat} (h : VR ρ (.ptr b o) X) : ∃ a, X = .pointer (some a) := by obtain ⟨p, _, rfl⟩ := h; exact ⟨_, rfl⟩
theorem sl_form {b o n z : Nat} {c : Option Nat} (h : VR ρ (.sl b o n z c) X) : ∃ a n c, X = .slice (some a) n c := by obtain ⟨p, c', _, rfl, _⟩ := h; exact ⟨_, _, _, rfl⟩
theorem esl_form (h : VR ρ .esl X) : ∃ a n c, X = .slice (some a) n c := by obtain ⟨a, c', rfl⟩ := h; exact ⟨_, _, _, rfl⟩

theorem eqIn_ptr (d : Nat) {t e : TypeId} (hu : P.underlying t = some (.pointer e)) (a b : Option Addr) (h : a = none ∨ b = none) (w : World) :
    (Op.equalIn (d + 1) t (.pointer a) (.pointer b)).run P w = .ok (a.isNone && b.isNone) w := by
  rcases h with rfl | rfl <;> (try cases a) <;> (try cases b) <;> simp [Op.equalIn, run_und hu]
theorem eqIn_sl (d : Nat) {t e : TypeId} (hu : P.underlying t = some (.slice e)) (a b : Option Addr) (n c m k : Nat) (h : a = none ∨ b = none) (w : World) :
    (Op.equalIn (d + 1) t (.slice a n c) (.slice b m k)).run P w = .ok (a.isNone && b.isNone) w := by
  rcases h with rfl | rfl <;> (try cases a) <;> (try cases b) <;> simp [Op.equalIn, run_und hu]
theorem eqrun_of {t : TypeId} {b : Bool} (h : ∀ w, (Op.equal t X Y).run P w = .ok b w)
    (he : binOp .eql t X Y = (do pure (.bool (← Op.equal t X Y)))) (hn : binOp .neq t X Y = (do pure (.bool (!(← Op.equal t X Y))))) (ha : ∀ z, X ≠ .agg z) (hi : X ≠ .nilIface) : EqRun P t X Y b where
  eql := fun w => by rw [he, Sem.run_bind, h w]; rfl
  neq := fun w => by rw [hn, Sem.run_bind, h w]; rfl
  agg := ha
  nili := hi
theorem eqrun_ptr {t e : TypeId} (hu : P.underlying t = some (.pointer e)) (a b : Option Addr) (h : a = none ∨ b = none) : EqRun P t (.pointer a) (.pointer b) (a.isNone && b.isNone) :=
  eqrun_of (fun w => eqIn_ptr 9999 hu a b h w) rfl rfl (by simp) (by simp)
theorem eqrun_sl {t e : TypeId} (hu : P.underlying t = some (.slice e)) (a b : Option Addr) (n c m k : Nat) (h : a = none ∨ b = none) : EqRun P t (.slice a n c) (.slice b m k) (a.isNone && b.isNone) :=
  eqrun_of (fun w => eqIn_sl 9999 hu a b n c m k h w) rfl rfl (by simp) (by simp)

theorem eqAt_inv {t : TypeId} {k : Bool → Res} (h : eqAt P t x y k = r) (hr : r ≠ .fail) (hx : VR ρ x X) (hy : VR ρ y Y) : ∃ b, k b = r ∧ EqRun P t X Y b := by
  unfold eqAt at h
  split at h
  · rename_i hu
    obtain ⟨a, rfl, h1⟩ := cB_inv h hr
    obtain ⟨b, rfl, h2⟩ := cB_inv h1 hr
    have hx : X = .bool a := hx
    have hy : Y = .bool b := hy
    subst hx hy
    refine ⟨_, h2, fun w => ?_, fun w => ?_, by simp, by simp⟩
    · rw [run_eql_bool w t a b hu, beqB_eq]
    · rw [run_neq_bool w t a b hu, beqB_eq]
  · rename_i kk hu
    obtain ⟨c, a, b, rfl, rfl, h1⟩ := bin2_inv h hr
    obtain ⟨kd, rfl, rfl, rfl⟩ := int2 hx hy
    refine ⟨_, h1, fun w => ?_, fun w => ?_, by simp, by simp⟩
    · rw [binOp_eql, eqI_eq]; rfl
    · rw [binOp_neq, eqI_eq]; rfl
  · rename_i hu
    obtain ⟨n, a, rfl, h1⟩ := cS_inv h hr
    obtain ⟨m, b, rfl, h2⟩ := cS_inv h1 hr
    obtain ⟨s, rfl, rfl, rfl⟩ := hx
    obtain ⟨s', rfl, rfl, rfl⟩ := hy
    refine ⟨_, h2, fun w => ?_, fun w => ?_, by simp, by simp⟩
    · rw [binOp_string_eql, sEq_eq]; rfl
    · rw [binOp_string_neq, sEq_eq]; rfl
  · rename_i e hu
    cases x with
    | nilp =>
      cases y with
      | nilp => exact ⟨_, h, by have hx : X = .pointer none := hx; have hy : Y = .pointer none := hy; subst hx hy; exact eqrun_ptr hu none none (.inl rfl)⟩
      | ptr b o => exact ⟨_, h, by have hx : X = .pointer none := hx; obtain ⟨a, hy⟩ := ptr_form hy; subst hx hy; exact eqrun_ptr hu none (some a) (.inl rfl)⟩
      | _ => exact absurd h.symm hr
    | ptr b o =>
      cases y with
      | nilp => exact ⟨_, h, by have hy : Y = .pointer none := hy; obtain ⟨a, hx⟩ := ptr_form hx; subst hx hy; exact eqrun_ptr hu (some a) none (.inr rfl)⟩
      | _ => exact absurd h.symm hr
    | _ => exact absurd h.symm hr
  · rename_i e hu
    cases x with
    | nils =>
      have hx : X = .slice none 0 0 := hx
      cases y with
      | nils => exact ⟨_, h, by have hy : Y = .slice none 0 0 := hy; subst hx hy; exact eqrun_sl hu none none _ _ _ _ (.inl rfl)⟩
      | sl b o n z c => exact ⟨_, h, by obtain ⟨a, n, c, hy⟩ := sl_form hy; subst hx hy; exact eqrun_sl hu none (some a) _ _ _ _ (.inl rfl)⟩
      | esl => exact ⟨_, h, by obtain ⟨a, n, c, hy⟩ := esl_form hy; subst hx hy; exact eqrun_sl hu none (some a) _ _ _ _ (.inl rfl)⟩
      | _ => exact absurd h.symm hr
    | sl b o n z c =>
      cases y with
      | nils => exact ⟨_, h, by have hy : Y = .slice none 0 0 := hy; obtain ⟨a, n, c, hx⟩ := sl_form hx; subst hx hy; exact eqrun_sl hu (some a) none _ _ _ _ (.inr rfl)⟩
      | _ => exact absurd h.symm hr
    | esl =>
      cases y with
      | nils => exact ⟨_, h, by have hy : Y = .slice none 0 0 := hy; obtain ⟨a, n, c, hx⟩ := esl_form hx; subst hx hy; exact eqrun_sl hu (some a) none _ _ _ _ (.inr rfl)⟩
      | _ => exact absurd h.symm hr
    | _ => exact absurd h.symm hr
  · exact absurd h.symm hr

/-- The step of 'strLt', with its fuel open. -/
noncomputable def strLtF (f : Nat) : Nat → Nat → Nat → Nat → Bool :=
  Nat.rec (motive := fun _ => Nat → Nat → Nat → Nat → Bool) (fun _ _ _ _ => false)
    (fun _ ih x y nx ny => Nat.rec (motive := fun _ => Bool) false
      (fun ny' _ => Nat.rec (motive := fun _ => Bool) true
        (fun nx' _ => Bool.rec (motive := fun _ => Bool)
          (Bool.rec (motive := fun _ => Bool) false (ih (Nat.div x 256) (Nat.div y 256) nx' ny') (Nat.beq (Nat.mod x 256) (Nat.mod y 256)))
          true (Nat.blt (Nat.mod x 256) (Nat.mod y 256))) nx) ny) f

theorem strLtF_eq : ∀ (m l : List UInt8) (f : Nat), m.length < f → strLtF f (packB l) (packB m) l.length m.length = Op.bytesLess l m := by
  intro m
  induction m with
  | nil =>
    intro l f hf
    cases f with
    | zero => simp at hf
    | succ f => cases l <;> rfl
  | cons c m ih =>
    intro l f hf
    cases f with
    | zero => simp at hf
    | succ f =>
      cases l with
      | nil => rfl
      | cons b l =>
        have h1 : packB (b :: l) = b.toNat + 256 * packB l := rfl
        have h2 : packB (c :: m) = c.toNat + 256 * packB m := rfl
        have hb := b.toNat_lt
        have hc := c.toNat_lt
        have d1 : (b.toNat + 256 * packB l) / 256 = packB l := by omega
        have d2 : (c.toNat + 256 * packB m) / 256 = packB m := by omega
        have m1 : (b.toNat + 256 * packB l) % 256 = b.toNat := by omega
        have m2 : (c.toNat + 256 * packB m) % 256 = c.toNat := by omega
        have hs : strLtF (f + 1) (packB (b :: l)) (packB (c :: m)) (l.length + 1) (m.length + 1) =
          Bool.rec (motive := fun _ => Bool) (Bool.rec (motive := fun _ => Bool) false (strLtF f (packB (b :: l) / 256) (packB (c :: m) / 256) l.length m.length) (Nat.beq (packB (b :: l) % 256) (packB (c :: m) % 256))) true (Nat.blt (packB (b :: l) % 256) (packB (c :: m) % 256)) := rfl
        rw [List.length_cons, List.length_cons, hs, h1, h2, d1, d2, m1, m2, ih l f (by simpa using hf), recB, recB]
        simp only [blt_iff, beq_iff, Op.bytesLess]
        have e1 : (b < c) ↔ b.toNat < c.toNat := UInt8.lt_iff_toNat_lt
        have e2 : (b == c) = decide (b.toNat = c.toNat) := by rw [Bool.eq_iff_iff]; simp [UInt8.toNat_inj]
        rw [e2]
        by_cases hlt : b.toNat < c.toNat
        · rw [if_pos hlt]; simp [e1, hlt]
        · rw [if_neg hlt]
          by_cases heq : b.toNat = c.toNat
          · rw [if_pos heq]; simp [e1, heq]
          · rw [if_neg heq]; simp [e1, hlt, heq]

theorem strLt_eq (a b : ByteArray) : strLt (packB a.data.toList) (packB b.data.toList) a.data.size b.data.size = Op.bytesLess a.toList b.toList := by
  have h : strLt (packB a.data.toList) (packB b.data.toList) a.data.size b.data.size = strLtF (b.data.size + 1) (packB a.data.toList) (packB b.data.toList) a.data.size b.data.size := rfl
  have := strLtF_eq b.data.toList a.data.toList (b.data.size + 1) (by simp)
  simp only [Array.length_toList] at this
  rw [h, ByteArray.toList_eq, ByteArray.toList_eq, this]

theorem ltAt_inv {t : TypeId} {k : Bool → Res} (h : ltAt P t x y k = r) (hr : r ≠ .fail) (hx : VR ρ x X) (hy : VR ρ y Y) :
    (∃ c a b kd, cOf kd = c ∧ X = .int kd a ∧ Y = .int kd b ∧ k (decide (a < b)) = r) ∨
    (∃ s s' : ByteArray, X = .string s ∧ Y = .string s' ∧ k (Op.bytesLess s.toList s'.toList) = r) := by
  unfold ltAt at h
  split at h
  · obtain ⟨c, a, b, rfl, rfl, h1⟩ := bin2_inv h hr
    obtain ⟨kd, rfl, rfl, rfl⟩ := int2 hx hy
    rw [ltI_eq] at h1
    exact .inl ⟨_, a, b, kd, rfl, rfl, rfl, h1⟩
  · obtain ⟨n, a, rfl, h1⟩ := cS_inv h hr
    obtain ⟨m, b, rfl, h2⟩ := cS_inv h1 hr
    obtain ⟨s, rfl, rfl, rfl⟩ := hx
    obtain ⟨s', rfl, rfl, rfl⟩ := hy
    rw [strLt_eq] at h2
    exact .inr ⟨s, s', rfl, rfl, h2⟩
  · exact absurd h.symm hr
end
end Go.AM
