/-
  Texts of class files, part 7: reckoned by the abstract machine.
-/
import Derived.Test.YtnpfppddongbhaaMu6
namespace Go.Proofs.Ytnpfppddongbhaa
open Go Go.AM
set_option autoImplicit false
set_option linter.unusedSimpArgs false
set_option linter.unusedVariables false
/-! ### two texts, one behind the other -/
theorem fuel (n : Nat) (Y : Nat → Nat) : ∀ (f g i : Nat), n - i ≤ f → n - i ≤ g → dec n Y f i = dec n Y g i := by
  intro f
  induction f with
  | zero =>
    intro g i hf hg
    cases g with
    | zero => rfl
    | succ g => unfold dec; rw [if_neg (by omega)]
  | succ f ih =>
    intro g i hf hg
    cases g with
    | zero => unfold dec; rw [if_neg (by omega)]
    | succ g =>
      unfold dec
      by_cases hi : i < n
      · rw [if_pos hi, if_pos hi, ih g (i + 1) (by omega) (by omega), ih g (i + 2) (by omega) (by omega), ih g (i + 3) (by omega) (by omega)]
      · rw [if_neg hi, if_neg hi]

theorem shift (n m : Nat) (Y Z : Nat → Nat) (h : ∀ j, j < m → Z (n + j) = Y j) : ∀ (f i : Nat), dec (n + m) Z f (n + i) = dec m Y f i := by
  have hct : ∀ i, ct (n + m) Z (n + i) = ct m Y i := by
    intro i
    unfold ct
    by_cases hi : i < m
    · rw [h i hi]; simp [hi]
    · simp [hi]
  intro f
  induction f with
  | zero => intro i; rfl
  | succ f ih =>
    intro i
    unfold dec
    by_cases hi : i < m
    · rw [if_pos hi, if_pos (by omega), h i hi]
      have e1 := hct (i + 1)
      have e2 := hct (i + 2)
      rw [show n + i + 1 = n + (i + 1) by omega, show n + i + 2 = n + (i + 2) by omega, show n + i + 3 = n + (i + 3) by omega, e1, e2, ih, ih, ih]
      by_cases c1 : 0 < Y i ∧ Y i < 128
      · rw [if_pos c1, if_pos c1]
      · rw [if_neg c1, if_neg c1]
        by_cases c2 : (192 ≤ Y i ∧ Y i < 224) ∧ ct m Y (i + 1) = true
        · have hi1 : i + 1 < m := by have := c2.2; unfold ct at this; simp at this; omega
          rw [if_pos c2, if_pos c2, h (i + 1) hi1]
        · rw [if_neg c2, if_neg c2]
          by_cases c3 : (224 ≤ Y i ∧ Y i < 240) ∧ ct m Y (i + 1) = true ∧ ct m Y (i + 2) = true
          · have hi2 : i + 2 < m := by have := c3.2.2; unfold ct at this; simp at this; omega
            rw [if_pos c3, if_pos c3, h (i + 1) (by omega), h (i + 2) hi2]
          · rw [if_neg c3, if_neg c3]
    · rw [if_neg hi, if_neg (by omega)]

theorem joined (n m : Nat) (X Z : Nat → Nat) (h : ∀ j, j < n → Z j = X j) : ∀ (f i : Nat) (t : List Nat), i ≤ n → n - i ≤ f → dec n X f i = some t → ∀ g, n + m - i ≤ g → dec (n + m) Z g i = (dec (n + m) Z m n).map (t ++ ·) := by
  have hct : ∀ i, ct n X i = true → ct (n + m) Z i = true := by
    intro i hi
    unfold ct at hi ⊢
    simp only [Bool.and_eq_true, decide_eq_true_eq] at hi ⊢
    rw [h i hi.1]
    exact ⟨by omega, hi.2⟩
  have stop : ∀ g, n + m - n ≤ g → dec (n + m) Z g n = (dec (n + m) Z m n).map ([] ++ ·) := by
    intro g hg
    rw [fuel (n + m) Z g m n (by omega) (by omega)]
    cases dec (n + m) Z m n <;> simp
  intro f
  induction f with
  | zero =>
    intro i t hi hf ht g hg
    have hin : i = n := by omega
    subst hin
    cases ht
    exact stop g hg
  | succ f ih =>
    intro i t hi hf ht g hg
    by_cases hin : i < n
    · obtain ⟨g, rfl⟩ : ∃ k, g = k + 1 := ⟨g - 1, by omega⟩
      have key : ∀ (v j : Nat), i < j → j ≤ n → (dec n X f j).map (v :: ·) = some t → (dec (n + m) Z g j).map (v :: ·) = (dec (n + m) Z m n).map (t ++ ·) := by
        intro v j h1 h2 hm
        cases hd : dec n X f j with
        | none => rw [hd] at hm; cases hm
        | some t' =>
          rw [hd] at hm
          cases hm
          rw [ih j t' h2 (by omega) hd g (by omega)]
          cases dec (n + m) Z m n <;> simp
      unfold dec at ht
      rw [if_pos hin] at ht
      rw [show dec (n + m) Z (g + 1) i = _ by unfold dec; rw [if_pos (show i < n + m by omega)], h i hin]
      by_cases c1 : 0 < X i ∧ X i < 128
      · rw [if_pos c1] at ht ⊢
        exact key _ _ (by omega) (by omega) ht
      · rw [if_neg c1] at ht ⊢
        by_cases c2 : (192 ≤ X i ∧ X i < 224) ∧ ct n X (i + 1) = true
        · have hi1 : i + 1 < n := by have := c2.2; unfold ct at this; simp at this; omega
          rw [if_pos c2] at ht
          rw [if_pos ⟨c2.1, hct _ c2.2⟩, h (i + 1) hi1]
          exact key _ _ (by omega) (by omega) ht
        · rw [if_neg c2] at ht
          by_cases c3 : (224 ≤ X i ∧ X i < 240) ∧ ct n X (i + 1) = true ∧ ct n X (i + 2) = true
          · have hi2 : i + 2 < n := by have := c3.2.2; unfold ct at this; simp at this; omega
            rw [if_pos c3] at ht
            rw [if_neg (by omega), if_pos ⟨c3.1, hct _ c3.2.1, hct _ c3.2.2⟩, h (i + 1) (by omega), h (i + 2) hi2]
            exact key _ _ (by omega) (by omega) ht
          · rw [if_neg c3] at ht; cases ht
    · have hin' : i = n := by omega
      subst hin'
      have : t = [] := by
        unfold dec at ht
        rw [if_neg hin] at ht
        cases ht; rfl
      subst this
      exact stop g hg

theorem byte_lo (n x y j : Nat) (hx : x < 2 ^ (8 * n)) (hj : j < n) : byteAt (x + y <<< (8 * n)) j = byteAt x j := by
  show (x + y <<< (8 * n)) >>> (8 * j) % 256 = x >>> (8 * j) % 256
  rw [Nat.shiftLeft_eq, Nat.shiftRight_eq_div_pow, Nat.shiftRight_eq_div_pow]
  have e : 8 * n = 8 * j + 8 + (8 * n - 8 * j - 8) := by omega
  have e2 : y * 2 ^ (8 * n) = (y * 2 ^ (8 * n - 8 * j - 8) * 256) * 2 ^ (8 * j) := by
    rw [e, Nat.pow_add, Nat.pow_add]
    have : (2 : Nat) ^ 8 = 256 := rfl
    rw [this]
    have e3 : 8 * j + 8 + (8 * n - 8 * j - 8) - 8 * j - 8 = 8 * n - 8 * j - 8 := by omega
    rw [e3]
    simp only [Nat.mul_comm, Nat.mul_left_comm, Nat.mul_assoc]
  rw [e2, Nat.add_mul_div_right _ _ (Nat.two_pow_pos _), Nat.add_mul_mod_self_right]
theorem byte_hi (n x y j : Nat) (hx : x < 2 ^ (8 * n)) : byteAt (x + y <<< (8 * n)) (n + j) = byteAt y j := by
  show (x + y <<< (8 * n)) >>> (8 * (n + j)) % 256 = y >>> (8 * j) % 256
  rw [Nat.shiftLeft_eq, Nat.mul_add, Nat.shiftRight_add, Nat.shiftRight_eq_div_pow (x + y * 2 ^ (8 * n)), Nat.add_mul_div_right _ _ (Nat.two_pow_pos _), Nat.div_eq_of_lt hx, Nat.zero_add]

theorem Dec_join (n x m y : Nat) (hx : x < 2 ^ (8 * n)) (t1 t2 : List Nat) (h1 : Dec n x = some t1) (h2 : Dec m y = some t2) : Dec (n + m) (x + y <<< (8 * n)) = some (t1 ++ t2) := by
  unfold Dec at h1 h2 ⊢
  rw [joined n m (byteAt x) _ (fun j hj => byte_lo n x y j hx hj) n 0 t1 (by omega) (by omega) h1 (n + m) (by omega)]
  have := shift n m (byteAt y) (byteAt (x + y <<< (8 * n))) (fun j _ => byte_hi n x y j hx) m 0
  rw [Nat.add_zero] at this
  rw [this, h2]
  rfl
end Go.Proofs.Ytnpfppddongbhaa
