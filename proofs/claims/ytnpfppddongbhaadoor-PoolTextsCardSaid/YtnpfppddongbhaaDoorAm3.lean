/-
  The abstract machine, part 3: plain laws of its tries and its numbers.
-/
import Derived.Test.YtnpfppddongbhaaDoorAm2
namespace Go.AM
open Go
set_option autoImplicit false

/-! ### tries -/
section
variable {α : Type}
@[simp] theorem T.get_e (k : Nat) : (T.e : T α).get k = none := rfl
@[simp] theorem T.get_n0 (v : Option α) (l r : T α) : (T.n v l r).get 0 = v := rfl
theorem T.get_ns (v : Option α) (l r : T α) (m : Nat) : (T.n v l r).get (m + 1) = if m % 2 = 1 then r.get (m / 2) else l.get (m / 2) := by
  have h : (T.n v l r).get (m + 1) = Bool.rec (motive := fun _ => Option α) (l.get (m / 2)) (r.get (m / 2)) (Nat.beq (m % 2) 1) := rfl
  rw [h]
  by_cases hm : m % 2 = 1
  · rw [if_pos hm, hm]; rfl
  · have : Nat.beq (m % 2) 1 = false := by rw [Bool.eq_false_iff, ne_eq, Nat.beq_eq]; exact hm
    rw [if_neg hm, this]

theorem T.sing_s (v : α) (f m : Nat) : T.sing v (f + 1) (m + 1) = if m % 2 = 1 then T.n none .e (T.sing v f (m / 2)) else T.n none (T.sing v f (m / 2)) .e := by
  have h : T.sing v (f + 1) (m + 1) = Bool.rec (motive := fun _ => T α) (T.n none (T.sing v f (m / 2)) .e) (T.n none .e (T.sing v f (m / 2))) (Nat.beq (m % 2) 1) := rfl
  rw [h]
  by_cases hm : m % 2 = 1
  · rw [if_pos hm, hm]; rfl
  · have : Nat.beq (m % 2) 1 = false := by rw [Bool.eq_false_iff, ne_eq, Nat.beq_eq]; exact hm
    rw [if_neg hm, this]

theorem T.get_sing (v : α) : ∀ (f k j : Nat), k < f → (T.sing v f k).get j = if j = k then some v else none := by
  intro f
  induction f with
  | zero => intro k j h; omega
  | succ f ih =>
    intro k j h
    cases k with
    | zero =>
      have hs : T.sing v (f + 1) 0 = T.n (some v) .e .e := rfl
      rw [hs]
      cases j with
      | zero => rfl
      | succ n => rw [T.get_ns]; simp
    | succ m =>
      rw [T.sing_s]
      by_cases hm : m % 2 = 1
      · rw [if_pos hm]
        cases j with
        | zero => simp
        | succ n =>
          rw [T.get_ns]
          by_cases hn : n % 2 = 1
          · rw [if_pos hn, ih _ _ (by omega)]
            by_cases e : n = m
            · subst e; simp
            · rw [if_neg (by omega), if_neg (by omega)]
          · rw [if_neg hn, T.get_e, if_neg (by omega)]
      · rw [if_neg hm]
        cases j with
        | zero => simp
        | succ n =>
          rw [T.get_ns]
          by_cases hn : n % 2 = 1
          · rw [if_pos hn, T.get_e, if_neg (by omega)]
          · rw [if_neg hn, ih _ _ (by omega)]
            by_cases e : n = m
            · subst e; simp
            · rw [if_neg (by omega), if_neg (by omega)]

theorem T.set_s (v : α) (o : Option α) (l r : T α) (m : Nat) : T.set v (.n o l r) (m + 1) = if m % 2 = 1 then T.n o l (T.set v r (m / 2)) else T.n o (T.set v l (m / 2)) r := by
  have h : T.set v (.n o l r) (m + 1) = Bool.rec (motive := fun _ => T α) (T.n o (T.set v l (m / 2)) r) (T.n o l (T.set v r (m / 2))) (Nat.beq (m % 2) 1) := rfl
  rw [h]
  by_cases hm : m % 2 = 1
  · rw [if_pos hm, hm]; rfl
  · have : Nat.beq (m % 2) 1 = false := by rw [Bool.eq_false_iff, ne_eq, Nat.beq_eq]; exact hm
    rw [if_neg hm, this]

theorem T.get_set (v : α) (t : T α) : ∀ (k j : Nat), (T.set v t k).get j = if j = k then some v else t.get j := by
  induction t with
  | e =>
    intro k j
    have h : T.set v .e k = T.sing v (k + 1) k := rfl
    rw [h, T.get_sing v _ _ _ (by omega)]; simp
  | n o l r ihl ihr =>
    intro k j
    cases k with
    | zero =>
      have h : T.set v (.n o l r) 0 = T.n (some v) l r := rfl
      rw [h]
      cases j with
      | zero => simp
      | succ n => rw [T.get_ns, T.get_ns]; simp
    | succ m =>
      rw [T.set_s]
      by_cases hm : m % 2 = 1
      · rw [if_pos hm]
        cases j with
        | zero => simp
        | succ n =>
          rw [T.get_ns, T.get_ns]
          by_cases hn : n % 2 = 1
          · rw [if_pos hn, if_pos hn, ihr]
            by_cases e : n = m
            · subst e; simp
            · rw [if_neg (by omega), if_neg (by omega)]
          · rw [if_neg hn, if_neg hn, if_neg (by omega)]
      · rw [if_neg hm]
        cases j with
        | zero => simp
        | succ n =>
          rw [T.get_ns, T.get_ns]
          by_cases hn : n % 2 = 1
          · rw [if_pos hn, if_pos hn, if_neg (by omega)]
          · rw [if_neg hn, if_neg hn, ihl]
            by_cases e : n = m
            · subst e; simp
            · rw [if_neg (by omega), if_neg (by omega)]
end

/-! ### numbers -/
@[simp] theorem ifB_true (x y : Res) : ifB true x y = x := rfl
@[simp] theorem ifB_false (x y : Res) : ifB false x y = y := rfl

theorem blt_eq (a b : Nat) : Nat.blt a b = decide (a < b) := by
  rw [Bool.eq_iff_iff]; simp [Nat.blt, Nat.ble_eq]; omega
theorem ble_eq (a b : Nat) : Nat.ble a b = decide (a ≤ b) := by
  rw [Bool.eq_iff_iff]; simp [Nat.ble_eq]
theorem beq_eq (a b : Nat) : Nat.beq a b = decide (a = b) := by
  rw [Bool.eq_iff_iff]; simp [Nat.beq_eq]

theorem blt_iff (a b : Nat) : Nat.blt a b = true ↔ a < b := by simp [blt_eq]
theorem ble_iff (a b : Nat) : Nat.ble a b = true ↔ a ≤ b := by simp [ble_eq]
theorem beq_iff (a b : Nat) : Nat.beq a b = true ↔ a = b := by simp [beq_eq]
theorem recB {α : Type} (b : Bool) (x y : α) : Bool.rec (motive := fun _ => α) x y b = if b = true then y else x := by cases b <;> rfl

theorem cOf_inj : ∀ a b : IntKind, cOf a = cOf b → a = b := by
  intro a b; cases a <;> cases b <;> simp [cOf]

theorem bitsC_eq (k : IntKind) : bitsC (cOf k) = k.bits := by cases k <;> rfl

theorem finC_eq (c r : Nat) : finC c r = if r < 2 ^ c then (r : Int) else Int.negSucc (2 ^ (bitsC c) - 1 - r) := by
  have h : finC c r = Bool.rec (motive := fun _ => Int) (Int.negSucc (2 ^ (bitsC c) - 1 - r)) (Int.ofNat r) (Nat.blt r (2 ^ c)) := rfl
  rw [h, recB]; simp only [blt_iff]; rfl

set_option maxRecDepth 20000 in
theorem wrapC_eq (k : IntKind) (n : Int) : wrapC (cOf k) n = k.wrap n := by
  cases n with
  | ofNat m =>
    have h : wrapC (cOf k) (Int.ofNat m) = Bool.rec (motive := fun _ => Int) (finC (cOf k) (m % 2 ^ (bitsC (cOf k)))) (Int.ofNat m) (Nat.blt m (2 ^ (cOf k))) := rfl
    rw [h, recB, finC_eq, bitsC_eq]
    simp only [blt_iff]
    unfold IntKind.wrap
    cases k <;> simp [cOf, IntKind.bits, IntKind.signed, Int.negSucc_eq] <;> omega
  | negSucc m =>
    have h : wrapC (cOf k) (Int.negSucc m) = Bool.rec (motive := fun _ => Int) (finC (cOf k) (2 ^ (bitsC (cOf k)) - 1 - m % 2 ^ (bitsC (cOf k)))) (Int.negSucc m) (Nat.blt m ((cOf k % 2) * 2 ^ (cOf k))) := rfl
    rw [h, recB, finC_eq, bitsC_eq]
    simp only [blt_iff]
    have e : Int.negSucc m % (2 ^ k.bits : Int) = ((2 ^ k.bits - 1 - m % 2 ^ k.bits : Nat) : Int) := by
      have hp : 0 < 2 ^ k.bits := Nat.two_pow_pos _
      have hlt := Nat.mod_lt m hp
      rw [Int.negSucc_emod _ (by exact_mod_cast hp)]
      have h2 : ((2 : Int) ^ k.bits) = ((2 ^ k.bits : Nat) : Int) := by simp
      rw [h2]; omega
    unfold IntKind.wrap
    simp only [e]
    have h2 : ((2 : Int) ^ k.bits) = ((2 ^ k.bits : Nat) : Int) := by simp
    have h3 : ((2 : Int) ^ (k.bits - 1)) = ((2 ^ (k.bits - 1) : Nat) : Int) := by simp
    rw [h2, h3, Int.negSucc_eq]
    have hlt := Nat.mod_lt m (Nat.two_pow_pos k.bits)
    have hle := Nat.mod_le m (2 ^ k.bits)
    have heq : m < 2 ^ k.bits → m % 2 ^ k.bits = m := fun h => Nat.mod_eq_of_lt h
    have hc : (2 ^ cOf k = 2 ^ (k.bits - 1) ∧ cOf k % 2 = 1 ∧ k.signed = true ∧ 2 ^ k.bits = 2 * 2 ^ (k.bits - 1)) ∨ (2 ^ cOf k = 2 ^ k.bits ∧ cOf k % 2 = 0 ∧ k.signed = false) := by
      cases k <;> first | exact .inl ⟨rfl, rfl, rfl, rfl⟩ | exact .inr ⟨rfl, rfl, rfl⟩
    generalize hq : m % 2 ^ k.bits = q at *
    generalize hB : 2 ^ k.bits = B at *
    generalize hH : 2 ^ (k.bits - 1) = H at *
    generalize hC : 2 ^ cOf k = C at *
    rcases hc with ⟨a1, a2, a3, a4⟩ | ⟨a1, a2, a3⟩
    · rw [a2, a3]
      simp only [Bool.true_and, decide_eq_true_eq, Int.negSucc_eq]
      by_cases c1 : m < 1 * C
      · rw [if_pos c1]; have := heq (by omega); rw [if_pos (by omega)]; omega
      · rw [if_neg c1]; split <;> split <;> omega
    · rw [a2, a3]
      simp only [Bool.false_and, Bool.false_eq_true, if_false]
      rw [if_neg (by omega), if_pos (by omega)]

theorem ltI_eq (a b : Int) : ltI a b = decide (a < b) := by
  cases a <;> cases b <;> simp only [ltI] <;> (try rw [blt_eq]) <;> rw [Bool.eq_iff_iff] <;> simp <;> omega
theorem eqI_eq (a b : Int) : eqI a b = (a == b) := by
  cases a <;> cases b <;> simp only [eqI] <;> (try rw [beq_eq]) <;> rw [Bool.eq_iff_iff] <;> simp <;> omega
@[simp] theorem bnot_eq (b : Bool) : bnot b = !b := by cases b <;> rfl
@[simp] theorem beqB_eq (a b : Bool) : beqB a b = (a == b) := by cases a <;> cases b <;> rfl

theorem toU_eq (k : IntKind) (n : Int) : toU (cOf k) n = (BitVec.ofInt k.bits n).toNat := by
  have hp : 0 < 2 ^ k.bits := Nat.two_pow_pos _
  cases n with
  | ofNat m =>
    have h : toU (cOf k) (Int.ofNat m) = m % 2 ^ bitsC (cOf k) := rfl
    rw [h, bitsC_eq, BitVec.toNat_ofInt]
    simp only [Int.ofNat_eq_natCast]
    rw [← Int.natCast_emod, Int.toNat_natCast]
  | negSucc m =>
    have h : toU (cOf k) (Int.negSucc m) = 2 ^ bitsC (cOf k) - 1 - m % 2 ^ bitsC (cOf k) := rfl
    rw [h, bitsC_eq, BitVec.toNat_ofInt]
    have hlt := Nat.mod_lt m hp
    rw [Int.negSucc_emod _ (by exact_mod_cast hp)]
    omega

theorem and_ok (k : IntKind) (a b : Int) : wrapC (cOf k) (Int.ofNat (Nat.land (toU (cOf k) a) (toU (cOf k) b))) = k.wrap ((BitVec.ofInt k.bits a &&& BitVec.ofInt k.bits b).toNat : Int) := by
  rw [wrapC_eq, toU_eq, toU_eq, BitVec.toNat_and]; rfl
theorem or_ok (k : IntKind) (a b : Int) : wrapC (cOf k) (Int.ofNat (Nat.lor (toU (cOf k) a) (toU (cOf k) b))) = k.wrap ((BitVec.ofInt k.bits a ||| BitVec.ofInt k.bits b).toNat : Int) := by
  rw [wrapC_eq, toU_eq, toU_eq, BitVec.toNat_or]; rfl
theorem xor_ok (k : IntKind) (a b : Int) : wrapC (cOf k) (Int.ofNat (Nat.xor (toU (cOf k) a) (toU (cOf k) b))) = k.wrap ((BitVec.ofInt k.bits a ^^^ BitVec.ofInt k.bits b).toNat : Int) := by
  rw [wrapC_eq, toU_eq, toU_eq, BitVec.toNat_xor]; rfl
theorem andNot_ok (k : IntKind) (a b : Int) :
    wrapC (cOf k) (Int.ofNat (Nat.land (toU (cOf k) a) (Nat.xor (toU (cOf k) b) (2 ^ bitsC (cOf k) - 1)))) = k.wrap ((BitVec.ofInt k.bits a &&& ~~~BitVec.ofInt k.bits b).toNat : Int) := by
  rw [wrapC_eq, toU_eq, toU_eq, bitsC_eq, ← BitVec.xor_allOnes, BitVec.toNat_and, BitVec.toNat_xor, BitVec.toNat_allOnes]; rfl
theorem not_ok (k : IntKind) (a : Int) :
    wrapC (cOf k) (Int.ofNat (Nat.xor (2 ^ bitsC (cOf k) - 1) (toU (cOf k) a))) = k.wrap ((BitVec.ofInt k.bits (if k.signed then -1 else k.max) ^^^ BitVec.ofInt k.bits a).toNat : Int) := by
  have h : BitVec.ofInt k.bits (if k.signed then -1 else k.max) = BitVec.allOnes k.bits := by cases k <;> rfl
  rw [wrapC_eq, toU_eq, bitsC_eq, h, BitVec.toNat_xor, BitVec.toNat_allOnes]; rfl
theorem shr_ok (a : Int) (n : Nat) : shrI a n = a.fdiv (2 ^ n) := by
  have h2 : ((2 : Int) ^ n) = ((2 ^ n : Nat) : Int) := by simp
  rw [h2]
  obtain ⟨m, hm⟩ : ∃ m, 2 ^ n = m + 1 := ⟨2 ^ n - 1, by have := Nat.two_pow_pos n; omega⟩
  cases a with
  | ofNat x =>
    have h : shrI (Int.ofNat x) n = Int.ofNat (x / 2 ^ n) := rfl
    rw [h, hm]; cases x <;> first | rfl | simp
  | negSucc x =>
    have h : shrI (Int.negSucc x) n = Int.negSucc (x / 2 ^ n) := rfl
    rw [h, hm]; rfl
end Go.AM
