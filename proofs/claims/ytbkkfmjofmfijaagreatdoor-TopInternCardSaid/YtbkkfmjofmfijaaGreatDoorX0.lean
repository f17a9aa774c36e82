/-
  The law of equal texts: what is asked in its runs, and that it holds; the law's first loop.
-/
import Derived.Test.YtbkkfmjofmfijaaGreatDoorFf
import Derived.KernelRfl
set_option linter.unusedVariables false
set_option linter.unusedSimpArgs false
namespace Go.Proofs.YtbkkfmjofmfijaaGreatDoor
open Go Go.AM
set_option autoImplicit false
set_option maxRecDepth 100000
noncomputable section
noncomputable def an (l : List Bool) : Bool := List.rec (motive := fun _ => Bool) true (fun p _ ih => Bool.rec (motive := fun _ => Bool) false ih p) l
theorem an_app (A B : List Bool) : an (A ++ B) = (an A && an B) := by
  induction A with
  | nil => rfl
  | cons p A ih =>
    cases p with
    | true => exact ih
    | false => rfl
theorem an_and {A B : List Bool} (h1 : an A = true) (h2 : an B = true) : an (A ++ B) = true := by rw [an_app, h1, h2]; rfl
theorem an_c {p : Bool} {A : List Bool} (h1 : p = true) (h2 : an A = true) : an (p :: A) = true := by rw [h1]; exact h2
noncomputable def tIN (n : Nat) : Nat → List Bool := Nat.rec (motive := fun _ => Nat → List Bool) (fun _ => []) (fun _ ih x => inB (.ofNat (Nat.mod x 256)) :: ih (Nat.div x 256)) n
noncomputable def pkM (n : Nat) : Nat → Nat := Nat.rec (motive := fun _ => Nat → Nat) (fun _ => 0) (fun _ ih x => Nat.add (Int.toNat (.ofNat (Nat.mod x 256))) (Nat.mul 256 (ih (Nat.div x 256)))) n
noncomputable def up2 (f g : Nat → Bool) (n : Nat) : Nat → List Bool := Nat.rec (motive := fun _ => Nat → List Bool) (fun _ => []) (fun _ ih i => f i :: g i :: ih (Nat.succ i)) n
noncomputable def up1 (f : Nat → Bool) (n : Nat) : Nat → List Bool := Nat.rec (motive := fun _ => Nat → List Bool) (fun _ => []) (fun _ ih i => f i :: ih (Nat.succ i)) n
noncomputable def dn1 (f : Nat → Bool) (n : Nat) : List Bool := Nat.rec (motive := fun _ => List Bool) [] (fun i ih => f i :: ih) n
noncomputable def pk8 (x n : Nat) : Nat → Nat := Nat.rec (motive := fun _ => Nat → Nat) (fun _ => 0) (fun _ ih i => Nat.add (Int.toNat (wrapC 8 (.ofNat (byteAt x i)))) (Nat.mul 256 (ih (Nat.succ i)))) n
noncomputable abbrev tPK (n x : Nat) : List Bool := [Nat.beq (pkM n x) x]
noncomputable abbrev tP8 (n x : Nat) : List Bool := [Nat.beq (pk8 x n 0) x]
noncomputable abbrev tDW (n x : Nat) : List Bool := up2 (fun i => beqB (ltI (.ofNat 0) (wrapC 16 (.ofNat (byteAt x i)))) true) (fun i => beqB (ltI (wrapC 16 (.ofNat (byteAt x i))) (.ofNat 128)) true) n 0
noncomputable abbrev tD (n x : Nat) : List Bool := up2 (fun i => beqB (ltI (.ofNat 0) (.ofNat (byteAt x i))) true) (fun i => beqB (ltI (.ofNat (byteAt x i)) (.ofNat 128)) true) n 0
noncomputable abbrev tEW (n x : Nat) : List Bool := dn1 (fun i => eqI (wrapC 16 (.ofNat (byteAt x i))) (.ofNat (byteAt x i))) n
noncomputable abbrev tI8 (n x : Nat) : List Bool := up1 (fun i => inB (wrapC 8 (.ofNat (byteAt x i)))) n 0
noncomputable abbrev tR (x : Nat) : List Bool := [Nat.beq x x]
/-- A word into which a char is put. -/
noncomputable def wS (w : Int) (nm m mk c : Nat) : Int := wrapC 64 (.ofNat (Nat.lor (toU 64 (wrapC 64 (.ofNat (Nat.land (toU 64 w) nm)))) (toU 64 (wrapC 64 (.ofNat (Nat.land (toU 64 (wrapC 64 (Int.mul (wrapC 64 (wrapC 63 (.ofNat c))) (.ofNat m)))) mk))))))
noncomputable def wW (x b : Nat) (k : Nat) : Int := Nat.rec (motive := fun _ => Int) (wrapC 64 (.ofNat (Nat.lor 0 (toU 64 (wrapC 64 (.ofNat (Nat.land (toU 64 (wrapC 64 (Int.mul (wrapC 64 (wrapC 63 (.ofNat (byteAt x b)))) (.ofNat 1)))) 65535)))))))
  (fun k ih => wS ih (Nat.sub 18446744073709551615 (Nat.mul 65535 (Nat.pow 65536 (Nat.succ k)))) (Nat.pow 65536 (Nat.succ k)) (Nat.mul 65535 (Nat.pow 65536 (Nat.succ k))) (byteAt x (Nat.add b (Nat.succ k)))) k
noncomputable abbrev tU (n x : Nat) : List Bool := dn1 (fun i => eqI (wrapC 16 (shrI (wW x (Nat.mul 4 (Nat.div i 4)) (Bool.rec (motive := fun _ => Nat) (Nat.mod (Nat.sub n 1) 4) 3 (Nat.ble (Nat.add (Nat.mul 4 (Nat.div i 4)) 4) n))) (Nat.mul 16 (Nat.mod i 4)))) (.ofNat (byteAt x i))) n
noncomputable abbrev kq (x a b : Nat) (d : Bool) : Bool := beqB (Nat.beq (Nat.add a (Nat.shiftLeft x 8)) (Nat.add b (Nat.shiftLeft x 8))) d
noncomputable abbrev kc (x a c : Nat) (d : Bool) : Bool := beqB (Nat.beq (Nat.add a (Nat.shiftLeft x 8)) c) d
theorem byte_eq (x i : Nat) : byteAt x i = x / 256 ^ i % 256 := by
  show Nat.mod (Nat.shiftRight x (Nat.mul 8 i)) 256 = _
  have e : Nat.shiftRight x (Nat.mul 8 i) = x / 2 ^ (8 * i) := Nat.shiftRight_eq_div_pow x (8 * i)
  rw [e, Nat.pow_mul]; rfl
theorem byte_lt (x i : Nat) : byteAt x i < 256 := by rw [byte_eq]; exact Nat.mod_lt _ (by decide)
theorem inB_n {m : Nat} (h : m < 256) : inB (.ofNat m) = true := by
  show Nat.blt m 256 = true
  rw [blt_iff]; exact h
theorem an_IN (n : Nat) : ∀ x, an (tIN n x) = true := by
  induction n with
  | zero => intro x; rfl
  | succ n ih => intro x; exact an_c (inB_n (Nat.mod_lt _ (by decide))) (ih _)
theorem pkM_eq (n : Nat) : ∀ x, pkM n x = x % 256 ^ n := by
  induction n with
  | zero => intro x; rw [Nat.pow_zero, Nat.mod_one]; rfl
  | succ n ih =>
    intro x
    show (x % 256) + 256 * (pkM n (x / 256)) = _
    rw [ih, show 256 ^ (n + 1) = 256 * 256 ^ n from by rw [Nat.pow_succ, Nat.mul_comm], Nat.mod_mul]
theorem an_PK {n x : Nat} (hx : x < 256 ^ n) : an (tPK n x) = true := an_c (by rw [beq_iff, pkM_eq, Nat.mod_eq_of_lt hx]) rfl
theorem w8b (x i : Nat) : Int.toNat (wrapC 8 (.ofNat (byteAt x i))) = byteAt x i := by
  have h := byte_lt x i
  rw [show wrapC 8 (.ofNat (byteAt x i)) = ((byteAt x i : Nat) : Int) from w8_in _ (by show (0 : Int) ≤ (byteAt x i : Int); omega) (by show (byteAt x i : Int) < 256; omega)]
  exact Int.toNat_natCast _
theorem pk8_eq (x n : Nat) : ∀ i, pk8 x n i = x / 256 ^ i % 256 ^ n := by
  induction n with
  | zero => intro i; rw [Nat.pow_zero, Nat.mod_one]; rfl
  | succ n ih =>
    intro i
    show Int.toNat (wrapC 8 (.ofNat (byteAt x i))) + 256 * (pk8 x n (i + 1)) = _
    rw [ih, w8b, byte_eq, show 256 ^ (n + 1) = 256 * 256 ^ n from by rw [Nat.pow_succ, Nat.mul_comm], Nat.mod_mul, Nat.div_div_eq_div_mul, ← Nat.pow_succ]
theorem an_P8 {n x : Nat} (hx : x < 256 ^ n) : an (tP8 n x) = true := an_c (by rw [beq_iff, pk8_eq, Nat.pow_zero, Nat.div_one, Nat.mod_eq_of_lt hx]) rfl
theorem an_up2 {f g : Nat → Bool} {m : Nat} (h : ∀ i, i < m → f i = true ∧ g i = true) (n : Nat) : ∀ i, i + n ≤ m → an (up2 f g n i) = true := by
  induction n with
  | zero => intro i _; rfl
  | succ n ih => intro i hi; exact an_c (h i (by omega)).1 (an_c (h i (by omega)).2 (ih (i + 1) (by omega)))
theorem an_up1 {f : Nat → Bool} {m : Nat} (h : ∀ i, i < m → f i = true) (n : Nat) : ∀ i, i + n ≤ m → an (up1 f n i) = true := by
  induction n with
  | zero => intro i _; rfl
  | succ n ih => intro i hi; exact an_c (h i (by omega)) (ih (i + 1) (by omega))
theorem an_dn1 {f : Nat → Bool} (n : Nat) (h : ∀ i, i < n → f i = true) : an (dn1 f n) = true := by
  induction n with
  | zero => rfl
  | succ n ih => exact an_c (h n (by omega)) (ih fun i hi => h i (by omega))
theorem w16b (x i : Nat) : wrapC 16 (.ofNat (byteAt x i)) = .ofNat (byteAt x i) := by
  have h := byte_lt x i
  exact w16_in _ (by show (0 : Int) ≤ (byteAt x i : Int); omega) (by show (byteAt x i : Int) < 65536; omega)
theorem lt0 {a : Nat} (h : 0 < a) : beqB (ltI (.ofNat 0) (.ofNat a)) true = true := by
  rw [ltI_eq]
  have : decide (Int.ofNat 0 < Int.ofNat a) = true := by simp; omega
  rw [this]; rfl
theorem lt128 {a : Nat} (h : a < 128) : beqB (ltI (.ofNat a) (.ofNat 128)) true = true := by
  rw [ltI_eq]
  have : decide (Int.ofNat a < Int.ofNat 128) = true := by simp; omega
  rw [this]; rfl
theorem eqI_t (x : Int) : eqI x x = true := by rw [eqI_eq]; simp
theorem beq_t (x : Nat) : Nat.beq x x = true := by rw [beq_iff]
section
variable {n x : Nat} (hb : ∀ i, i < n → 0 < byteAt x i ∧ byteAt x i < 128)
include hb
theorem an_D : an (tD n x) = true := an_up2 (m := n) (fun i hi => ⟨lt0 (hb i hi).1, lt128 (hb i hi).2⟩) n 0 (by omega)
theorem an_DW : an (tDW n x) = true := an_up2 (m := n) (fun i hi => ⟨by rw [w16b]; exact lt0 (hb i hi).1, by rw [w16b]; exact lt128 (hb i hi).2⟩) n 0 (by omega)
end
theorem an_EW (n x : Nat) : an (tEW n x) = true := an_dn1 n fun i _ => by rw [w16b]; exact eqI_t _
theorem an_I8 (n x : Nat) : an (tI8 n x) = true := an_up1 (m := n) (fun i _ => by
  rw [show wrapC 8 (.ofNat (byteAt x i)) = .ofNat (byteAt x i) from w8_in _ (by show (0 : Int) ≤ (byteAt x i : Int); omega) (by have := byte_lt x i; show (byteAt x i : Int) < 256; omega)]
  exact inB_n (byte_lt x i)) n 0 (by omega)
theorem an_R (x : Nat) : an (tR x) = true := an_c (beq_t x) rfl
/- words -/
theorem toU64 {a : Nat} (h : a < 18446744073709551616) : toU 64 (.ofNat a) = a := by
  rw [show toU 64 (.ofNat a) = toU (cOf .u64) (.ofNat a) from rfl, toU_eq, BitVec.toNat_ofInt]
  show ((a : Int) % (18446744073709551616 : Nat)).toNat = a
  omega
theorem w64n {a : Nat} (h : a < 18446744073709551616) : wrapC 64 (.ofNat a) = .ofNat a := by
  rw [w64]; show (a : Int) % 18446744073709551616 = (a : Int); omega
theorem land_low {W nm s : Nat} (hW : W < 2 ^ s) (hn : ∀ i, i < s → nm.testBit i = true) : Nat.land W nm = W := by
  apply Nat.eq_of_testBit_eq
  intro i
  show (W &&& nm).testBit i = W.testBit i
  rw [Nat.testBit_and]
  by_cases hi : i < s
  · rw [hn i hi, Bool.and_true]
  · rw [Nat.testBit_lt_two_pow (Nat.lt_of_lt_of_le hW (Nat.pow_le_pow_right (by decide) (by omega)))]; rfl
theorem land_mid {c mk s : Nat} (hc : c < 65536) (hn : ∀ i, i < 16 → mk.testBit (s + i) = true) : Nat.land (c <<< s) mk = c <<< s := by
  apply Nat.eq_of_testBit_eq
  intro i
  show ((c <<< s) &&& mk).testBit i = (c <<< s).testBit i
  rw [Nat.testBit_and, Nat.testBit_shiftLeft]
  by_cases hi : s ≤ i
  · by_cases h2 : i - s < 16
    · have := hn (i - s) h2
      rw [show s + (i - s) = i from by omega] at this
      rw [this, Bool.and_true]
    · rw [Nat.testBit_lt_two_pow (Nat.lt_of_lt_of_le hc (show 2 ^ 16 ≤ 2 ^ (i - s) from Nat.pow_le_pow_right (by decide) (by omega)))]; simp
  · rw [decide_eq_false hi]; rfl
/-- A word, a char put above it. -/
theorem wS_eq {w : Int} {W s nm m mk c : Nat} (hw : w = .ofNat W) (hW : W < 2 ^ s) (hs : s ≤ 48) (hm : m = 2 ^ s) (hc : c < 256)
    (h1 : ∀ i, i < s → nm.testBit i = true) (h2 : ∀ i, i < 16 → mk.testBit (s + i) = true) : wS w nm m mk c = .ofNat (c * 2 ^ s + W) := by
  have hp : 2 ^ s ≤ 2 ^ 48 := Nat.pow_le_pow_right (by decide) hs
  have hp : 2 ^ s ≤ 281474976710656 := hp
  have hcs : c * 2 ^ s ≤ 255 * 281474976710656 := Nat.mul_le_mul (by omega) hp
  have e1 : wrapC 64 (wrapC 63 (.ofNat c)) = .ofNat c := by
    rw [show wrapC 63 (.ofNat c) = .ofNat c from w63_in _ (by show (-9223372036854775808 : Int) ≤ (c : Int); omega) (by show (c : Int) < _; omega), w64n (by omega)]
  have e2 : Int.mul (.ofNat c) (.ofNat m) = .ofNat (c <<< s) := by
    rw [hm, Nat.shiftLeft_eq]; rfl
  have f1 : toU 64 (.ofNat W) = W := toU64 (by omega)
  have f2 : wrapC 64 (.ofNat W) = .ofNat W := w64n (by omega)
  have g0 : c <<< s = c * 2 ^ s := Nat.shiftLeft_eq c s
  have g1 : wrapC 64 (.ofNat (c <<< s)) = .ofNat (c <<< s) := w64n (by omega)
  have g2 : toU 64 (.ofNat (c <<< s)) = c <<< s := toU64 (by omega)
  have h3 := Nat.shiftLeft_add_eq_or_of_lt hW c
  have h4 : Nat.lor W (c <<< s) = c <<< s + W := (Nat.or_comm W (c <<< s)).trans h3.symm
  unfold wS
  rw [hw, e1, e2, f1, land_low hW h1, f2, f1, g1, g2, land_mid (by omega) h2, g1, g2, h4, g0, w64n (by omega)]
noncomputable def wV (x b : Nat) (k : Nat) : Nat := Nat.rec (motive := fun _ => Nat) (byteAt x b) (fun k ih => byteAt x (b + (k + 1)) * 2 ^ (16 * (k + 1)) + ih) k
theorem wW_0 (x b : Nat) : wW x b 0 = .ofNat (byteAt x b) := by
  have hc := byte_lt x b
  have e1 : wrapC 64 (wrapC 63 (.ofNat (byteAt x b))) = .ofNat (byteAt x b) := by
    rw [show wrapC 63 (.ofNat (byteAt x b)) = .ofNat (byteAt x b) from w63_in _ (by show (-9223372036854775808 : Int) ≤ (byteAt x b : Int); omega) (by show (byteAt x b : Int) < _; omega), w64n (by omega)]
  have e2 : Int.mul (.ofNat (byteAt x b)) (.ofNat 1) = .ofNat (byteAt x b) := Int.mul_one _
  show wrapC 64 (.ofNat (Nat.lor 0 (toU 64 (wrapC 64 (.ofNat (Nat.land (toU 64 (wrapC 64 (Int.mul (wrapC 64 (wrapC 63 (.ofNat (byteAt x b)))) (.ofNat 1)))) 65535)))))) = _
  have h0 : Nat.land (byteAt x b) 65535 = byteAt x b := land_low (s := 16) (by omega) (by decide)
  have f1 : toU 64 (.ofNat (byteAt x b)) = byteAt x b := toU64 (by omega)
  have f2 : wrapC 64 (.ofNat (byteAt x b)) = .ofNat (byteAt x b) := w64n (by omega)
  rw [e1, e2, f2, f1, h0, f2, f1, show ∀ a, Nat.lor 0 a = a from Nat.zero_or, f2]
theorem wW_eq (x b : Nat) : ∀ k, k < 4 → wW x b k = .ofNat (wV x b k) ∧ wV x b k < 2 ^ (16 * (k + 1)) := by
  intro k
  induction k with
  | zero => intro _; exact ⟨wW_0 x b, by have := byte_lt x b; show byteAt x b < 65536; omega⟩
  | succ k ih =>
    intro hk
    obtain ⟨i1, i2⟩ := ih (by omega)
    have hc := byte_lt x (b + (k + 1))
    refine ⟨?_, ?_⟩
    · show wS (wW x b k) _ _ _ _ = .ofNat (byteAt x (b + (k + 1)) * 2 ^ (16 * (k + 1)) + wV x b k)
      have : k = 0 ∨ k = 1 ∨ k = 2 := by omega
      rcases this with rfl | rfl | rfl
      · exact wS_eq i1 i2 (by decide) (by decide) hc (by decide) (by decide)
      · exact wS_eq i1 i2 (by decide) (by decide) hc (by decide) (by decide)
      · exact wS_eq i1 i2 (by decide) (by decide) hc (by decide) (by decide)
    · show byteAt x (b + (k + 1)) * 2 ^ (16 * (k + 1)) + wV x b k < _
      have e : 2 ^ (16 * (k + 1 + 1)) = 65536 * 2 ^ (16 * (k + 1)) := by rw [show 16 * (k + 1 + 1) = 16 + 16 * (k + 1) from by omega, Nat.pow_add]
      rw [e]
      have := Nat.mul_le_mul_right (2 ^ (16 * (k + 1))) (show byteAt x (b + (k + 1)) ≤ 255 from by omega)
      omega
theorem sh_e (m : Int) (n : Nat) : shrI m n = m / 2 ^ n := by rw [shr_ok, Int.fdiv_eq_ediv_of_nonneg _ (Int.pow_nonneg (by decide))]
/-- A char of a word. -/
theorem chr (x b : Nat) : ∀ k, k < 4 → ∀ m, m ≤ k → wrapC 16 (shrI (wW x b k) (16 * m)) = .ofNat (byteAt x (b + m)) := by
  intro k hk m hm
  rw [(wW_eq x b k hk).1, sh_e, w16]
  have h0 := byte_lt x b
  have h1 := byte_lt x (b + 1)
  have h2 := byte_lt x (b + 2)
  have h3 := byte_lt x (b + 3)
  have hk' : k = 0 ∨ k = 1 ∨ k = 2 ∨ k = 3 := by omega
  have hm' : m = 0 ∨ m = 1 ∨ m = 2 ∨ m = 3 := by omega
  have v0 : wV x b 0 = byteAt x b := rfl
  have v1 : wV x b 1 = byteAt x (b + 1) * 65536 + byteAt x b := rfl
  have v2 : wV x b 2 = byteAt x (b + 2) * 4294967296 + (byteAt x (b + 1) * 65536 + byteAt x b) := rfl
  have v3 : wV x b 3 = byteAt x (b + 3) * 281474976710656 + (byteAt x (b + 2) * 4294967296 + (byteAt x (b + 1) * 65536 + byteAt x b)) := rfl
  show ((wV x b k : Nat) : Int) / 2 ^ (16 * m) % 65536 = ((byteAt x (b + m) : Nat) : Int)
  rcases hk' with rfl | rfl | rfl | rfl <;> rcases hm' with rfl | rfl | rfl | rfl <;> first
    | omega
    | (simp only [v0, v1, v2, v3, Nat.reduceMul, Int.reducePow, Nat.add_zero]; omega)
theorem an_U (n x : Nat) : an (tU n x) = true := an_dn1 n fun i hi => by
  have h : ∀ k, k < 4 → i % 4 ≤ k → eqI (wrapC 16 (shrI (wW x (Nat.mul 4 (Nat.div i 4)) k) (Nat.mul 16 (Nat.mod i 4)))) (.ofNat (byteAt x i)) = true := by
    intro k h1 h2
    have := chr x (4 * (i / 4)) k h1 (i % 4) h2
    rw [show 4 * (i / 4) + i % 4 = i from by omega] at this
    rw [show eqI (wrapC 16 (shrI (wW x (Nat.mul 4 (Nat.div i 4)) k) (Nat.mul 16 (Nat.mod i 4)))) (.ofNat (byteAt x i)) = eqI (wrapC 16 (shrI (wW x (4 * (i / 4)) k) (16 * (i % 4)))) (.ofNat (byteAt x i)) from rfl, this]
    exact eqI_t _
  show eqI (wrapC 16 (shrI (wW x (Nat.mul 4 (Nat.div i 4)) (Bool.rec (motive := fun _ => Nat) (Nat.mod (Nat.sub n 1) 4) 3 (Nat.ble (Nat.add (Nat.mul 4 (Nat.div i 4)) 4) n))) (Nat.mul 16 (Nat.mod i 4)))) (.ofNat (byteAt x i)) = true
  cases hq : Nat.ble (Nat.add (Nat.mul 4 (Nat.div i 4)) 4) n with
  | true => exact h 3 (by omega) (by omega)
  | false =>
    have hq : ¬ (4 * (i / 4) + 4 ≤ n) := fun g => by rw [show Nat.ble (Nat.add (Nat.mul 4 (Nat.div i 4)) 4) n = true from (ble_iff _ _).2 g] at hq; cases hq
    exact h ((n - 1) % 4) (Nat.mod_lt _ (by decide)) (by omega)
noncomputable abbrev tails (n x : Nat) : List Bool := tIN n x ++ (tPK n x ++ (tDW n x ++ (tEW n x ++ (tDW n x ++ (tEW n x ++ (tD n x ++ (tI8 n x ++ (tP8 n x ++ (tU n x ++ (tD n x ++ (tI8 n x ++ (tP8 n x ++ (tD n x ++ (tI8 n x ++ (tP8 n x ++
  (tDW n x ++ (tEW n x ++ (tD n x ++ (tI8 n x ++ (tP8 n x ++ (tR x ++ (tDW n x ++ (tEW n x ++ (tD n x ++ (tI8 n x ++ (tP8 n x ++ (tR x ++ (tDW n x ++ (tEW n x ++ (tD n x ++ (tI8 n x ++ (tP8 n x ++ (tR x ++ (tU n x ++
  (tDW n x ++ (tEW n x ++ (tD n x ++ (tI8 n x ++ (tP8 n x ++ (tR x ++ (tDW n x ++ (tEW n x ++ (tD n x ++ (tI8 n x ++ (tP8 n x ++ (tR x ++ (tU n x ++ (tU n x ++ (tD n x ++ (tI8 n x ++ (tP8 n x ++ tR x)))))))))))))))))))))))))))))))))))))))))))))))))))
theorem an_tails {n x : Nat} (hx : x < 256 ^ n) (hb : ∀ i, i < n → 0 < byteAt x i ∧ byteAt x i < 128) : an (tails n x) = true := by
  have a := an_IN n x
  have b := an_PK hx
  have c := an_DW hb
  have d := an_EW n x
  have f := an_D hb
  have g := an_I8 n x
  have i := an_P8 hx
  have j := an_U n x
  have r := an_R x
  repeat first
    | exact r
    | refine an_and (by assumption) ?_
theorem key_q {x a b : Nat} (h : a % 256 ≠ b % 256) : kq x a b false = true := by
  have e : Nat.shiftLeft x 8 = x * 256 := Nat.shiftLeft_eq x 8
  have : Nat.beq (Nat.add a (Nat.shiftLeft x 8)) (Nat.add b (Nat.shiftLeft x 8)) = false := by
    rw [beq_eq, decide_eq_false]
    intro h2
    have h2 : a + Nat.shiftLeft x 8 = b + Nat.shiftLeft x 8 := h2
    omega
  show beqB (Nat.beq (Nat.add a (Nat.shiftLeft x 8)) (Nat.add b (Nat.shiftLeft x 8))) false = true
  rw [this]; rfl
theorem key_s {x a : Nat} : kq x a a true = true := by
  show beqB (Nat.beq (Nat.add a (Nat.shiftLeft x 8)) (Nat.add a (Nat.shiftLeft x 8))) true = true
  rw [beq_t]; rfl
theorem key_c {x a c : Nat} (h : a % 256 ≠ c % 256 ∨ x ≠ (c - a) / 256) : kc x a c false = true := by
  have e : Nat.shiftLeft x 8 = x * 256 := Nat.shiftLeft_eq x 8
  have : Nat.beq (Nat.add a (Nat.shiftLeft x 8)) c = false := by
    rw [beq_eq, decide_eq_false]
    intro h2
    have h2 : a + Nat.shiftLeft x 8 = c := h2
    rw [e] at h2
    rcases h with h | h
    · omega
    · omega
  show beqB (Nat.beq (Nat.add a (Nat.shiftLeft x 8)) c) false = true
  rw [this]; rfl
noncomputable abbrev kd (x a c : Nat) (d : Bool) : Bool := beqB (Nat.beq c (Nat.add a (Nat.shiftLeft x 8))) d
theorem key_d {x a c : Nat} (h : a % 256 ≠ c % 256 ∨ x ≠ (c - a) / 256) : kd x a c false = true := by
  have h1 := key_c (x := x) h
  have e : Nat.beq c (Nat.add a (Nat.shiftLeft x 8)) = Nat.beq (Nat.add a (Nat.shiftLeft x 8)) c := by rw [beq_eq, beq_eq]; exact decide_eq_decide.2 eq_comm
  show beqB (Nat.beq c (Nat.add a (Nat.shiftLeft x 8))) false = true
  rw [e]; exact h1
theorem lenS_s (n x : Nat) (k : AV → Res) : lenS (.str n x) k = k (.int 63 (.ofNat n)) := of_eq_true (eq_self _)
theorem sIdx_s (n x c j : Nat) (hj : j < n) (k : AV → Res) : sIdx (.str n x) (.int c (.ofNat j)) k = k (.int 8 (.ofNat (byteAt x j))) := by
  show ifB (Nat.blt j n) (k (.int 8 (.ofNat (byteAt x j)))) .fail = _
  rw [(blt_iff _ _).2 hj]; rfl
theorem ltN_e (c : Nat) (m n : Int) (k : Bool → Res) : ltN (.int c m) (.int c n) k = k (ltI m n) := by rw [ltN_i, ltI_eq]
theorem gj_f (r : Res) (h : Hp) (k : AV → Hp → Res) : gj (.bool false) false r h k = jn r fun w h => uc w fun v _ => k v h := by
  show jn (gd (.bool false) false r (.norm [.tup .nil] h)) _ = _
  rw [gd_ff]
theorem gj_t (r : Res) (h : Hp) (k : AV → Hp → Res) : gj (.bool true) false r h k = k (.tup .nil) h := of_eq_true (eq_self _)
abbrev loop6 : List AV → Hp → Res := L6n0 s8 s10 s19 s20 s21 s22 s26 s28 s29
theorem ltI_f {a b : Nat} (h : b ≤ a) : ltI (.ofNat a) (.ofNat b) = false := by rw [ltI_eq]; simp; omega
theorem ltI_t {a b : Nat} (h : a < b) : ltI (.ofNat a) (.ofNat b) = true := by rw [ltI_eq]; simp; omega
theorem loop6_go {n x j : Nat} {t : Bool} {h : Hp} (hj : j < n) (hn : n ≤ 20) (h1 : 32 ≤ byteAt x j) (h2 : byteAt x j ≤ 126) : loop6 [.str n x, .bool t, .int 63 (.ofNat j)] h = .norm [.str n x, .bool t, .int 63 (.ofNat (j + 1))] h := by
  have e : wrapC 63 (Int.ofNat j + Int.ofNat 1) = .ofNat (j + 1) := w63_in _ (by show (-9223372036854775808 : Int) ≤ (j : Int) + 1; omega) (by show (j : Int) + 1 < _; omega)
  unfold loop6 L6n0
  simp only [uc_c, lenS_s, ltN_e, ltI_t hj, ifB_t, sIdx_s _ _ _ _ hj, ltI_f h1, ap_e, gsel_ff, gj_f, jn_n, ltI_f h2, cB_b, sel_f, ifB_f, blk_n, iAdd_i, e]
theorem loop6_bad {n x j : Nat} {t : Bool} {h : Hp} (hj : j < n) (h1 : byteAt x j < 32 ∨ 126 < byteAt x j) : loop6 [.str n x, .bool t, .int 63 (.ofNat j)] h = .ret (.bool t) h := by
  unfold loop6 L6n0
  by_cases h0 : byteAt x j < 32
  · simp only [uc_c, lenS_s, ltN_e, ltI_t hj, ifB_t, sIdx_s _ _ _ _ hj, ltI_t h0, ap_e, gsel_tf, gj_t, jn_n, cB_b, sel_t, cK_b, blk_r]
  · have h2 : 126 < byteAt x j := by omega
    simp only [uc_c, lenS_s, ltN_e, ltI_t hj, ifB_t, sIdx_s _ _ _ _ hj, ltI_f (show 32 ≤ byteAt x j by omega), ap_e, gsel_ff, gj_f, jn_n, ltI_t h2, cB_b, sel_f, ifB_f, cK_b, blk_r]
theorem loop6_end {n x j : Nat} {t : Bool} {h : Hp} (hj : n ≤ j) : loop6 [.str n x, .bool t, .int 63 (.ofNat j)] h = .exit 0 [.str n x, .bool t] h := by
  unfold loop6 L6n0
  simp only [uc_c, lenS_s, ltN_e, ltI_f hj, ifB_f]
def fits6 (n x j : Nat) : Prop := ∀ i, j ≤ i → i < n → 32 ≤ byteAt x i ∧ byteAt x i ≤ 126
theorem lp6 {n x : Nat} {t : Bool} {h : Hp} (hn : n ≤ 20) : ∀ (d j f : Nat), j + d = n → d < f →
    (fits6 n x j ∧ lp loop6 f [.str n x, .bool t, .int 63 (.ofNat j)] h = .exit 0 [.str n x, .bool t] h) ∨ lp loop6 f [.str n x, .bool t, .int 63 (.ofNat j)] h = .ret (.bool t) h := by
  intro d
  induction d with
  | zero =>
    intro j f hd hf
    obtain ⟨f, rfl⟩ : ∃ g, f = g + 1 := ⟨f - 1, by omega⟩
    refine .inl ⟨fun i h1 h2 => by omega, ?_⟩
    have e := loop6_end (n := n) (x := x) (j := j) (t := t) (h := h) (by omega)
    show Res.rec (motive := fun _ => Res) .fail (lp loop6 f) (fun i vs h => .exit i vs h) (fun v h => .ret v h) (fun p _ ihr => .ask p ihr) (loop6 [.str n x, .bool t, .int 63 (.ofNat j)] h) = _
    rw [e]
  | succ d ih =>
    intro j f hd hf
    obtain ⟨f, rfl⟩ : ∃ g, f = g + 1 := ⟨f - 1, by omega⟩
    have hs : lp loop6 (f + 1) [.str n x, .bool t, .int 63 (.ofNat j)] h = Res.rec (motive := fun _ => Res) .fail (lp loop6 f) (fun i vs h => .exit i vs h) (fun v h => .ret v h) (fun p _ ihr => .ask p ihr) (loop6 [.str n x, .bool t, .int 63 (.ofNat j)] h) := rfl
    by_cases hb : byteAt x j < 32 ∨ 126 < byteAt x j
    · rw [hs, loop6_bad (by omega) hb]; exact .inr rfl
    · rw [hs, loop6_go (by omega) hn (by omega) (by omega)]
      show (fits6 n x j ∧ lp loop6 f [.str n x, .bool t, .int 63 (.ofNat (j + 1))] h = .exit 0 [.str n x, .bool t] h) ∨ lp loop6 f [.str n x, .bool t, .int 63 (.ofNat (j + 1))] h = .ret (.bool t) h
      rcases ih (j + 1) f (by omega) (by omega) with ⟨h1, h2⟩ | h2
      · refine .inl ⟨fun i g1 g2 => ?_, h2⟩
        by_cases hij : i = j
        · subst hij; omega
        · exact h1 i (by omega) g2
      · exact .inr h2
/-- The law's run at a text: its first twenty bytes at most; if one of them is not printed, it is over. -/
theorem run6 (n x : Nat) (h : Hp) {m y : Nat} (hm : (n ≤ 20 ∧ m = n ∧ y = x) ∨ (20 < n ∧ m = 20 ∧ y = x % 256 ^ 20)) :
    (fits6 m y 0 ∧ s6 [.str n x] h = t6 (.str m y) (.bool true) h) ∨ s6 [.str n x] h = .ret (.bool true) h := by
  have hm20 : m ≤ 20 := by omega
  have hl := lp6 (x := y) (t := true) (h := h) hm20 m 0 most (by omega) (by show m < 1000000; omega)
  have e : s6 [.str n x] h = blk 0 (lp loop6 most [.str m y, .bool true, .int 63 (.ofNat 0)] h) fun a b => uc a fun a c => uc c fun c _ => t6 a c b := by
    have e0 : s6 [.str n x] h = jn (ifB (ltI (.ofNat 20) (.ofNat n)) (cutT (.str n x) none (some (.int 63 (.ofNat 20))) fun a => .norm [a, .bool true] h) (.norm [.str n x, .bool true] h)) fun a b => uc a fun a c => uc c fun c _ => blk 0 (lp loop6 most [a, c, .int 63 (.ofNat 0)] b) fun a b => uc a fun a c => uc c fun c _ => t6 a c b := by kernel_rfl
    rw [e0]
    rcases hm with ⟨h1, rfl, rfl⟩ | ⟨h1, rfl, rfl⟩
    · rw [ltI_f h1]; rfl
    · rw [ltI_t h1]
      have ec : cutT (.str n x) none (some (.int 63 (.ofNat 20))) (fun a => .norm [a, .bool true] h) = ifB (Nat.ble 20 n) (.norm [.str 20 (Nat.mod x (Nat.pow 2 160)), .bool true] h) .fail := by kernel_rfl
      show jn (cutT (.str n x) none (some (.int 63 (.ofNat 20))) (fun a => .norm [a, .bool true] h)) _ = _
      rw [ec, (ble_iff _ _).2 (Nat.le_of_lt h1)]
      rfl
  rw [e]
  rcases hl with ⟨h1, h2⟩ | h2
  · rw [h2]; exact .inl ⟨h1, rfl⟩
  · rw [h2]; exact .inr rfl
end
end Go.Proofs.YtbkkfmjofmfijaaGreatDoor
