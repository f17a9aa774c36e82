/-
  Some cases of the law TopArrays.
-/
import Derived.Test.YtmoojalmefnmnaaGreatDoorFg
import Derived.KernelRfl
set_option linter.unusedVariables false
set_option linter.unusedSimpArgs false
namespace Go.Proofs.YtmoojalmefnmnaaGreatDoor.LTopArrays
open Go Go.AM
theorem pk (u s w : Nat) (h : s + w ≤ 64) : Nat.land ((u * 2 ^ s) % 2 ^ 64) ((2 ^ w - 1) * 2 ^ s) / 2 ^ s = u % 2 ^ w := by
  apply Nat.eq_of_testBit_eq
  intro i
  show Nat.testBit (((u * 2 ^ s) % 2 ^ 64 &&& (2 ^ w - 1) * 2 ^ s) / 2 ^ s) i = _
  rw [Nat.testBit_div_two_pow, Nat.testBit_and, Nat.testBit_mod_two_pow, Nat.testBit_mod_two_pow, Nat.testBit_mul_two_pow, Nat.testBit_mul_two_pow, Nat.testBit_two_pow_sub_one]
  by_cases h1 : i < w
  · simp [h1, show i + s < 64 by omega]
  · simp [h1]
theorem w64n (n : Nat) (h : n < 18446744073709551616) : wrapC 64 (.ofNat n) = .ofNat n := by rw [w64]; show (n : Int) % _ = (n : Int); omega
theorem toU64 (n : Nat) (h : n < 18446744073709551616) : toU 64 (wrapC 64 (.ofNat n)) = n := by
  have e : wrapC 64 (.ofNat n) = (n : Int) := by
    rw [w64]; show (n : Int) % _ = _; omega
  rw [e, show (64 : Nat) = cOf .u64 from rfl, toU_eq, BitVec.toNat_ofInt]
  show ((n : Int) % 18446744073709551616).toNat = n
  omega
theorem lay64 (X : Int) (s w p mask : Nat) (hp : p = 2 ^ s) (hm : mask = (2 ^ w - 1) * 2 ^ s) (h : s + w ≤ 64) :
    shrI (wrapC 64 (.ofNat (Nat.lor 0 (toU 64 (wrapC 64 (.ofNat (Nat.land (toU 64 (wrapC 64 (Int.mul (wrapC 64 X) (.ofNat p)))) mask))))))) s = ((X % 2 ^ w).toNat : Int) := by
  subst hp hm
  have hu : ∃ u : Nat, wrapC 64 X = (u : Int) ∧ u % 2 ^ w = (X % 2 ^ w).toNat := by
    refine ⟨(X % 18446744073709551616).toNat, by rw [w64]; omega, ?_⟩
    have hd : (2 : Int) ^ w ∣ 18446744073709551616 := ⟨2 ^ (64 - w), by rw [← Int.pow_add, show w + (64 - w) = 64 by omega]; rfl⟩
    have h0 : (0 : Int) < 2 ^ w := Int.pow_pos (by decide)
    have e1 : ((X % 18446744073709551616).toNat : Int) = X % 18446744073709551616 := by omega
    have e2 : (((X % 18446744073709551616).toNat % 2 ^ w : Nat) : Int) = X % 2 ^ w := by
      rw [Int.natCast_emod, e1, Int.natCast_pow]
      exact Int.emod_emod_of_dvd X hd
    omega
  obtain ⟨u, e1, e2⟩ := hu
  have e3 : wrapC 64 (Int.mul (u : Int) (.ofNat (2 ^ s))) = .ofNat (u * 2 ^ s % 18446744073709551616) := by
    rw [w64]; show (u : Int) * ((2 ^ s : Nat) : Int) % 18446744073709551616 = ((u * 2 ^ s % 18446744073709551616 : Nat) : Int)
    rw [Int.natCast_emod, Int.natCast_mul]; rfl
  have e4 : toU 64 (.ofNat (u * 2 ^ s % 18446744073709551616)) = u * 2 ^ s % 18446744073709551616 := by
    have := toU64 (u * 2 ^ s % 18446744073709551616) (Nat.mod_lt _ (by decide))
    rwa [show wrapC 64 (.ofNat (u * 2 ^ s % 18446744073709551616)) = .ofNat (u * 2 ^ s % 18446744073709551616) from w64n _ (Nat.mod_lt _ (by decide))] at this
  have hB : Nat.land (u * 2 ^ s % 18446744073709551616) ((2 ^ w - 1) * 2 ^ s) < 18446744073709551616 := Nat.lt_of_le_of_lt Nat.and_le_left (Nat.mod_lt _ (by decide))
  rw [e1, e3, e4, toU64 _ hB, show Nat.lor 0 (Nat.land (u * 2 ^ s % 18446744073709551616) ((2 ^ w - 1) * 2 ^ s)) = Nat.land (u * 2 ^ s % 18446744073709551616) ((2 ^ w - 1) * 2 ^ s) from Nat.zero_or _]
  rw [show wrapC 64 (.ofNat (Nat.land (u * 2 ^ s % 18446744073709551616) ((2 ^ w - 1) * 2 ^ s))) = .ofNat (Nat.land (u * 2 ^ s % 18446744073709551616) ((2 ^ w - 1) * 2 ^ s)) from w64n _ hB]
  show ((Nat.land (u * 2 ^ s % 18446744073709551616) ((2 ^ w - 1) * 2 ^ s) / 2 ^ s : Nat) : Int) = _
  have := pk u s w h
  rw [show (2 : Nat) ^ 64 = 18446744073709551616 from rfl] at this
  rw [this, e2]
theorem eq7 (m : Int) (h1 : -100000 < m) (h2 : m < 100000) (s p mask : Nat) (hp : p = 2 ^ s) (hm : mask = (2 ^ 8 - 1) * 2 ^ s) (h : s + 8 ≤ 64) :
    eqI (wrapC 63 (wrapC 7 (wrapC 63 (shrI (wrapC 64 (.ofNat (Nat.lor 0 (toU 64 (wrapC 64 (.ofNat (Nat.land (toU 64 (wrapC 64 (Int.mul (wrapC 64 (wrapC 63 (wrapC 7 (wrapC 63 (wrapC 31 m))))) (.ofNat p)))) mask))))))) s)))) (wrapC 63 (wrapC 7 m)) = true := by
  rw [lay64 _ s 8 p mask hp hm h, w31_in m (by omega) (by omega), w63_in m (by omega) (by omega)]
  have hy : wrapC 7 m = Int.bmod m 256 := w7 m
  have r1 : -128 ≤ wrapC 7 m ∧ wrapC 7 m < 128 := by rw [hy]; simp only [Int.bmod]; split <;> omega
  generalize wrapC 7 m = Y at *
  rw [w63_in Y (by omega) (by omega)]
  have e : (Y % 2 ^ 8).toNat = (Y % 256).toNat := rfl
  rw [e, w63_in ((Y % 256).toNat : Int) (by omega) (by omega), w7]
  have e2 : Int.bmod ((Y % 256).toNat : Int) 256 = Y := by simp only [Int.bmod]; split <;> omega
  rw [e2, w63_in Y (by omega) (by omega), eqI_eq, beq_self_eq_true]
theorem eq15 (m : Int) (h1 : -100000 < m) (h2 : m < 100000) (s p mask : Nat) (hp : p = 2 ^ s) (hm : mask = (2 ^ 16 - 1) * 2 ^ s) (h : s + 16 ≤ 64) :
    eqI (wrapC 63 (wrapC 15 (wrapC 63 (shrI (wrapC 64 (.ofNat (Nat.lor 0 (toU 64 (wrapC 64 (.ofNat (Nat.land (toU 64 (wrapC 64 (Int.mul (wrapC 64 (wrapC 63 (wrapC 15 (wrapC 63 (wrapC 31 m))))) (.ofNat p)))) mask))))))) s)))) (wrapC 63 (wrapC 15 m)) = true := by
  rw [lay64 _ s 16 p mask hp hm h, w31_in m (by omega) (by omega), w63_in m (by omega) (by omega)]
  have hy : wrapC 15 m = Int.bmod m 65536 := w15 m
  have r1 : -32768 ≤ wrapC 15 m ∧ wrapC 15 m < 32768 := by rw [hy]; simp only [Int.bmod]; split <;> omega
  generalize wrapC 15 m = Y at *
  rw [w63_in Y (by omega) (by omega)]
  have e : (Y % 2 ^ 16).toNat = (Y % 65536).toNat := rfl
  rw [e, w63_in ((Y % 65536).toNat : Int) (by omega) (by omega), w15]
  have e2 : Int.bmod ((Y % 65536).toNat : Int) 65536 = Y := by simp only [Int.bmod]; split <;> omega
  rw [e2, w63_in Y (by omega) (by omega), eqI_eq, beq_self_eq_true]
theorem eq16 (m : Int) (h1 : -100000 < m) (h2 : m < 100000) (s p mask : Nat) (hp : p = 2 ^ s) (hm : mask = (2 ^ 16 - 1) * 2 ^ s) (h : s + 16 ≤ 64) :
    eqI (wrapC 63 (wrapC 16 (wrapC 63 (shrI (wrapC 64 (.ofNat (Nat.lor 0 (toU 64 (wrapC 64 (.ofNat (Nat.land (toU 64 (wrapC 64 (Int.mul (wrapC 64 (wrapC 63 (wrapC 16 (wrapC 63 (wrapC 31 m))))) (.ofNat p)))) mask))))))) s)))) (wrapC 63 (wrapC 16 m)) = true := by
  rw [lay64 _ s 16 p mask hp hm h, w31_in m (by omega) (by omega), w63_in m (by omega) (by omega)]
  have hy : wrapC 16 m = m % 65536 := w16 m
  have r1 : 0 ≤ wrapC 16 m ∧ wrapC 16 m < 65536 := by rw [hy]; omega
  generalize wrapC 16 m = Y at *
  rw [w63_in Y (by omega) (by omega)]
  have e : (Y % 2 ^ 16).toNat = (Y % 65536).toNat := rfl
  rw [e, w63_in ((Y % 65536).toNat : Int) (by omega) (by omega), w16]
  have e2 : ((Y % 65536).toNat : Int) % 65536 = Y := by omega
  rw [e2, w63_in Y (by omega) (by omega), eqI_eq, beq_self_eq_true]
theorem eq31 (m : Int) (h1 : -100000 < m) (h2 : m < 100000) (s p mask : Nat) (hp : p = 2 ^ s) (hm : mask = (2 ^ 32 - 1) * 2 ^ s) (h : s + 32 ≤ 64) :
    eqI (wrapC 63 (wrapC 31 (wrapC 63 (shrI (wrapC 64 (.ofNat (Nat.lor 0 (toU 64 (wrapC 64 (.ofNat (Nat.land (toU 64 (wrapC 64 (Int.mul (wrapC 64 (wrapC 63 (wrapC 31 (wrapC 63 (wrapC 31 m))))) (.ofNat p)))) mask))))))) s)))) m = true := by
  rw [lay64 _ s 32 p mask hp hm h, w31_in m (by omega) (by omega), w63_in m (by omega) (by omega), w31_in m (by omega) (by omega), w63_in m (by omega) (by omega)]
  have e : (m % 2 ^ 32).toNat = (m % 4294967296).toNat := rfl
  rw [e, w63_in ((m % 4294967296).toNat : Int) (by omega) (by omega), w31]
  have e2 : Int.bmod ((m % 4294967296).toNat : Int) 4294967296 = m := by simp only [Int.bmod]; split <;> omega
  rw [e2, w63_in m (by omega) (by omega), eqI_eq, beq_self_eq_true]
theorem eq1 (m : Int) (h1 : -100000 < m) (h2 : m < 100000) (s p mask : Nat) (hp : p = 2 ^ s) (hm : mask = (2 ^ 8 - 1) * 2 ^ s) (h : s + 8 ≤ 64) :
    eqI (wrapC 63 (.ofNat (Nat.land (toU 63 (wrapC 63 (shrI (wrapC 64 (.ofNat (Nat.lor 0 (toU 64 (wrapC 64 (.ofNat (Nat.land (toU 64 (wrapC 64 (Int.mul (wrapC 64 (wrapC 63 (.ofNat (Nat.land (toU 63 (wrapC 63 (wrapC 31 m))) 1)))) (.ofNat p)))) mask))))))) s))) 1))) (wrapC 63 (.ofNat (Nat.land (toU 63 m) 1))) = true := by
  rw [lay64 _ s 8 p mask hp hm h, w31_in m (by omega) (by omega), w63_in m (by omega) (by omega)]
  have hl : ∀ a, Nat.land a 1 = a % 2 := fun a => Nat.and_one_is_mod a
  rw [hl, hl]
  have ht : toU 63 m % 2 < 2 := Nat.mod_lt _ (by decide)
  generalize toU 63 m % 2 = t at ht
  rw [show wrapC 63 (.ofNat t) = (t : Int) from w63_in _ (by show -9223372036854775808 ≤ (t : Int); omega) (by show (t : Int) < 9223372036854775808; omega)]
  have e : ((t : Int) % 2 ^ 8).toNat = ((t : Int) % 256).toNat := rfl
  rw [e, show (((t : Int) % 256).toNat) = t by omega, w63_in (t : Int) (by omega) (by omega)]
  have e3 : toU 63 (t : Int) = t := by
    rw [show (63 : Nat) = cOf .i64 from rfl, toU_eq, BitVec.toNat_ofInt]
    show ((t : Int) % 18446744073709551616).toNat = t
    omega
  rw [e3, show t % 2 = t by omega, show wrapC 63 (.ofNat t) = (t : Int) from w63_in _ (by show -9223372036854775808 ≤ (t : Int); omega) (by show (t : Int) < 9223372036854775808; omega), eqI_eq, beq_self_eq_true]
noncomputable def pv (r : Res) (i : Nat) : AV := Res.rec (motive := fun _ => AV) .unk (fun _ _ => .unk) (fun _ _ _ => .unk) (fun v _ => nth v i) r
noncomputable def hO (r : Res) : Hp := Res.rec (motive := fun _ => Hp) H0 (fun _ _ => H0) (fun _ _ _ => H0) (fun _ h => h) r
noncomputable def qb6R1 (s9 s10 s11 s20 s21 s22 s25 s28 s31 : Fun) : Fun := fun a b => uc a fun a c => uc c fun c d => uc d fun d e => uz e (cl (s9 [] b) fun b e => bNot b fun f => cB f fun f => ifB f (.fail) (.ret (.cons c (.cons d (.cons b .nil))) e))
noncomputable def qb6R0 (s10 s11 s25 s28 s20 s22 s31 s21 : Fun) (a : AV) (b : AV) (c : AV) (d : AV) (e : Hp) : Res := iRem a (I 100000) fun a => .ret (.cons d (.cons a (.cons c .nil))) e
noncomputable def P_0 (a0 a1 a2 : Int) : Res := qb6R1 s9 s10 s11 s20 s21 s22 s25 s28 s31 [(.int 63 a0), (.int 63 a1), (.int 63 a2)] H0
noncomputable def D_0 (a0 a1 a2 : Int) (r0 : Nat) : Res := b6R1 s10 s11 s25 s28 s20 s22 s31 s21 (.int 63 a1) (.int 63 a2) (.bool true) (I r0) (hO (P_0 a0 a1 a2))
noncomputable def P_1 (a0 a1 a2 : Int) (r0 : Nat) : Res := qb6R0 s10 s11 s25 s28 s20 s22 s31 s21 (.int 63 a1) (.int 63 a2) (.bool true) (I r0) (hO (P_0 a0 a1 a2))
noncomputable def D_1 (a0 a1 a2 : Int) (r0 r1 : Nat) : Res := b6R0 s11 s25 s28 s20 s22 s31 s21 (I r0) (pv (P_1 a0 a1 a2 r0) 1) (.bool true) (I r1) (hO (P_1 a0 a1 a2 r0))
end Go.Proofs.YtmoojalmefnmnaaGreatDoor.LTopArrays
