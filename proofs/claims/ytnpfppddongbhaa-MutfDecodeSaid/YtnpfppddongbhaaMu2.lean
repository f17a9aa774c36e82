/-
  Texts of class files, part 2: reckoned by the abstract machine.
-/
import Derived.Test.YtnpfppddongbhaaMu1
namespace Go.Proofs.Ytnpfppddongbhaa
open Go Go.AM
set_option autoImplicit false
set_option linter.unusedSimpArgs false
set_option linter.unusedVariables false
/-! ### numbers of 16 bits -/
theorem shl6n (a : Nat) (d : Nat) (k : AV → Res) : iShl (.int 16 (a : Int)) (.int d 6) k = k (.int 16 ((a * 64 % 65536 : Nat) : Int)) := by
  have e : iShl (.int 16 (a : Int)) (.int d 6) k = k (.int 16 (wrapC 16 ((a : Int) * 64))) := iShl_i k 16 a d 6 (by decide)
  rw [e, w16]; congr 2
theorem shl12n (a : Nat) (d : Nat) (k : AV → Res) : iShl (.int 16 (a : Int)) (.int d 12) k = k (.int 16 ((a * 4096 % 65536 : Nat) : Int)) := by
  have e : iShl (.int 16 (a : Int)) (.int d 12) k = k (.int 16 (wrapC 16 ((a : Int) * 4096))) := iShl_i k 16 a d 12 (by decide)
  rw [e, w16]; congr 2
theorem or16n (a b : Nat) (k : AV → Res) : iOr (.int 16 (a : Int)) (.int 16 (b : Int)) k = k (.int 16 ((Nat.lor (a % 65536) (b % 65536) % 65536 : Nat) : Int)) := by
  rw [iOr_i, toU16n, toU16n]
  show k (.int 16 (wrapC 16 ((Nat.lor (a % 65536) (b % 65536) : Nat) : Int))) = _
  rw [w16n]
theorem add16n (a b : Nat) (k : AV → Res) : iAdd (.int 16 (a : Int)) (.int 16 (b : Int)) k = k (.int 16 (((a + b) % 65536 : Nat) : Int)) := by
  rw [iAdd_i, w16]; congr 2
def v2 (c y : Nat) : Nat := c % 32 * 64 + y % 64
def v3 (c y z : Nat) : Nat := c % 16 * 4096 + y % 64 * 64 + z % 64
theorem land15 (x : Nat) : Nat.land x 15 = x % 16 := Nat.and_two_pow_sub_one_eq_mod x 4
theorem lor64 (a b : Nat) (hb : b < 64) : Nat.lor (a * 64) b = a * 64 + b := by
  have := Nat.two_pow_add_eq_or_of_lt (i := 6) hb a
  rw [Nat.mul_comm]
  exact this.symm
theorem lor4096 (a b : Nat) (hb : b < 4096) : Nat.lor (a * 4096) b = a * 4096 + b := by
  have := Nat.two_pow_add_eq_or_of_lt (i := 12) hb a
  rw [Nat.mul_comm]
  exact this.symm
theorem val2 (c y : Nat) : Nat.lor (Nat.land c 31 % 65536 * 64 % 65536 % 65536) (Nat.land (y % 256) 63 % 256 % 65536 % 65536) % 65536 = v2 c y := by
  rw [land31, land63, show c % 32 % 65536 * 64 % 65536 % 65536 = c % 32 * 64 by omega, show y % 256 % 64 % 256 % 65536 % 65536 = y % 64 by omega, lor64 _ _ (by omega)]
  unfold v2; omega
theorem val3 (c y z : Nat) : Nat.lor (Nat.lor (Nat.land c 15 % 65536 * 4096 % 65536 % 65536) (Nat.land (y % 256) 63 % 256 % 65536 * 64 % 65536 % 65536) % 65536 % 65536) (Nat.land (z % 256) 63 % 256 % 65536 % 65536) % 65536 = v3 c y z := by
  rw [land15, land63, land63, show c % 16 % 65536 * 4096 % 65536 % 65536 = c % 16 * 4096 by omega, show y % 256 % 64 % 256 % 65536 * 64 % 65536 % 65536 = y % 64 * 64 by omega,
    show z % 256 % 64 % 256 % 65536 % 65536 = z % 64 by omega, lor4096 _ _ (by omega),
    show (c % 16 * 4096 + y % 64 * 64) % 65536 % 65536 = (c % 16 * 64 + y % 64) * 64 by omega, lor64 _ _ (by omega)]
  unfold v3; omega

/-! ### the loop -/
def dec (n : Nat) (Y : Nat → Nat) : Nat → Nat → Option (List Nat)
  | 0, _ => some []
  | f + 1, i =>
    if i < n then
      if 0 < Y i ∧ Y i < 128 then (dec n Y f (i + 1)).map (Y i :: ·)
      else if (192 ≤ Y i ∧ Y i < 224) ∧ ct n Y (i + 1) = true then (dec n Y f (i + 2)).map (v2 (Y i) (Y (i + 1)) :: ·)
      else if (224 ≤ Y i ∧ Y i < 240) ∧ ct n Y (i + 1) = true ∧ ct n Y (i + 2) = true then (dec n Y f (i + 3)).map (v3 (Y i) (Y (i + 1)) (Y (i + 2)) :: ·)
      else none
    else some []

theorem lp_n {F : List AV → Hp → Res} {vs vs' : List AV} {h h' : Hp} (m : Nat) (e : F vs h = .norm vs' h') : lp F (m + 1) vs h = lp F m vs' h' := by
  have : lp F (m + 1) vs h = Res.rec (motive := fun _ => Res) .fail (lp F m) (fun i vs h => .exit i vs h) (fun v h => .ret v h) (F vs h) := rfl
  rw [this, e]
theorem lp_x {F : List AV → Hp → Res} {vs vs' : List AV} {h h' : Hp} {i : Nat} (m : Nat) (e : F vs h = .exit i vs' h') : lp F (m + 1) vs h = .exit i vs' h' := by
  have : lp F (m + 1) vs h = Res.rec (motive := fun _ => Res) .fail (lp F m) (fun i vs h => .exit i vs h) (fun v h => .ret v h) (F vs h) := rfl
  rw [this, e]
theorem lp_r {F : List AV → Hp → Res} {vs : List AV} {v : AV} {h h' : Hp} (m : Nat) (e : F vs h = .ret v h') : lp F (m + 1) vs h = .ret v h' := by
  have : lp F (m + 1) vs h = Res.rec (motive := fun _ => Res) .fail (lp F m) (fun i vs h => .exit i vs h) (fun v h => .ret v h) (F vs h) := rfl
  rw [this, e]

/-- One value is put behind a slice that grows. -/
theorem push {h : Hp} {N : Nat} {u : AV} {l : List AV} (hN : N ≤ h.nb) (hw : Wf h) (hu : Gr h N u l) {by_ : Nat} (v : AV) (hv : one v = true) (hb : (l.length + 1) * by_ ≤ 140737488355328) (hb2 : l.length + 1 ≤ 9223372036854775807) :
    ∃ u' h', (∀ k : AV → Hp → Res, (mkS h 1 1 (avL [v]) fun w h1 => apd h1 1 by_ u w k) = k u' h') ∧ Gr h' N u' (l ++ [v]) ∧ To (fun b => N ≤ b) h h' ∧ Wf h' ∧ N ≤ h'.nb := by
  obtain ⟨t, t1, t2⟩ := lay_list [v] .e 0 (by simpa using hv)
  obtain ⟨o1, o2⟩ := nw_own hw 1 .nil t
  have hrun : ∀ k : AV → Hp → Res, mkS h 1 1 (avL [v]) k = k (.sl h.nb 0 1 1 (some 1)) (nw h 1 .nil t) := fun k => by
    have e : mkS h 1 1 (avL [v]) k = lay (avL [v]) .e 0 fun t m => ifB (Nat.beq m (Nat.mul 1 1)) (k (.sl h.nb 0 1 1 (some 1)) (nw h m .nil t)) .fail := rfl
    rw [e, t1]; rfl
  have ho2 : To (fun b => N ≤ b) h (nw h 1 .nil t) := o2.mono fun _ _ f => f.elim
  have hw1 := o2.wf hw
  have hN1 : N ≤ (nw h 1 .nil t).nb := Nat.le_trans hN o2.nb
  have hu1 : Gr (nw h 1 .nil t) N u l := by
    obtain ⟨g1, g2⟩ := hu
    refine ⟨g1.to o2 (fun _ _ f => f), ?_⟩
    rcases g2 with g2 | g2 | ⟨b, B, q1, q2, q3, q4⟩
    · exact .inl g2
    · exact .inr (.inl g2)
    · refine .inr (.inr ⟨b, B, q1, ?_, q3, q4⟩)
      rcases g1.2 with ⟨e, -⟩ | ⟨e, -⟩ | ⟨b', o', c', B', e, -, h4, -⟩
      · rw [q1] at e; cases e
      · rw [q1] at e; cases e
      · rw [q1] at e; cases e
        rw [o2.get _ h4.lt (fun f => f)]; exact q2
  have hy : Sl (nw h 1 .nil t) (fun _ => True) (.sl h.nb 0 1 1 (some 1)) [v] := by
    refine ⟨by simpa using hv, .inr (.inr ⟨h.nb, 0, _, _, rfl, trivial, o1.rd, fun _ => trivial, (fun c e => by cases e; exact Nat.le_refl _), fun i hi => ?_⟩)⟩
    have hi0 : i = 0 := by simpa using hi
    subst hi0
    rw [at_in _ (show 0 + 0 < 1 by decide)]
    simp [t2]
  obtain ⟨u', h', e1, e2, e3⟩ := apd_gr (by_ := by_) hN1 hw1 hu1 hy (by simpa using hb) (by simpa using hb2)
  exact ⟨u', h', fun k => by rw [hrun, e1], e2, ho2.trans e3, e3.wf hw1, Nat.le_trans hN1 e3.nb⟩
end Go.Proofs.Ytnpfppddongbhaa
