/-
  Row laws, part Nb5: reckoned by the abstract machine.
-/
import Derived.Test.YtnpfppddongbhaaDoorFe
import Derived.Test.YtnpfppddongbhaaDoorAm41
namespace Go.Proofs.YtnpfppddongbhaaDoor
open Go Go.AM
theorem SD : type_of% (And.intro @uc_c (And.intro @uz_n (And.intro @cI_i (And.intro @cB_b (And.intro @cT_t (And.intro @cK_b (And.intro @cK_i (And.intro @ap_e (And.intro @jn_n (And.intro @jn_r (And.intro @cl_r (And.intro @iAdd_i (And.intro @iSub_i (And.intro @iMul_i (And.intro @iAnd_i (And.intro @iOr_i (And.intro @iXor_i (And.intro @iNeg_i (And.intro @iConv_i (And.intro @bNot_b (And.intro @eqN_i (And.intro @ltN_i (@eqB_b))))))))))))))))))))))) := And.intro @uc_c (And.intro @uz_n (And.intro @cI_i (And.intro @cB_b (And.intro @cT_t (And.intro @cK_b (And.intro @cK_i (And.intro @ap_e (And.intro @jn_n (And.intro @jn_r (And.intro @cl_r (And.intro @iAdd_i (And.intro @iSub_i (And.intro @iMul_i (And.intro @iAnd_i (And.intro @iOr_i (And.intro @iXor_i (And.intro @iNeg_i (And.intro @iConv_i (And.intro @bNot_b (And.intro @eqN_i (And.intro @ltN_i (@eqB_b))))))))))))))))))))))
theorem SA : type_of% (And.intro @cB_b (And.intro @cT_t (And.intro @nth_z (And.intro @nth_1 (And.intro @cK_b (And.intro @cK_i (And.intro @ifB_t (And.intro @ifB_f (And.intro @sel_t (And.intro @sel_f (And.intro @gsel_tt (And.intro @gsel_tf (And.intro @gsel_ft (And.intro @gsel_ff (And.intro @gsel_u (And.intro @gd_tt (And.intro @gd_tf (And.intro @gd_ft (And.intro @gd_ff (And.intro @gd_u (And.intro @jn_n (And.intro @jn_r (And.intro @blk_n (And.intro @blk_r (And.intro @cl_r (And.intro @iQuo_i (And.intro @iRem_i (And.intro @iConv_i (And.intro @bNot_b (And.intro @bnot_e (And.intro @w63_in (And.intro @w31_in (And.intro @ww3131 (And.intro @ww6363 (And.intro @ww3163 (And.intro @ww6331 (And.intro @ww3231 (And.intro @ww3263 (And.intro @ww6463 (And.intro @ww6364 (And.intro @sh31 (And.intro @sh63 (And.intro @sl63 (And.intro @m31 (And.intro @m63 (And.intro @n63 (And.intro @s5a (And.intro @s5b (And.intro @s6a (And.intro @s6b (And.intro @b31 (And.intro @b32 (And.intro @b63 (And.intro @c63 (And.intro @c64 (And.intro @d64 (And.intro @iShl_c (And.intro @iShr_c (And.intro @sr3 (And.intro @sr6 (@sr7))))))))))))))))))))))))))))))))))))))))))))))))))))))))))))) := And.intro @cB_b (And.intro @cT_t (And.intro @nth_z (And.intro @nth_1 (And.intro @cK_b (And.intro @cK_i (And.intro @ifB_t (And.intro @ifB_f (And.intro @sel_t (And.intro @sel_f (And.intro @gsel_tt (And.intro @gsel_tf (And.intro @gsel_ft (And.intro @gsel_ff (And.intro @gsel_u (And.intro @gd_tt (And.intro @gd_tf (And.intro @gd_ft (And.intro @gd_ff (And.intro @gd_u (And.intro @jn_n (And.intro @jn_r (And.intro @blk_n (And.intro @blk_r (And.intro @cl_r (And.intro @iQuo_i (And.intro @iRem_i (And.intro @iConv_i (And.intro @bNot_b (And.intro @bnot_e (And.intro @w63_in (And.intro @w31_in (And.intro @ww3131 (And.intro @ww6363 (And.intro @ww3163 (And.intro @ww6331 (And.intro @ww3231 (And.intro @ww3263 (And.intro @ww6463 (And.intro @ww6364 (And.intro @sh31 (And.intro @sh63 (And.intro @sl63 (And.intro @m31 (And.intro @m63 (And.intro @n63 (And.intro @s5a (And.intro @s5b (And.intro @s6a (And.intro @s6b (And.intro @b31 (And.intro @b32 (And.intro @b63 (And.intro @c63 (And.intro @c64 (And.intro @d64 (And.intro @iShl_c (And.intro @iShr_c (And.intro @sr3 (And.intro @sr6 (@sr7))))))))))))))))))))))))))))))))))))))))))))))))))))))))))))
end Go.Proofs.YtnpfppddongbhaaDoor
section
namespace Go.Proofs.YtnpfppddongbhaaDoor
open Go Go.AM
set_option autoImplicit false
set_option linter.unusedSimpArgs false
set_option linter.unusedVariables false
/-! ### texts -/
theorem lenS_s (n x : Nat) (k : AV → Res) : lenS (.str n x) k = k (.int 63 (n : Int)) := of_eq_true (eq_self _)
theorem sIdx_s (n x : Nat) (c j : Nat) (hj : j < n) (k : AV → Res) : sIdx (.str n x) (.int c (j : Int)) k = k (.int 8 (byteAt x j : Int)) := by
  have e : sIdx (.str n x) (.int c (j : Int)) k = ifB (Nat.blt j n) (k (.int 8 (byteAt x j : Int))) .fail := rfl
  rw [e, (blt_iff _ _).2 hj]; rfl
theorem byteAt_lt (x j : Nat) : byteAt x j < 256 := Nat.mod_lt _ (by decide)
theorem bld1 (c : Nat) (m : Int) (k : AV → Res) : bld [(false, 1, .int c m)] k = k (avL [.int c m]) := of_eq_true (eq_self _)
theorem bld0 (k : AV → Res) : bld [] k = k (avL []) := of_eq_true (eq_self _)
@[congr] theorem bld_cg {l l' : List (Bool × Nat × AV)} (h : l = l') (k : AV → Res) : bld l k = bld l' k := by rw [h]
@[congr] theorem mkS_cg {l l' : AV} (h : Hp) (z n : Nat) (hl : l = l') (k : AV → Hp → Res) : mkS h z n l k = mkS h z n l' k := by rw [hl]
@[congr] theorem lenS_cg {v v' : AV} (h : v = v') (k : AV → Res) : lenS v k = lenS v' k := by rw [h]
@[congr] theorem sIdx_cg {v v' w w' : AV} (h : v = v') (h' : w = w') (k : AV → Res) : sIdx v w k = sIdx v' w' k := by rw [h, h']

/-! ### numbers -/
theorem toU16n (a : Nat) : toU 16 (a : Int) = a % 65536 := by have := toU16 (a : Int); omega
theorem toU8n (a : Nat) : toU 8 (a : Int) = a % 256 := by have := toU8 (a : Int); omega
theorem w16n (a : Nat) : wrapC 16 (a : Int) = ((a % 65536 : Nat) : Int) := by rw [w16]; omega
theorem w8n (a : Nat) : wrapC 8 (a : Int) = ((a % 256 : Nat) : Int) := by rw [w8]; omega
theorem k16 : toU 16 224 = 224 ∧ toU 16 31 = 31 ∧ toU 16 240 = 240 ∧ toU 16 15 = 15 := by decide +kernel
theorem k8 : toU 8 224 = 224 ∧ toU 8 31 = 31 ∧ toU 8 240 = 240 ∧ toU 8 15 = 15 ∧ toU 8 192 = 192 ∧ toU 8 63 = 63 := by decide +kernel

/-- Does a byte go on with a char? -/
def ct (n : Nat) (Y : Nat → Nat) (i : Nat) : Bool := decide (i < n) && decide (128 ≤ Y i ∧ Y i < 192)
theorem ct_bits : ∀ y < 256, ((((Nat.land (y % 256) 192 % 256 : Nat)) : Int) == 128) = decide (128 ≤ y ∧ y < 192) := by decide +kernel

theorem t72 (n x i : Nat) (h : Hp) : s72 [.str n x, .int 63 (i : Int)] h = .ret (.bool (ct n (byteAt x) i)) h := by
  by_cases hi : i < n
  · have h1 : (i : Int) < (n : Int) := by omega
    have hb := ct_bits _ (byteAt_lt x i)
    simp only [↓s72, ↓lenS_s, h1, sIdx_s n x 63 i hi, toU8n, k8, w8n, ↓SD, SA, Int.ofNat_eq_natCast, Int.cast_ofNat_Int, Int.reduceBEq, Int.reduceAdd, Int.reduceNeg, Int.reduceNegSucc, Int.reduceLT, Int.reduceLE, Int.reduceMul, Int.reduceTMod, Int.reduceSub, Int.reduceBNe, Bool.not_true, Bool.not_false, decide_true, decide_false, ne_eq, not_false_eq_true, Int.reduceEq, reduceCtorEq]
    unfold ct
    simp only [hb, hi, decide_true, Bool.true_and]
  · have h1 : ¬ (i : Int) < (n : Int) := by omega
    simp only [↓s72, ↓lenS_s, h1, ↓SD, SA, Int.ofNat_eq_natCast, Int.cast_ofNat_Int, Int.reduceBEq, Int.reduceAdd, Int.reduceNeg, Int.reduceNegSucc, Int.reduceLT, Int.reduceLE, Int.reduceMul, Int.reduceTMod, Int.reduceSub, Int.reduceBNe, Bool.not_true, Bool.not_false, decide_true, decide_false, ne_eq, not_false_eq_true, Int.reduceEq, reduceCtorEq]
    unfold ct
    simp only [hi, decide_false, Bool.false_and]
theorem t74 (n x i : Nat) (h : Hp) : s74 [.str n x, .int 63 (i : Int)] h = .ret (.tup (.cons (.int 16 (if ct n (byteAt x) i = true then ((byteAt x i % 64 : Nat) : Int) else 0)) (.cons (.bool (ct n (byteAt x) i)) .nil))) h := by
  by_cases hi : i < n
  · have h1 : (i : Int) < (n : Int) := by omega
    have hb := ct_bits _ (byteAt_lt x i)
    by_cases hy : 128 ≤ byteAt x i ∧ byteAt x i < 192
    · have e1 : ((((Nat.land (byteAt x i % 256) 192 % 256 : Nat)) : Int) == 128) = true := by rw [hb]; simpa using hy
      have e2 : Nat.land (byteAt x i % 256) 63 % 256 % 65536 = byteAt x i % 64 := by rw [land63]; omega
      simp only [↓s74, ↓lenS_s, h1, sIdx_s n x 63 i hi, toU8n, k8, w8n, w16n, e1, e2, ↓SD, SA, Int.ofNat_eq_natCast, Int.cast_ofNat_Int, Int.reduceBEq, Int.reduceAdd, Int.reduceNeg, Int.reduceNegSucc, Int.reduceLT, Int.reduceLE, Int.reduceMul, Int.reduceTMod, Int.reduceSub, Int.reduceBNe, Bool.not_true, Bool.not_false, decide_true, decide_false, ne_eq, not_false_eq_true, Int.reduceEq, reduceCtorEq]
      unfold ct
      simp [hi, hy]
    · have e1 : ((((Nat.land (byteAt x i % 256) 192 % 256 : Nat)) : Int) == 128) = false := by rw [hb]; simpa using hy
      simp only [↓s74, ↓lenS_s, h1, sIdx_s n x 63 i hi, toU8n, k8, w8n, w16n, e1, ↓SD, SA, Int.ofNat_eq_natCast, Int.cast_ofNat_Int, Int.reduceBEq, Int.reduceAdd, Int.reduceNeg, Int.reduceNegSucc, Int.reduceLT, Int.reduceLE, Int.reduceMul, Int.reduceTMod, Int.reduceSub, Int.reduceBNe, Bool.not_true, Bool.not_false, decide_true, decide_false, ne_eq, not_false_eq_true, Int.reduceEq, reduceCtorEq]
      unfold ct
      simp [hi]
      omega
  · have h1 : ¬ (i : Int) < (n : Int) := by omega
    simp only [↓s74, ↓lenS_s, h1, ↓SD, SA, Int.ofNat_eq_natCast, Int.cast_ofNat_Int, Int.reduceBEq, Int.reduceAdd, Int.reduceNeg, Int.reduceNegSucc, Int.reduceLT, Int.reduceLE, Int.reduceMul, Int.reduceTMod, Int.reduceSub, Int.reduceBNe, Bool.not_true, Bool.not_false, decide_true, decide_false, ne_eq, not_false_eq_true, Int.reduceEq, reduceCtorEq]
    unfold ct
    simp [hi]
end Go.Proofs.YtnpfppddongbhaaDoor
end

section
namespace Go.Proofs.YtnpfppddongbhaaDoor
open Go Go.AM
set_option autoImplicit false
set_option linter.unusedSimpArgs false
set_option linter.unusedVariables false
/-! ### numbers of 16 bits -/
theorem shl6n (a : Nat) (d : Nat) (k : AV → Res) : iShl (.int 16 (a : Int)) (.int d 6) k = k (.int 16 ((a * 64 % 65536 : Nat) : Int)) := by
  have e : iShl (.int 16 (a : Int)) (.int d 6) k = k (.int 16 (wrapC 16 ((a : Int) * 64))) := iShl_i k 16 a d 6 (by decide)
  rw [e, w16]; congr 2
theorem shl12n (a : Nat) (d : Nat) (k : AV → Res) : iShl (.int 16 (a : Int)) (.int d 12) k = k (.int 16 ((a * 4096 % 65536 : Nat) : Int)) := by
  have e : iShl (.int 16 (a : Int)) (.int d 12) k = k (.int 16 (wrapC 16 ((a : Int) * 4096))) := iShl_i k 16 a d 12 (by decide)
  rw [e, w16]; congr 2
theorem or16n (a b : Nat) (k : AV → Res) : iOr (.int 16 (a : Int)) (.int 16 (b : Int)) k = k (.int 16 ((Nat.lor (a % 65536) (b % 65536) % 65536 : Nat) : Int)) := by
  rw [iOr_i, toU16n, toU16n]
  show k (.int 16 (wrapC 16 ((Nat.lor (a % 65536) (b % 65536) : Nat) : Int))) = _
  rw [w16n]
theorem add16n (a b : Nat) (k : AV → Res) : iAdd (.int 16 (a : Int)) (.int 16 (b : Int)) k = k (.int 16 (((a + b) % 65536 : Nat) : Int)) := by
  rw [iAdd_i, w16]; congr 2
def v2 (c y : Nat) : Nat := c % 32 * 64 + y % 64
def v3 (c y z : Nat) : Nat := c % 16 * 4096 + y % 64 * 64 + z % 64
theorem land15 (x : Nat) : Nat.land x 15 = x % 16 := Nat.and_two_pow_sub_one_eq_mod x 4
theorem lor64 (a b : Nat) (hb : b < 64) : Nat.lor (a * 64) b = a * 64 + b := by
  have := Nat.two_pow_add_eq_or_of_lt (i := 6) hb a
  rw [Nat.mul_comm]
  exact this.symm
theorem lor4096 (a b : Nat) (hb : b < 4096) : Nat.lor (a * 4096) b = a * 4096 + b := by
  have := Nat.two_pow_add_eq_or_of_lt (i := 12) hb a
  rw [Nat.mul_comm]
  exact this.symm
theorem val2 (c y : Nat) : Nat.lor (Nat.land c 31 % 65536 * 64 % 65536 % 65536) (Nat.land (y % 256) 63 % 256 % 65536 % 65536) % 65536 = v2 c y := by
  rw [land31, land63, show c % 32 % 65536 * 64 % 65536 % 65536 = c % 32 * 64 by omega, show y % 256 % 64 % 256 % 65536 % 65536 = y % 64 by omega, lor64 _ _ (by omega)]
  unfold v2; omega
theorem val3 (c y z : Nat) : Nat.lor (Nat.lor (Nat.land c 15 % 65536 * 4096 % 65536 % 65536) (Nat.land (y % 256) 63 % 256 % 65536 * 64 % 65536 % 65536) % 65536 % 65536) (Nat.land (z % 256) 63 % 256 % 65536 % 65536) % 65536 = v3 c y z := by
  rw [land15, land63, land63, show c % 16 % 65536 * 4096 % 65536 % 65536 = c % 16 * 4096 by omega, show y % 256 % 64 % 256 % 65536 * 64 % 65536 % 65536 = y % 64 * 64 by omega,
    show z % 256 % 64 % 256 % 65536 % 65536 = z % 64 by omega, lor4096 _ _ (by omega),
    show (c % 16 * 4096 + y % 64 * 64) % 65536 % 65536 = (c % 16 * 64 + y % 64) * 64 by omega, lor64 _ _ (by omega)]
  unfold v3; omega

/-! ### the loop -/
def dec (n : Nat) (Y : Nat → Nat) : Nat → Nat → Option (List Nat)
  | 0, _ => some []
  | f + 1, i =>
    if i < n then
      if 0 < Y i ∧ Y i < 128 then (dec n Y f (i + 1)).map (Y i :: ·)
      else if (192 ≤ Y i ∧ Y i < 224) ∧ ct n Y (i + 1) = true then (dec n Y f (i + 2)).map (v2 (Y i) (Y (i + 1)) :: ·)
      else if (224 ≤ Y i ∧ Y i < 240) ∧ ct n Y (i + 1) = true ∧ ct n Y (i + 2) = true then (dec n Y f (i + 3)).map (v3 (Y i) (Y (i + 1)) (Y (i + 2)) :: ·)
      else none
    else some []

theorem lp_n {F : List AV → Hp → Res} {vs vs' : List AV} {h h' : Hp} (m : Nat) (e : F vs h = .norm vs' h') : lp F (m + 1) vs h = lp F m vs' h' := by
  have : lp F (m + 1) vs h = Res.rec (motive := fun _ => Res) .fail (lp F m) (fun i vs h => .exit i vs h) (fun v h => .ret v h) (F vs h) := rfl
  rw [this, e]
theorem lp_x {F : List AV → Hp → Res} {vs vs' : List AV} {h h' : Hp} {i : Nat} (m : Nat) (e : F vs h = .exit i vs' h') : lp F (m + 1) vs h = .exit i vs' h' := by
  have : lp F (m + 1) vs h = Res.rec (motive := fun _ => Res) .fail (lp F m) (fun i vs h => .exit i vs h) (fun v h => .ret v h) (F vs h) := rfl
  rw [this, e]
theorem lp_r {F : List AV → Hp → Res} {vs : List AV} {v : AV} {h h' : Hp} (m : Nat) (e : F vs h = .ret v h') : lp F (m + 1) vs h = .ret v h' := by
  have : lp F (m + 1) vs h = Res.rec (motive := fun _ => Res) .fail (lp F m) (fun i vs h => .exit i vs h) (fun v h => .ret v h) (F vs h) := rfl
  rw [this, e]

/-- One value is put behind a slice that grows. -/
theorem push {h : Hp} {N : Nat} {u : AV} {l : List AV} (hN : N ≤ h.nb) (hw : Wf h) (hu : Gr h N u l) {by_ : Nat} (v : AV) (hv : one v = true) (hb : (l.length + 1) * by_ ≤ 140737488355328) (hb2 : l.length + 1 ≤ 9223372036854775807) :
    ∃ u' h', (∀ k : AV → Hp → Res, (mkS h 1 1 (avL [v]) fun w h1 => apd h1 1 by_ u w k) = k u' h') ∧ Gr h' N u' (l ++ [v]) ∧ To (fun b => N ≤ b) h h' ∧ Wf h' ∧ N ≤ h'.nb := by
  obtain ⟨t, t1, t2⟩ := lay_list [v] .e 0 (by simpa using hv)
  obtain ⟨o1, o2⟩ := nw_own hw 1 .nil t
  have hrun : ∀ k : AV → Hp → Res, mkS h 1 1 (avL [v]) k = k (.sl h.nb 0 1 1 (some 1)) (nw h 1 .nil t) := fun k => by
    have e : mkS h 1 1 (avL [v]) k = lay (avL [v]) .e 0 fun t m => ifB (Nat.beq m (Nat.mul 1 1)) (k (.sl h.nb 0 1 1 (some 1)) (nw h m .nil t)) .fail := rfl
    rw [e, t1]; rfl
  have ho2 : To (fun b => N ≤ b) h (nw h 1 .nil t) := o2.mono fun _ _ f => f.elim
  have hw1 := o2.wf hw
  have hN1 : N ≤ (nw h 1 .nil t).nb := Nat.le_trans hN o2.nb
  have hu1 : Gr (nw h 1 .nil t) N u l := by
    obtain ⟨g1, g2⟩ := hu
    refine ⟨g1.to o2 (fun _ _ f => f), ?_⟩
    rcases g2 with g2 | g2 | ⟨b, B, q1, q2, q3, q4⟩
    · exact .inl g2
    · exact .inr (.inl g2)
    · refine .inr (.inr ⟨b, B, q1, ?_, q3, q4⟩)
      rcases g1.2 with ⟨e, -⟩ | ⟨e, -⟩ | ⟨b', o', c', B', e, -, h4, -⟩
      · rw [q1] at e; cases e
      · rw [q1] at e; cases e
      · rw [q1] at e; cases e
        rw [o2.get _ h4.lt (fun f => f)]; exact q2
  have hy : Sl (nw h 1 .nil t) (fun _ => True) (.sl h.nb 0 1 1 (some 1)) [v] := by
    refine ⟨by simpa using hv, .inr (.inr ⟨h.nb, 0, _, _, rfl, trivial, o1.rd, fun _ => trivial, (fun c e => by cases e; exact Nat.le_refl _), fun i hi => ?_⟩)⟩
    have hi0 : i = 0 := by simpa using hi
    subst hi0
    rw [at_in _ (show 0 + 0 < 1 by decide)]
    simp [t2]
  obtain ⟨u', h', e1, e2, e3⟩ := apd_gr (by_ := by_) hN1 hw1 hu1 hy (by simpa using hb) (by simpa using hb2)
  exact ⟨u', h', fun k => by rw [hrun, e1], e2, ho2.trans e3, e3.wf hw1, Nat.le_trans hN1 e3.nb⟩
end Go.Proofs.YtnpfppddongbhaaDoor
end

section
namespace Go.Proofs.YtnpfppddongbhaaDoor
open Go Go.AM
set_option autoImplicit false
set_option linter.unusedSimpArgs false
set_option linter.unusedVariables false
theorem b_224 : ∀ c < 256, ((((Nat.land (c % 65536) 224 % 65536 : Nat)) : Int) == 192) = decide (192 ≤ c ∧ c < 224) := by decide +kernel
theorem b_240 : ∀ c < 256, ((((Nat.land (c % 65536) 240 % 65536 : Nat)) : Int) == 224) = decide (224 ≤ c ∧ c < 240) := by decide +kernel
theorem i63 (i : Nat) (hi : i < 1000000) : wrapC 63 (i : Int) = (i : Int) := w63_in _ (by omega) (by omega)

/-- What a loop over a text comes to. -/
def Comes (r : Res) (N : Nat) (h : Hp) (l : List AV) : Option (List Nat) → Prop
  | some t => ∃ u' h', r = .exit 0 [u'] h' ∧ Gr h' N u' (l ++ t.map fun (x : Nat) => AV.int 16 (x : Int)) ∧ To (fun b => N ≤ b) h h' ∧ Wf h'
  | none => ∃ h', r = .ret (.tup (.cons .nils (.cons (.bool false) .nil))) h' ∧ To (fun b => N ≤ b) h h' ∧ Wf h'

theorem Comes.step {r : Res} {N : Nat} {h h1 : Hp} {l : List AV} {v : Nat} {o : Option (List Nat)} (ht : To (fun b => N ≤ b) h h1) (hc : Comes r N h1 (l ++ [AV.int 16 (v : Int)]) o) : Comes r N h l (o.map (v :: ·)) := by
  cases o with
  | none => obtain ⟨h', e1, e2, e3⟩ := hc; exact ⟨h', e1, ht.trans e2, e3⟩
  | some t =>
    obtain ⟨u', h', e1, e2, e3, e4⟩ := hc
    exact ⟨u', h', e1, by simpa using e2, ht.trans e3, e4⟩

theorem loop49 (n x N : Nat) (hn : n ≤ 100000) : ∀ (f m i : Nat) (h : Hp) (u : AV) (l : List AV), n - i ≤ f → f < m → i ≤ n → l.length ≤ i → Gr h N u l → N ≤ h.nb → Wf h →
    Comes (lp L49n0 m [.str n x, u, .int 63 (i : Int)] h) N h l (dec n (byteAt x) f i) := by
  have stop : ∀ (f m i : Nat) (h : Hp) (u : AV) (l : List AV), f < m → ¬ i < n → Gr h N u l → Wf h → Comes (lp L49n0 m [.str n x, u, .int 63 (i : Int)] h) N h l (some []) := by
    intro f m i h u l hm hi hu hw
    obtain ⟨m, rfl⟩ : ∃ k, m = k + 1 := ⟨m - 1, by omega⟩
    have e1 : ¬ (i : Int) < (n : Int) := by omega
    have e : L49n0 [.str n x, u, .int 63 (i : Int)] h = .exit 0 [u] h := by simp only [↓L49n0, ↓lenS_s, e1, ↓SD, SA, Int.ofNat_eq_natCast, Int.cast_ofNat_Int, Int.reduceBEq, Int.reduceAdd, Int.reduceNeg, Int.reduceNegSucc, Int.reduceLT, Int.reduceLE, Int.reduceMul, Int.reduceTMod, Int.reduceSub, Int.reduceBNe, Bool.not_true, Bool.not_false, decide_true, decide_false, ne_eq, not_false_eq_true, Int.reduceEq, reduceCtorEq]
    exact ⟨u, h, lp_x m e, by simpa using hu, To.refl _ _, hw⟩
  intro f
  induction f with
  | zero =>
    intro m i h u l hf hm hi hl hu hN hw
    exact stop 0 m i h u l hm (by omega) hu hw
  | succ f ih =>
    intro m i h u l hf hm hi hl hu hN hw
    by_cases hin : i < n
    · obtain ⟨m, rfl⟩ : ∃ k, m = k + 1 := ⟨m - 1, by omega⟩
      have hb := byteAt_lt x i
      have e1 : (i : Int) < (n : Int) := by omega
      have e4 : byteAt x i % 65536 = byteAt x i := by omega
      unfold dec
      rw [if_pos hin]
      by_cases c1 : 0 < byteAt x i ∧ byteAt x i < 128
      · rw [if_pos c1]
        have e2 : (0 : Int) < (byteAt x i : Int) := by omega
        have e3 : (byteAt x i : Int) < 128 := by omega
        have e6 : (i : Int) + 1 = ((i + 1 : Nat) : Int) := by omega
        obtain ⟨u', h', p1, p2, p3, p4, p5⟩ := push hN hw hu (by_ := 2) (.int 16 (byteAt x i : Int)) rfl (by omega) (by omega)
        have e : L49n0 [.str n x, u, .int 63 (i : Int)] h = .norm [.str n x, u', .int 63 ((i + 1 : Nat) : Int)] h' := by
          simp only [↓L49n0, ↓lenS_s, e1, sIdx_s n x 63 i hin, w16n, e2, e3, e4, e6, i63 (i + 1) (by omega), ↓bld1, bld1, ↓p1, ↓SD, SA, Int.ofNat_eq_natCast, Int.cast_ofNat_Int, Int.reduceBEq, Int.reduceAdd, Int.reduceNeg, Int.reduceNegSucc, Int.reduceLT, Int.reduceLE, Int.reduceMul, Int.reduceTMod, Int.reduceSub, Int.reduceBNe, Bool.not_true, Bool.not_false, decide_true, decide_false, ne_eq, not_false_eq_true, Int.reduceEq, reduceCtorEq]
        rw [lp_n m e]
        exact Comes.step p3 (ih m (i + 1) h' u' _ (by omega) (by omega) (by omega) (by simp; omega) p2 p5 p4)
      · rw [if_neg c1]
        have first : ∀ {r : Res}, (∀ (b : Bool), (0 : Int) < (byteAt x i : Int) ↔ 0 < byteAt x i) → r = r := fun _ => rfl
        have t1 : (decide ((0 : Int) < (byteAt x i : Int))) = false ∨ ((decide ((0 : Int) < (byteAt x i : Int))) = true ∧ (decide ((byteAt x i : Int) < 128)) = false) := by
          by_cases z : 0 < byteAt x i
          · exact .inr ⟨by simpa using z, by simp; omega⟩
          · exact .inl (by simp; omega)
        by_cases c2 : (192 ≤ byteAt x i ∧ byteAt x i < 224) ∧ ct n (byteAt x) (i + 1) = true
        · rw [if_pos c2]
          have e5 : ((((Nat.land (byteAt x i) 224 % 65536 : Nat)) : Int) == 192) = true := by have := b_224 _ hb; rw [e4] at this; rw [this]; simpa using c2.1
          have hct := c2.2
          have hi1 : i + 1 < n := by unfold ct at hct; simp at hct; omega
          have e6 : (i : Int) + 1 = ((i + 1 : Nat) : Int) := by omega
          have e7 : (i : Int) + 2 = ((i + 2 : Nat) : Int) := by omega
          have e2 : (0 : Int) < (byteAt x i : Int) := by omega
          have e3 : ¬ (byteAt x i : Int) < 128 := by omega
          obtain ⟨u', h', p1, p2, p3, p4, p5⟩ := push hN hw hu (by_ := 2) (.int 16 (v2 (byteAt x i) (byteAt x (i + 1)) : Int)) rfl (by omega) (by omega)
          have e : L49n0 [.str n x, u, .int 63 (i : Int)] h = .norm [.str n x, u', .int 63 ((i + 2 : Nat) : Int)] h' := by
            simp only [↓L49n0, ↓lenS_s, e1, sIdx_s n x 63 i hin, sIdx_s n x 63 (i + 1) hi1, w16n, e2, e3, e4, e5, e6, e7, i63 (i + 1) (by omega), i63 (i + 2) (by omega), t72, hct, toU16n, k16, toU8n, k8, w8n, shl6n, or16n, val2, ↓bld1, bld1, ↓p1, ↓SD, SA, Int.ofNat_eq_natCast, Int.cast_ofNat_Int, Int.reduceBEq, Int.reduceAdd, Int.reduceNeg, Int.reduceNegSucc, Int.reduceLT, Int.reduceLE, Int.reduceMul, Int.reduceTMod, Int.reduceSub, Int.reduceBNe, Bool.not_true, Bool.not_false, decide_true, decide_false, ne_eq, not_false_eq_true, Int.reduceEq, reduceCtorEq]
          rw [lp_n m e]
          exact Comes.step p3 (ih m (i + 2) h' u' _ (by omega) (by omega) (by omega) (by simp; omega) p2 p5 p4)
        · rw [if_neg c2]
          by_cases c3 : (224 ≤ byteAt x i ∧ byteAt x i < 240) ∧ ct n (byteAt x) (i + 1) = true ∧ ct n (byteAt x) (i + 2) = true
          · rw [if_pos c3]
            have e5 : ((((Nat.land (byteAt x i) 224 % 65536 : Nat)) : Int) == 192) = false := by have := b_224 _ hb; rw [e4] at this; rw [this]; simp; omega
            have e8 : ((((Nat.land (byteAt x i) 240 % 65536 : Nat)) : Int) == 224) = true := by have := b_240 _ hb; rw [e4] at this; rw [this]; simpa using c3.1
            obtain ⟨hr, hct, hct2⟩ := c3
            have hi1 : i + 2 < n := by unfold ct at hct2; simp at hct2; omega
            have e6 : (i : Int) + 1 = ((i + 1 : Nat) : Int) := by omega
            have e7 : (i : Int) + 2 = ((i + 2 : Nat) : Int) := by omega
            have e9 : (i : Int) + 3 = ((i + 3 : Nat) : Int) := by omega
            have e2 : (0 : Int) < (byteAt x i : Int) := by omega
            have e3 : ¬ (byteAt x i : Int) < 128 := by omega
            obtain ⟨u', h', p1, p2, p3, p4, p5⟩ := push hN hw hu (by_ := 2) (.int 16 (v3 (byteAt x i) (byteAt x (i + 1)) (byteAt x (i + 2)) : Int)) rfl (by omega) (by omega)
            have e : L49n0 [.str n x, u, .int 63 (i : Int)] h = .norm [.str n x, u', .int 63 ((i + 3 : Nat) : Int)] h' := by
              simp only [↓L49n0, ↓lenS_s, e1, sIdx_s n x 63 i hin, sIdx_s n x 63 (i + 1) (by omega), sIdx_s n x 63 (i + 2) hi1, w16n, e2, e3, e4, e5, e6, e7, e8, e9, i63 (i + 1) (by omega), i63 (i + 2) (by omega), i63 (i + 3) (by omega), t72, hct, hct2, toU16n, k16, toU8n, k8, w8n, shl6n, shl12n, or16n, val3, ↓bld1, bld1, ↓p1, ↓SD, SA, Int.ofNat_eq_natCast, Int.cast_ofNat_Int, Int.reduceBEq, Int.reduceAdd, Int.reduceNeg, Int.reduceNegSucc, Int.reduceLT, Int.reduceLE, Int.reduceMul, Int.reduceTMod, Int.reduceSub, Int.reduceBNe, Bool.not_true, Bool.not_false, decide_true, decide_false, ne_eq, not_false_eq_true, Int.reduceEq, reduceCtorEq]
            rw [lp_n m e]
            exact Comes.step p3 (ih m (i + 3) h' u' _ (by omega) (by omega) (by omega) (by simp; omega) p2 p5 p4)
          · rw [if_neg c3]
            have e6 : (i : Int) + 1 = ((i + 1 : Nat) : Int) := by omega
            have e7 : (i : Int) + 2 = ((i + 2 : Nat) : Int) := by omega
            have q5 : ((((Nat.land (byteAt x i) 224 % 65536 : Nat)) : Int) == 192) = decide (192 ≤ byteAt x i ∧ byteAt x i < 224) := by have := b_224 _ hb; rwa [e4] at this
            have q8 : ((((Nat.land (byteAt x i) 240 % 65536 : Nat)) : Int) == 224) = decide (224 ≤ byteAt x i ∧ byteAt x i < 240) := by have := b_240 _ hb; rwa [e4] at this
            have e : L49n0 [.str n x, u, .int 63 (i : Int)] h = .ret (.tup (.cons .nils (.cons (.bool false) .nil))) h := by
              by_cases d1 : 192 ≤ byteAt x i ∧ byteAt x i < 224
              · have a5 : decide (192 ≤ byteAt x i ∧ byteAt x i < 224) = true := by simpa using d1
                have a8 : decide (224 ≤ byteAt x i ∧ byteAt x i < 240) = false := by simp; omega
                have a9 : ct n (byteAt x) (i + 1) = false := by
                  cases hq : ct n (byteAt x) (i + 1) with
                  | false => rfl
                  | true => exact absurd ⟨d1, hq⟩ c2
                rcases t1 with t1 | ⟨t1, t2⟩
                · simp only [↓L49n0, ↓lenS_s, e1, sIdx_s n x 63 i hin, w16n, t1, e4, q5, q8, a5, a8, a9, e6, i63 (i + 1) (by omega), t72, toU16n, k16, cK_nl, ↓SD, SA, Int.ofNat_eq_natCast, Int.cast_ofNat_Int, Int.reduceBEq, Int.reduceAdd, Int.reduceNeg, Int.reduceNegSucc, Int.reduceLT, Int.reduceLE, Int.reduceMul, Int.reduceTMod, Int.reduceSub, Int.reduceBNe, Bool.not_true, Bool.not_false, decide_true, decide_false, ne_eq, not_false_eq_true, Int.reduceEq, reduceCtorEq]
                · simp only [↓L49n0, ↓lenS_s, e1, sIdx_s n x 63 i hin, w16n, t1, t2, e4, q5, q8, a5, a8, a9, e6, i63 (i + 1) (by omega), t72, toU16n, k16, cK_nl, ↓SD, SA, Int.ofNat_eq_natCast, Int.cast_ofNat_Int, Int.reduceBEq, Int.reduceAdd, Int.reduceNeg, Int.reduceNegSucc, Int.reduceLT, Int.reduceLE, Int.reduceMul, Int.reduceTMod, Int.reduceSub, Int.reduceBNe, Bool.not_true, Bool.not_false, decide_true, decide_false, ne_eq, not_false_eq_true, Int.reduceEq, reduceCtorEq]
              · have a5 : decide (192 ≤ byteAt x i ∧ byteAt x i < 224) = false := by simpa using d1
                by_cases d2 : 224 ≤ byteAt x i ∧ byteAt x i < 240
                · have a8 : decide (224 ≤ byteAt x i ∧ byteAt x i < 240) = true := by simpa using d2
                  cases g1 : ct n (byteAt x) (i + 1) with
                  | false =>
                    rcases t1 with t1 | ⟨t1, t2⟩
                    · simp only [↓L49n0, ↓lenS_s, e1, sIdx_s n x 63 i hin, w16n, t1, e4, q5, q8, a5, a8, g1, e6, i63 (i + 1) (by omega), t72, toU16n, k16, cK_nl, ↓SD, SA, Int.ofNat_eq_natCast, Int.cast_ofNat_Int, Int.reduceBEq, Int.reduceAdd, Int.reduceNeg, Int.reduceNegSucc, Int.reduceLT, Int.reduceLE, Int.reduceMul, Int.reduceTMod, Int.reduceSub, Int.reduceBNe, Bool.not_true, Bool.not_false, decide_true, decide_false, ne_eq, not_false_eq_true, Int.reduceEq, reduceCtorEq]
                    · simp only [↓L49n0, ↓lenS_s, e1, sIdx_s n x 63 i hin, w16n, t1, t2, e4, q5, q8, a5, a8, g1, e6, i63 (i + 1) (by omega), t72, toU16n, k16, cK_nl, ↓SD, SA, Int.ofNat_eq_natCast, Int.cast_ofNat_Int, Int.reduceBEq, Int.reduceAdd, Int.reduceNeg, Int.reduceNegSucc, Int.reduceLT, Int.reduceLE, Int.reduceMul, Int.reduceTMod, Int.reduceSub, Int.reduceBNe, Bool.not_true, Bool.not_false, decide_true, decide_false, ne_eq, not_false_eq_true, Int.reduceEq, reduceCtorEq]
                  | true =>
                    have g2 : ct n (byteAt x) (i + 2) = false := by
                      cases hq : ct n (byteAt x) (i + 2) with
                      | false => rfl
                      | true => exact absurd ⟨d2, g1, hq⟩ c3
                    rcases t1 with t1 | ⟨t1, t2⟩
                    · simp only [↓L49n0, ↓lenS_s, e1, sIdx_s n x 63 i hin, w16n, t1, e4, q5, q8, a5, a8, g1, g2, e6, e7, i63 (i + 1) (by omega), i63 (i + 2) (by omega), t72, toU16n, k16, cK_nl, ↓SD, SA, Int.ofNat_eq_natCast, Int.cast_ofNat_Int, Int.reduceBEq, Int.reduceAdd, Int.reduceNeg, Int.reduceNegSucc, Int.reduceLT, Int.reduceLE, Int.reduceMul, Int.reduceTMod, Int.reduceSub, Int.reduceBNe, Bool.not_true, Bool.not_false, decide_true, decide_false, ne_eq, not_false_eq_true, Int.reduceEq, reduceCtorEq]
                    · simp only [↓L49n0, ↓lenS_s, e1, sIdx_s n x 63 i hin, w16n, t1, t2, e4, q5, q8, a5, a8, g1, g2, e6, e7, i63 (i + 1) (by omega), i63 (i + 2) (by omega), t72, toU16n, k16, cK_nl, ↓SD, SA, Int.ofNat_eq_natCast, Int.cast_ofNat_Int, Int.reduceBEq, Int.reduceAdd, Int.reduceNeg, Int.reduceNegSucc, Int.reduceLT, Int.reduceLE, Int.reduceMul, Int.reduceTMod, Int.reduceSub, Int.reduceBNe, Bool.not_true, Bool.not_false, decide_true, decide_false, ne_eq, not_false_eq_true, Int.reduceEq, reduceCtorEq]
                · have a8 : decide (224 ≤ byteAt x i ∧ byteAt x i < 240) = false := by simpa using d2
                  rcases t1 with t1 | ⟨t1, t2⟩
                  · simp only [↓L49n0, ↓lenS_s, e1, sIdx_s n x 63 i hin, w16n, t1, e4, q5, q8, a5, a8, toU16n, k16, cK_nl, ↓SD, SA, Int.ofNat_eq_natCast, Int.cast_ofNat_Int, Int.reduceBEq, Int.reduceAdd, Int.reduceNeg, Int.reduceNegSucc, Int.reduceLT, Int.reduceLE, Int.reduceMul, Int.reduceTMod, Int.reduceSub, Int.reduceBNe, Bool.not_true, Bool.not_false, decide_true, decide_false, ne_eq, not_false_eq_true, Int.reduceEq, reduceCtorEq]
                  · simp only [↓L49n0, ↓lenS_s, e1, sIdx_s n x 63 i hin, w16n, t1, t2, e4, q5, q8, a5, a8, toU16n, k16, cK_nl, ↓SD, SA, Int.ofNat_eq_natCast, Int.cast_ofNat_Int, Int.reduceBEq, Int.reduceAdd, Int.reduceNeg, Int.reduceNegSucc, Int.reduceLT, Int.reduceLE, Int.reduceMul, Int.reduceTMod, Int.reduceSub, Int.reduceBNe, Bool.not_true, Bool.not_false, decide_true, decide_false, ne_eq, not_false_eq_true, Int.reduceEq, reduceCtorEq]
            exact ⟨h, lp_r m e, To.refl _ _, hw⟩
    · have : dec n (byteAt x) (f + 1) i = some [] := by unfold dec; rw [if_neg hin]
      rw [this]
      exact stop (f + 1) m i h u l hm hin hu hw
end Go.Proofs.YtnpfppddongbhaaDoor
end

section
namespace Go.Proofs.YtnpfppddongbhaaDoor
open Go Go.AM
set_option autoImplicit false
set_option linter.unusedSimpArgs false
set_option linter.unusedVariables false
theorem c_224 : ∀ c < 256, ((((Nat.land (c % 256) 224 % 256 : Nat)) : Int) == 192) = decide (192 ≤ c ∧ c < 224) := by decide +kernel
theorem c_240 : ∀ c < 256, ((((Nat.land (c % 256) 240 % 256 : Nat)) : Int) == 224) = decide (224 ≤ c ∧ c < 240) := by decide +kernel
theorem val2' (c y : Nat) (hc : c < 256) : (Nat.land (c % 256) 31 % 256 % 65536 * 64 % 65536 + y % 64) % 65536 = v2 c y := by
  rw [land31]; unfold v2; omega
theorem val3' (c y z : Nat) (hc : c < 256) : ((Nat.land (c % 256) 15 % 256 % 65536 * 4096 % 65536 + y % 64 * 64 % 65536) % 65536 + z % 64) % 65536 = v3 c y z := by
  rw [land15]; unfold v3; omega
theorem wadd16 (a b : Nat) : wrapC 16 ((a : Int) + (b : Int)) = (((a + b) % 65536 : Nat) : Int) := by rw [w16]; omega
theorem two16 (x : Int) (b : Bool) (k : AV → Res) : cT (.tup (.cons (.int 16 x) (.cons (.bool b) .nil))) k = k (.cons (.int 16 x) (.cons (.bool b) .nil)) := of_eq_true (eq_self _)

theorem loop51 (n x N : Nat) (hn : n ≤ 100000) : ∀ (f m i : Nat) (h : Hp) (u : AV) (l : List AV), n - i ≤ f → f < m → i ≤ n → l.length ≤ i → Gr h N u l → N ≤ h.nb → Wf h →
    Comes (lp L51n0 m [.str n x, u, .int 63 (i : Int)] h) N h l (dec n (byteAt x) f i) := by
  have stop : ∀ (f m i : Nat) (h : Hp) (u : AV) (l : List AV), f < m → ¬ i < n → Gr h N u l → Wf h → Comes (lp L51n0 m [.str n x, u, .int 63 (i : Int)] h) N h l (some []) := by
    intro f m i h u l hm hi hu hw
    obtain ⟨m, rfl⟩ : ∃ k, m = k + 1 := ⟨m - 1, by omega⟩
    have e1 : ¬ (i : Int) < (n : Int) := by omega
    have e : L51n0 [.str n x, u, .int 63 (i : Int)] h = .exit 0 [u] h := by simp only [↓L51n0, ↓lenS_s, e1, ↓SD, SA, Int.ofNat_eq_natCast, Int.cast_ofNat_Int, Int.reduceBEq, Int.reduceAdd, Int.reduceNeg, Int.reduceNegSucc, Int.reduceLT, Int.reduceLE, Int.reduceMul, Int.reduceTMod, Int.reduceSub, Int.reduceBNe, Bool.not_true, Bool.not_false, decide_true, decide_false, ne_eq, not_false_eq_true, Int.reduceEq, reduceCtorEq]
    exact ⟨u, h, lp_x m e, by simpa using hu, To.refl _ _, hw⟩
  intro f
  induction f with
  | zero =>
    intro m i h u l hf hm hi hl hu hN hw
    exact stop 0 m i h u l hm (by omega) hu hw
  | succ f ih =>
    intro m i h u l hf hm hi hl hu hN hw
    by_cases hin : i < n
    · obtain ⟨m, rfl⟩ : ∃ k, m = k + 1 := ⟨m - 1, by omega⟩
      have hb := byteAt_lt x i
      have e1 : (i : Int) < (n : Int) := by omega
      have e4 : byteAt x i % 65536 = byteAt x i := by omega
      have q5 := c_224 _ hb
      have q8 := c_240 _ hb
      unfold dec
      rw [if_pos hin]
      by_cases c1 : 0 < byteAt x i ∧ byteAt x i < 128
      · rw [if_pos c1]
        have e2 : ¬ (byteAt x i : Int) < 1 := by omega
        have e3 : ¬ 127 < (byteAt x i : Int) := by omega
        have e6 : (i : Int) + 1 = ((i + 1 : Nat) : Int) := by omega
        obtain ⟨u', h', p1, p2, p3, p4, p5⟩ := push hN hw hu (by_ := 2) (.int 16 (byteAt x i : Int)) rfl (by omega) (by omega)
        have e : L51n0 [.str n x, u, .int 63 (i : Int)] h = .norm [.str n x, u', .int 63 ((i + 1 : Nat) : Int)] h' := by
          simp only [↓L51n0, ↓lenS_s, e1, sIdx_s n x 63 i hin, w16n, e2, e3, e4, e6, i63 (i + 1) (by omega), ↓bld1, bld1, ↓p1, ↓SD, SA, Int.ofNat_eq_natCast, Int.cast_ofNat_Int, Int.reduceBEq, Int.reduceAdd, Int.reduceNeg, Int.reduceNegSucc, Int.reduceLT, Int.reduceLE, Int.reduceMul, Int.reduceTMod, Int.reduceSub, Int.reduceBNe, Bool.not_true, Bool.not_false, decide_true, decide_false, ne_eq, not_false_eq_true, Int.reduceEq, reduceCtorEq]
        rw [lp_n m e]
        exact Comes.step p3 (ih m (i + 1) h' u' _ (by omega) (by omega) (by omega) (by simp; omega) p2 p5 p4)
      · rw [if_neg c1]
        have t1 : (decide ((byteAt x i : Int) < 1)) = true ∨ ((decide ((byteAt x i : Int) < 1)) = false ∧ (decide (127 < (byteAt x i : Int))) = true) := by
          by_cases z : 0 < byteAt x i
          · exact .inr ⟨by simp; omega, by simp; omega⟩
          · exact .inl (by simp; omega)
        by_cases c2 : (192 ≤ byteAt x i ∧ byteAt x i < 224) ∧ ct n (byteAt x) (i + 1) = true
        · rw [if_pos c2]
          have a5 : decide (192 ≤ byteAt x i ∧ byteAt x i < 224) = true := by simpa using c2.1
          have hct := c2.2
          have hi1 : i + 1 < n := by unfold ct at hct; simp at hct; omega
          have e6 : (i : Int) + 1 = ((i + 1 : Nat) : Int) := by omega
          have e7 : (i : Int) + 2 = ((i + 2 : Nat) : Int) := by omega
          have e2 : ¬ (byteAt x i : Int) < 1 := by omega
          have e3 : 127 < (byteAt x i : Int) := by omega
          have e10 := t74 n x (i + 1)
          rw [hct] at e10
          simp only [if_true] at e10
          have e11 := val2' (byteAt x i) (byteAt x (i + 1)) hb
          obtain ⟨u', h', p1, p2, p3, p4, p5⟩ := push hN hw hu (by_ := 2) (.int 16 (v2 (byteAt x i) (byteAt x (i + 1)) : Int)) rfl (by omega) (by omega)
          have e : L51n0 [.str n x, u, .int 63 (i : Int)] h = .norm [.str n x, u', .int 63 ((i + 2 : Nat) : Int)] h' := by
            simp only [↓L51n0, ↓lenS_s, e1, sIdx_s n x 63 i hin, w16n, e2, e3, q5, a5, e6, e7, i63 (i + 1) (by omega), i63 (i + 2) (by omega), e10, e11, two16, toU8n, k8, w8n, shl6n, wadd16, ↓bld1, bld1, ↓p1, ↓SD, SA, Int.ofNat_eq_natCast, Int.cast_ofNat_Int, Int.reduceBEq, Int.reduceAdd, Int.reduceNeg, Int.reduceNegSucc, Int.reduceLT, Int.reduceLE, Int.reduceMul, Int.reduceTMod, Int.reduceSub, Int.reduceBNe, Bool.not_true, Bool.not_false, decide_true, decide_false, ne_eq, not_false_eq_true, Int.reduceEq, reduceCtorEq]
          rw [lp_n m e]
          exact Comes.step p3 (ih m (i + 2) h' u' _ (by omega) (by omega) (by omega) (by simp; omega) p2 p5 p4)
        · rw [if_neg c2]
          by_cases c3 : (224 ≤ byteAt x i ∧ byteAt x i < 240) ∧ ct n (byteAt x) (i + 1) = true ∧ ct n (byteAt x) (i + 2) = true
          · rw [if_pos c3]
            have a5 : decide (192 ≤ byteAt x i ∧ byteAt x i < 224) = false := by simp; omega
            have a8 : decide (224 ≤ byteAt x i ∧ byteAt x i < 240) = true := by simpa using c3.1
            obtain ⟨hr, hct, hct2⟩ := c3
            have hi1 : i + 2 < n := by unfold ct at hct2; simp at hct2; omega
            have e6 : (i : Int) + 1 = ((i + 1 : Nat) : Int) := by omega
            have e7 : (i : Int) + 2 = ((i + 2 : Nat) : Int) := by omega
            have e9 : (i : Int) + 3 = ((i + 3 : Nat) : Int) := by omega
            have e2 : ¬ (byteAt x i : Int) < 1 := by omega
            have e3 : 127 < (byteAt x i : Int) := by omega
            have e10 := t74 n x (i + 1)
            rw [hct] at e10
            simp only [if_true] at e10
            have e12 := t74 n x (i + 2)
            rw [hct2] at e12
            simp only [if_true] at e12
            have e11 := val3' (byteAt x i) (byteAt x (i + 1)) (byteAt x (i + 2)) hb
            obtain ⟨u', h', p1, p2, p3, p4, p5⟩ := push hN hw hu (by_ := 2) (.int 16 (v3 (byteAt x i) (byteAt x (i + 1)) (byteAt x (i + 2)) : Int)) rfl (by omega) (by omega)
            have e : L51n0 [.str n x, u, .int 63 (i : Int)] h = .norm [.str n x, u', .int 63 ((i + 3 : Nat) : Int)] h' := by
              simp only [↓L51n0, ↓lenS_s, e1, sIdx_s n x 63 i hin, w16n, e2, e3, q5, a5, q8, a8, e6, e7, e9, i63 (i + 1) (by omega), i63 (i + 2) (by omega), i63 (i + 3) (by omega), e10, e11, e12, two16, toU8n, k8, w8n, shl6n, shl12n, wadd16, ↓bld1, bld1, ↓p1, ↓SD, SA, Int.ofNat_eq_natCast, Int.cast_ofNat_Int, Int.reduceBEq, Int.reduceAdd, Int.reduceNeg, Int.reduceNegSucc, Int.reduceLT, Int.reduceLE, Int.reduceMul, Int.reduceTMod, Int.reduceSub, Int.reduceBNe, Bool.not_true, Bool.not_false, decide_true, decide_false, ne_eq, not_false_eq_true, Int.reduceEq, reduceCtorEq]
            rw [lp_n m e]
            exact Comes.step p3 (ih m (i + 3) h' u' _ (by omega) (by omega) (by omega) (by simp; omega) p2 p5 p4)
          · rw [if_neg c3]
            have e6 : (i : Int) + 1 = ((i + 1 : Nat) : Int) := by omega
            have e7 : (i : Int) + 2 = ((i + 2 : Nat) : Int) := by omega
            have e : L51n0 [.str n x, u, .int 63 (i : Int)] h = .ret (.tup (.cons .nils (.cons (.bool false) .nil))) h := by
              by_cases d1 : 192 ≤ byteAt x i ∧ byteAt x i < 224
              · have a5 : decide (192 ≤ byteAt x i ∧ byteAt x i < 224) = true := by simpa using d1
                have a9 : ct n (byteAt x) (i + 1) = false := by
                  cases hq : ct n (byteAt x) (i + 1) with
                  | false => rfl
                  | true => exact absurd ⟨d1, hq⟩ c2
                rcases t1 with t1 | ⟨t1, t2⟩
                · simp only [↓L51n0, ↓lenS_s, e1, sIdx_s n x 63 i hin, w16n, t1, q5, a5, a9, e6, i63 (i + 1) (by omega), t74, two16, toU8n, k8, w8n, cK_nl, ↓SD, SA, Int.ofNat_eq_natCast, Int.cast_ofNat_Int, Int.reduceBEq, Int.reduceAdd, Int.reduceNeg, Int.reduceNegSucc, Int.reduceLT, Int.reduceLE, Int.reduceMul, Int.reduceTMod, Int.reduceSub, Int.reduceBNe, Bool.not_true, Bool.not_false, decide_true, decide_false, ne_eq, not_false_eq_true, Int.reduceEq, reduceCtorEq]
                · simp only [↓L51n0, ↓lenS_s, e1, sIdx_s n x 63 i hin, w16n, t1, t2, q5, a5, a9, e6, i63 (i + 1) (by omega), t74, two16, toU8n, k8, w8n, cK_nl, ↓SD, SA, Int.ofNat_eq_natCast, Int.cast_ofNat_Int, Int.reduceBEq, Int.reduceAdd, Int.reduceNeg, Int.reduceNegSucc, Int.reduceLT, Int.reduceLE, Int.reduceMul, Int.reduceTMod, Int.reduceSub, Int.reduceBNe, Bool.not_true, Bool.not_false, decide_true, decide_false, ne_eq, not_false_eq_true, Int.reduceEq, reduceCtorEq]
              · have a5 : decide (192 ≤ byteAt x i ∧ byteAt x i < 224) = false := by simpa using d1
                by_cases d2 : 224 ≤ byteAt x i ∧ byteAt x i < 240
                · have a8 : decide (224 ≤ byteAt x i ∧ byteAt x i < 240) = true := by simpa using d2
                  cases g1 : ct n (byteAt x) (i + 1) with
                  | false =>
                    rcases t1 with t1 | ⟨t1, t2⟩
                    · simp only [↓L51n0, ↓lenS_s, e1, sIdx_s n x 63 i hin, w16n, t1, q5, q8, a5, a8, g1, e6, e7, i63 (i + 1) (by omega), i63 (i + 2) (by omega), t74, two16, toU8n, k8, w8n, cK_nl, ↓SD, SA, Int.ofNat_eq_natCast, Int.cast_ofNat_Int, Int.reduceBEq, Int.reduceAdd, Int.reduceNeg, Int.reduceNegSucc, Int.reduceLT, Int.reduceLE, Int.reduceMul, Int.reduceTMod, Int.reduceSub, Int.reduceBNe, Bool.not_true, Bool.not_false, decide_true, decide_false, ne_eq, not_false_eq_true, Int.reduceEq, reduceCtorEq]
                    · simp only [↓L51n0, ↓lenS_s, e1, sIdx_s n x 63 i hin, w16n, t1, t2, q5, q8, a5, a8, g1, e6, e7, i63 (i + 1) (by omega), i63 (i + 2) (by omega), t74, two16, toU8n, k8, w8n, cK_nl, ↓SD, SA, Int.ofNat_eq_natCast, Int.cast_ofNat_Int, Int.reduceBEq, Int.reduceAdd, Int.reduceNeg, Int.reduceNegSucc, Int.reduceLT, Int.reduceLE, Int.reduceMul, Int.reduceTMod, Int.reduceSub, Int.reduceBNe, Bool.not_true, Bool.not_false, decide_true, decide_false, ne_eq, not_false_eq_true, Int.reduceEq, reduceCtorEq]
                  | true =>
                    have g2 : ct n (byteAt x) (i + 2) = false := by
                      cases hq : ct n (byteAt x) (i + 2) with
                      | false => rfl
                      | true => exact absurd ⟨d2, g1, hq⟩ c3
                    rcases t1 with t1 | ⟨t1, t2⟩
                    · simp only [↓L51n0, ↓lenS_s, e1, sIdx_s n x 63 i hin, w16n, t1, q5, q8, a5, a8, g1, g2, e6, e7, i63 (i + 1) (by omega), i63 (i + 2) (by omega), t74, two16, toU8n, k8, w8n, cK_nl, ↓SD, SA, Int.ofNat_eq_natCast, Int.cast_ofNat_Int, Int.reduceBEq, Int.reduceAdd, Int.reduceNeg, Int.reduceNegSucc, Int.reduceLT, Int.reduceLE, Int.reduceMul, Int.reduceTMod, Int.reduceSub, Int.reduceBNe, Bool.not_true, Bool.not_false, decide_true, decide_false, ne_eq, not_false_eq_true, Int.reduceEq, reduceCtorEq]
                    · simp only [↓L51n0, ↓lenS_s, e1, sIdx_s n x 63 i hin, w16n, t1, t2, q5, q8, a5, a8, g1, g2, e6, e7, i63 (i + 1) (by omega), i63 (i + 2) (by omega), t74, two16, toU8n, k8, w8n, cK_nl, ↓SD, SA, Int.ofNat_eq_natCast, Int.cast_ofNat_Int, Int.reduceBEq, Int.reduceAdd, Int.reduceNeg, Int.reduceNegSucc, Int.reduceLT, Int.reduceLE, Int.reduceMul, Int.reduceTMod, Int.reduceSub, Int.reduceBNe, Bool.not_true, Bool.not_false, decide_true, decide_false, ne_eq, not_false_eq_true, Int.reduceEq, reduceCtorEq]
                · have a8 : decide (224 ≤ byteAt x i ∧ byteAt x i < 240) = false := by simpa using d2
                  rcases t1 with t1 | ⟨t1, t2⟩
                  · simp only [↓L51n0, ↓lenS_s, e1, sIdx_s n x 63 i hin, w16n, t1, q5, q8, a5, a8, toU8n, k8, w8n, cK_nl, ↓SD, SA, Int.ofNat_eq_natCast, Int.cast_ofNat_Int, Int.reduceBEq, Int.reduceAdd, Int.reduceNeg, Int.reduceNegSucc, Int.reduceLT, Int.reduceLE, Int.reduceMul, Int.reduceTMod, Int.reduceSub, Int.reduceBNe, Bool.not_true, Bool.not_false, decide_true, decide_false, ne_eq, not_false_eq_true, Int.reduceEq, reduceCtorEq]
                  · simp only [↓L51n0, ↓lenS_s, e1, sIdx_s n x 63 i hin, w16n, t1, t2, q5, q8, a5, a8, toU8n, k8, w8n, cK_nl, ↓SD, SA, Int.ofNat_eq_natCast, Int.cast_ofNat_Int, Int.reduceBEq, Int.reduceAdd, Int.reduceNeg, Int.reduceNegSucc, Int.reduceLT, Int.reduceLE, Int.reduceMul, Int.reduceTMod, Int.reduceSub, Int.reduceBNe, Bool.not_true, Bool.not_false, decide_true, decide_false, ne_eq, not_false_eq_true, Int.reduceEq, reduceCtorEq]
            exact ⟨h, lp_r m e, To.refl _ _, hw⟩
    · have : dec n (byteAt x) (f + 1) i = some [] := by unfold dec; rw [if_neg hin]
      rw [this]
      exact stop (f + 1) m i h u l hm hin hu hw
end Go.Proofs.YtnpfppddongbhaaDoor
end

section
namespace Go.Proofs.YtnpfppddongbhaaDoor
open Go Go.AM
set_option autoImplicit false
set_option linter.unusedSimpArgs false
set_option linter.unusedVariables false
theorem beqi (a : Int) : (a == a) = true := by simp
/-- A slice of 16 bit numbers. -/
def U (t : List Nat) : List AV := t.map fun (x : Nat) => AV.int 16 (x : Int)
theorem U_len (t : List Nat) : (U t).length = t.length := by simp [U]
theorem U_one (t : List Nat) : ∀ x ∈ U t, one x = true := by
  intro x hx
  obtain ⟨y, -, rfl⟩ := List.mem_map.1 hx
  rfl
/-- What a decoder answers. -/
def Dec (n x : Nat) : Option (List Nat) := dec n (byteAt x) n 0
def Got (r : Res) (h : Hp) (o : Option (List Nat)) : Prop :=
  ∃ v h', r = .ret (.tup (.cons v (.cons (.bool o.isSome) .nil))) h' ∧ Sl h' (fun b => h.nb ≤ b) v (U (o.getD [])) ∧ To No h h' ∧ Wf h'

theorem emp {h : Hp} (hw : Wf h) : Gr (nw h 0 .nil .e) h.nb (.sl h.nb 0 0 1 (some 0)) [] ∧ To No h (nw h 0 .nil .e) := by
  obtain ⟨o1, o2⟩ := nw_own hw 0 .nil .e
  exact ⟨⟨⟨by simp, .inr (.inr ⟨h.nb, 0, _, _, rfl, Nat.le_refl _, o1.rd, fun _ => Nat.le_refl _, (fun c e => by cases e; exact Nat.le_refl _), fun i hi => by simp at hi⟩)⟩, .inr (.inl ⟨_, rfl, rfl⟩)⟩, o2⟩

theorem got_of {n x : Nat} {h h1 : Hp} {r : Res} (ht : To No h h1) (hN : h.nb ≤ h1.nb) (hc : Comes r h.nb h1 [] (Dec n x)) {r' : Res}
    (h1r : ∀ u h', r = .exit 0 [u] h' → cK u (fun v => .ret (.tup (.cons v (.cons (.bool true) .nil))) h') = r') (h2r : ∀ v h', r = .ret v h' → .ret v h' = r') : Got r' h (Dec n x) := by
  have toNo : ∀ {h'}, To (fun b => h.nb ≤ b) h1 h' → To No h h' := fun {h'} q => by
    have q1 : To (fun b => h.nb ≤ b) h h' := (ht.mono fun _ _ f => f.elim).trans q
    exact q1.mono fun b hb hn => by omega
  cases hd : Dec n x with
  | none =>
    rw [hd] at hc
    obtain ⟨h', e1, e2, e3⟩ := hc
    exact ⟨.nils, h', (h2r _ _ e1).symm, ⟨by simp [U], .inl ⟨rfl, rfl⟩⟩, toNo e2, e3⟩
  | some t =>
    rw [hd] at hc
    obtain ⟨u, h', e1, e2, e3, e4⟩ := hc
    have e2 : Gr h' h.nb u (U t) := by simpa [U] using e2
    refine ⟨u, h', ?_, e2.1, toNo e3, e4⟩
    rw [← h1r u h' e1, cK_sl e2.1]; rfl

theorem t49 (n x : Nat) (hn : n ≤ 100000) (h : Hp) (hw : Wf h) : Got (s49 [.str n x] h) h (Dec n x) := by
  obtain ⟨g1, g2⟩ := emp hw
  have hc := loop49 n x h.nb hn n most 0 (nw h 0 .nil .e) _ [] (by omega) (show n < 1000000 by omega) (by omega) (by simp) g1 g2.nb (g2.wf hw)
  have e0 : ((0 : Nat) : Int) = 0 := rfl
  have e1 : ∀ k : AV → Hp → Res, mkS h 1 0 (avL []) k = k (.sl h.nb 0 0 1 (some 0)) (nw h 0 .nil .e) := fun k => rfl
  refine got_of g2 g2.nb hc (fun u h' e => ?_) (fun v h' e => ?_)
  · rw [e0] at e
    simp only [↓s49, ↓bld0, ↓e1, e, blk_e, ↓SD, SA, Int.ofNat_eq_natCast, Int.cast_ofNat_Int, Int.reduceBEq, Int.reduceAdd, Int.reduceNeg, Int.reduceNegSucc, Int.reduceLT, Int.reduceLE, Int.reduceMul, Int.reduceTMod, Int.reduceSub, Int.reduceBNe, Bool.not_true, Bool.not_false, decide_true, decide_false, ne_eq, not_false_eq_true, Int.reduceEq, reduceCtorEq]
    rfl
  · rw [e0] at e
    simp only [↓s49, ↓bld0, ↓e1, e, ↓SD, SA, Int.ofNat_eq_natCast, Int.cast_ofNat_Int, Int.reduceBEq, Int.reduceAdd, Int.reduceNeg, Int.reduceNegSucc, Int.reduceLT, Int.reduceLE, Int.reduceMul, Int.reduceTMod, Int.reduceSub, Int.reduceBNe, Bool.not_true, Bool.not_false, decide_true, decide_false, ne_eq, not_false_eq_true, Int.reduceEq, reduceCtorEq]
theorem t51 (n x : Nat) (hn : n ≤ 100000) (h : Hp) (hw : Wf h) : Got (s51 [.str n x] h) h (Dec n x) := by
  have g1 : Gr h h.nb .nils [] := ⟨⟨by simp, .inl ⟨rfl, rfl⟩⟩, .inl rfl⟩
  have hc := loop51 n x h.nb hn n most 0 h .nils [] (by omega) (show n < 1000000 by omega) (by omega) (by simp) g1 (Nat.le_refl _) hw
  have e0 : ((0 : Nat) : Int) = 0 := rfl
  refine got_of (To.refl _ _) (Nat.le_refl _) hc (fun u h' e => ?_) (fun v h' e => ?_)
  · rw [e0] at e
    simp only [↓s51, e, blk_e, ↓SD, SA, Int.ofNat_eq_natCast, Int.cast_ofNat_Int, Int.reduceBEq, Int.reduceAdd, Int.reduceNeg, Int.reduceNegSucc, Int.reduceLT, Int.reduceLE, Int.reduceMul, Int.reduceTMod, Int.reduceSub, Int.reduceBNe, Bool.not_true, Bool.not_false, decide_true, decide_false, ne_eq, not_false_eq_true, Int.reduceEq, reduceCtorEq]
    rfl
  · rw [e0] at e
    simp only [↓s51, e, ↓SD, SA, Int.ofNat_eq_natCast, Int.cast_ofNat_Int, Int.reduceBEq, Int.reduceAdd, Int.reduceNeg, Int.reduceNegSucc, Int.reduceLT, Int.reduceLE, Int.reduceMul, Int.reduceTMod, Int.reduceSub, Int.reduceBNe, Bool.not_true, Bool.not_false, decide_true, decide_false, ne_eq, not_false_eq_true, Int.reduceEq, reduceCtorEq]

end Go.Proofs.YtnpfppddongbhaaDoor
end

section
namespace Go.Proofs.YtnpfppddongbhaaDoor
open Go Go.AM
set_option autoImplicit false
set_option linter.unusedSimpArgs false
set_option linter.unusedVariables false
theorem lpn {F : List AV → Hp → Res} {vs vs' : List AV} {h h' : Hp} (m : Nat) (e : F vs h = .norm vs' h') : lp F (m + 1) vs h = lp F m vs' h' := lp_n m e
theorem lpx {F : List AV → Hp → Res} {vs vs' : List AV} {h h' : Hp} {i : Nat} (m : Nat) (e : F vs h = .exit i vs' h') : lp F (m + 1) vs h = .exit i vs' h' := lp_x m e
theorem lpr {F : List AV → Hp → Res} {vs : List AV} {v : AV} {h h' : Hp} (m : Nat) (e : F vs h = .ret v h') : lp F (m + 1) vs h = .ret v h' := lp_r m e
theorem blk_x (id : Nat) (vs : List AV) (h : Hp) (k : List AV → Hp → Res) : blk id (.exit id vs h) k = k vs h := by rw [blk_e, (beq_iff id id).2 rfl, ifB_t]
theorem s1n (i : Nat) (hi : i < 1000000) : wrapC 63 ((i : Int) + 1) = ((i + 1 : Nat) : Int) := by rw [w63_in _ (by omega) (by omega)]; omega
theorem _root_.Go.AM.To.fresh {a b c : Hp} {W : Nat → Prop} (h1 : To No a b) (h2 : To W b c) (hW : ∀ x, W x → a.nb ≤ x) : To No a c := by
  have q : To (fun q => a.nb ≤ q) a c := (h1.mono fun _ _ f => f.elim).trans (h2.mono fun x _ hx => hW x hx)
  exact q.mono fun b hb hn => by omega
theorem cP_p (b o : Nat) (k : Nat → Nat → Res) : cP (.ptr b o) k = k b o := of_eq_true (eq_self _)
theorem nck_p (b o : Nat) (k : AV → Res) : nck (.ptr b o) k = k (.ptr b o) := of_eq_true (eq_self _)
/-! ### texts as lists of bytes -/
noncomputable def S (l : List UInt8) : AV := .str l.length (packB l)
theorem S_arr (a : ByteArray) : AV.str a.data.size (packB a.data.toList) = S a.data.toList := by unfold S; simp
theorem lenS_S (l : List UInt8) (k : AV → Res) : lenS (S l) k = k (.int 63 (l.length : Int)) := lenS_s _ _ _
theorem cK_S (l : List UInt8) (k : AV → Res) : cK (S l) k = k (S l) := by unfold S; exact cK_s ..
theorem one_S (l : List UInt8) : one (S l) = true := rfl
theorem sIdx_S (l : List UInt8) (c j : Nat) (hj : j < l.length) (k : AV → Res) : sIdx (S l) (.int c (j : Int)) k = k (.int 8 (l[j].toNat : Int)) := by
  unfold S
  rw [sIdx_s _ _ _ _ hj, byteAt_eq _ _ hj]
theorem S_inj {a b : List UInt8} (h : S a = S b) : a = b := by
  unfold S at h
  injection h with h1 h2
  exact packB_inj a b h1 h2
theorem eqS_S (a b : List UInt8) (k : Bool → Res) : eqS (S a) (S b) k = k (decide (a = b)) := by
  have e : eqS (S a) (S b) k = k (sEq a.length (packB a) b.length (packB b)) := rfl
  have e2 : sEq a.length (packB a) b.length (packB b) = decide (a = b) := by
    have h : sEq a.length (packB a) b.length (packB b) = Bool.rec (motive := fun _ => Bool) false (Nat.beq (packB a) (packB b)) (Nat.beq a.length b.length) := rfl
    rw [h, recB, Bool.eq_iff_iff]
    simp only [beq_iff, decide_eq_true_eq]
    constructor
    · intro h
      split at h
      · rename_i hl
        rw [beq_iff] at h
        exact packB_inj _ _ hl h
      · cases h
    · rintro rfl
      rw [if_pos rfl, beq_iff]
  rw [e, e2]
theorem cat_S (a b : List UInt8) (h : a.length + b.length ≤ 9223372036854775807) (k : AV → Res) : sCat (S a) (S b) k = k (S (a ++ b)) := by
  have e : sCat (S a) (S b) k = ifB (Nat.ble (Nat.add a.length b.length) 9223372036854775807) (k (.str (Nat.add a.length b.length) (Nat.add (packB a) (Nat.shiftLeft (packB b) (Nat.mul 8 a.length))))) .fail := rfl
  have e2 : Nat.add (packB a) (Nat.shiftLeft (packB b) (Nat.mul 8 a.length)) = packB (a ++ b) := by
    rw [packB_append]
    show packB a + packB b <<< (8 * a.length) = _
    rw [Nat.shiftLeft_eq]
  rw [e, (ble_iff (Nat.add a.length b.length) _).2 h, ifB_t, e2]
  unfold S
  rw [List.length_append]; rfl
theorem cut_eq (l : List UInt8) (lo hi : Nat) (h1 : lo ≤ hi) (h2 : hi ≤ l.length) : AV.str (Nat.sub hi lo) (Nat.mod (Nat.shiftRight (packB l) (Nat.mul 8 lo)) (Nat.pow 2 (Nat.mul 8 (Nat.sub hi lo)))) = S ((l.drop lo).take (hi - lo)) := by
  unfold S
  have hl : ((l.drop lo).take (hi - lo)).length = hi - lo := by simp; omega
  rw [hl, packB_take _ _ (by simp; omega), packB_drop]
  show AV.str (hi - lo) (packB l >>> (8 * lo) % 2 ^ (8 * (hi - lo))) = _
  rw [Nat.shiftRight_eq_div_pow]
theorem cut_S (l : List UInt8) (c1 c2 lo hi : Nat) (h1 : lo ≤ hi) (h2 : hi ≤ l.length) (k : AV → Res) : cutT (S l) (some (.int c1 (lo : Int))) (some (.int c2 (hi : Int))) k = k (S ((l.drop lo).take (hi - lo))) := by
  have e : cutT (S l) (some (.int c1 (lo : Int))) (some (.int c2 (hi : Int))) k = ifB (Nat.ble hi l.length) (ifB (Nat.ble lo hi) (k (.str (Nat.sub hi lo) (Nat.mod (Nat.shiftRight (packB l) (Nat.mul 8 lo)) (Nat.pow 2 (Nat.mul 8 (Nat.sub hi lo)))))) .fail) .fail := rfl
  rw [e, (ble_iff _ _).2 h2, (ble_iff _ _).2 h1, ifB_t, ifB_t, cut_eq l lo hi h1 h2]
theorem cutL_S (l : List UInt8) (c1 lo : Nat) (h : lo ≤ l.length) (k : AV → Res) : cutT (S l) (some (.int c1 (lo : Int))) none k = k (S (l.drop lo)) := by
  have e : cutT (S l) (some (.int c1 (lo : Int))) none k = ifB (Nat.ble l.length l.length) (ifB (Nat.ble lo l.length) (k (.str (Nat.sub l.length lo) (Nat.mod (Nat.shiftRight (packB l) (Nat.mul 8 lo)) (Nat.pow 2 (Nat.mul 8 (Nat.sub l.length lo)))))) .fail) .fail := rfl
  rw [e, (ble_iff _ _).2 (Nat.le_refl _), (ble_iff _ _).2 h, ifB_t, ifB_t, cut_eq l lo l.length h (Nat.le_refl _), List.take_of_length_le (by simp)]
theorem cutR_S (l : List UInt8) (c2 hi : Nat) (h : hi ≤ l.length) (k : AV → Res) : cutT (S l) none (some (.int c2 (hi : Int))) k = k (S (l.take hi)) := by
  have e : cutT (S l) none (some (.int c2 (hi : Int))) k = ifB (Nat.ble hi l.length) (ifB (Nat.ble 0 hi) (k (.str (Nat.sub hi 0) (Nat.mod (Nat.shiftRight (packB l) (Nat.mul 8 0)) (Nat.pow 2 (Nat.mul 8 (Nat.sub hi 0)))))) .fail) .fail := rfl
  rw [e, (ble_iff _ _).2 h, (ble_iff _ _).2 (Nat.zero_le _), ifB_t, ifB_t, cut_eq l 0 hi (Nat.zero_le _) h]
  simp
@[congr] theorem eqS_cg {v v' w w' : AV} (h : v = v') (h' : w = w') (k : Bool → Res) : eqS v w k = eqS v' w' k := by rw [h, h']
@[congr] theorem sCat_cg {v v' w w' : AV} (h : v = v') (h' : w = w') (k : AV → Res) : sCat v w k = sCat v' w' k := by rw [h, h']
/-! ### texts that stand in the program -/
theorem S_0 : AV.str 0 0 = S [] := rfl
theorem S_47 : AV.str 1 47 = S [47] := rfl
theorem S_46 : AV.str 1 46 = S [46] := rfl
theorem S_cs : AV.str 4 794508078 = S [46, 59, 91, 47] := by kernel_rfl
theorem S_lg : AV.str 2 15932 = S [60, 62] := by kernel_rfl
theorem S_init : AV.str 6 68669705972028 = S [60, 105, 110, 105, 116, 62] := by kernel_rfl
theorem S_clin : AV.str 8 4500337850585998140 = S [60, 99, 108, 105, 110, 105, 116, 62] := by kernel_rfl
/-! ### where a byte is -/
theorem t117 (l : List UInt8) (c : UInt8) (h : Hp) : s117 [S l, .int 8 (c.toNat : Int)] h = .ret (.int 63 (Lib.indexByte l c)) h := by
  have hc := c.toNat_lt
  have e : s117 [S l, .int 8 (c.toNat : Int)] h = ifB (Nat.blt c.toNat 256) (.ret (.int 63 (idxB (packB l) c.toNat l.length 0)) h) .fail := rfl
  rw [e, (blt_iff _ _).2 hc, ifB_t, idxB_eq (packB l) c l 0 (fun j hj => by rw [Nat.zero_add]; exact byteAt_eq _ _ hj)]
  congr 2
  split
  · rename_i h0; exact h0.symm
  · simp
theorem t114 (l : List UInt8) (c : UInt8) (h : Hp) : s114 [S l, .int 8 (c.toNat : Int)] h = .ret (.int 63 (l.count c : Int)) h := by
  have hc := c.toNat_lt
  have e : s114 [S l, .int 8 (c.toNat : Int)] h = ifB (Nat.blt c.toNat 256) (.ret (.int 63 (Int.ofNat (cntB (packB l) c.toNat l.length 0))) h) .fail := rfl
  rw [e, (blt_iff _ _).2 hc, ifB_t, cntB_eq (packB l) c l 0 (fun j hj => by rw [Nat.zero_add]; exact byteAt_eq _ _ hj)]
  rfl
theorem t103 (l : List UInt8) (c : UInt8) (h : Hp) : s103 [S l, .int 8 (c.toNat : Int)] h = .ret (.int 63 (Lib.indexByte l c)) h := by simp only [↓s103, ↓t117, ↓SD, SA, Int.ofNat_eq_natCast, Int.cast_ofNat_Int, Int.reduceBEq, Int.reduceAdd, Int.reduceNeg, Int.reduceNegSucc, Int.reduceLT, Int.reduceLE, Int.reduceMul, Int.reduceTMod, Int.reduceSub, Int.reduceBNe, Bool.not_true, Bool.not_false, decide_true, decide_false, ne_eq, not_false_eq_true, Int.reduceEq, reduceCtorEq]
theorem t78 (l : List UInt8) (c : UInt8) (h : Hp) : s78 [S l, .int 8 (c.toNat : Int)] h = .ret (.int 63 (Lib.indexByte l c)) h := by simp only [↓s78, ↓t103, ↓SD, SA, Int.ofNat_eq_natCast, Int.cast_ofNat_Int, Int.reduceBEq, Int.reduceAdd, Int.reduceNeg, Int.reduceNegSucc, Int.reduceLT, Int.reduceLE, Int.reduceMul, Int.reduceTMod, Int.reduceSub, Int.reduceBNe, Bool.not_true, Bool.not_false, decide_true, decide_false, ne_eq, not_false_eq_true, Int.reduceEq, reduceCtorEq]
theorem idx_neg (l : List UInt8) (c : UInt8) : Lib.indexByte l c < 0 ↔ c ∉ l := by
  induction l with
  | nil => simp [Lib.indexByte]
  | cons b l ih =>
    have hge := Lib.indexByte_ge l c
    unfold Lib.indexByte
    by_cases hb : b = c
    · subst hb; simp
    · have h1 : (b == c) = false := by simpa using hb
      have h2 : ¬ c = b := fun h => hb h.symm
      rw [h1]
      simp only [Bool.false_eq_true, if_false, List.mem_cons, h2, false_or, beq_iff_eq]
      rw [← ih]
      split <;> omega
end Go.Proofs.YtnpfppddongbhaaDoor
end

section
namespace Go.Proofs.YtnpfppddongbhaaDoor
open Go Go.AM
set_option autoImplicit false
set_option linter.unusedSimpArgs false
set_option linter.unusedVariables false
/-! ### ranges over texts -/
/-- The machine's entries (maps, iterators) that were there stay. -/
def ToM (h h' : Hp) : Prop := ∀ b, b < h.nb → h'.ms.get b = h.ms.get b
theorem rng_S {h : Hp} (hw : Wf h) (l : List UInt8) : ∃ h', (∀ k : AV → Hp → Res, rng h (S l) k = k (.ptr h.nb 0) h') ∧ h'.ms.get h.nb = some (itr l.length (packB l) 0) ∧ To No h h' ∧ ToM h h' ∧ Wf h' ∧ h'.nb = h.nb + 1 := by
  refine ⟨⟨Nat.succ h.nb, h.bs, h.gs, h.ms.set (itr l.length (packB l) 0) h.nb⟩, fun k => rfl, ?_, ⟨Nat.le_succ _, fun _ _ _ => rfl, fun _ _ _ => rfl, fun hn g hg => hn g (Nat.le_of_succ_le hg)⟩, fun b hb => ?_, fun g hg => hw g (Nat.le_of_succ_le hg), rfl⟩
  · show (h.ms.set _ h.nb).get h.nb = _
    rw [T.get_set, if_pos rfl]
  · show (h.ms.set _ h.nb).get b = _
    rw [T.get_set, if_neg (by omega)]
theorem nxt_go {h : Hp} {b p : Nat} {l : List UInt8} (hg : h.ms.get b = some (itr l.length (packB l) p)) (hp : p < l.length) (hw : Wf h) :
    ∃ h', (∀ k : AV → Hp → Res, nxt h (.ptr b 0) k = k (.tup (.cons (.bool true) (.cons (.int 63 (p : Int)) (.cons (.int 31 ((decA l.length (packB l) p).1 : Int)) .nil)))) h') ∧
      h'.ms.get b = some (itr l.length (packB l) (p + (decA l.length (packB l) p).2)) ∧ To No h h' ∧ Wf h' ∧ h'.nb = h.nb ∧ ∀ b2, b2 ≠ b → h'.ms.get b2 = h.ms.get b2 := by
  refine ⟨⟨h.nb, h.bs, h.gs, h.ms.set (itr l.length (packB l) (p + (decA l.length (packB l) p).2)) b⟩, fun k => ?_, ?_, ⟨Nat.le_refl _, fun _ _ _ => rfl, fun _ _ _ => rfl, fun hn => hn⟩, hw, rfl, fun b2 h2 => ?_⟩
  · unfold nxt
    show ifB (Nat.beq 0 0) (Option.rec (motive := fun _ => Res) .fail _ (h.ms.get b)) .fail = _
    rw [hg]
    show ifB (Nat.blt p l.length) _ _ = _
    rw [(blt_iff _ _).2 hp]
    rfl
  · show (h.ms.set _ b).get b = _
    rw [T.get_set, if_pos rfl]
  · show (h.ms.set _ b).get b2 = _
    rw [T.get_set, if_neg h2]
theorem nxt_end {h : Hp} {b p : Nat} {l : List UInt8} (hg : h.ms.get b = some (itr l.length (packB l) p)) (hp : ¬ p < l.length) (k : AV → Hp → Res) : nxt h (.ptr b 0) k = k (.tup (.cons (.bool false) .nil)) h := by
  unfold nxt
  show ifB (Nat.beq 0 0) (Option.rec (motive := fun _ => Res) .fail _ (h.ms.get b)) .fail = _
  rw [hg]
  show ifB (Nat.blt p l.length) _ _ = _
  have : Nat.blt p l.length = false := by rw [Bool.eq_false_iff, ne_eq, blt_iff]; exact hp
  rw [this]
  rfl
theorem bA (l : List UInt8) (i : Nat) (hi : i < l.length) : byteAt (packB l) i = l[i].toNat := byteAt_eq l i hi
theorem dec_ascii (l : List UInt8) (p : Nat) (hp : p < l.length) (ha : l[p].toNat < 128) : decA l.length (packB l) p = (l[p].toNat, 1) := by
  unfold decA
  simp only [Nat.add_zero, bA l p hp, ha, if_true]
/-- A rune that is no byte below 128: its bytes are all above. -/
theorem dec_high (l : List UInt8) (p : Nat) (hp : p < l.length) (ha : ¬ l[p].toNat < 128) :
    128 ≤ (decA l.length (packB l) p).1 ∧ (decA l.length (packB l) p).1 ≤ 1114111 ∧ 1 ≤ (decA l.length (packB l) p).2 ∧ ∀ j (hj : j < l.length), p ≤ j → j < p + (decA l.length (packB l) p).2 → 128 ≤ l[j].toNat := by
  have cont : ∀ k, (decide (p + k < l.length) && byteAt (packB l) (p + k) / 64 == 2) = true → ∃ h : p + k < l.length, 128 ≤ l[p + k].toNat := by
    intro k hk
    simp only [Bool.and_eq_true, decide_eq_true_eq, beq_iff_eq] at hk
    obtain ⟨h1, h2⟩ := hk
    rw [bA l _ h1] at h2
    exact ⟨h1, by omega⟩
  unfold decA
  simp only [Nat.add_zero, bA l p hp, ha, if_false]
  have one : ∀ j (hj : j < l.length), p ≤ j → j < p + 1 → 128 ≤ l[j].toNat := fun j hj h1 h2 => by
    obtain rfl : j = p := by omega
    omega
  have key : ∀ (c w : Nat), 128 ≤ c → c ≤ 1114111 → 1 ≤ w → (∀ j (hj : j < l.length), p ≤ j → j < p + w → 128 ≤ l[j].toNat) → 128 ≤ (c, w).1 ∧ (c, w).1 ≤ 1114111 ∧ 1 ≤ (c, w).2 ∧ ∀ j (hj : j < l.length), p ≤ j → j < p + (c, w).2 → 128 ≤ l[j].toNat := fun c w h1 h2 h3 h4 => ⟨h1, h2, h3, h4⟩
  have hb := l[p].toNat_lt
  split
  · rename_i h2
    simp only [Bool.and_eq_true] at h2
    obtain ⟨q1, z1⟩ := cont 1 (by simpa using h2.2)
    split
    · rename_i h3
      refine key _ _ h3 (by omega) (by decide) fun j hj g1 g2 => ?_
      have : j = p ∨ j = p + 1 := by omega
      rcases this with rfl | rfl
      · omega
      · exact z1
    · exact key _ _ (by decide) (by decide) (by decide) one
  · split
    · rename_i h2
      simp only [Bool.and_eq_true] at h2
      obtain ⟨q1, z1⟩ := cont 1 (by simpa using h2.1.2)
      obtain ⟨q2, z2⟩ := cont 2 (by simpa using h2.2)
      split
      · rename_i h3
        simp only [Bool.and_eq_true, decide_eq_true_eq] at h3
        refine key _ _ (by omega) (by omega) (by decide) fun j hj g1 g2 => ?_
        have : j = p ∨ j = p + 1 ∨ j = p + 2 := by omega
        rcases this with rfl | rfl | rfl
        · omega
        · exact z1
        · exact z2
      · exact key _ _ (by decide) (by decide) (by decide) one
    · split
      · rename_i h2
        simp only [Bool.and_eq_true] at h2
        obtain ⟨q1, z1⟩ := cont 1 (by simpa using h2.1.1.2)
        obtain ⟨q2, z2⟩ := cont 2 (by simpa using h2.1.2)
        obtain ⟨q3, z3⟩ := cont 3 (by simpa using h2.2)
        split
        · rename_i h3
          simp only [Bool.and_eq_true, Bool.or_eq_true, decide_eq_true_eq] at h3
          refine key _ _ (by omega) (by omega) (by decide) fun j hj g1 g2 => ?_
          have : j = p ∨ j = p + 1 ∨ j = p + 2 ∨ j = p + 3 := by omega
          rcases this with rfl | rfl | rfl | rfl
          · omega
          · exact z1
          · exact z2
          · exact z3
        · exact key _ _ (by decide) (by decide) (by decide) one
      · exact key _ _ (by decide) (by decide) (by decide) one
/-- What is written for a rune that is no byte below 128: bytes of which the last one is above. -/
theorem iStr_high (r : Nat) (h1 : 128 ≤ r) (h2 : r ≤ 1114111) : ∃ (rs : List UInt8) (c : UInt8), (∀ k : AV → Res, iStr (.int 31 (r : Int)) k = k (S rs)) ∧ 2 ≤ rs.length ∧ rs.length ≤ 4 ∧ rs[rs.length - 1]? = some c ∧ 128 ≤ c.toNat := by
  have hc : ∃ m, runeC (r : Int) = m ∧ 128 ≤ m ∧ m ≤ 1114111 := by
    refine ⟨_, rfl, ?_, runeC_lt _⟩
    rw [runeC_eq]
    split
    · simpa using h1
    · decide
  obtain ⟨m, hm, g1, g2⟩ := hc
  have e : ∀ k : AV → Res, iStr (.int 31 (r : Int)) k = (fun c => ifB (Nat.blt c 128) (k (.str 1 c))
    (ifB (Nat.blt c 2048) (k (.str 2 (Nat.add (Nat.add 192 (Nat.div c 64)) (Nat.mul 256 (Nat.add 128 (Nat.mod c 64))))))
      (ifB (Nat.blt c 65536) (k (.str 3 (Nat.add (Nat.add 224 (Nat.div c 4096)) (Nat.mul 256 (Nat.add (Nat.add 128 (Nat.mod (Nat.div c 64) 64)) (Nat.mul 256 (Nat.add 128 (Nat.mod c 64))))))))
        (k (.str 4 (Nat.add (Nat.add 240 (Nat.div c 262144)) (Nat.mul 256 (Nat.add (Nat.add 128 (Nat.mod (Nat.div c 4096) 64)) (Nat.mul 256 (Nat.add (Nat.add 128 (Nat.mod (Nat.div c 64) 64)) (Nat.mul 256 (Nat.add 128 (Nat.mod c 64))))))))))))) (runeC (r : Int)) := fun k => rfl
  rw [hm] at e
  simp only at e
  have b1 : Nat.blt m 128 = false := by rw [Bool.eq_false_iff, ne_eq, blt_iff]; omega
  simp only [b1, ifB_f] at e
  by_cases h3 : m < 2048
  · have b2 : Nat.blt m 2048 = true := (blt_iff _ _).2 h3
    refine ⟨[UInt8.ofNat (192 + m / 64), UInt8.ofNat (128 + m % 64)], UInt8.ofNat (128 + m % 64), fun k => ?_, by simp, by simp, rfl, by rw [u8n _ (by omega)]; omega⟩
    rw [e, b2, ifB_t]
    have : packB [UInt8.ofNat (192 + m / 64), UInt8.ofNat (128 + m % 64)] = (192 + m / 64) + 256 * (128 + m % 64) := by
      show (UInt8.ofNat (192 + m / 64)).toNat + 256 * ((UInt8.ofNat (128 + m % 64)).toNat + 256 * 0) = _
      rw [u8n _ (by omega), u8n _ (by omega)]; omega
    unfold S
    rw [this]; rfl
  · have b2 : Nat.blt m 2048 = false := by rw [Bool.eq_false_iff, ne_eq, blt_iff]; omega
    by_cases h4 : m < 65536
    · have b3 : Nat.blt m 65536 = true := (blt_iff _ _).2 h4
      refine ⟨[UInt8.ofNat (224 + m / 4096), UInt8.ofNat (128 + m / 64 % 64), UInt8.ofNat (128 + m % 64)], UInt8.ofNat (128 + m % 64), fun k => ?_, by simp, by simp, rfl, by rw [u8n _ (by omega)]; omega⟩
      rw [e, b2, ifB_f, b3, ifB_t]
      have : packB [UInt8.ofNat (224 + m / 4096), UInt8.ofNat (128 + m / 64 % 64), UInt8.ofNat (128 + m % 64)] = (224 + m / 4096) + 256 * ((128 + m / 64 % 64) + 256 * (128 + m % 64)) := by
        show (UInt8.ofNat (224 + m / 4096)).toNat + 256 * ((UInt8.ofNat (128 + m / 64 % 64)).toNat + 256 * ((UInt8.ofNat (128 + m % 64)).toNat + 256 * 0)) = _
        rw [u8n _ (by omega), u8n _ (by omega), u8n _ (by omega)]; omega
      unfold S
      rw [this]; rfl
    · have b3 : Nat.blt m 65536 = false := by rw [Bool.eq_false_iff, ne_eq, blt_iff]; omega
      refine ⟨[UInt8.ofNat (240 + m / 262144), UInt8.ofNat (128 + m / 4096 % 64), UInt8.ofNat (128 + m / 64 % 64), UInt8.ofNat (128 + m % 64)], UInt8.ofNat (128 + m % 64), fun k => ?_, by simp, by simp, rfl, by rw [u8n _ (by omega)]; omega⟩
      rw [e, b2, ifB_f, b3, ifB_f]
      have : packB [UInt8.ofNat (240 + m / 262144), UInt8.ofNat (128 + m / 4096 % 64), UInt8.ofNat (128 + m / 64 % 64), UInt8.ofNat (128 + m % 64)] = (240 + m / 262144) + 256 * ((128 + m / 4096 % 64) + 256 * ((128 + m / 64 % 64) + 256 * (128 + m % 64))) := by
        show (UInt8.ofNat (240 + m / 262144)).toNat + 256 * ((UInt8.ofNat (128 + m / 4096 % 64)).toNat + 256 * ((UInt8.ofNat (128 + m / 64 % 64)).toNat + 256 * ((UInt8.ofNat (128 + m % 64)).toNat + 256 * 0))) = _
        rw [u8n _ (by omega), u8n _ (by omega), u8n _ (by omega), u8n _ (by omega)]; omega
      unfold S
      rw [this]; rfl
end Go.Proofs.YtnpfppddongbhaaDoor
end

section
namespace Go.Proofs.YtnpfppddongbhaaDoor
open Go Go.AM
set_option autoImplicit false
set_option linter.unusedSimpArgs false
set_option linter.unusedVariables false
/-! ### strings.IndexRune among bytes below 128 -/
def Low (cs : List UInt8) : Prop := ∀ c ∈ cs, c.toNat < 128
theorem t110 (n : Nat) (h : Hp) : ∃ b, s110 [.int 31 (n : Int)] h = .ret (.bool b) h := by
  have c0 : ¬ (n : Int) < 0 := by omega
  by_cases c1 : (n : Int) < 55296
  · exact ⟨true, by simp only [↓s110, c0, c1, ↓SD, SA, Int.ofNat_eq_natCast, Int.cast_ofNat_Int, Int.reduceBEq, Int.reduceAdd, Int.reduceNeg, Int.reduceNegSucc, Int.reduceLT, Int.reduceLE, Int.reduceMul, Int.reduceTMod, Int.reduceSub, Int.reduceBNe, Bool.not_true, Bool.not_false, decide_true, decide_false, ne_eq, not_false_eq_true, Int.reduceEq, reduceCtorEq]⟩
  · by_cases c2 : 57343 < (n : Int)
    · by_cases c3 : 1114111 < (n : Int)
      · exact ⟨false, by simp only [↓s110, c0, c1, c2, c3, ↓SD, SA, Int.ofNat_eq_natCast, Int.cast_ofNat_Int, Int.reduceBEq, Int.reduceAdd, Int.reduceNeg, Int.reduceNegSucc, Int.reduceLT, Int.reduceLE, Int.reduceMul, Int.reduceTMod, Int.reduceSub, Int.reduceBNe, Bool.not_true, Bool.not_false, decide_true, decide_false, ne_eq, not_false_eq_true, Int.reduceEq, reduceCtorEq]⟩
      · exact ⟨true, by simp only [↓s110, c0, c1, c2, c3, ↓SD, SA, Int.ofNat_eq_natCast, Int.cast_ofNat_Int, Int.reduceBEq, Int.reduceAdd, Int.reduceNeg, Int.reduceNegSucc, Int.reduceLT, Int.reduceLE, Int.reduceMul, Int.reduceTMod, Int.reduceSub, Int.reduceBNe, Bool.not_true, Bool.not_false, decide_true, decide_false, ne_eq, not_false_eq_true, Int.reduceEq, reduceCtorEq]⟩
    · exact ⟨false, by simp only [↓s110, c0, c1, c2, ↓SD, SA, Int.ofNat_eq_natCast, Int.cast_ofNat_Int, Int.reduceBEq, Int.reduceAdd, Int.reduceNeg, Int.reduceNegSucc, Int.reduceLT, Int.reduceLE, Int.reduceMul, Int.reduceTMod, Int.reduceSub, Int.reduceBNe, Bool.not_true, Bool.not_false, decide_true, decide_false, ne_eq, not_false_eq_true, Int.reduceEq, reduceCtorEq]⟩
theorem loop95r {cs : List UInt8} (hc : Low cs) (b : Nat) : ∀ (f m p : Nat) (h : Hp), cs.length - p ≤ f → f < m → p ≤ cs.length → Wf h → b < h.nb → h.ms.get b = some (itr cs.length (packB cs) p) →
    ∃ h', lp L95n0 m [.ptr b 0] h = .exit 9 [] h' ∧ To No h h' ∧ Wf h' ∧ ∀ b2, b2 ≠ b → b2 < h.nb → h'.ms.get b2 = h.ms.get b2 := by
  intro f
  induction f with
  | zero =>
    intro m p h hf hm hp hw hb hg
    obtain ⟨m, rfl⟩ : ∃ k, m = k + 1 := ⟨m - 1, by omega⟩
    have e := fun k => nxt_end (k := k) hg (by omega)
    exact ⟨h, lpx m (by simp only [↓L95n0, ↓e, ↓SD, SA, Int.ofNat_eq_natCast, Int.cast_ofNat_Int, Int.reduceBEq, Int.reduceAdd, Int.reduceNeg, Int.reduceNegSucc, Int.reduceLT, Int.reduceLE, Int.reduceMul, Int.reduceTMod, Int.reduceSub, Int.reduceBNe, Bool.not_true, Bool.not_false, decide_true, decide_false, ne_eq, not_false_eq_true, Int.reduceEq, reduceCtorEq]), To.refl _ _, hw, fun _ _ _ => rfl⟩
  | succ f ih =>
    intro m p h hf hm hp hw hb hg
    obtain ⟨m, rfl⟩ : ∃ k, m = k + 1 := ⟨m - 1, by omega⟩
    by_cases hin : p < cs.length
    · obtain ⟨h1, e, g1, o1, w1, n1, m1⟩ := nxt_go hg hin hw
      rw [dec_ascii cs p hin (hc _ (List.getElem_mem hin))] at e g1
      have hx := hc _ (List.getElem_mem hin)
      have ne : ((cs[p].toNat : Int) == 65533) = false := beq_eq_false_iff_ne.2 (by omega)
      have n2 : nth (.cons (.bool true) (.cons (.int 63 (p : Int)) (.cons (.int 31 (cs[p].toNat : Int)) .nil))) 2 = .int 31 (cs[p].toNat : Int) := rfl
      have e1 : L95n0 [.ptr b 0] h = .norm [.ptr b 0] h1 := by
        simp only [↓L95n0, ↓e, n2, ne, ↓SD, SA, Int.ofNat_eq_natCast, Int.cast_ofNat_Int, Int.reduceBEq, Int.reduceAdd, Int.reduceNeg, Int.reduceNegSucc, Int.reduceLT, Int.reduceLE, Int.reduceMul, Int.reduceTMod, Int.reduceSub, Int.reduceBNe, Bool.not_true, Bool.not_false, decide_true, decide_false, ne_eq, not_false_eq_true, Int.reduceEq, reduceCtorEq]
      obtain ⟨h2, e2, o2, w2, m2⟩ := ih m (p + 1) h1 (by omega) (by omega) (by omega) w1 (by omega) g1
      exact ⟨h2, (lpn m e1).trans e2, o1.trans o2, w2, fun b2 hn hl => (m2 b2 hn (by omega)).trans (m1 b2 hn)⟩
    · have e := fun k => nxt_end (k := k) hg hin
      exact ⟨h, lpx m (by simp only [↓L95n0, ↓e, ↓SD, SA, Int.ofNat_eq_natCast, Int.cast_ofNat_Int, Int.reduceBEq, Int.reduceAdd, Int.reduceNeg, Int.reduceNegSucc, Int.reduceLT, Int.reduceLE, Int.reduceMul, Int.reduceTMod, Int.reduceSub, Int.reduceBNe, Bool.not_true, Bool.not_false, decide_true, decide_false, ne_eq, not_false_eq_true, Int.reduceEq, reduceCtorEq]), To.refl _ _, hw, fun _ _ _ => rfl⟩
theorem t95 {cs : List UInt8} (hc : Low cs) (hl : cs.length ≤ 100) (r : Nat) (hr : r ≤ 1114111) {h : Hp} (hw : Wf h) :
    ∃ h', s95 [S cs, .int 31 (r : Int)] h = .ret (.int 63 (if r < 128 then Lib.indexByte cs (UInt8.ofNat r) else -1)) h' ∧ To No h h' ∧ ToM h h' ∧ Wf h' := by
  have c0 : ¬ (r : Int) < 0 := by omega
  by_cases h1 : r < 128
  · rw [if_pos h1]
    have c1 : (r : Int) < 128 := by omega
    have w8 : wrapC 8 (r : Int) = ((UInt8.ofNat r).toNat : Int) := by rw [w8_in _ (by omega) (by omega), u8n _ (by omega)]
    exact ⟨h, by simp only [↓s95, c0, c1, w8, ↓t78, ↓SD, SA, Int.ofNat_eq_natCast, Int.cast_ofNat_Int, Int.reduceBEq, Int.reduceAdd, Int.reduceNeg, Int.reduceNegSucc, Int.reduceLT, Int.reduceLE, Int.reduceMul, Int.reduceTMod, Int.reduceSub, Int.reduceBNe, Bool.not_true, Bool.not_false, decide_true, decide_false, ne_eq, not_false_eq_true, Int.reduceEq, reduceCtorEq], To.refl _ _, fun _ _ => rfl, hw⟩
  · rw [if_neg h1]
    have c1 : ¬ (r : Int) < 128 := by omega
    by_cases h2 : r = 65533
    · subst h2
      obtain ⟨h1, e, g1, o1, m1, w1, n1⟩ := rng_S hw cs
      obtain ⟨h2, e2, o2, w2, m2⟩ := loop95r hc h.nb cs.length most 0 h1 (by omega) (by unfold most; omega) (by omega) w1 (by omega) g1
      exact ⟨h2, by simp only [↓s95, c0, c1, ↓e, ↓e2, blk_x, ↓SD, SA, Int.ofNat_eq_natCast, Int.cast_ofNat_Int, Int.reduceBEq, Int.reduceAdd, Int.reduceNeg, Int.reduceNegSucc, Int.reduceLT, Int.reduceLE, Int.reduceMul, Int.reduceTMod, Int.reduceSub, Int.reduceBNe, Bool.not_true, Bool.not_false, decide_true, decide_false, ne_eq, not_false_eq_true, Int.reduceEq, reduceCtorEq], o1.trans o2, fun b hb => (m2 b (by omega) (by omega)).trans (m1 b hb), w2⟩
    · have c2 : ((r : Int) == 65533) = false := beq_eq_false_iff_ne.2 (by omega)
      obtain ⟨b, hb⟩ := t110 r h
      cases b with
      | false => exact ⟨h, by simp only [↓s95, c0, c1, c2, ↓hb, ↓SD, SA, Int.ofNat_eq_natCast, Int.cast_ofNat_Int, Int.reduceBEq, Int.reduceAdd, Int.reduceNeg, Int.reduceNegSucc, Int.reduceLT, Int.reduceLE, Int.reduceMul, Int.reduceTMod, Int.reduceSub, Int.reduceBNe, Bool.not_true, Bool.not_false, decide_true, decide_false, ne_eq, not_false_eq_true, Int.reduceEq, reduceCtorEq], To.refl _ _, fun _ _ => rfl, hw⟩
      | true =>
        obtain ⟨rs, c, e1, e2, e3, e4, e5⟩ := iStr_high r (by omega) hr
        obtain ⟨hlt, hcc⟩ := List.getElem?_eq_some_iff.1 e4
        have w1 : wrapC 63 ((rs.length : Int) - 1) = ((rs.length - 1 : Nat) : Int) := by rw [w63_in _ (by omega) (by omega)]; omega
        have lps : lp L95n2 most [S cs, S rs, .int 63 ((rs.length - 1 : Nat) : Int), .int 63 ((rs.length - 1 : Nat) : Int)] h = (if rs.length - 1 < cs.length then .ret (.int 63 (-1)) h else .exit 1 [] h) := by
          by_cases hi : rs.length - 1 < cs.length
          · rw [if_pos hi]
            have q1 : ((rs.length - 1 : Nat) : Int) < (cs.length : Int) := by omega
            have hlow := hc _ (List.getElem_mem hi)
            have ne : (((cs[rs.length - 1].toNat : Nat) : Int) == (c.toNat : Int)) = false := beq_eq_false_iff_ne.2 (by omega)
            have w2 : wrapC 63 (((rs.length - 1 : Nat) : Int) + 1) = ((rs.length : Nat) : Int) := by rw [w63_in _ (by omega) (by omega)]; omega
            have hneg : Lib.indexByte (cs.drop rs.length) c < 0 := (idx_neg _ _).2 fun hm => by have := hc _ (List.mem_of_mem_drop hm); omega
            have hge := Lib.indexByte_ge (cs.drop rs.length) c
            have x1 := fun k => sIdx_S cs 63 (rs.length - 1) hi k
            have x2 := fun k => sIdx_S rs 63 (rs.length - 1) hlt k
            rw [hcc] at x2
            have x3 := fun k => cutL_S cs 63 rs.length (by omega) k
            exact lpr 999999 (by simp only [↓L95n2, ↓lenS_S, q1, ↓x1, ↓x2, ne, w2, ↓x3, ↓t78, hneg, ↓SD, SA, Int.ofNat_eq_natCast, Int.cast_ofNat_Int, Int.reduceBEq, Int.reduceAdd, Int.reduceNeg, Int.reduceNegSucc, Int.reduceLT, Int.reduceLE, Int.reduceMul, Int.reduceTMod, Int.reduceSub, Int.reduceBNe, Bool.not_true, Bool.not_false, decide_true, decide_false, ne_eq, not_false_eq_true, Int.reduceEq, reduceCtorEq])
          · rw [if_neg hi]
            have q1 : ¬ ((rs.length - 1 : Nat) : Int) < (cs.length : Int) := by omega
            exact lpx 999999 (by simp only [↓L95n2, ↓lenS_S, q1, ↓SD, SA, Int.ofNat_eq_natCast, Int.cast_ofNat_Int, Int.reduceBEq, Int.reduceAdd, Int.reduceNeg, Int.reduceNegSucc, Int.reduceLT, Int.reduceLE, Int.reduceMul, Int.reduceTMod, Int.reduceSub, Int.reduceBNe, Bool.not_true, Bool.not_false, decide_true, decide_false, ne_eq, not_false_eq_true, Int.reduceEq, reduceCtorEq])
        refine ⟨h, ?_, To.refl _ _, fun _ _ => rfl, hw⟩
        by_cases hi : rs.length - 1 < cs.length
        · rw [if_pos hi] at lps
          simp only [↓s95, c0, c1, c2, ↓hb, ↓e1, ↓lenS_S, w1, ↓lps, ↓SD, SA, Int.ofNat_eq_natCast, Int.cast_ofNat_Int, Int.reduceBEq, Int.reduceAdd, Int.reduceNeg, Int.reduceNegSucc, Int.reduceLT, Int.reduceLE, Int.reduceMul, Int.reduceTMod, Int.reduceSub, Int.reduceBNe, Bool.not_true, Bool.not_false, decide_true, decide_false, ne_eq, not_false_eq_true, Int.reduceEq, reduceCtorEq]
        · rw [if_neg hi] at lps
          simp only [↓s95, c0, c1, c2, ↓hb, ↓e1, ↓lenS_S, w1, ↓lps, blk_x, ↓SD, SA, Int.ofNat_eq_natCast, Int.cast_ofNat_Int, Int.reduceBEq, Int.reduceAdd, Int.reduceNeg, Int.reduceNegSucc, Int.reduceLT, Int.reduceLE, Int.reduceMul, Int.reduceTMod, Int.reduceSub, Int.reduceBNe, Bool.not_true, Bool.not_false, decide_true, decide_false, ne_eq, not_false_eq_true, Int.reduceEq, reduceCtorEq]
end Go.Proofs.YtnpfppddongbhaaDoor
end

section
namespace Go.Proofs.YtnpfppddongbhaaDoor
open Go Go.AM
set_option autoImplicit false
set_option linter.unusedSimpArgs false
set_option linter.unusedVariables false
/-! ### strings.IndexAny among bytes below 128 -/
theorem ixP_256 (b c j : Nat) (hj : j < 256) (k : AV → Res) : ixP 256 1 (.ptr b 0) (.int c (j : Int)) k = k (.ptr b j) := by
  have e : ixP 256 1 (.ptr b 0) (.int c (j : Int)) k = ifB (Nat.blt j 256) (k (.ptr b (Nat.add 0 (Nat.mul j 1)))) .fail := rfl
  rw [e, (blt_iff _ _).2 hj, ifB_t]
  have e2 : Nat.add 0 (Nat.mul j 1) = j := by show 0 + j * 1 = j; omega
  rw [e2]
/-- A set of bytes, as 256 truths. -/
noncomputable def setV (cs : List UInt8) : List AV := (List.range 256).map fun j => .bool (decide (UInt8.ofNat j ∈ cs))
theorem setV_len (cs : List UInt8) : (setV cs).length = 256 := by simp [setV]
theorem setV_one (cs : List UInt8) : ∀ v ∈ setV cs, one v = true := by
  intro v hv
  obtain ⟨j, -, rfl⟩ := List.mem_map.1 hv
  rfl
theorem setV_get (cs : List UInt8) (j : Nat) (hj : j < (setV cs).length) : (setV cs)[j] = .bool (decide (UInt8.ofNat j ∈ cs)) := by simp [setV]
def SetAt (h : Hp) (b : Nat) (cs : List UInt8) : Prop := ∃ B, Own h b B ∧ B.lim = 256 ∧ ∀ j, j < 256 → B.at j = .bool (decide (UInt8.ofNat j ∈ cs))
theorem loop97 {cs : List UInt8} (hc : Low cs) (hl : cs.length ≤ 100) (b : Nat) : ∀ (f m i : Nat) (h : Hp), cs.length - i ≤ f → f < m → i ≤ cs.length → Wf h → SetAt h b (cs.take i) →
    ∃ h', lp L97n0 m [S cs, .ptr b 0, .int 63 (i : Int)] h = .exit 0 [.ptr b 0] h' ∧ SetAt h' b cs ∧ To (At b) h h' ∧ Wf h' := by
  intro f
  induction f with
  | zero =>
    intro m i h hf hm hi hw hs
    obtain ⟨m, rfl⟩ : ∃ k, m = k + 1 := ⟨m - 1, by omega⟩
    have e1 : ¬ (i : Int) < (cs.length : Int) := by omega
    rw [List.take_of_length_le (by omega)] at hs
    exact ⟨h, lpx m (by simp only [↓L97n0, ↓lenS_S, e1, ↓SD, SA, Int.ofNat_eq_natCast, Int.cast_ofNat_Int, Int.reduceBEq, Int.reduceAdd, Int.reduceNeg, Int.reduceNegSucc, Int.reduceLT, Int.reduceLE, Int.reduceMul, Int.reduceTMod, Int.reduceSub, Int.reduceBNe, Bool.not_true, Bool.not_false, decide_true, decide_false, ne_eq, not_false_eq_true, Int.reduceEq, reduceCtorEq]), hs, To.refl _ _, hw⟩
  | succ f ih =>
    intro m i h hf hm hi hw hs
    obtain ⟨m, rfl⟩ : ∃ k, m = k + 1 := ⟨m - 1, by omega⟩
    by_cases hin : i < cs.length
    · have e1 : (i : Int) < (cs.length : Int) := by omega
      have hx := hc _ (List.getElem_mem hin)
      have e2 : (cs[i].toNat : Int) < 128 := by omega
      obtain ⟨B, o, hlim, hat⟩ := hs
      obtain ⟨h1, q1, q2, q3, q4⟩ := st1_own (o := cs[i].toNat) (v := .bool true) o (by omega) rfl
      have x1 := fun k => sIdx_S cs 63 i hin k
      have x2 := fun k => ixP_256 b 8 cs[i].toNat (by omega) k
      have e : L97n0 [S cs, .ptr b 0, .int 63 (i : Int)] h = .norm [S cs, .ptr b 0, .int 63 ((i + 1 : Nat) : Int)] h1 := by
        simp only [↓L97n0, ↓lenS_S, e1, ↓x1, e2, ↓x2, ↓q1, s1n i (by omega), ↓SD, SA, Int.ofNat_eq_natCast, Int.cast_ofNat_Int, Int.reduceBEq, Int.reduceAdd, Int.reduceNeg, Int.reduceNegSucc, Int.reduceLT, Int.reduceLE, Int.reduceMul, Int.reduceTMod, Int.reduceSub, Int.reduceBNe, Bool.not_true, Bool.not_false, decide_true, decide_false, ne_eq, not_false_eq_true, Int.reduceEq, reduceCtorEq]
      obtain ⟨h2, r1, r2, r3, r4⟩ := ih m (i + 1) h1 (by omega) (by omega) (by omega) (q3.wf hw) ⟨_, q2, hlim, fun j hj => by
        rw [setC_at (by omega), List.take_add_one, List.getElem?_eq_getElem hin]
        simp only [Option.toList, List.mem_append, List.mem_singleton]
        by_cases e : j = cs[i].toNat
        · subst e
          rw [if_pos rfl]
          have : UInt8.ofNat cs[i].toNat = cs[i] := by simp
          simp [this]
        · rw [if_neg e, hat j hj]
          have : ¬ UInt8.ofNat j = cs[i] := fun h => e (by rw [← h, u8n _ hj])
          simp [this]⟩
      exact ⟨h2, (lpn m e).trans r1, r2, q3.trans r3, r4⟩
    · have e1 : ¬ (i : Int) < (cs.length : Int) := by omega
      rw [List.take_of_length_le (by omega)] at hs
      exact ⟨h, lpx m (by simp only [↓L97n0, ↓lenS_S, e1, ↓SD, SA, Int.ofNat_eq_natCast, Int.cast_ofNat_Int, Int.reduceBEq, Int.reduceAdd, Int.reduceNeg, Int.reduceNegSucc, Int.reduceLT, Int.reduceLE, Int.reduceMul, Int.reduceTMod, Int.reduceSub, Int.reduceBNe, Bool.not_true, Bool.not_false, decide_true, decide_false, ne_eq, not_false_eq_true, Int.reduceEq, reduceCtorEq]), hs, To.refl _ _, hw⟩
theorem none256 : (List.replicate 256 (AV.bool false)).length = 256 := List.length_replicate ..
/-- 256 truths, none of them true. -/
theorem mk256 {h : Hp} (hw : Wf h) : ∃ h', (∀ k : AV → Hp → Res, mk h (avL (List.replicate 256 (.bool false))) k = k (.ptr h.nb 0) h') ∧ SetAt h' h.nb [] ∧ To No h h' ∧ Wf h' ∧ h'.nb = h.nb + 1 := by
  obtain ⟨h', B, m1, m2, m3, m4, m5, m6, m7⟩ := mk_own hw (List.replicate 256 (.bool false)) (fun v hv => by rw [List.eq_of_mem_replicate hv]; rfl)
  rw [none256] at m3
  refine ⟨h', m1, ⟨B, m2, m3, fun j hj => ?_⟩, m5, m6, m7⟩
  rw [m4 j (by rw [none256]; exact hj), List.getElem_replicate, decide_eq_false (List.not_mem_nil)]
theorem SetAt.to {W : Nat → Prop} {h h' : Hp} {b : Nat} {cs : List UInt8} (hs : SetAt h b cs) (ht : To W h h') (hn : ¬ W b) : SetAt h' b cs := by
  obtain ⟨B, o, hl, hat⟩ := hs
  exact ⟨B, o.to ht hn, hl, hat⟩
theorem SetAt.ld {h : Hp} {b : Nat} {cs : List UInt8} (hs : SetAt h b cs) (k : AV → Res) : ldN h 256 (.ptr b 0) k = k (.agg (avL (setV cs))) := by
  obtain ⟨B, o, hl, hat⟩ := hs
  have := ldN_rd (o := 0) (l := setV cs) o.rd (fun i hi => by rw [setV_get, Nat.zero_add]; exact hat i (by rw [setV_len] at hi; exact hi)) (fun v hv => one_unk (setV_one cs v hv)) k
  rwa [setV_len] at this
theorem SetAt.st {h : Hp} {b : Nat} {ds : List UInt8} (hs : SetAt h b ds) (cs : List UInt8) : ∃ h', (∀ k : Hp → Res, stN h 256 (.ptr b 0) (.agg (avL (setV cs))) k = k h') ∧ SetAt h' b cs ∧ To (At b) h h' ∧ h'.nb = h.nb := by
  obtain ⟨B, o, hl, hat⟩ := hs
  obtain ⟨h', B', s1, s2, s3, s4, s5, s6⟩ := stN_own (o := 0) (l := setV cs) o (by rw [setV_len]; omega) (setV_one cs)
  rw [setV_len] at s1
  refine ⟨h', s1, ⟨B', s2, s3.trans hl, fun j hj => ?_⟩, s5, s6⟩
  rw [s4, dif_pos ⟨Nat.zero_le _, by rw [setV_len]; omega⟩]
  have := setV_get cs j (by rw [setV_len]; exact hj)
  simpa using this
theorem t97 {cs : List UInt8} (hc : Low cs) (hl : cs.length ≤ 100) {h : Hp} (hw : Wf h) : ∃ h', s97 [S cs] h = .ret (.tup (.cons (.agg (avL (setV cs))) (.cons (.bool true) .nil))) h' ∧ To No h h' ∧ Wf h' := by
  have e0 : s97 [S cs] h = mk h (avL (List.replicate 256 (.bool false))) fun v2 h3 => blk 0 (lp L97n0 most [S cs, v2, (.int 63 (.ofNat 0))] h3) fun w31 h32 => uc w31 fun v33 _ => ldN h32 256 v33 fun v34 => stN h32 256 v33 v34 fun h35 => ldN h35 256 v33 fun v36 => cK (.bool true) fun v37 => .ret (.tup (.cons v36 (.cons v37 .nil))) h35 := by kernel_rfl
  obtain ⟨h1, m1, s1, o1, w1, n1⟩ := mk256 hw
  obtain ⟨h2, r1, r2, r3, r4⟩ := loop97 hc hl h.nb cs.length most 0 h1 (by omega) (by unfold most; omega) (by omega) w1 (by simpa using s1)
  have r1 : lp L97n0 most [S cs, .ptr h.nb 0, .int 63 0] h1 = .exit 0 [.ptr h.nb 0] h2 := r1
  obtain ⟨h3, x1, x2, x3, x4⟩ := r2.st cs
  have y1 := fun k => r2.ld k
  have y2 := fun k => x2.ld k
  have tot := To.fresh o1 (r3.trans x3) (fun x e => by have : x = h.nb := e; omega)
  refine ⟨h3, ?_, tot, x3.wf r4⟩
  rw [e0, m1]
  simp only [↓r1, ↓blk_x, ↓y1, ↓x1, ↓y2, ↓SD, SA, Int.ofNat_eq_natCast, Int.cast_ofNat_Int, Int.reduceBEq, Int.reduceAdd, Int.reduceNeg, Int.reduceNegSucc, Int.reduceLT, Int.reduceLE, Int.reduceMul, Int.reduceTMod, Int.reduceSub, Int.reduceBNe, Bool.not_true, Bool.not_false, decide_true, decide_false, ne_eq, not_false_eq_true, Int.reduceEq, reduceCtorEq]
theorem t98 {h : Hp} {b : Nat} {cs : List UInt8} (hs : SetAt h b cs) (c : UInt8) : s98 [.ptr b 0, .int 8 (c.toNat : Int)] h = .ret (.bool (decide (c ∈ cs))) h := by
  obtain ⟨B, o, hl, hat⟩ := hs
  have hc := c.toNat_lt
  have x2 := fun k => ixP_256 b 8 c.toNat (by omega) k
  have hv := hat c.toNat (by omega)
  have ec : UInt8.ofNat c.toNat = c := by simp
  rw [ec] at hv
  have x3 : ∀ k : AV → Res, ld1 h (.ptr b c.toNat) k = k (.bool (decide (c ∈ cs))) := fun k => (ld1_rd o.rd hv k).trans (by rw [cK_b])
  simp only [↓s98, ↓nck_p, ↓x2, ↓x3, ↓SD, SA, Int.ofNat_eq_natCast, Int.cast_ofNat_Int, Int.reduceBEq, Int.reduceAdd, Int.reduceNeg, Int.reduceNegSucc, Int.reduceLT, Int.reduceLE, Int.reduceMul, Int.reduceTMod, Int.reduceSub, Int.reduceBNe, Bool.not_true, Bool.not_false, decide_true, decide_false, ne_eq, not_false_eq_true, Int.reduceEq, reduceCtorEq]
def anyOf (cs : List UInt8) (l : List UInt8) : Bool := l.any fun c => decide (c ∈ cs)
theorem loop73a {cs l : List UInt8} (hl : l.length ≤ 100000) {h : Hp} {b : Nat} (hs : SetAt h b cs) : ∀ (f m i : Nat), l.length - i ≤ f → f < m → i ≤ l.length →
    (anyOf cs (l.drop i) = true → ∃ j : Nat, lp L73n0 m [S l, .ptr b 0, .int 63 (i : Int)] h = .ret (.int 63 (j : Int)) h) ∧ (anyOf cs (l.drop i) = false → lp L73n0 m [S l, .ptr b 0, .int 63 (i : Int)] h = .exit 0 [] h) := by
  intro f
  induction f with
  | zero =>
    intro m i hf hm hi
    obtain ⟨m, rfl⟩ : ∃ k, m = k + 1 := ⟨m - 1, by omega⟩
    have e1 : ¬ (i : Int) < (l.length : Int) := by omega
    rw [List.drop_eq_nil_of_le (by omega)]
    exact ⟨fun h => (by cases h), fun _ => lpx m (by simp only [↓L73n0, ↓lenS_S, e1, ↓SD, SA, Int.ofNat_eq_natCast, Int.cast_ofNat_Int, Int.reduceBEq, Int.reduceAdd, Int.reduceNeg, Int.reduceNegSucc, Int.reduceLT, Int.reduceLE, Int.reduceMul, Int.reduceTMod, Int.reduceSub, Int.reduceBNe, Bool.not_true, Bool.not_false, decide_true, decide_false, ne_eq, not_false_eq_true, Int.reduceEq, reduceCtorEq])⟩
  | succ f ih =>
    intro m i hf hm hi
    obtain ⟨m, rfl⟩ : ∃ k, m = k + 1 := ⟨m - 1, by omega⟩
    by_cases hin : i < l.length
    · have e1 : (i : Int) < (l.length : Int) := by omega
      have x1 := fun k => sIdx_S l 63 i hin k
      have x2 := t98 hs l[i]
      rw [List.drop_eq_getElem_cons hin]
      have ea : anyOf cs (l[i] :: l.drop (i + 1)) = (decide (l[i] ∈ cs) || anyOf cs (l.drop (i + 1))) := rfl
      rw [ea]
      by_cases hc : l[i] ∈ cs
      · rw [decide_eq_true hc] at x2 ⊢
        exact ⟨fun _ => ⟨i, lpr m (by simp only [↓L73n0, ↓lenS_S, e1, ↓x1, ↓x2, ↓SD, SA, Int.ofNat_eq_natCast, Int.cast_ofNat_Int, Int.reduceBEq, Int.reduceAdd, Int.reduceNeg, Int.reduceNegSucc, Int.reduceLT, Int.reduceLE, Int.reduceMul, Int.reduceTMod, Int.reduceSub, Int.reduceBNe, Bool.not_true, Bool.not_false, decide_true, decide_false, ne_eq, not_false_eq_true, Int.reduceEq, reduceCtorEq])⟩, fun h => (by cases h)⟩
      · rw [decide_eq_false hc] at x2 ⊢
        have e : L73n0 [S l, .ptr b 0, .int 63 (i : Int)] h = .norm [S l, .ptr b 0, .int 63 ((i + 1 : Nat) : Int)] h := by
          simp only [↓L73n0, ↓lenS_S, e1, ↓x1, ↓x2, s1n i (by omega), ↓SD, SA, Int.ofNat_eq_natCast, Int.cast_ofNat_Int, Int.reduceBEq, Int.reduceAdd, Int.reduceNeg, Int.reduceNegSucc, Int.reduceLT, Int.reduceLE, Int.reduceMul, Int.reduceTMod, Int.reduceSub, Int.reduceBNe, Bool.not_true, Bool.not_false, decide_true, decide_false, ne_eq, not_false_eq_true, Int.reduceEq, reduceCtorEq]
        rw [lpn m e, Bool.false_or]
        exact ih m (i + 1) (by omega) (by omega) (by omega)
    · have e1 : ¬ (i : Int) < (l.length : Int) := by omega
      rw [List.drop_eq_nil_of_le (by omega)]
      exact ⟨fun h => (by cases h), fun _ => lpx m (by simp only [↓L73n0, ↓lenS_S, e1, ↓SD, SA, Int.ofNat_eq_natCast, Int.cast_ofNat_Int, Int.reduceBEq, Int.reduceAdd, Int.reduceNeg, Int.reduceNegSucc, Int.reduceLT, Int.reduceLE, Int.reduceMul, Int.reduceTMod, Int.reduceSub, Int.reduceBNe, Bool.not_true, Bool.not_false, decide_true, decide_false, ne_eq, not_false_eq_true, Int.reduceEq, reduceCtorEq])⟩
theorem any_skip {cs l : List UInt8} (hc : Low cs) : ∀ (w p : Nat), (∀ j (hj : j < l.length), p ≤ j → j < p + w → 128 ≤ l[j].toNat) → anyOf cs (l.drop p) = anyOf cs (l.drop (p + w)) := by
  intro w
  induction w with
  | zero => intro p _; rfl
  | succ w ih =>
    intro p hj
    by_cases hp : p < l.length
    · rw [List.drop_eq_getElem_cons hp]
      have ea : anyOf cs (l[p] :: l.drop (p + 1)) = (decide (l[p] ∈ cs) || anyOf cs (l.drop (p + 1))) := rfl
      have hn : ¬ l[p] ∈ cs := fun hm => by have := hc _ hm; have := hj p hp (Nat.le_refl _) (by omega); omega
      rw [ea, decide_eq_false hn, Bool.false_or, ih (p + 1) (fun j hj' h1 h2 => hj j hj' (by omega) (by omega)), show p + 1 + w = p + (w + 1) by omega]
    · rw [List.drop_eq_nil_of_le (by omega), List.drop_eq_nil_of_le (by omega)]
theorem loop73b {cs l : List UInt8} (hc : Low cs) (hcl : cs.length ≤ 100) (b : Nat) : ∀ (f m p : Nat) (h : Hp), l.length - p ≤ f → f < m → Wf h → b < h.nb → h.ms.get b = some (itr l.length (packB l) p) →
    (anyOf cs (l.drop p) = true → ∃ (j : Nat) (h' : Hp), lp L73n1 m [S cs, .ptr b 0] h = .ret (.int 63 (j : Int)) h' ∧ To No h h' ∧ Wf h') ∧ (anyOf cs (l.drop p) = false → ∃ h', lp L73n1 m [S cs, .ptr b 0] h = .exit 2 [] h' ∧ To No h h' ∧ Wf h') := by
  have stop : ∀ (m p : Nat) (h : Hp), ¬ p < l.length → Wf h → h.ms.get b = some (itr l.length (packB l) p) → 
      (anyOf cs (l.drop p) = true → ∃ (j : Nat) (h' : Hp), lp L73n1 (m + 1) [S cs, .ptr b 0] h = .ret (.int 63 (j : Int)) h' ∧ To No h h' ∧ Wf h') ∧ (anyOf cs (l.drop p) = false → ∃ h', lp L73n1 (m + 1) [S cs, .ptr b 0] h = .exit 2 [] h' ∧ To No h h' ∧ Wf h') := by
    intro m p h hp hw hg
    have e := fun k => nxt_end (k := k) hg hp
    rw [List.drop_eq_nil_of_le (by omega)]
    exact ⟨fun h => (by cases h), fun _ => ⟨h, lpx m (by simp only [↓L73n1, ↓e, ↓SD, SA, Int.ofNat_eq_natCast, Int.cast_ofNat_Int, Int.reduceBEq, Int.reduceAdd, Int.reduceNeg, Int.reduceNegSucc, Int.reduceLT, Int.reduceLE, Int.reduceMul, Int.reduceTMod, Int.reduceSub, Int.reduceBNe, Bool.not_true, Bool.not_false, decide_true, decide_false, ne_eq, not_false_eq_true, Int.reduceEq, reduceCtorEq]), To.refl _ _, hw⟩⟩
  intro f
  induction f with
  | zero =>
    intro m p h hf hm hw hb hg
    obtain ⟨m, rfl⟩ : ∃ k, m = k + 1 := ⟨m - 1, by omega⟩
    exact stop m p h (by omega) hw hg
  | succ f ih =>
    intro m p h hf hm hw hb hg
    obtain ⟨m, rfl⟩ : ∃ k, m = k + 1 := ⟨m - 1, by omega⟩
    by_cases hin : p < l.length
    · obtain ⟨h1, e, g1, o1, w1, n1, m1⟩ := nxt_go hg hin hw
      by_cases ha : l[p].toNat < 128
      · rw [dec_ascii l p hin ha] at e g1
        obtain ⟨h2, e2, o2, m2, w2⟩ := t95 hc hcl l[p].toNat (by omega) w1
        rw [if_pos ha, show UInt8.ofNat l[p].toNat = l[p] by simp] at e2
        rw [List.drop_eq_getElem_cons hin]
        have ea : anyOf cs (l[p] :: l.drop (p + 1)) = (decide (l[p] ∈ cs) || anyOf cs (l.drop (p + 1))) := rfl
        rw [ea]
        have n2 : nth (.cons (.bool true) (.cons (.int 63 (p : Int)) (.cons (.int 31 (l[p].toNat : Int)) .nil))) 2 = .int 31 (l[p].toNat : Int) := rfl
        have hiff := idx_neg cs l[p]
        by_cases hm2 : l[p] ∈ cs
        · have q : ¬ Lib.indexByte cs l[p] < 0 := fun h => hiff.1 h hm2
          rw [decide_eq_true hm2]
          exact ⟨fun _ => ⟨p, h2, lpr m (by simp only [↓L73n1, ↓e, n2, ↓e2, q, ↓SD, SA, Int.ofNat_eq_natCast, Int.cast_ofNat_Int, Int.reduceBEq, Int.reduceAdd, Int.reduceNeg, Int.reduceNegSucc, Int.reduceLT, Int.reduceLE, Int.reduceMul, Int.reduceTMod, Int.reduceSub, Int.reduceBNe, Bool.not_true, Bool.not_false, decide_true, decide_false, ne_eq, not_false_eq_true, Int.reduceEq, reduceCtorEq]), o1.trans o2, w2⟩, fun h => (by cases h)⟩
        · have q : Lib.indexByte cs l[p] < 0 := hiff.2 hm2
          rw [decide_eq_false hm2, Bool.false_or]
          have e1 : L73n1 [S cs, .ptr b 0] h = .norm [S cs, .ptr b 0] h2 := by simp only [↓L73n1, ↓e, n2, ↓e2, q, ↓SD, SA, Int.ofNat_eq_natCast, Int.cast_ofNat_Int, Int.reduceBEq, Int.reduceAdd, Int.reduceNeg, Int.reduceNegSucc, Int.reduceLT, Int.reduceLE, Int.reduceMul, Int.reduceTMod, Int.reduceSub, Int.reduceBNe, Bool.not_true, Bool.not_false, decide_true, decide_false, ne_eq, not_false_eq_true, Int.reduceEq, reduceCtorEq]
          rw [lpn m e1]
          obtain ⟨i1, i2⟩ := ih m (p + 1) h2 (by omega) (by omega) w2 (by have := o2.nb; omega) ((m2 b (by omega)).trans g1)
          exact ⟨fun ht => by obtain ⟨j, h', x1, x2, x3⟩ := i1 ht; exact ⟨j, h', x1, (o1.trans o2).trans x2, x3⟩, fun ht => by obtain ⟨h', x1, x2, x3⟩ := i2 ht; exact ⟨h', x1, (o1.trans o2).trans x2, x3⟩⟩
      · obtain ⟨d1, d2, d3, d4⟩ := dec_high l p hin ha
        generalize decA l.length (packB l) p = dd at *
        obtain ⟨r, w⟩ := dd
        simp only at d1 d2 d3 d4 e g1
        obtain ⟨h2, e2, o2, m2, w2⟩ := t95 hc hcl r d2 w1
        rw [if_neg (by omega)] at e2
        have n2 : nth (.cons (.bool true) (.cons (.int 63 (p : Int)) (.cons (.int 31 (r : Int)) .nil))) 2 = .int 31 (r : Int) := rfl
        have e1 : L73n1 [S cs, .ptr b 0] h = .norm [S cs, .ptr b 0] h2 := by simp only [↓L73n1, ↓e, n2, ↓e2, ↓SD, SA, Int.ofNat_eq_natCast, Int.cast_ofNat_Int, Int.reduceBEq, Int.reduceAdd, Int.reduceNeg, Int.reduceNegSucc, Int.reduceLT, Int.reduceLE, Int.reduceMul, Int.reduceTMod, Int.reduceSub, Int.reduceBNe, Bool.not_true, Bool.not_false, decide_true, decide_false, ne_eq, not_false_eq_true, Int.reduceEq, reduceCtorEq]
        rw [lpn m e1, any_skip hc w p d4]
        obtain ⟨i1, i2⟩ := ih m (p + w) h2 (by omega) (by omega) w2 (by have := o2.nb; omega) ((m2 b (by omega)).trans g1)
        exact ⟨fun ht => by obtain ⟨j, h', x1, x2, x3⟩ := i1 ht; exact ⟨j, h', x1, (o1.trans o2).trans x2, x3⟩, fun ht => by obtain ⟨h', x1, x2, x3⟩ := i2 ht; exact ⟨h', x1, (o1.trans o2).trans x2, x3⟩⟩
    · exact stop m p h hin hw hg
end Go.Proofs.YtnpfppddongbhaaDoor
end

section
namespace Go.Proofs.YtnpfppddongbhaaDoor
open Go Go.AM
set_option autoImplicit false
set_option linter.unusedSimpArgs false
set_option linter.unusedVariables false
theorem t96 (n : Nat) (h : Hp) : s96 [.int 63 (n : Int)] h = .ret (.bool (decide (8 < n))) h := by
  by_cases c : 8 < n
  · have e : (8 : Int) < (n : Int) := by omega
    simp only [↓s96, e, c, ↓SD, SA, Int.ofNat_eq_natCast, Int.cast_ofNat_Int, Int.reduceBEq, Int.reduceAdd, Int.reduceNeg, Int.reduceNegSucc, Int.reduceLT, Int.reduceLE, Int.reduceMul, Int.reduceTMod, Int.reduceSub, Int.reduceBNe, Bool.not_true, Bool.not_false, decide_true, decide_false, ne_eq, not_false_eq_true, Int.reduceEq, reduceCtorEq]
  · have e : ¬ (8 : Int) < (n : Int) := by omega
    simp only [↓s96, e, c, ↓SD, SA, Int.ofNat_eq_natCast, Int.cast_ofNat_Int, Int.reduceBEq, Int.reduceAdd, Int.reduceNeg, Int.reduceNegSucc, Int.reduceLT, Int.reduceLE, Int.reduceMul, Int.reduceTMod, Int.reduceSub, Int.reduceBNe, Bool.not_true, Bool.not_false, decide_true, decide_false, ne_eq, not_false_eq_true, Int.reduceEq, reduceCtorEq]
theorem t73 {cs l : List UInt8} (hc : Low cs) (h2 : 2 ≤ cs.length) (hcl : cs.length ≤ 100) (hl : l.length ≤ 100000) {h : Hp} (hw : Wf h) :
    ∃ (r : Int) (h' : Hp), s73 [S l, S cs] h = .ret (.int 63 r) h' ∧ (r < 0 ↔ anyOf cs l = false) ∧ To No h h' ∧ Wf h' := by
  have e0 : s73 [S l, S cs] h = (eqS (S cs) (.str 0 0) fun b4 => cB (.bool b4) fun b5 => ifB b5 (cK (.int 63 (.negSucc 0)) fun v6 => .ret v6 h) (lenS (S cs) fun v7 => eqN v7 (.int 63 (.ofNat 1)) fun b8 => cB (.bool b8) fun b9 => ifB b9 (sIdx (S cs) (.int 63 (.ofNat 0)) fun v10 => iConv 31 v10 fun v11 => jn (ltN v11 (.int 31 (.ofNat 128)) fun b12 => cB (.bool (bnot b12)) fun b13 => ifB b13 (.norm [(S l), (.int 31 (.ofNat 65533))] h) (.norm [(S l), v11] h)) fun w14 h15 => uc w14 fun v16 w17 => uc w17 fun v18 _ => cl (s95 [v16, v18] h15) fun v19 h20 => cK v19 fun v21 => .ret v21 h20) (jn (lenS (S l) fun v22 => cl (s96 [v22] h) fun v23 h24 => cB v23 fun b25 => ifB b25 (cl (s97 [(S cs)] h24) fun v26 h27 => cT v26 fun l28 => cK (nth l28 0) fun v29 => cT v26 fun l30 => cK (nth l30 1) fun v31 => mk h27 (avL (List.replicate 256 (.bool false))) fun v32 h33 => stN h33 256 v32 v29 fun h34 => cB v31 fun b35 => ifB b35 (blk 0 (lp L73n0 most [(S l), v32, (.int 63 (.ofNat 0))] h34) fun _ h59 => cK (.int 63 (.negSucc 0)) fun v60 => .ret v60 h59) (.norm [(S l), (S cs)] h34)) (.norm [(S l), (S cs)] h24)) fun w61 h62 => uc w61 fun v63 w64 => uc w64 fun v65 _ => rng h62 v63 fun v66 h67 => blk 2 (lp L73n1 most [v65, v66] h67) fun _ h92 => cK (.int 63 (.negSucc 0)) fun v93 => .ret v93 h92))) := by kernel_rfl
  have z1 : decide (cs = []) = false := decide_eq_false fun h => by rw [h] at h2; simp at h2
  have z2 : (((cs.length : Nat) : Int) == 1) = false := beq_eq_false_iff_ne.2 (by omega)
  by_cases h8 : 8 < l.length
  · obtain ⟨h1, r1, o1, w1⟩ := t97 hc hcl hw
    obtain ⟨h3, m1, s1, o3, w3, n3⟩ := mk256 w1
    obtain ⟨h4, q1, q2, q3, q4⟩ := s1.st cs
    have x := t96 l.length h
    rw [decide_eq_true h8] at x
    obtain ⟨g1, g2⟩ := loop73a hl q2 l.length most 0 (by omega) (by unfold most; omega) (by omega)
    rw [List.drop_zero, show ((0 : Nat) : Int) = 0 from rfl] at g1 g2
    have tot : To No h h4 := (o1.trans o3).fresh q3 (fun x e => by have : x = h1.nb := e; have := o1.nb; omega)
    cases ha : anyOf cs l with
    | true =>
      obtain ⟨j, g1⟩ := g1 ha
      refine ⟨(j : Int), h4, ?_, ⟨fun h => by omega, fun h => (by cases h)⟩, tot, q3.wf w3⟩
      rw [e0]
      simp only [↓S_0, ↓eqS_S, z1, ↓lenS_S, z2, ↓x, ↓r1, ↓m1, ↓q1, ↓g1, cK_a, ↓cK_a, ↓SD, SA, Int.ofNat_eq_natCast, Int.cast_ofNat_Int, Int.reduceBEq, Int.reduceAdd, Int.reduceNeg, Int.reduceNegSucc, Int.reduceLT, Int.reduceLE, Int.reduceMul, Int.reduceTMod, Int.reduceSub, Int.reduceBNe, Bool.not_true, Bool.not_false, decide_true, decide_false, ne_eq, not_false_eq_true, Int.reduceEq, reduceCtorEq]
    | false =>
      have g2 := g2 ha
      refine ⟨-1, h4, ?_, ⟨fun _ => rfl, fun _ => by omega⟩, tot, q3.wf w3⟩
      rw [e0]
      simp only [↓S_0, ↓eqS_S, z1, ↓lenS_S, z2, ↓x, ↓r1, ↓m1, ↓q1, ↓g2, ↓blk_x, cK_a, ↓cK_a, ↓SD, SA, Int.ofNat_eq_natCast, Int.cast_ofNat_Int, Int.reduceBEq, Int.reduceAdd, Int.reduceNeg, Int.reduceNegSucc, Int.reduceLT, Int.reduceLE, Int.reduceMul, Int.reduceTMod, Int.reduceSub, Int.reduceBNe, Bool.not_true, Bool.not_false, decide_true, decide_false, ne_eq, not_false_eq_true, Int.reduceEq, reduceCtorEq]
  · have x := t96 l.length h
    rw [decide_eq_false h8] at x
    obtain ⟨h1, e, g1, o1, m1, w1, n1⟩ := rng_S hw l
    obtain ⟨i1, i2⟩ := loop73b hc hcl h.nb l.length most 0 h1 (by omega) (by unfold most; omega) w1 (by omega) g1
    rw [List.drop_zero] at i1 i2
    cases ha : anyOf cs l with
    | true =>
      obtain ⟨j, h2, x1, x2, x3⟩ := i1 ha
      refine ⟨(j : Int), h2, ?_, ⟨fun h => by omega, fun h => (by cases h)⟩, o1.trans x2, x3⟩
      rw [e0]
      simp only [↓S_0, ↓eqS_S, z1, ↓lenS_S, z2, ↓x, ↓e, ↓x1, ↓SD, SA, Int.ofNat_eq_natCast, Int.cast_ofNat_Int, Int.reduceBEq, Int.reduceAdd, Int.reduceNeg, Int.reduceNegSucc, Int.reduceLT, Int.reduceLE, Int.reduceMul, Int.reduceTMod, Int.reduceSub, Int.reduceBNe, Bool.not_true, Bool.not_false, decide_true, decide_false, ne_eq, not_false_eq_true, Int.reduceEq, reduceCtorEq]
    | false =>
      obtain ⟨h2, x1, x2, x3⟩ := i2 ha
      refine ⟨-1, h2, ?_, ⟨fun _ => rfl, fun _ => by omega⟩, o1.trans x2, x3⟩
      rw [e0]
      simp only [↓S_0, ↓eqS_S, z1, ↓lenS_S, z2, ↓x, ↓e, ↓x1, ↓blk_x, ↓SD, SA, Int.ofNat_eq_natCast, Int.cast_ofNat_Int, Int.reduceBEq, Int.reduceAdd, Int.reduceNeg, Int.reduceNegSucc, Int.reduceLT, Int.reduceLE, Int.reduceMul, Int.reduceTMod, Int.reduceSub, Int.reduceBNe, Bool.not_true, Bool.not_false, decide_true, decide_false, ne_eq, not_false_eq_true, Int.reduceEq, reduceCtorEq]
theorem t50 {cs l : List UInt8} (hc : Low cs) (h2 : 2 ≤ cs.length) (hcl : cs.length ≤ 100) (hl : l.length ≤ 100000) {h : Hp} (hw : Wf h) :
    ∃ h', s50 [S l, S cs] h = .ret (.bool (anyOf cs l)) h' ∧ To No h h' ∧ Wf h' := by
  obtain ⟨r, h', e, q, o, w⟩ := t73 hc h2 hcl hl hw
  refine ⟨h', ?_, o, w⟩
  cases ha : anyOf cs l with
  | true =>
    have : ¬ r < 0 := fun h => by rw [ha] at q; cases q.1 h
    simp only [↓s50, ↓e, this, ↓SD, SA, Int.ofNat_eq_natCast, Int.cast_ofNat_Int, Int.reduceBEq, Int.reduceAdd, Int.reduceNeg, Int.reduceNegSucc, Int.reduceLT, Int.reduceLE, Int.reduceMul, Int.reduceTMod, Int.reduceSub, Int.reduceBNe, Bool.not_true, Bool.not_false, decide_true, decide_false, ne_eq, not_false_eq_true, Int.reduceEq, reduceCtorEq]
  | false =>
    have : r < 0 := q.2 ha
    simp only [↓s50, ↓e, this, ↓SD, SA, Int.ofNat_eq_natCast, Int.cast_ofNat_Int, Int.reduceBEq, Int.reduceAdd, Int.reduceNeg, Int.reduceNegSucc, Int.reduceLT, Int.reduceLE, Int.reduceMul, Int.reduceTMod, Int.reduceSub, Int.reduceBNe, Bool.not_true, Bool.not_false, decide_true, decide_false, ne_eq, not_false_eq_true, Int.reduceEq, reduceCtorEq]
/-! ### names.Plain -/
noncomputable def okD (l : List UInt8) : Bool := (Dec l.length (packB l)).isSome
theorem t49o {l : List UInt8} (hl : l.length ≤ 100000) {h : Hp} (hw : Wf h) : ∃ v h', s49 [S l] h = .ret (.tup (.cons v (.cons (.bool (okD l)) .nil))) h' ∧ one v = true ∧ To No h h' ∧ Wf h' := by
  obtain ⟨v, h', e, s, o, w⟩ := t49 l.length (packB l) hl h hw
  exact ⟨v, h', e, one_sl s, o, w⟩
theorem t51o {l : List UInt8} (hl : l.length ≤ 100000) {h : Hp} (hw : Wf h) : ∃ v h', s51 [S l] h = .ret (.tup (.cons v (.cons (.bool (okD l)) .nil))) h' ∧ one v = true ∧ To No h h' ∧ Wf h' := by
  obtain ⟨v, h', e, s, o, w⟩ := t51 l.length (packB l) hl h hw
  exact ⟨v, h', e, one_sl s, o, w⟩
abbrev bar : List UInt8 := [46, 59, 91, 47]
theorem low_bar : Low bar := by unfold Low bar; decide
theorem low_lg : Low [60, 62] := by unfold Low; decide
noncomputable def plain (l : List UInt8) : Bool := okD l && (!decide (l = []) && !anyOf bar l)
theorem t15 {l : List UInt8} (hl : l.length ≤ 100000) {h : Hp} (hw : Wf h) : ∃ h', s15 [S l] h = .ret (.bool (plain l)) h' ∧ To No h h' ∧ Wf h' := by
  obtain ⟨v, h1, e1, q1, o1, w1⟩ := t49o hl hw
  have k1 : ∀ k : AV → Res, cK v k = k v := fun k => cK_one q1 k
  unfold plain
  cases hd : okD l with
  | false =>
    rw [hd] at e1
    exact ⟨h1, by simp only [↓s15, ↓e1, nth_z, nth_1, ↓k1, ↓SD, SA, Int.ofNat_eq_natCast, Int.cast_ofNat_Int, Int.reduceBEq, Int.reduceAdd, Int.reduceNeg, Int.reduceNegSucc, Int.reduceLT, Int.reduceLE, Int.reduceMul, Int.reduceTMod, Int.reduceSub, Int.reduceBNe, Bool.not_true, Bool.not_false, decide_true, decide_false, ne_eq, not_false_eq_true, Int.reduceEq, reduceCtorEq]; rfl, o1, w1⟩
  | true =>
    rw [hd] at e1
    by_cases hn : l = []
    · have z : decide (l = []) = true := decide_eq_true hn
      exact ⟨h1, by simp only [↓s15, ↓e1, nth_z, nth_1, ↓k1, ↓S_0, ↓eqS_S, z, ↓SD, SA, Int.ofNat_eq_natCast, Int.cast_ofNat_Int, Int.reduceBEq, Int.reduceAdd, Int.reduceNeg, Int.reduceNegSucc, Int.reduceLT, Int.reduceLE, Int.reduceMul, Int.reduceTMod, Int.reduceSub, Int.reduceBNe, Bool.not_true, Bool.not_false, decide_true, decide_false, ne_eq, not_false_eq_true, Int.reduceEq, reduceCtorEq]; rfl, o1, w1⟩
    · have z : decide (l = []) = false := decide_eq_false hn
      obtain ⟨h2, e2, o2, w2⟩ := t50 low_bar (by decide) (by decide) hl w1
      refine ⟨h2, ?_, o1.trans o2, w2⟩
      rw [show S bar = AV.str 4 794508078 from S_cs.symm] at e2
      generalize anyOf bar l = b at *
      cases b <;> (simp only [↓s15, ↓e1, nth_z, nth_1, ↓k1, ↓S_0, ↓eqS_S, z, ↓e2, ↓SD, SA, Int.ofNat_eq_natCast, Int.cast_ofNat_Int, Int.reduceBEq, Int.reduceAdd, Int.reduceNeg, Int.reduceNegSucc, Int.reduceLT, Int.reduceLE, Int.reduceMul, Int.reduceTMod, Int.reduceSub, Int.reduceBNe, Bool.not_true, Bool.not_false, decide_true, decide_false, ne_eq, not_false_eq_true, Int.reduceEq, reduceCtorEq]; rfl)
theorem c8e (c : UInt8) (n : Nat) (hn : n < 256) : (((c.toNat : Int) == (n : Int)) : Bool) = decide (c = UInt8.ofNat n) := by
  rw [Bool.eq_iff_iff]
  simp only [beq_iff_eq, decide_eq_true_eq]
  constructor
  · intro h
    have : c.toNat = n := by omega
    rw [← this]; simp
  · rintro rfl
    rw [u8n _ hn]
theorem loop16 {l : List UInt8} (hl : l.length ≤ 100000) {h : Hp} : ∀ (f m i : Nat), l.length - i ≤ f → f < m → i ≤ l.length →
    lp L16n0 m [S l, .int 63 (i : Int)] h = if anyOf bar (l.drop i) = true then .ret (.bool false) h else .exit 0 [S l] h := by
  intro f
  induction f with
  | zero =>
    intro m i hf hm hi
    obtain ⟨m, rfl⟩ : ∃ k, m = k + 1 := ⟨m - 1, by omega⟩
    have e1 : ¬ (i : Int) < (l.length : Int) := by omega
    rw [List.drop_eq_nil_of_le (by omega), if_neg (by decide)]
    exact lpx m (by simp only [↓L16n0, ↓lenS_S, e1, ↓SD, SA, Int.ofNat_eq_natCast, Int.cast_ofNat_Int, Int.reduceBEq, Int.reduceAdd, Int.reduceNeg, Int.reduceNegSucc, Int.reduceLT, Int.reduceLE, Int.reduceMul, Int.reduceTMod, Int.reduceSub, Int.reduceBNe, Bool.not_true, Bool.not_false, decide_true, decide_false, ne_eq, not_false_eq_true, Int.reduceEq, reduceCtorEq])
  | succ f ih =>
    intro m i hf hm hi
    obtain ⟨m, rfl⟩ : ∃ k, m = k + 1 := ⟨m - 1, by omega⟩
    by_cases hin : i < l.length
    · have e1 : (i : Int) < (l.length : Int) := by omega
      have x1 := fun k => sIdx_S l 63 i hin k
      have f1 := c8e l[i] 46 (by decide)
      have f2 := c8e l[i] 59 (by decide)
      have f3 := c8e l[i] 91 (by decide)
      have f4 := c8e l[i] 47 (by decide)
      rw [List.drop_eq_getElem_cons hin]
      have ea : anyOf bar (l[i] :: l.drop (i + 1)) = (decide (l[i] ∈ bar) || anyOf bar (l.drop (i + 1))) := rfl
      have em : decide (l[i] ∈ bar) = (decide (l[i] = 46) || (decide (l[i] = 59) || (decide (l[i] = 91) || decide (l[i] = 47)))) := by simp [bar, Bool.decide_or]
      rw [ea, em]
      have g1 : ((l[i].toNat : Int) == 46) = decide (l[i] = 46) := f1
      have g2 : ((l[i].toNat : Int) == 59) = decide (l[i] = 59) := f2
      have g3 : ((l[i].toNat : Int) == 91) = decide (l[i] = 91) := f3
      have g4 : ((l[i].toNat : Int) == 47) = decide (l[i] = 47) := f4
      have sn := s1n i (by omega)
      cases d1 : decide (l[i] = 46) <;> cases d2 : decide (l[i] = 59) <;> cases d3 : decide (l[i] = 91) <;> cases d4 : decide (l[i] = 47) <;> rw [d1] at g1 <;> rw [d2] at g2 <;> rw [d3] at g3 <;> rw [d4] at g4 <;>
        first
        | (rw [if_pos (by rfl)]; exact lpr m (by simp only [↓L16n0, ↓lenS_S, e1, ↓x1, g1, g2, g3, g4, ↓SD, SA, Int.ofNat_eq_natCast, Int.cast_ofNat_Int, Int.reduceBEq, Int.reduceAdd, Int.reduceNeg, Int.reduceNegSucc, Int.reduceLT, Int.reduceLE, Int.reduceMul, Int.reduceTMod, Int.reduceSub, Int.reduceBNe, Bool.not_true, Bool.not_false, decide_true, decide_false, ne_eq, not_false_eq_true, Int.reduceEq, reduceCtorEq]))
        | (have e : L16n0 [S l, .int 63 (i : Int)] h = .norm [S l, .int 63 ((i + 1 : Nat) : Int)] h := by simp only [↓L16n0, ↓lenS_S, e1, ↓x1, g1, g2, g3, g4, sn, ↓SD, SA, Int.ofNat_eq_natCast, Int.cast_ofNat_Int, Int.reduceBEq, Int.reduceAdd, Int.reduceNeg, Int.reduceNegSucc, Int.reduceLT, Int.reduceLE, Int.reduceMul, Int.reduceTMod, Int.reduceSub, Int.reduceBNe, Bool.not_true, Bool.not_false, decide_true, decide_false, ne_eq, not_false_eq_true, Int.reduceEq, reduceCtorEq]
           rw [lpn m e]
           exact ih m (i + 1) (by omega) (by omega) (by omega))
    · have e1 : ¬ (i : Int) < (l.length : Int) := by omega
      rw [List.drop_eq_nil_of_le (by omega), if_neg (by decide)]
      exact lpx m (by simp only [↓L16n0, ↓lenS_S, e1, ↓SD, SA, Int.ofNat_eq_natCast, Int.cast_ofNat_Int, Int.reduceBEq, Int.reduceAdd, Int.reduceNeg, Int.reduceNegSucc, Int.reduceLT, Int.reduceLE, Int.reduceMul, Int.reduceTMod, Int.reduceSub, Int.reduceBNe, Bool.not_true, Bool.not_false, decide_true, decide_false, ne_eq, not_false_eq_true, Int.reduceEq, reduceCtorEq])
theorem t16 {l : List UInt8} (hl : l.length ≤ 100000) {h : Hp} (hw : Wf h) : ∃ h', s16 [S l] h = .ret (.bool (plain l)) h' ∧ To No h h' ∧ Wf h' := by
  have lp0 := loop16 hl (h := h) l.length most 0 (by omega) (by unfold most; omega) (by omega)
  rw [List.drop_zero, show ((0 : Nat) : Int) = 0 from rfl] at lp0
  unfold plain
  cases ha : anyOf bar l with
  | true =>
    rw [ha, if_pos rfl] at lp0
    exact ⟨h, by simp only [↓s16, ↓lp0, ↓SD, SA, Int.ofNat_eq_natCast, Int.cast_ofNat_Int, Int.reduceBEq, Int.reduceAdd, Int.reduceNeg, Int.reduceNegSucc, Int.reduceLT, Int.reduceLE, Int.reduceMul, Int.reduceTMod, Int.reduceSub, Int.reduceBNe, Bool.not_true, Bool.not_false, decide_true, decide_false, ne_eq, not_false_eq_true, Int.reduceEq, reduceCtorEq]; simp, To.refl _ _, hw⟩
  | false =>
    rw [ha, if_neg (by decide)] at lp0
    obtain ⟨v, h1, e1, q1, o1, w1⟩ := t51o hl hw
    have k1 : ∀ k : AV → Res, cK v k = k v := fun k => cK_one q1 k
    refine ⟨h1, ?_, o1, w1⟩
    cases hd : okD l with
    | false =>
      rw [hd] at e1
      simp only [↓s16, ↓lp0, ↓blk_x, ↓e1, nth_z, nth_1, ↓k1, ↓SD, SA, Int.ofNat_eq_natCast, Int.cast_ofNat_Int, Int.reduceBEq, Int.reduceAdd, Int.reduceNeg, Int.reduceNegSucc, Int.reduceLT, Int.reduceLE, Int.reduceMul, Int.reduceTMod, Int.reduceSub, Int.reduceBNe, Bool.not_true, Bool.not_false, decide_true, decide_false, ne_eq, not_false_eq_true, Int.reduceEq, reduceCtorEq]; rfl
    | true =>
      rw [hd] at e1
      by_cases hn : l = []
      · have z : decide (l = []) = true := decide_eq_true hn
        simp only [↓s16, ↓lp0, ↓blk_x, ↓e1, nth_z, nth_1, ↓k1, ↓S_0, ↓eqS_S, z, ↓SD, SA, Int.ofNat_eq_natCast, Int.cast_ofNat_Int, Int.reduceBEq, Int.reduceAdd, Int.reduceNeg, Int.reduceNegSucc, Int.reduceLT, Int.reduceLE, Int.reduceMul, Int.reduceTMod, Int.reduceSub, Int.reduceBNe, Bool.not_true, Bool.not_false, decide_true, decide_false, ne_eq, not_false_eq_true, Int.reduceEq, reduceCtorEq]; rfl
      · have z : decide (l = []) = false := decide_eq_false hn
        simp only [↓s16, ↓lp0, ↓blk_x, ↓e1, nth_z, nth_1, ↓k1, ↓S_0, ↓eqS_S, z, ↓SD, SA, Int.ofNat_eq_natCast, Int.cast_ofNat_Int, Int.reduceBEq, Int.reduceAdd, Int.reduceNeg, Int.reduceNegSucc, Int.reduceLT, Int.reduceLE, Int.reduceMul, Int.reduceTMod, Int.reduceSub, Int.reduceBNe, Bool.not_true, Bool.not_false, decide_true, decide_false, ne_eq, not_false_eq_true, Int.reduceEq, reduceCtorEq]; rfl
end Go.Proofs.YtnpfppddongbhaaDoor
end

section
namespace Go.Proofs.YtnpfppddongbhaaDoor
open Go Go.AM
set_option autoImplicit false
set_option linter.unusedSimpArgs false
set_option linter.unusedVariables false
/-! ### strings.Split at a stroke -/
def spl : List UInt8 → List (List UInt8)
  | [] => [[]]
  | c :: l => if c = 47 then [] :: spl l else match spl l with
    | x :: xs => (c :: x) :: xs
    | [] => [[c]]
theorem spl_none (a : List UInt8) (h : (47 : UInt8) ∉ a) : spl a = [a] := by
  induction a with
  | nil => rfl
  | cons c a ih =>
    have h1 : ¬ c = 47 := fun e => h (by simp [e])
    have h2 : (47 : UInt8) ∉ a := fun e => h (by simp [e])
    simp only [spl, if_neg h1, ih h2]
theorem spl_app (a b : List UInt8) (h : (47 : UInt8) ∉ a) : spl (a ++ 47 :: b) = a :: spl b := by
  induction a with
  | nil => simp only [List.nil_append, spl, if_true]
  | cons c a ih =>
    have h1 : ¬ c = 47 := fun e => h (by simp [e])
    have h2 : (47 : UInt8) ∉ a := fun e => h (by simp [e])
    simp only [List.cons_append, spl, if_neg h1, ih h2]
theorem spl_len (l : List UInt8) : (spl l).length = l.count 47 + 1 := by
  induction l with
  | nil => rfl
  | cons c l ih =>
    by_cases h : c = 47
    · subst h; simp [spl, ih]
    · rw [List.count_cons_of_ne (by simpa using h)]
      simp only [spl, if_neg h]
      cases hs : spl l with
      | nil => rw [hs] at ih; simp at ih
      | cons x xs => rw [hs] at ih; simpa using ih
/-- Where the first stroke is. -/
theorem idx_spl (l : List UInt8) (h : (47 : UInt8) ∈ l) : ∃ (a b : List UInt8), l = a ++ 47 :: b ∧ (47 : UInt8) ∉ a ∧ Lib.indexByte l 47 = (a.length : Int) := by
  induction l with
  | nil => cases h
  | cons c l ih =>
    by_cases hc : c = 47
    · subst hc
      exact ⟨[], l, rfl, by simp, by simp [Lib.indexByte]⟩
    · have hm : (47 : UInt8) ∈ l := by
        rcases List.mem_cons.1 h with e | e
        · exact absurd e.symm hc
        · exact e
      obtain ⟨a, b, rfl, h1, h2⟩ := ih hm
      refine ⟨c :: a, b, rfl, ?_, ?_⟩
      · intro hm
        rcases List.mem_cons.1 hm with e | e
        · exact hc e.symm
        · exact h1 e
      · have e1 : (c == 47) = false := by simpa using hc
        have e2 : ((a.length : Int) == -1) = false := beq_eq_false_iff_ne.2 (by omega)
        unfold Lib.indexByte
        rw [e1, h2, e2]
        simp
theorem t115 (l : List UInt8) (h : Hp) : s115 [S l, S [47]] h = .ret (.int 63 (Lib.indexByte l 47)) h := by
  have x1 := fun k => sIdx_S [47] 63 0 (by decide) k
  have x2 : ∀ k : AV → Res, sIdx (S [47]) (.int 63 0) k = k (.int 8 47) := x1
  have x3 : s103 [S l, .int 8 47] h = .ret (.int 63 (Lib.indexByte l 47)) h := t103 l 47 h
  by_cases hl : [47] = l
  · have z : decide (([47] : List UInt8) = l) = true := decide_eq_true hl
    have e0 : Lib.indexByte l 47 = 0 := by rw [← hl]; rfl
    rw [e0]
    simp only [↓s115, ↓lenS_S, List.length_cons, List.length_nil, ↓eqS_S, z, Nat.zero_add, Int.natCast_one, ↓SD, SA, Int.ofNat_eq_natCast, Int.cast_ofNat_Int, Int.reduceBEq, Int.reduceAdd, Int.reduceNeg, Int.reduceNegSucc, Int.reduceLT, Int.reduceLE, Int.reduceMul, Int.reduceTMod, Int.reduceSub, Int.reduceBNe, Bool.not_true, Bool.not_false, decide_true, decide_false, ne_eq, not_false_eq_true, Int.reduceEq, reduceCtorEq]
  · have z : decide (([47] : List UInt8) = l) = false := decide_eq_false hl
    simp only [↓s115, ↓lenS_S, List.length_cons, List.length_nil, ↓eqS_S, z, ↓x2, ↓x3, Nat.zero_add, Int.natCast_one, ↓SD, SA, Int.ofNat_eq_natCast, Int.cast_ofNat_Int, Int.reduceBEq, Int.reduceAdd, Int.reduceNeg, Int.reduceNegSucc, Int.reduceLT, Int.reduceLE, Int.reduceMul, Int.reduceTMod, Int.reduceSub, Int.reduceBNe, Bool.not_true, Bool.not_false, decide_true, decide_false, ne_eq, not_false_eq_true, Int.reduceEq, reduceCtorEq]
theorem t101 (l : List UInt8) (h : Hp) : s101 [S l, S [47]] h = .ret (.int 63 (Lib.indexByte l 47)) h := by
  have := t115 l h
  simp only [↓s101, ↓this, ↓SD, SA, Int.ofNat_eq_natCast, Int.cast_ofNat_Int, Int.reduceBEq, Int.reduceAdd, Int.reduceNeg, Int.reduceNegSucc, Int.reduceLT, Int.reduceLE, Int.reduceMul, Int.reduceTMod, Int.reduceSub, Int.reduceBNe, Bool.not_true, Bool.not_false, decide_true, decide_false, ne_eq, not_false_eq_true, Int.reduceEq, reduceCtorEq]
theorem t100 (l : List UInt8) (h : Hp) : s100 [S l, S [47]] h = .ret (.int 63 (l.count 47 : Int)) h := by
  have x1 := fun k => sIdx_S [47] 63 0 (by decide) k
  have x2 : ∀ k : AV → Res, sIdx (S [47]) (.int 63 0) k = k (.int 8 47) := x1
  have x3 : s114 [S l, .int 8 47] h = .ret (.int 63 (l.count 47 : Int)) h := t114 l 47 h
  simp only [↓s100, ↓lenS_S, List.length_cons, List.length_nil, ↓x2, ↓x3, Nat.zero_add, Int.natCast_one, ↓SD, SA, Int.ofNat_eq_natCast, Int.cast_ofNat_Int, Int.reduceBEq, Int.reduceAdd, Int.reduceNeg, Int.reduceNegSucc, Int.reduceLT, Int.reduceLE, Int.reduceMul, Int.reduceTMod, Int.reduceSub, Int.reduceBNe, Bool.not_true, Bool.not_false, decide_true, decide_false, ne_eq, not_false_eq_true, Int.reduceEq, reduceCtorEq]
noncomputable def Ss (t : List (List UInt8)) : List AV := t.map S
theorem Ss_one (t : List (List UInt8)) : ∀ x ∈ Ss t, one x = true := by
  intro x hx
  obtain ⟨y, -, rfl⟩ := List.mem_map.1 hx
  rfl
theorem Ss_len (t : List (List UInt8)) : (Ss t).length = t.length := by simp [Ss]
/-- A row of texts of its own: n cells, the first of which hold ts. -/
def RowS (h : Hp) (b n : Nat) (ts : List (List UInt8)) : Prop := ∃ B, Own h b B ∧ B.lim = n ∧ ∀ j (hj : j < ts.length), B.at j = S ts[j]
theorem loop75 (b n : Nat) (hn : n ≤ 200000) : ∀ (f m : Nat) (l : List UInt8) (ts : List (List UInt8)) (h : Hp), l.length ≤ 100000 → l.count 47 ≤ f → f < m → Wf h → RowS h b n ts → ts.length + l.count 47 + 1 = n →
    ∃ (h' : Hp) (l' : List UInt8) (ts' : List (List UInt8)), lp L75n0 m [S l, S [47], .int 63 0, .int 63 ((n - 1 : Nat) : Int), .sl b 0 n 1 (some n), .int 63 (ts.length : Int)] h = .exit 0 [S l', .sl b 0 n 1 (some n), .int 63 ((n - 1 : Nat) : Int)] h' ∧ RowS h' b n ts' ∧ ts'.length + 1 = n ∧ ts ++ spl l = ts' ++ [l'] ∧ To (At b) h h' ∧ Wf h' := by
  intro f
  induction f with
  | zero =>
    intro m l ts h hl hf hm hw hr he
    obtain ⟨m, rfl⟩ : ∃ k, m = k + 1 := ⟨m - 1, by omega⟩
    have hts : ts.length = n - 1 := by omega
    have e1 : ¬ ((n - 1 : Nat) : Int) < ((n - 1 : Nat) : Int) := by omega
    refine ⟨h, l, ts, ?_, hr, by omega, ?_, To.refl _ _, hw⟩
    · rw [hts]
      exact lpx m (by simp only [↓L75n0, e1, ↓SD, SA, Int.ofNat_eq_natCast, Int.cast_ofNat_Int, Int.reduceBEq, Int.reduceAdd, Int.reduceNeg, Int.reduceNegSucc, Int.reduceLT, Int.reduceLE, Int.reduceMul, Int.reduceTMod, Int.reduceSub, Int.reduceBNe, Bool.not_true, Bool.not_false, decide_true, decide_false, ne_eq, not_false_eq_true, Int.reduceEq, reduceCtorEq])
    · rw [spl_none l (fun hm => by have := List.count_pos_iff.2 hm; omega)]
  | succ f ih =>
    intro m l ts h hl hf hm hw hr he
    obtain ⟨m, rfl⟩ : ∃ k, m = k + 1 := ⟨m - 1, by omega⟩
    by_cases hin : (47 : UInt8) ∈ l
    · have hc := List.count_pos_iff.2 hin
      have e1 : ((ts.length : Nat) : Int) < ((n - 1 : Nat) : Int) := by omega
      obtain ⟨a, c, rfl, h1, h2⟩ := idx_spl l hin
      have x1 := t101 (a ++ 47 :: c) h
      rw [h2] at x1
      have q1 : ¬ ((a.length : Nat) : Int) < 0 := by omega
      have hal : (a ++ 47 :: c).length = a.length + (c.length + 1) := by simp
      have w1 : wrapC 63 ((a.length : Int) + 0) = ((a.length : Nat) : Int) := by rw [w63_in _ (by omega) (by omega)]; omega
      have w2 : wrapC 63 ((a.length : Int) + 1) = ((a.length + 1 : Nat) : Int) := s1n _ (by omega)
      have x2 : ∀ k : AV → Res, cutT (S (a ++ 47 :: c)) none (some (.int 63 ((a.length : Nat) : Int))) k = k (S a) := fun k => by
        rw [cutR_S _ _ _ (by omega), List.take_left]
      have x3 : ∀ k : AV → Res, cutT (S (a ++ 47 :: c)) (some (.int 63 ((a.length + 1 : Nat) : Int))) none k = k (S c) := fun k => by
        rw [cutL_S _ _ _ (by omega), show a.length + 1 = (a ++ [47]).length by simp, show a ++ 47 :: c = (a ++ [47]) ++ c by simp, List.drop_left]
      have x4 : ∀ k : AV → Res, ixA 1 (.sl b 0 n 1 (some n)) (.int 63 (ts.length : Int)) k = k (.ptr b ts.length) := fun k => by
        have e : ixA 1 (.sl b 0 n 1 (some n)) (.int 63 (ts.length : Int)) k = ifB (Nat.blt ts.length n) (ifB (Nat.beq 1 1) (k (.ptr b (Nat.add 0 (Nat.mul ts.length 1)))) .fail) .fail := rfl
        rw [e, (blt_iff _ _).2 (by omega)]
        have e2 : Nat.add 0 (Nat.mul ts.length 1) = ts.length := by show 0 + ts.length * 1 = ts.length; omega
        show k (.ptr b (Nat.add 0 (Nat.mul ts.length 1))) = _
        rw [e2]
      obtain ⟨B, o, hlim, hat⟩ := hr
      obtain ⟨h3, s1, s2, s3, s4⟩ := st1_own (o := ts.length) (v := S a) o (by omega) rfl
      have hcount : (a ++ 47 :: c).count 47 = c.count 47 + 1 := by
        rw [List.count_append, List.count_cons_self, List.count_eq_zero.2 h1]; omega
      have e : L75n0 [S (a ++ 47 :: c), S [47], .int 63 0, .int 63 ((n - 1 : Nat) : Int), .sl b 0 n 1 (some n), .int 63 (ts.length : Int)] h = .norm [S c, S [47], .int 63 0, .int 63 ((n - 1 : Nat) : Int), .sl b 0 n 1 (some n), .int 63 ((ts.length + 1 : Nat) : Int)] h3 := by
        simp only [↓L75n0, e1, ↓x1, q1, w1, ↓x2, ↓x4, ↓s1, ↓lenS_S, List.length_cons, List.length_nil, Nat.zero_add, Int.natCast_one, w2, ↓x3, s1n ts.length (by omega), ↓SD, SA, Int.ofNat_eq_natCast, Int.cast_ofNat_Int, Int.reduceBEq, Int.reduceAdd, Int.reduceNeg, Int.reduceNegSucc, Int.reduceLT, Int.reduceLE, Int.reduceMul, Int.reduceTMod, Int.reduceSub, Int.reduceBNe, Bool.not_true, Bool.not_false, decide_true, decide_false, ne_eq, not_false_eq_true, Int.reduceEq, reduceCtorEq]
      obtain ⟨h4, l', ts', r1, r2, r3, r4, r5, r6⟩ := ih m c (ts ++ [a]) h3 (by omega) (by omega) (by omega) (s3.wf hw) ⟨_, s2, hlim, fun j hj => by
        rw [setC_at (by omega)]
        by_cases ej : j = ts.length
        · subst ej; rw [if_pos rfl]; simp
        · rw [List.length_append, List.length_singleton] at hj
          rw [if_neg ej, hat j (by omega), List.getElem_append_left (by omega)]⟩ (by rw [List.length_append, List.length_singleton]; omega)
      rw [List.length_append, List.length_singleton] at r1
      refine ⟨h4, l', ts', (lpn m e).trans r1, r2, r3, ?_, s3.trans r5, r6⟩
      rw [spl_app a c h1, ← r4]; simp
    · have hc := List.count_eq_zero.2 hin
      have hts : ts.length = n - 1 := by omega
      have e1 : ¬ ((n - 1 : Nat) : Int) < ((n - 1 : Nat) : Int) := by omega
      refine ⟨h, l, ts, ?_, hr, by omega, ?_, To.refl _ _, hw⟩
      · rw [hts]
        exact lpx m (by simp only [↓L75n0, e1, ↓SD, SA, Int.ofNat_eq_natCast, Int.cast_ofNat_Int, Int.reduceBEq, Int.reduceAdd, Int.reduceNeg, Int.reduceNegSucc, Int.reduceLT, Int.reduceLE, Int.reduceMul, Int.reduceTMod, Int.reduceSub, Int.reduceBNe, Bool.not_true, Bool.not_false, decide_true, decide_false, ne_eq, not_false_eq_true, Int.reduceEq, reduceCtorEq])
      · rw [spl_none l hin]
theorem t52 {l : List UInt8} (hl : l.length ≤ 100000) {h : Hp} (hw : Wf h) : ∃ v h', s52 [S l, S [47]] h = .ret v h' ∧ Sl h' (fun b => b = h.nb) v (Ss (spl l)) ∧ To No h h' ∧ Wf h' := by
  have hcl : l.count 47 ≤ l.length := List.count_le_length
  have z1 : decide (([47] : List UInt8) = []) = false := rfl
  have c1 := t100 l h
  have w1 : wrapC 63 (((l.count 47 : Nat) : Int) + 1) = ((l.count 47 + 1 : Nat) : Int) := s1n _ (by omega)
  have w2 : wrapC 63 (((l.length : Nat) : Int) + 1) = ((l.length + 1 : Nat) : Int) := s1n _ (by omega)
  have mn : ∀ k : AV → Res, iMin (.int 63 ((l.count 47 + 1 : Nat) : Int)) (.int 63 ((l.length + 1 : Nat) : Int)) k = k (.int 63 ((l.count 47 + 1 : Nat) : Int)) := fun k => by
    have e : iMin (.int 63 ((l.count 47 + 1 : Nat) : Int)) (.int 63 ((l.length + 1 : Nat) : Int)) k = k (.int 63 (Bool.rec (motive := fun _ => Int) ((l.count 47 + 1 : Nat) : Int) ((l.length + 1 : Nat) : Int) (ltI ((l.length + 1 : Nat) : Int) ((l.count 47 + 1 : Nat) : Int)))) := rfl
    rw [e, recB, ltI_eq, if_neg (by simp; omega)]
  obtain ⟨h1, B, m1, m2, m3, m4, m5, m6, m7⟩ := mkM_own hw (S []) (l.count 47 + 1) 16 63 63 (by omega) (by omega)
  have m1 : ∀ k : AV → Hp → Res, mkM h (.cons (S []) .nil) 16 (.int 63 ((l.count 47 + 1 : Nat) : Int)) (.int 63 ((l.count 47 + 1 : Nat) : Int)) k = k (.sl h.nb 0 (l.count 47 + 1) 1 (some (l.count 47 + 1))) h1 := m1
  have w3 : wrapC 63 (((l.count 47 + 1 : Nat) : Int) - 1) = ((l.count 47 + 1 - 1 : Nat) : Int) := by rw [w63_in _ (by omega) (by omega)]; omega
  obtain ⟨h2, l', ts', r1, r2, r3, r4, r5, r6⟩ := loop75 h.nb (l.count 47 + 1) (by omega) (l.count 47) most l [] h1 hl (by omega) (by unfold most; omega) m6 ⟨B, m2, m3, fun j hj => (by simp at hj)⟩ (by simp)
  have r1 : lp L75n0 most [S l, S [47], .int 63 0, .int 63 ((l.count 47 + 1 - 1 : Nat) : Int), .sl h.nb 0 (l.count 47 + 1) 1 (some (l.count 47 + 1)), .int 63 0] h1 = .exit 0 [S l', .sl h.nb 0 (l.count 47 + 1) 1 (some (l.count 47 + 1)), .int 63 ((l.count 47 + 1 - 1 : Nat) : Int)] h2 := r1
  obtain ⟨B2, o2, hlim, hat⟩ := r2
  obtain ⟨h3, s1, s2, s3, s4⟩ := st1_own (o := l.count 47 + 1 - 1) (v := S l') o2 (by omega) rfl
  have x4 : ∀ k : AV → Res, ixA 1 (.sl h.nb 0 (l.count 47 + 1) 1 (some (l.count 47 + 1))) (.int 63 ((l.count 47 + 1 - 1 : Nat) : Int)) k = k (.ptr h.nb (l.count 47 + 1 - 1)) := fun k => by
    have e : ixA 1 (.sl h.nb 0 (l.count 47 + 1) 1 (some (l.count 47 + 1))) (.int 63 ((l.count 47 + 1 - 1 : Nat) : Int)) k = ifB (Nat.blt (l.count 47 + 1 - 1) (l.count 47 + 1)) (ifB (Nat.beq 1 1) (k (.ptr h.nb (Nat.add 0 (Nat.mul (l.count 47 + 1 - 1) 1)))) .fail) .fail := rfl
    rw [e, (blt_iff _ _).2 (by omega)]
    have e2 : Nat.add 0 (Nat.mul (l.count 47 + 1 - 1) 1) = l.count 47 + 1 - 1 := by show 0 + (l.count 47 + 1 - 1) * 1 = _; omega
    show k (.ptr h.nb (Nat.add 0 (Nat.mul (l.count 47 + 1 - 1) 1))) = _
    rw [e2]
  have w4 : wrapC 63 (((l.count 47 + 1 - 1 : Nat) : Int) + 1) = ((l.count 47 + 1 : Nat) : Int) := by rw [w63_in _ (by omega) (by omega)]; omega
  have hlen : (Ss (spl l)).length = l.count 47 + 1 := by rw [Ss_len, spl_len]
  have hsl : Sl h3 (fun b => b = h.nb) (.sl h.nb 0 (l.count 47 + 1) 1 (some (l.count 47 + 1))) (Ss (spl l)) := by
    refine ⟨Ss_one _, .inr (.inr ⟨h.nb, 0, _, _, by rw [hlen], rfl, s2.rd, fun _ => s2.g, (fun c e => by cases e; rw [hlen]; exact Nat.le_refl _), fun i hi => ?_⟩)⟩
    rw [hlen] at hi
    rw [Nat.zero_add, setC_at (by omega)]
    have hsp : spl l = ts' ++ [l'] := by simpa using r4
    have hg : (Ss (spl l))[i]'(by rw [hlen]; exact hi) = S ((ts' ++ [l'])[i]'(by simp; omega)) := by
      have : (Ss (spl l))[i]'(by rw [hlen]; exact hi) = S ((spl l)[i]'(by rw [spl_len]; exact hi)) := by simp only [Ss, List.getElem_map]
      rw [this]
      simp only [hsp]
    rw [hg]
    by_cases ei : i = l.count 47 + 1 - 1
    · have : i = ts'.length := by omega
      subst this
      rw [if_pos ei]; simp
    · rw [if_neg ei, hat i (by omega), List.getElem_append_left (by omega)]
  obtain ⟨v', g1, g2⟩ := cut_sl hsl (c1 := 63) (c2 := 63) 0 (l.count 47 + 1) (Nat.zero_le _) (by rw [hlen]; exact Nat.le_refl _)
  have g1' : ∀ k : AV → Res, cutS 1 (.sl h.nb 0 (l.count 47 + 1) 1 (some (l.count 47 + 1))) none (some (.int 63 ((l.count 47 + 1 : Nat) : Int))) none k = k v' := fun k => (show _ = _ from rfl).trans (g1 k)
  rw [List.drop_zero, Nat.sub_zero, List.take_of_length_le (by rw [hlen]; exact Nat.le_refl _)] at g2
  have k1 := fun k => cK_sl g2 k
  refine ⟨v', h3, ?_, g2, m5.fresh (r5.trans s3) (fun x e => by have : x = h.nb := e; omega), s3.wf r6⟩
  have e75 : s75 [S l, S [47], .int 63 0, .int 63 (-1)] h = .ret v' h3 := by
    simp only [↓s75, ↓S_0, ↓eqS_S, z1, ↓c1, w1, ↓lenS_S, w2, ↓mn, ↓m1, w3, ↓r1, ↓blk_x, ↓x4, ↓s1, w4, ↓g1', ↓k1, ↓SD, SA, Int.ofNat_eq_natCast, Int.cast_ofNat_Int, Int.reduceBEq, Int.reduceAdd, Int.reduceNeg, Int.reduceNegSucc, Int.reduceLT, Int.reduceLE, Int.reduceMul, Int.reduceTMod, Int.reduceSub, Int.reduceBNe, Bool.not_true, Bool.not_false, decide_true, decide_false, ne_eq, not_false_eq_true, Int.reduceEq, reduceCtorEq]
  simp only [↓s52, ↓e75, ↓k1, ↓SD, SA, Int.ofNat_eq_natCast, Int.cast_ofNat_Int, Int.reduceBEq, Int.reduceAdd, Int.reduceNeg, Int.reduceNegSucc, Int.reduceLT, Int.reduceLE, Int.reduceMul, Int.reduceTMod, Int.reduceSub, Int.reduceBNe, Bool.not_true, Bool.not_false, decide_true, decide_false, ne_eq, not_false_eq_true, Int.reduceEq, reduceCtorEq]
end Go.Proofs.YtnpfppddongbhaaDoor
end

section
namespace Go.Proofs.YtnpfppddongbhaaDoor
open Go Go.AM
set_option autoImplicit false
set_option linter.unusedSimpArgs false
set_option linter.unusedVariables false
/-! ### names.Class -/
noncomputable def cls (l : List UInt8) : Bool := (spl l).all plain && decide (l.length ≤ 255)
theorem spl_le (l : List UInt8) : ∀ t ∈ spl l, t.length ≤ l.length := by
  induction l with
  | nil => intro t ht; simp [spl] at ht; simp [ht]
  | cons c l ih =>
    intro t ht
    by_cases hc : c = 47
    · rw [spl, if_pos hc] at ht
      rcases List.mem_cons.1 ht with rfl | ht
      · simp
      · have := ih t ht; simp; omega
    · rw [spl, if_neg hc] at ht
      cases hs : spl l with
      | nil => rw [hs] at ht; simp at ht; simp [ht]
      | cons x xs =>
        rw [hs] at ht ih
        rcases List.mem_cons.1 ht with rfl | ht
        · have := ih x (by simp); simp; omega
        · have := ih t (by simp [ht]); simp; omega
theorem loop17 {P : Nat → Prop} {v : AV} {l : List UInt8} {ts : List (List UInt8)} (hl : ∀ t ∈ ts, t.length ≤ 100000) (htl : ts.length ≤ 200000) : ∀ (f m i : Nat) (h : Hp), ts.length - i ≤ f → f < m → i ≤ ts.length → Wf h → Sl h P v (Ss ts) →
    ∃ h', lp L17n0 m [S l, v, .int 63 (ts.length : Int), .int 63 (i : Int)] h = (if (ts.drop i).all plain = true then .exit 0 [S l] h' else .ret (.bool false) h') ∧ To No h h' ∧ Wf h' := by
  have stop : ∀ (m i : Nat) (h : Hp), ¬ i < ts.length → Wf h → ∃ h', lp L17n0 (m + 1) [S l, v, .int 63 (ts.length : Int), .int 63 (i : Int)] h = (if (ts.drop i).all plain = true then .exit 0 [S l] h' else .ret (.bool false) h') ∧ To No h h' ∧ Wf h' := by
    intro m i h hi hw
    have e1 : ¬ (i : Int) < (ts.length : Int) := by omega
    rw [List.drop_eq_nil_of_le (by omega)]
    exact ⟨h, lpx m (by simp only [↓L17n0, e1, ↓SD, SA, Int.ofNat_eq_natCast, Int.cast_ofNat_Int, Int.reduceBEq, Int.reduceAdd, Int.reduceNeg, Int.reduceNegSucc, Int.reduceLT, Int.reduceLE, Int.reduceMul, Int.reduceTMod, Int.reduceSub, Int.reduceBNe, Bool.not_true, Bool.not_false, decide_true, decide_false, ne_eq, not_false_eq_true, Int.reduceEq, reduceCtorEq]), To.refl _ _, hw⟩
  intro f
  induction f with
  | zero =>
    intro m i h hf hm hi hw hs
    obtain ⟨m, rfl⟩ : ∃ k, m = k + 1 := ⟨m - 1, by omega⟩
    exact stop m i h (by omega) hw
  | succ f ih =>
    intro m i h hf hm hi hw hs
    obtain ⟨m, rfl⟩ : ∃ k, m = k + 1 := ⟨m - 1, by omega⟩
    by_cases hin : i < ts.length
    · have e1 : (i : Int) < (ts.length : Int) := by omega
      have iv := fun k => ix_sl hs (c := 63) i (by rw [Ss_len]; exact hin) k
      have g : (Ss ts)[i]'(by rw [Ss_len]; exact hin) = S ts[i] := by simp only [Ss, List.getElem_map]
      rw [g] at iv
      obtain ⟨h1, p1, o1, w1⟩ := t15 (hl _ (List.getElem_mem hin)) hw
      rw [List.drop_eq_getElem_cons hin, List.all_cons]
      cases hp : plain ts[i] with
      | false =>
        rw [hp] at p1
        refine ⟨h1, ?_, o1, w1⟩
        rw [Bool.false_and, if_neg (by decide)]
        exact lpr m (by simp only [↓L17n0, e1, ↓iv, ↓p1, ↓SD, SA, Int.ofNat_eq_natCast, Int.cast_ofNat_Int, Int.reduceBEq, Int.reduceAdd, Int.reduceNeg, Int.reduceNegSucc, Int.reduceLT, Int.reduceLE, Int.reduceMul, Int.reduceTMod, Int.reduceSub, Int.reduceBNe, Bool.not_true, Bool.not_false, decide_true, decide_false, ne_eq, not_false_eq_true, Int.reduceEq, reduceCtorEq])
      | true =>
        rw [hp] at p1
        have e : L17n0 [S l, v, .int 63 (ts.length : Int), .int 63 (i : Int)] h = .norm [S l, v, .int 63 (ts.length : Int), .int 63 ((i + 1 : Nat) : Int)] h1 := by
          simp only [↓L17n0, e1, ↓iv, ↓p1, s1n i (by omega), ↓SD, SA, Int.ofNat_eq_natCast, Int.cast_ofNat_Int, Int.reduceBEq, Int.reduceAdd, Int.reduceNeg, Int.reduceNegSucc, Int.reduceLT, Int.reduceLE, Int.reduceMul, Int.reduceTMod, Int.reduceSub, Int.reduceBNe, Bool.not_true, Bool.not_false, decide_true, decide_false, ne_eq, not_false_eq_true, Int.reduceEq, reduceCtorEq]
        obtain ⟨h2, e2, o2, w2⟩ := ih m (i + 1) h1 (by omega) (by omega) (by omega) w1 (hs.to o1 (fun _ _ f => f))
        rw [Bool.true_and]
        exact ⟨h2, (lpn m e).trans e2, o1.trans o2, w2⟩
    · exact stop m i h hin hw
theorem t17 {l : List UInt8} (hl : l.length ≤ 100000) {h : Hp} (hw : Wf h) : ∃ h', s17 [S l] h = .ret (.bool (cls l)) h' ∧ To No h h' ∧ Wf h' := by
  obtain ⟨v, h1, e1, s1, o1, w1⟩ := t52 hl hw
  have hlen : (spl l).length ≤ 200000 := by rw [spl_len]; have : l.count 47 ≤ l.length := List.count_le_length; omega
  obtain ⟨h2, e2, o2, w2⟩ := loop17 (l := l) (fun t ht => Nat.le_trans (spl_le l t ht) hl) hlen (spl l).length most 0 h1 (by omega) (by unfold most; omega) (by omega) w1 s1
  have ln := fun k => lenL_sl s1 k
  rw [Ss_len] at ln
  rw [List.drop_zero, show ((0 : Nat) : Int) = 0 from rfl] at e2
  refine ⟨h2, ?_, o1.trans o2, w2⟩
  unfold cls
  cases ha : (spl l).all plain with
  | false =>
    rw [ha, if_neg (by decide)] at e2
    simp only [↓s17, ↓S_47, ↓e1, ↓ln, ↓e2, ↓SD, SA, Int.ofNat_eq_natCast, Int.cast_ofNat_Int, Int.reduceBEq, Int.reduceAdd, Int.reduceNeg, Int.reduceNegSucc, Int.reduceLT, Int.reduceLE, Int.reduceMul, Int.reduceTMod, Int.reduceSub, Int.reduceBNe, Bool.not_true, Bool.not_false, decide_true, decide_false, ne_eq, not_false_eq_true, Int.reduceEq, reduceCtorEq]
    rfl
  | true =>
    rw [ha, if_pos rfl] at e2
    by_cases h255 : l.length ≤ 255
    · have c : ¬ (255 : Int) < (l.length : Int) := by omega
      simp only [↓s17, ↓S_47, ↓e1, ↓ln, ↓e2, ↓blk_x, ↓lenS_S, c, h255, ↓SD, SA, Int.ofNat_eq_natCast, Int.cast_ofNat_Int, Int.reduceBEq, Int.reduceAdd, Int.reduceNeg, Int.reduceNegSucc, Int.reduceLT, Int.reduceLE, Int.reduceMul, Int.reduceTMod, Int.reduceSub, Int.reduceBNe, Bool.not_true, Bool.not_false, decide_true, decide_false, ne_eq, not_false_eq_true, Int.reduceEq, reduceCtorEq]
      rfl
    · have c : (255 : Int) < (l.length : Int) := by omega
      simp only [↓s17, ↓S_47, ↓e1, ↓ln, ↓e2, ↓blk_x, ↓lenS_S, c, h255, ↓SD, SA, Int.ofNat_eq_natCast, Int.cast_ofNat_Int, Int.reduceBEq, Int.reduceAdd, Int.reduceNeg, Int.reduceNegSucc, Int.reduceLT, Int.reduceLE, Int.reduceMul, Int.reduceTMod, Int.reduceSub, Int.reduceBNe, Bool.not_true, Bool.not_false, decide_true, decide_false, ne_eq, not_false_eq_true, Int.reduceEq, reduceCtorEq]
      rfl
theorem c47 (c : UInt8) : (((c.toNat : Int) == 47) : Bool) = decide (c = 47) := c8e c 47 (by decide)
/-- The reference's loop. -/
theorem loop18 {l : List UInt8} (hl : l.length ≤ 100000) : ∀ (f m fr i : Nat) (h : Hp), l.length + 1 - i ≤ f → f < m → fr ≤ i → i ≤ l.length → Wf h → (47 : UInt8) ∉ (l.drop fr).take (i - fr) →
    ∃ h', lp L18n0 m [S l, .int 63 (fr : Int), .int 63 (i : Int)] h = (if (spl (l.drop fr)).all plain = true then .exit 0 [] h' else .ret (.bool false) h') ∧ To No h h' ∧ Wf h' := by
  intro f
  induction f with
  | zero => intro m fr i h hf hm hfr hi; omega
  | succ f ih =>
    intro m fr i h hf hm hfr hi hw hno
    obtain ⟨m, rfl⟩ : ∃ k, m = k + 1 := ⟨m - 1, by omega⟩
    have e1 : ¬ (l.length : Int) < (i : Int) := by omega
    have x1 := fun k => cut_S l 63 63 fr i hfr hi k
    have hdl : (l.drop fr).length = l.length - fr := by simp
    have s1 : wrapC 63 ((i : Int) + 1) = ((i + 1 : Nat) : Int) := s1n _ (by omega)
    by_cases hend : i = l.length
    · subst hend
      have e2 : (((l.length : Nat) : Int) == ((l.length : Nat) : Int)) = true := by simp
      have ht : (l.drop fr).take (l.length - fr) = l.drop fr := List.take_of_length_le (by rw [hdl]; exact Nat.le_refl _)
      rw [ht] at x1 hno
      obtain ⟨h1, p1, o1, w1⟩ := t16 (l := l.drop fr) (by rw [hdl]; omega) hw
      rw [spl_none _ hno]
      have ea : ([l.drop fr].all plain) = plain (l.drop fr) := by simp
      rw [ea]
      cases hp : plain (l.drop fr) with
      | false =>
        rw [hp] at p1
        refine ⟨h1, ?_, o1, w1⟩
        rw [if_neg (by decide)]
        exact lpr m (by simp only [↓L18n0, ↓lenS_S, e1, e2, ↓x1, ↓p1, ↓SD, SA, Int.ofNat_eq_natCast, Int.cast_ofNat_Int, Int.reduceBEq, Int.reduceAdd, Int.reduceNeg, Int.reduceNegSucc, Int.reduceLT, Int.reduceLE, Int.reduceMul, Int.reduceTMod, Int.reduceSub, Int.reduceBNe, Bool.not_true, Bool.not_false, decide_true, decide_false, ne_eq, not_false_eq_true, Int.reduceEq, reduceCtorEq])
      | true =>
        rw [hp] at p1
        refine ⟨h1, ?_, o1, w1⟩
        rw [if_pos rfl]
        have e : L18n0 [S l, .int 63 (fr : Int), .int 63 (l.length : Int)] h = .norm [S l, .int 63 ((l.length + 1 : Nat) : Int), .int 63 ((l.length + 1 : Nat) : Int)] h1 := by
          simp only [↓L18n0, ↓lenS_S, e1, e2, ↓x1, ↓p1, s1, ↓SD, SA, Int.ofNat_eq_natCast, Int.cast_ofNat_Int, Int.reduceBEq, Int.reduceAdd, Int.reduceNeg, Int.reduceNegSucc, Int.reduceLT, Int.reduceLE, Int.reduceMul, Int.reduceTMod, Int.reduceSub, Int.reduceBNe, Bool.not_true, Bool.not_false, decide_true, decide_false, ne_eq, not_false_eq_true, Int.reduceEq, reduceCtorEq]
        obtain ⟨m, rfl⟩ : ∃ k, m = k + 1 := ⟨m - 1, by omega⟩
        rw [lpn (m + 1) e]
        have e3 : (l.length : Int) < ((l.length + 1 : Nat) : Int) := by omega
        exact lpx m (by simp only [↓L18n0, ↓lenS_S, e3, ↓SD, SA, Int.ofNat_eq_natCast, Int.cast_ofNat_Int, Int.reduceBEq, Int.reduceAdd, Int.reduceNeg, Int.reduceNegSucc, Int.reduceLT, Int.reduceLE, Int.reduceMul, Int.reduceTMod, Int.reduceSub, Int.reduceBNe, Bool.not_true, Bool.not_false, decide_true, decide_false, ne_eq, not_false_eq_true, Int.reduceEq, reduceCtorEq])
    · have hin : i < l.length := by omega
      have e2 : (((i : Nat) : Int) == ((l.length : Nat) : Int)) = false := beq_eq_false_iff_ne.2 (by omega)
      have x2 := fun k => sIdx_S l 63 i hin k
      have hsplit : l.drop fr = (l.drop fr).take (i - fr) ++ l[i] :: l.drop (i + 1) := by
        have h1 := (List.take_append_drop (i - fr) (l.drop fr)).symm
        rw [List.drop_drop, show fr + (i - fr) = i by omega, List.drop_eq_getElem_cons hin] at h1
        exact h1
      by_cases hc : l[i] = 47
      · have e3 := c47 l[i]
        rw [decide_eq_true hc] at e3
        obtain ⟨h1, p1, o1, w1⟩ := t16 (l := (l.drop fr).take (i - fr)) (by simp; omega) hw
        rw [hc] at hsplit
        have esp : spl (l.drop fr) = (l.drop fr).take (i - fr) :: spl (l.drop (i + 1)) := by
          conv => lhs; rw [hsplit]
          exact spl_app _ _ hno
        rw [esp, List.all_cons]
        cases hp : plain ((l.drop fr).take (i - fr)) with
        | false =>
          rw [hp] at p1
          refine ⟨h1, ?_, o1, w1⟩
          rw [Bool.false_and, if_neg (by decide)]
          exact lpr m (by simp only [↓L18n0, ↓lenS_S, e1, e2, ↓x2, e3, ↓x1, ↓p1, ↓SD, SA, Int.ofNat_eq_natCast, Int.cast_ofNat_Int, Int.reduceBEq, Int.reduceAdd, Int.reduceNeg, Int.reduceNegSucc, Int.reduceLT, Int.reduceLE, Int.reduceMul, Int.reduceTMod, Int.reduceSub, Int.reduceBNe, Bool.not_true, Bool.not_false, decide_true, decide_false, ne_eq, not_false_eq_true, Int.reduceEq, reduceCtorEq])
        | true =>
          rw [hp] at p1
          have e : L18n0 [S l, .int 63 (fr : Int), .int 63 (i : Int)] h = .norm [S l, .int 63 ((i + 1 : Nat) : Int), .int 63 ((i + 1 : Nat) : Int)] h1 := by
            simp only [↓L18n0, ↓lenS_S, e1, e2, ↓x2, e3, ↓x1, ↓p1, s1, ↓SD, SA, Int.ofNat_eq_natCast, Int.cast_ofNat_Int, Int.reduceBEq, Int.reduceAdd, Int.reduceNeg, Int.reduceNegSucc, Int.reduceLT, Int.reduceLE, Int.reduceMul, Int.reduceTMod, Int.reduceSub, Int.reduceBNe, Bool.not_true, Bool.not_false, decide_true, decide_false, ne_eq, not_false_eq_true, Int.reduceEq, reduceCtorEq]
          obtain ⟨h2, r1, r2, r3⟩ := ih m (i + 1) (i + 1) h1 (by omega) (by omega) (Nat.le_refl _) (by omega) w1 (by simp)
          rw [Bool.true_and]
          exact ⟨h2, (lpn m e).trans r1, o1.trans r2, r3⟩
      · have e3 := c47 l[i]
        rw [decide_eq_false hc] at e3
        have e : L18n0 [S l, .int 63 (fr : Int), .int 63 (i : Int)] h = .norm [S l, .int 63 (fr : Int), .int 63 ((i + 1 : Nat) : Int)] h := by
          simp only [↓L18n0, ↓lenS_S, e1, e2, ↓x2, e3, s1, ↓SD, SA, Int.ofNat_eq_natCast, Int.cast_ofNat_Int, Int.reduceBEq, Int.reduceAdd, Int.reduceNeg, Int.reduceNegSucc, Int.reduceLT, Int.reduceLE, Int.reduceMul, Int.reduceTMod, Int.reduceSub, Int.reduceBNe, Bool.not_true, Bool.not_false, decide_true, decide_false, ne_eq, not_false_eq_true, Int.reduceEq, reduceCtorEq]
        rw [lpn m e]
        refine ih m fr (i + 1) h (by omega) (by omega) (by omega) (by omega) hw ?_
        rw [show i + 1 - fr = (i - fr) + 1 by omega, List.take_add_one]
        intro hm
        rcases List.mem_append.1 hm with hm | hm
        · exact hno hm
        · rw [List.getElem?_drop, show fr + (i - fr) = i by omega, List.getElem?_eq_getElem hin] at hm
          simp at hm
          exact hc hm.symm
theorem t18 {l : List UInt8} (hl : l.length ≤ 100000) {h : Hp} (hw : Wf h) : ∃ h', s18 [S l] h = .ret (.bool (cls l)) h' ∧ To No h h' ∧ Wf h' := by
  unfold cls
  by_cases h255 : l.length ≤ 255
  · have c : ¬ (255 : Int) < (l.length : Int) := by omega
    obtain ⟨h1, r1, r2, r3⟩ := loop18 hl (l.length + 1) most 0 0 h (by omega) (by unfold most; omega) (Nat.le_refl _) (Nat.zero_le _) hw (by simp)
    rw [List.drop_zero, show ((0 : Nat) : Int) = 0 from rfl] at r1
    refine ⟨h1, ?_, r2, r3⟩
    rw [decide_eq_true h255, Bool.and_true]
    cases ha : (spl l).all plain with
    | false =>
      rw [ha, if_neg (by decide)] at r1
      simp only [↓s18, ↓lenS_S, c, ↓r1, ↓SD, SA, Int.ofNat_eq_natCast, Int.cast_ofNat_Int, Int.reduceBEq, Int.reduceAdd, Int.reduceNeg, Int.reduceNegSucc, Int.reduceLT, Int.reduceLE, Int.reduceMul, Int.reduceTMod, Int.reduceSub, Int.reduceBNe, Bool.not_true, Bool.not_false, decide_true, decide_false, ne_eq, not_false_eq_true, Int.reduceEq, reduceCtorEq]
    | true =>
      rw [ha, if_pos rfl] at r1
      simp only [↓s18, ↓lenS_S, c, ↓r1, ↓blk_x, ↓SD, SA, Int.ofNat_eq_natCast, Int.cast_ofNat_Int, Int.reduceBEq, Int.reduceAdd, Int.reduceNeg, Int.reduceNegSucc, Int.reduceLT, Int.reduceLE, Int.reduceMul, Int.reduceTMod, Int.reduceSub, Int.reduceBNe, Bool.not_true, Bool.not_false, decide_true, decide_false, ne_eq, not_false_eq_true, Int.reduceEq, reduceCtorEq]
  · have c : (255 : Int) < (l.length : Int) := by omega
    rw [decide_eq_false h255, Bool.and_false]
    exact ⟨h, by simp only [↓s18, ↓lenS_S, c, ↓SD, SA, Int.ofNat_eq_natCast, Int.cast_ofNat_Int, Int.reduceBEq, Int.reduceAdd, Int.reduceNeg, Int.reduceNegSucc, Int.reduceLT, Int.reduceLE, Int.reduceMul, Int.reduceTMod, Int.reduceSub, Int.reduceBNe, Bool.not_true, Bool.not_false, decide_true, decide_false, ne_eq, not_false_eq_true, Int.reduceEq, reduceCtorEq], To.refl _ _, hw⟩
end Go.Proofs.YtnpfppddongbhaaDoor
end

section
namespace Go.Proofs.YtnpfppddongbhaaDoor
open Go Go.AM
set_option autoImplicit false
set_option linter.unusedSimpArgs false
set_option linter.unusedVariables false
/-! ### names.Method -/
abbrev tInit : List UInt8 := [60, 105, 110, 105, 116, 62]
abbrev tClin : List UInt8 := [60, 99, 108, 105, 110, 105, 116, 62]
noncomputable def meth (l : List UInt8) : Bool := decide (l = tInit) || (decide (l = tClin) || (plain l && !anyOf [60, 62] l))
theorem t19 {l : List UInt8} (hl : l.length ≤ 100000) {h : Hp} (hw : Wf h) : ∃ h', s19 [S l] h = .ret (.bool (meth l)) h' ∧ To No h h' ∧ Wf h' := by
  unfold meth
  cases d1 : decide (l = tInit) with
  | true => exact ⟨h, by simp only [↓s19, ↓S_init, ↓eqS_S, d1, ↓SD, SA, Int.ofNat_eq_natCast, Int.cast_ofNat_Int, Int.reduceBEq, Int.reduceAdd, Int.reduceNeg, Int.reduceNegSucc, Int.reduceLT, Int.reduceLE, Int.reduceMul, Int.reduceTMod, Int.reduceSub, Int.reduceBNe, Bool.not_true, Bool.not_false, decide_true, decide_false, ne_eq, not_false_eq_true, Int.reduceEq, reduceCtorEq]; rfl, To.refl _ _, hw⟩
  | false =>
    cases d2 : decide (l = tClin) with
    | true => exact ⟨h, by simp only [↓s19, ↓S_init, ↓S_clin, ↓eqS_S, d1, d2, ↓SD, SA, Int.ofNat_eq_natCast, Int.cast_ofNat_Int, Int.reduceBEq, Int.reduceAdd, Int.reduceNeg, Int.reduceNegSucc, Int.reduceLT, Int.reduceLE, Int.reduceMul, Int.reduceTMod, Int.reduceSub, Int.reduceBNe, Bool.not_true, Bool.not_false, decide_true, decide_false, ne_eq, not_false_eq_true, Int.reduceEq, reduceCtorEq]; rfl, To.refl _ _, hw⟩
    | false =>
      obtain ⟨h1, e1, o1, w1⟩ := t15 hl hw
      cases hp : plain l with
      | false =>
        rw [hp] at e1
        exact ⟨h1, by simp only [↓s19, ↓S_init, ↓S_clin, ↓eqS_S, d1, d2, ↓e1, ↓SD, SA, Int.ofNat_eq_natCast, Int.cast_ofNat_Int, Int.reduceBEq, Int.reduceAdd, Int.reduceNeg, Int.reduceNegSucc, Int.reduceLT, Int.reduceLE, Int.reduceMul, Int.reduceTMod, Int.reduceSub, Int.reduceBNe, Bool.not_true, Bool.not_false, decide_true, decide_false, ne_eq, not_false_eq_true, Int.reduceEq, reduceCtorEq]; rfl, o1, w1⟩
      | true =>
        rw [hp] at e1
        obtain ⟨h2, e2, o2, w2⟩ := t50 (cs := [60, 62]) low_lg (by decide) (by decide) hl w1
        refine ⟨h2, ?_, o1.trans o2, w2⟩
        generalize anyOf [60, 62] l = b at *
        cases b <;> (simp only [↓s19, ↓S_init, ↓S_clin, ↓S_lg, ↓eqS_S, d1, d2, ↓e1, ↓e2, ↓SD, SA, Int.ofNat_eq_natCast, Int.cast_ofNat_Int, Int.reduceBEq, Int.reduceAdd, Int.reduceNeg, Int.reduceNegSucc, Int.reduceLT, Int.reduceLE, Int.reduceMul, Int.reduceTMod, Int.reduceSub, Int.reduceBNe, Bool.not_true, Bool.not_false, decide_true, decide_false, ne_eq, not_false_eq_true, Int.reduceEq, reduceCtorEq]; rfl)
theorem loop20 {l : List UInt8} (hl : l.length ≤ 100000) {h : Hp} : ∀ (f m i : Nat), l.length - i ≤ f → f < m → i ≤ l.length →
    lp L20n0 m [S l, .int 63 (i : Int)] h = if anyOf [60, 62] (l.drop i) = true then .ret (.bool false) h else .exit 0 [S l] h := by
  have stop : ∀ (m i : Nat), ¬ i < l.length → lp L20n0 (m + 1) [S l, .int 63 (i : Int)] h = if anyOf [60, 62] (l.drop i) = true then .ret (.bool false) h else .exit 0 [S l] h := by
    intro m i hi
    have e1 : ¬ (i : Int) < (l.length : Int) := by omega
    rw [List.drop_eq_nil_of_le (by omega), if_neg (by decide)]
    exact lpx m (by simp only [↓L20n0, ↓lenS_S, e1, ↓SD, SA, Int.ofNat_eq_natCast, Int.cast_ofNat_Int, Int.reduceBEq, Int.reduceAdd, Int.reduceNeg, Int.reduceNegSucc, Int.reduceLT, Int.reduceLE, Int.reduceMul, Int.reduceTMod, Int.reduceSub, Int.reduceBNe, Bool.not_true, Bool.not_false, decide_true, decide_false, ne_eq, not_false_eq_true, Int.reduceEq, reduceCtorEq])
  intro f
  induction f with
  | zero =>
    intro m i hf hm hi
    obtain ⟨m, rfl⟩ : ∃ k, m = k + 1 := ⟨m - 1, by omega⟩
    exact stop m i (by omega)
  | succ f ih =>
    intro m i hf hm hi
    obtain ⟨m, rfl⟩ : ∃ k, m = k + 1 := ⟨m - 1, by omega⟩
    by_cases hin : i < l.length
    · have e1 : (i : Int) < (l.length : Int) := by omega
      have x1 := fun k => sIdx_S l 63 i hin k
      rw [List.drop_eq_getElem_cons hin]
      have ea : anyOf [60, 62] (l[i] :: l.drop (i + 1)) = (decide (l[i] ∈ [60, 62]) || anyOf [60, 62] (l.drop (i + 1))) := rfl
      have em : decide (l[i] ∈ ([60, 62] : List UInt8)) = (decide (l[i] = 60) || decide (l[i] = 62)) := by simp [Bool.decide_or]
      rw [ea, em]
      have g1 : ((l[i].toNat : Int) == 60) = decide (l[i] = 60) := c8e l[i] 60 (by decide)
      have g2 : ((l[i].toNat : Int) == 62) = decide (l[i] = 62) := c8e l[i] 62 (by decide)
      have sn := s1n i (by omega)
      cases d1 : decide (l[i] = 60) <;> cases d2 : decide (l[i] = 62) <;> rw [d1] at g1 <;> rw [d2] at g2 <;>
        first
        | (rw [if_pos (by rfl)]; exact lpr m (by simp only [↓L20n0, ↓lenS_S, e1, ↓x1, g1, g2, ↓SD, SA, Int.ofNat_eq_natCast, Int.cast_ofNat_Int, Int.reduceBEq, Int.reduceAdd, Int.reduceNeg, Int.reduceNegSucc, Int.reduceLT, Int.reduceLE, Int.reduceMul, Int.reduceTMod, Int.reduceSub, Int.reduceBNe, Bool.not_true, Bool.not_false, decide_true, decide_false, ne_eq, not_false_eq_true, Int.reduceEq, reduceCtorEq]))
        | (have e : L20n0 [S l, .int 63 (i : Int)] h = .norm [S l, .int 63 ((i + 1 : Nat) : Int)] h := by simp only [↓L20n0, ↓lenS_S, e1, ↓x1, g1, g2, sn, ↓SD, SA, Int.ofNat_eq_natCast, Int.cast_ofNat_Int, Int.reduceBEq, Int.reduceAdd, Int.reduceNeg, Int.reduceNegSucc, Int.reduceLT, Int.reduceLE, Int.reduceMul, Int.reduceTMod, Int.reduceSub, Int.reduceBNe, Bool.not_true, Bool.not_false, decide_true, decide_false, ne_eq, not_false_eq_true, Int.reduceEq, reduceCtorEq]
           rw [lpn m e]
           exact ih m (i + 1) (by omega) (by omega) (by omega))
    · exact stop m i hin
theorem t20 {l : List UInt8} (hl : l.length ≤ 100000) {h : Hp} (hw : Wf h) : ∃ h', s20 [S l] h = .ret (.bool (meth l)) h' ∧ To No h h' ∧ Wf h' := by
  unfold meth
  cases d1 : decide (l = tInit) with
  | true => exact ⟨h, by simp only [↓s20, ↓S_init, ↓eqS_S, d1, ↓SD, SA, Int.ofNat_eq_natCast, Int.cast_ofNat_Int, Int.reduceBEq, Int.reduceAdd, Int.reduceNeg, Int.reduceNegSucc, Int.reduceLT, Int.reduceLE, Int.reduceMul, Int.reduceTMod, Int.reduceSub, Int.reduceBNe, Bool.not_true, Bool.not_false, decide_true, decide_false, ne_eq, not_false_eq_true, Int.reduceEq, reduceCtorEq]; rfl, To.refl _ _, hw⟩
  | false =>
    cases d2 : decide (l = tClin) with
    | true => exact ⟨h, by simp only [↓s20, ↓S_init, ↓S_clin, ↓eqS_S, d1, d2, ↓SD, SA, Int.ofNat_eq_natCast, Int.cast_ofNat_Int, Int.reduceBEq, Int.reduceAdd, Int.reduceNeg, Int.reduceNegSucc, Int.reduceLT, Int.reduceLE, Int.reduceMul, Int.reduceTMod, Int.reduceSub, Int.reduceBNe, Bool.not_true, Bool.not_false, decide_true, decide_false, ne_eq, not_false_eq_true, Int.reduceEq, reduceCtorEq]; rfl, To.refl _ _, hw⟩
    | false =>
      have lp0 := loop20 hl (h := h) l.length most 0 (by omega) (by unfold most; omega) (by omega)
      rw [List.drop_zero, show ((0 : Nat) : Int) = 0 from rfl] at lp0
      cases ha : anyOf [60, 62] l with
      | true =>
        rw [ha, if_pos rfl] at lp0
        exact ⟨h, by simp only [↓s20, ↓S_init, ↓S_clin, ↓eqS_S, d1, d2, ↓lp0, ↓SD, SA, Int.ofNat_eq_natCast, Int.cast_ofNat_Int, Int.reduceBEq, Int.reduceAdd, Int.reduceNeg, Int.reduceNegSucc, Int.reduceLT, Int.reduceLE, Int.reduceMul, Int.reduceTMod, Int.reduceSub, Int.reduceBNe, Bool.not_true, Bool.not_false, decide_true, decide_false, ne_eq, not_false_eq_true, Int.reduceEq, reduceCtorEq]; simp, To.refl _ _, hw⟩
      | false =>
        rw [ha, if_neg (by decide)] at lp0
        obtain ⟨h1, e1, o1, w1⟩ := t16 hl hw
        exact ⟨h1, by simp only [↓s20, ↓S_init, ↓S_clin, ↓eqS_S, d1, d2, ↓lp0, ↓blk_x, ↓e1, ↓SD, SA, Int.ofNat_eq_natCast, Int.cast_ofNat_Int, Int.reduceBEq, Int.reduceAdd, Int.reduceNeg, Int.reduceNegSucc, Int.reduceLT, Int.reduceLE, Int.reduceMul, Int.reduceTMod, Int.reduceSub, Int.reduceBNe, Bool.not_true, Bool.not_false, decide_true, decide_false, ne_eq, not_false_eq_true, Int.reduceEq, reduceCtorEq]; simp, o1, w1⟩
/-! ### names.Package -/
/-- The last place of a stroke among the first places; else nought. -/
def last47 (l : List UInt8) : Nat → Option Nat
  | 0 => none
  | i + 1 => if l[i]? = some 47 then some i else last47 l i
theorem last_lt (l : List UInt8) : ∀ n j, last47 l n = some j → j < n := by
  intro n
  induction n with
  | zero => intro j h; cases h
  | succ n ih =>
    intro j h
    unfold last47 at h
    split at h
    · cases h; omega
    · have := ih j h; omega
def pkg (l : List UInt8) : List UInt8 := l.take ((last47 l l.length).getD 0)
theorem loop76 {l : List UInt8} (hl : l.length ≤ 100000) {h : Hp} : ∀ (i m : Nat), i < m → i ≤ l.length →
    lp L76n0 m [S l, .int 8 47, .int 63 ((i : Int) - 1)] h = match last47 l i with | some j => .ret (.int 63 (j : Int)) h | none => .exit 0 [] h := by
  intro i
  induction i with
  | zero =>
    intro m hm hi
    obtain ⟨m, rfl⟩ : ∃ k, m = k + 1 := ⟨m - 1, by omega⟩
    have e1 : ((0 : Nat) : Int) - 1 < 0 := by omega
    exact lpx m (by simp only [↓L76n0, e1, ↓SD, SA, Int.ofNat_eq_natCast, Int.cast_ofNat_Int, Int.reduceBEq, Int.reduceAdd, Int.reduceNeg, Int.reduceNegSucc, Int.reduceLT, Int.reduceLE, Int.reduceMul, Int.reduceTMod, Int.reduceSub, Int.reduceBNe, Bool.not_true, Bool.not_false, decide_true, decide_false, ne_eq, not_false_eq_true, Int.reduceEq, reduceCtorEq])
  | succ i ih =>
    intro m hm hi
    obtain ⟨m, rfl⟩ : ∃ k, m = k + 1 := ⟨m - 1, by omega⟩
    have e0 : ((i + 1 : Nat) : Int) - 1 = (i : Int) := by omega
    have e1 : ¬ (i : Int) < 0 := by omega
    have x1 := fun k => sIdx_S l 63 i (by omega) k
    rw [e0]
    unfold last47
    rw [List.getElem?_eq_getElem (show i < l.length by omega)]
    have g := c47 l[i]
    by_cases hc : l[i] = 47
    · rw [decide_eq_true hc] at g
      rw [if_pos (by rw [hc])]
      exact lpr m (by simp only [↓L76n0, e1, ↓x1, g, ↓SD, SA, Int.ofNat_eq_natCast, Int.cast_ofNat_Int, Int.reduceBEq, Int.reduceAdd, Int.reduceNeg, Int.reduceNegSucc, Int.reduceLT, Int.reduceLE, Int.reduceMul, Int.reduceTMod, Int.reduceSub, Int.reduceBNe, Bool.not_true, Bool.not_false, decide_true, decide_false, ne_eq, not_false_eq_true, Int.reduceEq, reduceCtorEq])
    · rw [decide_eq_false hc] at g
      rw [if_neg (fun h => hc (Option.some.inj h))]
      have w1 : wrapC 63 ((i : Int) - 1) = (i : Int) - 1 := w63_in _ (by omega) (by omega)
      have e : L76n0 [S l, .int 8 47, .int 63 (i : Int)] h = .norm [S l, .int 8 47, .int 63 ((i : Int) - 1)] h := by simp only [↓L76n0, e1, ↓x1, g, w1, ↓SD, SA, Int.ofNat_eq_natCast, Int.cast_ofNat_Int, Int.reduceBEq, Int.reduceAdd, Int.reduceNeg, Int.reduceNegSucc, Int.reduceLT, Int.reduceLE, Int.reduceMul, Int.reduceTMod, Int.reduceSub, Int.reduceBNe, Bool.not_true, Bool.not_false, decide_true, decide_false, ne_eq, not_false_eq_true, Int.reduceEq, reduceCtorEq]
      rw [lpn m e]
      exact ih m (by omega) (by omega)
theorem t21 {l : List UInt8} (hl : l.length ≤ 100000) (h : Hp) : s21 [S l] h = .ret (S (pkg l)) h := by
  have lp0 := loop76 hl (h := h) l.length most (by unfold most; omega) (Nat.le_refl _)
  have w1 : wrapC 63 ((l.length : Int) - 1) = (l.length : Int) - 1 := w63_in _ (by omega) (by omega)
  unfold pkg
  cases hq : last47 l l.length with
  | none =>
    rw [hq] at lp0
    have e76 : s76 [S l, .int 8 47] h = .ret (.int 63 (-1)) h := by simp only [↓s76, ↓lenS_S, w1, ↓lp0, ↓blk_x, ↓SD, SA, Int.ofNat_eq_natCast, Int.cast_ofNat_Int, Int.reduceBEq, Int.reduceAdd, Int.reduceNeg, Int.reduceNegSucc, Int.reduceLT, Int.reduceLE, Int.reduceMul, Int.reduceTMod, Int.reduceSub, Int.reduceBNe, Bool.not_true, Bool.not_false, decide_true, decide_false, ne_eq, not_false_eq_true, Int.reduceEq, reduceCtorEq]
    have e53 : s53 [S l, .int 8 47] h = .ret (.int 63 (-1)) h := by simp only [↓s53, ↓e76, ↓SD, SA, Int.ofNat_eq_natCast, Int.cast_ofNat_Int, Int.reduceBEq, Int.reduceAdd, Int.reduceNeg, Int.reduceNegSucc, Int.reduceLT, Int.reduceLE, Int.reduceMul, Int.reduceTMod, Int.reduceSub, Int.reduceBNe, Bool.not_true, Bool.not_false, decide_true, decide_false, ne_eq, not_false_eq_true, Int.reduceEq, reduceCtorEq]
    have mx : ∀ k : AV → Res, iMax (.int 63 (-1)) (.int 63 0) k = k (.int 63 ((0 : Nat) : Int)) := fun k => rfl
    have x1 := fun k => cutR_S l 63 0 (Nat.zero_le _) k
    simp only [↓s21, ↓e53, ↓mx, ↓x1, ↓cK_S, Option.getD, ↓SD, SA, Int.ofNat_eq_natCast, Int.cast_ofNat_Int, Int.reduceBEq, Int.reduceAdd, Int.reduceNeg, Int.reduceNegSucc, Int.reduceLT, Int.reduceLE, Int.reduceMul, Int.reduceTMod, Int.reduceSub, Int.reduceBNe, Bool.not_true, Bool.not_false, decide_true, decide_false, ne_eq, not_false_eq_true, Int.reduceEq, reduceCtorEq]
  | some j =>
    rw [hq] at lp0
    have hj := last_lt l _ j hq
    have e76 : s76 [S l, .int 8 47] h = .ret (.int 63 (j : Int)) h := by simp only [↓s76, ↓lenS_S, w1, ↓lp0, ↓SD, SA, Int.ofNat_eq_natCast, Int.cast_ofNat_Int, Int.reduceBEq, Int.reduceAdd, Int.reduceNeg, Int.reduceNegSucc, Int.reduceLT, Int.reduceLE, Int.reduceMul, Int.reduceTMod, Int.reduceSub, Int.reduceBNe, Bool.not_true, Bool.not_false, decide_true, decide_false, ne_eq, not_false_eq_true, Int.reduceEq, reduceCtorEq]
    have e53 : s53 [S l, .int 8 47] h = .ret (.int 63 (j : Int)) h := by simp only [↓s53, ↓e76, ↓SD, SA, Int.ofNat_eq_natCast, Int.cast_ofNat_Int, Int.reduceBEq, Int.reduceAdd, Int.reduceNeg, Int.reduceNegSucc, Int.reduceLT, Int.reduceLE, Int.reduceMul, Int.reduceTMod, Int.reduceSub, Int.reduceBNe, Bool.not_true, Bool.not_false, decide_true, decide_false, ne_eq, not_false_eq_true, Int.reduceEq, reduceCtorEq]
    have mx : ∀ k : AV → Res, iMax (.int 63 (j : Int)) (.int 63 0) k = k (.int 63 (j : Int)) := fun k => by
      have e : iMax (.int 63 (j : Int)) (.int 63 0) k = k (.int 63 (Bool.rec (motive := fun _ => Int) (j : Int) 0 (ltI (j : Int) 0))) := rfl
      rw [e, recB, ltI_eq, if_neg (by simp)]
    have x1 := fun k => cutR_S l 63 j (by omega) k
    simp only [↓s21, ↓e53, ↓mx, ↓x1, ↓cK_S, Option.getD, ↓SD, SA, Int.ofNat_eq_natCast, Int.cast_ofNat_Int, Int.reduceBEq, Int.reduceAdd, Int.reduceNeg, Int.reduceNegSucc, Int.reduceLT, Int.reduceLE, Int.reduceMul, Int.reduceTMod, Int.reduceSub, Int.reduceBNe, Bool.not_true, Bool.not_false, decide_true, decide_false, ne_eq, not_false_eq_true, Int.reduceEq, reduceCtorEq]
theorem loop22 {l : List UInt8} (hl : l.length ≤ 100000) {h : Hp} : ∀ (i m : Nat), i < m → i ≤ l.length →
    lp L22n0 m [S l, .int 63 ((i : Int) - 1)] h = match last47 l i with | some j => .ret (S (l.take j)) h | none => .exit 0 [] h := by
  intro i
  induction i with
  | zero =>
    intro m hm hi
    obtain ⟨m, rfl⟩ : ∃ k, m = k + 1 := ⟨m - 1, by omega⟩
    have e1 : ((0 : Nat) : Int) - 1 < 0 := by omega
    exact lpx m (by simp only [↓L22n0, e1, ↓SD, SA, Int.ofNat_eq_natCast, Int.cast_ofNat_Int, Int.reduceBEq, Int.reduceAdd, Int.reduceNeg, Int.reduceNegSucc, Int.reduceLT, Int.reduceLE, Int.reduceMul, Int.reduceTMod, Int.reduceSub, Int.reduceBNe, Bool.not_true, Bool.not_false, decide_true, decide_false, ne_eq, not_false_eq_true, Int.reduceEq, reduceCtorEq])
  | succ i ih =>
    intro m hm hi
    obtain ⟨m, rfl⟩ : ∃ k, m = k + 1 := ⟨m - 1, by omega⟩
    have e0 : ((i + 1 : Nat) : Int) - 1 = (i : Int) := by omega
    have e1 : ¬ (i : Int) < 0 := by omega
    have x1 := fun k => sIdx_S l 63 i (by omega) k
    have x2 := fun k => cutR_S l 63 i (by omega) k
    rw [e0]
    unfold last47
    rw [List.getElem?_eq_getElem (show i < l.length by omega)]
    have g := c47 l[i]
    by_cases hc : l[i] = 47
    · rw [decide_eq_true hc] at g
      rw [if_pos (by rw [hc])]
      exact lpr m (by simp only [↓L22n0, e1, ↓x1, g, ↓x2, ↓cK_S, ↓SD, SA, Int.ofNat_eq_natCast, Int.cast_ofNat_Int, Int.reduceBEq, Int.reduceAdd, Int.reduceNeg, Int.reduceNegSucc, Int.reduceLT, Int.reduceLE, Int.reduceMul, Int.reduceTMod, Int.reduceSub, Int.reduceBNe, Bool.not_true, Bool.not_false, decide_true, decide_false, ne_eq, not_false_eq_true, Int.reduceEq, reduceCtorEq])
    · rw [decide_eq_false hc] at g
      rw [if_neg (fun h => hc (Option.some.inj h))]
      have w1 : wrapC 63 ((i : Int) - 1) = (i : Int) - 1 := w63_in _ (by omega) (by omega)
      have e : L22n0 [S l, .int 63 (i : Int)] h = .norm [S l, .int 63 ((i : Int) - 1)] h := by simp only [↓L22n0, e1, ↓x1, g, w1, ↓SD, SA, Int.ofNat_eq_natCast, Int.cast_ofNat_Int, Int.reduceBEq, Int.reduceAdd, Int.reduceNeg, Int.reduceNegSucc, Int.reduceLT, Int.reduceLE, Int.reduceMul, Int.reduceTMod, Int.reduceSub, Int.reduceBNe, Bool.not_true, Bool.not_false, decide_true, decide_false, ne_eq, not_false_eq_true, Int.reduceEq, reduceCtorEq]
      rw [lpn m e]
      exact ih m (by omega) (by omega)
theorem t22 {l : List UInt8} (hl : l.length ≤ 100000) (h : Hp) : s22 [S l] h = .ret (S (pkg l)) h := by
  have lp0 := loop22 hl (h := h) l.length most (by unfold most; omega) (Nat.le_refl _)
  have w1 : wrapC 63 ((l.length : Int) - 1) = (l.length : Int) - 1 := w63_in _ (by omega) (by omega)
  unfold pkg
  cases hq : last47 l l.length with
  | none =>
    rw [hq] at lp0
    simp only [↓s22, ↓lenS_S, w1, ↓lp0, ↓blk_x, ↓S_0, ↓cK_S, Option.getD, List.take_zero, ↓SD, SA, Int.ofNat_eq_natCast, Int.cast_ofNat_Int, Int.reduceBEq, Int.reduceAdd, Int.reduceNeg, Int.reduceNegSucc, Int.reduceLT, Int.reduceLE, Int.reduceMul, Int.reduceTMod, Int.reduceSub, Int.reduceBNe, Bool.not_true, Bool.not_false, decide_true, decide_false, ne_eq, not_false_eq_true, Int.reduceEq, reduceCtorEq]
  | some j =>
    rw [hq] at lp0
    simp only [↓s22, ↓lenS_S, w1, ↓lp0, Option.getD, ↓SD, SA, Int.ofNat_eq_natCast, Int.cast_ofNat_Int, Int.reduceBEq, Int.reduceAdd, Int.reduceNeg, Int.reduceNegSucc, Int.reduceLT, Int.reduceLE, Int.reduceMul, Int.reduceTMod, Int.reduceSub, Int.reduceBNe, Bool.not_true, Bool.not_false, decide_true, decide_false, ne_eq, not_false_eq_true, Int.reduceEq, reduceCtorEq]
theorem t14 {l : List UInt8} (c : Nat) (h : Hp) : s14 [S l, .int 63 (c : Int)] h = .ret (S (l.take c)) h := by
  by_cases hc : c < l.length
  · have e1 : (c : Int) < (l.length : Int) := by omega
    have x1 := fun k => cutR_S l 63 c (by omega) k
    simp only [↓s14, ↓lenS_S, e1, ↓x1, ↓cK_S, ↓SD, SA, Int.ofNat_eq_natCast, Int.cast_ofNat_Int, Int.reduceBEq, Int.reduceAdd, Int.reduceNeg, Int.reduceNegSucc, Int.reduceLT, Int.reduceLE, Int.reduceMul, Int.reduceTMod, Int.reduceSub, Int.reduceBNe, Bool.not_true, Bool.not_false, decide_true, decide_false, ne_eq, not_false_eq_true, Int.reduceEq, reduceCtorEq]
  · have e1 : ¬ (c : Int) < (l.length : Int) := by omega
    rw [List.take_of_length_le (by omega)]
    simp only [↓s14, ↓lenS_S, e1, ↓cK_S, ↓SD, SA, Int.ofNat_eq_natCast, Int.cast_ofNat_Int, Int.reduceBEq, Int.reduceAdd, Int.reduceNeg, Int.reduceNegSucc, Int.reduceLT, Int.reduceLE, Int.reduceMul, Int.reduceTMod, Int.reduceSub, Int.reduceBNe, Bool.not_true, Bool.not_false, decide_true, decide_false, ne_eq, not_false_eq_true, Int.reduceEq, reduceCtorEq]
end Go.Proofs.YtnpfppddongbhaaDoor
end

section
namespace Go.Proofs.YtnpfppddongbhaaDoor
open Go Go.AM
set_option autoImplicit false
set_option linter.unusedSimpArgs false
set_option linter.unusedVariables false
/-! ### rows of bytes -/
def By (l : List UInt8) : List AV := l.map fun x => .int 8 (x.toNat : Int)
theorem By_len (l : List UInt8) : (By l).length = l.length := by simp [By]
theorem By_one (l : List UInt8) : ∀ x ∈ By l, one x = true := by
  intro x hx
  obtain ⟨y, -, rfl⟩ := List.mem_map.1 hx
  rfl
theorem bytesL_S (l : List UInt8) : bytesL l.length (packB l) = avL (By l) := by
  induction l with
  | nil => rfl
  | cons b l ih =>
    have h2 : packB (b :: l) = b.toNat + 256 * packB l := rfl
    have hb := b.toNat_lt
    have e : bytesL (b :: l).length (packB (b :: l)) = .cons (.int 8 (Int.ofNat (Nat.mod (packB (b :: l)) 256))) (bytesL l.length (Nat.div (packB (b :: l)) 256)) := rfl
    have e1 : Nat.mod (packB (b :: l)) 256 = b.toNat := by rw [h2]; show (b.toNat + 256 * packB l) % 256 = _; omega
    have e2 : Nat.div (packB (b :: l)) 256 = packB l := by rw [h2]; show (b.toNat + 256 * packB l) / 256 = _; omega
    rw [e, e1, e2, ih]; rfl
theorem packL_S (l : List UInt8) (k : Nat → Res) : packL (avL (By l)) k = k (packB l) := by
  induction l generalizing k with
  | nil => rfl
  | cons b l ih =>
    have e : packL (avL (By (b :: l))) k = ifB (Nat.blt b.toNat 256) (packL (avL (By l)) fun p => k (Nat.add b.toNat (Nat.mul 256 p))) .fail := rfl
    rw [e, (blt_iff _ _).2 b.toNat_lt, ifB_t, ih]; rfl
def RowB (h : Hp) (b : Nat) (l : List UInt8) : Prop := ∃ B, Own h b B ∧ B.lim = l.length ∧ ∀ j (hj : j < l.length), B.at j = .int 8 (l[j].toNat : Int)
theorem RowB.sl {h : Hp} {b n : Nat} {l : List UInt8} {c : Option Nat} (hr : RowB h b l) (hn : n = l.length) (hc : ∀ cap, c = some cap → l.length ≤ cap) : Sl h (At b) (.sl b 0 n 1 c) (By l) := by
  subst hn
  obtain ⟨B, o, hl, hat⟩ := hr
  refine ⟨By_one l, .inr (.inr ⟨b, 0, c, B, by rw [By_len], rfl, o.rd, fun _ => o.g, by rw [By_len]; exact hc, fun i hi => ?_⟩)⟩
  rw [By_len] at hi
  rw [Nat.zero_add, hat i hi]; simp only [By, List.getElem_map]
theorem b2s_S {h : Hp} {P : Nat → Prop} {v : AV} {l : List UInt8} (hs : Sl h P v (By l)) (k : AV → Res) : b2s h v k = k (S l) := by
  have e : b2s h v k = src h 1 v fun n l => packL l fun p => k (.str n p) := by
    rcases hs.2 with ⟨rfl, -⟩ | ⟨rfl, -⟩ | ⟨b, o, c, B, rfl, -⟩ <;> rfl
  rw [e, src_sl hs, packL_S, By_len]; rfl
theorem s2b_S {h : Hp} (hw : Wf h) (l : List UInt8) : ∃ h', (∀ k : AV → Hp → Res, s2b h (S l) k = k (.sl h.nb 0 l.length 1 none) h') ∧ RowB h' h.nb l ∧ To No h h' ∧ Wf h' := by
  obtain ⟨t, e1, e2⟩ := lay_list (By l) .e 0 (By_one l)
  obtain ⟨o1, o2⟩ := nw_own hw l.length .nil t
  refine ⟨nw h l.length .nil t, fun k => ?_, ⟨_, o1, rfl, fun j hj => ?_⟩, o2, o2.wf hw⟩
  · have e : s2b h (S l) k = lay (bytesL l.length (packB l)) .e 0 fun t _ => k (.sl h.nb 0 l.length 1 none) (nw h l.length .nil t) := rfl
    rw [e, bytesL_S, e1]
  · rw [at_in _ (show j < l.length from hj)]
    show (match t.get j with | some v => v | none => _) = _
    rw [e2 j, dif_pos (by rw [By_len]; omega)]
    simp only [By, List.getElem_map, Nat.sub_zero]
theorem ixB {b n : Nat} {c : Option Nat} (i : Nat) (hi : i < n) (k : AV → Res) : ixA 1 (.sl b 0 n 1 c) (.int 63 (i : Int)) k = k (.ptr b i) := by
  have e : ixA 1 (.sl b 0 n 1 c) (.int 63 (i : Int)) k = ifB (Nat.blt i n) (ifB (Nat.beq 1 1) (k (.ptr b (Nat.add 0 (Nat.mul i 1)))) .fail) .fail := rfl
  rw [e, (blt_iff _ _).2 hi]
  have e2 : Nat.add 0 (Nat.mul i 1) = i := by show 0 + i * 1 = i; omega
  show k (.ptr b (Nat.add 0 (Nat.mul i 1))) = _
  rw [e2]
theorem RowB.ld {h : Hp} {b : Nat} {l : List UInt8} (hr : RowB h b l) (i : Nat) (hi : i < l.length) (k : AV → Res) : ld1 h (.ptr b i) k = k (.int 8 (l[i].toNat : Int)) := by
  obtain ⟨B, o, hl, hat⟩ := hr
  rw [ld1_rd o.rd (hat i hi)]; rfl
theorem RowB.st {h : Hp} {b : Nat} {l : List UInt8} (hw : Wf h) (hr : RowB h b l) (i : Nat) (hi : i < l.length) (x : UInt8) :
    ∃ h', (∀ k : Hp → Res, st1 h (.ptr b i) (.int 8 (x.toNat : Int)) k = k h') ∧ RowB h' b (l.set i x) ∧ To (At b) h h' ∧ Wf h' := by
  obtain ⟨B, o, hl, hat⟩ := hr
  obtain ⟨h', s1, s2, s3, s4⟩ := st1_own (o := i) (v := .int 8 (x.toNat : Int)) o (by omega) rfl
  refine ⟨h', s1, ⟨_, s2, by rw [List.length_set]; exact hl, fun j hj => ?_⟩, s3, s3.wf hw⟩
  rw [List.length_set] at hj
  rw [setC_at (by omega), List.getElem_set]
  by_cases e : j = i
  · subst e; rw [if_pos rfl, if_pos rfl]
  · rw [if_neg e, if_neg (fun h => e h.symm)]; exact hat j hj
/-! ### Dots -/
theorem loop24 (b : Nat) (n : Nat) (hn : n ≤ 200000) : ∀ (f m i : Nat) (l : List UInt8) (h : Hp), l.length = n → n - i ≤ f → f < m → i ≤ n → Wf h → RowB h b l →
    ∃ h', lp L24n0 m [.sl b 0 n 1 none, .int 63 (i : Int)] h = .exit 0 [.sl b 0 n 1 none] h' ∧ RowB h' b (l.take i ++ rep1 47 46 (l.drop i)) ∧ To (At b) h h' ∧ Wf h' := by
  have stop : ∀ (m i : Nat) (l : List UInt8) (h : Hp), l.length = n → ¬ i < n → Wf h → RowB h b l → ∃ h', lp L24n0 (m + 1) [.sl b 0 n 1 none, .int 63 (i : Int)] h = .exit 0 [.sl b 0 n 1 none] h' ∧ RowB h' b (l.take i ++ rep1 47 46 (l.drop i)) ∧ To (At b) h h' ∧ Wf h' := by
    intro m i l h hl hi hw hr
    have e1 : ¬ (i : Int) < (n : Int) := by omega
    have ln : ∀ k : AV → Res, lenL (.sl b 0 n 1 none) k = k (.int 63 (n : Int)) := fun k => rfl
    refine ⟨h, lpx m (by simp only [↓L24n0, ↓ln, e1, ↓SD, SA, Int.ofNat_eq_natCast, Int.cast_ofNat_Int, Int.reduceBEq, Int.reduceAdd, Int.reduceNeg, Int.reduceNegSucc, Int.reduceLT, Int.reduceLE, Int.reduceMul, Int.reduceTMod, Int.reduceSub, Int.reduceBNe, Bool.not_true, Bool.not_false, decide_true, decide_false, ne_eq, not_false_eq_true, Int.reduceEq, reduceCtorEq]), ?_, To.refl _ _, hw⟩
    rw [List.take_of_length_le (by omega), List.drop_eq_nil_of_le (by omega)]
    simpa [rep1] using hr
  intro f
  induction f with
  | zero =>
    intro m i l h hl hf hm hi hw hr
    obtain ⟨m, rfl⟩ : ∃ k, m = k + 1 := ⟨m - 1, by omega⟩
    exact stop m i l h hl (by omega) hw hr
  | succ f ih =>
    intro m i l h hl hf hm hi hw hr
    obtain ⟨m, rfl⟩ : ∃ k, m = k + 1 := ⟨m - 1, by omega⟩
    by_cases hin : i < n
    · have e1 : (i : Int) < (n : Int) := by omega
      have ln : ∀ k : AV → Res, lenL (.sl b 0 n 1 none) k = k (.int 63 (n : Int)) := fun k => rfl
      have x1 := fun k => ixB (b := b) (c := none) i hin k
      have x2 := fun k => hr.ld i (by omega) k
      have e3 := c47 (l[i]'(by omega))
      have hd : l.drop i = (l[i]'(by omega)) :: l.drop (i + 1) := List.drop_eq_getElem_cons (by omega)
      by_cases hc : l[i]'(by omega) = 47
      · rw [decide_eq_true hc] at e3
        obtain ⟨h1, p1, r1, o1, w1⟩ := hr.st hw i (by omega) 46
        have p1 : ∀ k : Hp → Res, st1 h (.ptr b i) (.int 8 46) k = k h1 := p1
        have e : L24n0 [.sl b 0 n 1 none, .int 63 (i : Int)] h = .norm [.sl b 0 n 1 none, .int 63 ((i + 1 : Nat) : Int)] h1 := by
          simp only [↓L24n0, ↓ln, e1, ↓x1, ↓x2, e3, ↓p1, s1n i (by omega), ↓SD, SA, Int.ofNat_eq_natCast, Int.cast_ofNat_Int, Int.reduceBEq, Int.reduceAdd, Int.reduceNeg, Int.reduceNegSucc, Int.reduceLT, Int.reduceLE, Int.reduceMul, Int.reduceTMod, Int.reduceSub, Int.reduceBNe, Bool.not_true, Bool.not_false, decide_true, decide_false, ne_eq, not_false_eq_true, Int.reduceEq, reduceCtorEq]
        obtain ⟨h2, p2, r2, o2, w2⟩ := ih m (i + 1) (l.set i 46) h1 (by simpa using hl) (by omega) (by omega) (by omega) w1 r1
        refine ⟨h2, (lpn m e).trans p2, ?_, o1.trans o2, w2⟩
        have q : (l.set i 46).take (i + 1) ++ rep1 47 46 ((l.set i 46).drop (i + 1)) = l.take i ++ rep1 47 46 (l.drop i) := by
          rw [hd, List.drop_set_of_lt (by omega), List.take_add_one, List.take_set_of_le (Nat.le_refl _), List.getElem?_set_self (by omega)]
          simp [rep1, hc]
        rw [q] at r2
        exact r2
      · rw [decide_eq_false hc] at e3
        have e : L24n0 [.sl b 0 n 1 none, .int 63 (i : Int)] h = .norm [.sl b 0 n 1 none, .int 63 ((i + 1 : Nat) : Int)] h := by
          simp only [↓L24n0, ↓ln, e1, ↓x1, ↓x2, e3, s1n i (by omega), ↓SD, SA, Int.ofNat_eq_natCast, Int.cast_ofNat_Int, Int.reduceBEq, Int.reduceAdd, Int.reduceNeg, Int.reduceNegSucc, Int.reduceLT, Int.reduceLE, Int.reduceMul, Int.reduceTMod, Int.reduceSub, Int.reduceBNe, Bool.not_true, Bool.not_false, decide_true, decide_false, ne_eq, not_false_eq_true, Int.reduceEq, reduceCtorEq]
        obtain ⟨h2, p2, r2, o2, w2⟩ := ih m (i + 1) l h hl (by omega) (by omega) (by omega) hw hr
        refine ⟨h2, (lpn m e).trans p2, ?_, o2, w2⟩
        have q : l.take (i + 1) ++ rep1 47 46 (l.drop (i + 1)) = l.take i ++ rep1 47 46 (l.drop i) := by
          rw [hd, List.take_add_one, List.getElem?_eq_getElem (by omega)]
          simp only [rep1, List.map_cons, if_neg hc, Option.toList_some, List.append_assoc, List.singleton_append]
        rw [q] at r2
        exact r2
    · exact stop m i l h hl hin hw hr
abbrev dots (l : List UInt8) : List UInt8 := rep1 47 46 l
theorem dots_len (l : List UInt8) : (dots l).length = l.length := by simp [dots, rep1]
theorem t24 {l : List UInt8} (hl : l.length ≤ 100000) {h : Hp} (hw : Wf h) : ∃ h', s24 [S l] h = .ret (S (dots l)) h' ∧ To No h h' ∧ Wf h' := by
  obtain ⟨h1, p1, r1, o1, w1⟩ := s2b_S hw l
  obtain ⟨h2, p2, r2, o2, w2⟩ := loop24 h.nb l.length (by omega) l.length most 0 l h1 rfl (by omega) (by unfold most; omega) (by omega) w1 r1
  rw [List.take_zero, List.nil_append, List.drop_zero] at r2
  have p2 : lp L24n0 most [.sl h.nb 0 l.length 1 none, .int 63 0] h1 = .exit 0 [.sl h.nb 0 l.length 1 none] h2 := p2
  have p3 := fun k => b2s_S (r2.sl (dots_len l).symm (c := none) (fun cap e => by cases e)) k
  refine ⟨h2, ?_, o1.fresh o2 (fun x e => by have : x = h.nb := e; omega), w2⟩
  simp only [↓s24, ↓p1, ↓p2, ↓blk_x, ↓p3, ↓cK_S, ↓SD, SA, Int.ofNat_eq_natCast, Int.cast_ofNat_Int, Int.reduceBEq, Int.reduceAdd, Int.reduceNeg, Int.reduceNegSucc, Int.reduceLT, Int.reduceLE, Int.reduceMul, Int.reduceTMod, Int.reduceSub, Int.reduceBNe, Bool.not_true, Bool.not_false, decide_true, decide_false, ne_eq, not_false_eq_true, Int.reduceEq, reduceCtorEq]
theorem t54 {l : List UInt8} (hl : l.length ≤ 100000) (h : Hp) : s54 [S l, S [47], S [46]] h = .ret (S (dots l)) h := by
  have e : s54 [S l, S [47], S [46]] h = ifB (Nat.blt l.length 1000000) (.ret (.str l.length (packB (rep1 47 46 (unp l.length (packB l))))) h) .fail := rfl
  rw [e, (blt_iff _ _).2 (by omega), ifB_t, unp_pack]
  unfold S
  rw [dots_len]
theorem t23 {l : List UInt8} (hl : l.length ≤ 100000) (h : Hp) : s23 [S l] h = .ret (S (dots l)) h := by
  have := t54 hl h
  simp only [↓s23, ↓S_47, ↓S_46, ↓this, ↓cK_S, ↓SD, SA, Int.ofNat_eq_natCast, Int.cast_ofNat_Int, Int.reduceBEq, Int.reduceAdd, Int.reduceNeg, Int.reduceNegSucc, Int.reduceLT, Int.reduceLE, Int.reduceMul, Int.reduceTMod, Int.reduceSub, Int.reduceBNe, Bool.not_true, Bool.not_false, decide_true, decide_false, ne_eq, not_false_eq_true, Int.reduceEq, reduceCtorEq]
/-- What the packages' laws begin with. -/
theorem t13 : ∃ h1, s13 [] H0 = .ret (.bool true) h1 ∧ Wf h1 := isTH_inv (by kernel_rfl)
end Go.Proofs.YtnpfppddongbhaaDoor
end

section
namespace Go.Proofs.YtnpfppddongbhaaDoor
open Go Go.AM
set_option autoImplicit false
set_option linter.unusedSimpArgs false
set_option linter.unusedVariables false
/-! ### NamesLong: rows of x, parted by single strokes -/
inductive Gd : List UInt8 → Prop
  | one : Gd [120]
  | gx {l : List UInt8} : Gd l → Gd (120 :: l)
  | gs {l : List UInt8} : Gd l → Gd (120 :: 47 :: l)
def Xs (t : List UInt8) : Prop := t ≠ [] ∧ ∀ c ∈ t, c = 120
theorem Gd.xs {l : List UInt8} (h : Gd l) : ∀ t ∈ spl l, Xs t := by
  induction h with
  | one =>
    intro t ht
    have : spl [120] = [[120]] := by decide
    rw [this] at ht
    simp at ht; subst ht
    exact ⟨by simp, by simp⟩
  | @gx l hl ih =>
    intro t ht
    have e : spl (120 :: l) = match spl l with | x :: xs => (120 :: x) :: xs | [] => [[120]] := by rw [spl, if_neg (by decide)]; try rfl
    rw [e] at ht
    cases hs : spl l with
    | nil => rw [hs] at ht; simp at ht; subst ht; exact ⟨by simp, by simp⟩
    | cons y ys =>
      rw [hs] at ht ih
      rcases List.mem_cons.1 ht with rfl | ht
      · have := ih y (by simp)
        exact ⟨by simp, fun c hc => by
          rcases List.mem_cons.1 hc with rfl | hc
          · rfl
          · exact this.2 c hc⟩
      · exact ih t (by simp [ht])
  | @gs l hl ih =>
    intro t ht
    have e : spl (120 :: 47 :: l) = [120] :: spl l := by
      rw [spl, if_neg (by decide), spl, if_pos rfl]
    rw [e] at ht
    rcases List.mem_cons.1 ht with rfl | ht
    · exact ⟨by simp, by simp⟩
    · exact ih t ht
theorem dec_xs (n : Nat) (Y : Nat → Nat) (h : ∀ i, i < n → Y i = 120) : ∀ f i, (dec n Y f i).isSome = true := by
  intro f
  induction f with
  | zero => intro i; rfl
  | succ f ih =>
    intro i
    unfold dec
    by_cases hi : i < n
    · rw [if_pos hi, if_pos (by rw [h i hi]; decide)]
      simpa using ih (i + 1)
    · rw [if_neg hi]; rfl
theorem Xs.plain {t : List UInt8} (h : Xs t) : plain t = true := by
  unfold YtnpfppddongbhaaDoor.plain
  have h1 : okD t = true := dec_xs _ _ (fun i hi => by rw [byteAt_eq t i hi, h.2 _ (List.getElem_mem hi)]; rfl) _ _
  have h2 : anyOf bar t = false := by
    unfold anyOf
    rw [List.any_eq_false]
    intro c hc
    rw [h.2 c hc]; decide
  rw [h1, h2, decide_eq_false h.1]; rfl
theorem Gd.cls {l : List UInt8} (h : Gd l) : cls l = decide (l.length ≤ 255) := by
  unfold YtnpfppddongbhaaDoor.cls
  rw [List.all_eq_true.2 fun t ht => (h.xs t ht).plain, Bool.true_and]
/-- What is laid at place i. -/
def gg4 (n s i : Nat) : UInt8 := if 0 < i ∧ i < n - 1 ∧ i % s = 1 ∧ 2 < s then 47 else 120
def T4 (n s : Nat) : Nat → Nat → List UInt8
  | 0, _ => []
  | k + 1, i => gg4 n s i :: T4 n s k (i + 1)
theorem T4_len (n s : Nat) : ∀ k i, (T4 n s k i).length = k := by
  intro k
  induction k with
  | zero => intro i; rfl
  | succ k ih => intro i; rw [T4, List.length_cons, ih]
theorem T4_gd (n s : Nat) : ∀ f k i, k ≤ f → i + k = n → 0 < k → gg4 n s i = 120 → Gd (T4 n s k i) := by
  intro f
  induction f with
  | zero => intro k i h1 h2 h3; omega
  | succ f ih =>
    intro k i h1 h2 h3 h4
    obtain ⟨k, rfl⟩ : ∃ j, k = j + 1 := ⟨k - 1, by omega⟩
    rw [T4, h4]
    by_cases hk : k = 0
    · subst hk; exact .one
    · by_cases h5 : gg4 n s (i + 1) = 120
      · exact .gx (ih k (i + 1) (by omega) (by omega) (by omega) h5)
      · have h6 : 0 < i + 1 ∧ i + 1 < n - 1 ∧ (i + 1) % s = 1 ∧ 2 < s := by
          refine Classical.byContradiction fun h => h5 ?_
          unfold gg4; rw [if_neg h]
        have h7 : gg4 n s (i + 1) = 47 := by unfold gg4; rw [if_pos h6]
        obtain ⟨k, rfl⟩ : ∃ j, k = j + 1 := ⟨k - 1, by omega⟩
        rw [T4, h7]
        refine .gs (ih k (i + 1 + 1) (by omega) (by omega) (by omega) ?_)
        unfold gg4
        rw [if_neg]
        rintro ⟨-, -, h8, -⟩
        obtain ⟨-, -, h9, h10⟩ := h6
        rw [Nat.add_mod, h9, Nat.mod_eq_of_lt (show 1 < s by omega), Nat.mod_eq_of_lt (show 1 + 1 < s by omega)] at h8
        omega
theorem rem4 (i s : Nat) (hs : 0 < s) (k : AV → Res) : iRem (.int 63 (i : Int)) (.int 63 (s : Int)) k = k (.int 63 ((i % s : Nat) : Int)) := by
  have h : (s : Int) ≠ 0 := by omega
  exact (iRem_i (k := k) (c := 63) (m := (i : Int)) (n := (s : Int)) h).trans rfl
theorem loop4 (b n s : Nat) (hn : n ≤ 300) (hs : 0 < s) (v4 : AV) (c : Option Nat) : ∀ (f m i : Nat) (l : List UInt8) (h : Hp), l.length = n → n - i ≤ f → f < m → i ≤ n → Wf h → RowB h b l →
    ∃ h', lp L4n0 m [.int 63 (n : Int), .int 63 (s : Int), v4, .sl b 0 n 1 c, .int 63 (i : Int)] h = .exit 0 [.int 63 (n : Int), v4, .sl b 0 n 1 c] h' ∧ RowB h' b (l.take i ++ T4 n s (n - i) i) ∧ To (At b) h h' ∧ Wf h' := by
  have stop : ∀ (m i : Nat) (l : List UInt8) (h : Hp), l.length = n → ¬ i < n → Wf h → RowB h b l → ∃ h', lp L4n0 (m + 1) [.int 63 (n : Int), .int 63 (s : Int), v4, .sl b 0 n 1 c, .int 63 (i : Int)] h = .exit 0 [.int 63 (n : Int), v4, .sl b 0 n 1 c] h' ∧ RowB h' b (l.take i ++ T4 n s (n - i) i) ∧ To (At b) h h' ∧ Wf h' := by
    intro m i l h hl hi hw hr
    have e1 : ¬ (i : Int) < (n : Int) := by omega
    refine ⟨h, lpx m (by simp only [↓L4n0, e1, ↓SD, SA, Int.ofNat_eq_natCast, Int.cast_ofNat_Int, Int.reduceBEq, Int.reduceAdd, Int.reduceNeg, Int.reduceNegSucc, Int.reduceLT, Int.reduceLE, Int.reduceMul, Int.reduceTMod, Int.reduceSub, Int.reduceBNe, Bool.not_true, Bool.not_false, decide_true, decide_false, ne_eq, not_false_eq_true, Int.reduceEq, reduceCtorEq]), ?_, To.refl _ _, hw⟩
    rw [List.take_of_length_le (by omega), show n - i = 0 by omega]
    simpa [T4] using hr
  intro f
  induction f with
  | zero =>
    intro m i l h hl hf hm hi hw hr
    obtain ⟨m, rfl⟩ : ∃ k, m = k + 1 := ⟨m - 1, by omega⟩
    exact stop m i l h hl (by omega) hw hr
  | succ f ih =>
    intro m i l h hl hf hm hi hw hr
    obtain ⟨m, rfl⟩ : ∃ k, m = k + 1 := ⟨m - 1, by omega⟩
    by_cases hin : i < n
    · have e1 : (i : Int) < (n : Int) := by omega
      have x1 := fun k => ixB (b := b) (c := c) i hin k
      obtain ⟨h1, p1, r1, o1, w1⟩ := hr.st hw i (by omega) 120
      have p1 : ∀ k : Hp → Res, st1 h (.ptr b i) (.int 8 120) k = k h1 := p1
      have i1 : wrapC 63 ((n : Int) - 1) = ((n - 1 : Nat) : Int) := by rw [w63_in _ (by omega) (by omega)]; omega
      have rm := fun k => rem4 i s hs k
      have gi : ∀ x : Int, gsel (.bool true) true (.int 63 x) = .int 63 x := fun x => rfl
      have key : ∃ h2, L4n0 [.int 63 (n : Int), .int 63 (s : Int), v4, .sl b 0 n 1 c, .int 63 (i : Int)] h = .norm [.int 63 (n : Int), .int 63 (s : Int), v4, .sl b 0 n 1 c, .int 63 ((i + 1 : Nat) : Int)] h2 ∧ RowB h2 b (l.set i (gg4 n s i)) ∧ To (At b) h h2 ∧ Wf h2 := by
        by_cases c1 : 0 < i
        · have d1 : (0 : Int) < (i : Int) := by omega
          by_cases c2 : i < n - 1
          · have d2 : (i : Int) < ((n - 1 : Nat) : Int) := by omega
            by_cases c3 : i % s = 1
            · have d3 : (((i % s : Nat) : Int) == 1) = true := by rw [c3]; rfl
              by_cases c4 : 2 < s
              · have d4 : (2 : Int) < (s : Int) := by omega
                obtain ⟨h2, p2, r2, o2, w2⟩ := r1.st w1 i (by rw [List.length_set]; omega) 47
                have p2 : ∀ k : Hp → Res, st1 h1 (.ptr b i) (.int 8 47) k = k h2 := p2
                have hg : gg4 n s i = 47 := by unfold gg4; rw [if_pos ⟨c1, c2, c3, c4⟩]
                rw [List.set_set] at r2
                exact ⟨h2, by simp only [↓L4n0, e1, ↓x1, ↓p1, d1, ↓gi, i1, d2, ↓rm, d3, d4, ↓p2, s1n i (by omega), ↓SD, SA, Int.ofNat_eq_natCast, Int.cast_ofNat_Int, Int.reduceBEq, Int.reduceAdd, Int.reduceNeg, Int.reduceNegSucc, Int.reduceLT, Int.reduceLE, Int.reduceMul, Int.reduceTMod, Int.reduceSub, Int.reduceBNe, Bool.not_true, Bool.not_false, decide_true, decide_false, ne_eq, not_false_eq_true, Int.reduceEq, reduceCtorEq], by rw [hg]; exact r2, o1.trans o2, w2⟩
              · have d4 : ¬ (2 : Int) < (s : Int) := by omega
                have hg : gg4 n s i = 120 := by unfold gg4; rw [if_neg fun h => c4 h.2.2.2]
                exact ⟨h1, by simp only [↓L4n0, e1, ↓x1, ↓p1, d1, ↓gi, i1, d2, ↓rm, d3, d4, s1n i (by omega), ↓SD, SA, Int.ofNat_eq_natCast, Int.cast_ofNat_Int, Int.reduceBEq, Int.reduceAdd, Int.reduceNeg, Int.reduceNegSucc, Int.reduceLT, Int.reduceLE, Int.reduceMul, Int.reduceTMod, Int.reduceSub, Int.reduceBNe, Bool.not_true, Bool.not_false, decide_true, decide_false, ne_eq, not_false_eq_true, Int.reduceEq, reduceCtorEq], by rw [hg]; exact r1, o1, w1⟩
            · have d3 : (((i % s : Nat) : Int) == 1) = false := beq_eq_false_iff_ne.2 (by omega)
              have hg : gg4 n s i = 120 := by unfold gg4; rw [if_neg fun h => c3 h.2.2.1]
              exact ⟨h1, by simp only [↓L4n0, e1, ↓x1, ↓p1, d1, ↓gi, i1, d2, ↓rm, d3, s1n i (by omega), ↓SD, SA, Int.ofNat_eq_natCast, Int.cast_ofNat_Int, Int.reduceBEq, Int.reduceAdd, Int.reduceNeg, Int.reduceNegSucc, Int.reduceLT, Int.reduceLE, Int.reduceMul, Int.reduceTMod, Int.reduceSub, Int.reduceBNe, Bool.not_true, Bool.not_false, decide_true, decide_false, ne_eq, not_false_eq_true, Int.reduceEq, reduceCtorEq], by rw [hg]; exact r1, o1, w1⟩
          · have d2 : ¬ (i : Int) < ((n - 1 : Nat) : Int) := by omega
            have hg : gg4 n s i = 120 := by unfold gg4; rw [if_neg fun h => c2 h.2.1]
            exact ⟨h1, by simp only [↓L4n0, e1, ↓x1, ↓p1, d1, ↓gi, i1, d2, s1n i (by omega), ↓SD, SA, Int.ofNat_eq_natCast, Int.cast_ofNat_Int, Int.reduceBEq, Int.reduceAdd, Int.reduceNeg, Int.reduceNegSucc, Int.reduceLT, Int.reduceLE, Int.reduceMul, Int.reduceTMod, Int.reduceSub, Int.reduceBNe, Bool.not_true, Bool.not_false, decide_true, decide_false, ne_eq, not_false_eq_true, Int.reduceEq, reduceCtorEq], by rw [hg]; exact r1, o1, w1⟩
        · have d1 : ¬ (0 : Int) < (i : Int) := by omega
          have hg : gg4 n s i = 120 := by unfold gg4; rw [if_neg fun h => c1 h.1]
          exact ⟨h1, by simp only [↓L4n0, e1, ↓x1, ↓p1, d1, s1n i (by omega), ↓SD, SA, Int.ofNat_eq_natCast, Int.cast_ofNat_Int, Int.reduceBEq, Int.reduceAdd, Int.reduceNeg, Int.reduceNegSucc, Int.reduceLT, Int.reduceLE, Int.reduceMul, Int.reduceTMod, Int.reduceSub, Int.reduceBNe, Bool.not_true, Bool.not_false, decide_true, decide_false, ne_eq, not_false_eq_true, Int.reduceEq, reduceCtorEq], by rw [hg]; exact r1, o1, w1⟩
      obtain ⟨h2, e, r2, o2, w2⟩ := key
      obtain ⟨h3, p3, r3, o3, w3⟩ := ih m (i + 1) (l.set i (gg4 n s i)) h2 (by simpa using hl) (by omega) (by omega) (by omega) w2 r2
      refine ⟨h3, (lpn m e).trans p3, ?_, o2.trans o3, w3⟩
      have q : (l.set i (gg4 n s i)).take (i + 1) ++ T4 n s (n - (i + 1)) (i + 1) = l.take i ++ T4 n s (n - i) i := by
        rw [show n - i = (n - (i + 1)) + 1 by omega, T4, List.take_add_one, List.take_set_of_le (Nat.le_refl _), List.getElem?_set_self (by omega)]
        simp
      rw [q] at r3
      exact r3
    · exact stop m i l h hl hin hw hr
theorem lawLong (n s : Int) : ∃ h', s4 [.int 63 n, .int 63 s] H0 = .ret (.bool true) h' := by
  obtain ⟨h1, e1, w1⟩ := t13
  have gi : ∀ x : Int, gsel (.bool false) false (.int 63 x) = .int 63 x := fun x => rfl
  by_cases c1 : n < 1
  · exact ⟨h1, by simp only [↓s4, ↓e1, c1, ↓SD, SA, Int.ofNat_eq_natCast, Int.cast_ofNat_Int, Int.reduceBEq, Int.reduceAdd, Int.reduceNeg, Int.reduceNegSucc, Int.reduceLT, Int.reduceLE, Int.reduceMul, Int.reduceTMod, Int.reduceSub, Int.reduceBNe, Bool.not_true, Bool.not_false, decide_true, decide_false, ne_eq, not_false_eq_true, Int.reduceEq, reduceCtorEq]⟩
  by_cases c2 : 300 < n
  · exact ⟨h1, by simp only [↓s4, ↓e1, c1, c2, ↓gi, ↓SD, SA, Int.ofNat_eq_natCast, Int.cast_ofNat_Int, Int.reduceBEq, Int.reduceAdd, Int.reduceNeg, Int.reduceNegSucc, Int.reduceLT, Int.reduceLE, Int.reduceMul, Int.reduceTMod, Int.reduceSub, Int.reduceBNe, Bool.not_true, Bool.not_false, decide_true, decide_false, ne_eq, not_false_eq_true, Int.reduceEq, reduceCtorEq]⟩
  by_cases c3 : s < 1
  · exact ⟨h1, by simp only [↓s4, ↓e1, c1, c2, c3, ↓gi, ↓SD, SA, Int.ofNat_eq_natCast, Int.cast_ofNat_Int, Int.reduceBEq, Int.reduceAdd, Int.reduceNeg, Int.reduceNegSucc, Int.reduceLT, Int.reduceLE, Int.reduceMul, Int.reduceTMod, Int.reduceSub, Int.reduceBNe, Bool.not_true, Bool.not_false, decide_true, decide_false, ne_eq, not_false_eq_true, Int.reduceEq, reduceCtorEq]⟩
  by_cases c4 : 20 < s
  · exact ⟨h1, by simp only [↓s4, ↓e1, c1, c2, c3, c4, ↓gi, ↓SD, SA, Int.ofNat_eq_natCast, Int.cast_ofNat_Int, Int.reduceBEq, Int.reduceAdd, Int.reduceNeg, Int.reduceNegSucc, Int.reduceLT, Int.reduceLE, Int.reduceMul, Int.reduceTMod, Int.reduceSub, Int.reduceBNe, Bool.not_true, Bool.not_false, decide_true, decide_false, ne_eq, not_false_eq_true, Int.reduceEq, reduceCtorEq]⟩
  obtain ⟨n, rfl⟩ : ∃ m : Nat, n = (m : Int) := ⟨n.toNat, by omega⟩
  obtain ⟨s, rfl⟩ : ∃ m : Nat, s = (m : Int) := ⟨s.toNat, by omega⟩
  obtain ⟨h2, B, m1, m2, m3, m4, m5, m6, m7⟩ := mkM_own w1 (.int 8 0) n 1 63 63 (by omega) (by omega)
  have r0 : RowB h2 h1.nb (List.replicate n 0) := ⟨B, m2, by rw [List.length_replicate]; exact m3, fun j hj => by rw [List.length_replicate] at hj; rw [m4 j hj, List.getElem_replicate]; rfl⟩
  obtain ⟨h3, p3, r3, o3, w3⟩ := loop4 h1.nb n s (by omega) (by omega) (.bool true) (some n) n most 0 (List.replicate n 0) h2 (by simp) (by omega) (by unfold most; omega) (by omega) m6 r0
  rw [List.take_zero, List.nil_append, Nat.sub_zero] at r3
  have p3 : lp L4n0 most [.int 63 (n : Int), .int 63 (s : Int), .bool true, .sl h1.nb 0 n 1 (some n), .int 63 0] h2 = .exit 0 [.int 63 (n : Int), .bool true, .sl h1.nb 0 n 1 (some n)] h3 := p3
  have p4 := fun k => b2s_S (r3.sl (n := n) (T4_len n s n 0).symm (c := some n) (fun cap e => by cases e; rw [T4_len]; exact Nat.le_refl _)) k
  have hg : Gd (T4 n s n 0) := T4_gd n s n n 0 (Nat.le_refl _) (by omega) (by omega) (by unfold gg4; rw [if_neg fun h => by omega])
  obtain ⟨h4, e4, -, w4⟩ := t17 (l := T4 n s n 0) (by rw [T4_len]; omega) w3
  rw [hg.cls, T4_len] at e4
  have gs : ∀ a b c d e, gsel (.bool true) true (.sl a b c d e) = .sl a b c d e := fun a b c d e => rfl
  have gn : ∀ x : Int, gsel (.bool true) true (.int 63 x) = .int 63 x := fun x => rfl
  by_cases c5 : n ≤ 255
  · have d5 : ¬ (255 : Int) < (n : Int) := by omega
    rw [decide_eq_true c5] at e4
    exact ⟨h4, by simp only [↓s4, ↓e1, c1, c2, c3, c4, ↓gi, ↓m1, ↓p3, ↓blk_x, ↓gs, ↓p4, ↓e4, ↓gn, d5, beq_self_eq_true, ↓SD, SA, Int.ofNat_eq_natCast, Int.cast_ofNat_Int, Int.reduceBEq, Int.reduceAdd, Int.reduceNeg, Int.reduceNegSucc, Int.reduceLT, Int.reduceLE, Int.reduceMul, Int.reduceTMod, Int.reduceSub, Int.reduceBNe, Bool.not_true, Bool.not_false, decide_true, decide_false, ne_eq, not_false_eq_true, Int.reduceEq, reduceCtorEq]⟩
  · have d5 : (255 : Int) < (n : Int) := by omega
    rw [decide_eq_false c5] at e4
    exact ⟨h4, by simp only [↓s4, ↓e1, c1, c2, c3, c4, ↓gi, ↓m1, ↓p3, ↓blk_x, ↓gs, ↓p4, ↓e4, ↓gn, d5, beq_self_eq_true, ↓SD, SA, Int.ofNat_eq_natCast, Int.cast_ofNat_Int, Int.reduceBEq, Int.reduceAdd, Int.reduceNeg, Int.reduceNegSucc, Int.reduceLT, Int.reduceLE, Int.reduceMul, Int.reduceTMod, Int.reduceSub, Int.reduceBNe, Bool.not_true, Bool.not_false, decide_true, decide_false, ne_eq, not_false_eq_true, Int.reduceEq, reduceCtorEq]⟩
end Go.Proofs.YtnpfppddongbhaaDoor
end
