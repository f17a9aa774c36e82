/-
  Pools of constants: what each function of both readers answers (part Nr1).
-/
import Derived.Test.YtnpfppddongbhaaDoorFb
import Derived.Lib.Bytealg
set_option linter.unusedVariables false
set_option linter.unusedSimpArgs false
namespace Go.AM
open Go
theorem SD : type_of% (And.intro @uc_c (And.intro @uz_n (And.intro @cI_i (And.intro @cB_b (And.intro @cT_t (And.intro @cK_b (And.intro @cK_i (And.intro @ap_e (And.intro @jn_n (And.intro @jn_r (And.intro @cl_r (And.intro @iAdd_i (And.intro @iSub_i (And.intro @iMul_i (And.intro @iAnd_i (And.intro @iOr_i (And.intro @iXor_i (And.intro @iNeg_i (And.intro @iConv_i (And.intro @bNot_b (And.intro @eqN_i (And.intro @ltN_i (@eqB_b))))))))))))))))))))))) := And.intro @uc_c (And.intro @uz_n (And.intro @cI_i (And.intro @cB_b (And.intro @cT_t (And.intro @cK_b (And.intro @cK_i (And.intro @ap_e (And.intro @jn_n (And.intro @jn_r (And.intro @cl_r (And.intro @iAdd_i (And.intro @iSub_i (And.intro @iMul_i (And.intro @iAnd_i (And.intro @iOr_i (And.intro @iXor_i (And.intro @iNeg_i (And.intro @iConv_i (And.intro @bNot_b (And.intro @eqN_i (And.intro @ltN_i (@eqB_b))))))))))))))))))))))
theorem SA : type_of% (And.intro @cB_b (And.intro @cT_t (And.intro @nth_z (And.intro @nth_1 (And.intro @cK_b (And.intro @cK_i (And.intro @ifB_t (And.intro @ifB_f (And.intro @sel_t (And.intro @sel_f (And.intro @gsel_tt (And.intro @gsel_tf (And.intro @gsel_ft (And.intro @gsel_ff (And.intro @gsel_u (And.intro @gd_tt (And.intro @gd_tf (And.intro @gd_ft (And.intro @gd_ff (And.intro @gd_u (And.intro @jn_n (And.intro @jn_r (And.intro @blk_n (And.intro @blk_r (And.intro @cl_r (And.intro @iQuo_i (And.intro @iRem_i (And.intro @iConv_i (And.intro @bNot_b (And.intro @bnot_e (And.intro @w63_in (And.intro @w31_in (And.intro @ww3131 (And.intro @ww6363 (And.intro @ww3163 (And.intro @ww6331 (And.intro @ww3231 (And.intro @ww3263 (And.intro @ww6463 (And.intro @ww6364 (And.intro @sh31 (And.intro @sh63 (And.intro @sl63 (And.intro @m31 (And.intro @m63 (And.intro @n63 (And.intro @s5a (And.intro @s5b (And.intro @s6a (And.intro @s6b (And.intro @b31 (And.intro @b32 (And.intro @b63 (And.intro @c63 (And.intro @c64 (And.intro @d64 (And.intro @iShl_c (And.intro @iShr_c (And.intro @sr3 (And.intro @sr6 (@sr7))))))))))))))))))))))))))))))))))))))))))))))))))))))))))))) := And.intro @cB_b (And.intro @cT_t (And.intro @nth_z (And.intro @nth_1 (And.intro @cK_b (And.intro @cK_i (And.intro @ifB_t (And.intro @ifB_f (And.intro @sel_t (And.intro @sel_f (And.intro @gsel_tt (And.intro @gsel_tf (And.intro @gsel_ft (And.intro @gsel_ff (And.intro @gsel_u (And.intro @gd_tt (And.intro @gd_tf (And.intro @gd_ft (And.intro @gd_ff (And.intro @gd_u (And.intro @jn_n (And.intro @jn_r (And.intro @blk_n (And.intro @blk_r (And.intro @cl_r (And.intro @iQuo_i (And.intro @iRem_i (And.intro @iConv_i (And.intro @bNot_b (And.intro @bnot_e (And.intro @w63_in (And.intro @w31_in (And.intro @ww3131 (And.intro @ww6363 (And.intro @ww3163 (And.intro @ww6331 (And.intro @ww3231 (And.intro @ww3263 (And.intro @ww6463 (And.intro @ww6364 (And.intro @sh31 (And.intro @sh63 (And.intro @sl63 (And.intro @m31 (And.intro @m63 (And.intro @n63 (And.intro @s5a (And.intro @s5b (And.intro @s6a (And.intro @s6b (And.intro @b31 (And.intro @b32 (And.intro @b63 (And.intro @c63 (And.intro @c64 (And.intro @d64 (And.intro @iShl_c (And.intro @iShr_c (And.intro @sr3 (And.intro @sr6 (@sr7))))))))))))))))))))))))))))))))))))))))))))))))))))))))))))
end Go.AM
section
namespace Go.Proofs.YtnpfppddongbhaaDoor
open Go Go.AM
set_option autoImplicit false
theorem lenS_s (n x : Nat) (k : AV → Res) : lenS (.str n x) k = k (.int 63 (n : Int)) := of_eq_true (eq_self _)
theorem sIdx_s (n x : Nat) (c j : Nat) (hj : j < n) (k : AV → Res) : sIdx (.str n x) (.int c (j : Int)) k = k (.int 8 (byteAt x j : Int)) := by
  have e : sIdx (.str n x) (.int c (j : Int)) k = ifB (Nat.blt j n) (k (.int 8 (byteAt x j : Int))) .fail := rfl
  rw [e, (blt_iff _ _).2 hj]; rfl
theorem byteAt_lt (x j : Nat) : byteAt x j < 256 := Nat.mod_lt _ (by decide)
theorem bld1 (c : Nat) (m : Int) (k : AV → Res) : bld [(false, 1, .int c m)] k = k (avL [.int c m]) := of_eq_true (eq_self _)
theorem bld0 (k : AV → Res) : bld [] k = k (avL []) := of_eq_true (eq_self _)
theorem toU16n (a : Nat) : toU 16 (a : Int) = a % 65536 := by have := toU16 (a : Int); omega
theorem toU8n (a : Nat) : toU 8 (a : Int) = a % 256 := by have := toU8 (a : Int); omega
theorem w16n (a : Nat) : wrapC 16 (a : Int) = ((a % 65536 : Nat) : Int) := by rw [w16]; omega
theorem w8n (a : Nat) : wrapC 8 (a : Int) = ((a % 256 : Nat) : Int) := by rw [w8]; omega
theorem k16 : toU 16 224 = 224 ∧ toU 16 31 = 31 ∧ toU 16 240 = 240 ∧ toU 16 15 = 15 := by decide +kernel
theorem k8 : toU 8 224 = 224 ∧ toU 8 31 = 31 ∧ toU 8 240 = 240 ∧ toU 8 15 = 15 ∧ toU 8 192 = 192 ∧ toU 8 63 = 63 := by decide +kernel
def ct (n : Nat) (Y : Nat → Nat) (i : Nat) : Bool := decide (i < n) && decide (128 ≤ Y i ∧ Y i < 192)
theorem ct_bits : ∀ y < 256, ((((Nat.land (y % 256) 192 % 256 : Nat)) : Int) == 128) = decide (128 ≤ y ∧ y < 192) := by decide +kernel
theorem t72 (n x i : Nat) (h : Hp) : s72 [.str n x, .int 63 (i : Int)] h = .ret (.bool (ct n (byteAt x) i)) h := by
  by_cases hi : i < n
  · have h1 : (i : Int) < (n : Int) := by omega
    have hb := ct_bits _ (byteAt_lt x i)
    simp only [↓s72, ↓lenS_s, h1, sIdx_s n x 63 i hi, toU8n, k8, w8n, ↓SD, SA, Int.ofNat_eq_natCast, Int.cast_ofNat_Int, Int.reduceBEq, Int.reduceAdd, Int.reduceNeg, Int.reduceNegSucc, Int.reduceLT, Int.reduceLE, Int.reduceMul, Int.reduceTMod, Int.reduceSub, Int.reduceBNe, Bool.not_true, Bool.not_false, decide_true, decide_false, ne_eq, not_false_eq_true, Int.reduceEq, reduceCtorEq]
    unfold ct
    simp only [hb, hi, decide_true, Bool.true_and]
  · have h1 : ¬ (i : Int) < (n : Int) := by omega
    simp only [↓s72, ↓lenS_s, h1, ↓SD, SA, Int.ofNat_eq_natCast, Int.cast_ofNat_Int, Int.reduceBEq, Int.reduceAdd, Int.reduceNeg, Int.reduceNegSucc, Int.reduceLT, Int.reduceLE, Int.reduceMul, Int.reduceTMod, Int.reduceSub, Int.reduceBNe, Bool.not_true, Bool.not_false, decide_true, decide_false, ne_eq, not_false_eq_true, Int.reduceEq, reduceCtorEq]
    unfold ct
    simp only [hi, decide_false, Bool.false_and]
theorem t74 (n x i : Nat) (h : Hp) : s74 [.str n x, .int 63 (i : Int)] h = .ret (.tup (.cons (.int 16 (if ct n (byteAt x) i = true then ((byteAt x i % 64 : Nat) : Int) else 0)) (.cons (.bool (ct n (byteAt x) i)) .nil))) h := by
  by_cases hi : i < n
  · have h1 : (i : Int) < (n : Int) := by omega
    have hb := ct_bits _ (byteAt_lt x i)
    by_cases hy : 128 ≤ byteAt x i ∧ byteAt x i < 192
    · have e1 : ((((Nat.land (byteAt x i % 256) 192 % 256 : Nat)) : Int) == 128) = true := by rw [hb]; simpa using hy
      have e2 : Nat.land (byteAt x i % 256) 63 % 256 % 65536 = byteAt x i % 64 := by rw [land63]; omega
      simp only [↓s74, ↓lenS_s, h1, sIdx_s n x 63 i hi, toU8n, k8, w8n, w16n, e1, e2, ↓SD, SA, Int.ofNat_eq_natCast, Int.cast_ofNat_Int, Int.reduceBEq, Int.reduceAdd, Int.reduceNeg, Int.reduceNegSucc, Int.reduceLT, Int.reduceLE, Int.reduceMul, Int.reduceTMod, Int.reduceSub, Int.reduceBNe, Bool.not_true, Bool.not_false, decide_true, decide_false, ne_eq, not_false_eq_true, Int.reduceEq, reduceCtorEq]
      unfold ct
      simp [hi, hy]
    · have e1 : ((((Nat.land (byteAt x i % 256) 192 % 256 : Nat)) : Int) == 128) = false := by rw [hb]; simpa using hy
      simp only [↓s74, ↓lenS_s, h1, sIdx_s n x 63 i hi, toU8n, k8, w8n, w16n, e1, ↓SD, SA, Int.ofNat_eq_natCast, Int.cast_ofNat_Int, Int.reduceBEq, Int.reduceAdd, Int.reduceNeg, Int.reduceNegSucc, Int.reduceLT, Int.reduceLE, Int.reduceMul, Int.reduceTMod, Int.reduceSub, Int.reduceBNe, Bool.not_true, Bool.not_false, decide_true, decide_false, ne_eq, not_false_eq_true, Int.reduceEq, reduceCtorEq]
      unfold ct
      simp [hi]
      omega
  · have h1 : ¬ (i : Int) < (n : Int) := by omega
    simp only [↓s74, ↓lenS_s, h1, ↓SD, SA, Int.ofNat_eq_natCast, Int.cast_ofNat_Int, Int.reduceBEq, Int.reduceAdd, Int.reduceNeg, Int.reduceNegSucc, Int.reduceLT, Int.reduceLE, Int.reduceMul, Int.reduceTMod, Int.reduceSub, Int.reduceBNe, Bool.not_true, Bool.not_false, decide_true, decide_false, ne_eq, not_false_eq_true, Int.reduceEq, reduceCtorEq]
    unfold ct
    simp [hi]
end Go.Proofs.YtnpfppddongbhaaDoor
end

section
namespace Go.Proofs.YtnpfppddongbhaaDoor
open Go Go.AM
set_option autoImplicit false
theorem shl6n (a : Nat) (d : Nat) (k : AV → Res) : iShl (.int 16 (a : Int)) (.int d 6) k = k (.int 16 ((a * 64 % 65536 : Nat) : Int)) := by
  have e : iShl (.int 16 (a : Int)) (.int d 6) k = k (.int 16 (wrapC 16 ((a : Int) * 64))) := iShl_i k 16 a d 6 (by decide)
  rw [e, w16]; congr 2
theorem shl12n (a : Nat) (d : Nat) (k : AV → Res) : iShl (.int 16 (a : Int)) (.int d 12) k = k (.int 16 ((a * 4096 % 65536 : Nat) : Int)) := by
  have e : iShl (.int 16 (a : Int)) (.int d 12) k = k (.int 16 (wrapC 16 ((a : Int) * 4096))) := iShl_i k 16 a d 12 (by decide)
  rw [e, w16]; congr 2
theorem or16n (a b : Nat) (k : AV → Res) : iOr (.int 16 (a : Int)) (.int 16 (b : Int)) k = k (.int 16 ((Nat.lor (a % 65536) (b % 65536) % 65536 : Nat) : Int)) := by
  rw [iOr_i, toU16n, toU16n]
  show k (.int 16 (wrapC 16 ((Nat.lor (a % 65536) (b % 65536) : Nat) : Int))) = _
  rw [w16n]
def v2 (c y : Nat) : Nat := c % 32 * 64 + y % 64
def v3 (c y z : Nat) : Nat := c % 16 * 4096 + y % 64 * 64 + z % 64
theorem land15 (x : Nat) : Nat.land x 15 = x % 16 := Nat.and_two_pow_sub_one_eq_mod x 4
theorem lor64 (a b : Nat) (hb : b < 64) : Nat.lor (a * 64) b = a * 64 + b := by
  have := Nat.two_pow_add_eq_or_of_lt (i := 6) hb a
  rw [Nat.mul_comm]
  exact this.symm
theorem lor4096 (a b : Nat) (hb : b < 4096) : Nat.lor (a * 4096) b = a * 4096 + b := by
  have := Nat.two_pow_add_eq_or_of_lt (i := 12) hb a
  rw [Nat.mul_comm]
  exact this.symm
theorem val2 (c y : Nat) : Nat.lor (Nat.land c 31 % 65536 * 64 % 65536 % 65536) (Nat.land (y % 256) 63 % 256 % 65536 % 65536) % 65536 = v2 c y := by
  rw [land31, land63, show c % 32 % 65536 * 64 % 65536 % 65536 = c % 32 * 64 by omega, show y % 256 % 64 % 256 % 65536 % 65536 = y % 64 by omega, lor64 _ _ (by omega)]
  unfold v2; omega
theorem val3 (c y z : Nat) : Nat.lor (Nat.lor (Nat.land c 15 % 65536 * 4096 % 65536 % 65536) (Nat.land (y % 256) 63 % 256 % 65536 * 64 % 65536 % 65536) % 65536 % 65536) (Nat.land (z % 256) 63 % 256 % 65536 % 65536) % 65536 = v3 c y z := by
  rw [land15, land63, land63, show c % 16 % 65536 * 4096 % 65536 % 65536 = c % 16 * 4096 by omega, show y % 256 % 64 % 256 % 65536 * 64 % 65536 % 65536 = y % 64 * 64 by omega,
    show z % 256 % 64 % 256 % 65536 % 65536 = z % 64 by omega, lor4096 _ _ (by omega),
    show (c % 16 * 4096 + y % 64 * 64) % 65536 % 65536 = (c % 16 * 64 + y % 64) * 64 by omega, lor64 _ _ (by omega)]
  unfold v3; omega
def dec (n : Nat) (Y : Nat → Nat) : Nat → Nat → Option (List Nat)
  | 0, _ => some []
  | f + 1, i =>
    if i < n then
      if 0 < Y i ∧ Y i < 128 then (dec n Y f (i + 1)).map (Y i :: ·)
      else if (192 ≤ Y i ∧ Y i < 224) ∧ ct n Y (i + 1) = true then (dec n Y f (i + 2)).map (v2 (Y i) (Y (i + 1)) :: ·)
      else if (224 ≤ Y i ∧ Y i < 240) ∧ ct n Y (i + 1) = true ∧ ct n Y (i + 2) = true then (dec n Y f (i + 3)).map (v3 (Y i) (Y (i + 1)) (Y (i + 2)) :: ·)
      else none
    else some []
theorem lp_n {F : List AV → Hp → Res} {vs vs' : List AV} {h h' : Hp} (m : Nat) (e : F vs h = .norm vs' h') : lp F (m + 1) vs h = lp F m vs' h' := by
  have : lp F (m + 1) vs h = Res.rec (motive := fun _ => Res) .fail (lp F m) (fun i vs h => .exit i vs h) (fun v h => .ret v h) (F vs h) := rfl
  rw [this, e]
theorem lp_x {F : List AV → Hp → Res} {vs vs' : List AV} {h h' : Hp} {i : Nat} (m : Nat) (e : F vs h = .exit i vs' h') : lp F (m + 1) vs h = .exit i vs' h' := by
  have : lp F (m + 1) vs h = Res.rec (motive := fun _ => Res) .fail (lp F m) (fun i vs h => .exit i vs h) (fun v h => .ret v h) (F vs h) := rfl
  rw [this, e]
theorem lp_r {F : List AV → Hp → Res} {vs : List AV} {v : AV} {h h' : Hp} (m : Nat) (e : F vs h = .ret v h') : lp F (m + 1) vs h = .ret v h' := by
  have : lp F (m + 1) vs h = Res.rec (motive := fun _ => Res) .fail (lp F m) (fun i vs h => .exit i vs h) (fun v h => .ret v h) (F vs h) := rfl
  rw [this, e]
theorem push {h : Hp} {N : Nat} {u : AV} {l : List AV} (hN : N ≤ h.nb) (hw : Wf h) (hu : Gr h N u l) {by_ : Nat} (v : AV) (hv : one v = true) (hb : (l.length + 1) * by_ ≤ 140737488355328) (hb2 : l.length + 1 ≤ 9223372036854775807) :
    ∃ u' h', (∀ k : AV → Hp → Res, (mkS h 1 1 (avL [v]) fun w h1 => apd h1 1 by_ u w k) = k u' h') ∧ Gr h' N u' (l ++ [v]) ∧ To (fun b => N ≤ b) h h' ∧ Wf h' ∧ N ≤ h'.nb := by
  obtain ⟨t, t1, t2⟩ := lay_list [v] .e 0 (by simpa using hv)
  obtain ⟨o1, o2⟩ := nw_own hw 1 .nil t
  have hrun : ∀ k : AV → Hp → Res, mkS h 1 1 (avL [v]) k = k (.sl h.nb 0 1 1 (some 1)) (nw h 1 .nil t) := fun k => by
    have e : mkS h 1 1 (avL [v]) k = lay (avL [v]) .e 0 fun t m => ifB (Nat.beq m (Nat.mul 1 1)) (k (.sl h.nb 0 1 1 (some 1)) (nw h m .nil t)) .fail := rfl
    rw [e, t1]; rfl
  have ho2 : To (fun b => N ≤ b) h (nw h 1 .nil t) := o2.mono fun _ _ f => f.elim
  have hw1 := o2.wf hw
  have hN1 : N ≤ (nw h 1 .nil t).nb := Nat.le_trans hN o2.nb
  have hu1 : Gr (nw h 1 .nil t) N u l := by
    obtain ⟨g1, g2⟩ := hu
    refine ⟨g1.to o2 (fun _ _ f => f), ?_⟩
    rcases g2 with g2 | g2 | ⟨b, B, q1, q2, q3, q4⟩
    · exact .inl g2
    · exact .inr (.inl g2)
    · refine .inr (.inr ⟨b, B, q1, ?_, q3, q4⟩)
      rcases g1.2 with ⟨e, -⟩ | ⟨e, -⟩ | ⟨b', o', c', B', e, -, h4, -⟩
      · rw [q1] at e; cases e
      · rw [q1] at e; cases e
      · rw [q1] at e; cases e
        rw [o2.get _ h4.lt (fun f => f)]; exact q2
  have hy : Sl (nw h 1 .nil t) (fun _ => True) (.sl h.nb 0 1 1 (some 1)) [v] := by
    refine ⟨by simpa using hv, .inr (.inr ⟨h.nb, 0, _, _, rfl, trivial, o1.rd, fun _ => trivial, (fun c e => by cases e; exact Nat.le_refl _), fun i hi => ?_⟩)⟩
    have hi0 : i = 0 := by simpa using hi
    subst hi0
    rw [at_in _ (show 0 + 0 < 1 by decide)]
    simp [t2]
  obtain ⟨u', h', e1, e2, e3⟩ := apd_gr (by_ := by_) hN1 hw1 hu1 hy (by simpa using hb) (by simpa using hb2)
  exact ⟨u', h', fun k => by rw [hrun, e1], e2, ho2.trans e3, e3.wf hw1, Nat.le_trans hN1 e3.nb⟩
end Go.Proofs.YtnpfppddongbhaaDoor
end

section
namespace Go.Proofs.YtnpfppddongbhaaDoor
open Go Go.AM
set_option autoImplicit false
theorem b_224 : ∀ c < 256, ((((Nat.land (c % 65536) 224 % 65536 : Nat)) : Int) == 192) = decide (192 ≤ c ∧ c < 224) := by decide +kernel
theorem b_240 : ∀ c < 256, ((((Nat.land (c % 65536) 240 % 65536 : Nat)) : Int) == 224) = decide (224 ≤ c ∧ c < 240) := by decide +kernel
theorem i63 (i : Nat) (hi : i < 1000000) : wrapC 63 (i : Int) = (i : Int) := w63_in _ (by omega) (by omega)
def Comes (r : Res) (N : Nat) (h : Hp) (l : List AV) : Option (List Nat) → Prop
  | some t => ∃ u' h', r = .exit 0 [u'] h' ∧ Gr h' N u' (l ++ t.map fun (x : Nat) => AV.int 16 (x : Int)) ∧ To (fun b => N ≤ b) h h' ∧ Wf h'
  | none => ∃ h', r = .ret (.tup (.cons .nils (.cons (.bool false) .nil))) h' ∧ To (fun b => N ≤ b) h h' ∧ Wf h'
theorem Comes.step {r : Res} {N : Nat} {h h1 : Hp} {l : List AV} {v : Nat} {o : Option (List Nat)} (ht : To (fun b => N ≤ b) h h1) (hc : Comes r N h1 (l ++ [AV.int 16 (v : Int)]) o) : Comes r N h l (o.map (v :: ·)) := by
  cases o with
  | none => obtain ⟨h', e1, e2, e3⟩ := hc; exact ⟨h', e1, ht.trans e2, e3⟩
  | some t =>
    obtain ⟨u', h', e1, e2, e3, e4⟩ := hc
    exact ⟨u', h', e1, by simpa using e2, ht.trans e3, e4⟩
theorem loop49 (n x N : Nat) (hn : n ≤ 100000) : ∀ (f m i : Nat) (h : Hp) (u : AV) (l : List AV), n - i ≤ f → f < m → i ≤ n → l.length ≤ i → Gr h N u l → N ≤ h.nb → Wf h →
    Comes (lp L49n0 m [.str n x, u, .int 63 (i : Int)] h) N h l (dec n (byteAt x) f i) := by
  have stop : ∀ (f m i : Nat) (h : Hp) (u : AV) (l : List AV), f < m → ¬ i < n → Gr h N u l → Wf h → Comes (lp L49n0 m [.str n x, u, .int 63 (i : Int)] h) N h l (some []) := by
    intro f m i h u l hm hi hu hw
    obtain ⟨m, rfl⟩ : ∃ k, m = k + 1 := ⟨m - 1, by omega⟩
    have e1 : ¬ (i : Int) < (n : Int) := by omega
    have e : L49n0 [.str n x, u, .int 63 (i : Int)] h = .exit 0 [u] h := by simp only [↓L49n0, ↓lenS_s, e1, ↓SD, SA, Int.ofNat_eq_natCast, Int.cast_ofNat_Int, Int.reduceBEq, Int.reduceAdd, Int.reduceNeg, Int.reduceNegSucc, Int.reduceLT, Int.reduceLE, Int.reduceMul, Int.reduceTMod, Int.reduceSub, Int.reduceBNe, Bool.not_true, Bool.not_false, decide_true, decide_false, ne_eq, not_false_eq_true, Int.reduceEq, reduceCtorEq]
    exact ⟨u, h, lp_x m e, by simpa using hu, To.refl _ _, hw⟩
  intro f
  induction f with
  | zero =>
    intro m i h u l hf hm hi hl hu hN hw
    exact stop 0 m i h u l hm (by omega) hu hw
  | succ f ih =>
    intro m i h u l hf hm hi hl hu hN hw
    by_cases hin : i < n
    · obtain ⟨m, rfl⟩ : ∃ k, m = k + 1 := ⟨m - 1, by omega⟩
      have hb := byteAt_lt x i
      have e1 : (i : Int) < (n : Int) := by omega
      have e4 : byteAt x i % 65536 = byteAt x i := by omega
      unfold dec
      rw [if_pos hin]
      by_cases c1 : 0 < byteAt x i ∧ byteAt x i < 128
      · rw [if_pos c1]
        have e2 : (0 : Int) < (byteAt x i : Int) := by omega
        have e3 : (byteAt x i : Int) < 128 := by omega
        have e6 : (i : Int) + 1 = ((i + 1 : Nat) : Int) := by omega
        obtain ⟨u', h', p1, p2, p3, p4, p5⟩ := push hN hw hu (by_ := 2) (.int 16 (byteAt x i : Int)) rfl (by omega) (by omega)
        have e : L49n0 [.str n x, u, .int 63 (i : Int)] h = .norm [.str n x, u', .int 63 ((i + 1 : Nat) : Int)] h' := by
          simp only [↓L49n0, ↓lenS_s, e1, sIdx_s n x 63 i hin, w16n, e2, e3, e4, e6, i63 (i + 1) (by omega), ↓bld1, bld1, ↓p1, ↓SD, SA, Int.ofNat_eq_natCast, Int.cast_ofNat_Int, Int.reduceBEq, Int.reduceAdd, Int.reduceNeg, Int.reduceNegSucc, Int.reduceLT, Int.reduceLE, Int.reduceMul, Int.reduceTMod, Int.reduceSub, Int.reduceBNe, Bool.not_true, Bool.not_false, decide_true, decide_false, ne_eq, not_false_eq_true, Int.reduceEq, reduceCtorEq]
        rw [lp_n m e]
        exact Comes.step p3 (ih m (i + 1) h' u' _ (by omega) (by omega) (by omega) (by simp; omega) p2 p5 p4)
      · rw [if_neg c1]
        have first : ∀ {r : Res}, (∀ (b : Bool), (0 : Int) < (byteAt x i : Int) ↔ 0 < byteAt x i) → r = r := fun _ => rfl
        have t1 : (decide ((0 : Int) < (byteAt x i : Int))) = false ∨ ((decide ((0 : Int) < (byteAt x i : Int))) = true ∧ (decide ((byteAt x i : Int) < 128)) = false) := by
          by_cases z : 0 < byteAt x i
          · exact .inr ⟨by simpa using z, by simp; omega⟩
          · exact .inl (by simp; omega)
        by_cases c2 : (192 ≤ byteAt x i ∧ byteAt x i < 224) ∧ ct n (byteAt x) (i + 1) = true
        · rw [if_pos c2]
          have e5 : ((((Nat.land (byteAt x i) 224 % 65536 : Nat)) : Int) == 192) = true := by have := b_224 _ hb; rw [e4] at this; rw [this]; simpa using c2.1
          have hct := c2.2
          have hi1 : i + 1 < n := by unfold ct at hct; simp at hct; omega
          have e6 : (i : Int) + 1 = ((i + 1 : Nat) : Int) := by omega
          have e7 : (i : Int) + 2 = ((i + 2 : Nat) : Int) := by omega
          have e2 : (0 : Int) < (byteAt x i : Int) := by omega
          have e3 : ¬ (byteAt x i : Int) < 128 := by omega
          obtain ⟨u', h', p1, p2, p3, p4, p5⟩ := push hN hw hu (by_ := 2) (.int 16 (v2 (byteAt x i) (byteAt x (i + 1)) : Int)) rfl (by omega) (by omega)
          have e : L49n0 [.str n x, u, .int 63 (i : Int)] h = .norm [.str n x, u', .int 63 ((i + 2 : Nat) : Int)] h' := by
            simp only [↓L49n0, ↓lenS_s, e1, sIdx_s n x 63 i hin, sIdx_s n x 63 (i + 1) hi1, w16n, e2, e3, e4, e5, e6, e7, i63 (i + 1) (by omega), i63 (i + 2) (by omega), t72, hct, toU16n, k16, toU8n, k8, w8n, shl6n, or16n, val2, ↓bld1, bld1, ↓p1, ↓SD, SA, Int.ofNat_eq_natCast, Int.cast_ofNat_Int, Int.reduceBEq, Int.reduceAdd, Int.reduceNeg, Int.reduceNegSucc, Int.reduceLT, Int.reduceLE, Int.reduceMul, Int.reduceTMod, Int.reduceSub, Int.reduceBNe, Bool.not_true, Bool.not_false, decide_true, decide_false, ne_eq, not_false_eq_true, Int.reduceEq, reduceCtorEq]
          rw [lp_n m e]
          exact Comes.step p3 (ih m (i + 2) h' u' _ (by omega) (by omega) (by omega) (by simp; omega) p2 p5 p4)
        · rw [if_neg c2]
          by_cases c3 : (224 ≤ byteAt x i ∧ byteAt x i < 240) ∧ ct n (byteAt x) (i + 1) = true ∧ ct n (byteAt x) (i + 2) = true
          · rw [if_pos c3]
            have e5 : ((((Nat.land (byteAt x i) 224 % 65536 : Nat)) : Int) == 192) = false := by have := b_224 _ hb; rw [e4] at this; rw [this]; simp; omega
            have e8 : ((((Nat.land (byteAt x i) 240 % 65536 : Nat)) : Int) == 224) = true := by have := b_240 _ hb; rw [e4] at this; rw [this]; simpa using c3.1
            obtain ⟨hr, hct, hct2⟩ := c3
            have hi1 : i + 2 < n := by unfold ct at hct2; simp at hct2; omega
            have e6 : (i : Int) + 1 = ((i + 1 : Nat) : Int) := by omega
            have e7 : (i : Int) + 2 = ((i + 2 : Nat) : Int) := by omega
            have e9 : (i : Int) + 3 = ((i + 3 : Nat) : Int) := by omega
            have e2 : (0 : Int) < (byteAt x i : Int) := by omega
            have e3 : ¬ (byteAt x i : Int) < 128 := by omega
            obtain ⟨u', h', p1, p2, p3, p4, p5⟩ := push hN hw hu (by_ := 2) (.int 16 (v3 (byteAt x i) (byteAt x (i + 1)) (byteAt x (i + 2)) : Int)) rfl (by omega) (by omega)
            have e : L49n0 [.str n x, u, .int 63 (i : Int)] h = .norm [.str n x, u', .int 63 ((i + 3 : Nat) : Int)] h' := by
              simp only [↓L49n0, ↓lenS_s, e1, sIdx_s n x 63 i hin, sIdx_s n x 63 (i + 1) (by omega), sIdx_s n x 63 (i + 2) hi1, w16n, e2, e3, e4, e5, e6, e7, e8, e9, i63 (i + 1) (by omega), i63 (i + 2) (by omega), i63 (i + 3) (by omega), t72, hct, hct2, toU16n, k16, toU8n, k8, w8n, shl6n, shl12n, or16n, val3, ↓bld1, bld1, ↓p1, ↓SD, SA, Int.ofNat_eq_natCast, Int.cast_ofNat_Int, Int.reduceBEq, Int.reduceAdd, Int.reduceNeg, Int.reduceNegSucc, Int.reduceLT, Int.reduceLE, Int.reduceMul, Int.reduceTMod, Int.reduceSub, Int.reduceBNe, Bool.not_true, Bool.not_false, decide_true, decide_false, ne_eq, not_false_eq_true, Int.reduceEq, reduceCtorEq]
            rw [lp_n m e]
            exact Comes.step p3 (ih m (i + 3) h' u' _ (by omega) (by omega) (by omega) (by simp; omega) p2 p5 p4)
          · rw [if_neg c3]
            have e6 : (i : Int) + 1 = ((i + 1 : Nat) : Int) := by omega
            have e7 : (i : Int) + 2 = ((i + 2 : Nat) : Int) := by omega
            have q5 : ((((Nat.land (byteAt x i) 224 % 65536 : Nat)) : Int) == 192) = decide (192 ≤ byteAt x i ∧ byteAt x i < 224) := by have := b_224 _ hb; rwa [e4] at this
            have q8 : ((((Nat.land (byteAt x i) 240 % 65536 : Nat)) : Int) == 224) = decide (224 ≤ byteAt x i ∧ byteAt x i < 240) := by have := b_240 _ hb; rwa [e4] at this
            have e : L49n0 [.str n x, u, .int 63 (i : Int)] h = .ret (.tup (.cons .nils (.cons (.bool false) .nil))) h := by
              by_cases d1 : 192 ≤ byteAt x i ∧ byteAt x i < 224
              · have a5 : decide (192 ≤ byteAt x i ∧ byteAt x i < 224) = true := by simpa using d1
                have a8 : decide (224 ≤ byteAt x i ∧ byteAt x i < 240) = false := by simp; omega
                have a9 : ct n (byteAt x) (i + 1) = false := by
                  cases hq : ct n (byteAt x) (i + 1) with
                  | false => rfl
                  | true => exact absurd ⟨d1, hq⟩ c2
                rcases t1 with t1 | ⟨t1, t2⟩
                · simp only [↓L49n0, ↓lenS_s, e1, sIdx_s n x 63 i hin, w16n, t1, e4, q5, q8, a5, a8, a9, e6, i63 (i + 1) (by omega), t72, toU16n, k16, cK_nl, ↓SD, SA, Int.ofNat_eq_natCast, Int.cast_ofNat_Int, Int.reduceBEq, Int.reduceAdd, Int.reduceNeg, Int.reduceNegSucc, Int.reduceLT, Int.reduceLE, Int.reduceMul, Int.reduceTMod, Int.reduceSub, Int.reduceBNe, Bool.not_true, Bool.not_false, decide_true, decide_false, ne_eq, not_false_eq_true, Int.reduceEq, reduceCtorEq]
                · simp only [↓L49n0, ↓lenS_s, e1, sIdx_s n x 63 i hin, w16n, t1, t2, e4, q5, q8, a5, a8, a9, e6, i63 (i + 1) (by omega), t72, toU16n, k16, cK_nl, ↓SD, SA, Int.ofNat_eq_natCast, Int.cast_ofNat_Int, Int.reduceBEq, Int.reduceAdd, Int.reduceNeg, Int.reduceNegSucc, Int.reduceLT, Int.reduceLE, Int.reduceMul, Int.reduceTMod, Int.reduceSub, Int.reduceBNe, Bool.not_true, Bool.not_false, decide_true, decide_false, ne_eq, not_false_eq_true, Int.reduceEq, reduceCtorEq]
              · have a5 : decide (192 ≤ byteAt x i ∧ byteAt x i < 224) = false := by simpa using d1
                by_cases d2 : 224 ≤ byteAt x i ∧ byteAt x i < 240
                · have a8 : decide (224 ≤ byteAt x i ∧ byteAt x i < 240) = true := by simpa using d2
                  cases g1 : ct n (byteAt x) (i + 1) with
                  | false =>
                    rcases t1 with t1 | ⟨t1, t2⟩
                    · simp only [↓L49n0, ↓lenS_s, e1, sIdx_s n x 63 i hin, w16n, t1, e4, q5, q8, a5, a8, g1, e6, i63 (i + 1) (by omega), t72, toU16n, k16, cK_nl, ↓SD, SA, Int.ofNat_eq_natCast, Int.cast_ofNat_Int, Int.reduceBEq, Int.reduceAdd, Int.reduceNeg, Int.reduceNegSucc, Int.reduceLT, Int.reduceLE, Int.reduceMul, Int.reduceTMod, Int.reduceSub, Int.reduceBNe, Bool.not_true, Bool.not_false, decide_true, decide_false, ne_eq, not_false_eq_true, Int.reduceEq, reduceCtorEq]
                    · simp only [↓L49n0, ↓lenS_s, e1, sIdx_s n x 63 i hin, w16n, t1, t2, e4, q5, q8, a5, a8, g1, e6, i63 (i + 1) (by omega), t72, toU16n, k16, cK_nl, ↓SD, SA, Int.ofNat_eq_natCast, Int.cast_ofNat_Int, Int.reduceBEq, Int.reduceAdd, Int.reduceNeg, Int.reduceNegSucc, Int.reduceLT, Int.reduceLE, Int.reduceMul, Int.reduceTMod, Int.reduceSub, Int.reduceBNe, Bool.not_true, Bool.not_false, decide_true, decide_false, ne_eq, not_false_eq_true, Int.reduceEq, reduceCtorEq]
                  | true =>
                    have g2 : ct n (byteAt x) (i + 2) = false := by
                      cases hq : ct n (byteAt x) (i + 2) with
                      | false => rfl
                      | true => exact absurd ⟨d2, g1, hq⟩ c3
                    rcases t1 with t1 | ⟨t1, t2⟩
                    · simp only [↓L49n0, ↓lenS_s, e1, sIdx_s n x 63 i hin, w16n, t1, e4, q5, q8, a5, a8, g1, g2, e6, e7, i63 (i + 1) (by omega), i63 (i + 2) (by omega), t72, toU16n, k16, cK_nl, ↓SD, SA, Int.ofNat_eq_natCast, Int.cast_ofNat_Int, Int.reduceBEq, Int.reduceAdd, Int.reduceNeg, Int.reduceNegSucc, Int.reduceLT, Int.reduceLE, Int.reduceMul, Int.reduceTMod, Int.reduceSub, Int.reduceBNe, Bool.not_true, Bool.not_false, decide_true, decide_false, ne_eq, not_false_eq_true, Int.reduceEq, reduceCtorEq]
                    · simp only [↓L49n0, ↓lenS_s, e1, sIdx_s n x 63 i hin, w16n, t1, t2, e4, q5, q8, a5, a8, g1, g2, e6, e7, i63 (i + 1) (by omega), i63 (i + 2) (by omega), t72, toU16n, k16, cK_nl, ↓SD, SA, Int.ofNat_eq_natCast, Int.cast_ofNat_Int, Int.reduceBEq, Int.reduceAdd, Int.reduceNeg, Int.reduceNegSucc, Int.reduceLT, Int.reduceLE, Int.reduceMul, Int.reduceTMod, Int.reduceSub, Int.reduceBNe, Bool.not_true, Bool.not_false, decide_true, decide_false, ne_eq, not_false_eq_true, Int.reduceEq, reduceCtorEq]
                · have a8 : decide (224 ≤ byteAt x i ∧ byteAt x i < 240) = false := by simpa using d2
                  rcases t1 with t1 | ⟨t1, t2⟩
                  · simp only [↓L49n0, ↓lenS_s, e1, sIdx_s n x 63 i hin, w16n, t1, e4, q5, q8, a5, a8, toU16n, k16, cK_nl, ↓SD, SA, Int.ofNat_eq_natCast, Int.cast_ofNat_Int, Int.reduceBEq, Int.reduceAdd, Int.reduceNeg, Int.reduceNegSucc, Int.reduceLT, Int.reduceLE, Int.reduceMul, Int.reduceTMod, Int.reduceSub, Int.reduceBNe, Bool.not_true, Bool.not_false, decide_true, decide_false, ne_eq, not_false_eq_true, Int.reduceEq, reduceCtorEq]
                  · simp only [↓L49n0, ↓lenS_s, e1, sIdx_s n x 63 i hin, w16n, t1, t2, e4, q5, q8, a5, a8, toU16n, k16, cK_nl, ↓SD, SA, Int.ofNat_eq_natCast, Int.cast_ofNat_Int, Int.reduceBEq, Int.reduceAdd, Int.reduceNeg, Int.reduceNegSucc, Int.reduceLT, Int.reduceLE, Int.reduceMul, Int.reduceTMod, Int.reduceSub, Int.reduceBNe, Bool.not_true, Bool.not_false, decide_true, decide_false, ne_eq, not_false_eq_true, Int.reduceEq, reduceCtorEq]
            exact ⟨h, lp_r m e, To.refl _ _, hw⟩
    · have : dec n (byteAt x) (f + 1) i = some [] := by unfold dec; rw [if_neg hin]
      rw [this]
      exact stop (f + 1) m i h u l hm hin hu hw
end Go.Proofs.YtnpfppddongbhaaDoor
end

section
namespace Go.Proofs.YtnpfppddongbhaaDoor
open Go Go.AM
set_option autoImplicit false
theorem c_224 : ∀ c < 256, ((((Nat.land (c % 256) 224 % 256 : Nat)) : Int) == 192) = decide (192 ≤ c ∧ c < 224) := by decide +kernel
theorem c_240 : ∀ c < 256, ((((Nat.land (c % 256) 240 % 256 : Nat)) : Int) == 224) = decide (224 ≤ c ∧ c < 240) := by decide +kernel
theorem val2' (c y : Nat) (hc : c < 256) : (Nat.land (c % 256) 31 % 256 % 65536 * 64 % 65536 + y % 64) % 65536 = v2 c y := by
  rw [land31]; unfold v2; omega
theorem val3' (c y z : Nat) (hc : c < 256) : ((Nat.land (c % 256) 15 % 256 % 65536 * 4096 % 65536 + y % 64 * 64 % 65536) % 65536 + z % 64) % 65536 = v3 c y z := by
  rw [land15]; unfold v3; omega
theorem wadd16 (a b : Nat) : wrapC 16 ((a : Int) + (b : Int)) = (((a + b) % 65536 : Nat) : Int) := by rw [w16]; omega
theorem two16 (x : Int) (b : Bool) (k : AV → Res) : cT (.tup (.cons (.int 16 x) (.cons (.bool b) .nil))) k = k (.cons (.int 16 x) (.cons (.bool b) .nil)) := of_eq_true (eq_self _)
theorem loop51 (n x N : Nat) (hn : n ≤ 100000) : ∀ (f m i : Nat) (h : Hp) (u : AV) (l : List AV), n - i ≤ f → f < m → i ≤ n → l.length ≤ i → Gr h N u l → N ≤ h.nb → Wf h →
    Comes (lp L51n0 m [.str n x, u, .int 63 (i : Int)] h) N h l (dec n (byteAt x) f i) := by
  have stop : ∀ (f m i : Nat) (h : Hp) (u : AV) (l : List AV), f < m → ¬ i < n → Gr h N u l → Wf h → Comes (lp L51n0 m [.str n x, u, .int 63 (i : Int)] h) N h l (some []) := by
    intro f m i h u l hm hi hu hw
    obtain ⟨m, rfl⟩ : ∃ k, m = k + 1 := ⟨m - 1, by omega⟩
    have e1 : ¬ (i : Int) < (n : Int) := by omega
    have e : L51n0 [.str n x, u, .int 63 (i : Int)] h = .exit 0 [u] h := by simp only [↓L51n0, ↓lenS_s, e1, ↓SD, SA, Int.ofNat_eq_natCast, Int.cast_ofNat_Int, Int.reduceBEq, Int.reduceAdd, Int.reduceNeg, Int.reduceNegSucc, Int.reduceLT, Int.reduceLE, Int.reduceMul, Int.reduceTMod, Int.reduceSub, Int.reduceBNe, Bool.not_true, Bool.not_false, decide_true, decide_false, ne_eq, not_false_eq_true, Int.reduceEq, reduceCtorEq]
    exact ⟨u, h, lp_x m e, by simpa using hu, To.refl _ _, hw⟩
  intro f
  induction f with
  | zero =>
    intro m i h u l hf hm hi hl hu hN hw
    exact stop 0 m i h u l hm (by omega) hu hw
  | succ f ih =>
    intro m i h u l hf hm hi hl hu hN hw
    by_cases hin : i < n
    · obtain ⟨m, rfl⟩ : ∃ k, m = k + 1 := ⟨m - 1, by omega⟩
      have hb := byteAt_lt x i
      have e1 : (i : Int) < (n : Int) := by omega
      have e4 : byteAt x i % 65536 = byteAt x i := by omega
      have q5 := c_224 _ hb
      have q8 := c_240 _ hb
      unfold dec
      rw [if_pos hin]
      by_cases c1 : 0 < byteAt x i ∧ byteAt x i < 128
      · rw [if_pos c1]
        have e2 : ¬ (byteAt x i : Int) < 1 := by omega
        have e3 : ¬ 127 < (byteAt x i : Int) := by omega
        have e6 : (i : Int) + 1 = ((i + 1 : Nat) : Int) := by omega
        obtain ⟨u', h', p1, p2, p3, p4, p5⟩ := push hN hw hu (by_ := 2) (.int 16 (byteAt x i : Int)) rfl (by omega) (by omega)
        have e : L51n0 [.str n x, u, .int 63 (i : Int)] h = .norm [.str n x, u', .int 63 ((i + 1 : Nat) : Int)] h' := by
          simp only [↓L51n0, ↓lenS_s, e1, sIdx_s n x 63 i hin, w16n, e2, e3, e4, e6, i63 (i + 1) (by omega), ↓bld1, bld1, ↓p1, ↓SD, SA, Int.ofNat_eq_natCast, Int.cast_ofNat_Int, Int.reduceBEq, Int.reduceAdd, Int.reduceNeg, Int.reduceNegSucc, Int.reduceLT, Int.reduceLE, Int.reduceMul, Int.reduceTMod, Int.reduceSub, Int.reduceBNe, Bool.not_true, Bool.not_false, decide_true, decide_false, ne_eq, not_false_eq_true, Int.reduceEq, reduceCtorEq]
        rw [lp_n m e]
        exact Comes.step p3 (ih m (i + 1) h' u' _ (by omega) (by omega) (by omega) (by simp; omega) p2 p5 p4)
      · rw [if_neg c1]
        have t1 : (decide ((byteAt x i : Int) < 1)) = true ∨ ((decide ((byteAt x i : Int) < 1)) = false ∧ (decide (127 < (byteAt x i : Int))) = true) := by
          by_cases z : 0 < byteAt x i
          · exact .inr ⟨by simp; omega, by simp; omega⟩
          · exact .inl (by simp; omega)
        by_cases c2 : (192 ≤ byteAt x i ∧ byteAt x i < 224) ∧ ct n (byteAt x) (i + 1) = true
        · rw [if_pos c2]
          have a5 : decide (192 ≤ byteAt x i ∧ byteAt x i < 224) = true := by simpa using c2.1
          have hct := c2.2
          have hi1 : i + 1 < n := by unfold ct at hct; simp at hct; omega
          have e6 : (i : Int) + 1 = ((i + 1 : Nat) : Int) := by omega
          have e7 : (i : Int) + 2 = ((i + 2 : Nat) : Int) := by omega
          have e2 : ¬ (byteAt x i : Int) < 1 := by omega
          have e3 : 127 < (byteAt x i : Int) := by omega
          have e10 := t74 n x (i + 1)
          rw [hct] at e10
          simp only [if_true] at e10
          have e11 := val2' (byteAt x i) (byteAt x (i + 1)) hb
          obtain ⟨u', h', p1, p2, p3, p4, p5⟩ := push hN hw hu (by_ := 2) (.int 16 (v2 (byteAt x i) (byteAt x (i + 1)) : Int)) rfl (by omega) (by omega)
          have e : L51n0 [.str n x, u, .int 63 (i : Int)] h = .norm [.str n x, u', .int 63 ((i + 2 : Nat) : Int)] h' := by
            simp only [↓L51n0, ↓lenS_s, e1, sIdx_s n x 63 i hin, w16n, e2, e3, q5, a5, e6, e7, i63 (i + 1) (by omega), i63 (i + 2) (by omega), e10, e11, two16, toU8n, k8, w8n, shl6n, wadd16, ↓bld1, bld1, ↓p1, ↓SD, SA, Int.ofNat_eq_natCast, Int.cast_ofNat_Int, Int.reduceBEq, Int.reduceAdd, Int.reduceNeg, Int.reduceNegSucc, Int.reduceLT, Int.reduceLE, Int.reduceMul, Int.reduceTMod, Int.reduceSub, Int.reduceBNe, Bool.not_true, Bool.not_false, decide_true, decide_false, ne_eq, not_false_eq_true, Int.reduceEq, reduceCtorEq]
          rw [lp_n m e]
          exact Comes.step p3 (ih m (i + 2) h' u' _ (by omega) (by omega) (by omega) (by simp; omega) p2 p5 p4)
        · rw [if_neg c2]
          by_cases c3 : (224 ≤ byteAt x i ∧ byteAt x i < 240) ∧ ct n (byteAt x) (i + 1) = true ∧ ct n (byteAt x) (i + 2) = true
          · rw [if_pos c3]
            have a5 : decide (192 ≤ byteAt x i ∧ byteAt x i < 224) = false := by simp; omega
            have a8 : decide (224 ≤ byteAt x i ∧ byteAt x i < 240) = true := by simpa using c3.1
            obtain ⟨hr, hct, hct2⟩ := c3
            have hi1 : i + 2 < n := by unfold ct at hct2; simp at hct2; omega
            have e6 : (i : Int) + 1 = ((i + 1 : Nat) : Int) := by omega
            have e7 : (i : Int) + 2 = ((i + 2 : Nat) : Int) := by omega
            have e9 : (i : Int) + 3 = ((i + 3 : Nat) : Int) := by omega
            have e2 : ¬ (byteAt x i : Int) < 1 := by omega
            have e3 : 127 < (byteAt x i : Int) := by omega
            have e10 := t74 n x (i + 1)
            rw [hct] at e10
            simp only [if_true] at e10
            have e12 := t74 n x (i + 2)
            rw [hct2] at e12
            simp only [if_true] at e12
            have e11 := val3' (byteAt x i) (byteAt x (i + 1)) (byteAt x (i + 2)) hb
            obtain ⟨u', h', p1, p2, p3, p4, p5⟩ := push hN hw hu (by_ := 2) (.int 16 (v3 (byteAt x i) (byteAt x (i + 1)) (byteAt x (i + 2)) : Int)) rfl (by omega) (by omega)
            have e : L51n0 [.str n x, u, .int 63 (i : Int)] h = .norm [.str n x, u', .int 63 ((i + 3 : Nat) : Int)] h' := by
              simp only [↓L51n0, ↓lenS_s, e1, sIdx_s n x 63 i hin, w16n, e2, e3, q5, a5, q8, a8, e6, e7, e9, i63 (i + 1) (by omega), i63 (i + 2) (by omega), i63 (i + 3) (by omega), e10, e11, e12, two16, toU8n, k8, w8n, shl6n, shl12n, wadd16, ↓bld1, bld1, ↓p1, ↓SD, SA, Int.ofNat_eq_natCast, Int.cast_ofNat_Int, Int.reduceBEq, Int.reduceAdd, Int.reduceNeg, Int.reduceNegSucc, Int.reduceLT, Int.reduceLE, Int.reduceMul, Int.reduceTMod, Int.reduceSub, Int.reduceBNe, Bool.not_true, Bool.not_false, decide_true, decide_false, ne_eq, not_false_eq_true, Int.reduceEq, reduceCtorEq]
            rw [lp_n m e]
            exact Comes.step p3 (ih m (i + 3) h' u' _ (by omega) (by omega) (by omega) (by simp; omega) p2 p5 p4)
          · rw [if_neg c3]
            have e6 : (i : Int) + 1 = ((i + 1 : Nat) : Int) := by omega
            have e7 : (i : Int) + 2 = ((i + 2 : Nat) : Int) := by omega
            have e : L51n0 [.str n x, u, .int 63 (i : Int)] h = .ret (.tup (.cons .nils (.cons (.bool false) .nil))) h := by
              by_cases d1 : 192 ≤ byteAt x i ∧ byteAt x i < 224
              · have a5 : decide (192 ≤ byteAt x i ∧ byteAt x i < 224) = true := by simpa using d1
                have a9 : ct n (byteAt x) (i + 1) = false := by
                  cases hq : ct n (byteAt x) (i + 1) with
                  | false => rfl
                  | true => exact absurd ⟨d1, hq⟩ c2
                rcases t1 with t1 | ⟨t1, t2⟩
                · simp only [↓L51n0, ↓lenS_s, e1, sIdx_s n x 63 i hin, w16n, t1, q5, a5, a9, e6, i63 (i + 1) (by omega), t74, two16, toU8n, k8, w8n, cK_nl, ↓SD, SA, Int.ofNat_eq_natCast, Int.cast_ofNat_Int, Int.reduceBEq, Int.reduceAdd, Int.reduceNeg, Int.reduceNegSucc, Int.reduceLT, Int.reduceLE, Int.reduceMul, Int.reduceTMod, Int.reduceSub, Int.reduceBNe, Bool.not_true, Bool.not_false, decide_true, decide_false, ne_eq, not_false_eq_true, Int.reduceEq, reduceCtorEq]
                · simp only [↓L51n0, ↓lenS_s, e1, sIdx_s n x 63 i hin, w16n, t1, t2, q5, a5, a9, e6, i63 (i + 1) (by omega), t74, two16, toU8n, k8, w8n, cK_nl, ↓SD, SA, Int.ofNat_eq_natCast, Int.cast_ofNat_Int, Int.reduceBEq, Int.reduceAdd, Int.reduceNeg, Int.reduceNegSucc, Int.reduceLT, Int.reduceLE, Int.reduceMul, Int.reduceTMod, Int.reduceSub, Int.reduceBNe, Bool.not_true, Bool.not_false, decide_true, decide_false, ne_eq, not_false_eq_true, Int.reduceEq, reduceCtorEq]
              · have a5 : decide (192 ≤ byteAt x i ∧ byteAt x i < 224) = false := by simpa using d1
                by_cases d2 : 224 ≤ byteAt x i ∧ byteAt x i < 240
                · have a8 : decide (224 ≤ byteAt x i ∧ byteAt x i < 240) = true := by simpa using d2
                  cases g1 : ct n (byteAt x) (i + 1) with
                  | false =>
                    rcases t1 with t1 | ⟨t1, t2⟩
                    · simp only [↓L51n0, ↓lenS_s, e1, sIdx_s n x 63 i hin, w16n, t1, q5, q8, a5, a8, g1, e6, e7, i63 (i + 1) (by omega), i63 (i + 2) (by omega), t74, two16, toU8n, k8, w8n, cK_nl, ↓SD, SA, Int.ofNat_eq_natCast, Int.cast_ofNat_Int, Int.reduceBEq, Int.reduceAdd, Int.reduceNeg, Int.reduceNegSucc, Int.reduceLT, Int.reduceLE, Int.reduceMul, Int.reduceTMod, Int.reduceSub, Int.reduceBNe, Bool.not_true, Bool.not_false, decide_true, decide_false, ne_eq, not_false_eq_true, Int.reduceEq, reduceCtorEq]
                    · simp only [↓L51n0, ↓lenS_s, e1, sIdx_s n x 63 i hin, w16n, t1, t2, q5, q8, a5, a8, g1, e6, e7, i63 (i + 1) (by omega), i63 (i + 2) (by omega), t74, two16, toU8n, k8, w8n, cK_nl, ↓SD, SA, Int.ofNat_eq_natCast, Int.cast_ofNat_Int, Int.reduceBEq, Int.reduceAdd, Int.reduceNeg, Int.reduceNegSucc, Int.reduceLT, Int.reduceLE, Int.reduceMul, Int.reduceTMod, Int.reduceSub, Int.reduceBNe, Bool.not_true, Bool.not_false, decide_true, decide_false, ne_eq, not_false_eq_true, Int.reduceEq, reduceCtorEq]
                  | true =>
                    have g2 : ct n (byteAt x) (i + 2) = false := by
                      cases hq : ct n (byteAt x) (i + 2) with
                      | false => rfl
                      | true => exact absurd ⟨d2, g1, hq⟩ c3
                    rcases t1 with t1 | ⟨t1, t2⟩
                    · simp only [↓L51n0, ↓lenS_s, e1, sIdx_s n x 63 i hin, w16n, t1, q5, q8, a5, a8, g1, g2, e6, e7, i63 (i + 1) (by omega), i63 (i + 2) (by omega), t74, two16, toU8n, k8, w8n, cK_nl, ↓SD, SA, Int.ofNat_eq_natCast, Int.cast_ofNat_Int, Int.reduceBEq, Int.reduceAdd, Int.reduceNeg, Int.reduceNegSucc, Int.reduceLT, Int.reduceLE, Int.reduceMul, Int.reduceTMod, Int.reduceSub, Int.reduceBNe, Bool.not_true, Bool.not_false, decide_true, decide_false, ne_eq, not_false_eq_true, Int.reduceEq, reduceCtorEq]
                    · simp only [↓L51n0, ↓lenS_s, e1, sIdx_s n x 63 i hin, w16n, t1, t2, q5, q8, a5, a8, g1, g2, e6, e7, i63 (i + 1) (by omega), i63 (i + 2) (by omega), t74, two16, toU8n, k8, w8n, cK_nl, ↓SD, SA, Int.ofNat_eq_natCast, Int.cast_ofNat_Int, Int.reduceBEq, Int.reduceAdd, Int.reduceNeg, Int.reduceNegSucc, Int.reduceLT, Int.reduceLE, Int.reduceMul, Int.reduceTMod, Int.reduceSub, Int.reduceBNe, Bool.not_true, Bool.not_false, decide_true, decide_false, ne_eq, not_false_eq_true, Int.reduceEq, reduceCtorEq]
                · have a8 : decide (224 ≤ byteAt x i ∧ byteAt x i < 240) = false := by simpa using d2
                  rcases t1 with t1 | ⟨t1, t2⟩
                  · simp only [↓L51n0, ↓lenS_s, e1, sIdx_s n x 63 i hin, w16n, t1, q5, q8, a5, a8, toU8n, k8, w8n, cK_nl, ↓SD, SA, Int.ofNat_eq_natCast, Int.cast_ofNat_Int, Int.reduceBEq, Int.reduceAdd, Int.reduceNeg, Int.reduceNegSucc, Int.reduceLT, Int.reduceLE, Int.reduceMul, Int.reduceTMod, Int.reduceSub, Int.reduceBNe, Bool.not_true, Bool.not_false, decide_true, decide_false, ne_eq, not_false_eq_true, Int.reduceEq, reduceCtorEq]
                  · simp only [↓L51n0, ↓lenS_s, e1, sIdx_s n x 63 i hin, w16n, t1, t2, q5, q8, a5, a8, toU8n, k8, w8n, cK_nl, ↓SD, SA, Int.ofNat_eq_natCast, Int.cast_ofNat_Int, Int.reduceBEq, Int.reduceAdd, Int.reduceNeg, Int.reduceNegSucc, Int.reduceLT, Int.reduceLE, Int.reduceMul, Int.reduceTMod, Int.reduceSub, Int.reduceBNe, Bool.not_true, Bool.not_false, decide_true, decide_false, ne_eq, not_false_eq_true, Int.reduceEq, reduceCtorEq]
            exact ⟨h, lp_r m e, To.refl _ _, hw⟩
    · have : dec n (byteAt x) (f + 1) i = some [] := by unfold dec; rw [if_neg hin]
      rw [this]
      exact stop (f + 1) m i h u l hm hin hu hw
end Go.Proofs.YtnpfppddongbhaaDoor
end

section
namespace Go.Proofs.YtnpfppddongbhaaDoor
open Go Go.AM
set_option autoImplicit false
def U (t : List Nat) : List AV := t.map fun (x : Nat) => AV.int 16 (x : Int)
def Dec (n x : Nat) : Option (List Nat) := dec n (byteAt x) n 0
def Got (r : Res) (h : Hp) (o : Option (List Nat)) : Prop :=
  ∃ v h', r = .ret (.tup (.cons v (.cons (.bool o.isSome) .nil))) h' ∧ Sl h' (fun b => h.nb ≤ b) v (U (o.getD [])) ∧ To No h h' ∧ Wf h'
theorem emp {h : Hp} (hw : Wf h) : Gr (nw h 0 .nil .e) h.nb (.sl h.nb 0 0 1 (some 0)) [] ∧ To No h (nw h 0 .nil .e) := by
  obtain ⟨o1, o2⟩ := nw_own hw 0 .nil .e
  exact ⟨⟨⟨by simp, .inr (.inr ⟨h.nb, 0, _, _, rfl, Nat.le_refl _, o1.rd, fun _ => Nat.le_refl _, (fun c e => by cases e; exact Nat.le_refl _), fun i hi => by simp at hi⟩)⟩, .inr (.inl ⟨_, rfl, rfl⟩)⟩, o2⟩
theorem got_of {n x : Nat} {h h1 : Hp} {r : Res} (ht : To No h h1) (hN : h.nb ≤ h1.nb) (hc : Comes r h.nb h1 [] (Dec n x)) {r' : Res}
    (h1r : ∀ u h', r = .exit 0 [u] h' → cK u (fun v => .ret (.tup (.cons v (.cons (.bool true) .nil))) h') = r') (h2r : ∀ v h', r = .ret v h' → .ret v h' = r') : Got r' h (Dec n x) := by
  have toNo : ∀ {h'}, To (fun b => h.nb ≤ b) h1 h' → To No h h' := fun {h'} q => by
    have q1 : To (fun b => h.nb ≤ b) h h' := (ht.mono fun _ _ f => f.elim).trans q
    exact q1.mono fun b hb hn => by omega
  cases hd : Dec n x with
  | none =>
    rw [hd] at hc
    obtain ⟨h', e1, e2, e3⟩ := hc
    exact ⟨.nils, h', (h2r _ _ e1).symm, ⟨by simp [U], .inl ⟨rfl, rfl⟩⟩, toNo e2, e3⟩
  | some t =>
    rw [hd] at hc
    obtain ⟨u, h', e1, e2, e3, e4⟩ := hc
    have e2 : Gr h' h.nb u (U t) := by simpa [U] using e2
    refine ⟨u, h', ?_, e2.1, toNo e3, e4⟩
    rw [← h1r u h' e1, cK_sl e2.1]; rfl
theorem t49 (n x : Nat) (hn : n ≤ 100000) (h : Hp) (hw : Wf h) : Got (s49 [.str n x] h) h (Dec n x) := by
  obtain ⟨g1, g2⟩ := emp hw
  have hc := loop49 n x h.nb hn n most 0 (nw h 0 .nil .e) _ [] (by omega) (show n < 1000000 by omega) (by omega) (by simp) g1 g2.nb (g2.wf hw)
  have e0 : ((0 : Nat) : Int) = 0 := rfl
  have e1 : ∀ k : AV → Hp → Res, mkS h 1 0 (avL []) k = k (.sl h.nb 0 0 1 (some 0)) (nw h 0 .nil .e) := fun k => rfl
  refine got_of g2 g2.nb hc (fun u h' e => ?_) (fun v h' e => ?_)
  · rw [e0] at e
    simp only [↓s49, ↓bld0, ↓e1, e, blk_e, ↓SD, SA, Int.ofNat_eq_natCast, Int.cast_ofNat_Int, Int.reduceBEq, Int.reduceAdd, Int.reduceNeg, Int.reduceNegSucc, Int.reduceLT, Int.reduceLE, Int.reduceMul, Int.reduceTMod, Int.reduceSub, Int.reduceBNe, Bool.not_true, Bool.not_false, decide_true, decide_false, ne_eq, not_false_eq_true, Int.reduceEq, reduceCtorEq]
    rfl
  · rw [e0] at e
    simp only [↓s49, ↓bld0, ↓e1, e, ↓SD, SA, Int.ofNat_eq_natCast, Int.cast_ofNat_Int, Int.reduceBEq, Int.reduceAdd, Int.reduceNeg, Int.reduceNegSucc, Int.reduceLT, Int.reduceLE, Int.reduceMul, Int.reduceTMod, Int.reduceSub, Int.reduceBNe, Bool.not_true, Bool.not_false, decide_true, decide_false, ne_eq, not_false_eq_true, Int.reduceEq, reduceCtorEq]
theorem t51 (n x : Nat) (hn : n ≤ 100000) (h : Hp) (hw : Wf h) : Got (s51 [.str n x] h) h (Dec n x) := by
  have g1 : Gr h h.nb .nils [] := ⟨⟨by simp, .inl ⟨rfl, rfl⟩⟩, .inl rfl⟩
  have hc := loop51 n x h.nb hn n most 0 h .nils [] (by omega) (show n < 1000000 by omega) (by omega) (by simp) g1 (Nat.le_refl _) hw
  have e0 : ((0 : Nat) : Int) = 0 := rfl
  refine got_of (To.refl _ _) (Nat.le_refl _) hc (fun u h' e => ?_) (fun v h' e => ?_)
  · rw [e0] at e
    simp only [↓s51, e, blk_e, ↓SD, SA, Int.ofNat_eq_natCast, Int.cast_ofNat_Int, Int.reduceBEq, Int.reduceAdd, Int.reduceNeg, Int.reduceNegSucc, Int.reduceLT, Int.reduceLE, Int.reduceMul, Int.reduceTMod, Int.reduceSub, Int.reduceBNe, Bool.not_true, Bool.not_false, decide_true, decide_false, ne_eq, not_false_eq_true, Int.reduceEq, reduceCtorEq]
    rfl
  · rw [e0] at e
    simp only [↓s51, e, ↓SD, SA, Int.ofNat_eq_natCast, Int.cast_ofNat_Int, Int.reduceBEq, Int.reduceAdd, Int.reduceNeg, Int.reduceNegSucc, Int.reduceLT, Int.reduceLE, Int.reduceMul, Int.reduceTMod, Int.reduceSub, Int.reduceBNe, Bool.not_true, Bool.not_false, decide_true, decide_false, ne_eq, not_false_eq_true, Int.reduceEq, reduceCtorEq]
end Go.Proofs.YtnpfppddongbhaaDoor
end

section
namespace Go.Proofs.YtnpfppddongbhaaDoor
open Go Go.AM
set_option autoImplicit false
theorem lpn {F : List AV → Hp → Res} {vs vs' : List AV} {h h' : Hp} (m : Nat) (e : F vs h = .norm vs' h') : lp F (m + 1) vs h = lp F m vs' h' := lp_n m e
theorem lpx {F : List AV → Hp → Res} {vs vs' : List AV} {h h' : Hp} {i : Nat} (m : Nat) (e : F vs h = .exit i vs' h') : lp F (m + 1) vs h = .exit i vs' h' := lp_x m e
theorem lpr {F : List AV → Hp → Res} {vs : List AV} {v : AV} {h h' : Hp} (m : Nat) (e : F vs h = .ret v h') : lp F (m + 1) vs h = .ret v h' := lp_r m e
theorem blk_x (id : Nat) (vs : List AV) (h : Hp) (k : List AV → Hp → Res) : blk id (.exit id vs h) k = k vs h := by rw [blk_e, (beq_iff id id).2 rfl, ifB_t]
theorem s1n (i : Nat) (hi : i < 1000000) : wrapC 63 ((i : Int) + 1) = ((i + 1 : Nat) : Int) := by rw [w63_in _ (by omega) (by omega)]; omega
theorem _root_.Go.AM.To.fresh {a b c : Hp} {W : Nat → Prop} (h1 : To No a b) (h2 : To W b c) (hW : ∀ x, W x → a.nb ≤ x) : To No a c := by
  have q : To (fun q => a.nb ≤ q) a c := (h1.mono fun _ _ f => f.elim).trans (h2.mono fun x _ hx => hW x hx)
  exact q.mono fun b hb hn => by omega
theorem cP_p (b o : Nat) (k : Nat → Nat → Res) : cP (.ptr b o) k = k b o := of_eq_true (eq_self _)
theorem nck_p (b o : Nat) (k : AV → Res) : nck (.ptr b o) k = k (.ptr b o) := of_eq_true (eq_self _)
noncomputable def S (l : List UInt8) : AV := .str l.length (packB l)
theorem lenS_S (l : List UInt8) (k : AV → Res) : lenS (S l) k = k (.int 63 (l.length : Int)) := lenS_s _ _ _
theorem cK_S (l : List UInt8) (k : AV → Res) : cK (S l) k = k (S l) := by unfold S; exact cK_s ..
theorem sIdx_S (l : List UInt8) (c j : Nat) (hj : j < l.length) (k : AV → Res) : sIdx (S l) (.int c (j : Int)) k = k (.int 8 (l[j].toNat : Int)) := by
  unfold S
  rw [sIdx_s _ _ _ _ hj, byteAt_eq _ _ hj]
theorem eqS_S (a b : List UInt8) (k : Bool → Res) : eqS (S a) (S b) k = k (decide (a = b)) := by
  have e : eqS (S a) (S b) k = k (sEq a.length (packB a) b.length (packB b)) := rfl
  have e2 : sEq a.length (packB a) b.length (packB b) = decide (a = b) := by
    have h : sEq a.length (packB a) b.length (packB b) = Bool.rec (motive := fun _ => Bool) false (Nat.beq (packB a) (packB b)) (Nat.beq a.length b.length) := rfl
    rw [h, recB, Bool.eq_iff_iff]
    simp only [beq_iff, decide_eq_true_eq]
    constructor
    · intro h
      split at h
      · rename_i hl
        rw [beq_iff] at h
        exact packB_inj _ _ hl h
      · cases h
    · rintro rfl
      rw [if_pos rfl, beq_iff]
  rw [e, e2]
theorem cut_eq (l : List UInt8) (lo hi : Nat) (h1 : lo ≤ hi) (h2 : hi ≤ l.length) : AV.str (Nat.sub hi lo) (Nat.mod (Nat.shiftRight (packB l) (Nat.mul 8 lo)) (Nat.pow 2 (Nat.mul 8 (Nat.sub hi lo)))) = S ((l.drop lo).take (hi - lo)) := by
  unfold S
  have hl : ((l.drop lo).take (hi - lo)).length = hi - lo := by simp; omega
  rw [hl, packB_take _ _ (by simp; omega), packB_drop]
  show AV.str (hi - lo) (packB l >>> (8 * lo) % 2 ^ (8 * (hi - lo))) = _
  rw [Nat.shiftRight_eq_div_pow]
theorem cut_S (l : List UInt8) (c1 c2 lo hi : Nat) (h1 : lo ≤ hi) (h2 : hi ≤ l.length) (k : AV → Res) : cutT (S l) (some (.int c1 (lo : Int))) (some (.int c2 (hi : Int))) k = k (S ((l.drop lo).take (hi - lo))) := by
  have e : cutT (S l) (some (.int c1 (lo : Int))) (some (.int c2 (hi : Int))) k = ifB (Nat.ble hi l.length) (ifB (Nat.ble lo hi) (k (.str (Nat.sub hi lo) (Nat.mod (Nat.shiftRight (packB l) (Nat.mul 8 lo)) (Nat.pow 2 (Nat.mul 8 (Nat.sub hi lo)))))) .fail) .fail := rfl
  rw [e, (ble_iff _ _).2 h2, (ble_iff _ _).2 h1, ifB_t, ifB_t, cut_eq l lo hi h1 h2]
theorem cutL_S (l : List UInt8) (c1 lo : Nat) (h : lo ≤ l.length) (k : AV → Res) : cutT (S l) (some (.int c1 (lo : Int))) none k = k (S (l.drop lo)) := by
  have e : cutT (S l) (some (.int c1 (lo : Int))) none k = ifB (Nat.ble l.length l.length) (ifB (Nat.ble lo l.length) (k (.str (Nat.sub l.length lo) (Nat.mod (Nat.shiftRight (packB l) (Nat.mul 8 lo)) (Nat.pow 2 (Nat.mul 8 (Nat.sub l.length lo)))))) .fail) .fail := rfl
  rw [e, (ble_iff _ _).2 (Nat.le_refl _), (ble_iff _ _).2 h, ifB_t, ifB_t, cut_eq l lo l.length h (Nat.le_refl _), List.take_of_length_le (by simp)]
theorem cutR_S (l : List UInt8) (c2 hi : Nat) (h : hi ≤ l.length) (k : AV → Res) : cutT (S l) none (some (.int c2 (hi : Int))) k = k (S (l.take hi)) := by
  have e : cutT (S l) none (some (.int c2 (hi : Int))) k = ifB (Nat.ble hi l.length) (ifB (Nat.ble 0 hi) (k (.str (Nat.sub hi 0) (Nat.mod (Nat.shiftRight (packB l) (Nat.mul 8 0)) (Nat.pow 2 (Nat.mul 8 (Nat.sub hi 0)))))) .fail) .fail := rfl
  rw [e, (ble_iff _ _).2 h, (ble_iff _ _).2 (Nat.zero_le _), ifB_t, ifB_t, cut_eq l 0 hi (Nat.zero_le _) h]
  simp
theorem S_0 : AV.str 0 0 = S [] := rfl
theorem S_47 : AV.str 1 47 = S [47] := rfl
theorem S_cs : AV.str 4 794508078 = S [46, 59, 91, 47] := by kernel_rfl
theorem S_lg : AV.str 2 15932 = S [60, 62] := by kernel_rfl
theorem S_init : AV.str 6 68669705972028 = S [60, 105, 110, 105, 116, 62] := by kernel_rfl
theorem S_clin : AV.str 8 4500337850585998140 = S [60, 99, 108, 105, 110, 105, 116, 62] := by kernel_rfl
theorem t117 (l : List UInt8) (c : UInt8) (h : Hp) : s117 [S l, .int 8 (c.toNat : Int)] h = .ret (.int 63 (Lib.indexByte l c)) h := by
  have hc := c.toNat_lt
  have e : s117 [S l, .int 8 (c.toNat : Int)] h = ifB (Nat.blt c.toNat 256) (.ret (.int 63 (idxB (packB l) c.toNat l.length 0)) h) .fail := rfl
  rw [e, (blt_iff _ _).2 hc, ifB_t, idxB_eq (packB l) c l 0 (fun j hj => by rw [Nat.zero_add]; exact byteAt_eq _ _ hj)]
  congr 2
  split
  · rename_i h0; exact h0.symm
  · simp
theorem t114 (l : List UInt8) (c : UInt8) (h : Hp) : s114 [S l, .int 8 (c.toNat : Int)] h = .ret (.int 63 (l.count c : Int)) h := by
  have hc := c.toNat_lt
  have e : s114 [S l, .int 8 (c.toNat : Int)] h = ifB (Nat.blt c.toNat 256) (.ret (.int 63 (Int.ofNat (cntB (packB l) c.toNat l.length 0))) h) .fail := rfl
  rw [e, (blt_iff _ _).2 hc, ifB_t, cntB_eq (packB l) c l 0 (fun j hj => by rw [Nat.zero_add]; exact byteAt_eq _ _ hj)]
  rfl
theorem t103 (l : List UInt8) (c : UInt8) (h : Hp) : s103 [S l, .int 8 (c.toNat : Int)] h = .ret (.int 63 (Lib.indexByte l c)) h := by simp only [↓s103, ↓t117, ↓SD, SA, Int.ofNat_eq_natCast, Int.cast_ofNat_Int, Int.reduceBEq, Int.reduceAdd, Int.reduceNeg, Int.reduceNegSucc, Int.reduceLT, Int.reduceLE, Int.reduceMul, Int.reduceTMod, Int.reduceSub, Int.reduceBNe, Bool.not_true, Bool.not_false, decide_true, decide_false, ne_eq, not_false_eq_true, Int.reduceEq, reduceCtorEq]
theorem t78 (l : List UInt8) (c : UInt8) (h : Hp) : s78 [S l, .int 8 (c.toNat : Int)] h = .ret (.int 63 (Lib.indexByte l c)) h := by simp only [↓s78, ↓t103, ↓SD, SA, Int.ofNat_eq_natCast, Int.cast_ofNat_Int, Int.reduceBEq, Int.reduceAdd, Int.reduceNeg, Int.reduceNegSucc, Int.reduceLT, Int.reduceLE, Int.reduceMul, Int.reduceTMod, Int.reduceSub, Int.reduceBNe, Bool.not_true, Bool.not_false, decide_true, decide_false, ne_eq, not_false_eq_true, Int.reduceEq, reduceCtorEq]
theorem idx_neg (l : List UInt8) (c : UInt8) : Lib.indexByte l c < 0 ↔ c ∉ l := by
  induction l with
  | nil => simp [Lib.indexByte]
  | cons b l ih =>
    have hge := Lib.indexByte_ge l c
    unfold Lib.indexByte
    by_cases hb : b = c
    · subst hb; simp
    · have h1 : (b == c) = false := by simpa using hb
      have h2 : ¬ c = b := fun h => hb h.symm
      rw [h1]
      simp only [Bool.false_eq_true, if_false, List.mem_cons, h2, false_or, beq_iff_eq]
      rw [← ih]
      split <;> omega
end Go.Proofs.YtnpfppddongbhaaDoor
end

section
namespace Go.Proofs.YtnpfppddongbhaaDoor
open Go Go.AM
set_option autoImplicit false
def ToM (h h' : Hp) : Prop := ∀ b, b < h.nb → h'.ms.get b = h.ms.get b
theorem rng_S {h : Hp} (hw : Wf h) (l : List UInt8) : ∃ h', (∀ k : AV → Hp → Res, rng h (S l) k = k (.ptr h.nb 0) h') ∧ h'.ms.get h.nb = some (itr l.length (packB l) 0) ∧ To No h h' ∧ ToM h h' ∧ Wf h' ∧ h'.nb = h.nb + 1 := by
  refine ⟨⟨Nat.succ h.nb, h.bs, h.gs, h.ms.set (itr l.length (packB l) 0) h.nb⟩, fun k => rfl, ?_, ⟨Nat.le_succ _, fun _ _ _ => rfl, fun _ _ _ => rfl, fun hn g hg => hn g (Nat.le_of_succ_le hg)⟩, fun b hb => ?_, fun g hg => hw g (Nat.le_of_succ_le hg), rfl⟩
  · show (h.ms.set _ h.nb).get h.nb = _
    rw [T.get_set, if_pos rfl]
  · show (h.ms.set _ h.nb).get b = _
    rw [T.get_set, if_neg (by omega)]
theorem nxt_go {h : Hp} {b p : Nat} {l : List UInt8} (hg : h.ms.get b = some (itr l.length (packB l) p)) (hp : p < l.length) (hw : Wf h) :
    ∃ h', (∀ k : AV → Hp → Res, nxt h (.ptr b 0) k = k (.tup (.cons (.bool true) (.cons (.int 63 (p : Int)) (.cons (.int 31 ((decA l.length (packB l) p).1 : Int)) .nil)))) h') ∧
      h'.ms.get b = some (itr l.length (packB l) (p + (decA l.length (packB l) p).2)) ∧ To No h h' ∧ Wf h' ∧ h'.nb = h.nb ∧ ∀ b2, b2 ≠ b → h'.ms.get b2 = h.ms.get b2 := by
  refine ⟨⟨h.nb, h.bs, h.gs, h.ms.set (itr l.length (packB l) (p + (decA l.length (packB l) p).2)) b⟩, fun k => ?_, ?_, ⟨Nat.le_refl _, fun _ _ _ => rfl, fun _ _ _ => rfl, fun hn => hn⟩, hw, rfl, fun b2 h2 => ?_⟩
  · unfold nxt
    show ifB (Nat.beq 0 0) (Option.rec (motive := fun _ => Res) .fail _ (h.ms.get b)) .fail = _
    rw [hg]
    show ifB (Nat.blt p l.length) _ _ = _
    rw [(blt_iff _ _).2 hp]
    rfl
  · show (h.ms.set _ b).get b = _
    rw [T.get_set, if_pos rfl]
  · show (h.ms.set _ b).get b2 = _
    rw [T.get_set, if_neg h2]
theorem nxt_end {h : Hp} {b p : Nat} {l : List UInt8} (hg : h.ms.get b = some (itr l.length (packB l) p)) (hp : ¬ p < l.length) (k : AV → Hp → Res) : nxt h (.ptr b 0) k = k (.tup (.cons (.bool false) .nil)) h := by
  unfold nxt
  show ifB (Nat.beq 0 0) (Option.rec (motive := fun _ => Res) .fail _ (h.ms.get b)) .fail = _
  rw [hg]
  show ifB (Nat.blt p l.length) _ _ = _
  have : Nat.blt p l.length = false := by rw [Bool.eq_false_iff, ne_eq, blt_iff]; exact hp
  rw [this]
  rfl
theorem bA (l : List UInt8) (i : Nat) (hi : i < l.length) : byteAt (packB l) i = l[i].toNat := byteAt_eq l i hi
theorem dec_ascii (l : List UInt8) (p : Nat) (hp : p < l.length) (ha : l[p].toNat < 128) : decA l.length (packB l) p = (l[p].toNat, 1) := by
  unfold decA
  simp only [Nat.add_zero, bA l p hp, ha, if_true]
theorem dec_high (l : List UInt8) (p : Nat) (hp : p < l.length) (ha : ¬ l[p].toNat < 128) :
    128 ≤ (decA l.length (packB l) p).1 ∧ (decA l.length (packB l) p).1 ≤ 1114111 ∧ 1 ≤ (decA l.length (packB l) p).2 ∧ ∀ j (hj : j < l.length), p ≤ j → j < p + (decA l.length (packB l) p).2 → 128 ≤ l[j].toNat := by
  have cont : ∀ k, (decide (p + k < l.length) && byteAt (packB l) (p + k) / 64 == 2) = true → ∃ h : p + k < l.length, 128 ≤ l[p + k].toNat := by
    intro k hk
    simp only [Bool.and_eq_true, decide_eq_true_eq, beq_iff_eq] at hk
    obtain ⟨h1, h2⟩ := hk
    rw [bA l _ h1] at h2
    exact ⟨h1, by omega⟩
  unfold decA
  simp only [Nat.add_zero, bA l p hp, ha, if_false]
  have one : ∀ j (hj : j < l.length), p ≤ j → j < p + 1 → 128 ≤ l[j].toNat := fun j hj h1 h2 => by
    obtain rfl : j = p := by omega
    omega
  have key : ∀ (c w : Nat), 128 ≤ c → c ≤ 1114111 → 1 ≤ w → (∀ j (hj : j < l.length), p ≤ j → j < p + w → 128 ≤ l[j].toNat) → 128 ≤ (c, w).1 ∧ (c, w).1 ≤ 1114111 ∧ 1 ≤ (c, w).2 ∧ ∀ j (hj : j < l.length), p ≤ j → j < p + (c, w).2 → 128 ≤ l[j].toNat := fun c w h1 h2 h3 h4 => ⟨h1, h2, h3, h4⟩
  have hb := l[p].toNat_lt
  split
  · rename_i h2
    simp only [Bool.and_eq_true] at h2
    obtain ⟨q1, z1⟩ := cont 1 (by simpa using h2.2)
    split
    · rename_i h3
      refine key _ _ h3 (by omega) (by decide) fun j hj g1 g2 => ?_
      have : j = p ∨ j = p + 1 := by omega
      rcases this with rfl | rfl
      · omega
      · exact z1
    · exact key _ _ (by decide) (by decide) (by decide) one
  · split
    · rename_i h2
      simp only [Bool.and_eq_true] at h2
      obtain ⟨q1, z1⟩ := cont 1 (by simpa using h2.1.2)
      obtain ⟨q2, z2⟩ := cont 2 (by simpa using h2.2)
      split
      · rename_i h3
        simp only [Bool.and_eq_true, decide_eq_true_eq] at h3
        refine key _ _ (by omega) (by omega) (by decide) fun j hj g1 g2 => ?_
        have : j = p ∨ j = p + 1 ∨ j = p + 2 := by omega
        rcases this with rfl | rfl | rfl
        · omega
        · exact z1
        · exact z2
      · exact key _ _ (by decide) (by decide) (by decide) one
    · split
      · rename_i h2
        simp only [Bool.and_eq_true] at h2
        obtain ⟨q1, z1⟩ := cont 1 (by simpa using h2.1.1.2)
        obtain ⟨q2, z2⟩ := cont 2 (by simpa using h2.1.2)
        obtain ⟨q3, z3⟩ := cont 3 (by simpa using h2.2)
        split
        · rename_i h3
          simp only [Bool.and_eq_true, Bool.or_eq_true, decide_eq_true_eq] at h3
          refine key _ _ (by omega) (by omega) (by decide) fun j hj g1 g2 => ?_
          have : j = p ∨ j = p + 1 ∨ j = p + 2 ∨ j = p + 3 := by omega
          rcases this with rfl | rfl | rfl | rfl
          · omega
          · exact z1
          · exact z2
          · exact z3
        · exact key _ _ (by decide) (by decide) (by decide) one
      · exact key _ _ (by decide) (by decide) (by decide) one
theorem iStr_high (r : Nat) (h1 : 128 ≤ r) (h2 : r ≤ 1114111) : ∃ (rs : List UInt8) (c : UInt8), (∀ k : AV → Res, iStr (.int 31 (r : Int)) k = k (S rs)) ∧ 2 ≤ rs.length ∧ rs.length ≤ 4 ∧ rs[rs.length - 1]? = some c ∧ 128 ≤ c.toNat := by
  have hc : ∃ m, runeC (r : Int) = m ∧ 128 ≤ m ∧ m ≤ 1114111 := by
    refine ⟨_, rfl, ?_, runeC_lt _⟩
    rw [runeC_eq]
    split
    · simpa using h1
    · decide
  obtain ⟨m, hm, g1, g2⟩ := hc
  have e : ∀ k : AV → Res, iStr (.int 31 (r : Int)) k = (fun c => ifB (Nat.blt c 128) (k (.str 1 c))
    (ifB (Nat.blt c 2048) (k (.str 2 (Nat.add (Nat.add 192 (Nat.div c 64)) (Nat.mul 256 (Nat.add 128 (Nat.mod c 64))))))
      (ifB (Nat.blt c 65536) (k (.str 3 (Nat.add (Nat.add 224 (Nat.div c 4096)) (Nat.mul 256 (Nat.add (Nat.add 128 (Nat.mod (Nat.div c 64) 64)) (Nat.mul 256 (Nat.add 128 (Nat.mod c 64))))))))
        (k (.str 4 (Nat.add (Nat.add 240 (Nat.div c 262144)) (Nat.mul 256 (Nat.add (Nat.add 128 (Nat.mod (Nat.div c 4096) 64)) (Nat.mul 256 (Nat.add (Nat.add 128 (Nat.mod (Nat.div c 64) 64)) (Nat.mul 256 (Nat.add 128 (Nat.mod c 64))))))))))))) (runeC (r : Int)) := fun k => rfl
  rw [hm] at e
  simp only at e
  have b1 : Nat.blt m 128 = false := by rw [Bool.eq_false_iff, ne_eq, blt_iff]; omega
  simp only [b1, ifB_f] at e
  by_cases h3 : m < 2048
  · have b2 : Nat.blt m 2048 = true := (blt_iff _ _).2 h3
    refine ⟨[UInt8.ofNat (192 + m / 64), UInt8.ofNat (128 + m % 64)], UInt8.ofNat (128 + m % 64), fun k => ?_, by simp, by simp, rfl, by rw [u8n _ (by omega)]; omega⟩
    rw [e, b2, ifB_t]
    have : packB [UInt8.ofNat (192 + m / 64), UInt8.ofNat (128 + m % 64)] = (192 + m / 64) + 256 * (128 + m % 64) := by
      show (UInt8.ofNat (192 + m / 64)).toNat + 256 * ((UInt8.ofNat (128 + m % 64)).toNat + 256 * 0) = _
      rw [u8n _ (by omega), u8n _ (by omega)]; omega
    unfold S
    rw [this]; rfl
  · have b2 : Nat.blt m 2048 = false := by rw [Bool.eq_false_iff, ne_eq, blt_iff]; omega
    by_cases h4 : m < 65536
    · have b3 : Nat.blt m 65536 = true := (blt_iff _ _).2 h4
      refine ⟨[UInt8.ofNat (224 + m / 4096), UInt8.ofNat (128 + m / 64 % 64), UInt8.ofNat (128 + m % 64)], UInt8.ofNat (128 + m % 64), fun k => ?_, by simp, by simp, rfl, by rw [u8n _ (by omega)]; omega⟩
      rw [e, b2, ifB_f, b3, ifB_t]
      have : packB [UInt8.ofNat (224 + m / 4096), UInt8.ofNat (128 + m / 64 % 64), UInt8.ofNat (128 + m % 64)] = (224 + m / 4096) + 256 * ((128 + m / 64 % 64) + 256 * (128 + m % 64)) := by
        show (UInt8.ofNat (224 + m / 4096)).toNat + 256 * ((UInt8.ofNat (128 + m / 64 % 64)).toNat + 256 * ((UInt8.ofNat (128 + m % 64)).toNat + 256 * 0)) = _
        rw [u8n _ (by omega), u8n _ (by omega), u8n _ (by omega)]; omega
      unfold S
      rw [this]; rfl
    · have b3 : Nat.blt m 65536 = false := by rw [Bool.eq_false_iff, ne_eq, blt_iff]; omega
      refine ⟨[UInt8.ofNat (240 + m / 262144), UInt8.ofNat (128 + m / 4096 % 64), UInt8.ofNat (128 + m / 64 % 64), UInt8.ofNat (128 + m % 64)], UInt8.ofNat (128 + m % 64), fun k => ?_, by simp, by simp, rfl, by rw [u8n _ (by omega)]; omega⟩
      rw [e, b2, ifB_f, b3, ifB_f]
      have : packB [UInt8.ofNat (240 + m / 262144), UInt8.ofNat (128 + m / 4096 % 64), UInt8.ofNat (128 + m / 64 % 64), UInt8.ofNat (128 + m % 64)] = (240 + m / 262144) + 256 * ((128 + m / 4096 % 64) + 256 * ((128 + m / 64 % 64) + 256 * (128 + m % 64))) := by
        show (UInt8.ofNat (240 + m / 262144)).toNat + 256 * ((UInt8.ofNat (128 + m / 4096 % 64)).toNat + 256 * ((UInt8.ofNat (128 + m / 64 % 64)).toNat + 256 * ((UInt8.ofNat (128 + m % 64)).toNat + 256 * 0))) = _
        rw [u8n _ (by omega), u8n _ (by omega), u8n _ (by omega), u8n _ (by omega)]; omega
      unfold S
      rw [this]; rfl
end Go.Proofs.YtnpfppddongbhaaDoor
end

section
namespace Go.Proofs.YtnpfppddongbhaaDoor
open Go Go.AM
set_option autoImplicit false
def Low (cs : List UInt8) : Prop := ∀ c ∈ cs, c.toNat < 128
theorem t110 (n : Nat) (h : Hp) : ∃ b, s110 [.int 31 (n : Int)] h = .ret (.bool b) h := by
  have c0 : ¬ (n : Int) < 0 := by omega
  by_cases c1 : (n : Int) < 55296
  · exact ⟨true, by simp only [↓s110, c0, c1, ↓SD, SA, Int.ofNat_eq_natCast, Int.cast_ofNat_Int, Int.reduceBEq, Int.reduceAdd, Int.reduceNeg, Int.reduceNegSucc, Int.reduceLT, Int.reduceLE, Int.reduceMul, Int.reduceTMod, Int.reduceSub, Int.reduceBNe, Bool.not_true, Bool.not_false, decide_true, decide_false, ne_eq, not_false_eq_true, Int.reduceEq, reduceCtorEq]⟩
  · by_cases c2 : 57343 < (n : Int)
    · by_cases c3 : 1114111 < (n : Int)
      · exact ⟨false, by simp only [↓s110, c0, c1, c2, c3, ↓SD, SA, Int.ofNat_eq_natCast, Int.cast_ofNat_Int, Int.reduceBEq, Int.reduceAdd, Int.reduceNeg, Int.reduceNegSucc, Int.reduceLT, Int.reduceLE, Int.reduceMul, Int.reduceTMod, Int.reduceSub, Int.reduceBNe, Bool.not_true, Bool.not_false, decide_true, decide_false, ne_eq, not_false_eq_true, Int.reduceEq, reduceCtorEq]⟩
      · exact ⟨true, by simp only [↓s110, c0, c1, c2, c3, ↓SD, SA, Int.ofNat_eq_natCast, Int.cast_ofNat_Int, Int.reduceBEq, Int.reduceAdd, Int.reduceNeg, Int.reduceNegSucc, Int.reduceLT, Int.reduceLE, Int.reduceMul, Int.reduceTMod, Int.reduceSub, Int.reduceBNe, Bool.not_true, Bool.not_false, decide_true, decide_false, ne_eq, not_false_eq_true, Int.reduceEq, reduceCtorEq]⟩
    · exact ⟨false, by simp only [↓s110, c0, c1, c2, ↓SD, SA, Int.ofNat_eq_natCast, Int.cast_ofNat_Int, Int.reduceBEq, Int.reduceAdd, Int.reduceNeg, Int.reduceNegSucc, Int.reduceLT, Int.reduceLE, Int.reduceMul, Int.reduceTMod, Int.reduceSub, Int.reduceBNe, Bool.not_true, Bool.not_false, decide_true, decide_false, ne_eq, not_false_eq_true, Int.reduceEq, reduceCtorEq]⟩
theorem loop95r {cs : List UInt8} (hc : Low cs) (b : Nat) : ∀ (f m p : Nat) (h : Hp), cs.length - p ≤ f → f < m → p ≤ cs.length → Wf h → b < h.nb → h.ms.get b = some (itr cs.length (packB cs) p) →
    ∃ h', lp L95n0 m [.ptr b 0] h = .exit 9 [] h' ∧ To No h h' ∧ Wf h' ∧ ∀ b2, b2 ≠ b → b2 < h.nb → h'.ms.get b2 = h.ms.get b2 := by
  intro f
  induction f with
  | zero =>
    intro m p h hf hm hp hw hb hg
    obtain ⟨m, rfl⟩ : ∃ k, m = k + 1 := ⟨m - 1, by omega⟩
    have e := fun k => nxt_end (k := k) hg (by omega)
    exact ⟨h, lpx m (by simp only [↓L95n0, ↓e, ↓SD, SA, Int.ofNat_eq_natCast, Int.cast_ofNat_Int, Int.reduceBEq, Int.reduceAdd, Int.reduceNeg, Int.reduceNegSucc, Int.reduceLT, Int.reduceLE, Int.reduceMul, Int.reduceTMod, Int.reduceSub, Int.reduceBNe, Bool.not_true, Bool.not_false, decide_true, decide_false, ne_eq, not_false_eq_true, Int.reduceEq, reduceCtorEq]), To.refl _ _, hw, fun _ _ _ => rfl⟩
  | succ f ih =>
    intro m p h hf hm hp hw hb hg
    obtain ⟨m, rfl⟩ : ∃ k, m = k + 1 := ⟨m - 1, by omega⟩
    by_cases hin : p < cs.length
    · obtain ⟨h1, e, g1, o1, w1, n1, m1⟩ := nxt_go hg hin hw
      rw [dec_ascii cs p hin (hc _ (List.getElem_mem hin))] at e g1
      have hx := hc _ (List.getElem_mem hin)
      have ne : ((cs[p].toNat : Int) == 65533) = false := beq_eq_false_iff_ne.2 (by omega)
      have n2 : nth (.cons (.bool true) (.cons (.int 63 (p : Int)) (.cons (.int 31 (cs[p].toNat : Int)) .nil))) 2 = .int 31 (cs[p].toNat : Int) := rfl
      have e1 : L95n0 [.ptr b 0] h = .norm [.ptr b 0] h1 := by
        simp only [↓L95n0, ↓e, n2, ne, ↓SD, SA, Int.ofNat_eq_natCast, Int.cast_ofNat_Int, Int.reduceBEq, Int.reduceAdd, Int.reduceNeg, Int.reduceNegSucc, Int.reduceLT, Int.reduceLE, Int.reduceMul, Int.reduceTMod, Int.reduceSub, Int.reduceBNe, Bool.not_true, Bool.not_false, decide_true, decide_false, ne_eq, not_false_eq_true, Int.reduceEq, reduceCtorEq]
      obtain ⟨h2, e2, o2, w2, m2⟩ := ih m (p + 1) h1 (by omega) (by omega) (by omega) w1 (by omega) g1
      exact ⟨h2, (lpn m e1).trans e2, o1.trans o2, w2, fun b2 hn hl => (m2 b2 hn (by omega)).trans (m1 b2 hn)⟩
    · have e := fun k => nxt_end (k := k) hg hin
      exact ⟨h, lpx m (by simp only [↓L95n0, ↓e, ↓SD, SA, Int.ofNat_eq_natCast, Int.cast_ofNat_Int, Int.reduceBEq, Int.reduceAdd, Int.reduceNeg, Int.reduceNegSucc, Int.reduceLT, Int.reduceLE, Int.reduceMul, Int.reduceTMod, Int.reduceSub, Int.reduceBNe, Bool.not_true, Bool.not_false, decide_true, decide_false, ne_eq, not_false_eq_true, Int.reduceEq, reduceCtorEq]), To.refl _ _, hw, fun _ _ _ => rfl⟩
theorem t95 {cs : List UInt8} (hc : Low cs) (hl : cs.length ≤ 100) (r : Nat) (hr : r ≤ 1114111) {h : Hp} (hw : Wf h) :
    ∃ h', s95 [S cs, .int 31 (r : Int)] h = .ret (.int 63 (if r < 128 then Lib.indexByte cs (UInt8.ofNat r) else -1)) h' ∧ To No h h' ∧ ToM h h' ∧ Wf h' := by
  have c0 : ¬ (r : Int) < 0 := by omega
  by_cases h1 : r < 128
  · rw [if_pos h1]
    have c1 : (r : Int) < 128 := by omega
    have w8 : wrapC 8 (r : Int) = ((UInt8.ofNat r).toNat : Int) := by rw [w8_in _ (by omega) (by omega), u8n _ (by omega)]
    exact ⟨h, by simp only [↓s95, c0, c1, w8, ↓t78, ↓SD, SA, Int.ofNat_eq_natCast, Int.cast_ofNat_Int, Int.reduceBEq, Int.reduceAdd, Int.reduceNeg, Int.reduceNegSucc, Int.reduceLT, Int.reduceLE, Int.reduceMul, Int.reduceTMod, Int.reduceSub, Int.reduceBNe, Bool.not_true, Bool.not_false, decide_true, decide_false, ne_eq, not_false_eq_true, Int.reduceEq, reduceCtorEq], To.refl _ _, fun _ _ => rfl, hw⟩
  · rw [if_neg h1]
    have c1 : ¬ (r : Int) < 128 := by omega
    by_cases h2 : r = 65533
    · subst h2
      obtain ⟨h1, e, g1, o1, m1, w1, n1⟩ := rng_S hw cs
      obtain ⟨h2, e2, o2, w2, m2⟩ := loop95r hc h.nb cs.length most 0 h1 (by omega) (by unfold most; omega) (by omega) w1 (by omega) g1
      exact ⟨h2, by simp only [↓s95, c0, c1, ↓e, ↓e2, blk_x, ↓SD, SA, Int.ofNat_eq_natCast, Int.cast_ofNat_Int, Int.reduceBEq, Int.reduceAdd, Int.reduceNeg, Int.reduceNegSucc, Int.reduceLT, Int.reduceLE, Int.reduceMul, Int.reduceTMod, Int.reduceSub, Int.reduceBNe, Bool.not_true, Bool.not_false, decide_true, decide_false, ne_eq, not_false_eq_true, Int.reduceEq, reduceCtorEq], o1.trans o2, fun b hb => (m2 b (by omega) (by omega)).trans (m1 b hb), w2⟩
    · have c2 : ((r : Int) == 65533) = false := beq_eq_false_iff_ne.2 (by omega)
      obtain ⟨b, hb⟩ := t110 r h
      cases b with
      | false => exact ⟨h, by simp only [↓s95, c0, c1, c2, ↓hb, ↓SD, SA, Int.ofNat_eq_natCast, Int.cast_ofNat_Int, Int.reduceBEq, Int.reduceAdd, Int.reduceNeg, Int.reduceNegSucc, Int.reduceLT, Int.reduceLE, Int.reduceMul, Int.reduceTMod, Int.reduceSub, Int.reduceBNe, Bool.not_true, Bool.not_false, decide_true, decide_false, ne_eq, not_false_eq_true, Int.reduceEq, reduceCtorEq], To.refl _ _, fun _ _ => rfl, hw⟩
      | true =>
        obtain ⟨rs, c, e1, e2, e3, e4, e5⟩ := iStr_high r (by omega) hr
        obtain ⟨hlt, hcc⟩ := List.getElem?_eq_some_iff.1 e4
        have w1 : wrapC 63 ((rs.length : Int) - 1) = ((rs.length - 1 : Nat) : Int) := by rw [w63_in _ (by omega) (by omega)]; omega
        have lps : lp L95n2 most [S cs, S rs, .int 63 ((rs.length - 1 : Nat) : Int), .int 63 ((rs.length - 1 : Nat) : Int)] h = (if rs.length - 1 < cs.length then .ret (.int 63 (-1)) h else .exit 1 [] h) := by
          by_cases hi : rs.length - 1 < cs.length
          · rw [if_pos hi]
            have q1 : ((rs.length - 1 : Nat) : Int) < (cs.length : Int) := by omega
            have hlow := hc _ (List.getElem_mem hi)
            have ne : (((cs[rs.length - 1].toNat : Nat) : Int) == (c.toNat : Int)) = false := beq_eq_false_iff_ne.2 (by omega)
            have w2 : wrapC 63 (((rs.length - 1 : Nat) : Int) + 1) = ((rs.length : Nat) : Int) := by rw [w63_in _ (by omega) (by omega)]; omega
            have hneg : Lib.indexByte (cs.drop rs.length) c < 0 := (idx_neg _ _).2 fun hm => by have := hc _ (List.mem_of_mem_drop hm); omega
            have hge := Lib.indexByte_ge (cs.drop rs.length) c
            have x1 := fun k => sIdx_S cs 63 (rs.length - 1) hi k
            have x2 := fun k => sIdx_S rs 63 (rs.length - 1) hlt k
            rw [hcc] at x2
            have x3 := fun k => cutL_S cs 63 rs.length (by omega) k
            exact lpr 999999 (by simp only [↓L95n2, ↓lenS_S, q1, ↓x1, ↓x2, ne, w2, ↓x3, ↓t78, hneg, ↓SD, SA, Int.ofNat_eq_natCast, Int.cast_ofNat_Int, Int.reduceBEq, Int.reduceAdd, Int.reduceNeg, Int.reduceNegSucc, Int.reduceLT, Int.reduceLE, Int.reduceMul, Int.reduceTMod, Int.reduceSub, Int.reduceBNe, Bool.not_true, Bool.not_false, decide_true, decide_false, ne_eq, not_false_eq_true, Int.reduceEq, reduceCtorEq])
          · rw [if_neg hi]
            have q1 : ¬ ((rs.length - 1 : Nat) : Int) < (cs.length : Int) := by omega
            exact lpx 999999 (by simp only [↓L95n2, ↓lenS_S, q1, ↓SD, SA, Int.ofNat_eq_natCast, Int.cast_ofNat_Int, Int.reduceBEq, Int.reduceAdd, Int.reduceNeg, Int.reduceNegSucc, Int.reduceLT, Int.reduceLE, Int.reduceMul, Int.reduceTMod, Int.reduceSub, Int.reduceBNe, Bool.not_true, Bool.not_false, decide_true, decide_false, ne_eq, not_false_eq_true, Int.reduceEq, reduceCtorEq])
        refine ⟨h, ?_, To.refl _ _, fun _ _ => rfl, hw⟩
        by_cases hi : rs.length - 1 < cs.length
        · rw [if_pos hi] at lps
          simp only [↓s95, c0, c1, c2, ↓hb, ↓e1, ↓lenS_S, w1, ↓lps, ↓SD, SA, Int.ofNat_eq_natCast, Int.cast_ofNat_Int, Int.reduceBEq, Int.reduceAdd, Int.reduceNeg, Int.reduceNegSucc, Int.reduceLT, Int.reduceLE, Int.reduceMul, Int.reduceTMod, Int.reduceSub, Int.reduceBNe, Bool.not_true, Bool.not_false, decide_true, decide_false, ne_eq, not_false_eq_true, Int.reduceEq, reduceCtorEq]
        · rw [if_neg hi] at lps
          simp only [↓s95, c0, c1, c2, ↓hb, ↓e1, ↓lenS_S, w1, ↓lps, blk_x, ↓SD, SA, Int.ofNat_eq_natCast, Int.cast_ofNat_Int, Int.reduceBEq, Int.reduceAdd, Int.reduceNeg, Int.reduceNegSucc, Int.reduceLT, Int.reduceLE, Int.reduceMul, Int.reduceTMod, Int.reduceSub, Int.reduceBNe, Bool.not_true, Bool.not_false, decide_true, decide_false, ne_eq, not_false_eq_true, Int.reduceEq, reduceCtorEq]
end Go.Proofs.YtnpfppddongbhaaDoor
end

section
namespace Go.Proofs.YtnpfppddongbhaaDoor
open Go Go.AM
set_option autoImplicit false
theorem ixP_256 (b c j : Nat) (hj : j < 256) (k : AV → Res) : ixP 256 1 (.ptr b 0) (.int c (j : Int)) k = k (.ptr b j) := by
  have e : ixP 256 1 (.ptr b 0) (.int c (j : Int)) k = ifB (Nat.blt j 256) (k (.ptr b (Nat.add 0 (Nat.mul j 1)))) .fail := rfl
  rw [e, (blt_iff _ _).2 hj, ifB_t]
  have e2 : Nat.add 0 (Nat.mul j 1) = j := by show 0 + j * 1 = j; omega
  rw [e2]
noncomputable def setV (cs : List UInt8) : List AV := (List.range 256).map fun j => .bool (decide (UInt8.ofNat j ∈ cs))
theorem setV_len (cs : List UInt8) : (setV cs).length = 256 := by simp [setV]
theorem setV_one (cs : List UInt8) : ∀ v ∈ setV cs, one v = true := by
  intro v hv
  obtain ⟨j, -, rfl⟩ := List.mem_map.1 hv
  rfl
theorem setV_get (cs : List UInt8) (j : Nat) (hj : j < (setV cs).length) : (setV cs)[j] = .bool (decide (UInt8.ofNat j ∈ cs)) := by simp [setV]
def SetAt (h : Hp) (b : Nat) (cs : List UInt8) : Prop := ∃ B, Own h b B ∧ B.lim = 256 ∧ ∀ j, j < 256 → B.at j = .bool (decide (UInt8.ofNat j ∈ cs))
theorem loop97 {cs : List UInt8} (hc : Low cs) (hl : cs.length ≤ 100) (b : Nat) : ∀ (f m i : Nat) (h : Hp), cs.length - i ≤ f → f < m → i ≤ cs.length → Wf h → SetAt h b (cs.take i) →
    ∃ h', lp L97n0 m [S cs, .ptr b 0, .int 63 (i : Int)] h = .exit 0 [.ptr b 0] h' ∧ SetAt h' b cs ∧ To (At b) h h' ∧ Wf h' := by
  intro f
  induction f with
  | zero =>
    intro m i h hf hm hi hw hs
    obtain ⟨m, rfl⟩ : ∃ k, m = k + 1 := ⟨m - 1, by omega⟩
    have e1 : ¬ (i : Int) < (cs.length : Int) := by omega
    rw [List.take_of_length_le (by omega)] at hs
    exact ⟨h, lpx m (by simp only [↓L97n0, ↓lenS_S, e1, ↓SD, SA, Int.ofNat_eq_natCast, Int.cast_ofNat_Int, Int.reduceBEq, Int.reduceAdd, Int.reduceNeg, Int.reduceNegSucc, Int.reduceLT, Int.reduceLE, Int.reduceMul, Int.reduceTMod, Int.reduceSub, Int.reduceBNe, Bool.not_true, Bool.not_false, decide_true, decide_false, ne_eq, not_false_eq_true, Int.reduceEq, reduceCtorEq]), hs, To.refl _ _, hw⟩
  | succ f ih =>
    intro m i h hf hm hi hw hs
    obtain ⟨m, rfl⟩ : ∃ k, m = k + 1 := ⟨m - 1, by omega⟩
    by_cases hin : i < cs.length
    · have e1 : (i : Int) < (cs.length : Int) := by omega
      have hx := hc _ (List.getElem_mem hin)
      have e2 : (cs[i].toNat : Int) < 128 := by omega
      obtain ⟨B, o, hlim, hat⟩ := hs
      obtain ⟨h1, q1, q2, q3, q4⟩ := st1_own (o := cs[i].toNat) (v := .bool true) o (by omega) rfl
      have x1 := fun k => sIdx_S cs 63 i hin k
      have x2 := fun k => ixP_256 b 8 cs[i].toNat (by omega) k
      have e : L97n0 [S cs, .ptr b 0, .int 63 (i : Int)] h = .norm [S cs, .ptr b 0, .int 63 ((i + 1 : Nat) : Int)] h1 := by
        simp only [↓L97n0, ↓lenS_S, e1, ↓x1, e2, ↓x2, ↓q1, s1n i (by omega), ↓SD, SA, Int.ofNat_eq_natCast, Int.cast_ofNat_Int, Int.reduceBEq, Int.reduceAdd, Int.reduceNeg, Int.reduceNegSucc, Int.reduceLT, Int.reduceLE, Int.reduceMul, Int.reduceTMod, Int.reduceSub, Int.reduceBNe, Bool.not_true, Bool.not_false, decide_true, decide_false, ne_eq, not_false_eq_true, Int.reduceEq, reduceCtorEq]
      obtain ⟨h2, r1, r2, r3, r4⟩ := ih m (i + 1) h1 (by omega) (by omega) (by omega) (q3.wf hw) ⟨_, q2, hlim, fun j hj => by
        rw [setC_at (by omega), List.take_add_one, List.getElem?_eq_getElem hin]
        simp only [Option.toList, List.mem_append, List.mem_singleton]
        by_cases e : j = cs[i].toNat
        · subst e
          rw [if_pos rfl]
          have : UInt8.ofNat cs[i].toNat = cs[i] := by simp
          simp [this]
        · rw [if_neg e, hat j hj]
          have : ¬ UInt8.ofNat j = cs[i] := fun h => e (by rw [← h, u8n _ hj])
          simp [this]⟩
      exact ⟨h2, (lpn m e).trans r1, r2, q3.trans r3, r4⟩
    · have e1 : ¬ (i : Int) < (cs.length : Int) := by omega
      rw [List.take_of_length_le (by omega)] at hs
      exact ⟨h, lpx m (by simp only [↓L97n0, ↓lenS_S, e1, ↓SD, SA, Int.ofNat_eq_natCast, Int.cast_ofNat_Int, Int.reduceBEq, Int.reduceAdd, Int.reduceNeg, Int.reduceNegSucc, Int.reduceLT, Int.reduceLE, Int.reduceMul, Int.reduceTMod, Int.reduceSub, Int.reduceBNe, Bool.not_true, Bool.not_false, decide_true, decide_false, ne_eq, not_false_eq_true, Int.reduceEq, reduceCtorEq]), hs, To.refl _ _, hw⟩
theorem none256 : (List.replicate 256 (AV.bool false)).length = 256 := List.length_replicate ..
theorem mk256 {h : Hp} (hw : Wf h) : ∃ h', (∀ k : AV → Hp → Res, mk h (avL (List.replicate 256 (.bool false))) k = k (.ptr h.nb 0) h') ∧ SetAt h' h.nb [] ∧ To No h h' ∧ Wf h' ∧ h'.nb = h.nb + 1 := by
  obtain ⟨h', B, m1, m2, m3, m4, m5, m6, m7⟩ := mk_own hw (List.replicate 256 (.bool false)) (fun v hv => by rw [List.eq_of_mem_replicate hv]; rfl)
  rw [none256] at m3
  refine ⟨h', m1, ⟨B, m2, m3, fun j hj => ?_⟩, m5, m6, m7⟩
  rw [m4 j (by rw [none256]; exact hj), List.getElem_replicate, decide_eq_false (List.not_mem_nil)]
theorem SetAt.to {W : Nat → Prop} {h h' : Hp} {b : Nat} {cs : List UInt8} (hs : SetAt h b cs) (ht : To W h h') (hn : ¬ W b) : SetAt h' b cs := by
  obtain ⟨B, o, hl, hat⟩ := hs
  exact ⟨B, o.to ht hn, hl, hat⟩
theorem SetAt.ld {h : Hp} {b : Nat} {cs : List UInt8} (hs : SetAt h b cs) (k : AV → Res) : ldN h 256 (.ptr b 0) k = k (.agg (avL (setV cs))) := by
  obtain ⟨B, o, hl, hat⟩ := hs
  have := ldN_rd (o := 0) (l := setV cs) o.rd (fun i hi => by rw [setV_get, Nat.zero_add]; exact hat i (by rw [setV_len] at hi; exact hi)) (fun v hv => one_unk (setV_one cs v hv)) k
  rwa [setV_len] at this
theorem SetAt.st {h : Hp} {b : Nat} {ds : List UInt8} (hs : SetAt h b ds) (cs : List UInt8) : ∃ h', (∀ k : Hp → Res, stN h 256 (.ptr b 0) (.agg (avL (setV cs))) k = k h') ∧ SetAt h' b cs ∧ To (At b) h h' ∧ h'.nb = h.nb := by
  obtain ⟨B, o, hl, hat⟩ := hs
  obtain ⟨h', B', s1, s2, s3, s4, s5, s6⟩ := stN_own (o := 0) (l := setV cs) o (by rw [setV_len]; omega) (setV_one cs)
  rw [setV_len] at s1
  refine ⟨h', s1, ⟨B', s2, s3.trans hl, fun j hj => ?_⟩, s5, s6⟩
  rw [s4, dif_pos ⟨Nat.zero_le _, by rw [setV_len]; omega⟩]
  have := setV_get cs j (by rw [setV_len]; exact hj)
  simpa using this
theorem t97 {cs : List UInt8} (hc : Low cs) (hl : cs.length ≤ 100) {h : Hp} (hw : Wf h) : ∃ h', s97 [S cs] h = .ret (.tup (.cons (.agg (avL (setV cs))) (.cons (.bool true) .nil))) h' ∧ To No h h' ∧ Wf h' := by
  have e0 : s97 [S cs] h = mk h (avL (List.replicate 256 (.bool false))) fun v2 h3 => blk 0 (lp L97n0 most [S cs, v2, (.int 63 (.ofNat 0))] h3) fun w31 h32 => uc w31 fun v33 _ => ldN h32 256 v33 fun v34 => stN h32 256 v33 v34 fun h35 => ldN h35 256 v33 fun v36 => cK (.bool true) fun v37 => .ret (.tup (.cons v36 (.cons v37 .nil))) h35 := by kernel_rfl
  obtain ⟨h1, m1, s1, o1, w1, n1⟩ := mk256 hw
  obtain ⟨h2, r1, r2, r3, r4⟩ := loop97 hc hl h.nb cs.length most 0 h1 (by omega) (by unfold most; omega) (by omega) w1 (by simpa using s1)
  have r1 : lp L97n0 most [S cs, .ptr h.nb 0, .int 63 0] h1 = .exit 0 [.ptr h.nb 0] h2 := r1
  obtain ⟨h3, x1, x2, x3, x4⟩ := r2.st cs
  have y1 := fun k => r2.ld k
  have y2 := fun k => x2.ld k
  have tot := To.fresh o1 (r3.trans x3) (fun x e => by have : x = h.nb := e; omega)
  refine ⟨h3, ?_, tot, x3.wf r4⟩
  rw [e0, m1]
  simp only [↓r1, ↓blk_x, ↓y1, ↓x1, ↓y2, ↓SD, SA, Int.ofNat_eq_natCast, Int.cast_ofNat_Int, Int.reduceBEq, Int.reduceAdd, Int.reduceNeg, Int.reduceNegSucc, Int.reduceLT, Int.reduceLE, Int.reduceMul, Int.reduceTMod, Int.reduceSub, Int.reduceBNe, Bool.not_true, Bool.not_false, decide_true, decide_false, ne_eq, not_false_eq_true, Int.reduceEq, reduceCtorEq]
theorem t98 {h : Hp} {b : Nat} {cs : List UInt8} (hs : SetAt h b cs) (c : UInt8) : s98 [.ptr b 0, .int 8 (c.toNat : Int)] h = .ret (.bool (decide (c ∈ cs))) h := by
  obtain ⟨B, o, hl, hat⟩ := hs
  have hc := c.toNat_lt
  have x2 := fun k => ixP_256 b 8 c.toNat (by omega) k
  have hv := hat c.toNat (by omega)
  have ec : UInt8.ofNat c.toNat = c := by simp
  rw [ec] at hv
  have x3 : ∀ k : AV → Res, ld1 h (.ptr b c.toNat) k = k (.bool (decide (c ∈ cs))) := fun k => (ld1_rd o.rd hv k).trans (by rw [cK_b])
  simp only [↓s98, ↓nck_p, ↓x2, ↓x3, ↓SD, SA, Int.ofNat_eq_natCast, Int.cast_ofNat_Int, Int.reduceBEq, Int.reduceAdd, Int.reduceNeg, Int.reduceNegSucc, Int.reduceLT, Int.reduceLE, Int.reduceMul, Int.reduceTMod, Int.reduceSub, Int.reduceBNe, Bool.not_true, Bool.not_false, decide_true, decide_false, ne_eq, not_false_eq_true, Int.reduceEq, reduceCtorEq]
def anyOf (cs : List UInt8) (l : List UInt8) : Bool := l.any fun c => decide (c ∈ cs)
theorem loop73a {cs l : List UInt8} (hl : l.length ≤ 100000) {h : Hp} {b : Nat} (hs : SetAt h b cs) : ∀ (f m i : Nat), l.length - i ≤ f → f < m → i ≤ l.length →
    (anyOf cs (l.drop i) = true → ∃ j : Nat, lp L73n0 m [S l, .ptr b 0, .int 63 (i : Int)] h = .ret (.int 63 (j : Int)) h) ∧ (anyOf cs (l.drop i) = false → lp L73n0 m [S l, .ptr b 0, .int 63 (i : Int)] h = .exit 0 [] h) := by
  intro f
  induction f with
  | zero =>
    intro m i hf hm hi
    obtain ⟨m, rfl⟩ : ∃ k, m = k + 1 := ⟨m - 1, by omega⟩
    have e1 : ¬ (i : Int) < (l.length : Int) := by omega
    rw [List.drop_eq_nil_of_le (by omega)]
    exact ⟨fun h => (by cases h), fun _ => lpx m (by simp only [↓L73n0, ↓lenS_S, e1, ↓SD, SA, Int.ofNat_eq_natCast, Int.cast_ofNat_Int, Int.reduceBEq, Int.reduceAdd, Int.reduceNeg, Int.reduceNegSucc, Int.reduceLT, Int.reduceLE, Int.reduceMul, Int.reduceTMod, Int.reduceSub, Int.reduceBNe, Bool.not_true, Bool.not_false, decide_true, decide_false, ne_eq, not_false_eq_true, Int.reduceEq, reduceCtorEq])⟩
  | succ f ih =>
    intro m i hf hm hi
    obtain ⟨m, rfl⟩ : ∃ k, m = k + 1 := ⟨m - 1, by omega⟩
    by_cases hin : i < l.length
    · have e1 : (i : Int) < (l.length : Int) := by omega
      have x1 := fun k => sIdx_S l 63 i hin k
      have x2 := t98 hs l[i]
      rw [List.drop_eq_getElem_cons hin]
      have ea : anyOf cs (l[i] :: l.drop (i + 1)) = (decide (l[i] ∈ cs) || anyOf cs (l.drop (i + 1))) := rfl
      rw [ea]
      by_cases hc : l[i] ∈ cs
      · rw [decide_eq_true hc] at x2 ⊢
        exact ⟨fun _ => ⟨i, lpr m (by simp only [↓L73n0, ↓lenS_S, e1, ↓x1, ↓x2, ↓SD, SA, Int.ofNat_eq_natCast, Int.cast_ofNat_Int, Int.reduceBEq, Int.reduceAdd, Int.reduceNeg, Int.reduceNegSucc, Int.reduceLT, Int.reduceLE, Int.reduceMul, Int.reduceTMod, Int.reduceSub, Int.reduceBNe, Bool.not_true, Bool.not_false, decide_true, decide_false, ne_eq, not_false_eq_true, Int.reduceEq, reduceCtorEq])⟩, fun h => (by cases h)⟩
      · rw [decide_eq_false hc] at x2 ⊢
        have e : L73n0 [S l, .ptr b 0, .int 63 (i : Int)] h = .norm [S l, .ptr b 0, .int 63 ((i + 1 : Nat) : Int)] h := by
          simp only [↓L73n0, ↓lenS_S, e1, ↓x1, ↓x2, s1n i (by omega), ↓SD, SA, Int.ofNat_eq_natCast, Int.cast_ofNat_Int, Int.reduceBEq, Int.reduceAdd, Int.reduceNeg, Int.reduceNegSucc, Int.reduceLT, Int.reduceLE, Int.reduceMul, Int.reduceTMod, Int.reduceSub, Int.reduceBNe, Bool.not_true, Bool.not_false, decide_true, decide_false, ne_eq, not_false_eq_true, Int.reduceEq, reduceCtorEq]
        rw [lpn m e, Bool.false_or]
        exact ih m (i + 1) (by omega) (by omega) (by omega)
    · have e1 : ¬ (i : Int) < (l.length : Int) := by omega
      rw [List.drop_eq_nil_of_le (by omega)]
      exact ⟨fun h => (by cases h), fun _ => lpx m (by simp only [↓L73n0, ↓lenS_S, e1, ↓SD, SA, Int.ofNat_eq_natCast, Int.cast_ofNat_Int, Int.reduceBEq, Int.reduceAdd, Int.reduceNeg, Int.reduceNegSucc, Int.reduceLT, Int.reduceLE, Int.reduceMul, Int.reduceTMod, Int.reduceSub, Int.reduceBNe, Bool.not_true, Bool.not_false, decide_true, decide_false, ne_eq, not_false_eq_true, Int.reduceEq, reduceCtorEq])⟩
theorem any_skip {cs l : List UInt8} (hc : Low cs) : ∀ (w p : Nat), (∀ j (hj : j < l.length), p ≤ j → j < p + w → 128 ≤ l[j].toNat) → anyOf cs (l.drop p) = anyOf cs (l.drop (p + w)) := by
  intro w
  induction w with
  | zero => intro p _; rfl
  | succ w ih =>
    intro p hj
    by_cases hp : p < l.length
    · rw [List.drop_eq_getElem_cons hp]
      have ea : anyOf cs (l[p] :: l.drop (p + 1)) = (decide (l[p] ∈ cs) || anyOf cs (l.drop (p + 1))) := rfl
      have hn : ¬ l[p] ∈ cs := fun hm => by have := hc _ hm; have := hj p hp (Nat.le_refl _) (by omega); omega
      rw [ea, decide_eq_false hn, Bool.false_or, ih (p + 1) (fun j hj' h1 h2 => hj j hj' (by omega) (by omega)), show p + 1 + w = p + (w + 1) by omega]
    · rw [List.drop_eq_nil_of_le (by omega), List.drop_eq_nil_of_le (by omega)]
theorem loop73b {cs l : List UInt8} (hc : Low cs) (hcl : cs.length ≤ 100) (b : Nat) : ∀ (f m p : Nat) (h : Hp), l.length - p ≤ f → f < m → Wf h → b < h.nb → h.ms.get b = some (itr l.length (packB l) p) →
    (anyOf cs (l.drop p) = true → ∃ (j : Nat) (h' : Hp), lp L73n1 m [S cs, .ptr b 0] h = .ret (.int 63 (j : Int)) h' ∧ To No h h' ∧ Wf h') ∧ (anyOf cs (l.drop p) = false → ∃ h', lp L73n1 m [S cs, .ptr b 0] h = .exit 2 [] h' ∧ To No h h' ∧ Wf h') := by
  have stop : ∀ (m p : Nat) (h : Hp), ¬ p < l.length → Wf h → h.ms.get b = some (itr l.length (packB l) p) → 
      (anyOf cs (l.drop p) = true → ∃ (j : Nat) (h' : Hp), lp L73n1 (m + 1) [S cs, .ptr b 0] h = .ret (.int 63 (j : Int)) h' ∧ To No h h' ∧ Wf h') ∧ (anyOf cs (l.drop p) = false → ∃ h', lp L73n1 (m + 1) [S cs, .ptr b 0] h = .exit 2 [] h' ∧ To No h h' ∧ Wf h') := by
    intro m p h hp hw hg
    have e := fun k => nxt_end (k := k) hg hp
    rw [List.drop_eq_nil_of_le (by omega)]
    exact ⟨fun h => (by cases h), fun _ => ⟨h, lpx m (by simp only [↓L73n1, ↓e, ↓SD, SA, Int.ofNat_eq_natCast, Int.cast_ofNat_Int, Int.reduceBEq, Int.reduceAdd, Int.reduceNeg, Int.reduceNegSucc, Int.reduceLT, Int.reduceLE, Int.reduceMul, Int.reduceTMod, Int.reduceSub, Int.reduceBNe, Bool.not_true, Bool.not_false, decide_true, decide_false, ne_eq, not_false_eq_true, Int.reduceEq, reduceCtorEq]), To.refl _ _, hw⟩⟩
  intro f
  induction f with
  | zero =>
    intro m p h hf hm hw hb hg
    obtain ⟨m, rfl⟩ : ∃ k, m = k + 1 := ⟨m - 1, by omega⟩
    exact stop m p h (by omega) hw hg
  | succ f ih =>
    intro m p h hf hm hw hb hg
    obtain ⟨m, rfl⟩ : ∃ k, m = k + 1 := ⟨m - 1, by omega⟩
    by_cases hin : p < l.length
    · obtain ⟨h1, e, g1, o1, w1, n1, m1⟩ := nxt_go hg hin hw
      by_cases ha : l[p].toNat < 128
      · rw [dec_ascii l p hin ha] at e g1
        obtain ⟨h2, e2, o2, m2, w2⟩ := t95 hc hcl l[p].toNat (by omega) w1
        rw [if_pos ha, show UInt8.ofNat l[p].toNat = l[p] by simp] at e2
        rw [List.drop_eq_getElem_cons hin]
        have ea : anyOf cs (l[p] :: l.drop (p + 1)) = (decide (l[p] ∈ cs) || anyOf cs (l.drop (p + 1))) := rfl
        rw [ea]
        have n2 : nth (.cons (.bool true) (.cons (.int 63 (p : Int)) (.cons (.int 31 (l[p].toNat : Int)) .nil))) 2 = .int 31 (l[p].toNat : Int) := rfl
        have hiff := idx_neg cs l[p]
        by_cases hm2 : l[p] ∈ cs
        · have q : ¬ Lib.indexByte cs l[p] < 0 := fun h => hiff.1 h hm2
          rw [decide_eq_true hm2]
          exact ⟨fun _ => ⟨p, h2, lpr m (by simp only [↓L73n1, ↓e, n2, ↓e2, q, ↓SD, SA, Int.ofNat_eq_natCast, Int.cast_ofNat_Int, Int.reduceBEq, Int.reduceAdd, Int.reduceNeg, Int.reduceNegSucc, Int.reduceLT, Int.reduceLE, Int.reduceMul, Int.reduceTMod, Int.reduceSub, Int.reduceBNe, Bool.not_true, Bool.not_false, decide_true, decide_false, ne_eq, not_false_eq_true, Int.reduceEq, reduceCtorEq]), o1.trans o2, w2⟩, fun h => (by cases h)⟩
        · have q : Lib.indexByte cs l[p] < 0 := hiff.2 hm2
          rw [decide_eq_false hm2, Bool.false_or]
          have e1 : L73n1 [S cs, .ptr b 0] h = .norm [S cs, .ptr b 0] h2 := by simp only [↓L73n1, ↓e, n2, ↓e2, q, ↓SD, SA, Int.ofNat_eq_natCast, Int.cast_ofNat_Int, Int.reduceBEq, Int.reduceAdd, Int.reduceNeg, Int.reduceNegSucc, Int.reduceLT, Int.reduceLE, Int.reduceMul, Int.reduceTMod, Int.reduceSub, Int.reduceBNe, Bool.not_true, Bool.not_false, decide_true, decide_false, ne_eq, not_false_eq_true, Int.reduceEq, reduceCtorEq]
          rw [lpn m e1]
          obtain ⟨i1, i2⟩ := ih m (p + 1) h2 (by omega) (by omega) w2 (by have := o2.nb; omega) ((m2 b (by omega)).trans g1)
          exact ⟨fun ht => by obtain ⟨j, h', x1, x2, x3⟩ := i1 ht; exact ⟨j, h', x1, (o1.trans o2).trans x2, x3⟩, fun ht => by obtain ⟨h', x1, x2, x3⟩ := i2 ht; exact ⟨h', x1, (o1.trans o2).trans x2, x3⟩⟩
      · obtain ⟨d1, d2, d3, d4⟩ := dec_high l p hin ha
        generalize decA l.length (packB l) p = dd at *
        obtain ⟨r, w⟩ := dd
        simp only at d1 d2 d3 d4 e g1
        obtain ⟨h2, e2, o2, m2, w2⟩ := t95 hc hcl r d2 w1
        rw [if_neg (by omega)] at e2
        have n2 : nth (.cons (.bool true) (.cons (.int 63 (p : Int)) (.cons (.int 31 (r : Int)) .nil))) 2 = .int 31 (r : Int) := rfl
        have e1 : L73n1 [S cs, .ptr b 0] h = .norm [S cs, .ptr b 0] h2 := by simp only [↓L73n1, ↓e, n2, ↓e2, ↓SD, SA, Int.ofNat_eq_natCast, Int.cast_ofNat_Int, Int.reduceBEq, Int.reduceAdd, Int.reduceNeg, Int.reduceNegSucc, Int.reduceLT, Int.reduceLE, Int.reduceMul, Int.reduceTMod, Int.reduceSub, Int.reduceBNe, Bool.not_true, Bool.not_false, decide_true, decide_false, ne_eq, not_false_eq_true, Int.reduceEq, reduceCtorEq]
        rw [lpn m e1, any_skip hc w p d4]
        obtain ⟨i1, i2⟩ := ih m (p + w) h2 (by omega) (by omega) w2 (by have := o2.nb; omega) ((m2 b (by omega)).trans g1)
        exact ⟨fun ht => by obtain ⟨j, h', x1, x2, x3⟩ := i1 ht; exact ⟨j, h', x1, (o1.trans o2).trans x2, x3⟩, fun ht => by obtain ⟨h', x1, x2, x3⟩ := i2 ht; exact ⟨h', x1, (o1.trans o2).trans x2, x3⟩⟩
    · exact stop m p h hin hw hg
end Go.Proofs.YtnpfppddongbhaaDoor
end

section
namespace Go.Proofs.YtnpfppddongbhaaDoor
open Go Go.AM
set_option autoImplicit false
theorem t96 (n : Nat) (h : Hp) : s96 [.int 63 (n : Int)] h = .ret (.bool (decide (8 < n))) h := by
  by_cases c : 8 < n
  · have e : (8 : Int) < (n : Int) := by omega
    simp only [↓s96, e, c, ↓SD, SA, Int.ofNat_eq_natCast, Int.cast_ofNat_Int, Int.reduceBEq, Int.reduceAdd, Int.reduceNeg, Int.reduceNegSucc, Int.reduceLT, Int.reduceLE, Int.reduceMul, Int.reduceTMod, Int.reduceSub, Int.reduceBNe, Bool.not_true, Bool.not_false, decide_true, decide_false, ne_eq, not_false_eq_true, Int.reduceEq, reduceCtorEq]
  · have e : ¬ (8 : Int) < (n : Int) := by omega
    simp only [↓s96, e, c, ↓SD, SA, Int.ofNat_eq_natCast, Int.cast_ofNat_Int, Int.reduceBEq, Int.reduceAdd, Int.reduceNeg, Int.reduceNegSucc, Int.reduceLT, Int.reduceLE, Int.reduceMul, Int.reduceTMod, Int.reduceSub, Int.reduceBNe, Bool.not_true, Bool.not_false, decide_true, decide_false, ne_eq, not_false_eq_true, Int.reduceEq, reduceCtorEq]
theorem t73 {cs l : List UInt8} (hc : Low cs) (h2 : 2 ≤ cs.length) (hcl : cs.length ≤ 100) (hl : l.length ≤ 100000) {h : Hp} (hw : Wf h) :
    ∃ (r : Int) (h' : Hp), s73 [S l, S cs] h = .ret (.int 63 r) h' ∧ (r < 0 ↔ anyOf cs l = false) ∧ To No h h' ∧ Wf h' := by
  have e0 : s73 [S l, S cs] h = (eqS (S cs) (.str 0 0) fun b4 => cB (.bool b4) fun b5 => ifB b5 (cK (.int 63 (.negSucc 0)) fun v6 => .ret v6 h) (lenS (S cs) fun v7 => eqN v7 (.int 63 (.ofNat 1)) fun b8 => cB (.bool b8) fun b9 => ifB b9 (sIdx (S cs) (.int 63 (.ofNat 0)) fun v10 => iConv 31 v10 fun v11 => jn (ltN v11 (.int 31 (.ofNat 128)) fun b12 => cB (.bool (bnot b12)) fun b13 => ifB b13 (.norm [(S l), (.int 31 (.ofNat 65533))] h) (.norm [(S l), v11] h)) fun w14 h15 => uc w14 fun v16 w17 => uc w17 fun v18 _ => cl (s95 [v16, v18] h15) fun v19 h20 => cK v19 fun v21 => .ret v21 h20) (jn (lenS (S l) fun v22 => cl (s96 [v22] h) fun v23 h24 => cB v23 fun b25 => ifB b25 (cl (s97 [(S cs)] h24) fun v26 h27 => cT v26 fun l28 => cK (nth l28 0) fun v29 => cT v26 fun l30 => cK (nth l30 1) fun v31 => mk h27 (avL (List.replicate 256 (.bool false))) fun v32 h33 => stN h33 256 v32 v29 fun h34 => cB v31 fun b35 => ifB b35 (blk 0 (lp L73n0 most [(S l), v32, (.int 63 (.ofNat 0))] h34) fun _ h59 => cK (.int 63 (.negSucc 0)) fun v60 => .ret v60 h59) (.norm [(S l), (S cs)] h34)) (.norm [(S l), (S cs)] h24)) fun w61 h62 => uc w61 fun v63 w64 => uc w64 fun v65 _ => rng h62 v63 fun v66 h67 => blk 2 (lp L73n1 most [v65, v66] h67) fun _ h92 => cK (.int 63 (.negSucc 0)) fun v93 => .ret v93 h92))) := by kernel_rfl
  have z1 : decide (cs = []) = false := decide_eq_false fun h => by rw [h] at h2; simp at h2
  have z2 : (((cs.length : Nat) : Int) == 1) = false := beq_eq_false_iff_ne.2 (by omega)
  by_cases h8 : 8 < l.length
  · obtain ⟨h1, r1, o1, w1⟩ := t97 hc hcl hw
    obtain ⟨h3, m1, s1, o3, w3, n3⟩ := mk256 w1
    obtain ⟨h4, q1, q2, q3, q4⟩ := s1.st cs
    have x := t96 l.length h
    rw [decide_eq_true h8] at x
    obtain ⟨g1, g2⟩ := loop73a hl q2 l.length most 0 (by omega) (by unfold most; omega) (by omega)
    rw [List.drop_zero, show ((0 : Nat) : Int) = 0 from rfl] at g1 g2
    have tot : To No h h4 := (o1.trans o3).fresh q3 (fun x e => by have : x = h1.nb := e; have := o1.nb; omega)
    cases ha : anyOf cs l with
    | true =>
      obtain ⟨j, g1⟩ := g1 ha
      refine ⟨(j : Int), h4, ?_, ⟨fun h => by omega, fun h => (by cases h)⟩, tot, q3.wf w3⟩
      rw [e0]
      simp only [↓S_0, ↓eqS_S, z1, ↓lenS_S, z2, ↓x, ↓r1, ↓m1, ↓q1, ↓g1, cK_a, ↓cK_a, ↓SD, SA, Int.ofNat_eq_natCast, Int.cast_ofNat_Int, Int.reduceBEq, Int.reduceAdd, Int.reduceNeg, Int.reduceNegSucc, Int.reduceLT, Int.reduceLE, Int.reduceMul, Int.reduceTMod, Int.reduceSub, Int.reduceBNe, Bool.not_true, Bool.not_false, decide_true, decide_false, ne_eq, not_false_eq_true, Int.reduceEq, reduceCtorEq]
    | false =>
      have g2 := g2 ha
      refine ⟨-1, h4, ?_, ⟨fun _ => rfl, fun _ => by omega⟩, tot, q3.wf w3⟩
      rw [e0]
      simp only [↓S_0, ↓eqS_S, z1, ↓lenS_S, z2, ↓x, ↓r1, ↓m1, ↓q1, ↓g2, ↓blk_x, cK_a, ↓cK_a, ↓SD, SA, Int.ofNat_eq_natCast, Int.cast_ofNat_Int, Int.reduceBEq, Int.reduceAdd, Int.reduceNeg, Int.reduceNegSucc, Int.reduceLT, Int.reduceLE, Int.reduceMul, Int.reduceTMod, Int.reduceSub, Int.reduceBNe, Bool.not_true, Bool.not_false, decide_true, decide_false, ne_eq, not_false_eq_true, Int.reduceEq, reduceCtorEq]
  · have x := t96 l.length h
    rw [decide_eq_false h8] at x
    obtain ⟨h1, e, g1, o1, m1, w1, n1⟩ := rng_S hw l
    obtain ⟨i1, i2⟩ := loop73b hc hcl h.nb l.length most 0 h1 (by omega) (by unfold most; omega) w1 (by omega) g1
    rw [List.drop_zero] at i1 i2
    cases ha : anyOf cs l with
    | true =>
      obtain ⟨j, h2, x1, x2, x3⟩ := i1 ha
      refine ⟨(j : Int), h2, ?_, ⟨fun h => by omega, fun h => (by cases h)⟩, o1.trans x2, x3⟩
      rw [e0]
      simp only [↓S_0, ↓eqS_S, z1, ↓lenS_S, z2, ↓x, ↓e, ↓x1, ↓SD, SA, Int.ofNat_eq_natCast, Int.cast_ofNat_Int, Int.reduceBEq, Int.reduceAdd, Int.reduceNeg, Int.reduceNegSucc, Int.reduceLT, Int.reduceLE, Int.reduceMul, Int.reduceTMod, Int.reduceSub, Int.reduceBNe, Bool.not_true, Bool.not_false, decide_true, decide_false, ne_eq, not_false_eq_true, Int.reduceEq, reduceCtorEq]
    | false =>
      obtain ⟨h2, x1, x2, x3⟩ := i2 ha
      refine ⟨-1, h2, ?_, ⟨fun _ => rfl, fun _ => by omega⟩, o1.trans x2, x3⟩
      rw [e0]
      simp only [↓S_0, ↓eqS_S, z1, ↓lenS_S, z2, ↓x, ↓e, ↓x1, ↓blk_x, ↓SD, SA, Int.ofNat_eq_natCast, Int.cast_ofNat_Int, Int.reduceBEq, Int.reduceAdd, Int.reduceNeg, Int.reduceNegSucc, Int.reduceLT, Int.reduceLE, Int.reduceMul, Int.reduceTMod, Int.reduceSub, Int.reduceBNe, Bool.not_true, Bool.not_false, decide_true, decide_false, ne_eq, not_false_eq_true, Int.reduceEq, reduceCtorEq]
theorem t50 {cs l : List UInt8} (hc : Low cs) (h2 : 2 ≤ cs.length) (hcl : cs.length ≤ 100) (hl : l.length ≤ 100000) {h : Hp} (hw : Wf h) :
    ∃ h', s50 [S l, S cs] h = .ret (.bool (anyOf cs l)) h' ∧ To No h h' ∧ Wf h' := by
  obtain ⟨r, h', e, q, o, w⟩ := t73 hc h2 hcl hl hw
  refine ⟨h', ?_, o, w⟩
  cases ha : anyOf cs l with
  | true =>
    have : ¬ r < 0 := fun h => by rw [ha] at q; cases q.1 h
    simp only [↓s50, ↓e, this, ↓SD, SA, Int.ofNat_eq_natCast, Int.cast_ofNat_Int, Int.reduceBEq, Int.reduceAdd, Int.reduceNeg, Int.reduceNegSucc, Int.reduceLT, Int.reduceLE, Int.reduceMul, Int.reduceTMod, Int.reduceSub, Int.reduceBNe, Bool.not_true, Bool.not_false, decide_true, decide_false, ne_eq, not_false_eq_true, Int.reduceEq, reduceCtorEq]
  | false =>
    have : r < 0 := q.2 ha
    simp only [↓s50, ↓e, this, ↓SD, SA, Int.ofNat_eq_natCast, Int.cast_ofNat_Int, Int.reduceBEq, Int.reduceAdd, Int.reduceNeg, Int.reduceNegSucc, Int.reduceLT, Int.reduceLE, Int.reduceMul, Int.reduceTMod, Int.reduceSub, Int.reduceBNe, Bool.not_true, Bool.not_false, decide_true, decide_false, ne_eq, not_false_eq_true, Int.reduceEq, reduceCtorEq]
noncomputable def okD (l : List UInt8) : Bool := (Dec l.length (packB l)).isSome
theorem t49o {l : List UInt8} (hl : l.length ≤ 100000) {h : Hp} (hw : Wf h) : ∃ v h', s49 [S l] h = .ret (.tup (.cons v (.cons (.bool (okD l)) .nil))) h' ∧ one v = true ∧ To No h h' ∧ Wf h' := by
  obtain ⟨v, h', e, s, o, w⟩ := t49 l.length (packB l) hl h hw
  exact ⟨v, h', e, one_sl s, o, w⟩
theorem t51o {l : List UInt8} (hl : l.length ≤ 100000) {h : Hp} (hw : Wf h) : ∃ v h', s51 [S l] h = .ret (.tup (.cons v (.cons (.bool (okD l)) .nil))) h' ∧ one v = true ∧ To No h h' ∧ Wf h' := by
  obtain ⟨v, h', e, s, o, w⟩ := t51 l.length (packB l) hl h hw
  exact ⟨v, h', e, one_sl s, o, w⟩
abbrev bar : List UInt8 := [46, 59, 91, 47]
theorem low_bar : Low bar := by unfold Low bar; decide
theorem low_lg : Low [60, 62] := by unfold Low; decide
noncomputable def plain (l : List UInt8) : Bool := okD l && (!decide (l = []) && !anyOf bar l)
theorem t15 {l : List UInt8} (hl : l.length ≤ 100000) {h : Hp} (hw : Wf h) : ∃ h', s15 [S l] h = .ret (.bool (plain l)) h' ∧ To No h h' ∧ Wf h' := by
  obtain ⟨v, h1, e1, q1, o1, w1⟩ := t49o hl hw
  have k1 : ∀ k : AV → Res, cK v k = k v := fun k => cK_one q1 k
  unfold plain
  cases hd : okD l with
  | false =>
    rw [hd] at e1
    exact ⟨h1, by simp only [↓s15, ↓e1, nth_z, nth_1, ↓k1, ↓SD, SA, Int.ofNat_eq_natCast, Int.cast_ofNat_Int, Int.reduceBEq, Int.reduceAdd, Int.reduceNeg, Int.reduceNegSucc, Int.reduceLT, Int.reduceLE, Int.reduceMul, Int.reduceTMod, Int.reduceSub, Int.reduceBNe, Bool.not_true, Bool.not_false, decide_true, decide_false, ne_eq, not_false_eq_true, Int.reduceEq, reduceCtorEq]; rfl, o1, w1⟩
  | true =>
    rw [hd] at e1
    by_cases hn : l = []
    · have z : decide (l = []) = true := decide_eq_true hn
      exact ⟨h1, by simp only [↓s15, ↓e1, nth_z, nth_1, ↓k1, ↓S_0, ↓eqS_S, z, ↓SD, SA, Int.ofNat_eq_natCast, Int.cast_ofNat_Int, Int.reduceBEq, Int.reduceAdd, Int.reduceNeg, Int.reduceNegSucc, Int.reduceLT, Int.reduceLE, Int.reduceMul, Int.reduceTMod, Int.reduceSub, Int.reduceBNe, Bool.not_true, Bool.not_false, decide_true, decide_false, ne_eq, not_false_eq_true, Int.reduceEq, reduceCtorEq]; rfl, o1, w1⟩
    · have z : decide (l = []) = false := decide_eq_false hn
      obtain ⟨h2, e2, o2, w2⟩ := t50 low_bar (by decide) (by decide) hl w1
      refine ⟨h2, ?_, o1.trans o2, w2⟩
      rw [show S bar = AV.str 4 794508078 from S_cs.symm] at e2
      generalize anyOf bar l = b at *
      cases b <;> (simp only [↓s15, ↓e1, nth_z, nth_1, ↓k1, ↓S_0, ↓eqS_S, z, ↓e2, ↓SD, SA, Int.ofNat_eq_natCast, Int.cast_ofNat_Int, Int.reduceBEq, Int.reduceAdd, Int.reduceNeg, Int.reduceNegSucc, Int.reduceLT, Int.reduceLE, Int.reduceMul, Int.reduceTMod, Int.reduceSub, Int.reduceBNe, Bool.not_true, Bool.not_false, decide_true, decide_false, ne_eq, not_false_eq_true, Int.reduceEq, reduceCtorEq]; rfl)
theorem c8e (c : UInt8) (n : Nat) (hn : n < 256) : (((c.toNat : Int) == (n : Int)) : Bool) = decide (c = UInt8.ofNat n) := by
  rw [Bool.eq_iff_iff]
  simp only [beq_iff_eq, decide_eq_true_eq]
  constructor
  · intro h
    have : c.toNat = n := by omega
    rw [← this]; simp
  · rintro rfl
    rw [u8n _ hn]
theorem loop16 {l : List UInt8} (hl : l.length ≤ 100000) {h : Hp} : ∀ (f m i : Nat), l.length - i ≤ f → f < m → i ≤ l.length →
    lp L16n0 m [S l, .int 63 (i : Int)] h = if anyOf bar (l.drop i) = true then .ret (.bool false) h else .exit 0 [S l] h := by
  intro f
  induction f with
  | zero =>
    intro m i hf hm hi
    obtain ⟨m, rfl⟩ : ∃ k, m = k + 1 := ⟨m - 1, by omega⟩
    have e1 : ¬ (i : Int) < (l.length : Int) := by omega
    rw [List.drop_eq_nil_of_le (by omega), if_neg (by decide)]
    exact lpx m (by simp only [↓L16n0, ↓lenS_S, e1, ↓SD, SA, Int.ofNat_eq_natCast, Int.cast_ofNat_Int, Int.reduceBEq, Int.reduceAdd, Int.reduceNeg, Int.reduceNegSucc, Int.reduceLT, Int.reduceLE, Int.reduceMul, Int.reduceTMod, Int.reduceSub, Int.reduceBNe, Bool.not_true, Bool.not_false, decide_true, decide_false, ne_eq, not_false_eq_true, Int.reduceEq, reduceCtorEq])
  | succ f ih =>
    intro m i hf hm hi
    obtain ⟨m, rfl⟩ : ∃ k, m = k + 1 := ⟨m - 1, by omega⟩
    by_cases hin : i < l.length
    · have e1 : (i : Int) < (l.length : Int) := by omega
      have x1 := fun k => sIdx_S l 63 i hin k
      have f1 := c8e l[i] 46 (by decide)
      have f2 := c8e l[i] 59 (by decide)
      have f3 := c8e l[i] 91 (by decide)
      have f4 := c8e l[i] 47 (by decide)
      rw [List.drop_eq_getElem_cons hin]
      have ea : anyOf bar (l[i] :: l.drop (i + 1)) = (decide (l[i] ∈ bar) || anyOf bar (l.drop (i + 1))) := rfl
      have em : decide (l[i] ∈ bar) = (decide (l[i] = 46) || (decide (l[i] = 59) || (decide (l[i] = 91) || decide (l[i] = 47)))) := by simp [bar, Bool.decide_or]
      rw [ea, em]
      have g1 : ((l[i].toNat : Int) == 46) = decide (l[i] = 46) := f1
      have g2 : ((l[i].toNat : Int) == 59) = decide (l[i] = 59) := f2
      have g3 : ((l[i].toNat : Int) == 91) = decide (l[i] = 91) := f3
      have g4 : ((l[i].toNat : Int) == 47) = decide (l[i] = 47) := f4
      have sn := s1n i (by omega)
      cases d1 : decide (l[i] = 46) <;> cases d2 : decide (l[i] = 59) <;> cases d3 : decide (l[i] = 91) <;> cases d4 : decide (l[i] = 47) <;> rw [d1] at g1 <;> rw [d2] at g2 <;> rw [d3] at g3 <;> rw [d4] at g4 <;>
        first
        | (rw [if_pos (by rfl)]; exact lpr m (by simp only [↓L16n0, ↓lenS_S, e1, ↓x1, g1, g2, g3, g4, ↓SD, SA, Int.ofNat_eq_natCast, Int.cast_ofNat_Int, Int.reduceBEq, Int.reduceAdd, Int.reduceNeg, Int.reduceNegSucc, Int.reduceLT, Int.reduceLE, Int.reduceMul, Int.reduceTMod, Int.reduceSub, Int.reduceBNe, Bool.not_true, Bool.not_false, decide_true, decide_false, ne_eq, not_false_eq_true, Int.reduceEq, reduceCtorEq]))
        | (have e : L16n0 [S l, .int 63 (i : Int)] h = .norm [S l, .int 63 ((i + 1 : Nat) : Int)] h := by simp only [↓L16n0, ↓lenS_S, e1, ↓x1, g1, g2, g3, g4, sn, ↓SD, SA, Int.ofNat_eq_natCast, Int.cast_ofNat_Int, Int.reduceBEq, Int.reduceAdd, Int.reduceNeg, Int.reduceNegSucc, Int.reduceLT, Int.reduceLE, Int.reduceMul, Int.reduceTMod, Int.reduceSub, Int.reduceBNe, Bool.not_true, Bool.not_false, decide_true, decide_false, ne_eq, not_false_eq_true, Int.reduceEq, reduceCtorEq]
           rw [lpn m e]
           exact ih m (i + 1) (by omega) (by omega) (by omega))
    · have e1 : ¬ (i : Int) < (l.length : Int) := by omega
      rw [List.drop_eq_nil_of_le (by omega), if_neg (by decide)]
      exact lpx m (by simp only [↓L16n0, ↓lenS_S, e1, ↓SD, SA, Int.ofNat_eq_natCast, Int.cast_ofNat_Int, Int.reduceBEq, Int.reduceAdd, Int.reduceNeg, Int.reduceNegSucc, Int.reduceLT, Int.reduceLE, Int.reduceMul, Int.reduceTMod, Int.reduceSub, Int.reduceBNe, Bool.not_true, Bool.not_false, decide_true, decide_false, ne_eq, not_false_eq_true, Int.reduceEq, reduceCtorEq])
theorem t16 {l : List UInt8} (hl : l.length ≤ 100000) {h : Hp} (hw : Wf h) : ∃ h', s16 [S l] h = .ret (.bool (plain l)) h' ∧ To No h h' ∧ Wf h' := by
  have lp0 := loop16 hl (h := h) l.length most 0 (by omega) (by unfold most; omega) (by omega)
  rw [List.drop_zero, show ((0 : Nat) : Int) = 0 from rfl] at lp0
  unfold plain
  cases ha : anyOf bar l with
  | true =>
    rw [ha, if_pos rfl] at lp0
    exact ⟨h, by simp only [↓s16, ↓lp0, ↓SD, SA, Int.ofNat_eq_natCast, Int.cast_ofNat_Int, Int.reduceBEq, Int.reduceAdd, Int.reduceNeg, Int.reduceNegSucc, Int.reduceLT, Int.reduceLE, Int.reduceMul, Int.reduceTMod, Int.reduceSub, Int.reduceBNe, Bool.not_true, Bool.not_false, decide_true, decide_false, ne_eq, not_false_eq_true, Int.reduceEq, reduceCtorEq]; simp, To.refl _ _, hw⟩
  | false =>
    rw [ha, if_neg (by decide)] at lp0
    obtain ⟨v, h1, e1, q1, o1, w1⟩ := t51o hl hw
    have k1 : ∀ k : AV → Res, cK v k = k v := fun k => cK_one q1 k
    refine ⟨h1, ?_, o1, w1⟩
    cases hd : okD l with
    | false =>
      rw [hd] at e1
      simp only [↓s16, ↓lp0, ↓blk_x, ↓e1, nth_z, nth_1, ↓k1, ↓SD, SA, Int.ofNat_eq_natCast, Int.cast_ofNat_Int, Int.reduceBEq, Int.reduceAdd, Int.reduceNeg, Int.reduceNegSucc, Int.reduceLT, Int.reduceLE, Int.reduceMul, Int.reduceTMod, Int.reduceSub, Int.reduceBNe, Bool.not_true, Bool.not_false, decide_true, decide_false, ne_eq, not_false_eq_true, Int.reduceEq, reduceCtorEq]; rfl
    | true =>
      rw [hd] at e1
      by_cases hn : l = []
      · have z : decide (l = []) = true := decide_eq_true hn
        simp only [↓s16, ↓lp0, ↓blk_x, ↓e1, nth_z, nth_1, ↓k1, ↓S_0, ↓eqS_S, z, ↓SD, SA, Int.ofNat_eq_natCast, Int.cast_ofNat_Int, Int.reduceBEq, Int.reduceAdd, Int.reduceNeg, Int.reduceNegSucc, Int.reduceLT, Int.reduceLE, Int.reduceMul, Int.reduceTMod, Int.reduceSub, Int.reduceBNe, Bool.not_true, Bool.not_false, decide_true, decide_false, ne_eq, not_false_eq_true, Int.reduceEq, reduceCtorEq]; rfl
      · have z : decide (l = []) = false := decide_eq_false hn
        simp only [↓s16, ↓lp0, ↓blk_x, ↓e1, nth_z, nth_1, ↓k1, ↓S_0, ↓eqS_S, z, ↓SD, SA, Int.ofNat_eq_natCast, Int.cast_ofNat_Int, Int.reduceBEq, Int.reduceAdd, Int.reduceNeg, Int.reduceNegSucc, Int.reduceLT, Int.reduceLE, Int.reduceMul, Int.reduceTMod, Int.reduceSub, Int.reduceBNe, Bool.not_true, Bool.not_false, decide_true, decide_false, ne_eq, not_false_eq_true, Int.reduceEq, reduceCtorEq]; rfl
end Go.Proofs.YtnpfppddongbhaaDoor
end

section
namespace Go.Proofs.YtnpfppddongbhaaDoor
open Go Go.AM
set_option autoImplicit false
def spl : List UInt8 → List (List UInt8)
  | [] => [[]]
  | c :: l => if c = 47 then [] :: spl l else match spl l with
    | x :: xs => (c :: x) :: xs
    | [] => [[c]]
theorem spl_none (a : List UInt8) (h : (47 : UInt8) ∉ a) : spl a = [a] := by
  induction a with
  | nil => rfl
  | cons c a ih =>
    have h1 : ¬ c = 47 := fun e => h (by simp [e])
    have h2 : (47 : UInt8) ∉ a := fun e => h (by simp [e])
    simp only [spl, if_neg h1, ih h2]
theorem spl_app (a b : List UInt8) (h : (47 : UInt8) ∉ a) : spl (a ++ 47 :: b) = a :: spl b := by
  induction a with
  | nil => simp only [List.nil_append, spl, if_true]
  | cons c a ih =>
    have h1 : ¬ c = 47 := fun e => h (by simp [e])
    have h2 : (47 : UInt8) ∉ a := fun e => h (by simp [e])
    simp only [List.cons_append, spl, if_neg h1, ih h2]
theorem spl_len (l : List UInt8) : (spl l).length = l.count 47 + 1 := by
  induction l with
  | nil => rfl
  | cons c l ih =>
    by_cases h : c = 47
    · subst h; simp [spl, ih]
    · rw [List.count_cons_of_ne (by simpa using h)]
      simp only [spl, if_neg h]
      cases hs : spl l with
      | nil => rw [hs] at ih; simp at ih
      | cons x xs => rw [hs] at ih; simpa using ih
theorem idx_spl (l : List UInt8) (h : (47 : UInt8) ∈ l) : ∃ (a b : List UInt8), l = a ++ 47 :: b ∧ (47 : UInt8) ∉ a ∧ Lib.indexByte l 47 = (a.length : Int) := by
  induction l with
  | nil => cases h
  | cons c l ih =>
    by_cases hc : c = 47
    · subst hc
      exact ⟨[], l, rfl, by simp, by simp [Lib.indexByte]⟩
    · have hm : (47 : UInt8) ∈ l := by
        rcases List.mem_cons.1 h with e | e
        · exact absurd e.symm hc
        · exact e
      obtain ⟨a, b, rfl, h1, h2⟩ := ih hm
      refine ⟨c :: a, b, rfl, ?_, ?_⟩
      · intro hm
        rcases List.mem_cons.1 hm with e | e
        · exact hc e.symm
        · exact h1 e
      · have e1 : (c == 47) = false := by simpa using hc
        have e2 : ((a.length : Int) == -1) = false := beq_eq_false_iff_ne.2 (by omega)
        unfold Lib.indexByte
        rw [e1, h2, e2]
        simp
theorem t115 (l : List UInt8) (h : Hp) : s115 [S l, S [47]] h = .ret (.int 63 (Lib.indexByte l 47)) h := by
  have x1 := fun k => sIdx_S [47] 63 0 (by decide) k
  have x2 : ∀ k : AV → Res, sIdx (S [47]) (.int 63 0) k = k (.int 8 47) := x1
  have x3 : s103 [S l, .int 8 47] h = .ret (.int 63 (Lib.indexByte l 47)) h := t103 l 47 h
  by_cases hl : [47] = l
  · have z : decide (([47] : List UInt8) = l) = true := decide_eq_true hl
    have e0 : Lib.indexByte l 47 = 0 := by rw [← hl]; rfl
    rw [e0]
    simp only [↓s115, ↓lenS_S, List.length_cons, List.length_nil, ↓eqS_S, z, Nat.zero_add, Int.natCast_one, ↓SD, SA, Int.ofNat_eq_natCast, Int.cast_ofNat_Int, Int.reduceBEq, Int.reduceAdd, Int.reduceNeg, Int.reduceNegSucc, Int.reduceLT, Int.reduceLE, Int.reduceMul, Int.reduceTMod, Int.reduceSub, Int.reduceBNe, Bool.not_true, Bool.not_false, decide_true, decide_false, ne_eq, not_false_eq_true, Int.reduceEq, reduceCtorEq]
  · have z : decide (([47] : List UInt8) = l) = false := decide_eq_false hl
    simp only [↓s115, ↓lenS_S, List.length_cons, List.length_nil, ↓eqS_S, z, ↓x2, ↓x3, Nat.zero_add, Int.natCast_one, ↓SD, SA, Int.ofNat_eq_natCast, Int.cast_ofNat_Int, Int.reduceBEq, Int.reduceAdd, Int.reduceNeg, Int.reduceNegSucc, Int.reduceLT, Int.reduceLE, Int.reduceMul, Int.reduceTMod, Int.reduceSub, Int.reduceBNe, Bool.not_true, Bool.not_false, decide_true, decide_false, ne_eq, not_false_eq_true, Int.reduceEq, reduceCtorEq]
theorem t101 (l : List UInt8) (h : Hp) : s101 [S l, S [47]] h = .ret (.int 63 (Lib.indexByte l 47)) h := by
  have := t115 l h
  simp only [↓s101, ↓this, ↓SD, SA, Int.ofNat_eq_natCast, Int.cast_ofNat_Int, Int.reduceBEq, Int.reduceAdd, Int.reduceNeg, Int.reduceNegSucc, Int.reduceLT, Int.reduceLE, Int.reduceMul, Int.reduceTMod, Int.reduceSub, Int.reduceBNe, Bool.not_true, Bool.not_false, decide_true, decide_false, ne_eq, not_false_eq_true, Int.reduceEq, reduceCtorEq]
theorem t100 (l : List UInt8) (h : Hp) : s100 [S l, S [47]] h = .ret (.int 63 (l.count 47 : Int)) h := by
  have x1 := fun k => sIdx_S [47] 63 0 (by decide) k
  have x2 : ∀ k : AV → Res, sIdx (S [47]) (.int 63 0) k = k (.int 8 47) := x1
  have x3 : s114 [S l, .int 8 47] h = .ret (.int 63 (l.count 47 : Int)) h := t114 l 47 h
  simp only [↓s100, ↓lenS_S, List.length_cons, List.length_nil, ↓x2, ↓x3, Nat.zero_add, Int.natCast_one, ↓SD, SA, Int.ofNat_eq_natCast, Int.cast_ofNat_Int, Int.reduceBEq, Int.reduceAdd, Int.reduceNeg, Int.reduceNegSucc, Int.reduceLT, Int.reduceLE, Int.reduceMul, Int.reduceTMod, Int.reduceSub, Int.reduceBNe, Bool.not_true, Bool.not_false, decide_true, decide_false, ne_eq, not_false_eq_true, Int.reduceEq, reduceCtorEq]
noncomputable def Ss (t : List (List UInt8)) : List AV := t.map S
theorem Ss_one (t : List (List UInt8)) : ∀ x ∈ Ss t, one x = true := by
  intro x hx
  obtain ⟨y, -, rfl⟩ := List.mem_map.1 hx
  rfl
theorem Ss_len (t : List (List UInt8)) : (Ss t).length = t.length := by simp [Ss]
def RowS (h : Hp) (b n : Nat) (ts : List (List UInt8)) : Prop := ∃ B, Own h b B ∧ B.lim = n ∧ ∀ j (hj : j < ts.length), B.at j = S ts[j]
theorem loop75 (b n : Nat) (hn : n ≤ 200000) : ∀ (f m : Nat) (l : List UInt8) (ts : List (List UInt8)) (h : Hp), l.length ≤ 100000 → l.count 47 ≤ f → f < m → Wf h → RowS h b n ts → ts.length + l.count 47 + 1 = n →
    ∃ (h' : Hp) (l' : List UInt8) (ts' : List (List UInt8)), lp L75n0 m [S l, S [47], .int 63 0, .int 63 ((n - 1 : Nat) : Int), .sl b 0 n 1 (some n), .int 63 (ts.length : Int)] h = .exit 0 [S l', .sl b 0 n 1 (some n), .int 63 ((n - 1 : Nat) : Int)] h' ∧ RowS h' b n ts' ∧ ts'.length + 1 = n ∧ ts ++ spl l = ts' ++ [l'] ∧ To (At b) h h' ∧ Wf h' := by
  intro f
  induction f with
  | zero =>
    intro m l ts h hl hf hm hw hr he
    obtain ⟨m, rfl⟩ : ∃ k, m = k + 1 := ⟨m - 1, by omega⟩
    have hts : ts.length = n - 1 := by omega
    have e1 : ¬ ((n - 1 : Nat) : Int) < ((n - 1 : Nat) : Int) := by omega
    refine ⟨h, l, ts, ?_, hr, by omega, ?_, To.refl _ _, hw⟩
    · rw [hts]
      exact lpx m (by simp only [↓L75n0, e1, ↓SD, SA, Int.ofNat_eq_natCast, Int.cast_ofNat_Int, Int.reduceBEq, Int.reduceAdd, Int.reduceNeg, Int.reduceNegSucc, Int.reduceLT, Int.reduceLE, Int.reduceMul, Int.reduceTMod, Int.reduceSub, Int.reduceBNe, Bool.not_true, Bool.not_false, decide_true, decide_false, ne_eq, not_false_eq_true, Int.reduceEq, reduceCtorEq])
    · rw [spl_none l (fun hm => by have := List.count_pos_iff.2 hm; omega)]
  | succ f ih =>
    intro m l ts h hl hf hm hw hr he
    obtain ⟨m, rfl⟩ : ∃ k, m = k + 1 := ⟨m - 1, by omega⟩
    by_cases hin : (47 : UInt8) ∈ l
    · have hc := List.count_pos_iff.2 hin
      have e1 : ((ts.length : Nat) : Int) < ((n - 1 : Nat) : Int) := by omega
      obtain ⟨a, c, rfl, h1, h2⟩ := idx_spl l hin
      have x1 := t101 (a ++ 47 :: c) h
      rw [h2] at x1
      have q1 : ¬ ((a.length : Nat) : Int) < 0 := by omega
      have hal : (a ++ 47 :: c).length = a.length + (c.length + 1) := by simp
      have w1 : wrapC 63 ((a.length : Int) + 0) = ((a.length : Nat) : Int) := by rw [w63_in _ (by omega) (by omega)]; omega
      have w2 : wrapC 63 ((a.length : Int) + 1) = ((a.length + 1 : Nat) : Int) := s1n _ (by omega)
      have x2 : ∀ k : AV → Res, cutT (S (a ++ 47 :: c)) none (some (.int 63 ((a.length : Nat) : Int))) k = k (S a) := fun k => by
        rw [cutR_S _ _ _ (by omega), List.take_left]
      have x3 : ∀ k : AV → Res, cutT (S (a ++ 47 :: c)) (some (.int 63 ((a.length + 1 : Nat) : Int))) none k = k (S c) := fun k => by
        rw [cutL_S _ _ _ (by omega), show a.length + 1 = (a ++ [47]).length by simp, show a ++ 47 :: c = (a ++ [47]) ++ c by simp, List.drop_left]
      have x4 : ∀ k : AV → Res, ixA 1 (.sl b 0 n 1 (some n)) (.int 63 (ts.length : Int)) k = k (.ptr b ts.length) := fun k => by
        have e : ixA 1 (.sl b 0 n 1 (some n)) (.int 63 (ts.length : Int)) k = ifB (Nat.blt ts.length n) (ifB (Nat.beq 1 1) (k (.ptr b (Nat.add 0 (Nat.mul ts.length 1)))) .fail) .fail := rfl
        rw [e, (blt_iff _ _).2 (by omega)]
        have e2 : Nat.add 0 (Nat.mul ts.length 1) = ts.length := by show 0 + ts.length * 1 = ts.length; omega
        show k (.ptr b (Nat.add 0 (Nat.mul ts.length 1))) = _
        rw [e2]
      obtain ⟨B, o, hlim, hat⟩ := hr
      obtain ⟨h3, s1, s2, s3, s4⟩ := st1_own (o := ts.length) (v := S a) o (by omega) rfl
      have hcount : (a ++ 47 :: c).count 47 = c.count 47 + 1 := by
        rw [List.count_append, List.count_cons_self, List.count_eq_zero.2 h1]; omega
      have e : L75n0 [S (a ++ 47 :: c), S [47], .int 63 0, .int 63 ((n - 1 : Nat) : Int), .sl b 0 n 1 (some n), .int 63 (ts.length : Int)] h = .norm [S c, S [47], .int 63 0, .int 63 ((n - 1 : Nat) : Int), .sl b 0 n 1 (some n), .int 63 ((ts.length + 1 : Nat) : Int)] h3 := by
        simp only [↓L75n0, e1, ↓x1, q1, w1, ↓x2, ↓x4, ↓s1, ↓lenS_S, List.length_cons, List.length_nil, Nat.zero_add, Int.natCast_one, w2, ↓x3, s1n ts.length (by omega), ↓SD, SA, Int.ofNat_eq_natCast, Int.cast_ofNat_Int, Int.reduceBEq, Int.reduceAdd, Int.reduceNeg, Int.reduceNegSucc, Int.reduceLT, Int.reduceLE, Int.reduceMul, Int.reduceTMod, Int.reduceSub, Int.reduceBNe, Bool.not_true, Bool.not_false, decide_true, decide_false, ne_eq, not_false_eq_true, Int.reduceEq, reduceCtorEq]
      obtain ⟨h4, l', ts', r1, r2, r3, r4, r5, r6⟩ := ih m c (ts ++ [a]) h3 (by omega) (by omega) (by omega) (s3.wf hw) ⟨_, s2, hlim, fun j hj => by
        rw [setC_at (by omega)]
        by_cases ej : j = ts.length
        · subst ej; rw [if_pos rfl]; simp
        · rw [List.length_append, List.length_singleton] at hj
          rw [if_neg ej, hat j (by omega), List.getElem_append_left (by omega)]⟩ (by rw [List.length_append, List.length_singleton]; omega)
      rw [List.length_append, List.length_singleton] at r1
      refine ⟨h4, l', ts', (lpn m e).trans r1, r2, r3, ?_, s3.trans r5, r6⟩
      rw [spl_app a c h1, ← r4]; simp
    · have hc := List.count_eq_zero.2 hin
      have hts : ts.length = n - 1 := by omega
      have e1 : ¬ ((n - 1 : Nat) : Int) < ((n - 1 : Nat) : Int) := by omega
      refine ⟨h, l, ts, ?_, hr, by omega, ?_, To.refl _ _, hw⟩
      · rw [hts]
        exact lpx m (by simp only [↓L75n0, e1, ↓SD, SA, Int.ofNat_eq_natCast, Int.cast_ofNat_Int, Int.reduceBEq, Int.reduceAdd, Int.reduceNeg, Int.reduceNegSucc, Int.reduceLT, Int.reduceLE, Int.reduceMul, Int.reduceTMod, Int.reduceSub, Int.reduceBNe, Bool.not_true, Bool.not_false, decide_true, decide_false, ne_eq, not_false_eq_true, Int.reduceEq, reduceCtorEq])
      · rw [spl_none l hin]
theorem t52 {l : List UInt8} (hl : l.length ≤ 100000) {h : Hp} (hw : Wf h) : ∃ v h', s52 [S l, S [47]] h = .ret v h' ∧ Sl h' (fun b => b = h.nb) v (Ss (spl l)) ∧ To No h h' ∧ Wf h' := by
  have hcl : l.count 47 ≤ l.length := List.count_le_length
  have z1 : decide (([47] : List UInt8) = []) = false := rfl
  have c1 := t100 l h
  have w1 : wrapC 63 (((l.count 47 : Nat) : Int) + 1) = ((l.count 47 + 1 : Nat) : Int) := s1n _ (by omega)
  have w2 : wrapC 63 (((l.length : Nat) : Int) + 1) = ((l.length + 1 : Nat) : Int) := s1n _ (by omega)
  have mn : ∀ k : AV → Res, iMin (.int 63 ((l.count 47 + 1 : Nat) : Int)) (.int 63 ((l.length + 1 : Nat) : Int)) k = k (.int 63 ((l.count 47 + 1 : Nat) : Int)) := fun k => by
    have e : iMin (.int 63 ((l.count 47 + 1 : Nat) : Int)) (.int 63 ((l.length + 1 : Nat) : Int)) k = k (.int 63 (Bool.rec (motive := fun _ => Int) ((l.count 47 + 1 : Nat) : Int) ((l.length + 1 : Nat) : Int) (ltI ((l.length + 1 : Nat) : Int) ((l.count 47 + 1 : Nat) : Int)))) := rfl
    rw [e, recB, ltI_eq, if_neg (by simp; omega)]
  obtain ⟨h1, B, m1, m2, m3, m4, m5, m6, m7⟩ := mkM_own hw (S []) (l.count 47 + 1) 16 63 63 (by omega) (by omega)
  have m1 : ∀ k : AV → Hp → Res, mkM h (.cons (S []) .nil) 16 (.int 63 ((l.count 47 + 1 : Nat) : Int)) (.int 63 ((l.count 47 + 1 : Nat) : Int)) k = k (.sl h.nb 0 (l.count 47 + 1) 1 (some (l.count 47 + 1))) h1 := m1
  have w3 : wrapC 63 (((l.count 47 + 1 : Nat) : Int) - 1) = ((l.count 47 + 1 - 1 : Nat) : Int) := by rw [w63_in _ (by omega) (by omega)]; omega
  obtain ⟨h2, l', ts', r1, r2, r3, r4, r5, r6⟩ := loop75 h.nb (l.count 47 + 1) (by omega) (l.count 47) most l [] h1 hl (by omega) (by unfold most; omega) m6 ⟨B, m2, m3, fun j hj => (by simp at hj)⟩ (by simp)
  have r1 : lp L75n0 most [S l, S [47], .int 63 0, .int 63 ((l.count 47 + 1 - 1 : Nat) : Int), .sl h.nb 0 (l.count 47 + 1) 1 (some (l.count 47 + 1)), .int 63 0] h1 = .exit 0 [S l', .sl h.nb 0 (l.count 47 + 1) 1 (some (l.count 47 + 1)), .int 63 ((l.count 47 + 1 - 1 : Nat) : Int)] h2 := r1
  obtain ⟨B2, o2, hlim, hat⟩ := r2
  obtain ⟨h3, s1, s2, s3, s4⟩ := st1_own (o := l.count 47 + 1 - 1) (v := S l') o2 (by omega) rfl
  have x4 : ∀ k : AV → Res, ixA 1 (.sl h.nb 0 (l.count 47 + 1) 1 (some (l.count 47 + 1))) (.int 63 ((l.count 47 + 1 - 1 : Nat) : Int)) k = k (.ptr h.nb (l.count 47 + 1 - 1)) := fun k => by
    have e : ixA 1 (.sl h.nb 0 (l.count 47 + 1) 1 (some (l.count 47 + 1))) (.int 63 ((l.count 47 + 1 - 1 : Nat) : Int)) k = ifB (Nat.blt (l.count 47 + 1 - 1) (l.count 47 + 1)) (ifB (Nat.beq 1 1) (k (.ptr h.nb (Nat.add 0 (Nat.mul (l.count 47 + 1 - 1) 1)))) .fail) .fail := rfl
    rw [e, (blt_iff _ _).2 (by omega)]
    have e2 : Nat.add 0 (Nat.mul (l.count 47 + 1 - 1) 1) = l.count 47 + 1 - 1 := by show 0 + (l.count 47 + 1 - 1) * 1 = _; omega
    show k (.ptr h.nb (Nat.add 0 (Nat.mul (l.count 47 + 1 - 1) 1))) = _
    rw [e2]
  have w4 : wrapC 63 (((l.count 47 + 1 - 1 : Nat) : Int) + 1) = ((l.count 47 + 1 : Nat) : Int) := by rw [w63_in _ (by omega) (by omega)]; omega
  have hlen : (Ss (spl l)).length = l.count 47 + 1 := by rw [Ss_len, spl_len]
  have hsl : Sl h3 (fun b => b = h.nb) (.sl h.nb 0 (l.count 47 + 1) 1 (some (l.count 47 + 1))) (Ss (spl l)) := by
    refine ⟨Ss_one _, .inr (.inr ⟨h.nb, 0, _, _, by rw [hlen], rfl, s2.rd, fun _ => s2.g, (fun c e => by cases e; rw [hlen]; exact Nat.le_refl _), fun i hi => ?_⟩)⟩
    rw [hlen] at hi
    rw [Nat.zero_add, setC_at (by omega)]
    have hsp : spl l = ts' ++ [l'] := by simpa using r4
    have hg : (Ss (spl l))[i]'(by rw [hlen]; exact hi) = S ((ts' ++ [l'])[i]'(by simp; omega)) := by
      have : (Ss (spl l))[i]'(by rw [hlen]; exact hi) = S ((spl l)[i]'(by rw [spl_len]; exact hi)) := by simp only [Ss, List.getElem_map]
      rw [this]
      simp only [hsp]
    rw [hg]
    by_cases ei : i = l.count 47 + 1 - 1
    · have : i = ts'.length := by omega
      subst this
      rw [if_pos ei]; simp
    · rw [if_neg ei, hat i (by omega), List.getElem_append_left (by omega)]
  obtain ⟨v', g1, g2⟩ := cut_sl hsl (c1 := 63) (c2 := 63) 0 (l.count 47 + 1) (Nat.zero_le _) (by rw [hlen]; exact Nat.le_refl _)
  have g1' : ∀ k : AV → Res, cutS 1 (.sl h.nb 0 (l.count 47 + 1) 1 (some (l.count 47 + 1))) none (some (.int 63 ((l.count 47 + 1 : Nat) : Int))) none k = k v' := fun k => (show _ = _ from rfl).trans (g1 k)
  rw [List.drop_zero, Nat.sub_zero, List.take_of_length_le (by rw [hlen]; exact Nat.le_refl _)] at g2
  have k1 := fun k => cK_sl g2 k
  refine ⟨v', h3, ?_, g2, m5.fresh (r5.trans s3) (fun x e => by have : x = h.nb := e; omega), s3.wf r6⟩
  have e75 : s75 [S l, S [47], .int 63 0, .int 63 (-1)] h = .ret v' h3 := by
    simp only [↓s75, ↓S_0, ↓eqS_S, z1, ↓c1, w1, ↓lenS_S, w2, ↓mn, ↓m1, w3, ↓r1, ↓blk_x, ↓x4, ↓s1, w4, ↓g1', ↓k1, ↓SD, SA, Int.ofNat_eq_natCast, Int.cast_ofNat_Int, Int.reduceBEq, Int.reduceAdd, Int.reduceNeg, Int.reduceNegSucc, Int.reduceLT, Int.reduceLE, Int.reduceMul, Int.reduceTMod, Int.reduceSub, Int.reduceBNe, Bool.not_true, Bool.not_false, decide_true, decide_false, ne_eq, not_false_eq_true, Int.reduceEq, reduceCtorEq]
  simp only [↓s52, ↓e75, ↓k1, ↓SD, SA, Int.ofNat_eq_natCast, Int.cast_ofNat_Int, Int.reduceBEq, Int.reduceAdd, Int.reduceNeg, Int.reduceNegSucc, Int.reduceLT, Int.reduceLE, Int.reduceMul, Int.reduceTMod, Int.reduceSub, Int.reduceBNe, Bool.not_true, Bool.not_false, decide_true, decide_false, ne_eq, not_false_eq_true, Int.reduceEq, reduceCtorEq]
end Go.Proofs.YtnpfppddongbhaaDoor
end

section
namespace Go.Proofs.YtnpfppddongbhaaDoor
open Go Go.AM
set_option autoImplicit false
noncomputable def cls (l : List UInt8) : Bool := (spl l).all plain && decide (l.length ≤ 255)
theorem spl_le (l : List UInt8) : ∀ t ∈ spl l, t.length ≤ l.length := by
  induction l with
  | nil => intro t ht; simp [spl] at ht; simp [ht]
  | cons c l ih =>
    intro t ht
    by_cases hc : c = 47
    · rw [spl, if_pos hc] at ht
      rcases List.mem_cons.1 ht with rfl | ht
      · simp
      · have := ih t ht; simp; omega
    · rw [spl, if_neg hc] at ht
      cases hs : spl l with
      | nil => rw [hs] at ht; simp at ht; simp [ht]
      | cons x xs =>
        rw [hs] at ht ih
        rcases List.mem_cons.1 ht with rfl | ht
        · have := ih x (by simp); simp; omega
        · have := ih t (by simp [ht]); simp; omega
theorem loop17 {P : Nat → Prop} {v : AV} {l : List UInt8} {ts : List (List UInt8)} (hl : ∀ t ∈ ts, t.length ≤ 100000) (htl : ts.length ≤ 200000) : ∀ (f m i : Nat) (h : Hp), ts.length - i ≤ f → f < m → i ≤ ts.length → Wf h → Sl h P v (Ss ts) →
    ∃ h', lp L17n0 m [S l, v, .int 63 (ts.length : Int), .int 63 (i : Int)] h = (if (ts.drop i).all plain = true then .exit 0 [S l] h' else .ret (.bool false) h') ∧ To No h h' ∧ Wf h' := by
  have stop : ∀ (m i : Nat) (h : Hp), ¬ i < ts.length → Wf h → ∃ h', lp L17n0 (m + 1) [S l, v, .int 63 (ts.length : Int), .int 63 (i : Int)] h = (if (ts.drop i).all plain = true then .exit 0 [S l] h' else .ret (.bool false) h') ∧ To No h h' ∧ Wf h' := by
    intro m i h hi hw
    have e1 : ¬ (i : Int) < (ts.length : Int) := by omega
    rw [List.drop_eq_nil_of_le (by omega)]
    exact ⟨h, lpx m (by simp only [↓L17n0, e1, ↓SD, SA, Int.ofNat_eq_natCast, Int.cast_ofNat_Int, Int.reduceBEq, Int.reduceAdd, Int.reduceNeg, Int.reduceNegSucc, Int.reduceLT, Int.reduceLE, Int.reduceMul, Int.reduceTMod, Int.reduceSub, Int.reduceBNe, Bool.not_true, Bool.not_false, decide_true, decide_false, ne_eq, not_false_eq_true, Int.reduceEq, reduceCtorEq]), To.refl _ _, hw⟩
  intro f
  induction f with
  | zero =>
    intro m i h hf hm hi hw hs
    obtain ⟨m, rfl⟩ : ∃ k, m = k + 1 := ⟨m - 1, by omega⟩
    exact stop m i h (by omega) hw
  | succ f ih =>
    intro m i h hf hm hi hw hs
    obtain ⟨m, rfl⟩ : ∃ k, m = k + 1 := ⟨m - 1, by omega⟩
    by_cases hin : i < ts.length
    · have e1 : (i : Int) < (ts.length : Int) := by omega
      have iv := fun k => ix_sl hs (c := 63) i (by rw [Ss_len]; exact hin) k
      have g : (Ss ts)[i]'(by rw [Ss_len]; exact hin) = S ts[i] := by simp only [Ss, List.getElem_map]
      rw [g] at iv
      obtain ⟨h1, p1, o1, w1⟩ := t15 (hl _ (List.getElem_mem hin)) hw
      rw [List.drop_eq_getElem_cons hin, List.all_cons]
      cases hp : plain ts[i] with
      | false =>
        rw [hp] at p1
        refine ⟨h1, ?_, o1, w1⟩
        rw [Bool.false_and, if_neg (by decide)]
        exact lpr m (by simp only [↓L17n0, e1, ↓iv, ↓p1, ↓SD, SA, Int.ofNat_eq_natCast, Int.cast_ofNat_Int, Int.reduceBEq, Int.reduceAdd, Int.reduceNeg, Int.reduceNegSucc, Int.reduceLT, Int.reduceLE, Int.reduceMul, Int.reduceTMod, Int.reduceSub, Int.reduceBNe, Bool.not_true, Bool.not_false, decide_true, decide_false, ne_eq, not_false_eq_true, Int.reduceEq, reduceCtorEq])
      | true =>
        rw [hp] at p1
        have e : L17n0 [S l, v, .int 63 (ts.length : Int), .int 63 (i : Int)] h = .norm [S l, v, .int 63 (ts.length : Int), .int 63 ((i + 1 : Nat) : Int)] h1 := by
          simp only [↓L17n0, e1, ↓iv, ↓p1, s1n i (by omega), ↓SD, SA, Int.ofNat_eq_natCast, Int.cast_ofNat_Int, Int.reduceBEq, Int.reduceAdd, Int.reduceNeg, Int.reduceNegSucc, Int.reduceLT, Int.reduceLE, Int.reduceMul, Int.reduceTMod, Int.reduceSub, Int.reduceBNe, Bool.not_true, Bool.not_false, decide_true, decide_false, ne_eq, not_false_eq_true, Int.reduceEq, reduceCtorEq]
        obtain ⟨h2, e2, o2, w2⟩ := ih m (i + 1) h1 (by omega) (by omega) (by omega) w1 (hs.to o1 (fun _ _ f => f))
        rw [Bool.true_and]
        exact ⟨h2, (lpn m e).trans e2, o1.trans o2, w2⟩
    · exact stop m i h hin hw
theorem t17 {l : List UInt8} (hl : l.length ≤ 100000) {h : Hp} (hw : Wf h) : ∃ h', s17 [S l] h = .ret (.bool (cls l)) h' ∧ To No h h' ∧ Wf h' := by
  obtain ⟨v, h1, e1, s1, o1, w1⟩ := t52 hl hw
  have hlen : (spl l).length ≤ 200000 := by rw [spl_len]; have : l.count 47 ≤ l.length := List.count_le_length; omega
  obtain ⟨h2, e2, o2, w2⟩ := loop17 (l := l) (fun t ht => Nat.le_trans (spl_le l t ht) hl) hlen (spl l).length most 0 h1 (by omega) (by unfold most; omega) (by omega) w1 s1
  have ln := fun k => lenL_sl s1 k
  rw [Ss_len] at ln
  rw [List.drop_zero, show ((0 : Nat) : Int) = 0 from rfl] at e2
  refine ⟨h2, ?_, o1.trans o2, w2⟩
  unfold cls
  cases ha : (spl l).all plain with
  | false =>
    rw [ha, if_neg (by decide)] at e2
    simp only [↓s17, ↓S_47, ↓e1, ↓ln, ↓e2, ↓SD, SA, Int.ofNat_eq_natCast, Int.cast_ofNat_Int, Int.reduceBEq, Int.reduceAdd, Int.reduceNeg, Int.reduceNegSucc, Int.reduceLT, Int.reduceLE, Int.reduceMul, Int.reduceTMod, Int.reduceSub, Int.reduceBNe, Bool.not_true, Bool.not_false, decide_true, decide_false, ne_eq, not_false_eq_true, Int.reduceEq, reduceCtorEq]
    rfl
  | true =>
    rw [ha, if_pos rfl] at e2
    by_cases h255 : l.length ≤ 255
    · have c : ¬ (255 : Int) < (l.length : Int) := by omega
      simp only [↓s17, ↓S_47, ↓e1, ↓ln, ↓e2, ↓blk_x, ↓lenS_S, c, h255, ↓SD, SA, Int.ofNat_eq_natCast, Int.cast_ofNat_Int, Int.reduceBEq, Int.reduceAdd, Int.reduceNeg, Int.reduceNegSucc, Int.reduceLT, Int.reduceLE, Int.reduceMul, Int.reduceTMod, Int.reduceSub, Int.reduceBNe, Bool.not_true, Bool.not_false, decide_true, decide_false, ne_eq, not_false_eq_true, Int.reduceEq, reduceCtorEq]
      rfl
    · have c : (255 : Int) < (l.length : Int) := by omega
      simp only [↓s17, ↓S_47, ↓e1, ↓ln, ↓e2, ↓blk_x, ↓lenS_S, c, h255, ↓SD, SA, Int.ofNat_eq_natCast, Int.cast_ofNat_Int, Int.reduceBEq, Int.reduceAdd, Int.reduceNeg, Int.reduceNegSucc, Int.reduceLT, Int.reduceLE, Int.reduceMul, Int.reduceTMod, Int.reduceSub, Int.reduceBNe, Bool.not_true, Bool.not_false, decide_true, decide_false, ne_eq, not_false_eq_true, Int.reduceEq, reduceCtorEq]
      rfl
theorem c47 (c : UInt8) : (((c.toNat : Int) == 47) : Bool) = decide (c = 47) := c8e c 47 (by decide)
theorem loop18 {l : List UInt8} (hl : l.length ≤ 100000) : ∀ (f m fr i : Nat) (h : Hp), l.length + 1 - i ≤ f → f < m → fr ≤ i → i ≤ l.length → Wf h → (47 : UInt8) ∉ (l.drop fr).take (i - fr) →
    ∃ h', lp L18n0 m [S l, .int 63 (fr : Int), .int 63 (i : Int)] h = (if (spl (l.drop fr)).all plain = true then .exit 0 [] h' else .ret (.bool false) h') ∧ To No h h' ∧ Wf h' := by
  intro f
  induction f with
  | zero => intro m fr i h hf hm hfr hi; omega
  | succ f ih =>
    intro m fr i h hf hm hfr hi hw hno
    obtain ⟨m, rfl⟩ : ∃ k, m = k + 1 := ⟨m - 1, by omega⟩
    have e1 : ¬ (l.length : Int) < (i : Int) := by omega
    have x1 := fun k => cut_S l 63 63 fr i hfr hi k
    have hdl : (l.drop fr).length = l.length - fr := by simp
    have s1 : wrapC 63 ((i : Int) + 1) = ((i + 1 : Nat) : Int) := s1n _ (by omega)
    by_cases hend : i = l.length
    · subst hend
      have e2 : (((l.length : Nat) : Int) == ((l.length : Nat) : Int)) = true := by simp
      have ht : (l.drop fr).take (l.length - fr) = l.drop fr := List.take_of_length_le (by rw [hdl]; exact Nat.le_refl _)
      rw [ht] at x1 hno
      obtain ⟨h1, p1, o1, w1⟩ := t16 (l := l.drop fr) (by rw [hdl]; omega) hw
      rw [spl_none _ hno]
      have ea : ([l.drop fr].all plain) = plain (l.drop fr) := by simp
      rw [ea]
      cases hp : plain (l.drop fr) with
      | false =>
        rw [hp] at p1
        refine ⟨h1, ?_, o1, w1⟩
        rw [if_neg (by decide)]
        exact lpr m (by simp only [↓L18n0, ↓lenS_S, e1, e2, ↓x1, ↓p1, ↓SD, SA, Int.ofNat_eq_natCast, Int.cast_ofNat_Int, Int.reduceBEq, Int.reduceAdd, Int.reduceNeg, Int.reduceNegSucc, Int.reduceLT, Int.reduceLE, Int.reduceMul, Int.reduceTMod, Int.reduceSub, Int.reduceBNe, Bool.not_true, Bool.not_false, decide_true, decide_false, ne_eq, not_false_eq_true, Int.reduceEq, reduceCtorEq])
      | true =>
        rw [hp] at p1
        refine ⟨h1, ?_, o1, w1⟩
        rw [if_pos rfl]
        have e : L18n0 [S l, .int 63 (fr : Int), .int 63 (l.length : Int)] h = .norm [S l, .int 63 ((l.length + 1 : Nat) : Int), .int 63 ((l.length + 1 : Nat) : Int)] h1 := by
          simp only [↓L18n0, ↓lenS_S, e1, e2, ↓x1, ↓p1, s1, ↓SD, SA, Int.ofNat_eq_natCast, Int.cast_ofNat_Int, Int.reduceBEq, Int.reduceAdd, Int.reduceNeg, Int.reduceNegSucc, Int.reduceLT, Int.reduceLE, Int.reduceMul, Int.reduceTMod, Int.reduceSub, Int.reduceBNe, Bool.not_true, Bool.not_false, decide_true, decide_false, ne_eq, not_false_eq_true, Int.reduceEq, reduceCtorEq]
        obtain ⟨m, rfl⟩ : ∃ k, m = k + 1 := ⟨m - 1, by omega⟩
        rw [lpn (m + 1) e]
        have e3 : (l.length : Int) < ((l.length + 1 : Nat) : Int) := by omega
        exact lpx m (by simp only [↓L18n0, ↓lenS_S, e3, ↓SD, SA, Int.ofNat_eq_natCast, Int.cast_ofNat_Int, Int.reduceBEq, Int.reduceAdd, Int.reduceNeg, Int.reduceNegSucc, Int.reduceLT, Int.reduceLE, Int.reduceMul, Int.reduceTMod, Int.reduceSub, Int.reduceBNe, Bool.not_true, Bool.not_false, decide_true, decide_false, ne_eq, not_false_eq_true, Int.reduceEq, reduceCtorEq])
    · have hin : i < l.length := by omega
      have e2 : (((i : Nat) : Int) == ((l.length : Nat) : Int)) = false := beq_eq_false_iff_ne.2 (by omega)
      have x2 := fun k => sIdx_S l 63 i hin k
      have hsplit : l.drop fr = (l.drop fr).take (i - fr) ++ l[i] :: l.drop (i + 1) := by
        have h1 := (List.take_append_drop (i - fr) (l.drop fr)).symm
        rw [List.drop_drop, show fr + (i - fr) = i by omega, List.drop_eq_getElem_cons hin] at h1
        exact h1
      by_cases hc : l[i] = 47
      · have e3 := c47 l[i]
        rw [decide_eq_true hc] at e3
        obtain ⟨h1, p1, o1, w1⟩ := t16 (l := (l.drop fr).take (i - fr)) (by simp; omega) hw
        rw [hc] at hsplit
        have esp : spl (l.drop fr) = (l.drop fr).take (i - fr) :: spl (l.drop (i + 1)) := by
          conv => lhs; rw [hsplit]
          exact spl_app _ _ hno
        rw [esp, List.all_cons]
        cases hp : plain ((l.drop fr).take (i - fr)) with
        | false =>
          rw [hp] at p1
          refine ⟨h1, ?_, o1, w1⟩
          rw [Bool.false_and, if_neg (by decide)]
          exact lpr m (by simp only [↓L18n0, ↓lenS_S, e1, e2, ↓x2, e3, ↓x1, ↓p1, ↓SD, SA, Int.ofNat_eq_natCast, Int.cast_ofNat_Int, Int.reduceBEq, Int.reduceAdd, Int.reduceNeg, Int.reduceNegSucc, Int.reduceLT, Int.reduceLE, Int.reduceMul, Int.reduceTMod, Int.reduceSub, Int.reduceBNe, Bool.not_true, Bool.not_false, decide_true, decide_false, ne_eq, not_false_eq_true, Int.reduceEq, reduceCtorEq])
        | true =>
          rw [hp] at p1
          have e : L18n0 [S l, .int 63 (fr : Int), .int 63 (i : Int)] h = .norm [S l, .int 63 ((i + 1 : Nat) : Int), .int 63 ((i + 1 : Nat) : Int)] h1 := by
            simp only [↓L18n0, ↓lenS_S, e1, e2, ↓x2, e3, ↓x1, ↓p1, s1, ↓SD, SA, Int.ofNat_eq_natCast, Int.cast_ofNat_Int, Int.reduceBEq, Int.reduceAdd, Int.reduceNeg, Int.reduceNegSucc, Int.reduceLT, Int.reduceLE, Int.reduceMul, Int.reduceTMod, Int.reduceSub, Int.reduceBNe, Bool.not_true, Bool.not_false, decide_true, decide_false, ne_eq, not_false_eq_true, Int.reduceEq, reduceCtorEq]
          obtain ⟨h2, r1, r2, r3⟩ := ih m (i + 1) (i + 1) h1 (by omega) (by omega) (Nat.le_refl _) (by omega) w1 (by simp)
          rw [Bool.true_and]
          exact ⟨h2, (lpn m e).trans r1, o1.trans r2, r3⟩
      · have e3 := c47 l[i]
        rw [decide_eq_false hc] at e3
        have e : L18n0 [S l, .int 63 (fr : Int), .int 63 (i : Int)] h = .norm [S l, .int 63 (fr : Int), .int 63 ((i + 1 : Nat) : Int)] h := by
          simp only [↓L18n0, ↓lenS_S, e1, e2, ↓x2, e3, s1, ↓SD, SA, Int.ofNat_eq_natCast, Int.cast_ofNat_Int, Int.reduceBEq, Int.reduceAdd, Int.reduceNeg, Int.reduceNegSucc, Int.reduceLT, Int.reduceLE, Int.reduceMul, Int.reduceTMod, Int.reduceSub, Int.reduceBNe, Bool.not_true, Bool.not_false, decide_true, decide_false, ne_eq, not_false_eq_true, Int.reduceEq, reduceCtorEq]
        rw [lpn m e]
        refine ih m fr (i + 1) h (by omega) (by omega) (by omega) (by omega) hw ?_
        rw [show i + 1 - fr = (i - fr) + 1 by omega, List.take_add_one]
        intro hm
        rcases List.mem_append.1 hm with hm | hm
        · exact hno hm
        · rw [List.getElem?_drop, show fr + (i - fr) = i by omega, List.getElem?_eq_getElem hin] at hm
          simp at hm
          exact hc hm.symm
theorem t18 {l : List UInt8} (hl : l.length ≤ 100000) {h : Hp} (hw : Wf h) : ∃ h', s18 [S l] h = .ret (.bool (cls l)) h' ∧ To No h h' ∧ Wf h' := by
  unfold cls
  by_cases h255 : l.length ≤ 255
  · have c : ¬ (255 : Int) < (l.length : Int) := by omega
    obtain ⟨h1, r1, r2, r3⟩ := loop18 hl (l.length + 1) most 0 0 h (by omega) (by unfold most; omega) (Nat.le_refl _) (Nat.zero_le _) hw (by simp)
    rw [List.drop_zero, show ((0 : Nat) : Int) = 0 from rfl] at r1
    refine ⟨h1, ?_, r2, r3⟩
    rw [decide_eq_true h255, Bool.and_true]
    cases ha : (spl l).all plain with
    | false =>
      rw [ha, if_neg (by decide)] at r1
      simp only [↓s18, ↓lenS_S, c, ↓r1, ↓SD, SA, Int.ofNat_eq_natCast, Int.cast_ofNat_Int, Int.reduceBEq, Int.reduceAdd, Int.reduceNeg, Int.reduceNegSucc, Int.reduceLT, Int.reduceLE, Int.reduceMul, Int.reduceTMod, Int.reduceSub, Int.reduceBNe, Bool.not_true, Bool.not_false, decide_true, decide_false, ne_eq, not_false_eq_true, Int.reduceEq, reduceCtorEq]
    | true =>
      rw [ha, if_pos rfl] at r1
      simp only [↓s18, ↓lenS_S, c, ↓r1, ↓blk_x, ↓SD, SA, Int.ofNat_eq_natCast, Int.cast_ofNat_Int, Int.reduceBEq, Int.reduceAdd, Int.reduceNeg, Int.reduceNegSucc, Int.reduceLT, Int.reduceLE, Int.reduceMul, Int.reduceTMod, Int.reduceSub, Int.reduceBNe, Bool.not_true, Bool.not_false, decide_true, decide_false, ne_eq, not_false_eq_true, Int.reduceEq, reduceCtorEq]
  · have c : (255 : Int) < (l.length : Int) := by omega
    rw [decide_eq_false h255, Bool.and_false]
    exact ⟨h, by simp only [↓s18, ↓lenS_S, c, ↓SD, SA, Int.ofNat_eq_natCast, Int.cast_ofNat_Int, Int.reduceBEq, Int.reduceAdd, Int.reduceNeg, Int.reduceNegSucc, Int.reduceLT, Int.reduceLE, Int.reduceMul, Int.reduceTMod, Int.reduceSub, Int.reduceBNe, Bool.not_true, Bool.not_false, decide_true, decide_false, ne_eq, not_false_eq_true, Int.reduceEq, reduceCtorEq], To.refl _ _, hw⟩
end Go.Proofs.YtnpfppddongbhaaDoor
end

section
namespace Go.Proofs.YtnpfppddongbhaaDoor
open Go Go.AM
set_option autoImplicit false
abbrev tInit : List UInt8 := [60, 105, 110, 105, 116, 62]
abbrev tClin : List UInt8 := [60, 99, 108, 105, 110, 105, 116, 62]
noncomputable def meth (l : List UInt8) : Bool := decide (l = tInit) || (decide (l = tClin) || (plain l && !anyOf [60, 62] l))
theorem t19 {l : List UInt8} (hl : l.length ≤ 100000) {h : Hp} (hw : Wf h) : ∃ h', s19 [S l] h = .ret (.bool (meth l)) h' ∧ To No h h' ∧ Wf h' := by
  unfold meth
  cases d1 : decide (l = tInit) with
  | true => exact ⟨h, by simp only [↓s19, ↓S_init, ↓eqS_S, d1, ↓SD, SA, Int.ofNat_eq_natCast, Int.cast_ofNat_Int, Int.reduceBEq, Int.reduceAdd, Int.reduceNeg, Int.reduceNegSucc, Int.reduceLT, Int.reduceLE, Int.reduceMul, Int.reduceTMod, Int.reduceSub, Int.reduceBNe, Bool.not_true, Bool.not_false, decide_true, decide_false, ne_eq, not_false_eq_true, Int.reduceEq, reduceCtorEq]; rfl, To.refl _ _, hw⟩
  | false =>
    cases d2 : decide (l = tClin) with
    | true => exact ⟨h, by simp only [↓s19, ↓S_init, ↓S_clin, ↓eqS_S, d1, d2, ↓SD, SA, Int.ofNat_eq_natCast, Int.cast_ofNat_Int, Int.reduceBEq, Int.reduceAdd, Int.reduceNeg, Int.reduceNegSucc, Int.reduceLT, Int.reduceLE, Int.reduceMul, Int.reduceTMod, Int.reduceSub, Int.reduceBNe, Bool.not_true, Bool.not_false, decide_true, decide_false, ne_eq, not_false_eq_true, Int.reduceEq, reduceCtorEq]; rfl, To.refl _ _, hw⟩
    | false =>
      obtain ⟨h1, e1, o1, w1⟩ := t15 hl hw
      cases hp : plain l with
      | false =>
        rw [hp] at e1
        exact ⟨h1, by simp only [↓s19, ↓S_init, ↓S_clin, ↓eqS_S, d1, d2, ↓e1, ↓SD, SA, Int.ofNat_eq_natCast, Int.cast_ofNat_Int, Int.reduceBEq, Int.reduceAdd, Int.reduceNeg, Int.reduceNegSucc, Int.reduceLT, Int.reduceLE, Int.reduceMul, Int.reduceTMod, Int.reduceSub, Int.reduceBNe, Bool.not_true, Bool.not_false, decide_true, decide_false, ne_eq, not_false_eq_true, Int.reduceEq, reduceCtorEq]; rfl, o1, w1⟩
      | true =>
        rw [hp] at e1
        obtain ⟨h2, e2, o2, w2⟩ := t50 (cs := [60, 62]) low_lg (by decide) (by decide) hl w1
        refine ⟨h2, ?_, o1.trans o2, w2⟩
        generalize anyOf [60, 62] l = b at *
        cases b <;> (simp only [↓s19, ↓S_init, ↓S_clin, ↓S_lg, ↓eqS_S, d1, d2, ↓e1, ↓e2, ↓SD, SA, Int.ofNat_eq_natCast, Int.cast_ofNat_Int, Int.reduceBEq, Int.reduceAdd, Int.reduceNeg, Int.reduceNegSucc, Int.reduceLT, Int.reduceLE, Int.reduceMul, Int.reduceTMod, Int.reduceSub, Int.reduceBNe, Bool.not_true, Bool.not_false, decide_true, decide_false, ne_eq, not_false_eq_true, Int.reduceEq, reduceCtorEq]; rfl)
theorem loop20 {l : List UInt8} (hl : l.length ≤ 100000) {h : Hp} : ∀ (f m i : Nat), l.length - i ≤ f → f < m → i ≤ l.length →
    lp L20n0 m [S l, .int 63 (i : Int)] h = if anyOf [60, 62] (l.drop i) = true then .ret (.bool false) h else .exit 0 [S l] h := by
  have stop : ∀ (m i : Nat), ¬ i < l.length → lp L20n0 (m + 1) [S l, .int 63 (i : Int)] h = if anyOf [60, 62] (l.drop i) = true then .ret (.bool false) h else .exit 0 [S l] h := by
    intro m i hi
    have e1 : ¬ (i : Int) < (l.length : Int) := by omega
    rw [List.drop_eq_nil_of_le (by omega), if_neg (by decide)]
    exact lpx m (by simp only [↓L20n0, ↓lenS_S, e1, ↓SD, SA, Int.ofNat_eq_natCast, Int.cast_ofNat_Int, Int.reduceBEq, Int.reduceAdd, Int.reduceNeg, Int.reduceNegSucc, Int.reduceLT, Int.reduceLE, Int.reduceMul, Int.reduceTMod, Int.reduceSub, Int.reduceBNe, Bool.not_true, Bool.not_false, decide_true, decide_false, ne_eq, not_false_eq_true, Int.reduceEq, reduceCtorEq])
  intro f
  induction f with
  | zero =>
    intro m i hf hm hi
    obtain ⟨m, rfl⟩ : ∃ k, m = k + 1 := ⟨m - 1, by omega⟩
    exact stop m i (by omega)
  | succ f ih =>
    intro m i hf hm hi
    obtain ⟨m, rfl⟩ : ∃ k, m = k + 1 := ⟨m - 1, by omega⟩
    by_cases hin : i < l.length
    · have e1 : (i : Int) < (l.length : Int) := by omega
      have x1 := fun k => sIdx_S l 63 i hin k
      rw [List.drop_eq_getElem_cons hin]
      have ea : anyOf [60, 62] (l[i] :: l.drop (i + 1)) = (decide (l[i] ∈ [60, 62]) || anyOf [60, 62] (l.drop (i + 1))) := rfl
      have em : decide (l[i] ∈ ([60, 62] : List UInt8)) = (decide (l[i] = 60) || decide (l[i] = 62)) := by simp [Bool.decide_or]
      rw [ea, em]
      have g1 : ((l[i].toNat : Int) == 60) = decide (l[i] = 60) := c8e l[i] 60 (by decide)
      have g2 : ((l[i].toNat : Int) == 62) = decide (l[i] = 62) := c8e l[i] 62 (by decide)
      have sn := s1n i (by omega)
      cases d1 : decide (l[i] = 60) <;> cases d2 : decide (l[i] = 62) <;> rw [d1] at g1 <;> rw [d2] at g2 <;>
        first
        | (rw [if_pos (by rfl)]; exact lpr m (by simp only [↓L20n0, ↓lenS_S, e1, ↓x1, g1, g2, ↓SD, SA, Int.ofNat_eq_natCast, Int.cast_ofNat_Int, Int.reduceBEq, Int.reduceAdd, Int.reduceNeg, Int.reduceNegSucc, Int.reduceLT, Int.reduceLE, Int.reduceMul, Int.reduceTMod, Int.reduceSub, Int.reduceBNe, Bool.not_true, Bool.not_false, decide_true, decide_false, ne_eq, not_false_eq_true, Int.reduceEq, reduceCtorEq]))
        | (have e : L20n0 [S l, .int 63 (i : Int)] h = .norm [S l, .int 63 ((i + 1 : Nat) : Int)] h := by simp only [↓L20n0, ↓lenS_S, e1, ↓x1, g1, g2, sn, ↓SD, SA, Int.ofNat_eq_natCast, Int.cast_ofNat_Int, Int.reduceBEq, Int.reduceAdd, Int.reduceNeg, Int.reduceNegSucc, Int.reduceLT, Int.reduceLE, Int.reduceMul, Int.reduceTMod, Int.reduceSub, Int.reduceBNe, Bool.not_true, Bool.not_false, decide_true, decide_false, ne_eq, not_false_eq_true, Int.reduceEq, reduceCtorEq]
           rw [lpn m e]
           exact ih m (i + 1) (by omega) (by omega) (by omega))
    · exact stop m i hin
theorem t20 {l : List UInt8} (hl : l.length ≤ 100000) {h : Hp} (hw : Wf h) : ∃ h', s20 [S l] h = .ret (.bool (meth l)) h' ∧ To No h h' ∧ Wf h' := by
  unfold meth
  cases d1 : decide (l = tInit) with
  | true => exact ⟨h, by simp only [↓s20, ↓S_init, ↓eqS_S, d1, ↓SD, SA, Int.ofNat_eq_natCast, Int.cast_ofNat_Int, Int.reduceBEq, Int.reduceAdd, Int.reduceNeg, Int.reduceNegSucc, Int.reduceLT, Int.reduceLE, Int.reduceMul, Int.reduceTMod, Int.reduceSub, Int.reduceBNe, Bool.not_true, Bool.not_false, decide_true, decide_false, ne_eq, not_false_eq_true, Int.reduceEq, reduceCtorEq]; rfl, To.refl _ _, hw⟩
  | false =>
    cases d2 : decide (l = tClin) with
    | true => exact ⟨h, by simp only [↓s20, ↓S_init, ↓S_clin, ↓eqS_S, d1, d2, ↓SD, SA, Int.ofNat_eq_natCast, Int.cast_ofNat_Int, Int.reduceBEq, Int.reduceAdd, Int.reduceNeg, Int.reduceNegSucc, Int.reduceLT, Int.reduceLE, Int.reduceMul, Int.reduceTMod, Int.reduceSub, Int.reduceBNe, Bool.not_true, Bool.not_false, decide_true, decide_false, ne_eq, not_false_eq_true, Int.reduceEq, reduceCtorEq]; rfl, To.refl _ _, hw⟩
    | false =>
      have lp0 := loop20 hl (h := h) l.length most 0 (by omega) (by unfold most; omega) (by omega)
      rw [List.drop_zero, show ((0 : Nat) : Int) = 0 from rfl] at lp0
      cases ha : anyOf [60, 62] l with
      | true =>
        rw [ha, if_pos rfl] at lp0
        exact ⟨h, by simp only [↓s20, ↓S_init, ↓S_clin, ↓eqS_S, d1, d2, ↓lp0, ↓SD, SA, Int.ofNat_eq_natCast, Int.cast_ofNat_Int, Int.reduceBEq, Int.reduceAdd, Int.reduceNeg, Int.reduceNegSucc, Int.reduceLT, Int.reduceLE, Int.reduceMul, Int.reduceTMod, Int.reduceSub, Int.reduceBNe, Bool.not_true, Bool.not_false, decide_true, decide_false, ne_eq, not_false_eq_true, Int.reduceEq, reduceCtorEq]; simp, To.refl _ _, hw⟩
      | false =>
        rw [ha, if_neg (by decide)] at lp0
        obtain ⟨h1, e1, o1, w1⟩ := t16 hl hw
        exact ⟨h1, by simp only [↓s20, ↓S_init, ↓S_clin, ↓eqS_S, d1, d2, ↓lp0, ↓blk_x, ↓e1, ↓SD, SA, Int.ofNat_eq_natCast, Int.cast_ofNat_Int, Int.reduceBEq, Int.reduceAdd, Int.reduceNeg, Int.reduceNegSucc, Int.reduceLT, Int.reduceLE, Int.reduceMul, Int.reduceTMod, Int.reduceSub, Int.reduceBNe, Bool.not_true, Bool.not_false, decide_true, decide_false, ne_eq, not_false_eq_true, Int.reduceEq, reduceCtorEq]; simp, o1, w1⟩
end Go.Proofs.YtnpfppddongbhaaDoor
end

section
namespace Go.Proofs.YtnpfppddongbhaaDoor
open Go Go.AM
set_option autoImplicit false
def By (l : List UInt8) : List AV := l.map fun x => .int 8 (x.toNat : Int)
theorem By_len (l : List UInt8) : (By l).length = l.length := by simp [By]
theorem By_one (l : List UInt8) : ∀ x ∈ By l, one x = true := by
  intro x hx
  obtain ⟨y, -, rfl⟩ := List.mem_map.1 hx
  rfl
theorem packL_S (l : List UInt8) (k : Nat → Res) : packL (avL (By l)) k = k (packB l) := by
  induction l generalizing k with
  | nil => rfl
  | cons b l ih =>
    have e : packL (avL (By (b :: l))) k = ifB (Nat.blt b.toNat 256) (packL (avL (By l)) fun p => k (Nat.add b.toNat (Nat.mul 256 p))) .fail := rfl
    rw [e, (blt_iff _ _).2 b.toNat_lt, ifB_t, ih]; rfl
def RowB (h : Hp) (b : Nat) (l : List UInt8) : Prop := ∃ B, Own h b B ∧ B.lim = l.length ∧ ∀ j (hj : j < l.length), B.at j = .int 8 (l[j].toNat : Int)
theorem RowB.sl {h : Hp} {b n : Nat} {l : List UInt8} {c : Option Nat} (hr : RowB h b l) (hn : n = l.length) (hc : ∀ cap, c = some cap → l.length ≤ cap) : Sl h (At b) (.sl b 0 n 1 c) (By l) := by
  subst hn
  obtain ⟨B, o, hl, hat⟩ := hr
  refine ⟨By_one l, .inr (.inr ⟨b, 0, c, B, by rw [By_len], rfl, o.rd, fun _ => o.g, by rw [By_len]; exact hc, fun i hi => ?_⟩)⟩
  rw [By_len] at hi
  rw [Nat.zero_add, hat i hi]; simp only [By, List.getElem_map]
theorem b2s_S {h : Hp} {P : Nat → Prop} {v : AV} {l : List UInt8} (hs : Sl h P v (By l)) (k : AV → Res) : b2s h v k = k (S l) := by
  have e : b2s h v k = src h 1 v fun n l => packL l fun p => k (.str n p) := by
    rcases hs.2 with ⟨rfl, -⟩ | ⟨rfl, -⟩ | ⟨b, o, c, B, rfl, -⟩ <;> rfl
  rw [e, src_sl hs, packL_S, By_len]; rfl
theorem RowB.ld {h : Hp} {b : Nat} {l : List UInt8} (hr : RowB h b l) (i : Nat) (hi : i < l.length) (k : AV → Res) : ld1 h (.ptr b i) k = k (.int 8 (l[i].toNat : Int)) := by
  obtain ⟨B, o, hl, hat⟩ := hr
  rw [ld1_rd o.rd (hat i hi)]; rfl
theorem RowB.st {h : Hp} {b : Nat} {l : List UInt8} (hw : Wf h) (hr : RowB h b l) (i : Nat) (hi : i < l.length) (x : UInt8) :
    ∃ h', (∀ k : Hp → Res, st1 h (.ptr b i) (.int 8 (x.toNat : Int)) k = k h') ∧ RowB h' b (l.set i x) ∧ To (At b) h h' ∧ Wf h' := by
  obtain ⟨B, o, hl, hat⟩ := hr
  obtain ⟨h', s1, s2, s3, s4⟩ := st1_own (o := i) (v := .int 8 (x.toNat : Int)) o (by omega) rfl
  refine ⟨h', s1, ⟨_, s2, by rw [List.length_set]; exact hl, fun j hj => ?_⟩, s3, s3.wf hw⟩
  rw [List.length_set] at hj
  rw [setC_at (by omega), List.getElem_set]
  by_cases e : j = i
  · subst e; rw [if_pos rfl, if_pos rfl]
  · rw [if_neg e, if_neg (fun h => e h.symm)]; exact hat j hj
end Go.Proofs.YtnpfppddongbhaaDoor
end

section
namespace Go.Proofs.YtnpfppddongbhaaDoor
open Go Go.AM
set_option autoImplicit false
inductive Gd : List UInt8 → Prop
  | one : Gd [120]
  | gx {l : List UInt8} : Gd l → Gd (120 :: l)
  | gs {l : List UInt8} : Gd l → Gd (120 :: 47 :: l)
def Xs (t : List UInt8) : Prop := t ≠ [] ∧ ∀ c ∈ t, c = 120
theorem Gd.xs {l : List UInt8} (h : Gd l) : ∀ t ∈ spl l, Xs t := by
  induction h with
  | one =>
    intro t ht
    have : spl [120] = [[120]] := by decide
    rw [this] at ht
    simp at ht; subst ht
    exact ⟨by simp, by simp⟩
  | @gx l hl ih =>
    intro t ht
    have e : spl (120 :: l) = match spl l with | x :: xs => (120 :: x) :: xs | [] => [[120]] := by rw [spl, if_neg (by decide)]; try rfl
    rw [e] at ht
    cases hs : spl l with
    | nil => rw [hs] at ht; simp at ht; subst ht; exact ⟨by simp, by simp⟩
    | cons y ys =>
      rw [hs] at ht ih
      rcases List.mem_cons.1 ht with rfl | ht
      · have := ih y (by simp)
        exact ⟨by simp, fun c hc => by
          rcases List.mem_cons.1 hc with rfl | hc
          · rfl
          · exact this.2 c hc⟩
      · exact ih t (by simp [ht])
  | @gs l hl ih =>
    intro t ht
    have e : spl (120 :: 47 :: l) = [120] :: spl l := by
      rw [spl, if_neg (by decide), spl, if_pos rfl]
    rw [e] at ht
    rcases List.mem_cons.1 ht with rfl | ht
    · exact ⟨by simp, by simp⟩
    · exact ih t ht
theorem dec_xs (n : Nat) (Y : Nat → Nat) (h : ∀ i, i < n → Y i = 120) : ∀ f i, (dec n Y f i).isSome = true := by
  intro f
  induction f with
  | zero => intro i; rfl
  | succ f ih =>
    intro i
    unfold dec
    by_cases hi : i < n
    · rw [if_pos hi, if_pos (by rw [h i hi]; decide)]
      simpa using ih (i + 1)
    · rw [if_neg hi]; rfl
theorem Xs.plain {t : List UInt8} (h : Xs t) : plain t = true := by
  unfold YtnpfppddongbhaaDoor.plain
  have h1 : okD t = true := dec_xs _ _ (fun i hi => by rw [byteAt_eq t i hi, h.2 _ (List.getElem_mem hi)]; rfl) _ _
  have h2 : anyOf bar t = false := by
    unfold anyOf
    rw [List.any_eq_false]
    intro c hc
    rw [h.2 c hc]; decide
  rw [h1, h2, decide_eq_false h.1]; rfl
theorem Gd.cls {l : List UInt8} (h : Gd l) : cls l = decide (l.length ≤ 255) := by
  unfold YtnpfppddongbhaaDoor.cls
  rw [List.all_eq_true.2 fun t ht => (h.xs t ht).plain, Bool.true_and]
end Go.Proofs.YtnpfppddongbhaaDoor
end

section
namespace Go.Proofs.YtnpfppddongbhaaDoor
open Go Go.AM
set_option autoImplicit false
structure Ty where
  k : UInt8
  nm : List UInt8
  d : Nat
  e : UInt8
def ty0 : Ty := ⟨0, [], 0, 0⟩
noncomputable def tyL (t : Ty) : List AV := [.int 8 (t.k.toNat : Int), S t.nm, .int 63 (t.d : Int), .int 8 (t.e.toNat : Int)]
noncomputable def tyV (t : Ty) : AV := .agg (avL (tyL t))
theorem tyL_one (t : Ty) : ∀ v ∈ tyL t, one v = true := by
  intro v hv
  simp only [tyL, List.mem_cons, List.not_mem_nil, or_false] at hv
  rcases hv with rfl | rfl | rfl | rfl <;> rfl
theorem cK_ty (t : Ty) (k : AV → Res) : cK (tyV t) k = k (tyV t) := rfl
def Cel (h : Hp) (b : Nat) (t : Ty) : Prop := ∃ B, Own h b B ∧ B.lim = 4 ∧ B.at 0 = .int 8 (t.k.toNat : Int) ∧ B.at 1 = S t.nm ∧ B.at 2 = .int 63 (t.d : Int) ∧ B.at 3 = .int 8 (t.e.toNat : Int)
theorem Cel.to {h h' : Hp} {b : Nat} {t : Ty} {W : Nat → Prop} (hc : Cel h b t) (ht : To W h h') (hw : ¬ W b) : Cel h' b t := by
  obtain ⟨B, o, r⟩ := hc
  exact ⟨B, o.to ht hw, r⟩
theorem Cel.lt {h : Hp} {b : Nat} {t : Ty} (hc : Cel h b t) : b < h.nb := by obtain ⟨B, o, r⟩ := hc; exact o.lt
theorem ty_mk {h : Hp} (hw : Wf h) (t : Ty) : ∃ h', (∀ k : AV → Hp → Res, mk h (avL (tyL t)) k = k (.ptr h.nb 0) h') ∧ Cel h' h.nb t ∧ To No h h' ∧ Wf h' ∧ h'.nb = h.nb + 1 := by
  obtain ⟨h', B, m1, m2, m3, m4, m5, m6, m7⟩ := mk_own hw (tyL t) (tyL_one t)
  exact ⟨h', m1, ⟨B, m2, m3, m4 0 (by simp [tyL]), m4 1 (by simp [tyL]), m4 2 (by simp [tyL]), m4 3 (by simp [tyL])⟩, m5, m6, m7⟩
theorem ty0_mk {h : Hp} (hw : Wf h) : ∃ h', (∀ k : AV → Hp → Res, mk h (.cons (.int 8 (.ofNat 0)) (.cons (.str 0 0) (.cons (.int 63 (.ofNat 0)) (.cons (.int 8 (.ofNat 0)) .nil)))) k = k (.ptr h.nb 0) h') ∧ Cel h' h.nb ty0 ∧ To No h h' ∧ Wf h' ∧ h'.nb = h.nb + 1 := by
  obtain ⟨h', m1, r⟩ := ty_mk hw ty0
  exact ⟨h', fun k => m1 k, r⟩
theorem ty_cells {h : Hp} (hw : Wf h) (t : Ty) : ∃ h', (∀ k : AV → Hp → Res, mk h (cells (tyV t)) k = k (.ptr h.nb 0) h') ∧ Cel h' h.nb t ∧ To No h h' ∧ Wf h' ∧ h'.nb = h.nb + 1 := by
  obtain ⟨h', m1, r⟩ := ty_mk hw t
  exact ⟨h', fun k => m1 k, r⟩
theorem Cel.st {h : Hp} {b : Nat} {t0 : Ty} (hw : Wf h) (hc : Cel h b t0) (t : Ty) : ∃ h', (∀ k : Hp → Res, stN h 4 (.ptr b 0) (.agg (avL (tyL t))) k = k h') ∧ Cel h' b t ∧ To (At b) h h' ∧ Wf h' ∧ h'.nb = h.nb := by
  obtain ⟨B, o, hl, -⟩ := hc
  obtain ⟨h', B', s1, s2, s3, s4, s5, s6⟩ := stN_own (o := 0) (l := tyL t) o (by simp [tyL]; omega) (tyL_one t)
  have hat : ∀ i (hi : i < 4), B'.at i = (tyL t)[i]'(by simpa [tyL] using hi) := fun i hi => by
    rw [s4, dif_pos ⟨Nat.zero_le _, by simpa [tyL] using hi⟩]; rfl
  exact ⟨h', s1, ⟨B', s2, by rw [s3, hl], hat 0 (by decide), hat 1 (by decide), hat 2 (by decide), hat 3 (by decide)⟩, s5, s5.wf hw, s6⟩
theorem Cel.ld {h : Hp} {b : Nat} {t : Ty} (hc : Cel h b t) (k : AV → Res) : ldN h 4 (.ptr b 0) k = k (tyV t) := by
  obtain ⟨B, o, hl, a0, a1, a2, a3⟩ := hc
  refine ldN_rd (l := tyL t) o.rd (fun i hi => ?_) (fun v hv => one_unk (tyL_one t v hv)) k
  rw [Nat.zero_add]
  have hi : i < 4 := hi
  match i, hi with
  | 0, _ => exact a0
  | 1, _ => exact a1
  | 2, _ => exact a2
  | 3, _ => exact a3
theorem Cel.l0 {h : Hp} {b : Nat} {t : Ty} (hc : Cel h b t) (k : AV → Res) : ld1 h (.ptr b (Nat.add 0 0)) k = k (.int 8 (t.k.toNat : Int)) := by
  obtain ⟨B, o, hl, a0, a1, a2, a3⟩ := hc
  exact ld1_rd o.rd a0 k
theorem Cel.l1 {h : Hp} {b : Nat} {t : Ty} (hc : Cel h b t) (k : AV → Res) : ld1 h (.ptr b (Nat.add 0 1)) k = k (S t.nm) := by
  obtain ⟨B, o, hl, a0, a1, a2, a3⟩ := hc
  exact ld1_rd o.rd a1 k
theorem Cel.l2 {h : Hp} {b : Nat} {t : Ty} (hc : Cel h b t) (k : AV → Res) : ld1 h (.ptr b (Nat.add 0 2)) k = k (.int 63 (t.d : Int)) := by
  obtain ⟨B, o, hl, a0, a1, a2, a3⟩ := hc
  exact ld1_rd o.rd a2 k
theorem Cel.l3 {h : Hp} {b : Nat} {t : Ty} (hc : Cel h b t) (k : AV → Res) : ld1 h (.ptr b (Nat.add 0 3)) k = k (.int 8 (t.e.toNat : Int)) := by
  obtain ⟨B, o, hl, a0, a1, a2, a3⟩ := hc
  exact ld1_rd o.rd a3 k
theorem Cel.s0 {h : Hp} {b : Nat} {t : Ty} (hw : Wf h) (hc : Cel h b t) (x : UInt8) : ∃ h', (∀ k : Hp → Res, st1 h (.ptr b (Nat.add 0 0)) (.int 8 (x.toNat : Int)) k = k h') ∧ Cel h' b { t with k := x } ∧ To (At b) h h' ∧ Wf h' ∧ h'.nb = h.nb := by
  obtain ⟨B, o, hl, a0, a1, a2, a3⟩ := hc
  obtain ⟨h', s1, s2, s3, s4⟩ := st1_own (o := 0) (v := .int 8 (x.toNat : Int)) o (by omega) rfl
  refine ⟨h', s1, ⟨_, s2, hl, ?_, ?_, ?_, ?_⟩, s3, s3.wf hw, s4⟩ <;> rw [setC_at (by omega)] <;> first | rfl | assumption
theorem Cel.s1 {h : Hp} {b : Nat} {t : Ty} (hw : Wf h) (hc : Cel h b t) (x : List UInt8) : ∃ h', (∀ k : Hp → Res, st1 h (.ptr b (Nat.add 0 1)) (S x) k = k h') ∧ Cel h' b { t with nm := x } ∧ To (At b) h h' ∧ Wf h' ∧ h'.nb = h.nb := by
  obtain ⟨B, o, hl, a0, a1, a2, a3⟩ := hc
  obtain ⟨h', s1, s2, s3, s4⟩ := st1_own (o := 1) (v := S x) o (by omega) rfl
  refine ⟨h', s1, ⟨_, s2, hl, ?_, ?_, ?_, ?_⟩, s3, s3.wf hw, s4⟩ <;> rw [setC_at (by omega)] <;> first | rfl | assumption
theorem Cel.s2 {h : Hp} {b : Nat} {t : Ty} (hw : Wf h) (hc : Cel h b t) (x : Nat) : ∃ h', (∀ k : Hp → Res, st1 h (.ptr b (Nat.add 0 2)) (.int 63 (x : Int)) k = k h') ∧ Cel h' b { t with d := x } ∧ To (At b) h h' ∧ Wf h' ∧ h'.nb = h.nb := by
  obtain ⟨B, o, hl, a0, a1, a2, a3⟩ := hc
  obtain ⟨h', s1, s2, s3, s4⟩ := st1_own (o := 2) (v := .int 63 (x : Int)) o (by omega) rfl
  refine ⟨h', s1, ⟨_, s2, hl, ?_, ?_, ?_, ?_⟩, s3, s3.wf hw, s4⟩ <;> rw [setC_at (by omega)] <;> first | rfl | assumption
theorem Cel.s3 {h : Hp} {b : Nat} {t : Ty} (hw : Wf h) (hc : Cel h b t) (x : UInt8) : ∃ h', (∀ k : Hp → Res, st1 h (.ptr b (Nat.add 0 3)) (.int 8 (x.toNat : Int)) k = k h') ∧ Cel h' b { t with e := x } ∧ To (At b) h h' ∧ Wf h' ∧ h'.nb = h.nb := by
  obtain ⟨B, o, hl, a0, a1, a2, a3⟩ := hc
  obtain ⟨h', s1, s2, s3, s4⟩ := st1_own (o := 3) (v := .int 8 (x.toNat : Int)) o (by omega) rfl
  refine ⟨h', s1, ⟨_, s2, hl, ?_, ?_, ?_, ?_⟩, s3, s3.wf hw, s4⟩ <;> rw [setC_at (by omega)] <;> first | rfl | assumption
theorem bldz (k : AV → Res) : bld [(false, 1, (.int 8 (.ofNat 0))), (false, 1, (.str 0 0)), (false, 1, (.int 63 (.ofNat 0))), (false, 1, (.int 8 (.ofNat 0)))] k = k (avL (tyL ty0)) := rfl
theorem bldk (c : UInt8) (k : AV → Res) : bld [(false, 1, (.int 8 (c.toNat : Int))), (false, 1, (.str 0 0)), (false, 1, (.int 63 (.ofNat 0))), (false, 1, (.int 8 (.ofNat 0)))] k = k (avL (tyL ⟨c, [], 0, 0⟩)) := rfl
theorem band_t {a b : Bool} (ha : a = true) (hb : b = true) : bAnd a b = true := by subst ha; subst hb; rfl
theorem eqI_self (n : Int) : eqI n n = true := by rw [eqI_eq]; exact beq_self_eq_true n
end Go.Proofs.YtnpfppddongbhaaDoor
end

section
namespace Go.Proofs.YtnpfppddongbhaaDoor
open Go Go.AM
set_option autoImplicit false
def lead : List UInt8 → Nat
  | [] => 0
  | c :: l => if c = 91 then lead l + 1 else 0
theorem lead_le (l : List UInt8) : lead l ≤ l.length := by
  induction l with
  | nil => exact Nat.le_refl _
  | cons c l ih => unfold lead; split <;> simp <;> omega
def upto : List UInt8 → Option (List UInt8)
  | [] => none
  | c :: l => if c = 59 then some [] else (upto l).map (c :: ·)
theorem upto_none (l : List UInt8) : upto l = none ↔ (59 : UInt8) ∉ l := by
  induction l with
  | nil => simp [upto]
  | cons c l ih =>
    unfold upto
    by_cases hc : c = 59
    · simp [hc]
    · have : ¬ 59 = c := fun h => hc h.symm
      simp [hc, this, ih]
theorem upto_some (l : List UInt8) : ∀ a, upto l = some a → ∃ b, l = a ++ 59 :: b ∧ (59 : UInt8) ∉ a := by
  induction l with
  | nil => intro a h; cases h
  | cons c l ih =>
    intro a h
    unfold upto at h
    by_cases hc : c = 59
    · rw [if_pos hc] at h; cases h
      exact ⟨l, by simp [hc], by simp⟩
    · rw [if_neg hc] at h
      cases hu : upto l with
      | none => rw [hu] at h; cases h
      | some x =>
        rw [hu] at h; cases h
        obtain ⟨b, rfl, hx⟩ := ih x hu
        refine ⟨b, rfl, fun hm => ?_⟩
        rcases List.mem_cons.1 hm with e | e
        · exact hc e.symm
        · exact hx e
theorem idx_ap (a b : List UInt8) (z : UInt8) (h : z ∉ a) : Lib.indexByte (a ++ z :: b) z = (a.length : Int) := by
  induction a with
  | nil => simp [Lib.indexByte]
  | cons c a ih =>
    have h1 : (c == z) = false := by
      have : ¬ c = z := fun e => h (by simp [e])
      simpa using this
    have h2 := ih fun e => h (by simp [e])
    have e2 : ((a.length : Int) == -1) = false := beq_eq_false_iff_ne.2 (by omega)
    rw [List.cons_append]
    unfold Lib.indexByte
    rw [h1, h2, e2]
    simp
noncomputable def mkT (c : UInt8) (nm : List UInt8) (d : Nat) : Ty := if 0 < d then ⟨91, nm, d, c⟩ else ⟨c, nm, 0, 0⟩
def prims : List UInt8 := [66, 67, 73, 74, 83, 90]
noncomputable def fr (l : List UInt8) : Option (Ty × Nat) :=
  match l[lead l]? with
  | none => none
  | some c => if 255 < lead l then none else
    if c ∈ prims then some (mkT c [] (lead l), lead l + 1)
    else if c = 76 then match upto (l.drop (lead l + 1)) with
      | none => none
      | some nm => if cls nm = true then some (mkT 76 nm (lead l), lead l + 1 + (nm.length + 1)) else none
    else none
noncomputable def frV (o : Option (Ty × Nat)) : AV := .tup (.cons (tyV ((o.map (·.1)).getD ty0)) (.cons (.int 63 (((o.map (·.2)).getD 0 : Nat) : Int)) .nil))
theorem t115c (l : List UInt8) (h : Hp) : s115 [S l, S [59]] h = .ret (.int 63 (Lib.indexByte l 59)) h := by
  have x1 := fun k => sIdx_S [59] 63 0 (by decide) k
  have x2 : ∀ k : AV → Res, sIdx (S [59]) (.int 63 0) k = k (.int 8 59) := x1
  have x3 : s103 [S l, .int 8 59] h = .ret (.int 63 (Lib.indexByte l 59)) h := t103 l 59 h
  by_cases hl : [59] = l
  · have z : decide (([59] : List UInt8) = l) = true := decide_eq_true hl
    have e0 : Lib.indexByte l 59 = 0 := by rw [← hl]; rfl
    rw [e0]
    simp only [↓s115, ↓lenS_S, List.length_cons, List.length_nil, ↓eqS_S, z, Nat.zero_add, Int.natCast_one, ↓SD, SA, Int.ofNat_eq_natCast, Int.cast_ofNat_Int, Int.reduceBEq, Int.reduceAdd, Int.reduceNeg, Int.reduceNegSucc, Int.reduceLT, Int.reduceLE, Int.reduceMul, Int.reduceTMod, Int.reduceSub, Int.reduceBNe, Bool.not_true, Bool.not_false, decide_true, decide_false, ne_eq, not_false_eq_true, Int.reduceEq, reduceCtorEq]
  · have z : decide (([59] : List UInt8) = l) = false := decide_eq_false hl
    simp only [↓s115, ↓lenS_S, List.length_cons, List.length_nil, ↓eqS_S, z, ↓x2, ↓x3, Nat.zero_add, Int.natCast_one, ↓SD, SA, Int.ofNat_eq_natCast, Int.cast_ofNat_Int, Int.reduceBEq, Int.reduceAdd, Int.reduceNeg, Int.reduceNegSucc, Int.reduceLT, Int.reduceLE, Int.reduceMul, Int.reduceTMod, Int.reduceSub, Int.reduceBNe, Bool.not_true, Bool.not_false, decide_true, decide_false, ne_eq, not_false_eq_true, Int.reduceEq, reduceCtorEq]
theorem t79_some (a b : List UInt8) (h : Hp) (hl : (a ++ 59 :: b).length ≤ 100000) (ha : (59 : UInt8) ∉ a) : s79 [S (a ++ 59 :: b), S [59]] h = .ret (.tup (.cons (S a) (.cons (S b) (.cons (.bool true) .nil)))) h := by
  have e1 := t115c (a ++ 59 :: b) h
  rw [idx_ap a b 59 ha] at e1
  have c1 : ¬ (a.length : Int) < 0 := by omega
  have hlen : (a ++ 59 :: b).length = a.length + (b.length + 1) := by simp
  have w2 : wrapC 63 ((a.length : Int) + 1) = ((a.length + 1 : Nat) : Int) := s1n _ (by omega)
  have x2 : ∀ k : AV → Res, cutT (S (a ++ 59 :: b)) none (some (.int 63 ((a.length : Nat) : Int))) k = k (S a) := fun k => by
    rw [cutR_S _ _ _ (by omega), List.take_left]
  have x3 : ∀ k : AV → Res, cutT (S (a ++ 59 :: b)) (some (.int 63 ((a.length + 1 : Nat) : Int))) none k = k (S b) := fun k => by
    rw [cutL_S _ _ _ (by omega), show a.length + 1 = (a ++ [59]).length by simp, show a ++ 59 :: b = (a ++ [59]) ++ b by simp, List.drop_left]
  have e2 : s104 [S (a ++ 59 :: b), S [59]] h = .ret (.tup (.cons (S a) (.cons (S b) (.cons (.bool true) .nil)))) h := by
    simp only [↓s104, ↓e1, c1, ↓x2, ↓lenS_S, List.length_cons, List.length_nil, Nat.zero_add, Int.natCast_one, w2, ↓x3, ↓cK_S, ↓SD, SA, Int.ofNat_eq_natCast, Int.cast_ofNat_Int, Int.reduceBEq, Int.reduceAdd, Int.reduceNeg, Int.reduceNegSucc, Int.reduceLT, Int.reduceLE, Int.reduceMul, Int.reduceTMod, Int.reduceSub, Int.reduceBNe, Bool.not_true, Bool.not_false, decide_true, decide_false, ne_eq, not_false_eq_true, Int.reduceEq, reduceCtorEq]
  simp only [↓s79, ↓e2, nth_z, nth_1, nth_2, ↓cK_S, ↓SD, SA, Int.ofNat_eq_natCast, Int.cast_ofNat_Int, Int.reduceBEq, Int.reduceAdd, Int.reduceNeg, Int.reduceNegSucc, Int.reduceLT, Int.reduceLE, Int.reduceMul, Int.reduceTMod, Int.reduceSub, Int.reduceBNe, Bool.not_true, Bool.not_false, decide_true, decide_false, ne_eq, not_false_eq_true, Int.reduceEq, reduceCtorEq]
theorem t79_none (l : List UInt8) (h : Hp) (hl : (59 : UInt8) ∉ l) : s79 [S l, S [59]] h = .ret (.tup (.cons (S l) (.cons (S []) (.cons (.bool false) .nil)))) h := by
  have e1 := t115c l h
  have c1 : Lib.indexByte l 59 < 0 := (idx_neg l 59).2 hl
  have e2 : s104 [S l, S [59]] h = .ret (.tup (.cons (S l) (.cons (S []) (.cons (.bool false) .nil)))) h := by
    simp only [↓s104, ↓e1, c1, ↓S_0, ↓cK_S, ↓SD, SA, Int.ofNat_eq_natCast, Int.cast_ofNat_Int, Int.reduceBEq, Int.reduceAdd, Int.reduceNeg, Int.reduceNegSucc, Int.reduceLT, Int.reduceLE, Int.reduceMul, Int.reduceTMod, Int.reduceSub, Int.reduceBNe, Bool.not_true, Bool.not_false, decide_true, decide_false, ne_eq, not_false_eq_true, Int.reduceEq, reduceCtorEq]
  simp only [↓s79, ↓e2, nth_z, nth_1, nth_2, ↓cK_S, ↓SD, SA, Int.ofNat_eq_natCast, Int.cast_ofNat_Int, Int.reduceBEq, Int.reduceAdd, Int.reduceNeg, Int.reduceNegSucc, Int.reduceLT, Int.reduceLE, Int.reduceMul, Int.reduceTMod, Int.reduceSub, Int.reduceBNe, Bool.not_true, Bool.not_false, decide_true, decide_false, ne_eq, not_false_eq_true, Int.reduceEq, reduceCtorEq]
theorem S_prims : AV.str 6 99313775100738 = S prims := by kernel_rfl
theorem S_59 : AV.str 1 59 = S [59] := rfl
theorem c91 (c : UInt8) : (((c.toNat : Int) == 91) : Bool) = decide (c = 91) := c8e c 91 (by decide)
theorem loop55 {l : List UInt8} (hl : l.length ≤ 100000) (v : AV) (h : Hp) : ∀ (f m i : Nat), l.length - i ≤ f → f < m → i ≤ l.length →
    lp L55n0 m [S l, v, .int 63 (i : Int)] h = .exit 0 [S l, v, .int 63 ((i + lead (l.drop i) : Nat) : Int)] h := by
  have gs : ∀ a : List UInt8, gsel (.bool true) true (S a) = S a := fun a => rfl
  have gi : ∀ x : Int, gsel (.bool true) true (.int 63 x) = .int 63 x := fun x => rfl
  have stop : ∀ (m i : Nat), ¬ i < l.length → i ≤ l.length → lp L55n0 (m + 1) [S l, v, .int 63 (i : Int)] h = .exit 0 [S l, v, .int 63 ((i + lead (l.drop i) : Nat) : Int)] h := by
    intro m i hi hi2
    have e1 : ¬ (i : Int) < (l.length : Int) := by omega
    rw [List.drop_eq_nil_of_le (by omega)]
    exact lpx m (by simp only [↓L55n0, ↓lenS_S, e1, ↓SD, SA, Int.ofNat_eq_natCast, Int.cast_ofNat_Int, Int.reduceBEq, Int.reduceAdd, Int.reduceNeg, Int.reduceNegSucc, Int.reduceLT, Int.reduceLE, Int.reduceMul, Int.reduceTMod, Int.reduceSub, Int.reduceBNe, Bool.not_true, Bool.not_false, decide_true, decide_false, ne_eq, not_false_eq_true, Int.reduceEq, reduceCtorEq]; rfl)
  intro f
  induction f with
  | zero =>
    intro m i hf hm hi
    obtain ⟨m, rfl⟩ : ∃ k, m = k + 1 := ⟨m - 1, by omega⟩
    exact stop m i (by omega) hi
  | succ f ih =>
    intro m i hf hm hi
    obtain ⟨m, rfl⟩ : ∃ k, m = k + 1 := ⟨m - 1, by omega⟩
    by_cases hin : i < l.length
    · have e1 : (i : Int) < (l.length : Int) := by omega
      have x1 := fun k => sIdx_S l 63 i hin k
      have e3 := c91 l[i]
      rw [List.drop_eq_getElem_cons hin]
      by_cases hc : l[i] = 91
      · rw [decide_eq_true hc] at e3
        have e : L55n0 [S l, v, .int 63 (i : Int)] h = .norm [S l, v, .int 63 ((i + 1 : Nat) : Int)] h := by
          simp only [↓L55n0, ↓lenS_S, e1, ↓gs, ↓gi, ↓x1, e3, s1n i (by omega), ↓SD, SA, Int.ofNat_eq_natCast, Int.cast_ofNat_Int, Int.reduceBEq, Int.reduceAdd, Int.reduceNeg, Int.reduceNegSucc, Int.reduceLT, Int.reduceLE, Int.reduceMul, Int.reduceTMod, Int.reduceSub, Int.reduceBNe, Bool.not_true, Bool.not_false, decide_true, decide_false, ne_eq, not_false_eq_true, Int.reduceEq, reduceCtorEq]
        rw [lpn m e, ih m (i + 1) (by omega) (by omega) (by omega), lead, if_pos hc, show i + 1 + lead (l.drop (i + 1)) = i + (lead (l.drop (i + 1)) + 1) by omega]
      · rw [decide_eq_false hc] at e3
        rw [lead, if_neg hc]
        exact lpx m (by simp only [↓L55n0, ↓lenS_S, e1, ↓gs, ↓gi, ↓x1, e3, ↓SD, SA, Int.ofNat_eq_natCast, Int.cast_ofNat_Int, Int.reduceBEq, Int.reduceAdd, Int.reduceNeg, Int.reduceNegSucc, Int.reduceLT, Int.reduceLE, Int.reduceMul, Int.reduceTMod, Int.reduceSub, Int.reduceBNe, Bool.not_true, Bool.not_false, decide_true, decide_false, ne_eq, not_false_eq_true, Int.reduceEq, reduceCtorEq]; rfl)
    · exact stop m i hin hi
theorem fin1 {h : Hp} {b1 : Nat} {x : Ty} (hw : Wf h) (h1 : Cel h b1 x) (t : Ty) : ∃ h4, (∀ k : Hp → Res, stN h 4 (.ptr b1 0) (tyV t) k = k h4) ∧ (∀ k : AV → Res, ldN h4 4 (.ptr b1 0) k = k (tyV t)) ∧ To (At b1) h h4 ∧ Wf h4 := by
  obtain ⟨h4, s1, s2, s3, s4, s5⟩ := h1.st hw t
  exact ⟨h4, s1, fun k => s2.ld k, s3, s4⟩
end Go.Proofs.YtnpfppddongbhaaDoor
end

section
namespace Go.Proofs.YtnpfppddongbhaaDoor
open Go Go.AM
set_option autoImplicit false
theorem fin2 {h : Hp} {b1 b2 : Nat} {x : Ty} {c : UInt8} {nm : List UInt8} (hw : Wf h) (h1 : Cel h b1 x) (h2 : Cel h b2 ⟨c, nm, 0, 0⟩) (hne : b1 ≠ b2) (d : Nat) :
    ∃ g1 g2 g3 g4, (∀ k : Hp → Res, st1 h (.ptr b2 (Nat.add 0 2)) (.int 63 (d : Int)) k = k g1) ∧ (∀ k : Hp → Res, st1 g1 (.ptr b2 (Nat.add 0 3)) (.int 8 (c.toNat : Int)) k = k g2) ∧ (∀ k : Hp → Res, st1 g2 (.ptr b2 (Nat.add 0 0)) (.int 8 91) k = k g3) ∧
      (∀ k : AV → Res, ldN g3 4 (.ptr b2 0) k = k (tyV ⟨91, nm, d, c⟩)) ∧ (∀ k : Hp → Res, stN g3 4 (.ptr b1 0) (tyV ⟨91, nm, d, c⟩) k = k g4) ∧ (∀ k : AV → Res, ldN g4 4 (.ptr b1 0) k = k (tyV ⟨91, nm, d, c⟩)) ∧ To (fun y => y = b1 ∨ y = b2) h g4 ∧ Wf g4 := by
  obtain ⟨g1, a1, a2, a3, a4, -⟩ := h2.s2 hw d
  obtain ⟨g2, d1, d2, d3, d4, -⟩ := a2.s3 a4 c
  obtain ⟨g3, e1, e2, e3, e4, -⟩ := d2.s0 d4 91
  have hb := ((h1.to a3 (fun e => hne e)).to d3 (fun e => hne e)).to e3 (fun e => hne e)
  obtain ⟨g4, f1, f2, f3, f4⟩ := fin1 e4 hb ⟨91, nm, d, c⟩
  exact ⟨g1, g2, g3, g4, a1, d1, fun k => e1 k, fun k => e2.ld k, f1, f2, ((((a3.trans d3).trans e3).mono fun y _ e => Or.inr e)).trans (f3.mono fun y _ e => Or.inl e), f4⟩
theorem t78c (c : UInt8) (h : Hp) : ∃ r : Int, s78 [S prims, .int 8 (c.toNat : Int)] h = .ret (.int 63 r) h ∧ (r < 0 ↔ c ∉ prims) := ⟨_, t78 prims c h, idx_neg prims c⟩
theorem t55 {l : List UInt8} (hl : l.length ≤ 100000) {h : Hp} (hw : Wf h) : ∃ h', s55 [S l] h = .ret (frV (fr l)) h' ∧ To No h h' ∧ Wf h' := by
  obtain ⟨h1, m1, c1, o1, w1, n1⟩ := ty0_mk hw
  have lp0 := loop55 hl (.ptr h.nb 0) h1 l.length most 0 (by omega) (by unfold most; omega) (by omega)
  rw [List.drop_zero, Nat.zero_add] at lp0
  have lp0 : lp L55n0 most [S l, .ptr h.nb 0, .int 63 0] h1 = .exit 0 [S l, .ptr h.nb 0, .int 63 (lead l : Int)] h1 := lp0
  have hle := lead_le l
  have gs : ∀ a : List UInt8, gsel (.bool false) false (S a) = S a := fun a => rfl
  have gi : ∀ x : Int, gsel (.bool false) false (.int 63 x) = .int 63 x := fun x => rfl
  have zero : ∀ {g : Hp}, Wf g → Cel g h.nb ty0 → ∃ h2, (∀ k : Hp → Res, stN g 4 (.ptr h.nb 0) (.agg (avL (tyL ty0))) k = k h2) ∧ (∀ k : AV → Res, ldN h2 4 (.ptr h.nb 0) k = k (tyV ty0)) ∧ To (At h.nb) g h2 ∧ Wf h2 := fun w c => fin1 w c ty0
  by_cases d255 : 255 < lead l
  · obtain ⟨h2, p1, p2, o2, w2⟩ := zero w1 c1
    have e : fr l = none := by unfold fr; cases hc : l[lead l]? <;> simp [d255]
    have q : (255 : Int) < (lead l : Int) := by omega
    refine ⟨h2, ?_, o1.fresh o2 (fun x e => by have : x = h.nb := e; omega), w2⟩
    rw [e]
    simp only [↓s55, ↓m1, ↓lp0, ↓blk_x, q, ↓bldz, ↓p1, ↓p2, ↓cK_ty, ↓SD, SA, Int.ofNat_eq_natCast, Int.cast_ofNat_Int, Int.reduceBEq, Int.reduceAdd, Int.reduceNeg, Int.reduceNegSucc, Int.reduceLT, Int.reduceLE, Int.reduceMul, Int.reduceTMod, Int.reduceSub, Int.reduceBNe, Bool.not_true, Bool.not_false, decide_true, decide_false, ne_eq, not_false_eq_true, Int.reduceEq, reduceCtorEq]; rfl
  have q : ¬ (255 : Int) < (lead l : Int) := by omega
  by_cases dl : lead l = l.length
  · obtain ⟨h2, p1, p2, o2, w2⟩ := zero w1 c1
    have e : fr l = none := by unfold fr; rw [List.getElem?_eq_none (by omega)]
    have q2 : (((lead l : Nat) : Int) == (l.length : Int)) = true := by rw [dl]; exact beq_self_eq_true _
    refine ⟨h2, ?_, o1.fresh o2 (fun x e => by have : x = h.nb := e; omega), w2⟩
    rw [e]
    simp only [↓s55, ↓m1, ↓lp0, ↓blk_x, q, q2, ↓gs, ↓gi, ↓lenS_S, ↓bldz, ↓p1, ↓p2, ↓cK_ty, ↓SD, SA, Int.ofNat_eq_natCast, Int.cast_ofNat_Int, Int.reduceBEq, Int.reduceAdd, Int.reduceNeg, Int.reduceNegSucc, Int.reduceLT, Int.reduceLE, Int.reduceMul, Int.reduceTMod, Int.reduceSub, Int.reduceBNe, Bool.not_true, Bool.not_false, decide_true, decide_false, ne_eq, not_false_eq_true, Int.reduceEq, reduceCtorEq]; rfl
  have q2 : (((lead l : Nat) : Int) == (l.length : Int)) = false := beq_eq_false_iff_ne.2 (by omega)
  have hin : lead l < l.length := by omega
  have x1 := fun k => sIdx_S l 63 (lead l) hin k
  have hfr : fr l = if l[lead l] ∈ prims then some (mkT l[lead l] [] (lead l), lead l + 1)
    else if l[lead l] = 76 then match upto (l.drop (lead l + 1)) with
      | none => none
      | some nm => if cls nm = true then some (mkT 76 nm (lead l), lead l + 1 + (nm.length + 1)) else none
    else none := by
    conv => lhs; unfold fr
    rw [List.getElem?_eq_getElem hin]
    simp only [if_neg d255]
    try rfl
  rw [hfr]
  generalize hcc : l[lead l] = c at *
  have i1 : wrapC 63 ((lead l : Int) + 1) = ((lead l + 1 : Nat) : Int) := s1n _ (by omega)
  obtain ⟨h3, m3, c3, o3, w3, n3⟩ := ty0_mk w1
  obtain ⟨h4, s4, c4, o4, w4, n4⟩ := c3.st w3 ⟨c, [], 0, 0⟩
  have c1' : Cel h4 h.nb ty0 := (c1.to o3 (fun f => f)).to o4 (fun f => by have : h.nb = h1.nb := f; omega)
  have l4 := fun k => c4.l0 k
  have l4 : ∀ k : AV → Res, ld1 h4 (.ptr h1.nb (Nat.add 0 0)) k = k (.int 8 (c.toNat : Int)) := l4
  have oo : To (fun y => h.nb ≤ y) h h4 := by
    have q1 : To (fun y => h.nb ≤ y) h h1 := o1.mono fun _ _ f => f.elim
    have q3 : To (fun y => h.nb ≤ y) h1 h3 := o3.mono fun _ _ f => f.elim
    exact (q1.trans q3).trans (o4.mono fun y _ e => by have : y = h1.nb := e; omega)
  have end2 : ∀ {g : Hp}, To (fun y => h.nb ≤ y) h4 g → To No h g := fun {g} t => (oo.trans t).mono fun y hy hn => by omega
  obtain ⟨r, e78, hr⟩ := t78c c h4
  have hne : h.nb ≠ h1.nb := by omega
  by_cases hp : c ∈ prims
  · rw [if_pos hp]
    have q3 : ¬ r < 0 := fun h => (hr.1 h) hp
    by_cases hd : 0 < lead l
    · have q4 : (0 : Int) < (lead l : Int) := by omega
      obtain ⟨g1, g2, g3, g4, a1, a2, a3, a4, a5, a6, a7, a8⟩ := fin2 w4 c1' c4 hne (lead l)
      have eT : mkT c [] (lead l) = ⟨91, [], lead l, c⟩ := if_pos hd
      refine ⟨g4, ?_, end2 (a7.mono fun y _ e => by rcases e with rfl | rfl <;> omega), a8⟩
      rw [eT]
      simp only [↓s55, ↓m1, ↓lp0, ↓blk_x, q, q2, ↓gs, ↓gi, ↓lenS_S, ↓x1, ↓bldk, i1, ↓m3, ↓s4, ↓cP_p, ↓l4, ↓S_prims, ↓e78, q3, q4, ↓a1, ↓a2, ↓a3, ↓a4, ↓a5, ↓a6, ↓cK_ty, ↓SD, SA, Int.ofNat_eq_natCast, Int.cast_ofNat_Int, Int.reduceBEq, Int.reduceAdd, Int.reduceNeg, Int.reduceNegSucc, Int.reduceLT, Int.reduceLE, Int.reduceMul, Int.reduceTMod, Int.reduceSub, Int.reduceBNe, Bool.not_true, Bool.not_false, decide_true, decide_false, ne_eq, not_false_eq_true, Int.reduceEq, reduceCtorEq]; rfl
    · have q4 : ¬ (0 : Int) < (lead l : Int) := by omega
      have eT : mkT c [] (lead l) = ⟨c, [], 0, 0⟩ := if_neg hd
      obtain ⟨g4, a5, a6, a7, a8⟩ := fin1 w4 c1' ⟨c, [], 0, 0⟩
      have a4 := fun k => c4.ld k
      refine ⟨g4, ?_, end2 (a7.mono fun y _ e => by have : y = h.nb := e; omega), a8⟩
      rw [eT]
      simp only [↓s55, ↓m1, ↓lp0, ↓blk_x, q, q2, ↓gs, ↓gi, ↓lenS_S, ↓x1, ↓bldk, i1, ↓m3, ↓s4, ↓cP_p, ↓l4, ↓S_prims, ↓e78, q3, q4, ↓a4, ↓a5, ↓a6, ↓cK_ty, ↓SD, SA, Int.ofNat_eq_natCast, Int.cast_ofNat_Int, Int.reduceBEq, Int.reduceAdd, Int.reduceNeg, Int.reduceNegSucc, Int.reduceLT, Int.reduceLE, Int.reduceMul, Int.reduceTMod, Int.reduceSub, Int.reduceBNe, Bool.not_true, Bool.not_false, decide_true, decide_false, ne_eq, not_false_eq_true, Int.reduceEq, reduceCtorEq]; rfl
  rw [if_neg hp]
  have q3 : r < 0 := hr.2 hp
  have c76 : (((c.toNat : Int) == 76) : Bool) = decide (c = 76) := c8e c 76 (by decide)
  by_cases h76 : c = 76
  · rw [if_pos h76]
    rw [decide_eq_true h76] at c76
    have x2 := fun k => cutL_S l 63 (lead l + 1) (by omega) k
    have hdl : (l.drop (lead l + 1)).length ≤ 100000 := by simp; omega
    cases hu : upto (l.drop (lead l + 1)) with
    | none =>
      obtain ⟨h5, p1, p2, o5, w5⟩ := zero w4 c1'
      have e79 := t79_none (l.drop (lead l + 1)) h4 ((upto_none _).1 hu)
      refine ⟨h5, ?_, end2 (o5.mono fun y _ e => by have : y = h.nb := e; omega), w5⟩
      simp only [↓s55, ↓m1, ↓lp0, ↓blk_x, q, q2, ↓gs, ↓gi, ↓lenS_S, ↓x1, ↓bldk, i1, ↓m3, ↓s4, ↓cP_p, ↓l4, ↓S_prims, ↓e78, q3, c76, ↓x2, ↓S_59, ↓e79, nth_z, nth_1, nth_2, ↓cK_S, ↓bldz, ↓p1, ↓p2, ↓cK_ty, ↓SD, SA, Int.ofNat_eq_natCast, Int.cast_ofNat_Int, Int.reduceBEq, Int.reduceAdd, Int.reduceNeg, Int.reduceNegSucc, Int.reduceLT, Int.reduceLE, Int.reduceMul, Int.reduceTMod, Int.reduceSub, Int.reduceBNe, Bool.not_true, Bool.not_false, decide_true, decide_false, ne_eq, not_false_eq_true, Int.reduceEq, reduceCtorEq]; rfl
    | some nm =>
      obtain ⟨b, eb, hn⟩ := upto_some _ nm hu
      rw [eb] at x2 hdl
      have hnl : nm.length + 1 + b.length = l.length - (lead l + 1) := by
        have := congrArg List.length eb
        simp at this; omega
      have e79 := t79_some nm b h4 hdl hn
      obtain ⟨h5, e17, o5, w5⟩ := t17 (l := nm) (by omega) w4
      have c15 : Cel h5 h.nb ty0 := c1'.to o5 (fun f => f)
      have c45 : Cel h5 h1.nb ⟨c, [], 0, 0⟩ := c4.to o5 (fun f => f)
      have gs2 : ∀ a : List UInt8, gsel (.bool false) false (S a) = S a := fun a => rfl
      show ∃ h', s55 [S l] h = .ret (frV (if cls nm = true then some (mkT 76 nm (lead l), lead l + 1 + (nm.length + 1)) else none)) h' ∧ To No h h' ∧ Wf h'
      cases hcl : cls nm with
      | false =>
        rw [hcl] at e17
        obtain ⟨h6, p1, p2, o6, w6⟩ := zero w5 c15
        rw [if_neg (by decide)]
        refine ⟨h6, ?_, end2 ((o5.mono fun _ _ f => f.elim).trans (o6.mono fun y _ e => by have : y = h.nb := e; omega)), w6⟩
        simp only [↓s55, ↓m1, ↓lp0, ↓blk_x, q, q2, ↓gs, ↓gi, ↓lenS_S, ↓x1, ↓bldk, i1, ↓m3, ↓s4, ↓cP_p, ↓l4, ↓S_prims, ↓e78, q3, c76, ↓x2, ↓S_59, ↓e79, nth_z, nth_1, nth_2, ↓cK_S, ↓e17, ↓bldz, ↓p1, ↓p2, ↓cK_ty, ↓SD, SA, Int.ofNat_eq_natCast, Int.cast_ofNat_Int, Int.reduceBEq, Int.reduceAdd, Int.reduceNeg, Int.reduceNegSucc, Int.reduceLT, Int.reduceLE, Int.reduceMul, Int.reduceTMod, Int.reduceSub, Int.reduceBNe, Bool.not_true, Bool.not_false, decide_true, decide_false, ne_eq, not_false_eq_true, Int.reduceEq, reduceCtorEq]; rfl
      | true =>
        rw [hcl] at e17
        obtain ⟨h6, s6, c6, o6, w6, n6⟩ := c45.s1 w5 nm
        have c6 : Cel h6 h1.nb ⟨c, nm, 0, 0⟩ := c6
        have c16 : Cel h6 h.nb ty0 := c15.to o6 (fun f => hne f)
        have i2 : wrapC 63 ((nm.length : Int) + 1) = ((nm.length + 1 : Nat) : Int) := s1n _ (by omega)
        have i3 : wrapC 63 (((lead l + 1 : Nat) : Int) + ((nm.length + 1 : Nat) : Int)) = ((lead l + 1 + (nm.length + 1) : Nat) : Int) := by rw [w63_in _ (by omega) (by omega)]; omega
        have l6 := fun k => c6.l0 k
        have l6 : ∀ k : AV → Res, ld1 h6 (.ptr h1.nb (Nat.add 0 0)) k = k (.int 8 (c.toNat : Int)) := l6
        have o46 : To (fun y => h.nb ≤ y) h4 h6 := (o5.mono fun _ _ f => f.elim).trans (o6.mono fun y _ e => by have : y = h1.nb := e; omega)
        by_cases hd : 0 < lead l
        · have q4 : (0 : Int) < (lead l : Int) := by omega
          obtain ⟨g1, g2, g3, g4, a1, a2, a3, a4, a5, a6, a7, a8⟩ := fin2 w6 c16 c6 hne (lead l)
          have eT : mkT 76 nm (lead l) = ⟨91, nm, lead l, c⟩ := by rw [h76]; exact if_pos hd
          refine ⟨g4, ?_, end2 (o46.trans (a7.mono fun y _ e => by rcases e with rfl | rfl <;> omega)), a8⟩
          rw [if_pos rfl, eT]
          simp only [↓s55, ↓m1, ↓lp0, ↓blk_x, q, q2, ↓gs, ↓gi, ↓lenS_S, ↓x1, ↓bldk, i1, ↓m3, ↓s4, ↓cP_p, ↓l4, ↓S_prims, ↓e78, q3, c76, ↓x2, ↓S_59, ↓e79, nth_z, nth_1, nth_2, ↓cK_S, ↓e17, ↓s6, i2, i3, q4, ↓l6, ↓a1, ↓a2, ↓a3, ↓a4, ↓a5, ↓a6, ↓cK_ty, ↓SD, SA, Int.ofNat_eq_natCast, Int.cast_ofNat_Int, Int.reduceBEq, Int.reduceAdd, Int.reduceNeg, Int.reduceNegSucc, Int.reduceLT, Int.reduceLE, Int.reduceMul, Int.reduceTMod, Int.reduceSub, Int.reduceBNe, Bool.not_true, Bool.not_false, decide_true, decide_false, ne_eq, not_false_eq_true, Int.reduceEq, reduceCtorEq]; rfl
        · have q4 : ¬ (0 : Int) < (lead l : Int) := by omega
          have eT : mkT 76 nm (lead l) = ⟨c, nm, 0, 0⟩ := by rw [h76]; exact if_neg hd
          obtain ⟨g4, a5, a6, a7, a8⟩ := fin1 w6 c16 ⟨c, nm, 0, 0⟩
          have a4 := fun k => c6.ld k
          refine ⟨g4, ?_, end2 (o46.trans (a7.mono fun y _ e => by have : y = h.nb := e; omega)), a8⟩
          rw [if_pos rfl, eT]
          simp only [↓s55, ↓m1, ↓lp0, ↓blk_x, q, q2, ↓gs, ↓gi, ↓lenS_S, ↓x1, ↓bldk, i1, ↓m3, ↓s4, ↓cP_p, ↓l4, ↓S_prims, ↓e78, q3, c76, ↓x2, ↓S_59, ↓e79, nth_z, nth_1, nth_2, ↓cK_S, ↓e17, ↓s6, i2, i3, q4, ↓a4, ↓a5, ↓a6, ↓cK_ty, ↓SD, SA, Int.ofNat_eq_natCast, Int.cast_ofNat_Int, Int.reduceBEq, Int.reduceAdd, Int.reduceNeg, Int.reduceNegSucc, Int.reduceLT, Int.reduceLE, Int.reduceMul, Int.reduceTMod, Int.reduceSub, Int.reduceBNe, Bool.not_true, Bool.not_false, decide_true, decide_false, ne_eq, not_false_eq_true, Int.reduceEq, reduceCtorEq]; rfl
  · rw [if_neg h76]
    rw [decide_eq_false h76] at c76
    obtain ⟨h5, p1, p2, o5, w5⟩ := zero w4 c1'
    refine ⟨h5, ?_, end2 (o5.mono fun y _ e => by have : y = h.nb := e; omega), w5⟩
    simp only [↓s55, ↓m1, ↓lp0, ↓blk_x, q, q2, ↓gs, ↓gi, ↓lenS_S, ↓x1, ↓bldk, i1, ↓m3, ↓s4, ↓cP_p, ↓l4, ↓S_prims, ↓e78, q3, c76, ↓bldz, ↓p1, ↓p2, ↓cK_ty, ↓SD, SA, Int.ofNat_eq_natCast, Int.cast_ofNat_Int, Int.reduceBEq, Int.reduceAdd, Int.reduceNeg, Int.reduceNegSucc, Int.reduceLT, Int.reduceLE, Int.reduceMul, Int.reduceTMod, Int.reduceSub, Int.reduceBNe, Bool.not_true, Bool.not_false, decide_true, decide_false, ne_eq, not_false_eq_true, Int.reduceEq, reduceCtorEq]; rfl
end Go.Proofs.YtnpfppddongbhaaDoor
end

section
namespace Go.Proofs.YtnpfppddongbhaaDoor
open Go Go.AM
set_option autoImplicit false
def skip : List UInt8 → Nat
  | [] => 0
  | c :: l => if c = 59 then 0 else skip l + 1
theorem skip_le (l : List UInt8) : skip l ≤ l.length := by
  induction l with
  | nil => exact Nat.le_refl _
  | cons c l ih => unfold skip; split <;> simp; omega
theorem skip_ap (a b : List UInt8) (h : (59 : UInt8) ∉ a) : skip (a ++ 59 :: b) = a.length := by
  induction a with
  | nil => rfl
  | cons c a ih =>
    have h1 : ¬ c = 59 := fun e => h (by simp [e])
    rw [List.cons_append, skip, if_neg h1, ih fun e => h (by simp [e])]; rfl
theorem skip_none (l : List UInt8) (h : (59 : UInt8) ∉ l) : skip l = l.length := by
  induction l with
  | nil => rfl
  | cons c l ih =>
    have h1 : ¬ c = 59 := fun e => h (by simp [e])
    rw [skip, if_neg h1, ih fun e => h (by simp [e])]; rfl
theorem c59 (c : UInt8) : (((c.toNat : Int) == 59) : Bool) = decide (c = 59) := c8e c 59 (by decide)
theorem loop56 {l : List UInt8} (hl : l.length ≤ 100000) (v1 v2 v3 v4 : AV) (h : Hp) : ∀ (f m i : Nat), l.length - i ≤ f → f < m → i ≤ l.length →
    lp L56n1 m [S l, v1, v2, v3, .int 63 (i : Int), v4] h = .exit 3 [S l, v1, v2, v3, .int 63 ((i + skip (l.drop i) : Nat) : Int), v4] h := by
  have gs : ∀ a : List UInt8, gsel (.bool true) true (S a) = S a := fun a => rfl
  have gi : ∀ x : Int, gsel (.bool true) true (.int 63 x) = .int 63 x := fun x => rfl
  have stop : ∀ (m i : Nat), ¬ i < l.length → i ≤ l.length → lp L56n1 (m + 1) [S l, v1, v2, v3, .int 63 (i : Int), v4] h = .exit 3 [S l, v1, v2, v3, .int 63 ((i + skip (l.drop i) : Nat) : Int), v4] h := by
    intro m i hi hi2
    have e1 : ¬ (i : Int) < (l.length : Int) := by omega
    rw [List.drop_eq_nil_of_le (by omega)]
    exact lpx m (by simp only [↓L56n1, ↓lenS_S, e1, ↓SD, SA, Int.ofNat_eq_natCast, Int.cast_ofNat_Int, Int.reduceBEq, Int.reduceAdd, Int.reduceNeg, Int.reduceNegSucc, Int.reduceLT, Int.reduceLE, Int.reduceMul, Int.reduceTMod, Int.reduceSub, Int.reduceBNe, Bool.not_true, Bool.not_false, decide_true, decide_false, ne_eq, not_false_eq_true, Int.reduceEq, reduceCtorEq]; rfl)
  intro f
  induction f with
  | zero =>
    intro m i hf hm hi
    obtain ⟨m, rfl⟩ : ∃ k, m = k + 1 := ⟨m - 1, by omega⟩
    exact stop m i (by omega) hi
  | succ f ih =>
    intro m i hf hm hi
    obtain ⟨m, rfl⟩ : ∃ k, m = k + 1 := ⟨m - 1, by omega⟩
    by_cases hin : i < l.length
    · have e1 : (i : Int) < (l.length : Int) := by omega
      have x1 := fun k => sIdx_S l 63 i hin k
      have e3 := c59 l[i]
      rw [List.drop_eq_getElem_cons hin]
      by_cases hc : l[i] = 59
      · rw [decide_eq_true hc] at e3
        rw [skip, if_pos hc]
        exact lpx m (by simp only [↓L56n1, ↓lenS_S, e1, ↓gs, ↓gi, ↓x1, e3, ↓SD, SA, Int.ofNat_eq_natCast, Int.cast_ofNat_Int, Int.reduceBEq, Int.reduceAdd, Int.reduceNeg, Int.reduceNegSucc, Int.reduceLT, Int.reduceLE, Int.reduceMul, Int.reduceTMod, Int.reduceSub, Int.reduceBNe, Bool.not_true, Bool.not_false, decide_true, decide_false, ne_eq, not_false_eq_true, Int.reduceEq, reduceCtorEq]; rfl)
      · rw [decide_eq_false hc] at e3
        have e : L56n1 [S l, v1, v2, v3, .int 63 (i : Int), v4] h = .norm [S l, v1, v2, v3, .int 63 ((i + 1 : Nat) : Int), v4] h := by
          simp only [↓L56n1, ↓lenS_S, e1, ↓gs, ↓gi, ↓x1, e3, s1n i (by omega), ↓SD, SA, Int.ofNat_eq_natCast, Int.cast_ofNat_Int, Int.reduceBEq, Int.reduceAdd, Int.reduceNeg, Int.reduceNegSucc, Int.reduceLT, Int.reduceLE, Int.reduceMul, Int.reduceTMod, Int.reduceSub, Int.reduceBNe, Bool.not_true, Bool.not_false, decide_true, decide_false, ne_eq, not_false_eq_true, Int.reduceEq, reduceCtorEq]
        rw [lpn m e, ih m (i + 1) (by omega) (by omega) (by omega), skip, if_neg hc, show i + 1 + skip (l.drop (i + 1)) = i + (skip (l.drop (i + 1)) + 1) by omega]
    · exact stop m i hin hi
theorem fin3 {h : Hp} {b1 b2 : Nat} {x : Ty} {c : UInt8} {nm : List UInt8} (hw : Wf h) (h1 : Cel h b1 x) (h2 : Cel h b2 ⟨c, nm, 0, 0⟩) (hne : b1 ≠ b2) (d : Nat) :
    ∃ g1 g2 g3 g4, (∀ k : Hp → Res, st1 h (.ptr b2 (Nat.add 0 3)) (.int 8 (c.toNat : Int)) k = k g1) ∧ (∀ k : Hp → Res, st1 g1 (.ptr b2 (Nat.add 0 0)) (.int 8 91) k = k g2) ∧ (∀ k : Hp → Res, st1 g2 (.ptr b2 (Nat.add 0 2)) (.int 63 (d : Int)) k = k g3) ∧
      (∀ k : AV → Res, ldN g3 4 (.ptr b2 0) k = k (tyV ⟨91, nm, d, c⟩)) ∧ (∀ k : Hp → Res, stN g3 4 (.ptr b1 0) (tyV ⟨91, nm, d, c⟩) k = k g4) ∧ (∀ k : AV → Res, ldN g4 4 (.ptr b1 0) k = k (tyV ⟨91, nm, d, c⟩)) ∧ To (fun y => y = b1 ∨ y = b2) h g4 ∧ Wf g4 := by
  obtain ⟨g1, a1, a2, a3, a4, -⟩ := h2.s3 hw c
  obtain ⟨g2, d1, d2, d3, d4, -⟩ := a2.s0 a4 91
  obtain ⟨g3, e1, e2, e3, e4, -⟩ := d2.s2 d4 d
  have hb := ((h1.to a3 (fun e => hne e)).to d3 (fun e => hne e)).to e3 (fun e => hne e)
  obtain ⟨g4, f1, f2, f3, f4⟩ := fin1 e4 hb ⟨91, nm, d, c⟩
  exact ⟨g1, g2, g3, g4, a1, fun k => d1 k, e1, fun k => e2.ld k, f1, f2, ((((a3.trans d3).trans e3).mono fun y _ e => Or.inr e)).trans (f3.mono fun y _ e => Or.inl e), f4⟩
theorem t56 {l : List UInt8} (hl : l.length ≤ 100000) {h : Hp} (hw : Wf h) : ∃ h', s56 [S l] h = .ret (frV (fr l)) h' ∧ To No h h' ∧ Wf h' := by
  obtain ⟨h1, m1, c1, o1, w1, n1⟩ := ty0_mk hw
  have lp0 := loop55 hl (.ptr h.nb 0) h1 l.length most 0 (by omega) (by unfold most; omega) (by omega)
  rw [List.drop_zero, Nat.zero_add] at lp0
  have lp0 : lp L56n0 most [S l, .ptr h.nb 0, .int 63 0] h1 = .exit 0 [S l, .ptr h.nb 0, .int 63 (lead l : Int)] h1 := lp0
  have hle := lead_le l
  have gs : ∀ a : List UInt8, gsel (.bool false) false (S a) = S a := fun a => rfl
  have gi : ∀ x : Int, gsel (.bool false) false (.int 63 x) = .int 63 x := fun x => rfl
  have zero : ∀ {g : Hp}, Wf g → Cel g h.nb ty0 → ∃ h2, (∀ k : Hp → Res, stN g 4 (.ptr h.nb 0) (.agg (avL (tyL ty0))) k = k h2) ∧ (∀ k : AV → Res, ldN h2 4 (.ptr h.nb 0) k = k (tyV ty0)) ∧ To (At h.nb) g h2 ∧ Wf h2 := fun w c => fin1 w c ty0
  by_cases dl : lead l = l.length
  · obtain ⟨h2, p1, p2, o2, w2⟩ := zero w1 c1
    have e : fr l = none := by unfold fr; rw [List.getElem?_eq_none (by omega)]
    have q2 : ¬ (lead l : Int) < (l.length : Int) := by omega
    refine ⟨h2, ?_, o1.fresh o2 (fun x e => by have : x = h.nb := e; omega), w2⟩
    rw [e]
    simp only [↓s56, ↓m1, ↓lp0, ↓blk_x, q2, ↓gs, ↓gi, ↓lenS_S, ↓bldz, ↓p1, ↓p2, ↓cK_ty, ↓SD, SA, Int.ofNat_eq_natCast, Int.cast_ofNat_Int, Int.reduceBEq, Int.reduceAdd, Int.reduceNeg, Int.reduceNegSucc, Int.reduceLT, Int.reduceLE, Int.reduceMul, Int.reduceTMod, Int.reduceSub, Int.reduceBNe, Bool.not_true, Bool.not_false, decide_true, decide_false, ne_eq, not_false_eq_true, Int.reduceEq, reduceCtorEq]; rfl
  have q2 : (lead l : Int) < (l.length : Int) := by omega
  by_cases d255 : 255 < lead l
  · obtain ⟨h2, p1, p2, o2, w2⟩ := zero w1 c1
    have e : fr l = none := by unfold fr; cases hc : l[lead l]? <;> simp [d255]
    have q : (255 : Int) < (lead l : Int) := by omega
    refine ⟨h2, ?_, o1.fresh o2 (fun x e => by have : x = h.nb := e; omega), w2⟩
    rw [e]
    simp only [↓s56, ↓m1, ↓lp0, ↓blk_x, q, q2, ↓gs, ↓gi, ↓lenS_S, ↓bldz, ↓p1, ↓p2, ↓cK_ty, ↓SD, SA, Int.ofNat_eq_natCast, Int.cast_ofNat_Int, Int.reduceBEq, Int.reduceAdd, Int.reduceNeg, Int.reduceNegSucc, Int.reduceLT, Int.reduceLE, Int.reduceMul, Int.reduceTMod, Int.reduceSub, Int.reduceBNe, Bool.not_true, Bool.not_false, decide_true, decide_false, ne_eq, not_false_eq_true, Int.reduceEq, reduceCtorEq]; rfl
  have q : ¬ (255 : Int) < (lead l : Int) := by omega
  have hin : lead l < l.length := by omega
  have x1 := fun k => sIdx_S l 63 (lead l) hin k
  have hfr : fr l = if l[lead l] ∈ prims then some (mkT l[lead l] [] (lead l), lead l + 1)
    else if l[lead l] = 76 then match upto (l.drop (lead l + 1)) with
      | none => none
      | some nm => if cls nm = true then some (mkT 76 nm (lead l), lead l + 1 + (nm.length + 1)) else none
    else none := by
    conv => lhs; unfold fr
    rw [List.getElem?_eq_getElem hin]
    simp only [if_neg d255]
    try rfl
  rw [hfr]
  generalize hcc : l[lead l] = c at *
  have i1 : wrapC 63 ((lead l : Int) + 1) = ((lead l + 1 : Nat) : Int) := s1n _ (by omega)
  obtain ⟨h3, m3, c3, o3, w3, n3⟩ := ty0_mk w1
  obtain ⟨h4, s4, c4, o4, w4, n4⟩ := c3.st w3 ⟨c, [], 0, 0⟩
  have c1' : Cel h4 h.nb ty0 := (c1.to o3 (fun f => f)).to o4 (fun f => by have : h.nb = h1.nb := f; omega)
  have oo : To (fun y => h.nb ≤ y) h h4 := by
    have q1 : To (fun y => h.nb ≤ y) h h1 := o1.mono fun _ _ f => f.elim
    have q3 : To (fun y => h.nb ≤ y) h1 h3 := o3.mono fun _ _ f => f.elim
    exact (q1.trans q3).trans (o4.mono fun y _ e => by have : y = h1.nb := e; omega)
  have end2 : ∀ {g : Hp}, To (fun y => h.nb ≤ y) h4 g → To No h g := fun {g} t => (oo.trans t).mono fun y hy hn => by omega
  have hne : h.nb ≠ h1.nb := by omega
  have f66 : (((c.toNat : Int) == 66) : Bool) = decide (c = 66) := c8e c 66 (by decide)
  have f67 : (((c.toNat : Int) == 67) : Bool) = decide (c = 67) := c8e c 67 (by decide)
  have f73 : (((c.toNat : Int) == 73) : Bool) = decide (c = 73) := c8e c 73 (by decide)
  have f74 : (((c.toNat : Int) == 74) : Bool) = decide (c = 74) := c8e c 74 (by decide)
  have f83 : (((c.toNat : Int) == 83) : Bool) = decide (c = 83) := c8e c 83 (by decide)
  have f90 : (((c.toNat : Int) == 90) : Bool) = decide (c = 90) := c8e c 90 (by decide)
  by_cases hp : c ∈ prims
  · rw [if_pos hp]
    by_cases hd : 0 < lead l
    · have q4 : (0 : Int) < (lead l : Int) := by omega
      obtain ⟨g1, g2, g3, g4, a1, a2, a3, a4, a5, a6, a7, a8⟩ := fin3 w4 c1' c4 hne (lead l)
      have eT : mkT c [] (lead l) = ⟨91, [], lead l, c⟩ := if_pos hd
      refine ⟨g4, ?_, end2 (a7.mono fun y _ e => by rcases e with rfl | rfl <;> omega), a8⟩
      rw [eT]
      by_cases e66 : c = 66
      · rw [decide_eq_true e66] at f66
        simp only [↓s56, ↓m1, ↓lp0, ↓blk_x, q, q2, ↓gs, ↓gi, ↓lenS_S, ↓x1, ↓bldk, i1, ↓m3, ↓s4, ↓cP_p, f66, q4, ↓a1, ↓a2, ↓a3, ↓a4, ↓a5, ↓a6, ↓cK_ty, ↓SD, SA, Int.ofNat_eq_natCast, Int.cast_ofNat_Int, Int.reduceBEq, Int.reduceAdd, Int.reduceNeg, Int.reduceNegSucc, Int.reduceLT, Int.reduceLE, Int.reduceMul, Int.reduceTMod, Int.reduceSub, Int.reduceBNe, Bool.not_true, Bool.not_false, decide_true, decide_false, ne_eq, not_false_eq_true, Int.reduceEq, reduceCtorEq]; rfl
      rw [decide_eq_false e66] at f66
      by_cases e67 : c = 67
      · rw [decide_eq_true e67] at f67
        simp only [↓s56, ↓m1, ↓lp0, ↓blk_x, q, q2, ↓gs, ↓gi, ↓lenS_S, ↓x1, ↓bldk, i1, ↓m3, ↓s4, ↓cP_p, f66, f67, q4, ↓a1, ↓a2, ↓a3, ↓a4, ↓a5, ↓a6, ↓cK_ty, ↓SD, SA, Int.ofNat_eq_natCast, Int.cast_ofNat_Int, Int.reduceBEq, Int.reduceAdd, Int.reduceNeg, Int.reduceNegSucc, Int.reduceLT, Int.reduceLE, Int.reduceMul, Int.reduceTMod, Int.reduceSub, Int.reduceBNe, Bool.not_true, Bool.not_false, decide_true, decide_false, ne_eq, not_false_eq_true, Int.reduceEq, reduceCtorEq]; rfl
      rw [decide_eq_false e67] at f67
      by_cases e73 : c = 73
      · rw [decide_eq_true e73] at f73
        simp only [↓s56, ↓m1, ↓lp0, ↓blk_x, q, q2, ↓gs, ↓gi, ↓lenS_S, ↓x1, ↓bldk, i1, ↓m3, ↓s4, ↓cP_p, f66, f67, f73, q4, ↓a1, ↓a2, ↓a3, ↓a4, ↓a5, ↓a6, ↓cK_ty, ↓SD, SA, Int.ofNat_eq_natCast, Int.cast_ofNat_Int, Int.reduceBEq, Int.reduceAdd, Int.reduceNeg, Int.reduceNegSucc, Int.reduceLT, Int.reduceLE, Int.reduceMul, Int.reduceTMod, Int.reduceSub, Int.reduceBNe, Bool.not_true, Bool.not_false, decide_true, decide_false, ne_eq, not_false_eq_true, Int.reduceEq, reduceCtorEq]; rfl
      rw [decide_eq_false e73] at f73
      by_cases e74 : c = 74
      · rw [decide_eq_true e74] at f74
        simp only [↓s56, ↓m1, ↓lp0, ↓blk_x, q, q2, ↓gs, ↓gi, ↓lenS_S, ↓x1, ↓bldk, i1, ↓m3, ↓s4, ↓cP_p, f66, f67, f73, f74, q4, ↓a1, ↓a2, ↓a3, ↓a4, ↓a5, ↓a6, ↓cK_ty, ↓SD, SA, Int.ofNat_eq_natCast, Int.cast_ofNat_Int, Int.reduceBEq, Int.reduceAdd, Int.reduceNeg, Int.reduceNegSucc, Int.reduceLT, Int.reduceLE, Int.reduceMul, Int.reduceTMod, Int.reduceSub, Int.reduceBNe, Bool.not_true, Bool.not_false, decide_true, decide_false, ne_eq, not_false_eq_true, Int.reduceEq, reduceCtorEq]; rfl
      rw [decide_eq_false e74] at f74
      by_cases e83 : c = 83
      · rw [decide_eq_true e83] at f83
        simp only [↓s56, ↓m1, ↓lp0, ↓blk_x, q, q2, ↓gs, ↓gi, ↓lenS_S, ↓x1, ↓bldk, i1, ↓m3, ↓s4, ↓cP_p, f66, f67, f73, f74, f83, q4, ↓a1, ↓a2, ↓a3, ↓a4, ↓a5, ↓a6, ↓cK_ty, ↓SD, SA, Int.ofNat_eq_natCast, Int.cast_ofNat_Int, Int.reduceBEq, Int.reduceAdd, Int.reduceNeg, Int.reduceNegSucc, Int.reduceLT, Int.reduceLE, Int.reduceMul, Int.reduceTMod, Int.reduceSub, Int.reduceBNe, Bool.not_true, Bool.not_false, decide_true, decide_false, ne_eq, not_false_eq_true, Int.reduceEq, reduceCtorEq]; rfl
      rw [decide_eq_false e83] at f83
      have e90 : c = 90 := by simp only [prims, List.mem_cons, List.not_mem_nil, or_false, e66, e67, e73, e74, e83, false_or] at hp; exact hp
      rw [decide_eq_true e90] at f90
      simp only [↓s56, ↓m1, ↓lp0, ↓blk_x, q, q2, ↓gs, ↓gi, ↓lenS_S, ↓x1, ↓bldk, i1, ↓m3, ↓s4, ↓cP_p, f66, f67, f73, f74, f83, f90, q4, ↓a1, ↓a2, ↓a3, ↓a4, ↓a5, ↓a6, ↓cK_ty, ↓SD, SA, Int.ofNat_eq_natCast, Int.cast_ofNat_Int, Int.reduceBEq, Int.reduceAdd, Int.reduceNeg, Int.reduceNegSucc, Int.reduceLT, Int.reduceLE, Int.reduceMul, Int.reduceTMod, Int.reduceSub, Int.reduceBNe, Bool.not_true, Bool.not_false, decide_true, decide_false, ne_eq, not_false_eq_true, Int.reduceEq, reduceCtorEq]; rfl
    · have q4 : ¬ (0 : Int) < (lead l : Int) := by omega
      have eT : mkT c [] (lead l) = ⟨c, [], 0, 0⟩ := if_neg hd
      obtain ⟨g4, a5, a6, a7, a8⟩ := fin1 w4 c1' ⟨c, [], 0, 0⟩
      have a4 := fun k => c4.ld k
      refine ⟨g4, ?_, end2 (a7.mono fun y _ e => by have : y = h.nb := e; omega), a8⟩
      rw [eT]
      by_cases e66 : c = 66
      · rw [decide_eq_true e66] at f66
        simp only [↓s56, ↓m1, ↓lp0, ↓blk_x, q, q2, ↓gs, ↓gi, ↓lenS_S, ↓x1, ↓bldk, i1, ↓m3, ↓s4, ↓cP_p, f66, q4, ↓a4, ↓a5, ↓a6, ↓cK_ty, ↓SD, SA, Int.ofNat_eq_natCast, Int.cast_ofNat_Int, Int.reduceBEq, Int.reduceAdd, Int.reduceNeg, Int.reduceNegSucc, Int.reduceLT, Int.reduceLE, Int.reduceMul, Int.reduceTMod, Int.reduceSub, Int.reduceBNe, Bool.not_true, Bool.not_false, decide_true, decide_false, ne_eq, not_false_eq_true, Int.reduceEq, reduceCtorEq]; rfl
      rw [decide_eq_false e66] at f66
      by_cases e67 : c = 67
      · rw [decide_eq_true e67] at f67
        simp only [↓s56, ↓m1, ↓lp0, ↓blk_x, q, q2, ↓gs, ↓gi, ↓lenS_S, ↓x1, ↓bldk, i1, ↓m3, ↓s4, ↓cP_p, f66, f67, q4, ↓a4, ↓a5, ↓a6, ↓cK_ty, ↓SD, SA, Int.ofNat_eq_natCast, Int.cast_ofNat_Int, Int.reduceBEq, Int.reduceAdd, Int.reduceNeg, Int.reduceNegSucc, Int.reduceLT, Int.reduceLE, Int.reduceMul, Int.reduceTMod, Int.reduceSub, Int.reduceBNe, Bool.not_true, Bool.not_false, decide_true, decide_false, ne_eq, not_false_eq_true, Int.reduceEq, reduceCtorEq]; rfl
      rw [decide_eq_false e67] at f67
      by_cases e73 : c = 73
      · rw [decide_eq_true e73] at f73
        simp only [↓s56, ↓m1, ↓lp0, ↓blk_x, q, q2, ↓gs, ↓gi, ↓lenS_S, ↓x1, ↓bldk, i1, ↓m3, ↓s4, ↓cP_p, f66, f67, f73, q4, ↓a4, ↓a5, ↓a6, ↓cK_ty, ↓SD, SA, Int.ofNat_eq_natCast, Int.cast_ofNat_Int, Int.reduceBEq, Int.reduceAdd, Int.reduceNeg, Int.reduceNegSucc, Int.reduceLT, Int.reduceLE, Int.reduceMul, Int.reduceTMod, Int.reduceSub, Int.reduceBNe, Bool.not_true, Bool.not_false, decide_true, decide_false, ne_eq, not_false_eq_true, Int.reduceEq, reduceCtorEq]; rfl
      rw [decide_eq_false e73] at f73
      by_cases e74 : c = 74
      · rw [decide_eq_true e74] at f74
        simp only [↓s56, ↓m1, ↓lp0, ↓blk_x, q, q2, ↓gs, ↓gi, ↓lenS_S, ↓x1, ↓bldk, i1, ↓m3, ↓s4, ↓cP_p, f66, f67, f73, f74, q4, ↓a4, ↓a5, ↓a6, ↓cK_ty, ↓SD, SA, Int.ofNat_eq_natCast, Int.cast_ofNat_Int, Int.reduceBEq, Int.reduceAdd, Int.reduceNeg, Int.reduceNegSucc, Int.reduceLT, Int.reduceLE, Int.reduceMul, Int.reduceTMod, Int.reduceSub, Int.reduceBNe, Bool.not_true, Bool.not_false, decide_true, decide_false, ne_eq, not_false_eq_true, Int.reduceEq, reduceCtorEq]; rfl
      rw [decide_eq_false e74] at f74
      by_cases e83 : c = 83
      · rw [decide_eq_true e83] at f83
        simp only [↓s56, ↓m1, ↓lp0, ↓blk_x, q, q2, ↓gs, ↓gi, ↓lenS_S, ↓x1, ↓bldk, i1, ↓m3, ↓s4, ↓cP_p, f66, f67, f73, f74, f83, q4, ↓a4, ↓a5, ↓a6, ↓cK_ty, ↓SD, SA, Int.ofNat_eq_natCast, Int.cast_ofNat_Int, Int.reduceBEq, Int.reduceAdd, Int.reduceNeg, Int.reduceNegSucc, Int.reduceLT, Int.reduceLE, Int.reduceMul, Int.reduceTMod, Int.reduceSub, Int.reduceBNe, Bool.not_true, Bool.not_false, decide_true, decide_false, ne_eq, not_false_eq_true, Int.reduceEq, reduceCtorEq]; rfl
      rw [decide_eq_false e83] at f83
      have e90 : c = 90 := by simp only [prims, List.mem_cons, List.not_mem_nil, or_false, e66, e67, e73, e74, e83, false_or] at hp; exact hp
      rw [decide_eq_true e90] at f90
      simp only [↓s56, ↓m1, ↓lp0, ↓blk_x, q, q2, ↓gs, ↓gi, ↓lenS_S, ↓x1, ↓bldk, i1, ↓m3, ↓s4, ↓cP_p, f66, f67, f73, f74, f83, f90, q4, ↓a4, ↓a5, ↓a6, ↓cK_ty, ↓SD, SA, Int.ofNat_eq_natCast, Int.cast_ofNat_Int, Int.reduceBEq, Int.reduceAdd, Int.reduceNeg, Int.reduceNegSucc, Int.reduceLT, Int.reduceLE, Int.reduceMul, Int.reduceTMod, Int.reduceSub, Int.reduceBNe, Bool.not_true, Bool.not_false, decide_true, decide_false, ne_eq, not_false_eq_true, Int.reduceEq, reduceCtorEq]; rfl
  rw [if_neg hp]
  rw [decide_eq_false (fun e => hp (by rw [e]; decide))] at f66
  rw [decide_eq_false (fun e => hp (by rw [e]; decide))] at f67
  rw [decide_eq_false (fun e => hp (by rw [e]; decide))] at f73
  rw [decide_eq_false (fun e => hp (by rw [e]; decide))] at f74
  rw [decide_eq_false (fun e => hp (by rw [e]; decide))] at f83
  rw [decide_eq_false (fun e => hp (by rw [e]; decide))] at f90
  have c76 : (((c.toNat : Int) == 76) : Bool) = decide (c = 76) := c8e c 76 (by decide)
  by_cases h76 : c = 76
  · rw [if_pos h76]
    rw [decide_eq_true h76] at c76
    have hdl : (l.drop (lead l + 1)).length = l.length - (lead l + 1) := by simp
    have hsk := skip_le (l.drop (lead l + 1))
    have lp1 := loop56 hl (.ptr h.nb 0) (.int 63 (lead l : Int)) (.int 8 (c.toNat : Int)) (.ptr h1.nb 0) h4 l.length most (lead l + 1) (by omega) (by unfold most; omega) (by omega)
    cases hu : upto (l.drop (lead l + 1)) with
    | none =>
      obtain ⟨h5, p1, p2, o5, w5⟩ := zero w4 c1'
      have hs := skip_none _ ((upto_none _).1 hu)
      rw [hs, hdl] at lp1
      have q5 : ¬ ((lead l + 1 + (l.length - (lead l + 1)) : Nat) : Int) < (l.length : Int) := by omega
      refine ⟨h5, ?_, end2 (o5.mono fun y _ e => by have : y = h.nb := e; omega), w5⟩
      simp only [↓s56, ↓m1, ↓lp0, ↓blk_x, q, q2, ↓gs, ↓gi, ↓lenS_S, ↓x1, ↓bldk, i1, ↓m3, ↓s4, ↓cP_p, f66, f67, f73, f74, f83, f90, c76, ↓lp1, q5, ↓bldz, ↓p1, ↓p2, ↓cK_ty, ↓SD, SA, Int.ofNat_eq_natCast, Int.cast_ofNat_Int, Int.reduceBEq, Int.reduceAdd, Int.reduceNeg, Int.reduceNegSucc, Int.reduceLT, Int.reduceLE, Int.reduceMul, Int.reduceTMod, Int.reduceSub, Int.reduceBNe, Bool.not_true, Bool.not_false, decide_true, decide_false, ne_eq, not_false_eq_true, Int.reduceEq, reduceCtorEq]; rfl
    | some nm =>
      obtain ⟨b, eb, hn⟩ := upto_some _ nm hu
      rw [eb, skip_ap nm b hn] at lp1
      have hnl : nm.length + 1 + b.length = l.length - (lead l + 1) := by
        have := congrArg List.length eb
        simp at this; omega
      have q5 : ((lead l + 1 + nm.length : Nat) : Int) < (l.length : Int) := by omega
      have x3 := fun k => cut_S l 63 63 (lead l + 1) (lead l + 1 + nm.length) (by omega) (by omega) k
      rw [eb, show lead l + 1 + nm.length - (lead l + 1) = nm.length by omega, List.take_left] at x3
      obtain ⟨h5, e17, o5, w5⟩ := t18 (l := nm) (by omega) w4
      have c15 : Cel h5 h.nb ty0 := c1'.to o5 (fun f => f)
      have c45 : Cel h5 h1.nb ⟨c, [], 0, 0⟩ := c4.to o5 (fun f => f)
      show ∃ h', s56 [S l] h = .ret (frV (if cls nm = true then some (mkT 76 nm (lead l), lead l + 1 + (nm.length + 1)) else none)) h' ∧ To No h h' ∧ Wf h'
      cases hcl : cls nm with
      | false =>
        rw [hcl] at e17
        obtain ⟨h6, p1, p2, o6, w6⟩ := zero w5 c15
        rw [if_neg (by decide)]
        refine ⟨h6, ?_, end2 ((o5.mono fun _ _ f => f.elim).trans (o6.mono fun y _ e => by have : y = h.nb := e; omega)), w6⟩
        simp only [↓s56, ↓m1, ↓lp0, ↓blk_x, q, q2, ↓gs, ↓gi, ↓lenS_S, ↓x1, ↓bldk, i1, ↓m3, ↓s4, ↓cP_p, f66, f67, f73, f74, f83, f90, c76, ↓lp1, q5, ↓x3, ↓e17, ↓bldz, ↓p1, ↓p2, ↓cK_ty, ↓SD, SA, Int.ofNat_eq_natCast, Int.cast_ofNat_Int, Int.reduceBEq, Int.reduceAdd, Int.reduceNeg, Int.reduceNegSucc, Int.reduceLT, Int.reduceLE, Int.reduceMul, Int.reduceTMod, Int.reduceSub, Int.reduceBNe, Bool.not_true, Bool.not_false, decide_true, decide_false, ne_eq, not_false_eq_true, Int.reduceEq, reduceCtorEq]; rfl
      | true =>
        rw [hcl] at e17
        obtain ⟨h6, s6, c6, o6, w6, n6⟩ := c45.s1 w5 nm
        have c6 : Cel h6 h1.nb ⟨c, nm, 0, 0⟩ := c6
        have c16 : Cel h6 h.nb ty0 := c15.to o6 (fun f => hne f)
        have i3 : wrapC 63 (((lead l + 1 + nm.length : Nat) : Int) + 1) = ((lead l + 1 + (nm.length + 1) : Nat) : Int) := by rw [w63_in _ (by omega) (by omega)]; omega
        have o46 : To (fun y => h.nb ≤ y) h4 h6 := (o5.mono fun _ _ f => f.elim).trans (o6.mono fun y _ e => by have : y = h1.nb := e; omega)
        by_cases hd : 0 < lead l
        · have q4 : (0 : Int) < (lead l : Int) := by omega
          obtain ⟨g1, g2, g3, g4, a1, a2, a3, a4, a5, a6, a7, a8⟩ := fin3 w6 c16 c6 hne (lead l)
          have eT : mkT 76 nm (lead l) = ⟨91, nm, lead l, c⟩ := by rw [h76]; exact if_pos hd
          refine ⟨g4, ?_, end2 (o46.trans (a7.mono fun y _ e => by rcases e with rfl | rfl <;> omega)), a8⟩
          rw [if_pos rfl, eT]
          simp only [↓s56, ↓m1, ↓lp0, ↓blk_x, q, q2, ↓gs, ↓gi, ↓lenS_S, ↓x1, ↓bldk, i1, ↓m3, ↓s4, ↓cP_p, f66, f67, f73, f74, f83, f90, c76, ↓lp1, q5, ↓x3, ↓e17, ↓s6, i3, q4, ↓a1, ↓a2, ↓a3, ↓a4, ↓a5, ↓a6, ↓cK_ty, ↓SD, SA, Int.ofNat_eq_natCast, Int.cast_ofNat_Int, Int.reduceBEq, Int.reduceAdd, Int.reduceNeg, Int.reduceNegSucc, Int.reduceLT, Int.reduceLE, Int.reduceMul, Int.reduceTMod, Int.reduceSub, Int.reduceBNe, Bool.not_true, Bool.not_false, decide_true, decide_false, ne_eq, not_false_eq_true, Int.reduceEq, reduceCtorEq]; rfl
        · have q4 : ¬ (0 : Int) < (lead l : Int) := by omega
          have eT : mkT 76 nm (lead l) = ⟨c, nm, 0, 0⟩ := by rw [h76]; exact if_neg hd
          obtain ⟨g4, a5, a6, a7, a8⟩ := fin1 w6 c16 ⟨c, nm, 0, 0⟩
          have a4 := fun k => c6.ld k
          refine ⟨g4, ?_, end2 (o46.trans (a7.mono fun y _ e => by have : y = h.nb := e; omega)), a8⟩
          rw [if_pos rfl, eT]
          simp only [↓s56, ↓m1, ↓lp0, ↓blk_x, q, q2, ↓gs, ↓gi, ↓lenS_S, ↓x1, ↓bldk, i1, ↓m3, ↓s4, ↓cP_p, f66, f67, f73, f74, f83, f90, c76, ↓lp1, q5, ↓x3, ↓e17, ↓s6, i3, q4, ↓a4, ↓a5, ↓a6, ↓cK_ty, ↓SD, SA, Int.ofNat_eq_natCast, Int.cast_ofNat_Int, Int.reduceBEq, Int.reduceAdd, Int.reduceNeg, Int.reduceNegSucc, Int.reduceLT, Int.reduceLE, Int.reduceMul, Int.reduceTMod, Int.reduceSub, Int.reduceBNe, Bool.not_true, Bool.not_false, decide_true, decide_false, ne_eq, not_false_eq_true, Int.reduceEq, reduceCtorEq]; rfl
  · rw [if_neg h76]
    rw [decide_eq_false h76] at c76
    obtain ⟨h5, p1, p2, o5, w5⟩ := zero w4 c1'
    refine ⟨h5, ?_, end2 (o5.mono fun y _ e => by have : y = h.nb := e; omega), w5⟩
    simp only [↓s56, ↓m1, ↓lp0, ↓blk_x, q, q2, ↓gs, ↓gi, ↓lenS_S, ↓x1, ↓bldk, i1, ↓m3, ↓s4, ↓cP_p, f66, f67, f73, f74, f83, f90, c76, ↓bldz, ↓p1, ↓p2, ↓cK_ty, ↓SD, SA, Int.ofNat_eq_natCast, Int.cast_ofNat_Int, Int.reduceBEq, Int.reduceAdd, Int.reduceNeg, Int.reduceNegSucc, Int.reduceLT, Int.reduceLE, Int.reduceMul, Int.reduceTMod, Int.reduceSub, Int.reduceBNe, Bool.not_true, Bool.not_false, decide_true, decide_false, ne_eq, not_false_eq_true, Int.reduceEq, reduceCtorEq]; rfl
end Go.Proofs.YtnpfppddongbhaaDoor
end

section
namespace Go.Proofs.YtnpfppddongbhaaDoor
open Go Go.AM
set_option autoImplicit false
noncomputable def fld (l : List UInt8) : Option Ty :=
  match fr l with
  | none => none
  | some (t, n) => if n = l.length then some t else none
noncomputable def fldV (o : Option Ty) : AV := .tup (.cons (tyV (o.getD ty0)) (.cons (.bool o.isSome) .nil))
theorem fr_pos {l : List UInt8} {t : Ty} {n : Nat} (h : fr l = some (t, n)) : 0 < n ∧ n ≤ l.length := by
  unfold fr at h
  cases hc : l[lead l]? with
  | none => rw [hc] at h; cases h
  | some c =>
    have hlt : lead l < l.length := (List.getElem?_eq_some_iff.1 hc).1
    rw [hc] at h
    simp only at h
    split at h
    · cases h
    split at h
    · cases h; omega
    split at h
    · cases hu : upto (l.drop (lead l + 1)) with
      | none => rw [hu] at h; cases h
      | some nm =>
        rw [hu] at h
        simp only at h
        obtain ⟨b, eb, -⟩ := upto_some _ nm hu
        have := congrArg List.length eb
        simp at this
        split at h
        · cases h; omega
        · cases h
    · cases h
theorem t26 {l : List UInt8} (hl : l.length ≤ 100000) {h : Hp} (hw : Wf h) : ∃ h', s26 [S l] h = .ret (fldV (fld l)) h' ∧ To No h h' ∧ Wf h' := by
  obtain ⟨h1, m1, c1, o1, w1, n1⟩ := ty0_mk hw
  obtain ⟨h2, e2, o2, w2⟩ := t55 hl w1
  obtain ⟨h3, m3, c3, o3, w3, n3⟩ := ty0_mk w2
  have nb2 := o2.nb
  have gs : ∀ a : List UInt8, gsel (.bool false) false (S a) = S a := fun a => rfl
  have gi : ∀ x : Int, gsel (.bool false) false (.int 63 x) = .int 63 x := fun x => rfl
  have c13 : Cel h3 h.nb ty0 := (c1.to o2 (fun f => f)).to o3 (fun f => f)
  have oo : To (fun y => h.nb ≤ y) h h3 := ((o1.mono fun _ _ f => f.elim).trans (o2.mono fun _ _ f => f.elim)).trans (o3.mono fun _ _ f => f.elim)
  have end2 : ∀ {g : Hp}, To (fun y => h.nb ≤ y) h3 g → To No h g := fun {g} t => (oo.trans t).mono fun y hy hn => by omega
  have hne : ¬ h.nb = h2.nb := by omega
  unfold fld
  cases hf : fr l with
  | none =>
    have ef : frV (fr l) = .tup (.cons (tyV ty0) (.cons (.int 63 0) .nil)) := by rw [hf]; rfl
    rw [ef] at e2
    obtain ⟨h4, s4, c4, o4, w4, n4⟩ := c3.st w3 ty0
    have s4 : ∀ k : Hp → Res, stN h3 4 (.ptr h2.nb 0) (tyV ty0) k = k h4 := s4
    obtain ⟨h5, p1, p2, o5, w5⟩ := fin1 w4 (c13.to o4 hne) ty0
    have p1 : ∀ k : Hp → Res, stN h4 4 (.ptr h.nb 0) (.agg (avL (tyL ty0))) k = k h5 := p1
    refine ⟨h5, ?_, end2 ((o4.mono fun y _ e => by have : y = h2.nb := e; omega).trans (o5.mono fun y _ e => by have : y = h.nb := e; omega)), w5⟩
    simp only [↓s26, ↓m1, ↓e2, nth_z, nth_1, ↓cK_ty, ↓m3, ↓s4, ↓bldz, ↓p1, ↓p2, ↓SD, SA, Int.ofNat_eq_natCast, Int.cast_ofNat_Int, Int.reduceBEq, Int.reduceAdd, Int.reduceNeg, Int.reduceNegSucc, Int.reduceLT, Int.reduceLE, Int.reduceMul, Int.reduceTMod, Int.reduceSub, Int.reduceBNe, Bool.not_true, Bool.not_false, decide_true, decide_false, ne_eq, not_false_eq_true, Int.reduceEq, reduceCtorEq]; rfl
  | some q =>
    obtain ⟨t, n⟩ := q
    obtain ⟨hn, hn2⟩ := fr_pos hf
    have ef : frV (fr l) = .tup (.cons (tyV t) (.cons (.int 63 (n : Int)) .nil)) := by rw [hf]; rfl
    rw [ef] at e2
    have q0 : (((n : Nat) : Int) == 0) = false := beq_eq_false_iff_ne.2 (by omega)
    obtain ⟨h4, s4, c4, o4, w4, n4⟩ := c3.st w3 t
    have s4 : ∀ k : Hp → Res, stN h3 4 (.ptr h2.nb 0) (tyV t) k = k h4 := s4
    show ∃ h', s26 [S l] h = .ret (fldV (if n = l.length then some t else none)) h' ∧ To No h h' ∧ Wf h'
    by_cases hnl : n = l.length
    · rw [if_pos hnl]
      have q1 : (((n : Nat) : Int) == (l.length : Int)) = true := by rw [hnl]; exact beq_self_eq_true _
      have l4 := fun k => c4.ld k
      obtain ⟨h5, p1, p2, o5, w5⟩ := fin1 w4 (c13.to o4 hne) t
      refine ⟨h5, ?_, end2 ((o4.mono fun y _ e => by have : y = h2.nb := e; omega).trans (o5.mono fun y _ e => by have : y = h.nb := e; omega)), w5⟩
      simp only [↓s26, ↓m1, ↓e2, nth_z, nth_1, ↓cK_ty, ↓m3, ↓s4, q0, ↓gs, ↓gi, ↓lenS_S, q1, Bool.not_true, ↓l4, ↓p1, ↓p2, ↓SD, SA, Int.ofNat_eq_natCast, Int.cast_ofNat_Int, Int.reduceBEq, Int.reduceAdd, Int.reduceNeg, Int.reduceNegSucc, Int.reduceLT, Int.reduceLE, Int.reduceMul, Int.reduceTMod, Int.reduceSub, Int.reduceBNe, Bool.not_true, Bool.not_false, decide_true, decide_false, ne_eq, not_false_eq_true, Int.reduceEq, reduceCtorEq]; rfl
    · rw [if_neg hnl]
      have q1 : (((n : Nat) : Int) == (l.length : Int)) = false := beq_eq_false_iff_ne.2 (by omega)
      obtain ⟨h5, p1, p2, o5, w5⟩ := fin1 w4 (c13.to o4 hne) ty0
      have p1 : ∀ k : Hp → Res, stN h4 4 (.ptr h.nb 0) (.agg (avL (tyL ty0))) k = k h5 := p1
      refine ⟨h5, ?_, end2 ((o4.mono fun y _ e => by have : y = h2.nb := e; omega).trans (o5.mono fun y _ e => by have : y = h.nb := e; omega)), w5⟩
      simp only [↓s26, ↓m1, ↓e2, nth_z, nth_1, ↓cK_ty, ↓m3, ↓s4, q0, ↓gs, ↓gi, ↓lenS_S, q1, Bool.not_false, ↓bldz, ↓p1, ↓p2, ↓SD, SA, Int.ofNat_eq_natCast, Int.cast_ofNat_Int, Int.reduceBEq, Int.reduceAdd, Int.reduceNeg, Int.reduceNegSucc, Int.reduceLT, Int.reduceLE, Int.reduceMul, Int.reduceTMod, Int.reduceSub, Int.reduceBNe, Bool.not_true, Bool.not_false, decide_true, decide_false, ne_eq, not_false_eq_true, Int.reduceEq, reduceCtorEq]; rfl
theorem t27 {l : List UInt8} (hl : l.length ≤ 100000) {h : Hp} (hw : Wf h) : ∃ h', s27 [S l] h = .ret (fldV (fld l)) h' ∧ To No h h' ∧ Wf h' := by
  obtain ⟨h1, m1, c1, o1, w1, n1⟩ := ty0_mk hw
  obtain ⟨h2, e2, o2, w2⟩ := t56 hl w1
  obtain ⟨h3, m3, c3, o3, w3, n3⟩ := ty0_mk w2
  have nb2 := o2.nb
  have gs : ∀ a : List UInt8, gsel (.bool false) false (S a) = S a := fun a => rfl
  have gi : ∀ x : Int, gsel (.bool false) false (.int 63 x) = .int 63 x := fun x => rfl
  have c13 : Cel h3 h.nb ty0 := (c1.to o2 (fun f => f)).to o3 (fun f => f)
  have oo : To (fun y => h.nb ≤ y) h h3 := ((o1.mono fun _ _ f => f.elim).trans (o2.mono fun _ _ f => f.elim)).trans (o3.mono fun _ _ f => f.elim)
  have end2 : ∀ {g : Hp}, To (fun y => h.nb ≤ y) h3 g → To No h g := fun {g} t => (oo.trans t).mono fun y hy hn => by omega
  have hne : ¬ h.nb = h2.nb := by omega
  unfold fld
  cases hf : fr l with
  | none =>
    have ef : frV (fr l) = .tup (.cons (tyV ty0) (.cons (.int 63 0) .nil)) := by rw [hf]; rfl
    rw [ef] at e2
    obtain ⟨h4, s4, c4, o4, w4, n4⟩ := c3.st w3 ty0
    have s4 : ∀ k : Hp → Res, stN h3 4 (.ptr h2.nb 0) (tyV ty0) k = k h4 := s4
    obtain ⟨h5, p1, p2, o5, w5⟩ := fin1 w4 (c13.to o4 hne) ty0
    have p1 : ∀ k : Hp → Res, stN h4 4 (.ptr h.nb 0) (.agg (avL (tyL ty0))) k = k h5 := p1
    refine ⟨h5, ?_, end2 ((o4.mono fun y _ e => by have : y = h2.nb := e; omega).trans (o5.mono fun y _ e => by have : y = h.nb := e; omega)), w5⟩
    simp only [↓s27, ↓m1, ↓e2, nth_z, nth_1, ↓cK_ty, ↓m3, ↓s4, ↓bldz, ↓p1, ↓p2, ↓SD, SA, Int.ofNat_eq_natCast, Int.cast_ofNat_Int, Int.reduceBEq, Int.reduceAdd, Int.reduceNeg, Int.reduceNegSucc, Int.reduceLT, Int.reduceLE, Int.reduceMul, Int.reduceTMod, Int.reduceSub, Int.reduceBNe, Bool.not_true, Bool.not_false, decide_true, decide_false, ne_eq, not_false_eq_true, Int.reduceEq, reduceCtorEq]; rfl
  | some q =>
    obtain ⟨t, n⟩ := q
    obtain ⟨hn, hn2⟩ := fr_pos hf
    have ef : frV (fr l) = .tup (.cons (tyV t) (.cons (.int 63 (n : Int)) .nil)) := by rw [hf]; rfl
    rw [ef] at e2
    have q0 : (((n : Nat) : Int) == 0) = false := beq_eq_false_iff_ne.2 (by omega)
    obtain ⟨h4, s4, c4, o4, w4, n4⟩ := c3.st w3 t
    have s4 : ∀ k : Hp → Res, stN h3 4 (.ptr h2.nb 0) (tyV t) k = k h4 := s4
    show ∃ h', s27 [S l] h = .ret (fldV (if n = l.length then some t else none)) h' ∧ To No h h' ∧ Wf h'
    by_cases hnl : n = l.length
    · rw [if_pos hnl]
      have q1 : (((n : Nat) : Int) == (l.length : Int)) = true := by rw [hnl]; exact beq_self_eq_true _
      have l4 := fun k => c4.ld k
      obtain ⟨h5, p1, p2, o5, w5⟩ := fin1 w4 (c13.to o4 hne) t
      refine ⟨h5, ?_, end2 ((o4.mono fun y _ e => by have : y = h2.nb := e; omega).trans (o5.mono fun y _ e => by have : y = h.nb := e; omega)), w5⟩
      simp only [↓s27, ↓m1, ↓e2, nth_z, nth_1, ↓cK_ty, ↓m3, ↓s4, q0, ↓gs, ↓gi, ↓lenS_S, q1, Bool.not_true, ↓l4, ↓p1, ↓p2, ↓SD, SA, Int.ofNat_eq_natCast, Int.cast_ofNat_Int, Int.reduceBEq, Int.reduceAdd, Int.reduceNeg, Int.reduceNegSucc, Int.reduceLT, Int.reduceLE, Int.reduceMul, Int.reduceTMod, Int.reduceSub, Int.reduceBNe, Bool.not_true, Bool.not_false, decide_true, decide_false, ne_eq, not_false_eq_true, Int.reduceEq, reduceCtorEq]; rfl
    · rw [if_neg hnl]
      have q1 : (((n : Nat) : Int) == (l.length : Int)) = false := beq_eq_false_iff_ne.2 (by omega)
      obtain ⟨h5, p1, p2, o5, w5⟩ := fin1 w4 (c13.to o4 hne) ty0
      have p1 : ∀ k : Hp → Res, stN h4 4 (.ptr h.nb 0) (.agg (avL (tyL ty0))) k = k h5 := p1
      refine ⟨h5, ?_, end2 ((o4.mono fun y _ e => by have : y = h2.nb := e; omega).trans (o5.mono fun y _ e => by have : y = h.nb := e; omega)), w5⟩
      simp only [↓s27, ↓m1, ↓e2, nth_z, nth_1, ↓cK_ty, ↓m3, ↓s4, q0, ↓gs, ↓gi, ↓lenS_S, q1, Bool.not_false, ↓bldz, ↓p1, ↓p2, ↓SD, SA, Int.ofNat_eq_natCast, Int.cast_ofNat_Int, Int.reduceBEq, Int.reduceAdd, Int.reduceNeg, Int.reduceNegSucc, Int.reduceLT, Int.reduceLE, Int.reduceMul, Int.reduceTMod, Int.reduceSub, Int.reduceBNe, Bool.not_true, Bool.not_false, decide_true, decide_false, ne_eq, not_false_eq_true, Int.reduceEq, reduceCtorEq]; rfl
def wd (c : UInt8) : Nat := if c = 74 then 2 else if c ∈ [66, 67, 73, 83, 90, 76, 91] then 1 else 0
theorem t29 (t : Ty) {h : Hp} (hw : Wf h) : ∃ h', s29 [tyV t] h = .ret (.int 63 (wd t.k : Int)) h' ∧ To No h h' ∧ Wf h' := by
  obtain ⟨h1, m1, c1, o1, w1, n1⟩ := ty_cells hw t
  have a0 := fun k => c1.l0 k
  refine ⟨h1, ?_, o1, w1⟩
  obtain ⟨c, nm, d, e⟩ := t
  have a0 : ∀ k : AV → Res, ld1 h1 (.ptr h.nb (Nat.add 0 0)) k = k (.int 8 (c.toNat : Int)) := a0
  show s29 [tyV ⟨c, nm, d, e⟩] h = .ret (.int 63 (wd c : Int)) h1
  have f66 : (((c.toNat : Int) == 66) : Bool) = decide (c = 66) := c8e c 66 (by decide)
  have f67 : (((c.toNat : Int) == 67) : Bool) = decide (c = 67) := c8e c 67 (by decide)
  have f73 : (((c.toNat : Int) == 73) : Bool) = decide (c = 73) := c8e c 73 (by decide)
  have f83 : (((c.toNat : Int) == 83) : Bool) = decide (c = 83) := c8e c 83 (by decide)
  have f90 : (((c.toNat : Int) == 90) : Bool) = decide (c = 90) := c8e c 90 (by decide)
  have f76 : (((c.toNat : Int) == 76) : Bool) = decide (c = 76) := c8e c 76 (by decide)
  have f91 : (((c.toNat : Int) == 91) : Bool) = decide (c = 91) := c8e c 91 (by decide)
  have f74 : (((c.toNat : Int) == 74) : Bool) = decide (c = 74) := c8e c 74 (by decide)
  by_cases e66 : c = 66
  · rw [decide_eq_true e66] at f66
    have hwd : wd c = 1 := by rw [e66]; decide
    rw [hwd]
    simp only [↓s29, ↓m1, ↓cP_p, ↓a0, f66, ↓SD, SA, Int.ofNat_eq_natCast, Int.cast_ofNat_Int, Int.reduceBEq, Int.reduceAdd, Int.reduceNeg, Int.reduceNegSucc, Int.reduceLT, Int.reduceLE, Int.reduceMul, Int.reduceTMod, Int.reduceSub, Int.reduceBNe, Bool.not_true, Bool.not_false, decide_true, decide_false, ne_eq, not_false_eq_true, Int.reduceEq, reduceCtorEq]
  rw [decide_eq_false e66] at f66
  by_cases e67 : c = 67
  · rw [decide_eq_true e67] at f67
    have hwd : wd c = 1 := by rw [e67]; decide
    rw [hwd]
    simp only [↓s29, ↓m1, ↓cP_p, ↓a0, f66, f67, ↓SD, SA, Int.ofNat_eq_natCast, Int.cast_ofNat_Int, Int.reduceBEq, Int.reduceAdd, Int.reduceNeg, Int.reduceNegSucc, Int.reduceLT, Int.reduceLE, Int.reduceMul, Int.reduceTMod, Int.reduceSub, Int.reduceBNe, Bool.not_true, Bool.not_false, decide_true, decide_false, ne_eq, not_false_eq_true, Int.reduceEq, reduceCtorEq]
  rw [decide_eq_false e67] at f67
  by_cases e73 : c = 73
  · rw [decide_eq_true e73] at f73
    have hwd : wd c = 1 := by rw [e73]; decide
    rw [hwd]
    simp only [↓s29, ↓m1, ↓cP_p, ↓a0, f66, f67, f73, ↓SD, SA, Int.ofNat_eq_natCast, Int.cast_ofNat_Int, Int.reduceBEq, Int.reduceAdd, Int.reduceNeg, Int.reduceNegSucc, Int.reduceLT, Int.reduceLE, Int.reduceMul, Int.reduceTMod, Int.reduceSub, Int.reduceBNe, Bool.not_true, Bool.not_false, decide_true, decide_false, ne_eq, not_false_eq_true, Int.reduceEq, reduceCtorEq]
  rw [decide_eq_false e73] at f73
  by_cases e83 : c = 83
  · rw [decide_eq_true e83] at f83
    have hwd : wd c = 1 := by rw [e83]; decide
    rw [hwd]
    simp only [↓s29, ↓m1, ↓cP_p, ↓a0, f66, f67, f73, f83, ↓SD, SA, Int.ofNat_eq_natCast, Int.cast_ofNat_Int, Int.reduceBEq, Int.reduceAdd, Int.reduceNeg, Int.reduceNegSucc, Int.reduceLT, Int.reduceLE, Int.reduceMul, Int.reduceTMod, Int.reduceSub, Int.reduceBNe, Bool.not_true, Bool.not_false, decide_true, decide_false, ne_eq, not_false_eq_true, Int.reduceEq, reduceCtorEq]
  rw [decide_eq_false e83] at f83
  by_cases e90 : c = 90
  · rw [decide_eq_true e90] at f90
    have hwd : wd c = 1 := by rw [e90]; decide
    rw [hwd]
    simp only [↓s29, ↓m1, ↓cP_p, ↓a0, f66, f67, f73, f83, f90, ↓SD, SA, Int.ofNat_eq_natCast, Int.cast_ofNat_Int, Int.reduceBEq, Int.reduceAdd, Int.reduceNeg, Int.reduceNegSucc, Int.reduceLT, Int.reduceLE, Int.reduceMul, Int.reduceTMod, Int.reduceSub, Int.reduceBNe, Bool.not_true, Bool.not_false, decide_true, decide_false, ne_eq, not_false_eq_true, Int.reduceEq, reduceCtorEq]
  rw [decide_eq_false e90] at f90
  by_cases e76 : c = 76
  · rw [decide_eq_true e76] at f76
    have hwd : wd c = 1 := by rw [e76]; decide
    rw [hwd]
    simp only [↓s29, ↓m1, ↓cP_p, ↓a0, f66, f67, f73, f83, f90, f76, ↓SD, SA, Int.ofNat_eq_natCast, Int.cast_ofNat_Int, Int.reduceBEq, Int.reduceAdd, Int.reduceNeg, Int.reduceNegSucc, Int.reduceLT, Int.reduceLE, Int.reduceMul, Int.reduceTMod, Int.reduceSub, Int.reduceBNe, Bool.not_true, Bool.not_false, decide_true, decide_false, ne_eq, not_false_eq_true, Int.reduceEq, reduceCtorEq]
  rw [decide_eq_false e76] at f76
  by_cases e91 : c = 91
  · rw [decide_eq_true e91] at f91
    have hwd : wd c = 1 := by rw [e91]; decide
    rw [hwd]
    simp only [↓s29, ↓m1, ↓cP_p, ↓a0, f66, f67, f73, f83, f90, f76, f91, ↓SD, SA, Int.ofNat_eq_natCast, Int.cast_ofNat_Int, Int.reduceBEq, Int.reduceAdd, Int.reduceNeg, Int.reduceNegSucc, Int.reduceLT, Int.reduceLE, Int.reduceMul, Int.reduceTMod, Int.reduceSub, Int.reduceBNe, Bool.not_true, Bool.not_false, decide_true, decide_false, ne_eq, not_false_eq_true, Int.reduceEq, reduceCtorEq]
  rw [decide_eq_false e91] at f91
  by_cases e74 : c = 74
  · rw [decide_eq_true e74] at f74
    have hwd : wd c = 2 := by rw [e74]; decide
    rw [hwd]
    simp only [↓s29, ↓m1, ↓cP_p, ↓a0, f66, f67, f73, f83, f90, f76, f91, f74, ↓SD, SA, Int.ofNat_eq_natCast, Int.cast_ofNat_Int, Int.reduceBEq, Int.reduceAdd, Int.reduceNeg, Int.reduceNegSucc, Int.reduceLT, Int.reduceLE, Int.reduceMul, Int.reduceTMod, Int.reduceSub, Int.reduceBNe, Bool.not_true, Bool.not_false, decide_true, decide_false, ne_eq, not_false_eq_true, Int.reduceEq, reduceCtorEq]
  rw [decide_eq_false e74] at f74
  have hwd : wd c = 0 := by unfold wd; rw [if_neg e74, if_neg (by simp only [List.mem_cons, List.not_mem_nil, or_false, e66, e67, e73, e83, e90, e76, e91, or_self, not_false_eq_true])]
  rw [hwd]
  simp only [↓s29, ↓m1, ↓cP_p, ↓a0, f66, f67, f73, f83, f90, f76, f91, f74, ↓SD, SA, Int.ofNat_eq_natCast, Int.cast_ofNat_Int, Int.reduceBEq, Int.reduceAdd, Int.reduceNeg, Int.reduceNegSucc, Int.reduceLT, Int.reduceLE, Int.reduceMul, Int.reduceTMod, Int.reduceSub, Int.reduceBNe, Bool.not_true, Bool.not_false, decide_true, decide_false, ne_eq, not_false_eq_true, Int.reduceEq, reduceCtorEq]
end Go.Proofs.YtnpfppddongbhaaDoor
end

section
namespace Go.Proofs.YtnpfppddongbhaaDoor
open Go Go.AM
set_option autoImplicit false
def primv : List UInt8 := [66, 67, 73, 74, 83, 90, 86]
theorem S_86 : AV.str 1 86 = S [86] := rfl
def Prim (c : UInt8) (nm : List UInt8) : Prop := c ∈ prims ∧ nm = []
def Ref (c : UInt8) (nm : List UInt8) : Prop := c = 76 ∧ cls nm = true ∧ nm.length ≤ 90000
def txt (c : UInt8) (nm : List UInt8) : List UInt8 := if c = 76 then 76 :: nm ++ [59] else [c]
theorem prims_ne {c : UInt8} (h : c ∈ prims) : c ≠ 76 ∧ c ≠ 0 ∧ c ≠ 86 ∧ c ≠ 91 ∧ c ∈ primv := by
  simp only [prims, List.mem_cons, List.not_mem_nil, or_false] at h
  rcases h with rfl | rfl | rfl | rfl | rfl | rfl <;> decide
end Go.Proofs.YtnpfppddongbhaaDoor
end

section
namespace Go.Proofs.YtnpfppddongbhaaDoor
open Go Go.AM
set_option autoImplicit false
noncomputable def flat (ts : List Ty) : List AV := ts.flatMap tyL
theorem flat_len (ts : List Ty) : (flat ts).length = ts.length * 4 := by
  induction ts with
  | nil => rfl
  | cons t ts ih =>
    have e : flat (t :: ts) = tyL t ++ flat ts := by simp [flat]
    rw [e, List.length_append, ih, List.length_cons]
    have : (tyL t).length = 4 := rfl
    omega
theorem flat_snoc (ts : List Ty) (t : Ty) : flat (ts ++ [t]) = flat ts ++ tyL t := by simp [flat]
theorem flat_get (ts : List Ty) (i j : Nat) (hi : i < ts.length) (hj : j < 4) : (flat ts)[i * 4 + j]'(by rw [flat_len]; omega) = (tyL ts[i])[j]'(by have : (tyL ts[i]).length = 4 := rfl; omega) := by
  induction ts generalizing i with
  | nil => simp at hi
  | cons t ts ih =>
    have e : flat (t :: ts) = tyL t ++ flat ts := by simp [flat]
    have h4 : (tyL t).length = 4 := rfl
    simp only [e]
    cases i with
    | zero => rw [List.getElem_append_left (by omega)]; simp
    | succ i =>
      rw [List.getElem_append_right (by omega)]
      have e2 : (i + 1) * 4 + j - (tyL t).length = i * 4 + j := by omega
      simp only [e2, List.getElem_cons_succ]
      exact ih i (by simpa using hi)
def GrT (h : Hp) (N : Nat) (v : AV) (ts : List Ty) : Prop :=
  (v = .nils ∧ ts = []) ∨ ∃ b B, v = .sl b 0 ts.length 4 none ∧ N ≤ b ∧ Rd h b B ∧ B.fr = true ∧ N ≤ B.g ∧ ts.length * 4 ≤ B.lim ∧ ∀ i (hi : i < (flat ts).length), B.at i = (flat ts)[i]
theorem GrT.to {h h' : Hp} {N : Nat} {v : AV} {ts : List Ty} {W : Nat → Prop} (hg : GrT h N v ts) (ht : To W h h') (hd : ∀ b, N ≤ b → b < h.nb → ¬ W b) : GrT h' N v ts := by
  rcases hg with e | ⟨b, B, e, h1, h2, h3, h4, h5, h6⟩
  · exact .inl e
  · exact .inr ⟨b, B, e, h1, h2.to ht (hd b h1 h2.lt) (fun _ => hd _ h4 (h2.grp h3).1), h3, h4, h5, h6⟩
theorem GrT.mono {h : Hp} {N M : Nat} {v : AV} {ts : List Ty} (hg : GrT h N v ts) (hd : M ≤ N) : GrT h M v ts := by
  rcases hg with e | ⟨b, B, e, h1, h2, h3, h4, h5, h6⟩
  · exact .inl e
  · exact .inr ⟨b, B, e, by omega, h2, h3, by omega, h5, h6⟩
theorem GrT.len {h : Hp} {N : Nat} {v : AV} {ts : List Ty} (hg : GrT h N v ts) (k : AV → Res) : lenL v k = k (.int 63 (ts.length : Int)) := by
  rcases hg with ⟨rfl, rfl⟩ | ⟨b, B, rfl, -⟩ <;> rfl
theorem GrT.cK {h : Hp} {N : Nat} {v : AV} {ts : List Ty} (hg : GrT h N v ts) (k : AV → Res) : cK v k = k v := by
  rcases hg with ⟨rfl, rfl⟩ | ⟨b, B, rfl, -⟩ <;> rfl
theorem GrT.ix {h : Hp} {N : Nat} {v : AV} {ts : List Ty} (hg : GrT h N v ts) (i : Nat) (hi : i < ts.length) (k : AV → Res) : (ixA 4 v (.int 63 (i : Int)) fun a => ldN h 4 a k) = k (tyV ts[i]) := by
  rcases hg with ⟨rfl, rfl⟩ | ⟨b, B, rfl, h1, h2, h3, h4, h5, h6⟩
  · simp at hi
  · have e : (ixA 4 (.sl b 0 ts.length 4 none) (.int 63 (i : Int)) fun a => ldN h 4 a k) = ifB (Nat.blt i ts.length) (ifB (Nat.beq 4 4) (ldN h 4 (.ptr b (Nat.add 0 (Nat.mul i 4))) k) .fail) .fail := rfl
    rw [e, (blt_iff _ _).2 hi]
    have e2 : Nat.add 0 (Nat.mul i 4) = i * 4 := by show 0 + i * 4 = i * 4; omega
    show ldN h 4 (.ptr b (Nat.add 0 (Nat.mul i 4))) k = _
    rw [e2]
    exact ldN_rd (l := tyL ts[i]) h2 (fun j hj => by
      have hj : j < 4 := hj
      rw [h6 (i * 4 + j) (by rw [flat_len]; omega), flat_get ts i j hi hj]) (fun v hv => one_unk (tyL_one _ v hv)) k
theorem bldT (t : Ty) (k : AV → Res) : bld [(true, 4, tyV t)] k = k (avL (tyL t)) := rfl
theorem apd_ty {h : Hp} {N : Nat} {v : AV} {ts : List Ty} (hN : N ≤ h.nb) (hw : Wf h) (hv : GrT h N v ts) (hn : ts.length ≤ 100000) (t : Ty) :
    ∃ v' h1 h', (∀ k : AV → Hp → Res, mkS h 4 1 (avL (tyL t)) k = k (.sl h.nb 0 1 4 (some 1)) h1) ∧ (∀ k : AV → Hp → Res, apd h1 4 40 v (.sl h.nb 0 1 4 (some 1)) k = k v' h') ∧ GrT h' N v' (ts ++ [t]) ∧ To (fun b => N ≤ b) h h' ∧ Wf h' := by
  obtain ⟨t0, l1, l2⟩ := lay_list (tyL t) .e 0 (tyL_one t)
  obtain ⟨o1, o2⟩ := nw_own hw (0 + 4) .nil t0
  have w1 : Wf (nw h (0 + 4) .nil t0) := o2.wf hw
  have m1 : ∀ k : AV → Hp → Res, mkS h 4 1 (avL (tyL t)) k = k (.sl h.nb 0 1 4 (some 1)) (nw h (0 + 4) .nil t0) := fun k => by
    have e : mkS h 4 1 (avL (tyL t)) k = lay (avL (tyL t)) .e 0 fun t m => ifB (Nat.beq m (Nat.mul 1 4)) (k (.sl h.nb 0 1 4 (some 1)) (nw h m .nil t)) .fail := rfl
    rw [e, l1]; rfl
  have hat0 : ∀ i (hi : i < (tyL t).length), (⟨true, h.nb, 0 + 4, .nil, t0⟩ : Blk).at (0 + i) = (tyL t)[i] := by
    intro i hi
    have hi4 : i < 4 := hi
    rw [at_in _ (show 0 + i < 0 + 4 by omega)]
    simp only [l2 (0 + i)]
    rw [dif_pos ⟨by omega, by omega⟩]
    simp
  have hv1 : GrT (nw h (0 + 4) .nil t0) N v ts := hv.to o2 (fun _ _ _ f => f)
  have nb1 : (nw h (0 + 4) .nil t0).nb = h.nb + 1 := rfl
  generalize hh1 : nw h (0 + 4) .nil t0 = h1 at *
  have src1 : ∀ k : Nat → AV → Res, src h1 4 (.sl h.nb 0 1 4 (some 1)) k = k 1 (avL (tyL t)) := fun k => by
    have e : src h1 4 (.sl h.nb 0 1 4 (some 1)) k = gb h1 h.nb fun B => rds B (tyL t).length 0 fun l => k 1 l := rfl
    rw [e, gb_rd o1.rd, rds_list (tyL t) 0 _ hat0 (fun v hv => one_unk (tyL_one _ v hv))]
  have t1 : To (fun b => N ≤ b) h h1 := o2.mono fun _ _ f => f.elim
  rcases hv1 with ⟨rfl, rfl⟩ | ⟨b, B, rfl, g1, g2, g3, g4, g5, g6⟩
  · obtain ⟨p1, p2⟩ := nw_own w1 (0 + 4) .nil t0
    refine ⟨.sl h1.nb 0 1 4 none, h1, nw h1 (0 + 4) .nil t0, m1, fun k => ?_, .inr ⟨h1.nb, _, rfl, by omega, p1.rd, rfl, by show N ≤ h1.nb; omega, by show 1 * 4 ≤ 0 + 4; omega, fun i hi => ?_⟩, t1.trans (p2.mono fun _ _ f => f.elim), p2.wf w1⟩
    · unfold apd
      rw [src1]
      show grown h1 4 1 (avL (tyL t)) k = _
      have e : grown h1 4 1 (avL (tyL t)) k = lay (avL (tyL t)) .e 0 fun t m => ifB (Nat.beq m (Nat.mul 1 4)) (k (.sl h1.nb 0 1 4 none) (nw h1 m .nil t)) .fail := rfl
      rw [e, l1]; rfl
    · have e : flat ([] ++ [t]) = tyL t := by simp [flat]
      simp only [e] at hi ⊢
      have := hat0 i hi
      rw [show 0 + i = i from Nat.zero_add i] at this
      rw [← this]
      have hi4 : i < 4 := hi
      rw [at_in _ (show i < 0 + 4 by omega), at_in _ (show i < 0 + 4 by omega)]
  · have h4 : (tyL t).length = 4 := rfl
    obtain ⟨t, t1', t2⟩ : ∃ t', (∀ k : T AV → Nat → Res, lay (avL (tyL t)) B.cs (ts.length * 4) k = k t' (ts.length * 4 + 4)) ∧ ∀ j, t'.get j = if hh : ts.length * 4 ≤ j ∧ j < ts.length * 4 + 4 then some ((tyL t)[j - ts.length * 4]'(by omega)) else B.cs.get j := lay_list (tyL t) B.cs (ts.length * 4) (tyL_one t)
    rename_i tt
    generalize hold : ifN (h1.grp B.g).1 b B.lim (ts.length * 4) (h1.grp B.g).2 h1.nb = old
    have hle : old ≤ h1.nb := by
      have q := (g2.grp g3).2
      have hlt := g2.lt
      have e : ifN (h1.grp B.g).1 b B.lim (ts.length * 4) (h1.grp B.g).2 h1.nb = Bool.rec (motive := fun _ => Nat) h1.nb (Bool.rec (motive := fun _ => Nat) h1.nb (h1.grp B.g).2 (Nat.ble B.lim (ts.length * 4))) (Nat.beq (h1.grp B.g).1 b) := rfl
      rw [← hold, e, recB, recB]
      split
      · split
        · omega
        · exact Nat.le_refl _
      · exact Nat.le_refl _
    have hrun : ∀ k : AV → Hp → Res, apd h1 4 40 (.sl b 0 ts.length 4 none) (.sl h.nb 0 1 4 (some 1)) k = k (.sl h1.nb 0 (ts.length + 1) 4 none) ⟨Nat.succ h1.nb, h1.bs.set ⟨true, B.g, ts.length * 4 + 4, B.df, t⟩ h1.nb, h1.gs.set (h1.nb, old) B.g, h1.ms⟩ := fun k => by
      unfold apd
      rw [src1]
      show ifB (Nat.beq 4 4) (ifB (Nat.beq 1 0) _ (ifB (Nat.ble (Nat.mul (Nat.add ts.length 1) 40) 140737488355328) (ifB (Nat.ble (Nat.add ts.length 1) 9223372036854775807)
        (gb h1 b fun B => ifB B.fr (ifB (Nat.beq 0 0) (lay (avL (tyL tt)) B.cs (Nat.mul ts.length 4) fun t e => ifB (Nat.beq e (Nat.mul (Nat.add ts.length 1) 4)) (ifB (Nat.ble (Nat.mul ts.length 4) B.lim)
          (k (.sl h1.nb 0 (Nat.add ts.length 1) 4 none) ⟨Nat.succ h1.nb, h1.bs.set ⟨true, B.g, e, B.df, t⟩ h1.nb, h1.gs.set (h1.nb, ifN (h1.grp B.g).1 b B.lim (Nat.mul ts.length 4) (h1.grp B.g).2 h1.nb) B.g, h1.ms⟩) .fail) .fail) _) .fail) .fail) .fail)) .fail = _
      have e1 : Nat.ble (Nat.mul (Nat.add ts.length 1) 40) 140737488355328 = true := by rw [ble_iff]; show (ts.length + 1) * 40 ≤ _; omega
      have e2 : Nat.ble (Nat.add ts.length 1) 9223372036854775807 = true := by rw [ble_iff]; show ts.length + 1 ≤ _; omega
      rw [e1, e2]
      show (gb h1 b fun B => ifB B.fr (ifB (Nat.beq 0 0) (lay (avL (tyL tt)) B.cs (Nat.mul ts.length 4) fun t e => ifB (Nat.beq e (Nat.mul (Nat.add ts.length 1) 4)) (ifB (Nat.ble (Nat.mul ts.length 4) B.lim)
          (k (.sl h1.nb 0 (Nat.add ts.length 1) 4 none) ⟨Nat.succ h1.nb, h1.bs.set ⟨true, B.g, e, B.df, t⟩ h1.nb, h1.gs.set (h1.nb, ifN (h1.grp B.g).1 b B.lim (Nat.mul ts.length 4) (h1.grp B.g).2 h1.nb) B.g, h1.ms⟩) .fail) .fail) _) .fail) = _
      rw [gb_rd g2, g3, ifB_t]
      have e3 : Nat.mul ts.length 4 = ts.length * 4 := rfl
      show (lay (avL (tyL tt)) B.cs (Nat.mul ts.length 4) fun t e => ifB (Nat.beq e (Nat.mul (Nat.add ts.length 1) 4)) (ifB (Nat.ble (Nat.mul ts.length 4) B.lim)
          (k (.sl h1.nb 0 (Nat.add ts.length 1) 4 none) ⟨Nat.succ h1.nb, h1.bs.set ⟨true, B.g, e, B.df, t⟩ h1.nb, h1.gs.set (h1.nb, ifN (h1.grp B.g).1 b B.lim (Nat.mul ts.length 4) (h1.grp B.g).2 h1.nb) B.g, h1.ms⟩) .fail) .fail) = _
      have e4 : Nat.mul (Nat.add ts.length 1) 4 = ts.length * 4 + 4 := by show (ts.length + 1) * 4 = _; omega
      rw [e3, hold, e4, t1', (beq_iff _ _).2 rfl, (ble_iff _ _).2 g5]
      rfl
    have hget2 : ∀ x, (h1.bs.set ⟨true, B.g, ts.length * 4 + 4, B.df, t⟩ h1.nb).get x = if x = h1.nb then some ⟨true, B.g, ts.length * 4 + 4, B.df, t⟩ else h1.bs.get x := fun x => T.get_set _ _ _ _
    have hgs2 : ∀ x, (h1.gs.set (h1.nb, old) B.g).get x = if x = B.g then some (h1.nb, old) else h1.gs.get x := fun x => T.get_set _ _ _ _
    have hBg := g2.grp g3
    have tfin : To (fun b => N ≤ b) h1 ⟨Nat.succ h1.nb, h1.bs.set ⟨true, B.g, ts.length * 4 + 4, B.df, t⟩ h1.nb, h1.gs.set (h1.nb, old) B.g, h1.ms⟩ := by
      refine ⟨Nat.le_succ _, fun x hx hn => ?_, fun x hx hn => ?_, fun hn g hg => ?_⟩
      · show (h1.bs.set _ h1.nb).get x = _
        rw [hget2, if_neg (by omega)]
      · show (h1.gs.set (h1.nb, old) B.g).get x = _
        rw [hgs2, if_neg (fun e => hn (by rw [e]; exact g4))]
      · show (h1.gs.set (h1.nb, old) B.g).get g = none
        have hg : h1.nb + 1 ≤ g := hg
        rw [hgs2, if_neg (by omega)]
        exact hn g (by omega)
    refine ⟨_, h1, _, m1, hrun, .inr ⟨h1.nb, ⟨true, B.g, ts.length * 4 + 4, B.df, t⟩, by rw [List.length_append]; rfl, by omega, ⟨by show (h1.bs.set _ h1.nb).get h1.nb = _; rw [hget2, if_pos rfl], Nat.lt_succ_self _, fun _ => ⟨Nat.lt_succ_of_lt hBg.1, ?_⟩⟩, rfl, g4, by rw [List.length_append]; show (ts.length + 1) * 4 ≤ ts.length * 4 + 4; omega, fun i hi => ?_⟩, t1.trans tfin, tfin.wf w1⟩
    · show (Hp.grp ⟨_, _, h1.gs.set (h1.nb, old) B.g, _⟩ B.g).2 ≤ h1.nb
      simp only [Hp.grp, hgs2, if_pos]
      exact hle
    · simp only [flat_snoc] at hi ⊢
      have hfl := flat_len ts
      rw [List.length_append, h4] at hi
      rw [at_in _ (show i < ts.length * 4 + 4 by omega)]
      simp only [t2 i]
      by_cases c : ts.length * 4 ≤ i
      · rw [dif_pos ⟨c, by omega⟩, List.getElem_append_right (by omega)]
        simp only [hfl]
      · rw [dif_neg (by omega), List.getElem_append_left (by omega)]
        have := g6 i (by omega)
        rw [at_in B (by omega)] at this
        exact this
end Go.Proofs.YtnpfppddongbhaaDoor
end

section
namespace Go.Proofs.YtnpfppddongbhaaDoor
open Go Go.AM
set_option autoImplicit false
theorem t86 (l : List UInt8) (c : UInt8) (h : Hp) : s86 [S l, S [c]] h = .ret (.bool (decide (l.take 1 = [c]))) h := by
  have gs : ∀ a : List UInt8, gsel (.bool true) true (S a) = S a := fun a => rfl
  have l1 : (([c] : List UInt8).length : Int) = 1 := rfl
  by_cases h1 : 1 ≤ l.length
  · have q : ¬ (l.length : Int) < 1 := by omega
    have x1 : ∀ k : AV → Res, cutT (S l) none (some (.int 63 1)) k = k (S (l.take 1)) := fun k => cutR_S l 63 1 h1 k
    simp only [↓s86, ↓lenS_S, l1, q, Bool.not_false, ↓gs, ↓x1, ↓eqS_S, ↓SD, SA, Int.ofNat_eq_natCast, Int.cast_ofNat_Int, Int.reduceBEq, Int.reduceAdd, Int.reduceNeg, Int.reduceNegSucc, Int.reduceLT, Int.reduceLE, Int.reduceMul, Int.reduceTMod, Int.reduceSub, Int.reduceBNe, Bool.not_true, Bool.not_false, decide_true, decide_false, ne_eq, not_false_eq_true, Int.reduceEq, reduceCtorEq]
  · have q : (l.length : Int) < 1 := by omega
    have e : l = [] := List.eq_nil_of_length_eq_zero (by omega)
    have z : decide (l.take 1 = [c]) = false := by rw [e]; rfl
    simp only [↓s86, ↓lenS_S, l1, q, Bool.not_true, z, ↓SD, SA, Int.ofNat_eq_natCast, Int.cast_ofNat_Int, Int.reduceBEq, Int.reduceAdd, Int.reduceNeg, Int.reduceNegSucc, Int.reduceLT, Int.reduceLE, Int.reduceMul, Int.reduceTMod, Int.reduceSub, Int.reduceBNe, Bool.not_true, Bool.not_false, decide_true, decide_false, ne_eq, not_false_eq_true, Int.reduceEq, reduceCtorEq]
theorem t60 (l : List UInt8) (c : UInt8) (h : Hp) : s60 [S l, S [c]] h = .ret (.bool (decide (l.take 1 = [c]))) h := by
  have e := t86 l c h
  simp only [↓s60, ↓e, ↓SD, SA, Int.ofNat_eq_natCast, Int.cast_ofNat_Int, Int.reduceBEq, Int.reduceAdd, Int.reduceNeg, Int.reduceNegSucc, Int.reduceLT, Int.reduceLE, Int.reduceMul, Int.reduceTMod, Int.reduceSub, Int.reduceBNe, Bool.not_true, Bool.not_false, decide_true, decide_false, ne_eq, not_false_eq_true, Int.reduceEq, reduceCtorEq]
theorem t59y (l : List UInt8) (c : UInt8) (h : Hp) (hc : l.take 1 = [c]) : s59 [S l, S [c]] h = .ret (.tup (.cons (S (l.drop 1)) (.cons (.bool true) .nil))) h := by
  have e := t86 l c h
  rw [decide_eq_true hc] at e
  have hl : 1 ≤ l.length := by
    have := congrArg List.length hc
    simp at this; omega
  have l1 : (([c] : List UInt8).length : Int) = 1 := rfl
  have x1 : ∀ k : AV → Res, cutT (S l) (some (.int 63 1)) none k = k (S (l.drop 1)) := fun k => cutL_S l 63 1 hl k
  have e2 : s85 [S l, S [c]] h = .ret (.tup (.cons (S (l.drop 1)) (.cons (.bool true) .nil))) h := by
    simp only [↓s85, ↓e, ↓lenS_S, l1, ↓x1, ↓cK_S, ↓SD, SA, Int.ofNat_eq_natCast, Int.cast_ofNat_Int, Int.reduceBEq, Int.reduceAdd, Int.reduceNeg, Int.reduceNegSucc, Int.reduceLT, Int.reduceLE, Int.reduceMul, Int.reduceTMod, Int.reduceSub, Int.reduceBNe, Bool.not_true, Bool.not_false, decide_true, decide_false, ne_eq, not_false_eq_true, Int.reduceEq, reduceCtorEq]
  simp only [↓s59, ↓e2, nth_z, nth_1, ↓cK_S, ↓SD, SA, Int.ofNat_eq_natCast, Int.cast_ofNat_Int, Int.reduceBEq, Int.reduceAdd, Int.reduceNeg, Int.reduceNegSucc, Int.reduceLT, Int.reduceLE, Int.reduceMul, Int.reduceTMod, Int.reduceSub, Int.reduceBNe, Bool.not_true, Bool.not_false, decide_true, decide_false, ne_eq, not_false_eq_true, Int.reduceEq, reduceCtorEq]
theorem t59n (l : List UInt8) (c : UInt8) (h : Hp) (hc : ¬ l.take 1 = [c]) : s59 [S l, S [c]] h = .ret (.tup (.cons (S l) (.cons (.bool false) .nil))) h := by
  have e := t86 l c h
  rw [decide_eq_false hc] at e
  have e2 : s85 [S l, S [c]] h = .ret (.tup (.cons (S l) (.cons (.bool false) .nil))) h := by
    simp only [↓s85, ↓e, ↓cK_S, ↓SD, SA, Int.ofNat_eq_natCast, Int.cast_ofNat_Int, Int.reduceBEq, Int.reduceAdd, Int.reduceNeg, Int.reduceNegSucc, Int.reduceLT, Int.reduceLE, Int.reduceMul, Int.reduceTMod, Int.reduceSub, Int.reduceBNe, Bool.not_true, Bool.not_false, decide_true, decide_false, ne_eq, not_false_eq_true, Int.reduceEq, reduceCtorEq]
  simp only [↓s59, ↓e2, nth_z, nth_1, ↓cK_S, ↓SD, SA, Int.ofNat_eq_natCast, Int.cast_ofNat_Int, Int.reduceBEq, Int.reduceAdd, Int.reduceNeg, Int.reduceNegSucc, Int.reduceLT, Int.reduceLE, Int.reduceMul, Int.reduceTMod, Int.reduceSub, Int.reduceBNe, Bool.not_true, Bool.not_false, decide_true, decide_false, ne_eq, not_false_eq_true, Int.reduceEq, reduceCtorEq]
noncomputable def ml : Nat → List UInt8 → Option (List Ty × List UInt8)
  | 0, _ => none
  | f + 1, l => if l.take 1 = [41] then some ([], l) else
    match fr l with
    | none => none
    | some q => match ml f (l.drop q.2) with
      | none => none
      | some p => some (q.1 :: p.1, p.2)
noncomputable def T3 (v : AV) (t : Ty) (b : Bool) : AV := .tup (.cons v (.cons (tyV t) (.cons (.bool b) .nil)))
theorem ml_inv : ∀ (f : Nat) (l : List UInt8) (p : List Ty × List UInt8), ml f l = some p → p.2.take 1 = [41] ∧ p.1.length + p.2.length ≤ l.length := by
  intro f
  induction f with
  | zero => intro l p h; cases h
  | succ f ih =>
    intro l p h
    unfold ml at h
    split at h
    · cases h; rename_i hh; exact ⟨hh, by simp⟩
    · cases hf : fr l with
      | none => rw [hf] at h; cases h
      | some q =>
        rw [hf] at h
        simp only at h
        have hq := fr_pos (show fr l = some (q.1, q.2) from hf)
        cases hm : ml f (l.drop q.2) with
        | none => rw [hm] at h; cases h
        | some p' =>
          rw [hm] at h
          cases h
          obtain ⟨h1, h2⟩ := ih _ _ hm
          refine ⟨h1, ?_⟩
          simp at h2 ⊢
          omega
theorem loop32 (b N : Nat) (hbN : b < N) : ∀ (f m : Nat) (l : List UInt8) (ts0 : List Ty) (v : AV) (h : Hp), l.length < f → f < m → l.length + ts0.length ≤ 100000 → N ≤ h.nb → Wf h → Cel h b ty0 → GrT h N v ts0 →
    (ml f l = none ∧ ∃ h', lp L32n0 m [S l, .ptr b 0, v] h = .ret (T3 .nils ty0 false) h' ∧ To (fun x => b ≤ x) h h' ∧ Wf h') ∨
    (∃ p v' h', ml f l = some p ∧ lp L32n0 m [S l, .ptr b 0, v] h = .exit 0 [S p.2, .ptr b 0, v'] h' ∧ GrT h' N v' (ts0 ++ p.1) ∧ To (fun x => N ≤ x) h h' ∧ Wf h') := by
  intro f
  induction f with
  | zero => intro m l ts0 v h hf; omega
  | succ f ih =>
    intro m l ts0 v h hf hm hl hN hw hc hg
    obtain ⟨m, rfl⟩ : ∃ k, m = k + 1 := ⟨m - 1, by omega⟩
    have e60 := t60 l 41 h
    have S41 : AV.str 1 41 = S [41] := rfl
    by_cases hp : l.take 1 = [41]
    · rw [decide_eq_true hp] at e60
      refine .inr ⟨([], l), v, h, by unfold ml; rw [if_pos hp], lpx m (by simp only [↓L32n0, ↓S41, ↓e60, ↓SD, SA, Int.ofNat_eq_natCast, Int.cast_ofNat_Int, Int.reduceBEq, Int.reduceAdd, Int.reduceNeg, Int.reduceNegSucc, Int.reduceLT, Int.reduceLE, Int.reduceMul, Int.reduceTMod, Int.reduceSub, Int.reduceBNe, Bool.not_true, Bool.not_false, decide_true, decide_false, ne_eq, not_false_eq_true, Int.reduceEq, reduceCtorEq]), by rw [List.append_nil]; exact hg, To.refl _ _, hw⟩
    · rw [decide_eq_false hp] at e60
      obtain ⟨h1, e1, o1, w1⟩ := t55 (l := l) (by omega) hw
      obtain ⟨h2, m2, c2, o2, w2, n2⟩ := ty0_mk w1
      have nb1 := o1.nb
      have hcb := hc.lt
      have hne : ¬ b = h1.nb := by omega
      cases hf' : fr l with
      | none =>
        have ef : frV (fr l) = .tup (.cons (tyV ty0) (.cons (.int 63 0) .nil)) := by rw [hf']; rfl
        rw [ef] at e1
        obtain ⟨h3, s3, c3, o3, w3, n3⟩ := c2.st w2 ty0
        have s3 : ∀ k : Hp → Res, stN h2 4 (.ptr h1.nb 0) (tyV ty0) k = k h3 := s3
        have cb : Cel h3 b ty0 := ((hc.to o1 (fun f => f)).to o2 (fun f => f)).to o3 hne
        obtain ⟨h4, p1, p2, o4, w4⟩ := fin1 w3 cb ty0
        have p1 : ∀ k : Hp → Res, stN h3 4 (.ptr b 0) (.agg (avL (tyL ty0))) k = k h4 := p1
        refine .inl ⟨by unfold ml; rw [if_neg hp, hf'], h4, ?_, ((((o1.mono fun _ _ f => f.elim).trans (o2.mono fun _ _ f => f.elim)).trans (o3.mono fun x _ e => by have : x = h1.nb := e; omega)).trans (o4.mono fun x _ e => by have : x = b := e; omega)), w4⟩
        exact lpr m (by simp only [↓L32n0, ↓S41, ↓e60, ↓e1, nth_z, nth_1, ↓cK_ty, ↓m2, ↓s3, ↓bldz, ↓p1, ↓p2, ↓SD, SA, Int.ofNat_eq_natCast, Int.cast_ofNat_Int, Int.reduceBEq, Int.reduceAdd, Int.reduceNeg, Int.reduceNegSucc, Int.reduceLT, Int.reduceLE, Int.reduceMul, Int.reduceTMod, Int.reduceSub, Int.reduceBNe, Bool.not_true, Bool.not_false, decide_true, decide_false, ne_eq, not_false_eq_true, Int.reduceEq, reduceCtorEq]; rfl)
      | some q =>
        obtain ⟨t, n⟩ := q
        obtain ⟨hn, hn2⟩ := fr_pos hf'
        have ef : frV (fr l) = .tup (.cons (tyV t) (.cons (.int 63 (n : Int)) .nil)) := by rw [hf']; rfl
        rw [ef] at e1
        have q0 : (((n : Nat) : Int) == 0) = false := beq_eq_false_iff_ne.2 (by omega)
        obtain ⟨h3, s3, c3, o3, w3, n3⟩ := c2.st w2 t
        have s3 : ∀ k : Hp → Res, stN h2 4 (.ptr h1.nb 0) (tyV t) k = k h3 := s3
        have l3 := fun k => c3.ld k
        have cb : Cel h3 b ty0 := ((hc.to o1 (fun f => f)).to o2 (fun f => f)).to o3 hne
        have oo : To (fun x => h.nb ≤ x) h h3 := ((o1.mono fun _ _ f => f.elim).trans (o2.mono fun _ _ f => f.elim)).trans (o3.mono fun x _ e => by have : x = h1.nb := e; omega)
        have g3 : GrT h3 N v ts0 := hg.to oo (fun x _ h2' e => by omega)
        obtain ⟨v', h4, h5, p4, p5, g5, o5, w5⟩ := apd_ty (N := N) (by omega) w3 g3 (by omega) t
        have x1 := fun k => cutL_S l 63 n hn2 k
        have e : L32n0 [S l, .ptr b 0, v] h = .norm [S (l.drop n), .ptr b 0, v'] h5 := by
          simp only [↓L32n0, ↓S41, ↓e60, ↓e1, nth_z, nth_1, ↓cK_ty, ↓m2, ↓s3, q0, ↓l3, ↓bldT, ↓p4, ↓p5, ↓x1, ↓SD, SA, Int.ofNat_eq_natCast, Int.cast_ofNat_Int, Int.reduceBEq, Int.reduceAdd, Int.reduceNeg, Int.reduceNegSucc, Int.reduceLT, Int.reduceLE, Int.reduceMul, Int.reduceTMod, Int.reduceSub, Int.reduceBNe, Bool.not_true, Bool.not_false, decide_true, decide_false, ne_eq, not_false_eq_true, Int.reduceEq, reduceCtorEq]
        have c5 : Cel h5 b ty0 := cb.to o5 (fun e => by omega)
        have oN : To (fun x => N ≤ x) h h5 := (oo.mono fun x _ e => by omega).trans o5
        have nb5 := oN.nb
        rcases ih m (l.drop n) (ts0 ++ [t]) v' h5 (by simp; omega) (by omega) (by simp; omega) (by omega) w5 c5 g5 with ⟨r1, h6, r2, r3, r4⟩ | ⟨p, v'', h6, r1, r2, r3, r4, r5⟩
        · refine .inl ⟨?_, h6, (lpn m e).trans r2, (oN.mono fun x _ e => by omega).trans r3, r4⟩
          unfold ml; rw [if_neg hp, hf']
          simp only [r1]
        · refine .inr ⟨(t :: p.1, p.2), v'', h6, ?_, (lpn m e).trans r2, by simpa using r3, oN.trans r4, r5⟩
          unfold ml; rw [if_neg hp, hf']
          simp only [r1]
noncomputable def tyVoid : Ty := ⟨86, [], 0, 0⟩
noncomputable def md (l : List UInt8) : Option (List Ty × Ty) :=
  if l.take 1 = [40] then
    match ml (l.length + 1) (l.drop 1) with
    | none => none
    | some p => if p.2 = [41, 86] then some (p.1, tyVoid) else
      match fld (p.2.drop 1) with
      | none => none
      | some t => some (p.1, t)
  else none
def Mth (r : Res) (h : Hp) (o : Option (List Ty × Ty)) : Prop :=
  (o = none ∧ ∃ h', r = .ret (T3 .nils ty0 false) h' ∧ To No h h' ∧ Wf h') ∨ (∃ p v h', o = some p ∧ r = .ret (T3 v p.2 true) h' ∧ GrT h' h.nb v p.1 ∧ To No h h' ∧ Wf h')
theorem bldV (k : AV → Res) : bld [(false, 1, (.int 8 (.ofNat 86))), (false, 1, (.str 0 0)), (false, 1, (.int 63 (.ofNat 0))), (false, 1, (.int 8 (.ofNat 0)))] k = k (avL (tyL tyVoid)) := rfl
theorem t32 {l : List UInt8} (hl : l.length ≤ 90000) {h : Hp} (hw : Wf h) : Mth (s32 [S l] h) h (md l) := by
  obtain ⟨h1, m1, c1, o1, w1, n1⟩ := ty0_mk hw
  have S40 : AV.str 1 40 = S [40] := rfl
  have S41V : AV.str 2 22057 = S [41, 86] := rfl
  have fresh : ∀ {g : Hp}, To (fun x => h.nb ≤ x) h1 g → To No h g := fun t => o1.fresh t (fun x e => e)
  unfold md
  by_cases hp : l.take 1 = [40]
  · rw [if_pos hp]
    have e59 := t59y l 40 h1 hp
    have hl1 : (l.drop 1).length ≤ l.length := by simp
    rcases loop32 h.nb (h.nb + 1) (by omega) (l.length + 1) most (l.drop 1) [] .nils h1 (by omega) (by unfold most; omega) (by simp; omega) (by omega) w1 c1 (.inl ⟨rfl, rfl⟩) with ⟨r1, h6, r2, r3, r4⟩ | ⟨p, v, h6, r1, r2, r3, r4, r5⟩
    · rw [r1]
      exact .inl ⟨rfl, h6, by simp only [↓s32, ↓m1, ↓S40, ↓e59, nth_z, nth_1, ↓cK_S, ↓r2, ↓SD, SA, Int.ofNat_eq_natCast, Int.cast_ofNat_Int, Int.reduceBEq, Int.reduceAdd, Int.reduceNeg, Int.reduceNegSucc, Int.reduceLT, Int.reduceLE, Int.reduceMul, Int.reduceTMod, Int.reduceSub, Int.reduceBNe, Bool.not_true, Bool.not_false, decide_true, decide_false, ne_eq, not_false_eq_true, Int.reduceEq, reduceCtorEq], fresh r3, r4⟩
    · rw [r1]
      obtain ⟨i1, i2⟩ := ml_inv _ _ _ r1
      have c6 : Cel h6 h.nb ty0 := c1.to r4 (fun e => by omega)
      have g6 : GrT h6 (h.nb + 1) v p.1 := by simpa using r3
      have t16 : To (fun x => h.nb ≤ x) h1 h6 := r4.mono fun x _ e => by omega
      have kv := fun k => g6.cK k
      have hpl : 1 ≤ p.2.length := by
        have := congrArg List.length i1
        simp at this; omega
      show Mth (s32 [S l] h) h (if p.2 = [41, 86] then some (p.1, tyVoid) else match fld (p.2.drop 1) with | none => none | some t => some (p.1, t))
      by_cases hv : p.2 = [41, 86]
      · rw [if_pos hv]
        have z : decide (p.2 = [41, 86]) = true := decide_eq_true hv
        obtain ⟨h7, p1, p2, o7, w7⟩ := fin1 r5 c6 tyVoid
        have p1 : ∀ k : Hp → Res, stN h6 4 (.ptr h.nb 0) (.agg (avL (tyL tyVoid))) k = k h7 := p1
        have g7 : GrT h7 h.nb v p.1 := (g6.to o7 (fun x e _ e2 => by have : x = h.nb := e2; omega)).mono (by omega)
        refine .inr ⟨(p.1, tyVoid), v, h7, rfl, ?_, g7, fresh (t16.trans (o7.mono fun x _ e => by have : x = h.nb := e; omega)), w7⟩
        simp only [↓s32, ↓m1, ↓S40, ↓e59, nth_z, nth_1, ↓cK_S, ↓r2, ↓blk_x, ↓S41V, ↓eqS_S, z, ↓bldV, ↓p1, ↓kv, ↓p2, ↓cK_ty, ↓SD, SA, Int.ofNat_eq_natCast, Int.cast_ofNat_Int, Int.reduceBEq, Int.reduceAdd, Int.reduceNeg, Int.reduceNegSucc, Int.reduceLT, Int.reduceLE, Int.reduceMul, Int.reduceTMod, Int.reduceSub, Int.reduceBNe, Bool.not_true, Bool.not_false, decide_true, decide_false, ne_eq, not_false_eq_true, Int.reduceEq, reduceCtorEq]; rfl
      · rw [if_neg hv]
        have z : decide (p.2 = [41, 86]) = false := decide_eq_false hv
        have x1 : ∀ k : AV → Res, cutT (S p.2) (some (.int 63 1)) none k = k (S (p.2.drop 1)) := fun k => cutL_S p.2 63 1 hpl k
        have hdl : (p.2.drop 1).length ≤ 100000 := by simp; omega
        obtain ⟨h7, e26, o7, w7⟩ := t26 hdl r5
        obtain ⟨h8, m8, c8, o8, w8, n8⟩ := ty0_mk w7
        have m8' : ∀ k : AV → Hp → Res, mk h7 (.cons (.int 8 0) (.cons (.str 0 0) (.cons (.int 63 0) (.cons (.int 8 0) .nil)))) k = k (.ptr h7.nb 0) h8 := m8
        have bz : ∀ k : AV → Res, bld [(false, 1, (.int 8 0)), (false, 1, (.str 0 0)), (false, 1, (.int 63 0)), (false, 1, (.int 8 0))] k = k (avL (tyL ty0)) := fun k => rfl
        have nb6 := t16.nb
        have nb7 := o7.nb
        obtain ⟨h9, s9, c9, o9, w9, n9⟩ := c8.st w8 ((fld (p.2.drop 1)).getD ty0)
        have s9 : ∀ k : Hp → Res, stN h8 4 (.ptr h7.nb 0) (tyV ((fld (p.2.drop 1)).getD ty0)) k = k h9 := s9
        have oo : To (fun x => h6.nb ≤ x) h6 h9 := ((o7.mono fun _ _ f => f.elim).trans (o8.mono fun _ _ f => f.elim)).trans (o9.mono fun x _ e => by have : x = h7.nb := e; omega)
        have cb : Cel h9 h.nb ty0 := c6.to oo (fun e => by omega)
        have g9 : GrT h9 (h.nb + 1) v p.1 := g6.to oo (fun x _ h2' e => by omega)
        have t19 : To (fun x => h.nb ≤ x) h1 h9 := t16.trans (oo.mono fun x _ e => by omega)
        have l9 := fun k => c9.ld k
        cases hf : fld (p.2.drop 1) with
        | none =>
          have ef : fldV (fld (p.2.drop 1)) = .tup (.cons (tyV ty0) (.cons (.bool false) .nil)) := by rw [hf]; rfl
          rw [ef] at e26
          rw [hf] at s9
          have s9 : ∀ k : Hp → Res, stN h8 4 (.ptr h7.nb 0) (tyV ty0) k = k h9 := s9
          obtain ⟨h10, p1, p2, o10, w10⟩ := fin1 w9 cb ty0
          have p1 : ∀ k : Hp → Res, stN h9 4 (.ptr h.nb 0) (.agg (avL (tyL ty0))) k = k h10 := p1
          refine .inl ⟨rfl, h10, ?_, fresh (t19.trans (o10.mono fun x _ e => by have : x = h.nb := e; omega)), w10⟩
          simp only [↓s32, ↓m1, ↓S40, ↓e59, nth_z, nth_1, ↓cK_S, ↓r2, ↓blk_x, ↓S41V, ↓eqS_S, z, ↓x1, ↓e26, ↓cK_ty, ↓m8, ↓m8', ↓s9, ↓bldz, ↓bz, ↓p1, ↓p2, ↓SD, SA, Int.ofNat_eq_natCast, Int.cast_ofNat_Int, Int.reduceBEq, Int.reduceAdd, Int.reduceNeg, Int.reduceNegSucc, Int.reduceLT, Int.reduceLE, Int.reduceMul, Int.reduceTMod, Int.reduceSub, Int.reduceBNe, Bool.not_true, Bool.not_false, decide_true, decide_false, ne_eq, not_false_eq_true, Int.reduceEq, reduceCtorEq]; rfl
        | some t =>
          have ef : fldV (fld (p.2.drop 1)) = .tup (.cons (tyV t) (.cons (.bool true) .nil)) := by rw [hf]; rfl
          rw [ef] at e26
          rw [hf] at s9 l9
          have s9 : ∀ k : Hp → Res, stN h8 4 (.ptr h7.nb 0) (tyV t) k = k h9 := s9
          have l9 : ∀ k : AV → Res, ldN h9 4 (.ptr h7.nb 0) k = k (tyV t) := l9
          obtain ⟨h10, p1, p2, o10, w10⟩ := fin1 w9 cb t
          have g10 : GrT h10 h.nb v p.1 := (g9.to o10 (fun x e _ e2 => by have : x = h.nb := e2; omega)).mono (by omega)
          refine .inr ⟨(p.1, t), v, h10, rfl, ?_, g10, fresh (t19.trans (o10.mono fun x _ e => by have : x = h.nb := e; omega)), w10⟩
          simp only [↓s32, ↓m1, ↓S40, ↓e59, nth_z, nth_1, ↓cK_S, ↓r2, ↓blk_x, ↓S41V, ↓eqS_S, z, ↓x1, ↓e26, ↓cK_ty, ↓m8, ↓m8', ↓s9, ↓l9, ↓p1, ↓kv, ↓p2, ↓SD, SA, Int.ofNat_eq_natCast, Int.cast_ofNat_Int, Int.reduceBEq, Int.reduceAdd, Int.reduceNeg, Int.reduceNegSucc, Int.reduceLT, Int.reduceLE, Int.reduceMul, Int.reduceTMod, Int.reduceSub, Int.reduceBNe, Bool.not_true, Bool.not_false, decide_true, decide_false, ne_eq, not_false_eq_true, Int.reduceEq, reduceCtorEq]; rfl
  · rw [if_neg hp]
    have e59 := t59n l 40 h1 hp
    obtain ⟨h4, p1, p2, o4, w4⟩ := fin1 w1 c1 ty0
    have p1 : ∀ k : Hp → Res, stN h1 4 (.ptr h.nb 0) (.agg (avL (tyL ty0))) k = k h4 := p1
    exact .inl ⟨rfl, h4, by simp only [↓s32, ↓m1, ↓S40, ↓e59, nth_z, nth_1, ↓cK_S, ↓bldz, ↓p1, ↓p2, ↓cK_ty, ↓SD, SA, Int.ofNat_eq_natCast, Int.cast_ofNat_Int, Int.reduceBEq, Int.reduceAdd, Int.reduceNeg, Int.reduceNegSucc, Int.reduceLT, Int.reduceLE, Int.reduceMul, Int.reduceTMod, Int.reduceSub, Int.reduceBNe, Bool.not_true, Bool.not_false, decide_true, decide_false, ne_eq, not_false_eq_true, Int.reduceEq, reduceCtorEq]; rfl, fresh (o4.mono fun x _ e => by have : x = h.nb := e; omega), w4⟩
end Go.Proofs.YtnpfppddongbhaaDoor
end
