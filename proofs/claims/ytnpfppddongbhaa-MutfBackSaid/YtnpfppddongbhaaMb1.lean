/-
  Modified UTF-8, there and back, part 1: reckoned by the abstract machine.
-/
import Derived.Test.YtnpfppddongbhaaFb
import Derived.Test.YtnpfppddongbhaaAm38
import Derived.Test.YtnpfppddongbhaaFa
import Derived.Test.YtnpfppddongbhaaAm39
section
namespace Go.Proofs.Ytnpfppddongbhaa
open Go Go.AM
set_option autoImplicit false
set_option linter.unusedSimpArgs false
set_option linter.unusedVariables false
/-! ### texts -/
theorem lenS_s (n x : Nat) (k : AV → Res) : lenS (.str n x) k = k (.int 63 (n : Int)) := of_eq_true (eq_self _)
theorem sIdx_s (n x : Nat) (c j : Nat) (hj : j < n) (k : AV → Res) : sIdx (.str n x) (.int c (j : Int)) k = k (.int 8 (byteAt x j : Int)) := by
  have e : sIdx (.str n x) (.int c (j : Int)) k = ifB (Nat.blt j n) (k (.int 8 (byteAt x j : Int))) .fail := rfl
  rw [e, (blt_iff _ _).2 hj]; rfl
theorem byteAt_lt (x j : Nat) : byteAt x j < 256 := Nat.mod_lt _ (by decide)
theorem bld1 (c : Nat) (m : Int) (k : AV → Res) : bld [(false, 1, .int c m)] k = k (avL [.int c m]) := of_eq_true (eq_self _)
theorem bld0 (k : AV → Res) : bld [] k = k (avL []) := of_eq_true (eq_self _)
@[congr] theorem bld_cg {l l' : List (Bool × Nat × AV)} (h : l = l') (k : AV → Res) : bld l k = bld l' k := by rw [h]
@[congr] theorem mkS_cg {l l' : AV} (h : Hp) (z n : Nat) (hl : l = l') (k : AV → Hp → Res) : mkS h z n l k = mkS h z n l' k := by rw [hl]
@[congr] theorem lenS_cg {v v' : AV} (h : v = v') (k : AV → Res) : lenS v k = lenS v' k := by rw [h]
@[congr] theorem sIdx_cg {v v' w w' : AV} (h : v = v') (h' : w = w') (k : AV → Res) : sIdx v w k = sIdx v' w' k := by rw [h, h']

/-! ### numbers -/
theorem toU16n (a : Nat) : toU 16 (a : Int) = a % 65536 := by have := toU16 (a : Int); omega
theorem toU8n (a : Nat) : toU 8 (a : Int) = a % 256 := by have := toU8 (a : Int); omega
theorem w16n (a : Nat) : wrapC 16 (a : Int) = ((a % 65536 : Nat) : Int) := by rw [w16]; omega
theorem w8n (a : Nat) : wrapC 8 (a : Int) = ((a % 256 : Nat) : Int) := by rw [w8]; omega
theorem k16 : toU 16 224 = 224 ∧ toU 16 31 = 31 ∧ toU 16 240 = 240 ∧ toU 16 15 = 15 := by decide +kernel
theorem k8 : toU 8 224 = 224 ∧ toU 8 31 = 31 ∧ toU 8 240 = 240 ∧ toU 8 15 = 15 ∧ toU 8 192 = 192 ∧ toU 8 63 = 63 := by decide +kernel

/-- Does a byte go on with a char? -/
def ct (n : Nat) (Y : Nat → Nat) (i : Nat) : Bool := decide (i < n) && decide (128 ≤ Y i ∧ Y i < 192)
theorem ct_bits : ∀ y < 256, ((((Nat.land (y % 256) 192 % 256 : Nat)) : Int) == 128) = decide (128 ≤ y ∧ y < 192) := by decide +kernel

theorem t71 (n x i : Nat) (h : Hp) : s71 [.str n x, .int 63 (i : Int)] h = .ret (.bool (ct n (byteAt x) i)) h := by
  by_cases hi : i < n
  · have h1 : (i : Int) < (n : Int) := by omega
    have hb := ct_bits _ (byteAt_lt x i)
    simp only [↓s71, ↓lenS_s, h1, sIdx_s n x 63 i hi, toU8n, k8, w8n, ↓uc_c, ↓uz_n, ↓cI_i, ↓cB_b, cB_b, ↓cT_t, cT_t, nth_z, nth_1, cK_b, ↓cK_b, ↓cK_i, cK_i, ifB_t, ifB_f, ↓ap_e, sel_t, sel_f, gsel_tt, gsel_tf, gsel_ft, gsel_ff, gsel_u, gd_tt, gd_tf, gd_ft, gd_ff, gd_u, ↓jn_n, jn_n, jn_r, ↓jn_r, blk_n, blk_r, ↓cl_r, cl_r, ↓iAdd_i, ↓iSub_i, ↓iMul_i, ↓iAnd_i, ↓iOr_i, ↓iXor_i, ↓iNeg_i, iQuo_i, iRem_i, ↓iConv_i, iConv_i, ↓bNot_b, bNot_b, ↓eqN_i, ↓ltN_i, ↓eqB_b, bnot_e, Int.ofNat_eq_natCast, Int.cast_ofNat_Int, Int.reduceBEq, Int.reduceAdd, Int.reduceNeg, Int.reduceNegSucc, Int.reduceLT, Int.reduceLE, Int.reduceMul, Int.reduceTMod, Int.reduceSub, Int.reduceBNe, Bool.not_true, Bool.not_false, decide_true, decide_false, w63_in, w31_in, ne_eq, not_false_eq_true, Int.reduceEq, reduceCtorEq, ww3131, ww6363, ww3163, ww6331, ww3231, ww3263, ww6463, ww6364, sh31, sh63, sl63, m31, m63, n63, s5a, s5b, s6a, s6b, b31, b32, b63, c63, c64, d64, iShl_c, iShr_c, sr3, sr6, sr7]
    unfold ct
    simp only [hb, hi, decide_true, Bool.true_and]
  · have h1 : ¬ (i : Int) < (n : Int) := by omega
    simp only [↓s71, ↓lenS_s, h1, ↓uc_c, ↓uz_n, ↓cI_i, ↓cB_b, cB_b, ↓cT_t, cT_t, nth_z, nth_1, cK_b, ↓cK_b, ↓cK_i, cK_i, ifB_t, ifB_f, ↓ap_e, sel_t, sel_f, gsel_tt, gsel_tf, gsel_ft, gsel_ff, gsel_u, gd_tt, gd_tf, gd_ft, gd_ff, gd_u, ↓jn_n, jn_n, jn_r, ↓jn_r, blk_n, blk_r, ↓cl_r, cl_r, ↓iAdd_i, ↓iSub_i, ↓iMul_i, ↓iAnd_i, ↓iOr_i, ↓iXor_i, ↓iNeg_i, iQuo_i, iRem_i, ↓iConv_i, iConv_i, ↓bNot_b, bNot_b, ↓eqN_i, ↓ltN_i, ↓eqB_b, bnot_e, Int.ofNat_eq_natCast, Int.cast_ofNat_Int, Int.reduceBEq, Int.reduceAdd, Int.reduceNeg, Int.reduceNegSucc, Int.reduceLT, Int.reduceLE, Int.reduceMul, Int.reduceTMod, Int.reduceSub, Int.reduceBNe, Bool.not_true, Bool.not_false, decide_true, decide_false, w63_in, w31_in, ne_eq, not_false_eq_true, Int.reduceEq, reduceCtorEq, ww3131, ww6363, ww3163, ww6331, ww3231, ww3263, ww6463, ww6364, sh31, sh63, sl63, m31, m63, n63, s5a, s5b, s6a, s6b, b31, b32, b63, c63, c64, d64, iShl_c, iShr_c, sr3, sr6, sr7]
    unfold ct
    simp only [hi, decide_false, Bool.false_and]
theorem t72 (n x i : Nat) (h : Hp) : s72 [.str n x, .int 63 (i : Int)] h = .ret (.tup (.cons (.int 16 (if ct n (byteAt x) i = true then ((byteAt x i % 64 : Nat) : Int) else 0)) (.cons (.bool (ct n (byteAt x) i)) .nil))) h := by
  by_cases hi : i < n
  · have h1 : (i : Int) < (n : Int) := by omega
    have hb := ct_bits _ (byteAt_lt x i)
    by_cases hy : 128 ≤ byteAt x i ∧ byteAt x i < 192
    · have e1 : ((((Nat.land (byteAt x i % 256) 192 % 256 : Nat)) : Int) == 128) = true := by rw [hb]; simpa using hy
      have e2 : Nat.land (byteAt x i % 256) 63 % 256 % 65536 = byteAt x i % 64 := by rw [land63]; omega
      simp only [↓s72, ↓lenS_s, h1, sIdx_s n x 63 i hi, toU8n, k8, w8n, w16n, e1, e2, ↓uc_c, ↓uz_n, ↓cI_i, ↓cB_b, cB_b, ↓cT_t, cT_t, nth_z, nth_1, cK_b, ↓cK_b, ↓cK_i, cK_i, ifB_t, ifB_f, ↓ap_e, sel_t, sel_f, gsel_tt, gsel_tf, gsel_ft, gsel_ff, gsel_u, gd_tt, gd_tf, gd_ft, gd_ff, gd_u, ↓jn_n, jn_n, jn_r, ↓jn_r, blk_n, blk_r, ↓cl_r, cl_r, ↓iAdd_i, ↓iSub_i, ↓iMul_i, ↓iAnd_i, ↓iOr_i, ↓iXor_i, ↓iNeg_i, iQuo_i, iRem_i, ↓iConv_i, iConv_i, ↓bNot_b, bNot_b, ↓eqN_i, ↓ltN_i, ↓eqB_b, bnot_e, Int.ofNat_eq_natCast, Int.cast_ofNat_Int, Int.reduceBEq, Int.reduceAdd, Int.reduceNeg, Int.reduceNegSucc, Int.reduceLT, Int.reduceLE, Int.reduceMul, Int.reduceTMod, Int.reduceSub, Int.reduceBNe, Bool.not_true, Bool.not_false, decide_true, decide_false, w63_in, w31_in, ne_eq, not_false_eq_true, Int.reduceEq, reduceCtorEq, ww3131, ww6363, ww3163, ww6331, ww3231, ww3263, ww6463, ww6364, sh31, sh63, sl63, m31, m63, n63, s5a, s5b, s6a, s6b, b31, b32, b63, c63, c64, d64, iShl_c, iShr_c, sr3, sr6, sr7]
      unfold ct
      simp [hi, hy]
    · have e1 : ((((Nat.land (byteAt x i % 256) 192 % 256 : Nat)) : Int) == 128) = false := by rw [hb]; simpa using hy
      simp only [↓s72, ↓lenS_s, h1, sIdx_s n x 63 i hi, toU8n, k8, w8n, w16n, e1, ↓uc_c, ↓uz_n, ↓cI_i, ↓cB_b, cB_b, ↓cT_t, cT_t, nth_z, nth_1, cK_b, ↓cK_b, ↓cK_i, cK_i, ifB_t, ifB_f, ↓ap_e, sel_t, sel_f, gsel_tt, gsel_tf, gsel_ft, gsel_ff, gsel_u, gd_tt, gd_tf, gd_ft, gd_ff, gd_u, ↓jn_n, jn_n, jn_r, ↓jn_r, blk_n, blk_r, ↓cl_r, cl_r, ↓iAdd_i, ↓iSub_i, ↓iMul_i, ↓iAnd_i, ↓iOr_i, ↓iXor_i, ↓iNeg_i, iQuo_i, iRem_i, ↓iConv_i, iConv_i, ↓bNot_b, bNot_b, ↓eqN_i, ↓ltN_i, ↓eqB_b, bnot_e, Int.ofNat_eq_natCast, Int.cast_ofNat_Int, Int.reduceBEq, Int.reduceAdd, Int.reduceNeg, Int.reduceNegSucc, Int.reduceLT, Int.reduceLE, Int.reduceMul, Int.reduceTMod, Int.reduceSub, Int.reduceBNe, Bool.not_true, Bool.not_false, decide_true, decide_false, w63_in, w31_in, ne_eq, not_false_eq_true, Int.reduceEq, reduceCtorEq, ww3131, ww6363, ww3163, ww6331, ww3231, ww3263, ww6463, ww6364, sh31, sh63, sl63, m31, m63, n63, s5a, s5b, s6a, s6b, b31, b32, b63, c63, c64, d64, iShl_c, iShr_c, sr3, sr6, sr7]
      unfold ct
      simp [hi]
      omega
  · have h1 : ¬ (i : Int) < (n : Int) := by omega
    simp only [↓s72, ↓lenS_s, h1, ↓uc_c, ↓uz_n, ↓cI_i, ↓cB_b, cB_b, ↓cT_t, cT_t, nth_z, nth_1, cK_b, ↓cK_b, ↓cK_i, cK_i, ifB_t, ifB_f, ↓ap_e, sel_t, sel_f, gsel_tt, gsel_tf, gsel_ft, gsel_ff, gsel_u, gd_tt, gd_tf, gd_ft, gd_ff, gd_u, ↓jn_n, jn_n, jn_r, ↓jn_r, blk_n, blk_r, ↓cl_r, cl_r, ↓iAdd_i, ↓iSub_i, ↓iMul_i, ↓iAnd_i, ↓iOr_i, ↓iXor_i, ↓iNeg_i, iQuo_i, iRem_i, ↓iConv_i, iConv_i, ↓bNot_b, bNot_b, ↓eqN_i, ↓ltN_i, ↓eqB_b, bnot_e, Int.ofNat_eq_natCast, Int.cast_ofNat_Int, Int.reduceBEq, Int.reduceAdd, Int.reduceNeg, Int.reduceNegSucc, Int.reduceLT, Int.reduceLE, Int.reduceMul, Int.reduceTMod, Int.reduceSub, Int.reduceBNe, Bool.not_true, Bool.not_false, decide_true, decide_false, w63_in, w31_in, ne_eq, not_false_eq_true, Int.reduceEq, reduceCtorEq, ww3131, ww6363, ww3163, ww6331, ww3231, ww3263, ww6463, ww6364, sh31, sh63, sl63, m31, m63, n63, s5a, s5b, s6a, s6b, b31, b32, b63, c63, c64, d64, iShl_c, iShr_c, sr3, sr6, sr7]
    unfold ct
    simp [hi]
end Go.Proofs.Ytnpfppddongbhaa
end

section
namespace Go.Proofs.Ytnpfppddongbhaa
open Go Go.AM
set_option autoImplicit false
set_option linter.unusedSimpArgs false
set_option linter.unusedVariables false
/-! ### numbers of 16 bits -/
theorem shl6n (a : Nat) (d : Nat) (k : AV → Res) : iShl (.int 16 (a : Int)) (.int d 6) k = k (.int 16 ((a * 64 % 65536 : Nat) : Int)) := by
  have e : iShl (.int 16 (a : Int)) (.int d 6) k = k (.int 16 (wrapC 16 ((a : Int) * 64))) := iShl_i k 16 a d 6 (by decide)
  rw [e, w16]; congr 2
theorem shl12n (a : Nat) (d : Nat) (k : AV → Res) : iShl (.int 16 (a : Int)) (.int d 12) k = k (.int 16 ((a * 4096 % 65536 : Nat) : Int)) := by
  have e : iShl (.int 16 (a : Int)) (.int d 12) k = k (.int 16 (wrapC 16 ((a : Int) * 4096))) := iShl_i k 16 a d 12 (by decide)
  rw [e, w16]; congr 2
theorem or16n (a b : Nat) (k : AV → Res) : iOr (.int 16 (a : Int)) (.int 16 (b : Int)) k = k (.int 16 ((Nat.lor (a % 65536) (b % 65536) % 65536 : Nat) : Int)) := by
  rw [iOr_i, toU16n, toU16n]
  show k (.int 16 (wrapC 16 ((Nat.lor (a % 65536) (b % 65536) : Nat) : Int))) = _
  rw [w16n]
theorem add16n (a b : Nat) (k : AV → Res) : iAdd (.int 16 (a : Int)) (.int 16 (b : Int)) k = k (.int 16 (((a + b) % 65536 : Nat) : Int)) := by
  rw [iAdd_i, w16]; congr 2
def v2 (c y : Nat) : Nat := c % 32 * 64 + y % 64
def v3 (c y z : Nat) : Nat := c % 16 * 4096 + y % 64 * 64 + z % 64
theorem land15 (x : Nat) : Nat.land x 15 = x % 16 := Nat.and_two_pow_sub_one_eq_mod x 4
theorem lor64 (a b : Nat) (hb : b < 64) : Nat.lor (a * 64) b = a * 64 + b := by
  have := Nat.two_pow_add_eq_or_of_lt (i := 6) hb a
  rw [Nat.mul_comm]
  exact this.symm
theorem lor4096 (a b : Nat) (hb : b < 4096) : Nat.lor (a * 4096) b = a * 4096 + b := by
  have := Nat.two_pow_add_eq_or_of_lt (i := 12) hb a
  rw [Nat.mul_comm]
  exact this.symm
theorem val2 (c y : Nat) : Nat.lor (Nat.land c 31 % 65536 * 64 % 65536 % 65536) (Nat.land (y % 256) 63 % 256 % 65536 % 65536) % 65536 = v2 c y := by
  rw [land31, land63, show c % 32 % 65536 * 64 % 65536 % 65536 = c % 32 * 64 by omega, show y % 256 % 64 % 256 % 65536 % 65536 = y % 64 by omega, lor64 _ _ (by omega)]
  unfold v2; omega
theorem val3 (c y z : Nat) : Nat.lor (Nat.lor (Nat.land c 15 % 65536 * 4096 % 65536 % 65536) (Nat.land (y % 256) 63 % 256 % 65536 * 64 % 65536 % 65536) % 65536 % 65536) (Nat.land (z % 256) 63 % 256 % 65536 % 65536) % 65536 = v3 c y z := by
  rw [land15, land63, land63, show c % 16 % 65536 * 4096 % 65536 % 65536 = c % 16 * 4096 by omega, show y % 256 % 64 % 256 % 65536 * 64 % 65536 % 65536 = y % 64 * 64 by omega,
    show z % 256 % 64 % 256 % 65536 % 65536 = z % 64 by omega, lor4096 _ _ (by omega),
    show (c % 16 * 4096 + y % 64 * 64) % 65536 % 65536 = (c % 16 * 64 + y % 64) * 64 by omega, lor64 _ _ (by omega)]
  unfold v3; omega

/-! ### the loop -/
def dec (n : Nat) (Y : Nat → Nat) : Nat → Nat → Option (List Nat)
  | 0, _ => some []
  | f + 1, i =>
    if i < n then
      if 0 < Y i ∧ Y i < 128 then (dec n Y f (i + 1)).map (Y i :: ·)
      else if (192 ≤ Y i ∧ Y i < 224) ∧ ct n Y (i + 1) = true then (dec n Y f (i + 2)).map (v2 (Y i) (Y (i + 1)) :: ·)
      else if (224 ≤ Y i ∧ Y i < 240) ∧ ct n Y (i + 1) = true ∧ ct n Y (i + 2) = true then (dec n Y f (i + 3)).map (v3 (Y i) (Y (i + 1)) (Y (i + 2)) :: ·)
      else none
    else some []

theorem lp_n {F : List AV → Hp → Res} {vs vs' : List AV} {h h' : Hp} (m : Nat) (e : F vs h = .norm vs' h') : lp F (m + 1) vs h = lp F m vs' h' := by
  have : lp F (m + 1) vs h = Res.rec (motive := fun _ => Res) .fail (lp F m) (fun i vs h => .exit i vs h) (fun v h => .ret v h) (F vs h) := rfl
  rw [this, e]
theorem lp_x {F : List AV → Hp → Res} {vs vs' : List AV} {h h' : Hp} {i : Nat} (m : Nat) (e : F vs h = .exit i vs' h') : lp F (m + 1) vs h = .exit i vs' h' := by
  have : lp F (m + 1) vs h = Res.rec (motive := fun _ => Res) .fail (lp F m) (fun i vs h => .exit i vs h) (fun v h => .ret v h) (F vs h) := rfl
  rw [this, e]
theorem lp_r {F : List AV → Hp → Res} {vs : List AV} {v : AV} {h h' : Hp} (m : Nat) (e : F vs h = .ret v h') : lp F (m + 1) vs h = .ret v h' := by
  have : lp F (m + 1) vs h = Res.rec (motive := fun _ => Res) .fail (lp F m) (fun i vs h => .exit i vs h) (fun v h => .ret v h) (F vs h) := rfl
  rw [this, e]

/-- One value is put behind a slice that grows. -/
theorem push {h : Hp} {N : Nat} {u : AV} {l : List AV} (hN : N ≤ h.nb) (hw : Wf h) (hu : Gr h N u l) {by_ : Nat} (v : AV) (hv : one v = true) (hb : (l.length + 1) * by_ ≤ 140737488355328) (hb2 : l.length + 1 ≤ 9223372036854775807) :
    ∃ u' h', (∀ k : AV → Hp → Res, (mkS h 1 1 (avL [v]) fun w h1 => apd h1 1 by_ u w k) = k u' h') ∧ Gr h' N u' (l ++ [v]) ∧ To (fun b => N ≤ b) h h' ∧ Wf h' ∧ N ≤ h'.nb := by
  obtain ⟨t, t1, t2⟩ := lay_list [v] .e 0 (by simpa using hv)
  obtain ⟨o1, o2⟩ := nw_own hw 1 .nil t
  have hrun : ∀ k : AV → Hp → Res, mkS h 1 1 (avL [v]) k = k (.sl h.nb 0 1 1 (some 1)) (nw h 1 .nil t) := fun k => by
    have e : mkS h 1 1 (avL [v]) k = lay (avL [v]) .e 0 fun t m => ifB (Nat.beq m (Nat.mul 1 1)) (k (.sl h.nb 0 1 1 (some 1)) (nw h m .nil t)) .fail := rfl
    rw [e, t1]; rfl
  have ho2 : To (fun b => N ≤ b) h (nw h 1 .nil t) := o2.mono fun _ _ f => f.elim
  have hw1 := o2.wf hw
  have hN1 : N ≤ (nw h 1 .nil t).nb := Nat.le_trans hN o2.nb
  have hu1 : Gr (nw h 1 .nil t) N u l := by
    obtain ⟨g1, g2⟩ := hu
    refine ⟨g1.to o2 (fun _ _ f => f), ?_⟩
    rcases g2 with g2 | g2 | ⟨b, B, q1, q2, q3, q4⟩
    · exact .inl g2
    · exact .inr (.inl g2)
    · refine .inr (.inr ⟨b, B, q1, ?_, q3, q4⟩)
      rcases g1.2 with ⟨e, -⟩ | ⟨e, -⟩ | ⟨b', o', c', B', e, -, h4, -⟩
      · rw [q1] at e; cases e
      · rw [q1] at e; cases e
      · rw [q1] at e; cases e
        rw [o2.get _ h4.lt (fun f => f)]; exact q2
  have hy : Sl (nw h 1 .nil t) (fun _ => True) (.sl h.nb 0 1 1 (some 1)) [v] := by
    refine ⟨by simpa using hv, .inr (.inr ⟨h.nb, 0, _, _, rfl, trivial, o1.rd, fun _ => trivial, (fun c e => by cases e; exact Nat.le_refl _), fun i hi => ?_⟩)⟩
    have hi0 : i = 0 := by simpa using hi
    subst hi0
    rw [at_in _ (show 0 + 0 < 1 by decide)]
    simp [t2]
  obtain ⟨u', h', e1, e2, e3⟩ := apd_gr (by_ := by_) hN1 hw1 hu1 hy (by simpa using hb) (by simpa using hb2)
  exact ⟨u', h', fun k => by rw [hrun, e1], e2, ho2.trans e3, e3.wf hw1, Nat.le_trans hN1 e3.nb⟩
end Go.Proofs.Ytnpfppddongbhaa
end

section
namespace Go.Proofs.Ytnpfppddongbhaa
open Go Go.AM
set_option autoImplicit false
set_option linter.unusedSimpArgs false
set_option linter.unusedVariables false
theorem b_224 : ∀ c < 256, ((((Nat.land (c % 65536) 224 % 65536 : Nat)) : Int) == 192) = decide (192 ≤ c ∧ c < 224) := by decide +kernel
theorem b_240 : ∀ c < 256, ((((Nat.land (c % 65536) 240 % 65536 : Nat)) : Int) == 224) = decide (224 ≤ c ∧ c < 240) := by decide +kernel
theorem i63 (i : Nat) (hi : i < 1000000) : wrapC 63 (i : Int) = (i : Int) := w63_in _ (by omega) (by omega)

/-- What a loop over a text comes to. -/
def Comes (r : Res) (N : Nat) (h : Hp) (l : List AV) : Option (List Nat) → Prop
  | some t => ∃ u' h', r = .exit 0 [u'] h' ∧ Gr h' N u' (l ++ t.map fun (x : Nat) => AV.int 16 (x : Int)) ∧ To (fun b => N ≤ b) h h' ∧ Wf h'
  | none => ∃ h', r = .ret (.tup (.cons .nils (.cons (.bool false) .nil))) h' ∧ To (fun b => N ≤ b) h h' ∧ Wf h'

theorem Comes.step {r : Res} {N : Nat} {h h1 : Hp} {l : List AV} {v : Nat} {o : Option (List Nat)} (ht : To (fun b => N ≤ b) h h1) (hc : Comes r N h1 (l ++ [AV.int 16 (v : Int)]) o) : Comes r N h l (o.map (v :: ·)) := by
  cases o with
  | none => obtain ⟨h', e1, e2, e3⟩ := hc; exact ⟨h', e1, ht.trans e2, e3⟩
  | some t =>
    obtain ⟨u', h', e1, e2, e3, e4⟩ := hc
    exact ⟨u', h', e1, by simpa using e2, ht.trans e3, e4⟩

theorem loop38 (n x N : Nat) (hn : n ≤ 1000) : ∀ (f m i : Nat) (h : Hp) (u : AV) (l : List AV), n - i ≤ f → f < m → i ≤ n → l.length ≤ i → Gr h N u l → N ≤ h.nb → Wf h →
    Comes (lp L38n0 m [.str n x, u, .int 63 (i : Int)] h) N h l (dec n (byteAt x) f i) := by
  have stop : ∀ (f m i : Nat) (h : Hp) (u : AV) (l : List AV), f < m → ¬ i < n → Gr h N u l → Wf h → Comes (lp L38n0 m [.str n x, u, .int 63 (i : Int)] h) N h l (some []) := by
    intro f m i h u l hm hi hu hw
    obtain ⟨m, rfl⟩ : ∃ k, m = k + 1 := ⟨m - 1, by omega⟩
    have e1 : ¬ (i : Int) < (n : Int) := by omega
    have e : L38n0 [.str n x, u, .int 63 (i : Int)] h = .exit 0 [u] h := by simp only [↓L38n0, ↓lenS_s, e1, ↓uc_c, ↓uz_n, ↓cI_i, ↓cB_b, cB_b, ↓cT_t, cT_t, nth_z, nth_1, cK_b, ↓cK_b, ↓cK_i, cK_i, ifB_t, ifB_f, ↓ap_e, sel_t, sel_f, gsel_tt, gsel_tf, gsel_ft, gsel_ff, gsel_u, gd_tt, gd_tf, gd_ft, gd_ff, gd_u, ↓jn_n, jn_n, jn_r, ↓jn_r, blk_n, blk_r, ↓cl_r, cl_r, ↓iAdd_i, ↓iSub_i, ↓iMul_i, ↓iAnd_i, ↓iOr_i, ↓iXor_i, ↓iNeg_i, iQuo_i, iRem_i, ↓iConv_i, iConv_i, ↓bNot_b, bNot_b, ↓eqN_i, ↓ltN_i, ↓eqB_b, bnot_e, Int.ofNat_eq_natCast, Int.cast_ofNat_Int, Int.reduceBEq, Int.reduceAdd, Int.reduceNeg, Int.reduceNegSucc, Int.reduceLT, Int.reduceLE, Int.reduceMul, Int.reduceTMod, Int.reduceSub, Int.reduceBNe, Bool.not_true, Bool.not_false, decide_true, decide_false, w63_in, w31_in, ne_eq, not_false_eq_true, Int.reduceEq, reduceCtorEq, ww3131, ww6363, ww3163, ww6331, ww3231, ww3263, ww6463, ww6364, sh31, sh63, sl63, m31, m63, n63, s5a, s5b, s6a, s6b, b31, b32, b63, c63, c64, d64, iShl_c, iShr_c, sr3, sr6, sr7]
    exact ⟨u, h, lp_x m e, by simpa using hu, To.refl _ _, hw⟩
  intro f
  induction f with
  | zero =>
    intro m i h u l hf hm hi hl hu hN hw
    exact stop 0 m i h u l hm (by omega) hu hw
  | succ f ih =>
    intro m i h u l hf hm hi hl hu hN hw
    by_cases hin : i < n
    · obtain ⟨m, rfl⟩ : ∃ k, m = k + 1 := ⟨m - 1, by omega⟩
      have hb := byteAt_lt x i
      have e1 : (i : Int) < (n : Int) := by omega
      have e4 : byteAt x i % 65536 = byteAt x i := by omega
      unfold dec
      rw [if_pos hin]
      by_cases c1 : 0 < byteAt x i ∧ byteAt x i < 128
      · rw [if_pos c1]
        have e2 : (0 : Int) < (byteAt x i : Int) := by omega
        have e3 : (byteAt x i : Int) < 128 := by omega
        have e6 : (i : Int) + 1 = ((i + 1 : Nat) : Int) := by omega
        obtain ⟨u', h', p1, p2, p3, p4, p5⟩ := push hN hw hu (by_ := 2) (.int 16 (byteAt x i : Int)) rfl (by omega) (by omega)
        have e : L38n0 [.str n x, u, .int 63 (i : Int)] h = .norm [.str n x, u', .int 63 ((i + 1 : Nat) : Int)] h' := by
          simp only [↓L38n0, ↓lenS_s, e1, sIdx_s n x 63 i hin, w16n, e2, e3, e4, e6, i63 (i + 1) (by omega), ↓bld1, bld1, ↓p1, ↓uc_c, ↓uz_n, ↓cI_i, ↓cB_b, cB_b, ↓cT_t, cT_t, nth_z, nth_1, cK_b, ↓cK_b, ↓cK_i, cK_i, ifB_t, ifB_f, ↓ap_e, sel_t, sel_f, gsel_tt, gsel_tf, gsel_ft, gsel_ff, gsel_u, gd_tt, gd_tf, gd_ft, gd_ff, gd_u, ↓jn_n, jn_n, jn_r, ↓jn_r, blk_n, blk_r, ↓cl_r, cl_r, ↓iAdd_i, ↓iSub_i, ↓iMul_i, ↓iAnd_i, ↓iOr_i, ↓iXor_i, ↓iNeg_i, iQuo_i, iRem_i, ↓iConv_i, iConv_i, ↓bNot_b, bNot_b, ↓eqN_i, ↓ltN_i, ↓eqB_b, bnot_e, Int.ofNat_eq_natCast, Int.cast_ofNat_Int, Int.reduceBEq, Int.reduceAdd, Int.reduceNeg, Int.reduceNegSucc, Int.reduceLT, Int.reduceLE, Int.reduceMul, Int.reduceTMod, Int.reduceSub, Int.reduceBNe, Bool.not_true, Bool.not_false, decide_true, decide_false, w63_in, w31_in, ne_eq, not_false_eq_true, Int.reduceEq, reduceCtorEq, ww3131, ww6363, ww3163, ww6331, ww3231, ww3263, ww6463, ww6364, sh31, sh63, sl63, m31, m63, n63, s5a, s5b, s6a, s6b, b31, b32, b63, c63, c64, d64, iShl_c, iShr_c, sr3, sr6, sr7]
        rw [lp_n m e]
        exact Comes.step p3 (ih m (i + 1) h' u' _ (by omega) (by omega) (by omega) (by simp; omega) p2 p5 p4)
      · rw [if_neg c1]
        have first : ∀ {r : Res}, (∀ (b : Bool), (0 : Int) < (byteAt x i : Int) ↔ 0 < byteAt x i) → r = r := fun _ => rfl
        have t1 : (decide ((0 : Int) < (byteAt x i : Int))) = false ∨ ((decide ((0 : Int) < (byteAt x i : Int))) = true ∧ (decide ((byteAt x i : Int) < 128)) = false) := by
          by_cases z : 0 < byteAt x i
          · exact .inr ⟨by simpa using z, by simp; omega⟩
          · exact .inl (by simp; omega)
        by_cases c2 : (192 ≤ byteAt x i ∧ byteAt x i < 224) ∧ ct n (byteAt x) (i + 1) = true
        · rw [if_pos c2]
          have e5 : ((((Nat.land (byteAt x i) 224 % 65536 : Nat)) : Int) == 192) = true := by have := b_224 _ hb; rw [e4] at this; rw [this]; simpa using c2.1
          have hct := c2.2
          have hi1 : i + 1 < n := by unfold ct at hct; simp at hct; omega
          have e6 : (i : Int) + 1 = ((i + 1 : Nat) : Int) := by omega
          have e7 : (i : Int) + 2 = ((i + 2 : Nat) : Int) := by omega
          have e2 : (0 : Int) < (byteAt x i : Int) := by omega
          have e3 : ¬ (byteAt x i : Int) < 128 := by omega
          obtain ⟨u', h', p1, p2, p3, p4, p5⟩ := push hN hw hu (by_ := 2) (.int 16 (v2 (byteAt x i) (byteAt x (i + 1)) : Int)) rfl (by omega) (by omega)
          have e : L38n0 [.str n x, u, .int 63 (i : Int)] h = .norm [.str n x, u', .int 63 ((i + 2 : Nat) : Int)] h' := by
            simp only [↓L38n0, ↓lenS_s, e1, sIdx_s n x 63 i hin, sIdx_s n x 63 (i + 1) hi1, w16n, e2, e3, e4, e5, e6, e7, i63 (i + 1) (by omega), i63 (i + 2) (by omega), t71, hct, toU16n, k16, toU8n, k8, w8n, shl6n, or16n, val2, ↓bld1, bld1, ↓p1, ↓uc_c, ↓uz_n, ↓cI_i, ↓cB_b, cB_b, ↓cT_t, cT_t, nth_z, nth_1, cK_b, ↓cK_b, ↓cK_i, cK_i, ifB_t, ifB_f, ↓ap_e, sel_t, sel_f, gsel_tt, gsel_tf, gsel_ft, gsel_ff, gsel_u, gd_tt, gd_tf, gd_ft, gd_ff, gd_u, ↓jn_n, jn_n, jn_r, ↓jn_r, blk_n, blk_r, ↓cl_r, cl_r, ↓iAdd_i, ↓iSub_i, ↓iMul_i, ↓iAnd_i, ↓iOr_i, ↓iXor_i, ↓iNeg_i, iQuo_i, iRem_i, ↓iConv_i, iConv_i, ↓bNot_b, bNot_b, ↓eqN_i, ↓ltN_i, ↓eqB_b, bnot_e, Int.ofNat_eq_natCast, Int.cast_ofNat_Int, Int.reduceBEq, Int.reduceAdd, Int.reduceNeg, Int.reduceNegSucc, Int.reduceLT, Int.reduceLE, Int.reduceMul, Int.reduceTMod, Int.reduceSub, Int.reduceBNe, Bool.not_true, Bool.not_false, decide_true, decide_false, w63_in, w31_in, ne_eq, not_false_eq_true, Int.reduceEq, reduceCtorEq, ww3131, ww6363, ww3163, ww6331, ww3231, ww3263, ww6463, ww6364, sh31, sh63, sl63, m31, m63, n63, s5a, s5b, s6a, s6b, b31, b32, b63, c63, c64, d64, iShl_c, iShr_c, sr3, sr6, sr7]
          rw [lp_n m e]
          exact Comes.step p3 (ih m (i + 2) h' u' _ (by omega) (by omega) (by omega) (by simp; omega) p2 p5 p4)
        · rw [if_neg c2]
          by_cases c3 : (224 ≤ byteAt x i ∧ byteAt x i < 240) ∧ ct n (byteAt x) (i + 1) = true ∧ ct n (byteAt x) (i + 2) = true
          · rw [if_pos c3]
            have e5 : ((((Nat.land (byteAt x i) 224 % 65536 : Nat)) : Int) == 192) = false := by have := b_224 _ hb; rw [e4] at this; rw [this]; simp; omega
            have e8 : ((((Nat.land (byteAt x i) 240 % 65536 : Nat)) : Int) == 224) = true := by have := b_240 _ hb; rw [e4] at this; rw [this]; simpa using c3.1
            obtain ⟨hr, hct, hct2⟩ := c3
            have hi1 : i + 2 < n := by unfold ct at hct2; simp at hct2; omega
            have e6 : (i : Int) + 1 = ((i + 1 : Nat) : Int) := by omega
            have e7 : (i : Int) + 2 = ((i + 2 : Nat) : Int) := by omega
            have e9 : (i : Int) + 3 = ((i + 3 : Nat) : Int) := by omega
            have e2 : (0 : Int) < (byteAt x i : Int) := by omega
            have e3 : ¬ (byteAt x i : Int) < 128 := by omega
            obtain ⟨u', h', p1, p2, p3, p4, p5⟩ := push hN hw hu (by_ := 2) (.int 16 (v3 (byteAt x i) (byteAt x (i + 1)) (byteAt x (i + 2)) : Int)) rfl (by omega) (by omega)
            have e : L38n0 [.str n x, u, .int 63 (i : Int)] h = .norm [.str n x, u', .int 63 ((i + 3 : Nat) : Int)] h' := by
              simp only [↓L38n0, ↓lenS_s, e1, sIdx_s n x 63 i hin, sIdx_s n x 63 (i + 1) (by omega), sIdx_s n x 63 (i + 2) hi1, w16n, e2, e3, e4, e5, e6, e7, e8, e9, i63 (i + 1) (by omega), i63 (i + 2) (by omega), i63 (i + 3) (by omega), t71, hct, hct2, toU16n, k16, toU8n, k8, w8n, shl6n, shl12n, or16n, val3, ↓bld1, bld1, ↓p1, ↓uc_c, ↓uz_n, ↓cI_i, ↓cB_b, cB_b, ↓cT_t, cT_t, nth_z, nth_1, cK_b, ↓cK_b, ↓cK_i, cK_i, ifB_t, ifB_f, ↓ap_e, sel_t, sel_f, gsel_tt, gsel_tf, gsel_ft, gsel_ff, gsel_u, gd_tt, gd_tf, gd_ft, gd_ff, gd_u, ↓jn_n, jn_n, jn_r, ↓jn_r, blk_n, blk_r, ↓cl_r, cl_r, ↓iAdd_i, ↓iSub_i, ↓iMul_i, ↓iAnd_i, ↓iOr_i, ↓iXor_i, ↓iNeg_i, iQuo_i, iRem_i, ↓iConv_i, iConv_i, ↓bNot_b, bNot_b, ↓eqN_i, ↓ltN_i, ↓eqB_b, bnot_e, Int.ofNat_eq_natCast, Int.cast_ofNat_Int, Int.reduceBEq, Int.reduceAdd, Int.reduceNeg, Int.reduceNegSucc, Int.reduceLT, Int.reduceLE, Int.reduceMul, Int.reduceTMod, Int.reduceSub, Int.reduceBNe, Bool.not_true, Bool.not_false, decide_true, decide_false, w63_in, w31_in, ne_eq, not_false_eq_true, Int.reduceEq, reduceCtorEq, ww3131, ww6363, ww3163, ww6331, ww3231, ww3263, ww6463, ww6364, sh31, sh63, sl63, m31, m63, n63, s5a, s5b, s6a, s6b, b31, b32, b63, c63, c64, d64, iShl_c, iShr_c, sr3, sr6, sr7]
            rw [lp_n m e]
            exact Comes.step p3 (ih m (i + 3) h' u' _ (by omega) (by omega) (by omega) (by simp; omega) p2 p5 p4)
          · rw [if_neg c3]
            have e6 : (i : Int) + 1 = ((i + 1 : Nat) : Int) := by omega
            have e7 : (i : Int) + 2 = ((i + 2 : Nat) : Int) := by omega
            have q5 : ((((Nat.land (byteAt x i) 224 % 65536 : Nat)) : Int) == 192) = decide (192 ≤ byteAt x i ∧ byteAt x i < 224) := by have := b_224 _ hb; rwa [e4] at this
            have q8 : ((((Nat.land (byteAt x i) 240 % 65536 : Nat)) : Int) == 224) = decide (224 ≤ byteAt x i ∧ byteAt x i < 240) := by have := b_240 _ hb; rwa [e4] at this
            have e : L38n0 [.str n x, u, .int 63 (i : Int)] h = .ret (.tup (.cons .nils (.cons (.bool false) .nil))) h := by
              by_cases d1 : 192 ≤ byteAt x i ∧ byteAt x i < 224
              · have a5 : decide (192 ≤ byteAt x i ∧ byteAt x i < 224) = true := by simpa using d1
                have a8 : decide (224 ≤ byteAt x i ∧ byteAt x i < 240) = false := by simp; omega
                have a9 : ct n (byteAt x) (i + 1) = false := by
                  cases hq : ct n (byteAt x) (i + 1) with
                  | false => rfl
                  | true => exact absurd ⟨d1, hq⟩ c2
                rcases t1 with t1 | ⟨t1, t2⟩
                · simp only [↓L38n0, ↓lenS_s, e1, sIdx_s n x 63 i hin, w16n, t1, e4, q5, q8, a5, a8, a9, e6, i63 (i + 1) (by omega), t71, toU16n, k16, cK_nl, ↓uc_c, ↓uz_n, ↓cI_i, ↓cB_b, cB_b, ↓cT_t, cT_t, nth_z, nth_1, cK_b, ↓cK_b, ↓cK_i, cK_i, ifB_t, ifB_f, ↓ap_e, sel_t, sel_f, gsel_tt, gsel_tf, gsel_ft, gsel_ff, gsel_u, gd_tt, gd_tf, gd_ft, gd_ff, gd_u, ↓jn_n, jn_n, jn_r, ↓jn_r, blk_n, blk_r, ↓cl_r, cl_r, ↓iAdd_i, ↓iSub_i, ↓iMul_i, ↓iAnd_i, ↓iOr_i, ↓iXor_i, ↓iNeg_i, iQuo_i, iRem_i, ↓iConv_i, iConv_i, ↓bNot_b, bNot_b, ↓eqN_i, ↓ltN_i, ↓eqB_b, bnot_e, Int.ofNat_eq_natCast, Int.cast_ofNat_Int, Int.reduceBEq, Int.reduceAdd, Int.reduceNeg, Int.reduceNegSucc, Int.reduceLT, Int.reduceLE, Int.reduceMul, Int.reduceTMod, Int.reduceSub, Int.reduceBNe, Bool.not_true, Bool.not_false, decide_true, decide_false, w63_in, w31_in, ne_eq, not_false_eq_true, Int.reduceEq, reduceCtorEq, ww3131, ww6363, ww3163, ww6331, ww3231, ww3263, ww6463, ww6364, sh31, sh63, sl63, m31, m63, n63, s5a, s5b, s6a, s6b, b31, b32, b63, c63, c64, d64, iShl_c, iShr_c, sr3, sr6, sr7]
                · simp only [↓L38n0, ↓lenS_s, e1, sIdx_s n x 63 i hin, w16n, t1, t2, e4, q5, q8, a5, a8, a9, e6, i63 (i + 1) (by omega), t71, toU16n, k16, cK_nl, ↓uc_c, ↓uz_n, ↓cI_i, ↓cB_b, cB_b, ↓cT_t, cT_t, nth_z, nth_1, cK_b, ↓cK_b, ↓cK_i, cK_i, ifB_t, ifB_f, ↓ap_e, sel_t, sel_f, gsel_tt, gsel_tf, gsel_ft, gsel_ff, gsel_u, gd_tt, gd_tf, gd_ft, gd_ff, gd_u, ↓jn_n, jn_n, jn_r, ↓jn_r, blk_n, blk_r, ↓cl_r, cl_r, ↓iAdd_i, ↓iSub_i, ↓iMul_i, ↓iAnd_i, ↓iOr_i, ↓iXor_i, ↓iNeg_i, iQuo_i, iRem_i, ↓iConv_i, iConv_i, ↓bNot_b, bNot_b, ↓eqN_i, ↓ltN_i, ↓eqB_b, bnot_e, Int.ofNat_eq_natCast, Int.cast_ofNat_Int, Int.reduceBEq, Int.reduceAdd, Int.reduceNeg, Int.reduceNegSucc, Int.reduceLT, Int.reduceLE, Int.reduceMul, Int.reduceTMod, Int.reduceSub, Int.reduceBNe, Bool.not_true, Bool.not_false, decide_true, decide_false, w63_in, w31_in, ne_eq, not_false_eq_true, Int.reduceEq, reduceCtorEq, ww3131, ww6363, ww3163, ww6331, ww3231, ww3263, ww6463, ww6364, sh31, sh63, sl63, m31, m63, n63, s5a, s5b, s6a, s6b, b31, b32, b63, c63, c64, d64, iShl_c, iShr_c, sr3, sr6, sr7]
              · have a5 : decide (192 ≤ byteAt x i ∧ byteAt x i < 224) = false := by simpa using d1
                by_cases d2 : 224 ≤ byteAt x i ∧ byteAt x i < 240
                · have a8 : decide (224 ≤ byteAt x i ∧ byteAt x i < 240) = true := by simpa using d2
                  cases g1 : ct n (byteAt x) (i + 1) with
                  | false =>
                    rcases t1 with t1 | ⟨t1, t2⟩
                    · simp only [↓L38n0, ↓lenS_s, e1, sIdx_s n x 63 i hin, w16n, t1, e4, q5, q8, a5, a8, g1, e6, i63 (i + 1) (by omega), t71, toU16n, k16, cK_nl, ↓uc_c, ↓uz_n, ↓cI_i, ↓cB_b, cB_b, ↓cT_t, cT_t, nth_z, nth_1, cK_b, ↓cK_b, ↓cK_i, cK_i, ifB_t, ifB_f, ↓ap_e, sel_t, sel_f, gsel_tt, gsel_tf, gsel_ft, gsel_ff, gsel_u, gd_tt, gd_tf, gd_ft, gd_ff, gd_u, ↓jn_n, jn_n, jn_r, ↓jn_r, blk_n, blk_r, ↓cl_r, cl_r, ↓iAdd_i, ↓iSub_i, ↓iMul_i, ↓iAnd_i, ↓iOr_i, ↓iXor_i, ↓iNeg_i, iQuo_i, iRem_i, ↓iConv_i, iConv_i, ↓bNot_b, bNot_b, ↓eqN_i, ↓ltN_i, ↓eqB_b, bnot_e, Int.ofNat_eq_natCast, Int.cast_ofNat_Int, Int.reduceBEq, Int.reduceAdd, Int.reduceNeg, Int.reduceNegSucc, Int.reduceLT, Int.reduceLE, Int.reduceMul, Int.reduceTMod, Int.reduceSub, Int.reduceBNe, Bool.not_true, Bool.not_false, decide_true, decide_false, w63_in, w31_in, ne_eq, not_false_eq_true, Int.reduceEq, reduceCtorEq, ww3131, ww6363, ww3163, ww6331, ww3231, ww3263, ww6463, ww6364, sh31, sh63, sl63, m31, m63, n63, s5a, s5b, s6a, s6b, b31, b32, b63, c63, c64, d64, iShl_c, iShr_c, sr3, sr6, sr7]
                    · simp only [↓L38n0, ↓lenS_s, e1, sIdx_s n x 63 i hin, w16n, t1, t2, e4, q5, q8, a5, a8, g1, e6, i63 (i + 1) (by omega), t71, toU16n, k16, cK_nl, ↓uc_c, ↓uz_n, ↓cI_i, ↓cB_b, cB_b, ↓cT_t, cT_t, nth_z, nth_1, cK_b, ↓cK_b, ↓cK_i, cK_i, ifB_t, ifB_f, ↓ap_e, sel_t, sel_f, gsel_tt, gsel_tf, gsel_ft, gsel_ff, gsel_u, gd_tt, gd_tf, gd_ft, gd_ff, gd_u, ↓jn_n, jn_n, jn_r, ↓jn_r, blk_n, blk_r, ↓cl_r, cl_r, ↓iAdd_i, ↓iSub_i, ↓iMul_i, ↓iAnd_i, ↓iOr_i, ↓iXor_i, ↓iNeg_i, iQuo_i, iRem_i, ↓iConv_i, iConv_i, ↓bNot_b, bNot_b, ↓eqN_i, ↓ltN_i, ↓eqB_b, bnot_e, Int.ofNat_eq_natCast, Int.cast_ofNat_Int, Int.reduceBEq, Int.reduceAdd, Int.reduceNeg, Int.reduceNegSucc, Int.reduceLT, Int.reduceLE, Int.reduceMul, Int.reduceTMod, Int.reduceSub, Int.reduceBNe, Bool.not_true, Bool.not_false, decide_true, decide_false, w63_in, w31_in, ne_eq, not_false_eq_true, Int.reduceEq, reduceCtorEq, ww3131, ww6363, ww3163, ww6331, ww3231, ww3263, ww6463, ww6364, sh31, sh63, sl63, m31, m63, n63, s5a, s5b, s6a, s6b, b31, b32, b63, c63, c64, d64, iShl_c, iShr_c, sr3, sr6, sr7]
                  | true =>
                    have g2 : ct n (byteAt x) (i + 2) = false := by
                      cases hq : ct n (byteAt x) (i + 2) with
                      | false => rfl
                      | true => exact absurd ⟨d2, g1, hq⟩ c3
                    rcases t1 with t1 | ⟨t1, t2⟩
                    · simp only [↓L38n0, ↓lenS_s, e1, sIdx_s n x 63 i hin, w16n, t1, e4, q5, q8, a5, a8, g1, g2, e6, e7, i63 (i + 1) (by omega), i63 (i + 2) (by omega), t71, toU16n, k16, cK_nl, ↓uc_c, ↓uz_n, ↓cI_i, ↓cB_b, cB_b, ↓cT_t, cT_t, nth_z, nth_1, cK_b, ↓cK_b, ↓cK_i, cK_i, ifB_t, ifB_f, ↓ap_e, sel_t, sel_f, gsel_tt, gsel_tf, gsel_ft, gsel_ff, gsel_u, gd_tt, gd_tf, gd_ft, gd_ff, gd_u, ↓jn_n, jn_n, jn_r, ↓jn_r, blk_n, blk_r, ↓cl_r, cl_r, ↓iAdd_i, ↓iSub_i, ↓iMul_i, ↓iAnd_i, ↓iOr_i, ↓iXor_i, ↓iNeg_i, iQuo_i, iRem_i, ↓iConv_i, iConv_i, ↓bNot_b, bNot_b, ↓eqN_i, ↓ltN_i, ↓eqB_b, bnot_e, Int.ofNat_eq_natCast, Int.cast_ofNat_Int, Int.reduceBEq, Int.reduceAdd, Int.reduceNeg, Int.reduceNegSucc, Int.reduceLT, Int.reduceLE, Int.reduceMul, Int.reduceTMod, Int.reduceSub, Int.reduceBNe, Bool.not_true, Bool.not_false, decide_true, decide_false, w63_in, w31_in, ne_eq, not_false_eq_true, Int.reduceEq, reduceCtorEq, ww3131, ww6363, ww3163, ww6331, ww3231, ww3263, ww6463, ww6364, sh31, sh63, sl63, m31, m63, n63, s5a, s5b, s6a, s6b, b31, b32, b63, c63, c64, d64, iShl_c, iShr_c, sr3, sr6, sr7]
                    · simp only [↓L38n0, ↓lenS_s, e1, sIdx_s n x 63 i hin, w16n, t1, t2, e4, q5, q8, a5, a8, g1, g2, e6, e7, i63 (i + 1) (by omega), i63 (i + 2) (by omega), t71, toU16n, k16, cK_nl, ↓uc_c, ↓uz_n, ↓cI_i, ↓cB_b, cB_b, ↓cT_t, cT_t, nth_z, nth_1, cK_b, ↓cK_b, ↓cK_i, cK_i, ifB_t, ifB_f, ↓ap_e, sel_t, sel_f, gsel_tt, gsel_tf, gsel_ft, gsel_ff, gsel_u, gd_tt, gd_tf, gd_ft, gd_ff, gd_u, ↓jn_n, jn_n, jn_r, ↓jn_r, blk_n, blk_r, ↓cl_r, cl_r, ↓iAdd_i, ↓iSub_i, ↓iMul_i, ↓iAnd_i, ↓iOr_i, ↓iXor_i, ↓iNeg_i, iQuo_i, iRem_i, ↓iConv_i, iConv_i, ↓bNot_b, bNot_b, ↓eqN_i, ↓ltN_i, ↓eqB_b, bnot_e, Int.ofNat_eq_natCast, Int.cast_ofNat_Int, Int.reduceBEq, Int.reduceAdd, Int.reduceNeg, Int.reduceNegSucc, Int.reduceLT, Int.reduceLE, Int.reduceMul, Int.reduceTMod, Int.reduceSub, Int.reduceBNe, Bool.not_true, Bool.not_false, decide_true, decide_false, w63_in, w31_in, ne_eq, not_false_eq_true, Int.reduceEq, reduceCtorEq, ww3131, ww6363, ww3163, ww6331, ww3231, ww3263, ww6463, ww6364, sh31, sh63, sl63, m31, m63, n63, s5a, s5b, s6a, s6b, b31, b32, b63, c63, c64, d64, iShl_c, iShr_c, sr3, sr6, sr7]
                · have a8 : decide (224 ≤ byteAt x i ∧ byteAt x i < 240) = false := by simpa using d2
                  rcases t1 with t1 | ⟨t1, t2⟩
                  · simp only [↓L38n0, ↓lenS_s, e1, sIdx_s n x 63 i hin, w16n, t1, e4, q5, q8, a5, a8, toU16n, k16, cK_nl, ↓uc_c, ↓uz_n, ↓cI_i, ↓cB_b, cB_b, ↓cT_t, cT_t, nth_z, nth_1, cK_b, ↓cK_b, ↓cK_i, cK_i, ifB_t, ifB_f, ↓ap_e, sel_t, sel_f, gsel_tt, gsel_tf, gsel_ft, gsel_ff, gsel_u, gd_tt, gd_tf, gd_ft, gd_ff, gd_u, ↓jn_n, jn_n, jn_r, ↓jn_r, blk_n, blk_r, ↓cl_r, cl_r, ↓iAdd_i, ↓iSub_i, ↓iMul_i, ↓iAnd_i, ↓iOr_i, ↓iXor_i, ↓iNeg_i, iQuo_i, iRem_i, ↓iConv_i, iConv_i, ↓bNot_b, bNot_b, ↓eqN_i, ↓ltN_i, ↓eqB_b, bnot_e, Int.ofNat_eq_natCast, Int.cast_ofNat_Int, Int.reduceBEq, Int.reduceAdd, Int.reduceNeg, Int.reduceNegSucc, Int.reduceLT, Int.reduceLE, Int.reduceMul, Int.reduceTMod, Int.reduceSub, Int.reduceBNe, Bool.not_true, Bool.not_false, decide_true, decide_false, w63_in, w31_in, ne_eq, not_false_eq_true, Int.reduceEq, reduceCtorEq, ww3131, ww6363, ww3163, ww6331, ww3231, ww3263, ww6463, ww6364, sh31, sh63, sl63, m31, m63, n63, s5a, s5b, s6a, s6b, b31, b32, b63, c63, c64, d64, iShl_c, iShr_c, sr3, sr6, sr7]
                  · simp only [↓L38n0, ↓lenS_s, e1, sIdx_s n x 63 i hin, w16n, t1, t2, e4, q5, q8, a5, a8, toU16n, k16, cK_nl, ↓uc_c, ↓uz_n, ↓cI_i, ↓cB_b, cB_b, ↓cT_t, cT_t, nth_z, nth_1, cK_b, ↓cK_b, ↓cK_i, cK_i, ifB_t, ifB_f, ↓ap_e, sel_t, sel_f, gsel_tt, gsel_tf, gsel_ft, gsel_ff, gsel_u, gd_tt, gd_tf, gd_ft, gd_ff, gd_u, ↓jn_n, jn_n, jn_r, ↓jn_r, blk_n, blk_r, ↓cl_r, cl_r, ↓iAdd_i, ↓iSub_i, ↓iMul_i, ↓iAnd_i, ↓iOr_i, ↓iXor_i, ↓iNeg_i, iQuo_i, iRem_i, ↓iConv_i, iConv_i, ↓bNot_b, bNot_b, ↓eqN_i, ↓ltN_i, ↓eqB_b, bnot_e, Int.ofNat_eq_natCast, Int.cast_ofNat_Int, Int.reduceBEq, Int.reduceAdd, Int.reduceNeg, Int.reduceNegSucc, Int.reduceLT, Int.reduceLE, Int.reduceMul, Int.reduceTMod, Int.reduceSub, Int.reduceBNe, Bool.not_true, Bool.not_false, decide_true, decide_false, w63_in, w31_in, ne_eq, not_false_eq_true, Int.reduceEq, reduceCtorEq, ww3131, ww6363, ww3163, ww6331, ww3231, ww3263, ww6463, ww6364, sh31, sh63, sl63, m31, m63, n63, s5a, s5b, s6a, s6b, b31, b32, b63, c63, c64, d64, iShl_c, iShr_c, sr3, sr6, sr7]
            exact ⟨h, lp_r m e, To.refl _ _, hw⟩
    · have : dec n (byteAt x) (f + 1) i = some [] := by unfold dec; rw [if_neg hin]
      rw [this]
      exact stop (f + 1) m i h u l hm hin hu hw
end Go.Proofs.Ytnpfppddongbhaa
end

section
namespace Go.Proofs.Ytnpfppddongbhaa
open Go Go.AM
set_option autoImplicit false
set_option linter.unusedSimpArgs false
set_option linter.unusedVariables false
theorem c_224 : ∀ c < 256, ((((Nat.land (c % 256) 224 % 256 : Nat)) : Int) == 192) = decide (192 ≤ c ∧ c < 224) := by decide +kernel
theorem c_240 : ∀ c < 256, ((((Nat.land (c % 256) 240 % 256 : Nat)) : Int) == 224) = decide (224 ≤ c ∧ c < 240) := by decide +kernel
theorem val2' (c y : Nat) (hc : c < 256) : (Nat.land (c % 256) 31 % 256 % 65536 * 64 % 65536 + y % 64) % 65536 = v2 c y := by
  rw [land31]; unfold v2; omega
theorem val3' (c y z : Nat) (hc : c < 256) : ((Nat.land (c % 256) 15 % 256 % 65536 * 4096 % 65536 + y % 64 * 64 % 65536) % 65536 + z % 64) % 65536 = v3 c y z := by
  rw [land15]; unfold v3; omega
theorem wadd16 (a b : Nat) : wrapC 16 ((a : Int) + (b : Int)) = (((a + b) % 65536 : Nat) : Int) := by rw [w16]; omega
theorem two16 (x : Int) (b : Bool) (k : AV → Res) : cT (.tup (.cons (.int 16 x) (.cons (.bool b) .nil))) k = k (.cons (.int 16 x) (.cons (.bool b) .nil)) := of_eq_true (eq_self _)

theorem loop39 (n x N : Nat) (hn : n ≤ 1000) : ∀ (f m i : Nat) (h : Hp) (u : AV) (l : List AV), n - i ≤ f → f < m → i ≤ n → l.length ≤ i → Gr h N u l → N ≤ h.nb → Wf h →
    Comes (lp L39n0 m [.str n x, u, .int 63 (i : Int)] h) N h l (dec n (byteAt x) f i) := by
  have stop : ∀ (f m i : Nat) (h : Hp) (u : AV) (l : List AV), f < m → ¬ i < n → Gr h N u l → Wf h → Comes (lp L39n0 m [.str n x, u, .int 63 (i : Int)] h) N h l (some []) := by
    intro f m i h u l hm hi hu hw
    obtain ⟨m, rfl⟩ : ∃ k, m = k + 1 := ⟨m - 1, by omega⟩
    have e1 : ¬ (i : Int) < (n : Int) := by omega
    have e : L39n0 [.str n x, u, .int 63 (i : Int)] h = .exit 0 [u] h := by simp only [↓L39n0, ↓lenS_s, e1, ↓uc_c, ↓uz_n, ↓cI_i, ↓cB_b, cB_b, ↓cT_t, cT_t, nth_z, nth_1, cK_b, ↓cK_b, ↓cK_i, cK_i, ifB_t, ifB_f, ↓ap_e, sel_t, sel_f, gsel_tt, gsel_tf, gsel_ft, gsel_ff, gsel_u, gd_tt, gd_tf, gd_ft, gd_ff, gd_u, ↓jn_n, jn_n, jn_r, ↓jn_r, blk_n, blk_r, ↓cl_r, cl_r, ↓iAdd_i, ↓iSub_i, ↓iMul_i, ↓iAnd_i, ↓iOr_i, ↓iXor_i, ↓iNeg_i, iQuo_i, iRem_i, ↓iConv_i, iConv_i, ↓bNot_b, bNot_b, ↓eqN_i, ↓ltN_i, ↓eqB_b, bnot_e, Int.ofNat_eq_natCast, Int.cast_ofNat_Int, Int.reduceBEq, Int.reduceAdd, Int.reduceNeg, Int.reduceNegSucc, Int.reduceLT, Int.reduceLE, Int.reduceMul, Int.reduceTMod, Int.reduceSub, Int.reduceBNe, Bool.not_true, Bool.not_false, decide_true, decide_false, w63_in, w31_in, ne_eq, not_false_eq_true, Int.reduceEq, reduceCtorEq, ww3131, ww6363, ww3163, ww6331, ww3231, ww3263, ww6463, ww6364, sh31, sh63, sl63, m31, m63, n63, s5a, s5b, s6a, s6b, b31, b32, b63, c63, c64, d64, iShl_c, iShr_c, sr3, sr6, sr7]
    exact ⟨u, h, lp_x m e, by simpa using hu, To.refl _ _, hw⟩
  intro f
  induction f with
  | zero =>
    intro m i h u l hf hm hi hl hu hN hw
    exact stop 0 m i h u l hm (by omega) hu hw
  | succ f ih =>
    intro m i h u l hf hm hi hl hu hN hw
    by_cases hin : i < n
    · obtain ⟨m, rfl⟩ : ∃ k, m = k + 1 := ⟨m - 1, by omega⟩
      have hb := byteAt_lt x i
      have e1 : (i : Int) < (n : Int) := by omega
      have e4 : byteAt x i % 65536 = byteAt x i := by omega
      have q5 := c_224 _ hb
      have q8 := c_240 _ hb
      unfold dec
      rw [if_pos hin]
      by_cases c1 : 0 < byteAt x i ∧ byteAt x i < 128
      · rw [if_pos c1]
        have e2 : ¬ (byteAt x i : Int) < 1 := by omega
        have e3 : ¬ 127 < (byteAt x i : Int) := by omega
        have e6 : (i : Int) + 1 = ((i + 1 : Nat) : Int) := by omega
        obtain ⟨u', h', p1, p2, p3, p4, p5⟩ := push hN hw hu (by_ := 2) (.int 16 (byteAt x i : Int)) rfl (by omega) (by omega)
        have e : L39n0 [.str n x, u, .int 63 (i : Int)] h = .norm [.str n x, u', .int 63 ((i + 1 : Nat) : Int)] h' := by
          simp only [↓L39n0, ↓lenS_s, e1, sIdx_s n x 63 i hin, w16n, e2, e3, e4, e6, i63 (i + 1) (by omega), ↓bld1, bld1, ↓p1, ↓uc_c, ↓uz_n, ↓cI_i, ↓cB_b, cB_b, ↓cT_t, cT_t, nth_z, nth_1, cK_b, ↓cK_b, ↓cK_i, cK_i, ifB_t, ifB_f, ↓ap_e, sel_t, sel_f, gsel_tt, gsel_tf, gsel_ft, gsel_ff, gsel_u, gd_tt, gd_tf, gd_ft, gd_ff, gd_u, ↓jn_n, jn_n, jn_r, ↓jn_r, blk_n, blk_r, ↓cl_r, cl_r, ↓iAdd_i, ↓iSub_i, ↓iMul_i, ↓iAnd_i, ↓iOr_i, ↓iXor_i, ↓iNeg_i, iQuo_i, iRem_i, ↓iConv_i, iConv_i, ↓bNot_b, bNot_b, ↓eqN_i, ↓ltN_i, ↓eqB_b, bnot_e, Int.ofNat_eq_natCast, Int.cast_ofNat_Int, Int.reduceBEq, Int.reduceAdd, Int.reduceNeg, Int.reduceNegSucc, Int.reduceLT, Int.reduceLE, Int.reduceMul, Int.reduceTMod, Int.reduceSub, Int.reduceBNe, Bool.not_true, Bool.not_false, decide_true, decide_false, w63_in, w31_in, ne_eq, not_false_eq_true, Int.reduceEq, reduceCtorEq, ww3131, ww6363, ww3163, ww6331, ww3231, ww3263, ww6463, ww6364, sh31, sh63, sl63, m31, m63, n63, s5a, s5b, s6a, s6b, b31, b32, b63, c63, c64, d64, iShl_c, iShr_c, sr3, sr6, sr7]
        rw [lp_n m e]
        exact Comes.step p3 (ih m (i + 1) h' u' _ (by omega) (by omega) (by omega) (by simp; omega) p2 p5 p4)
      · rw [if_neg c1]
        have t1 : (decide ((byteAt x i : Int) < 1)) = true ∨ ((decide ((byteAt x i : Int) < 1)) = false ∧ (decide (127 < (byteAt x i : Int))) = true) := by
          by_cases z : 0 < byteAt x i
          · exact .inr ⟨by simp; omega, by simp; omega⟩
          · exact .inl (by simp; omega)
        by_cases c2 : (192 ≤ byteAt x i ∧ byteAt x i < 224) ∧ ct n (byteAt x) (i + 1) = true
        · rw [if_pos c2]
          have a5 : decide (192 ≤ byteAt x i ∧ byteAt x i < 224) = true := by simpa using c2.1
          have hct := c2.2
          have hi1 : i + 1 < n := by unfold ct at hct; simp at hct; omega
          have e6 : (i : Int) + 1 = ((i + 1 : Nat) : Int) := by omega
          have e7 : (i : Int) + 2 = ((i + 2 : Nat) : Int) := by omega
          have e2 : ¬ (byteAt x i : Int) < 1 := by omega
          have e3 : 127 < (byteAt x i : Int) := by omega
          have e10 := t72 n x (i + 1)
          rw [hct] at e10
          simp only [if_true] at e10
          have e11 := val2' (byteAt x i) (byteAt x (i + 1)) hb
          obtain ⟨u', h', p1, p2, p3, p4, p5⟩ := push hN hw hu (by_ := 2) (.int 16 (v2 (byteAt x i) (byteAt x (i + 1)) : Int)) rfl (by omega) (by omega)
          have e : L39n0 [.str n x, u, .int 63 (i : Int)] h = .norm [.str n x, u', .int 63 ((i + 2 : Nat) : Int)] h' := by
            simp only [↓L39n0, ↓lenS_s, e1, sIdx_s n x 63 i hin, w16n, e2, e3, q5, a5, e6, e7, i63 (i + 1) (by omega), i63 (i + 2) (by omega), e10, e11, two16, toU8n, k8, w8n, shl6n, wadd16, ↓bld1, bld1, ↓p1, ↓uc_c, ↓uz_n, ↓cI_i, ↓cB_b, cB_b, ↓cT_t, cT_t, nth_z, nth_1, cK_b, ↓cK_b, ↓cK_i, cK_i, ifB_t, ifB_f, ↓ap_e, sel_t, sel_f, gsel_tt, gsel_tf, gsel_ft, gsel_ff, gsel_u, gd_tt, gd_tf, gd_ft, gd_ff, gd_u, ↓jn_n, jn_n, jn_r, ↓jn_r, blk_n, blk_r, ↓cl_r, cl_r, ↓iAdd_i, ↓iSub_i, ↓iMul_i, ↓iAnd_i, ↓iOr_i, ↓iXor_i, ↓iNeg_i, iQuo_i, iRem_i, ↓iConv_i, iConv_i, ↓bNot_b, bNot_b, ↓eqN_i, ↓ltN_i, ↓eqB_b, bnot_e, Int.ofNat_eq_natCast, Int.cast_ofNat_Int, Int.reduceBEq, Int.reduceAdd, Int.reduceNeg, Int.reduceNegSucc, Int.reduceLT, Int.reduceLE, Int.reduceMul, Int.reduceTMod, Int.reduceSub, Int.reduceBNe, Bool.not_true, Bool.not_false, decide_true, decide_false, w63_in, w31_in, ne_eq, not_false_eq_true, Int.reduceEq, reduceCtorEq, ww3131, ww6363, ww3163, ww6331, ww3231, ww3263, ww6463, ww6364, sh31, sh63, sl63, m31, m63, n63, s5a, s5b, s6a, s6b, b31, b32, b63, c63, c64, d64, iShl_c, iShr_c, sr3, sr6, sr7]
          rw [lp_n m e]
          exact Comes.step p3 (ih m (i + 2) h' u' _ (by omega) (by omega) (by omega) (by simp; omega) p2 p5 p4)
        · rw [if_neg c2]
          by_cases c3 : (224 ≤ byteAt x i ∧ byteAt x i < 240) ∧ ct n (byteAt x) (i + 1) = true ∧ ct n (byteAt x) (i + 2) = true
          · rw [if_pos c3]
            have a5 : decide (192 ≤ byteAt x i ∧ byteAt x i < 224) = false := by simp; omega
            have a8 : decide (224 ≤ byteAt x i ∧ byteAt x i < 240) = true := by simpa using c3.1
            obtain ⟨hr, hct, hct2⟩ := c3
            have hi1 : i + 2 < n := by unfold ct at hct2; simp at hct2; omega
            have e6 : (i : Int) + 1 = ((i + 1 : Nat) : Int) := by omega
            have e7 : (i : Int) + 2 = ((i + 2 : Nat) : Int) := by omega
            have e9 : (i : Int) + 3 = ((i + 3 : Nat) : Int) := by omega
            have e2 : ¬ (byteAt x i : Int) < 1 := by omega
            have e3 : 127 < (byteAt x i : Int) := by omega
            have e10 := t72 n x (i + 1)
            rw [hct] at e10
            simp only [if_true] at e10
            have e12 := t72 n x (i + 2)
            rw [hct2] at e12
            simp only [if_true] at e12
            have e11 := val3' (byteAt x i) (byteAt x (i + 1)) (byteAt x (i + 2)) hb
            obtain ⟨u', h', p1, p2, p3, p4, p5⟩ := push hN hw hu (by_ := 2) (.int 16 (v3 (byteAt x i) (byteAt x (i + 1)) (byteAt x (i + 2)) : Int)) rfl (by omega) (by omega)
            have e : L39n0 [.str n x, u, .int 63 (i : Int)] h = .norm [.str n x, u', .int 63 ((i + 3 : Nat) : Int)] h' := by
              simp only [↓L39n0, ↓lenS_s, e1, sIdx_s n x 63 i hin, w16n, e2, e3, q5, a5, q8, a8, e6, e7, e9, i63 (i + 1) (by omega), i63 (i + 2) (by omega), i63 (i + 3) (by omega), e10, e11, e12, two16, toU8n, k8, w8n, shl6n, shl12n, wadd16, ↓bld1, bld1, ↓p1, ↓uc_c, ↓uz_n, ↓cI_i, ↓cB_b, cB_b, ↓cT_t, cT_t, nth_z, nth_1, cK_b, ↓cK_b, ↓cK_i, cK_i, ifB_t, ifB_f, ↓ap_e, sel_t, sel_f, gsel_tt, gsel_tf, gsel_ft, gsel_ff, gsel_u, gd_tt, gd_tf, gd_ft, gd_ff, gd_u, ↓jn_n, jn_n, jn_r, ↓jn_r, blk_n, blk_r, ↓cl_r, cl_r, ↓iAdd_i, ↓iSub_i, ↓iMul_i, ↓iAnd_i, ↓iOr_i, ↓iXor_i, ↓iNeg_i, iQuo_i, iRem_i, ↓iConv_i, iConv_i, ↓bNot_b, bNot_b, ↓eqN_i, ↓ltN_i, ↓eqB_b, bnot_e, Int.ofNat_eq_natCast, Int.cast_ofNat_Int, Int.reduceBEq, Int.reduceAdd, Int.reduceNeg, Int.reduceNegSucc, Int.reduceLT, Int.reduceLE, Int.reduceMul, Int.reduceTMod, Int.reduceSub, Int.reduceBNe, Bool.not_true, Bool.not_false, decide_true, decide_false, w63_in, w31_in, ne_eq, not_false_eq_true, Int.reduceEq, reduceCtorEq, ww3131, ww6363, ww3163, ww6331, ww3231, ww3263, ww6463, ww6364, sh31, sh63, sl63, m31, m63, n63, s5a, s5b, s6a, s6b, b31, b32, b63, c63, c64, d64, iShl_c, iShr_c, sr3, sr6, sr7]
            rw [lp_n m e]
            exact Comes.step p3 (ih m (i + 3) h' u' _ (by omega) (by omega) (by omega) (by simp; omega) p2 p5 p4)
          · rw [if_neg c3]
            have e6 : (i : Int) + 1 = ((i + 1 : Nat) : Int) := by omega
            have e7 : (i : Int) + 2 = ((i + 2 : Nat) : Int) := by omega
            have e : L39n0 [.str n x, u, .int 63 (i : Int)] h = .ret (.tup (.cons .nils (.cons (.bool false) .nil))) h := by
              by_cases d1 : 192 ≤ byteAt x i ∧ byteAt x i < 224
              · have a5 : decide (192 ≤ byteAt x i ∧ byteAt x i < 224) = true := by simpa using d1
                have a9 : ct n (byteAt x) (i + 1) = false := by
                  cases hq : ct n (byteAt x) (i + 1) with
                  | false => rfl
                  | true => exact absurd ⟨d1, hq⟩ c2
                rcases t1 with t1 | ⟨t1, t2⟩
                · simp only [↓L39n0, ↓lenS_s, e1, sIdx_s n x 63 i hin, w16n, t1, q5, a5, a9, e6, i63 (i + 1) (by omega), t72, two16, toU8n, k8, w8n, cK_nl, ↓uc_c, ↓uz_n, ↓cI_i, ↓cB_b, cB_b, ↓cT_t, cT_t, nth_z, nth_1, cK_b, ↓cK_b, ↓cK_i, cK_i, ifB_t, ifB_f, ↓ap_e, sel_t, sel_f, gsel_tt, gsel_tf, gsel_ft, gsel_ff, gsel_u, gd_tt, gd_tf, gd_ft, gd_ff, gd_u, ↓jn_n, jn_n, jn_r, ↓jn_r, blk_n, blk_r, ↓cl_r, cl_r, ↓iAdd_i, ↓iSub_i, ↓iMul_i, ↓iAnd_i, ↓iOr_i, ↓iXor_i, ↓iNeg_i, iQuo_i, iRem_i, ↓iConv_i, iConv_i, ↓bNot_b, bNot_b, ↓eqN_i, ↓ltN_i, ↓eqB_b, bnot_e, Int.ofNat_eq_natCast, Int.cast_ofNat_Int, Int.reduceBEq, Int.reduceAdd, Int.reduceNeg, Int.reduceNegSucc, Int.reduceLT, Int.reduceLE, Int.reduceMul, Int.reduceTMod, Int.reduceSub, Int.reduceBNe, Bool.not_true, Bool.not_false, decide_true, decide_false, w63_in, w31_in, ne_eq, not_false_eq_true, Int.reduceEq, reduceCtorEq, ww3131, ww6363, ww3163, ww6331, ww3231, ww3263, ww6463, ww6364, sh31, sh63, sl63, m31, m63, n63, s5a, s5b, s6a, s6b, b31, b32, b63, c63, c64, d64, iShl_c, iShr_c, sr3, sr6, sr7]
                · simp only [↓L39n0, ↓lenS_s, e1, sIdx_s n x 63 i hin, w16n, t1, t2, q5, a5, a9, e6, i63 (i + 1) (by omega), t72, two16, toU8n, k8, w8n, cK_nl, ↓uc_c, ↓uz_n, ↓cI_i, ↓cB_b, cB_b, ↓cT_t, cT_t, nth_z, nth_1, cK_b, ↓cK_b, ↓cK_i, cK_i, ifB_t, ifB_f, ↓ap_e, sel_t, sel_f, gsel_tt, gsel_tf, gsel_ft, gsel_ff, gsel_u, gd_tt, gd_tf, gd_ft, gd_ff, gd_u, ↓jn_n, jn_n, jn_r, ↓jn_r, blk_n, blk_r, ↓cl_r, cl_r, ↓iAdd_i, ↓iSub_i, ↓iMul_i, ↓iAnd_i, ↓iOr_i, ↓iXor_i, ↓iNeg_i, iQuo_i, iRem_i, ↓iConv_i, iConv_i, ↓bNot_b, bNot_b, ↓eqN_i, ↓ltN_i, ↓eqB_b, bnot_e, Int.ofNat_eq_natCast, Int.cast_ofNat_Int, Int.reduceBEq, Int.reduceAdd, Int.reduceNeg, Int.reduceNegSucc, Int.reduceLT, Int.reduceLE, Int.reduceMul, Int.reduceTMod, Int.reduceSub, Int.reduceBNe, Bool.not_true, Bool.not_false, decide_true, decide_false, w63_in, w31_in, ne_eq, not_false_eq_true, Int.reduceEq, reduceCtorEq, ww3131, ww6363, ww3163, ww6331, ww3231, ww3263, ww6463, ww6364, sh31, sh63, sl63, m31, m63, n63, s5a, s5b, s6a, s6b, b31, b32, b63, c63, c64, d64, iShl_c, iShr_c, sr3, sr6, sr7]
              · have a5 : decide (192 ≤ byteAt x i ∧ byteAt x i < 224) = false := by simpa using d1
                by_cases d2 : 224 ≤ byteAt x i ∧ byteAt x i < 240
                · have a8 : decide (224 ≤ byteAt x i ∧ byteAt x i < 240) = true := by simpa using d2
                  cases g1 : ct n (byteAt x) (i + 1) with
                  | false =>
                    rcases t1 with t1 | ⟨t1, t2⟩
                    · simp only [↓L39n0, ↓lenS_s, e1, sIdx_s n x 63 i hin, w16n, t1, q5, q8, a5, a8, g1, e6, e7, i63 (i + 1) (by omega), i63 (i + 2) (by omega), t72, two16, toU8n, k8, w8n, cK_nl, ↓uc_c, ↓uz_n, ↓cI_i, ↓cB_b, cB_b, ↓cT_t, cT_t, nth_z, nth_1, cK_b, ↓cK_b, ↓cK_i, cK_i, ifB_t, ifB_f, ↓ap_e, sel_t, sel_f, gsel_tt, gsel_tf, gsel_ft, gsel_ff, gsel_u, gd_tt, gd_tf, gd_ft, gd_ff, gd_u, ↓jn_n, jn_n, jn_r, ↓jn_r, blk_n, blk_r, ↓cl_r, cl_r, ↓iAdd_i, ↓iSub_i, ↓iMul_i, ↓iAnd_i, ↓iOr_i, ↓iXor_i, ↓iNeg_i, iQuo_i, iRem_i, ↓iConv_i, iConv_i, ↓bNot_b, bNot_b, ↓eqN_i, ↓ltN_i, ↓eqB_b, bnot_e, Int.ofNat_eq_natCast, Int.cast_ofNat_Int, Int.reduceBEq, Int.reduceAdd, Int.reduceNeg, Int.reduceNegSucc, Int.reduceLT, Int.reduceLE, Int.reduceMul, Int.reduceTMod, Int.reduceSub, Int.reduceBNe, Bool.not_true, Bool.not_false, decide_true, decide_false, w63_in, w31_in, ne_eq, not_false_eq_true, Int.reduceEq, reduceCtorEq, ww3131, ww6363, ww3163, ww6331, ww3231, ww3263, ww6463, ww6364, sh31, sh63, sl63, m31, m63, n63, s5a, s5b, s6a, s6b, b31, b32, b63, c63, c64, d64, iShl_c, iShr_c, sr3, sr6, sr7]
                    · simp only [↓L39n0, ↓lenS_s, e1, sIdx_s n x 63 i hin, w16n, t1, t2, q5, q8, a5, a8, g1, e6, e7, i63 (i + 1) (by omega), i63 (i + 2) (by omega), t72, two16, toU8n, k8, w8n, cK_nl, ↓uc_c, ↓uz_n, ↓cI_i, ↓cB_b, cB_b, ↓cT_t, cT_t, nth_z, nth_1, cK_b, ↓cK_b, ↓cK_i, cK_i, ifB_t, ifB_f, ↓ap_e, sel_t, sel_f, gsel_tt, gsel_tf, gsel_ft, gsel_ff, gsel_u, gd_tt, gd_tf, gd_ft, gd_ff, gd_u, ↓jn_n, jn_n, jn_r, ↓jn_r, blk_n, blk_r, ↓cl_r, cl_r, ↓iAdd_i, ↓iSub_i, ↓iMul_i, ↓iAnd_i, ↓iOr_i, ↓iXor_i, ↓iNeg_i, iQuo_i, iRem_i, ↓iConv_i, iConv_i, ↓bNot_b, bNot_b, ↓eqN_i, ↓ltN_i, ↓eqB_b, bnot_e, Int.ofNat_eq_natCast, Int.cast_ofNat_Int, Int.reduceBEq, Int.reduceAdd, Int.reduceNeg, Int.reduceNegSucc, Int.reduceLT, Int.reduceLE, Int.reduceMul, Int.reduceTMod, Int.reduceSub, Int.reduceBNe, Bool.not_true, Bool.not_false, decide_true, decide_false, w63_in, w31_in, ne_eq, not_false_eq_true, Int.reduceEq, reduceCtorEq, ww3131, ww6363, ww3163, ww6331, ww3231, ww3263, ww6463, ww6364, sh31, sh63, sl63, m31, m63, n63, s5a, s5b, s6a, s6b, b31, b32, b63, c63, c64, d64, iShl_c, iShr_c, sr3, sr6, sr7]
                  | true =>
                    have g2 : ct n (byteAt x) (i + 2) = false := by
                      cases hq : ct n (byteAt x) (i + 2) with
                      | false => rfl
                      | true => exact absurd ⟨d2, g1, hq⟩ c3
                    rcases t1 with t1 | ⟨t1, t2⟩
                    · simp only [↓L39n0, ↓lenS_s, e1, sIdx_s n x 63 i hin, w16n, t1, q5, q8, a5, a8, g1, g2, e6, e7, i63 (i + 1) (by omega), i63 (i + 2) (by omega), t72, two16, toU8n, k8, w8n, cK_nl, ↓uc_c, ↓uz_n, ↓cI_i, ↓cB_b, cB_b, ↓cT_t, cT_t, nth_z, nth_1, cK_b, ↓cK_b, ↓cK_i, cK_i, ifB_t, ifB_f, ↓ap_e, sel_t, sel_f, gsel_tt, gsel_tf, gsel_ft, gsel_ff, gsel_u, gd_tt, gd_tf, gd_ft, gd_ff, gd_u, ↓jn_n, jn_n, jn_r, ↓jn_r, blk_n, blk_r, ↓cl_r, cl_r, ↓iAdd_i, ↓iSub_i, ↓iMul_i, ↓iAnd_i, ↓iOr_i, ↓iXor_i, ↓iNeg_i, iQuo_i, iRem_i, ↓iConv_i, iConv_i, ↓bNot_b, bNot_b, ↓eqN_i, ↓ltN_i, ↓eqB_b, bnot_e, Int.ofNat_eq_natCast, Int.cast_ofNat_Int, Int.reduceBEq, Int.reduceAdd, Int.reduceNeg, Int.reduceNegSucc, Int.reduceLT, Int.reduceLE, Int.reduceMul, Int.reduceTMod, Int.reduceSub, Int.reduceBNe, Bool.not_true, Bool.not_false, decide_true, decide_false, w63_in, w31_in, ne_eq, not_false_eq_true, Int.reduceEq, reduceCtorEq, ww3131, ww6363, ww3163, ww6331, ww3231, ww3263, ww6463, ww6364, sh31, sh63, sl63, m31, m63, n63, s5a, s5b, s6a, s6b, b31, b32, b63, c63, c64, d64, iShl_c, iShr_c, sr3, sr6, sr7]
                    · simp only [↓L39n0, ↓lenS_s, e1, sIdx_s n x 63 i hin, w16n, t1, t2, q5, q8, a5, a8, g1, g2, e6, e7, i63 (i + 1) (by omega), i63 (i + 2) (by omega), t72, two16, toU8n, k8, w8n, cK_nl, ↓uc_c, ↓uz_n, ↓cI_i, ↓cB_b, cB_b, ↓cT_t, cT_t, nth_z, nth_1, cK_b, ↓cK_b, ↓cK_i, cK_i, ifB_t, ifB_f, ↓ap_e, sel_t, sel_f, gsel_tt, gsel_tf, gsel_ft, gsel_ff, gsel_u, gd_tt, gd_tf, gd_ft, gd_ff, gd_u, ↓jn_n, jn_n, jn_r, ↓jn_r, blk_n, blk_r, ↓cl_r, cl_r, ↓iAdd_i, ↓iSub_i, ↓iMul_i, ↓iAnd_i, ↓iOr_i, ↓iXor_i, ↓iNeg_i, iQuo_i, iRem_i, ↓iConv_i, iConv_i, ↓bNot_b, bNot_b, ↓eqN_i, ↓ltN_i, ↓eqB_b, bnot_e, Int.ofNat_eq_natCast, Int.cast_ofNat_Int, Int.reduceBEq, Int.reduceAdd, Int.reduceNeg, Int.reduceNegSucc, Int.reduceLT, Int.reduceLE, Int.reduceMul, Int.reduceTMod, Int.reduceSub, Int.reduceBNe, Bool.not_true, Bool.not_false, decide_true, decide_false, w63_in, w31_in, ne_eq, not_false_eq_true, Int.reduceEq, reduceCtorEq, ww3131, ww6363, ww3163, ww6331, ww3231, ww3263, ww6463, ww6364, sh31, sh63, sl63, m31, m63, n63, s5a, s5b, s6a, s6b, b31, b32, b63, c63, c64, d64, iShl_c, iShr_c, sr3, sr6, sr7]
                · have a8 : decide (224 ≤ byteAt x i ∧ byteAt x i < 240) = false := by simpa using d2
                  rcases t1 with t1 | ⟨t1, t2⟩
                  · simp only [↓L39n0, ↓lenS_s, e1, sIdx_s n x 63 i hin, w16n, t1, q5, q8, a5, a8, toU8n, k8, w8n, cK_nl, ↓uc_c, ↓uz_n, ↓cI_i, ↓cB_b, cB_b, ↓cT_t, cT_t, nth_z, nth_1, cK_b, ↓cK_b, ↓cK_i, cK_i, ifB_t, ifB_f, ↓ap_e, sel_t, sel_f, gsel_tt, gsel_tf, gsel_ft, gsel_ff, gsel_u, gd_tt, gd_tf, gd_ft, gd_ff, gd_u, ↓jn_n, jn_n, jn_r, ↓jn_r, blk_n, blk_r, ↓cl_r, cl_r, ↓iAdd_i, ↓iSub_i, ↓iMul_i, ↓iAnd_i, ↓iOr_i, ↓iXor_i, ↓iNeg_i, iQuo_i, iRem_i, ↓iConv_i, iConv_i, ↓bNot_b, bNot_b, ↓eqN_i, ↓ltN_i, ↓eqB_b, bnot_e, Int.ofNat_eq_natCast, Int.cast_ofNat_Int, Int.reduceBEq, Int.reduceAdd, Int.reduceNeg, Int.reduceNegSucc, Int.reduceLT, Int.reduceLE, Int.reduceMul, Int.reduceTMod, Int.reduceSub, Int.reduceBNe, Bool.not_true, Bool.not_false, decide_true, decide_false, w63_in, w31_in, ne_eq, not_false_eq_true, Int.reduceEq, reduceCtorEq, ww3131, ww6363, ww3163, ww6331, ww3231, ww3263, ww6463, ww6364, sh31, sh63, sl63, m31, m63, n63, s5a, s5b, s6a, s6b, b31, b32, b63, c63, c64, d64, iShl_c, iShr_c, sr3, sr6, sr7]
                  · simp only [↓L39n0, ↓lenS_s, e1, sIdx_s n x 63 i hin, w16n, t1, t2, q5, q8, a5, a8, toU8n, k8, w8n, cK_nl, ↓uc_c, ↓uz_n, ↓cI_i, ↓cB_b, cB_b, ↓cT_t, cT_t, nth_z, nth_1, cK_b, ↓cK_b, ↓cK_i, cK_i, ifB_t, ifB_f, ↓ap_e, sel_t, sel_f, gsel_tt, gsel_tf, gsel_ft, gsel_ff, gsel_u, gd_tt, gd_tf, gd_ft, gd_ff, gd_u, ↓jn_n, jn_n, jn_r, ↓jn_r, blk_n, blk_r, ↓cl_r, cl_r, ↓iAdd_i, ↓iSub_i, ↓iMul_i, ↓iAnd_i, ↓iOr_i, ↓iXor_i, ↓iNeg_i, iQuo_i, iRem_i, ↓iConv_i, iConv_i, ↓bNot_b, bNot_b, ↓eqN_i, ↓ltN_i, ↓eqB_b, bnot_e, Int.ofNat_eq_natCast, Int.cast_ofNat_Int, Int.reduceBEq, Int.reduceAdd, Int.reduceNeg, Int.reduceNegSucc, Int.reduceLT, Int.reduceLE, Int.reduceMul, Int.reduceTMod, Int.reduceSub, Int.reduceBNe, Bool.not_true, Bool.not_false, decide_true, decide_false, w63_in, w31_in, ne_eq, not_false_eq_true, Int.reduceEq, reduceCtorEq, ww3131, ww6363, ww3163, ww6331, ww3231, ww3263, ww6463, ww6364, sh31, sh63, sl63, m31, m63, n63, s5a, s5b, s6a, s6b, b31, b32, b63, c63, c64, d64, iShl_c, iShr_c, sr3, sr6, sr7]
            exact ⟨h, lp_r m e, To.refl _ _, hw⟩
    · have : dec n (byteAt x) (f + 1) i = some [] := by unfold dec; rw [if_neg hin]
      rw [this]
      exact stop (f + 1) m i h u l hm hin hu hw
end Go.Proofs.Ytnpfppddongbhaa
end

section
namespace Go.Proofs.Ytnpfppddongbhaa
open Go Go.AM
set_option autoImplicit false
set_option linter.unusedSimpArgs false
set_option linter.unusedVariables false
theorem beqi (a : Int) : (a == a) = true := by simp
/-- A slice of 16 bit numbers. -/
def U (t : List Nat) : List AV := t.map fun (x : Nat) => AV.int 16 (x : Int)
theorem U_len (t : List Nat) : (U t).length = t.length := by simp [U]
theorem U_one (t : List Nat) : ∀ x ∈ U t, one x = true := by
  intro x hx
  obtain ⟨y, -, rfl⟩ := List.mem_map.1 hx
  rfl
/-- What a decoder answers. -/
def Dec (n x : Nat) : Option (List Nat) := dec n (byteAt x) n 0
def Got (r : Res) (h : Hp) (o : Option (List Nat)) : Prop :=
  ∃ v h', r = .ret (.tup (.cons v (.cons (.bool o.isSome) .nil))) h' ∧ Sl h' (fun b => h.nb ≤ b) v (U (o.getD [])) ∧ To No h h' ∧ Wf h'

theorem emp {h : Hp} (hw : Wf h) : Gr (nw h 0 .nil .e) h.nb (.sl h.nb 0 0 1 (some 0)) [] ∧ To No h (nw h 0 .nil .e) := by
  obtain ⟨o1, o2⟩ := nw_own hw 0 .nil .e
  exact ⟨⟨⟨by simp, .inr (.inr ⟨h.nb, 0, _, _, rfl, Nat.le_refl _, o1.rd, fun _ => Nat.le_refl _, (fun c e => by cases e; exact Nat.le_refl _), fun i hi => by simp at hi⟩)⟩, .inr (.inl ⟨_, rfl, rfl⟩)⟩, o2⟩

theorem got_of {n x : Nat} {h h1 : Hp} {r : Res} (ht : To No h h1) (hN : h.nb ≤ h1.nb) (hc : Comes r h.nb h1 [] (Dec n x)) {r' : Res}
    (h1r : ∀ u h', r = .exit 0 [u] h' → cK u (fun v => .ret (.tup (.cons v (.cons (.bool true) .nil))) h') = r') (h2r : ∀ v h', r = .ret v h' → .ret v h' = r') : Got r' h (Dec n x) := by
  have toNo : ∀ {h'}, To (fun b => h.nb ≤ b) h1 h' → To No h h' := fun {h'} q => by
    have q1 : To (fun b => h.nb ≤ b) h h' := (ht.mono fun _ _ f => f.elim).trans q
    exact q1.mono fun b hb hn => by omega
  cases hd : Dec n x with
  | none =>
    rw [hd] at hc
    obtain ⟨h', e1, e2, e3⟩ := hc
    exact ⟨.nils, h', (h2r _ _ e1).symm, ⟨by simp [U], .inl ⟨rfl, rfl⟩⟩, toNo e2, e3⟩
  | some t =>
    rw [hd] at hc
    obtain ⟨u, h', e1, e2, e3, e4⟩ := hc
    have e2 : Gr h' h.nb u (U t) := by simpa [U] using e2
    refine ⟨u, h', ?_, e2.1, toNo e3, e4⟩
    rw [← h1r u h' e1, cK_sl e2.1]; rfl

theorem t38 (n x : Nat) (hn : n ≤ 1000) (h : Hp) (hw : Wf h) : Got (s38 [.str n x] h) h (Dec n x) := by
  obtain ⟨g1, g2⟩ := emp hw
  have hc := loop38 n x h.nb hn n most 0 (nw h 0 .nil .e) _ [] (by omega) (show n < 1000000 by omega) (by omega) (by simp) g1 g2.nb (g2.wf hw)
  have e0 : ((0 : Nat) : Int) = 0 := rfl
  have e1 : ∀ k : AV → Hp → Res, mkS h 1 0 (avL []) k = k (.sl h.nb 0 0 1 (some 0)) (nw h 0 .nil .e) := fun k => rfl
  refine got_of g2 g2.nb hc (fun u h' e => ?_) (fun v h' e => ?_)
  · rw [e0] at e
    simp only [↓s38, ↓bld0, ↓e1, e, blk_e, ↓uc_c, ↓uz_n, ↓cI_i, ↓cB_b, cB_b, ↓cT_t, cT_t, nth_z, nth_1, cK_b, ↓cK_b, ↓cK_i, cK_i, ifB_t, ifB_f, ↓ap_e, sel_t, sel_f, gsel_tt, gsel_tf, gsel_ft, gsel_ff, gsel_u, gd_tt, gd_tf, gd_ft, gd_ff, gd_u, ↓jn_n, jn_n, jn_r, ↓jn_r, blk_n, blk_r, ↓cl_r, cl_r, ↓iAdd_i, ↓iSub_i, ↓iMul_i, ↓iAnd_i, ↓iOr_i, ↓iXor_i, ↓iNeg_i, iQuo_i, iRem_i, ↓iConv_i, iConv_i, ↓bNot_b, bNot_b, ↓eqN_i, ↓ltN_i, ↓eqB_b, bnot_e, Int.ofNat_eq_natCast, Int.cast_ofNat_Int, Int.reduceBEq, Int.reduceAdd, Int.reduceNeg, Int.reduceNegSucc, Int.reduceLT, Int.reduceLE, Int.reduceMul, Int.reduceTMod, Int.reduceSub, Int.reduceBNe, Bool.not_true, Bool.not_false, decide_true, decide_false, w63_in, w31_in, ne_eq, not_false_eq_true, Int.reduceEq, reduceCtorEq, ww3131, ww6363, ww3163, ww6331, ww3231, ww3263, ww6463, ww6364, sh31, sh63, sl63, m31, m63, n63, s5a, s5b, s6a, s6b, b31, b32, b63, c63, c64, d64, iShl_c, iShr_c, sr3, sr6, sr7]
    rfl
  · rw [e0] at e
    simp only [↓s38, ↓bld0, ↓e1, e, ↓uc_c, ↓uz_n, ↓cI_i, ↓cB_b, cB_b, ↓cT_t, cT_t, nth_z, nth_1, cK_b, ↓cK_b, ↓cK_i, cK_i, ifB_t, ifB_f, ↓ap_e, sel_t, sel_f, gsel_tt, gsel_tf, gsel_ft, gsel_ff, gsel_u, gd_tt, gd_tf, gd_ft, gd_ff, gd_u, ↓jn_n, jn_n, jn_r, ↓jn_r, blk_n, blk_r, ↓cl_r, cl_r, ↓iAdd_i, ↓iSub_i, ↓iMul_i, ↓iAnd_i, ↓iOr_i, ↓iXor_i, ↓iNeg_i, iQuo_i, iRem_i, ↓iConv_i, iConv_i, ↓bNot_b, bNot_b, ↓eqN_i, ↓ltN_i, ↓eqB_b, bnot_e, Int.ofNat_eq_natCast, Int.cast_ofNat_Int, Int.reduceBEq, Int.reduceAdd, Int.reduceNeg, Int.reduceNegSucc, Int.reduceLT, Int.reduceLE, Int.reduceMul, Int.reduceTMod, Int.reduceSub, Int.reduceBNe, Bool.not_true, Bool.not_false, decide_true, decide_false, w63_in, w31_in, ne_eq, not_false_eq_true, Int.reduceEq, reduceCtorEq, ww3131, ww6363, ww3163, ww6331, ww3231, ww3263, ww6463, ww6364, sh31, sh63, sl63, m31, m63, n63, s5a, s5b, s6a, s6b, b31, b32, b63, c63, c64, d64, iShl_c, iShr_c, sr3, sr6, sr7]
theorem t39 (n x : Nat) (hn : n ≤ 1000) (h : Hp) (hw : Wf h) : Got (s39 [.str n x] h) h (Dec n x) := by
  have g1 : Gr h h.nb .nils [] := ⟨⟨by simp, .inl ⟨rfl, rfl⟩⟩, .inl rfl⟩
  have hc := loop39 n x h.nb hn n most 0 h .nils [] (by omega) (show n < 1000000 by omega) (by omega) (by simp) g1 (Nat.le_refl _) hw
  have e0 : ((0 : Nat) : Int) = 0 := rfl
  refine got_of (To.refl _ _) (Nat.le_refl _) hc (fun u h' e => ?_) (fun v h' e => ?_)
  · rw [e0] at e
    simp only [↓s39, e, blk_e, ↓uc_c, ↓uz_n, ↓cI_i, ↓cB_b, cB_b, ↓cT_t, cT_t, nth_z, nth_1, cK_b, ↓cK_b, ↓cK_i, cK_i, ifB_t, ifB_f, ↓ap_e, sel_t, sel_f, gsel_tt, gsel_tf, gsel_ft, gsel_ff, gsel_u, gd_tt, gd_tf, gd_ft, gd_ff, gd_u, ↓jn_n, jn_n, jn_r, ↓jn_r, blk_n, blk_r, ↓cl_r, cl_r, ↓iAdd_i, ↓iSub_i, ↓iMul_i, ↓iAnd_i, ↓iOr_i, ↓iXor_i, ↓iNeg_i, iQuo_i, iRem_i, ↓iConv_i, iConv_i, ↓bNot_b, bNot_b, ↓eqN_i, ↓ltN_i, ↓eqB_b, bnot_e, Int.ofNat_eq_natCast, Int.cast_ofNat_Int, Int.reduceBEq, Int.reduceAdd, Int.reduceNeg, Int.reduceNegSucc, Int.reduceLT, Int.reduceLE, Int.reduceMul, Int.reduceTMod, Int.reduceSub, Int.reduceBNe, Bool.not_true, Bool.not_false, decide_true, decide_false, w63_in, w31_in, ne_eq, not_false_eq_true, Int.reduceEq, reduceCtorEq, ww3131, ww6363, ww3163, ww6331, ww3231, ww3263, ww6463, ww6364, sh31, sh63, sl63, m31, m63, n63, s5a, s5b, s6a, s6b, b31, b32, b63, c63, c64, d64, iShl_c, iShr_c, sr3, sr6, sr7]
    rfl
  · rw [e0] at e
    simp only [↓s39, e, ↓uc_c, ↓uz_n, ↓cI_i, ↓cB_b, cB_b, ↓cT_t, cT_t, nth_z, nth_1, cK_b, ↓cK_b, ↓cK_i, cK_i, ifB_t, ifB_f, ↓ap_e, sel_t, sel_f, gsel_tt, gsel_tf, gsel_ft, gsel_ff, gsel_u, gd_tt, gd_tf, gd_ft, gd_ff, gd_u, ↓jn_n, jn_n, jn_r, ↓jn_r, blk_n, blk_r, ↓cl_r, cl_r, ↓iAdd_i, ↓iSub_i, ↓iMul_i, ↓iAnd_i, ↓iOr_i, ↓iXor_i, ↓iNeg_i, iQuo_i, iRem_i, ↓iConv_i, iConv_i, ↓bNot_b, bNot_b, ↓eqN_i, ↓ltN_i, ↓eqB_b, bnot_e, Int.ofNat_eq_natCast, Int.cast_ofNat_Int, Int.reduceBEq, Int.reduceAdd, Int.reduceNeg, Int.reduceNegSucc, Int.reduceLT, Int.reduceLE, Int.reduceMul, Int.reduceTMod, Int.reduceSub, Int.reduceBNe, Bool.not_true, Bool.not_false, decide_true, decide_false, w63_in, w31_in, ne_eq, not_false_eq_true, Int.reduceEq, reduceCtorEq, ww3131, ww6363, ww3163, ww6331, ww3231, ww3263, ww6463, ww6364, sh31, sh63, sl63, m31, m63, n63, s5a, s5b, s6a, s6b, b31, b32, b63, c63, c64, d64, iShl_c, iShr_c, sr3, sr6, sr7]

/-- The same chars are the same. -/
theorem loop40 {h : Hp} {P Q : Nat → Prop} {u v : AV} {t : List Nat} (hu : Sl h P u (U t)) (hv : Sl h Q v (U t)) (hlen : t.length ≤ 100000) : ∀ (f m i : Nat), t.length - i ≤ f → f < m → i ≤ t.length → lp L40n0 m [u, v, .int 63 (i : Int)] h = .exit 0 [] h := by
  have stop : ∀ (f m i : Nat), f < m → ¬ i < t.length → lp L40n0 m [u, v, .int 63 (i : Int)] h = .exit 0 [] h := by
    intro f m i hm hi
    obtain ⟨m, rfl⟩ : ∃ k, m = k + 1 := ⟨m - 1, by omega⟩
    have e1 : ¬ (i : Int) < (t.length : Int) := by omega
    have e : L40n0 [u, v, .int 63 (i : Int)] h = .exit 0 [] h := by simp only [↓L40n0, ↓lenL_sl hu, U_len, e1, ↓uc_c, ↓uz_n, ↓cI_i, ↓cB_b, cB_b, ↓cT_t, cT_t, nth_z, nth_1, cK_b, ↓cK_b, ↓cK_i, cK_i, ifB_t, ifB_f, ↓ap_e, sel_t, sel_f, gsel_tt, gsel_tf, gsel_ft, gsel_ff, gsel_u, gd_tt, gd_tf, gd_ft, gd_ff, gd_u, ↓jn_n, jn_n, jn_r, ↓jn_r, blk_n, blk_r, ↓cl_r, cl_r, ↓iAdd_i, ↓iSub_i, ↓iMul_i, ↓iAnd_i, ↓iOr_i, ↓iXor_i, ↓iNeg_i, iQuo_i, iRem_i, ↓iConv_i, iConv_i, ↓bNot_b, bNot_b, ↓eqN_i, ↓ltN_i, ↓eqB_b, bnot_e, Int.ofNat_eq_natCast, Int.cast_ofNat_Int, Int.reduceBEq, Int.reduceAdd, Int.reduceNeg, Int.reduceNegSucc, Int.reduceLT, Int.reduceLE, Int.reduceMul, Int.reduceTMod, Int.reduceSub, Int.reduceBNe, Bool.not_true, Bool.not_false, decide_true, decide_false, w63_in, w31_in, ne_eq, not_false_eq_true, Int.reduceEq, reduceCtorEq, ww3131, ww6363, ww3163, ww6331, ww3231, ww3263, ww6463, ww6364, sh31, sh63, sl63, m31, m63, n63, s5a, s5b, s6a, s6b, b31, b32, b63, c63, c64, d64, iShl_c, iShr_c, sr3, sr6, sr7]
    exact lp_x m e
  intro f
  induction f with
  | zero => intro m i hf hm hi; exact stop 0 m i hm (by omega)
  | succ f ih =>
    intro m i hf hm hi
    by_cases hin : i < t.length
    · obtain ⟨m, rfl⟩ : ∃ k, m = k + 1 := ⟨m - 1, by omega⟩
      have e1 : (i : Int) < (t.length : Int) := by omega
      have e6 : (i : Int) + 1 = ((i + 1 : Nat) : Int) := by omega
      have g : (U t)[i]'(by rw [U_len]; exact hin) = .int 16 (t[i] : Int) := by simp [U]
      have iu := fun k => ix_sl hu (c := 63) i (by rw [U_len]; exact hin) k
      have iv := fun k => ix_sl hv (c := 63) i (by rw [U_len]; exact hin) k
      rw [g] at iu iv
      have e : L40n0 [u, v, .int 63 (i : Int)] h = .norm [u, v, .int 63 ((i + 1 : Nat) : Int)] h := by
        simp only [↓L40n0, ↓lenL_sl hu, U_len, e1, ↓iu, ↓iv, beqi, e6, i63 (i + 1) (by omega), ↓uc_c, ↓uz_n, ↓cI_i, ↓cB_b, cB_b, ↓cT_t, cT_t, nth_z, nth_1, cK_b, ↓cK_b, ↓cK_i, cK_i, ifB_t, ifB_f, ↓ap_e, sel_t, sel_f, gsel_tt, gsel_tf, gsel_ft, gsel_ff, gsel_u, gd_tt, gd_tf, gd_ft, gd_ff, gd_u, ↓jn_n, jn_n, jn_r, ↓jn_r, blk_n, blk_r, ↓cl_r, cl_r, ↓iAdd_i, ↓iSub_i, ↓iMul_i, ↓iAnd_i, ↓iOr_i, ↓iXor_i, ↓iNeg_i, iQuo_i, iRem_i, ↓iConv_i, iConv_i, ↓bNot_b, bNot_b, ↓eqN_i, ↓ltN_i, ↓eqB_b, bnot_e, Int.ofNat_eq_natCast, Int.cast_ofNat_Int, Int.reduceBEq, Int.reduceAdd, Int.reduceNeg, Int.reduceNegSucc, Int.reduceLT, Int.reduceLE, Int.reduceMul, Int.reduceTMod, Int.reduceSub, Int.reduceBNe, Bool.not_true, Bool.not_false, decide_true, decide_false, w63_in, w31_in, ne_eq, not_false_eq_true, Int.reduceEq, reduceCtorEq, ww3131, ww6363, ww3163, ww6331, ww3231, ww3263, ww6463, ww6364, sh31, sh63, sl63, m31, m63, n63, s5a, s5b, s6a, s6b, b31, b32, b63, c63, c64, d64, iShl_c, iShr_c, sr3, sr6, sr7]
      rw [lp_n m e]
      exact ih m (i + 1) (by omega) (by omega) (by omega)
    · exact stop (f + 1) m i hm hin

theorem t40 {h : Hp} {P Q : Nat → Prop} {u v : AV} {t : List Nat} (hu : Sl h P u (U t)) (hv : Sl h Q v (U t)) (hlen : t.length ≤ 100000) : s40 [u, v] h = .ret (.bool true) h := by
  have e0 := loop40 hu hv hlen t.length most 0 (by omega) (show t.length < 1000000 by omega) (by omega)
  have e1 : ((0 : Nat) : Int) = 0 := rfl
  rw [e1] at e0
  have e2 : ((t.length : Int) == (t.length : Int)) = true := by simp
  simp only [↓s40, ↓lenL_sl hu, ↓lenL_sl hv, U_len, e2, e0, blk_e, ↓uc_c, ↓uz_n, ↓cI_i, ↓cB_b, cB_b, ↓cT_t, cT_t, nth_z, nth_1, cK_b, ↓cK_b, ↓cK_i, cK_i, ifB_t, ifB_f, ↓ap_e, sel_t, sel_f, gsel_tt, gsel_tf, gsel_ft, gsel_ff, gsel_u, gd_tt, gd_tf, gd_ft, gd_ff, gd_u, ↓jn_n, jn_n, jn_r, ↓jn_r, blk_n, blk_r, ↓cl_r, cl_r, ↓iAdd_i, ↓iSub_i, ↓iMul_i, ↓iAnd_i, ↓iOr_i, ↓iXor_i, ↓iNeg_i, iQuo_i, iRem_i, ↓iConv_i, iConv_i, ↓bNot_b, bNot_b, ↓eqN_i, ↓ltN_i, ↓eqB_b, bnot_e, Int.ofNat_eq_natCast, Int.cast_ofNat_Int, Int.reduceBEq, Int.reduceAdd, Int.reduceNeg, Int.reduceNegSucc, Int.reduceLT, Int.reduceLE, Int.reduceMul, Int.reduceTMod, Int.reduceSub, Int.reduceBNe, Bool.not_true, Bool.not_false, decide_true, decide_false, w63_in, w31_in, ne_eq, not_false_eq_true, Int.reduceEq, reduceCtorEq, ww3131, ww6363, ww3163, ww6331, ww3231, ww3263, ww6463, ww6364, sh31, sh63, sl63, m31, m63, n63, s5a, s5b, s6a, s6b, b31, b32, b63, c63, c64, d64, iShl_c, iShr_c, sr3, sr6, sr7]
  rfl
end Go.Proofs.Ytnpfppddongbhaa
end

section
namespace Go.AM
/-- Does p hold of all places of a trie that hold something? -/
noncomputable def T.all {α : Type} (p : Nat → Bool) (t : T α) : (Nat → Nat) → Bool :=
  T.rec (motive := fun _ => (Nat → Nat) → Bool) (fun _ => true)
    (fun v _ _ il ir f => Bool.rec (motive := fun _ => Bool) false (Bool.rec (motive := fun _ => Bool) false (ir fun k => f (2 * k + 2)) (il fun k => f (2 * k + 1))) (Option.rec (motive := fun _ => Bool) true (fun _ => p (f 0)) v)) t
theorem T.all_get {α : Type} (p : Nat → Bool) : ∀ (t : T α) (f : Nat → Nat) (k : Nat) (v : α), T.all p t f = true → t.get k = some v → p (f k) = true := by
  intro t
  induction t with
  | e => intro f k v _ h; cases h
  | n o l r ihl ihr =>
    intro f k v ha hg
    have e : T.all p (.n o l r) f = Bool.rec (motive := fun _ => Bool) false (Bool.rec (motive := fun _ => Bool) false (T.all p r fun k => f (2 * k + 2)) (T.all p l fun k => f (2 * k + 1))) (Option.rec (motive := fun _ => Bool) true (fun _ => p (f 0)) o) := rfl
    rw [e, recB, recB] at ha
    have h1 : (Option.rec (motive := fun _ => Bool) true (fun _ => p (f 0)) o) = true := by
      by_cases q : (Option.rec (motive := fun _ => Bool) true (fun _ => p (f 0)) o) = true
      · exact q
      · rw [if_neg q] at ha; cases ha
    rw [if_pos h1] at ha
    have h2 : T.all p l (fun k => f (2 * k + 1)) = true := by
      by_cases q : T.all p l (fun k => f (2 * k + 1)) = true
      · exact q
      · rw [if_neg q] at ha; cases ha
    rw [if_pos h2] at ha
    cases k with
    | zero =>
      have hg : o = some v := hg
      subst hg
      exact h1
    | succ m =>
      rw [T.get_ns] at hg
      by_cases hm : m % 2 = 1
      · rw [if_pos hm] at hg
        have := ihr _ _ _ ha hg
        have e : 2 * (m / 2) + 2 = m + 1 := by omega
        simpa [e] using this
      · rw [if_neg hm] at hg
        have := ihl _ _ _ h2 hg
        have e : 2 * (m / 2) + 1 = m + 1 := by omega
        simpa [e] using this
noncomputable def wfB (h : Hp) : Bool := T.all (fun k => Nat.blt k h.nb) h.gs fun k => k
theorem wf_of {h : Hp} (hb : wfB h = true) : Wf h := by
  intro g hg
  cases hq : h.gs.get g with
  | none => rfl
  | some q =>
    have := T.all_get _ _ _ _ _ hb hq
    rw [blt_iff] at this
    omega
/-- True, and memory is in order. -/
noncomputable def isTW (r : Res) : Bool := Bool.rec (motive := fun _ => Bool) false (Res.rec (motive := fun _ => Bool) false (fun _ _ => false) (fun _ _ _ => false) (fun _ h => wfB h) r) (isT r)
theorem isTW_inv {r : Res} (h : isTW r = true) : ∃ h', r = .ret (.bool true) h' ∧ Wf h' := by
  have e : isTW r = Bool.rec (motive := fun _ => Bool) false (Res.rec (motive := fun _ => Bool) false (fun _ _ => false) (fun _ _ _ => false) (fun _ h => wfB h) r) (isT r) := rfl
  rw [e, recB] at h
  by_cases q : isT r = true
  · rw [if_pos q] at h
    obtain ⟨h', rfl⟩ := isT_inv q
    exact ⟨h', rfl, wf_of h⟩
  · rw [if_neg q] at h; cases h
end Go.AM
namespace Go.Proofs.Ytnpfppddongbhaa
open Go Go.AM
set_option autoImplicit false
set_option linter.unusedSimpArgs false
set_option linter.unusedVariables false
theorem t36 : ∃ h1, s36 [] H0 = .ret (.bool true) h1 ∧ Wf h1 := isTW_inv (by kernel_rfl)
/-- A text that is cut. -/
theorem t37 (n x c : Nat) (h : Hp) : s37 [.str n x, .int 63 (c : Int)] h = .ret (.str (min n c) (if c < n then x % 2 ^ (8 * c) else x)) h := by
  by_cases hc : c < n
  · have e1 : (c : Int) < (n : Int) := by omega
    have e2 : ∀ k : AV → Res, cutT (.str n x) none (some (.int 63 (c : Int))) k = k (.str c (x % 2 ^ (8 * c))) := fun k => by
      have e : cutT (.str n x) none (some (.int 63 (c : Int))) k = ifB (Nat.ble c n) (ifB (Nat.ble 0 c) (k (.str (Nat.sub c 0) (Nat.mod (Nat.shiftRight x (Nat.mul 8 0)) (Nat.pow 2 (Nat.mul 8 (Nat.sub c 0)))))) .fail) .fail := rfl
      rw [e, (ble_iff _ _).2 (by omega), (ble_iff _ _).2 (by omega)]
      show k (.str (c - 0) (((x >>> (8 * 0))) % 2 ^ (8 * (c - 0)))) = _
      rw [Nat.sub_zero, Nat.mul_zero, Nat.shiftRight_zero]
    rw [if_pos hc, Nat.min_eq_right (by omega)]
    simp only [↓s37, ↓lenS_s, e1, ↓e2, cK_s, ↓uc_c, ↓uz_n, ↓cI_i, ↓cB_b, cB_b, ↓cT_t, cT_t, nth_z, nth_1, cK_b, ↓cK_b, ↓cK_i, cK_i, ifB_t, ifB_f, ↓ap_e, sel_t, sel_f, gsel_tt, gsel_tf, gsel_ft, gsel_ff, gsel_u, gd_tt, gd_tf, gd_ft, gd_ff, gd_u, ↓jn_n, jn_n, jn_r, ↓jn_r, blk_n, blk_r, ↓cl_r, cl_r, ↓iAdd_i, ↓iSub_i, ↓iMul_i, ↓iAnd_i, ↓iOr_i, ↓iXor_i, ↓iNeg_i, iQuo_i, iRem_i, ↓iConv_i, iConv_i, ↓bNot_b, bNot_b, ↓eqN_i, ↓ltN_i, ↓eqB_b, bnot_e, Int.ofNat_eq_natCast, Int.cast_ofNat_Int, Int.reduceBEq, Int.reduceAdd, Int.reduceNeg, Int.reduceNegSucc, Int.reduceLT, Int.reduceLE, Int.reduceMul, Int.reduceTMod, Int.reduceSub, Int.reduceBNe, Bool.not_true, Bool.not_false, decide_true, decide_false, w63_in, w31_in, ne_eq, not_false_eq_true, Int.reduceEq, reduceCtorEq, ww3131, ww6363, ww3163, ww6331, ww3231, ww3263, ww6463, ww6364, sh31, sh63, sl63, m31, m63, n63, s5a, s5b, s6a, s6b, b31, b32, b63, c63, c64, d64, iShl_c, iShr_c, sr3, sr6, sr7]
  · have e1 : ¬ (c : Int) < (n : Int) := by omega
    rw [if_neg hc, Nat.min_eq_left (by omega)]
    simp only [↓s37, ↓lenS_s, e1, cK_s, ↓uc_c, ↓uz_n, ↓cI_i, ↓cB_b, cB_b, ↓cT_t, cT_t, nth_z, nth_1, cK_b, ↓cK_b, ↓cK_i, cK_i, ifB_t, ifB_f, ↓ap_e, sel_t, sel_f, gsel_tt, gsel_tf, gsel_ft, gsel_ff, gsel_u, gd_tt, gd_tf, gd_ft, gd_ff, gd_u, ↓jn_n, jn_n, jn_r, ↓jn_r, blk_n, blk_r, ↓cl_r, cl_r, ↓iAdd_i, ↓iSub_i, ↓iMul_i, ↓iAnd_i, ↓iOr_i, ↓iXor_i, ↓iNeg_i, iQuo_i, iRem_i, ↓iConv_i, iConv_i, ↓bNot_b, bNot_b, ↓eqN_i, ↓ltN_i, ↓eqB_b, bnot_e, Int.ofNat_eq_natCast, Int.cast_ofNat_Int, Int.reduceBEq, Int.reduceAdd, Int.reduceNeg, Int.reduceNegSucc, Int.reduceLT, Int.reduceLE, Int.reduceMul, Int.reduceTMod, Int.reduceSub, Int.reduceBNe, Bool.not_true, Bool.not_false, decide_true, decide_false, w63_in, w31_in, ne_eq, not_false_eq_true, Int.reduceEq, reduceCtorEq, ww3131, ww6363, ww3163, ww6331, ww3231, ww3263, ww6463, ww6364, sh31, sh63, sl63, m31, m63, n63, s5a, s5b, s6a, s6b, b31, b32, b63, c63, c64, d64, iShl_c, iShr_c, sr3, sr6, sr7]
theorem got_inv {r : Res} {h : Hp} {o : Option (List Nat)} (g : Got r h o) : ∃ v h', r = .ret (.tup (.cons v (.cons (.bool o.isSome) .nil))) h' ∧ Sl h' (fun b => h.nb ≤ b) v (U (o.getD [])) ∧ To No h h' ∧ Wf h' := g
theorem dec_len (n : Nat) (Y : Nat → Nat) : ∀ (f i : Nat) (t : List Nat), dec n Y f i = some t → t.length ≤ f := by
  intro f
  induction f with
  | zero => intro i t h; cases h; simp
  | succ f ih =>
    intro i t h
    unfold dec at h
    have key : ∀ (v j : Nat), (dec n Y f j).map (v :: ·) = some t → t.length ≤ f + 1 := by
      intro v j hm
      cases hd : dec n Y f j with
      | none => rw [hd] at hm; cases hm
      | some t' => rw [hd] at hm; cases hm; have := ih j t' hd; simp; omega
    split at h
    · split at h
      · exact key _ _ h
      · split at h
        · exact key _ _ h
        · split at h
          · exact key _ _ h
          · cases h
    · cases h; simp
theorem Dec_len (n x : Nat) : ((Dec n x).getD []).length ≤ n := by
  cases hd : Dec n x with
  | none => simp
  | some t => exact dec_len _ _ _ _ _ hd
theorem lawDecode (n x : Nat) : ∃ h', s7 [.str n x] H0 = .ret (.bool true) h' := by
  obtain ⟨h1, e1, w1⟩ := t36
  have e2 := t37 n x 200 h1
  generalize hn : min n 200 = n' at e2
  generalize (if 200 < n then x % 2 ^ (8 * 200) else x) = x' at e2
  obtain ⟨u, h2, e3, s3, o3, w3⟩ := got_inv (t38 n' x' (by omega) h1 w1)
  obtain ⟨v, h3, e4, s4, o4, w4⟩ := got_inv (t39 n' x' (by omega) h2 w3)
  have s3' := s3.to o4 (fun _ _ f => f)
  have e5 := t40 s3' s4 (by have := Dec_len n' x'; omega)
  have e6 : (((200 : Nat) : Int)) = 200 := rfl
  rw [e6] at e2
  have e7 : ((Dec n' x').isSome == (Dec n' x').isSome) = true := by simp
  have cu := fun k => cK_sl s3 k
  have cv := fun k => cK_sl s4 k
  refine ⟨h3, ?_⟩
  simp only [↓s7, ↓e1, ↓e2, ↓e3, ↓e4, cu, cv, e7, ↓e5, ↓uc_c, ↓uz_n, ↓cI_i, ↓cB_b, cB_b, ↓cT_t, cT_t, nth_z, nth_1, cK_b, ↓cK_b, ↓cK_i, cK_i, ifB_t, ifB_f, ↓ap_e, sel_t, sel_f, gsel_tt, gsel_tf, gsel_ft, gsel_ff, gsel_u, gd_tt, gd_tf, gd_ft, gd_ff, gd_u, ↓jn_n, jn_n, jn_r, ↓jn_r, blk_n, blk_r, ↓cl_r, cl_r, ↓iAdd_i, ↓iSub_i, ↓iMul_i, ↓iAnd_i, ↓iOr_i, ↓iXor_i, ↓iNeg_i, iQuo_i, iRem_i, ↓iConv_i, iConv_i, ↓bNot_b, bNot_b, ↓eqN_i, ↓ltN_i, ↓eqB_b, bnot_e, Int.ofNat_eq_natCast, Int.cast_ofNat_Int, Int.reduceBEq, Int.reduceAdd, Int.reduceNeg, Int.reduceNegSucc, Int.reduceLT, Int.reduceLE, Int.reduceMul, Int.reduceTMod, Int.reduceSub, Int.reduceBNe, Bool.not_true, Bool.not_false, decide_true, decide_false, w63_in, w31_in, ne_eq, not_false_eq_true, Int.reduceEq, reduceCtorEq, ww3131, ww6363, ww3163, ww6331, ww3231, ww3263, ww6463, ww6364, sh31, sh63, sl63, m31, m63, n63, s5a, s5b, s6a, s6b, b31, b32, b63, c63, c64, d64, iShl_c, iShr_c, sr3, sr6, sr7]
end Go.Proofs.Ytnpfppddongbhaa
end

section
namespace Go.Proofs.Ytnpfppddongbhaa
open Go Go.AM
set_option autoImplicit false
set_option linter.unusedSimpArgs false
set_option linter.unusedVariables false
/-! ### two texts, one behind the other -/
theorem fuel (n : Nat) (Y : Nat → Nat) : ∀ (f g i : Nat), n - i ≤ f → n - i ≤ g → dec n Y f i = dec n Y g i := by
  intro f
  induction f with
  | zero =>
    intro g i hf hg
    cases g with
    | zero => rfl
    | succ g => unfold dec; rw [if_neg (by omega)]
  | succ f ih =>
    intro g i hf hg
    cases g with
    | zero => unfold dec; rw [if_neg (by omega)]
    | succ g =>
      unfold dec
      by_cases hi : i < n
      · rw [if_pos hi, if_pos hi, ih g (i + 1) (by omega) (by omega), ih g (i + 2) (by omega) (by omega), ih g (i + 3) (by omega) (by omega)]
      · rw [if_neg hi, if_neg hi]

theorem shift (n m : Nat) (Y Z : Nat → Nat) (h : ∀ j, j < m → Z (n + j) = Y j) : ∀ (f i : Nat), dec (n + m) Z f (n + i) = dec m Y f i := by
  have hct : ∀ i, ct (n + m) Z (n + i) = ct m Y i := by
    intro i
    unfold ct
    by_cases hi : i < m
    · rw [h i hi]; simp [hi]
    · simp [hi]
  intro f
  induction f with
  | zero => intro i; rfl
  | succ f ih =>
    intro i
    unfold dec
    by_cases hi : i < m
    · rw [if_pos hi, if_pos (by omega), h i hi]
      have e1 := hct (i + 1)
      have e2 := hct (i + 2)
      rw [show n + i + 1 = n + (i + 1) by omega, show n + i + 2 = n + (i + 2) by omega, show n + i + 3 = n + (i + 3) by omega, e1, e2, ih, ih, ih]
      by_cases c1 : 0 < Y i ∧ Y i < 128
      · rw [if_pos c1, if_pos c1]
      · rw [if_neg c1, if_neg c1]
        by_cases c2 : (192 ≤ Y i ∧ Y i < 224) ∧ ct m Y (i + 1) = true
        · have hi1 : i + 1 < m := by have := c2.2; unfold ct at this; simp at this; omega
          rw [if_pos c2, if_pos c2, h (i + 1) hi1]
        · rw [if_neg c2, if_neg c2]
          by_cases c3 : (224 ≤ Y i ∧ Y i < 240) ∧ ct m Y (i + 1) = true ∧ ct m Y (i + 2) = true
          · have hi2 : i + 2 < m := by have := c3.2.2; unfold ct at this; simp at this; omega
            rw [if_pos c3, if_pos c3, h (i + 1) (by omega), h (i + 2) hi2]
          · rw [if_neg c3, if_neg c3]
    · rw [if_neg hi, if_neg (by omega)]

theorem joined (n m : Nat) (X Z : Nat → Nat) (h : ∀ j, j < n → Z j = X j) : ∀ (f i : Nat) (t : List Nat), i ≤ n → n - i ≤ f → dec n X f i = some t → ∀ g, n + m - i ≤ g → dec (n + m) Z g i = (dec (n + m) Z m n).map (t ++ ·) := by
  have hct : ∀ i, ct n X i = true → ct (n + m) Z i = true := by
    intro i hi
    unfold ct at hi ⊢
    simp only [Bool.and_eq_true, decide_eq_true_eq] at hi ⊢
    rw [h i hi.1]
    exact ⟨by omega, hi.2⟩
  have stop : ∀ g, n + m - n ≤ g → dec (n + m) Z g n = (dec (n + m) Z m n).map ([] ++ ·) := by
    intro g hg
    rw [fuel (n + m) Z g m n (by omega) (by omega)]
    cases dec (n + m) Z m n <;> simp
  intro f
  induction f with
  | zero =>
    intro i t hi hf ht g hg
    have hin : i = n := by omega
    subst hin
    cases ht
    exact stop g hg
  | succ f ih =>
    intro i t hi hf ht g hg
    by_cases hin : i < n
    · obtain ⟨g, rfl⟩ : ∃ k, g = k + 1 := ⟨g - 1, by omega⟩
      have key : ∀ (v j : Nat), i < j → j ≤ n → (dec n X f j).map (v :: ·) = some t → (dec (n + m) Z g j).map (v :: ·) = (dec (n + m) Z m n).map (t ++ ·) := by
        intro v j h1 h2 hm
        cases hd : dec n X f j with
        | none => rw [hd] at hm; cases hm
        | some t' =>
          rw [hd] at hm
          cases hm
          rw [ih j t' h2 (by omega) hd g (by omega)]
          cases dec (n + m) Z m n <;> simp
      unfold dec at ht
      rw [if_pos hin] at ht
      rw [show dec (n + m) Z (g + 1) i = _ by unfold dec; rw [if_pos (show i < n + m by omega)], h i hin]
      by_cases c1 : 0 < X i ∧ X i < 128
      · rw [if_pos c1] at ht ⊢
        exact key _ _ (by omega) (by omega) ht
      · rw [if_neg c1] at ht ⊢
        by_cases c2 : (192 ≤ X i ∧ X i < 224) ∧ ct n X (i + 1) = true
        · have hi1 : i + 1 < n := by have := c2.2; unfold ct at this; simp at this; omega
          rw [if_pos c2] at ht
          rw [if_pos ⟨c2.1, hct _ c2.2⟩, h (i + 1) hi1]
          exact key _ _ (by omega) (by omega) ht
        · rw [if_neg c2] at ht
          by_cases c3 : (224 ≤ X i ∧ X i < 240) ∧ ct n X (i + 1) = true ∧ ct n X (i + 2) = true
          · have hi2 : i + 2 < n := by have := c3.2.2; unfold ct at this; simp at this; omega
            rw [if_pos c3] at ht
            rw [if_neg (by omega), if_pos ⟨c3.1, hct _ c3.2.1, hct _ c3.2.2⟩, h (i + 1) (by omega), h (i + 2) hi2]
            exact key _ _ (by omega) (by omega) ht
          · rw [if_neg c3] at ht; cases ht
    · have hin' : i = n := by omega
      subst hin'
      have : t = [] := by
        unfold dec at ht
        rw [if_neg hin] at ht
        cases ht; rfl
      subst this
      exact stop g hg

theorem byte_lo (n x y j : Nat) (hx : x < 2 ^ (8 * n)) (hj : j < n) : byteAt (x + y <<< (8 * n)) j = byteAt x j := by
  show (x + y <<< (8 * n)) >>> (8 * j) % 256 = x >>> (8 * j) % 256
  rw [Nat.shiftLeft_eq, Nat.shiftRight_eq_div_pow, Nat.shiftRight_eq_div_pow]
  have e : 8 * n = 8 * j + 8 + (8 * n - 8 * j - 8) := by omega
  have e2 : y * 2 ^ (8 * n) = (y * 2 ^ (8 * n - 8 * j - 8) * 256) * 2 ^ (8 * j) := by
    rw [e, Nat.pow_add, Nat.pow_add]
    have : (2 : Nat) ^ 8 = 256 := rfl
    rw [this]
    have e3 : 8 * j + 8 + (8 * n - 8 * j - 8) - 8 * j - 8 = 8 * n - 8 * j - 8 := by omega
    rw [e3]
    simp only [Nat.mul_comm, Nat.mul_left_comm, Nat.mul_assoc]
  rw [e2, Nat.add_mul_div_right _ _ (Nat.two_pow_pos _), Nat.add_mul_mod_self_right]
theorem byte_hi (n x y j : Nat) (hx : x < 2 ^ (8 * n)) : byteAt (x + y <<< (8 * n)) (n + j) = byteAt y j := by
  show (x + y <<< (8 * n)) >>> (8 * (n + j)) % 256 = y >>> (8 * j) % 256
  rw [Nat.shiftLeft_eq, Nat.mul_add, Nat.shiftRight_add, Nat.shiftRight_eq_div_pow (x + y * 2 ^ (8 * n)), Nat.add_mul_div_right _ _ (Nat.two_pow_pos _), Nat.div_eq_of_lt hx, Nat.zero_add]

theorem Dec_join (n x m y : Nat) (hx : x < 2 ^ (8 * n)) (t1 t2 : List Nat) (h1 : Dec n x = some t1) (h2 : Dec m y = some t2) : Dec (n + m) (x + y <<< (8 * n)) = some (t1 ++ t2) := by
  unfold Dec at h1 h2 ⊢
  rw [joined n m (byteAt x) _ (fun j hj => byte_lo n x y j hx hj) n 0 t1 (by omega) (by omega) h1 (n + m) (by omega)]
  have := shift n m (byteAt y) (byteAt (x + y <<< (8 * n))) (fun j _ => byte_hi n x y j hx) m 0
  rw [Nat.add_zero] at this
  rw [this, h2]
  rfl
end Go.Proofs.Ytnpfppddongbhaa
end

section
namespace Go.Proofs.Ytnpfppddongbhaa
open Go Go.AM
set_option autoImplicit false
set_option linter.unusedSimpArgs false
set_option linter.unusedVariables false
theorem sCat_s (n x m y : Nat) (h : n + m ≤ 9223372036854775807) (k : AV → Res) : sCat (.str n x) (.str m y) k = k (.str (n + m) (x + y <<< (8 * n))) := by
  have e : sCat (.str n x) (.str m y) k = ifB (Nat.ble (Nat.add n m) 9223372036854775807) (k (.str (Nat.add n m) (Nat.add x (Nat.shiftLeft y (Nat.mul 8 n))))) .fail := rfl
  rw [e, (ble_iff (Nat.add n m) _).2 h]; rfl
theorem cut_lt (n x c : Nat) (hx : x < 2 ^ (8 * n)) : (if c < n then x % 2 ^ (8 * c) else x) < 2 ^ (8 * min n c) := by
  by_cases hc : c < n
  · rw [if_pos hc, Nat.min_eq_right (by omega)]; exact Nat.mod_lt _ (Nat.two_pow_pos _)
  · rw [if_neg hc, Nat.min_eq_left (by omega)]; exact hx
theorem U_app (s t : List Nat) : U (s ++ t) = U s ++ U t := by simp [U]
theorem lawJoin (n x m y : Nat) (hx : x < 2 ^ (8 * n)) : ∃ h', s9 [.str n x, .str m y] H0 = .ret (.bool true) h' := by
  obtain ⟨h1, e1, w1⟩ := t36
  have e2 := t37 n x 80
  have e3 := t37 m y 80
  have hx' := cut_lt n x 80 hx
  have hn : min n 80 ≤ 80 := Nat.min_le_right _ _
  have hm : min m 80 ≤ 80 := Nat.min_le_right _ _
  generalize min n 80 = a at *
  generalize min m 80 = b at *
  generalize (if 80 < n then x % 2 ^ (8 * 80) else x) = p at *
  generalize (if 80 < m then y % 2 ^ (8 * 80) else y) = q at *
  obtain ⟨u, h2, f1, s1, o1, w2⟩ := got_inv (t38 a p (by omega) h1 w1)
  obtain ⟨v, h3, f2, s2, o2, w3⟩ := got_inv (t38 b q (by omega) h2 w2)
  obtain ⟨z, h4, f3, s3, o3, w4⟩ := got_inv (t38 (a + b) (p + q <<< (8 * a)) (by omega) h3 w3)
  have e6 : (((80 : Nat) : Int)) = 80 := rfl
  rw [e6] at e2 e3
  have cu := fun k => cK_sl s1 k
  have cv := fun k => cK_sl s2 k
  have cz := fun k => cK_sl s3 k
  have cat := sCat_s a p b q (by omega)
  cases d1 : Dec a p with
  | none =>
    rw [d1] at f1
    exact ⟨h4, by simp only [↓s9, ↓e1, ↓e2, ↓e3, ↓f1, ↓f2, ↓f3, ↓cat, cu, cv, cz, Option.isSome_none, ↓uc_c, ↓uz_n, ↓cI_i, ↓cB_b, cB_b, ↓cT_t, cT_t, nth_z, nth_1, cK_b, ↓cK_b, ↓cK_i, cK_i, ifB_t, ifB_f, ↓ap_e, sel_t, sel_f, gsel_tt, gsel_tf, gsel_ft, gsel_ff, gsel_u, gd_tt, gd_tf, gd_ft, gd_ff, gd_u, ↓jn_n, jn_n, jn_r, ↓jn_r, blk_n, blk_r, ↓cl_r, cl_r, ↓iAdd_i, ↓iSub_i, ↓iMul_i, ↓iAnd_i, ↓iOr_i, ↓iXor_i, ↓iNeg_i, iQuo_i, iRem_i, ↓iConv_i, iConv_i, ↓bNot_b, bNot_b, ↓eqN_i, ↓ltN_i, ↓eqB_b, bnot_e, Int.ofNat_eq_natCast, Int.cast_ofNat_Int, Int.reduceBEq, Int.reduceAdd, Int.reduceNeg, Int.reduceNegSucc, Int.reduceLT, Int.reduceLE, Int.reduceMul, Int.reduceTMod, Int.reduceSub, Int.reduceBNe, Bool.not_true, Bool.not_false, decide_true, decide_false, w63_in, w31_in, ne_eq, not_false_eq_true, Int.reduceEq, reduceCtorEq, ww3131, ww6363, ww3163, ww6331, ww3231, ww3263, ww6463, ww6364, sh31, sh63, sl63, m31, m63, n63, s5a, s5b, s6a, s6b, b31, b32, b63, c63, c64, d64, iShl_c, iShr_c, sr3, sr6, sr7]⟩
  | some t1 =>
    cases d2 : Dec b q with
    | none =>
      rw [d1] at f1
      rw [d2] at f2
      exact ⟨h4, by simp only [↓s9, ↓e1, ↓e2, ↓e3, ↓f1, ↓f2, ↓f3, ↓cat, cu, cv, cz, Option.isSome_none, Option.isSome_some, ↓uc_c, ↓uz_n, ↓cI_i, ↓cB_b, cB_b, ↓cT_t, cT_t, nth_z, nth_1, cK_b, ↓cK_b, ↓cK_i, cK_i, ifB_t, ifB_f, ↓ap_e, sel_t, sel_f, gsel_tt, gsel_tf, gsel_ft, gsel_ff, gsel_u, gd_tt, gd_tf, gd_ft, gd_ff, gd_u, ↓jn_n, jn_n, jn_r, ↓jn_r, blk_n, blk_r, ↓cl_r, cl_r, ↓iAdd_i, ↓iSub_i, ↓iMul_i, ↓iAnd_i, ↓iOr_i, ↓iXor_i, ↓iNeg_i, iQuo_i, iRem_i, ↓iConv_i, iConv_i, ↓bNot_b, bNot_b, ↓eqN_i, ↓ltN_i, ↓eqB_b, bnot_e, Int.ofNat_eq_natCast, Int.cast_ofNat_Int, Int.reduceBEq, Int.reduceAdd, Int.reduceNeg, Int.reduceNegSucc, Int.reduceLT, Int.reduceLE, Int.reduceMul, Int.reduceTMod, Int.reduceSub, Int.reduceBNe, Bool.not_true, Bool.not_false, decide_true, decide_false, w63_in, w31_in, ne_eq, not_false_eq_true, Int.reduceEq, reduceCtorEq, ww3131, ww6363, ww3163, ww6331, ww3231, ww3263, ww6463, ww6364, sh31, sh63, sl63, m31, m63, n63, s5a, s5b, s6a, s6b, b31, b32, b63, c63, c64, d64, iShl_c, iShr_c, sr3, sr6, sr7]⟩
    | some t2 =>
      have d3 := Dec_join a p b q hx' t1 t2 d1 d2
      have n1 := Dec_len a p
      have n2 := Dec_len b q
      rw [d1] at f1 s1 n1
      rw [d2] at f2 s2 n2
      rw [d3] at f3 s3
      simp only [Option.getD_some] at s1 s2 s3 n1 n2
      have s1' := (s1.to o2 (fun _ _ f => f)).to o3 (fun _ _ f => f)
      have s2' := s2.to o3 (fun _ _ f => f)
      have g0 : Gr h4 h4.nb .nils [] := ⟨⟨by simp, .inl ⟨rfl, rfl⟩⟩, .inl rfl⟩
      obtain ⟨r1, h5, a1, a2, a3⟩ := apd_gr (by_ := 2) (Nat.le_refl _) w4 g0 s1' (by rw [U_len]; simp; omega) (by rw [U_len]; simp; omega)
      have toNo : To No h4 h5 := a3.mono fun b hb hn => by omega
      have s2'' := s2'.to toNo (fun _ _ f => f)
      obtain ⟨r2, h6, b1, b2, b3⟩ := apd_gr (by_ := 2) a3.nb (toNo.wf w4) a2 s2'' (by simp [U_len]; omega) (by simp [U_len]; omega)
      have toNo2 : To No h4 h6 := (a3.trans b3).mono fun b hb hn => by omega
      have s3' := s3.to toNo2 (fun _ _ f => f)
      have b2' : Sl h6 (fun b => h4.nb ≤ b) r2 (U (t1 ++ t2)) := by rw [U_app]; simpa using b2.1
      have e5 := t40 s3' b2' (by simp; omega)
      exact ⟨h6, by simp only [↓s9, ↓e1, ↓e2, ↓e3, ↓f1, ↓f2, ↓f3, ↓cat, cu, cv, cz, Option.isSome_some, ↓a1, ↓b1, ↓e5, ↓uc_c, ↓uz_n, ↓cI_i, ↓cB_b, cB_b, ↓cT_t, cT_t, nth_z, nth_1, cK_b, ↓cK_b, ↓cK_i, cK_i, ifB_t, ifB_f, ↓ap_e, sel_t, sel_f, gsel_tt, gsel_tf, gsel_ft, gsel_ff, gsel_u, gd_tt, gd_tf, gd_ft, gd_ff, gd_u, ↓jn_n, jn_n, jn_r, ↓jn_r, blk_n, blk_r, ↓cl_r, cl_r, ↓iAdd_i, ↓iSub_i, ↓iMul_i, ↓iAnd_i, ↓iOr_i, ↓iXor_i, ↓iNeg_i, iQuo_i, iRem_i, ↓iConv_i, iConv_i, ↓bNot_b, bNot_b, ↓eqN_i, ↓ltN_i, ↓eqB_b, bnot_e, Int.ofNat_eq_natCast, Int.cast_ofNat_Int, Int.reduceBEq, Int.reduceAdd, Int.reduceNeg, Int.reduceNegSucc, Int.reduceLT, Int.reduceLE, Int.reduceMul, Int.reduceTMod, Int.reduceSub, Int.reduceBNe, Bool.not_true, Bool.not_false, decide_true, decide_false, w63_in, w31_in, ne_eq, not_false_eq_true, Int.reduceEq, reduceCtorEq, ww3131, ww6363, ww3163, ww6331, ww3231, ww3263, ww6463, ww6364, sh31, sh63, sl63, m31, m63, n63, s5a, s5b, s6a, s6b, b31, b32, b63, c63, c64, d64, iShl_c, iShr_c, sr3, sr6, sr7]⟩
end Go.Proofs.Ytnpfppddongbhaa
end

section
namespace Go.Proofs.Ytnpfppddongbhaa
open Go Go.AM
set_option autoImplicit false
set_option linter.unusedSimpArgs false
set_option linter.unusedVariables false
theorem nck_p (b o : Nat) (k : AV → Res) : nck (.ptr b o) k = k (.ptr b o) := of_eq_true (eq_self _)
theorem eqP_pn (b o : Nat) (k : Bool → Res) : eqP (.ptr b o) .nilp k = k false := of_eq_true (eq_self _)
@[congr] theorem nck_cg {v v' : AV} (h : v = v') (k : AV → Res) : nck v k = nck v' k := by rw [h]
@[congr] theorem cP_cg {v v' : AV} (h : v = v') (k : Nat → Nat → Res) : cP v k = cP v' k := by rw [h]
@[congr] theorem lenL_cg {v v' : AV} (h : v = v') (k : AV → Res) : lenL v k = lenL v' k := by rw [h]
theorem lpn {F : List AV → Hp → Res} {vs vs' : List AV} {h h' : Hp} (m : Nat) (e : F vs h = .norm vs' h') : lp F (m + 1) vs h = lp F m vs' h' := by
  have : lp F (m + 1) vs h = Res.rec (motive := fun _ => Res) .fail (lp F m) (fun i vs h => .exit i vs h) (fun v h => .ret v h) (F vs h) := rfl
  rw [this, e]
theorem lpx {F : List AV → Hp → Res} {vs vs' : List AV} {h h' : Hp} {i : Nat} (m : Nat) (e : F vs h = .exit i vs' h') : lp F (m + 1) vs h = .exit i vs' h' := by
  have : lp F (m + 1) vs h = Res.rec (motive := fun _ => Res) .fail (lp F m) (fun i vs h => .exit i vs h) (fun v h => .ret v h) (F vs h) := rfl
  rw [this, e]
theorem lpr {F : List AV → Hp → Res} {vs : List AV} {v : AV} {h h' : Hp} (m : Nat) (e : F vs h = .ret v h') : lp F (m + 1) vs h = .ret v h' := by
  have : lp F (m + 1) vs h = Res.rec (motive := fun _ => Res) .fail (lp F m) (fun i vs h => .exit i vs h) (fun v h => .ret v h) (F vs h) := rfl
  rw [this, e]
theorem n63 (i : Nat) (hi : i < 1000000) : wrapC 63 (i : Int) = (i : Int) := w63_in _ (by omega) (by omega)

/-- Bytes. -/
def Bs (t : List Nat) : List AV := t.map fun (x : Nat) => AV.int 8 (x : Int)
theorem Bs_len (t : List Nat) : (Bs t).length = t.length := by simp [Bs]
theorem Bs_one (t : List Nat) : ∀ x ∈ Bs t, one x = true := by
  intro x hx
  obtain ⟨y, -, rfl⟩ := List.mem_map.1 hx
  rfl

/-- A copy. -/
theorem t68 {h : Hp} {P : Nat → Prop} {v : AV} {t : List Nat} (hs : Sl h P v (Bs t)) (hw : Wf h) (ht : t.length ≤ 100000) :
    ∃ v' h', s68 [v] h = .ret v' h' ∧ Sl h' (fun b => h.nb ≤ b ∧ b < h'.nb) v' (Bs t) ∧ To No h h' ∧ Wf h' := by
  have low : ∀ {h' : Hp} {v' : AV} {l : List AV}, Sl h' (fun b => h.nb ≤ b) v' l → Sl h' (fun b => h.nb ≤ b ∧ b < h'.nb) v' l := by
    intro h' v' l hs
    obtain ⟨h1, h2⟩ := hs
    refine ⟨h1, ?_⟩
    rcases h2 with h2 | h2 | ⟨b, o, c, B, h2, h3, h4, h5, hc, h6⟩
    · exact .inl h2
    · exact .inr (.inl h2)
    · exact .inr (.inr ⟨b, o, c, B, h2, ⟨h3, h4.lt⟩, h4, fun hf => ⟨h5 hf, (h4.grp hf).1⟩, hc, h6⟩)
  obtain ⟨b, e1, e2⟩ := eqL_nil hs (fun b2 => cB (.bool b2) fun b3 => ifB b3 (cK .nils fun v4 => .ret v4 h) (bld [] fun l5 => mkS h 1 0 l5 fun v6 h7 => apd h7 1 1 v6 v fun v8 h9 => cK v8 fun v10 => .ret v10 h9))
  have e0 : s68 [v] h = eqL v .nils (fun b2 => cB (.bool b2) fun b3 => ifB b3 (cK .nils fun v4 => .ret v4 h) (bld [] fun l5 => mkS h 1 0 l5 fun v6 h7 => apd h7 1 1 v6 v fun v8 h9 => cK v8 fun v10 => .ret v10 h9)) := rfl
  rw [e0, e1]
  cases b with
  | true =>
    have := e2 rfl
    exact ⟨.nils, h, rfl, ⟨Bs_one t, .inl ⟨rfl, this⟩⟩, To.refl _ _, hw⟩
  | false =>
    obtain ⟨o1, o2⟩ := nw_own hw 0 .nil .e
    have g : Gr (nw h 0 .nil .e) h.nb (.sl h.nb 0 0 1 (some 0)) [] :=
      ⟨⟨by simp, .inr (.inr ⟨h.nb, 0, _, _, rfl, Nat.le_refl _, o1.rd, fun _ => Nat.le_refl _, (fun c e => by cases e; exact Nat.le_refl _), fun i hi => by simp at hi⟩)⟩, .inr (.inl ⟨_, rfl, rfl⟩)⟩
    obtain ⟨v', h', a1, a2, a3⟩ := apd_gr (by_ := 1) o2.nb (o2.wf hw) g (hs.to o2 (fun _ _ f => f)) (by simp [Bs_len]; omega) (by simp [Bs_len]; omega)
    rw [List.nil_append] at a2
    refine ⟨v', h', ?_, low a2.1, (To.trans (o2.mono fun _ _ f => f.elim) a3).mono (fun b hb hn => by omega), a3.wf (o2.wf hw)⟩
    show (apd (nw h 0 .nil .e) 1 1 (.sl h.nb 0 0 1 (some 0)) v fun v8 h9 => cK v8 fun v10 => .ret v10 h9) = _
    rw [a1, cK_sl a2.1]

/-- A cursor: its variable is block b; its bytes lie in blocks from lo on, below b. -/
structure Cur (h : Hp) (lo b : Nat) (t : List Nat) (at_ : Nat) (bad : Bool) : Prop where
  own : ∃ B v, Own h b B ∧ B.lim = 3 ∧ B.at 0 = v ∧ B.at 1 = .int 63 (at_ : Int) ∧ B.at 2 = .bool bad ∧ Sl h (fun x => lo ≤ x ∧ x < b) v (Bs t)
  le : at_ ≤ t.length
  len : t.length ≤ 100000
  lo : lo ≤ b
  byt : ∀ x ∈ t, x < 256

theorem Cur.to {W : Nat → Prop} {h h' : Hp} {lo b at_ : Nat} {t : List Nat} {bad : Bool} (hc : Cur h lo b t at_ bad) (ht : To W h h') (hw : ∀ x, lo ≤ x → x ≤ b → ¬ W x) : Cur h' lo b t at_ bad := by
  obtain ⟨B, v, o, h1, h2, h3, h4, h5⟩ := hc.own
  exact ⟨⟨B, v, o.to ht (hw b hc.lo (Nat.le_refl _)), h1, h2, h3, h4, h5.to ht (fun x hx => hw x hx.1 (Nat.le_of_lt hx.2))⟩, hc.le, hc.len, hc.lo, hc.byt⟩

theorem one_sl' {h : Hp} {P : Nat → Prop} {v : AV} {l : List AV} (hs : Sl h P v l) : one v = true := one_sl hs

theorem t25 {h : Hp} {P : Nat → Prop} {v : AV} {t : List Nat} (hs : Sl h P v (Bs t)) (hw : Wf h) (ht : t.length ≤ 100000) (hb : ∀ x ∈ t, x < 256) :
    ∃ b h', s25 [v] h = .ret (.ptr b 0) h' ∧ Cur h' h.nb b t 0 false ∧ To No h h' ∧ Wf h' ∧ h'.nb = b + 1 := by
  obtain ⟨v', h1, e1, s1, o1, w1⟩ := t68 hs hw ht
  have hone := one_sl s1
  have hbl : ∀ k : AV → Res, bld [(false, 1, v'), (false, 1, .int 63 (.ofNat 0)), (false, 1, .bool false)] k = k (avL [v', .int 63 0, .bool false]) := fun k => by
    have : bld [(false, 1, v'), (false, 1, .int 63 (.ofNat 0)), (false, 1, .bool false)] k = ifB (one v') (k (avL [v', .int 63 0, .bool false])) .fail := rfl
    rw [this, hone]; rfl
  obtain ⟨tr, t1, t2⟩ := lay_list [v', .int 63 0, .bool false] .e 0 (by
    intro x hx
    rcases List.mem_cons.1 hx with rfl | hx
    · exact hone
    · rcases List.mem_cons.1 hx with rfl | hx
      · rfl
      · rcases List.mem_cons.1 hx with rfl | hx
        · rfl
        · cases hx)
  have hm : ∀ k : AV → Hp → Res, mk h1 (avL [v', .int 63 0, .bool false]) k = k (.ptr h1.nb 0) (nw h1 3 .nil tr) := fun k => by
    have : mk h1 (avL [v', .int 63 0, .bool false]) k = lay (avL [v', .int 63 0, .bool false]) .e 0 fun t n => k (.ptr h1.nb 0) (nw h1 n .nil t) := rfl
    rw [this, t1]; rfl
  obtain ⟨q1, q2⟩ := nw_own w1 3 .nil tr
  have hat : ∀ i (hi : i < 3), (⟨true, h1.nb, 3, .nil, tr⟩ : Blk).at i = [v', .int 63 0, .bool false][i] := fun i hi => by
    rw [at_in _ (show i < 3 from hi)]
    simp only [t2 i]
    rw [dif_pos ⟨by omega, by simpa using hi⟩]
    simp
  refine ⟨h1.nb, nw h1 3 .nil tr, ?_, ⟨⟨_, v', q1, rfl, hat 0 (by decide), hat 1 (by decide), hat 2 (by decide), s1.to q2 (fun _ _ f => f)⟩, Nat.zero_le _, ht, o1.nb, hb⟩, o1.trans q2, q2.wf w1, rfl⟩
  have e0 : s25 [v] h = cl (s68 [v] h) fun v2 h3 => bld [(false, 1, v2), (false, 1, (.int 63 (.ofNat 0))), (false, 1, (.bool false))] fun l4 => mk h3 (cells (.agg l4)) fun v5 h6 => cK v5 fun v7 => .ret v7 h6 := rfl
  rw [e0, e1, cl_r, hbl]
  show (mk h1 (avL [v', .int 63 0, .bool false]) fun v5 h6 => cK v5 fun v7 => .ret v7 h6) = _
  rw [hm]; rfl
end Go.Proofs.Ytnpfppddongbhaa
end

section
namespace Go.Proofs.Ytnpfppddongbhaa
open Go Go.AM
set_option autoImplicit false
set_option linter.unusedSimpArgs false
set_option linter.unusedVariables false
section
variable {h : Hp} {lo b at_ : Nat} {t : List Nat} {bad : Bool}
theorem Cur.open (hc : Cur h lo b t at_ bad) : ∃ v, Sl h (fun x => lo ≤ x ∧ x < b) v (Bs t) ∧ (∀ k, ld1 h (.ptr b (Nat.add 0 0)) k = k v) ∧ (∀ k, ld1 h (.ptr b (Nat.add 0 1)) k = k (.int 63 (at_ : Int))) ∧ (∀ k, ld1 h (.ptr b (Nat.add 0 2)) k = k (.bool bad)) := by
  obtain ⟨B, v, o, h1, h2, h3, h4, h5⟩ := hc.own
  exact ⟨v, h5, fun k => (ld1_rd o.rd h2 k).trans (cK_sl h5 k), fun k => (ld1_rd o.rd h3 k).trans (cK_i _ _ _), fun k => (ld1_rd o.rd h4 k).trans (cK_b _ _)⟩
theorem Cur.move (hc : Cur h lo b t at_ bad) (m : Nat) (hm : m ≤ t.length) : ∃ h', (∀ k, st1 h (.ptr b (Nat.add 0 1)) (.int 63 (m : Int)) k = k h') ∧ Cur h' lo b t m bad ∧ To (At b) h h' := by
  obtain ⟨B, v, o, h1, h2, h3, h4, h5⟩ := hc.own
  obtain ⟨h', e1, e2, e3, -⟩ := st1_own (o := 1) (v := .int 63 (m : Int)) o (by omega) rfl
  refine ⟨h', e1, ⟨⟨_, v, e2, h1, ?_, ?_, ?_, h5.to e3 (fun x hx e => by have : x = b := e; omega)⟩, hm, hc.len, hc.lo, hc.byt⟩, e3⟩
  · rw [setC_at (by omega), if_neg (by decide)]; exact h2
  · rw [setC_at (by omega), if_pos rfl]
  · rw [setC_at (by omega), if_neg (by decide)]; exact h4
theorem Cur.fall (hc : Cur h lo b t at_ bad) : ∃ h', (∀ k, st1 h (.ptr b (Nat.add 0 2)) (.bool true) k = k h') ∧ Cur h' lo b t at_ true ∧ To (At b) h h' := by
  obtain ⟨B, v, o, h1, h2, h3, h4, h5⟩ := hc.own
  obtain ⟨h', e1, e2, e3, -⟩ := st1_own (o := 2) (v := .bool true) o (by omega) rfl
  refine ⟨h', e1, ⟨⟨_, v, e2, h1, ?_, ?_, ?_, h5.to e3 (fun x hx e => by have : x = b := e; omega)⟩, hc.le, hc.len, hc.lo, hc.byt⟩, e3⟩
  · rw [setC_at (by omega), if_neg (by decide)]; exact h2
  · rw [setC_at (by omega), if_neg (by decide)]; exact h3
  · rw [setC_at (by omega), if_pos rfl]

theorem t69_no (hc : Cur h lo b t at_ bad) (hw : Wf h) (n : Int) (hn : bad = true ∨ n < 0 ∨ (t.length : Int) - at_ < n) :
    ∃ h', s69 [.ptr b 0, .int 63 n] h = .ret .nils h' ∧ Cur h' lo b t at_ true ∧ To (At b) h h' ∧ Wf h' := by
  obtain ⟨v, hs, e0, e1, e2⟩ := hc.open
  obtain ⟨h', e3, c', o'⟩ := hc.fall
  refine ⟨h', ?_, c', o', o'.wf hw⟩
  have l0 := fun k => lenL_sl hs k
  have w1 : wrapC 63 ((t.length : Int) - (at_ : Int)) = (t.length : Int) - (at_ : Int) := w63_in _ (by have := hc.le; have := hc.len; omega) (by have := hc.len; omega)
  cases bad with
  | true => simp only [↓s69, ↓nck_p, ↓cP_p, ↓eqP_pn, ↓e0, ↓e1, ↓e2, ↓e3, ↓l0, Bs_len, ↓uc_c, ↓uz_n, ↓cI_i, ↓cB_b, cB_b, ↓cT_t, cT_t, nth_z, nth_1, cK_b, ↓cK_b, ↓cK_i, cK_i, ifB_t, ifB_f, ↓ap_e, sel_t, sel_f, gsel_tt, gsel_tf, gsel_ft, gsel_ff, gsel_u, gd_tt, gd_tf, gd_ft, gd_ff, gd_u, ↓jn_n, jn_n, jn_r, ↓jn_r, blk_n, blk_r, ↓cl_r, cl_r, ↓iAdd_i, ↓iSub_i, ↓iMul_i, ↓iAnd_i, ↓iOr_i, ↓iXor_i, ↓iNeg_i, iQuo_i, iRem_i, ↓iConv_i, iConv_i, ↓bNot_b, bNot_b, ↓eqN_i, ↓ltN_i, ↓eqB_b, bnot_e, Int.ofNat_eq_natCast, Int.cast_ofNat_Int, Int.reduceBEq, Int.reduceAdd, Int.reduceNeg, Int.reduceNegSucc, Int.reduceLT, Int.reduceLE, Int.reduceMul, Int.reduceTMod, Int.reduceSub, Int.reduceBNe, Bool.not_true, Bool.not_false, decide_true, decide_false, w63_in, w31_in, ne_eq, not_false_eq_true, Int.reduceEq, reduceCtorEq, ww3131, ww6363, ww3163, ww6331, ww3231, ww3263, ww6463, ww6364, sh31, sh63, sl63, m31, m63, n63, s5a, s5b, s6a, s6b, b31, b32, b63, c63, c64, d64, iShl_c, iShr_c, sr3, sr6, sr7]; rfl
  | false =>
    by_cases h1 : n < 0
    · simp only [↓s69, ↓nck_p, ↓cP_p, ↓eqP_pn, ↓e0, ↓e1, ↓e2, ↓e3, ↓l0, Bs_len, h1, ↓uc_c, ↓uz_n, ↓cI_i, ↓cB_b, cB_b, ↓cT_t, cT_t, nth_z, nth_1, cK_b, ↓cK_b, ↓cK_i, cK_i, ifB_t, ifB_f, ↓ap_e, sel_t, sel_f, gsel_tt, gsel_tf, gsel_ft, gsel_ff, gsel_u, gd_tt, gd_tf, gd_ft, gd_ff, gd_u, ↓jn_n, jn_n, jn_r, ↓jn_r, blk_n, blk_r, ↓cl_r, cl_r, ↓iAdd_i, ↓iSub_i, ↓iMul_i, ↓iAnd_i, ↓iOr_i, ↓iXor_i, ↓iNeg_i, iQuo_i, iRem_i, ↓iConv_i, iConv_i, ↓bNot_b, bNot_b, ↓eqN_i, ↓ltN_i, ↓eqB_b, bnot_e, Int.ofNat_eq_natCast, Int.cast_ofNat_Int, Int.reduceBEq, Int.reduceAdd, Int.reduceNeg, Int.reduceNegSucc, Int.reduceLT, Int.reduceLE, Int.reduceMul, Int.reduceTMod, Int.reduceSub, Int.reduceBNe, Bool.not_true, Bool.not_false, decide_true, decide_false, w63_in, w31_in, ne_eq, not_false_eq_true, Int.reduceEq, reduceCtorEq, ww3131, ww6363, ww3163, ww6331, ww3231, ww3263, ww6463, ww6364, sh31, sh63, sl63, m31, m63, n63, s5a, s5b, s6a, s6b, b31, b32, b63, c63, c64, d64, iShl_c, iShr_c, sr3, sr6, sr7]; rfl
    · have h2 : (t.length : Int) - at_ < n := by
        rcases hn with hn | hn | hn
        · cases hn
        · exact absurd hn h1
        · exact hn
      simp only [↓s69, ↓nck_p, ↓cP_p, ↓eqP_pn, ↓e0, ↓e1, ↓e2, ↓e3, ↓l0, Bs_len, h1, h2, w1, ↓uc_c, ↓uz_n, ↓cI_i, ↓cB_b, cB_b, ↓cT_t, cT_t, nth_z, nth_1, cK_b, ↓cK_b, ↓cK_i, cK_i, ifB_t, ifB_f, ↓ap_e, sel_t, sel_f, gsel_tt, gsel_tf, gsel_ft, gsel_ff, gsel_u, gd_tt, gd_tf, gd_ft, gd_ff, gd_u, ↓jn_n, jn_n, jn_r, ↓jn_r, blk_n, blk_r, ↓cl_r, cl_r, ↓iAdd_i, ↓iSub_i, ↓iMul_i, ↓iAnd_i, ↓iOr_i, ↓iXor_i, ↓iNeg_i, iQuo_i, iRem_i, ↓iConv_i, iConv_i, ↓bNot_b, bNot_b, ↓eqN_i, ↓ltN_i, ↓eqB_b, bnot_e, Int.ofNat_eq_natCast, Int.cast_ofNat_Int, Int.reduceBEq, Int.reduceAdd, Int.reduceNeg, Int.reduceNegSucc, Int.reduceLT, Int.reduceLE, Int.reduceMul, Int.reduceTMod, Int.reduceSub, Int.reduceBNe, Bool.not_true, Bool.not_false, decide_true, decide_false, w63_in, w31_in, ne_eq, not_false_eq_true, Int.reduceEq, reduceCtorEq, ww3131, ww6363, ww3163, ww6331, ww3231, ww3263, ww6463, ww6364, sh31, sh63, sl63, m31, m63, n63, s5a, s5b, s6a, s6b, b31, b32, b63, c63, c64, d64, iShl_c, iShr_c, sr3, sr6, sr7]; rfl

theorem t69_ok (hc : Cur h lo b t at_ false) (hw : Wf h) (n : Nat) (hn : at_ + n ≤ t.length) :
    ∃ v h', s69 [.ptr b 0, .int 63 (n : Int)] h = .ret v h' ∧ Sl h' (fun x => lo ≤ x ∧ x < b) v (Bs ((t.drop at_).take n)) ∧ Cur h' lo b t (at_ + n) false ∧ To (At b) h h' ∧ Wf h' := by
  obtain ⟨v, hs, e0, e1, e2⟩ := hc.open
  obtain ⟨h', e3, c', o'⟩ := hc.move (at_ + n) hn
  obtain ⟨v2, hs2, f0, f1, f2⟩ := c'.open
  have l0 := fun k => lenL_sl hs k
  have hlen := hc.len
  have w1 : wrapC 63 ((t.length : Int) - (at_ : Int)) = (t.length : Int) - (at_ : Int) := w63_in _ (by omega) (by omega)
  have w2 : wrapC 63 ((at_ : Int) + (n : Int)) = ((at_ + n : Nat) : Int) := by rw [w63_in _ (by omega) (by omega)]; omega
  have w3 : wrapC 63 (((at_ + n : Nat) : Int) - (n : Int)) = (at_ : Int) := by rw [w63_in _ (by omega) (by omega)]; omega
  have h1 : ¬ (n : Int) < 0 := by omega
  have h2 : ¬ (t.length : Int) - at_ < (n : Int) := by omega
  obtain ⟨v', g1, g2⟩ := cut_sl hs2 (c1 := 63) (c2 := 63) at_ (at_ + n) (by omega) (by rw [Bs_len]; exact hn)
  have g2' : Sl h' (fun x => lo ≤ x ∧ x < b) v' (Bs ((t.drop at_).take n)) := by
    have e : ((Bs t).drop at_).take (at_ + n - at_) = Bs ((t.drop at_).take n) := by rw [Nat.add_sub_cancel_left]; simp [Bs, List.map_drop, List.map_take]
    rwa [e] at g2
  have cv := fun k => cK_sl g2' k
  exact ⟨v', h', by simp only [↓s69, ↓nck_p, ↓cP_p, ↓eqP_pn, ↓e0, ↓e1, ↓e2, ↓e3, ↓f0, ↓f1, ↓f2, ↓l0, Bs_len, h1, h2, w1, w2, w3, ↓g1, ↓cv, ↓uc_c, ↓uz_n, ↓cI_i, ↓cB_b, cB_b, ↓cT_t, cT_t, nth_z, nth_1, cK_b, ↓cK_b, ↓cK_i, cK_i, ifB_t, ifB_f, ↓ap_e, sel_t, sel_f, gsel_tt, gsel_tf, gsel_ft, gsel_ff, gsel_u, gd_tt, gd_tf, gd_ft, gd_ff, gd_u, ↓jn_n, jn_n, jn_r, ↓jn_r, blk_n, blk_r, ↓cl_r, cl_r, ↓iAdd_i, ↓iSub_i, ↓iMul_i, ↓iAnd_i, ↓iOr_i, ↓iXor_i, ↓iNeg_i, iQuo_i, iRem_i, ↓iConv_i, iConv_i, ↓bNot_b, bNot_b, ↓eqN_i, ↓ltN_i, ↓eqB_b, bnot_e, Int.ofNat_eq_natCast, Int.cast_ofNat_Int, Int.reduceBEq, Int.reduceAdd, Int.reduceNeg, Int.reduceNegSucc, Int.reduceLT, Int.reduceLE, Int.reduceMul, Int.reduceTMod, Int.reduceSub, Int.reduceBNe, Bool.not_true, Bool.not_false, decide_true, decide_false, w63_in, w31_in, ne_eq, not_false_eq_true, Int.reduceEq, reduceCtorEq, ww3131, ww6363, ww3163, ww6331, ww3231, ww3263, ww6463, ww6364, sh31, sh63, sl63, m31, m63, n63, s5a, s5b, s6a, s6b, b31, b32, b63, c63, c64, d64, iShl_c, iShr_c, sr3, sr6, sr7], g2', c', o', o'.wf hw⟩

theorem t30 (hc : Cur h lo b t at_ bad) : s30 [.ptr b 0] h = .ret (.bool (!bad)) h := by
  obtain ⟨v, hs, e0, e1, e2⟩ := hc.open
  simp only [↓s30, ↓nck_p, ↓cP_p, ↓eqP_pn, ↓e0, ↓e1, ↓e2, ↓uc_c, ↓uz_n, ↓cI_i, ↓cB_b, cB_b, ↓cT_t, cT_t, nth_z, nth_1, cK_b, ↓cK_b, ↓cK_i, cK_i, ifB_t, ifB_f, ↓ap_e, sel_t, sel_f, gsel_tt, gsel_tf, gsel_ft, gsel_ff, gsel_u, gd_tt, gd_tf, gd_ft, gd_ff, gd_u, ↓jn_n, jn_n, jn_r, ↓jn_r, blk_n, blk_r, ↓cl_r, cl_r, ↓iAdd_i, ↓iSub_i, ↓iMul_i, ↓iAnd_i, ↓iOr_i, ↓iXor_i, ↓iNeg_i, iQuo_i, iRem_i, ↓iConv_i, iConv_i, ↓bNot_b, bNot_b, ↓eqN_i, ↓ltN_i, ↓eqB_b, bnot_e, Int.ofNat_eq_natCast, Int.cast_ofNat_Int, Int.reduceBEq, Int.reduceAdd, Int.reduceNeg, Int.reduceNegSucc, Int.reduceLT, Int.reduceLE, Int.reduceMul, Int.reduceTMod, Int.reduceSub, Int.reduceBNe, Bool.not_true, Bool.not_false, decide_true, decide_false, w63_in, w31_in, ne_eq, not_false_eq_true, Int.reduceEq, reduceCtorEq, ww3131, ww6363, ww3163, ww6331, ww3231, ww3263, ww6463, ww6364, sh31, sh63, sl63, m31, m63, n63, s5a, s5b, s6a, s6b, b31, b32, b63, c63, c64, d64, iShl_c, iShr_c, sr3, sr6, sr7]
theorem t31 (hc : Cur h lo b t at_ bad) : s31 [.ptr b 0] h = .ret (.int 63 ((t.length - at_ : Nat) : Int)) h := by
  obtain ⟨v, hs, e0, e1, e2⟩ := hc.open
  have l0 := fun k => lenL_sl hs k
  have hlen := hc.len
  have hle := hc.le
  have w1 : wrapC 63 ((t.length : Int) - (at_ : Int)) = ((t.length - at_ : Nat) : Int) := by rw [w63_in _ (by omega) (by omega)]; omega
  simp only [↓s31, ↓nck_p, ↓cP_p, ↓eqP_pn, ↓e0, ↓e1, ↓e2, ↓l0, Bs_len, w1, ↓uc_c, ↓uz_n, ↓cI_i, ↓cB_b, cB_b, ↓cT_t, cT_t, nth_z, nth_1, cK_b, ↓cK_b, ↓cK_i, cK_i, ifB_t, ifB_f, ↓ap_e, sel_t, sel_f, gsel_tt, gsel_tf, gsel_ft, gsel_ff, gsel_u, gd_tt, gd_tf, gd_ft, gd_ff, gd_u, ↓jn_n, jn_n, jn_r, ↓jn_r, blk_n, blk_r, ↓cl_r, cl_r, ↓iAdd_i, ↓iSub_i, ↓iMul_i, ↓iAnd_i, ↓iOr_i, ↓iXor_i, ↓iNeg_i, iQuo_i, iRem_i, ↓iConv_i, iConv_i, ↓bNot_b, bNot_b, ↓eqN_i, ↓ltN_i, ↓eqB_b, bnot_e, Int.ofNat_eq_natCast, Int.cast_ofNat_Int, Int.reduceBEq, Int.reduceAdd, Int.reduceNeg, Int.reduceNegSucc, Int.reduceLT, Int.reduceLE, Int.reduceMul, Int.reduceTMod, Int.reduceSub, Int.reduceBNe, Bool.not_true, Bool.not_false, decide_true, decide_false, w63_in, w31_in, ne_eq, not_false_eq_true, Int.reduceEq, reduceCtorEq, ww3131, ww6363, ww3163, ww6331, ww3231, ww3263, ww6463, ww6364, sh31, sh63, sl63, m31, m63, n63, s5a, s5b, s6a, s6b, b31, b32, b63, c63, c64, d64, iShl_c, iShr_c, sr3, sr6, sr7]
theorem t35 (hc : Cur h lo b t at_ bad) : s35 [.ptr b 0] h = .ret (.int 63 ((t.length - at_ : Nat) : Int)) h := by
  obtain ⟨v, hs, e0, e1, e2⟩ := hc.open
  have l0 := fun k => lenL_sl hs k
  have hlen := hc.len
  have hle := hc.le
  have w1 : wrapC 63 ((t.length : Int) - (at_ : Int)) = ((t.length - at_ : Nat) : Int) := by rw [w63_in _ (by omega) (by omega)]; omega
  simp only [↓s35, ↓nck_p, ↓cP_p, ↓eqP_pn, ↓e0, ↓e1, ↓e2, ↓l0, Bs_len, w1, ↓uc_c, ↓uz_n, ↓cI_i, ↓cB_b, cB_b, ↓cT_t, cT_t, nth_z, nth_1, cK_b, ↓cK_b, ↓cK_i, cK_i, ifB_t, ifB_f, ↓ap_e, sel_t, sel_f, gsel_tt, gsel_tf, gsel_ft, gsel_ff, gsel_u, gd_tt, gd_tf, gd_ft, gd_ff, gd_u, ↓jn_n, jn_n, jn_r, ↓jn_r, blk_n, blk_r, ↓cl_r, cl_r, ↓iAdd_i, ↓iSub_i, ↓iMul_i, ↓iAnd_i, ↓iOr_i, ↓iXor_i, ↓iNeg_i, iQuo_i, iRem_i, ↓iConv_i, iConv_i, ↓bNot_b, bNot_b, ↓eqN_i, ↓ltN_i, ↓eqB_b, bnot_e, Int.ofNat_eq_natCast, Int.cast_ofNat_Int, Int.reduceBEq, Int.reduceAdd, Int.reduceNeg, Int.reduceNegSucc, Int.reduceLT, Int.reduceLE, Int.reduceMul, Int.reduceTMod, Int.reduceSub, Int.reduceBNe, Bool.not_true, Bool.not_false, decide_true, decide_false, w63_in, w31_in, ne_eq, not_false_eq_true, Int.reduceEq, reduceCtorEq, ww3131, ww6363, ww3163, ww6331, ww3231, ww3263, ww6463, ww6364, sh31, sh63, sl63, m31, m63, n63, s5a, s5b, s6a, s6b, b31, b32, b63, c63, c64, d64, iShl_c, iShr_c, sr3, sr6, sr7]
theorem t34 (hc : Cur h lo b t at_ bad) : s34 [.ptr b 0] h = .ret (.int 63 (at_ : Int)) h := by
  obtain ⟨v, hs, e0, e1, e2⟩ := hc.open
  simp only [↓s34, ↓nck_p, ↓cP_p, ↓eqP_pn, ↓e0, ↓e1, ↓e2, ↓uc_c, ↓uz_n, ↓cI_i, ↓cB_b, cB_b, ↓cT_t, cT_t, nth_z, nth_1, cK_b, ↓cK_b, ↓cK_i, cK_i, ifB_t, ifB_f, ↓ap_e, sel_t, sel_f, gsel_tt, gsel_tf, gsel_ft, gsel_ff, gsel_u, gd_tt, gd_tf, gd_ft, gd_ff, gd_u, ↓jn_n, jn_n, jn_r, ↓jn_r, blk_n, blk_r, ↓cl_r, cl_r, ↓iAdd_i, ↓iSub_i, ↓iMul_i, ↓iAnd_i, ↓iOr_i, ↓iXor_i, ↓iNeg_i, iQuo_i, iRem_i, ↓iConv_i, iConv_i, ↓bNot_b, bNot_b, ↓eqN_i, ↓ltN_i, ↓eqB_b, bnot_e, Int.ofNat_eq_natCast, Int.cast_ofNat_Int, Int.reduceBEq, Int.reduceAdd, Int.reduceNeg, Int.reduceNegSucc, Int.reduceLT, Int.reduceLE, Int.reduceMul, Int.reduceTMod, Int.reduceSub, Int.reduceBNe, Bool.not_true, Bool.not_false, decide_true, decide_false, w63_in, w31_in, ne_eq, not_false_eq_true, Int.reduceEq, reduceCtorEq, ww3131, ww6363, ww3163, ww6331, ww3231, ww3263, ww6463, ww6364, sh31, sh63, sl63, m31, m63, n63, s5a, s5b, s6a, s6b, b31, b32, b63, c63, c64, d64, iShl_c, iShr_c, sr3, sr6, sr7]
end
end Go.Proofs.Ytnpfppddongbhaa
end

section
namespace Go.Proofs.Ytnpfppddongbhaa
open Go Go.AM
set_option autoImplicit false
set_option linter.unusedSimpArgs false
set_option linter.unusedVariables false
/-- A read that the cursor can do. -/
def okc (t : List Nat) (at_ : Nat) (bad : Bool) (n : Int) : Prop := bad = false ∧ 0 ≤ n ∧ n ≤ (t.length : Int) - at_
instance (t : List Nat) (at_ : Nat) (bad : Bool) (n : Int) : Decidable (okc t at_ bad n) := inferInstanceAs (Decidable (_ ∧ _ ∧ _))
def win (t : List Nat) (at_ : Nat) (bad : Bool) (n : Int) : List Nat := if okc t at_ bad n then (t.drop at_).take n.toNat else []
def nat_ (t : List Nat) (at_ : Nat) (bad : Bool) (n : Int) : Nat := if okc t at_ bad n then at_ + n.toNat else at_
def nbad (t : List Nat) (at_ : Nat) (bad : Bool) (n : Int) : Bool := if okc t at_ bad n then false else true
/-- The number that bytes state, the highest first. -/
def be : List Nat → Nat → Nat
  | [], a => a
  | x :: l, a => be l (a * 256 + x)
theorem Sl_nil (h : Hp) (P : Nat → Prop) : Sl h P .nils (Bs []) := ⟨by simp [Bs], .inl ⟨rfl, rfl⟩⟩
theorem win_byt {t : List Nat} (hb : ∀ x ∈ t, x < 256) (at_ : Nat) (bad : Bool) (n : Int) : ∀ x ∈ win t at_ bad n, x < 256 := by
  intro x hx
  unfold win at hx
  split at hx
  · exact hb x (List.mem_of_mem_drop (List.mem_of_mem_take hx))
  · cases hx
theorem win_len (t : List Nat) (at_ : Nat) (bad : Bool) (n : Int) : (win t at_ bad n).length ≤ n.toNat := by
  unfold win
  split
  · simp; omega
  · simp
theorem win_len2 (t : List Nat) (at_ : Nat) (bad : Bool) (n : Int) : (win t at_ bad n).length ≤ t.length := by
  unfold win
  split
  · simp; omega
  · simp
section
variable {h : Hp} {lo b at_ : Nat} {t : List Nat} {bad : Bool}
theorem t69 (hc : Cur h lo b t at_ bad) (hw : Wf h) (n : Int) :
    ∃ v h', s69 [.ptr b 0, .int 63 n] h = .ret v h' ∧ Sl h' (fun x => lo ≤ x ∧ x < b) v (Bs (win t at_ bad n)) ∧ Cur h' lo b t (nat_ t at_ bad n) (nbad t at_ bad n) ∧ To (At b) h h' ∧ Wf h' := by
  by_cases ho : okc t at_ bad n
  · obtain ⟨rfl, h0, h1⟩ := id ho
    obtain ⟨m, rfl⟩ : ∃ m : Nat, n = (m : Int) := ⟨n.toNat, by omega⟩
    have := hc.le
    have r := t69_ok hc hw m (by omega)
    simp only [win, nat_, nbad, if_pos ho, Int.toNat_natCast]
    exact r
  · obtain ⟨h', e1, e2, e3, e4⟩ := t69_no hc hw n (by
      cases bad with
      | true => exact .inl rfl
      | false =>
        refine .inr ?_
        by_cases h0 : n < 0
        · exact .inl h0
        · refine .inr ?_
          have : ¬ (n ≤ (t.length : Int) - at_) := fun h1 => ho ⟨rfl, by omega, h1⟩
          omega)
    simp only [win, nat_, nbad, if_neg ho]
    exact ⟨.nils, h', e1, Sl_nil _ _, e2, e3, e4⟩

theorem sh8 (m : Int) (k : AV → Res) : iShl (.int 63 m) (.int 64 (.ofNat 8)) k = k (.int 63 (wrapC 63 (m * 256))) := iShl_i k 63 m 64 8 (by decide)
theorem c8 (x : Nat) (hx : x < 256) : wrapC 63 (x : Int) = (x : Int) := w63_in _ (by omega) (by omega)
theorem m8 (a : Nat) (ha : a < 1099511627776) : wrapC 63 ((a : Int) * 256) = ((a * 256 : Nat) : Int) := by rw [w63_in _ (by omega) (by omega)]; omega
theorem or8 (a x : Nat) (ha : a < 1099511627776) (hx : x < 256) : wrapC 63 ((Nat.lor (toU 63 ((a * 256 : Nat) : Int)) (toU 63 (x : Int)) : Nat) : Int) = ((a * 256 + x : Nat) : Int) := by
  have e1 : toU 63 ((a * 256 : Nat) : Int) = a * 256 := by have := toU63 ((a * 256 : Nat) : Int); omega
  have e2 : toU 63 (x : Int) = x := by have := toU63 (x : Int); omega
  have e3 : Nat.lor (a * 256) x = a * 256 + x := by
    have := Nat.two_pow_add_eq_or_of_lt (i := 8) (b := x) (by omega) a
    have e : Nat.lor (a * 256) x = (2 ^ 8 * a) ||| x := by rw [Nat.mul_comm]; rfl
    rw [e, ← this]; omega
  rw [e1, e2, e3]
  exact w63_in _ (by omega) (by omega)
theorem ad8 (a x : Nat) (ha : a < 1099511627776) (hx : x < 256) : wrapC 63 (((a * 256 : Nat) : Int) + (x : Int)) = ((a * 256 + x : Nat) : Int) := by rw [w63_in _ (by omega) (by omega)]; omega
theorem s1n (i : Nat) (hi : i < 1000000) : wrapC 63 ((i : Int) + 1) = ((i + 1 : Nat) : Int) := by rw [w63_in _ (by omega) (by omega)]; omega

theorem loop70 {P : Nat → Prop} {v : AV} {l : List Nat} (hs : Sl h P v (Bs l)) (hl : l.length ≤ 4) (hb : ∀ x ∈ l, x < 256) : ∀ (f m i a : Nat), l.length - i ≤ f → f < m → i ≤ l.length → a < 256 ^ i → lp L70n0 m [.int 63 (a : Int), v, .int 63 (l.length : Int), .int 63 (i : Int)] h = .exit 0 [.int 63 (be (l.drop i) a : Int)] h := by
  have stop : ∀ (f m i a : Nat), f < m → ¬ i < l.length → lp L70n0 m [.int 63 (a : Int), v, .int 63 (l.length : Int), .int 63 (i : Int)] h = .exit 0 [.int 63 (be (l.drop i) a : Int)] h := by
    intro f m i a hm hi
    obtain ⟨m, rfl⟩ : ∃ k, m = k + 1 := ⟨m - 1, by omega⟩
    have e1 : ¬ (i : Int) < (l.length : Int) := by omega
    have e : L70n0 [.int 63 (a : Int), v, .int 63 (l.length : Int), .int 63 (i : Int)] h = .exit 0 [.int 63 (a : Int)] h := by simp only [↓L70n0, e1, ↓uc_c, ↓uz_n, ↓cI_i, ↓cB_b, cB_b, ↓cT_t, cT_t, nth_z, nth_1, cK_b, ↓cK_b, ↓cK_i, cK_i, ifB_t, ifB_f, ↓ap_e, sel_t, sel_f, gsel_tt, gsel_tf, gsel_ft, gsel_ff, gsel_u, gd_tt, gd_tf, gd_ft, gd_ff, gd_u, ↓jn_n, jn_n, jn_r, ↓jn_r, blk_n, blk_r, ↓cl_r, cl_r, ↓iAdd_i, ↓iSub_i, ↓iMul_i, ↓iAnd_i, ↓iOr_i, ↓iXor_i, ↓iNeg_i, iQuo_i, iRem_i, ↓iConv_i, iConv_i, ↓bNot_b, bNot_b, ↓eqN_i, ↓ltN_i, ↓eqB_b, bnot_e, Int.ofNat_eq_natCast, Int.cast_ofNat_Int, Int.reduceBEq, Int.reduceAdd, Int.reduceNeg, Int.reduceNegSucc, Int.reduceLT, Int.reduceLE, Int.reduceMul, Int.reduceTMod, Int.reduceSub, Int.reduceBNe, Bool.not_true, Bool.not_false, decide_true, decide_false, w63_in, w31_in, ne_eq, not_false_eq_true, Int.reduceEq, reduceCtorEq, ww3131, ww6363, ww3163, ww6331, ww3231, ww3263, ww6463, ww6364, sh31, sh63, sl63, m31, m63, n63, s5a, s5b, s6a, s6b, b31, b32, b63, c63, c64, d64, iShl_c, iShr_c, sr3, sr6, sr7]
    rw [List.drop_eq_nil_of_le (by omega)]
    exact lpx m e
  intro f
  induction f with
  | zero => intro m i a hf hm hi ha; exact stop 0 m i a hm (by omega)
  | succ f ih =>
    intro m i a hf hm hi ha
    by_cases hin : i < l.length
    · obtain ⟨m, rfl⟩ : ∃ k, m = k + 1 := ⟨m - 1, by omega⟩
      have e1 : (i : Int) < (l.length : Int) := by omega
      have hx : l[i] < 256 := hb _ (List.getElem_mem _)
      have g : (Bs l)[i]'(by rw [Bs_len]; exact hin) = .int 8 (l[i] : Int) := by simp [Bs]
      have iv := fun k => ix_sl hs (c := 63) i (by rw [Bs_len]; exact hin) k
      rw [g] at iv
      have ha' : a < 1099511627776 := Nat.lt_of_lt_of_le ha (Nat.le_trans (Nat.pow_le_pow_right (by omega) (show i ≤ 4 by omega)) (by decide))
      have e : L70n0 [.int 63 (a : Int), v, .int 63 (l.length : Int), .int 63 (i : Int)] h = .norm [.int 63 ((a * 256 + l[i] : Nat) : Int), v, .int 63 (l.length : Int), .int 63 ((i + 1 : Nat) : Int)] h := by
        simp only [↓L70n0, e1, ↓iv, ↓sh8, m8 a ha', c8 _ hx, or8 a _ ha' hx, s1n i (by omega), ↓uc_c, ↓uz_n, ↓cI_i, ↓cB_b, cB_b, ↓cT_t, cT_t, nth_z, nth_1, cK_b, ↓cK_b, ↓cK_i, cK_i, ifB_t, ifB_f, ↓ap_e, sel_t, sel_f, gsel_tt, gsel_tf, gsel_ft, gsel_ff, gsel_u, gd_tt, gd_tf, gd_ft, gd_ff, gd_u, ↓jn_n, jn_n, jn_r, ↓jn_r, blk_n, blk_r, ↓cl_r, cl_r, ↓iAdd_i, ↓iSub_i, ↓iMul_i, ↓iAnd_i, ↓iOr_i, ↓iXor_i, ↓iNeg_i, iQuo_i, iRem_i, ↓iConv_i, iConv_i, ↓bNot_b, bNot_b, ↓eqN_i, ↓ltN_i, ↓eqB_b, bnot_e, Int.ofNat_eq_natCast, Int.cast_ofNat_Int, Int.reduceBEq, Int.reduceAdd, Int.reduceNeg, Int.reduceNegSucc, Int.reduceLT, Int.reduceLE, Int.reduceMul, Int.reduceTMod, Int.reduceSub, Int.reduceBNe, Bool.not_true, Bool.not_false, decide_true, decide_false, w63_in, w31_in, ne_eq, not_false_eq_true, Int.reduceEq, reduceCtorEq, ww3131, ww6363, ww3163, ww6331, ww3231, ww3263, ww6463, ww6364, sh31, sh63, sl63, m31, m63, n63, s5a, s5b, s6a, s6b, b31, b32, b63, c63, c64, d64, iShl_c, iShr_c, sr3, sr6, sr7]
      rw [lpn m e]
      have := ih m (i + 1) (a * 256 + l[i]) (by omega) (by omega) (by omega) (by rw [Nat.pow_succ]; omega)
      rw [this]
      have hd : l.drop i = l[i] :: l.drop (i + 1) := List.drop_eq_getElem_cons hin
      rw [hd]; rfl
    · exact stop (f + 1) m i a hm hin

theorem t70 (hc : Cur h lo b t at_ bad) (hw : Wf h) (n : Nat) (hn : n ≤ 4) :
    ∃ h', s70 [.ptr b 0, .int 63 (n : Int)] h = .ret (.int 63 (be (win t at_ bad n) 0 : Int)) h' ∧ Cur h' lo b t (nat_ t at_ bad n) (nbad t at_ bad n) ∧ To (At b) h h' ∧ Wf h' := by
  obtain ⟨v, h', e1, s1, c1, o1, w1⟩ := t69 hc hw (n : Int)
  have hl := win_len t at_ bad n
  have lp0 := loop70 s1 (by omega) (win_byt hc.byt _ _ _) (win t at_ bad n).length most 0 0 (by omega) (show _ < 1000000 by omega) (by omega) (by decide)
  have z0 : ((0 : Nat) : Int) = 0 := rfl
  rw [z0] at lp0
  have l0 := fun k => lenL_sl s1 k
  rw [List.drop_zero] at lp0
  exact ⟨h', by simp only [↓s70, ↓e1, ↓l0, Bs_len, lp0, blk_e, ↓uc_c, ↓uz_n, ↓cI_i, ↓cB_b, cB_b, ↓cT_t, cT_t, nth_z, nth_1, cK_b, ↓cK_b, ↓cK_i, cK_i, ifB_t, ifB_f, ↓ap_e, sel_t, sel_f, gsel_tt, gsel_tf, gsel_ft, gsel_ff, gsel_u, gd_tt, gd_tf, gd_ft, gd_ff, gd_u, ↓jn_n, jn_n, jn_r, ↓jn_r, blk_n, blk_r, ↓cl_r, cl_r, ↓iAdd_i, ↓iSub_i, ↓iMul_i, ↓iAnd_i, ↓iOr_i, ↓iXor_i, ↓iNeg_i, iQuo_i, iRem_i, ↓iConv_i, iConv_i, ↓bNot_b, bNot_b, ↓eqN_i, ↓ltN_i, ↓eqB_b, bnot_e, Int.ofNat_eq_natCast, Int.cast_ofNat_Int, Int.reduceBEq, Int.reduceAdd, Int.reduceNeg, Int.reduceNegSucc, Int.reduceLT, Int.reduceLE, Int.reduceMul, Int.reduceTMod, Int.reduceSub, Int.reduceBNe, Bool.not_true, Bool.not_false, decide_true, decide_false, w63_in, w31_in, ne_eq, not_false_eq_true, Int.reduceEq, reduceCtorEq, ww3131, ww6363, ww3163, ww6331, ww3231, ww3263, ww6463, ww6364, sh31, sh63, sl63, m31, m63, n63, s5a, s5b, s6a, s6b, b31, b32, b63, c63, c64, d64, iShl_c, iShr_c, sr3, sr6, sr7]; rfl, c1, o1, w1⟩
theorem t27 (hc : Cur h lo b t at_ bad) (hw : Wf h) :
    ∃ h', s27 [.ptr b 0] h = .ret (.int 63 (be (win t at_ bad 1) 0 : Int)) h' ∧ Cur h' lo b t (nat_ t at_ bad 1) (nbad t at_ bad 1) ∧ To (At b) h h' ∧ Wf h' := by
  obtain ⟨h', e, r⟩ := t70 hc hw 1 (by decide)
  have z0 : ((1 : Nat) : Int) = 1 := rfl
  rw [z0] at e r
  exact ⟨h', by simp only [↓s27, e, ↓uc_c, ↓uz_n, ↓cI_i, ↓cB_b, cB_b, ↓cT_t, cT_t, nth_z, nth_1, cK_b, ↓cK_b, ↓cK_i, cK_i, ifB_t, ifB_f, ↓ap_e, sel_t, sel_f, gsel_tt, gsel_tf, gsel_ft, gsel_ff, gsel_u, gd_tt, gd_tf, gd_ft, gd_ff, gd_u, ↓jn_n, jn_n, jn_r, ↓jn_r, blk_n, blk_r, ↓cl_r, cl_r, ↓iAdd_i, ↓iSub_i, ↓iMul_i, ↓iAnd_i, ↓iOr_i, ↓iXor_i, ↓iNeg_i, iQuo_i, iRem_i, ↓iConv_i, iConv_i, ↓bNot_b, bNot_b, ↓eqN_i, ↓ltN_i, ↓eqB_b, bnot_e, Int.ofNat_eq_natCast, Int.cast_ofNat_Int, Int.reduceBEq, Int.reduceAdd, Int.reduceNeg, Int.reduceNegSucc, Int.reduceLT, Int.reduceLE, Int.reduceMul, Int.reduceTMod, Int.reduceSub, Int.reduceBNe, Bool.not_true, Bool.not_false, decide_true, decide_false, w63_in, w31_in, ne_eq, not_false_eq_true, Int.reduceEq, reduceCtorEq, ww3131, ww6363, ww3163, ww6331, ww3231, ww3263, ww6463, ww6364, sh31, sh63, sl63, m31, m63, n63, s5a, s5b, s6a, s6b, b31, b32, b63, c63, c64, d64, iShl_c, iShr_c, sr3, sr6, sr7], r⟩
theorem t28 (hc : Cur h lo b t at_ bad) (hw : Wf h) :
    ∃ h', s28 [.ptr b 0] h = .ret (.int 63 (be (win t at_ bad 2) 0 : Int)) h' ∧ Cur h' lo b t (nat_ t at_ bad 2) (nbad t at_ bad 2) ∧ To (At b) h h' ∧ Wf h' := by
  obtain ⟨h', e, r⟩ := t70 hc hw 2 (by decide)
  have z0 : ((2 : Nat) : Int) = 2 := rfl
  rw [z0] at e r
  exact ⟨h', by simp only [↓s28, e, ↓uc_c, ↓uz_n, ↓cI_i, ↓cB_b, cB_b, ↓cT_t, cT_t, nth_z, nth_1, cK_b, ↓cK_b, ↓cK_i, cK_i, ifB_t, ifB_f, ↓ap_e, sel_t, sel_f, gsel_tt, gsel_tf, gsel_ft, gsel_ff, gsel_u, gd_tt, gd_tf, gd_ft, gd_ff, gd_u, ↓jn_n, jn_n, jn_r, ↓jn_r, blk_n, blk_r, ↓cl_r, cl_r, ↓iAdd_i, ↓iSub_i, ↓iMul_i, ↓iAnd_i, ↓iOr_i, ↓iXor_i, ↓iNeg_i, iQuo_i, iRem_i, ↓iConv_i, iConv_i, ↓bNot_b, bNot_b, ↓eqN_i, ↓ltN_i, ↓eqB_b, bnot_e, Int.ofNat_eq_natCast, Int.cast_ofNat_Int, Int.reduceBEq, Int.reduceAdd, Int.reduceNeg, Int.reduceNegSucc, Int.reduceLT, Int.reduceLE, Int.reduceMul, Int.reduceTMod, Int.reduceSub, Int.reduceBNe, Bool.not_true, Bool.not_false, decide_true, decide_false, w63_in, w31_in, ne_eq, not_false_eq_true, Int.reduceEq, reduceCtorEq, ww3131, ww6363, ww3163, ww6331, ww3231, ww3263, ww6463, ww6364, sh31, sh63, sl63, m31, m63, n63, s5a, s5b, s6a, s6b, b31, b32, b63, c63, c64, d64, iShl_c, iShr_c, sr3, sr6, sr7], r⟩
theorem t29 (hc : Cur h lo b t at_ bad) (hw : Wf h) :
    ∃ h', s29 [.ptr b 0] h = .ret (.int 63 (be (win t at_ bad 4) 0 : Int)) h' ∧ Cur h' lo b t (nat_ t at_ bad 4) (nbad t at_ bad 4) ∧ To (At b) h h' ∧ Wf h' := by
  obtain ⟨h', e, r⟩ := t70 hc hw 4 (by decide)
  have z0 : ((4 : Nat) : Int) = 4 := rfl
  rw [z0] at e r
  exact ⟨h', by simp only [↓s29, e, ↓uc_c, ↓uz_n, ↓cI_i, ↓cB_b, cB_b, ↓cT_t, cT_t, nth_z, nth_1, cK_b, ↓cK_b, ↓cK_i, cK_i, ifB_t, ifB_f, ↓ap_e, sel_t, sel_f, gsel_tt, gsel_tf, gsel_ft, gsel_ff, gsel_u, gd_tt, gd_tf, gd_ft, gd_ff, gd_u, ↓jn_n, jn_n, jn_r, ↓jn_r, blk_n, blk_r, ↓cl_r, cl_r, ↓iAdd_i, ↓iSub_i, ↓iMul_i, ↓iAnd_i, ↓iOr_i, ↓iXor_i, ↓iNeg_i, iQuo_i, iRem_i, ↓iConv_i, iConv_i, ↓bNot_b, bNot_b, ↓eqN_i, ↓ltN_i, ↓eqB_b, bnot_e, Int.ofNat_eq_natCast, Int.cast_ofNat_Int, Int.reduceBEq, Int.reduceAdd, Int.reduceNeg, Int.reduceNegSucc, Int.reduceLT, Int.reduceLE, Int.reduceMul, Int.reduceTMod, Int.reduceSub, Int.reduceBNe, Bool.not_true, Bool.not_false, decide_true, decide_false, w63_in, w31_in, ne_eq, not_false_eq_true, Int.reduceEq, reduceCtorEq, ww3131, ww6363, ww3163, ww6331, ww3231, ww3263, ww6463, ww6364, sh31, sh63, sl63, m31, m63, n63, s5a, s5b, s6a, s6b, b31, b32, b63, c63, c64, d64, iShl_c, iShr_c, sr3, sr6, sr7], r⟩

/-- Bytes out of a cursor: a copy. -/
theorem t26 (hc : Cur h lo b t at_ bad) (hw : Wf h) (n : Int) :
    ∃ v h', s26 [.ptr b 0, .int 63 n] h = .ret v h' ∧ Sl h' (fun x => h.nb ≤ x ∧ x < h'.nb) v (Bs (win t at_ bad n)) ∧ Cur h' lo b t (nat_ t at_ bad n) (nbad t at_ bad n) ∧ To (At b) h h' ∧ Wf h' := by
  obtain ⟨v, h1, e1, s1, c1, o1, w1⟩ := t69 hc hw n
  have hl := win_len2 t at_ bad n
  obtain ⟨v2, h2, e2, s2, o2, w2⟩ := t68 s1 w1 (by have := hc.len; omega)
  have cv := fun k => cK_sl s2 k
  refine ⟨v2, h2, by simp only [↓s26, ↓e1, ↓e2, ↓cv, ↓uc_c, ↓uz_n, ↓cI_i, ↓cB_b, cB_b, ↓cT_t, cT_t, nth_z, nth_1, cK_b, ↓cK_b, ↓cK_i, cK_i, ifB_t, ifB_f, ↓ap_e, sel_t, sel_f, gsel_tt, gsel_tf, gsel_ft, gsel_ff, gsel_u, gd_tt, gd_tf, gd_ft, gd_ff, gd_u, ↓jn_n, jn_n, jn_r, ↓jn_r, blk_n, blk_r, ↓cl_r, cl_r, ↓iAdd_i, ↓iSub_i, ↓iMul_i, ↓iAnd_i, ↓iOr_i, ↓iXor_i, ↓iNeg_i, iQuo_i, iRem_i, ↓iConv_i, iConv_i, ↓bNot_b, bNot_b, ↓eqN_i, ↓ltN_i, ↓eqB_b, bnot_e, Int.ofNat_eq_natCast, Int.cast_ofNat_Int, Int.reduceBEq, Int.reduceAdd, Int.reduceNeg, Int.reduceNegSucc, Int.reduceLT, Int.reduceLE, Int.reduceMul, Int.reduceTMod, Int.reduceSub, Int.reduceBNe, Bool.not_true, Bool.not_false, decide_true, decide_false, w63_in, w31_in, ne_eq, not_false_eq_true, Int.reduceEq, reduceCtorEq, ww3131, ww6363, ww3163, ww6331, ww3231, ww3263, ww6463, ww6364, sh31, sh63, sl63, m31, m63, n63, s5a, s5b, s6a, s6b, b31, b32, b63, c63, c64, d64, iShl_c, iShr_c, sr3, sr6, sr7], s2.mono (fun x hx => ⟨Nat.le_trans o1.nb hx.1, hx.2⟩), c1.to o2 (fun _ _ _ f => f), o1.trans (o2.mono fun _ _ f => f.elim), w2⟩
end
end Go.Proofs.Ytnpfppddongbhaa
end

section
namespace Go.Proofs.Ytnpfppddongbhaa
open Go Go.AM
set_option autoImplicit false
set_option linter.unusedSimpArgs false
set_option linter.unusedVariables false
section
variable {h : Hp} {lo b at_ : Nat} {t : List Nat} {bad : Bool}
theorem loop32 (hc : Cur h lo b t at_ bad) (n : Nat) (hn : n ≤ 4) (ht : at_ + n ≤ t.length) : ∀ (f m i a : Nat), n - i ≤ f → f < m → i ≤ n → a < 256 ^ i →
    lp L32n0 m [.ptr b 0, .int 63 (n : Int), .int 63 (a : Int), .int 63 (i : Int)] h = .exit 0 [.ptr b 0, .int 63 (n : Int), .int 63 (be (((t.drop at_).take n).drop i) a : Int)] h := by
  obtain ⟨v, hs, e0, e1, e2⟩ := hc.open
  have hlen := hc.len
  have hll : ((t.drop at_).take n).length = n := by simp; omega
  have stop : ∀ (f m i a : Nat), f < m → ¬ i < n → lp L32n0 m [.ptr b 0, .int 63 (n : Int), .int 63 (a : Int), .int 63 (i : Int)] h = .exit 0 [.ptr b 0, .int 63 (n : Int), .int 63 (be (((t.drop at_).take n).drop i) a : Int)] h := by
    intro f m i a hm hi
    obtain ⟨m, rfl⟩ : ∃ k, m = k + 1 := ⟨m - 1, by omega⟩
    have e3 : ¬ (i : Int) < (n : Int) := by omega
    have e : L32n0 [.ptr b 0, .int 63 (n : Int), .int 63 (a : Int), .int 63 (i : Int)] h = .exit 0 [.ptr b 0, .int 63 (n : Int), .int 63 (a : Int)] h := by simp only [↓L32n0, e3, ↓uc_c, ↓uz_n, ↓cI_i, ↓cB_b, cB_b, ↓cT_t, cT_t, nth_z, nth_1, cK_b, ↓cK_b, ↓cK_i, cK_i, ifB_t, ifB_f, ↓ap_e, sel_t, sel_f, gsel_tt, gsel_tf, gsel_ft, gsel_ff, gsel_u, gd_tt, gd_tf, gd_ft, gd_ff, gd_u, ↓jn_n, jn_n, jn_r, ↓jn_r, blk_n, blk_r, ↓cl_r, cl_r, ↓iAdd_i, ↓iSub_i, ↓iMul_i, ↓iAnd_i, ↓iOr_i, ↓iXor_i, ↓iNeg_i, iQuo_i, iRem_i, ↓iConv_i, iConv_i, ↓bNot_b, bNot_b, ↓eqN_i, ↓ltN_i, ↓eqB_b, bnot_e, Int.ofNat_eq_natCast, Int.cast_ofNat_Int, Int.reduceBEq, Int.reduceAdd, Int.reduceNeg, Int.reduceNegSucc, Int.reduceLT, Int.reduceLE, Int.reduceMul, Int.reduceTMod, Int.reduceSub, Int.reduceBNe, Bool.not_true, Bool.not_false, decide_true, decide_false, w63_in, w31_in, ne_eq, not_false_eq_true, Int.reduceEq, reduceCtorEq, ww3131, ww6363, ww3163, ww6331, ww3231, ww3263, ww6463, ww6364, sh31, sh63, sl63, m31, m63, n63, s5a, s5b, s6a, s6b, b31, b32, b63, c63, c64, d64, iShl_c, iShr_c, sr3, sr6, sr7]
    rw [List.drop_eq_nil_of_le (by omega)]
    exact lpx m e
  intro f
  induction f with
  | zero => intro m i a hf hm hi ha; exact stop 0 m i a hm (by omega)
  | succ f ih =>
    intro m i a hf hm hi ha
    by_cases hin : i < n
    · obtain ⟨m, rfl⟩ : ∃ k, m = k + 1 := ⟨m - 1, by omega⟩
      have e3 : (i : Int) < (n : Int) := by omega
      have hit : at_ + i < t.length := by omega
      have hx : t[at_ + i] < 256 := hc.byt _ (List.getElem_mem _)
      have g : (Bs t)[at_ + i]'(by rw [Bs_len]; exact hit) = .int 8 (t[at_ + i] : Int) := by simp [Bs]
      have iv := fun k => ix_sl hs (c := 63) (at_ + i) (by rw [Bs_len]; exact hit) k
      rw [g] at iv
      have ha' : a < 1099511627776 := Nat.lt_of_lt_of_le ha (Nat.le_trans (Nat.pow_le_pow_right (by omega) (show i ≤ 4 by omega)) (by decide))
      have w1 : wrapC 63 ((at_ : Int) + (i : Int)) = ((at_ + i : Nat) : Int) := by rw [w63_in _ (by omega) (by omega)]; omega
      have e : L32n0 [.ptr b 0, .int 63 (n : Int), .int 63 (a : Int), .int 63 (i : Int)] h = .norm [.ptr b 0, .int 63 (n : Int), .int 63 ((a * 256 + t[at_ + i] : Nat) : Int), .int 63 ((i + 1 : Nat) : Int)] h := by
        simp only [↓L32n0, ↓nck_p, ↓cP_p, ↓e0, ↓e1, ↓e2, e3, w1, ↓iv, ↓sh8, m8 a ha', c8 _ hx, ad8 a _ ha' hx, s1n i (by omega), ↓uc_c, ↓uz_n, ↓cI_i, ↓cB_b, cB_b, ↓cT_t, cT_t, nth_z, nth_1, cK_b, ↓cK_b, ↓cK_i, cK_i, ifB_t, ifB_f, ↓ap_e, sel_t, sel_f, gsel_tt, gsel_tf, gsel_ft, gsel_ff, gsel_u, gd_tt, gd_tf, gd_ft, gd_ff, gd_u, ↓jn_n, jn_n, jn_r, ↓jn_r, blk_n, blk_r, ↓cl_r, cl_r, ↓iAdd_i, ↓iSub_i, ↓iMul_i, ↓iAnd_i, ↓iOr_i, ↓iXor_i, ↓iNeg_i, iQuo_i, iRem_i, ↓iConv_i, iConv_i, ↓bNot_b, bNot_b, ↓eqN_i, ↓ltN_i, ↓eqB_b, bnot_e, Int.ofNat_eq_natCast, Int.cast_ofNat_Int, Int.reduceBEq, Int.reduceAdd, Int.reduceNeg, Int.reduceNegSucc, Int.reduceLT, Int.reduceLE, Int.reduceMul, Int.reduceTMod, Int.reduceSub, Int.reduceBNe, Bool.not_true, Bool.not_false, decide_true, decide_false, w63_in, w31_in, ne_eq, not_false_eq_true, Int.reduceEq, reduceCtorEq, ww3131, ww6363, ww3163, ww6331, ww3231, ww3263, ww6463, ww6364, sh31, sh63, sl63, m31, m63, n63, s5a, s5b, s6a, s6b, b31, b32, b63, c63, c64, d64, iShl_c, iShr_c, sr3, sr6, sr7]
      rw [lpn m e]
      have := ih m (i + 1) (a * 256 + t[at_ + i]) (by omega) (by omega) (by omega) (by rw [Nat.pow_succ]; omega)
      rw [this]
      have hd : ((t.drop at_).take n).drop i = t[at_ + i] :: ((t.drop at_).take n).drop (i + 1) := by
        rw [List.drop_eq_getElem_cons (by rw [hll]; exact hin)]
        simp
      rw [hd]; rfl
    · exact stop (f + 1) m i a hm hin

theorem t32 (hc : Cur h lo b t at_ bad) (hw : Wf h) (n : Nat) (hn : n ≤ 4) :
    ∃ h', s32 [.ptr b 0, .int 63 (n : Int)] h = .ret (.int 63 (be (win t at_ bad n) 0 : Int)) h' ∧ Cur h' lo b t (nat_ t at_ bad n) (nbad t at_ bad n) ∧ To (At b) h h' ∧ Wf h' := by
  obtain ⟨v, hs, e0, e1, e2⟩ := hc.open
  have l0 := fun k => lenL_sl hs k
  have hlen := hc.len
  have hle := hc.le
  have w1 : wrapC 63 ((t.length : Int) - (at_ : Int)) = (t.length : Int) - (at_ : Int) := w63_in _ (by omega) (by omega)
  have z0 : ((0 : Nat) : Int) = 0 := rfl
  by_cases ho : okc t at_ bad (n : Int)
  · obtain ⟨rfl, h0, h1⟩ := id ho
    obtain ⟨h', e3, c', o'⟩ := hc.move (at_ + n) (by omega)
    have w2 : wrapC 63 ((at_ : Int) + (n : Int)) = ((at_ + n : Nat) : Int) := by rw [w63_in _ (by omega) (by omega)]; omega
    have h2 : ¬ (t.length : Int) - at_ < (n : Int) := by omega
    have lp0 := loop32 hc n hn (by omega) n most 0 0 (by omega) (show _ < 1000000 by omega) (by omega) (by decide)
    rw [z0, List.drop_zero] at lp0
    simp only [win, nat_, nbad, if_pos ho, Int.toNat_natCast]
    refine ⟨h', ?_, c', o', o'.wf hw⟩
    simp only [↓s32, ↓nck_p, ↓cP_p, ↓eqP_pn, ↓e0, ↓e1, ↓e2, ↓e3, ↓l0, Bs_len, h2, w1, w2, lp0, blk_e, ↓uc_c, ↓uz_n, ↓cI_i, ↓cB_b, cB_b, ↓cT_t, cT_t, nth_z, nth_1, cK_b, ↓cK_b, ↓cK_i, cK_i, ifB_t, ifB_f, ↓ap_e, sel_t, sel_f, gsel_tt, gsel_tf, gsel_ft, gsel_ff, gsel_u, gd_tt, gd_tf, gd_ft, gd_ff, gd_u, ↓jn_n, jn_n, jn_r, ↓jn_r, blk_n, blk_r, ↓cl_r, cl_r, ↓iAdd_i, ↓iSub_i, ↓iMul_i, ↓iAnd_i, ↓iOr_i, ↓iXor_i, ↓iNeg_i, iQuo_i, iRem_i, ↓iConv_i, iConv_i, ↓bNot_b, bNot_b, ↓eqN_i, ↓ltN_i, ↓eqB_b, bnot_e, Int.ofNat_eq_natCast, Int.cast_ofNat_Int, Int.reduceBEq, Int.reduceAdd, Int.reduceNeg, Int.reduceNegSucc, Int.reduceLT, Int.reduceLE, Int.reduceMul, Int.reduceTMod, Int.reduceSub, Int.reduceBNe, Bool.not_true, Bool.not_false, decide_true, decide_false, w63_in, w31_in, ne_eq, not_false_eq_true, Int.reduceEq, reduceCtorEq, ww3131, ww6363, ww3163, ww6331, ww3231, ww3263, ww6463, ww6364, sh31, sh63, sl63, m31, m63, n63, s5a, s5b, s6a, s6b, b31, b32, b63, c63, c64, d64, iShl_c, iShr_c, sr3, sr6, sr7]
    simp only [show Nat.beq 0 0 = true from rfl, ↓nck_p, ↓cP_p, ↓e0, ↓e1, ↓e2, ↓e3, w2, ↓uc_c, ↓uz_n, ↓cI_i, ↓cB_b, cB_b, ↓cT_t, cT_t, nth_z, nth_1, cK_b, ↓cK_b, ↓cK_i, cK_i, ifB_t, ifB_f, ↓ap_e, sel_t, sel_f, gsel_tt, gsel_tf, gsel_ft, gsel_ff, gsel_u, gd_tt, gd_tf, gd_ft, gd_ff, gd_u, ↓jn_n, jn_n, jn_r, ↓jn_r, blk_n, blk_r, ↓cl_r, cl_r, ↓iAdd_i, ↓iSub_i, ↓iMul_i, ↓iAnd_i, ↓iOr_i, ↓iXor_i, ↓iNeg_i, iQuo_i, iRem_i, ↓iConv_i, iConv_i, ↓bNot_b, bNot_b, ↓eqN_i, ↓ltN_i, ↓eqB_b, bnot_e, Int.ofNat_eq_natCast, Int.cast_ofNat_Int, Int.reduceBEq, Int.reduceAdd, Int.reduceNeg, Int.reduceNegSucc, Int.reduceLT, Int.reduceLE, Int.reduceMul, Int.reduceTMod, Int.reduceSub, Int.reduceBNe, Bool.not_true, Bool.not_false, decide_true, decide_false, w63_in, w31_in, ne_eq, not_false_eq_true, Int.reduceEq, reduceCtorEq, ww3131, ww6363, ww3163, ww6331, ww3231, ww3263, ww6463, ww6364, sh31, sh63, sl63, m31, m63, n63, s5a, s5b, s6a, s6b, b31, b32, b63, c63, c64, d64, iShl_c, iShr_c, sr3, sr6, sr7]
  · obtain ⟨h', e3, c', o'⟩ := hc.fall
    simp only [win, nat_, nbad, if_neg ho]
    refine ⟨h', ?_, c', o', o'.wf hw⟩
    cases bad with
    | true => simp only [↓s32, ↓nck_p, ↓cP_p, ↓eqP_pn, ↓e0, ↓e1, ↓e2, ↓e3, ↓l0, Bs_len, ↓uc_c, ↓uz_n, ↓cI_i, ↓cB_b, cB_b, ↓cT_t, cT_t, nth_z, nth_1, cK_b, ↓cK_b, ↓cK_i, cK_i, ifB_t, ifB_f, ↓ap_e, sel_t, sel_f, gsel_tt, gsel_tf, gsel_ft, gsel_ff, gsel_u, gd_tt, gd_tf, gd_ft, gd_ff, gd_u, ↓jn_n, jn_n, jn_r, ↓jn_r, blk_n, blk_r, ↓cl_r, cl_r, ↓iAdd_i, ↓iSub_i, ↓iMul_i, ↓iAnd_i, ↓iOr_i, ↓iXor_i, ↓iNeg_i, iQuo_i, iRem_i, ↓iConv_i, iConv_i, ↓bNot_b, bNot_b, ↓eqN_i, ↓ltN_i, ↓eqB_b, bnot_e, Int.ofNat_eq_natCast, Int.cast_ofNat_Int, Int.reduceBEq, Int.reduceAdd, Int.reduceNeg, Int.reduceNegSucc, Int.reduceLT, Int.reduceLE, Int.reduceMul, Int.reduceTMod, Int.reduceSub, Int.reduceBNe, Bool.not_true, Bool.not_false, decide_true, decide_false, w63_in, w31_in, ne_eq, not_false_eq_true, Int.reduceEq, reduceCtorEq, ww3131, ww6363, ww3163, ww6331, ww3231, ww3263, ww6463, ww6364, sh31, sh63, sl63, m31, m63, n63, s5a, s5b, s6a, s6b, b31, b32, b63, c63, c64, d64, iShl_c, iShr_c, sr3, sr6, sr7]; rfl
    | false =>
      have h2 : (t.length : Int) - at_ < (n : Int) := by
        have : ¬ ((n : Int) ≤ (t.length : Int) - at_) := fun h1 => ho ⟨rfl, by omega, h1⟩
        omega
      simp only [↓s32, ↓nck_p, ↓cP_p, ↓eqP_pn, ↓e0, ↓e1, ↓e2, ↓e3, ↓l0, Bs_len, h2, w1, ↓uc_c, ↓uz_n, ↓cI_i, ↓cB_b, cB_b, ↓cT_t, cT_t, nth_z, nth_1, cK_b, ↓cK_b, ↓cK_i, cK_i, ifB_t, ifB_f, ↓ap_e, sel_t, sel_f, gsel_tt, gsel_tf, gsel_ft, gsel_ff, gsel_u, gd_tt, gd_tf, gd_ft, gd_ff, gd_u, ↓jn_n, jn_n, jn_r, ↓jn_r, blk_n, blk_r, ↓cl_r, cl_r, ↓iAdd_i, ↓iSub_i, ↓iMul_i, ↓iAnd_i, ↓iOr_i, ↓iXor_i, ↓iNeg_i, iQuo_i, iRem_i, ↓iConv_i, iConv_i, ↓bNot_b, bNot_b, ↓eqN_i, ↓ltN_i, ↓eqB_b, bnot_e, Int.ofNat_eq_natCast, Int.cast_ofNat_Int, Int.reduceBEq, Int.reduceAdd, Int.reduceNeg, Int.reduceNegSucc, Int.reduceLT, Int.reduceLE, Int.reduceMul, Int.reduceTMod, Int.reduceSub, Int.reduceBNe, Bool.not_true, Bool.not_false, decide_true, decide_false, w63_in, w31_in, ne_eq, not_false_eq_true, Int.reduceEq, reduceCtorEq, ww3131, ww6363, ww3163, ww6331, ww3231, ww3263, ww6463, ww6364, sh31, sh63, sl63, m31, m63, n63, s5a, s5b, s6a, s6b, b31, b32, b63, c63, c64, d64, iShl_c, iShr_c, sr3, sr6, sr7]; rfl

theorem t33 (hc : Cur h lo b t at_ bad) (hw : Wf h) (n : Int) :
    ∃ v h', s33 [.ptr b 0, .int 63 n] h = .ret v h' ∧ Sl h' (fun x => lo ≤ x ∧ x < b) v (Bs (win t at_ bad n)) ∧ Cur h' lo b t (nat_ t at_ bad n) (nbad t at_ bad n) ∧ To (At b) h h' ∧ Wf h' := by
  obtain ⟨v, hs, e0, e1, e2⟩ := hc.open
  have l0 := fun k => lenL_sl hs k
  have hlen := hc.len
  have hle := hc.le
  have w1 : wrapC 63 ((t.length : Int) - (at_ : Int)) = (t.length : Int) - (at_ : Int) := w63_in _ (by omega) (by omega)
  by_cases ho : okc t at_ bad n
  · obtain ⟨rfl, h0, h1⟩ := id ho
    obtain ⟨n, rfl⟩ : ∃ m : Nat, n = (m : Int) := ⟨n.toNat, by omega⟩
    obtain ⟨h', e3, c', o'⟩ := hc.move (at_ + n) (by omega)
    have w2 : wrapC 63 ((at_ : Int) + (n : Int)) = ((at_ + n : Nat) : Int) := by rw [w63_in _ (by omega) (by omega)]; omega
    have h2 : ¬ (t.length : Int) - at_ < (n : Int) := by omega
    have h3 : ¬ (n : Int) < 0 := by omega
    obtain ⟨v', g1, g2⟩ := cut_sl hs (c1 := 63) (c2 := 63) at_ (at_ + n) (by omega) (by rw [Bs_len]; omega)
    have g2' : Sl h (fun x => lo ≤ x ∧ x < b) v' (Bs ((t.drop at_).take n)) := by
      have e : ((Bs t).drop at_).take (at_ + n - at_) = Bs ((t.drop at_).take n) := by rw [Nat.add_sub_cancel_left]; simp [Bs, List.map_drop, List.map_take]
      rwa [e] at g2
    have cv := fun k => cK_sl g2' k
    simp only [win, nat_, nbad, if_pos ho, Int.toNat_natCast]
    refine ⟨v', h', ?_, g2'.to o' (fun x hx e => by have : x = b := e; omega), c', o', o'.wf hw⟩
    simp only [↓s33, ↓nck_p, ↓cP_p, ↓eqP_pn, ↓e0, ↓e1, ↓e2, ↓e3, ↓l0, Bs_len, h2, h3, w1, w2, ↓g1, ↓cv, ↓uc_c, ↓uz_n, ↓cI_i, ↓cB_b, cB_b, ↓cT_t, cT_t, nth_z, nth_1, cK_b, ↓cK_b, ↓cK_i, cK_i, ifB_t, ifB_f, ↓ap_e, sel_t, sel_f, gsel_tt, gsel_tf, gsel_ft, gsel_ff, gsel_u, gd_tt, gd_tf, gd_ft, gd_ff, gd_u, ↓jn_n, jn_n, jn_r, ↓jn_r, blk_n, blk_r, ↓cl_r, cl_r, ↓iAdd_i, ↓iSub_i, ↓iMul_i, ↓iAnd_i, ↓iOr_i, ↓iXor_i, ↓iNeg_i, iQuo_i, iRem_i, ↓iConv_i, iConv_i, ↓bNot_b, bNot_b, ↓eqN_i, ↓ltN_i, ↓eqB_b, bnot_e, Int.ofNat_eq_natCast, Int.cast_ofNat_Int, Int.reduceBEq, Int.reduceAdd, Int.reduceNeg, Int.reduceNegSucc, Int.reduceLT, Int.reduceLE, Int.reduceMul, Int.reduceTMod, Int.reduceSub, Int.reduceBNe, Bool.not_true, Bool.not_false, decide_true, decide_false, w63_in, w31_in, ne_eq, not_false_eq_true, Int.reduceEq, reduceCtorEq, ww3131, ww6363, ww3163, ww6331, ww3231, ww3263, ww6463, ww6364, sh31, sh63, sl63, m31, m63, n63, s5a, s5b, s6a, s6b, b31, b32, b63, c63, c64, d64, iShl_c, iShr_c, sr3, sr6, sr7]
  · obtain ⟨h', e3, c', o'⟩ := hc.fall
    simp only [win, nat_, nbad, if_neg ho]
    refine ⟨.nils, h', ?_, Sl_nil _ _, c', o', o'.wf hw⟩
    cases bad with
    | true => simp only [↓s33, ↓nck_p, ↓cP_p, ↓eqP_pn, ↓e0, ↓e1, ↓e2, ↓e3, ↓l0, Bs_len, ↓uc_c, ↓uz_n, ↓cI_i, ↓cB_b, cB_b, ↓cT_t, cT_t, nth_z, nth_1, cK_b, ↓cK_b, ↓cK_i, cK_i, ifB_t, ifB_f, ↓ap_e, sel_t, sel_f, gsel_tt, gsel_tf, gsel_ft, gsel_ff, gsel_u, gd_tt, gd_tf, gd_ft, gd_ff, gd_u, ↓jn_n, jn_n, jn_r, ↓jn_r, blk_n, blk_r, ↓cl_r, cl_r, ↓iAdd_i, ↓iSub_i, ↓iMul_i, ↓iAnd_i, ↓iOr_i, ↓iXor_i, ↓iNeg_i, iQuo_i, iRem_i, ↓iConv_i, iConv_i, ↓bNot_b, bNot_b, ↓eqN_i, ↓ltN_i, ↓eqB_b, bnot_e, Int.ofNat_eq_natCast, Int.cast_ofNat_Int, Int.reduceBEq, Int.reduceAdd, Int.reduceNeg, Int.reduceNegSucc, Int.reduceLT, Int.reduceLE, Int.reduceMul, Int.reduceTMod, Int.reduceSub, Int.reduceBNe, Bool.not_true, Bool.not_false, decide_true, decide_false, w63_in, w31_in, ne_eq, not_false_eq_true, Int.reduceEq, reduceCtorEq, ww3131, ww6363, ww3163, ww6331, ww3231, ww3263, ww6463, ww6364, sh31, sh63, sl63, m31, m63, n63, s5a, s5b, s6a, s6b, b31, b32, b63, c63, c64, d64, iShl_c, iShr_c, sr3, sr6, sr7]; rfl
    | false =>
      by_cases h1 : n < 0
      · simp only [↓s33, ↓nck_p, ↓cP_p, ↓eqP_pn, ↓e0, ↓e1, ↓e2, ↓e3, ↓l0, Bs_len, h1, ↓uc_c, ↓uz_n, ↓cI_i, ↓cB_b, cB_b, ↓cT_t, cT_t, nth_z, nth_1, cK_b, ↓cK_b, ↓cK_i, cK_i, ifB_t, ifB_f, ↓ap_e, sel_t, sel_f, gsel_tt, gsel_tf, gsel_ft, gsel_ff, gsel_u, gd_tt, gd_tf, gd_ft, gd_ff, gd_u, ↓jn_n, jn_n, jn_r, ↓jn_r, blk_n, blk_r, ↓cl_r, cl_r, ↓iAdd_i, ↓iSub_i, ↓iMul_i, ↓iAnd_i, ↓iOr_i, ↓iXor_i, ↓iNeg_i, iQuo_i, iRem_i, ↓iConv_i, iConv_i, ↓bNot_b, bNot_b, ↓eqN_i, ↓ltN_i, ↓eqB_b, bnot_e, Int.ofNat_eq_natCast, Int.cast_ofNat_Int, Int.reduceBEq, Int.reduceAdd, Int.reduceNeg, Int.reduceNegSucc, Int.reduceLT, Int.reduceLE, Int.reduceMul, Int.reduceTMod, Int.reduceSub, Int.reduceBNe, Bool.not_true, Bool.not_false, decide_true, decide_false, w63_in, w31_in, ne_eq, not_false_eq_true, Int.reduceEq, reduceCtorEq, ww3131, ww6363, ww3163, ww6331, ww3231, ww3263, ww6463, ww6364, sh31, sh63, sl63, m31, m63, n63, s5a, s5b, s6a, s6b, b31, b32, b63, c63, c64, d64, iShl_c, iShr_c, sr3, sr6, sr7]; rfl
      · have h2 : (t.length : Int) - at_ < n := by
          have : ¬ (n ≤ (t.length : Int) - at_) := fun h3 => ho ⟨rfl, by omega, h3⟩
          omega
        simp only [↓s33, ↓nck_p, ↓cP_p, ↓eqP_pn, ↓e0, ↓e1, ↓e2, ↓e3, ↓l0, Bs_len, h1, h2, w1, ↓uc_c, ↓uz_n, ↓cI_i, ↓cB_b, cB_b, ↓cT_t, cT_t, nth_z, nth_1, cK_b, ↓cK_b, ↓cK_i, cK_i, ifB_t, ifB_f, ↓ap_e, sel_t, sel_f, gsel_tt, gsel_tf, gsel_ft, gsel_ff, gsel_u, gd_tt, gd_tf, gd_ft, gd_ff, gd_u, ↓jn_n, jn_n, jn_r, ↓jn_r, blk_n, blk_r, ↓cl_r, cl_r, ↓iAdd_i, ↓iSub_i, ↓iMul_i, ↓iAnd_i, ↓iOr_i, ↓iXor_i, ↓iNeg_i, iQuo_i, iRem_i, ↓iConv_i, iConv_i, ↓bNot_b, bNot_b, ↓eqN_i, ↓ltN_i, ↓eqB_b, bnot_e, Int.ofNat_eq_natCast, Int.cast_ofNat_Int, Int.reduceBEq, Int.reduceAdd, Int.reduceNeg, Int.reduceNegSucc, Int.reduceLT, Int.reduceLE, Int.reduceMul, Int.reduceTMod, Int.reduceSub, Int.reduceBNe, Bool.not_true, Bool.not_false, decide_true, decide_false, w63_in, w31_in, ne_eq, not_false_eq_true, Int.reduceEq, reduceCtorEq, ww3131, ww6363, ww3163, ww6331, ww3231, ww3263, ww6463, ww6364, sh31, sh63, sl63, m31, m63, n63, s5a, s5b, s6a, s6b, b31, b32, b63, c63, c64, d64, iShl_c, iShr_c, sr3, sr6, sr7]; rfl
end
theorem cut_lo0 (z : Nat) (x : AV) (hi : Option AV) (k : AV → Res) : cutS z x none hi none k = cutS z x (some (.int 63 ((0 : Nat) : Int))) hi none k := by cases x <;> rfl
theorem t24 {h : Hp} {P : Nat → Prop} {v : AV} {t : List Nat} (hs : Sl h P v (Bs t)) (n : Nat) (ht : t.length ≤ 9223372036854775807) : ∃ v', s24 [v, .int 63 (n : Int)] h = .ret v' h ∧ Sl h P v' (Bs (t.take n)) := by
  have l0 := fun k => lenL_sl hs k
  have cv := fun k => cK_sl hs k
  by_cases hl : n < t.length
  · obtain ⟨v', g1, g2⟩ := cut_sl hs (c1 := 63) (c2 := 63) 0 n (by omega) (by rw [Bs_len]; omega)
    have e : (((Bs t).drop 0).take (n - 0)) = Bs (t.take n) := by simp [Bs, List.map_take]
    rw [e] at g2
    have cv' := fun k => cK_sl g2 k
    have h1 : (n : Int) < (t.length : Int) := by omega
    exact ⟨v', by simp only [↓s24, ↓l0, Bs_len, h1, ↓cut_lo0, ↓g1, ↓cv', ↓uc_c, ↓uz_n, ↓cI_i, ↓cB_b, cB_b, ↓cT_t, cT_t, nth_z, nth_1, cK_b, ↓cK_b, ↓cK_i, cK_i, ifB_t, ifB_f, ↓ap_e, sel_t, sel_f, gsel_tt, gsel_tf, gsel_ft, gsel_ff, gsel_u, gd_tt, gd_tf, gd_ft, gd_ff, gd_u, ↓jn_n, jn_n, jn_r, ↓jn_r, blk_n, blk_r, ↓cl_r, cl_r, ↓iAdd_i, ↓iSub_i, ↓iMul_i, ↓iAnd_i, ↓iOr_i, ↓iXor_i, ↓iNeg_i, iQuo_i, iRem_i, ↓iConv_i, iConv_i, ↓bNot_b, bNot_b, ↓eqN_i, ↓ltN_i, ↓eqB_b, bnot_e, Int.ofNat_eq_natCast, Int.cast_ofNat_Int, Int.reduceBEq, Int.reduceAdd, Int.reduceNeg, Int.reduceNegSucc, Int.reduceLT, Int.reduceLE, Int.reduceMul, Int.reduceTMod, Int.reduceSub, Int.reduceBNe, Bool.not_true, Bool.not_false, decide_true, decide_false, w63_in, w31_in, ne_eq, not_false_eq_true, Int.reduceEq, reduceCtorEq, ww3131, ww6363, ww3163, ww6331, ww3231, ww3263, ww6463, ww6364, sh31, sh63, sl63, m31, m63, n63, s5a, s5b, s6a, s6b, b31, b32, b63, c63, c64, d64, iShl_c, iShr_c, sr3, sr6, sr7], g2⟩
  · have h1 : ¬ (n : Int) < (t.length : Int) := by omega
    rw [List.take_of_length_le (by omega)]
    exact ⟨v, by simp only [↓s24, ↓l0, Bs_len, h1, ↓cv, ↓uc_c, ↓uz_n, ↓cI_i, ↓cB_b, cB_b, ↓cT_t, cT_t, nth_z, nth_1, cK_b, ↓cK_b, ↓cK_i, cK_i, ifB_t, ifB_f, ↓ap_e, sel_t, sel_f, gsel_tt, gsel_tf, gsel_ft, gsel_ff, gsel_u, gd_tt, gd_tf, gd_ft, gd_ff, gd_u, ↓jn_n, jn_n, jn_r, ↓jn_r, blk_n, blk_r, ↓cl_r, cl_r, ↓iAdd_i, ↓iSub_i, ↓iMul_i, ↓iAnd_i, ↓iOr_i, ↓iXor_i, ↓iNeg_i, iQuo_i, iRem_i, ↓iConv_i, iConv_i, ↓bNot_b, bNot_b, ↓eqN_i, ↓ltN_i, ↓eqB_b, bnot_e, Int.ofNat_eq_natCast, Int.cast_ofNat_Int, Int.reduceBEq, Int.reduceAdd, Int.reduceNeg, Int.reduceNegSucc, Int.reduceLT, Int.reduceLE, Int.reduceMul, Int.reduceTMod, Int.reduceSub, Int.reduceBNe, Bool.not_true, Bool.not_false, decide_true, decide_false, w63_in, w31_in, ne_eq, not_false_eq_true, Int.reduceEq, reduceCtorEq, ww3131, ww6363, ww3163, ww6331, ww3231, ww3263, ww6463, ww6364, sh31, sh63, sl63, m31, m63, n63, s5a, s5b, s6a, s6b, b31, b32, b63, c63, c64, d64, iShl_c, iShr_c, sr3, sr6, sr7], hs⟩
end Go.Proofs.Ytnpfppddongbhaa
end

section
namespace Go.Proofs.Ytnpfppddongbhaa
open Go Go.AM
set_option autoImplicit false
set_option linter.unusedSimpArgs false
set_option linter.unusedVariables false
theorem mkS_lit {h : Hp} (hw : Wf h) (l : List AV) (hl : ∀ x ∈ l, one x = true) :
    ∃ v h', (∀ k : AV → Hp → Res, mkS h 1 l.length (avL l) k = k v h') ∧ Sl h' (fun x => h.nb ≤ x ∧ x < h'.nb) v l ∧ To No h h' ∧ Wf h' ∧ h'.nb = h.nb + 1 := by
  obtain ⟨t, h1, h2⟩ := lay_list l .e 0 hl
  have e2 : Nat.beq (0 + l.length) (Nat.mul l.length 1) = true := by rw [beq_iff]; show 0 + l.length = l.length * 1; omega
  obtain ⟨o1, o2⟩ := nw_own hw (0 + l.length) .nil t
  have hat : ∀ i (hi : i < l.length), (⟨true, h.nb, 0 + l.length, .nil, t⟩ : Blk).at (0 + i) = l[i] := by
    intro i hi
    rw [at_in _ (show 0 + i < 0 + l.length by omega)]
    simp only [h2 (0 + i)]
    rw [dif_pos ⟨by omega, by omega⟩]
    simp
  refine ⟨.sl h.nb 0 l.length 1 (some l.length), nw h (0 + l.length) .nil t, fun k => ?_, ⟨hl, .inr (.inr ⟨h.nb, 0, _, _, rfl, ⟨Nat.le_refl _, Nat.lt_succ_self _⟩, o1.rd, fun _ => ⟨Nat.le_refl _, Nat.lt_succ_self _⟩, (fun c h => by cases h; exact Nat.le_refl _), hat⟩)⟩, o2, o2.wf hw, rfl⟩
  have e : mkS h 1 l.length (avL l) k = lay (avL l) .e 0 fun t m => ifB (Nat.beq m (Nat.mul l.length 1)) (k (.sl h.nb 0 l.length 1 (some l.length)) (nw h m .nil t)) .fail := rfl
  rw [e, h1, e2, ifB_t]

theorem t23 {h : Hp} (hw : Wf h) : ∃ h', s23 [] h = .ret (.bool true) h' ∧ To No h h' ∧ Wf h' := by
  obtain ⟨v, h1, e1, s1, o1, w1, n1⟩ := mkS_lit hw (Bs [1, 2, 3, 4, 5, 6, 7]) (Bs_one _)
  have hb : ∀ k : AV → Res, bld [(false, 1, (.int 8 (.ofNat 1))), (false, 1, (.int 8 (.ofNat 2))), (false, 1, (.int 8 (.ofNat 3))), (false, 1, (.int 8 (.ofNat 4))), (false, 1, (.int 8 (.ofNat 5))), (false, 1, (.int 8 (.ofNat 6))), (false, 1, (.int 8 (.ofNat 7)))] k = k (avL (Bs [1, 2, 3, 4, 5, 6, 7])) := fun k => rfl
  have e1' : ∀ k : AV → Hp → Res, mkS h 1 7 (avL (Bs [1, 2, 3, 4, 5, 6, 7])) k = k v h1 := e1
  obtain ⟨b, h2, e2, c2, o2, w2, n2⟩ := t25 s1 w1 (by decide) (by decide)
  obtain ⟨h3, e3, c3, o3, w3⟩ := t27 c2 w2
  obtain ⟨h4, e4, c4, o4, w4⟩ := t28 c3 w3
  obtain ⟨h5, e5, c5, o5, w5⟩ := t29 c4 w4
  have e6 := t30 c5
  have e7 := t31 c5
  obtain ⟨h8, e8, c8, o8, w8⟩ := t27 c5 w5
  have e9 := t30 c8
  rw [show (be (win [1, 2, 3, 4, 5, 6, 7] 0 false 1) 0 : Nat) = 1 by decide] at e3
  rw [show (be (win [1, 2, 3, 4, 5, 6, 7] (nat_ [1, 2, 3, 4, 5, 6, 7] 0 false 1) (nbad [1, 2, 3, 4, 5, 6, 7] 0 false 1) 2) 0 : Nat) = 515 by decide] at e4
  have z1 : ((1 : Nat) : Int) = 1 := rfl
  have z2 : ((515 : Nat) : Int) = 515 := rfl
  have z3 : ((67438087 : Nat) : Int) = 67438087 := rfl
  have z0 : ((0 : Nat) : Int) = 0 := rfl
  rw [z1] at e3
  rw [z2] at e4
  simp only [show nat_ [1, 2, 3, 4, 5, 6, 7] 0 false 1 = 1 by decide, show nbad [1, 2, 3, 4, 5, 6, 7] 0 false 1 = false by decide, show nat_ [1, 2, 3, 4, 5, 6, 7] 1 false 2 = 3 by decide, show nbad [1, 2, 3, 4, 5, 6, 7] 1 false 2 = false by decide,
    show nat_ [1, 2, 3, 4, 5, 6, 7] 3 false 4 = 7 by decide, show nbad [1, 2, 3, 4, 5, 6, 7] 3 false 4 = false by decide, show nbad [1, 2, 3, 4, 5, 6, 7] 7 false 1 = true by decide,
    show (be (win [1, 2, 3, 4, 5, 6, 7] 3 false 4) 0 : Nat) = 67438087 by decide, show (be (win [1, 2, 3, 4, 5, 6, 7] 7 false 1) 0 : Nat) = 0 by decide, z0, z3, List.length_cons, List.length_nil, Nat.reduceAdd, Nat.reduceSub, Bool.not_true, Bool.not_false] at e5 e6 e7 e8 e9
  have tb : ∀ {x y : Hp}, To (At b) x y → To (fun q => h.nb ≤ q) x y := fun q => q.mono fun p _ e => by
    have : p = b := e
    have := o1.nb
    have := c2.lo
    omega
  have tn : ∀ {x y : Hp}, To No x y → To (fun q => h.nb ≤ q) x y := fun q => q.mono fun _ _ f => f.elim
  have tot := ((((tn o1).trans (tn o2)).trans (tb o3)).trans (tb o4)).trans ((tb o5).trans (tb o8))
  exact ⟨h8, by simp only [↓s23, ↓hb, ↓e1', ↓e2, ↓eqP_pn, ↓e3, ↓e4, ↓e5, ↓e6, ↓e7, ↓e8, ↓e9, ↓uc_c, ↓uz_n, ↓cI_i, ↓cB_b, cB_b, ↓cT_t, cT_t, nth_z, nth_1, cK_b, ↓cK_b, ↓cK_i, cK_i, ifB_t, ifB_f, ↓ap_e, sel_t, sel_f, gsel_tt, gsel_tf, gsel_ft, gsel_ff, gsel_u, gd_tt, gd_tf, gd_ft, gd_ff, gd_u, ↓jn_n, jn_n, jn_r, ↓jn_r, blk_n, blk_r, ↓cl_r, cl_r, ↓iAdd_i, ↓iSub_i, ↓iMul_i, ↓iAnd_i, ↓iOr_i, ↓iXor_i, ↓iNeg_i, iQuo_i, iRem_i, ↓iConv_i, iConv_i, ↓bNot_b, bNot_b, ↓eqN_i, ↓ltN_i, ↓eqB_b, bnot_e, Int.ofNat_eq_natCast, Int.cast_ofNat_Int, Int.reduceBEq, Int.reduceAdd, Int.reduceNeg, Int.reduceNegSucc, Int.reduceLT, Int.reduceLE, Int.reduceMul, Int.reduceTMod, Int.reduceSub, Int.reduceBNe, Bool.not_true, Bool.not_false, decide_true, decide_false, w63_in, w31_in, ne_eq, not_false_eq_true, Int.reduceEq, reduceCtorEq, ww3131, ww6363, ww3163, ww6331, ww3231, ww3263, ww6463, ww6364, sh31, sh63, sl63, m31, m63, n63, s5a, s5b, s6a, s6b, b31, b32, b63, c63, c64, d64, iShl_c, iShr_c, sr3, sr6, sr7], tot.mono fun p hp hn => by omega, w8⟩
end Go.Proofs.Ytnpfppddongbhaa
end

section
namespace Go.Proofs.Ytnpfppddongbhaa
open Go Go.AM
set_option autoImplicit false
set_option linter.unusedSimpArgs false
set_option linter.unusedVariables false
/-- The number that a text's bytes state, the lowest first. -/
def pk : List Nat → Nat
  | [] => 0
  | x :: l => x + 256 * pk l
theorem packL_bs : ∀ (t : List Nat) (k : Nat → Res), (∀ x ∈ t, x < 256) → packL (avL (Bs t)) k = k (pk t) := by
  intro t
  induction t with
  | nil => intro k _; rfl
  | cons x l ih =>
    intro k hb
    have e : packL (avL (Bs (x :: l))) k = ifB (Nat.blt x 256) (packL (avL (Bs l)) fun p => k (Nat.add x (Nat.mul 256 p))) .fail := rfl
    rw [e, (blt_iff _ _).2 (hb x (List.mem_cons_self ..)), ih _ (fun y hy => hb y (List.mem_cons_of_mem _ hy))]
    rfl
theorem b2s_sl {h : Hp} {P : Nat → Prop} {v : AV} {t : List Nat} (hs : Sl h P v (Bs t)) (hb : ∀ x ∈ t, x < 256) (k : AV → Res) : b2s h v k = k (.str t.length (pk t)) := by
  have e : b2s h v k = src h 1 v fun n l => packL l fun p => k (.str n p) := by
    rcases hs.2 with ⟨rfl, -⟩ | ⟨rfl, -⟩ | ⟨b, o, c, B, rfl, -⟩ <;> rfl
  rw [e, src_sl hs, packL_bs t _ hb, Bs_len]
theorem eqS_self (n x : Nat) (k : Bool → Res) : eqS (.str n x) (.str n x) k = k true := by
  have e : eqS (.str n x) (.str n x) k = k (sEq n x n x) := rfl
  rw [e]
  have : sEq n x n x = true := by simp [sEq]
  rw [this]
/-- A read that succeeds. -/
theorem win_in (t : List Nat) (at_ n : Nat) (h : at_ + n ≤ t.length) : win t at_ false (n : Int) = (t.drop at_).take n ∧ nat_ t at_ false (n : Int) = at_ + n ∧ nbad t at_ false (n : Int) = false := by
  have ho : okc t at_ false (n : Int) := ⟨rfl, by omega, by omega⟩
  simp only [win, nat_, nbad, if_pos ho, Int.toNat_natCast]
  exact ⟨trivial, trivial, trivial⟩
theorem sh16 (m : Int) (k : AV → Res) : iShl (.int 63 m) (.int 64 (.ofNat 16)) k = k (.int 63 (wrapC 63 (m * 65536))) := iShl_i k 63 m 64 16 (by decide)
section
variable {h : Hp} {lo b at_ : Nat} {t : List Nat}
theorem step4 (hc : Cur h lo b t at_ false) (hw : Wf h) (hat : at_ < t.length) (a k : Nat) (ha : a < 1099511627776) (hk : k < 4) (v44 v46 v50 v52 v54 v56 : AV) :
    ∃ h', L4n0 [v44, v46, .ptr b 0, v50, v52, v54, v56, .int 63 (a : Int), .int 63 (k : Int)] h = .norm [v44, v46, .ptr b 0, v50, v52, v54, v56, .int 63 ((a * 256 + t[at_] : Nat) : Int), .int 63 ((k + 1 : Nat) : Int)] h' ∧ Cur h' lo b t (at_ + 1) false ∧ To (At b) h h' ∧ Wf h' := by
  obtain ⟨h', e1, c1, o1, w1⟩ := t27 hc hw
  have z1 : ((1 : Nat) : Int) = 1 := rfl
  obtain ⟨q1, q2, q3⟩ := win_in t at_ 1 hat
  rw [z1] at q1 q2 q3
  have q4 : (t.drop at_).take 1 = [t[at_]] := by rw [List.drop_eq_getElem_cons hat]; rfl
  have hx : t[at_] < 256 := hc.byt _ (List.getElem_mem _)
  rw [q2, q3] at c1
  rw [q1, q4, show be [t[at_]] 0 = t[at_] by simp [be]] at e1
  have h4 : (k : Int) < 4 := by omega
  exact ⟨h', by simp only [↓L4n0, h4, ↓sh8, ↓e1, m8 a ha, ad8 a _ ha hx, s1n k (by omega), ↓uc_c, ↓uz_n, ↓cI_i, ↓cB_b, cB_b, ↓cT_t, cT_t, nth_z, nth_1, cK_b, ↓cK_b, ↓cK_i, cK_i, ifB_t, ifB_f, ↓ap_e, sel_t, sel_f, gsel_tt, gsel_tf, gsel_ft, gsel_ff, gsel_u, gd_tt, gd_tf, gd_ft, gd_ff, gd_u, ↓jn_n, jn_n, jn_r, ↓jn_r, blk_n, blk_r, ↓cl_r, cl_r, ↓iAdd_i, ↓iSub_i, ↓iMul_i, ↓iAnd_i, ↓iOr_i, ↓iXor_i, ↓iNeg_i, iQuo_i, iRem_i, ↓iConv_i, iConv_i, ↓bNot_b, bNot_b, ↓eqN_i, ↓ltN_i, ↓eqB_b, bnot_e, Int.ofNat_eq_natCast, Int.cast_ofNat_Int, Int.reduceBEq, Int.reduceAdd, Int.reduceNeg, Int.reduceNegSucc, Int.reduceLT, Int.reduceLE, Int.reduceMul, Int.reduceTMod, Int.reduceSub, Int.reduceBNe, Bool.not_true, Bool.not_false, decide_true, decide_false, w63_in, w31_in, ne_eq, not_false_eq_true, Int.reduceEq, reduceCtorEq, ww3131, ww6363, ww3163, ww6331, ww3231, ww3263, ww6463, ww6364, sh31, sh63, sl63, m31, m63, n63, s5a, s5b, s6a, s6b, b31, b32, b63, c63, c64, d64, iShl_c, iShr_c, sr3, sr6, sr7], c1, o1, w1⟩
theorem stop4 (v44 v46 v48 v50 v52 v54 v56 v58 : AV) : L4n0 [v44, v46, v48, v50, v52, v54, v56, v58, .int 63 ((4 : Nat) : Int)] h = .exit 2 [v44, v46, v48, v50, v52, v54, v56, v58] h := by
  have z : ((4 : Nat) : Int) = 4 := rfl
  have z2 : (Int.ofNat 4) = 4 := rfl
  simp only [↓L4n0, z, z2, Int.lt_irrefl, ↓uc_c, ↓uz_n, ↓cI_i, ↓cB_b, cB_b, ↓cT_t, cT_t, nth_z, nth_1, cK_b, ↓cK_b, ↓cK_i, cK_i, ifB_t, ifB_f, ↓ap_e, sel_t, sel_f, gsel_tt, gsel_tf, gsel_ft, gsel_ff, gsel_u, gd_tt, gd_tf, gd_ft, gd_ff, gd_u, ↓jn_n, jn_n, jn_r, ↓jn_r, blk_n, blk_r, ↓cl_r, cl_r, ↓iAdd_i, ↓iSub_i, ↓iMul_i, ↓iAnd_i, ↓iOr_i, ↓iXor_i, ↓iNeg_i, iQuo_i, iRem_i, ↓iConv_i, iConv_i, ↓bNot_b, bNot_b, ↓eqN_i, ↓ltN_i, ↓eqB_b, bnot_e, Int.ofNat_eq_natCast, Int.cast_ofNat_Int, Int.reduceBEq, Int.reduceAdd, Int.reduceNeg, Int.reduceNegSucc, Int.reduceLT, Int.reduceLE, Int.reduceMul, Int.reduceTMod, Int.reduceSub, Int.reduceBNe, Bool.not_true, Bool.not_false, decide_true, decide_false, w63_in, w31_in, ne_eq, not_false_eq_true, Int.reduceEq, reduceCtorEq, ww3131, ww6363, ww3163, ww6331, ww3231, ww3263, ww6463, ww6364, sh31, sh63, sl63, m31, m63, n63, s5a, s5b, s6a, s6b, b31, b32, b63, c63, c64, d64, iShl_c, iShr_c, sr3, sr6, sr7]
theorem loop4 (hc : Cur h lo b t at_ false) (hw : Wf h) (hat : at_ + 4 ≤ t.length) (v44 v46 v50 v52 v54 v56 : AV) :
    ∃ h', lp L4n0 most [v44, v46, .ptr b 0, v50, v52, v54, v56, .int 63 0, .int 63 0] h = .exit 2 [v44, v46, .ptr b 0, v50, v52, v54, v56, .int 63 (be ((t.drop at_).take 4) 0 : Int)] h' ∧ Cur h' lo b t (at_ + 4) false ∧ To (At b) h h' ∧ Wf h' := by
  obtain ⟨h1, e1, c1, o1, w1⟩ := step4 hc hw (by omega) 0 0 (by omega) (by omega) v44 v46 v50 v52 v54 v56
  have l0 : t[at_] < 256 := hc.byt _ (List.getElem_mem _)
  have l1 : t[at_ + 1] < 256 := hc.byt _ (List.getElem_mem _)
  have l2 : t[at_ + 1 + 1] < 256 := hc.byt _ (List.getElem_mem _)
  have l3 : t[at_ + 1 + 1 + 1] < 256 := hc.byt _ (List.getElem_mem _)
  obtain ⟨h2, e2, c2, o2, w2⟩ := step4 c1 w1 (by omega) (0 * 256 + t[at_]) (0 + 1) (by omega) (by omega) v44 v46 v50 v52 v54 v56
  obtain ⟨h3, e3, c3, o3, w3⟩ := step4 c2 w2 (by omega) ((0 * 256 + t[at_]) * 256 + t[at_ + 1]) (0 + 1 + 1) (by omega) (by omega) v44 v46 v50 v52 v54 v56
  obtain ⟨h4, e4, c4, o4, w4⟩ := step4 c3 w3 (by omega) (((0 * 256 + t[at_]) * 256 + t[at_ + 1]) * 256 + t[at_ + 1 + 1]) (0 + 1 + 1 + 1) (by omega) (by omega) v44 v46 v50 v52 v54 v56
  have q : (t.drop at_).take 4 = [t[at_], t[at_ + 1], t[at_ + 1 + 1], t[at_ + 1 + 1 + 1]] := by
    rw [List.drop_eq_getElem_cons (by omega), List.drop_eq_getElem_cons (by omega), List.drop_eq_getElem_cons (by omega), List.drop_eq_getElem_cons (by omega)]
    rfl
  refine ⟨h4, ?_, c4, ((o1.trans o2).trans o3).trans o4, w4⟩
  rw [q]
  have hm : most = 999995 + 1 + 1 + 1 + 1 + 1 := rfl
  rw [hm]
  exact ((lpn _ e1).trans ((lpn _ e2).trans ((lpn _ e3).trans ((lpn _ e4).trans (lpx _ (stop4 ..))))))
end
end Go.Proofs.Ytnpfppddongbhaa
end

section
namespace Go.Proofs.Ytnpfppddongbhaa
open Go Go.AM
set_option autoImplicit false
set_option linter.unusedSimpArgs false
set_option linter.unusedVariables false
theorem beqi' (a : Int) : (a == a) = true := by simp
/-- Three cursors at one place of the same bytes; and slices that stay as they are. -/
structure Tri (h : Hp) (N l1 b1 l2 b2 l3 b3 : Nat) (t : List Nat) (at_ : Nat) (u v : AV) : Prop where
  c1 : Cur h l1 b1 t at_ false
  c2 : Cur h l2 b2 t at_ false
  c3 : Cur h l3 b3 t at_ false
  wf : Wf h
  o1 : N ≤ l1
  o2 : b1 < l2
  o3 : b2 < l3
  u : Sl h (fun x => x < N) u (Bs t)
  v : Sl h (fun x => b3 < x) v (Bs t)
theorem sh16' (m : Int) (k : AV → Res) : iShl (.int 63 m) (.int 64 16) k = k (.int 63 (wrapC 63 (m * 65536))) := sh16 m k
theorem i4 (i : Nat) (hi : i < 1000000) : wrapC 63 ((i : Int) + 4) = ((i + 4 : Nat) : Int) := by rw [w63_in _ (by omega) (by omega)]; omega
theorem stepT {h : Hp} {N l1 b1 l2 b2 l3 b3 : Nat} {t : List Nat} {at_ : Nat} {u v : AV} (T : Tri h N l1 b1 l2 b2 l3 b3 t at_ u v) (hat : at_ + 4 ≤ t.length) :
    ∃ h', L4n1 [u, .bool true, .ptr b1 0, .ptr b2 0, .ptr b3 0, v, .int 63 (at_ : Int)] h = .norm [u, .bool true, .ptr b1 0, .ptr b2 0, .ptr b3 0, v, .int 63 ((at_ + 4 : Nat) : Int)] h' ∧ Tri h' N l1 b1 l2 b2 l3 b3 t (at_ + 4) u v := by
  obtain ⟨c1, c2, c3, wf, o1, o2, o3, hu, hv⟩ := T
  have hlen := c1.len
  have q1 := c1.lo
  have q2 := c2.lo
  have q3 := c3.lo
  have n1 : ∀ x, l2 ≤ x → x ≤ b2 → ¬ At b1 x := fun x a b e => by have : x = b1 := e; omega
  have n2 : ∀ x, l3 ≤ x → x ≤ b3 → ¬ At b1 x := fun x a b e => by have : x = b1 := e; omega
  have n3 : ∀ x, l1 ≤ x → x ≤ b1 → ¬ At b2 x := fun x a b e => by have : x = b2 := e; omega
  have n4 : ∀ x, l3 ≤ x → x ≤ b3 → ¬ At b2 x := fun x a b e => by have : x = b2 := e; omega
  have n5 : ∀ x, l1 ≤ x → x ≤ b1 → ¬ At b3 x := fun x a b e => by have : x = b3 := e; omega
  have n6 : ∀ x, l2 ≤ x → x ≤ b2 → ¬ At b3 x := fun x a b e => by have : x = b3 := e; omega
  obtain ⟨h1, e1, c1, t1, w1⟩ := loop4 c1 wf hat u (.bool true) (.ptr b2 0) (.ptr b3 0) v (.int 63 (at_ : Int))
  obtain ⟨h2, e2, d2, t2, w2⟩ := t28 (c2.to t1 n1) w1
  have z2 : ((2 : Nat) : Int) = 2 := rfl
  have z4 : ((4 : Nat) : Int) = 4 := rfl
  obtain ⟨r1, r2, r3⟩ := win_in t at_ 2 (by omega)
  rw [z2] at r1 r2 r3
  rw [r2, r3] at d2
  rw [r1] at e2
  obtain ⟨h3, e3, d3, t3, w3⟩ := t28 d2 w2
  obtain ⟨r1, r2, r3⟩ := win_in t (at_ + 2) 2 (by omega)
  rw [z2] at r1 r2 r3
  rw [r2, r3] at d3
  rw [r1] at e3
  obtain ⟨h4, e4, d4, t4, w4⟩ := t29 (((c3.to t1 n2).to t2 n4).to t3 n4) w3
  obtain ⟨r1, r2, r3⟩ := win_in t at_ 4 (by omega)
  rw [z4] at r1 r2 r3
  rw [r2, r3] at d4
  rw [r1] at e4
  have l0 := fun k => lenL_sl hu k
  have lt : (at_ : Int) < (t.length : Int) := by omega
  have b0 : t[at_] < 256 := c2.byt _ (List.getElem_mem _)
  have b1' : t[at_ + 1] < 256 := c2.byt _ (List.getElem_mem _)
  have b2' : t[at_ + 1 + 1] < 256 := c2.byt _ (List.getElem_mem _)
  have b3' : t[at_ + 1 + 1 + 1] < 256 := c2.byt _ (List.getElem_mem _)
  have g4 : be ((t.drop at_).take 4) 0 = (((0 * 256 + t[at_]) * 256 + t[at_ + 1]) * 256 + t[at_ + 1 + 1]) * 256 + t[at_ + 1 + 1 + 1] := by
    rw [List.drop_eq_getElem_cons (by omega), List.drop_eq_getElem_cons (by omega), List.drop_eq_getElem_cons (by omega), List.drop_eq_getElem_cons (by omega)]
    rfl
  have g2 : be ((t.drop at_).take 2) 0 = (0 * 256 + t[at_]) * 256 + t[at_ + 1] := by
    rw [List.drop_eq_getElem_cons (by omega), List.drop_eq_getElem_cons (by omega)]
    rfl
  have g2' : be ((t.drop (at_ + 2)).take 2) 0 = (0 * 256 + t[at_ + 1 + 1]) * 256 + t[at_ + 1 + 1 + 1] := by
    rw [List.drop_eq_getElem_cons (by omega), List.drop_eq_getElem_cons (by omega)]
    rfl
  generalize be ((t.drop at_).take 4) 0 = B4 at *
  generalize be ((t.drop at_).take 2) 0 = B2 at *
  generalize be ((t.drop (at_ + 2)).take 2) 0 = C2 at *
  have m1 : wrapC 63 ((B2 : Int) * 65536) = ((B2 * 65536 : Nat) : Int) := by rw [w63_in _ (by omega) (by omega)]; omega
  have m2 : wrapC 63 (((B2 * 65536 : Nat) : Int) + 0) = ((B2 * 65536 : Nat) : Int) := by rw [w63_in _ (by omega) (by omega)]; omega
  have m3 : wrapC 63 (((B2 * 65536 : Nat) : Int) + (C2 : Int)) = (B4 : Int) := by rw [w63_in _ (by omega) (by omega)]; omega
  refine ⟨h4, ?_, ⟨((c1.to t2 n3).to t3 n3).to t4 n5, d3.to t4 n6, d4, w4, o1, o2, o3,
    (((hu.to t1 (fun x hx e => by have : x = b1 := e; omega)).to t2 (fun x hx e => by have : x = b2 := e; omega)).to t3 (fun x hx e => by have : x = b2 := e; omega)).to t4 (fun x hx e => by have : x = b3 := e; omega),
    (((hv.to t1 (fun x hx e => by have : x = b1 := e; omega)).to t2 (fun x hx e => by have : x = b2 := e; omega)).to t3 (fun x hx e => by have : x = b2 := e; omega)).to t4 (fun x hx e => by have : x = b3 := e; omega)⟩⟩
  simp only [↓L4n1, ↓l0, Bs_len, lt, e1, blk_e, show Nat.beq 2 2 = true from rfl, ↓uc_c, ↓uz_n, ↓cI_i, ↓cB_b, cB_b, ↓cT_t, cT_t, nth_z, nth_1, cK_b, ↓cK_b, ↓cK_i, cK_i, ifB_t, ifB_f, ↓ap_e, sel_t, sel_f, gsel_tt, gsel_tf, gsel_ft, gsel_ff, gsel_u, gd_tt, gd_tf, gd_ft, gd_ff, gd_u, ↓jn_n, jn_n, jn_r, ↓jn_r, blk_n, blk_r, ↓cl_r, cl_r, ↓iAdd_i, ↓iSub_i, ↓iMul_i, ↓iAnd_i, ↓iOr_i, ↓iXor_i, ↓iNeg_i, iQuo_i, iRem_i, ↓iConv_i, iConv_i, ↓bNot_b, bNot_b, ↓eqN_i, ↓ltN_i, ↓eqB_b, bnot_e, Int.ofNat_eq_natCast, Int.cast_ofNat_Int, Int.reduceBEq, Int.reduceAdd, Int.reduceNeg, Int.reduceNegSucc, Int.reduceLT, Int.reduceLE, Int.reduceMul, Int.reduceTMod, Int.reduceSub, Int.reduceBNe, Bool.not_true, Bool.not_false, decide_true, decide_false, w63_in, w31_in, ne_eq, not_false_eq_true, Int.reduceEq, reduceCtorEq, ww3131, ww6363, ww3163, ww6331, ww3231, ww3263, ww6463, ww6364, sh31, sh63, sl63, m31, m63, n63, s5a, s5b, s6a, s6b, b31, b32, b63, c63, c64, d64, iShl_c, iShr_c, sr3, sr6, sr7]
  simp only [↓e2, ↓sh16', m1, m2, ↓e3, m3, beqi', ↓e4, i4 at_ (by omega), ↓uc_c, ↓uz_n, ↓cI_i, ↓cB_b, cB_b, ↓cT_t, cT_t, nth_z, nth_1, cK_b, ↓cK_b, ↓cK_i, cK_i, ifB_t, ifB_f, ↓ap_e, sel_t, sel_f, gsel_tt, gsel_tf, gsel_ft, gsel_ff, gsel_u, gd_tt, gd_tf, gd_ft, gd_ff, gd_u, ↓jn_n, jn_n, jn_r, ↓jn_r, blk_n, blk_r, ↓cl_r, cl_r, ↓iAdd_i, ↓iSub_i, ↓iMul_i, ↓iAnd_i, ↓iOr_i, ↓iXor_i, ↓iNeg_i, iQuo_i, iRem_i, ↓iConv_i, iConv_i, ↓bNot_b, bNot_b, ↓eqN_i, ↓ltN_i, ↓eqB_b, bnot_e, Int.ofNat_eq_natCast, Int.cast_ofNat_Int, Int.reduceBEq, Int.reduceAdd, Int.reduceNeg, Int.reduceNegSucc, Int.reduceLT, Int.reduceLE, Int.reduceMul, Int.reduceTMod, Int.reduceSub, Int.reduceBNe, Bool.not_true, Bool.not_false, decide_true, decide_false, w63_in, w31_in, ne_eq, not_false_eq_true, Int.reduceEq, reduceCtorEq, ww3131, ww6363, ww3163, ww6331, ww3231, ww3263, ww6463, ww6364, sh31, sh63, sl63, m31, m63, n63, s5a, s5b, s6a, s6b, b31, b32, b63, c63, c64, d64, iShl_c, iShr_c, sr3, sr6, sr7]
theorem loopT : ∀ (f m : Nat) {h : Hp} {N l1 b1 l2 b2 l3 b3 : Nat} {t : List Nat} {at_ : Nat} {u v : AV}, Tri h N l1 b1 l2 b2 l3 b3 t at_ u v → t.length = at_ + 4 * f → f < m →
    ∃ h', lp L4n1 m [u, .bool true, .ptr b1 0, .ptr b2 0, .ptr b3 0, v, .int 63 (at_ : Int)] h = .exit 0 [u, .bool true, .ptr b1 0, .ptr b2 0, .ptr b3 0, v] h' ∧ Tri h' N l1 b1 l2 b2 l3 b3 t t.length u v := by
  intro f
  induction f with
  | zero =>
    intro m h N l1 b1 l2 b2 l3 b3 t at_ u v T ht hm
    obtain ⟨m, rfl⟩ : ∃ k, m = k + 1 := ⟨m - 1, by omega⟩
    have l0 := fun k => lenL_sl T.u k
    have lt : ¬ (at_ : Int) < (t.length : Int) := by omega
    have e : L4n1 [u, .bool true, .ptr b1 0, .ptr b2 0, .ptr b3 0, v, .int 63 (at_ : Int)] h = .exit 0 [u, .bool true, .ptr b1 0, .ptr b2 0, .ptr b3 0, v] h := by simp only [↓L4n1, ↓l0, Bs_len, lt, ↓uc_c, ↓uz_n, ↓cI_i, ↓cB_b, cB_b, ↓cT_t, cT_t, nth_z, nth_1, cK_b, ↓cK_b, ↓cK_i, cK_i, ifB_t, ifB_f, ↓ap_e, sel_t, sel_f, gsel_tt, gsel_tf, gsel_ft, gsel_ff, gsel_u, gd_tt, gd_tf, gd_ft, gd_ff, gd_u, ↓jn_n, jn_n, jn_r, ↓jn_r, blk_n, blk_r, ↓cl_r, cl_r, ↓iAdd_i, ↓iSub_i, ↓iMul_i, ↓iAnd_i, ↓iOr_i, ↓iXor_i, ↓iNeg_i, iQuo_i, iRem_i, ↓iConv_i, iConv_i, ↓bNot_b, bNot_b, ↓eqN_i, ↓ltN_i, ↓eqB_b, bnot_e, Int.ofNat_eq_natCast, Int.cast_ofNat_Int, Int.reduceBEq, Int.reduceAdd, Int.reduceNeg, Int.reduceNegSucc, Int.reduceLT, Int.reduceLE, Int.reduceMul, Int.reduceTMod, Int.reduceSub, Int.reduceBNe, Bool.not_true, Bool.not_false, decide_true, decide_false, w63_in, w31_in, ne_eq, not_false_eq_true, Int.reduceEq, reduceCtorEq, ww3131, ww6363, ww3163, ww6331, ww3231, ww3263, ww6463, ww6364, sh31, sh63, sl63, m31, m63, n63, s5a, s5b, s6a, s6b, b31, b32, b63, c63, c64, d64, iShl_c, iShr_c, sr3, sr6, sr7]
    have : at_ = t.length := by omega
    subst this
    exact ⟨h, lpx m e, T⟩
  | succ f ih =>
    intro m h N l1 b1 l2 b2 l3 b3 t at_ u v T ht hm
    obtain ⟨m, rfl⟩ : ∃ k, m = k + 1 := ⟨m - 1, by omega⟩
    obtain ⟨h1, e1, T1⟩ := stepT T (by omega)
    obtain ⟨h2, e2, T2⟩ := ih m T1 (by omega) (by omega)
    exact ⟨h2, (lpn m e1).trans e2, T2⟩

theorem lawWhole {h : Hp} {P : Nat → Prop} {v : AV} {t : List Nat} (hs : Sl h (fun b => b < h.nb) v (Bs t)) (hw : Wf h) (hb : ∀ x ∈ t, x < 256) (ht : t.length ≤ 9223372036854775807) : ∃ h', s4 [v] h = .ret (.bool true) h' := by
  obtain ⟨h1, e1, o1, w1⟩ := t23 hw
  obtain ⟨v2, e2, s2⟩ := t24 (hs.to o1 (fun _ _ f => f)) 64 ht
  have z64 : ((64 : Nat) : Int) = 64 := rfl
  rw [z64] at e2
  have hb2 : ∀ x ∈ t.take 64, x < 256 := fun x hx => hb x (List.mem_of_mem_take hx)
  have hl2 : (t.take 64).length ≤ 64 := by simp; omega
  generalize t.take 64 = t2 at *
  have l2 := fun k => lenL_sl s2 k
  have w4 : wrapC 63 ((t2.length : Int).tdiv 4) = ((t2.length / 4 : Nat) : Int) := by
    have : (t2.length : Int).tdiv 4 = ((t2.length / 4 : Nat) : Int) := by rw [Int.tdiv_eq_ediv_of_nonneg (by omega)]; omega
    rw [this, w63_in _ (by omega) (by omega)]
  have w5 : wrapC 63 (((t2.length / 4 : Nat) : Int) * 4) = ((t2.length / 4 * 4 : Nat) : Int) := by rw [w63_in _ (by omega) (by omega)]; omega
  obtain ⟨v3, e3, s3⟩ := cut_sl s2 (c1 := 63) (c2 := 63) 0 (t2.length / 4 * 4) (by omega) (by rw [Bs_len]; omega)
  have e3' : ((Bs t2).drop 0).take (t2.length / 4 * 4 - 0) = Bs (t2.take (t2.length / 4 * 4)) := by simp [Bs, List.map_take]
  rw [e3'] at s3
  have e3z : ∀ k : AV → Res, cutS 1 v2 (some (.int 63 0)) (some (.int 63 ((t2.length / 4 * 4 : Nat) : Int))) none k = k v3 := e3
  have hb3 : ∀ x ∈ t2.take (t2.length / 4 * 4), x < 256 := fun x hx => hb2 x (List.mem_of_mem_take hx)
  have hl3 : (t2.take (t2.length / 4 * 4)).length = 4 * (t2.length / 4) := by simp; omega
  generalize t2.take (t2.length / 4 * 4) = t3 at *
  have nn := o1.nb
  obtain ⟨b1, h2, f1, c1, p1, w1, n1⟩ := t25 s3 w1 (by omega) hb3
  obtain ⟨b2, h3, f2, c2, p2, w2, n2⟩ := t25 (s3.to p1 (fun _ _ f => f)) w1 (by omega) hb3
  obtain ⟨b3, h4, f3, c3, p3, w3, n3⟩ := t25 ((s3.to p1 (fun _ _ f => f)).to p2 (fun _ _ f => f)) w2 (by omega) hb3
  obtain ⟨b4, h5, f4, c4, p4, w4', n4⟩ := t25 (((s3.to p1 (fun _ _ f => f)).to p2 (fun _ _ f => f)).to p3 (fun _ _ f => f)) w3 (by omega) hb3
  obtain ⟨va, h6, f5, s5, c5, p5, w5'⟩ := t26 c4 w4' (t3.length : Int)
  obtain ⟨r1, -, -⟩ := win_in t3 0 t3.length (by omega)
  rw [r1, List.drop_zero, List.take_length] at s5
  have lo1 := c1.lo
  have lo2 := c2.lo
  have lo3 := c3.lo
  have lo4 := c4.lo
  have nb4 : ∀ {lo b}, b < b4 → ∀ x, lo ≤ x → x ≤ b → ¬ At b4 x := fun hb x _ hx e => by have : x = b4 := e; omega
  have T : Tri h6 h.nb h1.nb b1 h2.nb b2 h3.nb b3 t3 0 v3 va := by
    refine ⟨(((c1.to p2 (fun _ _ _ f => f)).to p3 (fun _ _ _ f => f)).to p4 (fun _ _ _ f => f)).to p5 (nb4 (by omega)), ((c2.to p3 (fun _ _ _ f => f)).to p4 (fun _ _ _ f => f)).to p5 (nb4 (by omega)), (c3.to p4 (fun _ _ _ f => f)).to p5 (nb4 (by omega)), w5', nn, by omega, by omega, ?_, s5.mono fun x hx => by omega⟩
    exact ((((s3.to p1 (fun _ _ f => f)).to p2 (fun _ _ f => f)).to p3 (fun _ _ f => f)).to p4 (fun _ _ f => f)).to p5 (fun x hx e => by have : x = b4 := e; omega)
  obtain ⟨h7, e7, T7⟩ := loopT (t2.length / 4) most T (by omega) (show _ < 1000000 by omega)
  have z0 : ((0 : Nat) : Int) = 0 := rfl
  rw [z0] at e7
  have l3 := fun k => lenL_sl ((((s3.to p1 (fun _ _ f => f)).to p2 (fun _ _ f => f)).to p3 (fun _ _ f => f)).to p4 (fun _ _ f => f)) k
  have x1 := fun k => b2s_sl T7.u hb3 k
  have x2 := fun k => b2s_sl T7.v hb3 k
  have x3 := t30 T7.c1
  have x4 := t30 T7.c2
  have x5 := t30 T7.c3
  have x6 := t31 T7.c1
  rw [Nat.sub_self, z0] at x6
  refine ⟨h7, ?_⟩
  simp only [↓s4, ↓e1, ↓e2, ↓l2, Bs_len, w4, w5, ↓cut_lo0, ↓e3, ↓e3z, ↓f1, ↓f2, ↓f3, ↓f4, ↓l3, ↓f5, e7, blk_e, ↓uc_c, ↓uz_n, ↓cI_i, ↓cB_b, cB_b, ↓cT_t, cT_t, nth_z, nth_1, cK_b, ↓cK_b, ↓cK_i, cK_i, ifB_t, ifB_f, ↓ap_e, sel_t, sel_f, gsel_tt, gsel_tf, gsel_ft, gsel_ff, gsel_u, gd_tt, gd_tf, gd_ft, gd_ff, gd_u, ↓jn_n, jn_n, jn_r, ↓jn_r, blk_n, blk_r, ↓cl_r, cl_r, ↓iAdd_i, ↓iSub_i, ↓iMul_i, ↓iAnd_i, ↓iOr_i, ↓iXor_i, ↓iNeg_i, iQuo_i, iRem_i, ↓iConv_i, iConv_i, ↓bNot_b, bNot_b, ↓eqN_i, ↓ltN_i, ↓eqB_b, bnot_e, Int.ofNat_eq_natCast, Int.cast_ofNat_Int, Int.reduceBEq, Int.reduceAdd, Int.reduceNeg, Int.reduceNegSucc, Int.reduceLT, Int.reduceLE, Int.reduceMul, Int.reduceTMod, Int.reduceSub, Int.reduceBNe, Bool.not_true, Bool.not_false, decide_true, decide_false, w63_in, w31_in, ne_eq, not_false_eq_true, Int.reduceEq, reduceCtorEq, ww3131, ww6363, ww3163, ww6331, ww3231, ww3263, ww6463, ww6364, sh31, sh63, sl63, m31, m63, n63, s5a, s5b, s6a, s6b, b31, b32, b63, c63, c64, d64, iShl_c, iShr_c, sr3, sr6, sr7]
  simp only [show Nat.beq 0 0 = true from rfl, ↓x1, ↓x2, ↓eqS_self, ↓x3, ↓x4, ↓x5, ↓x6, ↓uc_c, ↓uz_n, ↓cI_i, ↓cB_b, cB_b, ↓cT_t, cT_t, nth_z, nth_1, cK_b, ↓cK_b, ↓cK_i, cK_i, ifB_t, ifB_f, ↓ap_e, sel_t, sel_f, gsel_tt, gsel_tf, gsel_ft, gsel_ff, gsel_u, gd_tt, gd_tf, gd_ft, gd_ff, gd_u, ↓jn_n, jn_n, jn_r, ↓jn_r, blk_n, blk_r, ↓cl_r, cl_r, ↓iAdd_i, ↓iSub_i, ↓iMul_i, ↓iAnd_i, ↓iOr_i, ↓iXor_i, ↓iNeg_i, iQuo_i, iRem_i, ↓iConv_i, iConv_i, ↓bNot_b, bNot_b, ↓eqN_i, ↓ltN_i, ↓eqB_b, bnot_e, Int.ofNat_eq_natCast, Int.cast_ofNat_Int, Int.reduceBEq, Int.reduceAdd, Int.reduceNeg, Int.reduceNegSucc, Int.reduceLT, Int.reduceLE, Int.reduceMul, Int.reduceTMod, Int.reduceSub, Int.reduceBNe, Bool.not_true, Bool.not_false, decide_true, decide_false, w63_in, w31_in, ne_eq, not_false_eq_true, Int.reduceEq, reduceCtorEq, ww3131, ww6363, ww3163, ww6331, ww3231, ww3263, ww6463, ww6364, sh31, sh63, sl63, m31, m63, n63, s5a, s5b, s6a, s6b, b31, b32, b63, c63, c64, d64, iShl_c, iShr_c, sr3, sr6, sr7]
theorem bytes_of {w : World} {V : Value} {l : List Int} (A : ArgS .u8 w V l) : ∃ t : List Nat, (l.map fun n => AV.int (cOf .u8) n) = Bs t ∧ (∀ x ∈ t, x < 256) ∧ t.length = l.length := by
  have hwf := A.wf
  refine ⟨l.map Int.toNat, ?_, ?_, by simp⟩
  · simp only [Bs, List.map_map]
    refine List.map_congr_left fun n hn => ?_
    have := hwf n hn
    simp [Lit.wf, IntKind.min, IntKind.max, IntKind.signed, IntKind.bits] at this
    show AV.int 8 n = AV.int 8 (n.toNat : Int)
    congr 1
    omega
  · intro x hx
    obtain ⟨n, hn, rfl⟩ := List.mem_map.1 hx
    have := hwf n hn
    simp [Lit.wf, IntKind.min, IntKind.max, IntKind.signed, IntKind.bits] at this
    omega
theorem ArgS.len {k : IntKind} {w : World} {V : Value} {l : List Int} (A : ArgS k w V l) : l.length ≤ 9223372036854775807 := by
  rcases A with ⟨-, rfl⟩ | ⟨a, len, cap, zs, -, h1, h2, h3, rfl, -⟩
  · simp
  · have : maxLen ≤ 9223372036854775807 := by decide
    simp; omega
theorem walkWhole (w : World) (V : Value) (l : List Int) (A : ArgS .u8 w V l) : Calls Try.prog 4 #[V] w fun e w' => e = .returned (.bool true) ∧ Kept w w' := by
  obtain ⟨ρ, h, v, hA, -, hv, hs, -⟩ := add_arg (Args.none w) A
  obtain ⟨t, ht, hb, hl⟩ := bytes_of A
  rw [ht] at hs
  obtain ⟨h', e⟩ := lawWhole (P := fun _ => True) hs hA.wf hb (by have := ArgS.len A; omega)
  exact law_walk2 F4.1 hA e (.cons hv .nil)
end Go.Proofs.Ytnpfppddongbhaa
end

section
namespace Go.Proofs.Ytnpfppddongbhaa
open Go Go.AM
set_option autoImplicit false
set_option linter.unusedSimpArgs false
set_option linter.unusedVariables false
theorem Sl.low {h : Hp} {N : Nat} {v : AV} {l : List AV} (hs : Sl h (fun b => N ≤ b) v l) : Sl h (fun b => N ≤ b ∧ b < h.nb) v l := by
  obtain ⟨h1, h2⟩ := hs
  refine ⟨h1, ?_⟩
  rcases h2 with h2 | h2 | ⟨b, o, c, B, h2, h3, h4, h5, hc, h6⟩
  · exact .inl h2
  · exact .inr (.inl h2)
  · exact .inr (.inr ⟨b, o, c, B, h2, ⟨h3, h4.lt⟩, h4, fun hf => ⟨h5 hf, (h4.grp hf).1⟩, hc, h6⟩)
/-- A row of bytes of its own, from block N on. -/
def Row (h : Hp) (N : Nat) (v : AV) (t : List Nat) : Prop :=
  (t = [] ∧ Sl h (fun b => N ≤ b ∧ b < h.nb) v (Bs [])) ∨ ∃ b B, v = .sl b 0 t.length 1 none ∧ Own h b B ∧ B.lim = t.length ∧ N ≤ b ∧ ∀ i (hi : i < t.length), B.at i = .int 8 (t[i] : Int)
theorem Row.sl {h : Hp} {N : Nat} {v : AV} {t : List Nat} (hr : Row h N v t) : Sl h (fun b => N ≤ b ∧ b < h.nb) v (Bs t) := by
  rcases hr with ⟨rfl, hr⟩ | ⟨b, B, rfl, o, hl, hN, hat⟩
  · exact hr
  · refine ⟨Bs_one _, .inr (.inr ⟨b, 0, none, B, by rw [Bs_len], ⟨hN, o.lt⟩, o.rd, fun _ => by rw [o.g]; exact ⟨hN, o.lt⟩, (fun c e => by cases e), fun i hi => ?_⟩)⟩
    rw [Bs_len] at hi
    rw [Nat.zero_add, hat i hi]
    simp [Bs]
theorem Row.to {W : Nat → Prop} {h h' : Hp} {N : Nat} {v : AV} {t : List Nat} (hr : Row h N v t) (ht : To W h h') (hd : ∀ b, N ≤ b → b < h.nb → ¬ W b) : Row h' N v t := by
  rcases hr with ⟨rfl, hr⟩ | ⟨b, B, rfl, o, hl, hN, hat⟩
  · exact .inl ⟨rfl, (hr.to ht (fun b hb => hd b hb.1 hb.2)).mono fun b hb => ⟨hb.1, Nat.lt_of_lt_of_le hb.2 ht.nb⟩⟩
  · exact .inr ⟨b, B, rfl, o.to ht (hd b hN o.lt), hl, hN, hat⟩
theorem Row.mono {h : Hp} {N M : Nat} {v : AV} {t : List Nat} (hr : Row h N v t) (hM : M ≤ N) : Row h M v t := by
  rcases hr with ⟨rfl, hr⟩ | ⟨b, B, rfl, o, hl, hN, hat⟩
  · exact .inl ⟨rfl, hr.mono fun b hb => ⟨Nat.le_trans hM hb.1, hb.2⟩⟩
  · exact .inr ⟨b, B, rfl, o, hl, Nat.le_trans hM hN, hat⟩
theorem grown_own {h : Hp} (hw : Wf h) (t : List Nat) :
    ∃ b h', (∀ k : AV → Hp → Res, grown h 1 t.length (avL (Bs t)) k = k (.sl b 0 t.length 1 none) h') ∧ Row h' h.nb (.sl b 0 t.length 1 none) t ∧ To No h h' ∧ Wf h' := by
  obtain ⟨tr, h1, h2⟩ := lay_list (Bs t) .e 0 (Bs_one t)
  have e2 : Nat.beq (0 + (Bs t).length) (Nat.mul t.length 1) = true := by rw [beq_iff, Bs_len]; show 0 + t.length = t.length * 1; omega
  have hrun : ∀ k : AV → Hp → Res, grown h 1 t.length (avL (Bs t)) k = k (.sl h.nb 0 t.length 1 none) (nw h (0 + (Bs t).length) .nil tr) := fun k => by
    have e : grown h 1 t.length (avL (Bs t)) k = lay (avL (Bs t)) .e 0 fun t' j => ifB (Nat.beq j (Nat.mul t.length 1)) (k (.sl h.nb 0 t.length 1 none) (nw h j .nil t')) .fail := rfl
    rw [e, h1, e2, ifB_t]
  obtain ⟨o1, o2⟩ := nw_own hw (0 + (Bs t).length) .nil tr
  refine ⟨h.nb, _, hrun, .inr ⟨h.nb, _, rfl, o1, by show 0 + (Bs t).length = _; rw [Bs_len]; omega, Nat.le_refl _, fun i hi => ?_⟩, o2, o2.wf hw⟩
  rw [at_in _ (show i < 0 + (Bs t).length by rw [Bs_len]; omega)]
  simp only [h2 i]
  rw [dif_pos ⟨by omega, by rw [Bs_len]; omega⟩]
  simp [Bs]
theorem t68o {h : Hp} {P : Nat → Prop} {v : AV} {t : List Nat} (hs : Sl h P v (Bs t)) (hw : Wf h) (ht : t.length ≤ 100000) :
    ∃ v' h', s68 [v] h = .ret v' h' ∧ Row h' h.nb v' t ∧ To No h h' ∧ Wf h' := by
  by_cases h0 : t = []
  · subst h0
    obtain ⟨v', h', e, s, o, w⟩ := t68 hs hw ht
    exact ⟨v', h', e, .inl ⟨rfl, s⟩, o, w⟩
  · obtain ⟨b, e1, e2⟩ := eqL_nil hs (fun b2 => cB (.bool b2) fun b3 => ifB b3 (cK .nils fun v4 => .ret v4 h) (bld [] fun l5 => mkS h 1 0 l5 fun v6 h7 => apd h7 1 1 v6 v fun v8 h9 => cK v8 fun v10 => .ret v10 h9))
    have e0 : s68 [v] h = eqL v .nils (fun b2 => cB (.bool b2) fun b3 => ifB b3 (cK .nils fun v4 => .ret v4 h) (bld [] fun l5 => mkS h 1 0 l5 fun v6 h7 => apd h7 1 1 v6 v fun v8 h9 => cK v8 fun v10 => .ret v10 h9)) := rfl
    rw [e0, e1]
    cases b with
    | true =>
      have := e2 rfl
      exact absurd (List.map_eq_nil_iff.1 this) h0
    | false =>
      obtain ⟨o1, o2⟩ := nw_own hw 0 .nil .e
      have w1 := o2.wf hw
      obtain ⟨b, h', g1, g2, g3, g4⟩ := grown_own w1 t
      have hy := hs.to o2 (fun _ _ f => f)
      have hpos : t.length ≠ 0 := fun h => h0 (List.eq_nil_of_length_eq_zero h)
      have q1 : Nat.beq t.length 0 = false := by rw [Bool.eq_false_iff, ne_eq, beq_iff]; exact hpos
      have q2 : Nat.ble (Nat.mul (Nat.add 0 t.length) 1) 140737488355328 = true := by rw [ble_iff]; show (0 + t.length) * 1 ≤ _; omega
      have q3 : Nat.ble (Nat.add 0 t.length) 9223372036854775807 = true := by rw [ble_iff]; show 0 + t.length ≤ _; omega
      have q4 : Nat.ble (Nat.add 0 t.length) 0 = false := by rw [Bool.eq_false_iff, ne_eq, ble_iff]; show ¬ 0 + t.length ≤ 0; omega
      have run : ∀ k : AV → Hp → Res, apd (nw h 0 .nil .e) 1 1 (.sl h.nb 0 0 1 (some 0)) v k = k (.sl b 0 t.length 1 none) h' := fun k => by
        unfold apd
        rw [src_sl hy, Bs_len]
        show ifB (Nat.beq 1 1) (ifB (Nat.beq t.length 0) _ (ifB (Nat.ble (Nat.mul (Nat.add 0 t.length) 1) 140737488355328) (ifB (Nat.ble (Nat.add 0 t.length) 9223372036854775807) (ifB (Nat.ble (Nat.add 0 t.length) 0) _ (gb (nw h 0 .nil .e) h.nb fun B => rds B (Nat.mul 0 1) 0 fun old => grown (nw h 0 .nil .e) 1 (Nat.add 0 t.length) (app old (avL (Bs t))) k)) .fail) .fail)) .fail = _
        have e0 : Nat.add 0 t.length = t.length := Nat.zero_add _
        rw [q2, q3, q4, q1, e0]
        show (gb (nw h 0 .nil .e) h.nb fun B => rds B (Nat.mul 0 1) 0 fun old => grown (nw h 0 .nil .e) 1 t.length (app old (avL (Bs t))) k) = _
        rw [gb_rd o1.rd]
        exact g1 k
      refine ⟨_, h', ?_, g2.mono (Nat.le_of_lt (Nat.lt_succ_self _)), o2.trans g3, g4⟩
      show (apd (nw h 0 .nil .e) 1 1 (.sl h.nb 0 0 1 (some 0)) v fun v8 h9 => cK v8 fun v10 => .ret v10 h9) = _
      rw [run]
      rfl
theorem t26o {h : Hp} {lo b at_ : Nat} {t : List Nat} {bad : Bool} (hc : Cur h lo b t at_ bad) (hw : Wf h) (n : Int) :
    ∃ v h', s26 [.ptr b 0, .int 63 n] h = .ret v h' ∧ Row h' h.nb v (win t at_ bad n) ∧ Cur h' lo b t (nat_ t at_ bad n) (nbad t at_ bad n) ∧ To (At b) h h' ∧ Wf h' := by
  obtain ⟨v, h1, e1, s1, c1, o1, w1⟩ := t69 hc hw n
  have hl := win_len2 t at_ bad n
  obtain ⟨v2, h2, e2, s2, o2, w2⟩ := t68o s1 w1 (by have := hc.len; omega)
  have cv := fun k => cK_sl s2.sl k
  refine ⟨v2, h2, by simp only [↓s26, ↓e1, ↓e2, ↓cv, ↓uc_c, ↓uz_n, ↓cI_i, ↓cB_b, cB_b, ↓cT_t, cT_t, nth_z, nth_1, cK_b, ↓cK_b, ↓cK_i, cK_i, ifB_t, ifB_f, ↓ap_e, sel_t, sel_f, gsel_tt, gsel_tf, gsel_ft, gsel_ff, gsel_u, gd_tt, gd_tf, gd_ft, gd_ff, gd_u, ↓jn_n, jn_n, jn_r, ↓jn_r, blk_n, blk_r, ↓cl_r, cl_r, ↓iAdd_i, ↓iSub_i, ↓iMul_i, ↓iAnd_i, ↓iOr_i, ↓iXor_i, ↓iNeg_i, iQuo_i, iRem_i, ↓iConv_i, iConv_i, ↓bNot_b, bNot_b, ↓eqN_i, ↓ltN_i, ↓eqB_b, bnot_e, Int.ofNat_eq_natCast, Int.cast_ofNat_Int, Int.reduceBEq, Int.reduceAdd, Int.reduceNeg, Int.reduceNegSucc, Int.reduceLT, Int.reduceLE, Int.reduceMul, Int.reduceTMod, Int.reduceSub, Int.reduceBNe, Bool.not_true, Bool.not_false, decide_true, decide_false, w63_in, w31_in, ne_eq, not_false_eq_true, Int.reduceEq, reduceCtorEq, ww3131, ww6363, ww3163, ww6331, ww3231, ww3263, ww6463, ww6364, sh31, sh63, sl63, m31, m63, n63, s5a, s5b, s6a, s6b, b31, b32, b63, c63, c64, d64, iShl_c, iShr_c, sr3, sr6, sr7], s2.mono o1.nb, c1.to o2 (fun _ _ _ f => f), o1.trans (o2.mono fun _ _ f => f.elim), w2⟩
end Go.Proofs.Ytnpfppddongbhaa
end

section
namespace Go.Proofs.Ytnpfppddongbhaa
open Go Go.AM
set_option autoImplicit false
set_option linter.unusedSimpArgs false
set_option linter.unusedVariables false
theorem same_i (c : Nat) (n : Int) (k : Res) : same (.int c n) (.int c n) k = k := by
  have e : same (.int c n) (.int c n) k = ifB (eqAV (.int c n) (.int c n)) k .fail := rfl
  have e2 : eqAV (.int c n) (.int c n) = bAnd (Nat.beq c c) (eqI n n) := rfl
  have e3 : eqI n n = true := by
    cases n with
    | ofNat m => exact (beq_iff m m).2 rfl
    | negSucc m => exact (beq_iff m m).2 rfl
  rw [e, e2, e3, (beq_iff c c).2 rfl]; rfl
theorem same_bb (b : Bool) (k : Res) : same (.bool b) (.bool b) k = k := by cases b <;> rfl
theorem ixA_l (b n j : Nat) (hj : j < n) (c : Option Nat) (k : AV → Res) : ixA 1 (.sl b 0 n 1 c) (.int 63 (j : Int)) k = k (.ptr b j) := by
  have e : ixA 1 (.sl b 0 n 1 c) (.int 63 (j : Int)) k = ifB (Nat.blt j n) (ifB (Nat.beq 1 1) (k (.ptr b (Nat.add 0 (Nat.mul j 1)))) .fail) .fail := rfl
  rw [e, (blt_iff _ _).2 hj]
  have e2 : Nat.add 0 (Nat.mul j 1) = j := by show 0 + j * 1 = j; omega
  show k (.ptr b (Nat.add 0 (Nat.mul j 1))) = _
  rw [e2]
/-- A copy's bytes are turned: nothing else. -/
theorem loop5 {b n : Nat} (v1 v2 v3 v4 v5 v6 : AV) : ∀ (f m i : Nat) (h : Hp) (B : Blk), Own h b B → B.lim = n → (∀ j, j < n → ∃ y : Int, B.at j = .int 8 y) → n - i ≤ f → f < m → i ≤ n → n ≤ 100000 → Wf h →
    ∃ h', lp L5n0 m [v1, v2, v3, v4, v5, v6, .sl b 0 n 1 none, .int 63 (i : Int)] h = .exit 3 [v1, v2, v3, v4, v5, v6] h' ∧ To (At b) h h' ∧ Wf h' := by
  have len : ∀ k : AV → Res, lenL (.sl b 0 n 1 none) k = k (.int 63 (n : Int)) := fun k => rfl
  have stop : ∀ (f m i : Nat) (h : Hp), f < m → ¬ i < n → Wf h → ∃ h', lp L5n0 m [v1, v2, v3, v4, v5, v6, .sl b 0 n 1 none, .int 63 (i : Int)] h = .exit 3 [v1, v2, v3, v4, v5, v6] h' ∧ To (At b) h h' ∧ Wf h' := by
    intro f m i h hm hi hw
    obtain ⟨m, rfl⟩ : ∃ k, m = k + 1 := ⟨m - 1, by omega⟩
    have e1 : ¬ (i : Int) < (n : Int) := by omega
    exact ⟨h, lpx m (by simp only [↓L5n0, ↓len, e1, ↓uc_c, ↓uz_n, ↓cI_i, ↓cB_b, cB_b, ↓cT_t, cT_t, nth_z, nth_1, cK_b, ↓cK_b, ↓cK_i, cK_i, ifB_t, ifB_f, ↓ap_e, sel_t, sel_f, gsel_tt, gsel_tf, gsel_ft, gsel_ff, gsel_u, gd_tt, gd_tf, gd_ft, gd_ff, gd_u, ↓jn_n, jn_n, jn_r, ↓jn_r, blk_n, blk_r, ↓cl_r, cl_r, ↓iAdd_i, ↓iSub_i, ↓iMul_i, ↓iAnd_i, ↓iOr_i, ↓iXor_i, ↓iNeg_i, iQuo_i, iRem_i, ↓iConv_i, iConv_i, ↓bNot_b, bNot_b, ↓eqN_i, ↓ltN_i, ↓eqB_b, bnot_e, Int.ofNat_eq_natCast, Int.cast_ofNat_Int, Int.reduceBEq, Int.reduceAdd, Int.reduceNeg, Int.reduceNegSucc, Int.reduceLT, Int.reduceLE, Int.reduceMul, Int.reduceTMod, Int.reduceSub, Int.reduceBNe, Bool.not_true, Bool.not_false, decide_true, decide_false, w63_in, w31_in, ne_eq, not_false_eq_true, Int.reduceEq, reduceCtorEq, ww3131, ww6363, ww3163, ww6331, ww3231, ww3263, ww6463, ww6364, sh31, sh63, sl63, m31, m63, n63, s5a, s5b, s6a, s6b, b31, b32, b63, c63, c64, d64, iShl_c, iShr_c, sr3, sr6, sr7]), To.refl _ _, hw⟩
  intro f
  induction f with
  | zero => intro m i h B hB hl hy hf hm hi hn hw; exact stop 0 m i h hm (by omega) hw
  | succ f ih =>
    intro m i h B hB hl hy hf hm hi hn hw
    by_cases hin : i < n
    · obtain ⟨m, rfl⟩ : ∃ k, m = k + 1 := ⟨m - 1, by omega⟩
      have e1 : (i : Int) < (n : Int) := by omega
      obtain ⟨y, hy0⟩ := hy i hin
      have ix : ∀ k : AV → Res, ixA 1 (.sl b 0 n 1 none) (.int 63 (i : Int)) k = k (.ptr b i) := fun k => ixA_l b n i hin none k
      have l1 : ∀ k : AV → Res, ld1 h (.ptr b i) k = k (.int 8 y) := fun k => (ld1_rd hB.rd hy0 k).trans (cK_i _ _ _)
      obtain ⟨h1, s1, s2, s3, s4⟩ := st1_own (o := i) (v := .int 8 (wrapC 8 (Int.ofNat (Nat.xor (toU 8 y) (toU 8 (.ofNat 5)))))) hB (by omega) rfl
      have hat : ∀ j, j < n → ∃ y' : Int, (setC B i (.int 8 (wrapC 8 (Int.ofNat (Nat.xor (toU 8 y) (toU 8 (.ofNat 5))))))).at j = .int 8 y' := by
        intro j hj
        have q := setC_at (v := .int 8 (wrapC 8 (Int.ofNat (Nat.xor (toU 8 y) (toU 8 (.ofNat 5)))))) (show i < B.lim by omega) j
        by_cases e : j = i
        · rw [if_pos e] at q; exact ⟨_, q⟩
        · rw [if_neg e] at q
          obtain ⟨y', hy'⟩ := hy j hj
          exact ⟨y', q.trans hy'⟩
      have e : L5n0 [v1, v2, v3, v4, v5, v6, .sl b 0 n 1 none, .int 63 (i : Int)] h = .norm [v1, v2, v3, v4, v5, v6, .sl b 0 n 1 none, .int 63 ((i + 1 : Nat) : Int)] h1 := by
        have x5 : ∀ k : AV → Res, iXor (.int 8 y) (.int 8 (.ofNat 5)) k = k (.int 8 (wrapC 8 (Int.ofNat (Nat.xor (toU 8 y) (toU 8 (.ofNat 5)))))) := fun k => iXor_i ..
        generalize wrapC 8 (Int.ofNat (Nat.xor (toU 8 y) (toU 8 (.ofNat 5)))) = z at *
        simp only [↓L5n0, ↓len, e1, ↓ix, ↓l1, ↓x5, ↓s1, s1n i (by omega), ↓uc_c, ↓uz_n, ↓cI_i, ↓cB_b, cB_b, ↓cT_t, cT_t, nth_z, nth_1, cK_b, ↓cK_b, ↓cK_i, cK_i, ifB_t, ifB_f, ↓ap_e, sel_t, sel_f, gsel_tt, gsel_tf, gsel_ft, gsel_ff, gsel_u, gd_tt, gd_tf, gd_ft, gd_ff, gd_u, ↓jn_n, jn_n, jn_r, ↓jn_r, blk_n, blk_r, ↓cl_r, cl_r, ↓iAdd_i, ↓iSub_i, ↓iMul_i, ↓iAnd_i, ↓iOr_i, ↓iXor_i, ↓iNeg_i, iQuo_i, iRem_i, ↓iConv_i, iConv_i, ↓bNot_b, bNot_b, ↓eqN_i, ↓ltN_i, ↓eqB_b, bnot_e, Int.ofNat_eq_natCast, Int.cast_ofNat_Int, Int.reduceBEq, Int.reduceAdd, Int.reduceNeg, Int.reduceNegSucc, Int.reduceLT, Int.reduceLE, Int.reduceMul, Int.reduceTMod, Int.reduceSub, Int.reduceBNe, Bool.not_true, Bool.not_false, decide_true, decide_false, w63_in, w31_in, ne_eq, not_false_eq_true, Int.reduceEq, reduceCtorEq, ww3131, ww6363, ww3163, ww6331, ww3231, ww3263, ww6463, ww6364, sh31, sh63, sl63, m31, m63, n63, s5a, s5b, s6a, s6b, b31, b32, b63, c63, c64, d64, iShl_c, iShr_c, sr3, sr6, sr7]
      obtain ⟨h2, e2, t2, w2⟩ := ih m (i + 1) h1 _ s2 hl hat (by omega) (by omega) (by omega) hn (s3.wf hw)
      exact ⟨h2, (lpn m e).trans e2, s3.trans t2, w2⟩
    · exact stop (f + 1) m i h hm hin hw

theorem loop5r {h : Hp} {N : Nat} {x : AV} {t : List Nat} (hr : Row h N x t) (hw : Wf h) (ht : t.length ≤ 100000) (v1 v2 v3 v4 v5 v6 : AV) :
    ∃ h', lp L5n0 most [v1, v2, v3, v4, v5, v6, x, .int 63 0] h = .exit 3 [v1, v2, v3, v4, v5, v6] h' ∧ To (fun b => N ≤ b) h h' ∧ Wf h' := by
  rcases hr with ⟨rfl, hr⟩ | ⟨b, B, rfl, o, hl, hN, hat⟩
  · have len := fun k => lenL_sl hr k
    have z : (([] : List AV).length : Int) = 0 := rfl
    refine ⟨h, ?_, To.refl _ _, hw⟩
    refine lpx 999999 ?_
    simp only [↓L5n0, ↓len, Bs, List.map_nil, z, Int.lt_irrefl, ↓uc_c, ↓uz_n, ↓cI_i, ↓cB_b, cB_b, ↓cT_t, cT_t, nth_z, nth_1, cK_b, ↓cK_b, ↓cK_i, cK_i, ifB_t, ifB_f, ↓ap_e, sel_t, sel_f, gsel_tt, gsel_tf, gsel_ft, gsel_ff, gsel_u, gd_tt, gd_tf, gd_ft, gd_ff, gd_u, ↓jn_n, jn_n, jn_r, ↓jn_r, blk_n, blk_r, ↓cl_r, cl_r, ↓iAdd_i, ↓iSub_i, ↓iMul_i, ↓iAnd_i, ↓iOr_i, ↓iXor_i, ↓iNeg_i, iQuo_i, iRem_i, ↓iConv_i, iConv_i, ↓bNot_b, bNot_b, ↓eqN_i, ↓ltN_i, ↓eqB_b, bnot_e, Int.ofNat_eq_natCast, Int.cast_ofNat_Int, Int.reduceBEq, Int.reduceAdd, Int.reduceNeg, Int.reduceNegSucc, Int.reduceLT, Int.reduceLE, Int.reduceMul, Int.reduceTMod, Int.reduceSub, Int.reduceBNe, Bool.not_true, Bool.not_false, decide_true, decide_false, w63_in, w31_in, ne_eq, not_false_eq_true, Int.reduceEq, reduceCtorEq, ww3131, ww6363, ww3163, ww6331, ww3231, ww3263, ww6463, ww6364, sh31, sh63, sl63, m31, m63, n63, s5a, s5b, s6a, s6b, b31, b32, b63, c63, c64, d64, iShl_c, iShr_c, sr3, sr6, sr7]
  · obtain ⟨h', e, q, w⟩ := loop5 (b := b) v1 v2 v3 v4 v5 v6 t.length most 0 h B o hl (fun j hj => ⟨_, hat j hj⟩) (by omega) (show _ < 1000000 by omega) (by omega) ht hw
    exact ⟨h', e, q.mono fun x _ e => by have : x = b := e; omega, w⟩

/-- Two cursors at one place of the same bytes, and slices that stay as they are. -/
structure Duo (h : Hp) (N l1 b1 l2 b2 : Nat) (t : List Nat) (at_ : Nat) (bad : Bool) (u v : AV) (ops : List Int) : Prop where
  c1 : Cur h l1 b1 t at_ bad
  c2 : Cur h l2 b2 t at_ bad
  wf : Wf h
  o1 : N ≤ l1
  o2 : b1 < l2
  nb : b2 < h.nb
  u : Sl h (fun x => x < N) u (Bs t)
  v : Sl h (fun x => x < N) v (ops.map fun n => AV.int 63 n)
theorem Cur.nb {h : Hp} {lo b at_ : Nat} {t : List Nat} {bad : Bool} (hc : Cur h lo b t at_ bad) : b < h.nb := by
  obtain ⟨B, v, o, -⟩ := hc.own
  exact o.lt
/-- Both cursors have moved. -/
theorem Duo.go {h h1 h2 : Hp} {N l1 b1 l2 b2 : Nat} {t : List Nat} {at_ at2 : Nat} {bad bad2 : Bool} {u v : AV} {ops : List Int} (D : Duo h N l1 b1 l2 b2 t at_ bad u v ops)
    (c1 : Cur h1 l1 b1 t at2 bad2) (t1 : To (At b1) h h1) (c2 : Cur h2 l2 b2 t at2 bad2) (t2 : To (At b2) h1 h2) (w2 : Wf h2) : Duo h2 N l1 b1 l2 b2 t at2 bad2 u v ops := by
  have q1 := D.c1.lo
  have q2 := D.c2.lo
  have p1 := D.o1
  have p2 := D.o2
  exact ⟨c1.to t2 (fun x a b e => by have : x = b2 := e; omega), c2, w2, D.o1, D.o2, c2.nb,
    (D.u.to t1 (fun x hx e => by have : x = b1 := e; omega)).to t2 (fun x hx e => by have : x = b2 := e; omega),
    (D.v.to t1 (fun x hx e => by have : x = b1 := e; omega)).to t2 (fun x hx e => by have : x = b2 := e; omega)⟩
end Go.Proofs.Ytnpfppddongbhaa
end

section
namespace Go.Proofs.Ytnpfppddongbhaa
open Go Go.AM
set_option autoImplicit false
set_option linter.unusedSimpArgs false
set_option linter.unusedVariables false
theorem Gr.to {h h' : Hp} {N : Nat} {v : AV} {l : List AV} (hg : Gr h N v l) (ht : To No h h') : Gr h' N v l := by
  obtain ⟨g1, g2⟩ := hg
  refine ⟨g1.to ht (fun _ _ f => f), ?_⟩
  rcases g2 with g2 | g2 | ⟨b, B, q1, q2, q3, q4⟩
  · exact .inl g2
  · exact .inr (.inl g2)
  · refine .inr (.inr ⟨b, B, q1, ?_, q3, q4⟩)
    rcases g1.2 with ⟨e, -⟩ | ⟨e, -⟩ | ⟨b', o', c', B', e, -, h4, -⟩
    · rw [q1] at e; cases e
    · rw [q1] at e; cases e
    · rw [q1] at e; cases e
      rw [ht.get _ h4.lt (fun f => f)]; exact q2
/-- Bytes are put behind a slice that grows. -/
theorem pushL {h : Hp} {N : Nat} {u : AV} {l : List AV} (hN : N ≤ h.nb) (hw : Wf h) (hu : Gr h N u l) (m : List AV) (n : Nat) (hn : n = m.length) (hm : ∀ x ∈ m, one x = true) (hb : l.length + m.length ≤ 100000) :
    ∃ u' h', (∀ k : AV → Hp → Res, (mkS h 1 n (avL m) fun w h1 => apd h1 1 1 u w k) = k u' h') ∧ Gr h' N u' (l ++ m) ∧ To (fun b => N ≤ b) h h' ∧ Wf h' ∧ N ≤ h'.nb := by
  subst hn
  obtain ⟨v, h1, e1, s1, o1, w1, -⟩ := mkS_lit hw m hm
  obtain ⟨u', h', e2, g2, t2⟩ := apd_gr (by_ := 1) (Nat.le_trans hN o1.nb) w1 (Gr.to hu o1) s1 (by omega) (by omega)
  exact ⟨u', h', fun k => by rw [e1, e2], g2, (o1.mono fun _ _ f => f.elim).trans t2, t2.wf w1, Nat.le_trans hN (Nat.le_trans o1.nb t2.nb)⟩

theorem bld2 (a b : Nat) (m n : Int) (k : AV → Res) : bld [(false, 1, .int a m), (false, 1, .int b n)] k = k (avL [.int a m, .int b n]) := of_eq_true (eq_self _)
theorem bld3 (a b c : Nat) (m n o : Int) (k : AV → Res) : bld [(false, 1, .int a m), (false, 1, .int b n), (false, 1, .int c o)] k = k (avL [.int a m, .int b n, .int c o]) := of_eq_true (eq_self _)
theorem bld4 (a b c d : Nat) (m n o p : Int) (k : AV → Res) : bld [(false, 1, .int a m), (false, 1, .int b n), (false, 1, .int c o), (false, 1, .int d p)] k = k (avL [.int a m, .int b n, .int c o, .int d p]) := of_eq_true (eq_self _)

theorem shr6n (c d : Nat) (k : AV → Res) : iShr (.int 16 (c : Int)) (.int d 6) k = k (.int 16 ((c / 64 : Nat) : Int)) := iShr_i k 16 (c : Int) d 6 (by decide)
theorem shr12n (c d : Nat) (k : AV → Res) : iShr (.int 16 (c : Int)) (.int d 12) k = k (.int 16 ((c / 4096 : Nat) : Int)) := iShr_i k 16 (c : Int) d 12 (by decide)
theorem kk : toU 8 192 = 192 ∧ toU 8 128 = 128 ∧ toU 8 224 = 224 ∧ toU 8 240 = 240 ∧ toU 16 63 = 63 ∧ toU 32 63 = 63 := by decide +kernel
theorem wad192 (b : Nat) : wrapC 8 (192 + (b : Int)) = (((192 + b) % 256 : Nat) : Int) := by rw [w8]; omega
theorem wad128 (b : Nat) : wrapC 8 (128 + (b : Int)) = (((128 + b) % 256 : Nat) : Int) := by rw [w8]; omega
theorem wad224 (b : Nat) : wrapC 8 (224 + (b : Int)) = (((224 + b) % 256 : Nat) : Int) := by rw [w8]; omega
theorem wad240 (b : Nat) : wrapC 8 (240 + (b : Int)) = (((240 + b) % 256 : Nat) : Int) := by rw [w8]; omega
theorem l192 : ∀ x < 32, Nat.lor 192 x % 256 = 192 + x := by decide +kernel
theorem l224 : ∀ x < 16, Nat.lor 224 x % 256 = 224 + x := by decide +kernel
theorem l128 : ∀ x < 64, Nat.lor 128 x % 256 = 128 + x := by decide +kernel

/-- A char's bytes, the shortest form. -/
def enc1 (c : Nat) : List Nat :=
  if 0 < c ∧ c < 128 then [c] else if c < 2048 then [192 + c / 64, 128 + c % 64] else [224 + c / 4096, 128 + c / 64 % 64, 128 + c % 64]
def enc (t : List Nat) : List Nat := t.flatMap enc1
theorem enc1_len (c : Nat) : (enc1 c).length ≤ 3 := by unfold enc1; split <;> (try split) <;> simp
theorem enc1_byt (c : Nat) (hc : c < 65536) : ∀ x ∈ enc1 c, x < 256 := by
  intro x hx
  unfold enc1 at hx
  split at hx
  · simp at hx; omega
  · split at hx
    · simp at hx; omega
    · simp at hx; omega
theorem Bs_app (s t : List Nat) : Bs (s ++ t) = Bs s ++ Bs t := by simp [Bs]

theorem loop41 {h0 : Hp} {N : Nat} {P : Nat → Prop} {v : AV} {t : List Nat} (hv : Sl h0 P v (U t)) (hP : ∀ b, P b → ¬ N ≤ b) (hc : ∀ x ∈ t, x < 65536) (hl : t.length ≤ 1000) :
    ∀ (f m i : Nat) (h : Hp) (u : AV) (acc : List Nat), t.length - i ≤ f → f < m → i ≤ t.length → acc.length ≤ 3 * i → Gr h N u (Bs acc) → N ≤ h.nb → Wf h → To (fun b => N ≤ b) h0 h →
    ∃ u' h', lp L41n0 m [u, v, .int 63 (t.length : Int), .int 63 (i : Int)] h = .exit 0 [u'] h' ∧ Gr h' N u' (Bs (acc ++ enc (t.drop i))) ∧ To (fun b => N ≤ b) h0 h' ∧ Wf h' := by
  have stop : ∀ (f m i : Nat) (h : Hp) (u : AV) (acc : List Nat), f < m → ¬ i < t.length → Gr h N u (Bs acc) → Wf h → To (fun b => N ≤ b) h0 h →
      ∃ u' h', lp L41n0 m [u, v, .int 63 (t.length : Int), .int 63 (i : Int)] h = .exit 0 [u'] h' ∧ Gr h' N u' (Bs (acc ++ enc (t.drop i))) ∧ To (fun b => N ≤ b) h0 h' ∧ Wf h' := by
    intro f m i h u acc hm hi hu hw ht
    obtain ⟨m, rfl⟩ : ∃ k, m = k + 1 := ⟨m - 1, by omega⟩
    have e1 : ¬ (i : Int) < (t.length : Int) := by omega
    rw [List.drop_eq_nil_of_le (by omega)]
    exact ⟨u, h, lpx m (by simp only [↓L41n0, e1, ↓uc_c, ↓uz_n, ↓cI_i, ↓cB_b, cB_b, ↓cT_t, cT_t, nth_z, nth_1, cK_b, ↓cK_b, ↓cK_i, cK_i, ifB_t, ifB_f, ↓ap_e, sel_t, sel_f, gsel_tt, gsel_tf, gsel_ft, gsel_ff, gsel_u, gd_tt, gd_tf, gd_ft, gd_ff, gd_u, ↓jn_n, jn_n, jn_r, ↓jn_r, blk_n, blk_r, ↓cl_r, cl_r, ↓iAdd_i, ↓iSub_i, ↓iMul_i, ↓iAnd_i, ↓iOr_i, ↓iXor_i, ↓iNeg_i, iQuo_i, iRem_i, ↓iConv_i, iConv_i, ↓bNot_b, bNot_b, ↓eqN_i, ↓ltN_i, ↓eqB_b, bnot_e, Int.ofNat_eq_natCast, Int.cast_ofNat_Int, Int.reduceBEq, Int.reduceAdd, Int.reduceNeg, Int.reduceNegSucc, Int.reduceLT, Int.reduceLE, Int.reduceMul, Int.reduceTMod, Int.reduceSub, Int.reduceBNe, Bool.not_true, Bool.not_false, decide_true, decide_false, w63_in, w31_in, ne_eq, not_false_eq_true, Int.reduceEq, reduceCtorEq, ww3131, ww6363, ww3163, ww6331, ww3231, ww3263, ww6463, ww6364, sh31, sh63, sl63, m31, m63, n63, s5a, s5b, s6a, s6b, b31, b32, b63, c63, c64, d64, iShl_c, iShr_c, sr3, sr6, sr7]), by simpa [enc] using hu, ht, hw⟩
  intro f
  induction f with
  | zero => intro m i h u acc hf hm hi ha hu hN hw ht; exact stop 0 m i h u acc hm (by omega) hu hw ht
  | succ f ih =>
    intro m i h u acc hf hm hi ha hu hN hw ht
    by_cases hin : i < t.length
    · obtain ⟨m, rfl⟩ : ∃ k, m = k + 1 := ⟨m - 1, by omega⟩
      have e1 : (i : Int) < (t.length : Int) := by omega
      have e6 : wrapC 63 ((i : Int) + 1) = ((i + 1 : Nat) : Int) := s1n i (by omega)
      have g : (U t)[i]'(by rw [U_len]; exact hin) = .int 16 (t[i] : Int) := by simp [U]
      have iv := fun k => ix_sl (hv.to ht hP) (c := 63) i (by rw [U_len]; exact hin) k
      rw [g] at iv
      have hci := hc _ (List.getElem_mem hin)
      have hd : t.drop i = t[i] :: t.drop (i + 1) := List.drop_eq_getElem_cons hin
      generalize t[i] = c at *
      have el := enc1_len c
      obtain ⟨u', h', p1, p2, p3, p4, p5⟩ := pushL hN hw hu (Bs (enc1 c)) _ rfl (Bs_one _) (by rw [Bs_len, Bs_len]; omega)
      have e : L41n0 [u, v, .int 63 (t.length : Int), .int 63 (i : Int)] h = .norm [u', v, .int 63 (t.length : Int), .int 63 ((i + 1 : Nat) : Int)] h' := by
        by_cases c1 : 0 < c ∧ c < 128
        · have q : enc1 c = [c] := by unfold enc1; rw [if_pos c1]
          rw [q] at p1
          have p1 : ∀ k : AV → Hp → Res, (mkS h 1 1 (avL [.int 8 (c : Int)]) fun w h1 => apd h1 1 1 u w k) = k u' h' := p1
          have a1 : (0 : Int) < (c : Int) := by omega
          have a2 : (c : Int) < 128 := by omega
          have a3 : c % 256 = c := by omega
          simp only [↓L41n0, e1, ↓iv, a1, a2, w8n, a3, bld1, ↓p1, e6, ↓uc_c, ↓uz_n, ↓cI_i, ↓cB_b, cB_b, ↓cT_t, cT_t, nth_z, nth_1, cK_b, ↓cK_b, ↓cK_i, cK_i, ifB_t, ifB_f, ↓ap_e, sel_t, sel_f, gsel_tt, gsel_tf, gsel_ft, gsel_ff, gsel_u, gd_tt, gd_tf, gd_ft, gd_ff, gd_u, ↓jn_n, jn_n, jn_r, ↓jn_r, blk_n, blk_r, ↓cl_r, cl_r, ↓iAdd_i, ↓iSub_i, ↓iMul_i, ↓iAnd_i, ↓iOr_i, ↓iXor_i, ↓iNeg_i, iQuo_i, iRem_i, ↓iConv_i, iConv_i, ↓bNot_b, bNot_b, ↓eqN_i, ↓ltN_i, ↓eqB_b, bnot_e, Int.ofNat_eq_natCast, Int.cast_ofNat_Int, Int.reduceBEq, Int.reduceAdd, Int.reduceNeg, Int.reduceNegSucc, Int.reduceLT, Int.reduceLE, Int.reduceMul, Int.reduceTMod, Int.reduceSub, Int.reduceBNe, Bool.not_true, Bool.not_false, decide_true, decide_false, w63_in, w31_in, ne_eq, not_false_eq_true, Int.reduceEq, reduceCtorEq, ww3131, ww6363, ww3163, ww6331, ww3231, ww3263, ww6463, ww6364, sh31, sh63, sl63, m31, m63, n63, s5a, s5b, s6a, s6b, b31, b32, b63, c63, c64, d64, iShl_c, iShr_c, sr3, sr6, sr7]
        · by_cases c2 : c < 2048
          · have q : enc1 c = [192 + c / 64, 128 + c % 64] := by unfold enc1; rw [if_neg c1, if_pos c2]
            rw [q] at p1
            have p1 : ∀ k : AV → Hp → Res, (mkS h 1 2 (avL [.int 8 ((192 + c / 64 : Nat) : Int), .int 8 ((128 + c % 64 : Nat) : Int)]) fun w h1 => apd h1 1 1 u w k) = k u' h' := p1
            have a2 : (c : Int) < 2048 := by omega
            have b1 : Nat.lor 192 (c / 64 % 256 % 256) % 256 = 192 + c / 64 := by rw [show c / 64 % 256 % 256 = c / 64 by omega]; exact l192 _ (by omega)
            have b2 : Nat.lor 128 (Nat.land (c % 65536) 63 % 65536 % 256 % 256) % 256 = 128 + c % 64 := by rw [land63, show c % 65536 % 64 % 65536 % 256 % 256 = c % 64 by omega]; exact l128 _ (by omega)
            by_cases c0 : 0 < c
            · have a1 : (0 : Int) < (c : Int) := by omega
              have a3 : ¬ (c : Int) < 128 := by omega
              simp only [↓L41n0, e1, ↓iv, a1, a2, a3, shr6n, toU8n, toU16n, kk, w8n, w16n, b1, b2, bld2, ↓p1, e6, ↓uc_c, ↓uz_n, ↓cI_i, ↓cB_b, cB_b, ↓cT_t, cT_t, nth_z, nth_1, cK_b, ↓cK_b, ↓cK_i, cK_i, ifB_t, ifB_f, ↓ap_e, sel_t, sel_f, gsel_tt, gsel_tf, gsel_ft, gsel_ff, gsel_u, gd_tt, gd_tf, gd_ft, gd_ff, gd_u, ↓jn_n, jn_n, jn_r, ↓jn_r, blk_n, blk_r, ↓cl_r, cl_r, ↓iAdd_i, ↓iSub_i, ↓iMul_i, ↓iAnd_i, ↓iOr_i, ↓iXor_i, ↓iNeg_i, iQuo_i, iRem_i, ↓iConv_i, iConv_i, ↓bNot_b, bNot_b, ↓eqN_i, ↓ltN_i, ↓eqB_b, bnot_e, Int.ofNat_eq_natCast, Int.cast_ofNat_Int, Int.reduceBEq, Int.reduceAdd, Int.reduceNeg, Int.reduceNegSucc, Int.reduceLT, Int.reduceLE, Int.reduceMul, Int.reduceTMod, Int.reduceSub, Int.reduceBNe, Bool.not_true, Bool.not_false, decide_true, decide_false, w63_in, w31_in, ne_eq, not_false_eq_true, Int.reduceEq, reduceCtorEq, ww3131, ww6363, ww3163, ww6331, ww3231, ww3263, ww6463, ww6364, sh31, sh63, sl63, m31, m63, n63, s5a, s5b, s6a, s6b, b31, b32, b63, c63, c64, d64, iShl_c, iShr_c, sr3, sr6, sr7]
            · have a1 : ¬ (0 : Int) < (c : Int) := by omega
              simp only [↓L41n0, e1, ↓iv, a1, a2, shr6n, toU8n, toU16n, kk, w8n, w16n, b1, b2, bld2, ↓p1, e6, ↓uc_c, ↓uz_n, ↓cI_i, ↓cB_b, cB_b, ↓cT_t, cT_t, nth_z, nth_1, cK_b, ↓cK_b, ↓cK_i, cK_i, ifB_t, ifB_f, ↓ap_e, sel_t, sel_f, gsel_tt, gsel_tf, gsel_ft, gsel_ff, gsel_u, gd_tt, gd_tf, gd_ft, gd_ff, gd_u, ↓jn_n, jn_n, jn_r, ↓jn_r, blk_n, blk_r, ↓cl_r, cl_r, ↓iAdd_i, ↓iSub_i, ↓iMul_i, ↓iAnd_i, ↓iOr_i, ↓iXor_i, ↓iNeg_i, iQuo_i, iRem_i, ↓iConv_i, iConv_i, ↓bNot_b, bNot_b, ↓eqN_i, ↓ltN_i, ↓eqB_b, bnot_e, Int.ofNat_eq_natCast, Int.cast_ofNat_Int, Int.reduceBEq, Int.reduceAdd, Int.reduceNeg, Int.reduceNegSucc, Int.reduceLT, Int.reduceLE, Int.reduceMul, Int.reduceTMod, Int.reduceSub, Int.reduceBNe, Bool.not_true, Bool.not_false, decide_true, decide_false, w63_in, w31_in, ne_eq, not_false_eq_true, Int.reduceEq, reduceCtorEq, ww3131, ww6363, ww3163, ww6331, ww3231, ww3263, ww6463, ww6364, sh31, sh63, sl63, m31, m63, n63, s5a, s5b, s6a, s6b, b31, b32, b63, c63, c64, d64, iShl_c, iShr_c, sr3, sr6, sr7]
          · have q : enc1 c = [224 + c / 4096, 128 + c / 64 % 64, 128 + c % 64] := by unfold enc1; rw [if_neg c1, if_neg c2]
            rw [q] at p1
            have p1 : ∀ k : AV → Hp → Res, (mkS h 1 3 (avL [.int 8 ((224 + c / 4096 : Nat) : Int), .int 8 ((128 + c / 64 % 64 : Nat) : Int), .int 8 ((128 + c % 64 : Nat) : Int)]) fun w h1 => apd h1 1 1 u w k) = k u' h' := p1
            have a1 : (0 : Int) < (c : Int) := by omega
            have a2 : ¬ (c : Int) < 2048 := by omega
            have a3 : ¬ (c : Int) < 128 := by omega
            have b1 : Nat.lor 224 (c / 4096 % 256 % 256) % 256 = 224 + c / 4096 := by rw [show c / 4096 % 256 % 256 = c / 4096 by omega]; exact l224 _ (by omega)
            have b2 : Nat.lor 128 (Nat.land (c / 64 % 65536) 63 % 65536 % 256 % 256) % 256 = 128 + c / 64 % 64 := by rw [land63, show c / 64 % 65536 % 64 % 65536 % 256 % 256 = c / 64 % 64 by omega]; exact l128 _ (by omega)
            have b3 : Nat.lor 128 (Nat.land (c % 65536) 63 % 65536 % 256 % 256) % 256 = 128 + c % 64 := by rw [land63, show c % 65536 % 64 % 65536 % 256 % 256 = c % 64 by omega]; exact l128 _ (by omega)
            simp only [↓L41n0, e1, ↓iv, a1, a2, a3, shr6n, shr12n, toU8n, toU16n, kk, w8n, w16n, b1, b2, b3, bld3, ↓p1, e6, ↓uc_c, ↓uz_n, ↓cI_i, ↓cB_b, cB_b, ↓cT_t, cT_t, nth_z, nth_1, cK_b, ↓cK_b, ↓cK_i, cK_i, ifB_t, ifB_f, ↓ap_e, sel_t, sel_f, gsel_tt, gsel_tf, gsel_ft, gsel_ff, gsel_u, gd_tt, gd_tf, gd_ft, gd_ff, gd_u, ↓jn_n, jn_n, jn_r, ↓jn_r, blk_n, blk_r, ↓cl_r, cl_r, ↓iAdd_i, ↓iSub_i, ↓iMul_i, ↓iAnd_i, ↓iOr_i, ↓iXor_i, ↓iNeg_i, iQuo_i, iRem_i, ↓iConv_i, iConv_i, ↓bNot_b, bNot_b, ↓eqN_i, ↓ltN_i, ↓eqB_b, bnot_e, Int.ofNat_eq_natCast, Int.cast_ofNat_Int, Int.reduceBEq, Int.reduceAdd, Int.reduceNeg, Int.reduceNegSucc, Int.reduceLT, Int.reduceLE, Int.reduceMul, Int.reduceTMod, Int.reduceSub, Int.reduceBNe, Bool.not_true, Bool.not_false, decide_true, decide_false, w63_in, w31_in, ne_eq, not_false_eq_true, Int.reduceEq, reduceCtorEq, ww3131, ww6363, ww3163, ww6331, ww3231, ww3263, ww6463, ww6364, sh31, sh63, sl63, m31, m63, n63, s5a, s5b, s6a, s6b, b31, b32, b63, c63, c64, d64, iShl_c, iShr_c, sr3, sr6, sr7]
      rw [lpn m e, hd]
      rw [← Bs_app] at p2
      obtain ⟨u2, h2, e2, g2, t2, w2⟩ := ih m (i + 1) h' u' (acc ++ enc1 c) (by omega) (by omega) (by omega) (by simp; omega) p2 p5 p4 (ht.trans p3)
      refine ⟨u2, h2, e2, ?_, t2, w2⟩
      have : acc ++ enc (c :: t.drop (i + 1)) = acc ++ enc1 c ++ enc (t.drop (i + 1)) := by simp [enc]
      rw [this]; exact g2
    · exact stop (f + 1) m i h u acc hm hin hu hw ht
end Go.Proofs.Ytnpfppddongbhaa
end

section
namespace Go.Proofs.Ytnpfppddongbhaa
open Go Go.AM
set_option autoImplicit false
set_option linter.unusedSimpArgs false
set_option linter.unusedVariables false
theorem loop42 {h0 : Hp} {N : Nat} {P : Nat → Prop} {v : AV} {t : List Nat} (hv : Sl h0 P v (U t)) (hP : ∀ b, P b → ¬ N ≤ b) (hc : ∀ x ∈ t, x < 65536) (hl : t.length ≤ 1000) :
    ∀ (f m i : Nat) (h : Hp) (u : AV) (acc : List Nat), t.length - i ≤ f → f < m → i ≤ t.length → acc.length ≤ 3 * i → Gr h N u (Bs acc) → N ≤ h.nb → Wf h → To (fun b => N ≤ b) h0 h →
    ∃ u' h', lp L42n0 m [v, u, .int 63 (i : Int)] h = .exit 0 [u'] h' ∧ Gr h' N u' (Bs (acc ++ enc (t.drop i))) ∧ To (fun b => N ≤ b) h0 h' ∧ Wf h' := by
  have stop : ∀ (f m i : Nat) (h : Hp) (u : AV) (acc : List Nat), f < m → ¬ i < t.length → Gr h N u (Bs acc) → Wf h → To (fun b => N ≤ b) h0 h →
      ∃ u' h', lp L42n0 m [v, u, .int 63 (i : Int)] h = .exit 0 [u'] h' ∧ Gr h' N u' (Bs (acc ++ enc (t.drop i))) ∧ To (fun b => N ≤ b) h0 h' ∧ Wf h' := by
    intro f m i h u acc hm hi hu hw ht
    obtain ⟨m, rfl⟩ : ∃ k, m = k + 1 := ⟨m - 1, by omega⟩
    have e1 : ¬ (i : Int) < (t.length : Int) := by omega
    have len := fun k => lenL_sl (hv.to ht hP) k
    rw [List.drop_eq_nil_of_le (by omega)]
    exact ⟨u, h, lpx m (by simp only [↓L42n0, ↓len, U_len, e1, ↓uc_c, ↓uz_n, ↓cI_i, ↓cB_b, cB_b, ↓cT_t, cT_t, nth_z, nth_1, cK_b, ↓cK_b, ↓cK_i, cK_i, ifB_t, ifB_f, ↓ap_e, sel_t, sel_f, gsel_tt, gsel_tf, gsel_ft, gsel_ff, gsel_u, gd_tt, gd_tf, gd_ft, gd_ff, gd_u, ↓jn_n, jn_n, jn_r, ↓jn_r, blk_n, blk_r, ↓cl_r, cl_r, ↓iAdd_i, ↓iSub_i, ↓iMul_i, ↓iAnd_i, ↓iOr_i, ↓iXor_i, ↓iNeg_i, iQuo_i, iRem_i, ↓iConv_i, iConv_i, ↓bNot_b, bNot_b, ↓eqN_i, ↓ltN_i, ↓eqB_b, bnot_e, Int.ofNat_eq_natCast, Int.cast_ofNat_Int, Int.reduceBEq, Int.reduceAdd, Int.reduceNeg, Int.reduceNegSucc, Int.reduceLT, Int.reduceLE, Int.reduceMul, Int.reduceTMod, Int.reduceSub, Int.reduceBNe, Bool.not_true, Bool.not_false, decide_true, decide_false, w63_in, w31_in, ne_eq, not_false_eq_true, Int.reduceEq, reduceCtorEq, ww3131, ww6363, ww3163, ww6331, ww3231, ww3263, ww6463, ww6364, sh31, sh63, sl63, m31, m63, n63, s5a, s5b, s6a, s6b, b31, b32, b63, c63, c64, d64, iShl_c, iShr_c, sr3, sr6, sr7]), by simpa [enc] using hu, ht, hw⟩
  intro f
  induction f with
  | zero => intro m i h u acc hf hm hi ha hu hN hw ht; exact stop 0 m i h u acc hm (by omega) hu hw ht
  | succ f ih =>
    intro m i h u acc hf hm hi ha hu hN hw ht
    by_cases hin : i < t.length
    · obtain ⟨m, rfl⟩ : ∃ k, m = k + 1 := ⟨m - 1, by omega⟩
      have e1 : (i : Int) < (t.length : Int) := by omega
      have e6 : wrapC 63 ((i : Int) + 1) = ((i + 1 : Nat) : Int) := s1n i (by omega)
      have g : (U t)[i]'(by rw [U_len]; exact hin) = .int 16 (t[i] : Int) := by simp [U]
      have len := fun k => lenL_sl (hv.to ht hP) k
      have iv := fun k => ix_sl (hv.to ht hP) (c := 63) i (by rw [U_len]; exact hin) k
      rw [g] at iv
      have hci := hc _ (List.getElem_mem hin)
      have hd : t.drop i = t[i] :: t.drop (i + 1) := List.drop_eq_getElem_cons hin
      generalize t[i] = c at *
      have el := enc1_len c
      obtain ⟨u', h', p1, p2, p3, p4, p5⟩ := pushL hN hw hu (Bs (enc1 c)) _ rfl (Bs_one _) (by rw [Bs_len, Bs_len]; omega)
      have e : L42n0 [v, u, .int 63 (i : Int)] h = .norm [v, u', .int 63 ((i + 1 : Nat) : Int)] h' := by
        by_cases c1 : 0 < c ∧ c < 128
        · have q : enc1 c = [c] := by unfold enc1; rw [if_pos c1]
          rw [q] at p1
          have p1 : ∀ k : AV → Hp → Res, (mkS h 1 1 (avL [.int 8 (c : Int)]) fun w h1 => apd h1 1 1 u w k) = k u' h' := p1
          have a1 : ¬ (c : Int) < 1 := by omega
          have a2 : ¬ (127 : Int) < (c : Int) := by omega
          have a3 : c % 256 = c := by omega
          simp only [↓L42n0, ↓len, U_len, e1, ↓iv, a1, a2, w8n, a3, bld1, ↓p1, e6, ↓uc_c, ↓uz_n, ↓cI_i, ↓cB_b, cB_b, ↓cT_t, cT_t, nth_z, nth_1, cK_b, ↓cK_b, ↓cK_i, cK_i, ifB_t, ifB_f, ↓ap_e, sel_t, sel_f, gsel_tt, gsel_tf, gsel_ft, gsel_ff, gsel_u, gd_tt, gd_tf, gd_ft, gd_ff, gd_u, ↓jn_n, jn_n, jn_r, ↓jn_r, blk_n, blk_r, ↓cl_r, cl_r, ↓iAdd_i, ↓iSub_i, ↓iMul_i, ↓iAnd_i, ↓iOr_i, ↓iXor_i, ↓iNeg_i, iQuo_i, iRem_i, ↓iConv_i, iConv_i, ↓bNot_b, bNot_b, ↓eqN_i, ↓ltN_i, ↓eqB_b, bnot_e, Int.ofNat_eq_natCast, Int.cast_ofNat_Int, Int.reduceBEq, Int.reduceAdd, Int.reduceNeg, Int.reduceNegSucc, Int.reduceLT, Int.reduceLE, Int.reduceMul, Int.reduceTMod, Int.reduceSub, Int.reduceBNe, Bool.not_true, Bool.not_false, decide_true, decide_false, w63_in, w31_in, ne_eq, not_false_eq_true, Int.reduceEq, reduceCtorEq, ww3131, ww6363, ww3163, ww6331, ww3231, ww3263, ww6463, ww6364, sh31, sh63, sl63, m31, m63, n63, s5a, s5b, s6a, s6b, b31, b32, b63, c63, c64, d64, iShl_c, iShr_c, sr3, sr6, sr7]
        · by_cases c2 : c < 2048
          · have q : enc1 c = [192 + c / 64, 128 + c % 64] := by unfold enc1; rw [if_neg c1, if_pos c2]
            rw [q] at p1
            have p1 : ∀ k : AV → Hp → Res, (mkS h 1 2 (avL [.int 8 ((192 + c / 64 : Nat) : Int), .int 8 ((128 + c % 64 : Nat) : Int)]) fun w h1 => apd h1 1 1 u w k) = k u' h' := p1
            have a2 : ¬ (2047 : Int) < (c : Int) := by omega
            have b1 : (192 + c / 64 % 256) % 256 = 192 + c / 64 := by omega
            have b2 : (128 + Nat.land (c % 65536) 63 % 65536 % 256) % 256 = 128 + c % 64 := by rw [land63]; omega
            by_cases c0 : 0 < c
            · have a1 : ¬ (c : Int) < 1 := by omega
              have a3 : (127 : Int) < (c : Int) := by omega
              simp only [↓L42n0, ↓len, U_len, e1, ↓iv, a1, a2, a3, shr6n, toU8n, toU16n, kk, w8n, w16n, wad192, wad128, wad224, b1, b2, bld2, ↓p1, e6, ↓uc_c, ↓uz_n, ↓cI_i, ↓cB_b, cB_b, ↓cT_t, cT_t, nth_z, nth_1, cK_b, ↓cK_b, ↓cK_i, cK_i, ifB_t, ifB_f, ↓ap_e, sel_t, sel_f, gsel_tt, gsel_tf, gsel_ft, gsel_ff, gsel_u, gd_tt, gd_tf, gd_ft, gd_ff, gd_u, ↓jn_n, jn_n, jn_r, ↓jn_r, blk_n, blk_r, ↓cl_r, cl_r, ↓iAdd_i, ↓iSub_i, ↓iMul_i, ↓iAnd_i, ↓iOr_i, ↓iXor_i, ↓iNeg_i, iQuo_i, iRem_i, ↓iConv_i, iConv_i, ↓bNot_b, bNot_b, ↓eqN_i, ↓ltN_i, ↓eqB_b, bnot_e, Int.ofNat_eq_natCast, Int.cast_ofNat_Int, Int.reduceBEq, Int.reduceAdd, Int.reduceNeg, Int.reduceNegSucc, Int.reduceLT, Int.reduceLE, Int.reduceMul, Int.reduceTMod, Int.reduceSub, Int.reduceBNe, Bool.not_true, Bool.not_false, decide_true, decide_false, w63_in, w31_in, ne_eq, not_false_eq_true, Int.reduceEq, reduceCtorEq, ww3131, ww6363, ww3163, ww6331, ww3231, ww3263, ww6463, ww6364, sh31, sh63, sl63, m31, m63, n63, s5a, s5b, s6a, s6b, b31, b32, b63, c63, c64, d64, iShl_c, iShr_c, sr3, sr6, sr7]
            · have a1 : (c : Int) < 1 := by omega
              simp only [↓L42n0, ↓len, U_len, e1, ↓iv, a1, a2, shr6n, toU8n, toU16n, kk, w8n, w16n, wad192, wad128, wad224, b1, b2, bld2, ↓p1, e6, ↓uc_c, ↓uz_n, ↓cI_i, ↓cB_b, cB_b, ↓cT_t, cT_t, nth_z, nth_1, cK_b, ↓cK_b, ↓cK_i, cK_i, ifB_t, ifB_f, ↓ap_e, sel_t, sel_f, gsel_tt, gsel_tf, gsel_ft, gsel_ff, gsel_u, gd_tt, gd_tf, gd_ft, gd_ff, gd_u, ↓jn_n, jn_n, jn_r, ↓jn_r, blk_n, blk_r, ↓cl_r, cl_r, ↓iAdd_i, ↓iSub_i, ↓iMul_i, ↓iAnd_i, ↓iOr_i, ↓iXor_i, ↓iNeg_i, iQuo_i, iRem_i, ↓iConv_i, iConv_i, ↓bNot_b, bNot_b, ↓eqN_i, ↓ltN_i, ↓eqB_b, bnot_e, Int.ofNat_eq_natCast, Int.cast_ofNat_Int, Int.reduceBEq, Int.reduceAdd, Int.reduceNeg, Int.reduceNegSucc, Int.reduceLT, Int.reduceLE, Int.reduceMul, Int.reduceTMod, Int.reduceSub, Int.reduceBNe, Bool.not_true, Bool.not_false, decide_true, decide_false, w63_in, w31_in, ne_eq, not_false_eq_true, Int.reduceEq, reduceCtorEq, ww3131, ww6363, ww3163, ww6331, ww3231, ww3263, ww6463, ww6364, sh31, sh63, sl63, m31, m63, n63, s5a, s5b, s6a, s6b, b31, b32, b63, c63, c64, d64, iShl_c, iShr_c, sr3, sr6, sr7]
          · have q : enc1 c = [224 + c / 4096, 128 + c / 64 % 64, 128 + c % 64] := by unfold enc1; rw [if_neg c1, if_neg c2]
            rw [q] at p1
            have p1 : ∀ k : AV → Hp → Res, (mkS h 1 3 (avL [.int 8 ((224 + c / 4096 : Nat) : Int), .int 8 ((128 + c / 64 % 64 : Nat) : Int), .int 8 ((128 + c % 64 : Nat) : Int)]) fun w h1 => apd h1 1 1 u w k) = k u' h' := p1
            have a1 : ¬ (c : Int) < 1 := by omega
            have a2 : (2047 : Int) < (c : Int) := by omega
            have a3 : (127 : Int) < (c : Int) := by omega
            have b1 : (224 + c / 4096 % 256) % 256 = 224 + c / 4096 := by omega
            have b2 : (128 + Nat.land (c / 64 % 65536) 63 % 65536 % 256) % 256 = 128 + c / 64 % 64 := by rw [land63]; omega
            have b3 : (128 + Nat.land (c % 65536) 63 % 65536 % 256) % 256 = 128 + c % 64 := by rw [land63]; omega
            simp only [↓L42n0, ↓len, U_len, e1, ↓iv, a1, a2, a3, shr6n, shr12n, toU8n, toU16n, kk, w8n, w16n, wad192, wad128, wad224, b1, b2, b3, bld3, ↓p1, e6, ↓uc_c, ↓uz_n, ↓cI_i, ↓cB_b, cB_b, ↓cT_t, cT_t, nth_z, nth_1, cK_b, ↓cK_b, ↓cK_i, cK_i, ifB_t, ifB_f, ↓ap_e, sel_t, sel_f, gsel_tt, gsel_tf, gsel_ft, gsel_ff, gsel_u, gd_tt, gd_tf, gd_ft, gd_ff, gd_u, ↓jn_n, jn_n, jn_r, ↓jn_r, blk_n, blk_r, ↓cl_r, cl_r, ↓iAdd_i, ↓iSub_i, ↓iMul_i, ↓iAnd_i, ↓iOr_i, ↓iXor_i, ↓iNeg_i, iQuo_i, iRem_i, ↓iConv_i, iConv_i, ↓bNot_b, bNot_b, ↓eqN_i, ↓ltN_i, ↓eqB_b, bnot_e, Int.ofNat_eq_natCast, Int.cast_ofNat_Int, Int.reduceBEq, Int.reduceAdd, Int.reduceNeg, Int.reduceNegSucc, Int.reduceLT, Int.reduceLE, Int.reduceMul, Int.reduceTMod, Int.reduceSub, Int.reduceBNe, Bool.not_true, Bool.not_false, decide_true, decide_false, w63_in, w31_in, ne_eq, not_false_eq_true, Int.reduceEq, reduceCtorEq, ww3131, ww6363, ww3163, ww6331, ww3231, ww3263, ww6463, ww6364, sh31, sh63, sl63, m31, m63, n63, s5a, s5b, s6a, s6b, b31, b32, b63, c63, c64, d64, iShl_c, iShr_c, sr3, sr6, sr7]
      rw [lpn m e, hd]
      rw [← Bs_app] at p2
      obtain ⟨u2, h2, e2, g2, t2, w2⟩ := ih m (i + 1) h' u' (acc ++ enc1 c) (by omega) (by omega) (by omega) (by simp; omega) p2 p5 p4 (ht.trans p3)
      refine ⟨u2, h2, e2, ?_, t2, w2⟩
      have : acc ++ enc (c :: t.drop (i + 1)) = acc ++ enc1 c ++ enc (t.drop (i + 1)) := by simp [enc]
      rw [this]; exact g2
    · exact stop (f + 1) m i h u acc hm hin hu hw ht

theorem enc_byt {t : List Nat} (hc : ∀ x ∈ t, x < 65536) : ∀ x ∈ enc t, x < 256 := by
  intro x hx
  obtain ⟨c, h1, h2⟩ := List.mem_flatMap.1 hx
  exact enc1_byt c (hc c h1) x h2
theorem t41 {h : Hp} {P : Nat → Prop} {v : AV} {t : List Nat} (hv : Sl h P v (U t)) (hP : ∀ b, P b → b < h.nb) (hw : Wf h) (hc : ∀ x ∈ t, x < 65536) (hl : t.length ≤ 1000) :
    ∃ h', s41 [v] h = .ret (.str (enc t).length (pk (enc t))) h' ∧ To No h h' ∧ Wf h' := by
  have g0 : Gr h h.nb .nils (Bs []) := ⟨⟨by simp [Bs], .inl ⟨rfl, rfl⟩⟩, .inl rfl⟩
  obtain ⟨u, h', e, g, q, w⟩ := loop41 (N := h.nb) hv (fun b hb hn => by have := hP b hb; omega) hc hl t.length most 0 h .nils [] (by omega) (show _ < 1000000 by omega) (by omega) (by simp) g0 (Nat.le_refl _) hw (To.refl _ _)
  rw [show ((0 : Nat) : Int) = 0 from rfl] at e
  rw [List.nil_append, List.drop_zero] at g
  have len := fun k => lenL_sl hv k
  have kb := fun k => b2s_sl g.1 (enc_byt hc) k
  exact ⟨h', by simp only [↓s41, ↓len, U_len, e, blk_e, show Nat.beq 0 0 = true from rfl, ↓kb, cK_s, ↓uc_c, ↓uz_n, ↓cI_i, ↓cB_b, cB_b, ↓cT_t, cT_t, nth_z, nth_1, cK_b, ↓cK_b, ↓cK_i, cK_i, ifB_t, ifB_f, ↓ap_e, sel_t, sel_f, gsel_tt, gsel_tf, gsel_ft, gsel_ff, gsel_u, gd_tt, gd_tf, gd_ft, gd_ff, gd_u, ↓jn_n, jn_n, jn_r, ↓jn_r, blk_n, blk_r, ↓cl_r, cl_r, ↓iAdd_i, ↓iSub_i, ↓iMul_i, ↓iAnd_i, ↓iOr_i, ↓iXor_i, ↓iNeg_i, iQuo_i, iRem_i, ↓iConv_i, iConv_i, ↓bNot_b, bNot_b, ↓eqN_i, ↓ltN_i, ↓eqB_b, bnot_e, Int.ofNat_eq_natCast, Int.cast_ofNat_Int, Int.reduceBEq, Int.reduceAdd, Int.reduceNeg, Int.reduceNegSucc, Int.reduceLT, Int.reduceLE, Int.reduceMul, Int.reduceTMod, Int.reduceSub, Int.reduceBNe, Bool.not_true, Bool.not_false, decide_true, decide_false, w63_in, w31_in, ne_eq, not_false_eq_true, Int.reduceEq, reduceCtorEq, ww3131, ww6363, ww3163, ww6331, ww3231, ww3263, ww6463, ww6364, sh31, sh63, sl63, m31, m63, n63, s5a, s5b, s6a, s6b, b31, b32, b63, c63, c64, d64, iShl_c, iShr_c, sr3, sr6, sr7], q.mono fun b hb hn => by omega, w⟩
theorem t42 {h : Hp} {P : Nat → Prop} {v : AV} {t : List Nat} (hv : Sl h P v (U t)) (hP : ∀ b, P b → b < h.nb) (hw : Wf h) (hc : ∀ x ∈ t, x < 65536) (hl : t.length ≤ 1000) :
    ∃ h', s42 [v] h = .ret (.str (enc t).length (pk (enc t))) h' ∧ To No h h' ∧ Wf h' := by
  have g0 : Gr h h.nb .nils (Bs []) := ⟨⟨by simp [Bs], .inl ⟨rfl, rfl⟩⟩, .inl rfl⟩
  obtain ⟨u, h', e, g, q, w⟩ := loop42 (N := h.nb) hv (fun b hb hn => by have := hP b hb; omega) hc hl t.length most 0 h .nils [] (by omega) (show _ < 1000000 by omega) (by omega) (by simp) g0 (Nat.le_refl _) hw (To.refl _ _)
  rw [show ((0 : Nat) : Int) = 0 from rfl] at e
  rw [List.nil_append, List.drop_zero] at g
  have kb := fun k => b2s_sl g.1 (enc_byt hc) k
  exact ⟨h', by simp only [↓s42, e, blk_e, show Nat.beq 0 0 = true from rfl, ↓kb, cK_s, ↓uc_c, ↓uz_n, ↓cI_i, ↓cB_b, cB_b, ↓cT_t, cT_t, nth_z, nth_1, cK_b, ↓cK_b, ↓cK_i, cK_i, ifB_t, ifB_f, ↓ap_e, sel_t, sel_f, gsel_tt, gsel_tf, gsel_ft, gsel_ff, gsel_u, gd_tt, gd_tf, gd_ft, gd_ff, gd_u, ↓jn_n, jn_n, jn_r, ↓jn_r, blk_n, blk_r, ↓cl_r, cl_r, ↓iAdd_i, ↓iSub_i, ↓iMul_i, ↓iAnd_i, ↓iOr_i, ↓iXor_i, ↓iNeg_i, iQuo_i, iRem_i, ↓iConv_i, iConv_i, ↓bNot_b, bNot_b, ↓eqN_i, ↓ltN_i, ↓eqB_b, bnot_e, Int.ofNat_eq_natCast, Int.cast_ofNat_Int, Int.reduceBEq, Int.reduceAdd, Int.reduceNeg, Int.reduceNegSucc, Int.reduceLT, Int.reduceLE, Int.reduceMul, Int.reduceTMod, Int.reduceSub, Int.reduceBNe, Bool.not_true, Bool.not_false, decide_true, decide_false, w63_in, w31_in, ne_eq, not_false_eq_true, Int.reduceEq, reduceCtorEq, ww3131, ww6363, ww3163, ww6331, ww3231, ww3263, ww6463, ww6364, sh31, sh63, sl63, m31, m63, n63, s5a, s5b, s6a, s6b, b31, b32, b63, c63, c64, d64, iShl_c, iShr_c, sr3, sr6, sr7], q.mono fun b hb hn => by omega, w⟩
end Go.Proofs.Ytnpfppddongbhaa
end

section
namespace Go.Proofs.Ytnpfppddongbhaa
open Go Go.AM
set_option autoImplicit false
set_option linter.unusedSimpArgs false
set_option linter.unusedVariables false
theorem byteAt_e (x j : Nat) : byteAt x j = x / 2 ^ (8 * j) % 256 := by
  have : byteAt x j = (x >>> (8 * j)) % 256 := rfl
  rw [this, Nat.shiftRight_eq_div_pow]
theorem byteAt_0 (x y : Nat) (hx : x < 256) : byteAt (x + 256 * y) 0 = x := by rw [byteAt_e]; simp; omega
theorem byteAt_s (x y j : Nat) (hx : x < 256) : byteAt (x + 256 * y) (j + 1) = byteAt y j := by
  rw [byteAt_e, byteAt_e, show 8 * (j + 1) = 8 + 8 * j by omega, Nat.pow_add, ← Nat.div_div_eq_div_mul]
  congr 2
  show (x + 256 * y) / 256 = y
  omega
theorem byte_pk : ∀ (l : List Nat) (j : Nat) (h : j < l.length), (∀ x ∈ l, x < 256) → byteAt (pk l) j = l[j] := by
  intro l
  induction l with
  | nil => intro j h; simp at h
  | cons x l ih =>
    intro j h hb
    have hx := hb x (List.mem_cons_self ..)
    cases j with
    | zero => exact byteAt_0 x _ hx
    | succ j =>
      show byteAt (x + 256 * pk l) (j + 1) = l[j]'(by simpa using h)
      rw [byteAt_s x _ j hx]
      exact ih j _ (fun y hy => hb y (List.mem_cons_of_mem _ hy))
theorem look {B : List Nat} (hb : ∀ x ∈ B, x < 256) {i x : Nat} {r : List Nat} (h : B.drop i = x :: r) : i < B.length ∧ byteAt (pk B) i = x ∧ B.drop (i + 1) = r := by
  have hi : i < B.length := by
    have := congrArg List.length h
    simp at this
    omega
  have e := List.drop_eq_getElem_cons hi
  rw [e] at h
  obtain ⟨h1, h2⟩ := List.cons.inj h
  exact ⟨hi, (byte_pk B i hi hb).trans h1, h2⟩
theorem dec_enc {B : List Nat} (hb : ∀ x ∈ B, x < 256) : ∀ (s : List Nat) (f i : Nat), B.drop i = enc s → (∀ x ∈ s, x < 65536) → B.length - i ≤ f → dec B.length (byteAt (pk B)) f i = some s := by
  intro s
  induction s with
  | nil =>
    intro f i h hc hf
    have hi : ¬ i < B.length := by
      have := congrArg List.length h
      simp [enc] at this
      omega
    cases f with
    | zero => rfl
    | succ f => simp only [dec, if_neg hi]
  | cons c s ih =>
    intro f i h hc hf
    have hcc := hc c (List.mem_cons_self ..)
    have hs : ∀ x ∈ s, x < 65536 := fun x hx => hc x (List.mem_cons_of_mem _ hx)
    have h : B.drop i = enc1 c ++ enc s := by rw [h]; simp [enc]
    unfold enc1 at h
    by_cases c1 : 0 < c ∧ c < 128
    · rw [if_pos c1] at h
      obtain ⟨q1, q2, q3⟩ := look hb h
      obtain ⟨f, rfl⟩ : ∃ g, f = g + 1 := ⟨f - 1, by omega⟩
      simp only [dec, if_pos q1, q2, if_pos c1]
      rw [ih f (i + 1) q3 hs (by omega)]; rfl
    · rw [if_neg c1] at h
      by_cases c2 : c < 2048
      · rw [if_pos c2] at h
        obtain ⟨q1, q2, q3⟩ := look hb h
        obtain ⟨p1, p2, p3⟩ := look hb q3
        obtain ⟨f, rfl⟩ : ∃ g, f = g + 1 := ⟨f - 1, by omega⟩
        have n1 : ¬ (0 < 192 + c / 64 ∧ 192 + c / 64 < 128) := by omega
        have n2 : (192 ≤ 192 + c / 64 ∧ 192 + c / 64 < 224) ∧ ct B.length (byteAt (pk B)) (i + 1) = true := by
          refine ⟨by omega, ?_⟩
          unfold ct
          rw [p2]
          simp
          omega
        have v : v2 (192 + c / 64) (128 + c % 64) = c := by unfold v2; omega
        simp only [dec, if_pos q1, q2, if_neg n1, if_pos n2, p2, v]
        rw [ih f (i + 2) p3 hs (by omega)]; rfl
      · rw [if_neg c2] at h
        obtain ⟨q1, q2, q3⟩ := look hb h
        obtain ⟨p1, p2, p3⟩ := look hb q3
        obtain ⟨r1, r2, r3⟩ := look hb p3
        obtain ⟨f, rfl⟩ : ∃ g, f = g + 1 := ⟨f - 1, by omega⟩
        have n1 : ¬ (0 < 224 + c / 4096 ∧ 224 + c / 4096 < 128) := by omega
        have n2 : ¬ ((192 ≤ 224 + c / 4096 ∧ 224 + c / 4096 < 224) ∧ ct B.length (byteAt (pk B)) (i + 1) = true) := by omega
        have n3 : (224 ≤ 224 + c / 4096 ∧ 224 + c / 4096 < 240) ∧ ct B.length (byteAt (pk B)) (i + 1) = true ∧ ct B.length (byteAt (pk B)) (i + 1 + 1) = true := by
          refine ⟨by omega, ?_, ?_⟩
          · unfold ct
            rw [p2]
            simp
            omega
          · unfold ct
            rw [r2]
            simp
            omega
        have v : v3 (224 + c / 4096) (128 + c / 64 % 64) (128 + c % 64) = c := by unfold v3; omega
        simp only [dec, if_pos q1, q2, if_neg n1, if_neg n2, if_pos n3, p2, show i + 2 = i + 1 + 1 from rfl, r2, v]
        rw [ih f (i + 3) r3 hs (by omega)]; rfl
theorem Dec_enc {t : List Nat} (hc : ∀ x ∈ t, x < 65536) : Dec (enc t).length (pk (enc t)) = some t :=
  dec_enc (enc_byt hc) t _ 0 rfl hc (by omega)
theorem enc_len (t : List Nat) : (enc t).length ≤ 3 * t.length := by
  induction t with
  | nil => simp [enc]
  | cons c t ih =>
    have e : enc (c :: t) = enc1 c ++ enc t := by simp [enc]
    have := enc1_len c
    rw [e, List.length_append, List.length_cons]
    omega
end Go.Proofs.Ytnpfppddongbhaa
end

section
namespace Go.Proofs.Ytnpfppddongbhaa
open Go Go.AM
set_option autoImplicit false
set_option linter.unusedSimpArgs false
set_option linter.unusedVariables false
/-- A code point's bytes. -/
def utf (c : Nat) : List Nat :=
  if c < 128 then [c] else if c < 2048 then [192 + c / 64, 128 + c % 64]
  else if c < 65536 then [224 + c / 4096, 128 + c / 64 % 64, 128 + c % 64]
  else [240 + c / 262144, 128 + c / 4096 % 64, 128 + c / 64 % 64, 128 + c % 64]
theorem utf_len (c : Nat) : (utf c).length ≤ 4 := by unfold utf; split <;> (try split) <;> (try split) <;> simp
theorem l240 : ∀ x < 8, Nat.lor 240 x % 256 = 240 + x := by decide +kernel
theorem k863 : toU 8 63 = 63 := by decide
theorem shr31_6 (c d : Nat) (k : AV → Res) : iShr (.int 31 (c : Int)) (.int d 6) k = k (.int 31 ((c / 64 : Nat) : Int)) := iShr_i k 31 (c : Int) d 6 (by decide)
theorem shr31_12 (c d : Nat) (k : AV → Res) : iShr (.int 31 (c : Int)) (.int d 12) k = k (.int 31 ((c / 4096 : Nat) : Int)) := iShr_i k 31 (c : Int) d 12 (by decide)
theorem shr31_18 (c d : Nat) (k : AV → Res) : iShr (.int 31 (c : Int)) (.int d 18) k = k (.int 31 ((c / 262144 : Nat) : Int)) := iShr_i k 31 (c : Int) d 18 (by decide)
theorem cont_b (x y : Nat) (hy : y = 128 + x % 64) : Nat.lor 128 (Nat.land (x % 256 % 256) 63 % 256 % 256) % 256 = y := by
  rw [land63, show x % 256 % 256 % 64 % 256 % 256 = x % 64 by omega, hy]; exact l128 _ (by omega)
theorem t73 {h : Hp} {N : Nat} {u : AV} {acc : List Nat} (hN : N ≤ h.nb) (hw : Wf h) (hu : Gr h N u (Bs acc)) (ha : acc.length ≤ 90000) (c : Nat) (hc : c < 1114112) (hs : c < 55296 ∨ 57343 < c) :
    ∃ u' h', s73 [u, .int 31 (c : Int)] h = .ret u' h' ∧ Gr h' N u' (Bs (acc ++ utf c)) ∧ To (fun b => N ≤ b) h h' ∧ Wf h' ∧ N ≤ h'.nb := by
  have ul := utf_len c
  obtain ⟨u', h', p1, p2, p3, p4, p5⟩ := pushL hN hw hu (Bs (utf c)) _ rfl (Bs_one _) (by rw [Bs_len, Bs_len]; omega)
  rw [← Bs_app] at p2
  refine ⟨u', h', ?_, p2, p3, p4, p5⟩
  have e32 : wrapC 32 (c : Int) = (c : Int) := by rw [w32]; omega
  have cu := fun k => cK_sl p2.1 k
  by_cases c1 : c < 128
  · have q : utf c = [c] := by unfold utf; rw [if_pos c1]
    rw [q] at p1
    have p1 : ∀ k : AV → Hp → Res, (mkS h 1 1 (avL [.int 8 (c : Int)]) fun w h1 => apd h1 1 1 u w k) = k u' h' := p1
    have a1 : ¬ (127 : Int) < (c : Int) := by omega
    have a3 : c % 256 = c := by omega
    simp only [↓s73, e32, a1, w8n, a3, bld1, ↓p1, ↓cu, ↓uc_c, ↓uz_n, ↓cI_i, ↓cB_b, cB_b, ↓cT_t, cT_t, nth_z, nth_1, cK_b, ↓cK_b, ↓cK_i, cK_i, ifB_t, ifB_f, ↓ap_e, sel_t, sel_f, gsel_tt, gsel_tf, gsel_ft, gsel_ff, gsel_u, gd_tt, gd_tf, gd_ft, gd_ff, gd_u, ↓jn_n, jn_n, jn_r, ↓jn_r, blk_n, blk_r, ↓cl_r, cl_r, ↓iAdd_i, ↓iSub_i, ↓iMul_i, ↓iAnd_i, ↓iOr_i, ↓iXor_i, ↓iNeg_i, iQuo_i, iRem_i, ↓iConv_i, iConv_i, ↓bNot_b, bNot_b, ↓eqN_i, ↓ltN_i, ↓eqB_b, bnot_e, Int.ofNat_eq_natCast, Int.cast_ofNat_Int, Int.reduceBEq, Int.reduceAdd, Int.reduceNeg, Int.reduceNegSucc, Int.reduceLT, Int.reduceLE, Int.reduceMul, Int.reduceTMod, Int.reduceSub, Int.reduceBNe, Bool.not_true, Bool.not_false, decide_true, decide_false, w63_in, w31_in, ne_eq, not_false_eq_true, Int.reduceEq, reduceCtorEq, ww3131, ww6363, ww3163, ww6331, ww3231, ww3263, ww6463, ww6364, sh31, sh63, sl63, m31, m63, n63, s5a, s5b, s6a, s6b, b31, b32, b63, c63, c64, d64, iShl_c, iShr_c, sr3, sr6, sr7]
  have a1 : (127 : Int) < (c : Int) := by omega
  have e0 : s73 [u, .int 31 (c : Int)] h = cl (s98 [u, .int 31 (c : Int)] h) fun v14 h15 => cK v14 fun v16 => .ret v16 h15 := by
    simp only [↓s73, e32, a1, ↓uc_c, ↓uz_n, ↓cI_i, ↓cB_b, cB_b, ↓cT_t, cT_t, nth_z, nth_1, cK_b, ↓cK_b, ↓cK_i, cK_i, ifB_t, ifB_f, ↓ap_e, sel_t, sel_f, gsel_tt, gsel_tf, gsel_ft, gsel_ff, gsel_u, gd_tt, gd_tf, gd_ft, gd_ff, gd_u, ↓jn_n, jn_n, jn_r, ↓jn_r, blk_n, blk_r, ↓cl_r, cl_r, ↓iAdd_i, ↓iSub_i, ↓iMul_i, ↓iAnd_i, ↓iOr_i, ↓iXor_i, ↓iNeg_i, iQuo_i, iRem_i, ↓iConv_i, iConv_i, ↓bNot_b, bNot_b, ↓eqN_i, ↓ltN_i, ↓eqB_b, bnot_e, Int.ofNat_eq_natCast, Int.cast_ofNat_Int, Int.reduceBEq, Int.reduceAdd, Int.reduceNeg, Int.reduceNegSucc, Int.reduceLT, Int.reduceLE, Int.reduceMul, Int.reduceTMod, Int.reduceSub, Int.reduceBNe, Bool.not_true, Bool.not_false, decide_true, decide_false, w63_in, w31_in, ne_eq, not_false_eq_true, Int.reduceEq, reduceCtorEq, ww3131, ww6363, ww3163, ww6331, ww3231, ww3263, ww6463, ww6364, sh31, sh63, sl63, m31, m63, n63, s5a, s5b, s6a, s6b, b31, b32, b63, c63, c64, d64, iShl_c, iShr_c, sr3, sr6, sr7]
  have e98 : s98 [u, .int 31 (c : Int)] h = .ret u' h' := by
    clear e0
    by_cases c2 : c < 2048
    · have q : utf c = [192 + c / 64, 128 + c % 64] := by unfold utf; rw [if_neg c1, if_pos c2]
      rw [q] at p1
      have p1 : ∀ k : AV → Hp → Res, (mkS h 1 2 (avL [.int 8 ((192 + c / 64 : Nat) : Int), .int 8 ((128 + c % 64 : Nat) : Int)]) fun w h1 => apd h1 1 1 u w k) = k u' h' := p1
      have a2 : ¬ (2047 : Int) < (c : Int) := by omega
      have b1 : Nat.lor 192 (c / 64 % 256 % 256) % 256 = 192 + c / 64 := by rw [show c / 64 % 256 % 256 = c / 64 by omega]; exact l192 _ (by omega)
      have b2 := cont_b c (128 + c % 64) rfl
      simp only [↓s98, e32, a2, shr31_6, w8n, toU8n, kk, k863, b1, b2, bld2, ↓p1, ↓cu, ↓uc_c, ↓uz_n, ↓cI_i, ↓cB_b, cB_b, ↓cT_t, cT_t, nth_z, nth_1, cK_b, ↓cK_b, ↓cK_i, cK_i, ifB_t, ifB_f, ↓ap_e, sel_t, sel_f, gsel_tt, gsel_tf, gsel_ft, gsel_ff, gsel_u, gd_tt, gd_tf, gd_ft, gd_ff, gd_u, ↓jn_n, jn_n, jn_r, ↓jn_r, blk_n, blk_r, ↓cl_r, cl_r, ↓iAdd_i, ↓iSub_i, ↓iMul_i, ↓iAnd_i, ↓iOr_i, ↓iXor_i, ↓iNeg_i, iQuo_i, iRem_i, ↓iConv_i, iConv_i, ↓bNot_b, bNot_b, ↓eqN_i, ↓ltN_i, ↓eqB_b, bnot_e, Int.ofNat_eq_natCast, Int.cast_ofNat_Int, Int.reduceBEq, Int.reduceAdd, Int.reduceNeg, Int.reduceNegSucc, Int.reduceLT, Int.reduceLE, Int.reduceMul, Int.reduceTMod, Int.reduceSub, Int.reduceBNe, Bool.not_true, Bool.not_false, decide_true, decide_false, w63_in, w31_in, ne_eq, not_false_eq_true, Int.reduceEq, reduceCtorEq, ww3131, ww6363, ww3163, ww6331, ww3231, ww3263, ww6463, ww6364, sh31, sh63, sl63, m31, m63, n63, s5a, s5b, s6a, s6b, b31, b32, b63, c63, c64, d64, iShl_c, iShr_c, sr3, sr6, sr7]
    have a2 : (2047 : Int) < (c : Int) := by omega
    have b2 := cont_b c (128 + c % 64) rfl
    have b3 := cont_b (c / 64) (128 + c / 64 % 64) rfl
    by_cases c3 : c < 65536
    · have q : utf c = [224 + c / 4096, 128 + c / 64 % 64, 128 + c % 64] := by unfold utf; rw [if_neg c1, if_neg c2, if_pos c3]
      rw [q] at p1
      have p1 : ∀ k : AV → Hp → Res, (mkS h 1 3 (avL [.int 8 ((224 + c / 4096 : Nat) : Int), .int 8 ((128 + c / 64 % 64 : Nat) : Int), .int 8 ((128 + c % 64 : Nat) : Int)]) fun w h1 => apd h1 1 1 u w k) = k u' h' := p1
      have b1 : Nat.lor 224 (c / 4096 % 256 % 256) % 256 = 224 + c / 4096 := by rw [show c / 4096 % 256 % 256 = c / 4096 by omega]; exact l224 _ (by omega)
      by_cases c4 : c < 55296
      · have a3 : (c : Int) < 55296 := by omega
        simp only [↓s98, e32, a2, a3, shr31_6, shr31_12, w8n, toU8n, kk, k863, b1, b2, b3, bld3, ↓p1, ↓cu, ↓uc_c, ↓uz_n, ↓cI_i, ↓cB_b, cB_b, ↓cT_t, cT_t, nth_z, nth_1, cK_b, ↓cK_b, ↓cK_i, cK_i, ifB_t, ifB_f, ↓ap_e, sel_t, sel_f, gsel_tt, gsel_tf, gsel_ft, gsel_ff, gsel_u, gd_tt, gd_tf, gd_ft, gd_ff, gd_u, ↓jn_n, jn_n, jn_r, ↓jn_r, blk_n, blk_r, ↓cl_r, cl_r, ↓iAdd_i, ↓iSub_i, ↓iMul_i, ↓iAnd_i, ↓iOr_i, ↓iXor_i, ↓iNeg_i, iQuo_i, iRem_i, ↓iConv_i, iConv_i, ↓bNot_b, bNot_b, ↓eqN_i, ↓ltN_i, ↓eqB_b, bnot_e, Int.ofNat_eq_natCast, Int.cast_ofNat_Int, Int.reduceBEq, Int.reduceAdd, Int.reduceNeg, Int.reduceNegSucc, Int.reduceLT, Int.reduceLE, Int.reduceMul, Int.reduceTMod, Int.reduceSub, Int.reduceBNe, Bool.not_true, Bool.not_false, decide_true, decide_false, w63_in, w31_in, ne_eq, not_false_eq_true, Int.reduceEq, reduceCtorEq, ww3131, ww6363, ww3163, ww6331, ww3231, ww3263, ww6463, ww6364, sh31, sh63, sl63, m31, m63, n63, s5a, s5b, s6a, s6b, b31, b32, b63, c63, c64, d64, iShl_c, iShr_c, sr3, sr6, sr7]
      · have a3 : ¬ (c : Int) < 55296 := by omega
        have a4 : (57343 : Int) < (c : Int) := by omega
        have a5 : ¬ (65535 : Int) < (c : Int) := by omega
        simp only [↓s98, e32, a2, a3, a4, a5, shr31_6, shr31_12, w8n, toU8n, kk, k863, b1, b2, b3, bld3, ↓p1, ↓cu, ↓uc_c, ↓uz_n, ↓cI_i, ↓cB_b, cB_b, ↓cT_t, cT_t, nth_z, nth_1, cK_b, ↓cK_b, ↓cK_i, cK_i, ifB_t, ifB_f, ↓ap_e, sel_t, sel_f, gsel_tt, gsel_tf, gsel_ft, gsel_ff, gsel_u, gd_tt, gd_tf, gd_ft, gd_ff, gd_u, ↓jn_n, jn_n, jn_r, ↓jn_r, blk_n, blk_r, ↓cl_r, cl_r, ↓iAdd_i, ↓iSub_i, ↓iMul_i, ↓iAnd_i, ↓iOr_i, ↓iXor_i, ↓iNeg_i, iQuo_i, iRem_i, ↓iConv_i, iConv_i, ↓bNot_b, bNot_b, ↓eqN_i, ↓ltN_i, ↓eqB_b, bnot_e, Int.ofNat_eq_natCast, Int.cast_ofNat_Int, Int.reduceBEq, Int.reduceAdd, Int.reduceNeg, Int.reduceNegSucc, Int.reduceLT, Int.reduceLE, Int.reduceMul, Int.reduceTMod, Int.reduceSub, Int.reduceBNe, Bool.not_true, Bool.not_false, decide_true, decide_false, w63_in, w31_in, ne_eq, not_false_eq_true, Int.reduceEq, reduceCtorEq, ww3131, ww6363, ww3163, ww6331, ww3231, ww3263, ww6463, ww6364, sh31, sh63, sl63, m31, m63, n63, s5a, s5b, s6a, s6b, b31, b32, b63, c63, c64, d64, iShl_c, iShr_c, sr3, sr6, sr7]
    · have q : utf c = [240 + c / 262144, 128 + c / 4096 % 64, 128 + c / 64 % 64, 128 + c % 64] := by unfold utf; rw [if_neg c1, if_neg c2, if_neg c3]
      rw [q] at p1
      have p1 : ∀ k : AV → Hp → Res, (mkS h 1 4 (avL [.int 8 ((240 + c / 262144 : Nat) : Int), .int 8 ((128 + c / 4096 % 64 : Nat) : Int), .int 8 ((128 + c / 64 % 64 : Nat) : Int), .int 8 ((128 + c % 64 : Nat) : Int)]) fun w h1 => apd h1 1 1 u w k) = k u' h' := p1
      have b1 : Nat.lor 240 (c / 262144 % 256 % 256) % 256 = 240 + c / 262144 := by rw [show c / 262144 % 256 % 256 = c / 262144 by omega]; exact l240 _ (by omega)
      have b4 := cont_b (c / 4096) (128 + c / 4096 % 64) rfl
      have a3 : ¬ (c : Int) < 55296 := by omega
      have a4 : (57343 : Int) < (c : Int) := by omega
      have a5 : (65535 : Int) < (c : Int) := by omega
      have a6 : ¬ (1114111 : Int) < (c : Int) := by omega
      simp only [↓s98, e32, a2, a3, a4, a5, a6, shr31_6, shr31_12, shr31_18, w8n, toU8n, kk, k863, b1, b2, b3, b4, bld4, ↓p1, ↓cu, ↓uc_c, ↓uz_n, ↓cI_i, ↓cB_b, cB_b, ↓cT_t, cT_t, nth_z, nth_1, cK_b, ↓cK_b, ↓cK_i, cK_i, ifB_t, ifB_f, ↓ap_e, sel_t, sel_f, gsel_tt, gsel_tf, gsel_ft, gsel_ff, gsel_u, gd_tt, gd_tf, gd_ft, gd_ff, gd_u, ↓jn_n, jn_n, jn_r, ↓jn_r, blk_n, blk_r, ↓cl_r, cl_r, ↓iAdd_i, ↓iSub_i, ↓iMul_i, ↓iAnd_i, ↓iOr_i, ↓iXor_i, ↓iNeg_i, iQuo_i, iRem_i, ↓iConv_i, iConv_i, ↓bNot_b, bNot_b, ↓eqN_i, ↓ltN_i, ↓eqB_b, bnot_e, Int.ofNat_eq_natCast, Int.cast_ofNat_Int, Int.reduceBEq, Int.reduceAdd, Int.reduceNeg, Int.reduceNegSucc, Int.reduceLT, Int.reduceLE, Int.reduceMul, Int.reduceTMod, Int.reduceSub, Int.reduceBNe, Bool.not_true, Bool.not_false, decide_true, decide_false, w63_in, w31_in, ne_eq, not_false_eq_true, Int.reduceEq, reduceCtorEq, ww3131, ww6363, ww3163, ww6331, ww3231, ww3263, ww6463, ww6364, sh31, sh63, sl63, m31, m63, n63, s5a, s5b, s6a, s6b, b31, b32, b63, c63, c64, d64, iShl_c, iShr_c, sr3, sr6, sr7]
  simp only [e0, ↓e98, ↓cu, ↓uc_c, ↓uz_n, ↓cI_i, ↓cB_b, cB_b, ↓cT_t, cT_t, nth_z, nth_1, cK_b, ↓cK_b, ↓cK_i, cK_i, ifB_t, ifB_f, ↓ap_e, sel_t, sel_f, gsel_tt, gsel_tf, gsel_ft, gsel_ff, gsel_u, gd_tt, gd_tf, gd_ft, gd_ff, gd_u, ↓jn_n, jn_n, jn_r, ↓jn_r, blk_n, blk_r, ↓cl_r, cl_r, ↓iAdd_i, ↓iSub_i, ↓iMul_i, ↓iAnd_i, ↓iOr_i, ↓iXor_i, ↓iNeg_i, iQuo_i, iRem_i, ↓iConv_i, iConv_i, ↓bNot_b, bNot_b, ↓eqN_i, ↓ltN_i, ↓eqB_b, bnot_e, Int.ofNat_eq_natCast, Int.cast_ofNat_Int, Int.reduceBEq, Int.reduceAdd, Int.reduceNeg, Int.reduceNegSucc, Int.reduceLT, Int.reduceLE, Int.reduceMul, Int.reduceTMod, Int.reduceSub, Int.reduceBNe, Bool.not_true, Bool.not_false, decide_true, decide_false, w63_in, w31_in, ne_eq, not_false_eq_true, Int.reduceEq, reduceCtorEq, ww3131, ww6363, ww3163, ww6331, ww3231, ww3263, ww6463, ww6364, sh31, sh63, sl63, m31, m63, n63, s5a, s5b, s6a, s6b, b31, b32, b63, c63, c64, d64, iShl_c, iShr_c, sr3, sr6, sr7]
end Go.Proofs.Ytnpfppddongbhaa
end

section
namespace Go.Proofs.Ytnpfppddongbhaa
open Go Go.AM
set_option autoImplicit false
set_option linter.unusedSimpArgs false
set_option linter.unusedVariables false
/-- A char by itself. -/
def lone (c : Nat) : List Nat := if 55296 ≤ c ∧ c < 57344 then [63] else utf c
/-- Chars as UTF-8. -/
def out : List Nat → List Nat
  | [] => []
  | [c] => lone c
  | c :: d :: r => if (55296 ≤ c ∧ c < 56320) ∧ (56320 ≤ d ∧ d < 57344) then utf (65536 + (c - 55296) * 1024 + (d - 56320)) ++ out r else lone c ++ out (d :: r)
theorem out_pair (c d : Nat) (r : List Nat) (h : (55296 ≤ c ∧ c < 56320) ∧ (56320 ≤ d ∧ d < 57344)) : out (c :: d :: r) = utf (65536 + (c - 55296) * 1024 + (d - 56320)) ++ out r := by
  simp only [out, if_pos h]
theorem out_lone (c : Nat) (r : List Nat) (h : ∀ d s, r = d :: s → ¬ ((55296 ≤ c ∧ c < 56320) ∧ (56320 ≤ d ∧ d < 57344))) : out (c :: r) = lone c ++ out r := by
  cases r with
  | nil => simp [out]
  | cons d s => simp only [out, if_neg (h d s rfl)]
theorem land_top (c j m : Nat) (hc : c < 65536) (ha : ∀ a < 65536 / 2 ^ j, Nat.land (2 ^ j * a) m = 2 ^ j * a) (hb : ∀ b < 2 ^ j, Nat.land b m = 0) (hj : j = 10 ∨ j = 11) : Nat.land c m = 2 ^ j * (c / 2 ^ j) := by
  have hpos : 0 < 2 ^ j := Nat.two_pow_pos j
  have h1 : c = (2 ^ j * (c / 2 ^ j)) ||| (c % 2 ^ j) := by
    rw [← Nat.two_pow_add_eq_or_of_lt (Nat.mod_lt _ hpos)]
    exact (Nat.div_add_mod c (2 ^ j)).symm
  have h2 : c / 2 ^ j < 65536 / 2 ^ j := by rcases hj with rfl | rfl <;> simp <;> omega
  have e : Nat.land c m = c &&& m := rfl
  rw [e]
  conv => lhs; rw [h1]
  rw [Nat.and_or_distrib_right]
  have ea : (2 ^ j * (c / 2 ^ j)) &&& m = 2 ^ j * (c / 2 ^ j) := ha _ h2
  have eb : (c % 2 ^ j) &&& m = 0 := hb _ (Nat.mod_lt _ hpos)
  rw [ea, eb, Nat.or_zero]
theorem land_a (c : Nat) (hc : c < 65536) : Nat.land c 64512 = 1024 * (c / 1024) := land_top c 10 64512 hc (by decide +kernel) (by decide +kernel) (.inl rfl)
theorem land_b (c : Nat) (hc : c < 65536) : Nat.land c 63488 = 2048 * (c / 2048) := land_top c 11 63488 hc (by decide +kernel) (by decide +kernel) (.inr rfl)
theorem land_c (c : Nat) : Nat.land c 1023 = c % 1024 := Nat.and_two_pow_sub_one_eq_mod c 10
theorem toU31n (a : Nat) (ha : a < 4294967296) : toU 31 (a : Int) = a := by have := toU31 (a : Int); omega
theorem k31 : toU 31 64512 = 64512 ∧ toU 31 63488 = 63488 ∧ toU 31 1023 = 1023 ∧ toU 16 64512 = 64512 ∧ toU 16 1023 = 1023 := by decide +kernel
theorem w31n (a : Nat) (ha : a < 2147483648) : wrapC 31 (a : Int) = (a : Int) := w31_in _ (by omega) (by omega)
theorem shl10 (m : Int) (d : Nat) (k : AV → Res) : iShl (.int 31 m) (.int d 10) k = k (.int 31 (wrapC 31 (m * 1024))) := iShl_i k 31 m d 10 (by decide)
theorem hi_i (c : Nat) (hc : c < 65536) : (((Nat.land c 64512 : Nat) : Int) == 55296) = decide (55296 ≤ c ∧ c < 56320) := by
  rw [land_a c hc]
  by_cases h : 55296 ≤ c ∧ c < 56320
  · rw [decide_eq_true h]; rw [show 1024 * (c / 1024) = 55296 by omega]; rfl
  · rw [decide_eq_false h, beq_eq_false_iff_ne]
    omega
theorem lo_i (c : Nat) (hc : c < 65536) : (((Nat.land c 64512 : Nat) : Int) == 56320) = decide (56320 ≤ c ∧ c < 57344) := by
  rw [land_a c hc]
  by_cases h : 56320 ≤ c ∧ c < 57344
  · rw [decide_eq_true h]; rw [show 1024 * (c / 1024) = 56320 by omega]; rfl
  · rw [decide_eq_false h, beq_eq_false_iff_ne]
    omega
theorem su_i (c : Nat) (hc : c < 65536) : (((Nat.land c 63488 : Nat) : Int) == 55296) = decide (55296 ≤ c ∧ c < 57344) := by
  rw [land_b c hc]
  by_cases h : 55296 ≤ c ∧ c < 57344
  · rw [decide_eq_true h]; rw [show 2048 * (c / 2048) = 55296 by omega]; rfl
  · rw [decide_eq_false h, beq_eq_false_iff_ne]
    omega
end Go.Proofs.Ytnpfppddongbhaa
end

section
namespace Go.Proofs.Ytnpfppddongbhaa
open Go Go.AM
set_option autoImplicit false
set_option linter.unusedSimpArgs false
set_option linter.unusedVariables false
theorem ix_sl2 {h : Hp} {P : Nat → Prop} {v : AV} {l : List AV} (hs : Sl h P v l) (j : Nat) (hj : j < l.length) : ∃ p, (∀ k : AV → Res, ixA 1 v (.int 63 (j : Int)) k = k p) ∧ ∀ k : AV → Res, ld1 h p k = k l[j] := by
  rcases hs.2 with ⟨-, rfl⟩ | ⟨-, rfl⟩ | ⟨b, o, cc, B, rfl, h3, h4, h5, hc, h6⟩
  · simp at hj
  · simp at hj
  · refine ⟨.ptr b (o + j), fun k => ?_, fun k => (ld1_rd h4 (h6 j hj) k).trans (cK_one (hs.1 _ (List.getElem_mem hj)) k)⟩
    have e : ixA 1 (.sl b o l.length 1 cc) (.int 63 (j : Int)) k = ifB (Nat.blt j l.length) (ifB (Nat.beq 1 1) (k (.ptr b (Nat.add o (Nat.mul j 1)))) .fail) .fail := rfl
    rw [e, (blt_iff _ _).2 hj]
    have e2 : Nat.add o (Nat.mul j 1) = o + j := by show o + j * 1 = o + j; omega
    show k (.ptr b (Nat.add o (Nat.mul j 1))) = _
    rw [e2]
theorem bldq (k : AV → Res) : bld [(false, 1, .int 8 63)] k = k (avL (Bs [63])) := rfl
theorem cW31 (c : Nat) (hc : c < 65536) : wrapC 31 ((Nat.land c 64512 : Nat) : Int) = ((Nat.land c 64512 : Nat) : Int) ∧ wrapC 31 ((Nat.land c 63488 : Nat) : Int) = ((Nat.land c 63488 : Nat) : Int) ∧ wrapC 16 ((Nat.land c 64512 : Nat) : Int) = ((Nat.land c 64512 : Nat) : Int) := by
  refine ⟨?_, ?_, ?_⟩
  · rw [land_a c hc]; exact w31n _ (by omega)
  · rw [land_b c hc]; exact w31n _ (by omega)
  · rw [land_a c hc]; exact w16_in _ (by omega) (by omega)
theorem loop43 {h0 : Hp} {N : Nat} {P : Nat → Prop} {v : AV} {t : List Nat} (hv : Sl h0 P v (U t)) (hP : ∀ b, P b → ¬ N ≤ b) (hc : ∀ x ∈ t, x < 65536) (hl : t.length ≤ 1000) :
    ∀ (f m i : Nat) (h : Hp) (u : AV) (acc : List Nat), t.length - i ≤ f → f < m → i ≤ t.length → acc.length ≤ 4 * i → Gr h N u (Bs acc) → N ≤ h.nb → Wf h → To (fun b => N ≤ b) h0 h →
    ∃ u' h', lp L43n0 m [v, u, .int 63 (i : Int)] h = .exit 0 [u'] h' ∧ Gr h' N u' (Bs (acc ++ out (t.drop i))) ∧ To (fun b => N ≤ b) h0 h' ∧ Wf h' := by
  have stop : ∀ (f m i : Nat) (h : Hp) (u : AV) (acc : List Nat), f < m → ¬ i < t.length → Gr h N u (Bs acc) → Wf h → To (fun b => N ≤ b) h0 h →
      ∃ u' h', lp L43n0 m [v, u, .int 63 (i : Int)] h = .exit 0 [u'] h' ∧ Gr h' N u' (Bs (acc ++ out (t.drop i))) ∧ To (fun b => N ≤ b) h0 h' ∧ Wf h' := by
    intro f m i h u acc hm hi hu hw ht
    obtain ⟨m, rfl⟩ : ∃ k, m = k + 1 := ⟨m - 1, by omega⟩
    have e1 : ¬ (i : Int) < (t.length : Int) := by omega
    have len := fun k => lenL_sl (hv.to ht hP) k
    rw [List.drop_eq_nil_of_le (by omega)]
    exact ⟨u, h, lpx m (by simp only [↓L43n0, ↓len, U_len, e1, ↓uc_c, ↓uz_n, ↓cI_i, ↓cB_b, cB_b, ↓cT_t, cT_t, nth_z, nth_1, cK_b, ↓cK_b, ↓cK_i, cK_i, ifB_t, ifB_f, ↓ap_e, sel_t, sel_f, gsel_tt, gsel_tf, gsel_ft, gsel_ff, gsel_u, gd_tt, gd_tf, gd_ft, gd_ff, gd_u, ↓jn_n, jn_n, jn_r, ↓jn_r, blk_n, blk_r, ↓cl_r, cl_r, ↓iAdd_i, ↓iSub_i, ↓iMul_i, ↓iAnd_i, ↓iOr_i, ↓iXor_i, ↓iNeg_i, iQuo_i, iRem_i, ↓iConv_i, iConv_i, ↓bNot_b, bNot_b, ↓eqN_i, ↓ltN_i, ↓eqB_b, bnot_e, Int.ofNat_eq_natCast, Int.cast_ofNat_Int, Int.reduceBEq, Int.reduceAdd, Int.reduceNeg, Int.reduceNegSucc, Int.reduceLT, Int.reduceLE, Int.reduceMul, Int.reduceTMod, Int.reduceSub, Int.reduceBNe, Bool.not_true, Bool.not_false, decide_true, decide_false, w63_in, w31_in, ne_eq, not_false_eq_true, Int.reduceEq, reduceCtorEq, ww3131, ww6363, ww3163, ww6331, ww3231, ww3263, ww6463, ww6364, sh31, sh63, sl63, m31, m63, n63, s5a, s5b, s6a, s6b, b31, b32, b63, c63, c64, d64, iShl_c, iShr_c, sr3, sr6, sr7]), by simpa [out] using hu, ht, hw⟩
  intro f
  induction f with
  | zero => intro m i h u acc hf hm hi ha hu hN hw ht; exact stop 0 m i h u acc hm (by omega) hu hw ht
  | succ f ih =>
    intro m i h u acc hf hm hi ha hu hN hw ht
    by_cases hin : i < t.length
    · obtain ⟨m, rfl⟩ : ∃ k, m = k + 1 := ⟨m - 1, by omega⟩
      have e1 : (i : Int) < (t.length : Int) := by omega
      have e6 : wrapC 63 ((i : Int) + 1) = ((i + 1 : Nat) : Int) := s1n i (by omega)
      have e7 : wrapC 63 (((i + 1 : Nat) : Int) + 1) = ((i + 2 : Nat) : Int) := s1n (i + 1) (by omega)
      have hv' := hv.to ht hP
      have len := fun k => lenL_sl hv' k
      obtain ⟨p, ix, ld⟩ := ix_sl2 hv' i (by rw [U_len]; exact hin)
      have g : (U t)[i]'(by rw [U_len]; exact hin) = .int 16 (t[i] : Int) := by simp [U]
      rw [g] at ld
      have hci := hc _ (List.getElem_mem hin)
      have hd : t.drop i = t[i] :: t.drop (i + 1) := List.drop_eq_getElem_cons hin
      generalize t[i] = c at *
      have hiB := hi_i c hci
      have suB := su_i c hci
      obtain ⟨w1, w2, w3⟩ := cW31 c hci
      have u31 := toU31n c (by omega)
      have c31 := w31n c (by omega)
      -- one char
      have single : ∀ (u' : AV) (h' : Hp), L43n0 [v, u, .int 63 (i : Int)] h = .norm [v, u', .int 63 ((i + 1 : Nat) : Int)] h' → Gr h' N u' (Bs (acc ++ lone c)) → To (fun b => N ≤ b) h h' → Wf h' → N ≤ h'.nb → out (t.drop i) = lone c ++ out (t.drop (i + 1)) → (lone c).length ≤ 4 →
          ∃ u' h', lp L43n0 (m + 1) [v, u, .int 63 (i : Int)] h = .exit 0 [u'] h' ∧ Gr h' N u' (Bs (acc ++ out (t.drop i))) ∧ To (fun b => N ≤ b) h0 h' ∧ Wf h' := by
        intro u' h' e g1 g2 g3 g4 ho hll
        rw [lpn m e]
        obtain ⟨u2, h2, q1, q2, q3, q4⟩ := ih m (i + 1) h' u' (acc ++ lone c) (by omega) (by omega) (by omega) (by rw [List.length_append]; omega) g1 g4 g3 (ht.trans g2)
        exact ⟨u2, h2, q1, by rw [ho, ← List.append_assoc]; exact q2, q3, q4⟩
      have quest : (55296 ≤ c ∧ c < 57344) → (∀ (u' : AV) (h' : Hp), (∀ k : AV → Hp → Res, (mkS h 1 1 (avL (Bs [63])) fun w h1 => apd h1 1 1 u w k) = k u' h') → L43n0 [v, u, .int 63 (i : Int)] h = .norm [v, u', .int 63 ((i + 1 : Nat) : Int)] h') → out (t.drop i) = lone c ++ out (t.drop (i + 1)) →
          ∃ u' h', lp L43n0 (m + 1) [v, u, .int 63 (i : Int)] h = .exit 0 [u'] h' ∧ Gr h' N u' (Bs (acc ++ out (t.drop i))) ∧ To (fun b => N ≤ b) h0 h' ∧ Wf h' := by
        intro hs hrun ho
        obtain ⟨u', h', p1, p2, p3, p4, p5⟩ := pushL hN hw hu (Bs [63]) 1 rfl (Bs_one _) (by rw [Bs_len, Bs_len]; simp only [List.length_cons, List.length_nil]; omega)
        have hlo : lone c = [63] := by unfold lone; rw [if_pos hs]
        rw [← Bs_app, ← hlo] at p2
        exact single u' h' (hrun u' h' p1) p2 p3 p4 p5 ho (by rw [hlo]; simp)
      by_cases hhi : 55296 ≤ c ∧ c < 56320
      · rw [decide_eq_true hhi] at hiB
        have hsu : 55296 ≤ c ∧ c < 57344 := ⟨hhi.1, by omega⟩
        rw [decide_eq_true hsu] at suB
        by_cases h1 : i + 1 < t.length
        · have e2 : ((i + 1 : Nat) : Int) < (t.length : Int) := by omega
          obtain ⟨p', ix', ld'⟩ := ix_sl2 hv' (i + 1) (by rw [U_len]; exact h1)
          have g' : (U t)[i + 1]'(by rw [U_len]; exact h1) = .int 16 (t[i + 1] : Int) := by simp [U]
          rw [g'] at ld'
          have hdi := hc _ (List.getElem_mem h1)
          have hd' : t.drop (i + 1) = t[i + 1] :: t.drop (i + 2) := List.drop_eq_getElem_cons h1
          generalize t[i + 1] = d at *
          have loB := lo_i d hdi
          obtain ⟨x1, x2, x3⟩ := cW31 d hdi
          have u16 : toU 16 (d : Int) = d := by rw [toU16n]; omega
          by_cases hlo : 56320 ≤ d ∧ d < 57344
          · rw [decide_eq_true hlo] at loB
            have f1 : wrapC 31 ((Nat.land c 1023 : Nat) : Int) = ((c % 1024 : Nat) : Int) := by rw [land_c]; exact w31n _ (by omega)
            have f2 : wrapC 16 ((Nat.land d 1023 : Nat) : Int) = ((d % 1024 : Nat) : Int) := by rw [land_c]; exact w16_in _ (by omega) (by omega)
            have f3 : wrapC 31 ((d % 1024 : Nat) : Int) = ((d % 1024 : Nat) : Int) := w31n _ (by omega)
            have g1 : wrapC 31 (((c % 1024 : Nat) : Int) * 1024) = ((c % 1024 * 1024 : Nat) : Int) := by rw [w31_in _ (by omega) (by omega)]; omega
            have g2 : wrapC 31 (65536 + ((c % 1024 * 1024 : Nat) : Int)) = ((65536 + c % 1024 * 1024 : Nat) : Int) := by rw [w31_in _ (by omega) (by omega)]; omega
            have g3 : wrapC 31 (((65536 + c % 1024 * 1024 : Nat) : Int) + ((d % 1024 : Nat) : Int)) = ((65536 + (c - 55296) * 1024 + (d - 56320) : Nat) : Int) := by rw [w31_in _ (by omega) (by omega)]; omega
            obtain ⟨u', h', q1, q2, q3, q4, q5⟩ := t73 hN hw hu (by omega) (65536 + (c - 55296) * 1024 + (d - 56320)) (by omega) (by omega)
            have e : L43n0 [v, u, .int 63 (i : Int)] h = .norm [v, u', .int 63 ((i + 2 : Nat) : Int)] h' := by
              simp only [↓L43n0, ↓len, U_len, e1, ↓ix, ↓ld, c31, u31, k31, w1, hiB, e6, e2, ↓ix', ↓ld', u16, x3, loB, f1, shl10, g1, g2, f2, f3, g3, ↓q1, e7, ↓uc_c, ↓uz_n, ↓cI_i, ↓cB_b, cB_b, ↓cT_t, cT_t, nth_z, nth_1, cK_b, ↓cK_b, ↓cK_i, cK_i, ifB_t, ifB_f, ↓ap_e, sel_t, sel_f, gsel_tt, gsel_tf, gsel_ft, gsel_ff, gsel_u, gd_tt, gd_tf, gd_ft, gd_ff, gd_u, ↓jn_n, jn_n, jn_r, ↓jn_r, blk_n, blk_r, ↓cl_r, cl_r, ↓iAdd_i, ↓iSub_i, ↓iMul_i, ↓iAnd_i, ↓iOr_i, ↓iXor_i, ↓iNeg_i, iQuo_i, iRem_i, ↓iConv_i, iConv_i, ↓bNot_b, bNot_b, ↓eqN_i, ↓ltN_i, ↓eqB_b, bnot_e, Int.ofNat_eq_natCast, Int.cast_ofNat_Int, Int.reduceBEq, Int.reduceAdd, Int.reduceNeg, Int.reduceNegSucc, Int.reduceLT, Int.reduceLE, Int.reduceMul, Int.reduceTMod, Int.reduceSub, Int.reduceBNe, Bool.not_true, Bool.not_false, decide_true, decide_false, w63_in, w31_in, ne_eq, not_false_eq_true, Int.reduceEq, reduceCtorEq, ww3131, ww6363, ww3163, ww6331, ww3231, ww3263, ww6463, ww6364, sh31, sh63, sl63, m31, m63, n63, s5a, s5b, s6a, s6b, b31, b32, b63, c63, c64, d64, iShl_c, iShr_c, sr3, sr6, sr7]
            rw [lpn m e, hd, hd', out_pair _ _ _ ⟨hhi, hlo⟩, ← List.append_assoc]
            have ul := utf_len (65536 + (c - 55296) * 1024 + (d - 56320))
            exact ih m (i + 2) h' u' _ (by omega) (by omega) (by omega) (by rw [List.length_append]; omega) q2 q5 q4 (ht.trans q3)
          · rw [decide_eq_false hlo] at loB
            refine quest hsu (fun u' h' q => ?_) ?_
            · simp only [↓L43n0, ↓len, U_len, e1, ↓ix, ↓ld, c31, u31, k31, w1, w2, hiB, suB, e6, e2, ↓ix', ↓ld', u16, x3, loB, bldq, ↓q, ↓uc_c, ↓uz_n, ↓cI_i, ↓cB_b, cB_b, ↓cT_t, cT_t, nth_z, nth_1, cK_b, ↓cK_b, ↓cK_i, cK_i, ifB_t, ifB_f, ↓ap_e, sel_t, sel_f, gsel_tt, gsel_tf, gsel_ft, gsel_ff, gsel_u, gd_tt, gd_tf, gd_ft, gd_ff, gd_u, ↓jn_n, jn_n, jn_r, ↓jn_r, blk_n, blk_r, ↓cl_r, cl_r, ↓iAdd_i, ↓iSub_i, ↓iMul_i, ↓iAnd_i, ↓iOr_i, ↓iXor_i, ↓iNeg_i, iQuo_i, iRem_i, ↓iConv_i, iConv_i, ↓bNot_b, bNot_b, ↓eqN_i, ↓ltN_i, ↓eqB_b, bnot_e, Int.ofNat_eq_natCast, Int.cast_ofNat_Int, Int.reduceBEq, Int.reduceAdd, Int.reduceNeg, Int.reduceNegSucc, Int.reduceLT, Int.reduceLE, Int.reduceMul, Int.reduceTMod, Int.reduceSub, Int.reduceBNe, Bool.not_true, Bool.not_false, decide_true, decide_false, w63_in, w31_in, ne_eq, not_false_eq_true, Int.reduceEq, reduceCtorEq, ww3131, ww6363, ww3163, ww6331, ww3231, ww3263, ww6463, ww6364, sh31, sh63, sl63, m31, m63, n63, s5a, s5b, s6a, s6b, b31, b32, b63, c63, c64, d64, iShl_c, iShr_c, sr3, sr6, sr7]
            · rw [hd]
              exact out_lone _ _ (fun d' s' he hh => by rw [hd'] at he; obtain ⟨rfl, -⟩ := List.cons.inj he; exact hlo hh.2)
        · have e2 : ¬ ((i + 1 : Nat) : Int) < (t.length : Int) := by omega
          refine quest hsu (fun u' h' q => ?_) ?_
          · simp only [↓L43n0, ↓len, U_len, e1, ↓ix, ↓ld, c31, u31, k31, w1, w2, hiB, suB, e6, e2, bldq, ↓q, ↓uc_c, ↓uz_n, ↓cI_i, ↓cB_b, cB_b, ↓cT_t, cT_t, nth_z, nth_1, cK_b, ↓cK_b, ↓cK_i, cK_i, ifB_t, ifB_f, ↓ap_e, sel_t, sel_f, gsel_tt, gsel_tf, gsel_ft, gsel_ff, gsel_u, gd_tt, gd_tf, gd_ft, gd_ff, gd_u, ↓jn_n, jn_n, jn_r, ↓jn_r, blk_n, blk_r, ↓cl_r, cl_r, ↓iAdd_i, ↓iSub_i, ↓iMul_i, ↓iAnd_i, ↓iOr_i, ↓iXor_i, ↓iNeg_i, iQuo_i, iRem_i, ↓iConv_i, iConv_i, ↓bNot_b, bNot_b, ↓eqN_i, ↓ltN_i, ↓eqB_b, bnot_e, Int.ofNat_eq_natCast, Int.cast_ofNat_Int, Int.reduceBEq, Int.reduceAdd, Int.reduceNeg, Int.reduceNegSucc, Int.reduceLT, Int.reduceLE, Int.reduceMul, Int.reduceTMod, Int.reduceSub, Int.reduceBNe, Bool.not_true, Bool.not_false, decide_true, decide_false, w63_in, w31_in, ne_eq, not_false_eq_true, Int.reduceEq, reduceCtorEq, ww3131, ww6363, ww3163, ww6331, ww3231, ww3263, ww6463, ww6364, sh31, sh63, sl63, m31, m63, n63, s5a, s5b, s6a, s6b, b31, b32, b63, c63, c64, d64, iShl_c, iShr_c, sr3, sr6, sr7]
          · rw [hd]
            exact out_lone _ _ (fun d' s' he hh => by rw [List.drop_eq_nil_of_le (by omega)] at he; cases he)
      · rw [decide_eq_false hhi] at hiB
        have ho : out (t.drop i) = lone c ++ out (t.drop (i + 1)) := by
          rw [hd]; exact out_lone _ _ (fun d' s' he hh => hhi hh.1)
        by_cases hsu : 55296 ≤ c ∧ c < 57344
        · rw [decide_eq_true hsu] at suB
          refine quest hsu (fun u' h' q => ?_) ho
          simp only [↓L43n0, ↓len, U_len, e1, ↓ix, ↓ld, c31, u31, k31, w1, w2, hiB, suB, e6, bldq, ↓q, ↓uc_c, ↓uz_n, ↓cI_i, ↓cB_b, cB_b, ↓cT_t, cT_t, nth_z, nth_1, cK_b, ↓cK_b, ↓cK_i, cK_i, ifB_t, ifB_f, ↓ap_e, sel_t, sel_f, gsel_tt, gsel_tf, gsel_ft, gsel_ff, gsel_u, gd_tt, gd_tf, gd_ft, gd_ff, gd_u, ↓jn_n, jn_n, jn_r, ↓jn_r, blk_n, blk_r, ↓cl_r, cl_r, ↓iAdd_i, ↓iSub_i, ↓iMul_i, ↓iAnd_i, ↓iOr_i, ↓iXor_i, ↓iNeg_i, iQuo_i, iRem_i, ↓iConv_i, iConv_i, ↓bNot_b, bNot_b, ↓eqN_i, ↓ltN_i, ↓eqB_b, bnot_e, Int.ofNat_eq_natCast, Int.cast_ofNat_Int, Int.reduceBEq, Int.reduceAdd, Int.reduceNeg, Int.reduceNegSucc, Int.reduceLT, Int.reduceLE, Int.reduceMul, Int.reduceTMod, Int.reduceSub, Int.reduceBNe, Bool.not_true, Bool.not_false, decide_true, decide_false, w63_in, w31_in, ne_eq, not_false_eq_true, Int.reduceEq, reduceCtorEq, ww3131, ww6363, ww3163, ww6331, ww3231, ww3263, ww6463, ww6364, sh31, sh63, sl63, m31, m63, n63, s5a, s5b, s6a, s6b, b31, b32, b63, c63, c64, d64, iShl_c, iShr_c, sr3, sr6, sr7]
        · rw [decide_eq_false hsu] at suB
          have hlo : lone c = utf c := by unfold lone; rw [if_neg hsu]
          obtain ⟨u', h', q1, q2, q3, q4, q5⟩ := t73 hN hw hu (by omega) c (by omega) (by omega)
          refine single u' h' ?_ (by rw [hlo]; exact q2) q3 q4 q5 ho (by rw [hlo]; exact utf_len c)
          simp only [↓L43n0, ↓len, U_len, e1, ↓ix, ↓ld, c31, u31, k31, w1, w2, hiB, suB, e6, ↓q1, ↓uc_c, ↓uz_n, ↓cI_i, ↓cB_b, cB_b, ↓cT_t, cT_t, nth_z, nth_1, cK_b, ↓cK_b, ↓cK_i, cK_i, ifB_t, ifB_f, ↓ap_e, sel_t, sel_f, gsel_tt, gsel_tf, gsel_ft, gsel_ff, gsel_u, gd_tt, gd_tf, gd_ft, gd_ff, gd_u, ↓jn_n, jn_n, jn_r, ↓jn_r, blk_n, blk_r, ↓cl_r, cl_r, ↓iAdd_i, ↓iSub_i, ↓iMul_i, ↓iAnd_i, ↓iOr_i, ↓iXor_i, ↓iNeg_i, iQuo_i, iRem_i, ↓iConv_i, iConv_i, ↓bNot_b, bNot_b, ↓eqN_i, ↓ltN_i, ↓eqB_b, bnot_e, Int.ofNat_eq_natCast, Int.cast_ofNat_Int, Int.reduceBEq, Int.reduceAdd, Int.reduceNeg, Int.reduceNegSucc, Int.reduceLT, Int.reduceLE, Int.reduceMul, Int.reduceTMod, Int.reduceSub, Int.reduceBNe, Bool.not_true, Bool.not_false, decide_true, decide_false, w63_in, w31_in, ne_eq, not_false_eq_true, Int.reduceEq, reduceCtorEq, ww3131, ww6363, ww3163, ww6331, ww3231, ww3263, ww6463, ww6364, sh31, sh63, sl63, m31, m63, n63, s5a, s5b, s6a, s6b, b31, b32, b63, c63, c64, d64, iShl_c, iShr_c, sr3, sr6, sr7]
    · exact stop (f + 1) m i h u acc hm hin hu hw ht
end Go.Proofs.Ytnpfppddongbhaa
end

section
namespace Go.Proofs.Ytnpfppddongbhaa
open Go Go.AM
set_option autoImplicit false
set_option linter.unusedSimpArgs false
set_option linter.unusedVariables false
theorem shr32_6 (c d : Nat) (k : AV → Res) : iShr (.int 32 (c : Int)) (.int d 6) k = k (.int 32 ((c / 64 : Nat) : Int)) := iShr_i k 32 (c : Int) d 6 (by decide)
theorem shr32_12 (c d : Nat) (k : AV → Res) : iShr (.int 32 (c : Int)) (.int d 12) k = k (.int 32 ((c / 4096 : Nat) : Int)) := iShr_i k 32 (c : Int) d 12 (by decide)
theorem shr32_18 (c d : Nat) (k : AV → Res) : iShr (.int 32 (c : Int)) (.int d 18) k = k (.int 32 ((c / 262144 : Nat) : Int)) := iShr_i k 32 (c : Int) d 18 (by decide)
theorem shl32 (m : Int) (d : Nat) (k : AV → Res) : iShl (.int 32 m) (.int d 10) k = k (.int 32 (wrapC 32 (m * 1024))) := iShl_i k 32 m d 10 (by decide)
theorem w32n (a : Nat) (ha : a < 4294967296) : wrapC 32 (a : Int) = (a : Int) := by rw [w32]; omega
theorem cont32 (x : Nat) (hx : x < 4294967296) : wrapC 32 ((Nat.land (toU 32 (x : Int)) (toU 32 63) : Nat) : Int) = ((x % 64 : Nat) : Int) := by
  have e1 : toU 32 (x : Int) = x := by have := toU32 (x : Int); omega
  have e2 : toU 32 63 = 63 := by decide
  rw [e1, e2, land63, w32]; omega
theorem loop44 {h0 : Hp} {N : Nat} {P : Nat → Prop} {v : AV} {t : List Nat} (hv : Sl h0 P v (U t)) (hP : ∀ b, P b → ¬ N ≤ b) (hc : ∀ x ∈ t, x < 65536) (hl : t.length ≤ 1000) :
    ∀ (f m i : Nat) (h : Hp) (u : AV) (acc : List Nat), t.length - i ≤ f → f < m → i ≤ t.length → acc.length ≤ 4 * i → Gr h N u (Bs acc) → N ≤ h.nb → Wf h → To (fun b => N ≤ b) h0 h →
    ∃ u' h', lp L44n0 m [v, u, .int 63 (i : Int)] h = .exit 0 [u'] h' ∧ Gr h' N u' (Bs (acc ++ out (t.drop i))) ∧ To (fun b => N ≤ b) h0 h' ∧ Wf h' := by
  have stop : ∀ (f m i : Nat) (h : Hp) (u : AV) (acc : List Nat), f < m → ¬ i < t.length → Gr h N u (Bs acc) → Wf h → To (fun b => N ≤ b) h0 h →
      ∃ u' h', lp L44n0 m [v, u, .int 63 (i : Int)] h = .exit 0 [u'] h' ∧ Gr h' N u' (Bs (acc ++ out (t.drop i))) ∧ To (fun b => N ≤ b) h0 h' ∧ Wf h' := by
    intro f m i h u acc hm hi hu hw ht
    obtain ⟨m, rfl⟩ : ∃ k, m = k + 1 := ⟨m - 1, by omega⟩
    have e1 : ¬ (i : Int) < (t.length : Int) := by omega
    have len := fun k => lenL_sl (hv.to ht hP) k
    rw [List.drop_eq_nil_of_le (by omega)]
    exact ⟨u, h, lpx m (by simp only [↓L44n0, ↓len, U_len, e1, ↓uc_c, ↓uz_n, ↓cI_i, ↓cB_b, cB_b, ↓cT_t, cT_t, nth_z, nth_1, cK_b, ↓cK_b, ↓cK_i, cK_i, ifB_t, ifB_f, ↓ap_e, sel_t, sel_f, gsel_tt, gsel_tf, gsel_ft, gsel_ff, gsel_u, gd_tt, gd_tf, gd_ft, gd_ff, gd_u, ↓jn_n, jn_n, jn_r, ↓jn_r, blk_n, blk_r, ↓cl_r, cl_r, ↓iAdd_i, ↓iSub_i, ↓iMul_i, ↓iAnd_i, ↓iOr_i, ↓iXor_i, ↓iNeg_i, iQuo_i, iRem_i, ↓iConv_i, iConv_i, ↓bNot_b, bNot_b, ↓eqN_i, ↓ltN_i, ↓eqB_b, bnot_e, Int.ofNat_eq_natCast, Int.cast_ofNat_Int, Int.reduceBEq, Int.reduceAdd, Int.reduceNeg, Int.reduceNegSucc, Int.reduceLT, Int.reduceLE, Int.reduceMul, Int.reduceTMod, Int.reduceSub, Int.reduceBNe, Bool.not_true, Bool.not_false, decide_true, decide_false, w63_in, w31_in, ne_eq, not_false_eq_true, Int.reduceEq, reduceCtorEq, ww3131, ww6363, ww3163, ww6331, ww3231, ww3263, ww6463, ww6364, sh31, sh63, sl63, m31, m63, n63, s5a, s5b, s6a, s6b, b31, b32, b63, c63, c64, d64, iShl_c, iShr_c, sr3, sr6, sr7]), by simpa [out] using hu, ht, hw⟩
  intro f
  induction f with
  | zero => intro m i h u acc hf hm hi ha hu hN hw ht; exact stop 0 m i h u acc hm (by omega) hu hw ht
  | succ f ih =>
    intro m i h u acc hf hm hi ha hu hN hw ht
    by_cases hin : i < t.length
    · obtain ⟨m, rfl⟩ : ∃ k, m = k + 1 := ⟨m - 1, by omega⟩
      have e1 : (i : Int) < (t.length : Int) := by omega
      have e6 : wrapC 63 ((i : Int) + 1) = ((i + 1 : Nat) : Int) := s1n i (by omega)
      have e7 : wrapC 63 (((i + 1 : Nat) : Int) + 1) = ((i + 2 : Nat) : Int) := s1n (i + 1) (by omega)
      have hv' := hv.to ht hP
      have len := fun k => lenL_sl hv' k
      obtain ⟨p, ix, ld⟩ := ix_sl2 hv' i (by rw [U_len]; exact hin)
      have g : (U t)[i]'(by rw [U_len]; exact hin) = .int 16 (t[i] : Int) := by simp [U]
      rw [g] at ld
      have hci := hc _ (List.getElem_mem hin)
      have hd : t.drop i = t[i] :: t.drop (i + 1) := List.drop_eq_getElem_cons hin
      generalize t[i] = c at *
      have c32 : wrapC 32 (c : Int) = (c : Int) := by rw [w32]; omega
      -- one char
      have single : ∀ (u' : AV) (h' : Hp), L44n0 [v, u, .int 63 (i : Int)] h = .norm [v, u', .int 63 ((i + 1 : Nat) : Int)] h' → Gr h' N u' (Bs (acc ++ lone c)) → To (fun b => N ≤ b) h h' → Wf h' → N ≤ h'.nb → out (t.drop i) = lone c ++ out (t.drop (i + 1)) → (lone c).length ≤ 4 →
          ∃ u' h', lp L44n0 (m + 1) [v, u, .int 63 (i : Int)] h = .exit 0 [u'] h' ∧ Gr h' N u' (Bs (acc ++ out (t.drop i))) ∧ To (fun b => N ≤ b) h0 h' ∧ Wf h' := by
        intro u' h' e g1 g2 g3 g4 ho hll
        rw [lpn m e]
        obtain ⟨u2, h2, q1, q2, q3, q4⟩ := ih m (i + 1) h' u' (acc ++ lone c) (by omega) (by omega) (by omega) (by rw [List.length_append]; omega) g1 g4 g3 (ht.trans g2)
        exact ⟨u2, h2, q1, by rw [ho, ← List.append_assoc]; exact q2, q3, q4⟩
      have quest : (55296 ≤ c ∧ c < 57344) → (∀ (u' : AV) (h' : Hp), (∀ k : AV → Hp → Res, (mkS h 1 1 (avL (Bs [63])) fun w h1 => apd h1 1 1 u w k) = k u' h') → L44n0 [v, u, .int 63 (i : Int)] h = .norm [v, u', .int 63 ((i + 1 : Nat) : Int)] h') → out (t.drop i) = lone c ++ out (t.drop (i + 1)) →
          ∃ u' h', lp L44n0 (m + 1) [v, u, .int 63 (i : Int)] h = .exit 0 [u'] h' ∧ Gr h' N u' (Bs (acc ++ out (t.drop i))) ∧ To (fun b => N ≤ b) h0 h' ∧ Wf h' := by
        intro hs hrun ho
        obtain ⟨u', h', p1, p2, p3, p4, p5⟩ := pushL hN hw hu (Bs [63]) 1 rfl (Bs_one _) (by rw [Bs_len, Bs_len]; simp only [List.length_cons, List.length_nil]; omega)
        have hlo : lone c = [63] := by unfold lone; rw [if_pos hs]
        rw [← Bs_app, ← hlo] at p2
        exact single u' h' (hrun u' h' p1) p2 p3 p4 p5 ho (by rw [hlo]; simp)
      by_cases hhi : 55296 ≤ c ∧ c < 56320
      · have hsu : 55296 ≤ c ∧ c < 57344 := ⟨hhi.1, by omega⟩
        have a1 : ¬ (c : Int) < 55296 := by omega
        have a2 : ¬ (57343 : Int) < (c : Int) := by omega
        have a3 : (c : Int) < 56320 := by omega
        by_cases h1 : i + 1 < t.length
        · have e2 : ((i + 1 : Nat) : Int) < (t.length : Int) := by omega
          obtain ⟨p', ix', ld'⟩ := ix_sl2 hv' (i + 1) (by rw [U_len]; exact h1)
          have g' : (U t)[i + 1]'(by rw [U_len]; exact h1) = .int 16 (t[i + 1] : Int) := by simp [U]
          rw [g'] at ld'
          have hdi := hc _ (List.getElem_mem h1)
          have hd' : t.drop (i + 1) = t[i + 1] :: t.drop (i + 2) := List.drop_eq_getElem_cons h1
          generalize t[i + 1] = d at *
          by_cases hlo : 56320 ≤ d ∧ d < 57344
          · have d1 : ¬ (d : Int) < 56320 := by omega
            have d2 : ¬ (57343 : Int) < (d : Int) := by omega
            have hout : out (t.drop i) = utf (65536 + (c - 55296) * 1024 + (d - 56320)) ++ out (t.drop (i + 2)) := by rw [hd, hd', out_pair _ _ _ ⟨hhi, hlo⟩]
            have d32 : wrapC 32 (d : Int) = (d : Int) := by rw [w32]; omega
            obtain ⟨A, cA, A1⟩ : ∃ A, c = 55296 + A ∧ A < 1024 := ⟨c - 55296, by omega, by omega⟩
            obtain ⟨B, dB, B1⟩ : ∃ B, d = 56320 + B ∧ B < 1024 := ⟨d - 56320, by omega, by omega⟩
            have hA : c - 55296 = A := by rw [cA]; exact Nat.add_sub_cancel_left ..
            have hB : d - 56320 = B := by rw [dB]; exact Nat.add_sub_cancel_left ..
            rw [hA, hB] at hout
            clear hA hB
            have g0 : wrapC 32 ((c : Int) - 55296) = (A : Int) := by rw [w32]; omega
            have g1 : wrapC 32 ((A : Int) * 1024) = ((A * 1024 : Nat) : Int) := by rw [w32]; omega
            have g2 : wrapC 32 (65536 + ((A * 1024 : Nat) : Int)) = ((65536 + A * 1024 : Nat) : Int) := by rw [w32]; omega
            have g3 : wrapC 32 (((65536 + A * 1024 : Nat) : Int) + (d : Int)) = ((65536 + A * 1024 + d : Nat) : Int) := by rw [w32]; omega
            have g4 : wrapC 32 (((65536 + A * 1024 + d : Nat) : Int) - 56320) = ((65536 + A * 1024 + B : Nat) : Int) := by rw [w32]; omega
            have hVl : 65536 + A * 1024 + B < 1114112 := by omega
            have hVg : 65536 ≤ 65536 + A * 1024 + B := by omega
            generalize 65536 + A * 1024 + B = V at *
            have ul := utf_len V
            obtain ⟨u', h', p1, p2, p3, p4, p5⟩ := pushL hN hw hu (Bs (utf V)) _ rfl (Bs_one _) (by rw [Bs_len, Bs_len]; omega)
            rw [← Bs_app] at p2
            have q : utf V = [240 + V / 262144, 128 + V / 4096 % 64, 128 + V / 64 % 64, 128 + V % 64] := by unfold utf; rw [if_neg (by omega), if_neg (by omega), if_neg (by omega)]
            rw [q] at p1
            have p1 : ∀ k : AV → Hp → Res, (mkS h 1 4 (avL [.int 8 ((240 + V / 262144 : Nat) : Int), .int 8 ((128 + V / 4096 % 64 : Nat) : Int), .int 8 ((128 + V / 64 % 64 : Nat) : Int), .int 8 ((128 + V % 64 : Nat) : Int)]) fun w h1 => apd h1 1 1 u w k) = k u' h' := p1
            have b1 : (240 + V / 262144 % 256) % 256 = 240 + V / 262144 := by omega
            have b2 : (128 + V / 4096 % 64 % 256) % 256 = 128 + V / 4096 % 64 := by omega
            have b3 : (128 + V / 64 % 64 % 256) % 256 = 128 + V / 64 % 64 := by omega
            have b4 : (128 + V % 64 % 256) % 256 = 128 + V % 64 := by omega
            have e : L44n0 [v, u, .int 63 (i : Int)] h = .norm [v, u', .int 63 ((i + 2 : Nat) : Int)] h' := by
              simp only [↓L44n0, ↓len, U_len, e1, ↓ix, ↓ld, c32, a1, a2, a3, e6, e2, ↓ix', ↓ld', d1, d2, g0, shl32, g1, g2, d32, g3, g4, shr32_18, shr32_12, shr32_6, cont32 (V / 4096) (by omega), cont32 (V / 64) (by omega), cont32 V (by omega), w8n, wad240, wad128, b1, b2, b3, b4, bld4, ↓p1, jn_e, blk_e, show Nat.beq 1 1 = true from rfl, e7, ↓uc_c, ↓uz_n, ↓cI_i, ↓cB_b, cB_b, ↓cT_t, cT_t, nth_z, nth_1, cK_b, ↓cK_b, ↓cK_i, cK_i, ifB_t, ifB_f, ↓ap_e, sel_t, sel_f, gsel_tt, gsel_tf, gsel_ft, gsel_ff, gsel_u, gd_tt, gd_tf, gd_ft, gd_ff, gd_u, ↓jn_n, jn_n, jn_r, ↓jn_r, blk_n, blk_r, ↓cl_r, cl_r, ↓iAdd_i, ↓iSub_i, ↓iMul_i, ↓iAnd_i, ↓iOr_i, ↓iXor_i, ↓iNeg_i, iQuo_i, iRem_i, ↓iConv_i, iConv_i, ↓bNot_b, bNot_b, ↓eqN_i, ↓ltN_i, ↓eqB_b, bnot_e, Int.ofNat_eq_natCast, Int.cast_ofNat_Int, Int.reduceBEq, Int.reduceAdd, Int.reduceNeg, Int.reduceNegSucc, Int.reduceLT, Int.reduceLE, Int.reduceMul, Int.reduceTMod, Int.reduceSub, Int.reduceBNe, Bool.not_true, Bool.not_false, decide_true, decide_false, w63_in, w31_in, ne_eq, not_false_eq_true, Int.reduceEq, reduceCtorEq, ww3131, ww6363, ww3163, ww6331, ww3231, ww3263, ww6463, ww6364, sh31, sh63, sl63, m31, m63, n63, s5a, s5b, s6a, s6b, b31, b32, b63, c63, c64, d64, iShl_c, iShr_c, sr3, sr6, sr7]
            rw [lpn m e, hout, ← List.append_assoc]
            exact ih m (i + 2) h' u' _ (by omega) (by omega) (by omega) (by rw [List.length_append]; omega) p2 p5 p4 (ht.trans p3)
          · refine quest hsu (fun u' h' q => ?_) ?_
            · by_cases d1 : d < 56320
              · have d1 : (d : Int) < 56320 := by omega
                simp only [↓L44n0, ↓len, U_len, e1, ↓ix, ↓ld, c32, a1, a2, a3, e6, e2, ↓ix', ↓ld', d1, bldq, ↓q, jn_e, blk_e, show Nat.beq 1 1 = true from rfl, ↓uc_c, ↓uz_n, ↓cI_i, ↓cB_b, cB_b, ↓cT_t, cT_t, nth_z, nth_1, cK_b, ↓cK_b, ↓cK_i, cK_i, ifB_t, ifB_f, ↓ap_e, sel_t, sel_f, gsel_tt, gsel_tf, gsel_ft, gsel_ff, gsel_u, gd_tt, gd_tf, gd_ft, gd_ff, gd_u, ↓jn_n, jn_n, jn_r, ↓jn_r, blk_n, blk_r, ↓cl_r, cl_r, ↓iAdd_i, ↓iSub_i, ↓iMul_i, ↓iAnd_i, ↓iOr_i, ↓iXor_i, ↓iNeg_i, iQuo_i, iRem_i, ↓iConv_i, iConv_i, ↓bNot_b, bNot_b, ↓eqN_i, ↓ltN_i, ↓eqB_b, bnot_e, Int.ofNat_eq_natCast, Int.cast_ofNat_Int, Int.reduceBEq, Int.reduceAdd, Int.reduceNeg, Int.reduceNegSucc, Int.reduceLT, Int.reduceLE, Int.reduceMul, Int.reduceTMod, Int.reduceSub, Int.reduceBNe, Bool.not_true, Bool.not_false, decide_true, decide_false, w63_in, w31_in, ne_eq, not_false_eq_true, Int.reduceEq, reduceCtorEq, ww3131, ww6363, ww3163, ww6331, ww3231, ww3263, ww6463, ww6364, sh31, sh63, sl63, m31, m63, n63, s5a, s5b, s6a, s6b, b31, b32, b63, c63, c64, d64, iShl_c, iShr_c, sr3, sr6, sr7]
              · have d1 : ¬ (d : Int) < 56320 := by omega
                have d2 : (57343 : Int) < (d : Int) := by omega
                simp only [↓L44n0, ↓len, U_len, e1, ↓ix, ↓ld, c32, a1, a2, a3, e6, e2, ↓ix', ↓ld', d1, d2, bldq, ↓q, jn_e, blk_e, show Nat.beq 1 1 = true from rfl, ↓uc_c, ↓uz_n, ↓cI_i, ↓cB_b, cB_b, ↓cT_t, cT_t, nth_z, nth_1, cK_b, ↓cK_b, ↓cK_i, cK_i, ifB_t, ifB_f, ↓ap_e, sel_t, sel_f, gsel_tt, gsel_tf, gsel_ft, gsel_ff, gsel_u, gd_tt, gd_tf, gd_ft, gd_ff, gd_u, ↓jn_n, jn_n, jn_r, ↓jn_r, blk_n, blk_r, ↓cl_r, cl_r, ↓iAdd_i, ↓iSub_i, ↓iMul_i, ↓iAnd_i, ↓iOr_i, ↓iXor_i, ↓iNeg_i, iQuo_i, iRem_i, ↓iConv_i, iConv_i, ↓bNot_b, bNot_b, ↓eqN_i, ↓ltN_i, ↓eqB_b, bnot_e, Int.ofNat_eq_natCast, Int.cast_ofNat_Int, Int.reduceBEq, Int.reduceAdd, Int.reduceNeg, Int.reduceNegSucc, Int.reduceLT, Int.reduceLE, Int.reduceMul, Int.reduceTMod, Int.reduceSub, Int.reduceBNe, Bool.not_true, Bool.not_false, decide_true, decide_false, w63_in, w31_in, ne_eq, not_false_eq_true, Int.reduceEq, reduceCtorEq, ww3131, ww6363, ww3163, ww6331, ww3231, ww3263, ww6463, ww6364, sh31, sh63, sl63, m31, m63, n63, s5a, s5b, s6a, s6b, b31, b32, b63, c63, c64, d64, iShl_c, iShr_c, sr3, sr6, sr7]
            · rw [hd]
              exact out_lone _ _ (fun d' s' he hh => by rw [hd'] at he; obtain ⟨rfl, -⟩ := List.cons.inj he; exact hlo hh.2)
        · have e2 : ¬ ((i + 1 : Nat) : Int) < (t.length : Int) := by omega
          refine quest hsu (fun u' h' q => ?_) ?_
          · simp only [↓L44n0, ↓len, U_len, e1, ↓ix, ↓ld, c32, a1, a2, a3, e6, e2, bldq, ↓q, jn_e, blk_e, show Nat.beq 1 1 = true from rfl, ↓uc_c, ↓uz_n, ↓cI_i, ↓cB_b, cB_b, ↓cT_t, cT_t, nth_z, nth_1, cK_b, ↓cK_b, ↓cK_i, cK_i, ifB_t, ifB_f, ↓ap_e, sel_t, sel_f, gsel_tt, gsel_tf, gsel_ft, gsel_ff, gsel_u, gd_tt, gd_tf, gd_ft, gd_ff, gd_u, ↓jn_n, jn_n, jn_r, ↓jn_r, blk_n, blk_r, ↓cl_r, cl_r, ↓iAdd_i, ↓iSub_i, ↓iMul_i, ↓iAnd_i, ↓iOr_i, ↓iXor_i, ↓iNeg_i, iQuo_i, iRem_i, ↓iConv_i, iConv_i, ↓bNot_b, bNot_b, ↓eqN_i, ↓ltN_i, ↓eqB_b, bnot_e, Int.ofNat_eq_natCast, Int.cast_ofNat_Int, Int.reduceBEq, Int.reduceAdd, Int.reduceNeg, Int.reduceNegSucc, Int.reduceLT, Int.reduceLE, Int.reduceMul, Int.reduceTMod, Int.reduceSub, Int.reduceBNe, Bool.not_true, Bool.not_false, decide_true, decide_false, w63_in, w31_in, ne_eq, not_false_eq_true, Int.reduceEq, reduceCtorEq, ww3131, ww6363, ww3163, ww6331, ww3231, ww3263, ww6463, ww6364, sh31, sh63, sl63, m31, m63, n63, s5a, s5b, s6a, s6b, b31, b32, b63, c63, c64, d64, iShl_c, iShr_c, sr3, sr6, sr7]
          · rw [hd]
            exact out_lone _ _ (fun d' s' he hh => by rw [List.drop_eq_nil_of_le (by omega)] at he; cases he)
      · have ho : out (t.drop i) = lone c ++ out (t.drop (i + 1)) := by
          rw [hd]; exact out_lone _ _ (fun d' s' he hh => hhi hh.1)
        by_cases hsu : 55296 ≤ c ∧ c < 57344
        · refine quest hsu (fun u' h' q => ?_) ho
          have a1 : ¬ (c : Int) < 55296 := by omega
          have a2 : ¬ (57343 : Int) < (c : Int) := by omega
          have a3 : ¬ (c : Int) < 56320 := by omega
          simp only [↓L44n0, ↓len, U_len, e1, ↓ix, ↓ld, c32, a1, a2, a3, e6, bldq, ↓q, jn_e, blk_e, show Nat.beq 1 1 = true from rfl, ↓uc_c, ↓uz_n, ↓cI_i, ↓cB_b, cB_b, ↓cT_t, cT_t, nth_z, nth_1, cK_b, ↓cK_b, ↓cK_i, cK_i, ifB_t, ifB_f, ↓ap_e, sel_t, sel_f, gsel_tt, gsel_tf, gsel_ft, gsel_ff, gsel_u, gd_tt, gd_tf, gd_ft, gd_ff, gd_u, ↓jn_n, jn_n, jn_r, ↓jn_r, blk_n, blk_r, ↓cl_r, cl_r, ↓iAdd_i, ↓iSub_i, ↓iMul_i, ↓iAnd_i, ↓iOr_i, ↓iXor_i, ↓iNeg_i, iQuo_i, iRem_i, ↓iConv_i, iConv_i, ↓bNot_b, bNot_b, ↓eqN_i, ↓ltN_i, ↓eqB_b, bnot_e, Int.ofNat_eq_natCast, Int.cast_ofNat_Int, Int.reduceBEq, Int.reduceAdd, Int.reduceNeg, Int.reduceNegSucc, Int.reduceLT, Int.reduceLE, Int.reduceMul, Int.reduceTMod, Int.reduceSub, Int.reduceBNe, Bool.not_true, Bool.not_false, decide_true, decide_false, w63_in, w31_in, ne_eq, not_false_eq_true, Int.reduceEq, reduceCtorEq, ww3131, ww6363, ww3163, ww6331, ww3231, ww3263, ww6463, ww6364, sh31, sh63, sl63, m31, m63, n63, s5a, s5b, s6a, s6b, b31, b32, b63, c63, c64, d64, iShl_c, iShr_c, sr3, sr6, sr7]
        · have hlo : lone c = utf c := by unfold lone; rw [if_neg hsu]
          have ul := utf_len c
          obtain ⟨u', h', p1, p2, p3, p4, p5⟩ := pushL hN hw hu (Bs (utf c)) _ rfl (Bs_one _) (by rw [Bs_len, Bs_len]; omega)
          rw [← Bs_app] at p2
          refine single u' h' ?_ (by rw [hlo]; exact p2) p3 p4 p5 ho (by rw [hlo]; exact ul)
          have tail : ∀ X : Prop, (((c : Int) < 55296) → X) → ((¬ (c : Int) < 55296) → ((57343 : Int) < (c : Int)) → X) → X := fun X f1 f2 => by
            by_cases q : (c : Int) < 55296
            · exact f1 q
            · exact f2 q (by omega)
          by_cases c1 : c < 128
          · have q : utf c = [c] := by unfold utf; rw [if_pos c1]
            rw [q] at p1
            have p1 : ∀ k : AV → Hp → Res, (mkS h 1 1 (avL [.int 8 (c : Int)]) fun w h1 => apd h1 1 1 u w k) = k u' h' := p1
            have a1 : (c : Int) < 55296 := by omega
            have a4 : ¬ (127 : Int) < (c : Int) := by omega
            have a5 : c % 256 = c := by omega
            simp only [↓L44n0, ↓len, U_len, e1, ↓ix, ↓ld, c32, a1, a4, e6, w8n, a5, bld1, ↓p1, ↓uc_c, ↓uz_n, ↓cI_i, ↓cB_b, cB_b, ↓cT_t, cT_t, nth_z, nth_1, cK_b, ↓cK_b, ↓cK_i, cK_i, ifB_t, ifB_f, ↓ap_e, sel_t, sel_f, gsel_tt, gsel_tf, gsel_ft, gsel_ff, gsel_u, gd_tt, gd_tf, gd_ft, gd_ff, gd_u, ↓jn_n, jn_n, jn_r, ↓jn_r, blk_n, blk_r, ↓cl_r, cl_r, ↓iAdd_i, ↓iSub_i, ↓iMul_i, ↓iAnd_i, ↓iOr_i, ↓iXor_i, ↓iNeg_i, iQuo_i, iRem_i, ↓iConv_i, iConv_i, ↓bNot_b, bNot_b, ↓eqN_i, ↓ltN_i, ↓eqB_b, bnot_e, Int.ofNat_eq_natCast, Int.cast_ofNat_Int, Int.reduceBEq, Int.reduceAdd, Int.reduceNeg, Int.reduceNegSucc, Int.reduceLT, Int.reduceLE, Int.reduceMul, Int.reduceTMod, Int.reduceSub, Int.reduceBNe, Bool.not_true, Bool.not_false, decide_true, decide_false, w63_in, w31_in, ne_eq, not_false_eq_true, Int.reduceEq, reduceCtorEq, ww3131, ww6363, ww3163, ww6331, ww3231, ww3263, ww6463, ww6364, sh31, sh63, sl63, m31, m63, n63, s5a, s5b, s6a, s6b, b31, b32, b63, c63, c64, d64, iShl_c, iShr_c, sr3, sr6, sr7]
          by_cases c2 : c < 2048
          · have q : utf c = [192 + c / 64, 128 + c % 64] := by unfold utf; rw [if_neg c1, if_pos c2]
            rw [q] at p1
            have p1 : ∀ k : AV → Hp → Res, (mkS h 1 2 (avL [.int 8 ((192 + c / 64 : Nat) : Int), .int 8 ((128 + c % 64 : Nat) : Int)]) fun w h1 => apd h1 1 1 u w k) = k u' h' := p1
            have a1 : (c : Int) < 55296 := by omega
            have a4 : (127 : Int) < (c : Int) := by omega
            have a5 : ¬ (2047 : Int) < (c : Int) := by omega
            have b1 : (192 + c / 64 % 256) % 256 = 192 + c / 64 := by omega
            have b4 : (128 + c % 64 % 256) % 256 = 128 + c % 64 := by omega
            simp only [↓L44n0, ↓len, U_len, e1, ↓ix, ↓ld, c32, a1, a4, a5, e6, shr32_6, cont32 c (by omega), w8n, wad192, wad128, b1, b4, bld2, ↓p1, ↓uc_c, ↓uz_n, ↓cI_i, ↓cB_b, cB_b, ↓cT_t, cT_t, nth_z, nth_1, cK_b, ↓cK_b, ↓cK_i, cK_i, ifB_t, ifB_f, ↓ap_e, sel_t, sel_f, gsel_tt, gsel_tf, gsel_ft, gsel_ff, gsel_u, gd_tt, gd_tf, gd_ft, gd_ff, gd_u, ↓jn_n, jn_n, jn_r, ↓jn_r, blk_n, blk_r, ↓cl_r, cl_r, ↓iAdd_i, ↓iSub_i, ↓iMul_i, ↓iAnd_i, ↓iOr_i, ↓iXor_i, ↓iNeg_i, iQuo_i, iRem_i, ↓iConv_i, iConv_i, ↓bNot_b, bNot_b, ↓eqN_i, ↓ltN_i, ↓eqB_b, bnot_e, Int.ofNat_eq_natCast, Int.cast_ofNat_Int, Int.reduceBEq, Int.reduceAdd, Int.reduceNeg, Int.reduceNegSucc, Int.reduceLT, Int.reduceLE, Int.reduceMul, Int.reduceTMod, Int.reduceSub, Int.reduceBNe, Bool.not_true, Bool.not_false, decide_true, decide_false, w63_in, w31_in, ne_eq, not_false_eq_true, Int.reduceEq, reduceCtorEq, ww3131, ww6363, ww3163, ww6331, ww3231, ww3263, ww6463, ww6364, sh31, sh63, sl63, m31, m63, n63, s5a, s5b, s6a, s6b, b31, b32, b63, c63, c64, d64, iShl_c, iShr_c, sr3, sr6, sr7]
          · have q : utf c = [224 + c / 4096, 128 + c / 64 % 64, 128 + c % 64] := by unfold utf; rw [if_neg c1, if_neg c2, if_pos (by omega)]
            rw [q] at p1
            have p1 : ∀ k : AV → Hp → Res, (mkS h 1 3 (avL [.int 8 ((224 + c / 4096 : Nat) : Int), .int 8 ((128 + c / 64 % 64 : Nat) : Int), .int 8 ((128 + c % 64 : Nat) : Int)]) fun w h1 => apd h1 1 1 u w k) = k u' h' := p1
            have a4 : (127 : Int) < (c : Int) := by omega
            have a5 : (2047 : Int) < (c : Int) := by omega
            have b1 : (224 + c / 4096 % 256) % 256 = 224 + c / 4096 := by omega
            have b3 : (128 + c / 64 % 64 % 256) % 256 = 128 + c / 64 % 64 := by omega
            have b4 : (128 + c % 64 % 256) % 256 = 128 + c % 64 := by omega
            refine tail _ (fun a1 => ?_) (fun a1 a2 => ?_)
            · simp only [↓L44n0, ↓len, U_len, e1, ↓ix, ↓ld, c32, a1, a4, a5, e6, shr32_12, shr32_6, cont32 (c / 64) (by omega), cont32 c (by omega), w8n, wad224, wad128, b1, b3, b4, bld3, ↓p1, ↓uc_c, ↓uz_n, ↓cI_i, ↓cB_b, cB_b, ↓cT_t, cT_t, nth_z, nth_1, cK_b, ↓cK_b, ↓cK_i, cK_i, ifB_t, ifB_f, ↓ap_e, sel_t, sel_f, gsel_tt, gsel_tf, gsel_ft, gsel_ff, gsel_u, gd_tt, gd_tf, gd_ft, gd_ff, gd_u, ↓jn_n, jn_n, jn_r, ↓jn_r, blk_n, blk_r, ↓cl_r, cl_r, ↓iAdd_i, ↓iSub_i, ↓iMul_i, ↓iAnd_i, ↓iOr_i, ↓iXor_i, ↓iNeg_i, iQuo_i, iRem_i, ↓iConv_i, iConv_i, ↓bNot_b, bNot_b, ↓eqN_i, ↓ltN_i, ↓eqB_b, bnot_e, Int.ofNat_eq_natCast, Int.cast_ofNat_Int, Int.reduceBEq, Int.reduceAdd, Int.reduceNeg, Int.reduceNegSucc, Int.reduceLT, Int.reduceLE, Int.reduceMul, Int.reduceTMod, Int.reduceSub, Int.reduceBNe, Bool.not_true, Bool.not_false, decide_true, decide_false, w63_in, w31_in, ne_eq, not_false_eq_true, Int.reduceEq, reduceCtorEq, ww3131, ww6363, ww3163, ww6331, ww3231, ww3263, ww6463, ww6364, sh31, sh63, sl63, m31, m63, n63, s5a, s5b, s6a, s6b, b31, b32, b63, c63, c64, d64, iShl_c, iShr_c, sr3, sr6, sr7]
            · simp only [↓L44n0, ↓len, U_len, e1, ↓ix, ↓ld, c32, a1, a2, a4, a5, e6, shr32_12, shr32_6, cont32 (c / 64) (by omega), cont32 c (by omega), w8n, wad224, wad128, b1, b3, b4, bld3, ↓p1, ↓uc_c, ↓uz_n, ↓cI_i, ↓cB_b, cB_b, ↓cT_t, cT_t, nth_z, nth_1, cK_b, ↓cK_b, ↓cK_i, cK_i, ifB_t, ifB_f, ↓ap_e, sel_t, sel_f, gsel_tt, gsel_tf, gsel_ft, gsel_ff, gsel_u, gd_tt, gd_tf, gd_ft, gd_ff, gd_u, ↓jn_n, jn_n, jn_r, ↓jn_r, blk_n, blk_r, ↓cl_r, cl_r, ↓iAdd_i, ↓iSub_i, ↓iMul_i, ↓iAnd_i, ↓iOr_i, ↓iXor_i, ↓iNeg_i, iQuo_i, iRem_i, ↓iConv_i, iConv_i, ↓bNot_b, bNot_b, ↓eqN_i, ↓ltN_i, ↓eqB_b, bnot_e, Int.ofNat_eq_natCast, Int.cast_ofNat_Int, Int.reduceBEq, Int.reduceAdd, Int.reduceNeg, Int.reduceNegSucc, Int.reduceLT, Int.reduceLE, Int.reduceMul, Int.reduceTMod, Int.reduceSub, Int.reduceBNe, Bool.not_true, Bool.not_false, decide_true, decide_false, w63_in, w31_in, ne_eq, not_false_eq_true, Int.reduceEq, reduceCtorEq, ww3131, ww6363, ww3163, ww6331, ww3231, ww3263, ww6463, ww6364, sh31, sh63, sl63, m31, m63, n63, s5a, s5b, s6a, s6b, b31, b32, b63, c63, c64, d64, iShl_c, iShr_c, sr3, sr6, sr7]
    · exact stop (f + 1) m i h u acc hm hin hu hw ht
theorem utf_byt (c : Nat) (hc : c < 1114112) : ∀ x ∈ utf c, x < 256 := by
  intro x hx
  unfold utf at hx
  split at hx
  · simp at hx; omega
  · split at hx
    · simp at hx; omega
    · split at hx
      · simp at hx; omega
      · simp at hx; omega
theorem lone_byt (c : Nat) (hc : c < 1114112) : ∀ x ∈ lone c, x < 256 := by
  intro x hx
  unfold lone at hx
  split at hx
  · simp at hx; omega
  · exact utf_byt c hc x hx
theorem out_byt : ∀ (n : Nat) (t : List Nat), t.length ≤ n → (∀ x ∈ t, x < 65536) → ∀ x ∈ out t, x < 256 := by
  intro n
  induction n with
  | zero =>
    intro t ht hc x hx
    obtain rfl := List.eq_nil_of_length_eq_zero (Nat.le_zero.1 ht)
    cases hx
  | succ n ih =>
    intro t ht hc x hx
    cases t with
    | nil => cases hx
    | cons c r =>
      have hcc := hc c (List.mem_cons_self ..)
      have hr : ∀ x ∈ r, x < 65536 := fun x hx => hc x (List.mem_cons_of_mem _ hx)
      have hlr : r.length ≤ n := by simp at ht; exact ht
      cases r with
      | nil => exact lone_byt c (by omega) x (by simpa [out] using hx)
      | cons d s =>
        by_cases hp : (55296 ≤ c ∧ c < 56320) ∧ (56320 ≤ d ∧ d < 57344)
        · rw [out_pair c d s hp] at hx
          rcases List.mem_append.1 hx with hx | hx
          · exact utf_byt _ (by omega) x hx
          · exact ih s (by simp at hlr; omega) (fun x hx => hr x (List.mem_cons_of_mem _ hx)) x hx
        · rw [out_lone c (d :: s) (fun d' s' he => by obtain ⟨rfl, rfl⟩ := List.cons.inj he; exact hp)] at hx
          rcases List.mem_append.1 hx with hx | hx
          · exact lone_byt c (by omega) x hx
          · exact ih (d :: s) hlr hr x hx
theorem t43 {h : Hp} {P : Nat → Prop} {v : AV} {t : List Nat} (hv : Sl h P v (U t)) (hP : ∀ b, P b → b < h.nb) (hw : Wf h) (hc : ∀ x ∈ t, x < 65536) (hl : t.length ≤ 1000) :
    ∃ u h', s43 [v] h = .ret u h' ∧ Sl h' (fun b => h.nb ≤ b) u (Bs (out t)) ∧ To No h h' ∧ Wf h' := by
  have g0 : Gr h h.nb .nils (Bs []) := ⟨⟨by simp [Bs], .inl ⟨rfl, rfl⟩⟩, .inl rfl⟩
  obtain ⟨u, h', e, g, q, w⟩ := loop43 (N := h.nb) hv (fun b hb hn => by have := hP b hb; omega) hc hl t.length most 0 h .nils [] (by omega) (show _ < 1000000 by omega) (by omega) (by simp) g0 (Nat.le_refl _) hw (To.refl _ _)
  rw [show ((0 : Nat) : Int) = 0 from rfl] at e
  rw [List.nil_append, List.drop_zero] at g
  have cu := fun k => cK_sl g.1 k
  exact ⟨u, h', by simp only [↓s43, e, blk_e, show Nat.beq 0 0 = true from rfl, ↓cu, ↓uc_c, ↓uz_n, ↓cI_i, ↓cB_b, cB_b, ↓cT_t, cT_t, nth_z, nth_1, cK_b, ↓cK_b, ↓cK_i, cK_i, ifB_t, ifB_f, ↓ap_e, sel_t, sel_f, gsel_tt, gsel_tf, gsel_ft, gsel_ff, gsel_u, gd_tt, gd_tf, gd_ft, gd_ff, gd_u, ↓jn_n, jn_n, jn_r, ↓jn_r, blk_n, blk_r, ↓cl_r, cl_r, ↓iAdd_i, ↓iSub_i, ↓iMul_i, ↓iAnd_i, ↓iOr_i, ↓iXor_i, ↓iNeg_i, iQuo_i, iRem_i, ↓iConv_i, iConv_i, ↓bNot_b, bNot_b, ↓eqN_i, ↓ltN_i, ↓eqB_b, bnot_e, Int.ofNat_eq_natCast, Int.cast_ofNat_Int, Int.reduceBEq, Int.reduceAdd, Int.reduceNeg, Int.reduceNegSucc, Int.reduceLT, Int.reduceLE, Int.reduceMul, Int.reduceTMod, Int.reduceSub, Int.reduceBNe, Bool.not_true, Bool.not_false, decide_true, decide_false, w63_in, w31_in, ne_eq, not_false_eq_true, Int.reduceEq, reduceCtorEq, ww3131, ww6363, ww3163, ww6331, ww3231, ww3263, ww6463, ww6364, sh31, sh63, sl63, m31, m63, n63, s5a, s5b, s6a, s6b, b31, b32, b63, c63, c64, d64, iShl_c, iShr_c, sr3, sr6, sr7], g.1, q.mono fun b hb hn => by omega, w⟩
theorem t44 {h : Hp} {P : Nat → Prop} {v : AV} {t : List Nat} (hv : Sl h P v (U t)) (hP : ∀ b, P b → b < h.nb) (hw : Wf h) (hc : ∀ x ∈ t, x < 65536) (hl : t.length ≤ 1000) :
    ∃ u h', s44 [v] h = .ret u h' ∧ Sl h' (fun b => h.nb ≤ b) u (Bs (out t)) ∧ To No h h' ∧ Wf h' := by
  have g0 : Gr h h.nb .nils (Bs []) := ⟨⟨by simp [Bs], .inl ⟨rfl, rfl⟩⟩, .inl rfl⟩
  obtain ⟨u, h', e, g, q, w⟩ := loop44 (N := h.nb) hv (fun b hb hn => by have := hP b hb; omega) hc hl t.length most 0 h .nils [] (by omega) (show _ < 1000000 by omega) (by omega) (by simp) g0 (Nat.le_refl _) hw (To.refl _ _)
  rw [show ((0 : Nat) : Int) = 0 from rfl] at e
  rw [List.nil_append, List.drop_zero] at g
  have cu := fun k => cK_sl g.1 k
  exact ⟨u, h', by simp only [↓s44, e, blk_e, show Nat.beq 0 0 = true from rfl, ↓cu, ↓uc_c, ↓uz_n, ↓cI_i, ↓cB_b, cB_b, ↓cT_t, cT_t, nth_z, nth_1, cK_b, ↓cK_b, ↓cK_i, cK_i, ifB_t, ifB_f, ↓ap_e, sel_t, sel_f, gsel_tt, gsel_tf, gsel_ft, gsel_ff, gsel_u, gd_tt, gd_tf, gd_ft, gd_ff, gd_u, ↓jn_n, jn_n, jn_r, ↓jn_r, blk_n, blk_r, ↓cl_r, cl_r, ↓iAdd_i, ↓iSub_i, ↓iMul_i, ↓iAnd_i, ↓iOr_i, ↓iXor_i, ↓iNeg_i, iQuo_i, iRem_i, ↓iConv_i, iConv_i, ↓bNot_b, bNot_b, ↓eqN_i, ↓ltN_i, ↓eqB_b, bnot_e, Int.ofNat_eq_natCast, Int.cast_ofNat_Int, Int.reduceBEq, Int.reduceAdd, Int.reduceNeg, Int.reduceNegSucc, Int.reduceLT, Int.reduceLE, Int.reduceMul, Int.reduceTMod, Int.reduceSub, Int.reduceBNe, Bool.not_true, Bool.not_false, decide_true, decide_false, w63_in, w31_in, ne_eq, not_false_eq_true, Int.reduceEq, reduceCtorEq, ww3131, ww6363, ww3163, ww6331, ww3231, ww3263, ww6463, ww6364, sh31, sh63, sl63, m31, m63, n63, s5a, s5b, s6a, s6b, b31, b32, b63, c63, c64, d64, iShl_c, iShr_c, sr3, sr6, sr7], g.1, q.mono fun b hb hn => by omega, w⟩
end Go.Proofs.Ytnpfppddongbhaa
end

section
namespace Go.Proofs.Ytnpfppddongbhaa
open Go Go.AM
set_option autoImplicit false
set_option linter.unusedSimpArgs false
set_option linter.unusedVariables false
theorem same_s (n x : Nat) (k : Res) : same (.str n x) (.str n x) k = k := by
  have e : same (.str n x) (.str n x) k = ifB (sEq n x n x) k .fail := rfl
  have : sEq n x n x = true := by simp [sEq]
  rw [e, this]; rfl
theorem t36g {h : Hp} (hw : Wf h) : ∃ h', s36 [] h = .ret (.bool true) h' ∧ To No h h' ∧ Wf h' := by
  have dd : Dec 3 8437857 = some [97, 0] := by decide +kernel
  obtain ⟨v, h1, e1, s1, o1, w1⟩ := got_inv (t38 3 8437857 (by decide) h hw)
  rw [dd] at e1 s1
  simp only [Option.isSome_some, Option.getD_some] at e1 s1
  have len : ∀ k : AV → Res, lenL v k = k (.int 63 2) := fun k => lenL_sl s1 k
  obtain ⟨p, ix, ld⟩ := ix_sl2 s1 1 (by simp [U])
  have ix : ∀ k : AV → Res, ixA 1 v (.int 63 1) k = k p := ix
  have ld : ∀ k : AV → Res, ld1 h1 p k = k (.int 16 0) := ld
  have cv := fun k => cK_sl s1 k
  obtain ⟨h2, e2, o2, w2⟩ := t41 (Sl.low s1) (fun b hb => hb.2) w1 (by decide) (by decide)
  rw [show (enc [97, 0]).length = 3 by decide, show pk (enc [97, 0]) = 8437857 by decide] at e2
  obtain ⟨z, h3, e3, s3, o3, w3, -⟩ := mkS_lit w2 (U [55357, 56832]) (U_one _)
  have e3 : ∀ k : AV → Hp → Res, mkS h2 1 2 (avL [.int 16 55357, .int 16 56832]) k = k z h3 := e3
  obtain ⟨y, h4, e4, s4', o4, w4⟩ := t43 s3 (fun b hb => hb.2) w3 (by decide) (by decide)
  have bo := b2s_sl s4' (out_byt 2 _ (by decide) (by decide))
  rw [show (out [55357, 56832]).length = 4 by decide, show pk (out [55357, 56832]) = 2157486064 by decide] at bo
  refine ⟨h4, ?_, ((o1.trans o2).trans o3).trans o4, w4⟩
  simp only [↓s36, ↓e1, nth_z, nth_1, ↓cv, ↓len, ↓ix, ↓ld, ↓e2, ↓eqS_self, bld2, ↓e3, ↓e4, ↓bo, ↓uc_c, ↓uz_n, ↓cI_i, ↓cB_b, cB_b, ↓cT_t, cT_t, nth_z, nth_1, cK_b, ↓cK_b, ↓cK_i, cK_i, ifB_t, ifB_f, ↓ap_e, sel_t, sel_f, gsel_tt, gsel_tf, gsel_ft, gsel_ff, gsel_u, gd_tt, gd_tf, gd_ft, gd_ff, gd_u, ↓jn_n, jn_n, jn_r, ↓jn_r, blk_n, blk_r, ↓cl_r, cl_r, ↓iAdd_i, ↓iSub_i, ↓iMul_i, ↓iAnd_i, ↓iOr_i, ↓iXor_i, ↓iNeg_i, iQuo_i, iRem_i, ↓iConv_i, iConv_i, ↓bNot_b, bNot_b, ↓eqN_i, ↓ltN_i, ↓eqB_b, bnot_e, Int.ofNat_eq_natCast, Int.cast_ofNat_Int, Int.reduceBEq, Int.reduceAdd, Int.reduceNeg, Int.reduceNegSucc, Int.reduceLT, Int.reduceLE, Int.reduceMul, Int.reduceTMod, Int.reduceSub, Int.reduceBNe, Bool.not_true, Bool.not_false, decide_true, decide_false, w63_in, w31_in, ne_eq, not_false_eq_true, Int.reduceEq, reduceCtorEq, ww3131, ww6363, ww3163, ww6331, ww3231, ww3263, ww6463, ww6364, sh31, sh63, sl63, m31, m63, n63, s5a, s5b, s6a, s6b, b31, b32, b63, c63, c64, d64, iShl_c, iShr_c, sr3, sr6, sr7]
theorem chars_of {w : World} {V : Value} {l : List Int} (A : ArgS .u16 w V l) : ∃ t : List Nat, (l.map fun n => AV.int (cOf .u16) n) = U t ∧ (∀ x ∈ t, x < 65536) ∧ t.length = l.length := by
  have hwf := A.wf
  refine ⟨l.map Int.toNat, ?_, ?_, by simp⟩
  · simp only [U, List.map_map]
    refine List.map_congr_left fun n hn => ?_
    have := hwf n hn
    simp [Lit.wf, IntKind.min, IntKind.max, IntKind.signed, IntKind.bits] at this
    show AV.int 16 n = AV.int 16 (n.toNat : Int)
    congr 1
    omega
  · intro x hx
    obtain ⟨n, hn, rfl⟩ := List.mem_map.1 hx
    have := hwf n hn
    simp [Lit.wf, IntKind.min, IntKind.max, IntKind.signed, IntKind.bits] at this
    omega
theorem lawBack {h : Hp} {v : AV} {t : List Nat} (hs : Sl h (fun b => b < h.nb) v (U t)) (hw : Wf h) (hc : ∀ x ∈ t, x < 65536) (ht : t.length ≤ 9223372036854775807) : ∃ h', s8 [v] h = .ret (.bool true) h' := by
  obtain ⟨h1, e1, o1, w1⟩ := t36g hw
  -- the cut
  obtain ⟨v1, hcut, s1⟩ : ∃ v1, (lenL v fun v7 => ltN (.int 63 100) v7 fun b8 => ifB b8 (cutS 1 v none (some (.int 63 100)) none fun v10 => .norm [v10, .bool true] h1) (.norm [v, .bool true] h1)) = .norm [v1, .bool true] h1 ∧ Sl h1 (fun b => b < h1.nb) v1 (U (t.take 100)) := by
    have hs1 := (hs.to o1 (fun _ _ f => f)).mono (fun b hb => Nat.lt_of_lt_of_le hb o1.nb)
    have len := fun k => lenL_sl hs1 k
    by_cases hl : 100 < t.length
    · have a1 : (100 : Int) < (t.length : Int) := by omega
      obtain ⟨v1, g1, g2⟩ := cut_sl hs1 (c1 := 63) (c2 := 63) 0 100 (by omega) (by rw [U_len]; omega)
      have g1 : ∀ k : AV → Res, cutS 1 v (some (.int 63 0)) (some (.int 63 100)) none k = k v1 := g1
      have e : (((U t).drop 0).take (100 - 0)) = U (t.take 100) := by simp [U, List.map_take]
      rw [e] at g2
      have cl0 : ∀ k : AV → Res, cutS 1 v none (some (.int 63 100)) none k = k v1 := fun k => (cut_lo0 1 v _ k).trans (g1 k)
      exact ⟨v1, by simp only [↓len, U_len, a1, cl0, ↓uc_c, ↓uz_n, ↓cI_i, ↓cB_b, cB_b, ↓cT_t, cT_t, nth_z, nth_1, cK_b, ↓cK_b, ↓cK_i, cK_i, ifB_t, ifB_f, ↓ap_e, sel_t, sel_f, gsel_tt, gsel_tf, gsel_ft, gsel_ff, gsel_u, gd_tt, gd_tf, gd_ft, gd_ff, gd_u, ↓jn_n, jn_n, jn_r, ↓jn_r, blk_n, blk_r, ↓cl_r, cl_r, ↓iAdd_i, ↓iSub_i, ↓iMul_i, ↓iAnd_i, ↓iOr_i, ↓iXor_i, ↓iNeg_i, iQuo_i, iRem_i, ↓iConv_i, iConv_i, ↓bNot_b, bNot_b, ↓eqN_i, ↓ltN_i, ↓eqB_b, bnot_e, Int.ofNat_eq_natCast, Int.cast_ofNat_Int, Int.reduceBEq, Int.reduceAdd, Int.reduceNeg, Int.reduceNegSucc, Int.reduceLT, Int.reduceLE, Int.reduceMul, Int.reduceTMod, Int.reduceSub, Int.reduceBNe, Bool.not_true, Bool.not_false, decide_true, decide_false, w63_in, w31_in, ne_eq, not_false_eq_true, Int.reduceEq, reduceCtorEq, ww3131, ww6363, ww3163, ww6331, ww3231, ww3263, ww6463, ww6364, sh31, sh63, sl63, m31, m63, n63, s5a, s5b, s6a, s6b, b31, b32, b63, c63, c64, d64, iShl_c, iShr_c, sr3, sr6, sr7], g2⟩
    · have a1 : ¬ (100 : Int) < (t.length : Int) := by omega
      rw [List.take_of_length_le (by omega)]
      exact ⟨v, by simp only [↓len, U_len, a1, ↓uc_c, ↓uz_n, ↓cI_i, ↓cB_b, cB_b, ↓cT_t, cT_t, nth_z, nth_1, cK_b, ↓cK_b, ↓cK_i, cK_i, ifB_t, ifB_f, ↓ap_e, sel_t, sel_f, gsel_tt, gsel_tf, gsel_ft, gsel_ff, gsel_u, gd_tt, gd_tf, gd_ft, gd_ff, gd_u, ↓jn_n, jn_n, jn_r, ↓jn_r, blk_n, blk_r, ↓cl_r, cl_r, ↓iAdd_i, ↓iSub_i, ↓iMul_i, ↓iAnd_i, ↓iOr_i, ↓iXor_i, ↓iNeg_i, iQuo_i, iRem_i, ↓iConv_i, iConv_i, ↓bNot_b, bNot_b, ↓eqN_i, ↓ltN_i, ↓eqB_b, bnot_e, Int.ofNat_eq_natCast, Int.cast_ofNat_Int, Int.reduceBEq, Int.reduceAdd, Int.reduceNeg, Int.reduceNegSucc, Int.reduceLT, Int.reduceLE, Int.reduceMul, Int.reduceTMod, Int.reduceSub, Int.reduceBNe, Bool.not_true, Bool.not_false, decide_true, decide_false, w63_in, w31_in, ne_eq, not_false_eq_true, Int.reduceEq, reduceCtorEq, ww3131, ww6363, ww3163, ww6331, ww3231, ww3263, ww6463, ww6364, sh31, sh63, sl63, m31, m63, n63, s5a, s5b, s6a, s6b, b31, b32, b63, c63, c64, d64, iShl_c, iShr_c, sr3, sr6, sr7], hs1⟩
  have hc1 : ∀ x ∈ t.take 100, x < 65536 := fun x hx => hc x (List.mem_of_mem_take hx)
  have hl1 : (t.take 100).length ≤ 100 := by simp; omega
  generalize t.take 100 = r at *
  obtain ⟨h2, e2, o2, w2⟩ := t41 s1 (fun b hb => hb) w1 hc1 (by omega)
  have el := enc_len r
  obtain ⟨v2, h3, e3, s3, o3, w3⟩ := got_inv (t38 (enc r).length (pk (enc r)) (by omega) h2 w2)
  rw [Dec_enc hc1] at e3 s3
  simp only [Option.isSome_some, Option.getD_some] at e3 s3
  have s13 := ((s1.to o2 (fun _ _ f => f)).to o3 (fun _ _ f => f)).mono (fun b hb => Nat.lt_of_lt_of_le hb (Nat.le_trans o2.nb o3.nb))
  obtain ⟨h4, e4, o4, w4⟩ := t42 s13 (fun b hb => hb) w3 hc1 (by omega)
  have e5 := t40 (s13.to o4 (fun _ _ f => f)) (s3.to o4 (fun _ _ f => f)) (by omega)
  have s14 := (s13.to o4 (fun _ _ f => f)).mono (fun b hb => Nat.lt_of_lt_of_le hb o4.nb)
  obtain ⟨y, h6, e6, s6, o6, w6⟩ := t43 s14 (fun b hb => hb) w4 hc1 (by omega)
  have s16 := (s14.to o6 (fun _ _ f => f)).mono (fun b hb => Nat.lt_of_lt_of_le hb o6.nb)
  obtain ⟨z, h7, e7, s7', o7, w7⟩ := t44 s16 (fun b hb => hb) w6 hc1 (by omega)
  have ob := out_byt _ r (Nat.le_refl _) hc1
  have k1 := b2s_sl s6 ob
  have k2 := b2s_sl (s6.to o7 (fun _ _ f => f)) ob
  have k3 := b2s_sl s7' ob
  have cv := fun k => cK_sl s3 k
  refine ⟨h7, ?_⟩
  simp only [↓s8, ↓e1, hcut, ↓e2, ↓e3, nth_z, nth_1, ↓cv, ↓e4, ↓eqS_self, ↓e5, ↓e6, ↓k1, ↓e7, ↓k2, ↓same_s, ↓k3, ↓uc_c, ↓uz_n, ↓cI_i, ↓cB_b, cB_b, ↓cT_t, cT_t, nth_z, nth_1, cK_b, ↓cK_b, ↓cK_i, cK_i, ifB_t, ifB_f, ↓ap_e, sel_t, sel_f, gsel_tt, gsel_tf, gsel_ft, gsel_ff, gsel_u, gd_tt, gd_tf, gd_ft, gd_ff, gd_u, ↓jn_n, jn_n, jn_r, ↓jn_r, blk_n, blk_r, ↓cl_r, cl_r, ↓iAdd_i, ↓iSub_i, ↓iMul_i, ↓iAnd_i, ↓iOr_i, ↓iXor_i, ↓iNeg_i, iQuo_i, iRem_i, ↓iConv_i, iConv_i, ↓bNot_b, bNot_b, ↓eqN_i, ↓ltN_i, ↓eqB_b, bnot_e, Int.ofNat_eq_natCast, Int.cast_ofNat_Int, Int.reduceBEq, Int.reduceAdd, Int.reduceNeg, Int.reduceNegSucc, Int.reduceLT, Int.reduceLE, Int.reduceMul, Int.reduceTMod, Int.reduceSub, Int.reduceBNe, Bool.not_true, Bool.not_false, decide_true, decide_false, w63_in, w31_in, ne_eq, not_false_eq_true, Int.reduceEq, reduceCtorEq, ww3131, ww6363, ww3163, ww6331, ww3231, ww3263, ww6463, ww6364, sh31, sh63, sl63, m31, m63, n63, s5a, s5b, s6a, s6b, b31, b32, b63, c63, c64, d64, iShl_c, iShr_c, sr3, sr6, sr7]
theorem walkBack (w : World) (V : Value) (l : List Int) (A : ArgS .u16 w V l) : Calls Try.prog 8 #[V] w fun e w' => e = .returned (.bool true) ∧ Kept w w' := by
  obtain ⟨ρ, h, v, hA, -, hv, hs, -⟩ := add_arg (Args.none w) A
  obtain ⟨t, ht, hb, hl⟩ := chars_of A
  rw [ht] at hs
  obtain ⟨h', e⟩ := lawBack hs hA.wf hb (by have := ArgS.len A; omega)
  exact law_walk2 F8.1 hA e (.cons hv .nil)
end Go.Proofs.Ytnpfppddongbhaa
end
