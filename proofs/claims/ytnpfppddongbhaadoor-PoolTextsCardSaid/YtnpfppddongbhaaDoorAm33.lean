/-
  The abstract machine, part 33: plain equations by which its texts are reckoned.
-/
import Derived.Test.YtnpfppddongbhaaDoorAm32
namespace Go.AM
open Go
set_option autoImplicit false

section
variable (k : AV → Res) (kh : AV → Hp → Res) (h : Hp) (v w : AV) (vs : List AV) (r x y : Res) (b : Bool) (i : Nat)

theorem uc_c (k : AV → List AV → Res) : uc (v :: vs) k = k v vs := of_eq_true (eq_self _)
theorem uz_n : uz [] r = r := of_eq_true (eq_self _)
theorem cI_i (c : Nat) (n : Int) (k : Nat → Int → Res) : cI (.int c n) k = k c n := of_eq_true (eq_self _)
theorem cB_b (k : Bool → Res) : cB (.bool b) k = k b := of_eq_true (eq_self _)
theorem cS_s (n m : Nat) (k : Nat → Nat → Res) : cS (.str n m) k = k n m := of_eq_true (eq_self _)
theorem cP_p (n m : Nat) (k : Nat → Nat → Res) : cP (.ptr n m) k = k n m := of_eq_true (eq_self _)
theorem cL_l (b o n z : Nat) (c : Option Nat) (k : Nat → Nat → Nat → Nat → Option Nat → Res) : cL (.sl b o n z c) k = k b o n z c := of_eq_true (eq_self _)
theorem cA_a : cA (.agg v) k = k v := of_eq_true (eq_self _)
theorem cT_t : cT (.tup v) k = k v := of_eq_true (eq_self _)
theorem nth_z (t : AV) : nth (.cons v t) 0 = v := of_eq_true (eq_self _)
theorem nth_s (t : AV) : nth (.cons v t) (i + 1) = nth t i := of_eq_true (eq_self _)
theorem nth_1 (a t : AV) : nth (.cons a (.cons v t)) 1 = v := of_eq_true (eq_self _)
theorem nth_2 (a a' t : AV) : nth (.cons a (.cons a' (.cons v t))) 2 = v := of_eq_true (eq_self _)
theorem nth_3 (a a' a'' t : AV) : nth (.cons a (.cons a' (.cons a'' (.cons v t)))) 3 = v := of_eq_true (eq_self _)
theorem cK_b : cK (.bool b) k = k (.bool b) := of_eq_true (eq_self _)
theorem cK_i (c : Nat) (n : Int) : cK (.int c n) k = k (.int c n) := of_eq_true (eq_self _)
theorem cK_s (n m : Nat) : cK (.str n m) k = k (.str n m) := of_eq_true (eq_self _)
theorem cK_np : cK .nilp k = k .nilp := of_eq_true (eq_self _)
theorem cK_p (n m : Nat) : cK (.ptr n m) k = k (.ptr n m) := of_eq_true (eq_self _)
theorem cK_nl : cK .nils k = k .nils := of_eq_true (eq_self _)
theorem cK_l (b o n z : Nat) (c : Option Nat) : cK (.sl b o n z c) k = k (.sl b o n z c) := of_eq_true (eq_self _)
theorem cK_el : cK .esl k = k .esl := of_eq_true (eq_self _)
theorem cK_a : cK (.agg v) k = k (.agg v) := of_eq_true (eq_self _)
theorem cK_t : cK (.tup v) k = k (.tup v) := of_eq_true (eq_self _)
theorem ifB_t : ifB true x y = x := of_eq_true (eq_self _)
theorem ifB_f : ifB false x y = y := of_eq_true (eq_self _)
theorem ap_e : ap v k = k v := of_eq_true (eq_self _)
theorem sel_t : sel true v w = v := of_eq_true (eq_self _)
theorem sel_f : sel false v w = w := of_eq_true (eq_self _)
theorem gsel_tt : gsel (.bool true) true v = v := of_eq_true (eq_self _)
theorem gsel_tf : gsel (.bool true) false v = .tup .nil := of_eq_true (eq_self _)
theorem gsel_ft : gsel (.bool false) true v = .tup .nil := of_eq_true (eq_self _)
theorem gsel_ff : gsel (.bool false) false v = v := of_eq_true (eq_self _)
theorem gd_tt : gd (.bool true) true x y = x := of_eq_true (eq_self _)
theorem gd_tf : gd (.bool true) false x y = y := of_eq_true (eq_self _)
theorem gd_ft : gd (.bool false) true x y = y := of_eq_true (eq_self _)
theorem gd_ff : gd (.bool false) false x y = x := of_eq_true (eq_self _)
theorem gd_u (t : AV) (want : Bool) : gd (.tup t) want x y = y := of_eq_true (eq_self _)
theorem gsel_u (t : AV) (want : Bool) : gsel (.tup t) want v = .tup .nil := of_eq_true (eq_self _)
theorem jn_n (k : List AV → Hp → Res) : jn (.norm vs h) k = k vs h := of_eq_true (eq_self _)
theorem jn_e (k : List AV → Hp → Res) : jn (.exit i vs h) k = .exit i vs h := of_eq_true (eq_self _)
theorem jn_r (k : List AV → Hp → Res) : jn (.ret v h) k = .ret v h := of_eq_true (eq_self _)
theorem jn_if (k : List AV → Hp → Res) : jn (ifB b x y) k = ifB b (jn x k) (jn y k) := by cases b <;> rfl
theorem blk_n (id : Nat) (k : List AV → Hp → Res) : blk id (.norm vs h) k = k vs h := of_eq_true (eq_self _)
theorem blk_r (id : Nat) (k : List AV → Hp → Res) : blk id (.ret v h) k = .ret v h := of_eq_true (eq_self _)
theorem blk_e (id : Nat) (k : List AV → Hp → Res) : blk id (.exit i vs h) k = ifB (Nat.beq i id) (k vs h) (.exit i vs h) := of_eq_true (eq_self _)
theorem blk_if (id : Nat) (k : List AV → Hp → Res) : blk id (ifB b x y) k = ifB b (blk id x k) (blk id y k) := by cases b <;> rfl
theorem cl_r : cl (.ret v h) kh = kh v h := of_eq_true (eq_self _)
theorem cl_if : cl (ifB b x y) kh = ifB b (cl x kh) (cl y kh) := by cases b <;> rfl

variable (c : Nat) (m n : Int)
theorem bin2_i (k : Nat → Int → Int → Res) : bin2 (.int c m) (.int c n) k = k c m n := by
  have : bin2 (.int c m) (.int c n) k = ifB (Nat.beq c c) (k c m n) .fail := of_eq_true (eq_self _)
  rw [this, (beq_iff c c).2 rfl]; rfl
theorem iAdd_i : iAdd (.int c m) (.int c n) k = k (.int c (wrapC c (m + n))) := bin2_i c m n _
theorem iSub_i : iSub (.int c m) (.int c n) k = k (.int c (wrapC c (m - n))) := bin2_i c m n _
theorem iMul_i : iMul (.int c m) (.int c n) k = k (.int c (wrapC c (m * n))) := bin2_i c m n _
theorem iAnd_i : iAnd (.int c m) (.int c n) k = k (.int c (wrapC c (Int.ofNat (Nat.land (toU c m) (toU c n))))) := bin2_i c m n _
theorem iOr_i : iOr (.int c m) (.int c n) k = k (.int c (wrapC c (Int.ofNat (Nat.lor (toU c m) (toU c n))))) := bin2_i c m n _
theorem iXor_i : iXor (.int c m) (.int c n) k = k (.int c (wrapC c (Int.ofNat (Nat.xor (toU c m) (toU c n))))) := bin2_i c m n _
theorem iQuo_i (hn : n ≠ 0) : iQuo (.int c m) (.int c n) k = k (.int c (wrapC c (m.tdiv n))) := by
  have : iQuo (.int c m) (.int c n) k = bin2 (.int c m) (.int c n) fun c a b => ifB (eqI b (Int.ofNat 0)) .fail (k (.int c (wrapC c (Int.tdiv a b)))) := of_eq_true (eq_self _)
  rw [this, bin2_i, eqI_eq]
  have : (n == Int.ofNat 0) = false := by simpa using hn
  rw [this]; rfl
theorem iRem_i (hn : n ≠ 0) : iRem (.int c m) (.int c n) k = k (.int c (m.tmod n)) := by
  have : iRem (.int c m) (.int c n) k = bin2 (.int c m) (.int c n) fun c a b => ifB (eqI b (Int.ofNat 0)) .fail (k (.int c (Int.tmod a b))) := of_eq_true (eq_self _)
  rw [this, bin2_i, eqI_eq]
  have : (n == Int.ofNat 0) = false := by simpa using hn
  rw [this]; rfl
theorem iNeg_i : iNeg (.int c m) k = k (.int c (wrapC c (0 - m))) := of_eq_true (eq_self _)
theorem iConv_i (d : Nat) : iConv d (.int c m) k = k (.int d (wrapC d m)) := of_eq_true (eq_self _)
theorem bNot_b : bNot (.bool b) k = k (.bool (!b)) := by cases b <;> rfl
theorem eqN_i (k : Bool → Res) : eqN (.int c m) (.int c n) k = k (m == n) := by
  have : eqN (.int c m) (.int c n) k = bin2 (.int c m) (.int c n) fun _ a b => k (eqI a b) := of_eq_true (eq_self _)
  rw [this, bin2_i, eqI_eq]
theorem ltN_i (k : Bool → Res) : ltN (.int c m) (.int c n) k = k (decide (m < n)) := by
  have : ltN (.int c m) (.int c n) k = bin2 (.int c m) (.int c n) fun _ a b => k (ltI a b) := of_eq_true (eq_self _)
  rw [this, bin2_i, ltI_eq]
theorem eqB_b (a : Bool) (k : Bool → Res) : eqB (.bool a) (.bool b) k = k (a == b) := by
  have : eqB (.bool a) (.bool b) k = k (beqB a b) := of_eq_true (eq_self _)
  rw [this, beqB_eq]
theorem bnot_e : bnot b = !b := by cases b <;> rfl
/-- A shift by a number below the bits. -/
theorem iShl_i (d j : Nat) (hj : j ≤ bitsC c) : iShl (.int c m) (.int d (Int.ofNat j)) k = k (.int c (wrapC c (m * Int.ofNat (2 ^ j)))) := by
  have : iShl (.int c m) (.int d (Int.ofNat j)) k = k (.int c (wrapC c (m * Int.ofNat (2 ^ (Bool.rec (motive := fun _ => Nat) (bitsC c) j (Nat.ble j (bitsC c))))))) := of_eq_true (eq_self _)
  rw [this, (ble_iff _ _).2 hj]
theorem iShr_i (d j : Nat) (hj : j ≤ bitsC c) : iShr (.int c m) (.int d (Int.ofNat j)) k = k (.int c (shrI m j)) := by
  have : iShr (.int c m) (.int d (Int.ofNat j)) k = k (.int c (shrI m (Bool.rec (motive := fun _ => Nat) (bitsC c) j (Nat.ble j (bitsC c))))) := of_eq_true (eq_self _)
  rw [this, (ble_iff _ _).2 hj]
end

/-! ### where a test is reckoned first -/
@[congr] theorem ifB_cg {b b' : Bool} (h : b = b') (x y : Res) : ifB b x y = ifB b' x y := by rw [h]
@[congr] theorem jn_cg {r r' : Res} (h : r = r') (k : List AV → Hp → Res) : jn r k = jn r' k := by rw [h]
@[congr] theorem blk_cg {r r' : Res} (h : r = r') (id : Nat) (k : List AV → Hp → Res) : blk id r k = blk id r' k := by rw [h]
@[congr] theorem cl_cg {r r' : Res} (h : r = r') (k : AV → Hp → Res) : cl r k = cl r' k := by rw [h]
@[congr] theorem cK_cg {v v' : AV} (h : v = v') (k : AV → Res) : cK v k = cK v' k := by rw [h]
@[congr] theorem cB_cg {v v' : AV} (h : v = v') (k : Bool → Res) : cB v k = cB v' k := by rw [h]
@[congr] theorem cI_cg {v v' : AV} (h : v = v') (k : Nat → Int → Res) : cI v k = cI v' k := by rw [h]
@[congr] theorem cT_cg {v v' : AV} (h : v = v') (k : AV → Res) : cT v k = cT v' k := by rw [h]
@[congr] theorem gd_cg {v v' : AV} (h : v = v') (w : Bool) (x y : Res) : gd v w x y = gd v' w x y := by rw [h]
@[congr] theorem ap_cg {v v' : AV} (h : v = v') (k : AV → Res) : ap v k = ap v' k := by rw [h]
@[congr] theorem bNot_cg {v v' : AV} (h : v = v') (k : AV → Res) : bNot v k = bNot v' k := by rw [h]
@[congr] theorem iConv_cg {v v' : AV} (h : v = v') (c : Nat) (k : AV → Res) : iConv c v k = iConv c v' k := by rw [h]
@[congr] theorem uc_cg {v v' : List AV} (h : v = v') (k : AV → List AV → Res) : uc v k = uc v' k := by rw [h]
@[congr] theorem eqN_cg {v v' w w' : AV} (h : v = v') (h' : w = w') (k : Bool → Res) : eqN v w k = eqN v' w' k := by rw [h, h']
@[congr] theorem ltN_cg {v v' w w' : AV} (h : v = v') (h' : w = w') (k : Bool → Res) : ltN v w k = ltN v' w' k := by rw [h, h']
@[congr] theorem eqB_cg {v v' w w' : AV} (h : v = v') (h' : w = w') (k : Bool → Res) : eqB v w k = eqB v' w' k := by rw [h, h']
@[congr] theorem iAdd_cg {v v' w w' : AV} (h : v = v') (h' : w = w') (k : AV → Res) : iAdd v w k = iAdd v' w' k := by rw [h, h']
@[congr] theorem iSub_cg {v v' w w' : AV} (h : v = v') (h' : w = w') (k : AV → Res) : iSub v w k = iSub v' w' k := by rw [h, h']
@[congr] theorem iMul_cg {v v' w w' : AV} (h : v = v') (h' : w = w') (k : AV → Res) : iMul v w k = iMul v' w' k := by rw [h, h']
@[congr] theorem iQuo_cg {v v' w w' : AV} (h : v = v') (h' : w = w') (k : AV → Res) : iQuo v w k = iQuo v' w' k := by rw [h, h']
@[congr] theorem iRem_cg {v v' w w' : AV} (h : v = v') (h' : w = w') (k : AV → Res) : iRem v w k = iRem v' w' k := by rw [h, h']
@[congr] theorem iAnd_cg {v v' w w' : AV} (h : v = v') (h' : w = w') (k : AV → Res) : iAnd v w k = iAnd v' w' k := by rw [h, h']
@[congr] theorem iOr_cg {v v' w w' : AV} (h : v = v') (h' : w = w') (k : AV → Res) : iOr v w k = iOr v' w' k := by rw [h, h']
@[congr] theorem iXor_cg {v v' w w' : AV} (h : v = v') (h' : w = w') (k : AV → Res) : iXor v w k = iXor v' w' k := by rw [h, h']
@[congr] theorem iShl_cg {v v' w w' : AV} (h : v = v') (h' : w = w') (k : AV → Res) : iShl v w k = iShl v' w' k := by rw [h, h']
@[congr] theorem iShr_cg {v v' w w' : AV} (h : v = v') (h' : w = w') (k : AV → Res) : iShr v w k = iShr v' w' k := by rw [h, h']

/-! ### wraps -/
theorem wrap_bmod (k : IntKind) (h : k.signed = true) (n : Int) : k.wrap n = Int.bmod n (2 ^ k.bits) := by
  unfold IntKind.wrap Int.bmod
  cases k <;> simp [IntKind.signed] at h <;> simp [IntKind.bits, IntKind.signed] <;> omega
theorem w63 (n : Int) : wrapC 63 n = Int.bmod n 18446744073709551616 := (wrapC_eq .i64 n).trans (wrap_bmod .i64 rfl n)
theorem w31 (n : Int) : wrapC 31 n = Int.bmod n 4294967296 := (wrapC_eq .i32 n).trans (wrap_bmod .i32 rfl n)
theorem w15 (n : Int) : wrapC 15 n = Int.bmod n 65536 := (wrapC_eq .i16 n).trans (wrap_bmod .i16 rfl n)
theorem w7 (n : Int) : wrapC 7 n = Int.bmod n 256 := (wrapC_eq .i8 n).trans (wrap_bmod .i8 rfl n)
theorem wrap_umod (k : IntKind) (h : k.signed = false) (n : Int) : k.wrap n = n % 2 ^ k.bits := by
  unfold IntKind.wrap
  simp [h]
theorem w64 (n : Int) : wrapC 64 n = n % 18446744073709551616 := (wrapC_eq .u64 n).trans (wrap_umod .u64 rfl n)
theorem w32 (n : Int) : wrapC 32 n = n % 4294967296 := (wrapC_eq .u32 n).trans (wrap_umod .u32 rfl n)
theorem w16 (n : Int) : wrapC 16 n = n % 65536 := (wrapC_eq .u16 n).trans (wrap_umod .u16 rfl n)
theorem w8 (n : Int) : wrapC 8 n = n % 256 := (wrapC_eq .u8 n).trans (wrap_umod .u8 rfl n)
theorem w63_in (n : Int) (h1 : -9223372036854775808 ≤ n) (h2 : n < 9223372036854775808) : wrapC 63 n = n := by rw [w63]; simp only [Int.bmod]; split <;> omega
theorem w31_in (n : Int) (h1 : -2147483648 ≤ n) (h2 : n < 2147483648) : wrapC 31 n = n := by rw [w31]; simp only [Int.bmod]; split <;> omega
theorem w16_in (n : Int) (h1 : 0 ≤ n) (h2 : n < 65536) : wrapC 16 n = n := by rw [w16]; omega
theorem w8_in (n : Int) (h1 : 0 ≤ n) (h2 : n < 256) : wrapC 8 n = n := by rw [w8]; omega
end Go.AM
