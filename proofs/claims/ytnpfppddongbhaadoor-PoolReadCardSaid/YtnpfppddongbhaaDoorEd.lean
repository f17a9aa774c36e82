/-
  An abstract machine for the model's code, part 4: what it answers is what the model does.
-/
import Derived.Test.YtnpfppddongbhaaDoorEc
import Derived.ChangeSlices
import Derived.OpenShut
import Derived.Laws.StandIn
import Derived.Lib.Bytealg
set_option linter.unusedVariables false
set_option linter.unusedSimpArgs false
namespace Go.AM
open Go
set_option autoImplicit false

section
variable (k : AV → Res) (kh : AV → Hp → Res) (h : Hp) (v w : AV) (vs : List AV) (r x y : Res) (b : Bool) (i : Nat)

theorem uc_c (k : AV → List AV → Res) : uc (v :: vs) k = k v vs := of_eq_true (eq_self _)
theorem uz_n : uz [] r = r := of_eq_true (eq_self _)
theorem cI_i (c : Nat) (n : Int) (k : Nat → Int → Res) : cI (.int c n) k = k c n := of_eq_true (eq_self _)
theorem cB_b (k : Bool → Res) : cB (.bool b) k = k b := of_eq_true (eq_self _)
theorem cS_s (n m : Nat) (k : Nat → Nat → Res) : cS (.str n m) k = k n m := of_eq_true (eq_self _)
theorem cP_p (n m : Nat) (k : Nat → Nat → Res) : cP (.ptr n m) k = k n m := of_eq_true (eq_self _)
theorem cL_l (b o n z : Nat) (c : Option Nat) (k : Nat → Nat → Nat → Nat → Option Nat → Res) : cL (.sl b o n z c) k = k b o n z c := of_eq_true (eq_self _)
theorem cA_a : cA (.agg v) k = k v := of_eq_true (eq_self _)
theorem cT_t : cT (.tup v) k = k v := of_eq_true (eq_self _)
theorem nth_z (t : AV) : nth (.cons v t) 0 = v := of_eq_true (eq_self _)
theorem nth_s (t : AV) : nth (.cons v t) (i + 1) = nth t i := of_eq_true (eq_self _)
theorem nth_1 (a t : AV) : nth (.cons a (.cons v t)) 1 = v := of_eq_true (eq_self _)
theorem nth_2 (a a' t : AV) : nth (.cons a (.cons a' (.cons v t))) 2 = v := of_eq_true (eq_self _)
theorem nth_3 (a a' a'' t : AV) : nth (.cons a (.cons a' (.cons a'' (.cons v t)))) 3 = v := of_eq_true (eq_self _)
theorem cK_b : cK (.bool b) k = k (.bool b) := of_eq_true (eq_self _)
theorem cK_i (c : Nat) (n : Int) : cK (.int c n) k = k (.int c n) := of_eq_true (eq_self _)
theorem cK_s (n m : Nat) : cK (.str n m) k = k (.str n m) := of_eq_true (eq_self _)
theorem cK_np : cK .nilp k = k .nilp := of_eq_true (eq_self _)
theorem cK_p (n m : Nat) : cK (.ptr n m) k = k (.ptr n m) := of_eq_true (eq_self _)
theorem cK_nl : cK .nils k = k .nils := of_eq_true (eq_self _)
theorem cK_l (b o n z : Nat) (c : Option Nat) : cK (.sl b o n z c) k = k (.sl b o n z c) := of_eq_true (eq_self _)
theorem cK_el : cK .esl k = k .esl := of_eq_true (eq_self _)
theorem cK_a : cK (.agg v) k = k (.agg v) := of_eq_true (eq_self _)
theorem cK_t : cK (.tup v) k = k (.tup v) := of_eq_true (eq_self _)
theorem ifB_t : ifB true x y = x := of_eq_true (eq_self _)
theorem ifB_f : ifB false x y = y := of_eq_true (eq_self _)
theorem ap_e : ap v k = k v := of_eq_true (eq_self _)
theorem sel_t : sel true v w = v := of_eq_true (eq_self _)
theorem sel_f : sel false v w = w := of_eq_true (eq_self _)
theorem gsel_tt : gsel (.bool true) true v = v := of_eq_true (eq_self _)
theorem gsel_tf : gsel (.bool true) false v = .tup .nil := of_eq_true (eq_self _)
theorem gsel_ft : gsel (.bool false) true v = .tup .nil := of_eq_true (eq_self _)
theorem gsel_ff : gsel (.bool false) false v = v := of_eq_true (eq_self _)
theorem gd_tt : gd (.bool true) true x y = x := of_eq_true (eq_self _)
theorem gd_tf : gd (.bool true) false x y = y := of_eq_true (eq_self _)
theorem gd_ft : gd (.bool false) true x y = y := of_eq_true (eq_self _)
theorem gd_ff : gd (.bool false) false x y = x := of_eq_true (eq_self _)
theorem gd_u (t : AV) (want : Bool) : gd (.tup t) want x y = y := of_eq_true (eq_self _)
theorem gsel_u (t : AV) (want : Bool) : gsel (.tup t) want v = .tup .nil := of_eq_true (eq_self _)
theorem jn_n (k : List AV → Hp → Res) : jn (.norm vs h) k = k vs h := of_eq_true (eq_self _)
theorem jn_e (k : List AV → Hp → Res) : jn (.exit i vs h) k = .exit i vs h := of_eq_true (eq_self _)
theorem jn_r (k : List AV → Hp → Res) : jn (.ret v h) k = .ret v h := of_eq_true (eq_self _)
theorem jn_if (k : List AV → Hp → Res) : jn (ifB b x y) k = ifB b (jn x k) (jn y k) := by cases b <;> rfl
theorem blk_n (id : Nat) (k : List AV → Hp → Res) : blk id (.norm vs h) k = k vs h := of_eq_true (eq_self _)
theorem blk_r (id : Nat) (k : List AV → Hp → Res) : blk id (.ret v h) k = .ret v h := of_eq_true (eq_self _)
theorem blk_e (id : Nat) (k : List AV → Hp → Res) : blk id (.exit i vs h) k = ifB (Nat.beq i id) (k vs h) (.exit i vs h) := of_eq_true (eq_self _)
theorem blk_if (id : Nat) (k : List AV → Hp → Res) : blk id (ifB b x y) k = ifB b (blk id x k) (blk id y k) := by cases b <;> rfl
theorem cl_r : cl (.ret v h) kh = kh v h := of_eq_true (eq_self _)
theorem cl_if : cl (ifB b x y) kh = ifB b (cl x kh) (cl y kh) := by cases b <;> rfl

variable (c : Nat) (m n : Int)
theorem bin2_i (k : Nat → Int → Int → Res) : bin2 (.int c m) (.int c n) k = k c m n := by
  have : bin2 (.int c m) (.int c n) k = ifB (Nat.beq c c) (k c m n) .fail := of_eq_true (eq_self _)
  rw [this, (beq_iff c c).2 rfl]; rfl
theorem iAdd_i : iAdd (.int c m) (.int c n) k = k (.int c (wrapC c (m + n))) := bin2_i c m n _
theorem iSub_i : iSub (.int c m) (.int c n) k = k (.int c (wrapC c (m - n))) := bin2_i c m n _
theorem iMul_i : iMul (.int c m) (.int c n) k = k (.int c (wrapC c (m * n))) := bin2_i c m n _
theorem iAnd_i : iAnd (.int c m) (.int c n) k = k (.int c (wrapC c (Int.ofNat (Nat.land (toU c m) (toU c n))))) := bin2_i c m n _
theorem iOr_i : iOr (.int c m) (.int c n) k = k (.int c (wrapC c (Int.ofNat (Nat.lor (toU c m) (toU c n))))) := bin2_i c m n _
theorem iXor_i : iXor (.int c m) (.int c n) k = k (.int c (wrapC c (Int.ofNat (Nat.xor (toU c m) (toU c n))))) := bin2_i c m n _
theorem iQuo_i (hn : n ≠ 0) : iQuo (.int c m) (.int c n) k = k (.int c (wrapC c (m.tdiv n))) := by
  have : iQuo (.int c m) (.int c n) k = bin2 (.int c m) (.int c n) fun c a b => ifB (eqI b (Int.ofNat 0)) .fail (k (.int c (wrapC c (Int.tdiv a b)))) := of_eq_true (eq_self _)
  rw [this, bin2_i, eqI_eq]
  have : (n == Int.ofNat 0) = false := by simpa using hn
  rw [this]; rfl
theorem iRem_i (hn : n ≠ 0) : iRem (.int c m) (.int c n) k = k (.int c (m.tmod n)) := by
  have : iRem (.int c m) (.int c n) k = bin2 (.int c m) (.int c n) fun c a b => ifB (eqI b (Int.ofNat 0)) .fail (k (.int c (Int.tmod a b))) := of_eq_true (eq_self _)
  rw [this, bin2_i, eqI_eq]
  have : (n == Int.ofNat 0) = false := by simpa using hn
  rw [this]; rfl
theorem iNeg_i : iNeg (.int c m) k = k (.int c (wrapC c (0 - m))) := of_eq_true (eq_self _)
theorem iConv_i (d : Nat) : iConv d (.int c m) k = k (.int d (wrapC d m)) := of_eq_true (eq_self _)
theorem bNot_b : bNot (.bool b) k = k (.bool (!b)) := by cases b <;> rfl
theorem eqN_i (k : Bool → Res) : eqN (.int c m) (.int c n) k = k (m == n) := by
  have : eqN (.int c m) (.int c n) k = bin2 (.int c m) (.int c n) fun _ a b => k (eqI a b) := of_eq_true (eq_self _)
  rw [this, bin2_i, eqI_eq]
theorem ltN_i (k : Bool → Res) : ltN (.int c m) (.int c n) k = k (decide (m < n)) := by
  have : ltN (.int c m) (.int c n) k = bin2 (.int c m) (.int c n) fun _ a b => k (ltI a b) := of_eq_true (eq_self _)
  rw [this, bin2_i, ltI_eq]
theorem eqB_b (a : Bool) (k : Bool → Res) : eqB (.bool a) (.bool b) k = k (a == b) := by
  have : eqB (.bool a) (.bool b) k = k (beqB a b) := of_eq_true (eq_self _)
  rw [this, beqB_eq]
theorem bnot_e : bnot b = !b := by cases b <;> rfl
/-- A shift by a number below the bits. -/
theorem iShl_i (d j : Nat) (hj : j ≤ bitsC c) : iShl (.int c m) (.int d (Int.ofNat j)) k = k (.int c (wrapC c (m * Int.ofNat (2 ^ j)))) := by
  have : iShl (.int c m) (.int d (Int.ofNat j)) k = k (.int c (wrapC c (m * Int.ofNat (2 ^ (Bool.rec (motive := fun _ => Nat) (bitsC c) j (Nat.ble j (bitsC c))))))) := of_eq_true (eq_self _)
  rw [this, (ble_iff _ _).2 hj]
theorem iShr_i (d j : Nat) (hj : j ≤ bitsC c) : iShr (.int c m) (.int d (Int.ofNat j)) k = k (.int c (shrI m j)) := by
  have : iShr (.int c m) (.int d (Int.ofNat j)) k = k (.int c (shrI m (Bool.rec (motive := fun _ => Nat) (bitsC c) j (Nat.ble j (bitsC c))))) := of_eq_true (eq_self _)
  rw [this, (ble_iff _ _).2 hj]
end

/-! ### where a test is reckoned first -/
@[congr] theorem ifB_cg {b b' : Bool} (h : b = b') (x y : Res) : ifB b x y = ifB b' x y := by rw [h]
@[congr] theorem jn_cg {r r' : Res} (h : r = r') (k : List AV → Hp → Res) : jn r k = jn r' k := by rw [h]
@[congr] theorem blk_cg {r r' : Res} (h : r = r') (id : Nat) (k : List AV → Hp → Res) : blk id r k = blk id r' k := by rw [h]
@[congr] theorem cl_cg {r r' : Res} (h : r = r') (k : AV → Hp → Res) : cl r k = cl r' k := by rw [h]
@[congr] theorem cK_cg {v v' : AV} (h : v = v') (k : AV → Res) : cK v k = cK v' k := by rw [h]
@[congr] theorem cB_cg {v v' : AV} (h : v = v') (k : Bool → Res) : cB v k = cB v' k := by rw [h]
@[congr] theorem cI_cg {v v' : AV} (h : v = v') (k : Nat → Int → Res) : cI v k = cI v' k := by rw [h]
@[congr] theorem cT_cg {v v' : AV} (h : v = v') (k : AV → Res) : cT v k = cT v' k := by rw [h]
@[congr] theorem gd_cg {v v' : AV} (h : v = v') (w : Bool) (x y : Res) : gd v w x y = gd v' w x y := by rw [h]
@[congr] theorem ap_cg {v v' : AV} (h : v = v') (k : AV → Res) : ap v k = ap v' k := by rw [h]
@[congr] theorem bNot_cg {v v' : AV} (h : v = v') (k : AV → Res) : bNot v k = bNot v' k := by rw [h]
@[congr] theorem iConv_cg {v v' : AV} (h : v = v') (c : Nat) (k : AV → Res) : iConv c v k = iConv c v' k := by rw [h]
@[congr] theorem uc_cg {v v' : List AV} (h : v = v') (k : AV → List AV → Res) : uc v k = uc v' k := by rw [h]
@[congr] theorem eqN_cg {v v' w w' : AV} (h : v = v') (h' : w = w') (k : Bool → Res) : eqN v w k = eqN v' w' k := by rw [h, h']
@[congr] theorem ltN_cg {v v' w w' : AV} (h : v = v') (h' : w = w') (k : Bool → Res) : ltN v w k = ltN v' w' k := by rw [h, h']
@[congr] theorem eqB_cg {v v' w w' : AV} (h : v = v') (h' : w = w') (k : Bool → Res) : eqB v w k = eqB v' w' k := by rw [h, h']
@[congr] theorem iAdd_cg {v v' w w' : AV} (h : v = v') (h' : w = w') (k : AV → Res) : iAdd v w k = iAdd v' w' k := by rw [h, h']
@[congr] theorem iSub_cg {v v' w w' : AV} (h : v = v') (h' : w = w') (k : AV → Res) : iSub v w k = iSub v' w' k := by rw [h, h']
@[congr] theorem iMul_cg {v v' w w' : AV} (h : v = v') (h' : w = w') (k : AV → Res) : iMul v w k = iMul v' w' k := by rw [h, h']
@[congr] theorem iQuo_cg {v v' w w' : AV} (h : v = v') (h' : w = w') (k : AV → Res) : iQuo v w k = iQuo v' w' k := by rw [h, h']
@[congr] theorem iRem_cg {v v' w w' : AV} (h : v = v') (h' : w = w') (k : AV → Res) : iRem v w k = iRem v' w' k := by rw [h, h']
@[congr] theorem iAnd_cg {v v' w w' : AV} (h : v = v') (h' : w = w') (k : AV → Res) : iAnd v w k = iAnd v' w' k := by rw [h, h']
@[congr] theorem iOr_cg {v v' w w' : AV} (h : v = v') (h' : w = w') (k : AV → Res) : iOr v w k = iOr v' w' k := by rw [h, h']
@[congr] theorem iXor_cg {v v' w w' : AV} (h : v = v') (h' : w = w') (k : AV → Res) : iXor v w k = iXor v' w' k := by rw [h, h']
@[congr] theorem iShl_cg {v v' w w' : AV} (h : v = v') (h' : w = w') (k : AV → Res) : iShl v w k = iShl v' w' k := by rw [h, h']
@[congr] theorem iShr_cg {v v' w w' : AV} (h : v = v') (h' : w = w') (k : AV → Res) : iShr v w k = iShr v' w' k := by rw [h, h']

/-! ### wraps -/
theorem wrap_bmod (k : IntKind) (h : k.signed = true) (n : Int) : k.wrap n = Int.bmod n (2 ^ k.bits) := by
  unfold IntKind.wrap Int.bmod
  cases k <;> simp [IntKind.signed] at h <;> simp [IntKind.bits, IntKind.signed] <;> omega
theorem w63 (n : Int) : wrapC 63 n = Int.bmod n 18446744073709551616 := (wrapC_eq .i64 n).trans (wrap_bmod .i64 rfl n)
theorem w31 (n : Int) : wrapC 31 n = Int.bmod n 4294967296 := (wrapC_eq .i32 n).trans (wrap_bmod .i32 rfl n)
theorem w15 (n : Int) : wrapC 15 n = Int.bmod n 65536 := (wrapC_eq .i16 n).trans (wrap_bmod .i16 rfl n)
theorem w7 (n : Int) : wrapC 7 n = Int.bmod n 256 := (wrapC_eq .i8 n).trans (wrap_bmod .i8 rfl n)
theorem wrap_umod (k : IntKind) (h : k.signed = false) (n : Int) : k.wrap n = n % 2 ^ k.bits := by
  unfold IntKind.wrap
  simp [h]
theorem w64 (n : Int) : wrapC 64 n = n % 18446744073709551616 := (wrapC_eq .u64 n).trans (wrap_umod .u64 rfl n)
theorem w32 (n : Int) : wrapC 32 n = n % 4294967296 := (wrapC_eq .u32 n).trans (wrap_umod .u32 rfl n)
theorem w16 (n : Int) : wrapC 16 n = n % 65536 := (wrapC_eq .u16 n).trans (wrap_umod .u16 rfl n)
theorem w8 (n : Int) : wrapC 8 n = n % 256 := (wrapC_eq .u8 n).trans (wrap_umod .u8 rfl n)
theorem w63_in (n : Int) (h1 : -9223372036854775808 ≤ n) (h2 : n < 9223372036854775808) : wrapC 63 n = n := by rw [w63]; simp only [Int.bmod]; split <;> omega
theorem w31_in (n : Int) (h1 : -2147483648 ≤ n) (h2 : n < 2147483648) : wrapC 31 n = n := by rw [w31]; simp only [Int.bmod]; split <;> omega
theorem w16_in (n : Int) (h1 : 0 ≤ n) (h2 : n < 65536) : wrapC 16 n = n := by rw [w16]; omega
theorem w8_in (n : Int) (h1 : 0 ≤ n) (h2 : n < 256) : wrapC 8 n = n := by rw [w8]; omega
end Go.AM

namespace Go.AM
open Go
set_option autoImplicit false

/-! ### wraps of wraps -/
theorem ww3131 (x : Int) : wrapC 31 (wrapC 31 x) = wrapC 31 x := by simp only [w31, Int.bmod_bmod]
theorem ww6363 (x : Int) : wrapC 63 (wrapC 63 x) = wrapC 63 x := by simp only [w63, Int.bmod_bmod]
theorem ww3163 (x : Int) : wrapC 31 (wrapC 63 x) = wrapC 31 x := by
  rw [w31, w31, w63]; exact Int.bmod_bmod_of_dvd (by decide)
theorem ww6331 (x : Int) : wrapC 63 (wrapC 31 x) = wrapC 31 x := by
  apply w63_in <;> rw [w31] <;> simp only [Int.bmod] <;> split <;> omega
theorem ww3231 (x : Int) : wrapC 32 (wrapC 31 x) = wrapC 32 x := by
  rw [w32, w32, w31]; simp only [Int.bmod]; split <;> omega
theorem ww3263 (x : Int) : wrapC 32 (wrapC 63 x) = wrapC 32 x := by
  rw [w32, w32, w63]; simp only [Int.bmod]; split <;> omega
theorem ww6463 (x : Int) : wrapC 64 (wrapC 63 x) = wrapC 64 x := by
  rw [w64, w64, w63]; simp only [Int.bmod]; split <;> omega
theorem ww6364 (x : Int) : wrapC 63 (wrapC 64 x) = wrapC 63 x := by
  rw [w63, w63, w64]; simp only [Int.bmod]; split <;> split <;> omega
theorem r31 (x : Int) : -2147483648 ≤ wrapC 31 x ∧ wrapC 31 x < 2147483648 := by
  rw [w31]; simp only [Int.bmod]; split <;> omega
theorem r63 (x : Int) : -9223372036854775808 ≤ wrapC 63 x ∧ wrapC 63 x < 9223372036854775808 := by
  rw [w63]; simp only [Int.bmod]; split <;> omega

/-! ### the lowest bits -/
theorem toU_mod (k : IntKind) (y : Int) : (toU (cOf k) y : Int) = y % 2 ^ k.bits := by
  rw [toU_eq, BitVec.toNat_ofInt]
  have h : (0 : Int) < 2 ^ k.bits := Int.pow_pos (by decide)
  have := Int.emod_nonneg y (Int.ne_of_gt h)
  rw [Int.toNat_of_nonneg (by simpa using this)]; simp
theorem toU63 (y : Int) : (toU 63 y : Int) = y % 18446744073709551616 := toU_mod .i64 y
theorem toU31 (y : Int) : (toU 31 y : Int) = y % 4294967296 := toU_mod .i32 y
theorem toU64 (y : Int) : (toU 64 y : Int) = y % 18446744073709551616 := toU_mod .u64 y
theorem toU32 (y : Int) : (toU 32 y : Int) = y % 4294967296 := toU_mod .u32 y
theorem toU16 (y : Int) : (toU 16 y : Int) = y % 65536 := toU_mod .u16 y
theorem toU8 (y : Int) : (toU 8 y : Int) = y % 256 := toU_mod .u8 y
theorem land31 (x : Nat) : Nat.land x 31 = x % 32 := Nat.and_two_pow_sub_one_eq_mod x 5
theorem land63 (x : Nat) : Nat.land x 63 = x % 64 := Nat.and_two_pow_sub_one_eq_mod x 6
theorem sh31 (y : Int) : wrapC 31 ((Nat.land (toU 31 y) (toU 31 31) : Nat) : Int) = ((y % 32).toNat : Int) := by
  have e : toU 31 31 = 31 := by kernel_rfl
  have h := toU31 y
  rw [e, land31]
  rw [w31_in _ (by omega) (by omega)]
  omega
theorem sh63 (y : Int) : wrapC 63 ((Nat.land (toU 63 y) (toU 63 31) : Nat) : Int) = ((y % 32).toNat : Int) := by
  have e : toU 63 31 = 31 := by kernel_rfl
  have h := toU63 y
  rw [e, land31]
  rw [w63_in _ (by omega) (by omega)]
  omega
theorem sl63 (y : Int) : wrapC 63 ((Nat.land (toU 63 y) (toU 63 63) : Nat) : Int) = ((y % 64).toNat : Int) := by
  have e : toU 63 63 = 63 := by kernel_rfl
  have h := toU63 y
  rw [e, land63]
  rw [w63_in _ (by omega) (by omega)]
  omega
theorem m31 (y : Int) : wrapC 31 y % 32 = y % 32 := by rw [w31]; simp only [Int.bmod]; split <;> omega
theorem m63 (y : Int) : wrapC 63 y % 32 = y % 32 := by rw [w63]; simp only [Int.bmod]; split <;> omega
theorem n63 (y : Int) : wrapC 63 y % 64 = y % 64 := by rw [w63]; simp only [Int.bmod]; split <;> omega
theorem s5a (y : Int) : wrapC 63 ((y % 32).toNat : Int) = ((y % 32).toNat : Int) := by apply w63_in <;> omega
theorem s5b (y : Int) : wrapC 64 ((y % 32).toNat : Int) = ((y % 32).toNat : Int) := by rw [w64]; omega
theorem s6a (y : Int) : wrapC 63 ((y % 64).toNat : Int) = ((y % 64).toNat : Int) := by apply w63_in <;> omega
theorem s6b (y : Int) : wrapC 64 ((y % 64).toNat : Int) = ((y % 64).toNat : Int) := by rw [w64]; omega
theorem b31 (y : Int) : ((y % 32).toNat ≤ bitsC 31) = True := by have e : bitsC 31 = 32 := rfl; rw [e]; simp; omega
theorem b32 (y : Int) : ((y % 32).toNat ≤ bitsC 32) = True := by have e : bitsC 32 = 32 := rfl; rw [e]; simp; omega
theorem b63 (y : Int) : ((y % 32).toNat ≤ bitsC 63) = True := by have e : bitsC 63 = 64 := rfl; rw [e]; simp; omega
theorem c63 (y : Int) : ((y % 64).toNat ≤ bitsC 63) = True := by have e : bitsC 63 = 64 := rfl; rw [e]; simp; omega
theorem c64 (y : Int) : ((y % 64).toNat ≤ bitsC 64) = True := by have e : bitsC 64 = 64 := rfl; rw [e]; simp; omega
theorem d64 (y : Int) : ((y % 32).toNat ≤ bitsC 64) = True := by have e : bitsC 64 = 64 := rfl; rw [e]; simp; omega
theorem iShl_c (c d j : Nat) (m : Int) (k : AV → Res) (hj : j ≤ bitsC c) : iShl (.int c m) (.int d (j : Int)) k = k (.int c (wrapC c (m * ((2 ^ j : Nat) : Int)))) := iShl_i k c m d j hj
theorem iShr_c (c d j : Nat) (m : Int) (k : AV → Res) (hj : j ≤ bitsC c) : iShr (.int c m) (.int d (j : Int)) k = k (.int c (shrI m j)) := iShr_i k c m d j hj
theorem shr_b (m : Int) (n : Nat) (B : Int) (h1 : -B ≤ m) (h2 : m < B) : -B ≤ shrI m n ∧ shrI m n < B := by
  rw [shr_ok]
  have hp : (0 : Int) < 2 ^ n := Int.pow_pos (by decide)
  have hp1 : (1 : Int) ≤ 2 ^ n := by omega
  rw [Int.fdiv_eq_ediv_of_nonneg _ (by omega)]
  constructor
  · rw [Int.le_ediv_iff_mul_le hp]
    by_cases hB : 0 ≤ B
    · have := Int.mul_le_mul_of_nonneg_left hp1 hB
      have e : -B * 2 ^ n = -(B * 2 ^ n) := Int.neg_mul _ _
      omega
    · omega
  · rw [Int.ediv_lt_iff_lt_mul hp]
    have := Int.mul_le_mul_of_nonneg_left hp1 (show 0 ≤ B by omega)
    omega
theorem sr3 (m : Int) (n : Nat) : wrapC 31 (shrI (wrapC 31 m) n) = shrI (wrapC 31 m) n := by
  have h := r31 m
  have := shr_b (wrapC 31 m) n 2147483648 (by omega) (by omega)
  exact w31_in _ (by omega) (by omega)
theorem sr6 (m : Int) (n : Nat) : wrapC 63 (shrI (wrapC 31 m) n) = shrI (wrapC 31 m) n := by
  have h := r31 m
  have := shr_b (wrapC 31 m) n 2147483648 (by omega) (by omega)
  exact w63_in _ (by omega) (by omega)
theorem sr7 (m : Int) (n : Nat) : wrapC 63 (shrI (wrapC 63 m) n) = shrI (wrapC 63 m) n := by
  have h := r63 m
  have := shr_b (wrapC 63 m) n 9223372036854775808 (by omega) (by omega)
  exact w63_in _ (by omega) (by omega)
end Go.AM

namespace Go.AM
open Go
set_option autoImplicit false

/-! ### memory -/
/-- Block b, which may be read. -/
structure Rd (h : Hp) (b : Nat) (B : Blk) : Prop where
  get : h.bs.get b = some B
  lt : b < h.nb
  grp : B.fr = true → B.g < h.nb ∧ (h.grp B.g).2 ≤ b

/-- Block b, alone in its group: it may be read and written. -/
structure Own (h : Hp) (b : Nat) (B : Blk) : Prop where
  get : h.bs.get b = some B
  lt : b < h.nb
  fr : B.fr = true
  g : B.g = b
  gs : h.gs.get b = none

/-- From h to h': what is not in W is as it was; what was not there has no group. -/
structure To (W : Nat → Prop) (h h' : Hp) : Prop where
  nb : h.nb ≤ h'.nb
  get : ∀ b, b < h.nb → ¬ W b → h'.bs.get b = h.bs.get b
  gs : ∀ g, g < h.nb → ¬ W g → h'.gs.get g = h.gs.get g
  new : (∀ g, h.nb ≤ g → h.gs.get g = none) → ∀ g, h'.nb ≤ g → h'.gs.get g = none

/-- No group is there ahead of its first block. -/
def Wf (h : Hp) : Prop := ∀ g, h.nb ≤ g → h.gs.get g = none

def No : Nat → Prop := fun _ => False
def At (b : Nat) : Nat → Prop := fun x => x = b

theorem To.refl (W : Nat → Prop) (h : Hp) : To W h h := ⟨Nat.le_refl _, fun _ _ _ => rfl, fun _ _ _ => rfl, fun h => h⟩
theorem To.trans {W : Nat → Prop} {a b c : Hp} (h1 : To W a b) (h2 : To W b c) : To W a c where
  nb := Nat.le_trans h1.nb h2.nb
  get := fun x hx hw => by rw [h2.get x (Nat.lt_of_lt_of_le hx h1.nb) hw, h1.get x hx hw]
  gs := fun x hx hw => by rw [h2.gs x (Nat.lt_of_lt_of_le hx h1.nb) hw, h1.gs x hx hw]
  new := fun h => h2.new (h1.new h)
theorem To.mono {W W' : Nat → Prop} {a b : Hp} (h : To W a b) (hw : ∀ x, x < a.nb → W x → W' x) : To W' a b where
  nb := h.nb
  get := fun x hx hn => h.get x hx fun q => hn (hw x hx q)
  gs := fun x hx hn => h.gs x hx fun q => hn (hw x hx q)
  new := h.new
theorem To.wf {W : Nat → Prop} {a b : Hp} (h : To W a b) (hw : Wf a) : Wf b := h.new hw

theorem Own.rd {h : Hp} {b : Nat} {B : Blk} (ho : Own h b B) : Rd h b B :=
  ⟨ho.get, ho.lt, fun _ => ⟨by rw [ho.g]; exact ho.lt, by rw [ho.g]; simp [Hp.grp, ho.gs]⟩⟩
theorem Own.to {W : Nat → Prop} {h h' : Hp} {b : Nat} {B : Blk} (ho : Own h b B) (ht : To W h h') (hw : ¬ W b) : Own h' b B :=
  ⟨by rw [ht.get b ho.lt hw]; exact ho.get, Nat.lt_of_lt_of_le ho.lt ht.nb, ho.fr, ho.g, by rw [ht.gs b ho.lt hw]; exact ho.gs⟩
theorem Rd.to {W : Nat → Prop} {h h' : Hp} {b : Nat} {B : Blk} (hr : Rd h b B) (ht : To W h h') (hw : ¬ W b) (hg : B.fr = true → ¬ W B.g) : Rd h' b B :=
  ⟨by rw [ht.get b hr.lt hw]; exact hr.get, Nat.lt_of_lt_of_le hr.lt ht.nb, fun hf => ⟨Nat.lt_of_lt_of_le (hr.grp hf).1 ht.nb, by
    have := (hr.grp hf).2
    unfold Hp.grp at this ⊢
    rw [ht.gs _ (hr.grp hf).1 (hg hf)]; exact this⟩⟩

theorem gb_rd {h : Hp} {b : Nat} {B : Blk} (hr : Rd h b B) (k : Blk → Res) : gb h b k = k B := by
  have e : gb h b k = ifB B.fr (ifB (Nat.ble (h.grp B.g).2 b) (k B) .fail) (k B) := by unfold gb; rw [hr.get]
  rw [e]
  cases hf : B.fr with
  | false => rfl
  | true => rw [ifB_t, (ble_iff _ _).2 (hr.grp hf).2]; rfl

theorem wb_own {h : Hp} {b : Nat} {B : Blk} (ho : Own h b B) (k : Blk → T (Nat × Nat) → Res) : wb h b k = k B h.gs := by
  have e : wb h b k = ifB B.fr (ifB (Nat.beq (h.grp B.g).1 b) (ifB (Nat.beq (h.grp B.g).2 b) (k B h.gs) (k B (h.gs.set (b, b) B.g))) .fail) .fail := by unfold wb; rw [ho.get]
  have hg : h.grp B.g = (b, b) := by rw [ho.g]; simp [Hp.grp, ho.gs]
  rw [e, ho.fr, hg, (beq_iff b b).2 rfl]; rfl

theorem ld1_rd {h : Hp} {b o : Nat} {B : Blk} {v : AV} (hr : Rd h b B) (hv : B.at o = v) (k : AV → Res) : ld1 h (.ptr b o) k = cK v k := by
  have e : ld1 h (.ptr b o) k = gb h b fun B => cK (B.at o) k := rfl
  rw [e, gb_rd hr, hv]

theorem at_in (B : Blk) {i : Nat} (hi : i < B.lim) : B.at i = (match B.cs.get i with | some v => v | none => nth B.df (i % len B.df)) := by
  rw [at_eq, if_pos hi]; cases B.cs.get i <;> rfl
theorem at_out (B : Blk) {i : Nat} (hi : ¬ i < B.lim) : B.at i = .unk := by
  rw [at_eq, if_neg hi]

/-- A block with one cell set. -/
noncomputable def setC (B : Blk) (o : Nat) (v : AV) : Blk := ⟨B.fr, B.g, B.lim, B.df, T.set v B.cs o⟩
theorem setC_at {B : Blk} {o : Nat} {v : AV} (ho : o < B.lim) (i : Nat) : (setC B o v).at i = if i = o then v else B.at i := by
  by_cases hi : i < B.lim
  · rw [at_in (setC B o v) hi, at_in B hi]
    simp only [setC, T.get_set]
    by_cases e : i = o
    · rw [if_pos e, if_pos e]
    · rw [if_neg e, if_neg e]
  · rw [at_out (setC B o v) hi, at_out B hi, if_neg (by omega)]

theorem st1_own {h : Hp} {b o : Nat} {B : Blk} {v : AV} (hw : Own h b B) (ho : o < B.lim) (hv : one v = true) :
    ∃ h', (∀ k : Hp → Res, st1 h (.ptr b o) v k = k h') ∧ Own h' b (setC B o v) ∧ To (At b) h h' ∧ h'.nb = h.nb := by
  have e : ∀ k : Hp → Res, st1 h (.ptr b o) v k = wb h b fun B gs => ifB (one v) (ifB (Nat.blt o B.lim) (k (putB h b B (T.set v B.cs o) gs)) .fail) .fail := fun k => rfl
  have hget : ∀ x, (putB h b B (T.set v B.cs o) h.gs).bs.get x = if x = b then some (setC B o v) else h.bs.get x := fun x => T.get_set _ _ _ _
  refine ⟨putB h b B (T.set v B.cs o) h.gs, fun k => ?_, ⟨?_, hw.lt, hw.fr, hw.g, hw.gs⟩, ⟨Nat.le_refl _, fun x _ hx => ?_, fun _ _ _ => rfl, fun hn => hn⟩, rfl⟩
  · rw [e, wb_own hw, hv, (blt_iff _ _).2 ho]; rfl
  · rw [hget, if_pos rfl]
  · rw [hget, if_neg (show ¬ x = b from hx)]

/-- A new block. -/
theorem nw_own {h : Hp} (hw : Wf h) (lim : Nat) (df : AV) (t : T AV) : Own (nw h lim df t) h.nb ⟨true, h.nb, lim, df, t⟩ ∧ To No h (nw h lim df t) := by
  have hget : ∀ x, (nw h lim df t).bs.get x = if x = h.nb then some ⟨true, h.nb, lim, df, t⟩ else h.bs.get x := fun x => T.get_set _ _ _ _
  refine ⟨⟨by rw [hget, if_pos rfl], Nat.lt_succ_self _, rfl, rfl, hw _ (Nat.le_refl _)⟩, ⟨Nat.le_succ _, fun x hx _ => by rw [hget, if_neg (by omega)], fun _ _ _ => rfl, fun hn g hg => hn g (Nat.le_of_succ_le hg)⟩⟩

/-! ### lists -/
def avL (l : List AV) : AV := l.foldr (fun v t => .cons v t) .nil
theorem avL_nil : avL [] = .nil := rfl
theorem avL_cons (v : AV) (l : List AV) : avL (v :: l) = .cons v (avL l) := rfl
theorem len_avL (l : List AV) : len (avL l) = l.length := by
  induction l with
  | nil => rfl
  | cons v l ih => exact congrArg Nat.succ ih
theorem app_avL (l m : List AV) : app (avL l) (avL m) = avL (l ++ m) := by
  induction l with
  | nil => rfl
  | cons v l ih => exact congrArg (AV.cons v) ih

theorem rds_list {B : Blk} : ∀ (l : List AV) (o : Nat) (k : AV → Res), (∀ i (hi : i < l.length), B.at (o + i) = l[i]) → (∀ v ∈ l, v ≠ .unk) → rds B l.length o k = k (avL l) := by
  intro l
  induction l with
  | nil => intro o k _ _; rfl
  | cons v l ih =>
    intro o k h hk
    have e : rds B (l.length + 1) o k = cK (B.at o) fun v => rds B l.length (o + 1) fun t => k (.cons v t) := rfl
    have h0 : B.at o = v := by
      have := h 0 (by simp)
      simpa only [Nat.add_zero, List.getElem_cons_zero] using this
    rw [List.length_cons, e, h0]
    have hc : ∀ k : AV → Res, cK v k = k v := by
      intro k
      have := hk v (by simp)
      cases v <;> first | rfl | exact absurd rfl this
    rw [hc, ih (o + 1) _ (fun i hi => by
      have := h (i + 1) (by simpa using hi)
      rw [Nat.add_assoc, Nat.add_comm 1 i]
      simpa using this) (fun v hv => hk v (by simp [hv]))]
    rfl

theorem lay_list : ∀ (l : List AV) (t : T AV) (o : Nat), (∀ v ∈ l, one v = true) → ∃ t', (∀ k : T AV → Nat → Res, lay (avL l) t o k = k t' (o + l.length)) ∧ ∀ j, t'.get j = if h : o ≤ j ∧ j < o + l.length then some (l[j - o]'(by omega)) else t.get j := by
  intro l
  induction l with
  | nil => intro t o _; exact ⟨t, fun k => rfl, fun j => by rw [dif_neg (by simp)]⟩
  | cons v l ih =>
    intro t o hl
    obtain ⟨t', h1, h2⟩ := ih (T.set v t o) (o + 1) (fun v hv => hl v (by simp [hv]))
    refine ⟨t', fun k => ?_, fun j => ?_⟩
    · have e : lay (.cons v (avL l)) t o k = ifB (one v) (lay (avL l) (T.set v t o) (o + 1) k) .fail := rfl
      rw [avL_cons, e, hl v (by simp), ifB_t, h1, show o + 1 + l.length = o + (v :: l).length by simp; omega]
    · rw [h2 j]
      by_cases c : o + 1 ≤ j ∧ j < o + 1 + l.length
      · rw [dif_pos c, dif_pos (by simp; omega)]
        have e : j - o = (j - (o + 1)) + 1 := by omega
        simp only [e, List.getElem_cons_succ]
      · rw [dif_neg c, T.get_set]
        by_cases e : j = o
        · subst e
          rw [if_pos rfl, dif_pos (by simp)]
          simp
        · rw [if_neg e, dif_neg (by simp; omega)]
end Go.AM

namespace Go.AM
open Go
set_option autoImplicit false

/-- The slice v of elements of one cell reads as the list l; its block is one of those that P lets. -/
def Sl (h : Hp) (P : Nat → Prop) (v : AV) (l : List AV) : Prop :=
  (∀ x ∈ l, one x = true) ∧ ((v = .nils ∧ l = []) ∨ (v = .esl ∧ l = []) ∨
    ∃ b o c B, v = .sl b o l.length 1 c ∧ P b ∧ Rd h b B ∧ (B.fr = true → P B.g) ∧ (∀ cap, c = some cap → l.length ≤ cap) ∧ ∀ i (hi : i < l.length), B.at (o + i) = l[i])

theorem Sl.to {h h' : Hp} {P W : Nat → Prop} {v : AV} {l : List AV} (hs : Sl h P v l) (ht : To W h h') (hd : ∀ b, P b → ¬ W b) : Sl h' P v l := by
  obtain ⟨h1, h2⟩ := hs
  refine ⟨h1, ?_⟩
  rcases h2 with h2 | h2 | ⟨b, o, c, B, h2, h3, h4, h5, hc, h6⟩
  · exact .inl h2
  · exact .inr (.inl h2)
  · exact .inr (.inr ⟨b, o, c, B, h2, h3, h4.to ht (hd b h3) (fun hf => hd _ (h5 hf)), h5, hc, h6⟩)

theorem Sl.mono {h : Hp} {P Q : Nat → Prop} {v : AV} {l : List AV} (hs : Sl h P v l) (hd : ∀ b, P b → Q b) : Sl h Q v l := by
  obtain ⟨h1, h2⟩ := hs
  refine ⟨h1, ?_⟩
  rcases h2 with h2 | h2 | ⟨b, o, c, B, h2, h3, h4, h5, hc, h6⟩
  · exact .inl h2
  · exact .inr (.inl h2)
  · exact .inr (.inr ⟨b, o, c, B, h2, hd _ h3, h4, fun hf => hd _ (h5 hf), hc, h6⟩)

theorem one_unk {x : AV} (h : one x = true) : x ≠ .unk := by intro e; subst e; exact Bool.noConfusion (show false = true from h)
theorem cK_one {x : AV} (h : one x = true) (k : AV → Res) : cK x k = k x := by
  have := one_unk h
  cases x <;> first | rfl | exact absurd rfl this
theorem cK_sl {h : Hp} {P : Nat → Prop} {v : AV} {l : List AV} (hs : Sl h P v l) (k : AV → Res) : cK v k = k v := by
  rcases hs.2 with ⟨rfl, -⟩ | ⟨rfl, -⟩ | ⟨b, o, c, B, rfl, -⟩ <;> rfl
theorem one_sl {h : Hp} {P : Nat → Prop} {v : AV} {l : List AV} (hs : Sl h P v l) : one v = true := by
  rcases hs.2 with ⟨rfl, -⟩ | ⟨rfl, -⟩ | ⟨b, o, c, B, rfl, -⟩ <;> rfl

theorem lenL_sl {h : Hp} {P : Nat → Prop} {v : AV} {l : List AV} (hs : Sl h P v l) (k : AV → Res) : lenL v k = k (.int 63 (l.length : Int)) := by
  rcases hs.2 with ⟨rfl, rfl⟩ | ⟨rfl, rfl⟩ | ⟨b, o, c, B, rfl, -⟩ <;> rfl
theorem lenV_sl {h : Hp} {P : Nat → Prop} {v : AV} {l : List AV} (hs : Sl h P v l) (k : AV → Res) : lenV v k = k (.int 63 (l.length : Int)) := by
  rcases hs.2 with ⟨rfl, rfl⟩ | ⟨rfl, rfl⟩ | ⟨b, o, c, B, rfl, -⟩ <;> rfl

/-- An element. -/
theorem ix_sl {h : Hp} {P : Nat → Prop} {v : AV} {l : List AV} (hs : Sl h P v l) {c : Nat} (j : Nat) (hj : j < l.length) (k : AV → Res) : (ixA 1 v (.int c (j : Int)) fun a => ld1 h a k) = k l[j] := by
  rcases hs.2 with ⟨-, rfl⟩ | ⟨-, rfl⟩ | ⟨b, o, cc, B, rfl, h3, h4, h5, hc, h6⟩
  · simp at hj
  · simp at hj
  · have e : (ixA 1 (.sl b o l.length 1 cc) (.int c (j : Int)) fun a => ld1 h a k) = ifB (Nat.blt j l.length) (ifB (Nat.beq 1 1) (ld1 h (.ptr b (Nat.add o (Nat.mul j 1))) k) .fail) .fail := rfl
    rw [e, (blt_iff _ _).2 hj]
    have e2 : Nat.add o (Nat.mul j 1) = o + j := by show o + j * 1 = o + j; omega
    show ld1 h (.ptr b (Nat.add o (Nat.mul j 1))) k = k l[j]
    rw [e2, ld1_rd h4 (h6 j hj)]
    exact cK_one (hs.1 _ (List.getElem_mem hj)) k

theorem eqL_nil {h : Hp} {P : Nat → Prop} {v : AV} {l : List AV} (hs : Sl h P v l) (k : Bool → Res) : ∃ b, eqL v .nils k = k b ∧ (b = true → l = []) := by
  rcases hs.2 with ⟨rfl, rfl⟩ | ⟨rfl, rfl⟩ | ⟨b, o, c, B, rfl, -⟩
  · exact ⟨true, rfl, fun _ => rfl⟩
  · exact ⟨false, rfl, fun _ => rfl⟩
  · exact ⟨false, rfl, fun h => by cases h⟩

/-- What a slice hands to an append or a copy. -/
theorem src_sl {h : Hp} {P : Nat → Prop} {v : AV} {l : List AV} (hs : Sl h P v l) (k : Nat → AV → Res) : src h 1 v k = k l.length (avL l) := by
  rcases hs.2 with ⟨rfl, rfl⟩ | ⟨rfl, rfl⟩ | ⟨b, o, c, B, rfl, h3, h4, h5, hc, h6⟩
  · rfl
  · rfl
  · have e : src h 1 (.sl b o l.length 1 c) k = ifB (Nat.beq 1 1) (gb h b fun B => rds B (Nat.mul l.length 1) o fun t => k l.length t) .fail := rfl
    rw [e]
    show (gb h b fun B => rds B (Nat.mul l.length 1) o fun t => k l.length t) = _
    rw [gb_rd h4]
    have e2 : Nat.mul l.length 1 = l.length := Nat.mul_one _
    rw [e2, rds_list l o _ h6 (fun v hv => one_unk (hs.1 v hv))]

/-- x[lo:hi]. -/
theorem cut_sl {h : Hp} {P : Nat → Prop} {v : AV} {l : List AV} (hs : Sl h P v l) {c1 c2 : Nat} (lo hi : Nat) (h1 : lo ≤ hi) (h2 : hi ≤ l.length) :
    ∃ v', (∀ k : AV → Res, cutS 1 v (some (.int c1 (lo : Int))) (some (.int c2 (hi : Int))) none k = k v') ∧ Sl h P v' ((l.drop lo).take (hi - lo)) := by
  have hone : ∀ x ∈ (l.drop lo).take (hi - lo), one x = true := fun x hx => hs.1 x (List.mem_of_mem_drop (List.mem_of_mem_take hx))
  have hlen : ((l.drop lo).take (hi - lo)).length = hi - lo := by simp; omega
  have hget : ∀ i (hi' : i < ((l.drop lo).take (hi - lo)).length), ((l.drop lo).take (hi - lo))[i] = l[lo + i]'(by rw [hlen] at hi'; omega) := by
    intro i hi'; simp
  rcases hs.2 with ⟨rfl, rfl⟩ | ⟨rfl, rfl⟩ | ⟨b, o, c, B, rfl, h3, h4, h5, hc, h6⟩
  · have e0 : hi = 0 := by simpa using h2
    have e1 : lo = 0 := by omega
    subst e0
    subst e1
    exact ⟨.nils, fun k => rfl, by simp, .inl ⟨rfl, by simp⟩⟩
  · have e0 : hi = 0 := by simpa using h2
    have e1 : lo = 0 := by omega
    subst e0
    subst e1
    exact ⟨.esl, fun k => rfl, by simp, .inr (.inl ⟨rfl, by simp⟩)⟩
  · cases c with
    | none =>
      have e : ∀ k : AV → Res, cutS 1 (.sl b o l.length 1 none) (some (.int c1 (lo : Int))) (some (.int c2 (hi : Int))) none k =
          ifB (Nat.ble hi l.length) (ifB (Nat.ble lo hi) (ifB (Nat.beq lo 0) (k (.sl b o hi 1 none)) (ifB (Nat.blt lo l.length) (k (.sl b (Nat.add o (Nat.mul lo 1)) (Nat.sub hi lo) 1 none)) (k .esl))) .fail) .fail := fun k => rfl
      simp only [e, (ble_iff _ _).2 h2, (ble_iff _ _).2 h1, ifB_t]
      by_cases z : lo = 0
      · subst z
        refine ⟨_, fun k => rfl, hone, .inr (.inr ⟨b, o, none, B, by rw [hlen]; rfl, h3, h4, h5, (fun cap h => by cases h), fun i hi' => ?_⟩)⟩
        rw [hget i hi']
        simpa using h6 i (by rw [hlen] at hi'; omega)
      · have z' : Nat.beq lo 0 = false := by rw [Bool.eq_false_iff, ne_eq, beq_iff]; exact z
        simp only [z', ifB_f]
        by_cases y : lo < l.length
        · simp only [(blt_iff _ _).2 y, ifB_t]
          refine ⟨_, fun k => rfl, hone, .inr (.inr ⟨b, o + lo, none, B, ?_, h3, h4, h5, (fun cap h => by cases h), fun i hi' => ?_⟩)⟩
          · rw [hlen]; show AV.sl b (o + lo * 1) (hi - lo) 1 none = _; rw [Nat.mul_one]
          · rw [hget i hi', Nat.add_assoc]
            exact h6 (lo + i) (by rw [hlen] at hi'; omega)
        · have y' : Nat.blt lo l.length = false := by rw [Bool.eq_false_iff, ne_eq, blt_iff]; exact y
          simp only [y', ifB_f]
          exact ⟨_, fun k => rfl, hone, .inr (.inl ⟨rfl, by apply List.eq_nil_of_length_eq_zero; rw [hlen]; omega⟩)⟩
    | some cap =>
      have hcap := hc cap rfl
      have e : ∀ k : AV → Res, cutS 1 (.sl b o l.length 1 (some cap)) (some (.int c1 (lo : Int))) (some (.int c2 (hi : Int))) none k =
          ifB (Nat.ble cap cap) (ifB (Nat.ble hi cap) (ifB (Nat.ble lo hi) (k (.sl b (cutO o lo 1 cap) (Nat.sub hi lo) 1 (some (Nat.sub cap lo)))) .fail) .fail) .fail := fun k => rfl
      simp only [e, (ble_iff _ _).2 (Nat.le_refl _), (ble_iff _ _).2 (show hi ≤ cap by omega), (ble_iff _ _).2 h1, ifB_t]
      by_cases z : lo = cap
      · refine ⟨_, fun k => rfl, hone, .inr (.inr ⟨b, cutO o lo 1 cap, some (Nat.sub cap lo), B, by rw [hlen]; rfl, h3, h4, h5, (fun c' h => by cases h; rw [hlen]; show hi - lo ≤ cap - lo; omega), fun i hi' => ?_⟩)⟩
        rw [hlen] at hi'; omega
      · refine ⟨_, fun k => rfl, hone, .inr (.inr ⟨b, o + lo, some (Nat.sub cap lo), B, ?_, h3, h4, h5, (fun c' h => by cases h; rw [hlen]; show hi - lo ≤ cap - lo; omega), fun i hi' => ?_⟩)⟩
        · have : cutO o lo 1 cap = o + lo := by
            have e : cutO o lo 1 cap = Bool.rec (motive := fun _ => Nat) (o + lo * 1) o (Nat.beq cap lo) := rfl
            rw [e, recB, if_neg (by rw [beq_iff]; omega)]; omega
          rw [hlen, this]; rfl
        · rw [hget i hi', Nat.add_assoc]
          exact h6 (lo + i) (by rw [hlen] at hi'; omega)

/-- A slice that grows: its blocks are those from N on. -/
def Gr (h : Hp) (N : Nat) (v : AV) (l : List AV) : Prop :=
  Sl h (fun b => N ≤ b) v l ∧ (v = .nils ∨ (∃ b, v = .sl b 0 0 1 (some 0) ∧ l = []) ∨ ∃ b B, v = .sl b 0 l.length 1 none ∧ h.bs.get b = some B ∧ B.fr = true ∧ l.length ≤ B.lim)

theorem new_sl {h : Hp} {N : Nat} (hN : N ≤ h.nb) (hw : Wf h) {m : List AV} (hm : ∀ x ∈ m, one x = true) :
    ∃ v' h', (∀ k : AV → Hp → Res, grown h 1 m.length (avL m) k = k v' h') ∧ Gr h' N v' m ∧ To No h h' := by
  obtain ⟨t, h1, h2⟩ := lay_list m .e 0 hm
  have e2 : Nat.beq (0 + m.length) (Nat.mul m.length 1) = true := by rw [beq_iff]; show 0 + m.length = m.length * 1; omega
  have hrun : ∀ k : AV → Hp → Res, grown h 1 m.length (avL m) k = k (.sl h.nb 0 m.length 1 none) (nw h (0 + m.length) .nil t) := fun k => by
    have e : grown h 1 m.length (avL m) k = lay (avL m) .e 0 fun t j => ifB (Nat.beq j (Nat.mul m.length 1)) (k (.sl h.nb 0 m.length 1 none) (nw h j .nil t)) .fail := rfl
    rw [e, h1, e2, ifB_t]
  obtain ⟨o1, o2⟩ := nw_own hw (0 + m.length) .nil t
  have hat : ∀ i (hi : i < m.length), (⟨true, h.nb, 0 + m.length, .nil, t⟩ : Blk).at (0 + i) = m[i] := by
    intro i hi
    rw [at_in _ (show 0 + i < 0 + m.length by omega)]
    simp only [h2 (0 + i)]
    rw [dif_pos ⟨by omega, by omega⟩]
    simp
  exact ⟨_, _, hrun, ⟨⟨hm, .inr (.inr ⟨h.nb, 0, none, _, rfl, hN, o1.rd, fun _ => hN, (fun c h => by cases h), hat⟩)⟩, .inr (.inr ⟨_, _, rfl, o1.get, rfl, by show m.length ≤ 0 + m.length; omega⟩)⟩, o2⟩

theorem apd_gr {h : Hp} {N : Nat} {v y : AV} {l m : List AV} {P : Nat → Prop} {by_ : Nat} (hN : N ≤ h.nb) (hw : Wf h) (hv : Gr h N v l) (hy : Sl h P y m) (hb : (l.length + m.length) * by_ ≤ 140737488355328) (hb2 : l.length + m.length ≤ 9223372036854775807)
    : ∃ v' h', (∀ k : AV → Hp → Res, apd h 1 by_ v y k = k v' h') ∧ Gr h' N v' (l ++ m) ∧ To (fun b => N ≤ b) h h' := by
  have noTo : ∀ {h'}, To No h h' → To (fun b => N ≤ b) h h' := fun ht => ht.mono fun _ _ f => f.elim
  obtain ⟨hs, hform⟩ := hv
  by_cases hm0 : m = []
  · subst hm0
    refine ⟨v, h, fun k => ?_, by rw [List.append_nil]; exact ⟨hs, hform⟩, To.refl _ _⟩
    unfold apd
    rw [src_sl hy]
    rcases hform with rfl | ⟨b, rfl, -⟩ | ⟨b, B, rfl, -⟩ <;> rfl
  · have hml : Nat.beq m.length 0 = false := by
      rw [Bool.eq_false_iff, ne_eq, beq_iff]
      intro h0; exact hm0 (List.eq_nil_of_length_eq_zero h0)
    have g1 : Nat.ble (Nat.mul m.length by_) 140737488355328 = true := by
      rw [ble_iff]; refine Nat.le_trans ?_ hb; exact Nat.mul_le_mul_right _ (Nat.le_add_left _ _)
    have g2 : Nat.ble m.length 9223372036854775807 = true := by rw [ble_iff]; omega
    have fresh : l = [] → (∀ k : AV → Hp → Res, apd h 1 by_ v y k = grown h 1 m.length (avL m) k) → ∃ v' h', (∀ k : AV → Hp → Res, apd h 1 by_ v y k = k v' h') ∧ Gr h' N v' (l ++ m) ∧ To (fun b => N ≤ b) h h' := by
      intro hl hr
      obtain ⟨v', h', e1, e2, e3⟩ := new_sl hN hw hy.1
      exact ⟨v', h', fun k => (hr k).trans (e1 k), by rw [hl]; exact e2, noTo e3⟩
    rcases hform with rfl | ⟨b, rfl, rfl⟩ | ⟨b, B, rfl, hget, hfr, hlim⟩
    · have hl : l = [] := by rcases hs.2 with ⟨-, e⟩ | ⟨e, -⟩ | ⟨_, _, _, _, e, -⟩ <;> first | exact e | cases e
      refine fresh hl fun k => ?_
      unfold apd
      rw [src_sl hy]
      show ifB (Nat.beq m.length 0) _ (ifB (Nat.ble (Nat.mul m.length by_) 140737488355328) (ifB (Nat.ble m.length 9223372036854775807) (grown h 1 m.length (avL m) k) .fail) .fail) = _
      rw [hml, g1, g2]; rfl
    · refine fresh rfl fun k => ?_
      unfold apd
      rw [src_sl hy]
      rcases hs.2 with ⟨e, -⟩ | ⟨e, -⟩ | ⟨b', o', c', B, e, h3, h4, h5, hc, h6⟩
      · cases e
      · cases e
      · cases e
        show ifB (Nat.beq 1 1) (ifB (Nat.beq m.length 0) _ (ifB (Nat.ble (Nat.mul (Nat.add 0 m.length) by_) 140737488355328) (ifB (Nat.ble (Nat.add 0 m.length) 9223372036854775807) (ifB (Nat.ble (Nat.add 0 m.length) 0) _ (gb h b fun B => rds B (Nat.mul 0 1) 0 fun old => grown h 1 (Nat.add 0 m.length) (app old (avL m)) k)) .fail) .fail)) .fail = _
        have e0 : Nat.add 0 m.length = m.length := Nat.zero_add _
        have e1 : Nat.ble m.length 0 = false := by
          rw [Bool.eq_false_iff, ne_eq, ble_iff]
          intro h0; exact hm0 (List.eq_nil_of_length_eq_zero (by omega))
        rw [e0, hml, g1, g2, e1]
        show (gb h b fun B => rds B (Nat.mul 0 1) 0 fun old => grown h 1 m.length (app old (avL m)) k) = _
        rw [gb_rd h4]
        rfl
    · rcases hs.2 with ⟨e, -⟩ | ⟨e, -⟩ | ⟨b', o', c', B', e, h3, h4, h5, hc, h6⟩
      · cases e
      · cases e
      · cases e
        obtain rfl : B = B' := by rw [h4.get] at hget; exact (Option.some.inj hget).symm
        have hat : ∀ i (hi : i < l.length), B.at i = l[i] := fun i hi => by have := h6 i hi; rwa [Nat.zero_add] at this
        obtain ⟨t, t1, t2⟩ := lay_list m B.cs l.length hy.1
        have hall : ∀ x ∈ l ++ m, one x = true := fun x hx => by
          rcases List.mem_append.1 hx with hx | hx
          · exact hs.1 x hx
          · exact hy.1 x hx
        generalize hold : ifN (h.grp B.g).1 b B.lim (Nat.mul l.length 1) (h.grp B.g).2 h.nb = old
        have hle : old ≤ h.nb := by
          have q := (h4.grp hfr).2
          have hlt := h4.lt
          have e : ifN (h.grp B.g).1 b B.lim (Nat.mul l.length 1) (h.grp B.g).2 h.nb = Bool.rec (motive := fun _ => Nat) h.nb (Bool.rec (motive := fun _ => Nat) h.nb (h.grp B.g).2 (Nat.ble B.lim (Nat.mul l.length 1))) (Nat.beq (h.grp B.g).1 b) := rfl
          rw [← hold, e, recB, recB]
          split
          · split
            · omega
            · exact Nat.le_refl _
          · exact Nat.le_refl _
        have hrun : ∀ k : AV → Hp → Res, apd h 1 by_ (.sl b 0 l.length 1 none) y k = k (.sl h.nb 0 (l.length + m.length) 1 none) ⟨Nat.succ h.nb, h.bs.set ⟨true, B.g, l.length + m.length, B.df, t⟩ h.nb, h.gs.set (h.nb, old) B.g, h.ms⟩ := fun k => by
          unfold apd
          rw [src_sl hy]
          show ifB (Nat.beq 1 1) (ifB (Nat.beq m.length 0) _ (ifB (Nat.ble (Nat.mul (Nat.add l.length m.length) by_) 140737488355328) (ifB (Nat.ble (Nat.add l.length m.length) 9223372036854775807)
            (gb h b fun B => ifB B.fr (ifB (Nat.beq 0 0) (lay (avL m) B.cs (Nat.mul l.length 1) fun t e => ifB (Nat.beq e (Nat.mul (Nat.add l.length m.length) 1)) (ifB (Nat.ble (Nat.mul l.length 1) B.lim)
              (k (.sl h.nb 0 (Nat.add l.length m.length) 1 none) ⟨Nat.succ h.nb, h.bs.set ⟨true, B.g, e, B.df, t⟩ h.nb, h.gs.set (h.nb, ifN (h.grp B.g).1 b B.lim (Nat.mul l.length 1) (h.grp B.g).2 h.nb) B.g, h.ms⟩) .fail) .fail) _) .fail) .fail) .fail)) .fail = _
          have e1 : Nat.ble (Nat.mul (Nat.add l.length m.length) by_) 140737488355328 = true := by rw [ble_iff]; exact hb
          have e2 : Nat.ble (Nat.add l.length m.length) 9223372036854775807 = true := by rw [ble_iff]; exact hb2
          rw [hml, e1, e2]
          show (gb h b fun B => ifB B.fr (ifB (Nat.beq 0 0) (lay (avL m) B.cs (Nat.mul l.length 1) fun t e => ifB (Nat.beq e (Nat.mul (Nat.add l.length m.length) 1)) (ifB (Nat.ble (Nat.mul l.length 1) B.lim)
              (k (.sl h.nb 0 (Nat.add l.length m.length) 1 none) ⟨Nat.succ h.nb, h.bs.set ⟨true, B.g, e, B.df, t⟩ h.nb, h.gs.set (h.nb, ifN (h.grp B.g).1 b B.lim (Nat.mul l.length 1) (h.grp B.g).2 h.nb) B.g, h.ms⟩) .fail) .fail) _) .fail) = _
          rw [gb_rd h4, hfr, ifB_t]
          show (lay (avL m) B.cs (Nat.mul l.length 1) fun t e => ifB (Nat.beq e (Nat.mul (Nat.add l.length m.length) 1)) (ifB (Nat.ble (Nat.mul l.length 1) B.lim)
              (k (.sl h.nb 0 (Nat.add l.length m.length) 1 none) ⟨Nat.succ h.nb, h.bs.set ⟨true, B.g, e, B.df, t⟩ h.nb, h.gs.set (h.nb, ifN (h.grp B.g).1 b B.lim (Nat.mul l.length 1) (h.grp B.g).2 h.nb) B.g, h.ms⟩) .fail) .fail) = _
          rw [hold]
          have e3 : Nat.mul l.length 1 = l.length := Nat.mul_one _
          have e4 : Nat.mul (Nat.add l.length m.length) 1 = l.length + m.length := Nat.mul_one _
          rw [e3, e4, t1, (beq_iff _ _).2 rfl, (ble_iff _ _).2 hlim]
          rfl
        have hget2 : ∀ x, (h.bs.set ⟨true, B.g, l.length + m.length, B.df, t⟩ h.nb).get x = if x = h.nb then some ⟨true, B.g, l.length + m.length, B.df, t⟩ else h.bs.get x := fun x => T.get_set _ _ _ _
        have hgs2 : ∀ x, (h.gs.set (h.nb, old) B.g).get x = if x = B.g then some (h.nb, old) else h.gs.get x := fun x => T.get_set _ _ _ _
        have hBg := h4.grp hfr
        have hPg : N ≤ B.g := h5 hfr
        refine ⟨_, _, hrun, ⟨⟨hall, .inr (.inr ⟨h.nb, 0, none, ⟨true, B.g, l.length + m.length, B.df, t⟩, by rw [List.length_append], hN, ⟨by rw [hget2, if_pos rfl], Nat.lt_succ_self _, fun _ => ⟨Nat.lt_succ_of_lt hBg.1, ?_⟩⟩, fun _ => hPg, (fun c h => by cases h), fun i hi => ?_⟩)⟩,
          .inr (.inr ⟨h.nb, _, by rw [List.length_append], by rw [hget2, if_pos rfl], rfl, by rw [List.length_append]; exact Nat.le_refl _⟩)⟩, ⟨Nat.le_succ _, fun x hx hn => ?_, fun x hx hn => ?_, fun hn g hg => ?_⟩⟩
        · show (Hp.grp ⟨_, _, h.gs.set (h.nb, old) B.g, _⟩ B.g).2 ≤ h.nb
          simp only [Hp.grp, hgs2, if_pos]
          exact hle
        · rw [List.length_append] at hi
          rw [Nat.zero_add, at_in _ (show i < l.length + m.length from hi)]
          simp only [t2 i]
          by_cases c : l.length ≤ i
          · rw [dif_pos ⟨c, by omega⟩, List.getElem_append_right c]
          · rw [dif_neg (by omega), List.getElem_append_left (by omega)]
            have := hat i (by omega)
            rw [at_in B (by omega)] at this
            exact this
        · rw [hget2, if_neg (by omega)]
        · show (h.gs.set (h.nb, old) B.g).get x = _
          rw [hgs2, if_neg (fun e => hn (by rw [e]; exact hPg))]
        · show (h.gs.set (h.nb, old) B.g).get g = none
          have hg : h.nb + 1 ≤ g := hg
          rw [hgs2, if_neg (by omega)]
          exact hn g (by omega)
end Go.AM

namespace Go.AM
open Go
set_option autoImplicit false

/-- V is a slice of numbers of kind k that reads as the list l. -/
def ArgS (k : IntKind) (w : World) (V : Value) (l : List Int) : Prop :=
  (V = .slice none 0 0 ∧ l = []) ∨ ∃ (a : Addr) (len cap : Nat) (zs : List Int), V = .slice (some a) len cap ∧ len ≤ cap ∧ cap ≤ maxLen ∧ zs.length = cap ∧ l = zs.take len ∧
    (∀ i, i < zs.length → w.cell? (a.add i) = some (.int k (zs.getD i 0))) ∧ ∀ n ∈ zs, (Lit.int k n).wf = true

theorem ArgS.wf {k : IntKind} {w : World} {V : Value} {l : List Int} (h : ArgS k w V l) : ∀ n ∈ l, (Lit.int k n).wf = true := by
  rcases h with ⟨-, rfl⟩ | ⟨a, len, cap, zs, -, -, -, -, rfl, -, h⟩
  · intro n hn; cases hn
  · exact fun n hn => h n (List.mem_of_mem_take hn)

section
variable {H : Type} {enc : TypeId × Value → H} {P : Program} {w : World}
open Go.ChangeShapes in
theorem open_arg {t e : TypeId} {k : IntKind} {v : Value} {d : DataW H} {p : List MemPlace} (ht : P.underlying t = some (.slice e)) (he : P.underlying e = some (.int k)) (hc : P.cellsOf e = 1)
    (hone : v.cells.toList = [v]) (h : DataW.Trod enc P w 0 (fun _ => true) true t v d p) :
    ∃ l, ArgS k w v l ∧ ∀ (w' : World) (sp : Nat → Bool), (∀ r, r < w.heap.size → w'.heap[r]? = w.heap[r]?) → (∀ q ∈ p, sp q.block = true) → DataW.Trod enc P w' 0 sp true t v d p := by
  obtain ⟨fuel, hf⟩ := h
  rcases open_ints ht he hc hf with ⟨hcs, hx⟩ | ⟨a, len, cap, zs, hcs, hb, hl, hm, hz, hx, hcell, hwf⟩
  · rw [hone] at hcs
    obtain rfl : v = .slice none 0 0 := by simpa using hcs
    obtain ⟨rfl, rfl⟩ : d = .nil ∧ p = [] := by simpa using hx
    exact ⟨[], .inl ⟨rfl, rfl⟩, fun w' sp _ _ => ⟨1, by simp [DataW.trod, Value.cells, ht]⟩⟩
  · rw [hone] at hcs
    obtain rfl : v = .slice (some a) len cap := by simpa using hcs
    obtain ⟨rfl, rfl⟩ : d = .slice (lits k (zs.take len)) (lits k (zs.drop len)) ∧ p = MemPlace.row a zs.length := by simpa using hx
    have hz' : zs.length = cap := by simpa using hz
    refine ⟨_, .inr ⟨a, len, cap, zs, rfl, hl, hm, hz', rfl, hcell, hwf⟩, fun w' sp hw hsp => ⟨2, ?_⟩⟩
    have hlt : ∀ i, i < zs.length → a.block < w.heap.size := by
      intro i hi
      have := hcell i hi
      unfold World.cell? at this
      rw [block_add] at this
      cases hr : w.heap[a.block]? with
      | none => rw [hr] at this; cases this
      | some o => exact (Array.getElem?_eq_some_iff.1 hr).1
    have hcell' : ∀ i, i < zs.length → w'.cell? (a.add i) = some (.int k (zs.getD i 0)) := by
      intro i hi
      have h1 := hcell i hi
      unfold World.cell? at h1 ⊢
      rw [block_add] at h1 ⊢
      rw [hw _ (hlt i hi)]
      exact h1
    have hzz : zs.length = if sp a.block then cap else len := by
      by_cases hc0 : zs.length = 0
      · split <;> omega
      · have : sp a.block = true := by
          have := hsp (.cell a.block a.off) (MemPlace.mem_row.2 ⟨0, by omega, by simp⟩)
          exact this
        rw [this]; simpa using hz'
    have := shut_ints (enc := enc) (w := w') (base := 0) (spare := sp) (held := true) 0 ht he hc (Nat.zero_le _) hl hm hzz hcell' hwf
    rw [hone]
    exact this
end

/-- Memory that holds arguments alone. -/
structure Args (g : Option Nat) (ρ : Rho) (h : Hp) (w : World) : Prop where
  inv : Inv (b0 w g) ρ h w
  fr : ∀ b B, h.bs.get b = some B → B.fr = false
  gs : h.gs = .e
  ms : h.ms = .e

theorem Args.none {w : World} {g : Option Nat} (hj : (b0 w g).J w) : Args g (fun _ => none) H0 w := ⟨inv_H0 hj, fun b B h => (by cases h), rfl, rfl⟩
theorem Args.wf {g : Option Nat} {ρ : Rho} {h : Hp} {w : World} (ha : Args g ρ h w) : Wf h := fun g _ => by rw [ha.gs]; rfl

theorem add_arg {gm : Option Nat} {ρ : Rho} {h : Hp} {w : World} {k : IntKind} {V : Value} {l : List Int} (hF : Args gm ρ h w) (ha : ArgS k w V l) :
    ∃ ρ' h' v, Args gm ρ' h' w ∧ Ext ρ ρ' ∧ VR ρ' v V ∧ Sl h' (fun b => b < h'.nb) v (l.map fun n => AV.int (cOf k) n) ∧ To No h h' := by
  have hone : ∀ x ∈ l.map (fun n => AV.int (cOf k) n), one x = true := by
    intro x hx
    obtain ⟨y, -, rfl⟩ := List.mem_map.1 hx
    rfl
  rcases ha with ⟨rfl, rfl⟩ | ⟨a, len, cap, zs, rfl, hl, hm, hz, rfl, hcell, -⟩
  · exact ⟨ρ, h, .nils, hF, Ext.refl ρ, rfl, ⟨by simp, .inl ⟨rfl, rfl⟩⟩, To.refl _ _⟩
  · by_cases h0 : len = 0
    · subst h0
      exact ⟨ρ, h, .esl, hF, Ext.refl ρ, ⟨a, cap, rfl⟩, ⟨by simp, .inr (.inl ⟨rfl, by simp⟩)⟩, To.refl _ _⟩
    · obtain ⟨b, off, rfl, hc⟩ := Go.ints_at hcell (by omega)
      have hrow : ∃ cs e fz, w.heap[b]? = some (.cells cs e fz) ∧ ∀ j, j < zs.length → cs[off + j]? = some (.int k (zs.getD j 0)) := by
        have h1 := hc 0 (by omega)
        unfold World.cell? at h1
        simp only at h1
        cases hr : w.heap[b]? with
        | none => rw [hr] at h1; cases h1
        | some o =>
          cases o with
          | cells cs e fz =>
            refine ⟨cs, e, fz, rfl, fun j hj => ?_⟩
            have h2 := hc j hj
            unfold World.cell? at h2
            simp only [hr] at h2
            simpa using h2
          | _ => rw [hr] at h1; cases h1
      obtain ⟨cs, e, fz, hr, hcs⟩ := hrow
      have hsz : off + cap ≤ cs.size := by
        have := hcs (cap - 1) (by omega)
        have := (Array.getElem?_eq_some_iff.1 this).1
        omega
      have hlt : b < w.heap.size := (Array.getElem?_eq_some_iff.1 hr).1
      have hi := hF.inv
      have hfree : ρ h.nb = Option.none := hi.free _ (Nat.le_refl _)
      obtain ⟨t, -, t2⟩ := lay_list ((zs.take len).map fun n => AV.int (cOf k) n) .e 0 hone
      have hlen : ((zs.take len).map fun n => AV.int (cOf k) n).length = len := by simp; omega
      have hext := ups_ext ⟨b, off, cs.size, 0⟩ hfree
      have hget : ∀ x, (h.bs.set ⟨false, h.nb, len, .nil, t⟩ h.nb).get x = if x = h.nb then some ⟨false, h.nb, len, .nil, t⟩ else h.bs.get x := fun x => T.get_set _ _ _ _
      have hat : ∀ i (hi' : i < len), (⟨false, h.nb, len, .nil, t⟩ : Blk).at i = .int (cOf k) (zs.getD i 0) := by
        intro i hi'
        rw [at_in _ (show i < len from hi')]
        simp only [t2 i]
        rw [dif_pos ⟨by omega, by rw [hlen]; omega⟩]
        simp [List.getD, show i < zs.length by omega]
      have look : ∀ x B, (h.bs.set ⟨false, h.nb, len, .nil, t⟩ h.nb).get x = some B → B.fr = false := by
        intro x B hx
        rw [hget] at hx
        by_cases e0 : x = h.nb
        · rw [if_pos e0] at hx
          obtain rfl := Option.some.inj hx
          rfl
        · rw [if_neg e0] at hx; exact hF.fr x B hx
      refine ⟨ups ρ h.nb ⟨b, off, cs.size, 0⟩, ⟨h.nb + 1, h.bs.set ⟨false, h.nb, len, .nil, t⟩ h.nb, h.gs, h.ms⟩, .sl h.nb 0 len 1 (some cap), ⟨⟨?_, ?_, ?_, ?_, ?_, ?_, ?_, Nat.le_refl _, ⟨?_, ?_⟩, hi.jj⟩, look, hF.gs, hF.ms⟩, hext, ?_, ?_, ?_⟩
      · intro x B hx
        have hx : (h.bs.set ⟨false, h.nb, len, .nil, t⟩ h.nb).get x = some B := hx
        rw [hget] at hx
        by_cases e0 : x = h.nb
        · rw [if_pos e0] at hx
          obtain rfl := Option.some.inj hx
          subst e0
          refine ⟨_, ups_same _ _ _, ⟨cs, e, fz, hr, rfl, fun hf => (by cases hf), fun _ i hi' => ?_⟩, (by show off + len ≤ cs.size; omega), fun hf => (by cases hf), fun _ => hlt⟩
          exact ⟨_, hcs i (by have : i < len := hi'; omega), by rw [hat i hi']; exact ⟨k, rfl, rfl⟩⟩
        · rw [if_neg e0] at hx
          obtain ⟨p, hp, hB⟩ := hi.blk x B hx
          refine ⟨p, hext _ _ hp, hB.later hext rfl fun _ hf => ?_⟩
          rw [hF.fr x B hx] at hf; cases hf
      · intro x B hx
        have hx : (h.bs.set ⟨false, h.nb, len, .nil, t⟩ h.nb).get x = some B := hx
        rw [hget] at hx
        by_cases e0 : x = h.nb
        · subst e0; exact Nat.lt_succ_self _
        · rw [if_neg e0] at hx; exact Nat.lt_succ_of_lt (hi.nb x B hx)
      · intro x B hx hf; rw [look x B hx] at hf; cases hf
      · intro g q hq
        have hq : h.gs.get g = some q := hq
        rw [hF.gs] at hq; cases hq
      · intro b1 b2 B1 B2 p1 p2 h1 h2 f1; rw [look b1 B1 h1] at f1; cases f1
      · intro b1 b2 B1 B2 p1 p2 h1 h2 f1; rw [look b1 B1 h1] at f1; cases f1
      · intro i hle
        have hle : h.nb + 1 ≤ i := hle
        rw [ups_ne _ _ (by omega)]
        exact hi.free i (by omega)
      · intro x m hx
        have hx : h.ms.get x = some m := hx
        rw [hF.ms] at hx; cases hx
      · intro b1 b2 m1 m2 p1 p2 h1
        have h1 : h.ms.get b1 = some m1 := h1
        rw [hF.ms] at h1; cases h1
      · exact ⟨⟨b, off, cs.size, 0⟩, cap, ups_same _ _ _, rfl, hl, .inr rfl, by show off + 0 + cap * 1 ≤ cs.size; omega⟩
      · refine ⟨hone, .inr (.inr ⟨h.nb, 0, _, _, by rw [hlen], Nat.lt_succ_self _, ⟨by rw [hget, if_pos rfl], Nat.lt_succ_self _, fun hf => (by cases hf)⟩, fun hf => (by cases hf), (fun c e => by cases e; rw [hlen]; exact hl), fun i hi' => ?_⟩)⟩
        rw [hlen] at hi'
        rw [Nat.zero_add, hat i hi']
        simp [List.getD, show i < zs.length by omega]
      · exact ⟨Nat.le_succ _, fun x hx _ => by show (h.bs.set _ h.nb).get x = _; rw [hget, if_neg (by omega)], fun _ _ _ => rfl, fun hn g hg => hn g (by have : h.nb + 1 ≤ g := hg; omega)⟩

theorem law_walk2 {P : Program} {f : FuncId} {g : Fun} (hF : FSound P f g) {args : List AV} {As : Array Value} {ρ : Rho} {h h' : Hp} {w : World} (hA : Args (P.globalNamed "internal/bytealg.MaxLen") ρ h w) (e : g args h = .ret (.bool true) h') (ha : F2 (VR ρ) args As.toList) :
    Calls P f As w fun e w' => e = .returned (.bool true) ∧ Kept w w' := by
  refine (hF (b0 w _) rfl ρ h w args As (.bool true) h' e hA.inv ha).mono fun e w' ⟨V, ρ', h1, h2⟩ => ?_
  have h3 : V = .bool true := h2.val
  subst h3
  exact ⟨h1, h2.tr.kept hA.fr hA.ms⟩
end Go.AM

namespace Go.AM
open Go
set_option autoImplicit false

theorem ldN_rd {h : Hp} {b o : Nat} {B : Blk} {l : List AV} (hr : Rd h b B) (hl : ∀ i (hi : i < l.length), B.at (o + i) = l[i]) (hu : ∀ v ∈ l, v ≠ .unk) (k : AV → Res) : ldN h l.length (.ptr b o) k = k (.agg (avL l)) := by
  have e : ldN h l.length (.ptr b o) k = gb h b fun B => rds B l.length o fun t => k (.agg t) := rfl
  rw [e, gb_rd hr, rds_list l o _ hl hu]

theorem mk_own {h : Hp} (hw : Wf h) (l : List AV) (hl : ∀ v ∈ l, one v = true) :
    ∃ h' B, (∀ k : AV → Hp → Res, mk h (avL l) k = k (.ptr h.nb 0) h') ∧ Own h' h.nb B ∧ B.lim = l.length ∧ (∀ i (hi : i < l.length), B.at i = l[i]) ∧ To No h h' ∧ Wf h' ∧ h'.nb = h.nb + 1 := by
  obtain ⟨t, h1, h2⟩ := lay_list l .e 0 hl
  obtain ⟨o1, o2⟩ := nw_own hw (0 + l.length) .nil t
  refine ⟨nw h (0 + l.length) .nil t, _, fun k => ?_, o1, Nat.zero_add _, fun i hi => ?_, o2, o2.wf hw, rfl⟩
  · have e : mk h (avL l) k = lay (avL l) .e 0 fun t n => k (.ptr h.nb 0) (nw h n .nil t) := rfl
    rw [e, h1]
  · rw [at_in _ (show i < 0 + l.length by omega)]
    simp only [h2 i]
    rw [dif_pos ⟨by omega, by omega⟩]
    simp

theorem stN_own {h : Hp} {b o : Nat} {B : Blk} {l : List AV} (hw : Own h b B) (ho : o + l.length ≤ B.lim) (hv : ∀ v ∈ l, one v = true) :
    ∃ h' B', (∀ k : Hp → Res, stN h l.length (.ptr b o) (.agg (avL l)) k = k h') ∧ Own h' b B' ∧ B'.lim = B.lim ∧ (∀ i, B'.at i = if hi : o ≤ i ∧ i < o + l.length then l[i - o]'(by omega) else B.at i) ∧ To (At b) h h' ∧ h'.nb = h.nb := by
  obtain ⟨t, t1, t2⟩ := lay_list l B.cs o hv
  have e : ∀ k : Hp → Res, stN h l.length (.ptr b o) (.agg (avL l)) k = ifB (Nat.beq (len (avL l)) l.length) (wb h b fun B gs => ifB (Nat.ble (Nat.add o l.length) B.lim) (lay (avL l) B.cs o fun t _ => k (putB h b B t gs)) .fail) .fail := fun k => rfl
  have hget : ∀ x, (putB h b B t h.gs).bs.get x = if x = b then some ⟨B.fr, B.g, B.lim, B.df, t⟩ else h.bs.get x := fun x => T.get_set _ _ _ _
  refine ⟨putB h b B t h.gs, ⟨B.fr, B.g, B.lim, B.df, t⟩, fun k => ?_, ⟨?_, hw.lt, hw.fr, hw.g, hw.gs⟩, rfl, fun i => ?_, ⟨Nat.le_refl _, fun x _ hx => ?_, fun _ _ _ => rfl, fun hn => hn⟩, rfl⟩
  · rw [e, len_avL, (beq_iff _ _).2 rfl, ifB_t, wb_own hw, (ble_iff _ _).2 (show Nat.add o l.length ≤ B.lim from ho), ifB_t, t1]
  · rw [hget, if_pos rfl]
  · by_cases hi : i < B.lim
    · rw [at_in (⟨B.fr, B.g, B.lim, B.df, t⟩ : Blk) (show i < B.lim from hi), at_in B hi]
      simp only [t2 i]
      by_cases hc : o ≤ i ∧ i < o + l.length
      · rw [dif_pos hc, dif_pos hc]
      · rw [dif_neg hc, dif_neg hc]
    · rw [at_out (⟨B.fr, B.g, B.lim, B.df, t⟩ : Blk) (show ¬ i < B.lim from hi), at_out B hi, dif_neg (by omega)]
  · rw [hget, if_neg (show ¬ x = b from hx)]

/-- make: a row of one-cell noughts. -/
theorem mkM_own {h : Hp} (hw : Wf h) (v : AV) (n by_ c1 c2 : Nat) (hb : by_ * n ≤ 140737488355328) (hn : n ≤ 9223372036854775807) :
    ∃ h' B, (∀ k : AV → Hp → Res, mkM h (.cons v .nil) by_ (.int c1 (n : Int)) (.int c2 (n : Int)) k = k (.sl h.nb 0 n 1 (some n)) h') ∧ Own h' h.nb B ∧ B.lim = n ∧ (∀ i, i < n → B.at i = v) ∧ To No h h' ∧ Wf h' ∧ h'.nb = h.nb + 1 := by
  obtain ⟨o1, o2⟩ := nw_own hw (n * 1) (.cons v .nil) .e
  refine ⟨nw h (n * 1) (.cons v .nil) .e, _, fun k => ?_, o1, Nat.mul_one n, fun i hi => ?_, o2, o2.wf hw, rfl⟩
  · have e : mkM h (.cons v .nil) by_ (.int c1 (n : Int)) (.int c2 (n : Int)) k = ifB (Nat.ble n n) (ifB (Nat.ble (Nat.mul by_ n) 140737488355328) (ifB (Nat.ble n 9223372036854775807) (k (.sl h.nb 0 n 1 (some n)) (nw h (Nat.mul n 1) (.cons v .nil) .e)) .fail) .fail) .fail := rfl
    rw [e, (ble_iff _ _).2 (Nat.le_refl n), (ble_iff _ _).2 (show Nat.mul by_ n ≤ _ from hb), (ble_iff _ _).2 hn]; rfl
  · rw [at_in _ (show i < n * 1 by omega)]
    show nth (.cons v .nil) (i % len (.cons v .nil)) = v
    have e : len (.cons v .nil) = 1 := rfl
    rw [e, Nat.mod_one]; rfl
end Go.AM

namespace Go.AM
open Go
set_option autoImplicit false
/-- Does p hold of all places of a trie that hold something? -/
noncomputable def T.allH {α : Type} (p : Nat → Bool) (t : T α) : (Nat → Nat) → Bool :=
  T.rec (motive := fun _ => (Nat → Nat) → Bool) (fun _ => true)
    (fun v _ _ il ir f => Bool.rec (motive := fun _ => Bool) false (Bool.rec (motive := fun _ => Bool) false (ir fun k => f (2 * k + 2)) (il fun k => f (2 * k + 1))) (Option.rec (motive := fun _ => Bool) true (fun _ => p (f 0)) v)) t
theorem T.allH_get {α : Type} (p : Nat → Bool) : ∀ (t : T α) (f : Nat → Nat) (k : Nat) (v : α), T.allH p t f = true → t.get k = some v → p (f k) = true := by
  intro t
  induction t with
  | e => intro f k v _ h; cases h
  | n o l r ihl ihr =>
    intro f k v ha hg
    have e : T.allH p (.n o l r) f = Bool.rec (motive := fun _ => Bool) false (Bool.rec (motive := fun _ => Bool) false (T.allH p r fun k => f (2 * k + 2)) (T.allH p l fun k => f (2 * k + 1))) (Option.rec (motive := fun _ => Bool) true (fun _ => p (f 0)) o) := rfl
    rw [e, recB, recB] at ha
    have h1 : (Option.rec (motive := fun _ => Bool) true (fun _ => p (f 0)) o) = true := by
      by_cases q : (Option.rec (motive := fun _ => Bool) true (fun _ => p (f 0)) o) = true
      · exact q
      · rw [if_neg q] at ha; cases ha
    rw [if_pos h1] at ha
    have h2 : T.allH p l (fun k => f (2 * k + 1)) = true := by
      by_cases q : T.allH p l (fun k => f (2 * k + 1)) = true
      · exact q
      · rw [if_neg q] at ha; cases ha
    rw [if_pos h2] at ha
    cases k with
    | zero =>
      have hg : o = some v := hg
      subst hg
      exact h1
    | succ m =>
      rw [T.get_ns] at hg
      by_cases hm : m % 2 = 1
      · rw [if_pos hm] at hg
        have := ihr _ _ _ ha hg
        have e : 2 * (m / 2) + 2 = m + 1 := by omega
        simpa [e] using this
      · rw [if_neg hm] at hg
        have := ihl _ _ _ h2 hg
        have e : 2 * (m / 2) + 1 = m + 1 := by omega
        simpa [e] using this
noncomputable def wfH (h : Hp) : Bool := T.allH (fun k => Nat.blt k h.nb) h.gs fun k => k
theorem wfH_of {h : Hp} (hb : wfH h = true) : Wf h := by
  intro g hg
  cases hq : h.gs.get g with
  | none => rfl
  | some q =>
    have := T.allH_get _ _ _ _ _ hb hq
    rw [blt_iff] at this
    omega
/-- True, and memory is in order. -/
noncomputable def isTH (r : Res) : Bool := Bool.rec (motive := fun _ => Bool) false (Res.rec (motive := fun _ => Bool) false (fun _ _ => false) (fun _ _ _ => false) (fun _ h => wfH h) r) (isT r)
theorem isTH_inv {r : Res} (h : isTH r = true) : ∃ h', r = .ret (.bool true) h' ∧ Wf h' := by
  have e : isTH r = Bool.rec (motive := fun _ => Bool) false (Res.rec (motive := fun _ => Bool) false (fun _ _ => false) (fun _ _ _ => false) (fun _ h => wfH h) r) (isT r) := rfl
  rw [e, recB] at h
  by_cases q : isT r = true
  · rw [if_pos q] at h
    obtain ⟨h', rfl⟩ := isT_inv q
    exact ⟨h', rfl, wfH_of h⟩
  · rw [if_neg q] at h; cases h

/-- A row of bytes of its own. -/
def RowN (h : Hp) (b : Nat) (t : List Nat) : Prop := ∃ B, Own h b B ∧ B.lim = t.length ∧ ∀ i (hi : i < t.length), B.at i = .int 8 (t[i] : Int)
theorem RowN.put {h : Hp} {b : Nat} {t : List Nat} (hr : RowN h b t) (j x : Nat) (hj : j < t.length) :
    ∃ h', (∀ k : Hp → Res, st1 h (.ptr b j) (.int 8 (x : Int)) k = k h') ∧ RowN h' b (t.set j x) ∧ To (At b) h h' ∧ h'.nb = h.nb := by
  obtain ⟨B, o, hl, hat⟩ := hr
  obtain ⟨h', e, o', t', n'⟩ := st1_own (o := j) (v := .int 8 (x : Int)) o (by omega) rfl
  refine ⟨h', e, ⟨_, o', by rw [List.length_set]; exact hl, fun i hi => ?_⟩, t', n'⟩
  rw [List.length_set] at hi
  rw [setC_at (by omega)]
  by_cases e : i = j
  · subst e; rw [if_pos rfl]; simp
  · rw [if_neg e, hat i hi, List.getElem_set_ne (fun h => e h.symm)]
theorem RowN.to {W : Nat → Prop} {h h' : Hp} {b : Nat} {t : List Nat} (hr : RowN h b t) (ht : To W h h') (hw : ¬ W b) : RowN h' b t := by
  obtain ⟨B, o, hl, hat⟩ := hr
  exact ⟨B, o.to ht hw, hl, hat⟩
theorem RowN.sl {h : Hp} {b : Nat} {t : List Nat} (hr : RowN h b t) (P : Nat → Prop) (hP : P b) : Sl h P (.sl b 0 t.length 1 (some t.length)) (t.map fun (x : Nat) => AV.int 8 (x : Int)) := by
  obtain ⟨B, o, hl, hat⟩ := hr
  refine ⟨fun x hx => ?_, .inr (.inr ⟨b, 0, some t.length, B, by rw [List.length_map], hP, o.rd, fun _ => by rw [o.g]; exact hP, (fun c e => by cases e; rw [List.length_map]; exact Nat.le_refl _), fun i hi => ?_⟩)⟩
  · obtain ⟨y, -, rfl⟩ := List.mem_map.1 hx; rfl
  · rw [List.length_map] at hi
    rw [Nat.zero_add, hat i hi]
    simp
theorem mkRowN {h : Hp} (hw : Wf h) (n : Nat) (hn : n ≤ 1000000) :
    ∃ h', (∀ k : AV → Hp → Res, mkM h (.cons (.int 8 0) .nil) 1 (.int 63 (n : Int)) (.int 63 (n : Int)) k = k (.sl h.nb 0 n 1 (some n)) h') ∧ RowN h' h.nb (List.replicate n 0) ∧ To No h h' ∧ Wf h' ∧ h'.nb = h.nb + 1 := by
  obtain ⟨h', B, e, o, hl, hat, t, w, q⟩ := mkM_own hw (.int 8 0) n 1 63 63 (by omega) (by omega)
  refine ⟨h', e, ⟨B, o, by rw [List.length_replicate]; exact hl, fun i hi => ?_⟩, t, w, q⟩
  rw [List.length_replicate] at hi
  rw [hat i hi, List.getElem_replicate]; rfl
end Go.AM

namespace Go.AM
open Go
set_option autoImplicit false

theorem efail {P : Program} {f : FuncId} : ESound P f (fun _ _ => .fail) := fun N0 hN ρ h w args Args v h' e => by cases e

theorem idxB_eq (x : Nat) (c : UInt8) : ∀ (l : List UInt8) (i : Nat), (∀ j (hj : j < l.length), byteAt x (i + j) = l[j].toNat) → idxB x c.toNat l.length i = if Lib.indexByte l c = -1 then -1 else Lib.indexByte l c + i := by
  intro l
  induction l with
  | nil => intro i _; rfl
  | cons b l ih =>
    intro i h
    have e : idxB x c.toNat (l.length + 1) i = Bool.rec (motive := fun _ => Int) (idxB x c.toNat l.length (i + 1)) (Int.ofNat i) (Nat.beq (byteAt x i) c.toNat) := rfl
    rw [List.length_cons, e, recB]
    have h0 := h 0 (by simp)
    simp only [Nat.add_zero, List.getElem_cons_zero] at h0
    rw [h0]
    simp only [beq_iff]
    have hge := Lib.indexByte_ge l c
    unfold Lib.indexByte
    by_cases hb : b = c
    · subst hb
      simp
    · have hn : ¬ b.toNat = c.toNat := fun h => hb (UInt8.toNat_inj.1 h)
      have hb' : (b == c) = false := by simpa using hb
      rw [if_neg hn, ih (i + 1) (fun j hj => by
        have := h (j + 1) (by simpa using hj)
        rw [show i + 1 + j = i + (j + 1) by omega]
        simpa using this), hb']
      simp only [Bool.false_eq_true, if_false, beq_iff_eq]
      split
      · simp
      · rw [if_neg (by omega)]; omega

theorem cntB_eq (x : Nat) (c : UInt8) : ∀ (l : List UInt8) (i : Nat), (∀ j (hj : j < l.length), byteAt x (i + j) = l[j].toNat) → cntB x c.toNat l.length i = Lib.countByte l c := by
  intro l
  induction l with
  | nil => intro i _; rfl
  | cons b l ih =>
    intro i h
    have e : cntB x c.toNat (l.length + 1) i = Bool.rec (motive := fun _ => Nat) (cntB x c.toNat l.length (i + 1)) (Nat.succ (cntB x c.toNat l.length (i + 1))) (Nat.beq (byteAt x i) c.toNat) := rfl
    rw [List.length_cons, e, recB]
    have h0 := h 0 (by simp)
    simp only [Nat.add_zero, List.getElem_cons_zero] at h0
    rw [h0]
    simp only [beq_iff]
    rw [ih (i + 1) (fun j hj => by
      have := h (j + 1) (by simpa using hj)
      rw [show i + 1 + j = i + (j + 1) by omega]
      simpa using this)]
    unfold Lib.countByte
    rw [List.count_cons]
    by_cases hb : b = c
    · subst hb; simp
    · have hn : ¬ b.toNat = c.toNat := fun h => hb (UInt8.toNat_inj.1 h)
      rw [if_neg hn]
      simp [hb]

section
variable {P : Program} {f : FuncId} {fn : Func}
theorem x2_inv {ρ : Rho} {args : List AV} {Args : Array Value} {h h' : Hp} {v : AV} {r : Nat → Nat → Nat → Int}
    (e : (List.rec (motive := fun _ => Res) .fail (fun s t _ => List.rec (motive := fun _ => Res) .fail (fun c t _ => List.rec (motive := fun _ => Res)
      (cS s fun n x => cI c fun d b => ifB (Nat.beq d 8) (Int.rec (motive := fun _ => Res) (fun b => ifB (Nat.blt b 256) (.ret (.int 63 (r n x b)) h) .fail) (fun _ => .fail) b) .fail) (fun _ _ _ => .fail) t) t) args : Res) = .ret v h')
    (ha : F2 (VR ρ) args Args.toList) : ∃ (s : ByteArray) (c : UInt8), Args = #[.string s, .int .u8 c.toNat] ∧ v = .int 63 (r s.data.size (packB s.data.toList) c.toNat) ∧ h' = h := by
  cases ha' : Args.toList with
  | nil =>
    rw [ha'] at ha
    cases ha
    cases e
  | cons A L =>
    rw [ha'] at ha
    cases ha with
    | @cons a _ _ _ hA hL =>
      cases hL with
      | nil => cases e
      | @cons b _ _ _ hB hL2 =>
        cases hL2 with
        | cons hC hL3 => cases e
        | nil =>
          have e : (cS a fun n x => cI b fun d c => ifB (Nat.beq d 8) (Int.rec (motive := fun _ => Res) (fun c => ifB (Nat.blt c 256) (.ret (.int 63 (r n x c)) h) .fail) (fun _ => .fail) c) .fail) = .ret v h' := e
          obtain ⟨n, x, rfl, e1⟩ := cS_inv e (by simp)
          obtain ⟨d, c, rfl, e2⟩ := cI_inv e1 (by simp)
          obtain ⟨hd, e3⟩ := ifF_inv e2 (by simp)
          rw [beq_iff] at hd
          subst hd
          obtain ⟨m, rfl, e4⟩ := natC_inv e3 (by simp)
          obtain ⟨hm, e5⟩ := ifF_inv e4 (by simp)
          rw [blt_iff] at hm
          obtain ⟨s, rfl, rfl, rfl⟩ := hA
          obtain ⟨k, hk, rfl⟩ := hB
          obtain rfl : k = .u8 := cOf_inj _ _ hk
          cases e5
          refine ⟨s, UInt8.ofNat m, ?_, ?_, rfl⟩
          · apply Array.toList_inj.1
            rw [ha']
            have : ((UInt8.ofNat m).toNat : Int) = m := by rw [u8n _ hm]
            rw [this]
          · rw [u8n _ hm]

theorem xIdx_e (hf : P.funcs[f]? = some fn) (hn : (fn.name == "runtime.NumGoroutine") = false) (hb : fn.body.isNone = true) (hx : Extern.findNext fn = none) (he : Extern.find fn = some Extern.BytealgIndexByte.indexByte) : ESound P f xIdx := by
  intro N0 hN ρ h w args Args v h' e hi ha
  obtain ⟨s, c, rfl, rfl, rfl⟩ := x2_inv (r := fun n x b => idxB x b n 0) e ha
  refine ⟨.int .i64 (Lib.indexByte s.data.toList c), w, ρ, ?_, ⟨.i64, rfl, ?_⟩, hi, Tr.refl _ _ _⟩
  · rw [run_callFunc_extern hf hn hb hx he, Lib.run_indexByteString]
    simp
  · have h1 := idxB_eq (packB s.data.toList) c s.data.toList 0 (fun j hj => by rw [Nat.zero_add]; exact byteAt_eq _ _ hj)
    simp only [Array.length_toList] at h1
    rw [h1]
    have hge := Lib.indexByte_ge s.data.toList c
    congr 1
    split
    · rename_i h0; exact h0
    · simp

theorem xCnt_e (hf : P.funcs[f]? = some fn) (hn : (fn.name == "runtime.NumGoroutine") = false) (hb : fn.body.isNone = true) (hx : Extern.findNext fn = none) (he : Extern.find fn = some Extern.BytealgCount.count) : ESound P f xCnt := by
  intro N0 hN ρ h w args Args v h' e hi ha
  obtain ⟨s, c, rfl, rfl, rfl⟩ := x2_inv (r := fun n x b => Int.ofNat (cntB x b n 0)) e ha
  refine ⟨.int .i64 (Lib.countByte s.data.toList c), w, ρ, ?_, ⟨.i64, rfl, ?_⟩, hi, Tr.refl _ _ _⟩
  · rw [run_callFunc_extern hf hn hb hx he, Lib.run_countString]
    simp
  · have h1 := cntB_eq (packB s.data.toList) c s.data.toList 0 (fun j hj => by rw [Nat.zero_add]; exact byteAt_eq _ _ hj)
    simp only [Array.length_toList] at h1
    rw [h1]; rfl
end
end Go.AM
