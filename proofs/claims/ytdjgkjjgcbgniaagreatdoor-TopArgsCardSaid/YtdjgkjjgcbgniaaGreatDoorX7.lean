/-
  Some cases of the law TopArgs.
-/
import Derived.Test.YtdjgkjjgcbgniaaGreatDoorFg
import Derived.KernelRfl
set_option linter.unusedVariables false
set_option linter.unusedSimpArgs false
set_option maxRecDepth 100000
namespace Go.Proofs.YtdjgkjjgcbgniaaGreatDoor.LTopArgs
open Go Go.AM
noncomputable def pv (r : Res) (i : Nat) : AV := Res.rec (motive := fun _ => AV) .unk (fun _ _ => .unk) (fun _ _ _ => .unk) (fun v _ => nth v i) r
noncomputable def hO (r : Res) : Hp := Res.rec (motive := fun _ => Hp) H0 (fun _ _ => H0) (fun _ _ _ => H0) (fun _ h => h) r
noncomputable def isRB (r : Res) : Bool := Res.rec (motive := fun _ => Bool) false (fun _ _ => false) (fun _ _ _ => false) (fun v _ => AV.rec (motive := fun _ => Bool) (false) (fun b => true) (fun _ _ => false) (fun _ _ => false) (false) (fun _ _ => false) (false) (fun _ _ _ _ _ => false) (false) (false) (fun _ _ _ => false) (false) (fun _ _ _ _ _ => false) (false) (fun _ => false) (fun _ _ => false) (fun _ _ => false) (false) (fun _ _ _ _ => false) v) r
noncomputable def bv (r : Res) : Bool := Res.rec (motive := fun _ => Bool) false (fun _ _ => false) (fun _ _ _ => false) (fun v _ => AV.rec (motive := fun _ => Bool) (false) (fun b => b) (fun _ _ => false) (fun _ _ => false) (false) (fun _ _ => false) (false) (fun _ _ _ _ _ => false) (false) (false) (fun _ _ _ => false) (false) (fun _ _ _ _ _ => false) (false) (fun _ => false) (fun _ _ => false) (fun _ _ => false) (false) (fun _ _ _ _ => false) v) r
theorem ret_of {R : Res} (h : isRB R = true) (hb : bv R = true) : R = .ret (.bool true) (hO R) := by
  cases R with
  | ret v h' =>
    cases v with
    | bool b => obtain rfl : b = true := hb; rfl
    | _ => exact nomatch (show false = true from h)
  | _ => exact nomatch (show false = true from h)
theorem gj_done {R : Res} {H : Hp} (h : R = .ret (.bool true) H) (h0 : Hp) (k : AV → Hp → Res) : gj (.bool true) true (cl R fun a b => .norm [a] b) h0 k = k (.bool true) H := by subst h; rfl
theorem ww3131 (x : Int) : wrapC 31 (wrapC 31 x) = wrapC 31 x := by simp only [w31, Int.bmod_bmod]
theorem ww6331 (x : Int) : wrapC 63 (wrapC 31 x) = wrapC 31 x := by
  have h : -2147483648 ≤ wrapC 31 x ∧ wrapC 31 x < 2147483648 := by rw [w31]; simp only [Int.bmod]; split <;> omega
  exact w63_in _ (by omega) (by omega)
theorem ww3163 (x : Int) : wrapC 31 (wrapC 63 x) = wrapC 31 x := by rw [w31, w31, w63]; simp only [Int.bmod]; split <;> split <;> split <;> omega
noncomputable def argQ7 (s9 s10 s11 s12 s13 s15 : Fun) : Fun := fun a b => uc a fun a c => uz c (cl (s9 [] b) fun b c => bNot b fun d => cB d fun d => ifB d (.fail) (jn (lenL a fun d => ltN (I 10) d fun d => ifB d (cutS 1 a none (some (I 10)) none fun a => .norm [a, b] c) (.norm [a, b] c)) fun a b => uc a fun a c => uc c fun c _ => cl (s10 [] b) fun b d => bld [(false, 1, (J 3))] fun e => mkS d 1 1 e fun d e => blk 0 (lp (L7n0 s9 s10 s11 s12 s13 s15) most [a, c, b, d, (.str 1 40), (I 0)] e) fun a b => uc a fun a c => uc c fun c d => uc d fun d e => uc e fun e f => uc f fun f _ => sCat f (.str 2 18729) fun f => bld [(false, 1, (J 172))] fun g => mkS b 1 1 g fun b g => apd g 1 1 e b fun b e => cl (s11 [d, (I 9), (.str 2 28519), f, (I 3), (I 9), b, .nils, .nils] e) fun _ b => bld [(false, 1, d)] fun d => mkS b 1 1 d fun b d => cl (s12 [b] d) fun b d => cl (s13 [b, (.str 2 28519), (I 100), a] d) fun d e => mk e (.cons (I 0) (.cons (I 0) (.cons (J 0) (.cons (I 0) (.cons (.str 0 0) (.cons (.str 0 0) (.cons (.bool false) (.cons (I 0) (.cons .nils (.cons (I 0) (.cons (I 0) .nil))))))))))) fun e f => stN f 11 e d fun d => lenL a fun f => ltN (I 8) f fun f => ifB f (ap (gsel c true b) fun a => gj c true (nck a fun a => .norm [a] d) d fun a b => gj c true (fa 1 a fun a => .norm [a] b) b fun a b => gj c true (ld1 b a fun a => .norm [a] b) b fun a b => cB c fun c => ap (sel c a (.bool false)) fun a => gj a true (fa 1 e fun a => .norm [a] b) b fun b c => gj a true (ld1 c b fun a => .norm [a] c) c fun b c => gj a true (eqN b (I 5) fun a => .norm [(.bool a)] c) c fun b c => cB a fun a => ap (sel a b (.bool false)) fun a => gj a true (fa 0 e fun a => .norm [a] c) c fun b c => gj a true (ld1 c b fun a => .norm [a] c) c fun b c => gj a true (eqN b (I 9) fun a => .norm [(.bool a)] c) c fun b c => cB a fun a => ap (sel a b (.bool false)) fun a => cK a fun a => .ret a c) (blk 2 (lp (L7n1 s9 s10 s11 s12 s13 s15) most [a, c, b, e, (K 0), (I 0)] d) fun a b => uc a fun a c => uc c fun c d => uc d fun d e => uc e fun e f => uc f fun f _ => apd b 1 8 .nils a fun a b => bld [(false, 1, (I 1))] fun g => mkS b 1 1 g fun b g => apd g 1 8 a b fun a b => cl (s13 [d, (.str 2 28519), (I 100), a] b) fun a b => mk b (.cons (I 0) (.cons (I 0) (.cons (J 0) (.cons (I 0) (.cons (.str 0 0) (.cons (.str 0 0) (.cons (.bool false) (.cons (I 0) (.cons .nils (.cons (I 0) (.cons (I 0) .nil))))))))))) fun b g => stN g 11 b a fun a => ap (gsel c true d) fun d => gj c true (nck d fun b => .norm [b] a) a fun a d => gj c true (fa 1 a fun a => .norm [a] d) d fun a d => gj c true (ld1 d a fun a => .norm [a] d) d fun a d => cB c fun c => ap (sel c a (.bool false)) fun a => gj a true (ldN d 11 e fun a => .norm [a] d) d fun c d => ap (gsel a true f) fun e => gj a true (iConv 63 e fun a => .norm [a] d) d fun d e => .ret (.cons c (.cons d (.cons a (.cons b .nil)))) e)))
noncomputable def argK7 (s9 s10 s11 s12 s13 s15 : Fun) (a : AV) (b : AV) (c : AV) (d : Hp) : Res := cB a fun a => ap (sel a c (.bool false)) fun a => gj a true (fa 0 b fun a => .norm [a] d) d fun c d => gj a true (ld1 d c fun a => .norm [a] d) d fun c d => gj a true (eqN c (I 9) fun a => .norm [(.bool a)] d) d fun c d => cB a fun a => ap (sel a c (.bool false)) fun a => gj a true (fa 1 b fun a => .norm [a] d) d fun b c => gj a true (ld1 c b fun a => .norm [a] c) c fun b c => gj a true (eqN b (I 5) fun a => .norm [(.bool a)] c) c fun b c => cB a fun a => ap (sel a b (.bool false)) fun a => cK a fun a => .ret a c
end Go.Proofs.YtdjgkjjgcbgniaaGreatDoor.LTopArgs
