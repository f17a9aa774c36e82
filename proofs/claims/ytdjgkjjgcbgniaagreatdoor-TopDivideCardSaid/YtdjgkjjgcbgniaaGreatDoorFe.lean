/-
  What functions of the program compute, in the abstract machine's words (printed by gen.lean): each is what its text denotes.
-/
import Derived.Test.YtdjgkjjgcbgniaaGreatDoorFd
set_option linter.unusedVariables false
set_option linter.unusedSimpArgs false
namespace Go.Proofs.YtdjgkjjgcbgniaaGreatDoor
open Go Go.AM
set_option autoImplicit false
set_option maxRecDepth 100000
set_option linter.unusedVariables false
noncomputable section
/-- obelisk/obelisktop.towered -/
def L12n0 (s32 s33 s34 : Fun) : List AV → Hp → Res := fun a b => uc a fun a c => uc c fun c d => uc d fun d _ => lenL a fun e => ltN d e fun e => ap (gsel (.bool e) true c) fun f => gj (.bool e) true (nck f fun a => .norm [a] b) b fun b f => gj (.bool e) true (fa 0 b fun a => .norm [a] f) f fun b f => gj (.bool e) true (ld1 f b fun a => .norm [a] f) f fun b f => gj (.bool e) true (eqP b .nilp fun a => .norm [(.bool (bnot a))] f) f fun b f => cB (.bool e) fun e => ap (sel e b (.bool false)) fun b => cB b fun b => ifB b (blk 1 (nm (.norm [c] f) fun b _ => nm (nck b fun a => .norm [a] f) fun b _ => nm (fa 0 b fun a => .norm [a] f) fun b _ => nm (ld1 f b fun a => .norm [a] f) fun e _ => nm (.norm [a] f) fun g _ => nm (.norm [d] f) fun h _ => nm (ixA 1 g h fun a => .norm [a] f) fun g _ => nm (ld1 f g fun a => .norm [a] f) fun h _ => nm (nck h fun a => .norm [a] f) fun i _ => nm (fa 4 i fun a => .norm [a] f) fun i _ => nm (ld1 f i fun a => .norm [a] f) fun j _ => nm (.norm [a] f) fun k _ => nm (.norm [d] f) fun l _ => nm (ixA 1 k l fun a => .norm [a] f) fun k _ => nm (ld1 f k fun a => .norm [a] f) fun l _ => nm (.norm [(.cons (I 0) (.cons (I 0) (.cons (J 0) (.cons (I 0) (.cons (.str 0 0) (.cons (.str 0 0) (.cons (.bool false) (.cons (I 0) (.cons .nils (.cons (I 0) (.cons (I 0) .nil)))))))))))] f) fun m _ => lay m .e 0 fun m n => ifB true (rsv f fun f o => nm (ld1 o k fun a => .norm [a] o) fun k _ => same l k (nm (ld1 o i fun a => .norm [a] o) fun k _ => same j k (nm (ld1 o g fun a => .norm [a] o) fun k _ => same h k (nm (ld1 o b fun a => .norm [a] o) fun k _ => same e k (nm (cl (s34 [l] o) fun a b => .norm [a] b) fun k l => nm (ld1 l i fun a => .norm [a] l) fun i _ => same j i (nm (ld1 l g fun a => .norm [a] l) fun i _ => same h i (nm (ld1 l b fun a => .norm [a] l) fun b _ => same e b (nm (bld [(false, 1, (I 1)), (false, 1, j), (false, 1, k), (false, 1, (.str 0 0)), (false, 1, .nils), (false, 1, (I 0))] fun a => .norm [(.agg a)] l) fun b _ => nm (cl (s33 [e, b] l) fun a b => .norm [a] b) fun b e => nm (ld1 e g fun a => .norm [a] e) fun i _ => same h i (dueK e f n m fun e => nm (ld1 e g fun a => .norm [a] e) fun g _ => same h g (nm (stN e 11 (.ptr f 0) b fun a => .norm [(.tup .nil)] a) fun _ b => nl 1 b c fun e => gj e true (fa 0 (.ptr f 0) fun a => .norm [a] b) b fun b f => gj e true (ld1 f b fun a => .norm [a] f) f fun b f => gj e true (eqN b (I 0) fun a => .norm [(.bool a)] f) f fun b f => cB e fun e => ap (sel e b (.bool false)) fun b => na 1 c fun e => st1 f e b fun b => .norm [a, c, d] b)))))))))) .fail) fun a b => uc a fun a c => uc c fun c d => uc d fun d _ => iAdd d (I 1) fun d => .norm [a, c, d] b) (.exit 0 [c] f)
def b12 (s32 s33 s34 : Fun) : Fun := fun a b => uc a fun a c => uz c (cl (s32 [] b) fun b c => bld [(false, 1, b), (false, 1, (.bool true))] fun b => mk c (cells (.agg b)) fun b c => blk 0 (lp (L12n0 s32 s33 s34) most [a, b, (I 0)] c) fun a b => uc a fun a _ => nl 1 b a fun c => ap (gsel c true a) fun d => gj c true (nck d fun a => .norm [a] b) b fun b d => gj c true (fa 0 b fun a => .norm [a] d) d fun b d => gj c true (ld1 d b fun a => .norm [a] d) d fun b d => gj c true (eqP b .nilp fun a => .norm [(.bool (bnot a))] d) d fun b d => cB c fun c => ap (sel c b (.bool false)) fun b => na 1 a fun c => st1 d c b fun b => cK a fun a => .ret a b)
def g12 : Hint := (.s .z (.s .z (.s (.s .z (.b [3] (.l [0, 3, 4] (.s (.s .z (.s .z .z)) (.s (.b [0, 3, 4] (.s (.f [(0, 0), (0, 1), (0, 2), (0, 3), (0, 4), (0, 5), (0, 6), (0, 7), (0, 8), (0, 9), (0, 10), (0, 11), (0, 12), (0, 13), (0, 14), (1, 18), (0, 15), (0, 16), (0, 17), (2, 18), (0, 19)]) .z)) .z))))) (.s .z (.s .z .z)))))
theorem e12 (s32 s33 s34 : Fun) : b12 s32 s33 s34 = denF Tryz.prog (gam [(32, s32), (33, s33), (34, s34)]) Tryz.f12 g12 := by kernel_rfl
def s12 : Fun := b12 s32 s33 s34
theorem F12 : Snd Tryz.prog 12 s12 := snd_of hmix (gcons F32 (gcons F33 (gcons F34 gnil))) Tryz.func12 (by kernel_rfl) (by kernel_rfl) (e12 s32 s33 s34)

/-- (*obelisk/obelisktop.T).run -/
def b13 (s33 : Fun) : Fun := fun a b => uc a fun a c => uc c fun c d => uc d fun d e => uc e fun e f => uz f (mk b (.cons (I 0) (.cons (I 0) (.cons (J 0) (.cons (I 0) (.cons (.str 0 0) (.cons (.str 0 0) (.cons (.bool false) (.cons (I 0) (.cons .nils (.cons (I 0) (.cons (I 0) .nil))))))))))) fun b f => nl 0 f a fun a => bld [(false, 1, (I 2)), (false, 1, (.str 1 77)), (false, 1, .nils), (false, 1, c), (false, 1, e), (false, 1, d)] fun c => cl (s33 [a, (.agg c)] f) fun a c => stN c 11 b a fun a => ldN a 11 b fun b => .ret b a)
def g13 : Hint := (.s .z (.s .z .z))
theorem e13 (s33 : Fun) : b13 s33 = denF Tryz.prog (gam [(33, s33)]) Tryz.f13 g13 := by kernel_rfl
def s13 : Fun := b13 s33
theorem F13 : Snd Tryz.prog 13 s13 := snd_of hmix (gcons F33 gnil) Tryz.func13 (by kernel_rfl) (by kernel_rfl) (e13 s33)

/-- obelisk/obelisktop.thrown -/
def b14 : Fun := fun a b => uc a fun a c => uc c fun c d => uz d (mk b (cells a) fun a b => fl 0 b a fun d => eqN d (I 0) fun d => gj (.bool d) true (fa 1 a fun a => .norm [a] b) b fun b e => gj (.bool d) true (ld1 e b fun a => .norm [a] e) e fun b e => gj (.bool d) true (eqN b (I 2) fun a => .norm [(.bool a)] e) e fun b e => cB (.bool d) fun d => ap (sel d b (.bool false)) fun b => gj b true (fa 4 a fun a => .norm [a] e) e fun d e => gj b true (ld1 e d fun a => .norm [a] e) e fun d e => ap (gsel b true c) fun c => gj b true (sCat (.str 10 223859193091833076277610) c fun a => .norm [a] e) e fun c e => gj b true (eqS d c fun a => .norm [(.bool a)] e) e fun c d => cB b fun b => ap (sel b c (.bool false)) fun b => gj b true (fa 6 a fun a => .norm [a] d) d fun a c => gj b true (ld1 c a fun a => .norm [a] c) c fun a c => gj b true (bNot a fun a => .norm [a] c) c fun a c => cB b fun b => ap (sel b a (.bool false)) fun a => cK a fun a => .ret a c)
def g14 : Hint := (.s .z (.s .z .z))
theorem e14 : b14 = denF Tryz.prog (gam []) Tryz.f14 g14 := by kernel_rfl
def s14 : Fun := b14
theorem F14 : Snd Tryz.prog 14 s14 := snd_of hmix gnil Tryz.func14 (by kernel_rfl) (by kernel_rfl) (e14)

/-- obelisk/obelisktop.done -/
def b15 : Fun := fun a b => uc a fun a c => uc c fun c d => uz d (mk b (cells a) fun a b => fl 0 b a fun d => eqN d (I 0) fun d => gj (.bool d) true (fa 1 a fun a => .norm [a] b) b fun b e => gj (.bool d) true (ld1 e b fun a => .norm [a] e) e fun b e => gj (.bool d) true (eqN b (I 1) fun a => .norm [(.bool a)] e) e fun b e => cB (.bool d) fun d => ap (sel d b (.bool false)) fun b => gj b true (fa 2 a fun a => .norm [a] e) e fun d e => gj b true (ld1 e d fun a => .norm [a] e) e fun d e => gj b true (eqN d (J 73) fun a => .norm [(.bool a)] e) e fun d e => cB b fun b => ap (sel b d (.bool false)) fun b => gj b true (fa 3 a fun a => .norm [a] e) e fun a d => gj b true (ld1 d a fun a => .norm [a] d) d fun a d => ap (gsel b true c) fun c => gj b true (eqN a c fun a => .norm [(.bool a)] d) d fun a c => cB b fun b => ap (sel b a (.bool false)) fun a => cK a fun a => .ret a c)
def g15 : Hint := (.s .z (.s .z .z))
theorem e15 : b15 = denF Tryz.prog (gam []) Tryz.f15 g15 := by kernel_rfl
def s15 : Fun := b15
theorem F15 : Snd Tryz.prog 15 s15 := snd_of hmix gnil Tryz.func15 (by kernel_rfl) (by kernel_rfl) (e15)

/-- What stands between the function that is known in several ways and the law -/
def t262 (A : Fun) : Fun := b262 s154 s163 s165 s257 s327 A
theorem H262 {A : Fun} (hA : Snd Tryz.prog 329 A) : Snd Tryz.prog 262 (t262 A) := snd_of hmix (gcons F154 (gcons F163 (gcons F165 (gcons F257 (gcons F327 (gcons hA gnil)))))) Tryz.func262 (by kernel_rfl) (by kernel_rfl) (e262 s154 s163 s165 s257 s327 A)
def t170 (A : Fun) : Fun := b170 s159 s255 s256 s257 s261 (t262 A) s263
theorem H170 {A : Fun} (hA : Snd Tryz.prog 329 A) : Snd Tryz.prog 170 (t170 A) := snd_of hmix (gcons F159 (gcons F255 (gcons F256 (gcons F257 (gcons F261 (gcons (H262 hA) (gcons F263 gnil))))))) Tryz.func170 (by kernel_rfl) (by kernel_rfl) (e170 s159 s255 s256 s257 s261 (t262 A) s263)
def t88 (A : Fun) : Fun := b88 s168 s169 (t170 A)
theorem H88 {A : Fun} (hA : Snd Tryz.prog 329 A) : Snd Tryz.prog 88 (t88 A) := snd_of hmix (gcons F168 (gcons F169 (gcons (H170 hA) gnil))) Tryz.func88 (by kernel_rfl) (by kernel_rfl) (e88 s168 s169 (t170 A))
def t58 (A : Fun) : Fun := b58 s80 s86 s87 (t88 A)
theorem H58 {A : Fun} (hA : Snd Tryz.prog 329 A) : Snd Tryz.prog 58 (t58 A) := snd_of hmix (gcons F80 (gcons F86 (gcons F87 (gcons (H88 hA) gnil)))) Tryz.func58 (by kernel_rfl) (by kernel_rfl) (e58 s80 s86 s87 (t88 A))
def t42 (A : Fun) : Fun := b42 s57 (t58 A) s59
theorem H42 {A : Fun} (hA : Snd Tryz.prog 329 A) : Snd Tryz.prog 42 (t42 A) := snd_of hmix (gcons F57 (gcons (H58 hA) (gcons F59 gnil))) Tryz.func42 (by kernel_rfl) (by kernel_rfl) (e42 s57 (t58 A) s59)
def t33 (A : Fun) : Fun := b33 s41 (t42 A) s43 s44 s45
theorem H33 {A : Fun} (hA : Snd Tryz.prog 329 A) : Snd Tryz.prog 33 (t33 A) := snd_of hmix (gcons F41 (gcons (H42 hA) (gcons F43 (gcons F44 (gcons F45 gnil))))) Tryz.func33 (by kernel_rfl) (by kernel_rfl) (e33 s41 (t42 A) s43 s44 s45)
def t12 (A : Fun) : Fun := b12 s32 (t33 A) s34
theorem H12 {A : Fun} (hA : Snd Tryz.prog 329 A) : Snd Tryz.prog 12 (t12 A) := snd_of hmix (gcons F32 (gcons (H33 hA) (gcons F34 gnil))) Tryz.func12 (by kernel_rfl) (by kernel_rfl) (e12 s32 (t33 A) s34)
def t13 (A : Fun) : Fun := b13 (t33 A)
theorem H13 {A : Fun} (hA : Snd Tryz.prog 329 A) : Snd Tryz.prog 13 (t13 A) := snd_of hmix (gcons (H33 hA) gnil) Tryz.func13 (by kernel_rfl) (by kernel_rfl) (e13 (t33 A))


/-- obelisk/arith.plain (known 0) -/
def b383k0 (s443 : Fun) : Fun := fun a b => uc a fun a c => uc c fun c d => uc d fun d e => uz e (blk 0 (eqN a (I 97) fun e => ifB e (.fail) (eqN a (I 101) fun e => ifB e (.fail) (eqN a (I 105) fun e => ifB e (.fail) (eqN a (I 117) fun e => ifB e (.fail) (eqN a (I 127) fun e => ifB e (.fail) (eqN a (I 129) fun e => ifB e (.fail) (eqN a (I 131) fun e => ifB e (.fail) (jn (eqN a (I 109) fun e => ifB e (.norm [a, c, d, (.bool e)] b) (eqN a (I 113) fun e => .norm [a, c, d, (.bool e)] b)) fun a b => uc a fun _ a => uc a fun _ a => uc a fun a c => uc c fun c _ => cB c fun c => ifB c (eqN a (I 0) fun a => cB (.bool a) fun a => .ask a (cK (I 0) fun a => cK (.bool false) fun c => .ret (.tup (.cons a (.cons c .nil))) b)) (.norm [] b))))))))) fun _ a => cK (I 0) fun b => cK (.bool false) fun c => .ret (.tup (.cons b (.cons c .nil))) a)
def g383k0 : Hint := (.s .z (.s (.s .z (.b [] (.s .z (.s .z (.s .z (.s .z (.s .z (.s .z (.s .z (.s .z (.s .z (.s .z (.s .z (.s .z (.s .z (.s .z (.j [0, 1, 2, 45] (.s .z (.s .z .z)) (.s (.s (.s .z (.q true (.s .z .z))) (.s .z (.s (.s .z (.s (.s .z .z) .z)) (.s .z .z)))) .z)))))))))))))))))) (.s .z .z)))
theorem e383k0 (s443 : Fun) : b383k0 s443 = denF Tryz.prog (gam [(443, s443)]) Tryz.f383 g383k0 := by kernel_rfl
def s383k0 : Fun := b383k0 s443
theorem F383k0 : Snd Tryz.prog 383 s383k0 := snd_of hmix (gcons F443 gnil) Tryz.func383 (by kernel_rfl) (by kernel_rfl) (e383k0 s443)


/-- obelisk/arith.Int (known 0) -/
def s329k0 : Fun := b329 s383k0
theorem F329k0 : Snd Tryz.prog 329 s329k0 := snd_of hmix (gcons F383k0 gnil) Tryz.func329 (by kernel_rfl) (by kernel_rfl) (e329 s383k0)


/-- obelisk/obelisktop.TopDivide (known 0) -/
def b3k0 (s9 s10 s11 s12 s13 s14 s15 : Fun) : Fun := fun a b => uc a fun a c => uc c fun c d => uz d (cl (s9 [] b) fun b d => bNot b fun e => cB e fun e => ifB e (.fail) (cl (s10 [] d) fun d e => bld [(false, 1, (J 26)), (false, 1, (J 27)), (false, 1, (J 108)), (false, 1, (J 172))] fun f => mkS e 1 4 f fun e f => cl (s11 [d, (I 9), (.str 3 7760228), (.str 5 314225281320), (I 2), (I 2), e, .nils, .nils] f) fun _ e => bld [(false, 1, (J 26)), (false, 1, (J 27)), (false, 1, (J 112)), (false, 1, (J 172))] fun f => mkS e 1 4 f fun e f => cl (s11 [d, (I 9), (.str 3 7169394), (.str 5 314225281320), (I 2), (I 2), e, .nils, .nils] f) fun _ e => bld [(false, 1, d)] fun d => mkS e 1 1 d fun d e => cl (s12 [d] e) fun d e => iConv 31 a fun _ => iConv 31 c fun f => bld [(false, 1, a), (false, 1, c)] fun g => mkS e 1 2 g fun e g => cl (s13 [d, (.str 3 7760228), (I 10), e] g) fun e g => bld [(false, 1, a), (false, 1, c)] fun a => mkS g 1 2 a fun a c => cl (s13 [d, (.str 3 7169394), (I 10), a] c) fun a c => mk c (.cons (I 0) (.cons (I 0) (.cons (J 0) (.cons (I 0) (.cons (.str 0 0) (.cons (.str 0 0) (.cons (.bool false) (.cons (I 0) (.cons .nils (.cons (I 0) (.cons (I 0) .nil))))))))))) fun c g => mk g (.cons (I 0) (.cons (I 0) (.cons (J 0) (.cons (I 0) (.cons (.str 0 0) (.cons (.str 0 0) (.cons (.bool false) (.cons (I 0) (.cons .nils (.cons (I 0) (.cons (I 0) .nil))))))))))) fun g h => stN h 11 c e fun e => stN e 11 g a fun a => eqN f (K 0) fun e => cB (.bool e) fun e => .ask e (ap (gsel b true d) fun d => gj b true (nck d fun b => .norm [b] a) a fun a d => gj b true (fa 1 a fun a => .norm [a] d) d fun a d => gj b true (ld1 d a fun a => .norm [a] d) d fun a d => cB b fun b => ap (sel b a (.bool false)) fun a => gj a true (ldN d 11 c fun a => .norm [a] d) d fun b c => gj a true (cl (s14 [b, (.str 19 2462787319999361794871654118981135912292414017)] c) fun a b => .norm [a] b) c fun b c => cB a fun a => ap (sel a b (.bool false)) fun a => gj a true (ldN c 11 g fun a => .norm [a] c) c fun b c => gj a true (cl (s14 [b, (.str 19 2462787319999361794871654118981135912292414017)] c) fun a b => .norm [a] b) c fun b c => cB a fun a => ap (sel a b (.bool false)) fun a => cK a fun a => .ret a c)))
def g3k0 : Hint := (.s .z (.s .z (.s (.s .z (.s .z .z)) (.s .z (.s .z (.s .z (.s .z (.s .z (.s .z (.s (.s .z (.q true (.s .z .z))) (.s .z (.j [5, 7, 10, 11, 12, 13] (.s .z (.s (.r [0, 1, 2, 3, 4, 5, 6, 7]) .z)) (.s .z .z)))))))))))))
theorem e3k0 (s9 s10 s11 s12 s13 s14 s15 : Fun) : b3k0 s9 s10 s11 s12 s13 s14 s15 = denF Tryz.prog (gam [(9, s9), (10, s10), (11, s11), (12, s12), (13, s13), (14, s14), (15, s15)]) Tryz.f3 g3k0 := by kernel_rfl
def s3k0 : Fun := b3k0 s9 s10 s11 (t12 s329k0) (t13 s329k0) s14 s15
theorem F3k0 : Snd Tryz.prog 3 s3k0 := snd_of hmix (gcons F9 (gcons F10 (gcons F11 (gcons (H12 F329k0) (gcons (H13 F329k0) (gcons F14 (gcons F15 gnil))))))) Tryz.func3 (by kernel_rfl) (by kernel_rfl) (e3k0 s9 s10 s11 (t12 s329k0) (t13 s329k0) s14 s15)


/-- obelisk/arith.divided (known 1) -/
def b443k1 : Fun := fun a b => uc a fun a c => uc c fun c d => uz d (eqN c (.int 63 (.negSucc 0)) fun c => cB (.bool c) fun c => .ask c (iNeg a fun a => cK a fun a => cK (I 0) fun c => .ret (.tup (.cons a (.cons c .nil))) b))
def g443k1 : Hint := (.s .z (.s (.s .z (.q true (.s .z .z))) (.s (.r [0, 1, 2, 3, 4, 5, 6, 7]) .z)))
theorem e443k1 : b443k1 = denF Tryz.prog (gam []) Tryz.f443 g443k1 := by kernel_rfl
def s443k1 : Fun := b443k1
theorem F443k1 : Snd Tryz.prog 443 s443k1 := snd_of hmix gnil Tryz.func443 (by kernel_rfl) (by kernel_rfl) (e443k1)


/-- obelisk/arith.plain (known 1) -/
def b383k1 (s443 : Fun) : Fun := fun a b => uc a fun a c => uc c fun c d => uc d fun d e => uz e (blk 0 (eqN a (I 97) fun e => ifB e (.fail) (eqN a (I 101) fun e => ifB e (.fail) (eqN a (I 105) fun e => ifB e (.fail) (eqN a (I 117) fun e => ifB e (.fail) (eqN a (I 127) fun e => ifB e (.fail) (eqN a (I 129) fun e => ifB e (.fail) (eqN a (I 131) fun e => ifB e (.fail) (jn (eqN a (I 109) fun e => ifB e (.norm [a, c, d, (.bool e)] b) (eqN a (I 113) fun e => .norm [a, c, d, (.bool e)] b)) fun a b => uc a fun a c => uc c fun c d => uc d fun d e => uc e fun e _ => cB e fun e => ifB e (eqN d (I 0) fun e => cB (.bool e) fun e => .ask (bnot e) (cl (s443 [c, d] b) fun b c => cT b fun d => cK (nth d 0) fun d => cT b fun b => cK (nth b 1) fun b => eqN a (I 109) fun a => ifB a (cK d fun a => cK (.bool true) fun b => .ret (.tup (.cons a (.cons b .nil))) c) (cK b fun a => cK (.bool true) fun b => .ret (.tup (.cons a (.cons b .nil))) c))) (.norm [] b))))))))) fun _ a => cK (I 0) fun b => cK (.bool false) fun c => .ret (.tup (.cons b (.cons c .nil))) a)
def g383k1 : Hint := (.s .z (.s (.s .z (.b [] (.s .z (.s .z (.s .z (.s .z (.s .z (.s .z (.s .z (.s .z (.s .z (.s .z (.s .z (.s .z (.s .z (.s .z (.j [0, 1, 2, 45] (.s .z (.s .z .z)) (.s (.s (.s .z (.q false .z)) (.s .z (.s (.s .z (.s (.s .z .z) .z)) (.s .z .z)))) .z)))))))))))))))))) (.s .z .z)))
theorem e383k1 (s443 : Fun) : b383k1 s443 = denF Tryz.prog (gam [(443, s443)]) Tryz.f383 g383k1 := by kernel_rfl
def s383k1 : Fun := b383k1 s443k1
theorem F383k1 : Snd Tryz.prog 383 s383k1 := snd_of hmix (gcons F443k1 gnil) Tryz.func383 (by kernel_rfl) (by kernel_rfl) (e383k1 s443k1)


/-- obelisk/arith.Int (known 1) -/
def s329k1 : Fun := b329 s383k1
theorem F329k1 : Snd Tryz.prog 329 s329k1 := snd_of hmix (gcons F383k1 gnil) Tryz.func329 (by kernel_rfl) (by kernel_rfl) (e329 s383k1)


/-- obelisk/obelisktop.TopDivide (known 1) -/
def b3k1 (s9 s10 s11 s12 s13 s14 s15 : Fun) : Fun := fun a b => uc a fun a c => uc c fun c d => uz d (cl (s9 [] b) fun b d => bNot b fun e => cB e fun e => ifB e (.fail) (cl (s10 [] d) fun d e => bld [(false, 1, (J 26)), (false, 1, (J 27)), (false, 1, (J 108)), (false, 1, (J 172))] fun f => mkS e 1 4 f fun e f => cl (s11 [d, (I 9), (.str 3 7760228), (.str 5 314225281320), (I 2), (I 2), e, .nils, .nils] f) fun _ e => bld [(false, 1, (J 26)), (false, 1, (J 27)), (false, 1, (J 112)), (false, 1, (J 172))] fun f => mkS e 1 4 f fun e f => cl (s11 [d, (I 9), (.str 3 7169394), (.str 5 314225281320), (I 2), (I 2), e, .nils, .nils] f) fun _ e => bld [(false, 1, d)] fun d => mkS e 1 1 d fun d e => cl (s12 [d] e) fun d e => iConv 31 a fun f => iConv 31 c fun g => bld [(false, 1, a), (false, 1, c)] fun h => mkS e 1 2 h fun e h => cl (s13 [d, (.str 3 7760228), (I 10), e] h) fun e h => bld [(false, 1, a), (false, 1, c)] fun a => mkS h 1 2 a fun a c => cl (s13 [d, (.str 3 7169394), (I 10), a] c) fun a c => mk c (.cons (I 0) (.cons (I 0) (.cons (J 0) (.cons (I 0) (.cons (.str 0 0) (.cons (.str 0 0) (.cons (.bool false) (.cons (I 0) (.cons .nils (.cons (I 0) (.cons (I 0) .nil))))))))))) fun c h => mk h (.cons (I 0) (.cons (I 0) (.cons (J 0) (.cons (I 0) (.cons (.str 0 0) (.cons (.str 0 0) (.cons (.bool false) (.cons (I 0) (.cons .nils (.cons (I 0) (.cons (I 0) .nil))))))))))) fun h i => stN i 11 c e fun e => stN e 11 h a fun a => eqN g (K 0) fun e => cB (.bool e) fun e => .ask (bnot e) (iNeg f fun e => jn (eqN g (.int 31 (.negSucc 0)) fun f => cB (.bool (bnot f)) fun f => .ask (bnot f) (.norm [b, d, c, h, e, (K 0)] a)) fun a b => uc a fun a c => uc c fun c d => uc d fun d e => uc e fun e f => uc f fun f g => uc g fun g _ => ap (gsel a true c) fun c => gj a true (nck c fun a => .norm [a] b) b fun b c => gj a true (fa 1 b fun a => .norm [a] c) c fun b c => gj a true (ld1 c b fun a => .norm [a] c) c fun b c => cB a fun a => ap (sel a b (.bool false)) fun a => gj a true (ldN c 11 d fun a => .norm [a] c) c fun b c => ap (gsel a true f) fun d => gj a true (iConv 63 d fun a => .norm [a] c) c fun c d => gj a true (cl (s15 [b, c] d) fun a b => .norm [a] b) d fun b c => cB a fun a => ap (sel a b (.bool false)) fun a => gj a true (ldN c 11 e fun a => .norm [a] c) c fun b c => ap (gsel a true g) fun d => gj a true (iConv 63 d fun a => .norm [a] c) c fun c d => gj a true (cl (s15 [b, c] d) fun a b => .norm [a] b) d fun b c => cB a fun a => ap (sel a b (.bool false)) fun a => cK a fun a => .ret a c)))
def g3k1 : Hint := (.s .z (.s .z (.s (.s .z (.s .z .z)) (.s .z (.s .z (.s .z (.s .z (.s .z (.s .z (.s (.s .z (.q false .z)) (.s .z (.j [5, 7, 10, 11, 12, 13] (.s .z (.q false .z)) (.s .z .z)))))))))))))
theorem e3k1 (s9 s10 s11 s12 s13 s14 s15 : Fun) : b3k1 s9 s10 s11 s12 s13 s14 s15 = denF Tryz.prog (gam [(9, s9), (10, s10), (11, s11), (12, s12), (13, s13), (14, s14), (15, s15)]) Tryz.f3 g3k1 := by kernel_rfl
def s3k1 : Fun := b3k1 s9 s10 s11 (t12 s329k1) (t13 s329k1) s14 (askB s15)
theorem F3k1 : Snd Tryz.prog 3 s3k1 := snd_of hmix (gcons F9 (gcons F10 (gcons F11 (gcons (H12 F329k1) (gcons (H13 F329k1) (gcons F14 (gcons (⟨askB_sound F15.1, F15.2⟩ : Snd Tryz.prog 15 (askB s15)) gnil))))))) Tryz.func3 (by kernel_rfl) (by kernel_rfl) (e3k1 s9 s10 s11 (t12 s329k1) (t13 s329k1) s14 (askB s15))


/-- obelisk/arith.divided (known 2) -/
def b443k2 : Fun := fun a b => uc a fun a c => uc c fun c d => uz d (eqN c (.int 63 (.negSucc 0)) fun d => cB (.bool d) fun d => .ask (bnot d) (iQuoN a c fun d => iRemN a c fun a => cK d fun c => cK a fun a => .ret (.tup (.cons c (.cons a .nil))) b))
def g443k2 : Hint := (.s .z (.s (.s .z (.q false .z)) (.s (.r [0, 1, 2, 3, 4, 5, 6, 7]) .z)))
theorem e443k2 : b443k2 = denF Tryz.prog (gam [(1000000000, fun _ _ => .fail)]) Tryz.f443 g443k2 := by kernel_rfl
def s443k2 : Fun := b443k2
theorem F443k2 : Snd Tryz.prog 443 s443k2 := snd_of hmix (gconsE efail gnil) Tryz.func443 (by kernel_rfl) (by kernel_rfl) (e443k2)


/-- obelisk/arith.plain (known 2) -/
def b383k2 (s443 : Fun) : Fun := fun a b => uc a fun a c => uc c fun c d => uc d fun d e => uz e (blk 0 (eqN a (I 97) fun e => ifB e (.fail) (eqN a (I 101) fun e => ifB e (.fail) (eqN a (I 105) fun e => ifB e (.fail) (eqN a (I 117) fun e => ifB e (.fail) (eqN a (I 127) fun e => ifB e (.fail) (eqN a (I 129) fun e => ifB e (.fail) (eqN a (I 131) fun e => ifB e (.fail) (jn (eqN a (I 109) fun e => ifB e (.norm [a, c, d, (.bool e)] b) (eqN a (I 113) fun e => .norm [a, c, d, (.bool e)] b)) fun a b => uc a fun a c => uc c fun c d => uc d fun d e => uc e fun e _ => cB e fun e => ifB e (eqN d (I 0) fun e => cB (.bool e) fun e => .ask (bnot e) (cl (s443 [c, d] b) fun b c => cT b fun d => cK (nth d 0) fun d => cT b fun b => cK (nth b 1) fun b => eqN a (I 109) fun a => ifB a (cK d fun a => cK (.bool true) fun b => .ret (.tup (.cons a (.cons b .nil))) c) (cK b fun a => cK (.bool true) fun b => .ret (.tup (.cons a (.cons b .nil))) c))) (.norm [] b))))))))) fun _ a => cK (I 0) fun b => cK (.bool false) fun c => .ret (.tup (.cons b (.cons c .nil))) a)
def g383k2 : Hint := (.s .z (.s (.s .z (.b [] (.s .z (.s .z (.s .z (.s .z (.s .z (.s .z (.s .z (.s .z (.s .z (.s .z (.s .z (.s .z (.s .z (.s .z (.j [0, 1, 2, 45] (.s .z (.s .z .z)) (.s (.s (.s .z (.q false .z)) (.s .z (.s (.s .z (.s (.s .z .z) .z)) (.s .z .z)))) .z)))))))))))))))))) (.s .z .z)))
theorem e383k2 (s443 : Fun) : b383k2 s443 = denF Tryz.prog (gam [(443, s443)]) Tryz.f383 g383k2 := by kernel_rfl
def s383k2 : Fun := b383k2 s443k2
theorem F383k2 : Snd Tryz.prog 383 s383k2 := snd_of hmix (gcons F443k2 gnil) Tryz.func383 (by kernel_rfl) (by kernel_rfl) (e383k2 s443k2)


/-- obelisk/arith.Int (known 2) -/
def s329k2 : Fun := b329 s383k2
theorem F329k2 : Snd Tryz.prog 329 s329k2 := snd_of hmix (gcons F383k2 gnil) Tryz.func329 (by kernel_rfl) (by kernel_rfl) (e329 s383k2)


/-- obelisk/obelisktop.TopDivide (known 2) -/
def b3k2 (s9 s10 s11 s12 s13 s14 s15 : Fun) : Fun := fun a b => uc a fun a c => uc c fun c d => uz d (cl (s9 [] b) fun b d => bNot b fun e => cB e fun e => ifB e (.fail) (cl (s10 [] d) fun d e => bld [(false, 1, (J 26)), (false, 1, (J 27)), (false, 1, (J 108)), (false, 1, (J 172))] fun f => mkS e 1 4 f fun e f => cl (s11 [d, (I 9), (.str 3 7760228), (.str 5 314225281320), (I 2), (I 2), e, .nils, .nils] f) fun _ e => bld [(false, 1, (J 26)), (false, 1, (J 27)), (false, 1, (J 112)), (false, 1, (J 172))] fun f => mkS e 1 4 f fun e f => cl (s11 [d, (I 9), (.str 3 7169394), (.str 5 314225281320), (I 2), (I 2), e, .nils, .nils] f) fun _ e => bld [(false, 1, d)] fun d => mkS e 1 1 d fun d e => cl (s12 [d] e) fun d e => iConv 31 a fun f => iConv 31 c fun g => bld [(false, 1, a), (false, 1, c)] fun h => mkS e 1 2 h fun e h => cl (s13 [d, (.str 3 7760228), (I 10), e] h) fun e h => bld [(false, 1, a), (false, 1, c)] fun a => mkS h 1 2 a fun a c => cl (s13 [d, (.str 3 7169394), (I 10), a] c) fun a c => mk c (.cons (I 0) (.cons (I 0) (.cons (J 0) (.cons (I 0) (.cons (.str 0 0) (.cons (.str 0 0) (.cons (.bool false) (.cons (I 0) (.cons .nils (.cons (I 0) (.cons (I 0) .nil))))))))))) fun c h => mk h (.cons (I 0) (.cons (I 0) (.cons (J 0) (.cons (I 0) (.cons (.str 0 0) (.cons (.str 0 0) (.cons (.bool false) (.cons (I 0) (.cons .nils (.cons (I 0) (.cons (I 0) .nil))))))))))) fun h i => stN i 11 c e fun e => stN e 11 h a fun a => eqN g (K 0) fun e => cB (.bool e) fun e => .ask (bnot e) (iNeg f fun _ => jn (eqN g (.int 31 (.negSucc 0)) fun e => cB (.bool (bnot e)) fun e => .ask e (iQuoN f g fun e => iRemN f g fun f => .norm [b, d, c, h, e, f] a)) fun a b => uc a fun a c => uc c fun c d => uc d fun d e => uc e fun e f => uc f fun f g => uc g fun g _ => ap (gsel a true c) fun c => gj a true (nck c fun a => .norm [a] b) b fun b c => gj a true (fa 1 b fun a => .norm [a] c) c fun b c => gj a true (ld1 c b fun a => .norm [a] c) c fun b c => cB a fun a => ap (sel a b (.bool false)) fun a => gj a true (ldN c 11 d fun a => .norm [a] c) c fun b c => ap (gsel a true f) fun d => gj a true (iConv 63 d fun a => .norm [a] c) c fun c d => gj a true (cl (s15 [b, c] d) fun a b => .norm [a] b) d fun b c => cB a fun a => ap (sel a b (.bool false)) fun a => gj a true (ldN c 11 e fun a => .norm [a] c) c fun b c => ap (gsel a true g) fun d => gj a true (iConv 63 d fun a => .norm [a] c) c fun c d => gj a true (cl (s15 [b, c] d) fun a b => .norm [a] b) d fun b c => cB a fun a => ap (sel a b (.bool false)) fun a => cK a fun a => .ret a c)))
def g3k2 : Hint := (.s .z (.s .z (.s (.s .z (.s .z .z)) (.s .z (.s .z (.s .z (.s .z (.s .z (.s .z (.s (.s .z (.q false .z)) (.s .z (.j [5, 7, 10, 11, 12, 13] (.s .z (.q true (.r [0, 1, 2, 3, 4, 5, 6, 7]))) (.s .z .z)))))))))))))
theorem e3k2 (s9 s10 s11 s12 s13 s14 s15 : Fun) : b3k2 s9 s10 s11 s12 s13 s14 s15 = denF Tryz.prog (gam [(9, s9), (10, s10), (11, s11), (12, s12), (13, s13), (14, s14), (15, s15), (1000000000, fun _ _ => .fail)]) Tryz.f3 g3k2 := by kernel_rfl
def s3k2 : Fun := b3k2 s9 s10 s11 (t12 s329k2) (t13 s329k2) s14 (askB s15)
theorem F3k2 : Snd Tryz.prog 3 s3k2 := snd_of hmix (gcons F9 (gcons F10 (gcons F11 (gcons (H12 F329k2) (gcons (H13 F329k2) (gcons F14 (gcons (⟨askB_sound F15.1, F15.2⟩ : Snd Tryz.prog 15 (askB s15)) (gconsE efail gnil)))))))) Tryz.func3 (by kernel_rfl) (by kernel_rfl) (e3k2 s9 s10 s11 (t12 s329k2) (t13 s329k2) s14 (askB s15))

end
end Go.Proofs.YtdjgkjjgcbgniaaGreatDoor
