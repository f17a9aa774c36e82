/-
  What functions of the program compute, in the abstract machine's words (printed by gen.lean): each is what its text denotes.
-/
import Derived.Test.YtmoojalmefnmnaaGreatDoorEe
import Derived.Test.YtmoojalmefnmnaaGreatDoorProg
import Derived.KernelRfl
set_option linter.unusedVariables false
set_option linter.unusedSimpArgs false
namespace Go.Proofs.YtmoojalmefnmnaaGreatDoor
open Go Go.AM
set_option autoImplicit false
set_option maxRecDepth 100000
set_option linter.unusedVariables false
noncomputable section
theorem hmix : Tryz.prog.follows .mixedOrders = true := by kernel_rfl
/-- (*obelisk/table.Table).Look -/
def b53 : Fun := fun a b => uc a fun a c => uc c fun c d => uz d (eqP a .nilp fun d => ifB d (.fail) (nl 0 b a fun d => lkp kqS b false .nilp d c fun d => eqP d .nilp fun e => ifB (bnot e) (cK d fun a => .ret a b) (nl 1 b a fun a => lkp kqS b false .nilp a c fun a => cK a fun a => .ret a b)))
def g53 : Hint := (.s .z (.s (.s .z (.s .z .z)) (.s (.s .z (.s .z (.s (.s .z .z) .z))) (.s .z .z))))
theorem e53 : b53 = denF Tryz.prog (gam []) Tryz.f53 g53 := by kernel_rfl
def s53 : Fun := b53
theorem F53 : Snd Tryz.prog 53 s53 := snd_of hmix gnil Tryz.func53 (by kernel_rfl) (by kernel_rfl) (e53)

/-- bytes.Clone -/
def b83 : Fun := fun a b => uc a fun a c => uz c (eqL a .nils fun c => ifB c (cK .nils fun a => .ret a b) (bld [] fun c => mkS b 1 0 c fun b c => apd c 1 1 b a fun a b => cK a fun a => .ret a b))
def g83 : Hint := (.s .z (.s (.s .z (.s (.s .z .z) .z)) (.s .z .z)))
theorem e83 : b83 = denF Tryz.prog (gam []) Tryz.f83 g83 := by kernel_rfl
def s83 : Fun := b83
theorem F83 : Snd Tryz.prog 83 s83 := snd_of hmix gnil Tryz.func83 (by kernel_rfl) (by kernel_rfl) (e83)

/-- (*obelisk/natives.World).Out -/
def b58 (s83 : Fun) : Fun := fun a b => uc a fun a c => uz c (eqP a .nilp fun c => ifB c (.fail) (nl 4 b a fun a => cl (s83 [a] b) fun a b => cK a fun a => .ret a b))
def g58 : Hint := (.s .z (.s (.s .z (.s .z .z)) (.s .z .z)))
theorem e58 (s83 : Fun) : b58 s83 = denF Tryz.prog (gam [(83, s83)]) Tryz.f58 g58 := by kernel_rfl
def s58 : Fun := b58 s83
theorem F58 : Snd Tryz.prog 58 s58 := snd_of hmix (gcons F83 gnil) Tryz.func58 (by kernel_rfl) (by kernel_rfl) (e58 s83)

/-- (*obelisk/interp.Machine).Begin$1 -/
def b73 (s58 : Fun) : Fun := fun a b => uc a fun a c => uc c fun c d => uz d (mk b (.cons (I 0) (.cons (I 0) (.cons (J 0) (.cons (I 0) (.cons (.str 0 0) (.cons (.str 0 0) (.cons (.bool false) (.cons (I 0) (.cons .nils (.cons (I 0) (.cons (I 0) .nil))))))))))) fun b d => bld [(false, 1, a), (false, 1, (I 5)), (false, 1, (J 0)), (false, 1, (I 0)), (false, 1, (.str 0 0)), (false, 1, (.str 0 0)), (false, 1, (.bool false)), (false, 1, (I 0)), (false, 1, .nils), (false, 1, (I 0)), (false, 1, (I 0))] fun a => mk d (.cons (I 0) (.cons (I 0) (.cons (J 0) (.cons (I 0) (.cons (.str 0 0) (.cons (.str 0 0) (.cons (.bool false) (.cons (I 0) (.cons .nils (.cons (I 0) (.cons (I 0) .nil))))))))))) fun d e => stN e 11 d (.agg a) fun a => jn (ld1 a c fun e => eqP e .nilp fun e => ifB (bnot e) (ld1 a c fun e => nl 4 a e fun f => ld1 a c fun g => na 19 g fun h => ld1 a h fun i => cl (s58 [f] a) fun a f => ld1 f h fun j => same i j (ld1 f c fun j => same g j (ld1 f c fun j => same e j (fa 8 d fun e => st1 f e a fun a => ld1 a h fun e => same i e (ld1 a c fun e => same g e (fa 10 d fun e => st1 a e i fun a => ld1 a c fun c => ldN a 11 d fun e => na 20 c fun c => stN a 11 c e fun a => .norm [b, d] a)))))) (.norm [b, d] a)) fun a b => uc a fun a c => uc c fun c _ => ldN b 11 c fun c => stN b 11 a c fun b => ldN b 11 a fun a => .ret a b)
def g73 : Hint := (.s .z (.s .z (.j [3, 4] (.s .z (.s (.s (.r [0, 1, 2, 3, 5, 6, 7, 8, 4, 9, 10, 11, 12]) .z) .z)) (.s .z .z))))
theorem e73 (s58 : Fun) : b73 s58 = denF Tryz.prog (gam [(58, s58)]) Tryz.f73 g73 := by kernel_rfl
def s73 : Fun := b73 s58
theorem F73 : Snd Tryz.prog 73 s73 := snd_of hmix (gcons F58 gnil) Tryz.func73 (by kernel_rfl) (by kernel_rfl) (e73 s58)

/-- (*obelisk/stack.Stack).top -/
def b206 : Fun := fun a b => uc a fun a c => uz c (eqP a .nilp fun c => ap (gsel (.bool c) false a) fun d => gj (.bool c) false (nck d fun a => .norm [a] b) b fun b d => gj (.bool c) false (fa 2 b fun a => .norm [a] d) d fun b d => gj (.bool c) false (ld1 d b fun a => .norm [a] d) d fun b d => gj (.bool c) false (lenL b fun a => .norm [a] d) d fun b d => gj (.bool c) false (eqN b (I 0) fun a => .norm [(.bool a)] d) d fun b d => cB (.bool c) fun c => ap (sel c (.bool true) b) fun b => cB b fun b => ifB b (cK .nilp fun a => .ret a d) (nl 2 d a fun b => nl 2 d a fun a => lenL a fun a => iSub a (I 1) fun a => ixA 7 b a fun a => cK a fun a => .ret a d))
def g206 : Hint := (.s .z (.s (.s .z (.s (.s .z .z) .z)) (.s (.r [0, 1, 2, 3, 4, 5, 6, 7, 8, 9, 10, 11]) .z)))
theorem e206 : b206 = denF Tryz.prog (gam []) Tryz.f206 g206 := by kernel_rfl
def s206 : Fun := b206
theorem F206 : Snd Tryz.prog 206 s206 := snd_of hmix gnil Tryz.func206 (by kernel_rfl) (by kernel_rfl) (e206)

/-- (*obelisk/stack.Stack).Leave -/
def b117 (s206 : Fun) : Fun := fun a b => uc a fun a c => uz c (cl (s206 [a] b) fun b c => eqP b .nilp fun d => ifB d (cK (.bool false) fun a => .ret a c) (nl 3 c a fun d => nl 4 c b fun e => nl 5 c b fun f => iAdd e f fun e => iAdd e (I 4) fun e => iSub d e fun d => na 3 a fun e => st1 c e d fun c => nl 0 c a fun d => nl 3 c b fun e => cutS 1 d none (some e) none fun d => nl 1 c a fun e => nl 3 c b fun b => cutS 1 e none (some b) none fun b => na 0 a fun e => st1 c e d fun c => na 1 a fun d => st1 c d b fun b => nl 2 b a fun c => nl 2 b a fun d => lenL d fun d => iSub d (I 1) fun d => cutS 7 c none (some d) none fun c => na 2 a fun a => st1 b a c fun a => cK (.bool true) fun b => .ret b a))
def g117 : Hint := (.s .z (.s .z (.s (.s .z (.s (.s .z .z) .z)) (.s (.r [0, 1, 2, 3, 4, 5, 6, 7, 8, 9, 10, 11, 12, 13, 14, 15, 16, 17]) (.s (.r [0, 1, 2, 3, 4, 5, 6, 7, 8, 9, 10, 11, 12, 13, 14, 15, 16, 17, 18, 19, 20, 21, 22, 23, 24, 25]) (.s (.r [0, 1, 2, 3, 4, 5, 6, 7, 8, 9, 10, 11, 12, 13, 14]) (.s .z .z)))))))
theorem e117 (s206 : Fun) : b117 s206 = denF Tryz.prog (gam [(206, s206)]) Tryz.f117 g117 := by kernel_rfl
def s117 : Fun := b117 s206
theorem F117 : Snd Tryz.prog 117 s117 := snd_of hmix (gcons F206 gnil) Tryz.func117 (by kernel_rfl) (by kernel_rfl) (e117 s206)

/-- (*obelisk/interp.Machine).end -/
def L74n0 (s58 s117 : Fun) : List AV → Hp → Res := fun a b => uc a fun a c => uc c fun c _ => nl 5 b a fun d => cl (s117 [d] b) fun b d => cB b fun b => ifB b (blk 1 (.norm [a, c] d) fun a b => uc a fun a c => uc c fun c _ => .norm [a, c] b) (.exit 0 [a, c] d)
def b74 (s58 s117 : Fun) : Fun := fun a b => uc a fun a c => uc c fun c d => uz d (mk b (cells c) fun b c => blk 0 (lp (L74n0 s58 s117) most [a, b] c) fun a b => uc a fun a c => uc c fun c _ => na 6 a fun d => st1 b d .nils fun b => na 14 a fun d => st1 b d .nilp fun b => na 9 a fun d => st1 b d .nils fun b => na 13 a fun d => st1 b d (I 0) fun b => na 15 a fun d => st1 b d (.bool false) fun b => nl 7 b a fun d => mapL b d fun d => allE (fun d => cT d fun d => cK (nth d 1) fun d => nl 0 (roH b) d fun e => eqN e (I 1) fun e => ifB e (na 0 d fun d => st1 (roH b) d (I 3) fun _ => ifB (sameV [(.ptr b.nb 0), a, c] [(.ptr b.nb 0), a, c]) (.norm [] b) .fail) (ifB (sameV [(.ptr b.nb 0), a, c] [(.ptr b.nb 0), a, c]) (.norm [] b) .fail)) (na 17 a fun d => ld1 b d fun e => nl 4 b a fun f => na 19 a fun g => ld1 b g fun h => fa 7 c fun i => cl (s58 [f] b) fun b f => ld1 f g fun j => same h j (ld1 f d fun d => same e d (st1 f i e fun d => ld1 d g fun e => same h e (fa 8 c fun e => st1 d e b fun b => ld1 b g fun d => same h d (fa 10 c fun d => st1 b d h fun b => ldN b 11 c fun c => na 20 a fun a => stN b 11 a c fun a => .ret (.tup .nil) a))))) d)
def g74 : Hint := (.s .z (.s (.b [0, 3] (.l [0, 3] (.s (.s .z (.s .z .z)) (.b [0, 3] .z)))) (.s .z (.s (.w (.s .z (.s .z .z)) [0, 3]) (.s (.r [0, 1, 2, 3, 4, 5, 6, 7, 9, 10, 11, 12, 13, 8, 14, 15, 16, 17, 18]) .z)))))
theorem e74 (s58 s117 : Fun) : b74 s58 s117 = denF Tryz.prog (gam [(58, s58), (117, s117)]) Tryz.f74 g74 := by kernel_rfl
def s74 : Fun := b74 s58 s117
theorem F74 : Snd Tryz.prog 74 s74 := snd_of hmix (gcons F58 (gcons F117 gnil)) Tryz.func74 (by kernel_rfl) (by kernel_rfl) (e74 s58 s117)

/-- (*obelisk/table.Table).Own -/
def b75 : Fun := fun a b => uc a fun a c => uc c fun c d => uz d (eqP a .nilp fun d => ap (gsel (.bool (bnot d)) true a) fun a => gj (.bool (bnot d)) true (nck a fun a => .norm [a] b) b fun a b => gj (.bool (bnot d)) true (fa 0 a fun a => .norm [a] b) b fun a b => gj (.bool (bnot d)) true (ld1 b a fun a => .norm [a] b) b fun a b => ap (gsel (.bool (bnot d)) true c) fun c => gj (.bool (bnot d)) true (lkp kqS b false .nilp a c fun a => .norm [a] b) b fun a b => gj (.bool (bnot d)) true (eqP a .nilp fun a => .norm [(.bool (bnot a))] b) b fun a b => cB (.bool (bnot d)) fun c => ap (sel c a (.bool false)) fun a => cK a fun a => .ret a b)
def g75 : Hint := (.s .z (.s .z .z))
theorem e75 : b75 = denF Tryz.prog (gam []) Tryz.f75 g75 := by kernel_rfl
def s75 : Fun := b75
theorem F75 : Snd Tryz.prog 75 s75 := snd_of hmix gnil Tryz.func75 (by kernel_rfl) (by kernel_rfl) (e75)

/-- (*obelisk/link.Linker).State -/
def b118 (s53 s75 : Fun) : Fun := fun a b => uc a fun a c => uc c fun c d => uz d (eqP a .nilp fun d => ifB d (.fail) (nl 0 b a fun d => cl (s53 [d, c] b) fun b d => eqP b .nilp fun b => ap (gsel (.bool (bnot b)) true a) fun e => gj (.bool (bnot b)) true (nck e fun a => .norm [a] d) d fun d e => gj (.bool (bnot b)) true (fa 0 d fun a => .norm [a] e) e fun d e => gj (.bool (bnot b)) true (ld1 e d fun a => .norm [a] e) e fun d e => ap (gsel (.bool (bnot b)) true c) fun f => gj (.bool (bnot b)) true (cl (s75 [d, f] e) fun a b => .norm [a] b) e fun d e => gj (.bool (bnot b)) true (bNot d fun a => .norm [a] e) e fun d e => cB (.bool (bnot b)) fun b => ap (sel b d (.bool false)) fun b => cB b fun b => ifB b (cK (.bool true) fun a => cK (I 0) fun b => .ret (.tup (.cons a (.cons b .nil))) e) (nl 1 e a fun a => lkp kqS e true (I 0) a c fun a => cT a fun b => cK (nth b 0) fun b => cT a fun a => cK (nth a 1) fun a => cK a fun a => cK b fun b => .ret (.tup (.cons a (.cons b .nil))) e)))
def g118 : Hint := (.s .z (.s (.s .z (.s .z .z)) (.s (.s .z (.s (.s .z .z) .z)) (.s .z (.s .z .z)))))
theorem e118 (s53 s75 : Fun) : b118 s53 s75 = denF Tryz.prog (gam [(53, s53), (75, s75)]) Tryz.f118 g118 := by kernel_rfl
def s118 : Fun := b118 s53 s75
theorem F118 : Snd Tryz.prog 118 s118 := snd_of hmix (gcons F53 (gcons F75 gnil)) Tryz.func118 (by kernel_rfl) (by kernel_rfl) (e118 s53 s75)

/-- obelisk/classfile.Find$1 -/
def b204 : Fun := fun a b => uc a fun a c => uc c fun c d => uc d fun d e => uz e (mk b (cells a) fun a b => fl 1 b a fun e => ld1 b c fun c => eqS e c fun c => gj (.bool c) true (fa 2 a fun a => .norm [a] b) b fun a b => gj (.bool c) true (ld1 b a fun a => .norm [a] b) b fun a b => gj (.bool c) true (ld1 b d fun a => .norm [a] b) b fun b d => gj (.bool c) true (eqS a b fun a => .norm [(.bool a)] d) d fun a b => cB (.bool c) fun c => ap (sel c a (.bool false)) fun a => cK a fun a => .ret a b)
def g204 : Hint := (.s .z (.s .z .z))
theorem e204 : b204 = denF Tryz.prog (gam []) Tryz.f204 g204 := by kernel_rfl
def s204 : Fun := b204
theorem F204 : Snd Tryz.prog 204 s204 := snd_of hmix gnil Tryz.func204 (by kernel_rfl) (by kernel_rfl) (e204)

/-- slices.IndexFunc[[]obelisk/api.Method,obelisk/api.Method] -/
def L203n0 (s204 : Fun) : List AV → Hp → Res := fun a b => uc a fun a c => uc c fun c d => uc d fun d e => uc e fun e _ => ltN e d fun f => ifB f (blk 1 (ixA 9 a e fun f => ldN b 9 f fun f => cl (dyn (gam [(204, s204)]) c [f] b) fun b f => cB b fun b => ifB b (cK e fun a => .ret a f) (.norm [a, c, d, e] f)) fun a b => uc a fun a c => uc c fun c d => uc d fun d e => uc e fun e _ => iAdd e (I 1) fun e => .norm [a, c, d, e] b) (.exit 0 [] b)
def b203 (s204 : Fun) : Fun := fun a b => uc a fun a c => uc c fun c d => uz d (lenL a fun d => blk 0 (lp (L203n0 s204) most [a, c, d, (I 0)] b) fun _ a => cK (.int 63 (.negSucc 0)) fun b => .ret b a)
def g203 : Hint := (.s .z (.s (.s .z (.b [] (.l [0, 1, 7, 8] (.s .z (.s (.s .z .z) (.s (.b [0, 1, 7, 8] (.s .z (.s .z (.s (.s .z .z) .z)))) .z)))))) (.s .z .z)))
theorem e203 (s204 : Fun) : b203 s204 = denF Tryz.prog (gam [(204, s204)]) Tryz.f203 g203 := by kernel_rfl
def s203 : Fun := b203 s204
theorem F203 : Snd Tryz.prog 203 s203 := snd_of hmix (gcons F204 gnil) Tryz.func203 (by kernel_rfl) (by kernel_rfl) (e203 s204)

/-- obelisk/classfile.Find -/
def b113 (s203 : Fun) : Fun := fun a b => uc a fun a c => uc c fun c d => uc d fun d e => uz e (mk b (cells c) fun b c => mk c (cells d) fun c d => eqP a .nilp fun e => ifB e (.fail) (nl 7 d a fun a => cl (s203 [a, (.fn (.func 204) .nil (.cons b (.cons c .nil)))] d) fun a b => cK a fun a => .ret a b))
def g113 : Hint := (.s .z (.s (.s .z (.s .z .z)) (.s .z .z)))
theorem e113 (s203 : Fun) : b113 s203 = denF Tryz.prog (gam [(203, s203)]) Tryz.f113 g113 := by kernel_rfl
def s113 : Fun := b113 s203
theorem F113 : Snd Tryz.prog 113 s113 := snd_of hmix (gcons F203 gnil) Tryz.func113 (by kernel_rfl) (by kernel_rfl) (e113 s203)

/-- slices.Index[[]string,string] -/
def L153n0 : List AV → Hp → Res := fun a b => uc a fun a c => uc c fun c d => uc d fun d e => uc e fun e _ => ltN e d fun f => ifB f (blk 1 (ixA 1 a e fun f => ld1 b f fun f => eqS c f fun f => ifB f (cK e fun a => .ret a b) (.norm [a, c, d, e] b)) fun a b => uc a fun a c => uc c fun c d => uc d fun d e => uc e fun e _ => iAdd e (I 1) fun e => .norm [a, c, d, e] b) (.exit 0 [] b)
def b153 : Fun := fun a b => uc a fun a c => uc c fun c d => uz d (lenL a fun d => blk 0 (lp L153n0 most [a, c, d, (I 0)] b) fun _ a => cK (.int 63 (.negSucc 0)) fun b => .ret b a)
def g153 : Hint := (.s .z (.s (.s .z (.b [] (.l [0, 1, 7, 8] (.s .z (.s (.s .z .z) (.s (.b [0, 1, 7, 8] (.s .z (.s .z (.s (.s .z .z) .z)))) .z)))))) (.s .z .z)))
theorem e153 : b153 = denF Tryz.prog (gam []) Tryz.f153 g153 := by kernel_rfl
def s153 : Fun := b153
theorem F153 : Snd Tryz.prog 153 s153 := snd_of hmix gnil Tryz.func153 (by kernel_rfl) (by kernel_rfl) (e153)

/-- slices.Contains[[]string,string] -/
def b97 (s153 : Fun) : Fun := fun a b => uc a fun a c => uc c fun c d => uz d (cl (s153 [a, c] b) fun a b => ltN a (I 0) fun a => cK (.bool (bnot a)) fun a => .ret a b)
def g97 : Hint := (.s .z (.s .z .z))
theorem e97 (s153 : Fun) : b97 s153 = denF Tryz.prog (gam [(153, s153)]) Tryz.f97 g97 := by kernel_rfl
def s97 : Fun := b97 s153
theorem F97 : Snd Tryz.prog 97 s97 := snd_of hmix (gcons F153 gnil) Tryz.func97 (by kernel_rfl) (by kernel_rfl) (e97 s153)

/-- (*obelisk/table.Table).Supers -/
def L290n0 (s53 s97 : Fun) : List AV → Hp → Res := fun a b => uc a fun a c => uc c fun c d => uc d fun d e => uc e fun e _ => eqP e .nilp fun f => ap (gsel (.bool (bnot f)) true d) fun g => ap (gsel (.bool (bnot f)) true c) fun h => gj (.bool (bnot f)) true (cl (s97 [g, h] b) fun a b => .norm [a] b) b fun b g => gj (.bool (bnot f)) true (bNot b fun a => .norm [a] g) g fun b g => cB (.bool (bnot f)) fun f => ap (sel f b (.bool false)) fun b => cB b fun b => ifB b (blk 1 (bld [(false, 1, c)] fun b => mkS g 1 1 b fun b c => apd c 1 16 d b fun b c => nl 4 c e fun d => .norm [a, d, b] c) fun a b => uc a fun a c => uc c fun c d => uc d fun d _ => cl (s53 [a, c] b) fun b e => .norm [a, c, d, b] e) (.exit 0 [d] g)
def b290 (s53 s97 : Fun) : Fun := fun a b => uc a fun a c => uc c fun c d => uz d (cl (s53 [a, c] b) fun b d => blk 0 (lp (L290n0 s53 s97) most [a, c, .nils, b] d) fun a b => uc a fun a _ => cK a fun a => .ret a b)
def g290 : Hint := (.s .z (.s .z (.s (.s .z (.b [5] (.l [0, 1, 5, 6] (.s (.s .z (.s .z .z)) (.s (.b [0, 1, 5] (.s .z .z)) .z))))) (.s .z .z))))
theorem e290 (s53 s97 : Fun) : b290 s53 s97 = denF Tryz.prog (gam [(53, s53), (97, s97)]) Tryz.f290 g290 := by kernel_rfl
def s290 : Fun := b290 s53 s97
theorem F290 : Snd Tryz.prog 290 s290 := snd_of hmix (gcons F53 (gcons F97 gnil)) Tryz.func290 (by kernel_rfl) (by kernel_rfl) (e290 s53 s97)

/-- (*obelisk/link.Linker).final -/
def L208n0 (s53 s113 s290 : Fun) : List AV → Hp → Res := fun a b => uc a fun a c => uc c fun c d => uc d fun d e => uc e fun e f => uc f fun f _ => ltN f e fun g => ifB g (blk 1 (ixA 1 d f fun g => ld1 b g fun g => nl 0 b a fun h => cl (s53 [h, g] b) fun b g => fl 1 g c fun h => fl 2 g c fun i => cl (s113 [b, h, i] g) fun g h => ltN g (I 0) fun i => ap (gsel (.bool (bnot i)) true b) fun b => gj (.bool (bnot i)) true (nck b fun a => .norm [a] h) h fun b h => gj (.bool (bnot i)) true (fa 7 b fun a => .norm [a] h) h fun b h => gj (.bool (bnot i)) true (ld1 h b fun a => .norm [a] h) h fun b h => ap (gsel (.bool (bnot i)) true g) fun g => gj (.bool (bnot i)) true (ixA 9 b g fun a => .norm [a] h) h fun b g => gj (.bool (bnot i)) true (fa 0 b fun a => .norm [a] g) g fun b g => gj (.bool (bnot i)) true (ld1 g b fun a => .norm [a] g) g fun b g => gj (.bool (bnot i)) true (iAnd b (I 26) fun a => .norm [a] g) g fun b g => gj (.bool (bnot i)) true (eqN b (I 16) fun a => .norm [(.bool a)] g) g fun b g => cB (.bool (bnot i)) fun h => ap (sel h b (.bool false)) fun b => cB b fun b => ifB b (.fail) (.norm [a, c, d, e, f] g)) fun a b => uc a fun a c => uc c fun c d => uc d fun d e => uc e fun e f => uc f fun f _ => iAdd f (I 1) fun f => .norm [a, c, d, e, f] b) (.exit 0 [] b)
def b208 (s53 s113 s290 : Fun) : Fun := fun a b => uc a fun a c => uc c fun c d => uc d fun d e => uz e (mk b (cells d) fun b d => fl 1 d b fun e => eqS e (.str 6 68669705972028) fun e => gj (.bool e) false (fa 0 b fun a => .norm [a] d) d fun d f => gj (.bool e) false (ld1 f d fun a => .norm [a] f) f fun d f => gj (.bool e) false (iAnd d (I 10) fun a => .norm [a] f) f fun d f => gj (.bool e) false (eqN d (I 0) fun a => .norm [(.bool (bnot a))] f) f fun d f => cB (.bool e) fun e => ap (sel e (.bool true) d) fun d => cB d fun d => ifB d (cK (.bool false) fun a => .ret a f) (nl 0 f a fun d => nl 4 f c fun c => cl (s290 [d, c] f) fun c d => lenL c fun e => blk 0 (lp (L208n0 s53 s113 s290) most [a, b, c, e, (I 0)] d) fun _ a => cK (.bool false) fun b => .ret b a))
def g208 : Hint := (.s .z (.s (.s .z (.s (.s .z .z) .z)) (.s (.s (.r [0, 1, 2, 3, 4, 5, 6, 7, 10, 8, 9]) (.b [] (.l [0, 5, 28, 29, 30] (.s .z (.s (.s .z .z) (.s (.b [0, 5, 28, 29, 30] (.s .z (.s .z (.s .z (.s .z (.s .z .z)))))) .z)))))) (.s .z .z))))
theorem e208 (s53 s113 s290 : Fun) : b208 s53 s113 s290 = denF Tryz.prog (gam [(53, s53), (113, s113), (290, s290)]) Tryz.f208 g208 := by kernel_rfl
def s208 : Fun := b208 s53 s113 s290
theorem F208 : Snd Tryz.prog 208 s208 := snd_of hmix (gcons F53 (gcons F113 (gcons F290 gnil))) Tryz.func208 (by kernel_rfl) (by kernel_rfl) (e208 s53 s113 s290)

/-- obelisk/instr.kept -/
def L227n0 : List AV → Hp → Res := fun a b => uc a fun a c => uc c fun c d => uc d fun d e => uc e fun e _ => ltN e d fun f => ifB f (blk 1 (ixA 2 c e fun f => ldN b 2 f fun f => mk b (.cons (I 0) (.cons (I 0) .nil)) fun b g => stN g 2 b f fun f => ixP 2 1 b (I 0) fun g => ld1 f g fun g => ltN a g fun g => ap (gsel (.bool (bnot g)) true a) fun h => gj (.bool (bnot g)) true (ixP 2 1 b (I 1) fun a => .norm [a] f) f fun b f => gj (.bool (bnot g)) true (ld1 f b fun a => .norm [a] f) f fun b f => gj (.bool (bnot g)) true (ltN b h fun a => .norm [(.bool (bnot a))] f) f fun b f => cB (.bool (bnot g)) fun g => ap (sel g b (.bool false)) fun b => cB b fun b => ifB b (cK (.bool true) fun a => .ret a f) (.norm [a, c, d, e] f)) fun a b => uc a fun a c => uc c fun c d => uc d fun d e => uc e fun e _ => iAdd e (I 1) fun e => .norm [a, c, d, e] b) (.exit 0 [] b)
def b227 : Fun := fun a b => uc a fun a c => uz c (bld [(false, 1, (I 0)), (false, 1, (I 10))] fun c => bld [(false, 1, (I 16)), (false, 1, (I 22))] fun d => bld [(false, 1, (I 25)), (false, 1, (I 33))] fun e => bld [(false, 1, (I 42)), (false, 1, (I 47))] fun f => bld [(false, 1, (I 50)), (false, 1, (I 55))] fun g => bld [(false, 1, (I 58)), (false, 1, (I 66))] fun h => bld [(false, 1, (I 75)), (false, 1, (I 80))] fun i => bld [(false, 1, (I 83)), (false, 1, (I 97))] fun j => bld [(false, 1, (I 100)), (false, 1, (I 101))] fun k => bld [(false, 1, (I 104)), (false, 1, (I 105))] fun l => bld [(false, 1, (I 108)), (false, 1, (I 109))] fun m => bld [(false, 1, (I 112)), (false, 1, (I 113))] fun n => bld [(false, 1, (I 116)), (false, 1, (I 117))] fun o => bld [(false, 1, (I 120)), (false, 1, (I 133))] fun p => bld [(false, 1, (I 136)), (false, 1, (I 136))] fun q => bld [(false, 1, (I 145)), (false, 1, (I 148))] fun r => bld [(false, 1, (I 153)), (false, 1, (I 167))] fun s => bld [(false, 1, (I 170)), (false, 1, (I 173))] fun t => bld [(false, 1, (I 176)), (false, 1, (I 185))] fun u => bld [(false, 1, (I 187)), (false, 1, (I 200))] fun v => bld [(true, 2, (.agg c)), (true, 2, (.agg d)), (true, 2, (.agg e)), (true, 2, (.agg f)), (true, 2, (.agg g)), (true, 2, (.agg h)), (true, 2, (.agg i)), (true, 2, (.agg j)), (true, 2, (.agg k)), (true, 2, (.agg l)), (true, 2, (.agg m)), (true, 2, (.agg n)), (true, 2, (.agg o)), (true, 2, (.agg p)), (true, 2, (.agg q)), (true, 2, (.agg r)), (true, 2, (.agg s)), (true, 2, (.agg t)), (true, 2, (.agg u)), (true, 2, (.agg v))] fun c => mkS b 2 20 c fun b c => lenL b fun d => blk 0 (lp L227n0 most [a, b, d, (I 0)] c) fun _ a => cK (.bool false) fun b => .ret b a)
def g227 : Hint := (.s .z (.s (.s .z (.b [] (.l [0, 25, 26, 27] (.s .z (.s (.s .z .z) (.s (.b [0, 25, 26, 27] (.s .z (.s .z (.s (.s .z .z) .z)))) .z)))))) (.s .z .z)))
theorem e227 : b227 = denF Tryz.prog (gam []) Tryz.f227 g227 := by kernel_rfl
def s227 : Fun := b227
theorem F227 : Snd Tryz.prog 227 s227 := snd_of hmix gnil Tryz.func227 (by kernel_rfl) (by kernel_rfl) (e227)

/-- obelisk/instr.local -/
def L302n0 : List AV → Hp → Res := fun a b => uc a fun a c => uc c fun c d => uc d fun d e => uc e fun e _ => ltN e d fun f => ifB f (blk 1 (ixA 1 c e fun f => ld1 b f fun f => ltN a f fun g => ap (gsel (.bool (bnot g)) true a) fun h => ap (gsel (.bool (bnot g)) true f) fun i => gj (.bool (bnot g)) true (iAdd i (I 4) fun a => .norm [a] b) b fun b i => gj (.bool (bnot g)) true (ltN h b fun a => .norm [(.bool a)] i) i fun b h => cB (.bool (bnot g)) fun g => ap (sel g b (.bool false)) fun b => cB b fun b => ifB b (iSub a f fun a => cK a fun a => cK (.bool true) fun b => .ret (.tup (.cons a (.cons b .nil))) h) (.norm [a, c, d, e] h)) fun a b => uc a fun a c => uc c fun c d => uc d fun d e => uc e fun e _ => iAdd e (I 1) fun e => .norm [a, c, d, e] b) (.exit 0 [] b)
def b302 : Fun := fun a b => uc a fun a c => uz c (bld [(false, 1, (I 26)), (false, 1, (I 30)), (false, 1, (I 42)), (false, 1, (I 59)), (false, 1, (I 63)), (false, 1, (I 75))] fun c => mkS b 1 6 c fun b c => lenL b fun d => blk 0 (lp L302n0 most [a, b, d, (I 0)] c) fun _ a => cK (I 0) fun b => cK (.bool false) fun c => .ret (.tup (.cons b (.cons c .nil))) a)
def g302 : Hint := (.s .z (.s (.s .z (.b [] (.l [0, 6, 7, 8] (.s .z (.s (.s .z .z) (.s (.b [0, 6, 7, 8] (.s .z (.s .z (.s (.s .z .z) .z)))) .z)))))) (.s .z .z)))
theorem e302 : b302 = denF Tryz.prog (gam []) Tryz.f302 g302 := by kernel_rfl
def s302 : Fun := b302
theorem F302 : Snd Tryz.prog 302 s302 := snd_of hmix gnil Tryz.func302 (by kernel_rfl) (by kernel_rfl) (e302)

/-- (*obelisk/instr.reader).num -/
def L303n0 : List AV → Hp → Res := fun a b => uc a fun a c => uc c fun c d => uc d fun d e => uc e fun e f => uc f fun f g => uc g fun g _ => ltN g f fun h => ifB h (blk 1 (ixA 1 e g fun h => ld1 b h fun h => iShl d (.int 64 (.ofNat 8)) fun d => iConv 63 h fun h => iOr d h fun d => .norm [a, c, d, e, f, g] b) fun a b => uc a fun a c => uc c fun c d => uc d fun d e => uc e fun e f => uc f fun f g => uc g fun g _ => iAdd g (I 1) fun g => .norm [a, c, d, e, f, g] b) (.exit 0 [a, c, d] b)
def b303 : Fun := fun a b => uc a fun a c => uc c fun c d => uz d (nl 2 b a fun d => ap (gsel d false c) fun e => ap (gsel d false a) fun f => gj d false (nck f fun a => .norm [a] b) b fun b f => gj d false (fa 0 b fun a => .norm [a] f) f fun b f => gj d false (ld1 f b fun a => .norm [a] f) f fun b f => gj d false (lenL b fun a => .norm [a] f) f fun b f => ap (gsel d false a) fun g => gj d false (nck g fun a => .norm [a] f) f fun f g => gj d false (fa 1 f fun a => .norm [a] g) g fun f g => gj d false (ld1 g f fun a => .norm [a] g) g fun f g => gj d false (iSub b f fun a => .norm [a] g) g fun b f => gj d false (ltN b e fun a => .norm [(.bool a)] f) f fun b e => cB d fun d => ap (sel d (.bool true) b) fun b => cB b fun b => ifB b (.fail) (nl 0 e a fun b => nl 1 e a fun d => ixA 1 b d fun b => ld1 e b fun b => iConv 7 b fun b => iConv 63 b fun b => nl 0 e a fun d => nl 1 e a fun f => iAdd f (I 1) fun f => nl 1 e a fun g => iAdd g c fun g => cutS 1 d (some f) (some g) none fun d => lenL d fun f => blk 0 (lp L303n0 most [a, c, b, d, f, (I 0)] e) fun a b => uc a fun a c => uc c fun c d => uc d fun d _ => nl 1 b a fun e => iAdd e c fun c => na 1 a fun a => st1 b a c fun a => cK d fun b => .ret b a))
def g303 : Hint := (.s .z (.s (.s (.r [0, 1, 2, 3, 4, 5, 6, 7, 8, 9, 10, 11, 12, 13, 14, 15, 16, 17]) (.s .z .z)) (.s (.r [0, 1, 2, 3, 4, 5, 6, 7, 8, 9, 10, 11, 12]) (.s (.s (.r [0, 1, 2, 3, 4, 5, 6, 7, 8, 9, 10, 11, 12, 13, 14, 15, 16, 17]) (.b [0, 1, 5] (.l [0, 1, 5, 56, 57, 58] (.s .z (.s (.s .z .z) (.s (.b [0, 1, 5, 56, 57, 58] (.s .z .z)) .z)))))) (.s .z (.s .z .z))))))
theorem e303 : b303 = denF Tryz.prog (gam []) Tryz.f303 g303 := by kernel_rfl
def s303 : Fun := b303
theorem F303 : Snd Tryz.prog 303 s303 := snd_of hmix gnil Tryz.func303 (by kernel_rfl) (by kernel_rfl) (e303)

/-- obelisk/instr.loads -/
def b304 : Fun := fun a b => uc a fun a c => uz c (eqN a (I 21) fun c => ap (gsel (.bool c) false a) fun d => gj (.bool c) false (eqN d (I 22) fun a => .norm [(.bool a)] b) b fun b d => cB (.bool c) fun c => ap (sel c (.bool true) b) fun b => ap (gsel b false a) fun c => gj b false (eqN c (I 25) fun a => .norm [(.bool a)] d) d fun c d => cB b fun b => ap (sel b (.bool true) c) fun b => ap (gsel b false a) fun c => gj b false (eqN c (I 54) fun a => .norm [(.bool a)] d) d fun c d => cB b fun b => ap (sel b (.bool true) c) fun b => ap (gsel b false a) fun c => gj b false (eqN c (I 55) fun a => .norm [(.bool a)] d) d fun c d => cB b fun b => ap (sel b (.bool true) c) fun b => ap (gsel b false a) fun a => gj b false (eqN a (I 58) fun a => .norm [(.bool a)] d) d fun a c => cB b fun b => ap (sel b (.bool true) a) fun a => cK a fun a => .ret a c)
def g304 : Hint := (.s .z (.s .z .z))
theorem e304 : b304 = denF Tryz.prog (gam []) Tryz.f304 g304 := by kernel_rfl
def s304 : Fun := b304
theorem F304 : Snd Tryz.prog 304 s304 := snd_of hmix gnil Tryz.func304 (by kernel_rfl) (by kernel_rfl) (e304)

/-- (*obelisk/instr.reader).plain -/
def b305 (s303 : Fun) : Fun := fun a b => uc a fun a c => uc c fun c d => uz d (iMul (I 8) c fun d => iShl (I 1) d fun d => iSub d (I 1) fun d => cl (s303 [a, c] b) fun a b => iAnd a d fun a => cK a fun a => .ret a b)
def g305 : Hint := (.s .z (.s (.r [0, 1, 3, 4, 5, 6, 2, 7, 8]) .z))
theorem e305 (s303 : Fun) : b305 s303 = denF Tryz.prog (gam [(303, s303)]) Tryz.f305 g305 := by kernel_rfl
def s305 : Fun := b305 s303
theorem F305 : Snd Tryz.prog 305 s305 := snd_of hmix (gcons F303 gnil) Tryz.func305 (by kernel_rfl) (by kernel_rfl) (e305 s303)

/-- obelisk/instr.Jumps -/
def b307 : Fun := fun a b => uc a fun a c => uz c (ltN a (I 153) fun c => ap (gsel (.bool (bnot c)) true a) fun d => gj (.bool (bnot c)) true (ltN (I 167) d fun a => .norm [(.bool (bnot a))] b) b fun b d => cB (.bool (bnot c)) fun c => ap (sel c b (.bool false)) fun b => ap (gsel b false a) fun c => gj b false (eqN c (I 198) fun a => .norm [(.bool a)] d) d fun c d => cB b fun b => ap (sel b (.bool true) c) fun b => ap (gsel b false a) fun c => gj b false (eqN c (I 199) fun a => .norm [(.bool a)] d) d fun c d => cB b fun b => ap (sel b (.bool true) c) fun b => ap (gsel b false a) fun a => gj b false (eqN a (I 200) fun a => .norm [(.bool a)] d) d fun a c => cB b fun b => ap (sel b (.bool true) a) fun a => cK a fun a => .ret a c)
def g307 : Hint := (.s .z (.s .z .z))
theorem e307 : b307 = denF Tryz.prog (gam []) Tryz.f307 g307 := by kernel_rfl
def s307 : Fun := b307
theorem F307 : Snd Tryz.prog 307 s307 := snd_of hmix gnil Tryz.func307 (by kernel_rfl) (by kernel_rfl) (e307)

/-- (*obelisk/instr.reader).operands -/
def b228 (s302 s303 s304 s305 s307 : Fun) : Fun := fun a b => uc a fun a c => uc c fun c d => uz d (nl 2 b c fun d => cl (s302 [d] b) fun b d => cT b fun e => cK (nth e 0) fun e => cT b fun b => cK (nth b 1) fun b => nl 2 d c fun f => blk 0 (cB b fun b => ifB b (na 4 c fun a => st1 d a e fun a => .norm [] a) (ltN f (I 2) fun b => ap (gsel (.bool (bnot b)) true f) fun e => gj (.bool (bnot b)) true (ltN (I 8) e fun a => .norm [(.bool (bnot a))] d) d fun d e => cB (.bool (bnot b)) fun b => ap (sel b d (.bool false)) fun b => cB b fun b => ifB b (iSub f (I 2) fun a => iSub a (I 1) fun a => na 4 c fun b => st1 e b a fun a => .norm [] a) (eqN f (I 9) fun b => ap (gsel (.bool b) false f) fun d => gj (.bool b) false (eqN d (I 10) fun a => .norm [(.bool a)] e) e fun d e => cB (.bool b) fun b => ap (sel b (.bool true) d) fun b => cB b fun b => ifB b (iSub f (I 9) fun a => na 4 c fun b => st1 e b a fun a => .norm [] a) (eqN f (I 16) fun b => ifB b (cl (s303 [a, (I 1)] e) fun a b => na 4 c fun c => st1 b c a fun a => .norm [] a) (eqN f (I 17) fun b => ifB b (cl (s303 [a, (I 2)] e) fun a b => na 4 c fun c => st1 b c a fun a => .norm [] a) (eqN f (I 18) fun b => ap (gsel (.bool b) false f) fun d => gj (.bool b) false (eqN d (I 188) fun a => .norm [(.bool a)] e) e fun d e => cB (.bool b) fun b => ap (sel b (.bool true) d) fun b => ap (gsel b false f) fun d => gj b false (cl (s304 [d] e) fun a b => .norm [a] b) e fun d e => cB b fun b => ap (sel b (.bool true) d) fun b => cB b fun b => ifB b (cl (s305 [a, (I 1)] e) fun a b => na 4 c fun c => st1 b c a fun a => .norm [] a) (eqN f (I 19) fun b => ap (gsel (.bool b) false f) fun d => gj (.bool b) false (eqN d (I 20) fun a => .norm [(.bool a)] e) e fun d e => cB (.bool b) fun b => ap (sel b (.bool true) d) fun b => ap (gsel b false f) fun d => gj b false (ltN d (I 178) fun a => .norm [(.bool (bnot a))] e) e fun d e => ap (gsel b false d) fun d => ap (gsel d true f) fun g => gj d true (ltN (I 184) g fun a => .norm [(.bool (bnot a))] e) e fun e g => gj b false (cB d fun a => ap (sel a e (.bool false)) fun a => .norm [a] g) g fun d e => cB b fun b => ap (sel b (.bool true) d) fun b => ap (gsel b false f) fun d => gj b false (eqN d (I 187) fun a => .norm [(.bool a)] e) e fun d e => cB b fun b => ap (sel b (.bool true) d) fun b => ap (gsel b false f) fun d => gj b false (eqN d (I 189) fun a => .norm [(.bool a)] e) e fun d e => cB b fun b => ap (sel b (.bool true) d) fun b => ap (gsel b false f) fun d => gj b false (eqN d (I 192) fun a => .norm [(.bool a)] e) e fun d e => cB b fun b => ap (sel b (.bool true) d) fun b => ap (gsel b false f) fun d => gj b false (eqN d (I 193) fun a => .norm [(.bool a)] e) e fun d e => cB b fun b => ap (sel b (.bool true) d) fun b => cB b fun b => ifB b (cl (s305 [a, (I 2)] e) fun a b => na 4 c fun c => st1 b c a fun a => .norm [] a) (eqN f (I 132) fun b => ifB b (cl (s305 [a, (I 1)] e) fun b d => cl (s303 [a, (I 1)] d) fun a d => na 4 c fun e => st1 d e b fun b => na 5 c fun c => st1 b c a fun a => .norm [] a) (eqN f (I 197) fun b => ifB b (cl (s305 [a, (I 2)] e) fun b d => cl (s305 [a, (I 1)] d) fun a d => na 4 c fun e => st1 d e b fun b => na 5 c fun c => st1 b c a fun a => .norm [] a) (eqN f (I 185) fun a => ifB a (.fail) (cl (s307 [f] e) fun a b => ap (gsel a true f) fun c => gj a true (eqN c (I 200) fun a => .norm [(.bool (bnot a))] b) b fun b c => cB a fun a => ap (sel a b (.bool false)) fun a => cB a fun a => ifB a (.fail) (eqN f (I 200) fun a => ifB a (.fail) (eqN f (I 170) fun a => ap (gsel (.bool a) false f) fun b => gj (.bool a) false (eqN b (I 171) fun a => .norm [(.bool a)] c) c fun b c => cB (.bool a) fun a => ap (sel a (.bool true) b) fun a => cB a fun a => ifB a (.fail) (eqN f (I 196) fun a => ifB a (.fail) (.norm [] c))))))))))))))) fun _ a => .ret (.tup .nil) a)
def g228 : Hint := (.s .z (.s .z (.b [] (.s .z (.s .z (.s .z (.s .z (.s .z (.s .z (.s .z (.s .z (.s .z (.s .z (.s .z (.s .z (.s .z (.s .z (.s .z (.s .z (.s .z (.s .z (.s .z (.s .z (.s .z (.s .z (.s .z (.s .z (.s .z (.s .z (.s .z (.s .z .z)))))))))))))))))))))))))))))))
theorem e228 (s302 s303 s304 s305 s307 : Fun) : b228 s302 s303 s304 s305 s307 = denF Tryz.prog (gam [(302, s302), (303, s303), (304, s304), (305, s305), (307, s307)]) Tryz.f228 g228 := by kernel_rfl
def s228 : Fun := b228 s302 s303 s304 s305 s307
theorem F228 : Snd Tryz.prog 228 s228 := snd_of hmix (gcons F302 (gcons F303 (gcons F304 (gcons F305 (gcons F307 gnil))))) Tryz.func228 (by kernel_rfl) (by kernel_rfl) (e228 s302 s303 s304 s305 s307)

/-- obelisk/instr.At -/
def b136 (s227 s228 : Fun) : Fun := fun a b => uc a fun a c => uc c fun c d => uz d (mk b (.cons (I 0) (.cons (I 0) (.cons (I 0) (.cons (.bool false) (.cons (I 0) (.cons (I 0) (.cons .nils (.cons .nils .nil)))))))) fun b d => ltN c (I 0) fun e => ap (gsel (.bool e) false c) fun f => ap (gsel (.bool e) false a) fun g => gj (.bool e) false (lenL g fun a => .norm [a] d) d fun d g => gj (.bool e) false (ltN f d fun a => .norm [(.bool (bnot a))] g) g fun d f => cB (.bool e) fun e => ap (sel e (.bool true) d) fun d => ap (gsel d false a) fun e => ap (gsel d false c) fun g => gj d false (ixA 1 e g fun a => .norm [a] f) f fun e f => gj d false (ld1 f e fun a => .norm [a] f) f fun e f => gj d false (iConv 63 e fun a => .norm [a] f) f fun e f => gj d false (cl (s227 [e] f) fun a b => .norm [a] b) f fun e f => gj d false (bNot e fun a => .norm [a] f) f fun e f => cB d fun d => ap (sel d (.bool true) e) fun d => cB d fun d => ifB d (.fail) (iAdd c (I 1) fun d => bld [(false, 1, a), (false, 1, d), (false, 1, (.bool false))] fun d => mk f (cells (.agg d)) fun d e => ixA 1 a c fun a => ld1 e a fun a => iConv 63 a fun a => bld [(false, 1, c), (false, 1, (I 0)), (false, 1, a), (false, 1, (.bool false)), (false, 1, (I 0)), (false, 1, (I 0)), (false, 1, .nils), (false, 1, .nils)] fun a => mk e (.cons (I 0) (.cons (I 0) (.cons (I 0) (.cons (.bool false) (.cons (I 0) (.cons (I 0) (.cons .nils (.cons .nils .nil)))))))) fun e f => stN f 8 e (.agg a) fun a => cl (s228 [d, e] a) fun _ a => nl 2 a d fun f => cB f fun f => ifB f (.fail) (nl 1 a d fun d => iSub d c fun c => fa 1 e fun d => st1 a d c fun a => ldN a 8 e fun c => stN a 8 b c fun a => ldN a 8 b fun b => cK (.bool true) fun c => .ret (.tup (.cons b (.cons c .nil))) a)))
def g136 : Hint := (.s .z (.s (.s .z (.s .z .z)) (.s .z (.s .z (.s .z (.s (.s .z (.s .z .z)) (.s .z (.s .z .z))))))))
theorem e136 (s227 s228 : Fun) : b136 s227 s228 = denF Tryz.prog (gam [(227, s227), (228, s228)]) Tryz.f136 g136 := by kernel_rfl
def s136 : Fun := b136 s227 s228
theorem F136 : Snd Tryz.prog 136 s136 := snd_of hmix (gcons F227 (gcons F228 gnil)) Tryz.func136 (by kernel_rfl) (by kernel_rfl) (e136 s227 s228)

/-- obelisk/instr.All -/
def L363n0 (s136 : Fun) : List AV → Hp → Res := fun a b => uc a fun a c => uc c fun c d => uc d fun d _ => lenL a fun e => ltN d e fun e => ifB e (blk 1 (cl (s136 [a, d] b) fun b e => cT b fun f => cK (nth f 0) fun f => cT b fun b => cK (nth b 1) fun b => mk e (.cons (I 0) (.cons (I 0) (.cons (I 0) (.cons (.bool false) (.cons (I 0) (.cons (I 0) (.cons .nils (.cons .nils .nil)))))))) fun e g => stN g 8 e f fun f => bNot b fun b => cB b fun b => ifB b (.fail) (ldN f 8 e fun b => bld [(true, 8, b)] fun b => mkS f 8 1 b fun b f => apd f 8 96 c b fun b c => fl 1 c e fun e => iAdd d e fun d => .norm [a, b, d] c)) fun a b => uc a fun a c => uc c fun c d => uc d fun d _ => .norm [a, c, d] b) (.exit 0 [c] b)
def b363 (s136 : Fun) : Fun := fun a b => uc a fun a c => uz c (lenL a fun c => eqN c (I 0) fun c => ap (gsel (.bool c) false a) fun d => gj (.bool c) false (lenL d fun a => .norm [a] b) b fun b d => gj (.bool c) false (ltN (I 4096) b fun a => .norm [(.bool a)] d) d fun b d => cB (.bool c) fun c => ap (sel c (.bool true) b) fun b => cB b fun b => ifB b (.fail) (blk 0 (lp (L363n0 s136) most [a, .nils, (I 0)] d) fun a b => uc a fun a _ => cK a fun a => cK (.bool true) fun c => .ret (.tup (.cons a (.cons c .nil))) b))
def g363 : Hint := (.s .z (.s (.s .z (.s .z .z)) (.s .z (.s (.s .z (.b [4] (.l [0, 4, 5] (.s (.s .z (.s .z .z)) (.b [0, 4, 5] (.s .z (.s (.s .z (.s .z .z)) (.s .z .z)))))))) (.s .z .z)))))
theorem e363 (s136 : Fun) : b363 s136 = denF Tryz.prog (gam [(136, s136)]) Tryz.f363 g363 := by kernel_rfl
def s363 : Fun := b363 s136
theorem F363 : Snd Tryz.prog 363 s363 := snd_of hmix (gcons F136 gnil) Tryz.func363 (by kernel_rfl) (by kernel_rfl) (e363 s136)

/-- (*obelisk/typecheck.work).must -/
def b367 : Fun := fun a b => uc a fun a c => uc c fun c d => uz d (nl 11 b a fun d => ap (gsel d false c) fun c => gj d false (bNot c fun a => .norm [a] b) b fun b c => cB d fun d => ap (sel d (.bool true) b) fun b => na 11 a fun a => st1 c a b fun a => .ret (.tup .nil) a)
def g367 : Hint := .z
theorem e367 : b367 = denF Tryz.prog (gam []) Tryz.f367 g367 := by kernel_rfl
def s367 : Fun := b367
theorem F367 : Snd Tryz.prog 367 s367 := snd_of hmix gnil Tryz.func367 (by kernel_rfl) (by kernel_rfl) (e367)

/-- obelisk/mutf.Decode -/
def L259n0 : List AV → Hp → Res := fun a b => uc a fun a c => uc c fun c d => uc d fun d _ => lenS a fun e => ltN d e fun e => ifB e (blk 1 (sIdx a d fun e => iConv 16 e fun e => blk 2 (ltN (.int 16 (.ofNat 0)) e fun f => ap (gsel (.bool f) true e) fun g => gj (.bool f) true (ltN g (.int 16 (.ofNat 128)) fun a => .norm [(.bool a)] b) b fun b g => cB (.bool f) fun f => ap (sel f b (.bool false)) fun b => cB b fun b => ifB b (bld [(false, 1, e)] fun b => mkS g 1 1 b fun b e => apd e 1 2 c b fun b c => iAdd d (I 1) fun d => .norm [a, b, d] c) (.fail)) fun a b => uc a fun a c => uc c fun c d => uc d fun d _ => .norm [a, c, d] b) fun a b => uc a fun a c => uc c fun c d => uc d fun d _ => .norm [a, c, d] b) (.exit 0 [c] b)
def b259 : Fun := fun a b => uc a fun a c => uz c (bld [] fun c => mkS b 1 0 c fun b c => blk 0 (lp L259n0 most [a, b, (I 0)] c) fun a b => uc a fun a _ => cK a fun a => cK (.bool true) fun c => .ret (.tup (.cons a (.cons c .nil))) b)
def g259 : Hint := (.s .z (.s .z (.s (.s .z (.b [4] (.l [0, 4, 5] (.s (.s .z (.s .z .z)) (.b [0, 4, 5] (.s .z (.b [0, 4, 5] (.s .z (.s (.s .z .z) .z))))))))) (.s .z .z))))
theorem e259 : b259 = denF Tryz.prog (gam []) Tryz.f259 g259 := by kernel_rfl
def s259 : Fun := b259
theorem F259 : Snd Tryz.prog 259 s259 := snd_of hmix gnil Tryz.func259 (by kernel_rfl) (by kernel_rfl) (e259)

/-- internal/bytealg.IndexByteString -/
def s435 : Fun := xIdx
theorem F435 : ESound Tryz.prog 435 s435 := xIdx_e Tryz.func435 (by kernel_rfl) (by kernel_rfl) (by kernel_rfl) (by kernel_rfl)

/-- internal/stringslite.IndexByte -/
def b376 (s435 : Fun) : Fun := fun a b => uc a fun a c => uc c fun c d => uz d (cl (s435 [a, c] b) fun a b => cK a fun a => .ret a b)
def g376 : Hint := (.s .z (.s .z .z))
theorem e376 (s435 : Fun) : b376 s435 = denF Tryz.prog (gam [(435, s435)]) Tryz.f376 g376 := by kernel_rfl
def s376 : Fun := b376 s435
theorem F376 : Snd Tryz.prog 376 s376 := snd_of hmix (gconsE F435 gnil) Tryz.func376 (by kernel_rfl) (by kernel_rfl) (e376 s435)

/-- strings.IndexByte -/
def b294 (s376 : Fun) : Fun := fun a b => uc a fun a c => uc c fun c d => uz d (cl (s376 [a, c] b) fun a b => cK a fun a => .ret a b)
def g294 : Hint := (.s .z (.s .z .z))
theorem e294 (s376 : Fun) : b294 s376 = denF Tryz.prog (gam [(376, s376)]) Tryz.f294 g294 := by kernel_rfl
def s294 : Fun := b294 s376
theorem F294 : Snd Tryz.prog 294 s294 := snd_of hmix (gcons F376 gnil) Tryz.func294 (by kernel_rfl) (by kernel_rfl) (e294 s376)

/-- strings.IndexRune -/
def b411 (s294 : Fun) : Fun := fun a b => uc a fun a c => uc c fun c d => uz d (blk 0 (ltN c (K 0) fun d => ap (gsel (.bool (bnot d)) true c) fun e => gj (.bool (bnot d)) true (ltN e (K 128) fun a => .norm [(.bool a)] b) b fun b e => cB (.bool (bnot d)) fun d => ap (sel d b (.bool false)) fun b => cB b fun b => ifB b (iConv 8 c fun b => cl (s294 [a, b] e) fun a b => cK a fun a => .ret a b) (.fail)) fun a b => uc a fun a _ => cK a fun a => .ret a b)
def g411 : Hint := (.s .z (.b [4] (.s .z (.s (.s .z .z) .z))))
theorem e411 (s294 : Fun) : b411 s294 = denF Tryz.prog (gam [(294, s294)]) Tryz.f411 g411 := by kernel_rfl
def s411 : Fun := b411 s294
theorem F411 : Snd Tryz.prog 411 s411 := snd_of hmix (gcons F294 gnil) Tryz.func411 (by kernel_rfl) (by kernel_rfl) (e411 s294)

/-- strings.shouldUseASCIISet -/
def b412 : Fun := fun a b => uc a fun a c => uz c (ltN (I 8) a fun a => cK (.bool a) fun a => .ret a b)
def g412 : Hint := (.s .z (.s .z .z))
theorem e412 : b412 = denF Tryz.prog (gam []) Tryz.f412 g412 := by kernel_rfl
def s412 : Fun := b412
theorem F412 : Snd Tryz.prog 412 s412 := snd_of hmix gnil Tryz.func412 (by kernel_rfl) (by kernel_rfl) (e412)

/-- strings.makeASCIISet -/
def L413n0 : List AV → Hp → Res := fun a b => uc a fun a c => uc c fun c d => uc d fun d _ => lenS a fun e => ltN d e fun e => ifB e (blk 1 (sIdx a d fun e => ltN e (J 128) fun f => ifB (bnot f) (.fail) (ixP 256 1 c e fun e => st1 b e (.bool true) fun b => .norm [a, c, d] b)) fun a b => uc a fun a c => uc c fun c d => uc d fun d _ => iAdd d (I 1) fun d => .norm [a, c, d] b) (.exit 0 [c] b)
def b413 : Fun := fun a b => uc a fun a c => uz c (mk b (.cons (.bool false) (.cons (.bool false) (.cons (.bool false) (.cons (.bool false) (.cons (.bool false) (.cons (.bool false) (.cons (.bool false) (.cons (.bool false) (.cons (.bool false) (.cons (.bool false) (.cons (.bool false) (.cons (.bool false) (.cons (.bool false) (.cons (.bool false) (.cons (.bool false) (.cons (.bool false) (.cons (.bool false) (.cons (.bool false) (.cons (.bool false) (.cons (.bool false) (.cons (.bool false) (.cons (.bool false) (.cons (.bool false) (.cons (.bool false) (.cons (.bool false) (.cons (.bool false) (.cons (.bool false) (.cons (.bool false) (.cons (.bool false) (.cons (.bool false) (.cons (.bool false) (.cons (.bool false) (.cons (.bool false) (.cons (.bool false) (.cons (.bool false) (.cons (.bool false) (.cons (.bool false) (.cons (.bool false) (.cons (.bool false) (.cons (.bool false) (.cons (.bool false) (.cons (.bool false) (.cons (.bool false) (.cons (.bool false) (.cons (.bool false) (.cons (.bool false) (.cons (.bool false) (.cons (.bool false) (.cons (.bool false) (.cons (.bool false) (.cons (.bool false) (.cons (.bool false) (.cons (.bool false) (.cons (.bool false) (.cons (.bool false) (.cons (.bool false) (.cons (.bool false) (.cons (.bool false) (.cons (.bool false) (.cons (.bool false) (.cons (.bool false) (.cons (.bool false) (.cons (.bool false) (.cons (.bool false) (.cons (.bool false) (.cons (.bool false) (.cons (.bool false) (.cons (.bool false) (.cons (.bool false) (.cons (.bool false) (.cons (.bool false) (.cons (.bool false) (.cons (.bool false) (.cons (.bool false) (.cons (.bool false) (.cons (.bool false) (.cons (.bool false) (.cons (.bool false) (.cons (.bool false) (.cons (.bool false) (.cons (.bool false) (.cons (.bool false) (.cons (.bool false) (.cons (.bool false) (.cons (.bool false) (.cons (.bool false) (.cons (.bool false) (.cons (.bool false) (.cons (.bool false) (.cons (.bool false) (.cons (.bool false) (.cons (.bool false) (.cons (.bool false) (.cons (.bool false) (.cons (.bool false) (.cons (.bool false) (.cons (.bool false) (.cons (.bool false) (.cons (.bool false) (.cons (.bool false) (.cons (.bool false) (.cons (.bool false) (.cons (.bool false) (.cons (.bool false) (.cons (.bool false) (.cons (.bool false) (.cons (.bool false) (.cons (.bool false) (.cons (.bool false) (.cons (.bool false) (.cons (.bool false) (.cons (.bool false) (.cons (.bool false) (.cons (.bool false) (.cons (.bool false) (.cons (.bool false) (.cons (.bool false) (.cons (.bool false) (.cons (.bool false) (.cons (.bool false) (.cons (.bool false) (.cons (.bool false) (.cons (.bool false) (.cons (.bool false) (.cons (.bool false) (.cons (.bool false) (.cons (.bool false) (.cons (.bool false) (.cons (.bool false) (.cons (.bool false) (.cons (.bool false) (.cons (.bool false) (.cons (.bool false) (.cons (.bool false) (.cons (.bool false) (.cons (.bool false) (.cons (.bool false) (.cons (.bool false) (.cons (.bool false) (.cons (.bool false) (.cons (.bool false) (.cons (.bool false) (.cons (.bool false) (.cons (.bool false) (.cons (.bool false) (.cons (.bool false) (.cons (.bool false) (.cons (.bool false) (.cons (.bool false) (.cons (.bool false) (.cons (.bool false) (.cons (.bool false) (.cons (.bool false) (.cons (.bool false) (.cons (.bool false) (.cons (.bool false) (.cons (.bool false) (.cons (.bool false) (.cons (.bool false) (.cons (.bool false) (.cons (.bool false) (.cons (.bool false) (.cons (.bool false) (.cons (.bool false) (.cons (.bool false) (.cons (.bool false) (.cons (.bool false) (.cons (.bool false) (.cons (.bool false) (.cons (.bool false) (.cons (.bool false) (.cons (.bool false) (.cons (.bool false) (.cons (.bool false) (.cons (.bool false) (.cons (.bool false) (.cons (.bool false) (.cons (.bool false) (.cons (.bool false) (.cons (.bool false) (.cons (.bool false) (.cons (.bool false) (.cons (.bool false) (.cons (.bool false) (.cons (.bool false) (.cons (.bool false) (.cons (.bool false) (.cons (.bool false) (.cons (.bool false) (.cons (.bool false) (.cons (.bool false) (.cons (.bool false) (.cons (.bool false) (.cons (.bool false) (.cons (.bool false) (.cons (.bool false) (.cons (.bool false) (.cons (.bool false) (.cons (.bool false) (.cons (.bool false) (.cons (.bool false) (.cons (.bool false) (.cons (.bool false) (.cons (.bool false) (.cons (.bool false) (.cons (.bool false) (.cons (.bool false) (.cons (.bool false) (.cons (.bool false) (.cons (.bool false) (.cons (.bool false) (.cons (.bool false) (.cons (.bool false) (.cons (.bool false) (.cons (.bool false) (.cons (.bool false) (.cons (.bool false) (.cons (.bool false) (.cons (.bool false) (.cons (.bool false) (.cons (.bool false) (.cons (.bool false) (.cons (.bool false) (.cons (.bool false) (.cons (.bool false) (.cons (.bool false) (.cons (.bool false) (.cons (.bool false) (.cons (.bool false) (.cons (.bool false) (.cons (.bool false) (.cons (.bool false) (.cons (.bool false) (.cons (.bool false) (.cons (.bool false) (.cons (.bool false) (.cons (.bool false) (.cons (.bool false) (.cons (.bool false) (.cons (.bool false) (.cons (.bool false) (.cons (.bool false) (.cons (.bool false) (.cons (.bool false) (.cons (.bool false) (.cons (.bool false) (.cons (.bool false) (.cons (.bool false) (.cons (.bool false) (.cons (.bool false) (.cons (.bool false) (.cons (.bool false) (.cons (.bool false) (.cons (.bool false) (.cons (.bool false) (.cons (.bool false) .nil)))))))))))))))))))))))))))))))))))))))))))))))))))))))))))))))))))))))))))))))))))))))))))))))))))))))))))))))))))))))))))))))))))))))))))))))))))))))))))))))))))))))))))))))))))))))))))))))))))))))))))))))))))))))))))))))))))))))))))))))))))))))))))))))) fun b c => blk 0 (lp L413n0 most [a, b, (I 0)] c) fun a b => uc a fun a _ => ldN b 256 a fun c => stN b 256 a c fun b => ldN b 256 a fun a => cK (.bool true) fun c => .ret (.tup (.cons a (.cons c .nil))) b)
def g413 : Hint := (.s .z (.s (.s .z (.b [2] (.l [0, 2, 4] (.s (.s .z (.s .z .z)) (.s (.b [0, 2, 4] (.s .z (.s (.s .z (.s .z .z)) .z))) .z))))) (.s .z .z)))
theorem e413 : b413 = denF Tryz.prog (gam []) Tryz.f413 g413 := by kernel_rfl
def s413 : Fun := b413
theorem F413 : Snd Tryz.prog 413 s413 := snd_of hmix gnil Tryz.func413 (by kernel_rfl) (by kernel_rfl) (e413)

/-- (*strings.asciiSet).contains -/
def b414 : Fun := fun a b => uc a fun a c => uc c fun c d => uz d (nck a fun a => ixP 256 1 a c fun a => ld1 b a fun a => cK a fun a => .ret a b)
def g414 : Hint := (.s .z (.s .z .z))
theorem e414 : b414 = denF Tryz.prog (gam []) Tryz.f414 g414 := by kernel_rfl
def s414 : Fun := b414
theorem F414 : Snd Tryz.prog 414 s414 := snd_of hmix gnil Tryz.func414 (by kernel_rfl) (by kernel_rfl) (e414)

/-- strings.IndexAny -/
def L360n0 (s411 s412 s413 s414 : Fun) : List AV → Hp → Res := fun a b => uc a fun a c => uc c fun c d => uc d fun d _ => lenS a fun e => ltN d e fun e => ifB e (blk 1 (sIdx a d fun e => cl (s414 [c, e] b) fun b e => cB b fun b => ifB b (.fail) (.norm [a, c, d] e)) fun a b => uc a fun a c => uc c fun c d => uc d fun d _ => iAdd d (I 1) fun d => .norm [a, c, d] b) (.exit 0 [] b)
def L360n1 (s411 s412 s413 s414 : Fun) : List AV → Hp → Res := fun a b => uc a fun a c => uc c fun c _ => nxt b c fun b d => cT b fun e => cK (nth e 0) fun e => cB e fun e => ifB e (blk 3 (cT b fun e => cK (nth e 1) fun e => cT b fun b => cK (nth b 2) fun b => cl (s411 [a, b] d) fun b d => ltN b (I 0) fun b => ifB (bnot b) (cK e fun a => .ret a d) (.norm [a, c] d)) fun a b => uc a fun a c => uc c fun c _ => .norm [a, c] b) (.exit 2 [] d)
def b360 (s411 s412 s413 s414 : Fun) : Fun := fun a b => uc a fun a c => uc c fun c d => uz d (eqS c (.str 0 0) fun d => ifB d (.fail) (lenS c fun d => eqN d (I 1) fun d => ifB d (.fail) (jn (lenS a fun d => cl (s412 [d] b) fun b d => cB b fun b => ifB b (cl (s413 [c] d) fun b d => cT b fun e => cK (nth e 0) fun e => cT b fun b => cK (nth b 1) fun b => mk d (.cons (.bool false) (.cons (.bool false) (.cons (.bool false) (.cons (.bool false) (.cons (.bool false) (.cons (.bool false) (.cons (.bool false) (.cons (.bool false) (.cons (.bool false) (.cons (.bool false) (.cons (.bool false) (.cons (.bool false) (.cons (.bool false) (.cons (.bool false) (.cons (.bool false) (.cons (.bool false) (.cons (.bool false) (.cons (.bool false) (.cons (.bool false) (.cons (.bool false) (.cons (.bool false) (.cons (.bool false) (.cons (.bool false) (.cons (.bool false) (.cons (.bool false) (.cons (.bool false) (.cons (.bool false) (.cons (.bool false) (.cons (.bool false) (.cons (.bool false) (.cons (.bool false) (.cons (.bool false) (.cons (.bool false) (.cons (.bool false) (.cons (.bool false) (.cons (.bool false) (.cons (.bool false) (.cons (.bool false) (.cons (.bool false) (.cons (.bool false) (.cons (.bool false) (.cons (.bool false) (.cons (.bool false) (.cons (.bool false) (.cons (.bool false) (.cons (.bool false) (.cons (.bool false) (.cons (.bool false) (.cons (.bool false) (.cons (.bool false) (.cons (.bool false) (.cons (.bool false) (.cons (.bool false) (.cons (.bool false) (.cons (.bool false) (.cons (.bool false) (.cons (.bool false) (.cons (.bool false) (.cons (.bool false) (.cons (.bool false) (.cons (.bool false) (.cons (.bool false) (.cons (.bool false) (.cons (.bool false) (.cons (.bool false) (.cons (.bool false) (.cons (.bool false) (.cons (.bool false) (.cons (.bool false) (.cons (.bool false) (.cons (.bool false) (.cons (.bool false) (.cons (.bool false) (.cons (.bool false) (.cons (.bool false) (.cons (.bool false) (.cons (.bool false) (.cons (.bool false) (.cons (.bool false) (.cons (.bool false) (.cons (.bool false) (.cons (.bool false) (.cons (.bool false) (.cons (.bool false) (.cons (.bool false) (.cons (.bool false) (.cons (.bool false) (.cons (.bool false) (.cons (.bool false) (.cons (.bool false) (.cons (.bool false) (.cons (.bool false) (.cons (.bool false) (.cons (.bool false) (.cons (.bool false) (.cons (.bool false) (.cons (.bool false) (.cons (.bool false) (.cons (.bool false) (.cons (.bool false) (.cons (.bool false) (.cons (.bool false) (.cons (.bool false) (.cons (.bool false) (.cons (.bool false) (.cons (.bool false) (.cons (.bool false) (.cons (.bool false) (.cons (.bool false) (.cons (.bool false) (.cons (.bool false) (.cons (.bool false) (.cons (.bool false) (.cons (.bool false) (.cons (.bool false) (.cons (.bool false) (.cons (.bool false) (.cons (.bool false) (.cons (.bool false) (.cons (.bool false) (.cons (.bool false) (.cons (.bool false) (.cons (.bool false) (.cons (.bool false) (.cons (.bool false) (.cons (.bool false) (.cons (.bool false) (.cons (.bool false) (.cons (.bool false) (.cons (.bool false) (.cons (.bool false) (.cons (.bool false) (.cons (.bool false) (.cons (.bool false) (.cons (.bool false) (.cons (.bool false) (.cons (.bool false) (.cons (.bool false) (.cons (.bool false) (.cons (.bool false) (.cons (.bool false) (.cons (.bool false) (.cons (.bool false) (.cons (.bool false) (.cons (.bool false) (.cons (.bool false) (.cons (.bool false) (.cons (.bool false) (.cons (.bool false) (.cons (.bool false) (.cons (.bool false) (.cons (.bool false) (.cons (.bool false) (.cons (.bool false) (.cons (.bool false) (.cons (.bool false) (.cons (.bool false) (.cons (.bool false) (.cons (.bool false) (.cons (.bool false) (.cons (.bool false) (.cons (.bool false) (.cons (.bool false) (.cons (.bool false) (.cons (.bool false) (.cons (.bool false) (.cons (.bool false) (.cons (.bool false) (.cons (.bool false) (.cons (.bool false) (.cons (.bool false) (.cons (.bool false) (.cons (.bool false) (.cons (.bool false) (.cons (.bool false) (.cons (.bool false) (.cons (.bool false) (.cons (.bool false) (.cons (.bool false) (.cons (.bool false) (.cons (.bool false) (.cons (.bool false) (.cons (.bool false) (.cons (.bool false) (.cons (.bool false) (.cons (.bool false) (.cons (.bool false) (.cons (.bool false) (.cons (.bool false) (.cons (.bool false) (.cons (.bool false) (.cons (.bool false) (.cons (.bool false) (.cons (.bool false) (.cons (.bool false) (.cons (.bool false) (.cons (.bool false) (.cons (.bool false) (.cons (.bool false) (.cons (.bool false) (.cons (.bool false) (.cons (.bool false) (.cons (.bool false) (.cons (.bool false) (.cons (.bool false) (.cons (.bool false) (.cons (.bool false) (.cons (.bool false) (.cons (.bool false) (.cons (.bool false) (.cons (.bool false) (.cons (.bool false) (.cons (.bool false) (.cons (.bool false) (.cons (.bool false) (.cons (.bool false) (.cons (.bool false) (.cons (.bool false) (.cons (.bool false) (.cons (.bool false) (.cons (.bool false) (.cons (.bool false) (.cons (.bool false) (.cons (.bool false) (.cons (.bool false) (.cons (.bool false) (.cons (.bool false) (.cons (.bool false) (.cons (.bool false) (.cons (.bool false) (.cons (.bool false) (.cons (.bool false) (.cons (.bool false) (.cons (.bool false) (.cons (.bool false) (.cons (.bool false) (.cons (.bool false) (.cons (.bool false) (.cons (.bool false) (.cons (.bool false) (.cons (.bool false) (.cons (.bool false) (.cons (.bool false) (.cons (.bool false) (.cons (.bool false) (.cons (.bool false) (.cons (.bool false) (.cons (.bool false) (.cons (.bool false) (.cons (.bool false) (.cons (.bool false) (.cons (.bool false) (.cons (.bool false) (.cons (.bool false) (.cons (.bool false) (.cons (.bool false) .nil)))))))))))))))))))))))))))))))))))))))))))))))))))))))))))))))))))))))))))))))))))))))))))))))))))))))))))))))))))))))))))))))))))))))))))))))))))))))))))))))))))))))))))))))))))))))))))))))))))))))))))))))))))))))))))))))))))))))))))))))))))))))))))))))) fun d f => stN f 256 d e fun e => cB b fun b => ifB b (blk 0 (lp (L360n0 s411 s412 s413 s414) most [a, d, (I 0)] e) fun _ a => cK (.int 63 (.negSucc 0)) fun b => .ret b a) (.norm [a, c] e)) (.norm [a, c] d)) fun a b => uc a fun a c => uc c fun c _ => rng b a fun a b => blk 2 (lp (L360n1 s411 s412 s413 s414) most [c, a] b) fun _ a => cK (.int 63 (.negSucc 0)) fun b => .ret b a)))
def g360 : Hint := (.s .z (.s (.s .z (.s .z .z)) (.s (.s .z (.s .z .z)) (.j [0, 1] (.s .z (.s (.s .z (.s .z (.s (.s (.s .z (.b [] (.l [0, 6, 8] (.s (.s .z (.s .z .z)) (.s (.b [0, 6, 8] (.s .z (.s .z .z))) .z))))) (.s .z .z)) .z))) .z)) (.s (.s .z (.b [] (.l [1, 45] (.s .z (.s (.s .z .z) (.b [1, 45] (.s .z (.s .z (.s (.s .z .z) .z))))))))) (.s .z .z))))))
theorem e360 (s411 s412 s413 s414 : Fun) : b360 s411 s412 s413 s414 = denF Tryz.prog (gam [(411, s411), (412, s412), (413, s413), (414, s414)]) Tryz.f360 g360 := by kernel_rfl
def s360 : Fun := b360 s411 s412 s413 s414
theorem F360 : Snd Tryz.prog 360 s360 := snd_of hmix (gcons F411 (gcons F412 (gcons F413 (gcons F414 gnil)))) Tryz.func360 (by kernel_rfl) (by kernel_rfl) (e360 s411 s412 s413 s414)

/-- strings.ContainsAny -/
def b283 (s360 : Fun) : Fun := fun a b => uc a fun a c => uc c fun c d => uz d (cl (s360 [a, c] b) fun a b => ltN a (I 0) fun a => cK (.bool (bnot a)) fun a => .ret a b)
def g283 : Hint := (.s .z (.s .z .z))
theorem e283 (s360 : Fun) : b283 s360 = denF Tryz.prog (gam [(360, s360)]) Tryz.f283 g283 := by kernel_rfl
def s283 : Fun := b283 s360
theorem F283 : Snd Tryz.prog 283 s283 := snd_of hmix (gcons F360 gnil) Tryz.func283 (by kernel_rfl) (by kernel_rfl) (e283 s360)

/-- obelisk/names.Plain -/
def b192 (s259 s283 : Fun) : Fun := fun a b => uc a fun a c => uz c (cl (s259 [a] b) fun b c => cT b fun d => cK (nth d 0) fun _ => cT b fun b => cK (nth b 1) fun b => ap (gsel b true a) fun d => gj b true (eqS d (.str 0 0) fun a => .norm [(.bool (bnot a))] c) c fun c d => cB b fun b => ap (sel b c (.bool false)) fun b => ap (gsel b true a) fun a => gj b true (cl (s283 [a, (.str 4 794508078)] d) fun a b => .norm [a] b) d fun a c => gj b true (bNot a fun a => .norm [a] c) c fun a c => cB b fun b => ap (sel b a (.bool false)) fun a => cK a fun a => .ret a c)
def g192 : Hint := (.s .z (.s .z (.s .z .z)))
theorem e192 (s259 s283 : Fun) : b192 s259 s283 = denF Tryz.prog (gam [(259, s259), (283, s283)]) Tryz.f192 g192 := by kernel_rfl
def s192 : Fun := b192 s259 s283
theorem F192 : Snd Tryz.prog 192 s192 := snd_of hmix (gcons F259 (gcons F283 gnil)) Tryz.func192 (by kernel_rfl) (by kernel_rfl) (e192 s259 s283)

/-- internal/stringslite.Index -/
def L436n0 (s376 : Fun) : List AV → Hp → Res := fun a b => uc a fun a c => uc c fun c d => uc d fun d e => uc e fun e f => uc f fun f g => uc g fun g h => uc h fun h i => uc i fun i _ => ltN g h fun j => ifB j (blk 2 (jn (sIdx a g fun j => eqN j e fun j => ifB (bnot j) (.fail) (.norm [a, c, d, e, f, g, h, i] b)) fun a b => uc a fun a c => uc c fun c d => uc d fun d e => uc e fun _ e => uc e fun e f => uc f fun f g => uc g fun _ g => uc g fun g _ => iAdd f (I 1) fun h => sIdx a h fun h => eqN h e fun e => ap (gsel (.bool e) true a) fun a => ap (gsel (.bool e) true f) fun h => ap (gsel (.bool e) true f) fun i => ap (gsel (.bool e) true d) fun j => gj (.bool e) true (iAdd i j fun a => .norm [a] b) b fun b i => gj (.bool e) true (cutT a (some h) (some b) fun a => .norm [a] i) i fun a b => ap (gsel (.bool e) true c) fun c => gj (.bool e) true (eqS a c fun a => .norm [(.bool a)] b) b fun a b => cB (.bool e) fun c => ap (sel c a (.bool false)) fun a => cB a fun a => ifB a (.fail) (iAdd f (I 1) fun a => iAdd g (I 1) fun c => ld1 b .unk fun e => ltN e d fun d => ap (gsel (.bool (bnot d)) true c) fun c => ap (gsel (.bool (bnot d)) true a) fun _ => gj (.bool (bnot d)) true (.fail) b fun a b => gj (.bool (bnot d)) true (ltN a c fun a => .norm [(.bool a)] b) b fun a _ => cB (.bool (bnot d)) fun b => ap (sel b a (.bool false)) fun a => cB a fun a => ifB a (.fail) (.fail))) fun a b => uc a fun a c => uc c fun c d => uc d fun d e => uc e fun e f => uc f fun f g => uc g fun g h => uc h fun h i => uc i fun i _ => .norm [a, c, d, e, f, g, h, i] b) (.exit 1 [] b)
def b436 (s376 : Fun) : Fun := fun a b => uc a fun a c => uc c fun c d => uz d (lenS c fun d => blk 0 (eqN d (I 0) fun e => ap (gsel (.bool e) false c) fun f => ap (gsel (.bool e) false a) fun g => gj (.bool e) false (eqS f g fun a => .norm [(.bool a)] b) b fun b f => cB (.bool e) fun e => ap (sel e (.bool true) b) fun b => cB b fun b => ifB b (.fail) (eqN d (I 1) fun b => ifB b (sIdx c (I 0) fun b => cl (s376 [a, b] f) fun a b => cK a fun a => .ret a b) (.fail))) fun a b => uc a fun a c => uc c fun c d => uc d fun d _ => sIdx c (I 0) fun e => sIdx c (I 1) fun f => lenS a fun g => iSub g d fun g => iAdd g (I 1) fun g => blk 1 (lp (L436n0 s376) most [a, c, d, e, f, (I 0), g, (I 0)] b) fun _ a => cK (.int 63 (.negSucc 0)) fun b => .ret b a)
def g436 : Hint := (.s .z (.s .z (.s (.b [0, 1, 5] (.s .z (.s .z (.s .z (.s (.s .z .z) .z))))) (.s .z (.s .z (.s .z (.s .z (.s .z (.s (.b [] (.l [0, 1, 5, 6, 7, 8, 9, 10] (.s (.s .z (.s .z .z)) (.b [0, 1, 5, 6, 7, 8, 9, 10] (.j [0, 1, 5, 6, 7, 8, 9, 10] (.s .z (.s .z .z)) (.s (.s .z (.s .z .z)) (.s .z (.s .z (.s .z (.s .z .z)))))))))) (.s .z .z))))))))))
theorem e436 (s376 : Fun) : b436 s376 = denF Tryz.prog (gam [(376, s376)]) Tryz.f436 g436 := by kernel_rfl
def s436 : Fun := b436 s376
theorem F436 : Snd Tryz.prog 436 s436 := snd_of hmix (gcons F376 gnil) Tryz.func436 (by kernel_rfl) (by kernel_rfl) (e436 s376)

/-- strings.Index -/
def b454 (s436 : Fun) : Fun := fun a b => uc a fun a c => uc c fun c d => uz d (cl (s436 [a, c] b) fun a b => cK a fun a => .ret a b)
def g454 : Hint := (.s .z (.s .z .z))
theorem e454 (s436 : Fun) : b454 s436 = denF Tryz.prog (gam [(436, s436)]) Tryz.f454 g454 := by kernel_rfl
def s454 : Fun := b454 s436
theorem F454 : Snd Tryz.prog 454 s454 := snd_of hmix (gcons F436 gnil) Tryz.func454 (by kernel_rfl) (by kernel_rfl) (e454 s436)

/-- internal/bytealg.CountString -/
def s506 : Fun := xCnt
theorem F506 : ESound Tryz.prog 506 s506 := xCnt_e Tryz.func506 (by kernel_rfl) (by kernel_rfl) (by kernel_rfl) (by kernel_rfl)

/-- strings.Count -/
def L452n0 (s454 s506 : Fun) : List AV → Hp → Res := fun a b => uc a fun a c => uc c fun c d => uc d fun d _ => blk 1 (cl (s454 [a, c] b) fun b e => eqN b (.int 63 (.negSucc 0)) fun f => ifB f (.fail) (iAdd d (I 1) fun d => lenS c fun f => iAdd b f fun b => cutT a (some b) none fun a => .norm [a, c, d] e)) fun a b => uc a fun a c => uc c fun c d => uc d fun d _ => .norm [a, c, d] b
def b452 (s454 s506 : Fun) : Fun := fun a b => uc a fun a c => uc c fun c d => uz d (lenS c fun d => eqN d (I 0) fun d => ifB d (.fail) (lenS c fun d => eqN d (I 1) fun d => ifB d (sIdx c (I 0) fun c => cl (s506 [a, c] b) fun a b => cK a fun a => .ret a b) (blk 0 (lp (L452n0 s454 s506) most [a, c, (I 0)] b) fun a b => uc a fun a _ => cK a fun a => .ret a b)))
def g452 : Hint := (.s .z (.s (.s .z (.s .z .z)) (.s (.s .z (.s (.s .z .z) .z)) (.s .z (.b [4] (.l [0, 1, 5] (.b [0, 1, 5] (.s .z (.s (.s .z (.s .z .z)) (.s .z .z))))))))))
theorem e452 (s454 s506 : Fun) : b452 s454 s506 = denF Tryz.prog (gam [(454, s454), (506, s506)]) Tryz.f452 g452 := by kernel_rfl
def s452 : Fun := b452 s454 s506
theorem F452 : Snd Tryz.prog 452 s452 := snd_of hmix (gcons F454 (gconsE F506 gnil)) Tryz.func452 (by kernel_rfl) (by kernel_rfl) (e452 s454 s506)

/-- strings.genSplit -/
def L410n0 (s452 s454 : Fun) : List AV → Hp → Res := fun a b => uc a fun a c => uc c fun c d => uc d fun d e => uc e fun e f => uc f fun f g => uc g fun g _ => ltN g e fun h => ifB h (blk 1 (cl (s454 [a, c] b) fun b h => ltN b (I 0) fun i => ifB i (.exit 0 [a, f, g] h) (iAdd b d fun i => cutT a none (some i) fun i => ixA 1 f g fun j => st1 h j i fun h => lenS c fun i => iAdd b i fun b => cutT a (some b) none fun a => iAdd g (I 1) fun b => .norm [a, c, d, e, f, b] h)) fun a b => uc a fun a c => uc c fun c d => uc d fun d e => uc e fun e f => uc f fun f g => uc g fun g _ => .norm [a, c, d, e, f, g] b) (.exit 0 [a, f, g] b)
def b410 (s452 s454 : Fun) : Fun := fun a b => uc a fun a c => uc c fun c d => uc d fun d e => uc e fun e f => uz f (eqN e (I 0) fun f => ifB f (.fail) (eqS c (.str 0 0) fun f => ifB f (.fail) (jn (ltN e (I 0) fun f => ifB f (cl (s452 [a, c] b) fun b e => iAdd b (I 1) fun b => .norm [a, c, d, b] e) (.norm [a, c, d, e] b)) fun a b => uc a fun a c => uc c fun c d => uc d fun d e => uc e fun e _ => lenS a fun f => iAdd f (I 1) fun f => iMin e f fun e => mkM b (.cons (.str 0 0) .nil) 16 e e fun b f => iSub e (I 1) fun e => blk 0 (lp (L410n0 s452 s454) most [a, c, d, e, b, (I 0)] f) fun a b => uc a fun a c => uc c fun c d => uc d fun d _ => ixA 1 c d fun e => st1 b e a fun a => iAdd d (I 1) fun b => cutS 1 c none (some b) none fun b => cK b fun b => .ret b a)))
def g410 : Hint := (.s .z (.s (.s .z (.s .z .z)) (.s (.s .z (.s .z .z)) (.j [0, 1, 2, 3] (.s .z (.s .z .z)) (.s .z (.s .z (.s .z (.s .z (.s (.b [0, 9, 10] (.l [0, 1, 2, 3, 9, 10] (.s (.s .z (.s .z .z)) (.b [0, 1, 2, 3, 9, 10] (.s .z (.s (.s .z (.s .z .z)) (.s .z (.s .z .z)))))))) (.s .z (.s .z .z)))))))))))
theorem e410 (s452 s454 : Fun) : b410 s452 s454 = denF Tryz.prog (gam [(452, s452), (454, s454)]) Tryz.f410 g410 := by kernel_rfl
def s410 : Fun := b410 s452 s454
theorem F410 : Snd Tryz.prog 410 s410 := snd_of hmix (gcons F452 (gcons F454 gnil)) Tryz.func410 (by kernel_rfl) (by kernel_rfl) (e410 s452 s454)

/-- strings.Split -/
def b359 (s410 : Fun) : Fun := fun a b => uc a fun a c => uc c fun c d => uz d (cl (s410 [a, c, (I 0), (.int 63 (.negSucc 0))] b) fun a b => cK a fun a => .ret a b)
def g359 : Hint := (.s .z (.s .z .z))
theorem e359 (s410 : Fun) : b359 s410 = denF Tryz.prog (gam [(410, s410)]) Tryz.f359 g359 := by kernel_rfl
def s359 : Fun := b359 s410
theorem F359 : Snd Tryz.prog 359 s359 := snd_of hmix (gcons F410 gnil) Tryz.func359 (by kernel_rfl) (by kernel_rfl) (e359 s410)

/-- obelisk/names.Class -/
def L278n0 (s192 s359 : Fun) : List AV → Hp → Res := fun a b => uc a fun a c => uc c fun c d => uc d fun d e => uc e fun e _ => ltN e d fun f => ifB f (blk 1 (ixA 1 c e fun f => ld1 b f fun f => cl (s192 [f] b) fun b f => bNot b fun b => cB b fun b => ifB b (cK (.bool false) fun a => .ret a f) (.norm [a, c, d, e] f)) fun a b => uc a fun a c => uc c fun c d => uc d fun d e => uc e fun e _ => iAdd e (I 1) fun e => .norm [a, c, d, e] b) (.exit 0 [a] b)
def b278 (s192 s359 : Fun) : Fun := fun a b => uc a fun a c => uz c (cl (s359 [a, (.str 1 47)] b) fun b c => lenL b fun d => blk 0 (lp (L278n0 s192 s359) most [a, b, d, (I 0)] c) fun a b => uc a fun a _ => lenS a fun a => ltN (I 255) a fun a => cK (.bool (bnot a)) fun a => .ret a b)
def g278 : Hint := (.s .z (.s (.s .z (.b [0] (.l [0, 6, 7, 8] (.s .z (.s (.s .z .z) (.s (.b [0, 6, 7, 8] (.s .z (.s .z (.s (.s .z .z) .z)))) .z)))))) (.s .z .z)))
theorem e278 (s192 s359 : Fun) : b278 s192 s359 = denF Tryz.prog (gam [(192, s192), (359, s359)]) Tryz.f278 g278 := by kernel_rfl
def s278 : Fun := b278 s192 s359
theorem F278 : Snd Tryz.prog 278 s278 := snd_of hmix (gcons F192 (gcons F359 gnil)) Tryz.func278 (by kernel_rfl) (by kernel_rfl) (e278 s192 s359)

/-- internal/stringslite.Cut -/
def b377 (s436 : Fun) : Fun := fun a b => uc a fun a c => uc c fun c d => uz d (cl (s436 [a, c] b) fun b d => ltN b (I 0) fun e => ifB (bnot e) (cutT a none (some b) fun e => lenS c fun c => iAdd b c fun b => cutT a (some b) none fun a => cK e fun b => cK a fun a => cK (.bool true) fun c => .ret (.tup (.cons b (.cons a (.cons c .nil)))) d) (cK a fun a => cK (.str 0 0) fun b => cK (.bool false) fun c => .ret (.tup (.cons a (.cons b (.cons c .nil)))) d))
def g377 : Hint := (.s .z (.s (.s .z (.s .z (.s (.s (.r [0, 1, 2, 3, 4, 5, 6, 7, 8, 9, 10, 11]) .z) .z))) (.s .z .z)))
theorem e377 (s436 : Fun) : b377 s436 = denF Tryz.prog (gam [(436, s436)]) Tryz.f377 g377 := by kernel_rfl
def s377 : Fun := b377 s436
theorem F377 : Snd Tryz.prog 377 s377 := snd_of hmix (gcons F436 gnil) Tryz.func377 (by kernel_rfl) (by kernel_rfl) (e377 s436)

/-- strings.Cut -/
def b295 (s377 : Fun) : Fun := fun a b => uc a fun a c => uc c fun c d => uz d (cl (s377 [a, c] b) fun a b => cT a fun c => cK (nth c 0) fun c => cT a fun d => cK (nth d 1) fun d => cT a fun a => cK (nth a 2) fun a => cK c fun c => cK d fun d => cK a fun a => .ret (.tup (.cons c (.cons d (.cons a .nil)))) b)
def g295 : Hint := (.s .z (.s .z .z))
theorem e295 (s377 : Fun) : b295 s377 = denF Tryz.prog (gam [(377, s377)]) Tryz.f295 g295 := by kernel_rfl
def s295 : Fun := b295 s377
theorem F295 : Snd Tryz.prog 295 s295 := snd_of hmix (gcons F377 gnil) Tryz.func295 (by kernel_rfl) (by kernel_rfl) (e295 s377)

/-- obelisk/descr.one -/
def L212n0 (s278 s294 s295 : Fun) : List AV → Hp → Res := fun a b => uc a fun a c => uc c fun c d => uc d fun d _ => lenS a fun e => ltN d e fun e => ap (gsel (.bool e) true a) fun f => ap (gsel (.bool e) true d) fun g => gj (.bool e) true (sIdx f g fun a => .norm [a] b) b fun b f => gj (.bool e) true (eqN b (J 91) fun a => .norm [(.bool a)] f) f fun b f => cB (.bool e) fun e => ap (sel e b (.bool false)) fun b => cB b fun b => ifB b (blk 1 (iAdd d (I 1) fun b => .norm [a, c, b] f) fun a b => uc a fun a c => uc c fun c d => uc d fun d _ => .norm [a, c, d] b) (.exit 0 [a, c, d] f)
def b212 (s278 s294 s295 : Fun) : Fun := fun a b => uc a fun a c => uz c (mk b (.cons (J 0) (.cons (.str 0 0) (.cons (I 0) (.cons (J 0) .nil)))) fun b c => blk 0 (lp (L212n0 s278 s294 s295) most [a, b, (I 0)] c) fun a b => uc a fun a c => uc c fun c d => uc d fun d _ => ltN (I 255) d fun e => ap (gsel (.bool e) false d) fun f => ap (gsel (.bool e) false a) fun g => gj (.bool e) false (lenS g fun a => .norm [a] b) b fun b g => gj (.bool e) false (eqN f b fun a => .norm [(.bool a)] g) g fun b f => cB (.bool e) fun e => ap (sel e (.bool true) b) fun b => cB b fun b => ifB b (.fail) (sIdx a d fun b => bld [(false, 1, b), (false, 1, (.str 0 0)), (false, 1, (I 0)), (false, 1, (J 0))] fun b => iAdd d (I 1) fun e => mk f (.cons (J 0) (.cons (.str 0 0) (.cons (I 0) (.cons (J 0) .nil)))) fun f g => stN g 4 f (.agg b) fun b => blk 2 (fl 0 b f fun g => cl (s294 [(.str 6 99313775100738), g] b) fun b g => ltN b (I 0) fun b => ifB (bnot b) (.norm [c, d, f, e] g) (fl 0 g f fun b => eqN b (J 76) fun b => ifB b (cutT a (some e) none fun a => cl (s295 [a, (.str 1 59)] g) fun a b => cT a fun g => cK (nth g 0) fun g => cT a fun h => cK (nth h 1) fun _ => cT a fun a => cK (nth a 2) fun a => bNot a fun a => ap (gsel a false g) fun h => gj a false (cl (s278 [h] b) fun a b => .norm [a] b) b fun b h => gj a false (bNot b fun a => .norm [a] h) h fun b h => cB a fun a => ap (sel a (.bool true) b) fun a => cB a fun a => ifB a (bld [(false, 1, (J 0)), (false, 1, (.str 0 0)), (false, 1, (I 0)), (false, 1, (J 0))] fun a => stN h 4 c (.agg a) fun a => ldN a 4 c fun b => cK (I 0) fun c => .ret (.tup (.cons b (.cons c .nil))) a) (fa 1 f fun a => st1 h a g fun a => lenS g fun b => iAdd b (I 1) fun b => iAdd e b fun b => .norm [c, d, f, b] a)) (bld [(false, 1, (J 0)), (false, 1, (.str 0 0)), (false, 1, (I 0)), (false, 1, (J 0))] fun a => stN g 4 c (.agg a) fun a => ldN a 4 c fun b => cK (I 0) fun c => .ret (.tup (.cons b (.cons c .nil))) a))) fun a b => uc a fun a c => uc c fun c d => uc d fun d e => uc e fun e _ => jn (ltN (I 0) c fun f => ifB f (fl 0 b d fun f => fa 2 d fun g => st1 b g c fun b => fa 3 d fun c => st1 b c f fun b => fa 0 d fun c => st1 b c (J 91) fun b => .norm [a, d, e] b) (.norm [a, d, e] b)) fun a b => uc a fun a c => uc c fun c d => uc d fun d _ => ldN b 4 c fun c => stN b 4 a c fun b => ldN b 4 a fun a => cK d fun c => .ret (.tup (.cons a (.cons c .nil))) b))
def g212 : Hint := (.s .z (.s .z (.s (.b [0, 2, 4] (.l [0, 2, 4] (.s (.s .z (.s .z .z)) (.b [0, 2, 4] .z)))) (.s (.s .z (.s .z .z)) (.s .z (.s (.b [2, 4, 5, 6] (.s .z (.s .z (.s .z (.s (.s .z (.s (.s .z (.s (.s .z .z) .z)) (.s .z .z))) (.s .z .z)))))) (.j [2, 5, 6] (.s .z (.s .z .z)) (.s .z .z))))))))
theorem e212 (s278 s294 s295 : Fun) : b212 s278 s294 s295 = denF Tryz.prog (gam [(278, s278), (294, s294), (295, s295)]) Tryz.f212 g212 := by kernel_rfl
def s212 : Fun := b212 s278 s294 s295
theorem F212 : Snd Tryz.prog 212 s212 := snd_of hmix (gcons F278 (gcons F294 (gcons F295 gnil))) Tryz.func212 (by kernel_rfl) (by kernel_rfl) (e212 s278 s294 s295)

/-- obelisk/descr.Field -/
def b185 (s212 : Fun) : Fun := fun a b => uc a fun a c => uz c (mk b (.cons (J 0) (.cons (.str 0 0) (.cons (I 0) (.cons (J 0) .nil)))) fun b c => cl (s212 [a] c) fun c d => cT c fun e => cK (nth e 0) fun e => cT c fun c => cK (nth c 1) fun c => mk d (.cons (J 0) (.cons (.str 0 0) (.cons (I 0) (.cons (J 0) .nil)))) fun d f => stN f 4 d e fun e => eqN c (I 0) fun f => ap (gsel (.bool f) false c) fun c => ap (gsel (.bool f) false a) fun a => gj (.bool f) false (lenS a fun a => .norm [a] e) e fun a e => gj (.bool f) false (eqN c a fun a => .norm [(.bool (bnot a))] e) e fun a c => cB (.bool f) fun e => ap (sel e (.bool true) a) fun a => cB a fun a => ifB a (bld [(false, 1, (J 0)), (false, 1, (.str 0 0)), (false, 1, (I 0)), (false, 1, (J 0))] fun a => stN c 4 b (.agg a) fun a => ldN a 4 b fun b => cK (.bool false) fun c => .ret (.tup (.cons b (.cons c .nil))) a) (ldN c 4 d fun a => stN c 4 b a fun a => ldN a 4 b fun b => cK (.bool true) fun c => .ret (.tup (.cons b (.cons c .nil))) a))
def g185 : Hint := (.s .z (.s .z (.s (.s .z (.s (.s .z .z) .z)) (.s .z .z))))
theorem e185 (s212 : Fun) : b185 s212 = denF Tryz.prog (gam [(212, s212)]) Tryz.f185 g185 := by kernel_rfl
def s185 : Fun := b185 s212
theorem F185 : Snd Tryz.prog 185 s185 := snd_of hmix (gcons F212 gnil) Tryz.func185 (by kernel_rfl) (by kernel_rfl) (e185 s212)

/-- internal/stringslite.HasPrefix -/
def b293 : Fun := fun a b => uc a fun a c => uc c fun c d => uz d (lenS a fun d => lenS c fun e => ltN d e fun d => ap (gsel (.bool (bnot d)) true a) fun a => ap (gsel (.bool (bnot d)) true c) fun e => gj (.bool (bnot d)) true (lenS e fun a => .norm [a] b) b fun b e => gj (.bool (bnot d)) true (cutT a none (some b) fun a => .norm [a] e) e fun a b => ap (gsel (.bool (bnot d)) true c) fun c => gj (.bool (bnot d)) true (eqS a c fun a => .norm [(.bool a)] b) b fun a b => cB (.bool (bnot d)) fun c => ap (sel c a (.bool false)) fun a => cK a fun a => .ret a b)
def g293 : Hint := (.s .z (.s .z .z))
theorem e293 : b293 = denF Tryz.prog (gam []) Tryz.f293 g293 := by kernel_rfl
def s293 : Fun := b293
theorem F293 : Snd Tryz.prog 293 s293 := snd_of hmix gnil Tryz.func293 (by kernel_rfl) (by kernel_rfl) (e293)

/-- internal/stringslite.CutPrefix -/
def b292 (s293 : Fun) : Fun := fun a b => uc a fun a c => uc c fun c d => uz d (cl (s293 [a, c] b) fun b d => bNot b fun b => cB b fun b => ifB b (.fail) (lenS c fun b => cutT a (some b) none fun a => cK a fun a => cK (.bool true) fun b => .ret (.tup (.cons a (.cons b .nil))) d))
def g292 : Hint := (.s .z (.s (.s .z (.s .z .z)) (.s .z .z)))
theorem e292 (s293 : Fun) : b292 s293 = denF Tryz.prog (gam [(293, s293)]) Tryz.f292 g292 := by kernel_rfl
def s292 : Fun := b292 s293
theorem F292 : Snd Tryz.prog 292 s292 := snd_of hmix (gcons F293 gnil) Tryz.func292 (by kernel_rfl) (by kernel_rfl) (e292 s293)

/-- strings.CutPrefix -/
def b210 (s292 : Fun) : Fun := fun a b => uc a fun a c => uc c fun c d => uz d (cl (s292 [a, c] b) fun a b => cT a fun c => cK (nth c 0) fun c => cT a fun a => cK (nth a 1) fun a => cK c fun c => cK a fun a => .ret (.tup (.cons c (.cons a .nil))) b)
def g210 : Hint := (.s .z (.s .z .z))
theorem e210 (s292 : Fun) : b210 s292 = denF Tryz.prog (gam [(292, s292)]) Tryz.f210 g210 := by kernel_rfl
def s210 : Fun := b210 s292
theorem F210 : Snd Tryz.prog 210 s210 := snd_of hmix (gcons F292 gnil) Tryz.func210 (by kernel_rfl) (by kernel_rfl) (e210 s292)

/-- strings.HasPrefix -/
def b211 (s293 : Fun) : Fun := fun a b => uc a fun a c => uc c fun c d => uz d (cl (s293 [a, c] b) fun a b => cK a fun a => .ret a b)
def g211 : Hint := (.s .z (.s .z .z))
theorem e211 (s293 : Fun) : b211 s293 = denF Tryz.prog (gam [(293, s293)]) Tryz.f211 g211 := by kernel_rfl
def s211 : Fun := b211 s293
theorem F211 : Snd Tryz.prog 211 s211 := snd_of hmix (gcons F293 gnil) Tryz.func211 (by kernel_rfl) (by kernel_rfl) (e211 s293)

/-- obelisk/descr.Method -/
def L120n0 (s185 s210 s211 s212 : Fun) : List AV → Hp → Res := fun a b => uc a fun a c => uc c fun c d => uc d fun d _ => cl (s211 [a, (.str 1 41)] b) fun b e => bNot b fun b => cB b fun b => ifB b (blk 1 (cl (s212 [a] e) fun b e => cT b fun f => cK (nth f 0) fun f => cT b fun b => cK (nth b 1) fun b => mk e (.cons (J 0) (.cons (.str 0 0) (.cons (I 0) (.cons (J 0) .nil)))) fun e g => stN g 4 e f fun f => eqN b (I 0) fun g => ifB g (.fail) (ldN f 4 e fun e => bld [(true, 4, e)] fun e => mkS f 4 1 e fun e f => apd f 4 40 d e fun d e => cutT a (some b) none fun a => .norm [a, c, d] e)) fun a b => uc a fun a c => uc c fun c d => uc d fun d _ => .norm [a, c, d] b) (.exit 0 [a, c, d] e)
def b120 (s185 s210 s211 s212 : Fun) : Fun := fun a b => uc a fun a c => uz c (mk b (.cons (J 0) (.cons (.str 0 0) (.cons (I 0) (.cons (J 0) .nil)))) fun b c => cl (s210 [a, (.str 1 40)] c) fun a c => cT a fun d => cK (nth d 0) fun d => cT a fun a => cK (nth a 1) fun a => bNot a fun a => cB a fun a => ifB a (.fail) (blk 0 (lp (L120n0 s185 s210 s211 s212) most [d, b, .nils] c) fun a b => uc a fun a c => uc c fun c d => uc d fun d _ => eqS a (.str 2 22057) fun e => ifB e (bld [(false, 1, (J 86)), (false, 1, (.str 0 0)), (false, 1, (I 0)), (false, 1, (J 0))] fun a => stN b 4 c (.agg a) fun a => cK d fun b => ldN a 4 c fun c => cK (.bool true) fun d => .ret (.tup (.cons b (.cons c (.cons d .nil)))) a) (cutT a (some (I 1)) none fun a => cl (s185 [a] b) fun a b => cT a fun e => cK (nth e 0) fun e => cT a fun a => cK (nth a 1) fun a => mk b (.cons (J 0) (.cons (.str 0 0) (.cons (I 0) (.cons (J 0) .nil)))) fun b f => stN f 4 b e fun e => bNot a fun a => cB a fun a => ifB a (.fail) (ldN e 4 b fun a => stN e 4 c a fun a => cK d fun b => ldN a 4 c fun c => cK (.bool true) fun d => .ret (.tup (.cons b (.cons c (.cons d .nil)))) a))))
def g120 : Hint := (.s .z (.s .z (.s (.s .z (.s .z .z)) (.s .z (.s (.b [0, 3, 6] (.l [0, 3, 6] (.s (.s .z (.s .z .z)) (.b [0, 3, 6] (.s .z (.s (.s .z (.s .z .z)) (.s .z .z))))))) (.s (.s .z (.s (.s .z .z) .z)) (.s .z (.s (.s .z (.s .z .z)) (.s (.r [0, 1, 2, 3, 4]) .z)))))))))
theorem e120 (s185 s210 s211 s212 : Fun) : b120 s185 s210 s211 s212 = denF Tryz.prog (gam [(185, s185), (210, s210), (211, s211), (212, s212)]) Tryz.f120 g120 := by kernel_rfl
def s120 : Fun := b120 s185 s210 s211 s212
theorem F120 : Snd Tryz.prog 120 s120 := snd_of hmix (gcons F185 (gcons F210 (gcons F211 (gcons F212 gnil)))) Tryz.func120 (by kernel_rfl) (by kernel_rfl) (e120 s185 s210 s211 s212)

/-- obelisk/assign.Sub -/
def b226 (s97 s278 s290 : Fun) : Fun := fun a b => uc a fun a c => uc c fun c d => uc d fun d e => uz e (eqS c d fun e => ap (gsel (.bool e) false c) fun f => gj (.bool e) false (cl (s278 [f] b) fun a b => .norm [a] b) b fun b f => ap (gsel (.bool e) false b) fun b => ap (gsel b true d) fun g => gj b true (eqS g (.str 16 154706541852025644484233205990057992554) fun a => .norm [(.bool a)] f) f fun f g => gj (.bool e) false (cB b fun a => ap (sel a f (.bool false)) fun a => .norm [a] g) g fun b f => cB (.bool e) fun e => ap (sel e (.bool true) b) fun b => ap (gsel b false a) fun a => ap (gsel b false c) fun c => gj b false (cl (s290 [a, c] f) fun a b => .norm [a] b) f fun a c => ap (gsel b false d) fun d => gj b false (cl (s97 [a, d] c) fun a b => .norm [a] b) c fun a c => cB b fun b => ap (sel b (.bool true) a) fun a => cK a fun a => .ret a c)
def g226 : Hint := (.s .z (.s .z .z))
theorem e226 (s97 s278 s290 : Fun) : b226 s97 s278 s290 = denF Tryz.prog (gam [(97, s97), (278, s278), (290, s290)]) Tryz.f226 g226 := by kernel_rfl
def s226 : Fun := b226 s97 s278 s290
theorem F226 : Snd Tryz.prog 226 s226 := snd_of hmix (gcons F97 (gcons F278 (gcons F290 gnil))) Tryz.func226 (by kernel_rfl) (by kernel_rfl) (e226 s97 s278 s290)

/-- obelisk/descr.Named -/
def b264 : Fun := fun a b => uc a fun a c => uz c (mk b (cells a) fun a b => fl 0 b a fun c => eqN c (J 76) fun c => ifB c (fl 1 b a fun a => cK a fun a => .ret a b) (ldN b 4 a fun _ => .fail))
def g264 : Hint := (.s .z (.s (.s .z (.s (.s .z .z) .z)) (.s .z .z)))
theorem e264 : b264 = denF Tryz.prog (gam []) Tryz.f264 g264 := by kernel_rfl
def s264 : Fun := b264
theorem F264 : Snd Tryz.prog 264 s264 := snd_of hmix gnil Tryz.func264 (by kernel_rfl) (by kernel_rfl) (e264)

/-- obelisk/vframe.Of -/
def b471 (s264 : Fun) : Fun := fun a b => uc a fun a c => uz c (mk b (cells a) fun a b => mk b (.cons (I 0) (.cons (.str 0 0) (.cons (I 0) .nil))) fun b c => fl 0 c a fun d => blk 0 (jn (eqN d (J 66) fun e => ifB e (.norm [a, b, d, (.bool e)] c) (eqN d (J 67) fun e => ifB e (.norm [a, b, d, (.bool e)] c) (eqN d (J 83) fun e => ifB e (.norm [a, b, d, (.bool e)] c) (eqN d (J 90) fun e => ifB e (.norm [a, b, d, (.bool e)] c) (eqN d (J 73) fun e => .norm [a, b, d, (.bool e)] c))))) fun a b => uc a fun a c => uc c fun c d => uc d fun d e => uc e fun e _ => cB e fun e => ifB e (bld [(false, 1, (I 1)), (false, 1, (.str 0 0)), (false, 1, (I 0))] fun a => stN b 3 c (.agg a) fun a => ldN a 3 c fun b => .ret b a) (eqN d (J 74) fun e => ifB e (.fail) (jn (eqN d (J 76) fun e => ifB e (.norm [a, c, (.bool e)] b) (eqN d (J 91) fun d => .norm [a, c, (.bool d)] b)) fun a b => uc a fun _ a => uc a fun a c => uc c fun c _ => cB c fun c => ifB c (.fail) (.norm [a] b)))) fun a b => uc a fun a _ => bld [(false, 1, (I 0)), (false, 1, (.str 0 0)), (false, 1, (I 0))] fun c => stN b 3 a (.agg c) fun b => ldN b 3 a fun a => .ret a b)
def g471 : Hint := (.s .z (.s (.s .z (.b [2] (.j [1, 2, 4, 5] (.s .z (.s .z (.s .z (.s .z (.s .z (.s .z (.s .z (.s .z .z)))))))) (.s (.s .z .z) (.s .z (.s .z (.j [1, 2, 15] (.s .z (.s .z .z)) (.s .z .z)))))))) (.s .z .z)))
theorem e471 (s264 : Fun) : b471 s264 = denF Tryz.prog (gam [(264, s264)]) Tryz.f471 g471 := by kernel_rfl
def s471 : Fun := b471 s264
theorem F471 : Snd Tryz.prog 471 s471 := snd_of hmix (gcons F264 gnil) Tryz.func471 (by kernel_rfl) (by kernel_rfl) (e471 s264)

/-- obelisk/vframe.Start -/
def L417n0 (s120 s471 : Fun) : List AV → Hp → Res := fun a b => uc a fun a c => uc c fun c d => uc d fun d e => uc e fun e f => uc f fun f g => uc g fun g _ => ltN g f fun h => ifB h (blk 2 (ixA 4 e g fun h => ldN b 4 h fun h => mk b (.cons (J 0) (.cons (.str 0 0) (.cons (I 0) (.cons (J 0) .nil)))) fun b i => stN i 4 b h fun h => ldN h 4 b fun i => cl (s471 [i] h) fun h i => bld [(true, 3, h)] fun h => mkS i 3 1 h fun h i => apd i 3 32 d h fun d h => fl 0 h b fun b => eqN b (J 74) fun b => ifB b (bld [(false, 1, (I 0)), (false, 1, (.str 0 0)), (false, 1, (I 0))] fun b => bld [(true, 3, (.agg b))] fun b => mkS h 3 1 b fun b h => apd h 3 32 d b fun b d => .norm [a, c, b, e, f, g] d) (.norm [a, c, d, e, f, g] h)) fun a b => uc a fun a c => uc c fun c d => uc d fun d e => uc e fun e f => uc f fun f g => uc g fun g _ => iAdd g (I 1) fun g => .norm [a, c, d, e, f, g] b) (.exit 1 [a, c, d] b)
def b417 (s120 s471 : Fun) : Fun := fun a b => uc a fun a c => uc c fun c d => uz d (mk b (cells c) fun b c => mk c (.cons (I 0) (.cons .nils (.cons .nils .nil))) fun c d => fl 2 d b fun e => cl (s120 [e] d) fun d e => cT d fun f => cK (nth f 0) fun f => cT d fun g => cK (nth g 1) fun g => cT d fun d => cK (nth d 2) fun d => mk e (.cons (J 0) (.cons (.str 0 0) (.cons (I 0) (.cons (J 0) .nil)))) fun e h => stN h 4 e g fun e => eqP a .nilp fun g => gj (.bool g) false (fa 3 b fun a => .norm [a] e) e fun e h => gj (.bool g) false (ld1 h e fun a => .norm [a] h) h fun e h => gj (.bool g) false (bNot e fun a => .norm [a] h) h fun e h => cB (.bool g) fun g => ap (sel g (.bool true) e) fun e => ap (gsel e false d) fun d => gj e false (bNot d fun a => .norm [a] h) h fun d g => cB e fun e => ap (sel e (.bool true) d) fun d => cB d fun d => ifB d (.fail) (blk 0 (fl 0 g b fun d => iAnd d (I 8) fun d => eqN d (I 0) fun d => ifB (bnot d) (.norm [b, c, f, .nils] g) (fl 1 g b fun d => eqS d (.str 6 68669705972028) fun d => ifB d (bld [(false, 1, (I 6)), (false, 1, (.str 0 0)), (false, 1, (I 0))] fun a => bld [(true, 3, (.agg a))] fun a => mkS g 3 1 a fun a d => apd d 3 32 .nils a fun a d => .norm [b, c, f, a] d) (nl 3 g a fun a => bld [(false, 1, (I 7)), (false, 1, a), (false, 1, (I 0))] fun a => bld [(true, 3, (.agg a))] fun a => mkS g 3 1 a fun a d => apd d 3 32 .nils a fun a d => .norm [b, c, f, a] d))) fun a b => uc a fun a c => uc c fun c d => uc d fun d e => uc e fun e _ => lenL d fun f => blk 1 (lp (L417n0 s120 s471) most [a, c, e, d, f, (I 0)] b) fun a b => uc a fun a c => uc c fun c d => uc d fun d _ => fa 4 a fun a => fl 1 b a fun a => ltN (I 300) a fun e => ap (gsel (.bool e) false d) fun f => gj (.bool e) false (lenL f fun a => .norm [a] b) b fun b f => ap (gsel (.bool e) false a) fun g => gj (.bool e) false (ltN g b fun a => .norm [(.bool a)] f) f fun b f => cB (.bool e) fun e => ap (sel e (.bool true) b) fun b => cB b fun b => ifB b (.fail) (lenL d fun b => iSub a b fun a => apdZ f 3 32 (.cons (I 0) (.cons (.str 0 0) (.cons (I 0) .nil))) d a fun a b => bld [(false, 1, (I 0)), (false, 1, a), (false, 1, .nils)] fun a => stN b 3 c (.agg a) fun a => ldN a 3 c fun b => cK (.bool true) fun c => .ret (.tup (.cons b (.cons c .nil))) a)))
def g417 : Hint := (.s .z (.s .z (.s (.s .z (.s .z .z)) (.s .z (.s (.b [3, 4, 6, 9] (.s .z (.s .z (.s .z (.s .z .z))))) (.s (.s .z (.b [3, 4, 9] (.l [3, 4, 9, 53, 54, 55] (.s .z (.s (.s .z .z) (.s (.b [3, 4, 9, 53, 54, 55] (.s .z (.s .z (.s .z (.s .z .z))))) .z)))))) (.s .z (.s (.s .z (.s .z .z)) (.s .z .z)))))))))
theorem e417 (s120 s471 : Fun) : b417 s120 s471 = denF Tryz.prog (gam [(120, s120), (471, s471)]) Tryz.f417 g417 := by kernel_rfl
def s417 : Fun := b417 s120 s471
theorem F417 : Snd Tryz.prog 417 s417 := snd_of hmix (gcons F120 (gcons F471 gnil)) Tryz.func417 (by kernel_rfl) (by kernel_rfl) (e417 s120 s471)

/-- obelisk/stackmap.tight -/
def L472n0 : List AV → Hp → Res := fun a b => uc a fun a c => uc c fun c d => uc d fun d _ => lenL a fun e => ltN d e fun e => ifB e (blk 1 (ixA 3 a d fun e => ldN b 3 e fun e => bld [(true, 3, e)] fun e => mkS b 3 1 e fun b e => apd e 3 32 c b fun b c => ixA 3 a d fun e => fl 0 c e fun e => eqN e (I 4) fun e => ifB e (iAdd d (I 1) fun d => .norm [a, b, d] c) (.norm [a, b, d] c)) fun a b => uc a fun a c => uc c fun c d => uc d fun d _ => iAdd d (I 1) fun d => .norm [a, c, d] b) (.exit 0 [c] b)
def b472 : Fun := fun a b => uc a fun a c => uz c (blk 0 (lp L472n0 most [a, .nils, (I 0)] b) fun a b => uc a fun a _ => cK a fun a => .ret a b)
def g472 : Hint := (.s .z (.s .z (.s (.s .z (.b [3] (.l [0, 3, 4] (.s (.s .z (.s .z .z)) (.s (.b [0, 3, 4] (.s .z (.s .z (.s .z .z)))) .z))))) (.s .z .z))))
theorem e472 : b472 = denF Tryz.prog (gam []) Tryz.f472 g472 := by kernel_rfl
def s472 : Fun := b472
theorem F472 : Snd Tryz.prog 472 s472 := snd_of hmix gnil Tryz.func472 (by kernel_rfl) (by kernel_rfl) (e472)

/-- obelisk/stackmap.bare -/
def L473n0 : List AV → Hp → Res := fun a b => uc a fun a _ => lenL a fun c => ltN (I 0) c fun c => ap (gsel (.bool c) true a) fun d => ap (gsel (.bool c) true a) fun e => gj (.bool c) true (lenL e fun a => .norm [a] b) b fun b e => gj (.bool c) true (iSub b (I 1) fun a => .norm [a] e) e fun b e => gj (.bool c) true (ixA 3 d b fun a => .norm [a] e) e fun b d => gj (.bool c) true (fa 0 b fun a => .norm [a] d) d fun b d => gj (.bool c) true (ld1 d b fun a => .norm [a] d) d fun b d => gj (.bool c) true (eqN b (I 0) fun a => .norm [(.bool a)] d) d fun b d => cB (.bool c) fun c => ap (sel c b (.bool false)) fun b => cB b fun b => ifB b (blk 1 (lenL a fun b => iSub b (I 1) fun b => cutS 3 a none (some b) none fun a => .norm [a] d) fun a b => uc a fun a _ => .norm [a] b) (.exit 0 [a] d)
def b473 : Fun := fun a b => uc a fun a c => uz c (blk 0 (lp L473n0 most [a] b) fun a b => uc a fun a _ => cK a fun a => .ret a b)
def g473 : Hint := (.s .z (.s (.b [0] (.l [0] (.s (.s .z (.s .z .z)) (.b [0] .z)))) (.s .z .z)))
theorem e473 : b473 = denF Tryz.prog (gam []) Tryz.f473 g473 := by kernel_rfl
def s473 : Fun := b473
theorem F473 : Snd Tryz.prog 473 s473 := snd_of hmix gnil Tryz.func473 (by kernel_rfl) (by kernel_rfl) (e473)

/-- obelisk/cpool.tag -/
def b279 : Fun := fun a b => uc a fun a c => uc c fun c d => uc d fun d e => uz e (ltN (I 0) c fun e => ap (gsel (.bool e) true c) fun f => ap (gsel (.bool e) true a) fun g => gj (.bool e) true (lenL g fun a => .norm [a] b) b fun b g => gj (.bool e) true (ltN f b fun a => .norm [(.bool a)] g) g fun b f => cB (.bool e) fun e => ap (sel e b (.bool false)) fun b => ap (gsel b true a) fun a => ap (gsel b true c) fun c => gj b true (ixA 5 a c fun a => .norm [a] f) f fun a c => gj b true (fa 0 a fun a => .norm [a] c) c fun a c => gj b true (ld1 c a fun a => .norm [a] c) c fun a c => ap (gsel b true d) fun d => gj b true (eqN a d fun a => .norm [(.bool a)] c) c fun a c => cB b fun b => ap (sel b a (.bool false)) fun a => cK a fun a => .ret a c)
def g279 : Hint := (.s .z (.s .z .z))
theorem e279 : b279 = denF Tryz.prog (gam []) Tryz.f279 g279 := by kernel_rfl
def s279 : Fun := b279
theorem F279 : Snd Tryz.prog 279 s279 := snd_of hmix gnil Tryz.func279 (by kernel_rfl) (by kernel_rfl) (e279)

/-- obelisk/cpool.Text -/
def b277 (s279 : Fun) : Fun := fun a b => uc a fun a c => uc c fun c d => uz d (cl (s279 [a, c, (I 1)] b) fun b d => bNot b fun b => cB b fun b => ifB b (.fail) (ixA 5 a c fun a => fl 1 d a fun a => cK a fun a => cK (.bool true) fun b => .ret (.tup (.cons a (.cons b .nil))) d))
def g277 : Hint := (.s .z (.s (.s .z (.s .z .z)) (.s .z .z)))
theorem e277 (s279 : Fun) : b277 s279 = denF Tryz.prog (gam [(279, s279)]) Tryz.f277 g277 := by kernel_rfl
def s277 : Fun := b277 s279
theorem F277 : Snd Tryz.prog 277 s277 := snd_of hmix (gcons F279 gnil) Tryz.func277 (by kernel_rfl) (by kernel_rfl) (e277 s279)

/-- obelisk/cpool.Class -/
def b223 (s277 s279 : Fun) : Fun := fun a b => uc a fun a c => uc c fun c d => uz d (cl (s279 [a, c, (I 7)] b) fun b d => bNot b fun b => cB b fun b => ifB b (cK (.str 0 0) fun a => cK (.bool false) fun b => .ret (.tup (.cons a (.cons b .nil))) d) (ixA 5 a c fun b => fl 3 d b fun b => cl (s277 [a, b] d) fun a b => cT a fun c => cK (nth c 0) fun c => cT a fun a => cK (nth a 1) fun a => cK c fun c => cK a fun a => .ret (.tup (.cons c (.cons a .nil))) b))
def g223 : Hint := (.s .z (.s (.s .z (.s (.s .z .z) .z)) (.s .z .z)))
theorem e223 (s277 s279 : Fun) : b223 s277 s279 = denF Tryz.prog (gam [(277, s277), (279, s279)]) Tryz.f223 g223 := by kernel_rfl
def s223 : Fun := b223 s277 s279
theorem F223 : Snd Tryz.prog 223 s223 := snd_of hmix (gcons F277 (gcons F279 gnil)) Tryz.func223 (by kernel_rfl) (by kernel_rfl) (e223 s277 s279)

/-- obelisk/stackmap.named -/
def L474n0 (s223 : Fun) : List AV → Hp → Res := fun a b => uc a fun a c => uc c fun c d => uc d fun d e => uc e fun e f => uc f fun f _ => ltN f e fun g => ifB g (blk 1 (ixA 3 d f fun g => ldN b 3 g fun g => mk b (.cons (I 0) (.cons (.str 0 0) (.cons (I 0) .nil))) fun b h => stN h 3 b g fun g => jn (fl 0 g b fun h => eqN h (I 7) fun h => ifB h (fl 2 g b fun h => cl (s223 [a, h] g) fun g h => cT g fun i => cK (nth i 0) fun i => cT g fun g => cK (nth g 1) fun _ => fa 1 b fun g => st1 h g i fun g => fa 2 b fun h => st1 g h (I 0) fun g => .norm [a, c, b, d, e, f] g) (.norm [a, c, b, d, e, f] g)) fun a b => uc a fun a c => uc c fun c d => uc d fun d e => uc e fun e f => uc f fun f g => uc g fun g _ => ldN b 3 d fun d => bld [(true, 3, d)] fun d => mkS b 3 1 d fun b d => apd d 3 32 c b fun b c => .norm [a, b, e, f, g] c) fun a b => uc a fun a c => uc c fun c d => uc d fun d e => uc e fun e f => uc f fun f _ => iAdd f (I 1) fun f => .norm [a, c, d, e, f] b) (.exit 0 [c] b)
def b474 (s223 : Fun) : Fun := fun a b => uc a fun a c => uc c fun c d => uz d (lenL a fun d => blk 0 (lp (L474n0 s223) most [c, .nils, a, d, (I 0)] b) fun a b => uc a fun a _ => cK a fun a => .ret a b)
def g474 : Hint := (.s .z (.s .z (.s (.s .z (.b [5] (.l [1, 5, 8, 9, 10] (.s .z (.s (.s .z .z) (.s (.b [1, 5, 8, 9, 10] (.s .z (.j [1, 5, 7, 8, 9, 10] (.s .z (.s (.s .z .z) .z)) .z))) .z)))))) (.s .z .z))))
theorem e474 (s223 : Fun) : b474 s223 = denF Tryz.prog (gam [(223, s223)]) Tryz.f474 g474 := by kernel_rfl
def s474 : Fun := b474 s223
theorem F474 : Snd Tryz.prog 474 s474 := snd_of hmix (gcons F223 gnil) Tryz.func474 (by kernel_rfl) (by kernel_rfl) (e474 s223)

/-- obelisk/stackmap.spread -/
def L475n0 : List AV → Hp → Res := fun a b => uc a fun a c => uc c fun c d => uc d fun d e => uc e fun e _ => ltN e d fun f => ifB f (blk 1 (ixA 3 c e fun f => ldN b 3 f fun f => mk b (.cons (I 0) (.cons (.str 0 0) (.cons (I 0) .nil))) fun b g => stN g 3 b f fun f => ldN f 3 b fun g => bld [(true, 3, g)] fun g => mkS f 3 1 g fun f g => apd g 3 32 a f fun a f => fl 0 f b fun b => eqN b (I 4) fun b => ifB b (bld [(false, 1, (I 0)), (false, 1, (.str 0 0)), (false, 1, (I 0))] fun b => bld [(true, 3, (.agg b))] fun b => mkS f 3 1 b fun b f => apd f 3 32 a b fun a b => .norm [a, c, d, e] b) (.norm [a, c, d, e] f)) fun a b => uc a fun a c => uc c fun c d => uc d fun d e => uc e fun e _ => iAdd e (I 1) fun e => .norm [a, c, d, e] b) (.exit 0 [a] b)
def b475 : Fun := fun a b => uc a fun a c => uz c (lenL a fun c => blk 0 (lp L475n0 most [.nils, a, c, (I 0)] b) fun a b => uc a fun a _ => cK a fun a => .ret a b)
def g475 : Hint := (.s .z (.s .z (.s (.s .z (.b [3] (.l [3, 6, 7, 8] (.s .z (.s (.s .z .z) (.s (.b [3, 6, 7, 8] (.s .z (.s .z (.s .z (.s .z .z))))) .z)))))) (.s .z .z))))
theorem e475 : b475 = denF Tryz.prog (gam []) Tryz.f475 g475 := by kernel_rfl
def s475 : Fun := b475
theorem F475 : Snd Tryz.prog 475 s475 := snd_of hmix gnil Tryz.func475 (by kernel_rfl) (by kernel_rfl) (e475)

/-- obelisk/stackmap.words -/
def b476 (s475 : Fun) : Fun := fun a b => uc a fun a c => uz c (cl (s475 [a] b) fun a b => lenL a fun a => cK a fun a => .ret a b)
def g476 : Hint := (.s .z (.s .z .z))
theorem e476 (s475 : Fun) : b476 s475 = denF Tryz.prog (gam [(475, s475)]) Tryz.f476 g476 := by kernel_rfl
def s476 : Fun := b476 s475
theorem F476 : Snd Tryz.prog 476 s476 := snd_of hmix (gcons F475 gnil) Tryz.func476 (by kernel_rfl) (by kernel_rfl) (e476 s475)

/-- obelisk/stackmap.Frames -/
def L418n0 (s472 s473 s474 s475 s476 : Fun) : List AV → Hp → Res := fun a b => uc a fun a c => uc c fun c d => uc d fun d e => uc e fun e f => uc f fun f g => uc g fun g h => uc h fun h i => uc i fun i j => uc j fun j _ => ltN j i fun k => ifB k (blk 1 (ixA 4 h j fun k => ldN b 4 k fun k => mk b (.cons (I 0) (.cons (I 0) (.cons .nils (.cons .nils .nil)))) fun b l => stN l 4 b k fun k => fl 1 k b fun l => iAdd l (I 1) fun l => iAdd g l fun g => blk 2 (fl 0 k b fun l => ltN l (I 248) fun l => gj (.bool (bnot l)) true (fa 0 b fun a => .norm [a] k) k fun k m => gj (.bool (bnot l)) true (ld1 m k fun a => .norm [a] m) m fun k m => gj (.bool (bnot l)) true (ltN k (I 251) fun a => .norm [(.bool a)] m) m fun k m => cB (.bool (bnot l)) fun l => ap (sel l k (.bool false)) fun k => cB k fun k => ifB k (.fail) (fl 0 m b fun k => ltN (I 251) k fun k => gj (.bool k) true (fa 0 b fun a => .norm [a] m) m fun l m => gj (.bool k) true (ld1 m l fun a => .norm [a] m) m fun l m => gj (.bool k) true (ltN l (I 255) fun a => .norm [(.bool a)] m) m fun l m => cB (.bool k) fun k => ap (sel k l (.bool false)) fun k => cB k fun k => ifB k (.fail) (fl 0 m b fun k => eqN k (I 255) fun k => ifB k (fl 2 m b fun e => cl (s474 [e, a] m) fun e k => .norm [a, c, d, e, f, g, b, h, i, j] k) (.norm [a, c, d, e, f, g, b, h, i, j] m)))) fun a b => uc a fun a c => uc c fun c d => uc d fun d e => uc e fun e f => uc f fun f g => uc g fun g h => uc h fun h i => uc i fun i j => uc j fun j k => uc k fun k _ => nm (.norm [g] b) fun l _ => nm (.norm [e] b) fun m _ => nm (fa 3 h fun a => .norm [a] b) fun h _ => nm (ld1 b h fun a => .norm [a] b) fun n _ => nm (.norm [a] b) fun o _ => nm (.norm [(.cons (I 0) (.cons .nils (.cons .nils .nil)))] b) fun p _ => lay p .e 0 fun p q => ifB true (rsv b fun b r => nm (ld1 r h fun a => .norm [a] r) fun s _ => same n s (nm (cl (s475 [m] r) fun a b => .norm [a] b) fun m r => nm (ld1 r h fun a => .norm [a] r) fun h _ => same n h (nm (cl (s474 [n, o] r) fun a b => .norm [a] b) fun h n => nm (bld [(false, 1, l), (false, 1, m), (false, 1, h)] fun a => .norm [(.agg a)] n) fun h _ => dueK n b q p fun l => nm (stN l 3 (.ptr b 0) h fun a => .norm [(.tup .nil)] a) fun _ h => fl 1 h (.ptr b 0) fun l => lenL l fun l => ltN c l fun l => gj (.bool l) false (fa 2 (.ptr b 0) fun a => .norm [a] h) h fun h m => gj (.bool l) false (ld1 m h fun a => .norm [a] m) m fun h m => gj (.bool l) false (cl (s476 [h] m) fun a b => .norm [a] b) m fun h m => ap (gsel (.bool l) false d) fun n => gj (.bool l) false (ltN n h fun a => .norm [(.bool a)] m) m fun h m => cB (.bool l) fun l => ap (sel l (.bool true) h) fun h => cB h fun h => ifB h (.fail) (fl 1 m (.ptr b 0) fun h => fl 1 m (.ptr b 0) fun l => lenL l fun l => iSub c l fun l => apdZ m 3 32 (.cons (I 0) (.cons (.str 0 0) (.cons (I 0) .nil))) h l fun h l => fa 1 (.ptr b 0) fun m => st1 l m h fun h => ldN h 3 (.ptr b 0) fun b => bld [(true, 3, b)] fun b => mkS h 3 1 b fun b h => apd h 3 56 f b fun b f => .norm [a, c, d, e, b, g, i, j, k] f)))) .fail) fun a b => uc a fun a c => uc c fun c d => uc d fun d e => uc e fun e f => uc f fun f g => uc g fun g h => uc h fun h i => uc i fun i j => uc j fun j _ => iAdd j (I 1) fun j => .norm [a, c, d, e, f, g, h, i, j] b) (.exit 0 [f] b)
def b418 (s472 s473 s474 s475 s476 : Fun) : Fun := fun a b => uc a fun a c => uc c fun c d => uc d fun d e => uc e fun e f => uc f fun f g => uz g (mk b (cells a) fun a b => fl 1 b a fun a => cl (s473 [a] b) fun a b => cl (s472 [a] b) fun a b => lenL c fun g => blk 0 (lp (L418n0 s472 s473 s474 s475 s476) most [d, e, f, a, .nils, (.int 63 (.negSucc 0)), c, g, (I 0)] b) fun a b => uc a fun a _ => cK a fun a => cK (.bool true) fun c => .ret (.tup (.cons a (.cons c .nil))) b)
def g418 : Hint := (.s .z (.s .z (.s .z (.s .z (.s (.s .z (.b [13] (.l [2, 3, 4, 12, 13, 14, 23, 24, 25] (.s .z (.s (.s .z .z) (.s (.b [2, 3, 4, 12, 13, 14, 23, 24, 25] (.s .z (.s .z (.s (.b [2, 3, 4, 12, 13, 14, 16, 23, 24, 25] (.s .z (.s .z (.s .z (.s .z (.s .z (.s .z .z))))))) (.s (.f [(0, 0), (0, 1), (0, 3), (0, 4), (0, 5), (1, 8), (0, 2), (0, 6), (0, 7), (2, 8), (0, 9)]) (.s (.s .z (.s .z .z)) (.s .z .z))))))) .z)))))) (.s .z .z))))))
theorem e418 (s472 s473 s474 s475 s476 : Fun) : b418 s472 s473 s474 s475 s476 = denF Tryz.prog (gam [(472, s472), (473, s473), (474, s474), (475, s475), (476, s476)]) Tryz.f418 g418 := by kernel_rfl
def s418 : Fun := b418 s472 s473 s474 s475 s476
theorem F418 : Snd Tryz.prog 418 s418 := snd_of hmix (gcons F472 (gcons F473 (gcons F474 (gcons F475 (gcons F476 gnil))))) Tryz.func418 (by kernel_rfl) (by kernel_rfl) (e418 s472 s473 s474 s475 s476)

/-- (*obelisk/typecheck.work).begin$1 -/
def b420 : Fun := fun a b => uc a fun a c => uc c fun c d => uz d (mk b (cells a) fun a b => fl 0 b a fun a => fl 0 b c fun c => eqN a c fun a => cK (.bool a) fun a => .ret a b)
def g420 : Hint := (.s .z (.s .z .z))
theorem e420 : b420 = denF Tryz.prog (gam []) Tryz.f420 g420 := by kernel_rfl
def s420 : Fun := b420
theorem F420 : Snd Tryz.prog 420 s420 := snd_of hmix gnil Tryz.func420 (by kernel_rfl) (by kernel_rfl) (e420)

/-- slices.IndexFunc[[]obelisk/api.Instr,obelisk/api.Instr] -/
def L477n0 (s420 : Fun) : List AV → Hp → Res := fun a b => uc a fun a c => uc c fun c d => uc d fun d e => uc e fun e _ => ltN e d fun f => ifB f (blk 1 (ixA 8 a e fun f => ldN b 8 f fun f => cl (dyn (gam [(420, s420)]) c [f] b) fun b f => cB b fun b => ifB b (cK e fun a => .ret a f) (.norm [a, c, d, e] f)) fun a b => uc a fun a c => uc c fun c d => uc d fun d e => uc e fun e _ => iAdd e (I 1) fun e => .norm [a, c, d, e] b) (.exit 0 [] b)
def b477 (s420 : Fun) : Fun := fun a b => uc a fun a c => uc c fun c d => uz d (lenL a fun d => blk 0 (lp (L477n0 s420) most [a, c, d, (I 0)] b) fun _ a => cK (.int 63 (.negSucc 0)) fun b => .ret b a)
def g477 : Hint := (.s .z (.s (.s .z (.b [] (.l [0, 1, 7, 8] (.s .z (.s (.s .z .z) (.s (.b [0, 1, 7, 8] (.s .z (.s .z (.s (.s .z .z) .z)))) .z)))))) (.s .z .z)))
theorem e477 (s420 : Fun) : b477 s420 = denF Tryz.prog (gam [(420, s420)]) Tryz.f477 g477 := by kernel_rfl
def s477 : Fun := b477 s420
theorem F477 : Snd Tryz.prog 477 s477 := snd_of hmix (gcons F420 gnil) Tryz.func477 (by kernel_rfl) (by kernel_rfl) (e477 s420)

/-- slices.ContainsFunc[[]obelisk/api.Instr,obelisk/api.Instr] -/
def b419 (s477 : Fun) : Fun := fun a b => uc a fun a c => uc c fun c d => uz d (cl (s477 [a, c] b) fun a b => ltN a (I 0) fun a => cK (.bool (bnot a)) fun a => .ret a b)
def g419 : Hint := (.s .z (.s .z .z))
theorem e419 (s477 : Fun) : b419 s477 = denF Tryz.prog (gam [(477, s477)]) Tryz.f419 g419 := by kernel_rfl
def s419 : Fun := b419 s477
theorem F419 : Snd Tryz.prog 419 s419 := snd_of hmix (gcons F477 gnil) Tryz.func419 (by kernel_rfl) (by kernel_rfl) (e419 s477)

/-- (*obelisk/typecheck.work).catches -/
def b421 (s223 : Fun) : Fun := fun a b => uc a fun a c => uc c fun c d => uz d (mk b (cells c) fun b c => fl 3 c b fun d => eqN d (I 0) fun d => ifB d (.fail) (na 1 a fun a => ld1 c a fun d => nl 1 c d fun e => fl 3 c b fun b => cl (s223 [e, b] c) fun b c => ld1 c a fun a => same d a (cT b fun a => cK (nth a 0) fun a => cT b fun b => cK (nth b 1) fun _ => cK a fun a => .ret a c)))
def g421 : Hint := (.s .z (.s (.s .z (.s .z .z)) (.s (.r [0, 1, 2, 3, 4, 5, 6, 7, 8, 9, 10, 11, 12, 13, 14]) (.s .z .z))))
theorem e421 (s223 : Fun) : b421 s223 = denF Tryz.prog (gam [(223, s223)]) Tryz.f421 g421 := by kernel_rfl
def s421 : Fun := b421 s223
theorem F421 : Snd Tryz.prog 421 s421 := snd_of hmix (gcons F223 gnil) Tryz.func421 (by kernel_rfl) (by kernel_rfl) (e421 s223)

/-- (*obelisk/typecheck.work).begin -/
def L368n0 (s120 s226 s367 s417 s418 s419 s421 : Fun) : List AV → Hp → Res := fun a b => uc a fun a c => uc c fun c d => uc d fun d e => uc e fun e f => uc f fun f g => uc g fun g _ => ltN g f fun h => ifB h (blk 1 (ixA 3 e g fun h => ldN b 3 h fun h => mk b (.cons (I 0) (.cons .nils (.cons .nils .nil))) fun b i => stN i 3 b h fun h => cl (s419 [c, (.fn (.func 420) .nil (.cons b .nil))] h) fun h i => cl (s367 [a, h] i) fun _ h => nl 10 h a fun i => fl 0 h b fun j => ldN h 3 b fun b => mup (kqI 63) h i j b fun b => .norm [a, c, d, e, f, g] b) fun a b => uc a fun a c => uc c fun c d => uc d fun d e => uc e fun e f => uc f fun f g => uc g fun g _ => iAdd g (I 1) fun g => .norm [a, c, d, e, f, g] b) (.exit 0 [a, d] b)
def L368n1 (s120 s226 s367 s417 s418 s419 s421 : Fun) : List AV → Hp → Res := fun a b => uc a fun a c => uc c fun c d => uc d fun d e => uc e fun e _ => ltN e d fun f => ifB f (blk 3 (ixA 4 c e fun f => ldN b 4 f fun f => mk b (.cons (I 0) (.cons (I 0) (.cons (I 0) (.cons (I 0) .nil)))) fun b g => stN g 4 b f fun f => na 0 a fun g => ld1 f g fun h => ldN f 4 b fun b => cl (s421 [a, b] f) fun b f => ld1 f g fun g => same h g (cl (s226 [h, b, (.str 19 2261816869159440624969593107871851903301607786)] f) fun b f => cl (s367 [a, b] f) fun _ b => .norm [a, c, d, e] b)) fun a b => uc a fun a c => uc c fun c d => uc d fun d e => uc e fun e _ => iAdd e (I 1) fun e => .norm [a, c, d, e] b) (.exit 2 [] b)
def b368 (s120 s226 s367 s417 s418 s419 s421 : Fun) : Fun := fun a b => uc a fun a c => uc c fun c d => uz d (nm (.norm [a] b) fun d _ => nm (nck d fun a => .norm [a] b) fun d _ => nm (fa 1 d fun a => .norm [a] b) fun d _ => nm (ld1 b d fun a => .norm [a] b) fun e _ => nm (.norm [a] b) fun f _ => nm (nck f fun a => .norm [a] b) fun f _ => nm (fa 2 f fun a => .norm [a] b) fun f _ => nm (ld1 b f fun a => .norm [a] b) fun g _ => nm (nck g fun a => .norm [a] b) fun h _ => nm (ldN b 9 h fun a => .norm [a] b) fun i _ => nm (.norm [(.cons (I 0) (.cons .nils (.cons .nils .nil)))] b) fun j _ => lay j .e 0 fun j k => ifB true (rsv b fun b l => nm (ldN l 9 h fun a => .norm [a] l) fun h _ => same i h (nm (ld1 l f fun a => .norm [a] l) fun h _ => same g h (nm (ld1 l d fun a => .norm [a] l) fun d _ => same e d (nm (cl (s417 [e, i] l) fun a b => .norm [a] b) fun d e => nm (ld1 e f fun a => .norm [a] e) fun h _ => same g h (nm (.norm [d] e) fun d _ => nm (cT d fun a => cK (nth a 0) fun a => .norm [a] e) fun h _ => nm (cT d fun a => cK (nth a 1) fun a => .norm [a] e) fun d _ => dueK e b k j fun e => nm (ld1 e f fun a => .norm [a] e) fun f _ => same g f (nm (stN e 3 (.ptr b 0) h fun a => .norm [(.tup .nil)] a) fun _ e => nm (.norm [d] e) fun d _ => nl 2 e a fun f => nl 2 e f fun f => cl (s120 [f] e) fun e f => cT e fun g => cK (nth g 0) fun _ => cT e fun g => cK (nth g 1) fun g => cT e fun e => cK (nth e 2) fun e => mk f (.cons (J 0) (.cons (.str 0 0) (.cons (I 0) (.cons (J 0) .nil)))) fun f h => stN h 4 f g fun g => nl 2 g a fun h => na 4 h fun h => ldN g 5 h fun h => mk g (.cons (I 0) (.cons (I 0) (.cons .nils (.cons .nils (.cons .nils .nil))))) fun g i => stN i 5 g h fun h => ldN h 3 (.ptr b 0) fun i => fl 4 h g fun j => na 1 a fun k => ld1 h k fun l => nl 1 h l fun m => fl 1 h g fun n => fl 0 h g fun o => cl (s418 [i, j, m, n, o] h) fun h i => ld1 i k fun j => same l j (cT h fun j => cK (nth j 0) fun j => cT h fun h => cK (nth h 1) fun h => ldN i 3 (.ptr b 0) fun b => ldN i 4 f fun k => na 7 a fun l => stN i 3 l b fun b => ldN b 4 f fun f => same k f (na 3 a fun f => stN b 4 f k fun b => ap (gsel d true e) fun e => cB d fun d => ap (sel d e (.bool false)) fun d => ap (gsel d true h) fun e => cB d fun d => ap (sel d e (.bool false)) fun d => cl (s367 [a, d] b) fun _ b => lenL j fun d => blk 0 (lp (L368n0 s120 s226 s367 s417 s418 s419 s421) most [a, c, g, j, d, (I 0)] b) fun a b => uc a fun a c => uc c fun c _ => fl 3 b c fun c => lenL c fun d => blk 2 (lp (L368n1 s120 s226 s367 s417 s418 s419 s421) most [a, c, d, (I 0)] b) fun _ a => .ret (.tup .nil) a)))))))) .fail)
def g368 : Hint := (.s (.f [(0, 0), (0, 1), (0, 2), (0, 3), (0, 4), (0, 5), (0, 6), (0, 7), (0, 8), (0, 9), (1, 14), (0, 10), (0, 11), (0, 12), (0, 13), (2, 14), (0, 15), (0, 16)]) (.s .z (.s .z (.s (.r [0, 1, 2, 3, 4, 5, 6, 7, 8, 9, 10, 11, 12, 13, 14, 15, 16, 17, 18, 19]) (.s (.r [0, 1, 2, 3, 4, 5, 6, 7, 8, 9]) (.s .z (.s (.s .z (.b [0, 9] (.l [0, 1, 9, 84, 85, 86] (.s .z (.s (.s .z .z) (.s (.b [0, 1, 9, 84, 85, 86] (.s .z (.s .z (.r [0, 1, 2, 3, 4, 5, 6, 7])))) .z)))))) (.s .z (.b [] (.l [0, 104, 105, 106] (.s .z (.s (.s .z .z) (.s (.b [0, 104, 105, 106] (.s .z (.r [0, 1, 2, 3, 4, 5, 6, 7, 8, 9]))) .z)))))))))))))
theorem e368 (s120 s226 s367 s417 s418 s419 s421 : Fun) : b368 s120 s226 s367 s417 s418 s419 s421 = denF Tryz.prog (gam [(120, s120), (226, s226), (367, s367), (417, s417), (418, s418), (419, s419), (421, s421)]) Tryz.f368 g368 := by kernel_rfl
def s368 : Fun := b368 s120 s226 s367 s417 s418 s419 s421
theorem F368 : Snd Tryz.prog 368 s368 := snd_of hmix (gcons F120 (gcons F226 (gcons F367 (gcons F417 (gcons F418 (gcons F419 (gcons F421 gnil))))))) Tryz.func368 (by kernel_rfl) (by kernel_rfl) (e368 s120 s226 s367 s417 s418 s419 s421)

/-- obelisk/descr.Array -/
def b181 (s185 : Fun) : Fun := fun a b => uc a fun a c => uz c (mk b (.cons (J 0) (.cons (.str 0 0) (.cons (I 0) (.cons (J 0) .nil)))) fun b c => cl (s185 [a] c) fun a c => cT a fun d => cK (nth d 0) fun d => cT a fun a => cK (nth a 1) fun a => mk c (.cons (J 0) (.cons (.str 0 0) (.cons (I 0) (.cons (J 0) .nil)))) fun c e => stN e 4 c d fun d => bNot a fun a => gj a false (fa 0 c fun a => .norm [a] d) d fun d e => gj a false (ld1 e d fun a => .norm [a] e) e fun d e => gj a false (eqN d (J 91) fun a => .norm [(.bool (bnot a))] e) e fun d e => cB a fun a => ap (sel a (.bool true) d) fun a => cB a fun a => ifB a (bld [(false, 1, (J 0)), (false, 1, (.str 0 0)), (false, 1, (I 0)), (false, 1, (J 0))] fun a => stN e 4 b (.agg a) fun a => ldN a 4 b fun b => cK (.bool false) fun c => .ret (.tup (.cons b (.cons c .nil))) a) (ldN e 4 c fun a => stN e 4 b a fun a => ldN a 4 b fun b => cK (.bool true) fun c => .ret (.tup (.cons b (.cons c .nil))) a))
def g181 : Hint := (.s .z (.s .z (.s (.s .z (.s (.s .z .z) .z)) (.s .z .z))))
theorem e181 (s185 : Fun) : b181 s185 = denF Tryz.prog (gam [(185, s185)]) Tryz.f181 g181 := by kernel_rfl
def s181 : Fun := b181 s185
theorem F181 : Snd Tryz.prog 181 s181 := snd_of hmix (gcons F185 gnil) Tryz.func181 (by kernel_rfl) (by kernel_rfl) (e181 s185)

/-- obelisk/assign.face -/
def b299 (s53 : Fun) : Fun := fun a b => uc a fun a c => uc c fun c d => uz d (cl (s53 [a, c] b) fun a b => eqP a .nilp fun c => ap (gsel (.bool (bnot c)) true a) fun a => gj (.bool (bnot c)) true (nck a fun a => .norm [a] b) b fun a b => gj (.bool (bnot c)) true (fa 2 a fun a => .norm [a] b) b fun a b => gj (.bool (bnot c)) true (ld1 b a fun a => .norm [a] b) b fun a b => gj (.bool (bnot c)) true (iAnd a (I 512) fun a => .norm [a] b) b fun a b => gj (.bool (bnot c)) true (eqN a (I 0) fun a => .norm [(.bool (bnot a))] b) b fun a b => cB (.bool (bnot c)) fun c => ap (sel c a (.bool false)) fun a => cK a fun a => .ret a b)
def g299 : Hint := (.s .z (.s .z (.s .z .z)))
theorem e299 (s53 : Fun) : b299 s53 = denF Tryz.prog (gam [(53, s53)]) Tryz.f299 g299 := by kernel_rfl
def s299 : Fun := b299 s53
theorem F299 : Snd Tryz.prog 299 s299 := snd_of hmix (gcons F53 gnil) Tryz.func299 (by kernel_rfl) (by kernel_rfl) (e299 s53)

/-- (*obelisk/table.Table).faces -/
def L380n0 (s380 s53 s97 : Fun) : List AV → Hp → Res := fun a b => uc a fun a c => uc c fun c d => uc d fun d e => uc e fun e f => uc f fun f _ => ltN f e fun g => ifB g (blk 1 (ixA 1 d f fun g => ld1 b g fun g => cl (s53 [a, g] b) fun b h => eqP b .nilp fun b => ap (gsel (.bool (bnot b)) true c) fun i => ap (gsel (.bool (bnot b)) true g) fun j => gj (.bool (bnot b)) true (cl (s97 [i, j] h) fun a b => .norm [a] b) h fun h i => gj (.bool (bnot b)) true (bNot h fun a => .norm [a] i) i fun h i => cB (.bool (bnot b)) fun b => ap (sel b h (.bool false)) fun b => cB b fun b => ifB b (bld [(false, 1, g)] fun b => mkS i 1 1 b fun b h => apd h 1 16 c b fun b c => cl (s380 [a, g, b] c) fun b c => .norm [a, b, d, e, f] c) (.norm [a, c, d, e, f] i)) fun a b => uc a fun a c => uc c fun c d => uc d fun d e => uc e fun e f => uc f fun f _ => iAdd f (I 1) fun f => .norm [a, c, d, e, f] b) (.exit 0 [c] b)
def b380 (s380 s53 s97 : Fun) : Fun := fun a b => uc a fun a c => uc c fun c d => uc d fun d e => uz e (cl (s53 [a, c] b) fun b c => eqP b .nilp fun e => ifB e (.fail) (nl 5 c b fun b => lenL b fun e => blk 0 (lp (L380n0 s380 s53 s97) most [a, d, b, e, (I 0)] c) fun a b => uc a fun a _ => cK a fun a => .ret a b))
def g380 : Hint := (.s .z (.s .z (.s (.s .z (.s .z .z)) (.s (.s .z (.b [2] (.l [0, 2, 19, 20, 21] (.s .z (.s (.s .z .z) (.s (.b [0, 2, 19, 20, 21] (.s .z (.s .z (.s .z .z)))) .z)))))) (.s .z .z)))))
theorem e380 (s380 s53 s97 : Fun) : b380 s380 s53 s97 = denF Tryz.prog (gam [(53, s53), (97, s97), (380, s380)]) Tryz.f380 g380 := by kernel_rfl
def T380 (d : Nat) : Fun := Nat.rec (motive := fun _ => Fun) (fun _ _ => .fail) (fun _ ih => b380 ih s53 s97) d
theorem G380 : ∀ d, Snd Tryz.prog 380 (T380 d) := by
  intro d
  induction d with
  | zero => exact snd_fail Tryz.func380 (by kernel_rfl) (by kernel_rfl)
  | succ d ih =>
    have H380 := ih
    exact snd_of hmix (gcons F53 (gcons F97 (gcons H380 gnil))) Tryz.func380 (by kernel_rfl) (by kernel_rfl) (e380 (T380 d) s53 s97)
def s380 : Fun := (T380 200)
theorem F380 : Snd Tryz.prog 380 s380 := (G380 200)
end
end Go.Proofs.YtmoojalmefnmnaaGreatDoor
