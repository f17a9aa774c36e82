/-
  What functions of the program compute, in the abstract machine's words (printed by gen.lean): each is what its text denotes.
-/
import Derived.Test.YtmoojalmefnmnaaGreatDoorFb
set_option linter.unusedVariables false
set_option linter.unusedSimpArgs false
namespace Go.Proofs.YtmoojalmefnmnaaGreatDoor
open Go Go.AM
set_option autoImplicit false
set_option maxRecDepth 100000
set_option linter.unusedVariables false
noncomputable section
/-- obelisk/interp.entry -/
def L77n0 (s120 : Fun) : List AV → Hp → Res := fun a b => uc a fun a c => uc c fun c d => uc d fun d e => uc e fun e f => uc f fun f g => uc g fun g h => uc h fun h i => uc i fun i j => uc j fun j k => uc k fun k _ => ltN k j fun l => ifB l (blk 3 (ixA 4 i k fun l => ldN b 4 l fun l => mk b (.cons (J 0) (.cons (.str 0 0) (.cons (I 0) (.cons (J 0) .nil)))) fun b m => stN m 4 b l fun l => gj e true (fa 0 b fun a => .norm [a] l) l fun b l => gj e true (ld1 l b fun a => .norm [a] l) l fun b l => gj e true (eqN b (J 73) fun a => .norm [(.bool a)] l) l fun b l => cB e fun e => ap (sel e b (.bool false)) fun b => .norm [a, c, d, b, f, g, h, i, j, k] l) fun a b => uc a fun a c => uc c fun c d => uc d fun d e => uc e fun e f => uc f fun f g => uc g fun g h => uc h fun h i => uc i fun i j => uc j fun j k => uc k fun k _ => iAdd k (I 1) fun k => .norm [a, c, d, e, f, g, h, i, j, k] b) (.exit 2 [a, c, d, e, f, g, h] b)
def L77n1 (s120 : Fun) : List AV → Hp → Res := fun a b => uc a fun a c => uc c fun c d => uc d fun d e => uc e fun e f => uc f fun f _ => ltN f e fun g => ifB g (blk 1 (ixA 9 d f fun g => ldN b 9 g fun g => mk b (.cons (I 0) (.cons (.str 0 0) (.cons (.str 0 0) (.cons (.bool false) (.cons (I 0) (.cons (I 0) (.cons .nils (.cons .nils (.cons .nils .nil))))))))) fun b h => stN h 9 b g fun g => fl 2 g b fun h => cl (s120 [h] g) fun g h => cT g fun i => cK (nth i 0) fun i => cT g fun j => cK (nth j 1) fun j => cT g fun g => cK (nth g 2) fun g => mk h (.cons (J 0) (.cons (.str 0 0) (.cons (I 0) (.cons (J 0) .nil)))) fun h k => stN k 4 h j fun j => gj g true (fa 1 b fun a => .norm [a] j) j fun j k => gj g true (ld1 k j fun a => .norm [a] k) k fun j k => ap (gsel g true a) fun l => gj g true (eqS j l fun a => .norm [(.bool a)] k) k fun j k => cB g fun g => ap (sel g j (.bool false)) fun g => gj g true (fa 0 b fun a => .norm [a] k) k fun b j => gj g true (ld1 j b fun a => .norm [a] j) j fun b j => gj g true (iAnd b (I 8) fun a => .norm [a] j) j fun b j => gj g true (eqN b (I 0) fun a => .norm [(.bool (bnot a))] j) j fun b j => cB g fun g => ap (sel g b (.bool false)) fun b => ap (gsel b true i) fun g => gj b true (lenL g fun a => .norm [a] j) j fun g j => ap (gsel b true c) fun k => gj b true (eqN g k fun a => .norm [(.bool a)] j) j fun g j => cB b fun b => ap (sel b g (.bool false)) fun b => ap (gsel b true c) fun g => gj b true (ltN (I 8) g fun a => .norm [(.bool (bnot a))] j) j fun g j => cB b fun b => ap (sel b g (.bool false)) fun b => gj b true (fa 0 h fun a => .norm [a] j) j fun g j => gj b true (ld1 j g fun a => .norm [a] j) j fun g j => gj b true (eqN g (J 86) fun a => .norm [(.bool a)] j) j fun g j => ap (gsel b true g) fun g => gj g false (fa 0 h fun a => .norm [a] j) j fun j k => gj g false (ld1 k j fun a => .norm [a] k) k fun j k => gj g false (eqN j (J 73) fun a => .norm [(.bool a)] k) k fun j k => gj b true (cB g fun a => ap (sel a (.bool true) j) fun a => .norm [a] k) k fun g j => ap (gsel b true g) fun g => gj g false (fa 0 h fun a => .norm [a] j) j fun h j => gj g false (ld1 j h fun a => .norm [a] j) j fun h j => gj g false (eqN h (J 74) fun a => .norm [(.bool a)] j) j fun h j => gj b true (cB g fun a => ap (sel a (.bool true) h) fun a => .norm [a] j) j fun g h => cB b fun b => ap (sel b g (.bool false)) fun b => lenL i fun g => blk 2 (lp (L77n0 s120) most [a, c, f, b, d, e, f, i, g, (I 0)] h) fun a b => uc a fun a c => uc c fun c d => uc d fun d e => uc e fun e f => uc f fun f g => uc g fun g h => uc h fun h _ => cB e fun e => ifB e (cK d fun a => .ret a b) (.norm [a, c, f, g, h] b)) fun a b => uc a fun a c => uc c fun c d => uc d fun d e => uc e fun e f => uc f fun f _ => iAdd f (I 1) fun f => .norm [a, c, d, e, f] b) (.exit 0 [] b)
def b77 (s120 : Fun) : Fun := fun a b => uc a fun a c => uc c fun c d => uc d fun d e => uz e (nl 7 b a fun a => lenL a fun e => blk 0 (lp (L77n1 s120) most [c, d, a, e, (I 0)] b) fun _ a => cK (.int 63 (.negSucc 0)) fun b => .ret b a)
def g77 : Hint := (.s .z (.s (.s .z (.b [] (.l [1, 2, 18, 19, 20] (.s .z (.s (.s .z .z) (.s (.b [1, 2, 18, 19, 20] (.s .z (.s .z (.s .z (.s (.s .z (.b [1, 2, 7, 12, 18, 19, 20] (.l [1, 2, 7, 12, 18, 19, 20, 70, 71, 72] (.s .z (.s (.s .z .z) (.s (.b [1, 2, 7, 12, 18, 19, 20, 70, 71, 72] (.s .z .z)) .z)))))) (.s .z (.s (.s .z .z) .z))))))) .z)))))) (.s .z .z)))
theorem e77 (s120 : Fun) : b77 s120 = denF Tryz.prog (gam [(120, s120)]) Tryz.f77 g77 := by kernel_rfl
def s77 : Fun := b77 s120
theorem F77 : Snd Tryz.prog 77 s77 := snd_of hmix (gcons F120 gnil) Tryz.func77 (by kernel_rfl) (by kernel_rfl) (e77 s120)

/-- (*obelisk/interp.Machine).state -/
def b121 (s75 : Fun) : Fun := fun a b => uc a fun a c => uc c fun c d => uz d (nl 7 b a fun d => lkp kqS b false .nilp d c fun d => jn (eqP d .nilp fun e => ifB e (bld [(false, 1, (I 0)), (false, 1, .nils)] fun d => mk b (cells (.agg d)) fun b d => jn (nl 0 d a fun e => cl (s75 [e, c] d) fun d e => bNot d fun d => cB d fun d => ifB d (na 0 b fun d => st1 e d (I 2) fun d => .norm [a, c, b] d) (.norm [a, c, b] e)) fun a b => uc a fun a c => uc c fun c d => uc d fun d _ => nl 7 b a fun a => mup kqS b a c d fun a => .norm [d] a) (.norm [d] b)) fun a b => uc a fun a _ => cK a fun a => .ret a b)
def g121 : Hint := (.s .z (.s .z (.j [5] (.s .z (.s (.s .z (.j [0, 1, 5] (.s .z (.s .z .z)) .z)) .z)) (.s .z .z))))
theorem e121 (s75 : Fun) : b121 s75 = denF Tryz.prog (gam [(75, s75)]) Tryz.f121 g121 := by kernel_rfl
def s121 : Fun := b121 s75
theorem F121 : Snd Tryz.prog 121 s121 := snd_of hmix (gcons F75 gnil) Tryz.func121 (by kernel_rfl) (by kernel_rfl) (e121 s75)

/-- (*obelisk/stack.Stack).Refs -/
def L84n0 : List AV → Hp → Res := fun a b => uc a fun a c => uc c fun c d => uc d fun d e => uc e fun e f => uc f fun f _ => ltN f e fun g => ifB g (blk 1 (ixA 1 d f fun g => ld1 b g fun g => ap (gsel g true a) fun h => gj g true (nck h fun a => .norm [a] b) b fun b h => gj g true (fa 0 b fun a => .norm [a] h) h fun b h => gj g true (ld1 h b fun a => .norm [a] h) h fun b h => ap (gsel g true f) fun i => gj g true (ixA 1 b i fun a => .norm [a] h) h fun b h => gj g true (ld1 h b fun a => .norm [a] h) h fun b h => gj g true (eqN b (I 0) fun a => .norm [(.bool (bnot a))] h) h fun b h => cB g fun g => ap (sel g b (.bool false)) fun b => cB b fun b => ifB b (nl 0 h a fun b => ixA 1 b f fun b => ld1 h b fun b => bld [(false, 1, b)] fun b => mkS h 1 1 b fun b g => apd g 1 8 c b fun b c => .norm [a, b, d, e, f] c) (.norm [a, c, d, e, f] h)) fun a b => uc a fun a c => uc c fun c d => uc d fun d e => uc e fun e f => uc f fun f _ => iAdd f (I 1) fun f => .norm [a, c, d, e, f] b) (.exit 0 [c] b)
def b84 : Fun := fun a b => uc a fun a c => uz c (eqP a .nilp fun c => ifB c (.fail) (nl 1 b a fun c => lenL c fun d => blk 0 (lp L84n0 most [a, .nils, c, d, (I 0)] b) fun a b => uc a fun a _ => cK a fun a => .ret a b))
def g84 : Hint := (.s .z (.s (.s .z (.s .z .z)) (.s .z (.s (.s .z (.b [3] (.l [0, 3, 11, 12, 13] (.s .z (.s (.s .z .z) (.s (.b [0, 3, 11, 12, 13] (.s .z (.s .z (.s .z .z)))) .z)))))) (.s .z .z)))))
theorem e84 : b84 = denF Tryz.prog (gam []) Tryz.f84 g84 := by kernel_rfl
def s84 : Fun := b84
theorem F84 : Snd Tryz.prog 84 s84 := snd_of hmix gnil Tryz.func84 (by kernel_rfl) (by kernel_rfl) (e84)

/-- slices.Clone[[]int,int] -/
def b139 : Fun := fun a b => uc a fun a c => uz c (eqL a .nils fun c => ifB c (cK .nils fun a => .ret a b) (bld [] fun c => mkS b 1 0 c fun b c => apd c 1 8 b a fun a b => cK a fun a => .ret a b))
def g139 : Hint := (.s .z (.s (.s .z (.s (.s .z .z) .z)) (.s .z .z)))
theorem e139 : b139 = denF Tryz.prog (gam []) Tryz.f139 g139 := by kernel_rfl
def s139 : Fun := b139
theorem F139 : Snd Tryz.prog 139 s139 := snd_of hmix gnil Tryz.func139 (by kernel_rfl) (by kernel_rfl) (e139)

/-- (*obelisk/strings.Table).Roots -/
def b85 (s139 : Fun) : Fun := fun a b => uc a fun a c => uz c (eqP a .nilp fun c => ifB c (.fail) (nl 1 b a fun a => cl (s139 [a] b) fun a b => cK a fun a => .ret a b))
def g85 : Hint := (.s .z (.s (.s .z (.s .z .z)) (.s .z .z)))
theorem e85 (s139 : Fun) : b85 s139 = denF Tryz.prog (gam [(139, s139)]) Tryz.f85 g85 := by kernel_rfl
def s85 : Fun := b85 s139
theorem F85 : Snd Tryz.prog 85 s85 := snd_of hmix (gcons F139 gnil) Tryz.func85 (by kernel_rfl) (by kernel_rfl) (e85 s139)

/-- (*obelisk/interp.Machine).statics -/
def L86n0 (s53 : Fun) : List AV → Hp → Res := fun a b => uc a fun a c => uc c fun c d => uc d fun d e => uc e fun e f => uc f fun f g => uc g fun g h => uc h fun h _ => ltN h g fun i => ifB i (blk 3 (ixA 4 f h fun i => ldN b 4 i fun i => mk b (.cons (I 0) (.cons (.str 0 0) (.cons (.str 0 0) (.cons (I 0) .nil)))) fun b j => stN j 4 b i fun i => nl 1 i d fun j => lenL j fun j => ltN h j fun j => gj (.bool j) true (fa 2 b fun a => .norm [a] i) i fun b i => gj (.bool j) true (ld1 i b fun a => .norm [a] i) i fun _ b => gj (.bool j) true (.fail) b fun b i => cB (.bool j) fun j => ap (sel j b (.bool false)) fun b => cB b fun b => ifB b (.fail) (.norm [a, c, d, e, f, g, h] i)) fun a b => uc a fun a c => uc c fun c d => uc d fun d e => uc e fun e f => uc f fun f g => uc g fun g h => uc h fun h _ => iAdd h (I 1) fun h => .norm [a, c, d, e, f, g, h] b) (.exit 2 [a, c, e] b)
def b86 (s53 : Fun) : Fun := fun a b => uc a fun a c => uc c fun c d => uz d (nl 7 b a fun d => mapL b d fun d => allE (fun d => cT d fun e => cK (nth e 0) fun e => cT d fun d => cK (nth d 1) fun d => nl 0 (roH b) a fun f => cl (s53 [f, e] (roH b)) fun e f => nl 6 f e fun e => lenL e fun g => blk 2 (lp (L86n0 s53) most [a, c, d, (.ptr b.nb 0), e, g, (I 0)] f) fun d _ => uc d fun d e => uc e fun e f => uc f fun f _ => ifB (sameV [(.ptr b.nb 0), a, c] [f, d, e]) (.norm [] b) .fail) (.ret (.tup .nil) b) d)
def g86 : Hint := (.w (.s .z (.b [0, 1, 12] (.l [0, 1, 5, 12, 26, 27, 28] (.s .z (.s (.s .z .z) (.s (.b [0, 1, 5, 12, 26, 27, 28] (.s .z (.s .z (.s .z .z)))) .z)))))) [0, 1])
theorem e86 (s53 : Fun) : b86 s53 = denF Tryz.prog (gam [(53, s53)]) Tryz.f86 g86 := by kernel_rfl
def s86 : Fun := b86 s53
theorem F86 : Snd Tryz.prog 86 s86 := snd_of hmix (gcons F53 gnil) Tryz.func86 (by kernel_rfl) (by kernel_rfl) (e86 s53)

/-- (*obelisk/interp.Machine).collect$2 -/
def b89 : Fun := fun a b => uc a fun a c => uc c fun c d => uz d (ld1 b c fun c => lkp (kqI 63) b true (I 0) c a fun c => cT c fun d => cK (nth d 0) fun d => cT c fun c => cK (nth c 1) fun c => cB c fun c => ifB c (cK d fun a => .ret a b) (cK a fun a => .ret a b))
def g89 : Hint := (.s .z (.s (.s .z (.s .z (.s (.s .z .z) .z))) (.s .z .z)))
theorem e89 : b89 = denF Tryz.prog (gam []) Tryz.f89 g89 := by kernel_rfl
def s89 : Fun := b89
theorem F89 : Snd Tryz.prog 89 s89 := snd_of hmix gnil Tryz.func89 (by kernel_rfl) (by kernel_rfl) (e89)

/-- cmp.isNaN[int] -/
def b437 : Fun := fun a b => uc a fun a c => uz c (eqN a a fun a => cK (.bool (bnot a)) fun a => .ret a b)
def g437 : Hint := (.s .z (.s .z .z))
theorem e437 : b437 = denF Tryz.prog (gam []) Tryz.f437 g437 := by kernel_rfl
def s437 : Fun := b437
theorem F437 : Snd Tryz.prog 437 s437 := snd_of hmix gnil Tryz.func437 (by kernel_rfl) (by kernel_rfl) (e437)

/-- cmp.Less[int] -/
def b381 (s437 : Fun) : Fun := fun a b => uc a fun a c => uc c fun c d => uz d (cl (s437 [a] b) fun b d => ap (gsel b true c) fun e => gj b true (cl (s437 [e] d) fun a b => .norm [a] b) d fun d e => gj b true (bNot d fun a => .norm [a] e) e fun d e => cB b fun b => ap (sel b d (.bool false)) fun b => ap (gsel b false a) fun a => ap (gsel b false c) fun c => gj b false (ltN a c fun a => .norm [(.bool a)] e) e fun a c => cB b fun b => ap (sel b (.bool true) a) fun a => cK a fun a => .ret a c)
def g381 : Hint := (.s .z (.s .z .z))
theorem e381 (s437 : Fun) : b381 s437 = denF Tryz.prog (gam [(437, s437)]) Tryz.f381 g381 := by kernel_rfl
def s381 : Fun := b381 s437
theorem F381 : Snd Tryz.prog 381 s381 := snd_of hmix (gcons F437 gnil) Tryz.func381 (by kernel_rfl) (by kernel_rfl) (e381 s437)

/-- slices.isNaN[int] -/
def b382 : Fun := fun a b => uc a fun a c => uz c (eqN a a fun a => cK (.bool (bnot a)) fun a => .ret a b)
def g382 : Hint := (.s .z (.s .z .z))
theorem e382 : b382 = denF Tryz.prog (gam []) Tryz.f382 g382 := by kernel_rfl
def s382 : Fun := b382
theorem F382 : Snd Tryz.prog 382 s382 := snd_of hmix gnil Tryz.func382 (by kernel_rfl) (by kernel_rfl) (e382)

/-- slices.BinarySearch[[]int,int] -/
def L301n0 (s381 s382 : Fun) : List AV → Hp → Res := fun a b => uc a fun a c => uc c fun c d => uc d fun d e => uc e fun e f => uc f fun f _ => ltN e f fun g => ifB g (blk 1 (iAdd e f fun g => iConv 64 g fun g => iShr g (.int 64 (.ofNat 1)) fun g => iConv 63 g fun g => ixA 1 a g fun h => ld1 b h fun h => cl (s381 [h, c] b) fun b h => cB b fun b => ifB b (iAdd g (I 1) fun b => .norm [a, c, d, b, f] h) (.norm [a, c, d, e, g] h)) fun a b => uc a fun a c => uc c fun c d => uc d fun d e => uc e fun e f => uc f fun f _ => .norm [a, c, d, e, f] b) (.exit 0 [a, c, d, e] b)
def b301 (s381 s382 : Fun) : Fun := fun a b => uc a fun a c => uc c fun c d => uz d (lenL a fun d => blk 0 (lp (L301n0 s381 s382) most [a, c, d, (I 0), d] b) fun a b => uc a fun a c => uc c fun c d => uc d fun d e => uc e fun e _ => ltN e d fun d => ap (gsel (.bool d) true a) fun f => ap (gsel (.bool d) true e) fun g => gj (.bool d) true (ixA 1 f g fun a => .norm [a] b) b fun b f => gj (.bool d) true (ld1 f b fun a => .norm [a] f) f fun b f => ap (gsel (.bool d) true c) fun g => gj (.bool d) true (eqN b g fun a => .norm [(.bool a)] f) f fun b f => ap (gsel (.bool d) true b) fun b => ap (gsel b false a) fun a => ap (gsel b false e) fun g => gj b false (ixA 1 a g fun a => .norm [a] f) f fun a f => gj b false (ld1 f a fun a => .norm [a] f) f fun a f => gj b false (cl (s382 [a] f) fun a b => .norm [a] b) f fun a f => ap (gsel b false a) fun a => ap (gsel a true c) fun c => gj a true (cl (s382 [c] f) fun a b => .norm [a] b) f fun c f => gj b false (cB a fun a => ap (sel a c (.bool false)) fun a => .norm [a] f) f fun a c => gj (.bool d) true (cB b fun b => ap (sel b (.bool true) a) fun a => .norm [a] c) c fun a b => cB (.bool d) fun c => ap (sel c a (.bool false)) fun a => cK e fun c => cK a fun a => .ret (.tup (.cons c (.cons a .nil))) b)
def g301 : Hint := (.s .z (.s .z (.s .z (.s (.b [0, 1, 6, 7] (.l [0, 1, 6, 7, 8] (.s (.s .z (.s .z .z)) (.b [0, 1, 6, 7, 8] (.s .z (.s .z (.s .z .z))))))) (.s .z .z)))))
theorem e301 (s381 s382 : Fun) : b301 s381 s382 = denF Tryz.prog (gam [(381, s381), (382, s382)]) Tryz.f301 g301 := by kernel_rfl
def s301 : Fun := b301 s381 s382
theorem F301 : Snd Tryz.prog 301 s301 := snd_of hmix (gcons F381 (gcons F382 gnil)) Tryz.func301 (by kernel_rfl) (by kernel_rfl) (e301 s381 s382)

/-- (*obelisk/heap.Heap).find -/
def b225 (s301 : Fun) : Fun := fun a b => uc a fun a c => uc c fun c d => uz d (eqP a .nilp fun d => ifB d (.fail) (nl 2 b a fun d => iSub c (I 1) fun e => cl (s301 [d, e] b) fun b d => cT b fun e => cK (nth e 0) fun _ => cT b fun b => cK (nth b 1) fun b => bNot b fun b => cB b fun b => ifB b (cK .nilp fun a => .ret a d) (nl 3 d a fun b => nl 1 d a fun a => iSub c (I 1) fun c => ixA 1 a c fun a => ld1 d a fun a => ixA 3 b a fun a => cK a fun a => .ret a d)))
def g225 : Hint := (.s .z (.s (.s .z (.s .z .z)) (.s (.s .z (.s .z (.s (.s .z .z) .z))) (.s (.r [0, 1, 2, 3, 4, 5, 6, 7, 8, 9, 10, 11, 12, 13]) .z))))
theorem e225 (s301 : Fun) : b225 s301 = denF Tryz.prog (gam [(301, s301)]) Tryz.f225 g225 := by kernel_rfl
def s225 : Fun := b225 s301
theorem F225 : Snd Tryz.prog 225 s225 := snd_of hmix (gcons F301 gnil) Tryz.func225 (by kernel_rfl) (by kernel_rfl) (e225 s301)

/-- (*obelisk/heap.Heap).Class -/
def b130 (s225 : Fun) : Fun := fun a b => uc a fun a c => uc c fun c d => uz d (cl (s225 [a, c] b) fun a b => eqP a .nilp fun c => ifB c (cK (.str 0 0) fun a => .ret a b) (nl 0 b a fun a => cK a fun a => .ret a b))
def g130 : Hint := (.s .z (.s .z (.s (.s .z (.s (.s .z .z) .z)) (.s .z .z))))
theorem e130 (s225 : Fun) : b130 s225 = denF Tryz.prog (gam [(225, s225)]) Tryz.f130 g130 := by kernel_rfl
def s130 : Fun := b130 s225
theorem F130 : Snd Tryz.prog 130 s130 := snd_of hmix (gcons F225 gnil) Tryz.func130 (by kernel_rfl) (by kernel_rfl) (e130 s225)

/-- obelisk/collect.Run$1 -/
def b141 (s130 : Fun) : Fun := fun a b => uc a fun a c => uc c fun c d => uc d fun d e => uc e fun e f => uz f (ld1 b c fun f => lkp (kqI 63) b false (I 0) f a fun f => eqN f (I 0) fun f => gj (.bool f) true (ld1 b d fun a => .norm [a] b) b fun b d => ap (gsel (.bool f) true a) fun g => gj (.bool f) true (cl (s130 [b, g] d) fun a b => .norm [a] b) d fun b d => gj (.bool f) true (eqS b (.str 0 0) fun a => .norm [(.bool (bnot a))] d) d fun b d => cB (.bool f) fun f => ap (sel f b (.bool false)) fun b => cB b fun b => ifB b (ld1 d c fun b => mup (kqI 63) d b a (I 1) fun b => ld1 b e fun c => bld [(false, 1, a)] fun a => mkS b 1 1 a fun a b => apd b 1 8 c a fun a b => st1 b e a fun a => .ret (.tup .nil) a) (.ret (.tup .nil) d))
def g141 : Hint := (.s .z (.s (.s .z .z) .z))
theorem e141 (s130 : Fun) : b141 s130 = denF Tryz.prog (gam [(130, s130)]) Tryz.f141 g141 := by kernel_rfl
def s141 : Fun := b141 s130
theorem F141 : Snd Tryz.prog 141 s141 := snd_of hmix (gcons F130 gnil) Tryz.func141 (by kernel_rfl) (by kernel_rfl) (e141 s130)

/-- (*obelisk/heap.Heap).Len -/
def b142 (s225 : Fun) : Fun := fun a b => uc a fun a c => uc c fun c d => uz d (cl (s225 [a, c] b) fun b d => blk 0 (eqP b .nilp fun e => ifB e (.fail) (nl 2 d b fun e => eqN e (J 0) fun e => ifB (bnot e) (nl 1 d a fun a => iAdd c (I 1) fun b => ixA 1 a b fun a => ld1 d a fun a => iConv 63 a fun a => cK a fun a => .ret a d) (.norm [b] d))) fun a b => uc a fun a _ => nl 1 b a fun a => lenL a fun a => cK a fun a => .ret a b)
def g142 : Hint := (.s .z (.s .z (.s (.b [5] (.s .z (.s .z (.s .z (.s (.s .z .z) .z))))) (.s .z .z))))
theorem e142 (s225 : Fun) : b142 s225 = denF Tryz.prog (gam [(225, s225)]) Tryz.f142 g142 := by kernel_rfl
def s142 : Fun := b142 s225
theorem F142 : Snd Tryz.prog 142 s142 := snd_of hmix (gcons F225 gnil) Tryz.func142 (by kernel_rfl) (by kernel_rfl) (e142 s225)

/-- (*obelisk/heap.Heap).at -/
def b242 (s142 s225 : Fun) : Fun := fun a b => uc a fun a c => uc c fun c d => uc d fun d e => uz e (cl (s225 [a, c] b) fun b e => eqP b .nilp fun f => ap (gsel (.bool f) false b) fun g => gj (.bool f) false (nck g fun a => .norm [a] e) e fun e g => gj (.bool f) false (fa 0 e fun a => .norm [a] g) g fun e g => gj (.bool f) false (ld1 g e fun a => .norm [a] g) g fun e g => gj (.bool f) false (eqS e (.str 16 137483774941304901841256615957136564586) fun a => .norm [(.bool a)] g) g fun e g => cB (.bool f) fun f => ap (sel f (.bool true) e) fun e => ap (gsel e false d) fun f => gj e false (ltN f (I 0) fun a => .norm [(.bool a)] g) g fun f g => cB e fun e => ap (sel e (.bool true) f) fun e => ap (gsel e false d) fun f => ap (gsel e false a) fun a => ap (gsel e false c) fun c => gj e false (cl (s142 [a, c] g) fun a b => .norm [a] b) g fun a c => gj e false (ltN f a fun a => .norm [(.bool (bnot a))] c) c fun a c => cB e fun e => ap (sel e (.bool true) a) fun a => cB a fun a => ifB a (.fail) (nl 2 c b fun a => eqN a (J 0) fun a => ifB (bnot a) (nl 2 c b fun a => cK a fun a => .ret a c) (nl 1 c b fun a => ixA 1 a d fun a => ld1 c a fun a => cK a fun a => .ret a c)))
def g242 : Hint := (.s .z (.s .z (.s (.s .z (.s .z .z)) (.s (.s .z (.s (.s .z .z) .z)) (.s .z .z)))))
theorem e242 (s142 s225 : Fun) : b242 s142 s225 = denF Tryz.prog (gam [(142, s142), (225, s225)]) Tryz.f242 g242 := by kernel_rfl
def s242 : Fun := b242 s142 s225
theorem F242 : Snd Tryz.prog 242 s242 := snd_of hmix (gcons F142 (gcons F225 gnil)) Tryz.func242 (by kernel_rfl) (by kernel_rfl) (e242 s142 s225)

/-- (*obelisk/heap.Heap).IsRef -/
def b143 (s242 : Fun) : Fun := fun a b => uc a fun a c => uc c fun c d => uc d fun d e => uz e (cl (s242 [a, c, d] b) fun a b => eqN a (J 76) fun a => cK (.bool a) fun a => .ret a b)
def g143 : Hint := (.s .z (.s .z .z))
theorem e143 (s242 : Fun) : b143 s242 = denF Tryz.prog (gam [(242, s242)]) Tryz.f143 g143 := by kernel_rfl
def s143 : Fun := b143 s242
theorem F143 : Snd Tryz.prog 143 s143 := snd_of hmix (gcons F242 gnil) Tryz.func143 (by kernel_rfl) (by kernel_rfl) (e143 s242)

/-- obelisk/layout.Bytes -/
def b342 : Fun := fun a b => uc a fun a c => uz c (blk 0 (jn (eqN a (J 90) fun c => ifB c (.norm [a, (.bool c)] b) (eqN a (J 66) fun c => .norm [a, (.bool c)] b)) fun a b => uc a fun a c => uc c fun c _ => cB c fun c => ifB c (cK (I 1) fun a => .ret a b) (jn (eqN a (J 67) fun c => ifB c (.norm [a, (.bool c)] b) (eqN a (J 83) fun c => .norm [a, (.bool c)] b)) fun a b => uc a fun a c => uc c fun c _ => cB c fun c => ifB c (cK (I 2) fun a => .ret a b) (eqN a (J 73) fun c => ifB c (cK (I 4) fun a => .ret a b) (jn (eqN a (J 74) fun c => ifB c (.norm [(.bool c)] b) (eqN a (J 76) fun a => .norm [(.bool a)] b)) fun a b => uc a fun a _ => cB a fun a => ifB a (cK (I 8) fun a => .ret a b) (.norm [] b))))) fun _ a => cK (I 0) fun b => .ret b a)
def g342 : Hint := (.s .z (.s (.s .z (.b [] (.j [3, 4] (.s .z (.s .z .z)) (.s (.s .z .z) (.j [3, 7] (.s .z (.s .z .z)) (.s (.s .z .z) (.s .z (.s (.s .z .z) (.j [12] (.s .z (.s .z .z)) (.s (.s .z .z) .z)))))))))) (.s .z .z)))
theorem e342 : b342 = denF Tryz.prog (gam []) Tryz.f342 g342 := by kernel_rfl
def s342 : Fun := b342
theorem F342 : Snd Tryz.prog 342 s342 := snd_of hmix gnil Tryz.func342 (by kernel_rfl) (by kernel_rfl) (e342)

/-- obelisk/heap.place -/
def b243 (s342 : Fun) : Fun := fun a b => uc a fun a c => uc c fun c d => uc d fun d e => uz e (cl (s342 [d] b) fun b d => iQuo (I 8) b fun e => iSub a (I 1) fun a => iAdd a (I 3) fun a => iQuo c e fun f => iAdd a f fun a => iRem c e fun c => iMul c b fun b => iMul b (I 8) fun b => cK a fun a => cK b fun b => .ret (.tup (.cons a (.cons b .nil))) d)
def g243 : Hint := (.s .z (.s .z (.s .z (.s (.r [0, 1, 2, 3, 4, 5, 6, 7, 8, 9, 10, 11, 12, 13, 14]) .z))))
theorem e243 (s342 : Fun) : b243 s342 = denF Tryz.prog (gam [(342, s342)]) Tryz.f243 g243 := by kernel_rfl
def s243 : Fun := b243 s342
theorem F243 : Snd Tryz.prog 243 s243 := snd_of hmix (gcons F342 gnil) Tryz.func243 (by kernel_rfl) (by kernel_rfl) (e243 s342)

/-- obelisk/heap.narrow -/
def b244 : Fun := fun a b => uc a fun a c => uc c fun c d => uz d (blk 0 (eqN c (J 90) fun d => ifB d (iAnd a (I 1) fun a => cK a fun a => .ret a b) (eqN c (J 66) fun d => ifB d (iConv 7 a fun a => iConv 63 a fun a => cK a fun a => .ret a b) (eqN c (J 67) fun d => ifB d (iConv 16 a fun a => iConv 63 a fun a => cK a fun a => .ret a b) (eqN c (J 83) fun d => ifB d (iConv 15 a fun a => iConv 63 a fun a => cK a fun a => .ret a b) (eqN c (J 73) fun c => ifB c (iConv 31 a fun a => iConv 63 a fun a => cK a fun a => .ret a b) (.norm [a] b)))))) fun a b => uc a fun a _ => cK a fun a => .ret a b)
def g244 : Hint := (.s .z (.s (.s .z (.b [0] (.s .z (.s (.s .z .z) (.s .z (.s (.s .z .z) (.s .z (.s (.s .z .z) (.s .z (.s (.s .z .z) (.s .z (.s (.s .z .z) .z)))))))))))) (.s .z .z)))
theorem e244 : b244 = denF Tryz.prog (gam []) Tryz.f244 g244 := by kernel_rfl
def s244 : Fun := b244
theorem F244 : Snd Tryz.prog 244 s244 := snd_of hmix gnil Tryz.func244 (by kernel_rfl) (by kernel_rfl) (e244)

/-- (*obelisk/heap.Heap).Get -/
def b144 (s225 s242 s243 s244 : Fun) : Fun := fun a b => uc a fun a c => uc c fun c d => uc d fun d e => uz e (cl (s242 [a, c, d] b) fun b e => blk 0 (eqN b (J 0) fun f => ifB f (.fail) (cl (s225 [a, c] e) fun e f => nl 2 f e fun e => eqN e (J 0) fun e => ifB e (nl 1 f a fun a => iSub c (I 1) fun b => iAdd b (I 2) fun b => iAdd b d fun b => ixA 1 a b fun a => ld1 f a fun a => iConv 63 a fun a => cK a fun a => .ret a f) (.norm [a, c, d, b] f))) fun a b => uc a fun a c => uc c fun c d => uc d fun d e => uc e fun e _ => cl (s243 [c, d, e] b) fun b c => cT b fun d => cK (nth d 0) fun d => cT b fun b => cK (nth b 1) fun b => nl 1 c a fun a => ixA 1 a d fun a => ld1 c a fun a => iShr a b fun a => iConv 63 a fun a => cl (s244 [a, e] c) fun a b => cK a fun a => .ret a b)
def g144 : Hint := (.s .z (.s .z (.s (.b [0, 1, 2, 7] (.s .z (.s .z (.s .z (.s (.s .z .z) .z))))) (.s .z (.s .z .z)))))
theorem e144 (s225 s242 s243 s244 : Fun) : b144 s225 s242 s243 s244 = denF Tryz.prog (gam [(225, s225), (242, s242), (243, s243), (244, s244)]) Tryz.f144 g144 := by kernel_rfl
def s144 : Fun := b144 s225 s242 s243 s244
theorem F144 : Snd Tryz.prog 144 s144 := snd_of hmix (gcons F225 (gcons F242 (gcons F243 (gcons F244 gnil)))) Tryz.func144 (by kernel_rfl) (by kernel_rfl) (e144 s225 s242 s243 s244)

/-- obelisk/collect.Run$2 -/
def b146 : Fun := fun a b => uc a fun a c => uc c fun c d => uz d (ld1 b c fun c => lkp (kqI 63) b false (I 0) c a fun a => ltN (I 0) a fun a => cK (.bool a) fun a => .ret a b)
def g146 : Hint := (.s .z (.s .z .z))
theorem e146 : b146 = denF Tryz.prog (gam []) Tryz.f146 g146 := by kernel_rfl
def s146 : Fun := b146
theorem F146 : Snd Tryz.prog 146 s146 := snd_of hmix gnil Tryz.func146 (by kernel_rfl) (by kernel_rfl) (e146)

/-- (*obelisk/heap.Heap).set -/
def b271 (s243 s342 : Fun) : Fun := fun a b => uc a fun a c => uc c fun c d => uc d fun d e => uc e fun e f => uc f fun f g => uz g (cl (s243 [c, d, e] b) fun b c => cT b fun d => cK (nth d 0) fun d => cT b fun b => cK (nth b 1) fun b => cl (s342 [e] c) fun c e => iMul c (I 8) fun c => iSub (I 64) c fun c => iShr (.int 64 (.ofNat 18446744073709551615)) c fun c => iShl c b fun c => nl 1 e a fun g => nl 1 e a fun a => ixA 1 a d fun a => ld1 e a fun a => iAndNot a c fun a => iConv 64 f fun f => iShl f b fun b => iAnd b c fun b => iOr a b fun a => ixA 1 g d fun b => st1 e b a fun a => .ret (.tup .nil) a)
def g271 : Hint := (.s .z (.s .z (.s .z (.r [0, 1, 2, 3, 4, 5, 6, 7, 8, 9, 10, 11, 12, 13, 14, 15, 16, 17, 18, 19, 20, 21, 22]))))
theorem e271 (s243 s342 : Fun) : b271 s243 s342 = denF Tryz.prog (gam [(243, s243), (342, s342)]) Tryz.f271 g271 := by kernel_rfl
def s271 : Fun := b271 s243 s342
theorem F271 : Snd Tryz.prog 271 s271 := snd_of hmix (gcons F243 (gcons F342 gnil)) Tryz.func271 (by kernel_rfl) (by kernel_rfl) (e271 s243 s342)

/-- (*obelisk/heap.Heap).Put -/
def b174 (s225 s242 s244 s271 : Fun) : Fun := fun a b => uc a fun a c => uc c fun c d => uc d fun d e => uc e fun e f => uz f (cl (s242 [a, c, d] b) fun b f => eqN b (J 0) fun g => ifB g (.ret (.tup .nil) f) (cl (s244 [e, b] f) fun e f => cl (s225 [a, c] f) fun f g => nl 2 g f fun f => eqN f (J 0) fun f => ifB f (.fail) (cl (s271 [a, c, d, b, e] g) fun _ a => .ret (.tup .nil) a)))
def g174 : Hint := (.s .z (.s (.s .z (.s .z .z)) (.s .z (.s (.s .z (.s .z .z)) .z))))
theorem e174 (s225 s242 s244 s271 : Fun) : b174 s225 s242 s244 s271 = denF Tryz.prog (gam [(225, s225), (242, s242), (244, s244), (271, s271)]) Tryz.f174 g174 := by kernel_rfl
def s174 : Fun := b174 s225 s242 s244 s271
theorem F174 : Snd Tryz.prog 174 s174 := snd_of hmix (gcons F225 (gcons F242 (gcons F244 (gcons F271 gnil)))) Tryz.func174 (by kernel_rfl) (by kernel_rfl) (e174 s225 s242 s244 s271)

/-- (*obelisk/heap.Heap).size -/
def b245 : Fun := fun a b => uc a fun a c => uc c fun c d => uz d (iAdd c (I 1) fun d => nl 2 b a fun e => lenL e fun e => ltN d e fun d => ifB d (nl 2 b a fun d => iAdd c (I 1) fun e => ixA 1 d e fun d => ld1 b d fun d => nl 2 b a fun a => ixA 1 a c fun a => ld1 b a fun a => iSub d a fun a => cK a fun a => .ret a b) (nl 1 b a fun d => lenL d fun d => nl 2 b a fun a => ixA 1 a c fun a => ld1 b a fun a => iSub d a fun a => cK a fun a => .ret a b))
def g245 : Hint := (.s .z (.s (.s .z (.s (.s (.r [0, 1, 2, 3, 4, 5, 6, 7, 8, 9, 10, 11, 12, 13, 14, 15, 16]) .z) .z)) (.s (.r [0, 1, 2, 3, 4, 5, 6, 7, 8, 9, 10, 11, 12, 13]) .z)))
theorem e245 : b245 = denF Tryz.prog (gam []) Tryz.f245 g245 := by kernel_rfl
def s245 : Fun := b245
theorem F245 : Snd Tryz.prog 245 s245 := snd_of hmix gnil Tryz.func245 (by kernel_rfl) (by kernel_rfl) (e245)

/-- (*obelisk/classfile.reader).flags$1 -/
def b286 : Fun := fun a b => uc a fun a c => uc c fun c d => uz d (fl 0 b c fun c => iAnd c a fun a => eqN a (I 0) fun a => cK (.bool (bnot a)) fun a => .ret a b)
def g286 : Hint := (.s .z (.s .z .z))
theorem e286 : b286 = denF Tryz.prog (gam []) Tryz.f286 g286 := by kernel_rfl
def s286 : Fun := b286
theorem F286 : Snd Tryz.prog 286 s286 := snd_of hmix gnil Tryz.func286 (by kernel_rfl) (by kernel_rfl) (e286)

/-- (*obelisk/heap.Heap).Slide -/
def L145n0 (s89 s141 s142 s143 s144 s146 s174 s245 s286 : Fun) : List AV → Hp → Res := fun a b => uc a fun a c => uc c fun c d => uc d fun d e => uc e fun e f => uc f fun f g => uc g fun g h => uc h fun h _ => ltN h g fun i => ifB i (blk 1 (ixA 1 f h fun i => ld1 b i fun i => iAdd i (I 1) fun j => cl (dyn (gam [(89, s89), (141, s141), (142, s142), (143, s143), (144, s144), (146, s146), (174, s174), (245, s245), (286, s286)]) c [j] b) fun b j => cB b fun b => ifB b (iAdd i (I 1) fun b => iAdd e (I 1) fun i => mup (kqI 63) j d b i fun b => cl (s245 [a, h] b) fun b i => iAdd e b fun b => .norm [a, c, d, b, f, g, h] i) (.norm [a, c, d, e, f, g, h] j)) fun a b => uc a fun a c => uc c fun c d => uc d fun d e => uc e fun e f => uc f fun f g => uc g fun g h => uc h fun h _ => iAdd h (I 1) fun h => .norm [a, c, d, e, f, g, h] b) (.exit 0 [a, d, e] b)
def L145n1 (s89 s141 s142 s143 s144 s146 s174 s245 s286 : Fun) : List AV → Hp → Res := fun a b => uc a fun a c => uc c fun c d => uc d fun d e => uc e fun e f => uc f fun f g => uc g fun g h => uc h fun h _ => ltN h g fun i => ifB i (blk 5 (cl (s144 [a, e, h] b) fun b i => lkp (kqI 63) i true (I 0) c b fun b => cT b fun j => cK (nth j 0) fun j => cT b fun b => cK (nth b 1) fun b => ap (gsel b true a) fun k => ap (gsel b true e) fun l => ap (gsel b true h) fun m => gj b true (cl (s143 [k, l, m] i) fun a b => .norm [a] b) i fun i k => cB b fun b => ap (sel b i (.bool false)) fun b => cB b fun b => ifB b (cl (s174 [a, e, h, j] k) fun _ b => .norm [a, c, d, e, f, g, h] b) (.norm [a, c, d, e, f, g, h] k)) fun a b => uc a fun a c => uc c fun c d => uc d fun d e => uc e fun e f => uc f fun f g => uc g fun g h => uc h fun h _ => iAdd h (I 1) fun h => .norm [a, c, d, e, f, g, h] b) (.exit 4 [a, c, d, f] b)
def L145n2 (s89 s141 s142 s143 s144 s146 s174 s245 s286 : Fun) : List AV → Hp → Res := fun a b => uc a fun a c => uc c fun c d => uc d fun d e => uc e fun e f => uc f fun f g => uc g fun g h => uc h fun h _ => ltN h g fun i => ifB i (blk 7 (ixA 1 f h fun i => ld1 b i fun i => iAdd i (I 1) fun j => lkp (kqI 63) b true (I 0) c j fun j => cT j fun k => cK (nth k 0) fun k => cT j fun j => cK (nth j 1) fun j => cB j fun j => ifB j (na 1 a fun j => ld1 b j fun l => iSub k (I 1) fun m => cutS 1 l (some m) none none fun m => na 1 a fun n => ld1 b n fun o => cl (s245 [a, h] b) fun b p => ld1 p n fun q => same o q (ld1 p j fun q => same l q (iAdd i b fun b => cutS 1 o (some i) (some b) none fun b => cpy p 1 m b fun _ b => ld1 b n fun i => same o i (ld1 b j fun i => same l i (iSub k (I 1) fun i => bld [(false, 1, i)] fun i => mkS b 1 1 i fun b i => apd i 1 8 e b fun b e => .norm [a, c, d, b, f, g, h] e))))) (.norm [a, c, d, e, f, g, h] b)) fun a b => uc a fun a c => uc c fun c d => uc d fun d e => uc e fun e f => uc f fun f g => uc g fun g h => uc h fun h _ => iAdd h (I 1) fun h => .norm [a, c, d, e, f, g, h] b) (.exit 6 [a, c, d, e] b)
def b145 (s89 s141 s142 s143 s144 s146 s174 s245 s286 : Fun) : Fun := fun a b => uc a fun a c => uc c fun c d => uz d (mkMap b fun b d => eqP a .nilp fun e => ifB e (.fail) (nl 2 d a fun e => lenL e fun f => blk 0 (lp (L145n0 s89 s141 s142 s143 s144 s146 s174 s245 s286) most [a, c, b, (I 0), e, f, (I 0)] d) fun a b => uc a fun a c => uc c fun c d => uc d fun d _ => mapL b c fun e => allE (fun e => cT e fun e => cK (nth e 0) fun e => cl (s142 [a, e] (roH b)) fun f g => blk 4 (lp (L145n1 s89 s141 s142 s143 s144 s146 s174 s245 s286) most [a, c, d, e, (.ptr b.nb 0), f, (I 0)] g) fun e _ => uc e fun e f => uc f fun f g => uc g fun g h => uc h fun h _ => ifB (sameV [(.ptr b.nb 0), a, c, d] [h, e, f, g]) (.norm [] b) .fail) (nl 2 b a fun e => lenL e fun f => blk 6 (lp (L145n2 s89 s141 s142 s143 s144 s146 s174 s245 s286) most [a, c, d, .nils, e, f, (I 0)] b) fun a b => uc a fun a c => uc c fun c d => uc d fun d e => uc e fun e _ => na 2 a fun f => st1 b f e fun b => nl 1 b a fun e => cutS 1 e (some d) none none fun e => clr b 1 (.cons (.int 64 (.ofNat 0)) .nil) e fun _ b => nl 1 b a fun e => cutS 1 e none (some d) none fun d => na 1 a fun a => st1 b a d fun a => cK c fun b => .ret b a) e))
def g145 : Hint := (.s .z (.s .z (.s (.s .z (.s .z .z)) (.s .z (.s (.s .z (.b [0, 5, 6] (.l [0, 1, 5, 6, 25, 26, 27] (.s .z (.s (.s .z .z) (.s (.b [0, 1, 5, 6, 25, 26, 27] (.s .z (.s .z (.s (.s .z .z) .z)))) .z)))))) (.s (.w (.s .z (.b [0, 5, 6, 48] (.l [0, 5, 6, 9, 48, 55, 56] (.s .z (.s (.s .z .z) (.s (.b [0, 5, 6, 9, 48, 55, 56] (.s .z (.s .z (.s .z (.s .z .z))))) .z)))))) [0, 5, 6]) (.s .z (.s (.s .z (.b [0, 5, 6, 13] (.l [0, 5, 6, 13, 84, 85, 86] (.s .z (.s (.s .z .z) (.s (.b [0, 5, 6, 13, 84, 85, 86] (.s .z (.s .z (.s .z (.s (.s (.r [0, 1, 2, 3, 4, 5, 6, 7, 8, 9, 10, 11, 12, 13, 14, 15, 16, 17, 18]) .z) .z))))) .z)))))) (.s .z (.s .z (.s .z (.s .z .z))))))))))))
theorem e145 (s89 s141 s142 s143 s144 s146 s174 s245 s286 : Fun) : b145 s89 s141 s142 s143 s144 s146 s174 s245 s286 = denF Tryz.prog (gam [(89, s89), (141, s141), (142, s142), (143, s143), (144, s144), (146, s146), (174, s174), (245, s245), (286, s286)]) Tryz.f145 g145 := by kernel_rfl
def s145 : Fun := b145 s89 s141 s142 s143 s144 s146 s174 s245 s286
theorem F145 : Snd Tryz.prog 145 s145 := snd_of hmix (gcons F89 (gcons F141 (gcons F142 (gcons F143 (gcons F144 (gcons F146 (gcons F174 (gcons F245 (gcons F286 gnil))))))))) Tryz.func145 (by kernel_rfl) (by kernel_rfl) (e145 s89 s141 s142 s143 s144 s146 s174 s245 s286)

/-- (*obelisk/heap.Heap).Used -/
def b147 : Fun := fun a b => uc a fun a c => uz c (eqP a .nilp fun c => ifB c (.fail) (nl 1 b a fun a => lenL a fun a => cK a fun a => .ret a b))
def g147 : Hint := (.s .z (.s (.s .z (.s .z .z)) (.s .z .z)))
theorem e147 : b147 = denF Tryz.prog (gam []) Tryz.f147 g147 := by kernel_rfl
def s147 : Fun := b147
theorem F147 : Snd Tryz.prog 147 s147 := snd_of hmix gnil Tryz.func147 (by kernel_rfl) (by kernel_rfl) (e147)

/-- obelisk/collect.Run -/
def L88n0 (s89 s141 s142 s143 s144 s145 s146 s147 s286 : Fun) : List AV → Hp → Res := fun a b => uc a fun a c => uc c fun c d => uc d fun d e => uc e fun e f => uc f fun f g => uc g fun g h => uc h fun h _ => ltN h g fun i => ifB i (blk 1 (ixA 1 f h fun i => ld1 b i fun i => cl (dyn (gam [(89, s89), (141, s141), (142, s142), (143, s143), (144, s144), (145, s145), (146, s146), (147, s147), (286, s286)]) e [i] b) fun _ b => .norm [a, c, d, e, f, g, h] b) fun a b => uc a fun a c => uc c fun c d => uc d fun d e => uc e fun e f => uc f fun f g => uc g fun g h => uc h fun h _ => iAdd h (I 1) fun h => .norm [a, c, d, e, f, g, h] b) (.exit 0 [a, c, d, e] b)
def L88n1 (s89 s141 s142 s143 s144 s145 s146 s147 s286 : Fun) : List AV → Hp → Res := fun a b => uc a fun a c => uc c fun c d => uc d fun d e => uc e fun e f => uc f fun f g => uc g fun g h => uc h fun h _ => ltN h g fun i => ifB i (blk 5 (ld1 b a fun i => cl (s143 [i, f, h] b) fun b i => cB b fun b => ifB b (ld1 i a fun b => cl (s144 [b, f, h] i) fun b i => cl (dyn (gam [(89, s89), (141, s141), (142, s142), (143, s143), (144, s144), (145, s145), (146, s146), (147, s147), (286, s286)]) e [b] i) fun _ b => .norm [a, c, d, e, f, g, h] b) (.norm [a, c, d, e, f, g, h] i)) fun a b => uc a fun a c => uc c fun c d => uc d fun d e => uc e fun e f => uc f fun f g => uc g fun g h => uc h fun h _ => iAdd h (I 1) fun h => .norm [a, c, d, e, f, g, h] b) (.exit 4 [a, c, d, e] b)
def L88n2 (s89 s141 s142 s143 s144 s145 s146 s147 s286 : Fun) : List AV → Hp → Res := fun a b => uc a fun a c => uc c fun c d => uc d fun d e => uc e fun e _ => ld1 b d fun f => lenL f fun f => ltN (I 0) f fun f => ifB f (blk 3 (ld1 b d fun f => ld1 b d fun g => lenL g fun g => iSub g (I 1) fun g => ixA 1 f g fun f => ld1 b f fun f => ld1 b d fun g => ld1 b d fun h => lenL h fun h => iSub h (I 1) fun h => cutS 1 g none (some h) none fun g => st1 b d g fun b => ld1 b a fun g => cl (s142 [g, f] b) fun b g => blk 4 (lp (L88n1 s89 s141 s142 s143 s144 s145 s146 s147 s286) most [a, c, d, e, f, b, (I 0)] g) fun a b => uc a fun a c => uc c fun c d => uc d fun d e => uc e fun e _ => .norm [a, c, d, e] b) fun a b => uc a fun a c => uc c fun c d => uc d fun d e => uc e fun e _ => .norm [a, c, d, e] b) (.exit 2 [a, c] b)
def b88 (s89 s141 s142 s143 s144 s145 s146 s147 s286 : Fun) : Fun := fun a b => uc a fun a c => uc c fun c d => uz d (mk b (cells a) fun a b => mkMap b fun b d => mk d (.cons .nilm .nil) fun d e => st1 e d b fun b => mk b (.cons .nils .nil) fun b e => lenL c fun f => blk 0 (lp (L88n0 s89 s141 s142 s143 s144 s145 s146 s147 s286) most [a, d, b, (.fn (.func 141) .nil (.cons d (.cons a (.cons b .nil)))), c, f, (I 0)] e) fun a b => uc a fun a c => uc c fun c d => uc d fun d e => uc e fun e _ => blk 2 (lp (L88n2 s89 s141 s142 s143 s144 s145 s146 s147 s286) most [a, c, d, e] b) fun a b => uc a fun a c => uc c fun c _ => ld1 b a fun d => cl (s145 [d, (.fn (.func 146) .nil (.cons c .nil))] b) fun b c => ld1 c a fun a => cl (s147 [a] c) fun a c => cK b fun b => cK a fun a => .ret (.tup (.cons b (.cons a .nil))) c)
def g88 : Hint := (.s .z (.s .z (.s .z (.s .z (.s (.s .z (.b [2, 6, 7, 8] (.l [2, 6, 7, 8, 16, 17, 18] (.s .z (.s (.s .z .z) (.s (.b [2, 6, 7, 8, 16, 17, 18] (.s .z .z)) .z)))))) (.s (.b [2, 6] (.l [2, 6, 7, 8] (.s (.s .z (.s .z .z)) (.b [2, 6, 7, 8] (.s .z (.s .z (.s .z (.b [2, 6, 7, 8] (.l [2, 6, 7, 8, 11, 42, 43] (.s .z (.s (.s .z .z) (.s (.b [2, 6, 7, 8, 11, 42, 43] (.s .z (.s .z (.s .z .z)))) .z)))))))))))) (.s .z (.s .z .z))))))))
theorem e88 (s89 s141 s142 s143 s144 s145 s146 s147 s286 : Fun) : b88 s89 s141 s142 s143 s144 s145 s146 s147 s286 = denF Tryz.prog (gam [(89, s89), (141, s141), (142, s142), (143, s143), (144, s144), (145, s145), (146, s146), (147, s147), (286, s286)]) Tryz.f88 g88 := by kernel_rfl
def s88 : Fun := b88 s89 s141 s142 s143 s144 s145 s146 s147 s286
theorem F88 : Snd Tryz.prog 88 s88 := snd_of hmix (gcons F89 (gcons F141 (gcons F142 (gcons F143 (gcons F144 (gcons F145 (gcons F146 (gcons F147 (gcons F286 gnil))))))))) Tryz.func88 (by kernel_rfl) (by kernel_rfl) (e88 s89 s141 s142 s143 s144 s145 s146 s147 s286)

/-- (*obelisk/stack.Stack).Move -/
def L90n0 : List AV → Hp → Res := fun a b => uc a fun a c => uc c fun c d => uc d fun d e => uc e fun e f => uc f fun f _ => ltN f e fun g => ifB g (blk 1 (ixA 1 d f fun g => ld1 b g fun g => nl 0 b a fun h => ixA 1 h f fun h => ld1 b h fun h => lkp (kqI 63) b true (I 0) c h fun h => cT h fun i => cK (nth i 0) fun i => cT h fun h => cK (nth h 1) fun h => ap (gsel g true a) fun j => gj g true (nck j fun a => .norm [a] b) b fun b j => gj g true (fa 0 b fun a => .norm [a] j) j fun b j => gj g true (ld1 j b fun a => .norm [a] j) j fun b j => ap (gsel g true f) fun k => gj g true (ixA 1 b k fun a => .norm [a] j) j fun b j => gj g true (ld1 j b fun a => .norm [a] j) j fun b j => gj g true (eqN b (I 0) fun a => .norm [(.bool (bnot a))] j) j fun b j => cB g fun g => ap (sel g b (.bool false)) fun b => ap (gsel b true h) fun g => cB b fun b => ap (sel b g (.bool false)) fun b => cB b fun b => ifB b (nl 0 j a fun b => ixA 1 b f fun b => st1 j b i fun b => .norm [a, c, d, e, f] b) (.norm [a, c, d, e, f] j)) fun a b => uc a fun a c => uc c fun c d => uc d fun d e => uc e fun e f => uc f fun f _ => iAdd f (I 1) fun f => .norm [a, c, d, e, f] b) (.exit 0 [] b)
def b90 : Fun := fun a b => uc a fun a c => uc c fun c d => uz d (eqP a .nilp fun d => ifB d (.ret (.tup .nil) b) (nl 1 b a fun d => lenL d fun e => blk 0 (lp L90n0 most [a, c, d, e, (I 0)] b) fun _ a => .ret (.tup .nil) a))
def g90 : Hint := (.s (.s .z (.s .z .z)) (.s .z (.b [] (.l [0, 1, 13, 14, 15] (.s .z (.s (.s .z .z) (.s (.b [0, 1, 13, 14, 15] (.s .z (.s .z (.s .z (.s .z .z))))) .z)))))))
theorem e90 : b90 = denF Tryz.prog (gam []) Tryz.f90 g90 := by kernel_rfl
def s90 : Fun := b90
theorem F90 : Snd Tryz.prog 90 s90 := snd_of hmix gnil Tryz.func90 (by kernel_rfl) (by kernel_rfl) (e90)

/-- (*obelisk/strings.Table).Move -/
def L91n0 : List AV → Hp → Res := fun a b => uc a fun a c => uc c fun c d => uc d fun d e => uc e fun e f => uc f fun f _ => ltN f e fun g => ifB g (blk 1 (ixA 1 d f fun g => ld1 b g fun g => lkp (kqI 63) b true (I 0) c g fun g => cT g fun h => cK (nth h 0) fun h => cT g fun g => cK (nth g 1) fun g => cB g fun g => ifB g (nl 1 b a fun g => ixA 1 g f fun g => st1 b g h fun b => .norm [a, c, d, e, f] b) (.norm [a, c, d, e, f] b)) fun a b => uc a fun a c => uc c fun c d => uc d fun d e => uc e fun e f => uc f fun f _ => iAdd f (I 1) fun f => .norm [a, c, d, e, f] b) (.exit 0 [] b)
def b91 : Fun := fun a b => uc a fun a c => uc c fun c d => uz d (eqP a .nilp fun d => ifB d (.ret (.tup .nil) b) (nl 1 b a fun d => lenL d fun e => blk 0 (lp L91n0 most [a, c, d, e, (I 0)] b) fun _ a => .ret (.tup .nil) a))
def g91 : Hint := (.s (.s .z (.s .z .z)) (.s .z (.b [] (.l [0, 1, 13, 14, 15] (.s .z (.s (.s .z .z) (.s (.b [0, 1, 13, 14, 15] (.s .z (.s .z (.s .z (.s .z .z))))) .z)))))))
theorem e91 : b91 = denF Tryz.prog (gam []) Tryz.f91 g91 := by kernel_rfl
def s91 : Fun := b91
theorem F91 : Snd Tryz.prog 91 s91 := snd_of hmix gnil Tryz.func91 (by kernel_rfl) (by kernel_rfl) (e91)

/-- (*obelisk/interp.Machine).collect -/
def L59n0 (s84 s85 s86 s88 s89 s90 s91 s141 s146 s286 : Fun) : List AV → Hp → Res := fun a b => uc a fun a c => uc c fun c d => uc d fun d e => uc e fun e f => uc f fun f g => uc g fun g _ => ltN g f fun h => ifB h (blk 1 (ixA 1 e g fun h => ld1 b h fun h => na 9 a fun i => ld1 b i fun j => ld1 b d fun k => cl (dyn (gam [(84, s84), (85, s85), (86, s86), (88, s88), (89, s89), (90, s90), (91, s91), (141, s141), (146, s146), (286, s286)]) k [h] b) fun b h => ld1 h i fun i => same j i (ixA 1 j g fun i => st1 h i b fun b => .norm [a, c, d, e, f, g] b)) fun a b => uc a fun a c => uc c fun c d => uc d fun d e => uc e fun e f => uc f fun f g => uc g fun g _ => iAdd g (I 1) fun g => .norm [a, c, d, e, f, g] b) (.exit 0 [a, c, d] b)
def b59 (s84 s85 s86 s88 s89 s90 s91 s141 s146 s286 : Fun) : Fun := fun a b => uc a fun a c => uz c (nm (.norm [a] b) fun c _ => nm (nck c fun a => .norm [a] b) fun c _ => nm (fa 5 c fun a => .norm [a] b) fun c _ => nm (ld1 b c fun a => .norm [a] b) fun d _ => nm (.norm [a] b) fun e _ => nm (nck e fun a => .norm [a] b) fun e _ => nm (fa 3 e fun a => .norm [a] b) fun e _ => nm (ld1 b e fun a => .norm [a] b) fun f _ => nm (.norm [(.cons .nils .nil)] b) fun g _ => lay g .e 0 fun g h => ifB true (rsv b fun b i => nm (ld1 i e fun a => .norm [a] i) fun j _ => same f j (nm (ld1 i c fun a => .norm [a] i) fun c _ => same d c (nm (cl (s84 [d] i) fun a b => .norm [a] b) fun c d => nm (ld1 d e fun a => .norm [a] d) fun e _ => same f e (nm (cl (s85 [f] d) fun a b => .norm [a] b) fun d e => nm (apd e 1 8 c d fun a b => .norm [a] b) fun c d => dueK d b h g fun d => nm (st1 d (.ptr b 0) c fun a => .norm [(.tup .nil)] a) fun _ c => ld1 c (.ptr b 0) fun d => nl 9 c a fun e => apd c 1 8 d e fun c d => st1 d (.ptr b 0) c fun c => ld1 c (.ptr b 0) fun d => nl 10 c a fun e => nl 11 c a fun f => nl 12 c a fun g => nl 13 c a fun h => bld [(false, 1, e), (false, 1, f), (false, 1, g), (false, 1, h)] fun e => mkS c 1 4 e fun c e => ld1 e (.ptr b 0) fun f => same d f (apd e 1 8 d c fun c d => st1 d (.ptr b 0) c fun c => cl (s86 [a, (.fn (.func 87) .nil (.cons (.ptr b 0) .nil))] c) fun _ c => nm (.norm [a] c) fun d _ => nm (nck d fun a => .norm [a] c) fun d _ => nm (fa 2 d fun a => .norm [a] c) fun d _ => nm (ld1 c d fun a => .norm [a] c) fun e _ => nm (ld1 c (.ptr b 0) fun a => .norm [a] c) fun f _ => nm (.norm [(.cons .nilm .nil)] c) fun g _ => lay g .e 0 fun g h => ifB true (rsv c fun c i => nm (ld1 i (.ptr b 0) fun a => .norm [a] i) fun b _ => same f b (nm (ld1 i d fun a => .norm [a] i) fun b _ => same e b (nm (cl (s88 [e, f] i) fun a b => .norm [a] b) fun b d => nm (.norm [b] d) fun b _ => nm (cT b fun a => cK (nth a 0) fun a => .norm [a] d) fun e _ => nm (cT b fun a => cK (nth a 1) fun a => .norm [a] d) fun b _ => dueK d c h g fun d => nm (st1 d (.ptr c 0) e fun a => .norm [(.tup .nil)] a) fun _ d => nm (.norm [b] d) fun b _ => mk d (.cons .nilf .nil) fun d e => st1 e d (.fn (.func 89) .nil (.cons (.ptr c 0) .nil)) fun e => nl 5 e a fun f => ld1 e (.ptr c 0) fun g => cl (s90 [f, g] e) fun _ e => nl 3 e a fun f => ld1 e (.ptr c 0) fun c => cl (s91 [f, c] e) fun _ c => cl (s86 [a, (.fn (.func 92) .nil (.cons d .nil))] c) fun _ c => nl 9 c a fun e => lenL e fun f => blk 0 (lp (L59n0 s84 s85 s86 s88 s89 s90 s91 s141 s146 s286) most [a, b, d, e, f, (I 0)] c) fun a b => uc a fun a c => uc c fun c d => uc d fun d _ => ld1 b d fun e => nl 10 b a fun f => ld1 b d fun g => na 11 a fun h => ld1 b h fun i => ld1 b d fun j => na 12 a fun k => ld1 b k fun l => ld1 b d fun m => na 13 a fun n => ld1 b n fun o => cl (dyn (gam [(84, s84), (85, s85), (86, s86), (88, s88), (89, s89), (90, s90), (91, s91), (141, s141), (146, s146), (286, s286)]) e [f] b) fun b e => ld1 e n fun f => same o f (ld1 e d fun f => same m f (ld1 e k fun f => same l f (ld1 e d fun f => same j f (ld1 e h fun f => same i f (ld1 e d fun f => same g f (cl (dyn (gam [(84, s84), (85, s85), (86, s86), (88, s88), (89, s89), (90, s90), (91, s91), (141, s141), (146, s146), (286, s286)]) g [i] e) fun e f => ld1 f n fun g => same o g (ld1 f d fun g => same m g (ld1 f k fun g => same l g (ld1 f d fun g => same j g (cl (dyn (gam [(84, s84), (85, s85), (86, s86), (88, s88), (89, s89), (90, s90), (91, s91), (141, s141), (146, s146), (286, s286)]) j [l] f) fun f g => ld1 g n fun h => same o h (ld1 g d fun d => same m d (cl (dyn (gam [(84, s84), (85, s85), (86, s86), (88, s88), (89, s89), (90, s90), (91, s91), (141, s141), (146, s146), (286, s286)]) m [o] g) fun d g => na 10 a fun h => st1 g h b fun b => na 11 a fun g => st1 b g e fun b => na 12 a fun e => st1 b e f fun b => na 13 a fun a => st1 b a d fun a => cK c fun b => .ret b a))))))))))))))) .fail))))) .fail)
def g59 : Hint := (.s .z (.s (.f [(0, 0), (0, 1), (0, 2), (0, 3), (0, 5), (0, 6), (0, 7), (0, 8), (1, 11), (0, 4), (0, 9), (0, 10), (2, 11), (0, 12)]) (.s (.r [0, 1, 2, 3, 4, 5, 6]) (.s (.r [0, 1, 2, 3, 4, 5, 6, 7, 8, 9, 10, 11, 12, 13, 14, 15, 16, 17, 18, 19]) (.s .z (.s (.f [(0, 0), (0, 1), (0, 2), (0, 3), (0, 4), (1, 9), (0, 5), (0, 6), (0, 7), (0, 8), (2, 9), (0, 10), (0, 11)]) (.s .z (.s (.r [0, 1, 2, 3, 4, 5]) (.s (.r [0, 1, 2, 3, 4, 5]) (.s .z (.s (.s .z (.b [0, 5, 6] (.l [0, 5, 6, 76, 77, 78] (.s .z (.s (.s .z .z) (.s (.b [0, 5, 6, 76, 77, 78] (.s .z (.r [0, 1, 2, 3, 4, 5, 6, 7, 8, 9]))) .z)))))) (.s (.r [0, 1, 2, 3, 4, 5, 6, 7, 8, 10, 11, 12, 13, 14, 16, 17, 18, 19, 20, 22, 23, 24, 25, 26, 9, 15, 21, 27, 28, 29, 30, 31, 32, 33, 34, 35, 36, 37, 38, 39]) (.s .z .z)))))))))))))
theorem e59 (s84 s85 s86 s88 s89 s90 s91 s141 s146 s286 : Fun) : b59 s84 s85 s86 s88 s89 s90 s91 s141 s146 s286 = denF Tryz.prog (gam [(84, s84), (85, s85), (86, s86), (88, s88), (89, s89), (90, s90), (91, s91), (141, s141), (146, s146), (286, s286)]) Tryz.f59 g59 := by kernel_rfl
def s59 : Fun := b59 s84 s85 s86 s88 s89 s90 s91 s141 s146 s286
theorem F59 : Snd Tryz.prog 59 s59 := snd_of hmix (gcons F84 (gcons F85 (gcons F86 (gcons F88 (gcons F89 (gcons F90 (gcons F91 (gcons F141 (gcons F146 (gcons F286 gnil)))))))))) Tryz.func59 (by kernel_rfl) (by kernel_rfl) (e59 s84 s85 s86 s88 s89 s90 s91 s141 s146 s286)

/-- obelisk/layout.Fields$1 -/
def b274 : Fun := fun a b => uc a fun a c => uc c fun c d => uc d fun d e => uz e (mk b (cells c) fun b c => ld1 c d fun e => sCat a (.str 1 46) fun a => fl 1 c b fun f => sCat a f fun a => sCat a (.str 1 58) fun a => fl 2 c b fun b => sCat a b fun a => bld [(false, 1, a)] fun a => mkS c 1 1 a fun a b => apd b 1 16 e a fun a b => st1 b d a fun a => .ret (.tup .nil) a)
def g274 : Hint := (.s .z .z)
theorem e274 : b274 = denF Tryz.prog (gam []) Tryz.f274 g274 := by kernel_rfl
def s274 : Fun := b274
theorem F274 : Snd Tryz.prog 274 s274 := snd_of hmix gnil Tryz.func274 (by kernel_rfl) (by kernel_rfl) (e274)

/-- obelisk/layout.Descs$1 -/
def b275 : Fun := fun a b => uc a fun _ a => uc a fun a c => uc c fun c d => uz d (mk b (cells a) fun a b => ld1 b c fun d => fl 2 b a fun a => bld [(false, 1, a)] fun a => mkS b 1 1 a fun a b => apd b 1 16 d a fun a b => st1 b c a fun a => .ret (.tup .nil) a)
def g275 : Hint := (.s .z .z)
theorem e275 : b275 = denF Tryz.prog (gam []) Tryz.f275 g275 := by kernel_rfl
def s275 : Fun := b275
theorem F275 : Snd Tryz.prog 275 s275 := snd_of hmix gnil Tryz.func275 (by kernel_rfl) (by kernel_rfl) (e275)

/-- slices.Reverse[[]string,string] -/
def L358n0 : List AV → Hp → Res := fun a b => uc a fun a c => uc c fun c d => uc d fun d _ => ltN c d fun e => ifB e (blk 1 (ixA 1 a d fun e => ld1 b e fun e => ixA 1 a c fun f => ld1 b f fun f => ixA 1 a c fun g => st1 b g e fun b => ixA 1 a d fun e => st1 b e f fun b => .norm [a, c, d] b) fun a b => uc a fun a c => uc c fun c d => uc d fun d _ => iAdd c (I 1) fun c => iSub d (I 1) fun d => .norm [a, c, d] b) (.exit 0 [] b)
def b358 : Fun := fun a b => uc a fun a c => uz c (lenL a fun c => iSub c (I 1) fun c => blk 0 (lp L358n0 most [a, (I 0), c] b) fun _ a => .ret (.tup .nil) a)
def g358 : Hint := (.s .z (.b [] (.l [0, 2, 3] (.s (.s .z (.s .z .z)) (.s (.b [0, 2, 3] (.r [0, 1, 2, 3, 4, 5, 6, 7, 8, 9, 10, 11, 12, 13, 14, 15])) .z)))))
theorem e358 : b358 = denF Tryz.prog (gam []) Tryz.f358 g358 := by kernel_rfl
def s358 : Fun := b358
theorem F358 : Snd Tryz.prog 358 s358 := snd_of hmix gnil Tryz.func358 (by kernel_rfl) (by kernel_rfl) (e358)

/-- obelisk/layout.each -/
def L273n0 (s53 s274 s275 s290 s358 : Fun) : List AV → Hp → Res := fun a b => uc a fun a c => uc c fun c d => uc d fun d e => uc e fun e f => uc f fun f g => uc g fun g h => uc h fun h i => uc i fun i j => uc j fun j _ => ltN j i fun k => ifB k (blk 3 (ixA 4 h j fun k => ldN b 4 k fun k => mk b (.cons (I 0) (.cons (.str 0 0) (.cons (.str 0 0) (.cons (I 0) .nil)))) fun b l => stN l 4 b k fun k => fl 0 k b fun l => iAnd l (I 8) fun l => eqN l (I 0) fun l => ifB l (ldN k 4 b fun b => cl (dyn (gam [(53, s53), (274, s274), (275, s275), (290, s290), (358, s358)]) c [d, b] k) fun _ b => .norm [a, c, d, e, f, g, h, i, j] b) (.norm [a, c, d, e, f, g, h, i, j] k)) fun a b => uc a fun a c => uc c fun c d => uc d fun d e => uc e fun e f => uc f fun f g => uc g fun g h => uc h fun h i => uc i fun i j => uc j fun j _ => iAdd j (I 1) fun j => .norm [a, c, d, e, f, g, h, i, j] b) (.exit 2 [a, c, e, f, g] b)
def L273n1 (s53 s274 s275 s290 s358 : Fun) : List AV → Hp → Res := fun a b => uc a fun a c => uc c fun c d => uc d fun d e => uc e fun e f => uc f fun f _ => ltN f e fun g => ifB g (blk 1 (ixA 1 d f fun g => ld1 b g fun g => cl (s53 [a, g] b) fun b h => nl 6 h b fun b => lenL b fun i => blk 2 (lp (L273n0 s53 s274 s275 s290 s358) most [a, c, g, d, e, f, b, i, (I 0)] h) fun a b => uc a fun a c => uc c fun c d => uc d fun d e => uc e fun e f => uc f fun f _ => .norm [a, c, d, e, f] b) fun a b => uc a fun a c => uc c fun c d => uc d fun d e => uc e fun e f => uc f fun f _ => iAdd f (I 1) fun f => .norm [a, c, d, e, f] b) (.exit 0 [] b)
def b273 (s53 s274 s275 s290 s358 : Fun) : Fun := fun a b => uc a fun a c => uc c fun c d => uc d fun d e => uz e (cl (s290 [a, c] b) fun b c => cl (s358 [b] c) fun _ c => lenL b fun e => blk 0 (lp (L273n1 s53 s274 s275 s290 s358) most [a, d, b, e, (I 0)] c) fun _ a => .ret (.tup .nil) a)
def g273 : Hint := (.s .z (.s .z (.s .z (.b [] (.l [0, 2, 16, 17, 18] (.s .z (.s (.s .z .z) (.s (.b [0, 2, 16, 17, 18] (.s .z (.s .z (.b [0, 2, 16, 17, 18] (.l [0, 2, 8, 16, 17, 18, 27, 28, 29] (.s .z (.s (.s .z .z) (.s (.b [0, 2, 8, 16, 17, 18, 27, 28, 29] (.s .z (.s .z (.s .z .z)))) .z)))))))) .z))))))))
theorem e273 (s53 s274 s275 s290 s358 : Fun) : b273 s53 s274 s275 s290 s358 = denF Tryz.prog (gam [(53, s53), (274, s274), (275, s275), (290, s290), (358, s358)]) Tryz.f273 g273 := by kernel_rfl
def s273 : Fun := b273 s53 s274 s275 s290 s358
theorem F273 : Snd Tryz.prog 273 s273 := snd_of hmix (gcons F53 (gcons F274 (gcons F275 (gcons F290 (gcons F358 gnil))))) Tryz.func273 (by kernel_rfl) (by kernel_rfl) (e273 s53 s274 s275 s290 s358)

/-- obelisk/layout.Fields -/
def b180 (s273 : Fun) : Fun := fun a b => uc a fun a c => uc c fun c d => uz d (mk b (.cons .nils .nil) fun b d => cl (s273 [a, c, (.fn (.func 274) .nil (.cons b .nil))] d) fun _ a => ld1 a b fun b => cK b fun b => .ret b a)
def g180 : Hint := (.s .z (.s .z (.s .z (.s .z .z))))
theorem e180 (s273 : Fun) : b180 s273 = denF Tryz.prog (gam [(273, s273)]) Tryz.f180 g180 := by kernel_rfl
def s180 : Fun := b180 s273
theorem F180 : Snd Tryz.prog 180 s180 := snd_of hmix (gcons F273 gnil) Tryz.func180 (by kernel_rfl) (by kernel_rfl) (e180 s273)

/-- obelisk/layout.Size -/
def b102 (s53 s180 : Fun) : Fun := fun a b => uc a fun a c => uc c fun c d => uz d (cl (s53 [a, c] b) fun b d => blk 0 (eqP b .nilp fun e => ap (gsel (.bool e) false b) fun b => gj (.bool e) false (nck b fun a => .norm [a] d) d fun b d => gj (.bool e) false (fa 2 b fun a => .norm [a] d) d fun b d => gj (.bool e) false (ld1 d b fun a => .norm [a] d) d fun b d => gj (.bool e) false (iAnd b (I 512) fun a => .norm [a] d) d fun b d => gj (.bool e) false (eqN b (I 0) fun a => .norm [(.bool (bnot a))] d) d fun b d => cB (.bool e) fun e => ap (sel e (.bool true) b) fun b => cB b fun b => ifB b (.fail) (eqS c (.str 16 137483774941304901841256615957136564586) fun b => ap (gsel (.bool b) false c) fun e => gj (.bool b) false (eqS e (.str 23 10956966084090815260342509131105871416374185281426186602) fun a => .norm [(.bool a)] d) d fun d e => cB (.bool b) fun b => ap (sel b (.bool true) d) fun b => cB b fun b => ifB b (cK (I 3) fun a => .ret a e) (.norm [a, c] e))) fun a b => uc a fun a c => uc c fun c _ => cl (s180 [a, c] b) fun a b => lenL a fun a => iAdd (I 2) a fun a => cK a fun a => .ret a b)
def g102 : Hint := (.s .z (.s .z (.s (.b [0, 1] (.s .z (.s .z (.s .z (.s (.s .z .z) .z))))) (.s .z .z))))
theorem e102 (s53 s180 : Fun) : b102 s53 s180 = denF Tryz.prog (gam [(53, s53), (180, s180)]) Tryz.f102 g102 := by kernel_rfl
def s102 : Fun := b102 s53 s180
theorem F102 : Snd Tryz.prog 102 s102 := snd_of hmix (gcons F53 (gcons F180 gnil)) Tryz.func102 (by kernel_rfl) (by kernel_rfl) (e102 s53 s180)

/-- obelisk/heap.kind -/
def b182 : Fun := fun a b => uc a fun a c => uz c (mk b (cells a) fun a b => fl 0 b a fun c => eqN c (J 91) fun c => ifB c (.fail) (fl 0 b a fun a => cK a fun a => .ret a b))
def g182 : Hint := (.s .z (.s (.s .z (.s .z .z)) (.s .z .z)))
theorem e182 : b182 = denF Tryz.prog (gam []) Tryz.f182 g182 := by kernel_rfl
def s182 : Fun := b182
theorem F182 : Snd Tryz.prog 182 s182 := snd_of hmix gnil Tryz.func182 (by kernel_rfl) (by kernel_rfl) (e182)

/-- obelisk/layout.Descs -/
def b184 (s273 : Fun) : Fun := fun a b => uc a fun a c => uc c fun c d => uz d (mk b (.cons .nils .nil) fun b d => cl (s273 [a, c, (.fn (.func 275) .nil (.cons b .nil))] d) fun _ a => ld1 a b fun b => cK b fun b => .ret b a)
def g184 : Hint := (.s .z (.s .z (.s .z (.s .z .z))))
theorem e184 (s273 : Fun) : b184 s273 = denF Tryz.prog (gam [(273, s273)]) Tryz.f184 g184 := by kernel_rfl
def s184 : Fun := b184 s273
theorem F184 : Snd Tryz.prog 184 s184 := snd_of hmix (gcons F273 gnil) Tryz.func184 (by kernel_rfl) (by kernel_rfl) (e184 s273)

/-- (*obelisk/heap.Heap).shaped -/
def L103n0 (s102 s181 s182 s183 s184 s185 : Fun) : List AV → Hp → Res := fun a b => uc a fun a c => uc c fun c d => uc d fun d e => uc e fun e f => uc f fun f g => uc g fun g _ => ltN g f fun h => ifB h (blk 2 (ixA 1 e g fun h => ld1 b h fun h => cl (s185 [h] b) fun b h => cT b fun i => cK (nth i 0) fun i => cT b fun b => cK (nth b 1) fun _ => mk h (.cons (J 0) (.cons (.str 0 0) (.cons (I 0) (.cons (J 0) .nil)))) fun b h => stN h 4 b i fun h => fa 1 d fun i => ld1 h i fun j => ldN h 4 b fun b => cl (s182 [b] h) fun b h => ld1 h i fun k => same j k (bld [(false, 1, b)] fun b => mkS h 1 1 b fun b h => ld1 h i fun i => same j i (apd h 1 1 j b fun b h => fa 1 d fun i => st1 h i b fun b => .norm [a, c, d, e, f, g] b))) fun a b => uc a fun a c => uc c fun c d => uc d fun d e => uc e fun e f => uc f fun f g => uc g fun g _ => iAdd g (I 1) fun g => .norm [a, c, d, e, f, g] b) (.exit 1 [a, c, d] b)
def b103 (s102 s181 s182 s183 s184 s185 : Fun) : Fun := fun a b => uc a fun a c => uc c fun c d => uz d (nl 4 b a fun d => lkp kqS b true (I 0) d c fun d => cT d fun e => cK (nth e 0) fun e => cT d fun d => cK (nth d 1) fun d => cB d fun d => ifB d (cK e fun a => .ret a b) (bld [(false, 1, c), (false, 1, .nils), (false, 1, (J 0))] fun d => mk b (.cons (.str 0 0) (.cons .nils (.cons (J 0) .nil))) fun b e => stN e 3 b (.agg d) fun d => jn (cl (s181 [c] d) fun d e => cT d fun f => cK (nth f 0) fun f => cT d fun d => cK (nth d 1) fun d => mk e (.cons (J 0) (.cons (.str 0 0) (.cons (I 0) (.cons (J 0) .nil)))) fun e g => stN g 4 e f fun f => cB d fun d => ifB d (ldN f 4 e fun d => cl (s183 [d] f) fun d e => cl (s182 [d] e) fun d e => fa 2 b fun f => st1 e f d fun d => .norm [a, c, b] d) (nl 0 f a fun d => cl (s102 [d, c] f) fun d e => eqN d (I 0) fun d => ifB d (.fail) (.norm [a, c, b] e))) fun a b => uc a fun a c => uc c fun c d => uc d fun d _ => blk 0 (eqS c (.str 16 137483774941304901841256615957136564586) fun e => ifB e (fa 2 d fun e => st1 b e (J 67) fun b => .norm [a, c, d] b) (eqS c (.str 23 10956966084090815260342509131105871416374185281426186602) fun e => ifB e (bld [(false, 1, (J 76))] fun e => mkS b 1 1 e fun b e => fa 1 d fun f => st1 e f b fun b => .norm [a, c, d] b) (.norm [a, c, d] b))) fun a b => uc a fun a c => uc c fun c d => uc d fun d _ => nl 0 b a fun e => cl (s184 [e, c] b) fun b e => lenL b fun f => blk 1 (lp (L103n0 s102 s181 s182 s183 s184 s185) most [a, c, d, b, f, (I 0)] e) fun a b => uc a fun a c => uc c fun c d => uc d fun d _ => na 3 a fun e => ld1 b e fun f => ldN b 3 d fun d => bld [(true, 3, d)] fun d => mkS b 3 1 d fun b d => ld1 d e fun e => same f e (apd d 3 48 f b fun b d => na 3 a fun e => st1 d e b fun b => nl 4 b a fun d => nl 3 b a fun e => lenL e fun e => iSub e (I 1) fun e => mup kqS b d c e fun b => nl 3 b a fun a => lenL a fun a => iSub a (I 1) fun a => cK a fun a => .ret a b)))
def g103 : Hint := (.s .z (.s (.s .z (.s .z (.s (.s .z .z) .z))) (.s .z (.j [0, 1, 7] (.s .z (.s .z (.s .z (.s .z (.s .z .z))))) (.s (.s .z (.b [0, 1, 7] (.s .z (.s .z (.s .z (.s .z .z)))))) (.s (.s .z (.b [0, 1, 7] (.l [0, 1, 7, 57, 58, 59] (.s .z (.s (.s .z .z) (.s (.b [0, 1, 7, 57, 58, 59] (.s .z (.s .z (.r [0, 1, 2, 3, 4, 5, 6, 7])))) .z)))))) (.s (.r [0, 1, 2, 3, 4, 5, 6, 7, 8, 9, 10]) (.s (.r [0, 1, 2, 3, 4, 5, 6, 7, 8, 9, 10, 11]) (.s .z .z)))))))))
theorem e103 (s102 s181 s182 s183 s184 s185 : Fun) : b103 s102 s181 s182 s183 s184 s185 = denF Tryz.prog (gam [(102, s102), (181, s181), (182, s182), (183, s183), (184, s184), (185, s185)]) Tryz.f103 g103 := by kernel_rfl
def s103 : Fun := b103 s102 s181 s182 s183 s184 s185
theorem F103 : Snd Tryz.prog 103 s103 := snd_of hmix (gcons F102 (gcons F181 (gcons F182 (gcons F183 (gcons F184 (gcons F185 gnil)))))) Tryz.func103 (by kernel_rfl) (by kernel_rfl) (e103 s102 s181 s182 s183 s184 s185)

/-- (*obelisk/heap.Heap).make -/
def b104 : Fun := fun a b => uc a fun a c => uc c fun c d => uc d fun d e => uz e (eqP a .nilp fun e => ap (gsel (.bool e) false c) fun f => gj (.bool e) false (ltN f (I 0) fun a => .norm [(.bool a)] b) b fun b f => cB (.bool e) fun e => ap (sel e (.bool true) b) fun b => ap (gsel b false d) fun e => ap (gsel b false a) fun g => gj b false (nck g fun a => .norm [a] f) f fun f g => gj b false (fa 1 f fun a => .norm [a] g) g fun f g => gj b false (ld1 g f fun a => .norm [a] g) g fun f g => gj b false (lenL f fun a => .norm [a] g) g fun f g => gj b false (iSub (I 2048) f fun a => .norm [a] g) g fun f g => gj b false (ltN f e fun a => .norm [(.bool a)] g) g fun e f => cB b fun b => ap (sel b (.bool true) e) fun b => cB b fun b => ifB b (.fail) (nl 1 f a fun b => lenL b fun b => nl 1 f a fun e => apdZ f 1 8 (.cons (.int 64 (.ofNat 0)) .nil) e d fun d e => na 1 a fun f => st1 e f d fun d => nl 1 d a fun e => iConv 64 c fun c => ixA 1 e b fun e => st1 d e c fun c => nl 2 c a fun d => bld [(false, 1, b)] fun e => mkS c 1 1 e fun c e => apd e 1 8 d c fun c d => na 2 a fun a => st1 d a c fun a => iAdd b (I 1) fun b => cK b fun b => .ret b a))
def g104 : Hint := (.s .z (.s (.s .z (.s .z .z)) (.s .z (.s .z (.s .z (.s .z (.s .z .z)))))))
theorem e104 : b104 = denF Tryz.prog (gam []) Tryz.f104 g104 := by kernel_rfl
def s104 : Fun := b104
theorem F104 : Snd Tryz.prog 104 s104 := snd_of hmix gnil Tryz.func104 (by kernel_rfl) (by kernel_rfl) (e104)

/-- (*obelisk/heap.Heap).Object -/
def b67 (s102 s103 s104 : Fun) : Fun := fun a b => uc a fun a c => uc c fun c d => uz d (eqP a .nilp fun d => ap (gsel (.bool d) false c) fun e => gj (.bool d) false (eqS e (.str 16 137483774941304901841256615957136564586) fun a => .norm [(.bool a)] b) b fun b e => cB (.bool d) fun d => ap (sel d (.bool true) b) fun b => ap (gsel b false a) fun d => gj b false (nck d fun a => .norm [a] e) e fun d e => gj b false (fa 0 d fun a => .norm [a] e) e fun d e => gj b false (ld1 e d fun a => .norm [a] e) e fun d e => ap (gsel b false c) fun f => gj b false (cl (s102 [d, f] e) fun a b => .norm [a] b) e fun d e => gj b false (eqN d (I 0) fun a => .norm [(.bool a)] e) e fun d e => cB b fun b => ap (sel b (.bool true) d) fun b => cB b fun b => ifB b (.fail) (cl (s103 [a, c] e) fun b c => nl 3 c a fun d => ixA 3 d b fun d => fl 1 c d fun d => lenL d fun d => iAdd (I 2) d fun d => cl (s104 [a, b, d] c) fun a b => cK a fun a => .ret a b))
def g67 : Hint := (.s .z (.s (.s .z (.s .z .z)) (.s .z (.s .z .z))))
theorem e67 (s102 s103 s104 : Fun) : b67 s102 s103 s104 = denF Tryz.prog (gam [(102, s102), (103, s103), (104, s104)]) Tryz.f67 g67 := by kernel_rfl
def s67 : Fun := b67 s102 s103 s104
theorem F67 : Snd Tryz.prog 67 s67 := snd_of hmix (gcons F102 (gcons F103 (gcons F104 gnil))) Tryz.func67 (by kernel_rfl) (by kernel_rfl) (e67 s102 s103 s104)

/-- obelisk/builtin.errors -/
def b105 : Fun := fun a b => uz a (bld [(false, 1, (.str 0 0)), (false, 1, (.str 16 152110657718978279455601641635771935811)), (false, 1, (.str 28 12051447909910278778312152063279872749094476966559001531542762909269)), (false, 1, (.str 20 653310300275978856350593455039349299395627806542)), (false, 1, (.str 21 167247436870678531924301691601042651593469849594947)), (false, 1, (.str 28 12051447909909413763619582140485943590480038684076029693318748401225)), (false, 1, (.str 12 35416022343318949844837361996)), (false, 1, (.str 11 138343837278611633903658326)), (false, 1, (.str 16 152110657718958988440285145039719591758)), (false, 1, (.str 17 38940328376053504681862695798487102222158)), (false, 1, (.str 18 9968724064270886855227507928748569916107849)), (false, 1, (.str 19 2551993360453042482830553632714320002684248641)), (false, 1, (.str 18 9968724064270489481390846821429310009863753)), (false, 1, (.str 27 47075968398088508537271409175181291309746923814338980553825679429)), (false, 1, (.str 18 9968724064271202538414452835499149063451731)), (false, 1, (.str 16 152110657718984404401460316633220543823)), (false, 1, (.str 19 2462787319999361794871654118981135912292414017)), (false, 1, (.str 20 630473553919836619487161569457646481494344758606)), (false, 1, (.str 30 762195757917886585679528552064605478978283727019219514060569189169656385)), (false, 1, (.str 26 177462528906270532328520951914837980838566069556787747611960654)), (false, 1, (.str 18 9620262968747507011217713212109873599310915)), (false, 1, (.str 19 2462787319999361794871663729378703954823770689)), (false, 1, (.str 28 11630184294401345606681948579338514947451502391337372169481120148553)), (false, 1, (.str 31 195122114026978965933959309328539002618440634116920195599505692691906327635))] fun a => mkS b 1 24 a fun a b => cK a fun a => .ret a b)
def g105 : Hint := (.s .z (.s .z .z))
theorem e105 : b105 = denF Tryz.prog (gam []) Tryz.f105 g105 := by kernel_rfl
def s105 : Fun := b105
theorem F105 : Snd Tryz.prog 105 s105 := snd_of hmix gnil Tryz.func105 (by kernel_rfl) (by kernel_rfl) (e105)

/-- obelisk/builtin.Name -/
def b68 (s105 : Fun) : Fun := fun a b => uc a fun a c => uz c (cl (s105 [] b) fun b c => ltN a (I 1) fun d => ap (gsel (.bool d) false a) fun e => ap (gsel (.bool d) false b) fun f => gj (.bool d) false (lenL f fun a => .norm [a] c) c fun c f => gj (.bool d) false (ltN e c fun a => .norm [(.bool (bnot a))] f) f fun c e => cB (.bool d) fun d => ap (sel d (.bool true) c) fun c => cB c fun c => ifB c (.fail) (ixA 1 b a fun a => ld1 e a fun a => sCat (.str 10 223859193091833076277610) a fun a => cK a fun a => .ret a e))
def g68 : Hint := (.s .z (.s .z (.s (.s .z (.s .z .z)) (.s .z .z))))
theorem e68 (s105 : Fun) : b68 s105 = denF Tryz.prog (gam [(105, s105)]) Tryz.f68 g68 := by kernel_rfl
def s68 : Fun := b68 s105
theorem F68 : Snd Tryz.prog 68 s68 := snd_of hmix (gcons F105 gnil) Tryz.func68 (by kernel_rfl) (by kernel_rfl) (e68 s105)

/-- (*obelisk/interp.Machine).raise$1 -/
def b214 (s67 s68 : Fun) : Fun := fun a b => uc a fun a c => uc c fun c d => uz d (ld1 b a fun d => na 2 d fun e => ld1 b e fun f => ld1 b c fun c => cl (s68 [c] b) fun b c => ld1 c e fun e => same f e (ld1 c a fun e => same d e (cl (s67 [f, b] c) fun b c => ld1 c a fun a => same d a (cK b fun a => .ret a c))))
def g214 : Hint := (.s .z (.s (.r [0, 1, 2, 3, 4, 5, 6, 7]) .z))
theorem e214 (s67 s68 : Fun) : b214 s67 s68 = denF Tryz.prog (gam [(67, s67), (68, s68)]) Tryz.f214 g214 := by kernel_rfl
def s214 : Fun := b214 s67 s68
theorem F214 : Snd Tryz.prog 214 s214 := snd_of hmix (gcons F67 (gcons F68 gnil)) Tryz.func214 (by kernel_rfl) (by kernel_rfl) (e214 s67 s68)

/-- obelisk/layout.Array -/
def b356 (s342 : Fun) : Fun := fun a b => uc a fun a c => uc c fun c d => uz d (cl (s342 [a] b) fun a b => eqN a (I 0) fun d => ap (gsel (.bool d) false c) fun e => gj (.bool d) false (ltN e (I 0) fun a => .norm [(.bool a)] b) b fun b e => cB (.bool d) fun d => ap (sel d (.bool true) b) fun b => ap (gsel b false c) fun d => gj b false (ltN (I 2147483647) d fun a => .norm [(.bool a)] e) e fun d e => cB b fun b => ap (sel b (.bool true) d) fun b => cB b fun b => ifB b (.fail) (iMul c a fun a => iAdd a (I 8) fun a => iSub a (I 1) fun a => iQuo a (I 8) fun a => iAdd (I 3) a fun a => cK a fun a => .ret a e))
def g356 : Hint := (.s .z (.s .z (.s (.s .z (.s .z .z)) (.s .z .z))))
theorem e356 (s342 : Fun) : b356 s342 = denF Tryz.prog (gam [(342, s342)]) Tryz.f356 g356 := by kernel_rfl
def s356 : Fun := b356 s342
theorem F356 : Snd Tryz.prog 356 s356 := snd_of hmix (gcons F342 gnil) Tryz.func356 (by kernel_rfl) (by kernel_rfl) (e356 s342)

/-- (*obelisk/heap.Heap).Text -/
def L269n0 (s103 s104 s271 s356 : Fun) : List AV → Hp → Res := fun a b => uc a fun a c => uc c fun c d => uc d fun d e => uc e fun e f => uc f fun f _ => ltN f e fun g => ifB g (blk 1 (ixA 1 d f fun g => ld1 b g fun g => iConv 63 g fun g => cl (s271 [a, c, f, (J 67), g] b) fun _ b => .norm [a, c, d, e, f] b) fun a b => uc a fun a c => uc c fun c d => uc d fun d e => uc e fun e f => uc f fun f _ => iAdd f (I 1) fun f => .norm [a, c, d, e, f] b) (.exit 0 [c] b)
def b269 (s103 s104 s271 s356 : Fun) : Fun := fun a b => uc a fun a c => uc c fun c d => uz d (eqP a .nilp fun d => ifB d (.fail) (cl (s103 [a, (.str 16 137483774941304901841256615957136564586)] b) fun b d => lenL c fun e => cl (s356 [(J 67), e] d) fun d e => cl (s104 [a, b, d] e) fun b d => jn (ltN (I 0) b fun e => ifB e (nl 1 d a fun e => iAdd b (I 1) fun f => lenL c fun g => iConv 64 g fun g => ixA 1 e f fun e => st1 d e g fun d => lenL c fun e => blk 0 (lp (L269n0 s103 s104 s271 s356) most [a, b, c, e, (I 0)] d) fun a b => uc a fun a _ => .norm [a] b) (.norm [b] d)) fun a b => uc a fun a _ => cK a fun a => .ret a b))
def g269 : Hint := (.s .z (.s (.s .z (.s .z .z)) (.s .z (.j [5] (.s .z (.s (.s .z (.s .z (.b [5] (.l [0, 5, 29, 30, 31] (.s .z (.s (.s .z .z) (.s (.b [0, 5, 29, 30, 31] (.s .z .z)) .z))))))) .z)) (.s .z .z)))))
theorem e269 (s103 s104 s271 s356 : Fun) : b269 s103 s104 s271 s356 = denF Tryz.prog (gam [(103, s103), (104, s104), (271, s271), (356, s356)]) Tryz.f269 g269 := by kernel_rfl
def s269 : Fun := b269 s103 s104 s271 s356
theorem F269 : Snd Tryz.prog 269 s269 := snd_of hmix (gcons F103 (gcons F104 (gcons F271 (gcons F356 gnil)))) Tryz.func269 (by kernel_rfl) (by kernel_rfl) (e269 s103 s104 s271 s356)

/-- (*obelisk/interp.Machine).intern$1 -/
def b297 (s269 : Fun) : Fun := fun a b => uc a fun a c => uc c fun c d => uz d (ld1 b a fun d => nl 2 b d fun e => ld1 b c fun c => cl (s269 [e, c] b) fun b c => ld1 c a fun a => same d a (cK b fun a => .ret a c))
def g297 : Hint := (.s .z (.s (.r [0, 1, 2, 3, 4, 5, 6]) .z))
theorem e297 (s269 : Fun) : b297 s269 = denF Tryz.prog (gam [(269, s269)]) Tryz.f297 g297 := by kernel_rfl
def s297 : Fun := b297 s269
theorem F297 : Snd Tryz.prog 297 s297 := snd_of hmix (gcons F269 gnil) Tryz.func297 (by kernel_rfl) (by kernel_rfl) (e297 s269)

/-- (*obelisk/interp.Machine).fresh$1 -/
def b397 (s67 : Fun) : Fun := fun a b => uc a fun a c => uc c fun c d => uz d (ld1 b a fun d => nl 2 b d fun e => ld1 b c fun c => cl (s67 [e, c] b) fun b c => ld1 c a fun a => same d a (cK b fun a => .ret a c))
def g397 : Hint := (.s .z (.s (.r [0, 1, 2, 3, 4, 5, 6]) .z))
theorem e397 (s67 : Fun) : b397 s67 = denF Tryz.prog (gam [(67, s67)]) Tryz.f397 g397 := by kernel_rfl
def s397 : Fun := b397 s67
theorem F397 : Snd Tryz.prog 397 s397 := snd_of hmix (gcons F67 gnil) Tryz.func397 (by kernel_rfl) (by kernel_rfl) (e397 s67)

/-- (*obelisk/heap.Heap).Array -/
def b399 (s103 s104 s181 s182 s183 s356 : Fun) : Fun := fun a b => uc a fun a c => uc c fun c d => uc d fun d e => uz e (cl (s181 [c] b) fun b e => cT b fun f => cK (nth f 0) fun f => cT b fun b => cK (nth b 1) fun b => mk e (.cons (J 0) (.cons (.str 0 0) (.cons (I 0) (.cons (J 0) .nil)))) fun e g => stN g 4 e f fun f => ldN f 4 e fun e => cl (s183 [e] f) fun e f => cl (s182 [e] f) fun e f => cl (s356 [e, d] f) fun e f => eqP a .nilp fun g => ap (gsel (.bool g) false b) fun b => gj (.bool g) false (bNot b fun a => .norm [a] f) f fun b f => cB (.bool g) fun g => ap (sel g (.bool true) b) fun b => ap (gsel b false e) fun g => gj b false (ltN g (I 0) fun a => .norm [(.bool a)] f) f fun f g => cB b fun b => ap (sel b (.bool true) f) fun b => cB b fun b => ifB b (.fail) (cl (s103 [a, c] g) fun b c => cl (s104 [a, b, e] c) fun b c => jn (ltN (I 0) b fun e => ifB e (nl 1 c a fun a => iAdd b (I 1) fun e => iConv 64 d fun d => ixA 1 a e fun a => st1 c a d fun a => .norm [b] a) (.norm [b] c)) fun a b => uc a fun a _ => cK a fun a => .ret a b))
def g399 : Hint := (.s .z (.s .z (.s .z (.s (.s .z (.s .z .z)) (.s .z (.j [10] (.s .z (.s .z .z)) (.s .z .z)))))))
theorem e399 (s103 s104 s181 s182 s183 s356 : Fun) : b399 s103 s104 s181 s182 s183 s356 = denF Tryz.prog (gam [(103, s103), (104, s104), (181, s181), (182, s182), (183, s183), (356, s356)]) Tryz.f399 g399 := by kernel_rfl
def s399 : Fun := b399 s103 s104 s181 s182 s183 s356
theorem F399 : Snd Tryz.prog 399 s399 := snd_of hmix (gcons F103 (gcons F104 (gcons F181 (gcons F182 (gcons F183 (gcons F356 gnil)))))) Tryz.func399 (by kernel_rfl) (by kernel_rfl) (e399 s103 s104 s181 s182 s183 s356)

/-- (*obelisk/interp.Machine).array$1 -/
def b398 (s399 : Fun) : Fun := fun a b => uc a fun a c => uc c fun c d => uc d fun d e => uz e (ld1 b a fun e => nl 2 b e fun f => ld1 b c fun c => ld1 b d fun d => cl (s399 [f, c, d] b) fun b c => ld1 c a fun a => same e a (cK b fun a => .ret a c))
def g398 : Hint := (.s .z (.s (.r [0, 1, 2, 3, 4, 5, 6, 7]) .z))
theorem e398 (s399 : Fun) : b398 s399 = denF Tryz.prog (gam [(399, s399)]) Tryz.f398 g398 := by kernel_rfl
def s398 : Fun := b398 s399
theorem F398 : Snd Tryz.prog 398 s398 := snd_of hmix (gcons F399 gnil) Tryz.func398 (by kernel_rfl) (by kernel_rfl) (e398 s399)

/-- (*obelisk/interp.Machine).make -/
def b213 (s59 s214 s297 s397 s398 : Fun) : Fun := fun a b => uc a fun _ a => uc a fun a c => uz c (cl (dyn (gam [(59, s59), (214, s214), (297, s297), (397, s397), (398, s398)]) a [] b) fun a b => jn (eqN a (I 0) fun c => ifB c (.fail) (.norm [a] b)) fun a b => uc a fun a _ => cK a fun a => .ret a b)
def g213 : Hint := (.s .z (.s .z (.j [5] (.s .z (.s .z .z)) (.s .z .z))))
theorem e213 (s59 s214 s297 s397 s398 : Fun) : b213 s59 s214 s297 s397 s398 = denF Tryz.prog (gam [(59, s59), (214, s214), (297, s297), (397, s397), (398, s398)]) Tryz.f213 g213 := by kernel_rfl
def s213 : Fun := b213 s59 s214 s297 s397 s398
theorem F213 : Snd Tryz.prog 213 s213 := snd_of hmix (gcons F59 (gcons F214 (gcons F297 (gcons F397 (gcons F398 gnil))))) Tryz.func213 (by kernel_rfl) (by kernel_rfl) (e213 s59 s214 s297 s397 s398)

/-- (*obelisk/interp.Machine).raise -/
def b122 (s213 : Fun) : Fun := fun a b => uc a fun a c => uc c fun c d => uz d (mk b (cells a) fun a b => mk b (cells c) fun b c => ld1 c b fun d => blk 0 (eqN d (I 14) fun e => ifB e (.fail) (eqN d (I 15) fun d => ifB d (.fail) (ld1 c a fun d => cl (s213 [d, (.fn (.func 214) .nil (.cons a (.cons b .nil)))] c) fun b c => jn (eqN b (I 0) fun d => ifB d (ld1 c a fun b => nl 12 c b fun b => .norm [a, b] c) (.norm [a, b] c)) fun a b => uc a fun a c => uc c fun c _ => ld1 b a fun a => na 13 a fun a => st1 b a c fun a => .norm [] a))) fun _ a => .ret (.tup .nil) a)
def g122 : Hint := (.s .z (.s .z (.b [] (.s .z (.s .z (.s .z (.s .z (.s .z (.j [2, 4] (.s .z (.s .z .z)) .z)))))))))
theorem e122 (s213 : Fun) : b122 s213 = denF Tryz.prog (gam [(213, s213)]) Tryz.f122 g122 := by kernel_rfl
def s122 : Fun := b122 s213
theorem F122 : Snd Tryz.prog 122 s122 := snd_of hmix (gcons F213 gnil) Tryz.func122 (by kernel_rfl) (by kernel_rfl) (e122 s213)

/-- (*obelisk/heap.Heap).Chars -/
def L173n0 (s130 s142 s243 : Fun) : List AV → Hp → Res := fun a b => uc a fun a c => uc c fun c d => uc d fun d e => uc e fun e f => uc f fun f _ => ltN f e fun g => ifB g (blk 1 (cl (s243 [c, f, (J 67)] b) fun b g => cT b fun h => cK (nth h 0) fun h => cT b fun b => cK (nth b 1) fun b => nl 1 g a fun i => ixA 1 i h fun h => ld1 g h fun h => iShr h b fun b => iConv 16 b fun b => ixA 1 d f fun h => st1 g h b fun b => .norm [a, c, d, e, f] b) fun a b => uc a fun a c => uc c fun c d => uc d fun d e => uc e fun e f => uc f fun f _ => iAdd f (I 1) fun f => .norm [a, c, d, e, f] b) (.exit 0 [d] b)
def b173 (s130 s142 s243 : Fun) : Fun := fun a b => uc a fun a c => uc c fun c d => uz d (cl (s130 [a, c] b) fun b d => eqS b (.str 16 137483774941304901841256615957136564586) fun b => ifB (bnot b) (.fail) (cl (s142 [a, c] d) fun b d => mkM d (.cons (.int 16 (.ofNat 0)) .nil) 2 b b fun b d => lenL b fun e => blk 0 (lp (L173n0 s130 s142 s243) most [a, c, b, e, (I 0)] d) fun a b => uc a fun a _ => cK a fun a => .ret a b))
def g173 : Hint := (.s .z (.s (.s .z (.s .z .z)) (.s .z (.s (.s .z (.b [5] (.l [0, 1, 5, 18, 19] (.s .z (.s (.s .z .z) (.s (.b [0, 1, 5, 18, 19] (.s .z (.s .z .z))) .z)))))) (.s .z .z)))))
theorem e173 (s130 s142 s243 : Fun) : b173 s130 s142 s243 = denF Tryz.prog (gam [(130, s130), (142, s142), (243, s243)]) Tryz.f173 g173 := by kernel_rfl
def s173 : Fun := b173 s130 s142 s243
theorem F173 : Snd Tryz.prog 173 s173 := snd_of hmix (gcons F130 (gcons F142 (gcons F243 gnil))) Tryz.func173 (by kernel_rfl) (by kernel_rfl) (e173 s130 s142 s243)

/-- obelisk/mutf.Encode -/
def L354n0 : List AV → Hp → Res := fun a b => uc a fun a c => uc c fun c d => uc d fun d e => uc e fun e _ => ltN e d fun f => ifB f (blk 1 (ixA 1 c e fun f => ld1 b f fun f => blk 2 (ltN (.int 16 (.ofNat 0)) f fun g => ap (gsel (.bool g) true f) fun h => gj (.bool g) true (ltN h (.int 16 (.ofNat 128)) fun a => .norm [(.bool a)] b) b fun b h => cB (.bool g) fun g => ap (sel g b (.bool false)) fun b => cB b fun b => ifB b (iConv 8 f fun b => bld [(false, 1, b)] fun b => mkS h 1 1 b fun b f => apd f 1 1 a b fun a b => .norm [a, c, d, e] b) (.fail)) fun a b => uc a fun a c => uc c fun c d => uc d fun d e => uc e fun e _ => .norm [a, c, d, e] b) fun a b => uc a fun a c => uc c fun c d => uc d fun d e => uc e fun e _ => iAdd e (I 1) fun e => .norm [a, c, d, e] b) (.exit 0 [a] b)
def b354 : Fun := fun a b => uc a fun a c => uz c (lenL a fun c => blk 0 (lp L354n0 most [.nils, a, c, (I 0)] b) fun a b => uc a fun a _ => b2s b a fun a => cK a fun a => .ret a b)
def g354 : Hint := (.s .z (.s .z (.s (.s .z (.b [3] (.l [3, 6, 7, 8] (.s .z (.s (.s .z .z) (.s (.b [3, 6, 7, 8] (.s .z (.b [3, 6, 7, 8] (.s .z (.s .z .z))))) .z)))))) (.s .z .z))))
theorem e354 : b354 = denF Tryz.prog (gam []) Tryz.f354 g354 := by kernel_rfl
def s354 : Fun := b354
theorem F354 : Snd Tryz.prog 354 s354 := snd_of hmix gnil Tryz.func354 (by kernel_rfl) (by kernel_rfl) (e354)

/-- (*obelisk/strings.Table).Find -/
def b296 (s354 : Fun) : Fun := fun a b => uc a fun a c => uc c fun c d => uz d (eqP a .nilp fun d => ifB d (.fail) (na 2 a fun a => ld1 b a fun d => cl (s354 [c] b) fun b c => ld1 c a fun a => same d a (lkp kqS c true (I 0) d b fun a => cT a fun b => cK (nth b 0) fun _ => cT a fun a => cK (nth a 1) fun a => cB a fun a => ifB a (.fail) (cK (I 0) fun a => .ret a c))))
def g296 : Hint := (.s .z (.s (.s .z (.s .z .z)) (.s (.s (.r [0, 1, 2, 3, 4, 5, 6, 7, 8, 9, 10, 11]) (.s .z (.s .z .z))) (.s .z .z))))
theorem e296 (s354 : Fun) : b296 s354 = denF Tryz.prog (gam [(354, s354)]) Tryz.f296 g296 := by kernel_rfl
def s296 : Fun := b296 s354
theorem F296 : Snd Tryz.prog 296 s296 := snd_of hmix (gcons F354 gnil) Tryz.func296 (by kernel_rfl) (by kernel_rfl) (e296 s354)

/-- (*obelisk/strings.Table).Add -/
def b266 (s130 s173 s296 s354 : Fun) : Fun := fun a b => uc a fun a c => uc c fun c d => uz d (eqP a .nilp fun d => ap (gsel (.bool d) false a) fun e => gj (.bool d) false (nck e fun a => .norm [a] b) b fun b e => gj (.bool d) false (fa 0 b fun a => .norm [a] e) e fun b e => gj (.bool d) false (ld1 e b fun a => .norm [a] e) e fun b e => ap (gsel (.bool d) false c) fun f => gj (.bool d) false (cl (s130 [b, f] e) fun a b => .norm [a] b) e fun b e => gj (.bool d) false (eqS b (.str 16 137483774941304901841256615957136564586) fun a => .norm [(.bool (bnot a))] e) e fun b e => cB (.bool d) fun d => ap (sel d (.bool true) b) fun b => cB b fun b => ifB b (.fail) (nl 0 e a fun b => cl (s173 [b, c] e) fun b d => cl (s296 [a, b] d) fun d e => eqN d (I 0) fun d => ifB (bnot d) (.fail) (na 2 a fun d => ld1 e d fun f => na 1 a fun g => ld1 e g fun h => lenL h fun i => cl (s354 [b] e) fun b e => ld1 e g fun g => same h g (ld1 e d fun d => same f d (mup kqS e f b i fun b => nl 1 b a fun d => bld [(false, 1, c)] fun e => mkS b 1 1 e fun b e => apd e 1 8 d b fun b d => na 1 a fun a => st1 d a b fun a => cK c fun b => .ret b a)))))
def g266 : Hint := (.s .z (.s (.s .z (.s .z .z)) (.s .z (.s (.s .z (.s .z (.s .z .z))) (.s (.r [0, 1, 2, 3, 4, 6, 7, 8, 9, 10, 5, 11]) (.s .z (.s .z .z)))))))
theorem e266 (s130 s173 s296 s354 : Fun) : b266 s130 s173 s296 s354 = denF Tryz.prog (gam [(130, s130), (173, s173), (296, s296), (354, s354)]) Tryz.f266 g266 := by kernel_rfl
def s266 : Fun := b266 s130 s173 s296 s354
theorem F266 : Snd Tryz.prog 266 s266 := snd_of hmix (gcons F130 (gcons F173 (gcons F296 (gcons F354 gnil)))) Tryz.func266 (by kernel_rfl) (by kernel_rfl) (e266 s130 s173 s296 s354)

/-- (*obelisk/interp.Machine).intern -/
def b216 (s213 s259 s266 s277 s296 : Fun) : Fun := fun a b => uc a fun a c => uc c fun c d => uc d fun d e => uz e (mk b (cells a) fun a b => ixA 5 c d fun d => fl 3 b d fun d => cl (s277 [c, d] b) fun b c => cT b fun d => cK (nth d 0) fun d => cT b fun b => cK (nth b 1) fun _ => cl (s259 [d] c) fun b c => cT b fun d => cK (nth d 0) fun d => cT b fun b => cK (nth b 1) fun _ => mk c (.cons .nils .nil) fun b c => st1 c b d fun c => ld1 c a fun d => nl 3 c d fun e => ld1 c b fun f => cl (s296 [e, f] c) fun c e => ld1 e a fun f => same d f (eqN c (I 0) fun c => ifB (bnot c) (.fail) (ld1 e a fun c => cl (s213 [c, (.fn (.func 297) .nil (.cons a (.cons b .nil)))] e) fun b c => eqN b (I 0) fun d => ifB d (.fail) (ld1 c a fun a => nl 3 c a fun a => cl (s266 [a, b] c) fun a b => cK a fun a => .ret a b))))
def g216 : Hint := (.s .z (.s .z (.s .z (.s (.s (.r [0, 1, 2, 3, 4, 5, 6]) (.s .z (.s .z .z))) (.s .z (.s (.s .z (.s .z .z)) (.s .z .z)))))))
theorem e216 (s213 s259 s266 s277 s296 : Fun) : b216 s213 s259 s266 s277 s296 = denF Tryz.prog (gam [(213, s213), (259, s259), (266, s266), (277, s277), (296, s296)]) Tryz.f216 g216 := by kernel_rfl
def s216 : Fun := b216 s213 s259 s266 s277 s296
theorem F216 : Snd Tryz.prog 216 s216 := snd_of hmix (gcons F213 (gcons F259 (gcons F266 (gcons F277 (gcons F296 gnil))))) Tryz.func216 (by kernel_rfl) (by kernel_rfl) (e216 s213 s259 s266 s277 s296)

/-- (*obelisk/interp.Machine).prepare -/
def L123n0 (s216 : Fun) : List AV → Hp → Res := fun a b => uc a fun a c => uc c fun c d => uc d fun d e => uc e fun e f => uc f fun f g => uc g fun g _ => ltN g f fun h => ifB h (blk 1 (ixA 4 e g fun h => ldN b 4 h fun h => mk b (.cons (I 0) (.cons (.str 0 0) (.cons (.str 0 0) (.cons (I 0) .nil)))) fun b i => stN i 4 b h fun h => fl 3 h b fun i => eqN i (I 0) fun i => ifB i (.exit 1 [a, c, d, e, f, g] h) (na 1 c fun i => ld1 h i fun j => fa 3 b fun k => ld1 h k fun l => ixA 5 j l fun m => ldN h 5 m fun n => mk h (.cons (I 0) (.cons (.str 0 0) (.cons (I 0) (.cons (I 0) (.cons (I 0) .nil))))) fun h o => ldN o 5 m fun m => same n m (ld1 o k fun k => same l k (ld1 o i fun i => same j i (stN o 5 h n fun i => fl 0 i h fun h => eqN h (I 8) fun h => ifB (bnot h) (.fail) (nl 1 i c fun h => fl 3 i b fun b => cl (s216 [a, h, b] i) fun b h => eqN b (I 0) fun i => ifB i (.fail) (nl 1 h d fun i => ixA 1 i g fun i => st1 h i b fun b => .norm [a, c, d, e, f, g] b))))))) fun a b => uc a fun a c => uc c fun c d => uc d fun d e => uc e fun e f => uc f fun f g => uc g fun g _ => iAdd g (I 1) fun g => .norm [a, c, d, e, f, g] b) (.exit 0 [] b)
def b123 (s216 : Fun) : Fun := fun a b => uc a fun a c => uc c fun c d => uc d fun d e => uz e (nl 6 b c fun e => lenL e fun e => mkM b (.cons (I 0) .nil) 8 e e fun b e => na 1 d fun f => st1 e f b fun b => nl 6 b c fun e => lenL e fun f => blk 0 (lp (L123n0 s216) most [a, c, d, e, f, (I 0)] b) fun _ a => cK (.bool true) fun b => .ret b a)
def g123 : Hint := (.s .z (.s .z (.s (.s .z (.b [] (.l [0, 1, 2, 23, 24, 25] (.s .z (.s (.s .z .z) (.s (.b [0, 1, 2, 23, 24, 25] (.s .z (.s (.s .z (.s .z .z)) (.s (.s (.r [0, 1, 2, 3, 4, 5, 6, 7, 8, 9]) (.s .z (.s .z .z))) (.s (.r [0, 1, 2, 3, 4, 5, 6, 7, 8]) (.s (.s .z (.s .z .z)) .z)))))) .z)))))) (.s .z .z))))
theorem e123 (s216 : Fun) : b123 s216 = denF Tryz.prog (gam [(216, s216)]) Tryz.f123 g123 := by kernel_rfl
def s123 : Fun := b123 s216
theorem F123 : Snd Tryz.prog 123 s123 := snd_of hmix (gcons F216 gnil) Tryz.func123 (by kernel_rfl) (by kernel_rfl) (e123 s216)

/-- (*obelisk/stack.Stack).Enter -/
def b219 : Fun := fun a b => uc a fun a c => uc c fun c d => uc d fun d e => uc e fun e f => uc f fun f g => uz g (eqP a .nilp fun g => ap (gsel (.bool g) false c) fun h => gj (.bool g) false (ltN h (I 0) fun a => .norm [(.bool a)] b) b fun b h => cB (.bool g) fun g => ap (sel g (.bool true) b) fun b => ap (gsel b false d) fun g => gj b false (ltN g (I 0) fun a => .norm [(.bool a)] h) h fun g h => cB b fun b => ap (sel b (.bool true) g) fun b => ap (gsel b false e) fun g => gj b false (ltN g (I 0) fun a => .norm [(.bool a)] h) h fun g h => cB b fun b => ap (sel b (.bool true) g) fun b => ap (gsel b false f) fun g => gj b false (ltN g (I 0) fun a => .norm [(.bool a)] h) h fun g h => cB b fun b => ap (sel b (.bool true) g) fun b => ap (gsel b false e) fun g => gj b false (ltN (I 2048) g fun a => .norm [(.bool a)] h) h fun g h => cB b fun b => ap (sel b (.bool true) g) fun b => ap (gsel b false f) fun g => gj b false (ltN (I 2048) g fun a => .norm [(.bool a)] h) h fun g h => cB b fun b => ap (sel b (.bool true) g) fun b => cB b fun b => ifB b (.fail) (iAdd e f fun b => iAdd b (I 4) fun b => nl 3 h a fun g => iSub (I 2048) g fun g => ltN g b fun g => ifB g (.fail) (nl 3 h a fun g => iAdd g b fun b => na 3 a fun g => st1 h g b fun b => na 2 a fun g => ld1 b g fun h => na 0 a fun i => ld1 b i fun j => lenL j fun k => bld [(false, 1, c), (false, 1, d), (false, 1, (I 0)), (false, 1, k), (false, 1, e), (false, 1, f), (false, 1, (I 0))] fun c => bld [(true, 7, (.agg c))] fun c => mkS b 7 1 c fun b c => ld1 c i fun d => same j d (ld1 c g fun d => same h d (apd c 7 56 h b fun b c => ld1 c i fun d => same j d (na 2 a fun d => st1 c d b fun b => nl 0 b a fun c => apdZ b 1 8 (.cons (I 0) .nil) c e fun b c => na 0 a fun d => st1 c d b fun b => nl 1 b a fun c => apdZ b 1 1 (.cons (.bool false) .nil) c e fun b c => na 1 a fun a => st1 c a b fun a => cK (.bool true) fun b => .ret b a))))))
def g219 : Hint := (.s .z (.s (.s .z (.s .z .z)) (.s .z (.s (.s .z (.s .z .z)) (.s .z (.s (.r [0, 1, 2, 3, 4, 5, 6, 7, 8, 9, 10, 11, 12, 13, 14, 15, 16, 17, 18, 19]) (.s .z (.s .z (.s .z .z)))))))))
theorem e219 : b219 = denF Tryz.prog (gam []) Tryz.f219 g219 := by kernel_rfl
def s219 : Fun := b219
theorem F219 : Snd Tryz.prog 219 s219 := snd_of hmix gnil Tryz.func219 (by kernel_rfl) (by kernel_rfl) (e219)

/-- (*obelisk/interp.Machine).number -/
def b220 : Fun := fun a b => uc a fun a c => uc c fun c d => uz d (nl 8 b a fun d => lkp kqS b true (I 0) d c fun d => cT d fun e => cK (nth e 0) fun e => cT d fun d => cK (nth d 1) fun d => cB d fun d => ifB d (cK e fun a => .ret a b) (nl 8 b a fun d => nl 8 b a fun e => lenM b e fun e => mup kqS b d c e fun b => nl 8 b a fun a => lenM b a fun a => iSub a (I 1) fun a => cK a fun a => .ret a b))
def g220 : Hint := (.s .z (.s (.s .z (.s .z (.s (.s .z .z) .z))) (.s (.r [0, 1, 2, 3, 4, 5, 6, 7, 8, 9, 10]) (.s .z .z))))
theorem e220 : b220 = denF Tryz.prog (gam []) Tryz.f220 g220 := by kernel_rfl
def s220 : Fun := b220
theorem F220 : Snd Tryz.prog 220 s220 := snd_of hmix gnil Tryz.func220 (by kernel_rfl) (by kernel_rfl) (e220)

/-- (*obelisk/interp.Machine).push -/
def b126 (s53 s219 s220 : Fun) : Fun := fun a b => uc a fun a c => uc c fun c d => uc d fun d e => uc e fun e f => uc f fun f g => uz g (nl 0 b a fun g => cl (s53 [g, d] b) fun b g => nl 7 g b fun h => ixA 9 h e fun h => fa 4 h fun h => ldN g 5 h fun h => mk g (.cons (I 0) (.cons (I 0) (.cons .nils (.cons .nils (.cons .nils .nil))))) fun g i => stN i 5 g h fun h => na 5 a fun i => ld1 h i fun j => fa 1 g fun k => ld1 h k fun l => fa 0 g fun g => ld1 h g fun m => cl (s220 [a, d] h) fun d h => ld1 h g fun g => same m g (ld1 h k fun g => same l g (ld1 h i fun g => same j g (cl (s219 [j, d, e, l, m] h) fun d g => bNot d fun d => cB d fun d => ifB d (.fail) (nl 6 g a fun d => bld [(false, 1, c), (false, 1, (I 0)), (false, 1, b), (false, 1, e), (false, 1, (I 0)), (false, 1, f)] fun b => mk g (cells (.agg b)) fun b c => bld [(false, 1, b)] fun b => mkS c 1 1 b fun b c => apd c 1 8 d b fun b c => na 6 a fun a => st1 c a b fun a => cK (.bool true) fun b => .ret b a)))))
def g126 : Hint := (.s .z (.s .z (.s .z (.s (.s (.r [0, 1, 2, 3, 4, 5, 7, 8, 9, 10, 11, 6, 12, 13]) (.s .z .z)) (.s .z (.s .z .z))))))
theorem e126 (s53 s219 s220 : Fun) : b126 s53 s219 s220 = denF Tryz.prog (gam [(53, s53), (219, s219), (220, s220)]) Tryz.f126 g126 := by kernel_rfl
def s126 : Fun := b126 s53 s219 s220
theorem F126 : Snd Tryz.prog 126 s126 := snd_of hmix (gcons F53 (gcons F219 (gcons F220 gnil))) Tryz.func126 (by kernel_rfl) (by kernel_rfl) (e126 s53 s219 s220)

/-- (*obelisk/interp.Machine).find -/
def b217 (s53 s113 : Fun) : Fun := fun a b => uc a fun a c => uc c fun c d => uc d fun d e => uc e fun e f => uz f (nl 0 b a fun a => cl (s53 [a, c] b) fun a b => cl (s113 [a, d, e] b) fun a b => cK a fun a => .ret a b)
def g217 : Hint := (.s .z (.s .z .z))
theorem e217 (s53 s113 : Fun) : b217 s53 s113 = denF Tryz.prog (gam [(53, s53), (113, s113)]) Tryz.f217 g217 := by kernel_rfl
def s217 : Fun := b217 s53 s113
theorem F217 : Snd Tryz.prog 217 s217 := snd_of hmix (gcons F53 (gcons F113 gnil)) Tryz.func217 (by kernel_rfl) (by kernel_rfl) (e217 s53 s113)

/-- (*obelisk/interp.Machine).finish -/
def b218 (s121 : Fun) : Fun := fun a b => uc a fun a c => uc c fun c d => uz d (na 0 c fun d => ld1 b d fun e => na 0 c fun f => ld1 b f fun g => lenL g fun h => iSub h (I 1) fun h => ixA 1 e h fun h => ld1 b h fun h => cl (s121 [a, h] b) fun a b => ld1 b f fun f => same g f (ld1 b d fun d => same e d (na 0 a fun a => st1 b a (I 2) fun a => nl 0 a c fun b => nl 0 a c fun d => lenL d fun d => iSub d (I 1) fun d => cutS 1 b none (some d) none fun b => na 0 c fun c => st1 a c b fun a => .ret (.tup .nil) a)))
def g218 : Hint := (.s (.r [0, 1, 2, 3, 4, 5, 6, 7, 8, 9, 10, 11, 12, 13, 14, 15, 16]) (.r [0, 1, 2, 3, 4, 5, 6, 7, 8, 9, 10, 11, 12, 13, 14]))
theorem e218 (s121 : Fun) : b218 s121 = denF Tryz.prog (gam [(121, s121)]) Tryz.f218 g218 := by kernel_rfl
def s218 : Fun := b218 s121
theorem F218 : Snd Tryz.prog 218 s218 := snd_of hmix (gcons F121 gnil) Tryz.func218 (by kernel_rfl) (by kernel_rfl) (e218 s121)

/-- (*obelisk/interp.Machine).proceed -/
def L125n0 (s122 s126 s217 s218 : Fun) : List AV → Hp → Res := fun a b => uc a fun a c => uc c fun c _ => nl 0 b c fun d => lenL d fun d => ltN (I 0) d fun d => ifB d (blk 1 (nl 0 b c fun d => nl 0 b c fun e => lenL e fun e => iSub e (I 1) fun e => ixA 1 d e fun d => ld1 b d fun d => cl (s217 [a, d, (.str 8 4500337850585998140), (.str 3 5646632)] b) fun b d => ltN b (I 0) fun b => ifB (bnot b) (.fail) (cl (s218 [a, c] d) fun _ b => .norm [a, c] b)) fun a b => uc a fun a c => uc c fun c _ => .norm [a, c] b) (.exit 0 [] b)
def b125 (s122 s126 s217 s218 : Fun) : Fun := fun a b => uc a fun a c => uc c fun c d => uz d (blk 0 (lp (L125n0 s122 s126 s217 s218) most [a, c] b) fun _ a => cK (I 0) fun b => .ret b a)
def g125 : Hint := (.s .z (.s (.b [] (.l [0, 1] (.s (.s .z (.s .z .z)) (.b [0, 1] (.s (.r [0, 1, 2, 3, 4, 5, 6, 7, 8, 9, 10, 11, 12]) (.s .z (.s (.s .z (.s .z .z)) .z))))))) (.s .z .z)))
theorem e125 (s122 s126 s217 s218 : Fun) : b125 s122 s126 s217 s218 = denF Tryz.prog (gam [(122, s122), (126, s126), (217, s217), (218, s218)]) Tryz.f125 g125 := by kernel_rfl
def s125 : Fun := b125 s122 s126 s217 s218
theorem F125 : Snd Tryz.prog 125 s125 := snd_of hmix (gcons F122 (gcons F126 (gcons F217 (gcons F218 gnil)))) Tryz.func125 (by kernel_rfl) (by kernel_rfl) (e125 s122 s126 s217 s218)

/-- (*obelisk/interp.Machine).start -/
def L78n0 (s53 s76 s121 s122 s123 s125 : Fun) : List AV → Hp → Res := fun a b => uc a fun a c => uc c fun c d => uc d fun d e => uc e fun e _ => nl 0 b d fun f => eqN f (I 0) fun f => ifB f (blk 2 (nl 0 b a fun f => cl (s53 [f, c] b) fun b f => na 0 d fun g => st1 f g (I 1) fun f => nl 0 f e fun g => bld [(false, 1, c)] fun c => mkS f 1 1 c fun c f => apd f 1 16 g c fun c f => na 0 e fun g => st1 f g c fun c => cl (s123 [a, b, d] c) fun c f => bNot c fun c => cB c fun c => ifB c (.fail) (nl 2 f b fun c => iAnd c (I 512) fun c => eqN c (I 0) fun c => ifB (bnot c) (.exit 1 [a, d, e] f) (nl 4 f b fun b => cl (s121 [a, b] f) fun c d => .norm [a, b, c, e] d))) fun a b => uc a fun a c => uc c fun c d => uc d fun d e => uc e fun e _ => .norm [a, c, d, e] b) (.exit 1 [a, d, e] b)
def b78 (s53 s76 s121 s122 s123 s125 : Fun) : Fun := fun a b => uc a fun a c => uc c fun c d => uz d (cl (s121 [a, c] b) fun b d => nl 0 d b fun e => blk 0 (jn (eqN e (I 2) fun f => ifB f (.norm [a, c, b, e, (.bool f)] d) (eqN e (I 1) fun f => .norm [a, c, b, e, (.bool f)] d)) fun a b => uc a fun a c => uc c fun c d => uc d fun d e => uc e fun e f => uc f fun f _ => cB f fun f => ifB f (cK (I 0) fun a => .ret a b) (eqN e (I 3) fun e => ifB e (.fail) (.norm [a, c, d] b))) fun a b => uc a fun a c => uc c fun c d => uc d fun d _ => nl 1 b a fun e => cl (s76 [e, c] b) fun b e => eqN b (I 0) fun b => ifB (bnot b) (.fail) (bld [(false, 1, .nils)] fun b => mk e (cells (.agg b)) fun b e => blk 1 (lp (L78n0 s53 s76 s121 s122 s123 s125) most [a, c, d, b] e) fun a b => uc a fun a c => uc c fun c d => uc d fun d _ => nl 0 b c fun c => eqN c (I 3) fun c => ifB c (.fail) (cl (s125 [a, d] b) fun a b => cK a fun a => .ret a b)))
def g78 : Hint := (.s .z (.s .z (.s (.s .z (.b [0, 1, 5] (.j [0, 1, 5, 15, 16] (.s .z (.s .z .z)) (.s (.s .z .z) (.s .z (.s .z .z)))))) (.s (.s .z (.s .z (.s .z .z))) (.s .z (.s (.b [0, 5, 7] (.l [0, 1, 5, 7] (.s (.s .z (.s .z .z)) (.b [0, 1, 5, 7] (.s .z (.s .z (.s .z (.s (.s .z (.s .z .z)) (.s (.s .z (.s .z .z)) (.s .z .z)))))))))) (.s (.s .z (.s .z .z)) (.s .z .z))))))))
theorem e78 (s53 s76 s121 s122 s123 s125 : Fun) : b78 s53 s76 s121 s122 s123 s125 = denF Tryz.prog (gam [(53, s53), (76, s76), (121, s121), (122, s122), (123, s123), (125, s125)]) Tryz.f78 g78 := by kernel_rfl
def s78 : Fun := b78 s53 s76 s121 s122 s123 s125
theorem F78 : Snd Tryz.prog 78 s78 := snd_of hmix (gcons F53 (gcons F76 (gcons F121 (gcons F122 (gcons F123 (gcons F125 gnil)))))) Tryz.func78 (by kernel_rfl) (by kernel_rfl) (e78 s53 s76 s121 s122 s123 s125)

/-- (*obelisk/stack.Stack).local -/
def b221 (s206 : Fun) : Fun := fun a b => uc a fun a c => uc c fun c d => uz d (cl (s206 [a] b) fun a b => eqP a .nilp fun d => ap (gsel (.bool d) false c) fun e => gj (.bool d) false (ltN e (I 0) fun a => .norm [(.bool a)] b) b fun b e => cB (.bool d) fun d => ap (sel d (.bool true) b) fun b => ap (gsel b false c) fun d => ap (gsel b false a) fun f => gj b false (nck f fun a => .norm [a] e) e fun e f => gj b false (fa 4 e fun a => .norm [a] f) f fun e f => gj b false (ld1 f e fun a => .norm [a] f) f fun e f => gj b false (ltN d e fun a => .norm [(.bool (bnot a))] f) f fun d e => cB b fun b => ap (sel b (.bool true) d) fun b => cB b fun b => ifB b (.fail) (nl 3 e a fun a => iAdd a c fun a => cK a fun a => .ret a e))
def g221 : Hint := (.s .z (.s .z (.s (.s .z (.s .z .z)) (.s .z .z))))
theorem e221 (s206 : Fun) : b221 s206 = denF Tryz.prog (gam [(206, s206)]) Tryz.f221 g221 := by kernel_rfl
def s221 : Fun := b221 s206
theorem F221 : Snd Tryz.prog 221 s221 := snd_of hmix (gcons F206 gnil) Tryz.func221 (by kernel_rfl) (by kernel_rfl) (e221 s206)

/-- (*obelisk/stack.Stack).SetLocal -/
def b127 (s221 : Fun) : Fun := fun a b => uc a fun a c => uc c fun c d => uc d fun d e => uc e fun e f => uz f (cl (s221 [a, c] b) fun b c => ltN b (I 0) fun f => ifB (bnot f) (nl 0 c a fun f => nl 1 c a fun a => ixA 1 f b fun f => st1 c f d fun c => ixA 1 a b fun a => st1 c a e fun a => .ret (.tup .nil) a) (.ret (.tup .nil) c))
def g127 : Hint := (.s .z (.s .z (.s (.r [0, 1, 2, 3, 4, 5, 6, 7, 8, 9, 10, 11, 12, 13, 14, 15]) .z)))
theorem e127 (s221 : Fun) : b127 s221 = denF Tryz.prog (gam [(221, s221)]) Tryz.f127 g127 := by kernel_rfl
def s127 : Fun := b127 s221
theorem F127 : Snd Tryz.prog 127 s127 := snd_of hmix (gcons F221 gnil) Tryz.func127 (by kernel_rfl) (by kernel_rfl) (e127 s221)

/-- (*obelisk/interp.Machine).enter -/
def L79n0 (s126 s127 : Fun) : List AV → Hp → Res := fun a b => uc a fun a c => uc c fun c d => uc d fun d e => uc e fun e _ => ltN e d fun f => ifB f (blk 1 (ixA 1 c e fun f => ld1 b f fun f => nl 5 b a fun g => iConv 31 f fun f => iConv 63 f fun f => cl (s127 [g, e, f, (.bool false)] b) fun _ b => .norm [a, c, d, e] b) fun a b => uc a fun a c => uc c fun c d => uc d fun d e => uc e fun e _ => iAdd e (I 1) fun e => .norm [a, c, d, e] b) (.exit 0 [] b)
def b79 (s126 s127 : Fun) : Fun := fun a b => uc a fun a c => uz c (nl 14 b a fun c => na 14 a fun d => st1 b d .nilp fun b => nl 0 b c fun d => nl 1 b c fun e => cl (s126 [a, (I 0), d, e, .nilp] b) fun b d => bNot b fun b => cB b fun b => ifB b (.fail) (nl 2 d c fun b => lenL b fun c => blk 0 (lp (L79n0 s126 s127) most [a, b, c, (I 0)] d) fun _ a => .ret (.tup .nil) a))
def g79 : Hint := (.s .z (.s .z (.s (.s (.r [0, 1, 2, 3, 4, 5, 6, 7, 8, 9, 10]) (.s .z .z)) (.s .z (.b [] (.l [0, 33, 34, 35] (.s .z (.s (.s .z .z) (.s (.b [0, 33, 34, 35] (.s .z .z)) .z)))))))))
theorem e79 (s126 s127 : Fun) : b79 s126 s127 = denF Tryz.prog (gam [(126, s126), (127, s127)]) Tryz.f79 g79 := by kernel_rfl
def s79 : Fun := b79 s126 s127
theorem F79 : Snd Tryz.prog 79 s79 := snd_of hmix (gcons F126 (gcons F127 gnil)) Tryz.func79 (by kernel_rfl) (by kernel_rfl) (e79 s126 s127)

/-- (*obelisk/interp.Machine).top -/
def b81 : Fun := fun a b => uc a fun a c => uz c (nl 6 b a fun c => lenL c fun c => eqN c (I 0) fun c => ifB c (cK .nilp fun a => .ret a b) (nl 6 b a fun c => nl 6 b a fun a => lenL a fun a => iSub a (I 1) fun a => ixA 1 c a fun a => ld1 b a fun a => cK a fun a => .ret a b))
def g81 : Hint := (.s .z (.s (.s .z (.s (.s .z .z) .z)) (.s (.r [0, 1, 2, 3, 4, 5, 6, 7, 8, 9, 10, 11, 12]) .z)))
theorem e81 : b81 = denF Tryz.prog (gam []) Tryz.f81 g81 := by kernel_rfl
def s81 : Fun := b81
theorem F81 : Snd Tryz.prog 81 s81 := snd_of hmix gnil Tryz.func81 (by kernel_rfl) (by kernel_rfl) (e81)

/-- (*obelisk/interp.Machine).uncaught -/
def b128 (s74 s130 s144 : Fun) : Fun := fun a b => uc a fun a c => uz c (nm (.norm [a] b) fun c _ => nm (nck c fun a => .norm [a] b) fun c _ => nm (fa 2 c fun a => .norm [a] b) fun c _ => nm (ld1 b c fun a => .norm [a] b) fun d _ => nm (.norm [a] b) fun e _ => nm (nck e fun a => .norm [a] b) fun e _ => nm (fa 13 e fun a => .norm [a] b) fun e _ => nm (ld1 b e fun a => .norm [a] b) fun f _ => nm (.norm [(.cons (I 0) (.cons (I 0) (.cons (J 0) (.cons (I 0) (.cons (.str 0 0) (.cons (.str 0 0) (.cons (.bool false) (.cons (I 0) (.cons .nils (.cons (I 0) (.cons (I 0) .nil)))))))))))] b) fun g _ => lay g .e 0 fun g h => ifB true (rsv b fun b i => nm (ld1 i e fun a => .norm [a] i) fun e _ => same f e (nm (ld1 i c fun a => .norm [a] i) fun c _ => same d c (nm (cl (s130 [d, f] i) fun a b => .norm [a] b) fun c d => nm (bld [(false, 1, (I 0)), (false, 1, (I 2)), (false, 1, (J 0)), (false, 1, (I 0)), (false, 1, c), (false, 1, (.str 0 0)), (false, 1, (.bool false)), (false, 1, (I 0)), (false, 1, .nils), (false, 1, (I 0)), (false, 1, (I 0))] fun a => .norm [(.agg a)] d) fun c _ => dueK d b h g fun d => nm (stN d 11 (.ptr b 0) c fun a => .norm [(.tup .nil)] a) fun _ c => jn (nl 2 c a fun d => nl 13 c a fun e => cl (s144 [d, e, (I 0)] c) fun c d => eqN c (I 0) fun c => ifB (bnot c) (.fail) (.norm [a, (.ptr b 0)] d)) fun a b => uc a fun a c => uc c fun c _ => ldN b 11 c fun c => cl (s74 [a, c] b) fun _ a => .ret (.tup .nil) a))) .fail)
def g128 : Hint := (.s (.f [(0, 0), (0, 1), (0, 2), (0, 3), (0, 4), (0, 5), (0, 6), (0, 7), (1, 10), (0, 8), (0, 9), (2, 10), (0, 11)]) (.j [0, 2] (.s (.r [0, 1, 2, 3, 4, 5, 6, 7, 8, 9]) (.s .z (.s .z .z))) .z))
theorem e128 (s74 s130 s144 : Fun) : b128 s74 s130 s144 = denF Tryz.prog (gam [(74, s74), (130, s130), (144, s144)]) Tryz.f128 g128 := by kernel_rfl
def s128 : Fun := b128 s74 s130 s144
theorem F128 : Snd Tryz.prog 128 s128 := snd_of hmix (gcons F74 (gcons F130 (gcons F144 gnil))) Tryz.func128 (by kernel_rfl) (by kernel_rfl) (e128 s74 s130 s144)

/-- obelisk/throws.Find -/
def L129n0 (s53 s223 s224 : Fun) : List AV → Hp → Res := fun a b => uc a fun a c => uc c fun c d => uc d fun d e => uc e fun e f => uc f fun f g => uc g fun g h => uc h fun h _ => ltN h g fun i => ifB i (blk 1 (ixA 4 f h fun i => ldN b 4 i fun i => mk b (.cons (I 0) (.cons (I 0) (.cons (I 0) (.cons (I 0) .nil)))) fun b j => stN j 4 b i fun i => fl 0 i b fun j => ltN d j fun j => ap (gsel (.bool j) false d) fun k => gj (.bool j) false (fa 1 b fun a => .norm [a] i) i fun i l => gj (.bool j) false (ld1 l i fun a => .norm [a] l) l fun i l => gj (.bool j) false (ltN k i fun a => .norm [(.bool (bnot a))] l) l fun i k => cB (.bool j) fun j => ap (sel j (.bool true) i) fun i => cB i fun i => ifB i (.exit 1 [a, c, d, e, f, g, h] k) (nl 1 k c fun i => fl 3 k b fun j => cl (s223 [i, j] k) fun i j => cT i fun k => cK (nth k 0) fun k => cT i fun i => cK (nth i 1) fun i => fl 3 j b fun l => eqN l (I 0) fun l => ap (gsel (.bool l) false i) fun i => ap (gsel (.bool l) false i) fun i => ap (gsel i true a) fun m => ap (gsel i true k) fun n => gj i true (cl (s53 [m, n] j) fun a b => .norm [a] b) j fun j m => gj i true (eqP j .nilp fun a => .norm [(.bool (bnot a))] m) m fun j m => gj (.bool l) false (cB i fun a => ap (sel a j (.bool false)) fun a => .norm [a] m) m fun i j => ap (gsel (.bool l) false i) fun i => ap (gsel i true a) fun m => ap (gsel i true e) fun n => ap (gsel i true k) fun k => gj i true (cl (s224 [m, n, k] j) fun a b => .norm [a] b) j fun j k => gj (.bool l) false (cB i fun a => ap (sel a j (.bool false)) fun a => .norm [a] k) k fun i j => cB (.bool l) fun k => ap (sel k (.bool true) i) fun i => cB i fun i => ifB i (fl 2 j b fun a => cK a fun a => .ret a j) (.norm [a, c, d, e, f, g, h] j))) fun a b => uc a fun a c => uc c fun c d => uc d fun d e => uc e fun e f => uc f fun f g => uc g fun g h => uc h fun h _ => iAdd h (I 1) fun h => .norm [a, c, d, e, f, g, h] b) (.exit 0 [] b)
def b129 (s53 s223 s224 : Fun) : Fun := fun a b => uc a fun a c => uc c fun c d => uc d fun d e => uc e fun e f => uc f fun f g => uz g (eqP c .nilp fun g => ap (gsel (.bool g) false d) fun h => gj (.bool g) false (ltN h (I 0) fun a => .norm [(.bool a)] b) b fun b h => cB (.bool g) fun g => ap (sel g (.bool true) b) fun b => ap (gsel b false d) fun g => ap (gsel b false c) fun i => gj b false (nck i fun a => .norm [a] h) h fun h i => gj b false (fa 7 h fun a => .norm [a] i) i fun h i => gj b false (ld1 i h fun a => .norm [a] i) i fun h i => gj b false (lenL h fun a => .norm [a] i) i fun h i => gj b false (ltN g h fun a => .norm [(.bool (bnot a))] i) i fun g h => cB b fun b => ap (sel b (.bool true) g) fun b => cB b fun b => ifB b (.fail) (nl 7 h c fun b => ixA 9 b d fun b => fa 4 b fun b => fl 3 h b fun b => lenL b fun d => blk 0 (lp (L129n0 s53 s223 s224) most [a, c, e, f, b, d, (I 0)] h) fun _ a => cK (.int 63 (.negSucc 0)) fun b => .ret b a))
def g129 : Hint := (.s .z (.s (.s .z (.s .z .z)) (.s (.s .z (.b [] (.l [0, 1, 3, 4, 38, 39, 40] (.s .z (.s (.s .z .z) (.s (.b [0, 1, 3, 4, 38, 39, 40] (.s .z (.s (.s .z (.s .z .z)) (.s (.r [0, 1, 2, 3, 4, 5, 6, 7, 8, 9, 10, 11]) (.s .z (.s (.s .z .z) .z)))))) .z)))))) (.s .z .z))))
theorem e129 (s53 s223 s224 : Fun) : b129 s53 s223 s224 = denF Tryz.prog (gam [(53, s53), (223, s223), (224, s224)]) Tryz.f129 g129 := by kernel_rfl
def s129 : Fun := b129 s53 s223 s224
theorem F129 : Snd Tryz.prog 129 s129 := snd_of hmix (gcons F53 (gcons F223 (gcons F224 gnil))) Tryz.func129 (by kernel_rfl) (by kernel_rfl) (e129 s53 s223 s224)

/-- (*obelisk/stack.Stack).Drop -/
def b131 (s206 : Fun) : Fun := fun a b => uc a fun a c => uc c fun c d => uz d (cl (s206 [a] b) fun b d => eqP b .nilp fun e => ap (gsel (.bool e) false c) fun f => gj (.bool e) false (ltN (I 0) f fun a => .norm [(.bool (bnot a))] d) d fun d f => cB (.bool e) fun e => ap (sel e (.bool true) d) fun d => cB d fun d => ifB d (.ret (.tup .nil) f) (nl 6 f b fun d => iMin c d fun c => nl 6 f b fun d => iSub d c fun d => na 6 b fun b => st1 f b d fun b => nl 0 b a fun d => nl 0 b a fun e => lenL e fun e => iSub e c fun e => cutS 1 d none (some e) none fun d => nl 1 b a fun e => nl 1 b a fun f => lenL f fun f => iSub f c fun c => cutS 1 e none (some c) none fun c => na 0 a fun e => st1 b e d fun b => na 1 a fun a => st1 b a c fun a => .ret (.tup .nil) a))
def g131 : Hint := (.s .z (.s (.s .z (.s .z .z)) (.s .z (.s .z (.r [0, 1, 2, 3, 4, 5, 6, 7, 8, 9, 10, 11, 12, 13, 14, 15, 16, 17, 18, 19, 20, 21, 22, 23, 24, 25, 26, 27, 28, 29, 30, 31])))))
theorem e131 (s206 : Fun) : b131 s206 = denF Tryz.prog (gam [(206, s206)]) Tryz.f131 g131 := by kernel_rfl
def s131 : Fun := b131 s206
theorem F131 : Snd Tryz.prog 131 s131 := snd_of hmix (gcons F206 gnil) Tryz.func131 (by kernel_rfl) (by kernel_rfl) (e131 s206)

/-- (*obelisk/stack.Stack).Height -/
def b132 (s206 : Fun) : Fun := fun a b => uc a fun a c => uz c (cl (s206 [a] b) fun a b => eqP a .nilp fun c => ifB c (.fail) (nl 6 b a fun a => cK a fun a => .ret a b))
def g132 : Hint := (.s .z (.s .z (.s (.s .z (.s .z .z)) (.s .z .z))))
theorem e132 (s206 : Fun) : b132 s206 = denF Tryz.prog (gam [(206, s206)]) Tryz.f132 g132 := by kernel_rfl
def s132 : Fun := b132 s206
theorem F132 : Snd Tryz.prog 132 s132 := snd_of hmix (gcons F206 gnil) Tryz.func132 (by kernel_rfl) (by kernel_rfl) (e132 s206)

/-- (*obelisk/stack.Stack).Push -/
def b133 (s206 : Fun) : Fun := fun a b => uc a fun a c => uc c fun c d => uc d fun d e => uz e (cl (s206 [a] b) fun b e => eqP b .nilp fun f => ap (gsel (.bool f) false b) fun g => gj (.bool f) false (nck g fun a => .norm [a] e) e fun e g => gj (.bool f) false (fa 6 e fun a => .norm [a] g) g fun e g => gj (.bool f) false (ld1 g e fun a => .norm [a] g) g fun e g => ap (gsel (.bool f) false b) fun h => gj (.bool f) false (nck h fun a => .norm [a] g) g fun g h => gj (.bool f) false (fa 5 g fun a => .norm [a] h) h fun g h => gj (.bool f) false (ld1 h g fun a => .norm [a] h) h fun g h => gj (.bool f) false (ltN e g fun a => .norm [(.bool (bnot a))] h) h fun e g => cB (.bool f) fun f => ap (sel f (.bool true) e) fun e => cB e fun e => ifB e (.fail) (nl 6 g b fun e => iAdd e (I 1) fun e => na 6 b fun b => st1 g b e fun b => nm (.norm [a] b) fun e _ => nm (.norm [a] b) fun f _ => nm (.norm [a] b) fun g _ => nm (nck g fun a => .norm [a] b) fun g _ => nm (fa 0 g fun a => .norm [a] b) fun g _ => nm (ld1 b g fun a => .norm [a] b) fun h _ => nm (.norm [c] b) fun c _ => nm (.norm [a] b) fun a _ => nm (nck a fun a => .norm [a] b) fun a _ => nm (fa 1 a fun a => .norm [a] b) fun a _ => nm (ld1 b a fun a => .norm [a] b) fun i _ => nm (.norm [d] b) fun d _ => nm (bld [(false, 1, c)] fun a => .norm [a] b) fun c _ => lay c .e 0 fun c j => ifB (Nat.beq j (Nat.mul 1 1)) (rsv b fun b k => nm (ld1 k a fun a => .norm [a] k) fun l _ => same i l (nm (ld1 k g fun a => .norm [a] k) fun l _ => same h l (nm (bld [(false, 1, d)] fun a => .norm [a] k) fun d _ => lay d .e 0 fun d l => ifB (Nat.beq l (Nat.mul 1 1)) (rsv k fun k m => nm (ld1 m a fun a => .norm [a] m) fun n _ => same i n (nm (ld1 m g fun a => .norm [a] m) fun n _ => same h n (dueK m b j c fun c => nm (ld1 c a fun a => .norm [a] c) fun j _ => same i j (nm (ld1 c g fun a => .norm [a] c) fun g _ => same h g (nm (apd c 1 8 h (.sl b 0 1 1 (some 1)) fun a b => .norm [a] b) fun b c => nm (ld1 c a fun a => .norm [a] c) fun g _ => same i g (dueK c k l d fun c => nm (ld1 c a fun a => .norm [a] c) fun a _ => same i a (nm (apd c 1 1 i (.sl k 0 1 1 (some 1)) fun a b => .norm [a] b) fun a c => nm (nck e fun a => .norm [a] c) fun d _ => nm (fa 0 d fun a => .norm [a] c) fun d _ => nm (st1 c d b fun a => .norm [(.tup .nil)] a) fun _ b => nm (nck f fun a => .norm [a] b) fun c _ => nm (fa 1 c fun a => .norm [a] b) fun c _ => nm (st1 b c a fun a => .norm [(.tup .nil)] a) fun _ a => cK (.bool true) fun b => .ret b a))))))) .fail))) .fail))
def g133 : Hint := (.s .z (.s .z (.s (.s (.r [0, 1, 2, 3, 4, 5, 6, 7, 8, 9, 10, 11, 12]) (.s .z .z)) (.s .z (.s (.f [(0, 0), (0, 1), (0, 2), (0, 3), (0, 4), (0, 5), (0, 6), (0, 9), (0, 10), (0, 11), (0, 12), (0, 13), (1, 7), (1, 14), (2, 7), (0, 8), (2, 14), (0, 15), (0, 16), (0, 17), (0, 18), (0, 19), (0, 20), (0, 21)]) (.s .z .z))))))
theorem e133 (s206 : Fun) : b133 s206 = denF Tryz.prog (gam [(206, s206)]) Tryz.f133 g133 := by kernel_rfl
def s133 : Fun := b133 s206
theorem F133 : Snd Tryz.prog 133 s133 := snd_of hmix (gcons F206 gnil) Tryz.func133 (by kernel_rfl) (by kernel_rfl) (e133 s206)

/-- (*obelisk/interp.Machine).pop -/
def b134 (s117 : Fun) : Fun := fun a b => uc a fun a c => uz c (nl 5 b a fun c => cl (s117 [c] b) fun _ b => nl 6 b a fun c => nl 6 b a fun d => lenL d fun d => iSub d (I 1) fun d => cutS 1 c none (some d) none fun c => na 6 a fun a => st1 b a c fun a => .ret (.tup .nil) a)
def g134 : Hint := (.s .z (.r [0, 1, 2, 3, 4, 5, 6, 7, 8, 9, 10, 11, 12, 13, 14]))
theorem e134 (s117 : Fun) : b134 s117 = denF Tryz.prog (gam [(117, s117)]) Tryz.f134 g134 := by kernel_rfl
def s134 : Fun := b134 s117
theorem F134 : Snd Tryz.prog 134 s134 := snd_of hmix (gcons F117 gnil) Tryz.func134 (by kernel_rfl) (by kernel_rfl) (e134 s117)
end
end Go.Proofs.YtmoojalmefnmnaaGreatDoor
