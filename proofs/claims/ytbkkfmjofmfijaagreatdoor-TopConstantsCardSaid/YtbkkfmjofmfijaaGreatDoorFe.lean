/-
  What functions of the program compute, in the abstract machine's words (printed by gen.lean): each is what its text denotes.
-/
import Derived.Test.YtbkkfmjofmfijaaGreatDoorFd
set_option linter.unusedVariables false
set_option linter.unusedSimpArgs false
namespace Go.Proofs.YtbkkfmjofmfijaaGreatDoor
open Go Go.AM
set_option autoImplicit false
set_option maxRecDepth 100000
set_option linter.unusedVariables false
noncomputable section
/-- obelisk/resolve.Field -/
def b335 (s57 s388 s389 s390 : Fun) : Fun := fun a b => uc a fun a c => uc c fun c d => uc d fun d e => uc e fun e f => uc f fun f g => uz g (cl (s388 [a, c, d] b) fun b g => eqN b (I 0) fun b => ifB (bnot b) (.fail) (cl (s389 [a, d, e, f] g) fun b d => cT b fun e => cK (nth e 0) fun e => cT b fun b => cK (nth b 1) fun b => blk 0 (ltN b (I 0) fun f => ifB f (.fail) (cl (s57 [a, e] d) fun d f => nl 6 f d fun d => ixA 4 d b fun d => fl 0 f d fun d => cl (s390 [a, c, e, d] f) fun a c => bNot a fun a => cB a fun a => ifB a (.fail) (.norm [e, b] c))) fun a b => uc a fun a c => uc c fun c _ => cK a fun a => cK c fun c => cK (I 0) fun d => .ret (.tup (.cons a (.cons c (.cons d .nil)))) b))
def g335 : Hint := (.s .z (.s (.s .z (.s .z (.s .z .z))) (.s .z (.s (.b [14, 15] (.s .z (.s .z (.s .z (.s .z .z))))) (.s .z .z)))))
theorem e335 (s57 s388 s389 s390 : Fun) : b335 s57 s388 s389 s390 = denF Tryz.prog (gam [(57, s57), (388, s388), (389, s389), (390, s390)]) Tryz.f335 g335 := by kernel_rfl
def s335 : Fun := b335 s57 s388 s389 s390
theorem F335 : Snd Tryz.prog 335 s335 := snd_of hmix (gcons F57 (gcons F388 (gcons F389 (gcons F390 gnil)))) Tryz.func335 (by kernel_rfl) (by kernel_rfl) (e335 s57 s388 s389 s390)

/-- (*obelisk/interp.Machine).peek -/
def b325 (s329 : Fun) : Fun := fun a b => uc a fun a c => uc c fun c d => uz d (nl 5 b a fun a => cl (s329 [a, c] b) fun a b => cT a fun c => cK (nth c 0) fun c => cT a fun a => cK (nth a 1) fun _ => cK c fun a => .ret a b)
def g325 : Hint := (.s .z (.s .z (.s .z .z)))
theorem e325 (s329 : Fun) : b325 s329 = denF Tryz.prog (gam [(329, s329)]) Tryz.f325 g325 := by kernel_rfl
def s325 : Fun := b325 s329
theorem F325 : Snd Tryz.prog 325 s325 := snd_of hmix (gcons F329 gnil) Tryz.func325 (by kernel_rfl) (by kernel_rfl) (e325 s329)

/-- (*obelisk/interp.Machine).result -/
def b384 (s167 : Fun) : Fun := fun a b => uc a fun a c => uc c fun c d => uc d fun d e => uc e fun e f => uz f (jn (ltN (I 0) e fun f => ifB f (nl 5 b a fun f => cl (s167 [f, c, d] b) fun _ b => .norm [a, e] b) (.norm [a, e] b)) fun a b => uc a fun a c => uc c fun c _ => ltN (I 1) c fun c => ifB c (nl 5 b a fun a => cl (s167 [a, (I 0), (.bool false)] b) fun _ a => .ret (.tup .nil) a) (.ret (.tup .nil) b))
def g384 : Hint := (.j [0, 3] (.s .z (.s .z .z)) (.s .z (.s .z .z)))
theorem e384 (s167 : Fun) : b384 s167 = denF Tryz.prog (gam [(167, s167)]) Tryz.f384 g384 := by kernel_rfl
def s384 : Fun := b384 s167
theorem F384 : Snd Tryz.prog 384 s384 := snd_of hmix (gcons F167 gnil) Tryz.func384 (by kernel_rfl) (by kernel_rfl) (e384 s167)

/-- obelisk/interp.slots -/
def b391 : Fun := fun a b => uc a fun a c => uz c (eqS a (.str 1 74) fun a => ifB a (.fail) (cK (I 1) fun a => .ret a b))
def g391 : Hint := (.s .z (.s (.s .z (.s .z .z)) (.s .z .z)))
theorem e391 : b391 = denF Tryz.prog (gam []) Tryz.f391 g391 := by kernel_rfl
def s391 : Fun := b391
theorem F391 : Snd Tryz.prog 391 s391 := snd_of hmix gnil Tryz.func391 (by kernel_rfl) (by kernel_rfl) (e391)

/-- (*obelisk/interp.Machine).static -/
def b336 (s86 s155 s165 s167 s174 s244 s259 s325 s384 s391 : Fun) : Fun := fun a b => uc a fun a c => uc c fun c d => uc d fun d e => uc e fun e f => uc f fun f g => uc g fun g h => uz h (mk b (cells f) fun b f => cl (s86 [a, d] f) fun f h => eqN f (I 0) fun f => ifB (bnot f) (.ret (.tup .nil) h) (fl 2 h b fun f => cl (s391 [f] h) fun f h => cl (s155 [a, d] h) fun h i => blk 0 (cB g fun g => ifB g (na 1 h fun d => ld1 i d fun g => iSub f (I 1) fun h => fa 2 b fun b => ld1 i b fun j => cl (s325 [a, h] i) fun h i => ld1 i b fun b => .ask (eqAV j b) (ld1 i d fun b => .ask (eqAV g b) (cl (s244 [h, j] i) fun b h => ld1 h d fun d => .ask (eqAV g d) (ixA 1 g e fun d => st1 h d b fun b => nl 5 b a fun d => cl (s165 [d, f] b) fun _ b => .norm [a, c] b)))) (eqS d (.str 16 145412635431568811361768410208787652970) fun d => ifB d (.fail) (na 1 h fun d => ld1 i d fun g => ixA 1 g e fun e => ld1 i e fun h => fl 2 i b fun b => cl (s174 [b] i) fun b i => ld1 i e fun e => .ask (eqAV h e) (ld1 i d fun d => .ask (eqAV g d) (cl (s384 [a, h, b, f] i) fun _ b => .norm [a, c] b))))) fun a b => uc a fun a c => uc c fun c _ => cl (s259 [a, c] b) fun _ a => .ret (.tup .nil) a))
def g336 : Hint := (.s .z (.s (.s .z (.s .z .z)) (.s .z (.s .z (.s (.b [0, 1] (.s .z (.s (.s (.r [0, 1, 2, 3, 4, 5, 6, 7, 9, 10, 8, 11, 12, 13]) .z) (.s .z (.s .z (.r [0, 1, 2, 3, 4, 5, 6, 7, 8, 9, 11, 10, 12])))))) .z)))))
theorem e336 (s86 s155 s165 s167 s174 s244 s259 s325 s384 s391 : Fun) : b336 s86 s155 s165 s167 s174 s244 s259 s325 s384 s391 = denF Tryz.prog (gam [(86, s86), (155, s155), (165, s165), (167, s167), (174, s174), (244, s244), (259, s259), (325, s325), (384, s384), (391, s391), (1000000001, fun _ _ => .fail)]) Tryz.f336 g336 := by kernel_rfl
def s336 : Fun := b336 s86 s155 s165 s167 s174 s244 s259 s325 s384 s391
theorem F336 : Snd Tryz.prog 336 s336 := snd_of hmix (gcons F86 (gcons F155 (gcons F165 (gcons F167 (gcons F174 (gcons F244 (gcons F259 (gcons F325 (gcons F384 (gcons F391 (gconsE efail gnil))))))))))) Tryz.func336 (by kernel_rfl) (by kernel_rfl) (e336 s86 s155 s165 s167 s174 s244 s259 s325 s384 s391)

/-- (*obelisk/interp.Machine).field -/
def b266 (s57 s156 s297 s335 s336 : Fun) : Fun := fun a b => uc a fun a c => uc c fun c d => uc d fun d e => uz e (mk b (cells d) fun b d => nl 2 d c fun e => nl 1 d e fun e => fl 4 d b fun f => cl (s297 [e, f] d) fun d e => cT d fun f => cK (nth f 0) fun f => cT d fun g => cK (nth g 1) fun g => cT d fun h => cK (nth h 2) fun h => cT d fun d => cK (nth d 3) fun _ => nl 0 e a fun d => nl 2 e c fun i => nl 3 e i fun i => cl (s335 [d, i, f, g, h] e) fun d e => cT d fun f => cK (nth f 0) fun f => cT d fun g => cK (nth g 1) fun g => cT d fun d => cK (nth d 2) fun d => eqN d (I 0) fun d => ifB (bnot d) (.fail) (nl 0 e a fun d => cl (s57 [d, f] e) fun d e => nl 6 e d fun d => ixA 4 d g fun d => ldN e 4 d fun d => mk e (.cons (I 0) (.cons (.str 0 0) (.cons (.str 0 0) (.cons (I 0) .nil)))) fun e h => stN h 4 e d fun d => fl 2 d b fun h => eqN h (I 178) fun h => gj (.bool h) false (fa 2 b fun a => .norm [a] d) d fun d i => gj (.bool h) false (ld1 i d fun a => .norm [a] i) i fun d i => gj (.bool h) false (eqN d (I 179) fun a => .norm [(.bool a)] i) i fun d i => cB (.bool h) fun h => ap (sel h (.bool true) d) fun d => fl 2 i b fun h => eqN h (I 179) fun h => gj (.bool h) false (fa 2 b fun a => .norm [a] i) i fun b i => gj (.bool h) false (ld1 i b fun a => .norm [a] i) i fun b i => gj (.bool h) false (eqN b (I 181) fun a => .norm [(.bool a)] i) i fun b i => cB (.bool h) fun h => ap (sel h (.bool true) b) fun b => blk 0 (fl 0 i e fun h => iAnd h (I 8) fun h => eqN h (I 0) fun h => eqB d (.bool (bnot h)) fun h => ifB (bnot h) (cl (s156 [a, (I 5)] i) fun _ a => .norm [] a) (gj b true (fa 0 e fun a => .norm [a] i) i fun h i => gj b true (ld1 i h fun a => .norm [a] i) i fun h i => gj b true (iAnd h (I 16) fun a => .norm [a] i) i fun h i => gj b true (eqN h (I 0) fun a => .norm [(.bool (bnot a))] i) i fun h i => cB b fun j => ap (sel j h (.bool false)) fun h => ap (gsel h true f) fun j => ap (gsel h true c) fun k => gj h true (nck k fun a => .norm [a] i) i fun i k => gj h true (fa 2 i fun a => .norm [a] k) k fun i k => gj h true (ld1 k i fun a => .norm [a] k) k fun i k => gj h true (nck i fun a => .norm [a] k) k fun i k => gj h true (fa 3 i fun a => .norm [a] k) k fun i k => gj h true (ld1 k i fun a => .norm [a] k) k fun i k => gj h true (eqS j i fun a => .norm [(.bool (bnot a))] k) k fun i j => cB h fun h => ap (sel h i (.bool false)) fun h => cB h fun h => ifB h (cl (s156 [a, (I 10)] j) fun _ a => .norm [] a) (cB d fun d => ifB d (ldN j 4 e fun d => cl (s336 [a, c, f, g, d, b] j) fun _ a => .norm [] a) (ldN j 4 e fun _ => .fail)))) fun _ a => .ret (.tup .nil) a))
def g266 : Hint := (.s .z (.s (.r [0, 1, 2, 3, 4, 5, 6, 7, 8, 9, 10, 11, 12, 13, 14, 15, 16, 17, 18]) (.s (.r [0, 1, 2, 3, 4, 5, 6, 7, 8, 9, 10, 11, 12, 13, 14, 15, 16, 17, 18, 19, 20, 21]) (.s (.s .z (.s .z .z)) (.s .z (.s .z (.s .z (.b [] (.s .z (.s .z (.s .z (.s .z (.s .z (.s .z .z))))))))))))))
theorem e266 (s57 s156 s297 s335 s336 : Fun) : b266 s57 s156 s297 s335 s336 = denF Tryz.prog (gam [(57, s57), (156, s156), (297, s297), (335, s335), (336, s336)]) Tryz.f266 g266 := by kernel_rfl
def s266 : Fun := b266 s57 s156 s297 s335 s336
theorem F266 : Snd Tryz.prog 266 s266 := snd_of hmix (gcons F57 (gcons F156 (gcons F297 (gcons F335 (gcons F336 gnil))))) Tryz.func266 (by kernel_rfl) (by kernel_rfl) (e266 s57 s156 s297 s335 s336)

/-- (*obelisk/stack.Stack).Pop -/
def b323 (s165 s329 : Fun) : Fun := fun a b => uc a fun a c => uz c (cl (s329 [a, (I 0)] b) fun b c => cT b fun d => cK (nth d 0) fun d => cT b fun b => cK (nth b 1) fun b => cl (s165 [a, (I 1)] c) fun _ a => cK d fun c => cK b fun b => .ret (.tup (.cons c (.cons b .nil))) a)
def g323 : Hint := (.s .z (.s .z (.s .z (.s .z .z))))
theorem e323 (s165 s329 : Fun) : b323 s165 s329 = denF Tryz.prog (gam [(165, s165), (329, s329)]) Tryz.f323 g323 := by kernel_rfl
def s323 : Fun := b323 s165 s329
theorem F323 : Snd Tryz.prog 323 s323 := snd_of hmix (gcons F165 (gcons F329 gnil)) Tryz.func323 (by kernel_rfl) (by kernel_rfl) (e323 s165 s329)

/-- (*obelisk/interp.Machine).play -/
def b90 (s90 s172 s265 s334 s386 s170 s171 : Fun) : Fun := fun a b => uc a fun a c => uc c fun c d => uz d (nm (.norm [c] b) fun d _ => nm (nck d fun a => .norm [a] b) fun d _ => nm (fa 2 d fun a => .norm [a] b) fun d _ => nm (ld1 b d fun a => .norm [a] b) fun e _ => nm (nck e fun a => .norm [a] b) fun f _ => nm (fa 7 f fun a => .norm [a] b) fun f _ => nm (ld1 b f fun a => .norm [a] b) fun g _ => nm (.norm [c] b) fun h _ => nm (nck h fun a => .norm [a] b) fun h _ => nm (fa 3 h fun a => .norm [a] b) fun h _ => nm (ld1 b h fun a => .norm [a] b) fun i _ => nm (ixA 9 g i fun a => .norm [a] b) fun j _ => nm (fa 4 j fun a => .norm [a] b) fun j _ => nm (fa 2 j fun a => .norm [a] b) fun j _ => nm (ld1 b j fun a => .norm [a] b) fun k _ => nm (.norm [c] b) fun l _ => nm (nck l fun a => .norm [a] b) fun l _ => nm (fa 4 l fun a => .norm [a] b) fun l _ => nm (ld1 b l fun a => .norm [a] b) fun m _ => nm (.norm [(.cons (I 0) (.cons (I 0) (.cons (I 0) (.cons (.bool false) (.cons (I 0) (.cons (I 0) (.cons .nils (.cons .nils .nil))))))))] b) fun n _ => lay n .e 0 fun n o => ifB true (rsv b fun b p => nm (ld1 p l fun a => .norm [a] p) fun l _ => same m l (nm (ld1 p j fun a => .norm [a] p) fun j _ => same k j (nm (ld1 p h fun a => .norm [a] p) fun j _ => same i j (nm (ld1 p f fun a => .norm [a] p) fun j _ => same g j (nm (ld1 p d fun a => .norm [a] p) fun j _ => same e j (nm (cl (s170 [k, m] p) fun a b => .norm [a] b) fun j k => nm (ld1 k h fun a => .norm [a] k) fun l _ => same i l (nm (ld1 k f fun a => .norm [a] k) fun l _ => same g l (nm (ld1 k d fun a => .norm [a] k) fun l _ => same e l (nm (.norm [j] k) fun j _ => nm (cT j fun a => cK (nth a 0) fun a => .norm [a] k) fun l _ => nm (cT j fun a => cK (nth a 1) fun a => .norm [a] k) fun j _ => dueK k b o n fun k => nm (ld1 k h fun a => .norm [a] k) fun h _ => same i h (nm (ld1 k f fun a => .norm [a] k) fun f _ => same g f (nm (ld1 k d fun a => .norm [a] k) fun d _ => same e d (nm (stN k 8 (.ptr b 0) l fun a => .norm [(.tup .nil)] a) fun _ d => nm (.norm [j] d) fun _ _ => nl 5 d a fun e => nl 4 d c fun f => cl (s171 [e, f] d) fun _ d => na 9 a fun e => st1 d e .nils fun d => ldN d 8 (.ptr b 0) fun b => cl (s172 [a, c, b] d) fun _ a => .ret (.tup .nil) a)))))))))))) .fail)
def g90 : Hint := (.s (.f [(0, 0), (0, 1), (0, 2), (0, 3), (0, 4), (0, 5), (0, 6), (0, 7), (0, 8), (0, 9), (0, 10), (0, 11), (0, 12), (0, 13), (0, 14), (0, 15), (0, 16), (0, 17), (0, 18), (1, 23), (0, 19), (0, 20), (0, 21), (0, 22), (2, 23), (0, 24), (0, 25)]) (.s (.r [0, 1, 2, 3, 4, 5, 6, 7, 8]) (.s .z .z)))
theorem e90 (s90 s172 s265 s334 s386 s170 s171 : Fun) : b90 s90 s172 s265 s334 s386 s170 s171 = denF Tryz.prog (gam [(170, s170), (171, s171), (172, s172)]) Tryz.f90 g90 := by kernel_rfl

/-- (*obelisk/interp.Machine).exec -/
def b172 (s90 s172 s265 s334 s386 s257 s259 s260 s264 s266 : Fun) : Fun := fun a b => uc a fun a c => uc c fun c d => uc d fun d e => uz e (mk b (cells d) fun b d => fl 2 d b fun e => cl (s257 [e] d) fun d f => cT d fun g => cK (nth g 0) fun g => cT d fun d => cK (nth d 1) fun _ => eqN g (J 0) fun d => ifB (bnot d) (.fail) (blk 0 (ltN (I 20) e fun d => ifB (bnot d) (ldN f 8 b fun b => cl (s260 [a, c, b] f) fun _ a => .norm [] a) (ltN e (I 46) fun d => ap (gsel (.bool (bnot d)) true e) fun g => gj (.bool (bnot d)) true (ltN (I 53) g fun a => .norm [(.bool (bnot a))] f) f fun f g => cB (.bool (bnot d)) fun d => ap (sel d f (.bool false)) fun d => ap (gsel d false e) fun f => gj d false (ltN f (I 79) fun a => .norm [(.bool (bnot a))] g) g fun f g => ap (gsel d false f) fun f => ap (gsel f true e) fun h => gj f true (ltN (I 86) h fun a => .norm [(.bool (bnot a))] g) g fun g h => gj d false (cB f fun a => ap (sel a g (.bool false)) fun a => .norm [a] h) h fun f g => cB d fun d => ap (sel d (.bool true) f) fun d => cB d fun d => ifB d (.fail) (ltN e (I 87) fun d => ap (gsel (.bool (bnot d)) true e) fun f => gj (.bool (bnot d)) true (ltN (I 95) f fun a => .norm [(.bool (bnot a))] g) g fun f g => cB (.bool (bnot d)) fun d => ap (sel d f (.bool false)) fun d => cB d fun d => ifB d (.fail) (eqN e (I 132) fun d => ifB d (.fail) (ltN e (I 96) fun d => ap (gsel (.bool (bnot d)) true e) fun f => gj (.bool (bnot d)) true (ltN (I 148) f fun a => .norm [(.bool (bnot a))] g) g fun f g => cB (.bool (bnot d)) fun d => ap (sel d f (.bool false)) fun d => cB d fun d => ifB d (cl (s264 [a, c, e] g) fun _ a => .norm [] a) (ltN e (I 172) fun d => ap (gsel (.bool (bnot d)) true e) fun f => gj (.bool (bnot d)) true (ltN (I 177) f fun a => .norm [(.bool (bnot a))] g) g fun f g => cB (.bool (bnot d)) fun d => ap (sel d f (.bool false)) fun d => cB d fun d => ifB d (cl (s265 [a, e] g) fun _ a => .norm [] a) (ltN e (I 178) fun d => ap (gsel (.bool (bnot d)) true e) fun e => gj (.bool (bnot d)) true (ltN (I 181) e fun a => .norm [(.bool (bnot a))] g) g fun e f => cB (.bool (bnot d)) fun d => ap (sel d e (.bool false)) fun d => cB d fun d => ifB d (ldN f 8 b fun b => cl (s266 [a, c, b] f) fun _ a => .norm [] a) (.fail)))))))) fun _ a => .ret (.tup .nil) a))
def g172 : Hint := (.s .z (.s .z (.s (.s .z (.s .z (.s .z .z))) (.b [] (.s .z (.s .z (.s .z (.s .z (.s .z (.s .z (.s .z (.s .z (.s .z (.s .z (.s .z (.s .z (.s .z (.s .z .z))))))))))))))))))
theorem e172 (s90 s172 s265 s334 s386 s257 s259 s260 s264 s266 : Fun) : b172 s90 s172 s265 s334 s386 s257 s259 s260 s264 s266 = denF Tryz.prog (gam [(257, s257), (259, s259), (260, s260), (264, s264), (265, s265), (266, s266)]) Tryz.f172 g172 := by kernel_rfl

/-- (*obelisk/interp.Machine).leave -/
def b265 (s90 s172 s265 s334 s386 s323 : Fun) : Fun := fun a b => uc a fun a c => uc c fun c d => uz d (blk 0 (eqN c (I 177) fun d => ifB d (cl (s334 [a, (I 0), (.bool false), (I 0)] b) fun _ a => .norm [] a) (eqN c (I 173) fun c => ifB c (.fail) (nl 5 b a fun c => cl (s323 [c] b) fun b c => cT b fun d => cK (nth d 0) fun d => cT b fun b => cK (nth b 1) fun b => cl (s334 [a, d, b, (I 1)] c) fun _ a => .norm [] a))) fun _ a => .ret (.tup .nil) a)
def g265 : Hint := (.s .z (.b [] (.s .z (.s .z (.s .z (.s .z (.s .z .z)))))))
theorem e265 (s90 s172 s265 s334 s386 s323 : Fun) : b265 s90 s172 s265 s334 s386 s323 = denF Tryz.prog (gam [(323, s323), (334, s334)]) Tryz.f265 g265 := by kernel_rfl

/-- (*obelisk/interp.Machine).back -/
def b334 (s90 s172 s265 s334 s386 s82 s89 s154 s168 s259 s384 : Fun) : Fun := fun a b => uc a fun a c => uc c fun c d => uc d fun d e => uc e fun e f => uz f (cl (s89 [a] b) fun b f => nm (.norm [b] f) fun g _ => nm (nck g fun a => .norm [a] f) fun g _ => nm (fa 2 g fun a => .norm [a] f) fun g _ => nm (ld1 f g fun a => .norm [a] f) fun h _ => nm (nck h fun a => .norm [a] f) fun i _ => nm (fa 7 i fun a => .norm [a] f) fun i _ => nm (ld1 f i fun a => .norm [a] f) fun j _ => nm (.norm [b] f) fun k _ => nm (nck k fun a => .norm [a] f) fun k _ => nm (fa 3 k fun a => .norm [a] f) fun k _ => nm (ld1 f k fun a => .norm [a] f) fun l _ => nm (ixA 9 j l fun a => .norm [a] f) fun m _ => nm (fa 2 m fun a => .norm [a] f) fun m _ => nm (ld1 f m fun a => .norm [a] f) fun n _ => nm (.norm [(.cons (J 0) (.cons (.str 0 0) (.cons (I 0) (.cons (J 0) .nil))))] f) fun o _ => lay o .e 0 fun o p => ifB true (rsv f fun f q => nm (ld1 q m fun a => .norm [a] q) fun m _ => same n m (nm (ld1 q k fun a => .norm [a] q) fun k _ => same l k (nm (ld1 q i fun a => .norm [a] q) fun i _ => same j i (nm (ld1 q g fun a => .norm [a] q) fun i _ => same h i (nm (cl (s154 [n] q) fun a b => .norm [a] b) fun i j => nm (ld1 j g fun a => .norm [a] j) fun k _ => same h k (nm (.norm [i] j) fun i _ => nm (cT i fun a => cK (nth a 0) fun a => .norm [a] j) fun k _ => nm (cT i fun a => cK (nth a 1) fun a => .norm [a] j) fun l _ => nm (cT i fun a => cK (nth a 2) fun a => .norm [a] j) fun i _ => nm (.norm [k] j) fun _ _ => dueK j f p o fun j => nm (ld1 j g fun a => .norm [a] j) fun g _ => same h g (nm (stN j 4 (.ptr f 0) l fun a => .norm [(.tup .nil)] a) fun _ g => nm (.norm [i] g) fun _ _ => cl (s168 [a] g) fun _ g => blk 0 (nl 0 g b fun h => eqN h (I 1) fun h => ifB h (nl 5 g b fun b => cl (s386 [a, b] g) fun _ a => .ret (.tup .nil) a) (nl 0 g b fun b => eqN b (I 2) fun b => ifB b (.fail) (.norm [a, c, d, e, (.ptr f 0)] g))) fun a b => uc a fun a c => uc c fun c d => uc d fun d e => uc e fun e f => uc f fun f _ => cl (s89 [a] b) fun b g => eqP b .nilp fun h => ifB h (bld [(false, 1, (I 0)), (false, 1, (I 1)), (false, 1, (J 0)), (false, 1, c), (false, 1, (.str 0 0)), (false, 1, (.str 0 0)), (false, 1, (.bool false)), (false, 1, (I 0)), (false, 1, .nils), (false, 1, (I 0)), (false, 1, (I 0))] fun b => mk g (.cons (I 0) (.cons (I 0) (.cons (J 0) (.cons (I 0) (.cons (.str 0 0) (.cons (.str 0 0) (.cons (.bool false) (.cons (I 0) (.cons .nils (.cons (I 0) (.cons (I 0) .nil))))))))))) fun c d => stN d 11 c (.agg b) fun b => jn (fl 0 b f fun d => eqN d (J 86) fun d => ifB (bnot d) (fl 0 b f fun d => fa 2 c fun e => st1 b e d fun b => .norm [a, c] b) (.norm [a, c] b)) fun a b => uc a fun a c => uc c fun c _ => ldN b 11 c fun c => cl (s82 [a, c] b) fun _ a => .ret (.tup .nil) a) (cl (s384 [a, c, d, e] g) fun _ c => cl (s259 [a, b] c) fun _ a => .ret (.tup .nil) a)))))))) .fail)
def g334 : Hint := (.s .z (.s (.f [(0, 0), (0, 1), (0, 2), (0, 3), (0, 4), (0, 5), (0, 6), (0, 7), (0, 8), (0, 9), (0, 10), (0, 11), (0, 12), (0, 13), (1, 19), (0, 14), (0, 15), (0, 16), (0, 17), (0, 18), (0, 20), (2, 19), (0, 21), (0, 22)]) (.s .z (.s (.b [0, 1, 2, 3, 10] (.s .z (.s (.s .z .z) (.s .z (.s .z .z))))) (.s .z (.s (.s .z (.s (.s .z (.j [0, 13] (.s .z (.s .z .z)) (.s .z .z))) .z)) (.s .z .z)))))))
theorem e334 (s90 s172 s265 s334 s386 s82 s89 s154 s168 s259 s384 : Fun) : b334 s90 s172 s265 s334 s386 s82 s89 s154 s168 s259 s384 = denF Tryz.prog (gam [(82, s82), (89, s89), (154, s154), (168, s168), (259, s259), (384, s384), (386, s386)]) Tryz.f334 g334 := by kernel_rfl

/-- (*obelisk/interp.Machine).started -/
def b386 (s90 s172 s265 s334 s386 s87 s89 s159 s247 : Fun) : Fun := fun a b => uc a fun a c => uc c fun c d => uz d (cl (s247 [a, c] b) fun _ b => cl (s159 [a, c] b) fun b c => eqN b (I 0) fun b => ifB (bnot b) (.ret (.tup .nil) c) (cl (s89 [a] c) fun b c => eqP b .nilp fun d => ifB (bnot d) (cl (s90 [a, b] c) fun _ a => .ret (.tup .nil) a) (cl (s87 [a] c) fun _ a => .ret (.tup .nil) a)))
def g386 : Hint := (.s .z (.s (.s .z (.s .z .z)) (.s (.s .z (.s .z (.s (.s .z .z) .z))) .z)))
theorem e386 (s90 s172 s265 s334 s386 s87 s89 s159 s247 : Fun) : b386 s90 s172 s265 s334 s386 s87 s89 s159 s247 = denF Tryz.prog (gam [(87, s87), (89, s89), (90, s90), (159, s159), (247, s247)]) Tryz.f386 g386 := by kernel_rfl
def T90 (d : Nat) : Fun × Fun × Fun × Fun × Fun := Nat.rec (motive := fun _ => Fun × Fun × Fun × Fun × Fun) ((fun _ _ => .fail), ((fun _ _ => .fail), ((fun _ _ => .fail), ((fun _ _ => .fail), (fun _ _ => .fail))))) (fun _ ih => (b90 (ih.1) (ih.2.1) (ih.2.2.1) (ih.2.2.2.1) (ih.2.2.2.2) s170 s171, (b172 (ih.1) (ih.2.1) (ih.2.2.1) (ih.2.2.2.1) (ih.2.2.2.2) s257 s259 s260 s264 s266, (b265 (ih.1) (ih.2.1) (ih.2.2.1) (ih.2.2.2.1) (ih.2.2.2.2) s323, (b334 (ih.1) (ih.2.1) (ih.2.2.1) (ih.2.2.2.1) (ih.2.2.2.2) s82 s89 s154 s168 s259 s384, b386 (ih.1) (ih.2.1) (ih.2.2.1) (ih.2.2.2.1) (ih.2.2.2.2) s87 s89 s159 s247))))) d
theorem G90 : ∀ d, Snd Tryz.prog 90 ((T90 d).1) ∧ Snd Tryz.prog 172 ((T90 d).2.1) ∧ Snd Tryz.prog 265 ((T90 d).2.2.1) ∧ Snd Tryz.prog 334 ((T90 d).2.2.2.1) ∧ Snd Tryz.prog 386 ((T90 d).2.2.2.2) := by
  intro d
  induction d with
  | zero => exact ⟨snd_fail Tryz.func90 (by kernel_rfl) (by kernel_rfl), snd_fail Tryz.func172 (by kernel_rfl) (by kernel_rfl), snd_fail Tryz.func265 (by kernel_rfl) (by kernel_rfl), snd_fail Tryz.func334 (by kernel_rfl) (by kernel_rfl), snd_fail Tryz.func386 (by kernel_rfl) (by kernel_rfl)⟩
  | succ d ih =>
    obtain ⟨H90, H172, H265, H334, H386⟩ := ih
    exact ⟨snd_of hmix (gcons F170 (gcons F171 (gcons H172 gnil))) Tryz.func90 (by kernel_rfl) (by kernel_rfl) (e90 ((T90 d).1) ((T90 d).2.1) ((T90 d).2.2.1) ((T90 d).2.2.2.1) ((T90 d).2.2.2.2) s170 s171), snd_of hmix (gcons F257 (gcons F259 (gcons F260 (gcons F264 (gcons H265 (gcons F266 gnil)))))) Tryz.func172 (by kernel_rfl) (by kernel_rfl) (e172 ((T90 d).1) ((T90 d).2.1) ((T90 d).2.2.1) ((T90 d).2.2.2.1) ((T90 d).2.2.2.2) s257 s259 s260 s264 s266), snd_of hmix (gcons F323 (gcons H334 gnil)) Tryz.func265 (by kernel_rfl) (by kernel_rfl) (e265 ((T90 d).1) ((T90 d).2.1) ((T90 d).2.2.1) ((T90 d).2.2.2.1) ((T90 d).2.2.2.2) s323), snd_of hmix (gcons F82 (gcons F89 (gcons F154 (gcons F168 (gcons F259 (gcons F384 (gcons H386 gnil))))))) Tryz.func334 (by kernel_rfl) (by kernel_rfl) (e334 ((T90 d).1) ((T90 d).2.1) ((T90 d).2.2.1) ((T90 d).2.2.2.1) ((T90 d).2.2.2.2) s82 s89 s154 s168 s259 s384), snd_of hmix (gcons F87 (gcons F89 (gcons H90 (gcons F159 (gcons F247 gnil))))) Tryz.func386 (by kernel_rfl) (by kernel_rfl) (e386 ((T90 d).1) ((T90 d).2.1) ((T90 d).2.2.1) ((T90 d).2.2.2.1) ((T90 d).2.2.2.2) s87 s89 s159 s247)⟩
def s90 : Fun := ((T90 200).1)
theorem F90 : Snd Tryz.prog 90 s90 := ((G90 200).1)
def s172 : Fun := ((T90 200).2.1)
theorem F172 : Snd Tryz.prog 172 s172 := ((G90 200).2.1)
def s265 : Fun := ((T90 200).2.2.1)
theorem F265 : Snd Tryz.prog 265 s265 := ((G90 200).2.2.1)
def s334 : Fun := ((T90 200).2.2.2.1)
theorem F334 : Snd Tryz.prog 334 s334 := ((G90 200).2.2.2.1)
def s386 : Fun := ((T90 200).2.2.2.2)
theorem F386 : Snd Tryz.prog 386 s386 := ((G90 200).2.2.2.2)

/-- (*obelisk/interp.Machine).Step -/
def b60 (s82 s88 s89 s90 : Fun) : Fun := fun a b => uc a fun a c => uz c (eqP a .nilp fun c => ap (gsel (.bool c) false a) fun d => gj (.bool c) false (nck d fun a => .norm [a] b) b fun b d => gj (.bool c) false (fa 15 b fun a => .norm [a] d) d fun b d => gj (.bool c) false (ld1 d b fun a => .norm [a] d) d fun b d => gj (.bool c) false (bNot b fun a => .norm [a] d) d fun b d => cB (.bool c) fun c => ap (sel c (.bool true) b) fun b => cB b fun b => ifB b (.fail) (nl 17 d a fun b => nl 16 d a fun c => ltN b c fun b => ifB (bnot b) (.fail) (nl 18 d a fun b => iAdd b (I 1) fun b => na 18 a fun c => st1 d c b fun b => nl 19 b a fun c => nl 18 b a fun d => iMax c d fun c => na 19 a fun d => st1 b d c fun b => cl (s89 [a] b) fun b c => nl 17 c a fun d => iAdd d (I 1) fun d => na 17 a fun e => st1 c e d fun c => na 2 b fun d => ld1 c d fun e => na 7 e fun f => ld1 c f fun g => na 3 b fun h => ld1 c h fun i => ixA 9 g i fun j => ldN c 9 j fun k => mk c (.cons (I 0) (.cons (.str 0 0) (.cons (.str 0 0) (.cons (.bool false) (.cons (I 0) (.cons (I 0) (.cons .nils (.cons .nils (.cons .nils .nil))))))))) fun c l => ldN l 9 j fun j => same k j (ld1 l h fun h => same i h (ld1 l f fun f => same g f (ld1 l d fun d => same e d (stN l 9 c k fun d => nl 31 d a fun e => nl 2 d b fun f => nl 3 d f fun f => sCat f (.str 1 46) fun f => fl 1 d c fun g => sCat f g fun f => sCat f (.str 1 58) fun f => fl 2 d c fun c => sCat f c fun c => lkp kqS d false (I 0) e c fun f => iAdd f (I 1) fun f => mup kqS d e c f fun c => na 1 b fun d => st1 c d (I 1) fun c => cl (s90 [a, b] c) fun _ b => cl (s88 [a] b) fun _ b => nl 18 b a fun c => iSub c (I 1) fun c => na 18 a fun d => st1 b d c fun b => nl 15 b a fun a => cK a fun a => .ret a b)))))))
def g60 : Hint := (.s .z (.s (.s .z (.s .z .z)) (.s (.s (.r [0, 1, 2, 3, 4, 5, 6, 7, 8]) (.s .z .z)) (.s .z (.s (.r [0, 1, 2, 3, 4, 5, 6, 7, 8, 9, 10, 11, 12]) (.s .z (.s .z (.s (.r [0, 1, 2, 3, 4, 5, 6, 7, 8, 9, 10, 11, 12, 13, 14]) (.s (.r [0, 1, 2, 3, 4, 5, 6, 7, 8, 9, 10, 11, 12, 13, 14, 15, 16, 17, 18, 19, 20, 21]) (.s .z (.s .z (.s .z (.s .z (.s .z .z))))))))))))))
theorem e60 (s82 s88 s89 s90 : Fun) : b60 s82 s88 s89 s90 = denF Tryz.prog (gam [(82, s82), (88, s88), (89, s89), (90, s90)]) Tryz.f60 g60 := by kernel_rfl
def s60 : Fun := b60 s82 s88 s89 s90
theorem F60 : Snd Tryz.prog 60 s60 := snd_of hmix (gcons F82 (gcons F88 (gcons F89 (gcons F90 gnil)))) Tryz.func60 (by kernel_rfl) (by kernel_rfl) (e60 s82 s88 s89 s90)

/-- (*obelisk/interp.Machine).End -/
def b61 : Fun := fun a b => uc a fun a c => uz c (mk b (.cons (I 0) (.cons (I 0) (.cons (J 0) (.cons (I 0) (.cons (.str 0 0) (.cons (.str 0 0) (.cons (.bool false) (.cons (I 0) (.cons .nils (.cons (I 0) (.cons (I 0) .nil))))))))))) fun b c => eqP a .nilp fun d => ifB d (.fail) (na 20 a fun d => ldN c 11 d fun d => na 15 a fun a => ld1 c a fun e => bNot e fun f => stN c 11 b d fun c => ld1 c a fun a => same e a (ldN c 11 b fun a => cK f fun b => .ret (.tup (.cons a (.cons b .nil))) c)))
def g61 : Hint := (.s .z (.s (.s .z (.s .z .z)) (.s (.r [0, 1, 2, 3, 4, 5, 6, 7, 8, 9, 10]) .z)))
theorem e61 : b61 = denF Tryz.prog (gam []) Tryz.f61 g61 := by kernel_rfl
def s61 : Fun := b61
theorem F61 : Snd Tryz.prog 61 s61 := snd_of hmix gnil Tryz.func61 (by kernel_rfl) (by kernel_rfl) (e61)

/-- (*obelisk/interp.Machine).Run -/
def L44n0 (s59 s60 s61 : Fun) : List AV → Hp → Res := fun a b => uc a fun a c => uc c fun c _ => cl (s60 [a] b) fun b d => cB b fun b => ifB b (blk 1 (.norm [a, c] d) fun a b => uc a fun a c => uc c fun c _ => .norm [a, c] b) (.exit 0 [a, c] d)
def b44 (s59 s60 s61 : Fun) : Fun := fun a b => uc a fun a c => uc c fun c d => uc d fun d e => uc e fun e f => uc f fun f g => uz g (mk b (.cons (I 0) (.cons (I 0) (.cons (J 0) (.cons (I 0) (.cons (.str 0 0) (.cons (.str 0 0) (.cons (.bool false) (.cons (I 0) (.cons .nils (.cons (I 0) (.cons (I 0) .nil))))))))))) fun b g => cl (s59 [a, c, d, e, f] g) fun c d => mk d (.cons (I 0) (.cons (I 0) (.cons (J 0) (.cons (I 0) (.cons (.str 0 0) (.cons (.str 0 0) (.cons (.bool false) (.cons (I 0) (.cons .nils (.cons (I 0) (.cons (I 0) .nil))))))))))) fun d e => stN e 11 d c fun c => fl 1 c d fun d => eqN d (I 5) fun d => ifB d (.fail) (blk 0 (lp (L44n0 s59 s60 s61) most [a, b] c) fun a b => uc a fun a c => uc c fun c _ => cl (s61 [a] b) fun a b => cT a fun d => cK (nth d 0) fun d => cT a fun a => cK (nth a 1) fun _ => mk b (.cons (I 0) (.cons (I 0) (.cons (J 0) (.cons (I 0) (.cons (.str 0 0) (.cons (.str 0 0) (.cons (.bool false) (.cons (I 0) (.cons .nils (.cons (I 0) (.cons (I 0) .nil))))))))))) fun a b => stN b 11 a d fun b => ldN b 11 a fun a => stN b 11 c a fun a => ldN a 11 c fun b => .ret b a))
def g44 : Hint := (.s .z (.s (.s .z (.s .z (.s .z .z))) (.s (.b [0, 10] (.l [0, 10] (.s (.s .z (.s .z .z)) (.b [0, 10] .z)))) (.s .z (.s .z .z)))))
theorem e44 (s59 s60 s61 : Fun) : b44 s59 s60 s61 = denF Tryz.prog (gam [(59, s59), (60, s60), (61, s61)]) Tryz.f44 g44 := by kernel_rfl
def s44 : Fun := b44 s59 s60 s61
theorem F44 : Snd Tryz.prog 44 s44 := snd_of hmix (gcons F59 (gcons F60 (gcons F61 gnil))) Tryz.func44 (by kernel_rfl) (by kernel_rfl) (e44 s59 s60 s61)

/-- (*obelisk/interp.Machine).Out -/
def b45 (s62 : Fun) : Fun := fun a b => uc a fun a c => uz c (eqP a .nilp fun c => ifB c (.fail) (nl 4 b a fun a => cl (s62 [a] b) fun a b => cK a fun a => .ret a b))
def g45 : Hint := (.s .z (.s (.s .z (.s .z .z)) (.s .z .z)))
theorem e45 (s62 : Fun) : b45 s62 = denF Tryz.prog (gam [(62, s62)]) Tryz.f45 g45 := by kernel_rfl
def s45 : Fun := b45 s62
theorem F45 : Snd Tryz.prog 45 s45 := snd_of hmix (gcons F62 gnil) Tryz.func45 (by kernel_rfl) (by kernel_rfl) (e45 s62)

/-- (*obelisk/interp.Machine).Collect -/
def b46 (s63 : Fun) : Fun := fun a b => uc a fun a c => uz c (eqP a .nilp fun c => ifB c (.fail) (cl (s63 [a] b) fun a b => cK a fun a => .ret a b))
def g46 : Hint := (.s .z (.s (.s .z (.s .z .z)) (.s .z .z)))
theorem e46 (s63 : Fun) : b46 s63 = denF Tryz.prog (gam [(63, s63)]) Tryz.f46 g46 := by kernel_rfl
def s46 : Fun := b46 s63
theorem F46 : Snd Tryz.prog 46 s46 := snd_of hmix (gcons F63 gnil) Tryz.func46 (by kernel_rfl) (by kernel_rfl) (e46 s63)

/-- (*obelisk/interp.Machine).Depth -/
def b47 : Fun := fun a b => uc a fun a c => uz c (eqP a .nilp fun c => ifB c (.fail) (nl 19 b a fun a => cK a fun a => .ret a b))
def g47 : Hint := (.s .z (.s (.s .z (.s .z .z)) (.s .z .z)))
theorem e47 : b47 = denF Tryz.prog (gam []) Tryz.f47 g47 := by kernel_rfl
def s47 : Fun := b47
theorem F47 : Snd Tryz.prog 47 s47 := snd_of hmix gnil Tryz.func47 (by kernel_rfl) (by kernel_rfl) (e47)

/-- (*obelisk/tower.Tower).Step -/
def b36 (s43 s44 s45 s46 s47 : Fun) : Fun := fun a b => uc a fun a c => uc c fun c d => uz d (mk b (cells c) fun b c => mk c (.cons (I 0) (.cons (I 0) (.cons (J 0) (.cons (I 0) (.cons (.str 0 0) (.cons (.str 0 0) (.cons (.bool false) (.cons (I 0) (.cons .nils (.cons (I 0) (.cons (I 0) .nil))))))))))) fun c d => eqP a .nilp fun e => ifB e (.fail) (fl 0 d b fun e => blk 0 (eqN e (I 1) fun f => ifB f (nl 0 d a fun a => fl 1 d b fun e => fl 2 d b fun b => cl (s43 [a, e, b] d) fun a b => bld [(false, 1, a), (false, 1, (I 0)), (false, 1, (J 0)), (false, 1, (I 0)), (false, 1, (.str 0 0)), (false, 1, (.str 0 0)), (false, 1, (.bool false)), (false, 1, (I 0)), (false, 1, .nils), (false, 1, (I 0)), (false, 1, (I 0))] fun a => stN b 11 c (.agg a) fun a => ldN a 11 c fun b => .ret b a) (eqN e (I 2) fun f => ifB f (nl 1 d a fun a => fl 1 d b fun e => fl 3 d b fun f => fl 4 d b fun g => fl 5 d b fun b => cl (s44 [a, e, f, g, b] d) fun a b => stN b 11 c a fun a => ldN a 11 c fun b => .ret b a) (eqN e (I 3) fun b => ifB b (nl 1 d a fun b => na 1 a fun e => ld1 d e fun f => na 1 a fun a => ld1 d a fun g => cl (s45 [b] d) fun b d => ld1 d a fun h => same g h (ld1 d e fun e => same f e (cl (s46 [f] d) fun d e => ld1 e a fun a => same g a (cl (s47 [g] e) fun a e => bld [(false, 1, (I 0)), (false, 1, (I 0)), (false, 1, (J 0)), (false, 1, (I 0)), (false, 1, (.str 0 0)), (false, 1, (.str 0 0)), (false, 1, (.bool false)), (false, 1, (I 0)), (false, 1, b), (false, 1, d), (false, 1, a)] fun a => stN e 11 c (.agg a) fun a => ldN a 11 c fun b => .ret b a)))) (.norm [c] d)))) fun a b => uc a fun a _ => bld [(false, 1, (I 1)), (false, 1, (I 5)), (false, 1, (J 0)), (false, 1, (I 0)), (false, 1, (.str 0 0)), (false, 1, (.str 0 0)), (false, 1, (.bool false)), (false, 1, (I 0)), (false, 1, .nils), (false, 1, (I 0)), (false, 1, (I 0))] fun c => stN b 11 a (.agg c) fun b => ldN b 11 a fun a => .ret a b))
def g36 : Hint := (.s .z (.s (.s .z (.s .z .z)) (.s (.s .z (.b [4] (.s .z (.s (.s (.r [0, 1, 2, 3, 4, 5, 6, 7, 8, 9, 10]) .z) (.s .z (.s (.s (.r [0, 1, 2, 3, 4, 5, 6, 7, 8, 9, 10, 11, 12, 13]) .z) (.s .z (.s (.s (.r [0, 1, 2, 3, 5, 6, 7, 8, 10, 11, 12, 13, 4, 9, 14, 15, 16]) .z) .z)))))))) (.s .z .z))))
theorem e36 (s43 s44 s45 s46 s47 : Fun) : b36 s43 s44 s45 s46 s47 = denF Tryz.prog (gam [(43, s43), (44, s44), (45, s45), (46, s46), (47, s47)]) Tryz.f36 g36 := by kernel_rfl
def s36 : Fun := b36 s43 s44 s45 s46 s47
theorem F36 : Snd Tryz.prog 36 s36 := snd_of hmix (gcons F43 (gcons F44 (gcons F45 (gcons F46 (gcons F47 gnil))))) Tryz.func36 (by kernel_rfl) (by kernel_rfl) (e36 s43 s44 s45 s46 s47)

/-- obelisk/tower.Play -/
def L40n0 (s35 s36 : Fun) : List AV → Hp → Res := fun a b => uc a fun a c => uc c fun c d => uc d fun d e => uc e fun e f => uc f fun f _ => ltN f e fun g => ifB g (blk 1 (ixA 6 d f fun g => ldN b 6 g fun g => mk b (.cons (I 0) (.cons (.str 0 0) (.cons .nils (.cons (.str 0 0) (.cons .nils (.cons (I 0) .nil)))))) fun b h => stN h 6 b g fun g => ldN g 6 b fun b => cl (s36 [a, b] g) fun b g => bld [(true, 11, b)] fun b => mkS g 11 1 b fun b g => apd g 11 120 c b fun b c => .norm [a, b, d, e, f] c) fun a b => uc a fun a c => uc c fun c d => uc d fun d e => uc e fun e f => uc f fun f _ => iAdd f (I 1) fun f => .norm [a, c, d, e, f] b) (.exit 0 [c] b)
def b40 (s35 s36 : Fun) : Fun := fun a b => uc a fun a c => uz c (cl (s35 [] b) fun b c => lenL a fun d => blk 0 (lp (L40n0 s35 s36) most [b, .nils, a, d, (I 0)] c) fun a b => uc a fun a _ => cK a fun a => .ret a b)
def g40 : Hint := (.s .z (.s .z (.s .z (.s (.s .z (.b [4] (.l [3, 4, 8, 9, 10] (.s .z (.s (.s .z .z) (.s (.b [3, 4, 8, 9, 10] (.s .z .z)) .z)))))) (.s .z .z)))))
theorem e40 (s35 s36 : Fun) : b40 s35 s36 = denF Tryz.prog (gam [(35, s35), (36, s36)]) Tryz.f40 g40 := by kernel_rfl
def s40 : Fun := b40 s35 s36
theorem F40 : Snd Tryz.prog 40 s40 := snd_of hmix (gcons F35 (gcons F36 gnil)) Tryz.func40 (by kernel_rfl) (by kernel_rfl) (e40 s35 s36)

/-- obelisk/obelisklaw27.begun -/
def b32 (s40 : Fun) : Fun := fun a b => uz a (bld [(false, 1, (I 1)), (false, 1, (.str 1 97)), (false, 1, .nils), (false, 1, (.str 0 0)), (false, 1, .nils), (false, 1, (I 0))] fun a => bld [(false, 1, (I 3)), (false, 1, (.str 0 0)), (false, 1, .nils), (false, 1, (.str 0 0)), (false, 1, .nils), (false, 1, (I 0))] fun c => bld [(false, 1, (I 9)), (false, 1, (.str 0 0)), (false, 1, .nils), (false, 1, (.str 0 0)), (false, 1, .nils), (false, 1, (I 0))] fun d => bld [(true, 6, (.agg a)), (true, 6, (.agg c)), (true, 6, (.agg d))] fun a => mkS b 6 3 a fun a b => cl (s40 [a] b) fun a b => lenL a fun c => eqN c (I 3) fun c => ap (gsel (.bool c) true a) fun d => gj (.bool c) true (ixA 11 d (I 0) fun a => .norm [a] b) b fun b d => gj (.bool c) true (fa 0 b fun a => .norm [a] d) d fun b d => gj (.bool c) true (ld1 d b fun a => .norm [a] d) d fun b d => gj (.bool c) true (eqN b (I 1) fun a => .norm [(.bool a)] d) d fun b d => cB (.bool c) fun c => ap (sel c b (.bool false)) fun b => ap (gsel b true a) fun c => gj b true (ixA 11 c (I 1) fun a => .norm [a] d) d fun c d => gj b true (fa 9 c fun a => .norm [a] d) d fun c d => gj b true (ld1 d c fun a => .norm [a] d) d fun c d => gj b true (eqN c (I 8) fun a => .norm [(.bool a)] d) d fun c d => cB b fun b => ap (sel b c (.bool false)) fun b => ap (gsel b true a) fun c => gj b true (ixA 11 c (I 2) fun a => .norm [a] d) d fun c d => gj b true (fa 1 c fun a => .norm [a] d) d fun c d => gj b true (ld1 d c fun a => .norm [a] d) d fun c d => gj b true (eqN c (I 5) fun a => .norm [(.bool a)] d) d fun c d => cB b fun b => ap (sel b c (.bool false)) fun b => ap (gsel b true a) fun a => gj b true (ixA 11 a (I 2) fun a => .norm [a] d) d fun a c => gj b true (fa 0 a fun a => .norm [a] c) c fun a c => gj b true (ld1 c a fun a => .norm [a] c) c fun a c => gj b true (eqN a (I 1) fun a => .norm [(.bool a)] c) c fun a c => cB b fun b => ap (sel b a (.bool false)) fun a => cK a fun a => .ret a c)
def g32 : Hint := (.s .z (.s .z (.s .z .z)))
theorem e32 (s40 : Fun) : b32 s40 = denF Tryz.prog (gam [(40, s40)]) Tryz.f32 g32 := by kernel_rfl
def s32 : Fun := b32 s40
theorem F32 : Snd Tryz.prog 32 s32 := snd_of hmix (gcons F40 gnil) Tryz.func32 (by kernel_rfl) (by kernel_rfl) (e32 s40)

/-- obelisk/obelisklaw27.Begun -/
def b8 (s32 : Fun) : Fun := fun a b => uz a (cl (s32 [] b) fun a b => cK a fun a => .ret a b)
def g8 : Hint := (.s .z (.s .z .z))
theorem e8 (s32 : Fun) : b8 s32 = denF Tryz.prog (gam [(32, s32)]) Tryz.f8 g8 := by kernel_rfl
def r8 : Fun := b8 s32
theorem R8 : Snd Tryz.prog 8 r8 := snd_of hmix (gcons F32 gnil) Tryz.func8 (by kernel_rfl) (by kernel_rfl) (e8 s32)
theorem w8 : isT (r8 [] H0) = true := by kernel_rfl
def s8 : Fun := truth
theorem F8 : Snd Tryz.prog 8 s8 := ⟨truth_sound R8.1 w8, R8.2⟩


/-- obelisk/obelisktop.class -/
def b9 : Fun := fun a b => uc a fun a c => uc c fun c d => uc d fun d e => uz e (bld [(false, 1, .nils), (false, 1, .nils), (false, 1, .nils), (false, 1, (I 1)), (false, 1, a), (false, 1, c), (false, 1, d), (false, 1, (I 52)), (false, 1, .nils), (false, 1, .nils), (false, 1, (I 0)), (false, 1, .nils), (false, 1, (I 0))] fun a => mk b (cells (.agg a)) fun a b => cK a fun a => .ret a b)
def g9 : Hint := (.s .z (.s .z .z))
theorem e9 : b9 = denF Tryz.prog (gam []) Tryz.f9 g9 := by kernel_rfl
def s9 : Fun := b9
theorem F9 : Snd Tryz.prog 9 s9 := snd_of hmix gnil Tryz.func9 (by kernel_rfl) (by kernel_rfl) (e9)

/-- obelisk/obelisktop.join -/
def L10n0 : List AV → Hp → Res := fun a b => uc a fun a c => uc c fun c d => uc d fun d _ => lenL a fun e => ltN d e fun e => ifB e (blk 1 (ixA 1 a d fun e => ld1 b e fun e => apd b 1 1 c e fun b c => .norm [a, b, d] c) fun a b => uc a fun a c => uc c fun c d => uc d fun d _ => iAdd d (I 1) fun d => .norm [a, c, d] b) (.exit 0 [c] b)
def b10 : Fun := fun a b => uc a fun a c => uz c (blk 0 (lp L10n0 most [a, .nils, (I 0)] b) fun a b => uc a fun a _ => cK a fun a => .ret a b)
def g10 : Hint := (.s .z (.s .z (.s (.s .z (.b [3] (.l [0, 3, 4] (.s (.s .z (.s .z .z)) (.s (.b [0, 3, 4] .z) .z))))) (.s .z .z))))
theorem e10 : b10 = denF Tryz.prog (gam []) Tryz.f10 g10 := by kernel_rfl
def s10 : Fun := b10
theorem F10 : Snd Tryz.prog 10 s10 := snd_of hmix gnil Tryz.func10 (by kernel_rfl) (by kernel_rfl) (e10)

/-- obelisk/obelisktop.two -/
def b11 : Fun := fun a b => uc a fun a c => uz c (iShr a (.int 64 (.ofNat 8)) fun c => iConv 8 c fun c => iConv 8 a fun a => bld [(false, 1, c), (false, 1, a)] fun a => mkS b 1 2 a fun a b => cK a fun a => .ret a b)
def g11 : Hint := (.s .z (.s .z .z))
theorem e11 : b11 = denF Tryz.prog (gam []) Tryz.f11 g11 := by kernel_rfl
def s11 : Fun := b11
theorem F11 : Snd Tryz.prog 11 s11 := snd_of hmix gnil Tryz.func11 (by kernel_rfl) (by kernel_rfl) (e11)

/-- (*obelisk/obelisktop.C).put -/
def L33n0 : List AV → Hp → Res := fun a b => uc a fun a c => uc c fun c d => uc d fun d e => uc e fun e f => uc f fun f _ => nl 0 b a fun g => lenL g fun g => ltN f g fun g => ifB g (blk 1 (nl 0 b a fun g => ixA 1 g f fun g => ld1 b g fun g => eqS g c fun g => ifB g (nl 2 b a fun a => ixA 1 a f fun a => ld1 b a fun a => cK a fun a => .ret a b) (.norm [a, c, d, e, f] b)) fun a b => uc a fun a c => uc c fun c d => uc d fun d e => uc e fun e f => uc f fun f _ => iAdd f (I 1) fun f => .norm [a, c, d, e, f] b) (.exit 0 [a, c, d, e] b)
def b33 : Fun := fun a b => uc a fun a c => uc c fun c d => uc d fun d e => uc e fun e f => uz f (blk 0 (lp L33n0 most [a, c, d, e, (I 0)] b) fun a b => uc a fun a c => uc c fun c d => uc d fun d e => uc e fun e _ => nl 0 b a fun f => bld [(false, 1, c)] fun c => mkS b 1 1 c fun b c => apd c 1 16 f b fun b c => na 0 a fun f => st1 c f b fun b => nl 1 b a fun c => bld [(false, 1, d)] fun d => mkS b 1 1 d fun b d => apd d 1 24 c b fun b c => na 1 a fun d => st1 c d b fun b => na 2 a fun c => ld1 b c fun d => nl 3 b a fun f => bld [(false, 1, f)] fun f => mkS b 1 1 f fun b f => ld1 f c fun c => same d c (apd f 1 8 d b fun b c => na 2 a fun d => st1 c d b fun b => nl 3 b a fun c => iAdd c e fun c => na 3 a fun d => st1 b d c fun b => nl 3 b a fun a => iSub a e fun a => cK a fun a => .ret a b))
def g33 : Hint := (.s .z (.s (.s .z (.b [0, 1, 2, 3] (.l [0, 1, 2, 3, 9] (.s (.s .z (.s .z .z)) (.s (.b [0, 1, 2, 3, 9] (.s .z (.s (.s .z .z) .z))) .z))))) (.s .z (.s .z (.s (.r [0, 1, 2, 3, 4, 5, 6, 7, 8, 9, 10, 11, 12, 13]) (.s .z (.s .z .z)))))))
theorem e33 : b33 = denF Tryz.prog (gam []) Tryz.f33 g33 := by kernel_rfl
def s33 : Fun := b33
theorem F33 : Snd Tryz.prog 33 s33 := snd_of hmix gnil Tryz.func33 (by kernel_rfl) (by kernel_rfl) (e33)

/-- (*obelisk/obelisktop.C).utf -/
def b12 (s11 s33 : Fun) : Fun := fun a b => uc a fun a c => uc c fun c d => uz d (bld [(false, 1, (J 1))] fun d => mkS b 1 1 d fun b d => lenS c fun e => cl (s11 [e] d) fun d e => apd e 1 1 b d fun b d => sCat (.str 1 117) c fun e => apd d 1 1 b c fun b c => cl (s33 [a, e, b, (I 1)] c) fun a b => cK a fun a => .ret a b)
def g12 : Hint := (.s .z (.s .z (.s .z .z)))
theorem e12 (s11 s33 : Fun) : b12 s11 s33 = denF Tryz.prog (gam [(11, s11), (33, s33)]) Tryz.f12 g12 := by kernel_rfl
def s12 : Fun := b12 s11 s33
theorem F12 : Snd Tryz.prog 12 s12 := snd_of hmix (gcons F11 (gcons F33 gnil)) Tryz.func12 (by kernel_rfl) (by kernel_rfl) (e12 s11 s33)

/-- obelisk/obelisktop.four -/
def b13 : Fun := fun a b => uc a fun a c => uz c (iShr a (.int 64 (.ofNat 24)) fun c => iConv 8 c fun c => iShr a (.int 64 (.ofNat 16)) fun d => iConv 8 d fun d => iShr a (.int 64 (.ofNat 8)) fun e => iConv 8 e fun e => iConv 8 a fun a => bld [(false, 1, c), (false, 1, d), (false, 1, e), (false, 1, a)] fun a => mkS b 1 4 a fun a b => cK a fun a => .ret a b)
def g13 : Hint := (.s .z (.s .z .z))
theorem e13 : b13 = denF Tryz.prog (gam []) Tryz.f13 g13 := by kernel_rfl
def s13 : Fun := b13
theorem F13 : Snd Tryz.prog 13 s13 := snd_of hmix gnil Tryz.func13 (by kernel_rfl) (by kernel_rfl) (e13)

/-- (*obelisk/obelisktop.C).num -/
def b14 (s13 s33 : Fun) : Fun := fun a b => uc a fun a c => uc c fun c d => uz d (nm (.norm [a] b) fun a _ => nm (.norm [c] b) fun d _ => nm (.norm [c] b) fun c _ => nm (bld [(false, 1, (J 3))] fun a => .norm [a] b) fun ee _ => lay ee .e 0 fun ee f => ifB (Nat.beq f (Nat.mul 1 1)) (rsv b fun b g => nm (cl (s13 [d] g) fun a b => .norm [a] b) fun d g => nm (b2s g d fun a => .norm [a] g) fun h _ => nm (sCat (.str 1 105) h fun a => .norm [a] g) fun i _ => nm (cl (s13 [c] g) fun a b => .norm [a] b) fun c g => nm (b2s g d fun a => .norm [a] g) fun j _ => same h j (dueK g b f ee fun ee => nm (b2s ee d fun a => .norm [a] ee) fun f _ => same h f (nm (apd ee 1 1 (.sl b 0 1 1 (some 1)) c fun a b => .norm [a] b) fun b c => nm (b2s c d fun a => .norm [a] c) fun d _ => same h d (nm (cl (s33 [a, i, b, (I 1)] c) fun a b => .norm [a] b) fun a b => nm (.norm [a] b) fun a _ => cK a fun a => .ret a b)))) .fail)
def g14 : Hint := (.s .z (.s (.f [(0, 0), (0, 1), (0, 6), (1, 5), (0, 2), (0, 3), (0, 4), (0, 7), (2, 5), (0, 8), (0, 9), (0, 10)]) .z))
theorem e14 (s13 s33 : Fun) : b14 s13 s33 = denF Tryz.prog (gam [(13, s13), (33, s33)]) Tryz.f14 g14 := by kernel_rfl
def s14 : Fun := b14 s13 s33
theorem F14 : Snd Tryz.prog 14 s14 := snd_of hmix (gcons F13 (gcons F33 gnil)) Tryz.func14 (by kernel_rfl) (by kernel_rfl) (e14 s13 s33)

/-- (*obelisk/obelisktop.C).field -/
def b15 (s11 s12 : Fun) : Fun := fun a b => uc a fun a c => uc c fun c d => uc d fun d e => uc e fun e f => uz f (na 9 a fun f => ld1 b f fun g => cl (s11 [c] b) fun b c => ld1 c f fun f => same g f (apd c 1 1 g b fun b c => na 9 a fun f => st1 c f b fun b => na 9 a fun c => ld1 b c fun f => cl (s12 [a, d] b) fun b d => ld1 d c fun g => same f g (cl (s11 [b] d) fun b d => ld1 d c fun c => same f c (apd d 1 1 f b fun b c => na 9 a fun d => st1 c d b fun b => na 9 a fun c => ld1 b c fun d => cl (s12 [a, e] b) fun b e => ld1 e c fun f => same d f (cl (s11 [b] e) fun b e => ld1 e c fun c => same d c (apd e 1 1 d b fun b c => na 9 a fun d => st1 c d b fun b => nl 9 b a fun c => bld [(false, 1, (J 0)), (false, 1, (J 0))] fun d => mkS b 1 2 d fun b d => apd d 1 1 c b fun b c => na 9 a fun d => st1 c d b fun b => nl 10 b a fun c => iAdd c (I 1) fun c => na 10 a fun a => st1 b a c fun a => .ret (.tup .nil) a))))))
def g15 : Hint := (.s (.r [0, 1, 2, 3, 4, 5, 6, 7, 8, 9, 10]) (.s (.r [0, 1, 2, 3, 4, 5, 6, 7, 8, 9, 10, 11, 12]) (.s (.r [0, 1, 2, 3, 4, 5, 6, 7, 8, 9, 10, 11, 12]) (.s .z .z))))
theorem e15 (s11 s12 : Fun) : b15 s11 s12 = denF Tryz.prog (gam [(11, s11), (12, s12)]) Tryz.f15 g15 := by kernel_rfl
def s15 : Fun := b15 s11 s12
theorem F15 : Snd Tryz.prog 15 s15 := snd_of hmix (gcons F11 (gcons F12 gnil)) Tryz.func15 (by kernel_rfl) (by kernel_rfl) (e15 s11 s12)

/-- (*obelisk/obelisktop.C).method -/
def L16n0 (s11 s12 s13 : Fun) : List AV → Hp → Res := fun a b => uc a fun a c => uc c fun c d => uc d fun d e => uc e fun e f => uc f fun f g => uc g fun g h => uc h fun h _ => ltN h (I 4) fun i => ifB i (blk 3 (ixA 4 c g fun i => ixP 4 1 i h fun i => ld1 b i fun i => cl (s11 [i] b) fun b i => apd i 1 1 f b fun b f => .norm [a, c, d, e, b, g, h] f) fun a b => uc a fun a c => uc c fun c d => uc d fun d e => uc e fun e f => uc f fun f g => uc g fun g h => uc h fun h _ => iAdd h (I 1) fun h => .norm [a, c, d, e, f, g, h] b) (.exit 2 [a, c, d, e, f, g] b)
def L16n1 (s11 s12 s13 : Fun) : List AV → Hp → Res := fun a b => uc a fun a c => uc c fun c d => uc d fun d e => uc e fun e f => uc f fun f g => uc g fun g _ => lenL c fun h => ltN g h fun h => ifB h (blk 1 (blk 2 (lp (L16n0 s11 s12 s13) most [a, c, d, e, f, g, (I 0)] b) fun a b => uc a fun a c => uc c fun c d => uc d fun d e => uc e fun e f => uc f fun f g => uc g fun g _ => .norm [a, c, d, e, f, g] b) fun a b => uc a fun a c => uc c fun c d => uc d fun d e => uc e fun e f => uc f fun f g => uc g fun g _ => iAdd g (I 1) fun g => .norm [a, c, d, e, f, g] b) (.exit 0 [a, d, e, f] b)
def b16 (s11 s12 s13 : Fun) : Fun := fun a b => uc a fun a c => uc c fun c d => uc d fun d e => uc e fun e f => uc f fun f g => uc g fun g h => uc h fun h i => uc i fun i j => uc j fun j k => uz k (cl (s11 [c] b) fun b c => cl (s12 [a, d] c) fun c d => cl (s11 [c] d) fun c d => apd d 1 1 b c fun b c => cl (s12 [a, e] c) fun c d => cl (s11 [c] d) fun c d => apd d 1 1 b c fun b c => jn (eqL h .nils fun d => ifB d (bld [(false, 1, (J 0)), (false, 1, (J 0))] fun d => mkS c 1 2 d fun c d => apd d 1 1 b c fun b c => .norm [a, b] c) (cl (s11 [f] c) fun c d => cl (s11 [g] d) fun d e => apd e 1 1 c d fun c d => lenL h fun e => cl (s13 [e] d) fun d e => apd e 1 1 c d fun c d => apd d 1 1 c h fun c d => lenL i fun e => cl (s11 [e] d) fun d e => apd e 1 1 c d fun c d => blk 0 (lp (L16n1 s11 s12 s13) most [a, i, j, b, c, (I 0)] d) fun a b => uc a fun a c => uc c fun c d => uc d fun d e => uc e fun e _ => jn (eqL c .nils fun c => ifB c (bld [(false, 1, (J 0)), (false, 1, (J 0))] fun c => mkS b 1 2 c fun b c => apd c 1 1 e b fun b c => .norm [a, d, b] c) (.fail)) fun a b => uc a fun a c => uc c fun c d => uc d fun d _ => bld [(false, 1, (J 0)), (false, 1, (J 1))] fun e => mkS b 1 2 e fun b e => apd e 1 1 c b fun b c => cl (s12 [a, (.str 4 1701080899)] c) fun c e => cl (s11 [c] e) fun c e => apd e 1 1 b c fun b c => lenL d fun e => cl (s13 [e] c) fun c e => apd e 1 1 b c fun b c => apd c 1 1 b d fun b c => .norm [a, b] c)) fun a b => uc a fun a c => uc c fun c _ => nl 11 b a fun d => apd b 1 1 d c fun b c => na 11 a fun d => st1 c d b fun b => nl 12 b a fun c => iAdd c (I 1) fun c => na 12 a fun a => st1 b a c fun a => .ret (.tup .nil) a)
def g16 : Hint := (.s .z (.s .z (.j [0, 18] (.s .z (.s .z (.s .z (.s .z (.s .z (.s .z (.s (.s .z (.b [0, 8, 18, 19] (.l [0, 7, 8, 18, 19, 20] (.s (.s .z (.s .z .z)) (.s (.b [0, 7, 8, 18, 19, 20] (.s .z (.b [0, 7, 8, 18, 19, 20] (.l [0, 7, 8, 18, 19, 20, 21] (.s (.s .z (.s .z .z)) (.s (.b [0, 7, 8, 18, 19, 20, 21] .z) .z)))))) .z))))) (.j [0, 18, 19] (.s .z (.s .z .z)) (.s .z (.s .z (.s .z .z))))))))))) (.s .z .z))))
theorem e16 (s11 s12 s13 : Fun) : b16 s11 s12 s13 = denF Tryz.prog (gam [(11, s11), (12, s12), (13, s13)]) Tryz.f16 g16 := by kernel_rfl
def s16 : Fun := b16 s11 s12 s13
theorem F16 : Snd Tryz.prog 16 s16 := snd_of hmix (gcons F11 (gcons F12 (gcons F13 gnil))) Tryz.func16 (by kernel_rfl) (by kernel_rfl) (e16 s11 s12 s13)

/-- obelisk/obelisktop.op -/
def b25 (s11 : Fun) : Fun := fun a b => uc a fun a c => uc c fun c d => uz d (iConv 8 a fun a => bld [(false, 1, a)] fun a => mkS b 1 1 a fun a b => cl (s11 [c] b) fun b c => apd c 1 1 a b fun a b => cK a fun a => .ret a b)
def g25 : Hint := (.s .z (.s .z .z))
theorem e25 (s11 : Fun) : b25 s11 = denF Tryz.prog (gam [(11, s11)]) Tryz.f25 g25 := by kernel_rfl
def s25 : Fun := b25 s11
theorem F25 : Snd Tryz.prog 25 s25 := snd_of hmix (gcons F11 gnil) Tryz.func25 (by kernel_rfl) (by kernel_rfl) (e25 s11)

/-- (*obelisk/obelisktop.C).cls -/
def b38 (s11 s12 s33 : Fun) : Fun := fun a b => uc a fun a c => uc c fun c d => uz d (cl (s12 [a, c] b) fun b d => sCat (.str 1 99) c fun c => bld [(false, 1, (J 7))] fun e => mkS d 1 1 e fun d e => cl (s11 [b] e) fun b e => apd e 1 1 d b fun b d => cl (s33 [a, c, b, (I 1)] d) fun a b => cK a fun a => .ret a b)
def g38 : Hint := (.s .z (.s .z (.s .z .z)))
theorem e38 (s11 s12 s33 : Fun) : b38 s11 s12 s33 = denF Tryz.prog (gam [(11, s11), (12, s12), (33, s33)]) Tryz.f38 g38 := by kernel_rfl
def s38 : Fun := b38 s11 s12 s33
theorem F38 : Snd Tryz.prog 38 s38 := snd_of hmix (gcons F11 (gcons F12 (gcons F33 gnil))) Tryz.func38 (by kernel_rfl) (by kernel_rfl) (e38 s11 s12 s33)

/-- (*obelisk/obelisktop.C).member -/
def b34 (s11 s12 s33 s38 : Fun) : Fun := fun a b => uc a fun a c => uc c fun c d => uc d fun d e => uc e fun e f => uc f fun f g => uz g (cl (s38 [a, d] b) fun b g => cl (s12 [a, e] g) fun g h => cl (s12 [a, f] h) fun h i => bld [(false, 1, (J 12))] fun j => mkS i 1 1 j fun i j => cl (s11 [g] j) fun g j => apd j 1 1 i g fun g i => sCat (.str 1 110) e fun j => sCat j (.str 1 58) fun j => sCat j f fun j => cl (s11 [h] i) fun h i => apd i 1 1 g h fun g h => cl (s33 [a, j, g, (I 1)] h) fun g h => iConv 8 c fun i => bld [(false, 1, i)] fun i => mkS h 1 1 i fun h i => cl (s11 [b] i) fun b i => apd i 1 1 h b fun b h => nm (.norm [a] h) fun a _ => nm (.norm [c] h) fun c _ => nm (iAdd (I 48) c fun a => .norm [a] h) fun c _ => nm (iConv 8 c fun a => .norm [a] h) fun c _ => nm (.norm [d] h) fun d _ => nm (.norm [e] h) fun e _ => nm (.norm [f] h) fun f _ => nm (.norm [b] h) fun b _ => nm (.norm [g] h) fun g _ => nm (bld [(false, 1, c)] fun a => .norm [a] h) fun c _ => lay c .e 0 fun c i => ifB (Nat.beq i (Nat.mul 1 1)) (rsv h fun h j => nm (b2s (dueH j h i c) (.sl h 0 1 1 (some 1)) fun a => .norm [a] (dueH j h i c)) fun k _ => nm (sCat k d fun a => .norm [a] j) fun d _ => nm (sCat d (.str 1 46) fun a => .norm [a] j) fun d _ => nm (sCat d e fun a => .norm [a] j) fun d _ => nm (sCat d (.str 1 58) fun a => .norm [a] j) fun d _ => nm (sCat d f fun a => .norm [a] j) fun d _ => nm (cl (s11 [g] j) fun a b => .norm [a] b) fun e f => nm (b2s (dueH f h i c) (.sl h 0 1 1 (some 1)) fun a => .norm [a] (dueH f h i c)) fun g _ => same k g (nm (apd f 1 1 b e fun a b => .norm [a] b) fun b e => nm (b2s (dueH e h i c) (.sl h 0 1 1 (some 1)) fun a => .norm [a] (dueH e h i c)) fun f _ => same k f (nm (cl (s33 [a, d, b, (I 1)] e) fun a b => .norm [a] b) fun a b => nm (b2s (dueH b h i c) (.sl h 0 1 1 (some 1)) fun a => .norm [a] (dueH b h i c)) fun d _ => same k d (nm (.norm [a] b) fun a _ => dueK b h i c fun b => nm (b2s b (.sl h 0 1 1 (some 1)) fun a => .norm [a] b) fun c _ => same k c (cK a fun a => .ret a b))))) .fail)
def g34 : Hint := (.s .z (.s .z (.s .z (.s .z (.s .z (.s .z (.s .z (.s (.f [(0, 0), (0, 1), (0, 2), (0, 3), (0, 6), (0, 9), (0, 12), (0, 14), (0, 15), (1, 4), (0, 5), (0, 7), (0, 8), (0, 10), (0, 11), (0, 13), (0, 16), (0, 17), (0, 18), (0, 19), (2, 4)]) .z))))))))
theorem e34 (s11 s12 s33 s38 : Fun) : b34 s11 s12 s33 s38 = denF Tryz.prog (gam [(11, s11), (12, s12), (33, s33), (38, s38)]) Tryz.f34 g34 := by kernel_rfl
def s34 : Fun := b34 s11 s12 s33 s38
theorem F34 : Snd Tryz.prog 34 s34 := snd_of hmix (gcons F11 (gcons F12 (gcons F33 (gcons F38 gnil)))) Tryz.func34 (by kernel_rfl) (by kernel_rfl) (e34 s11 s12 s33 s38)

/-- (*obelisk/obelisktop.C).get -/
def b17 (s25 s34 : Fun) : Fun := fun a b => uc a fun a c => uc c fun c d => uc d fun d e => uc e fun e f => uz f (cl (s34 [a, (I 9), c, d, e] b) fun a b => cl (s25 [(I 178), a] b) fun a b => cK a fun a => .ret a b)
def g17 : Hint := (.s .z (.s .z .z))
theorem e17 (s25 s34 : Fun) : b17 s25 s34 = denF Tryz.prog (gam [(25, s25), (34, s34)]) Tryz.f17 g17 := by kernel_rfl
def s17 : Fun := b17 s25 s34
theorem F17 : Snd Tryz.prog 17 s17 := snd_of hmix (gcons F25 (gcons F34 gnil)) Tryz.func17 (by kernel_rfl) (by kernel_rfl) (e17 s25 s34)

/-- (*obelisk/obelisktop.C).set -/
def b18 (s25 s34 : Fun) : Fun := fun a b => uc a fun a c => uc c fun c d => uc d fun d e => uc e fun e f => uz f (cl (s34 [a, (I 9), c, d, e] b) fun a b => cl (s25 [(I 179), a] b) fun a b => cK a fun a => .ret a b)
def g18 : Hint := (.s .z (.s .z .z))
theorem e18 (s25 s34 : Fun) : b18 s25 s34 = denF Tryz.prog (gam [(25, s25), (34, s34)]) Tryz.f18 g18 := by kernel_rfl
def s18 : Fun := b18 s25 s34
theorem F18 : Snd Tryz.prog 18 s18 := snd_of hmix (gcons F25 (gcons F34 gnil)) Tryz.func18 (by kernel_rfl) (by kernel_rfl) (e18 s25 s34)

/-- obelisk/obelisktop.main -/
def b19 (s9 : Fun) : Fun := fun a b => uz a (cl (s9 [(.str 1 77), (.str 16 154706541852025644484233205990057992554), (I 33)] b) fun a b => cK a fun a => .ret a b)
def g19 : Hint := (.s .z (.s .z .z))
theorem e19 (s9 : Fun) : b19 s9 = denF Tryz.prog (gam [(9, s9)]) Tryz.f19 g19 := by kernel_rfl
def s19 : Fun := b19 s9
theorem F19 : Snd Tryz.prog 19 s19 := snd_of hmix (gcons F9 gnil) Tryz.func19 (by kernel_rfl) (by kernel_rfl) (e19 s9)

/-- (*obelisk/obelisktop.C).bytes -/
def L37n0 (s11 s38 : Fun) : List AV → Hp → Res := fun a b => uc a fun a c => uc c fun c d => uc d fun d _ => nl 8 b a fun e => lenL e fun e => ltN d e fun e => ifB e (blk 1 (nl 8 b a fun e => ixA 1 e d fun e => ld1 b e fun e => cl (s38 [a, e] b) fun b e => cl (s11 [b] e) fun b e => apd e 1 1 c b fun b c => .norm [a, b, d] c) fun a b => uc a fun a c => uc c fun c d => uc d fun d _ => iAdd d (I 1) fun d => .norm [a, c, d] b) (.exit 0 [a, c] b)
def L37n1 (s11 s38 : Fun) : List AV → Hp → Res := fun a b => uc a fun a c => uc c fun c d => uc d fun d e => uc e fun e _ => nl 1 b a fun f => lenL f fun f => ltN e f fun f => ifB f (blk 3 (nl 1 b a fun f => ixA 1 f e fun f => ld1 b f fun f => apd b 1 1 d f fun b d => .norm [a, c, b, e] d) fun a b => uc a fun a c => uc c fun c d => uc d fun d e => uc e fun e _ => iAdd e (I 1) fun e => .norm [a, c, d, e] b) (.exit 2 [c, d] b)
def b37 (s11 s38 : Fun) : Fun := fun a b => uc a fun a c => uz c (nl 4 b a fun c => na 5 a fun d => ld1 b d fun e => cl (s38 [a, c] b) fun b c => ld1 c d fun d => same e d (cl (s38 [a, e] c) fun c d => nl 6 d a fun e => cl (s11 [e] d) fun d e => cl (s11 [b] e) fun b e => apd e 1 1 d b fun b d => cl (s11 [c] d) fun c d => apd d 1 1 b c fun b c => nl 8 c a fun d => lenL d fun d => cl (s11 [d] c) fun c d => apd d 1 1 b c fun b c => blk 0 (lp (L37n0 s11 s38) most [a, b, (I 0)] c) fun a b => uc a fun a c => uc c fun c _ => nl 10 b a fun d => cl (s11 [d] b) fun b d => apd d 1 1 c b fun b c => nl 9 c a fun d => apd c 1 1 b d fun b c => nl 12 c a fun d => cl (s11 [d] c) fun c d => apd d 1 1 b c fun b c => nl 11 c a fun d => apd c 1 1 b d fun b c => bld [(false, 1, (J 0)), (false, 1, (J 0))] fun d => mkS c 1 2 d fun c d => apd d 1 1 b c fun b c => nl 7 c a fun d => iShr d (.int 64 (.ofNat 8)) fun d => iConv 8 d fun d => nl 7 c a fun e => iConv 8 e fun e => bld [(false, 1, (J 202)), (false, 1, (J 254)), (false, 1, (J 186)), (false, 1, (J 190)), (false, 1, (J 0)), (false, 1, (J 0)), (false, 1, d), (false, 1, e)] fun d => mkS c 1 8 d fun c d => nl 3 d a fun e => cl (s11 [e] d) fun d e => apd e 1 1 c d fun c d => blk 2 (lp (L37n1 s11 s38) most [a, b, c, (I 0)] d) fun a b => uc a fun a c => uc c fun c _ => apd b 1 1 c a fun a b => cK a fun a => .ret a b))
def g37 : Hint := (.s .z (.s (.r [0, 1, 2, 3, 4, 6, 7, 8, 9, 10, 5, 11, 12, 13]) (.s .z (.s .z (.s .z (.s (.s .z (.b [0, 5] (.l [0, 5, 6] (.s (.s .z (.s .z .z)) (.s (.b [0, 5, 6] .z) .z))))) (.s .z (.s .z (.s .z (.s .z (.s .z (.s (.r [0, 1, 2, 3, 4, 5, 6, 7, 8, 9, 10, 11, 12]) (.s .z (.s (.s .z (.b [5, 7] (.l [0, 5, 7, 8] (.s (.s .z (.s .z .z)) (.s (.b [0, 5, 7, 8] .z) .z))))) (.s .z .z)))))))))))))))
theorem e37 (s11 s38 : Fun) : b37 s11 s38 = denF Tryz.prog (gam [(11, s11), (38, s38)]) Tryz.f37 g37 := by kernel_rfl
def s37 : Fun := b37 s11 s38
theorem F37 : Snd Tryz.prog 37 s37 := snd_of hmix (gcons F11 (gcons F38 gnil)) Tryz.func37 (by kernel_rfl) (by kernel_rfl) (e37 s11 s38)

/-- obelisk/obelisktop.towered -/
def L20n0 (s35 s36 s37 : Fun) : List AV → Hp → Res := fun a b => uc a fun a c => uc c fun c d => uc d fun d _ => lenL a fun e => ltN d e fun e => ap (gsel (.bool e) true c) fun f => gj (.bool e) true (nck f fun a => .norm [a] b) b fun b f => gj (.bool e) true (fa 0 b fun a => .norm [a] f) f fun b f => gj (.bool e) true (ld1 f b fun a => .norm [a] f) f fun b f => gj (.bool e) true (eqP b .nilp fun a => .norm [(.bool (bnot a))] f) f fun b f => cB (.bool e) fun e => ap (sel e b (.bool false)) fun b => cB b fun b => ifB b (blk 1 (nm (.norm [c] f) fun b _ => nm (nck b fun a => .norm [a] f) fun b _ => nm (fa 0 b fun a => .norm [a] f) fun b _ => nm (ld1 f b fun a => .norm [a] f) fun e _ => nm (.norm [a] f) fun g _ => nm (.norm [d] f) fun h _ => nm (ixA 1 g h fun a => .norm [a] f) fun g _ => nm (ld1 f g fun a => .norm [a] f) fun h _ => nm (nck h fun a => .norm [a] f) fun i _ => nm (fa 4 i fun a => .norm [a] f) fun i _ => nm (ld1 f i fun a => .norm [a] f) fun j _ => nm (.norm [a] f) fun k _ => nm (.norm [d] f) fun l _ => nm (ixA 1 k l fun a => .norm [a] f) fun k _ => nm (ld1 f k fun a => .norm [a] f) fun l _ => nm (.norm [(.cons (I 0) (.cons (I 0) (.cons (J 0) (.cons (I 0) (.cons (.str 0 0) (.cons (.str 0 0) (.cons (.bool false) (.cons (I 0) (.cons .nils (.cons (I 0) (.cons (I 0) .nil)))))))))))] f) fun m _ => lay m .e 0 fun m n => ifB true (rsv f fun f o => nm (ld1 o k fun a => .norm [a] o) fun k _ => same l k (nm (ld1 o i fun a => .norm [a] o) fun k _ => same j k (nm (ld1 o g fun a => .norm [a] o) fun k _ => same h k (nm (ld1 o b fun a => .norm [a] o) fun k _ => same e k (nm (cl (s37 [l] o) fun a b => .norm [a] b) fun k l => nm (ld1 l i fun a => .norm [a] l) fun i _ => same j i (nm (ld1 l g fun a => .norm [a] l) fun i _ => same h i (nm (ld1 l b fun a => .norm [a] l) fun b _ => same e b (nm (bld [(false, 1, (I 1)), (false, 1, j), (false, 1, k), (false, 1, (.str 0 0)), (false, 1, .nils), (false, 1, (I 0))] fun a => .norm [(.agg a)] l) fun b _ => nm (cl (s36 [e, b] l) fun a b => .norm [a] b) fun b e => nm (ld1 e g fun a => .norm [a] e) fun i _ => same h i (dueK e f n m fun e => nm (ld1 e g fun a => .norm [a] e) fun g _ => same h g (nm (stN e 11 (.ptr f 0) b fun a => .norm [(.tup .nil)] a) fun _ b => nl 1 b c fun e => gj e true (fa 0 (.ptr f 0) fun a => .norm [a] b) b fun b f => gj e true (ld1 f b fun a => .norm [a] f) f fun b f => gj e true (eqN b (I 0) fun a => .norm [(.bool a)] f) f fun b f => cB e fun e => ap (sel e b (.bool false)) fun b => na 1 c fun e => st1 f e b fun b => .norm [a, c, d] b)))))))))) .fail) fun a b => uc a fun a c => uc c fun c d => uc d fun d _ => iAdd d (I 1) fun d => .norm [a, c, d] b) (.exit 0 [c] f)
def b20 (s35 s36 s37 : Fun) : Fun := fun a b => uc a fun a c => uz c (cl (s35 [] b) fun b c => bld [(false, 1, b), (false, 1, (.bool true))] fun b => mk c (cells (.agg b)) fun b c => blk 0 (lp (L20n0 s35 s36 s37) most [a, b, (I 0)] c) fun a b => uc a fun a _ => nl 1 b a fun c => ap (gsel c true a) fun d => gj c true (nck d fun a => .norm [a] b) b fun b d => gj c true (fa 0 b fun a => .norm [a] d) d fun b d => gj c true (ld1 d b fun a => .norm [a] d) d fun b d => gj c true (eqP b .nilp fun a => .norm [(.bool (bnot a))] d) d fun b d => cB c fun c => ap (sel c b (.bool false)) fun b => na 1 a fun c => st1 d c b fun b => cK a fun a => .ret a b)
def g20 : Hint := (.s .z (.s .z (.s (.s .z (.b [3] (.l [0, 3, 4] (.s (.s .z (.s .z .z)) (.s (.b [0, 3, 4] (.s (.f [(0, 0), (0, 1), (0, 2), (0, 3), (0, 4), (0, 5), (0, 6), (0, 7), (0, 8), (0, 9), (0, 10), (0, 11), (0, 12), (0, 13), (0, 14), (1, 18), (0, 15), (0, 16), (0, 17), (2, 18), (0, 19)]) .z)) .z))))) (.s .z (.s .z .z)))))
theorem e20 (s35 s36 s37 : Fun) : b20 s35 s36 s37 = denF Tryz.prog (gam [(35, s35), (36, s36), (37, s37)]) Tryz.f20 g20 := by kernel_rfl
def s20 : Fun := b20 s35 s36 s37
theorem F20 : Snd Tryz.prog 20 s20 := snd_of hmix (gcons F35 (gcons F36 (gcons F37 gnil))) Tryz.func20 (by kernel_rfl) (by kernel_rfl) (e20 s35 s36 s37)

/-- obelisk/obelisktop.done -/
def b21 : Fun := fun a b => uc a fun a c => uc c fun c d => uz d (mk b (cells a) fun a b => fl 0 b a fun d => eqN d (I 0) fun d => gj (.bool d) true (fa 1 a fun a => .norm [a] b) b fun b e => gj (.bool d) true (ld1 e b fun a => .norm [a] e) e fun b e => gj (.bool d) true (eqN b (I 1) fun a => .norm [(.bool a)] e) e fun b e => cB (.bool d) fun d => ap (sel d b (.bool false)) fun b => gj b true (fa 2 a fun a => .norm [a] e) e fun d e => gj b true (ld1 e d fun a => .norm [a] e) e fun d e => gj b true (eqN d (J 73) fun a => .norm [(.bool a)] e) e fun d e => cB b fun b => ap (sel b d (.bool false)) fun b => gj b true (fa 3 a fun a => .norm [a] e) e fun a d => gj b true (ld1 d a fun a => .norm [a] d) d fun a d => ap (gsel b true c) fun c => gj b true (eqN a c fun a => .norm [(.bool a)] d) d fun a c => cB b fun b => ap (sel b a (.bool false)) fun a => cK a fun a => .ret a c)
def g21 : Hint := (.s .z (.s .z .z))
theorem e21 : b21 = denF Tryz.prog (gam []) Tryz.f21 g21 := by kernel_rfl
def s21 : Fun := b21
theorem F21 : Snd Tryz.prog 21 s21 := snd_of hmix gnil Tryz.func21 (by kernel_rfl) (by kernel_rfl) (e21)

/-- (*obelisk/obelisktop.T).run -/
def b22 (s36 : Fun) : Fun := fun a b => uc a fun a c => uc c fun c d => uc d fun d e => uc e fun e f => uz f (mk b (.cons (I 0) (.cons (I 0) (.cons (J 0) (.cons (I 0) (.cons (.str 0 0) (.cons (.str 0 0) (.cons (.bool false) (.cons (I 0) (.cons .nils (.cons (I 0) (.cons (I 0) .nil))))))))))) fun b f => nl 0 f a fun a => bld [(false, 1, (I 2)), (false, 1, (.str 1 77)), (false, 1, .nils), (false, 1, c), (false, 1, e), (false, 1, d)] fun c => cl (s36 [a, (.agg c)] f) fun a c => stN c 11 b a fun a => ldN a 11 b fun b => .ret b a)
def g22 : Hint := (.s .z (.s .z .z))
theorem e22 (s36 : Fun) : b22 s36 = denF Tryz.prog (gam [(36, s36)]) Tryz.f22 g22 := by kernel_rfl
def s22 : Fun := b22 s36
theorem F22 : Snd Tryz.prog 22 s22 := snd_of hmix (gcons F36 gnil) Tryz.func22 (by kernel_rfl) (by kernel_rfl) (e22 s36)

/-- obelisk/obelisktop.thrown -/
def b23 : Fun := fun a b => uc a fun a c => uc c fun c d => uz d (mk b (cells a) fun a b => fl 0 b a fun d => eqN d (I 0) fun d => gj (.bool d) true (fa 1 a fun a => .norm [a] b) b fun b e => gj (.bool d) true (ld1 e b fun a => .norm [a] e) e fun b e => gj (.bool d) true (eqN b (I 2) fun a => .norm [(.bool a)] e) e fun b e => cB (.bool d) fun d => ap (sel d b (.bool false)) fun b => gj b true (fa 4 a fun a => .norm [a] e) e fun d e => gj b true (ld1 e d fun a => .norm [a] e) e fun d e => ap (gsel b true c) fun c => gj b true (sCat (.str 10 223859193091833076277610) c fun a => .norm [a] e) e fun c e => gj b true (eqS d c fun a => .norm [(.bool a)] e) e fun c d => cB b fun b => ap (sel b c (.bool false)) fun b => gj b true (fa 6 a fun a => .norm [a] d) d fun a c => gj b true (ld1 c a fun a => .norm [a] c) c fun a c => gj b true (bNot a fun a => .norm [a] c) c fun a c => cB b fun b => ap (sel b a (.bool false)) fun a => cK a fun a => .ret a c)
def g23 : Hint := (.s .z (.s .z .z))
theorem e23 : b23 = denF Tryz.prog (gam []) Tryz.f23 g23 := by kernel_rfl
def s23 : Fun := b23
theorem F23 : Snd Tryz.prog 23 s23 := snd_of hmix gnil Tryz.func23 (by kernel_rfl) (by kernel_rfl) (e23)

/-- (*obelisk/obelisktop.C).put (known c) -/
def L33kcn0 : List AV → Hp → Res := fun a b => uc a fun a c => uc c fun c d => uc d fun d e => uc e fun e f => uc f fun f _ => nl 0 b a fun g => lenL g fun g => ltN f g fun g => ifB g (blk 1 (nl 0 b a fun g => ixA 1 g f fun g => ld1 b g fun g => eqS g c fun g => cB (.bool g) fun g => orc b g (fun b => nl 2 b a fun a => ixA 1 a f fun a => ld1 b a fun a => cK a fun a => .ret a b) (fun b => .norm [a, c, d, e, f] b)) fun a b => uc a fun a c => uc c fun c d => uc d fun d e => uc e fun e f => uc f fun f _ => iAdd f (I 1) fun f => .norm [a, c, d, e, f] b) (.exit 0 [a, c, d, e] b)
def b33kc : Fun := fun a b => uc a fun a c => uc c fun c d => uc d fun d e => uc e fun e f => uz f (blk 0 (lp L33kcn0 most [a, c, d, e, (I 0)] b) fun a b => uc a fun a c => uc c fun c d => uc d fun d e => uc e fun e _ => nl 0 b a fun f => bld [(false, 1, c)] fun c => mkS b 1 1 c fun b c => apd c 1 16 f b fun b c => na 0 a fun f => st1 c f b fun b => nl 1 b a fun c => bld [(false, 1, d)] fun d => mkS b 1 1 d fun b d => apd d 1 24 c b fun b c => na 1 a fun d => st1 c d b fun b => na 2 a fun c => ld1 b c fun d => nl 3 b a fun f => bld [(false, 1, f)] fun f => mkS b 1 1 f fun b f => ld1 f c fun c => same d c (apd f 1 8 d b fun b c => na 2 a fun d => st1 c d b fun b => nl 3 b a fun c => iAdd c e fun c => na 3 a fun d => st1 b d c fun b => nl 3 b a fun a => iSub a e fun a => cK a fun a => .ret a b))
def g33kc : Hint := (.s .z (.s (.s .z (.b [0, 1, 2, 3] (.l [0, 1, 2, 3, 9] (.s (.s .z (.s .z .z)) (.s (.b [0, 1, 2, 3, 9] (.s .z (.o (.s .z .z) .z))) .z))))) (.s .z (.s .z (.s (.r [0, 1, 2, 3, 4, 5, 6, 7, 8, 9, 10, 11, 12, 13]) (.s .z (.s .z .z)))))))
theorem e33kc : b33kc = denF Tryz.prog (gam []) Tryz.f33 g33kc := by kernel_rfl
def s33kc : Fun := b33kc
theorem F33kc : Snd Tryz.prog 33 (s33kc) := snd_of hmix gnil Tryz.func33 (by kernel_rfl) (by kernel_rfl) (e33kc)


/-- (*obelisk/obelisktop.C).utf (known c) -/
def s12kc : Fun := b12 s11 (s33kc)
theorem F12kc : Snd Tryz.prog 12 (s12kc) := snd_of hmix (gcons F11 (gcons (F33kc) gnil)) Tryz.func12 (by kernel_rfl) (by kernel_rfl) (e12 s11 (s33kc))


/-- (*obelisk/obelisktop.C).num (known c) -/
def b14kc (s13 s33 : Fun) : Fun := fun a b => uc a fun a c => uc c fun c d => uz d (nm (.norm [a] b) fun a _ => nm (.norm [c] b) fun d _ => nm (.norm [c] b) fun c _ => nm (bld [(false, 1, (J 3))] fun a => .norm [a] b) fun ee _ => lay ee .e 0 fun ee f => ifB (Nat.beq f (Nat.mul 1 1)) (rsv b fun b g => nm (cl (s13 [d] g) fun a b => .norm [a] b) fun d g => nm (b2sN g d fun a => .norm [a] g) fun h _ => nm (sCat (.str 1 105) h fun a => .norm [a] g) fun i _ => nm (cl (s13 [c] g) fun a b => .norm [a] b) fun c g => nm (b2sN g d fun a => .norm [a] g) fun j _ => .ask (eqAV h j) (dueK g b f ee fun ee => nm (b2sN ee d fun a => .norm [a] ee) fun f _ => .ask (eqAV h f) (nm (apd ee 1 1 (.sl b 0 1 1 (some 1)) c fun a b => .norm [a] b) fun b c => nm (b2sN c d fun a => .norm [a] c) fun d _ => .ask (eqAV h d) (nm (cl (s33 [a, i, b, (I 1)] c) fun a b => .norm [a] b) fun a b => nm (.norm [a] b) fun a _ => cK a fun a => .ret a b)))) .fail)
def g14kc : Hint := (.s .z (.s (.f [(0, 0), (0, 1), (0, 6), (1, 5), (0, 2), (0, 3), (0, 4), (0, 7), (2, 5), (0, 8), (0, 9), (0, 10)]) .z))
theorem e14kc (s13 s33 : Fun) : b14kc s13 s33 = denF Tryz.prog (gam [(13, s13), (33, s33), (1000000001, fun _ _ => .fail)]) Tryz.f14 g14kc := by kernel_rfl
def s14kc : Fun := b14kc s13 (s33kc)
theorem F14kc : Snd Tryz.prog 14 (s14kc) := snd_of hmix (gcons F13 (gcons (F33kc) (gconsE efail gnil))) Tryz.func14 (by kernel_rfl) (by kernel_rfl) (e14kc s13 (s33kc))


/-- (*obelisk/obelisktop.C).field (known c) -/
def s15kc : Fun := b15 s11 (s12kc)
theorem F15kc : Snd Tryz.prog 15 (s15kc) := snd_of hmix (gcons F11 (gcons (F12kc) gnil)) Tryz.func15 (by kernel_rfl) (by kernel_rfl) (e15 s11 (s12kc))


/-- (*obelisk/obelisktop.C).method (known c) -/
def s16kc : Fun := b16 s11 (s12kc) s13
theorem F16kc : Snd Tryz.prog 16 (s16kc) := snd_of hmix (gcons F11 (gcons (F12kc) (gcons F13 gnil))) Tryz.func16 (by kernel_rfl) (by kernel_rfl) (e16 s11 (s12kc) s13)


/-- (*obelisk/obelisktop.C).cls (known c) -/
def s38kc : Fun := b38 s11 (s12kc) (s33kc)
theorem F38kc : Snd Tryz.prog 38 (s38kc) := snd_of hmix (gcons F11 (gcons (F12kc) (gcons (F33kc) gnil))) Tryz.func38 (by kernel_rfl) (by kernel_rfl) (e38 s11 (s12kc) (s33kc))


/-- (*obelisk/obelisktop.C).member (known c) -/
def s34kc : Fun := b34 s11 (s12kc) (s33kc) (s38kc)
theorem F34kc : Snd Tryz.prog 34 (s34kc) := snd_of hmix (gcons F11 (gcons (F12kc) (gcons (F33kc) (gcons (F38kc) gnil)))) Tryz.func34 (by kernel_rfl) (by kernel_rfl) (e34 s11 (s12kc) (s33kc) (s38kc))


/-- (*obelisk/obelisktop.C).get (known c) -/
def s17kc : Fun := b17 s25 (s34kc)
theorem F17kc : Snd Tryz.prog 17 (s17kc) := snd_of hmix (gcons F25 (gcons (F34kc) gnil)) Tryz.func17 (by kernel_rfl) (by kernel_rfl) (e17 s25 (s34kc))


/-- (*obelisk/obelisktop.C).set (known c) -/
def s18kc : Fun := b18 s25 (s34kc)
theorem F18kc : Snd Tryz.prog 18 (s18kc) := snd_of hmix (gcons F25 (gcons (F34kc) gnil)) Tryz.func18 (by kernel_rfl) (by kernel_rfl) (e18 s25 (s34kc))


/-- (*obelisk/obelisktop.C).bytes (known c) -/
def s37kc : Fun := b37 s11 (s38kc)
theorem F37kc : Snd Tryz.prog 37 (s37kc) := snd_of hmix (gcons F11 (gcons (F38kc) gnil)) Tryz.func37 (by kernel_rfl) (by kernel_rfl) (e37 s11 (s38kc))


/-- obelisk/obelisktop.towered (known c) -/
def s20kc : Fun := b20 s35 s36 (s37kc)
theorem F20kc : Snd Tryz.prog 20 (s20kc) := snd_of hmix (gcons F35 (gcons F36 (gcons (F37kc) gnil))) Tryz.func20 (by kernel_rfl) (by kernel_rfl) (e20 s35 s36 (s37kc))


/-- obelisk/obelisktop.TopConstants (known c) -/
def b3kc (s8 s9 s10 s11 s12 s13 s14 s15 s16 s17 s18 s19 s20 s21 s22 s23 : Fun) : Fun := fun a b => uc a fun a c => uz c (cl (s8 [] b) fun b c => bNot b fun d => cB d fun d => ifB d (.fail) (iRem a (I 30000) fun a => cl (s9 [(.str 1 65), (.str 16 154706541852025644484233205990057992554), (I 33)] c) fun c d => cl (s11 [(I 25)] d) fun d e => cl (s12 [c, (.str 1 107)] e) fun e f => cl (s11 [e] f) fun e f => cl (s12 [c, (.str 1 73)] f) fun f g => cl (s11 [f] g) fun f g => cl (s11 [(I 1)] g) fun g h => cl (s12 [c, (.str 13 8038385183742672428942832332611)] h) fun h i => cl (s11 [h] i) fun h i => cl (s13 [(I 2)] i) fun i j => cl (s14 [c, a] j) fun j k => cl (s11 [j] k) fun j k => bld [(false, 1, d), (false, 1, e), (false, 1, f), (false, 1, g), (false, 1, h), (false, 1, i), (false, 1, j)] fun d => mkS k 1 7 d fun d e => cl (s10 [d] e) fun d e => na 9 c fun f => st1 e f d fun d => na 10 c fun e => st1 d e (I 1) fun d => cl (s15 [c, (I 9), (.str 1 122), (.str 1 73)] d) fun _ d => cl (s17 [c, (.str 1 65), (.str 1 107), (.str 1 73)] d) fun d e => bld [(false, 1, (J 4)), (false, 1, (J 96))] fun f => mkS e 1 2 f fun e f => cl (s18 [c, (.str 1 65), (.str 1 122), (.str 1 73)] f) fun f g => bld [(false, 1, (J 177))] fun h => mkS g 1 1 h fun g h => bld [(false, 1, d), (false, 1, e), (false, 1, f), (false, 1, g)] fun d => mkS h 1 4 d fun d e => cl (s10 [d] e) fun d e => cl (s16 [c, (I 8), (.str 8 4500337850585998140), (.str 3 5646632), (I 2), (I 0), d, .nils, .nils] e) fun _ d => cl (s19 [] d) fun d e => cl (s17 [d, (.str 1 65), (.str 1 122), (.str 1 73)] e) fun e f => cl (s17 [d, (.str 1 65), (.str 1 107), (.str 1 73)] f) fun f g => bld [(false, 1, (J 96)), (false, 1, (J 172))] fun h => mkS g 1 2 h fun g h => bld [(false, 1, e), (false, 1, f), (false, 1, g)] fun e => mkS h 1 3 e fun e f => cl (s10 [e] f) fun e f => cl (s16 [d, (I 9), (.str 2 28519), (.str 3 4794664), (I 2), (I 0), e, .nils, .nils] f) fun _ e => bld [(false, 1, (J 4))] fun f => mkS e 1 1 f fun e f => cl (s18 [d, (.str 1 65), (.str 1 107), (.str 1 73)] f) fun f g => bld [(false, 1, (J 3)), (false, 1, (J 172))] fun h => mkS g 1 2 h fun g h => bld [(false, 1, e), (false, 1, f), (false, 1, g)] fun e => mkS h 1 3 e fun e f => cl (s10 [e] f) fun e f => cl (s16 [d, (I 9), (.str 3 7632240), (.str 3 4794664), (I 2), (I 0), e, .nils, .nils] f) fun _ e => bld [(false, 1, c), (false, 1, d)] fun c => mkS e 1 2 c fun c d => cl (s20 [c] d) fun c d => ap (gsel b true c) fun e => gj b true (nck e fun a => .norm [a] d) d fun d e => gj b true (fa 1 d fun a => .norm [a] e) e fun d e => gj b true (ld1 e d fun a => .norm [a] e) e fun d e => cB b fun b => ap (sel b d (.bool false)) fun b => ap (gsel b true c) fun d => gj b true (cl (s22 [d, (.str 2 28519), (I 100), .nils] e) fun a b => .norm [a] b) e fun d e => ap (gsel b true a) fun f => gj b true (iMul (I 2) f fun a => .norm [a] e) e fun e f => gj b true (iAdd e (I 1) fun a => .norm [a] f) f fun e f => gj b true (cl (s21 [d, e] f) fun a b => .norm [a] b) f fun d e => cB b fun b => ap (sel b d (.bool false)) fun b => ap (gsel b true c) fun d => gj b true (cl (s22 [d, (.str 3 7632240), (I 100), .nils] e) fun a b => .norm [a] b) e fun d e => gj b true (cl (s23 [d, (.str 18 9968724064270886855227507928748569916107849)] e) fun a b => .norm [a] b) e fun d e => cB b fun b => ap (sel b d (.bool false)) fun b => ap (gsel b true c) fun c => gj b true (cl (s22 [c, (.str 2 28519), (I 100), .nils] e) fun a b => .norm [a] b) e fun c d => ap (gsel b true a) fun a => gj b true (iMul (I 2) a fun a => .norm [a] d) d fun a d => gj b true (iAdd a (I 1) fun a => .norm [a] d) d fun a d => gj b true (cl (s21 [c, a] d) fun a b => .norm [a] b) d fun a c => cB b fun b => ap (sel b a (.bool false)) fun a => cK a fun a => .ret a c))
def g3kc : Hint := (.s .z (.s .z (.s (.s .z (.s .z .z)) (.s .z (.s .z (.s .z (.s .z (.s .z (.s .z (.s .z (.s .z (.s .z (.s .z (.s .z .z))))))))))))))
theorem e3kc (s8 s9 s10 s11 s12 s13 s14 s15 s16 s17 s18 s19 s20 s21 s22 s23 : Fun) : b3kc s8 s9 s10 s11 s12 s13 s14 s15 s16 s17 s18 s19 s20 s21 s22 s23 = denF Tryz.prog (gam [(8, s8), (9, s9), (10, s10), (11, s11), (12, s12), (13, s13), (14, s14), (15, s15), (16, s16), (17, s17), (18, s18), (19, s19), (20, s20), (21, s21), (22, s22), (23, s23)]) Tryz.f3 g3kc := by kernel_rfl
def s3kc : Fun := b3kc s8 s9 s10 s11 (s12kc) s13 (s14kc) (s15kc) (s16kc) (s17kc) (s18kc) s19 (s20kc) (askB s21) s22 s23
theorem F3kc : Snd Tryz.prog 3 (s3kc) := snd_of hmix (gcons F8 (gcons F9 (gcons F10 (gcons F11 (gcons (F12kc) (gcons F13 (gcons (F14kc) (gcons (F15kc) (gcons (F16kc) (gcons (F17kc) (gcons (F18kc) (gcons F19 (gcons (F20kc) (gcons (⟨askB_sound F21.1, F21.2⟩ : Snd Tryz.prog 21 (askB s21)) (gcons F22 (gcons F23 gnil)))))))))))))))) Tryz.func3 (by kernel_rfl) (by kernel_rfl) (e3kc s8 s9 s10 s11 (s12kc) s13 (s14kc) (s15kc) (s16kc) (s17kc) (s18kc) s19 (s20kc) (askB s21) s22 s23)

end
end Go.Proofs.YtbkkfmjofmfijaaGreatDoor
