/-
  What functions of the program compute, in the abstract machine's words (printed by gen.lean): each is what its text denotes.
-/
import Derived.Test.YtbkkfmjofmfijaaGreatDoorFd
set_option linter.unusedVariables false
set_option linter.unusedSimpArgs false
namespace Go.Proofs.YtbkkfmjofmfijaaGreatDoor
open Go Go.AM
set_option autoImplicit false
set_option maxRecDepth 100000
set_option linter.unusedVariables false
noncomputable section
/-- obelisk/obelisklaw27.Begun -/
def b8 (s32 : Fun) : Fun := fun a b => uz a (cl (s32 [] b) fun a b => cK a fun a => .ret a b)
def g8 : Hint := (.s .z (.s .z .z))
theorem e8 (s32 : Fun) : b8 s32 = denF Tryz.prog (gam [(32, s32)]) Tryz.f8 g8 := by kernel_rfl
def r8 : Fun := b8 s32
theorem R8 : Snd Tryz.prog 8 r8 := snd_of hmix (gcons F32 gnil) Tryz.func8 (by kernel_rfl) (by kernel_rfl) (e8 s32)
theorem w8 : isT (r8 [] H0) = true := by kernel_rfl
def s8 : Fun := truth
theorem F8 : Snd Tryz.prog 8 s8 := ⟨truth_sound R8.1 w8, R8.2⟩


/-- obelisk/obelisktop.two -/
def b11 : Fun := fun a b => uc a fun a c => uz c (iShr a (.int 64 (.ofNat 8)) fun c => iConv 8 c fun c => iConv 8 a fun a => bld [(false, 1, c), (false, 1, a)] fun a => mkS b 1 2 a fun a b => cK a fun a => .ret a b)
def g11 : Hint := (.s .z (.s .z .z))
theorem e11 : b11 = denF Tryz.prog (gam []) Tryz.f11 g11 := by kernel_rfl
def s11 : Fun := b11
theorem F11 : Snd Tryz.prog 11 s11 := snd_of hmix gnil Tryz.func11 (by kernel_rfl) (by kernel_rfl) (e11)

/-- (*obelisk/obelisktop.C).put -/
def L33n0 : List AV → Hp → Res := fun a b => uc a fun a c => uc c fun c d => uc d fun d e => uc e fun e f => uc f fun f _ => nl 0 b a fun g => lenL g fun g => ltN f g fun g => ifB g (blk 1 (nl 0 b a fun g => ixA 1 g f fun g => ld1 b g fun g => eqS g c fun g => ifB g (.fail) (.norm [a, c, d, e, f] b)) fun a b => uc a fun a c => uc c fun c d => uc d fun d e => uc e fun e f => uc f fun f _ => iAdd f (I 1) fun f => .norm [a, c, d, e, f] b) (.exit 0 [a, c, d, e] b)
def b33 : Fun := fun a b => uc a fun a c => uc c fun c d => uc d fun d e => uc e fun e f => uz f (blk 0 (lp L33n0 most [a, c, d, e, (I 0)] b) fun a b => uc a fun a c => uc c fun c d => uc d fun d e => uc e fun e _ => nl 0 b a fun f => bld [(false, 1, c)] fun c => mkS b 1 1 c fun b c => apd c 1 16 f b fun b c => na 0 a fun f => st1 c f b fun b => nl 1 b a fun c => bld [(false, 1, d)] fun d => mkS b 1 1 d fun b d => apd d 1 24 c b fun b c => na 1 a fun d => st1 c d b fun b => na 2 a fun c => ld1 b c fun d => nl 3 b a fun f => bld [(false, 1, f)] fun f => mkS b 1 1 f fun b f => ld1 f c fun c => same d c (apd f 1 8 d b fun b c => na 2 a fun d => st1 c d b fun b => nl 3 b a fun c => iAdd c e fun c => na 3 a fun d => st1 b d c fun b => nl 3 b a fun a => iSub a e fun a => cK a fun a => .ret a b))
def g33 : Hint := (.s .z (.s (.s .z (.b [0, 1, 2, 3] (.l [0, 1, 2, 3, 9] (.s (.s .z (.s .z .z)) (.s (.b [0, 1, 2, 3, 9] (.s .z (.s .z .z))) .z))))) (.s .z (.s .z (.s (.r [0, 1, 2, 3, 4, 5, 6, 7, 8, 9, 10, 11, 12, 13]) (.s .z (.s .z .z)))))))
theorem e33 : b33 = denF Tryz.prog (gam []) Tryz.f33 g33 := by kernel_rfl
def s33 : Fun := b33
theorem F33 : Snd Tryz.prog 33 s33 := snd_of hmix gnil Tryz.func33 (by kernel_rfl) (by kernel_rfl) (e33)

/-- (*obelisk/obelisktop.C).utf -/
def b12 (s11 s33 : Fun) : Fun := fun a b => uc a fun a c => uc c fun c d => uz d (bld [(false, 1, (J 1))] fun d => mkS b 1 1 d fun b d => lenS c fun e => cl (s11 [e] d) fun d e => apd e 1 1 b d fun b d => sCat (.str 1 117) c fun e => apd d 1 1 b c fun b c => cl (s33 [a, e, b, (I 1)] c) fun a b => cK a fun a => .ret a b)
def g12 : Hint := (.s .z (.s .z (.s .z .z)))
theorem e12 (s11 s33 : Fun) : b12 s11 s33 = denF Tryz.prog (gam [(11, s11), (33, s33)]) Tryz.f12 g12 := by kernel_rfl
def s12 : Fun := b12 s11 s33
theorem F12 : Snd Tryz.prog 12 s12 := snd_of hmix (gcons F11 (gcons F33 gnil)) Tryz.func12 (by kernel_rfl) (by kernel_rfl) (e12 s11 s33)

/-- obelisk/obelisktop.four -/
def b13 : Fun := fun a b => uc a fun a c => uz c (iShr a (.int 64 (.ofNat 24)) fun c => iConv 8 c fun c => iShr a (.int 64 (.ofNat 16)) fun d => iConv 8 d fun d => iShr a (.int 64 (.ofNat 8)) fun e => iConv 8 e fun e => iConv 8 a fun a => bld [(false, 1, c), (false, 1, d), (false, 1, e), (false, 1, a)] fun a => mkS b 1 4 a fun a b => cK a fun a => .ret a b)
def g13 : Hint := (.s .z (.s .z .z))
theorem e13 : b13 = denF Tryz.prog (gam []) Tryz.f13 g13 := by kernel_rfl
def s13 : Fun := b13
theorem F13 : Snd Tryz.prog 13 s13 := snd_of hmix gnil Tryz.func13 (by kernel_rfl) (by kernel_rfl) (e13)

/-- (*obelisk/obelisktop.C).method -/
def L16n0 (s11 s12 s13 : Fun) : List AV → Hp → Res := fun a b => uc a fun a c => uc c fun c d => uc d fun d e => uc e fun e f => uc f fun f g => uc g fun g h => uc h fun h _ => ltN h (I 4) fun i => ifB i (blk 3 (ixA 4 c g fun i => ixP 4 1 i h fun i => ld1 b i fun i => cl (s11 [i] b) fun b i => apd i 1 1 f b fun b f => .norm [a, c, d, e, b, g, h] f) fun a b => uc a fun a c => uc c fun c d => uc d fun d e => uc e fun e f => uc f fun f g => uc g fun g h => uc h fun h _ => iAdd h (I 1) fun h => .norm [a, c, d, e, f, g, h] b) (.exit 2 [a, c, d, e, f, g] b)
def L16n1 (s11 s12 s13 : Fun) : List AV → Hp → Res := fun a b => uc a fun a c => uc c fun c d => uc d fun d e => uc e fun e f => uc f fun f g => uc g fun g _ => lenL c fun h => ltN g h fun h => ifB h (blk 1 (blk 2 (lp (L16n0 s11 s12 s13) most [a, c, d, e, f, g, (I 0)] b) fun a b => uc a fun a c => uc c fun c d => uc d fun d e => uc e fun e f => uc f fun f g => uc g fun g _ => .norm [a, c, d, e, f, g] b) fun a b => uc a fun a c => uc c fun c d => uc d fun d e => uc e fun e f => uc f fun f g => uc g fun g _ => iAdd g (I 1) fun g => .norm [a, c, d, e, f, g] b) (.exit 0 [a, d, e, f] b)
def b16 (s11 s12 s13 : Fun) : Fun := fun a b => uc a fun a c => uc c fun c d => uc d fun d e => uc e fun e f => uc f fun f g => uc g fun g h => uc h fun h i => uc i fun i j => uc j fun j k => uz k (cl (s11 [c] b) fun b c => cl (s12 [a, d] c) fun c d => cl (s11 [c] d) fun c d => apd d 1 1 b c fun b c => cl (s12 [a, e] c) fun c d => cl (s11 [c] d) fun c d => apd d 1 1 b c fun b c => jn (eqL h .nils fun d => ifB d (bld [(false, 1, (J 0)), (false, 1, (J 0))] fun d => mkS c 1 2 d fun c d => apd d 1 1 b c fun b c => .norm [a, b] c) (cl (s11 [f] c) fun c d => cl (s11 [g] d) fun d e => apd e 1 1 c d fun c d => lenL h fun e => cl (s13 [e] d) fun d e => apd e 1 1 c d fun c d => apd d 1 1 c h fun c d => lenL i fun e => cl (s11 [e] d) fun d e => apd e 1 1 c d fun c d => blk 0 (lp (L16n1 s11 s12 s13) most [a, i, j, b, c, (I 0)] d) fun a b => uc a fun a c => uc c fun c d => uc d fun d e => uc e fun e _ => jn (eqL c .nils fun c => ifB c (bld [(false, 1, (J 0)), (false, 1, (J 0))] fun c => mkS b 1 2 c fun b c => apd c 1 1 e b fun b c => .norm [a, d, b] c) (.fail)) fun a b => uc a fun a c => uc c fun c d => uc d fun d _ => bld [(false, 1, (J 0)), (false, 1, (J 1))] fun e => mkS b 1 2 e fun b e => apd e 1 1 c b fun b c => cl (s12 [a, (.str 4 1701080899)] c) fun c e => cl (s11 [c] e) fun c e => apd e 1 1 b c fun b c => lenL d fun e => cl (s13 [e] c) fun c e => apd e 1 1 b c fun b c => apd c 1 1 b d fun b c => .norm [a, b] c)) fun a b => uc a fun a c => uc c fun c _ => nl 11 b a fun d => apd b 1 1 d c fun b c => na 11 a fun d => st1 c d b fun b => nl 12 b a fun c => iAdd c (I 1) fun c => na 12 a fun a => st1 b a c fun a => .ret (.tup .nil) a)
def g16 : Hint := (.s .z (.s .z (.j [0, 18] (.s .z (.s .z (.s .z (.s .z (.s .z (.s .z (.s (.s .z (.b [0, 8, 18, 19] (.l [0, 7, 8, 18, 19, 20] (.s (.s .z (.s .z .z)) (.s (.b [0, 7, 8, 18, 19, 20] (.s .z (.b [0, 7, 8, 18, 19, 20] (.l [0, 7, 8, 18, 19, 20, 21] (.s (.s .z (.s .z .z)) (.s (.b [0, 7, 8, 18, 19, 20, 21] .z) .z)))))) .z))))) (.j [0, 18, 19] (.s .z (.s .z .z)) (.s .z (.s .z (.s .z .z))))))))))) (.s .z .z))))
theorem e16 (s11 s12 s13 : Fun) : b16 s11 s12 s13 = denF Tryz.prog (gam [(11, s11), (12, s12), (13, s13)]) Tryz.f16 g16 := by kernel_rfl
def s16 : Fun := b16 s11 s12 s13
theorem F16 : Snd Tryz.prog 16 s16 := snd_of hmix (gcons F11 (gcons F12 (gcons F13 gnil))) Tryz.func16 (by kernel_rfl) (by kernel_rfl) (e16 s11 s12 s13)

/-- obelisk/obelisktop.class -/
def b9 : Fun := fun a b => uc a fun a c => uc c fun c d => uc d fun d e => uz e (bld [(false, 1, .nils), (false, 1, .nils), (false, 1, .nils), (false, 1, (I 1)), (false, 1, a), (false, 1, c), (false, 1, d), (false, 1, (I 52)), (false, 1, .nils), (false, 1, .nils), (false, 1, (I 0)), (false, 1, .nils), (false, 1, (I 0))] fun a => mk b (cells (.agg a)) fun a b => cK a fun a => .ret a b)
def g9 : Hint := (.s .z (.s .z .z))
theorem e9 : b9 = denF Tryz.prog (gam []) Tryz.f9 g9 := by kernel_rfl
def s9 : Fun := b9
theorem F9 : Snd Tryz.prog 9 s9 := snd_of hmix gnil Tryz.func9 (by kernel_rfl) (by kernel_rfl) (e9)

/-- obelisk/obelisktop.main -/
def b19 (s9 : Fun) : Fun := fun a b => uz a (cl (s9 [(.str 1 77), (.str 16 154706541852025644484233205990057992554), (I 33)] b) fun a b => cK a fun a => .ret a b)
def g19 : Hint := (.s .z (.s .z .z))
theorem e19 (s9 : Fun) : b19 s9 = denF Tryz.prog (gam [(9, s9)]) Tryz.f19 g19 := by kernel_rfl
def s19 : Fun := b19 s9
theorem F19 : Snd Tryz.prog 19 s19 := snd_of hmix (gcons F9 gnil) Tryz.func19 (by kernel_rfl) (by kernel_rfl) (e19 s9)

/-- (*obelisk/obelisktop.C).cls -/
def b38 (s11 s12 s33 : Fun) : Fun := fun a b => uc a fun a c => uc c fun c d => uz d (cl (s12 [a, c] b) fun b d => sCat (.str 1 99) c fun c => bld [(false, 1, (J 7))] fun e => mkS d 1 1 e fun d e => cl (s11 [b] e) fun b e => apd e 1 1 d b fun b d => cl (s33 [a, c, b, (I 1)] d) fun a b => cK a fun a => .ret a b)
def g38 : Hint := (.s .z (.s .z (.s .z .z)))
theorem e38 (s11 s12 s33 : Fun) : b38 s11 s12 s33 = denF Tryz.prog (gam [(11, s11), (12, s12), (33, s33)]) Tryz.f38 g38 := by kernel_rfl
def s38 : Fun := b38 s11 s12 s33
theorem F38 : Snd Tryz.prog 38 s38 := snd_of hmix (gcons F11 (gcons F12 (gcons F33 gnil))) Tryz.func38 (by kernel_rfl) (by kernel_rfl) (e38 s11 s12 s33)

/-- (*obelisk/obelisktop.C).bytes -/
def L37n0 (s11 s38 : Fun) : List AV → Hp → Res := fun a b => uc a fun a c => uc c fun c d => uc d fun d _ => nl 8 b a fun e => lenL e fun e => ltN d e fun e => ifB e (blk 1 (nl 8 b a fun e => ixA 1 e d fun e => ld1 b e fun e => cl (s38 [a, e] b) fun b e => cl (s11 [b] e) fun b e => apd e 1 1 c b fun b c => .norm [a, b, d] c) fun a b => uc a fun a c => uc c fun c d => uc d fun d _ => iAdd d (I 1) fun d => .norm [a, c, d] b) (.exit 0 [a, c] b)
def L37n1 (s11 s38 : Fun) : List AV → Hp → Res := fun a b => uc a fun a c => uc c fun c d => uc d fun d e => uc e fun e _ => nl 1 b a fun f => lenL f fun f => ltN e f fun f => ifB f (blk 3 (nl 1 b a fun f => ixA 1 f e fun f => ld1 b f fun f => apd b 1 1 d f fun b d => .norm [a, c, b, e] d) fun a b => uc a fun a c => uc c fun c d => uc d fun d e => uc e fun e _ => iAdd e (I 1) fun e => .norm [a, c, d, e] b) (.exit 2 [c, d] b)
def b37 (s11 s38 : Fun) : Fun := fun a b => uc a fun a c => uz c (nl 4 b a fun c => na 5 a fun d => ld1 b d fun e => cl (s38 [a, c] b) fun b c => ld1 c d fun d => same e d (cl (s38 [a, e] c) fun c d => nl 6 d a fun e => cl (s11 [e] d) fun d e => cl (s11 [b] e) fun b e => apd e 1 1 d b fun b d => cl (s11 [c] d) fun c d => apd d 1 1 b c fun b c => nl 8 c a fun d => lenL d fun d => cl (s11 [d] c) fun c d => apd d 1 1 b c fun b c => blk 0 (lp (L37n0 s11 s38) most [a, b, (I 0)] c) fun a b => uc a fun a c => uc c fun c _ => nl 10 b a fun d => cl (s11 [d] b) fun b d => apd d 1 1 c b fun b c => nl 9 c a fun d => apd c 1 1 b d fun b c => nl 12 c a fun d => cl (s11 [d] c) fun c d => apd d 1 1 b c fun b c => nl 11 c a fun d => apd c 1 1 b d fun b c => bld [(false, 1, (J 0)), (false, 1, (J 0))] fun d => mkS c 1 2 d fun c d => apd d 1 1 b c fun b c => nl 7 c a fun d => iShr d (.int 64 (.ofNat 8)) fun d => iConv 8 d fun d => nl 7 c a fun e => iConv 8 e fun e => bld [(false, 1, (J 202)), (false, 1, (J 254)), (false, 1, (J 186)), (false, 1, (J 190)), (false, 1, (J 0)), (false, 1, (J 0)), (false, 1, d), (false, 1, e)] fun d => mkS c 1 8 d fun c d => nl 3 d a fun e => cl (s11 [e] d) fun d e => apd e 1 1 c d fun c d => blk 2 (lp (L37n1 s11 s38) most [a, b, c, (I 0)] d) fun a b => uc a fun a c => uc c fun c _ => apd b 1 1 c a fun a b => cK a fun a => .ret a b))
def g37 : Hint := (.s .z (.s (.r [0, 1, 2, 3, 4, 6, 7, 8, 9, 10, 5, 11, 12, 13]) (.s .z (.s .z (.s .z (.s (.s .z (.b [0, 5] (.l [0, 5, 6] (.s (.s .z (.s .z .z)) (.s (.b [0, 5, 6] .z) .z))))) (.s .z (.s .z (.s .z (.s .z (.s .z (.s (.r [0, 1, 2, 3, 4, 5, 6, 7, 8, 9, 10, 11, 12]) (.s .z (.s (.s .z (.b [5, 7] (.l [0, 5, 7, 8] (.s (.s .z (.s .z .z)) (.s (.b [0, 5, 7, 8] .z) .z))))) (.s .z .z)))))))))))))))
theorem e37 (s11 s38 : Fun) : b37 s11 s38 = denF Tryz.prog (gam [(11, s11), (38, s38)]) Tryz.f37 g37 := by kernel_rfl
def s37 : Fun := b37 s11 s38
theorem F37 : Snd Tryz.prog 37 s37 := snd_of hmix (gcons F11 (gcons F38 gnil)) Tryz.func37 (by kernel_rfl) (by kernel_rfl) (e37 s11 s38)

/-- obelisk/obelisktop.towered -/
def L20n0 (s35 s36 s37 : Fun) : List AV → Hp → Res := fun a b => uc a fun a c => uc c fun c d => uc d fun d _ => lenL a fun e => ltN d e fun e => ap (gsel (.bool e) true c) fun f => gj (.bool e) true (nck f fun a => .norm [a] b) b fun b f => gj (.bool e) true (fa 0 b fun a => .norm [a] f) f fun b f => gj (.bool e) true (ld1 f b fun a => .norm [a] f) f fun b f => gj (.bool e) true (eqP b .nilp fun a => .norm [(.bool (bnot a))] f) f fun b f => cB (.bool e) fun e => ap (sel e b (.bool false)) fun b => cB b fun b => ifB b (blk 1 (nm (.norm [c] f) fun b _ => nm (nck b fun a => .norm [a] f) fun b _ => nm (fa 0 b fun a => .norm [a] f) fun b _ => nm (ld1 f b fun a => .norm [a] f) fun e _ => nm (.norm [a] f) fun g _ => nm (.norm [d] f) fun h _ => nm (ixA 1 g h fun a => .norm [a] f) fun g _ => nm (ld1 f g fun a => .norm [a] f) fun h _ => nm (nck h fun a => .norm [a] f) fun i _ => nm (fa 4 i fun a => .norm [a] f) fun i _ => nm (ld1 f i fun a => .norm [a] f) fun j _ => nm (.norm [a] f) fun k _ => nm (.norm [d] f) fun l _ => nm (ixA 1 k l fun a => .norm [a] f) fun k _ => nm (ld1 f k fun a => .norm [a] f) fun l _ => nm (.norm [(.cons (I 0) (.cons (I 0) (.cons (J 0) (.cons (I 0) (.cons (.str 0 0) (.cons (.str 0 0) (.cons (.bool false) (.cons (I 0) (.cons .nils (.cons (I 0) (.cons (I 0) .nil)))))))))))] f) fun m _ => lay m .e 0 fun m n => ifB true (rsv f fun f o => nm (ld1 o k fun a => .norm [a] o) fun k _ => same l k (nm (ld1 o i fun a => .norm [a] o) fun k _ => same j k (nm (ld1 o g fun a => .norm [a] o) fun k _ => same h k (nm (ld1 o b fun a => .norm [a] o) fun k _ => same e k (nm (cl (s37 [l] o) fun a b => .norm [a] b) fun k l => nm (ld1 l i fun a => .norm [a] l) fun i _ => same j i (nm (ld1 l g fun a => .norm [a] l) fun i _ => same h i (nm (ld1 l b fun a => .norm [a] l) fun b _ => same e b (nm (bld [(false, 1, (I 1)), (false, 1, j), (false, 1, k), (false, 1, (.str 0 0)), (false, 1, .nils), (false, 1, (I 0))] fun a => .norm [(.agg a)] l) fun b _ => nm (cl (s36 [e, b] l) fun a b => .norm [a] b) fun b e => nm (ld1 e g fun a => .norm [a] e) fun i _ => same h i (dueK e f n m fun e => nm (ld1 e g fun a => .norm [a] e) fun g _ => same h g (nm (stN e 11 (.ptr f 0) b fun a => .norm [(.tup .nil)] a) fun _ b => nl 1 b c fun e => gj e true (fa 0 (.ptr f 0) fun a => .norm [a] b) b fun b f => gj e true (ld1 f b fun a => .norm [a] f) f fun b f => gj e true (eqN b (I 0) fun a => .norm [(.bool a)] f) f fun b f => cB e fun e => ap (sel e b (.bool false)) fun b => na 1 c fun e => st1 f e b fun b => .norm [a, c, d] b)))))))))) .fail) fun a b => uc a fun a c => uc c fun c d => uc d fun d _ => iAdd d (I 1) fun d => .norm [a, c, d] b) (.exit 0 [c] f)
def b20 (s35 s36 s37 : Fun) : Fun := fun a b => uc a fun a c => uz c (cl (s35 [] b) fun b c => bld [(false, 1, b), (false, 1, (.bool true))] fun b => mk c (cells (.agg b)) fun b c => blk 0 (lp (L20n0 s35 s36 s37) most [a, b, (I 0)] c) fun a b => uc a fun a _ => nl 1 b a fun c => ap (gsel c true a) fun d => gj c true (nck d fun a => .norm [a] b) b fun b d => gj c true (fa 0 b fun a => .norm [a] d) d fun b d => gj c true (ld1 d b fun a => .norm [a] d) d fun b d => gj c true (eqP b .nilp fun a => .norm [(.bool (bnot a))] d) d fun b d => cB c fun c => ap (sel c b (.bool false)) fun b => na 1 a fun c => st1 d c b fun b => cK a fun a => .ret a b)
def g20 : Hint := (.s .z (.s .z (.s (.s .z (.b [3] (.l [0, 3, 4] (.s (.s .z (.s .z .z)) (.s (.b [0, 3, 4] (.s (.f [(0, 0), (0, 1), (0, 2), (0, 3), (0, 4), (0, 5), (0, 6), (0, 7), (0, 8), (0, 9), (0, 10), (0, 11), (0, 12), (0, 13), (0, 14), (1, 18), (0, 15), (0, 16), (0, 17), (2, 18), (0, 19)]) .z)) .z))))) (.s .z (.s .z .z)))))
theorem e20 (s35 s36 s37 : Fun) : b20 s35 s36 s37 = denF Tryz.prog (gam [(35, s35), (36, s36), (37, s37)]) Tryz.f20 g20 := by kernel_rfl
def s20 : Fun := b20 s35 s36 s37
theorem F20 : Snd Tryz.prog 20 s20 := snd_of hmix (gcons F35 (gcons F36 (gcons F37 gnil))) Tryz.func20 (by kernel_rfl) (by kernel_rfl) (e20 s35 s36 s37)

/-- obelisk/obelisktop.done -/
def b21 : Fun := fun a b => uc a fun a c => uc c fun c d => uz d (mk b (cells a) fun a b => fl 0 b a fun d => eqN d (I 0) fun d => gj (.bool d) true (fa 1 a fun a => .norm [a] b) b fun b e => gj (.bool d) true (ld1 e b fun a => .norm [a] e) e fun b e => gj (.bool d) true (eqN b (I 1) fun a => .norm [(.bool a)] e) e fun b e => cB (.bool d) fun d => ap (sel d b (.bool false)) fun b => gj b true (fa 2 a fun a => .norm [a] e) e fun d e => gj b true (ld1 e d fun a => .norm [a] e) e fun d e => gj b true (eqN d (J 73) fun a => .norm [(.bool a)] e) e fun d e => cB b fun b => ap (sel b d (.bool false)) fun b => gj b true (fa 3 a fun a => .norm [a] e) e fun a d => gj b true (ld1 d a fun a => .norm [a] d) d fun a d => ap (gsel b true c) fun c => gj b true (eqN a c fun a => .norm [(.bool a)] d) d fun a c => cB b fun b => ap (sel b a (.bool false)) fun a => cK a fun a => .ret a c)
def g21 : Hint := (.s .z (.s .z .z))
theorem e21 : b21 = denF Tryz.prog (gam []) Tryz.f21 g21 := by kernel_rfl
def s21 : Fun := b21
theorem F21 : Snd Tryz.prog 21 s21 := snd_of hmix gnil Tryz.func21 (by kernel_rfl) (by kernel_rfl) (e21)

/-- (*obelisk/obelisktop.T).run -/
def b22 (s36 : Fun) : Fun := fun a b => uc a fun a c => uc c fun c d => uc d fun d e => uc e fun e f => uz f (mk b (.cons (I 0) (.cons (I 0) (.cons (J 0) (.cons (I 0) (.cons (.str 0 0) (.cons (.str 0 0) (.cons (.bool false) (.cons (I 0) (.cons .nils (.cons (I 0) (.cons (I 0) .nil))))))))))) fun b f => nl 0 f a fun a => bld [(false, 1, (I 2)), (false, 1, (.str 1 77)), (false, 1, .nils), (false, 1, c), (false, 1, e), (false, 1, d)] fun c => cl (s36 [a, (.agg c)] f) fun a c => stN c 11 b a fun a => ldN a 11 b fun b => .ret b a)
def g22 : Hint := (.s .z (.s .z .z))
theorem e22 (s36 : Fun) : b22 s36 = denF Tryz.prog (gam [(36, s36)]) Tryz.f22 g22 := by kernel_rfl
def s22 : Fun := b22 s36
theorem F22 : Snd Tryz.prog 22 s22 := snd_of hmix (gcons F36 gnil) Tryz.func22 (by kernel_rfl) (by kernel_rfl) (e22 s36)

/-- obelisk/obelisktop.thrown -/
def b23 : Fun := fun a b => uc a fun a c => uc c fun c d => uz d (mk b (cells a) fun a b => fl 0 b a fun d => eqN d (I 0) fun d => gj (.bool d) true (fa 1 a fun a => .norm [a] b) b fun b e => gj (.bool d) true (ld1 e b fun a => .norm [a] e) e fun b e => gj (.bool d) true (eqN b (I 2) fun a => .norm [(.bool a)] e) e fun b e => cB (.bool d) fun d => ap (sel d b (.bool false)) fun b => gj b true (fa 4 a fun a => .norm [a] e) e fun d e => gj b true (ld1 e d fun a => .norm [a] e) e fun d e => ap (gsel b true c) fun c => gj b true (sCat (.str 10 223859193091833076277610) c fun a => .norm [a] e) e fun c e => gj b true (eqS d c fun a => .norm [(.bool a)] e) e fun c d => cB b fun b => ap (sel b c (.bool false)) fun b => gj b true (fa 6 a fun a => .norm [a] d) d fun a c => gj b true (ld1 c a fun a => .norm [a] c) c fun a c => gj b true (bNot a fun a => .norm [a] c) c fun a c => cB b fun b => ap (sel b a (.bool false)) fun a => cK a fun a => .ret a c)
def g23 : Hint := (.s .z (.s .z .z))
theorem e23 : b23 = denF Tryz.prog (gam []) Tryz.f23 g23 := by kernel_rfl
def s23 : Fun := b23
theorem F23 : Snd Tryz.prog 23 s23 := snd_of hmix gnil Tryz.func23 (by kernel_rfl) (by kernel_rfl) (e23)

/-- (*obelisk/interp.Machine).array (known 0) -/
def b343k0 (s156 s325 s397 : Fun) : Fun := fun a b => uc a fun a c => uc c fun c d => uc d fun d e => uz e (mk b (cells a) fun a b => mk b (cells d) fun b d => ld1 d a fun e => cl (s325 [e, (I 0)] d) fun d e => mk e (.cons (I 0) .nil) fun e f => st1 f e d fun d => ld1 d e fun f => ltN f (I 0) fun f => .ask (beqB f true) (ifB true (ld1 d a fun a => cl (s156 [a, (I 19)] d) fun _ a => .ret (.tup .nil) a) (ld1 d a fun f => cl (s397 [f, c, (I 1), (.fn (.func 399) .nil (.cons a (.cons b (.cons e .nil))))] d) fun _ a => .ret (.tup .nil) a)))
def g343k0 : Hint := (.s .z (.s .z (.s (.s .z (.s (.s .z .z) .z)) .z)))
theorem e343k0 (s156 s325 s397 : Fun) : b343k0 s156 s325 s397 = denF Tryz.prog (gam [(156, s156), (325, s325), (397, s397), (2000000019, fun _ _ => .fail)]) Tryz.f343 g343k0 := by kernel_rfl
def s343k0 : Fun := b343k0 s156 s325 s397
theorem F343k0 : Snd Tryz.prog 343 (s343k0) := snd_of hmix (gcons F156 (gcons F325 (gcons F397 (gconsE efail gnil)))) Tryz.func343 (by kernel_rfl) (by kernel_rfl) (e343k0 s156 s325 s397)


/-- (*obelisk/interp.Machine).object (known 0) -/
def s268k0 : Fun := b268 s156 s252 s325 (s343k0) s347
theorem F268k0 : Snd Tryz.prog 268 (s268k0) := snd_of hmix (gcons F156 (gcons F252 (gcons F325 (gcons (F343k0) (gcons F347 gnil))))) Tryz.func268 (by kernel_rfl) (by kernel_rfl) (e268 s156 s252 s325 (s343k0) s347)


/-- (*obelisk/interp.Machine).exec (known 0) -/
def s172k0 : Fun := b172 s161 s257 s258 s259 s263 s265 (s268k0)
theorem F172k0 : Snd Tryz.prog 172 (s172k0) := snd_of hmix (gcons F161 (gcons F257 (gcons F258 (gcons F259 (gcons F263 (gcons F265 (gcons (F268k0) gnil))))))) Tryz.func172 (by kernel_rfl) (by kernel_rfl) (e172 s161 s257 s258 s259 s263 s265 (s268k0))


/-- (*obelisk/interp.Machine).play (known 0) -/
def s90k0 : Fun := b90 s170 s171 (s172k0)
theorem F90k0 : Snd Tryz.prog 90 (s90k0) := snd_of hmix (gcons F170 (gcons F171 (gcons (F172k0) gnil))) Tryz.func90 (by kernel_rfl) (by kernel_rfl) (e90 s170 s171 (s172k0))


/-- (*obelisk/interp.Machine).Step (known 0) -/
def s60k0 : Fun := b60 s82 s88 s89 (s90k0)
theorem F60k0 : Snd Tryz.prog 60 (s60k0) := snd_of hmix (gcons F82 (gcons F88 (gcons F89 (gcons (F90k0) gnil)))) Tryz.func60 (by kernel_rfl) (by kernel_rfl) (e60 s82 s88 s89 (s90k0))


/-- (*obelisk/interp.Machine).Run (known 0) -/
def s44k0 : Fun := b44 s59 (s60k0) s61
theorem F44k0 : Snd Tryz.prog 44 (s44k0) := snd_of hmix (gcons F59 (gcons (F60k0) (gcons F61 gnil))) Tryz.func44 (by kernel_rfl) (by kernel_rfl) (e44 s59 (s60k0) s61)


/-- (*obelisk/tower.Tower).Step (known 0) -/
def s36k0 : Fun := b36 s43 (s44k0) s45 s46 s47
theorem F36k0 : Snd Tryz.prog 36 (s36k0) := snd_of hmix (gcons F43 (gcons (F44k0) (gcons F45 (gcons F46 (gcons F47 gnil))))) Tryz.func36 (by kernel_rfl) (by kernel_rfl) (e36 s43 (s44k0) s45 s46 s47)


/-- obelisk/obelisktop.towered (known 0) -/
def s20k0 : Fun := b20 s35 (s36k0) s37
theorem F20k0 : Snd Tryz.prog 20 (s20k0) := snd_of hmix (gcons F35 (gcons (F36k0) (gcons F37 gnil))) Tryz.func20 (by kernel_rfl) (by kernel_rfl) (e20 s35 (s36k0) s37)


/-- (*obelisk/obelisktop.T).run (known 0) -/
def s22k0 : Fun := b22 (s36k0)
theorem F22k0 : Snd Tryz.prog 22 (s22k0) := snd_of hmix (gcons (F36k0) gnil) Tryz.func22 (by kernel_rfl) (by kernel_rfl) (e22 (s36k0))


/-- obelisk/obelisktop.TopSizes (known 0) -/
def b4k0 (s8 s16 s19 s20 s21 s22 s23 : Fun) : Fun := fun a b => uc a fun a c => uz c (cl (s8 [] b) fun b c => bNot b fun d => cB d fun d => ifB d (.fail) (cl (s19 [] c) fun c d => bld [(false, 1, (J 26)), (false, 1, (J 188)), (false, 1, (J 11)), (false, 1, (J 190)), (false, 1, (J 172))] fun e => mkS d 1 5 e fun d e => cl (s16 [c, (I 9), (.str 2 28519), (.str 4 1227442472), (I 1), (I 1), d, .nils, .nils] e) fun _ d => bld [(false, 1, c)] fun c => mkS d 1 1 c fun c d => cl (s20 [c] d) fun c d => iConv 31 a fun e => iConv 63 e fun e => bld [(false, 1, a)] fun a => mkS d 1 1 a fun a d => cl (s22 [c, (.str 2 28519), (I 10), a] d) fun a d => mk d (.cons (I 0) (.cons (I 0) (.cons (J 0) (.cons (I 0) (.cons (.str 0 0) (.cons (.str 0 0) (.cons (.bool false) (.cons (I 0) (.cons .nils (.cons (I 0) (.cons (I 0) .nil))))))))))) fun d f => stN f 11 d a fun a => blk 0 (ltN e (I 0) fun f => .ask (beqB f true) (ifB true (ap (gsel b true c) fun c => gj b true (nck c fun b => .norm [b] a) a fun a c => gj b true (fa 1 a fun a => .norm [a] c) c fun a c => gj b true (ld1 c a fun a => .norm [a] c) c fun a c => cB b fun b => ap (sel b a (.bool false)) fun a => gj a true (ldN c 11 d fun a => .norm [a] c) c fun b c => gj a true (cl (s23 [b, (.str 26 177462528906270532328520951914837980838566069556787747611960654)] c) fun a b => .norm [a] b) c fun b c => cB a fun a => ap (sel a b (.bool false)) fun a => cK a fun a => .ret a c) (iAdd e (I 3) fun f => ltN (I 2040) f fun f => ifB f (ap (gsel b true c) fun c => gj b true (nck c fun b => .norm [b] a) a fun a c => gj b true (fa 1 a fun a => .norm [a] c) c fun a c => gj b true (ld1 c a fun a => .norm [a] c) c fun a c => cB b fun b => ap (sel b a (.bool false)) fun a => gj a true (ldN c 11 d fun a => .norm [a] c) c fun b c => gj a true (cl (s23 [b, (.str 16 152110657718984404401460316633220543823)] c) fun a b => .norm [a] b) c fun b c => cB a fun a => ap (sel a b (.bool false)) fun a => cK a fun a => .ret a c) (.norm [b, c, e, d] a)))) fun a b => uc a fun a c => uc c fun c d => uc d fun d e => uc e fun e _ => ap (gsel a true c) fun c => gj a true (nck c fun a => .norm [a] b) b fun b c => gj a true (fa 1 b fun a => .norm [a] c) c fun b c => gj a true (ld1 c b fun a => .norm [a] c) c fun b c => cB a fun a => ap (sel a b (.bool false)) fun a => gj a true (ldN c 11 e fun a => .norm [a] c) c fun b c => ap (gsel a true d) fun d => gj a true (cl (s21 [b, d] c) fun a b => .norm [a] b) c fun b c => cB a fun a => ap (sel a b (.bool false)) fun a => cK a fun a => .ret a c))
def g4k0 : Hint := (.s .z (.s .z (.s (.s .z (.s .z .z)) (.s .z (.s .z (.s .z (.s .z (.s .z (.s (.b [3, 5, 6, 7] (.s .z (.s (.s .z .z) (.s .z (.s (.s .z .z) .z))))) (.s .z .z))))))))))
theorem e4k0 (s8 s16 s19 s20 s21 s22 s23 : Fun) : b4k0 s8 s16 s19 s20 s21 s22 s23 = denF Tryz.prog (gam [(8, s8), (16, s16), (19, s19), (20, s20), (21, s21), (22, s22), (23, s23), (2000000053, fun _ _ => .fail)]) Tryz.f4 g4k0 := by kernel_rfl
def s4k0 : Fun := b4k0 s8 s16 s19 (s20k0) s21 (s22k0) s23
theorem F4k0 : Snd Tryz.prog 4 (s4k0) := snd_of hmix (gcons F8 (gcons F16 (gcons F19 (gcons (F20k0) (gcons F21 (gcons (F22k0) (gcons F23 (gconsE efail gnil)))))))) Tryz.func4 (by kernel_rfl) (by kernel_rfl) (e4k0 s8 s16 s19 (s20k0) s21 (s22k0) s23)


/-- (*obelisk/heap.Heap).make (known 1) -/
def b75k1 : Fun := fun a b => uc a fun a c => uc c fun c d => uc d fun d e => uz e (eqP a .nilp fun e => ap (gsel (.bool e) false c) fun f => gj (.bool e) false (ltN f (I 0) fun a => .norm [(.bool a)] b) b fun b f => cB (.bool e) fun e => ap (sel e (.bool true) b) fun b => ap (gsel b false d) fun e => ap (gsel b false a) fun g => gj b false (nck g fun a => .norm [a] f) f fun f g => gj b false (fa 1 f fun a => .norm [a] g) g fun f g => gj b false (ld1 g f fun a => .norm [a] g) g fun f g => gj b false (lenL f fun a => .norm [a] g) g fun f g => gj b false (iSub (I 2048) f fun a => .norm [a] g) g fun f g => gj b false (ltN f e fun a => .ask (beqB a true) (.norm [(.bool true)] g)) g fun e f => cB b fun b => ap (sel b (.bool true) e) fun b => cB b fun b => ifB b (cK (I 0) fun a => .ret a f) (nl 1 f a fun b => lenL b fun b => nl 1 f a fun e => apdZ f 1 8 (.cons (.int 64 (.ofNat 0)) .nil) e d fun d e => na 1 a fun f => st1 e f d fun d => nl 1 d a fun e => iConv 64 c fun c => ixA 1 e b fun e => st1 d e c fun c => nl 2 c a fun d => bld [(false, 1, b)] fun e => mkS c 1 1 e fun c e => apd e 1 8 d c fun c d => na 2 a fun a => st1 d a c fun a => iAdd b (I 1) fun b => cK b fun b => .ret b a))
def g75k1 : Hint := (.s .z (.s (.s .z (.s (.s .z .z) .z)) (.s .z (.s .z (.s .z (.s .z (.s .z .z)))))))
theorem e75k1 : b75k1 = denF Tryz.prog (gam [(2000000031, fun _ _ => .fail)]) Tryz.f75 g75k1 := by kernel_rfl
def s75k1 : Fun := b75k1
theorem F75k1 : Snd Tryz.prog 75 (s75k1) := snd_of hmix (gconsE efail gnil) Tryz.func75 (by kernel_rfl) (by kernel_rfl) (e75k1)


/-- (*obelisk/stack.Stack).Move (known 1) -/
def L98k1n0 : List AV → Hp → Res := fun a b => uc a fun a c => uc c fun c d => uc d fun d e => uc e fun e f => uc f fun f _ => ltN f e fun g => ifB g (blk 1 (ixA 1 d f fun g => ld1 b g fun g => nl 0 b a fun h => ixA 1 h f fun h => ld1 b h fun h => lkpN (kqI 63) b true (I 0) c h fun h => cT h fun i => cK (nth i 0) fun i => cT h fun h => cK (nth h 1) fun h => ap (gsel g true a) fun j => gj g true (nck j fun a => .norm [a] b) b fun b j => gj g true (fa 0 b fun a => .norm [a] j) j fun b j => gj g true (ld1 j b fun a => .norm [a] j) j fun b j => ap (gsel g true f) fun k => gj g true (ixA 1 b k fun a => .norm [a] j) j fun b j => gj g true (ld1 j b fun a => .norm [a] j) j fun b j => gj g true (eqN b (I 0) fun a => .norm [(.bool (bnot a))] j) j fun b j => cB g fun g => ap (sel g b (.bool false)) fun b => ap (gsel b true h) fun g => cB b fun b => ap (sel b g (.bool false)) fun b => cB b fun b => ifB b (nl 0 j a fun b => ixA 1 b f fun b => st1 j b i fun b => .norm [a, c, d, e, f] b) (.norm [a, c, d, e, f] j)) fun a b => uc a fun a c => uc c fun c d => uc d fun d e => uc e fun e f => uc f fun f _ => iAdd f (I 1) fun f => .norm [a, c, d, e, f] b) (.exit 0 [] b)
def b98k1 : Fun := fun a b => uc a fun a c => uc c fun c d => uz d (eqP a .nilp fun d => ifB d (.ret (.tup .nil) b) (nl 1 b a fun d => lenL d fun e => blk 0 (lp L98k1n0 most [a, c, d, e, (I 0)] b) fun _ a => .ret (.tup .nil) a))
def g98k1 : Hint := (.s (.s .z (.s .z .z)) (.s .z (.b [] (.l [0, 1, 13, 14, 15] (.s .z (.s (.s .z .z) (.s (.b [0, 1, 13, 14, 15] (.s .z (.s .z (.s .z (.s .z .z))))) .z)))))))
theorem e98k1 : b98k1 = denF Tryz.prog (gam [(1000000000, fun _ _ => .fail)]) Tryz.f98 g98k1 := by kernel_rfl
def s98k1 : Fun := b98k1
theorem F98k1 : Snd Tryz.prog 98 (s98k1) := snd_of hmix (gconsE efail gnil) Tryz.func98 (by kernel_rfl) (by kernel_rfl) (e98k1)


/-- (*obelisk/interp.Machine).collect (known 1) -/
def s63k1 : Fun := b63 s92 s93 s94 s96 s97 (s98k1) s99 s175 s179 s303
theorem F63k1 : Snd Tryz.prog 63 (s63k1) := snd_of hmix (gcons F92 (gcons F93 (gcons F94 (gcons F96 (gcons F97 (gcons (F98k1) (gcons F99 (gcons F175 (gcons F179 (gcons F303 gnil)))))))))) Tryz.func63 (by kernel_rfl) (by kernel_rfl) (e63 s92 s93 s94 s96 s97 (s98k1) s99 s175 s179 s303)


/-- obelisk/layout.Array (known 1) -/
def b285k1 (s286 : Fun) : Fun := fun a b => uc a fun a c => uc c fun c d => uz d (cl (s286 [a] b) fun a b => eqN a (I 0) fun d => ap (gsel (.bool d) false c) fun e => gj (.bool d) false (ltN e (I 0) fun a => .ask (beqB a false) (.norm [(.bool false)] b)) b fun b e => cB (.bool d) fun d => ap (sel d (.bool true) b) fun b => ap (gsel b false c) fun d => gj b false (ltN (I 2147483647) d fun a => .ask (beqB a false) (.norm [(.bool false)] e)) e fun d e => cB b fun b => ap (sel b (.bool true) d) fun b => cB b fun b => ifB b (.fail) (iMul c a fun a => iAdd a (I 8) fun a => iSub a (I 1) fun a => iQuo a (I 8) fun a => iAdd (I 3) a fun a => cK a fun a => .ret a e))
def g285k1 : Hint := (.s .z (.s .z (.s (.s .z (.s .z .z)) (.s .z .z))))
theorem e285k1 (s286 : Fun) : b285k1 s286 = denF Tryz.prog (gam [(286, s286), (2000000022, fun _ _ => .fail), (2000000030, fun _ _ => .fail)]) Tryz.f285 g285k1 := by kernel_rfl
def s285k1 : Fun := b285k1 s286
theorem F285k1 : Snd Tryz.prog 285 (s285k1) := snd_of hmix (gcons F286 (gconsE efail (gconsE efail gnil))) Tryz.func285 (by kernel_rfl) (by kernel_rfl) (e285k1 s286)


/-- (*obelisk/heap.Heap).Array (known 1) -/
def b400k1 (s74 s75 s135 s136 s137 s285 : Fun) : Fun := fun a b => uc a fun a c => uc c fun c d => uc d fun d e => uz e (cl (s135 [c] b) fun b e => cT b fun f => cK (nth f 0) fun f => cT b fun b => cK (nth b 1) fun b => mk e (.cons (J 0) (.cons (.str 0 0) (.cons (I 0) (.cons (J 0) .nil)))) fun e g => stN g 4 e f fun f => ldN f 4 e fun e => cl (s137 [e] f) fun e f => cl (s136 [e] f) fun e f => cl (s285 [e, d] f) fun e f => eqP a .nilp fun g => ap (gsel (.bool g) false b) fun b => gj (.bool g) false (bNot b fun a => .norm [a] f) f fun b f => cB (.bool g) fun g => ap (sel g (.bool true) b) fun b => ap (gsel b false e) fun g => gj b false (ltN g (I 0) fun a => .ask (beqB a false) (.norm [(.bool false)] f)) f fun f g => cB b fun b => ap (sel b (.bool true) f) fun b => cB b fun b => ifB b (.fail) (cl (s74 [a, c] g) fun b c => cl (s75 [a, b, e] c) fun b c => jn (ltN (I 0) b fun e => ifB e (nl 1 c a fun a => iAdd b (I 1) fun e => iConv 64 d fun d => ixA 1 a e fun a => st1 c a d fun a => .norm [b] a) (.norm [b] c)) fun a b => uc a fun a _ => cK a fun a => .ret a b))
def g400k1 : Hint := (.s .z (.s .z (.s .z (.s (.s .z (.s .z .z)) (.s .z (.j [10] (.s .z (.s .z .z)) (.s .z .z)))))))
theorem e400k1 (s74 s75 s135 s136 s137 s285 : Fun) : b400k1 s74 s75 s135 s136 s137 s285 = denF Tryz.prog (gam [(74, s74), (75, s75), (135, s135), (136, s136), (137, s137), (285, s285), (2000000056, fun _ _ => .fail)]) Tryz.f400 g400k1 := by kernel_rfl
def s400k1 : Fun := b400k1 s74 (s75k1) s135 s136 s137 (s285k1)
theorem F400k1 : Snd Tryz.prog 400 (s400k1) := snd_of hmix (gcons F74 (gcons (F75k1) (gcons F135 (gcons F136 (gcons F137 (gcons (F285k1) (gconsE efail gnil))))))) Tryz.func400 (by kernel_rfl) (by kernel_rfl) (e400k1 s74 (s75k1) s135 s136 s137 (s285k1))


/-- (*obelisk/interp.Machine).array$1 (known 1) -/
def s399k1 : Fun := b399 (s400k1)
theorem F399k1 : Snd Tryz.prog 399 (s399k1) := snd_of hmix (gcons (F400k1) gnil) Tryz.func399 (by kernel_rfl) (by kernel_rfl) (e399 (s400k1))


/-- (*obelisk/interp.Machine).make (known 1) -/
def s242k1 : Fun := b242 (s63k1) s243 (s399k1)
theorem F242k1 : Snd Tryz.prog 242 (s242k1) := snd_of hmix (gcons (F63k1) (gcons F243 (gcons (F399k1) gnil))) Tryz.func242 (by kernel_rfl) (by kernel_rfl) (e242 (s63k1) s243 (s399k1))


/-- (*obelisk/interp.Machine).raise (known 1) -/
def s156k1 : Fun := b156 (s242k1)
theorem F156k1 : Snd Tryz.prog 156 (s156k1) := snd_of hmix (gcons (F242k1) gnil) Tryz.func156 (by kernel_rfl) (by kernel_rfl) (e156 (s242k1))


/-- (*obelisk/interp.Machine).proceed (known 1) -/
def s159k1 : Fun := b159 (s156k1) s160 s246 s247
theorem F159k1 : Snd Tryz.prog 159 (s159k1) := snd_of hmix (gcons (F156k1) (gcons F160 (gcons F246 (gcons F247 gnil)))) Tryz.func159 (by kernel_rfl) (by kernel_rfl) (e159 (s156k1) s160 s246 s247)


/-- (*obelisk/interp.Machine).start (known 1) -/
def s86k1 : Fun := b86 s57 s84 s155 (s156k1) s157 (s159k1)
theorem F86k1 : Snd Tryz.prog 86 (s86k1) := snd_of hmix (gcons F57 (gcons F84 (gcons F155 (gcons (F156k1) (gcons F157 (gcons (F159k1) gnil)))))) Tryz.func86 (by kernel_rfl) (by kernel_rfl) (e86 s57 s84 s155 (s156k1) s157 (s159k1))


/-- (*obelisk/interp.Machine).Begin (known 1) -/
def s59k1 : Fun := b59 s57 s62 s82 s83 s84 s85 (s86k1) s87 s88
theorem F59k1 : Snd Tryz.prog 59 (s59k1) := snd_of hmix (gcons F57 (gcons F62 (gcons F82 (gcons F83 (gcons F84 (gcons F85 (gcons (F86k1) (gcons F87 (gcons F88 gnil))))))))) Tryz.func59 (by kernel_rfl) (by kernel_rfl) (e59 s57 s62 s82 s83 s84 s85 (s86k1) s87 s88)


/-- (*obelisk/interp.Machine).made (known 1) -/
def s397k1 : Fun := b397 (s156k1) s165 s167 (s242k1) s259
theorem F397k1 : Snd Tryz.prog 397 (s397k1) := snd_of hmix (gcons (F156k1) (gcons F165 (gcons F167 (gcons (F242k1) (gcons F259 gnil))))) Tryz.func397 (by kernel_rfl) (by kernel_rfl) (e397 (s156k1) s165 s167 (s242k1) s259)


/-- (*obelisk/interp.Machine).array (known 1) -/
def b343k1 (s156 s325 s397 : Fun) : Fun := fun a b => uc a fun a c => uc c fun c d => uc d fun d e => uz e (mk b (cells a) fun a b => mk b (cells d) fun b d => ld1 d a fun e => cl (s325 [e, (I 0)] d) fun d e => mk e (.cons (I 0) .nil) fun e f => st1 f e d fun d => ld1 d e fun f => ltN f (I 0) fun f => .ask (beqB f false) (ifB false (ld1 d a fun a => cl (s156 [a, (I 19)] d) fun _ a => .ret (.tup .nil) a) (ld1 d a fun f => cl (s397 [f, c, (I 1), (.fn (.func 399) .nil (.cons a (.cons b (.cons e .nil))))] d) fun _ a => .ret (.tup .nil) a)))
def g343k1 : Hint := (.s .z (.s .z (.s (.s .z (.s (.s .z .z) .z)) .z)))
theorem e343k1 (s156 s325 s397 : Fun) : b343k1 s156 s325 s397 = denF Tryz.prog (gam [(156, s156), (325, s325), (397, s397), (2000000018, fun _ _ => .fail)]) Tryz.f343 g343k1 := by kernel_rfl
def s343k1 : Fun := b343k1 (s156k1) s325 (s397k1)
theorem F343k1 : Snd Tryz.prog 343 (s343k1) := snd_of hmix (gcons (F156k1) (gcons F325 (gcons (F397k1) (gconsE efail gnil)))) Tryz.func343 (by kernel_rfl) (by kernel_rfl) (e343k1 (s156k1) s325 (s397k1))


/-- (*obelisk/interp.Machine).length (known 1) -/
def s347k1 : Fun := b347 (s156k1) s165 s167 s176 s259 s325
theorem F347k1 : Snd Tryz.prog 347 (s347k1) := snd_of hmix (gcons (F156k1) (gcons F165 (gcons F167 (gcons F176 (gcons F259 (gcons F325 gnil)))))) Tryz.func347 (by kernel_rfl) (by kernel_rfl) (e347 (s156k1) s165 s167 s176 s259 s325)


/-- (*obelisk/interp.Machine).object (known 1) -/
def s268k1 : Fun := b268 (s156k1) s252 s325 (s343k1) (s347k1)
theorem F268k1 : Snd Tryz.prog 268 (s268k1) := snd_of hmix (gcons (F156k1) (gcons F252 (gcons F325 (gcons (F343k1) (gcons (F347k1) gnil))))) Tryz.func268 (by kernel_rfl) (by kernel_rfl) (e268 (s156k1) s252 s325 (s343k1) (s347k1))


/-- (*obelisk/interp.Machine).exec (known 1) -/
def s172k1 : Fun := b172 s161 s257 s258 s259 s263 s265 (s268k1)
theorem F172k1 : Snd Tryz.prog 172 (s172k1) := snd_of hmix (gcons F161 (gcons F257 (gcons F258 (gcons F259 (gcons F263 (gcons F265 (gcons (F268k1) gnil))))))) Tryz.func172 (by kernel_rfl) (by kernel_rfl) (e172 s161 s257 s258 s259 s263 s265 (s268k1))


/-- (*obelisk/interp.Machine).play (known 1) -/
def s90k1 : Fun := b90 s170 s171 (s172k1)
theorem F90k1 : Snd Tryz.prog 90 (s90k1) := snd_of hmix (gcons F170 (gcons F171 (gcons (F172k1) gnil))) Tryz.func90 (by kernel_rfl) (by kernel_rfl) (e90 s170 s171 (s172k1))


/-- (*obelisk/interp.Machine).Step (known 1) -/
def s60k1 : Fun := b60 s82 s88 s89 (s90k1)
theorem F60k1 : Snd Tryz.prog 60 (s60k1) := snd_of hmix (gcons F82 (gcons F88 (gcons F89 (gcons (F90k1) gnil)))) Tryz.func60 (by kernel_rfl) (by kernel_rfl) (e60 s82 s88 s89 (s90k1))


/-- (*obelisk/interp.Machine).Run (known 1) -/
def s44k1 : Fun := b44 (s59k1) (s60k1) s61
theorem F44k1 : Snd Tryz.prog 44 (s44k1) := snd_of hmix (gcons (F59k1) (gcons (F60k1) (gcons F61 gnil))) Tryz.func44 (by kernel_rfl) (by kernel_rfl) (e44 (s59k1) (s60k1) s61)


/-- (*obelisk/interp.Machine).Collect (known 1) -/
def s46k1 : Fun := b46 (s63k1)
theorem F46k1 : Snd Tryz.prog 46 (s46k1) := snd_of hmix (gcons (F63k1) gnil) Tryz.func46 (by kernel_rfl) (by kernel_rfl) (e46 (s63k1))


/-- (*obelisk/tower.Tower).Step (known 1) -/
def s36k1 : Fun := b36 s43 (s44k1) s45 (s46k1) s47
theorem F36k1 : Snd Tryz.prog 36 (s36k1) := snd_of hmix (gcons F43 (gcons (F44k1) (gcons F45 (gcons (F46k1) (gcons F47 gnil))))) Tryz.func36 (by kernel_rfl) (by kernel_rfl) (e36 s43 (s44k1) s45 (s46k1) s47)


/-- obelisk/obelisktop.towered (known 1) -/
def s20k1 : Fun := b20 s35 (s36k1) s37
theorem F20k1 : Snd Tryz.prog 20 (s20k1) := snd_of hmix (gcons F35 (gcons (F36k1) (gcons F37 gnil))) Tryz.func20 (by kernel_rfl) (by kernel_rfl) (e20 s35 (s36k1) s37)


/-- (*obelisk/obelisktop.T).run (known 1) -/
def s22k1 : Fun := b22 (s36k1)
theorem F22k1 : Snd Tryz.prog 22 (s22k1) := snd_of hmix (gcons (F36k1) gnil) Tryz.func22 (by kernel_rfl) (by kernel_rfl) (e22 (s36k1))


/-- obelisk/obelisktop.TopSizes (known 1) -/
def b4k1 (s8 s16 s19 s20 s21 s22 s23 : Fun) : Fun := fun a b => uc a fun a c => uz c (cl (s8 [] b) fun b c => bNot b fun d => cB d fun d => ifB d (.fail) (cl (s19 [] c) fun c d => bld [(false, 1, (J 26)), (false, 1, (J 188)), (false, 1, (J 11)), (false, 1, (J 190)), (false, 1, (J 172))] fun e => mkS d 1 5 e fun d e => cl (s16 [c, (I 9), (.str 2 28519), (.str 4 1227442472), (I 1), (I 1), d, .nils, .nils] e) fun _ d => bld [(false, 1, c)] fun c => mkS d 1 1 c fun c d => cl (s20 [c] d) fun c d => iConv 31 a fun e => iConv 63 e fun e => bld [(false, 1, a)] fun a => mkS d 1 1 a fun a d => cl (s22 [c, (.str 2 28519), (I 10), a] d) fun a d => mk d (.cons (I 0) (.cons (I 0) (.cons (J 0) (.cons (I 0) (.cons (.str 0 0) (.cons (.str 0 0) (.cons (.bool false) (.cons (I 0) (.cons .nils (.cons (I 0) (.cons (I 0) .nil))))))))))) fun d f => stN f 11 d a fun a => blk 0 (ltN e (I 0) fun f => .ask (beqB f false) (ifB false (ap (gsel b true c) fun c => gj b true (nck c fun b => .norm [b] a) a fun a c => gj b true (fa 1 a fun a => .norm [a] c) c fun a c => gj b true (ld1 c a fun a => .norm [a] c) c fun a c => cB b fun b => ap (sel b a (.bool false)) fun a => gj a true (ldN c 11 d fun a => .norm [a] c) c fun b c => gj a true (cl (s23 [b, (.str 26 177462528906270532328520951914837980838566069556787747611960654)] c) fun a b => .norm [a] b) c fun b c => cB a fun a => ap (sel a b (.bool false)) fun a => cK a fun a => .ret a c) (iAdd e (I 3) fun f => ltN (I 2040) f fun f => .ask (beqB f true) (ifB true (ap (gsel b true c) fun c => gj b true (nck c fun b => .norm [b] a) a fun a c => gj b true (fa 1 a fun a => .norm [a] c) c fun a c => gj b true (ld1 c a fun a => .norm [a] c) c fun a c => cB b fun b => ap (sel b a (.bool false)) fun a => gj a true (ldN c 11 d fun a => .norm [a] c) c fun b c => gj a true (cl (s23 [b, (.str 16 152110657718984404401460316633220543823)] c) fun a b => .norm [a] b) c fun b c => cB a fun a => ap (sel a b (.bool false)) fun a => cK a fun a => .ret a c) (.norm [b, c, e, d] a))))) fun a b => uc a fun a c => uc c fun c d => uc d fun d e => uc e fun e _ => ap (gsel a true c) fun c => gj a true (nck c fun a => .norm [a] b) b fun b c => gj a true (fa 1 b fun a => .norm [a] c) c fun b c => gj a true (ld1 c b fun a => .norm [a] c) c fun b c => cB a fun a => ap (sel a b (.bool false)) fun a => gj a true (ldN c 11 e fun a => .norm [a] c) c fun b c => ap (gsel a true d) fun d => gj a true (cl (s21 [b, d] c) fun a b => .norm [a] b) c fun b c => cB a fun a => ap (sel a b (.bool false)) fun a => cK a fun a => .ret a c))
def g4k1 : Hint := (.s .z (.s .z (.s (.s .z (.s .z .z)) (.s .z (.s .z (.s .z (.s .z (.s .z (.s (.b [3, 5, 6, 7] (.s .z (.s (.s .z .z) (.s .z (.s (.s .z .z) .z))))) (.s .z .z))))))))))
theorem e4k1 (s8 s16 s19 s20 s21 s22 s23 : Fun) : b4k1 s8 s16 s19 s20 s21 s22 s23 = denF Tryz.prog (gam [(8, s8), (16, s16), (19, s19), (20, s20), (21, s21), (22, s22), (23, s23), (2000000052, fun _ _ => .fail), (2000000083, fun _ _ => .fail)]) Tryz.f4 g4k1 := by kernel_rfl
def s4k1 : Fun := b4k1 s8 s16 s19 (s20k1) s21 (s22k1) s23
theorem F4k1 : Snd Tryz.prog 4 (s4k1) := snd_of hmix (gcons F8 (gcons F16 (gcons F19 (gcons (F20k1) (gcons F21 (gcons (F22k1) (gcons F23 (gconsE efail (gconsE efail gnil))))))))) Tryz.func4 (by kernel_rfl) (by kernel_rfl) (e4k1 s8 s16 s19 (s20k1) s21 (s22k1) s23)


/-- (*obelisk/heap.Heap).make (known 2) -/
def b75k2 : Fun := fun a b => uc a fun a c => uc c fun c d => uc d fun d e => uz e (eqP a .nilp fun e => ap (gsel (.bool e) false c) fun f => gj (.bool e) false (ltN f (I 0) fun a => .norm [(.bool a)] b) b fun b f => cB (.bool e) fun e => ap (sel e (.bool true) b) fun b => ap (gsel b false d) fun e => ap (gsel b false a) fun g => gj b false (nck g fun a => .norm [a] f) f fun f g => gj b false (fa 1 f fun a => .norm [a] g) g fun f g => gj b false (ld1 g f fun a => .norm [a] g) g fun f g => gj b false (lenL f fun a => .norm [a] g) g fun f g => gj b false (iSub (I 2048) f fun a => .norm [a] g) g fun f g => gj b false (ltN f e fun a => .ask (beqB a false) (.norm [(.bool false)] g)) g fun e f => cB b fun b => ap (sel b (.bool true) e) fun b => cB b fun b => ifB b (cK (I 0) fun a => .ret a f) (nl 1 f a fun b => lenL b fun b => nl 1 f a fun e => apdZN f 1 8 (.cons (.int 64 (.ofNat 0)) .nil) e d fun d e => na 1 a fun f => st1 e f d fun d => nl 1 d a fun e => iConv 64 c fun c => ixA 1 e b fun e => st1 d e c fun c => nl 2 c a fun d => bld [(false, 1, b)] fun e => mkS c 1 1 e fun c e => apd e 1 8 d c fun c d => na 2 a fun a => st1 d a c fun a => iAdd b (I 1) fun b => cK b fun b => .ret b a))
def g75k2 : Hint := (.s .z (.s (.s .z (.s (.s .z .z) .z)) (.s .z (.s .z (.s .z (.s .z (.s .z .z)))))))
theorem e75k2 : b75k2 = denF Tryz.prog (gam [(1000000000, fun _ _ => .fail), (2000000030, fun _ _ => .fail)]) Tryz.f75 g75k2 := by kernel_rfl
def s75k2 (k : Nat) : Fun := b75k2
theorem F75k2 (k : Nat) : Snd Tryz.prog 75 (s75k2 k) := snd_of hmix (gconsE efail (gconsE efail gnil)) Tryz.func75 (by kernel_rfl) (by kernel_rfl) (e75k2)


/-- obelisk/layout.Array (known 2) -/
def b285k2 (s286 : Fun) : Fun := fun a b => uc a fun a c => uc c fun c d => uz d (cl (s286 [a] b) fun a b => eqN a (I 0) fun d => ap (gsel (.bool d) false c) fun e => gj (.bool d) false (ltN e (I 0) fun a => .ask (beqB a false) (.norm [(.bool false)] b)) b fun b e => cB (.bool d) fun d => ap (sel d (.bool true) b) fun b => ap (gsel b false c) fun d => gj b false (ltN (I 2147483647) d fun a => .ask (beqB a false) (.norm [(.bool false)] e)) e fun d e => cB b fun b => ap (sel b (.bool true) d) fun b => cB b fun b => ifB b (.fail) (iMul c a fun a => iAdd a (I 8) fun a => iSub a (I 1) fun a => iQuo a (I 8) fun a => iAdd (I 3) a fun a => cK a fun a => .ret a e))
def g285k2 : Hint := (.s .z (.s .z (.s (.s .z (.s .z .z)) (.s .z .z))))
theorem e285k2 (s286 : Fun) : b285k2 s286 = denF Tryz.prog (gam [(286, s286), (2000000022, fun _ _ => .fail), (2000000030, fun _ _ => .fail)]) Tryz.f285 g285k2 := by kernel_rfl
def s285k2 (k : Nat) : Fun := b285k2 s286
theorem F285k2 (k : Nat) : Snd Tryz.prog 285 (s285k2 k) := snd_of hmix (gcons F286 (gconsE efail (gconsE efail gnil))) Tryz.func285 (by kernel_rfl) (by kernel_rfl) (e285k2 s286)


/-- (*obelisk/heap.Heap).Array (known 2) -/
def b400k2 (s74 s75 s135 s136 s137 s285 : Fun) : Fun := fun a b => uc a fun a c => uc c fun c d => uc d fun d e => uz e (cl (s135 [c] b) fun b e => cT b fun f => cK (nth f 0) fun f => cT b fun b => cK (nth b 1) fun b => mk e (.cons (J 0) (.cons (.str 0 0) (.cons (I 0) (.cons (J 0) .nil)))) fun e g => stN g 4 e f fun f => ldN f 4 e fun e => cl (s137 [e] f) fun e f => cl (s136 [e] f) fun e f => cl (s285 [e, d] f) fun e f => eqP a .nilp fun g => ap (gsel (.bool g) false b) fun b => gj (.bool g) false (bNot b fun a => .norm [a] f) f fun b f => cB (.bool g) fun g => ap (sel g (.bool true) b) fun b => ap (gsel b false e) fun g => gj b false (ltN g (I 0) fun a => .ask (beqB a false) (.norm [(.bool false)] f)) f fun f g => cB b fun b => ap (sel b (.bool true) f) fun b => cB b fun b => ifB b (.fail) (cl (s74 [a, c] g) fun b c => cl (s75 [a, b, e] c) fun b c => jn (ltN (I 0) b fun e => ifB e (nl 1 c a fun a => iAdd b (I 1) fun e => iConv 64 d fun d => ixA 1 a e fun a => st1 c a d fun a => .norm [b] a) (.norm [b] c)) fun a b => uc a fun a _ => cK a fun a => .ret a b))
def g400k2 : Hint := (.s .z (.s .z (.s .z (.s (.s .z (.s .z .z)) (.s .z (.j [10] (.s .z (.s .z .z)) (.s .z .z)))))))
theorem e400k2 (s74 s75 s135 s136 s137 s285 : Fun) : b400k2 s74 s75 s135 s136 s137 s285 = denF Tryz.prog (gam [(74, s74), (75, s75), (135, s135), (136, s136), (137, s137), (285, s285), (2000000056, fun _ _ => .fail)]) Tryz.f400 g400k2 := by kernel_rfl
def s400k2 (k : Nat) : Fun := b400k2 s74 (sub3 (Int.ofNat (Nat.add k 3)) (s75k2 k)) s135 s136 s137 (s285k2 k)
theorem F400k2 (k : Nat) : Snd Tryz.prog 400 (s400k2 k) := snd_of hmix (gcons F74 (gcons (⟨sub3_sound _ (F75k2 k).1, (F75k2 k).2⟩ : Snd Tryz.prog 75 (sub3 (Int.ofNat (Nat.add k 3)) (s75k2 k))) (gcons F135 (gcons F136 (gcons F137 (gcons (F285k2 k) (gconsE efail gnil))))))) Tryz.func400 (by kernel_rfl) (by kernel_rfl) (e400k2 s74 (sub3 (Int.ofNat (Nat.add k 3)) (s75k2 k)) s135 s136 s137 (s285k2 k))


/-- (*obelisk/interp.Machine).array$1 (known 2) -/
def s399k2 (k : Nat) : Fun := b399 (s400k2 k)
theorem F399k2 (k : Nat) : Snd Tryz.prog 399 (s399k2 k) := snd_of hmix (gcons (F400k2 k) gnil) Tryz.func399 (by kernel_rfl) (by kernel_rfl) (e399 (s400k2 k))


/-- (*obelisk/interp.Machine).make (known 2) -/
def s242k2 (k : Nat) : Fun := b242 s63 s243 (s399k2 k)
theorem F242k2 (k : Nat) : Snd Tryz.prog 242 (s242k2 k) := snd_of hmix (gcons F63 (gcons F243 (gcons (F399k2 k) gnil))) Tryz.func242 (by kernel_rfl) (by kernel_rfl) (e242 s63 s243 (s399k2 k))


/-- (*obelisk/interp.Machine).raise (known 2) -/
def s156k2 (k : Nat) : Fun := b156 (s242k2 k)
theorem F156k2 (k : Nat) : Snd Tryz.prog 156 (s156k2 k) := snd_of hmix (gcons (F242k2 k) gnil) Tryz.func156 (by kernel_rfl) (by kernel_rfl) (e156 (s242k2 k))


/-- (*obelisk/interp.Machine).proceed (known 2) -/
def s159k2 (k : Nat) : Fun := b159 (s156k2 k) s160 s246 s247
theorem F159k2 (k : Nat) : Snd Tryz.prog 159 (s159k2 k) := snd_of hmix (gcons (F156k2 k) (gcons F160 (gcons F246 (gcons F247 gnil)))) Tryz.func159 (by kernel_rfl) (by kernel_rfl) (e159 (s156k2 k) s160 s246 s247)


/-- (*obelisk/interp.Machine).start (known 2) -/
def s86k2 (k : Nat) : Fun := b86 s57 s84 s155 (s156k2 k) s157 (s159k2 k)
theorem F86k2 (k : Nat) : Snd Tryz.prog 86 (s86k2 k) := snd_of hmix (gcons F57 (gcons F84 (gcons F155 (gcons (F156k2 k) (gcons F157 (gcons (F159k2 k) gnil)))))) Tryz.func86 (by kernel_rfl) (by kernel_rfl) (e86 s57 s84 s155 (s156k2 k) s157 (s159k2 k))


/-- (*obelisk/interp.Machine).Begin (known 2) -/
def s59k2 (k : Nat) : Fun := b59 s57 s62 s82 s83 s84 s85 (s86k2 k) s87 s88
theorem F59k2 (k : Nat) : Snd Tryz.prog 59 (s59k2 k) := snd_of hmix (gcons F57 (gcons F62 (gcons F82 (gcons F83 (gcons F84 (gcons F85 (gcons (F86k2 k) (gcons F87 (gcons F88 gnil))))))))) Tryz.func59 (by kernel_rfl) (by kernel_rfl) (e59 s57 s62 s82 s83 s84 s85 (s86k2 k) s87 s88)


/-- (*obelisk/interp.Machine).made (known 2) -/
def s397k2 (k : Nat) : Fun := b397 (s156k2 k) s165 s167 (s242k2 k) s259
theorem F397k2 (k : Nat) : Snd Tryz.prog 397 (s397k2 k) := snd_of hmix (gcons (F156k2 k) (gcons F165 (gcons F167 (gcons (F242k2 k) (gcons F259 gnil))))) Tryz.func397 (by kernel_rfl) (by kernel_rfl) (e397 (s156k2 k) s165 s167 (s242k2 k) s259)


/-- (*obelisk/interp.Machine).array (known 2) -/
def b343k2 (s156 s325 s397 : Fun) : Fun := fun a b => uc a fun a c => uc c fun c d => uc d fun d e => uz e (mk b (cells a) fun a b => mk b (cells d) fun b d => ld1 d a fun e => cl (s325 [e, (I 0)] d) fun d e => mk e (.cons (I 0) .nil) fun e f => st1 f e d fun d => ld1 d e fun f => ltN f (I 0) fun f => .ask (beqB f false) (ifB false (ld1 d a fun a => cl (s156 [a, (I 19)] d) fun _ a => .ret (.tup .nil) a) (ld1 d a fun f => cl (s397 [f, c, (I 1), (.fn (.func 399) .nil (.cons a (.cons b (.cons e .nil))))] d) fun _ a => .ret (.tup .nil) a)))
def g343k2 : Hint := (.s .z (.s .z (.s (.s .z (.s (.s .z .z) .z)) .z)))
theorem e343k2 (s156 s325 s397 : Fun) : b343k2 s156 s325 s397 = denF Tryz.prog (gam [(156, s156), (325, s325), (397, s397), (2000000018, fun _ _ => .fail)]) Tryz.f343 g343k2 := by kernel_rfl
def s343k2 (k : Nat) : Fun := b343k2 (s156k2 k) s325 (s397k2 k)
theorem F343k2 (k : Nat) : Snd Tryz.prog 343 (s343k2 k) := snd_of hmix (gcons (F156k2 k) (gcons F325 (gcons (F397k2 k) (gconsE efail gnil)))) Tryz.func343 (by kernel_rfl) (by kernel_rfl) (e343k2 (s156k2 k) s325 (s397k2 k))


/-- (*obelisk/interp.Machine).length (known 2) -/
def s347k2 (k : Nat) : Fun := b347 (s156k2 k) s165 s167 s176 s259 s325
theorem F347k2 (k : Nat) : Snd Tryz.prog 347 (s347k2 k) := snd_of hmix (gcons (F156k2 k) (gcons F165 (gcons F167 (gcons F176 (gcons F259 (gcons F325 gnil)))))) Tryz.func347 (by kernel_rfl) (by kernel_rfl) (e347 (s156k2 k) s165 s167 s176 s259 s325)


/-- (*obelisk/interp.Machine).object (known 2) -/
def s268k2 (k : Nat) : Fun := b268 (s156k2 k) s252 s325 (s343k2 k) (s347k2 k)
theorem F268k2 (k : Nat) : Snd Tryz.prog 268 (s268k2 k) := snd_of hmix (gcons (F156k2 k) (gcons F252 (gcons F325 (gcons (F343k2 k) (gcons (F347k2 k) gnil))))) Tryz.func268 (by kernel_rfl) (by kernel_rfl) (e268 (s156k2 k) s252 s325 (s343k2 k) (s347k2 k))


/-- (*obelisk/interp.Machine).exec (known 2) -/
def s172k2 (k : Nat) : Fun := b172 s161 s257 s258 s259 s263 s265 (s268k2 k)
theorem F172k2 (k : Nat) : Snd Tryz.prog 172 (s172k2 k) := snd_of hmix (gcons F161 (gcons F257 (gcons F258 (gcons F259 (gcons F263 (gcons F265 (gcons (F268k2 k) gnil))))))) Tryz.func172 (by kernel_rfl) (by kernel_rfl) (e172 s161 s257 s258 s259 s263 s265 (s268k2 k))


/-- (*obelisk/interp.Machine).play (known 2) -/
def s90k2 (k : Nat) : Fun := b90 s170 s171 (s172k2 k)
theorem F90k2 (k : Nat) : Snd Tryz.prog 90 (s90k2 k) := snd_of hmix (gcons F170 (gcons F171 (gcons (F172k2 k) gnil))) Tryz.func90 (by kernel_rfl) (by kernel_rfl) (e90 s170 s171 (s172k2 k))


/-- (*obelisk/interp.Machine).Step (known 2) -/
def s60k2 (k : Nat) : Fun := b60 s82 s88 s89 (s90k2 k)
theorem F60k2 (k : Nat) : Snd Tryz.prog 60 (s60k2 k) := snd_of hmix (gcons F82 (gcons F88 (gcons F89 (gcons (F90k2 k) gnil)))) Tryz.func60 (by kernel_rfl) (by kernel_rfl) (e60 s82 s88 s89 (s90k2 k))


/-- (*obelisk/interp.Machine).Run (known 2) -/
def s44k2 (k : Nat) : Fun := b44 (s59k2 k) (s60k2 k) s61
theorem F44k2 (k : Nat) : Snd Tryz.prog 44 (s44k2 k) := snd_of hmix (gcons (F59k2 k) (gcons (F60k2 k) (gcons F61 gnil))) Tryz.func44 (by kernel_rfl) (by kernel_rfl) (e44 (s59k2 k) (s60k2 k) s61)


/-- (*obelisk/tower.Tower).Step (known 2) -/
def s36k2 (k : Nat) : Fun := b36 s43 (s44k2 k) s45 s46 s47
theorem F36k2 (k : Nat) : Snd Tryz.prog 36 (s36k2 k) := snd_of hmix (gcons F43 (gcons (F44k2 k) (gcons F45 (gcons F46 (gcons F47 gnil))))) Tryz.func36 (by kernel_rfl) (by kernel_rfl) (e36 s43 (s44k2 k) s45 s46 s47)


/-- obelisk/obelisktop.towered (known 2) -/
def s20k2 (k : Nat) : Fun := b20 s35 (s36k2 k) s37
theorem F20k2 (k : Nat) : Snd Tryz.prog 20 (s20k2 k) := snd_of hmix (gcons F35 (gcons (F36k2 k) (gcons F37 gnil))) Tryz.func20 (by kernel_rfl) (by kernel_rfl) (e20 s35 (s36k2 k) s37)


/-- (*obelisk/obelisktop.T).run (known 2) -/
def s22k2 (k : Nat) : Fun := b22 (s36k2 k)
theorem F22k2 (k : Nat) : Snd Tryz.prog 22 (s22k2 k) := snd_of hmix (gcons (F36k2 k) gnil) Tryz.func22 (by kernel_rfl) (by kernel_rfl) (e22 (s36k2 k))


/-- obelisk/obelisktop.TopSizes (known 2) -/
def b4k2 (s8 s16 s19 s20 s21 s22 s23 : Fun) : Fun := fun a b => uc a fun a c => uz c (cl (s8 [] b) fun b c => bNot b fun d => cB d fun d => ifB d (.fail) (cl (s19 [] c) fun c d => bld [(false, 1, (J 26)), (false, 1, (J 188)), (false, 1, (J 11)), (false, 1, (J 190)), (false, 1, (J 172))] fun e => mkS d 1 5 e fun d e => cl (s16 [c, (I 9), (.str 2 28519), (.str 4 1227442472), (I 1), (I 1), d, .nils, .nils] e) fun _ d => bld [(false, 1, c)] fun c => mkS d 1 1 c fun c d => cl (s20 [c] d) fun c d => iConv 31 a fun e => iConv 63 e fun e => bld [(false, 1, a)] fun a => mkS d 1 1 a fun a d => cl (s22 [c, (.str 2 28519), (I 10), a] d) fun a d => mk d (.cons (I 0) (.cons (I 0) (.cons (J 0) (.cons (I 0) (.cons (.str 0 0) (.cons (.str 0 0) (.cons (.bool false) (.cons (I 0) (.cons .nils (.cons (I 0) (.cons (I 0) .nil))))))))))) fun d f => stN f 11 d a fun a => blk 0 (ltN e (I 0) fun f => .ask (beqB f false) (ifB false (ap (gsel b true c) fun c => gj b true (nck c fun b => .norm [b] a) a fun a c => gj b true (fa 1 a fun a => .norm [a] c) c fun a c => gj b true (ld1 c a fun a => .norm [a] c) c fun a c => cB b fun b => ap (sel b a (.bool false)) fun a => gj a true (ldN c 11 d fun a => .norm [a] c) c fun b c => gj a true (cl (s23 [b, (.str 26 177462528906270532328520951914837980838566069556787747611960654)] c) fun a b => .norm [a] b) c fun b c => cB a fun a => ap (sel a b (.bool false)) fun a => cK a fun a => .ret a c) (iAdd e (I 3) fun f => ltN (I 2040) f fun f => .ask (beqB f false) (ifB false (ap (gsel b true c) fun c => gj b true (nck c fun b => .norm [b] a) a fun a c => gj b true (fa 1 a fun a => .norm [a] c) c fun a c => gj b true (ld1 c a fun a => .norm [a] c) c fun a c => cB b fun b => ap (sel b a (.bool false)) fun a => gj a true (ldN c 11 d fun a => .norm [a] c) c fun b c => gj a true (cl (s23 [b, (.str 16 152110657718984404401460316633220543823)] c) fun a b => .norm [a] b) c fun b c => cB a fun a => ap (sel a b (.bool false)) fun a => cK a fun a => .ret a c) (.norm [b, c, e, d] a))))) fun a b => uc a fun a c => uc c fun c d => uc d fun d e => uc e fun e _ => ap (gsel a true c) fun c => gj a true (nck c fun a => .norm [a] b) b fun b c => gj a true (fa 1 b fun a => .norm [a] c) c fun b c => gj a true (ld1 c b fun a => .norm [a] c) c fun b c => cB a fun a => ap (sel a b (.bool false)) fun a => gj a true (ldN c 11 e fun a => .norm [a] c) c fun b c => ap (gsel a true d) fun d => gj a true (cl (s21 [b, d] c) fun a b => .norm [a] b) c fun b c => cB a fun a => ap (sel a b (.bool false)) fun a => cK a fun a => .ret a c))
def g4k2 : Hint := (.s .z (.s .z (.s (.s .z (.s .z .z)) (.s .z (.s .z (.s .z (.s .z (.s .z (.s (.b [3, 5, 6, 7] (.s .z (.s (.s .z .z) (.s .z (.s (.s .z .z) .z))))) (.s .z .z))))))))))
theorem e4k2 (s8 s16 s19 s20 s21 s22 s23 : Fun) : b4k2 s8 s16 s19 s20 s21 s22 s23 = denF Tryz.prog (gam [(8, s8), (16, s16), (19, s19), (20, s20), (21, s21), (22, s22), (23, s23), (2000000052, fun _ _ => .fail), (2000000082, fun _ _ => .fail)]) Tryz.f4 g4k2 := by kernel_rfl
def s4k2 (k : Nat) : Fun := b4k2 s8 s16 s19 (s20k2 k) (askB s21) (s22k2 k) s23
theorem F4k2 (k : Nat) : Snd Tryz.prog 4 (s4k2 k) := snd_of hmix (gcons F8 (gcons F16 (gcons F19 (gcons (F20k2 k) (gcons (⟨askB_sound F21.1, F21.2⟩ : Snd Tryz.prog 21 (askB s21)) (gcons (F22k2 k) (gcons F23 (gconsE efail (gconsE efail gnil))))))))) Tryz.func4 (by kernel_rfl) (by kernel_rfl) (e4k2 s8 s16 s19 (s20k2 k) (askB s21) (s22k2 k) s23)

end
end Go.Proofs.YtbkkfmjofmfijaaGreatDoor
