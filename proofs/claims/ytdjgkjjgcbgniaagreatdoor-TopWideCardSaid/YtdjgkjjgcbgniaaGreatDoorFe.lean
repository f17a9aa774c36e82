/-
  What functions of the program compute, in the abstract machine's words (printed by gen.lean): each is what its text denotes.
-/
import Derived.Test.YtdjgkjjgcbgniaaGreatDoorFd
set_option linter.unusedVariables false
set_option linter.unusedSimpArgs false
namespace Go.Proofs.YtdjgkjjgcbgniaaGreatDoor
open Go Go.AM
set_option autoImplicit false
set_option maxRecDepth 100000
set_option linter.unusedVariables false
noncomputable section
/-- obelisk/obelisktop.small -/
def b16 : Fun := fun a b => uc a fun a c => uc c fun c d => uz d (iRem a c fun a => jn (ltN a (I 0) fun c => ifB c (iNeg a fun a => .norm [a] b) (.norm [a] b)) fun a b => uc a fun a _ => cK a fun a => .ret a b)
def g16 : Hint := (.s .z (.s .z (.j [0] (.s .z (.s .z .z)) (.s .z .z))))
theorem e16 : b16 = denF Tryz.prog (gam []) Tryz.f16 g16 := by kernel_rfl
def s16 : Fun := b16
theorem F16 : Snd Tryz.prog 16 s16 := snd_of hmix gnil Tryz.func16 (by kernel_rfl) (by kernel_rfl) (e16)

/-- obelisk/obelisktop.TopWide -/
def b4R0 (s10 s11 s12 s13 s15 : Fun) (a : AV) (b : AV) (c : AV) (d : AV) (e : Hp) : Res := iAdd (I 1) d fun d => iRem a (I 100000) fun a => iRem b (I 30000) fun b => cl (s10 [] e) fun e f => iShr d (.int 64 (.ofNat 8)) fun g => iConv 8 g fun g => iConv 8 d fun d => iShr b (.int 64 (.ofNat 8)) fun h => iConv 8 h fun h => iConv 8 b fun i => bld [(false, 1, (J 26)), (false, 1, (J 196)), (false, 1, (J 54)), (false, 1, g), (false, 1, d), (false, 1, (J 196)), (false, 1, (J 132)), (false, 1, g), (false, 1, d), (false, 1, h), (false, 1, i), (false, 1, (J 196)), (false, 1, (J 21)), (false, 1, g), (false, 1, d), (false, 1, (J 172))] fun d => mkS f 1 16 d fun d f => cl (s11 [e, (I 9), (.str 2 28519), (.str 4 1227442472), (I 1), (I 300), d, .nils, .nils] f) fun _ d => bld [(false, 1, e)] fun e => mkS d 1 1 e fun d e => cl (s12 [d] e) fun d e => ap (gsel c true d) fun f => gj c true (nck f fun a => .norm [a] e) e fun e f => gj c true (fa 1 e fun a => .norm [a] f) f fun e f => gj c true (ld1 f e fun a => .norm [a] f) f fun e f => cB c fun c => ap (sel c e (.bool false)) fun c => ap (gsel c true d) fun d => ap (gsel c true a) fun e => gj c true (bld [(false, 1, e)] fun a => mkS f 1 1 a fun a b => .norm [a] b) f fun e f => gj c true (cl (s13 [d, (.str 2 28519), (I 10), e] f) fun a b => .norm [a] b) f fun d e => ap (gsel c true a) fun a => ap (gsel c true b) fun b => gj c true (iAdd a b fun a => .norm [a] e) e fun a b => gj c true (cl (s15 [d, a] b) fun a b => .norm [a] b) b fun a b => cB c fun c => ap (sel c a (.bool false)) fun a => cK a fun a => .ret a b
def b4 (s9 s10 s11 s12 s13 s15 s16 : Fun) : Fun := fun a b => uc a fun a c => uc c fun c d => uc d fun d e => uz e (cl (s9 [] b) fun b e => bNot b fun f => cB f fun f => ifB f (.fail) (cl (s16 [a, (I 298)] e) fun a e => b4R0 s10 s11 s12 s13 s15 c d b a e))
def g4 : Hint := (.s .z (.s .z (.s (.s .z (.s .z .z)) (.s .z (.s .z (.s .z (.s .z (.s .z (.s .z (.s .z .z))))))))))
theorem e4 (s9 s10 s11 s12 s13 s15 s16 : Fun) : b4 s9 s10 s11 s12 s13 s15 s16 = denF Tryz.prog (gam [(9, s9), (10, s10), (11, s11), (12, s12), (13, s13), (15, s15), (16, s16)]) Tryz.f4 g4 := by kernel_rfl
def s4 : Fun := b4 s9 s10 s11 s12 s13 s15 s16
theorem F4 : Snd Tryz.prog 4 s4 := snd_of hmix (gcons F9 (gcons F10 (gcons F11 (gcons F12 (gcons F13 (gcons F15 (gcons F16 gnil))))))) Tryz.func4 (by kernel_rfl) (by kernel_rfl) (e4 s9 s10 s11 s12 s13 s15 s16)
end
end Go.Proofs.YtdjgkjjgcbgniaaGreatDoor
