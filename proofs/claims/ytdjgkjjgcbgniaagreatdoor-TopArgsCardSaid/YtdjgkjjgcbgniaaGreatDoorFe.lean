/-
  What functions of the program compute, in the abstract machine's words (printed by gen.lean): each is what its text denotes.
-/
import Derived.Test.YtdjgkjjgcbgniaaGreatDoorFd
set_option linter.unusedVariables false
set_option linter.unusedSimpArgs false
namespace Go.AM
open Go Go.RowKit
theorem repF_sound_at {P : Program} {f : FuncId} {gm : Nat} (h0 : P.globalNamed "internal/bytealg.MaxLen" = some gm)
    (hc : ∀ (s old new : ByteArray) (m : Int) (w : World), s.size < 4294967281 → w.cell? ⟨gm, 0, none⟩ = some (.int .i64 m) → 1 ≤ old.size → s.size + Lib.countB s old * new.size ≤ 140737488355328 →
      Calls P f #[.string s, .string old, .string new] w fun e w' => e = .returned (.string ⟨(Lib.replaceAll s.data.toList old.data.toList new.data.toList).toArray⟩) ∧ Below w.heap.size w w') : FSound P f repF := by
  intro N0 hN ρ h w args Args v h' e hi ha
  cases ha' : Args.toList with
  | nil => rw [ha'] at ha; cases ha; cases e
  | cons A L =>
    rw [ha'] at ha
    cases ha with
    | @cons a _ _ _ hA hL =>
      cases hL with
      | nil => cases e
      | @cons b _ _ _ hB hL2 =>
        cases hL2 with
        | nil => cases e
        | @cons c _ _ _ hC hL3 =>
          cases hL3 with
          | cons hD hL4 => cases e
          | nil =>
            have e : (cS a fun n x => cS b fun no xo => cS c fun nz xz => ifB (Nat.blt n 1000000) (ifB (Nat.beq no 1) (ifB (Nat.beq nz 1) (.ret (.str n (packB (rep1 (UInt8.ofNat xo) (UInt8.ofNat xz) (unp n x)))) h) .fail) .fail) .fail) = .ret v h' := e
            obtain ⟨n, x, rfl, e1⟩ := cS_inv e (by simp)
            obtain ⟨no, xo, rfl, e2⟩ := cS_inv e1 (by simp)
            obtain ⟨nz, xz, rfl, e3⟩ := cS_inv e2 (by simp)
            obtain ⟨g1, e4⟩ := ifF_inv e3 (by simp)
            obtain ⟨g2, e5⟩ := ifF_inv e4 (by simp)
            obtain ⟨g3, e6⟩ := ifF_inv e5 (by simp)
            rw [blt_iff] at g1
            rw [beq_iff] at g2 g3
            obtain ⟨s, rfl, rfl, rfl⟩ := hA
            obtain ⟨o, rfl, rfl, rfl⟩ := hB
            obtain ⟨z, rfl, rfl, rfl⟩ := hC
            cases e6
            have hg : N0.g = some gm := hN.trans h0
            obtain ⟨-, m, hm⟩ := hi.jj gm hg
            have hAr : Args = #[.string s, .string o, .string z] := Array.toList_inj.1 ha'
            rw [hAr]
            have hcnt : Lib.countB s o ≤ s.size := by
              unfold Lib.countB
              rw [one_byte o g2, Lib.count_one]
              exact Nat.le_trans List.count_le_length (by simp)
            have hz : z.size = 1 := g3
            have hs : s.size < 1000000 := g1
            refine Calls.mono (hc s o z m w (by omega) hm (by show 1 ≤ o.data.size; omega) (by rw [hz]; omega)) ?_
            rintro e w' ⟨rfl, hb⟩
            refine ⟨_, ρ, rfl, ?_, hi.below hb, Tr.below ρ _ hb⟩
            refine ⟨_, rfl, ?_, ?_⟩
            · rw [one_byte o g2, one_byte z g3, replaceAll_one]
              simp [rep1]
            · have hu := unp_pack s.data.toList
              rw [Array.length_toList] at hu
              have ho := one_byte o g2
              have hz' := one_byte z g3
              generalize hob : UInt8.ofNat (packB o.data.toList) = ob at ho ⊢
              generalize hzb : UInt8.ofNat (packB z.data.toList) = zb at hz' ⊢
              rw [ho, hz', replaceAll_one, hu]
end Go.AM
namespace Go.Proofs.YtdjgkjjgcbgniaaGreatDoor
open Go Go.AM
set_option autoImplicit false
set_option maxRecDepth 100000
set_option linter.unusedVariables false
noncomputable section
/-- (*obelisk/interp.Machine).collect -/
def L61n0 (s90 s91 s92 s94 s95 s96 s97 s173 s177 s301 : Fun) : List AV → Hp → Res := fun a b => uc a fun a c => uc c fun c d => uc d fun d e => uc e fun e f => uc f fun f g => uc g fun g _ => ltN g f fun h => ifB h (blk 1 (ixA 1 e g fun h => ld1 b h fun h => na 9 a fun i => ld1 b i fun j => ld1 b d fun k => cl (dyn (gam [(90, s90), (91, s91), (92, s92), (94, s94), (95, s95), (96, s96), (97, s97), (173, s173), (177, s177), (301, s301)]) k [h] b) fun b h => ld1 h i fun i => same j i (ixA 1 j g fun i => st1 h i b fun b => .norm [a, c, d, e, f, g] b)) fun a b => uc a fun a c => uc c fun c d => uc d fun d e => uc e fun e f => uc f fun f g => uc g fun g _ => iAdd g (I 1) fun g => .norm [a, c, d, e, f, g] b) (.exit 0 [a, c, d] b)
def b61 (s90 s91 s92 s94 s95 s96 s97 s173 s177 s301 : Fun) : Fun := fun a b => uc a fun a c => uz c (nm (.norm [a] b) fun c _ => nm (nck c fun a => .norm [a] b) fun c _ => nm (fa 5 c fun a => .norm [a] b) fun c _ => nm (ld1 b c fun a => .norm [a] b) fun d _ => nm (.norm [a] b) fun e _ => nm (nck e fun a => .norm [a] b) fun e _ => nm (fa 3 e fun a => .norm [a] b) fun e _ => nm (ld1 b e fun a => .norm [a] b) fun f _ => nm (.norm [(.cons .nils .nil)] b) fun g _ => lay g .e 0 fun g h => ifB true (rsv b fun b i => nm (ld1 i e fun a => .norm [a] i) fun j _ => same f j (nm (ld1 i c fun a => .norm [a] i) fun c _ => same d c (nm (cl (s90 [d] i) fun a b => .norm [a] b) fun c d => nm (ld1 d e fun a => .norm [a] d) fun e _ => same f e (nm (cl (s91 [f] d) fun a b => .norm [a] b) fun d e => nm (apd e 1 8 c d fun a b => .norm [a] b) fun c d => dueK d b h g fun d => nm (st1 d (.ptr b 0) c fun a => .norm [(.tup .nil)] a) fun _ c => ld1 c (.ptr b 0) fun d => nl 9 c a fun e => apd c 1 8 d e fun c d => st1 d (.ptr b 0) c fun c => ld1 c (.ptr b 0) fun d => nl 10 c a fun e => nl 11 c a fun f => nl 12 c a fun g => nl 13 c a fun h => bld [(false, 1, e), (false, 1, f), (false, 1, g), (false, 1, h)] fun e => mkS c 1 4 e fun c e => ld1 e (.ptr b 0) fun f => same d f (apd e 1 8 d c fun c d => st1 d (.ptr b 0) c fun c => cl (s92 [a, (.fn (.func 93) .nil (.cons (.ptr b 0) .nil))] c) fun _ c => nm (.norm [a] c) fun d _ => nm (nck d fun a => .norm [a] c) fun d _ => nm (fa 2 d fun a => .norm [a] c) fun d _ => nm (ld1 c d fun a => .norm [a] c) fun e _ => nm (ld1 c (.ptr b 0) fun a => .norm [a] c) fun f _ => nm (.norm [(.cons .nilm .nil)] c) fun g _ => lay g .e 0 fun g h => ifB true (rsv c fun c i => nm (ld1 i (.ptr b 0) fun a => .norm [a] i) fun b _ => same f b (nm (ld1 i d fun a => .norm [a] i) fun b _ => same e b (nm (cl (s94 [e, f] i) fun a b => .norm [a] b) fun b d => nm (.norm [b] d) fun b _ => nm (cT b fun a => cK (nth a 0) fun a => .norm [a] d) fun e _ => nm (cT b fun a => cK (nth a 1) fun a => .norm [a] d) fun b _ => dueK d c h g fun d => nm (st1 d (.ptr c 0) e fun a => .norm [(.tup .nil)] a) fun _ d => nm (.norm [b] d) fun b _ => mk d (.cons .nilf .nil) fun d e => st1 e d (.fn (.func 95) .nil (.cons (.ptr c 0) .nil)) fun e => nl 5 e a fun f => ld1 e (.ptr c 0) fun g => cl (s96 [f, g] e) fun _ e => nl 3 e a fun f => ld1 e (.ptr c 0) fun c => cl (s97 [f, c] e) fun _ c => cl (s92 [a, (.fn (.func 98) .nil (.cons d .nil))] c) fun _ c => nl 9 c a fun e => lenL e fun f => blk 0 (lp (L61n0 s90 s91 s92 s94 s95 s96 s97 s173 s177 s301) most [a, b, d, e, f, (I 0)] c) fun a b => uc a fun a c => uc c fun c d => uc d fun d _ => ld1 b d fun e => nl 10 b a fun f => ld1 b d fun g => na 11 a fun h => ld1 b h fun i => ld1 b d fun j => na 12 a fun k => ld1 b k fun l => ld1 b d fun m => na 13 a fun n => ld1 b n fun o => cl (dyn (gam [(90, s90), (91, s91), (92, s92), (94, s94), (95, s95), (96, s96), (97, s97), (173, s173), (177, s177), (301, s301)]) e [f] b) fun b e => ld1 e n fun f => same o f (ld1 e d fun f => same m f (ld1 e k fun f => same l f (ld1 e d fun f => same j f (ld1 e h fun f => same i f (ld1 e d fun f => same g f (cl (dyn (gam [(90, s90), (91, s91), (92, s92), (94, s94), (95, s95), (96, s96), (97, s97), (173, s173), (177, s177), (301, s301)]) g [i] e) fun e f => ld1 f n fun g => same o g (ld1 f d fun g => same m g (ld1 f k fun g => same l g (ld1 f d fun g => same j g (cl (dyn (gam [(90, s90), (91, s91), (92, s92), (94, s94), (95, s95), (96, s96), (97, s97), (173, s173), (177, s177), (301, s301)]) j [l] f) fun f g => ld1 g n fun h => same o h (ld1 g d fun d => same m d (cl (dyn (gam [(90, s90), (91, s91), (92, s92), (94, s94), (95, s95), (96, s96), (97, s97), (173, s173), (177, s177), (301, s301)]) m [o] g) fun d g => na 10 a fun h => st1 g h b fun b => na 11 a fun g => st1 b g e fun b => na 12 a fun e => st1 b e f fun b => na 13 a fun a => st1 b a d fun a => cK c fun b => .ret b a))))))))))))))) .fail))))) .fail)
def g61 : Hint := (.s .z (.s (.f [(0, 0), (0, 1), (0, 2), (0, 3), (0, 5), (0, 6), (0, 7), (0, 8), (1, 11), (0, 4), (0, 9), (0, 10), (2, 11), (0, 12)]) (.s (.r [0, 1, 2, 3, 4, 5, 6]) (.s (.r [0, 1, 2, 3, 4, 5, 6, 7, 8, 9, 10, 11, 12, 13, 14, 15, 16, 17, 18, 19]) (.s .z (.s (.f [(0, 0), (0, 1), (0, 2), (0, 3), (0, 4), (1, 9), (0, 5), (0, 6), (0, 7), (0, 8), (2, 9), (0, 10), (0, 11)]) (.s .z (.s (.r [0, 1, 2, 3, 4, 5]) (.s (.r [0, 1, 2, 3, 4, 5]) (.s .z (.s (.s .z (.b [0, 5, 6] (.l [0, 5, 6, 76, 77, 78] (.s .z (.s (.s .z .z) (.s (.b [0, 5, 6, 76, 77, 78] (.s .z (.r [0, 1, 2, 3, 4, 5, 6, 7, 8, 9]))) .z)))))) (.s (.r [0, 1, 2, 3, 4, 5, 6, 7, 8, 10, 11, 12, 13, 14, 16, 17, 18, 19, 20, 22, 23, 24, 25, 26, 9, 15, 21, 27, 28, 29, 30, 31, 32, 33, 34, 35, 36, 37, 38, 39]) (.s .z .z)))))))))))))
theorem e61 (s90 s91 s92 s94 s95 s96 s97 s173 s177 s301 : Fun) : b61 s90 s91 s92 s94 s95 s96 s97 s173 s177 s301 = denF Tryz.prog (gam [(90, s90), (91, s91), (92, s92), (94, s94), (95, s95), (96, s96), (97, s97), (173, s173), (177, s177), (301, s301)]) Tryz.f61 g61 := by kernel_rfl
def s61 : Fun := b61 s90 s91 s92 s94 s95 s96 s97 s173 s177 s301
theorem F61 : Snd Tryz.prog 61 s61 := snd_of hmix (gcons F90 (gcons F91 (gcons F92 (gcons F94 (gcons F95 (gcons F96 (gcons F97 (gcons F173 (gcons F177 (gcons F301 gnil)))))))))) Tryz.func61 (by kernel_rfl) (by kernel_rfl) (e61 s90 s91 s92 s94 s95 s96 s97 s173 s177 s301)

/-- (*obelisk/interp.Machine).raise$1 -/
def b241 (s53 s54 : Fun) : Fun := fun a b => uc a fun a c => uc c fun c d => uz d (ld1 b a fun d => na 2 d fun e => ld1 b e fun f => ld1 b c fun c => cl (s54 [c] b) fun b c => ld1 c e fun e => same f e (ld1 c a fun e => same d e (cl (s53 [f, b] c) fun b c => ld1 c a fun a => same d a (cK b fun a => .ret a c))))
def g241 : Hint := (.s .z (.s (.r [0, 1, 2, 3, 4, 5, 6, 7]) .z))
theorem e241 (s53 s54 : Fun) : b241 s53 s54 = denF Tryz.prog (gam [(53, s53), (54, s54)]) Tryz.f241 g241 := by kernel_rfl
def s241 : Fun := b241 s53 s54
theorem F241 : Snd Tryz.prog 241 s241 := snd_of hmix (gcons F53 (gcons F54 gnil)) Tryz.func241 (by kernel_rfl) (by kernel_rfl) (e241 s53 s54)

/-- (*obelisk/heap.Heap).set -/
def b208 (s204 s284 : Fun) : Fun := fun a b => uc a fun a c => uc c fun c d => uc d fun d e => uc e fun e f => uc f fun f g => uz g (cl (s204 [c, d, e] b) fun b c => cT b fun d => cK (nth d 0) fun d => cT b fun b => cK (nth b 1) fun b => cl (s284 [e] c) fun c e => iMul c (I 8) fun c => iSub (I 64) c fun c => iShr (.int 64 (.ofNat 18446744073709551615)) c fun c => iShl c b fun c => nl 1 e a fun g => nl 1 e a fun a => ixA 1 a d fun a => ld1 e a fun a => iAndNot a c fun a => iConv 64 f fun f => iShl f b fun b => iAnd b c fun b => iOr a b fun a => ixA 1 g d fun b => st1 e b a fun a => .ret (.tup .nil) a)
def g208 : Hint := (.s .z (.s .z (.s .z (.r [0, 1, 2, 3, 4, 5, 6, 7, 8, 9, 10, 11, 12, 13, 14, 15, 16, 17, 18, 19, 20, 21, 22]))))
theorem e208 (s204 s284 : Fun) : b208 s204 s284 = denF Tryz.prog (gam [(204, s204), (284, s284)]) Tryz.f208 g208 := by kernel_rfl
def s208 : Fun := b208 s204 s284
theorem F208 : Snd Tryz.prog 208 s208 := snd_of hmix (gcons F204 (gcons F284 gnil)) Tryz.func208 (by kernel_rfl) (by kernel_rfl) (e208 s204 s284)

/-- obelisk/layout.Array -/
def b283 (s284 : Fun) : Fun := fun a b => uc a fun a c => uc c fun c d => uz d (cl (s284 [a] b) fun a b => eqN a (I 0) fun d => ap (gsel (.bool d) false c) fun e => gj (.bool d) false (ltN e (I 0) fun a => .norm [(.bool a)] b) b fun b e => cB (.bool d) fun d => ap (sel d (.bool true) b) fun b => ap (gsel b false c) fun d => gj b false (ltN (I 2147483647) d fun a => .norm [(.bool a)] e) e fun d e => cB b fun b => ap (sel b (.bool true) d) fun b => cB b fun b => ifB b (.fail) (iMul c a fun a => iAdd a (I 8) fun a => iSub a (I 1) fun a => iQuo a (I 8) fun a => iAdd (I 3) a fun a => cK a fun a => .ret a e))
def g283 : Hint := (.s .z (.s .z (.s (.s .z (.s .z .z)) (.s .z .z))))
theorem e283 (s284 : Fun) : b283 s284 = denF Tryz.prog (gam [(284, s284)]) Tryz.f283 g283 := by kernel_rfl
def s283 : Fun := b283 s284
theorem F283 : Snd Tryz.prog 283 s283 := snd_of hmix (gcons F284 gnil) Tryz.func283 (by kernel_rfl) (by kernel_rfl) (e283 s284)

/-- (*obelisk/heap.Heap).Text -/
def L202n0 (s72 s73 s208 s283 : Fun) : List AV → Hp → Res := fun a b => uc a fun a c => uc c fun c d => uc d fun d e => uc e fun e f => uc f fun f _ => ltN f e fun g => ifB g (blk 1 (ixA 1 d f fun g => ld1 b g fun g => iConv 63 g fun g => cl (s208 [a, c, f, (J 67), g] b) fun _ b => .norm [a, c, d, e, f] b) fun a b => uc a fun a c => uc c fun c d => uc d fun d e => uc e fun e f => uc f fun f _ => iAdd f (I 1) fun f => .norm [a, c, d, e, f] b) (.exit 0 [c] b)
def b202 (s72 s73 s208 s283 : Fun) : Fun := fun a b => uc a fun a c => uc c fun c d => uz d (eqP a .nilp fun d => ifB d (.fail) (cl (s72 [a, (.str 16 137483774941304901841256615957136564586)] b) fun b d => lenL c fun e => cl (s283 [(J 67), e] d) fun d e => cl (s73 [a, b, d] e) fun b d => jn (ltN (I 0) b fun e => ifB e (nl 1 d a fun e => iAdd b (I 1) fun f => lenL c fun g => iConv 64 g fun g => ixA 1 e f fun e => st1 d e g fun d => lenL c fun e => blk 0 (lp (L202n0 s72 s73 s208 s283) most [a, b, c, e, (I 0)] d) fun a b => uc a fun a _ => .norm [a] b) (.norm [b] d)) fun a b => uc a fun a _ => cK a fun a => .ret a b))
def g202 : Hint := (.s .z (.s (.s .z (.s .z .z)) (.s .z (.j [5] (.s .z (.s (.s .z (.s .z (.b [5] (.l [0, 5, 29, 30, 31] (.s .z (.s (.s .z .z) (.s (.b [0, 5, 29, 30, 31] (.s .z .z)) .z))))))) .z)) (.s .z .z)))))
theorem e202 (s72 s73 s208 s283 : Fun) : b202 s72 s73 s208 s283 = denF Tryz.prog (gam [(72, s72), (73, s73), (208, s208), (283, s283)]) Tryz.f202 g202 := by kernel_rfl
def s202 : Fun := b202 s72 s73 s208 s283
theorem F202 : Snd Tryz.prog 202 s202 := snd_of hmix (gcons F72 (gcons F73 (gcons F208 (gcons F283 gnil)))) Tryz.func202 (by kernel_rfl) (by kernel_rfl) (e202 s72 s73 s208 s283)

/-- (*obelisk/interp.Machine).intern$1 -/
def b308 (s202 : Fun) : Fun := fun a b => uc a fun a c => uc c fun c d => uz d (ld1 b a fun d => nl 2 b d fun e => ld1 b c fun c => cl (s202 [e, c] b) fun b c => ld1 c a fun a => same d a (cK b fun a => .ret a c))
def g308 : Hint := (.s .z (.s (.r [0, 1, 2, 3, 4, 5, 6]) .z))
theorem e308 (s202 : Fun) : b308 s202 = denF Tryz.prog (gam [(202, s202)]) Tryz.f308 g308 := by kernel_rfl
def s308 : Fun := b308 s202
theorem F308 : Snd Tryz.prog 308 s308 := snd_of hmix (gcons F202 gnil) Tryz.func308 (by kernel_rfl) (by kernel_rfl) (e308 s202)

/-- (*obelisk/interp.Machine).fresh$1 -/
def b396 (s53 : Fun) : Fun := fun a b => uc a fun a c => uc c fun c d => uz d (ld1 b a fun d => nl 2 b d fun e => ld1 b c fun c => cl (s53 [e, c] b) fun b c => ld1 c a fun a => same d a (cK b fun a => .ret a c))
def g396 : Hint := (.s .z (.s (.r [0, 1, 2, 3, 4, 5, 6]) .z))
theorem e396 (s53 : Fun) : b396 s53 = denF Tryz.prog (gam [(53, s53)]) Tryz.f396 g396 := by kernel_rfl
def s396 : Fun := b396 s53
theorem F396 : Snd Tryz.prog 396 s396 := snd_of hmix (gcons F53 gnil) Tryz.func396 (by kernel_rfl) (by kernel_rfl) (e396 s53)

/-- (*obelisk/heap.Heap).Array -/
def b398 (s72 s73 s133 s134 s135 s283 : Fun) : Fun := fun a b => uc a fun a c => uc c fun c d => uc d fun d e => uz e (cl (s133 [c] b) fun b e => cT b fun f => cK (nth f 0) fun f => cT b fun b => cK (nth b 1) fun b => mk e (.cons (J 0) (.cons (.str 0 0) (.cons (I 0) (.cons (J 0) .nil)))) fun e g => stN g 4 e f fun f => ldN f 4 e fun e => cl (s135 [e] f) fun e f => cl (s134 [e] f) fun e f => cl (s283 [e, d] f) fun e f => eqP a .nilp fun g => ap (gsel (.bool g) false b) fun b => gj (.bool g) false (bNot b fun a => .norm [a] f) f fun b f => cB (.bool g) fun g => ap (sel g (.bool true) b) fun b => ap (gsel b false e) fun g => gj b false (ltN g (I 0) fun a => .norm [(.bool a)] f) f fun f g => cB b fun b => ap (sel b (.bool true) f) fun b => cB b fun b => ifB b (.fail) (cl (s72 [a, c] g) fun b c => cl (s73 [a, b, e] c) fun b c => jn (ltN (I 0) b fun e => ifB e (nl 1 c a fun a => iAdd b (I 1) fun e => iConv 64 d fun d => ixA 1 a e fun a => st1 c a d fun a => .norm [b] a) (.norm [b] c)) fun a b => uc a fun a _ => cK a fun a => .ret a b))
def g398 : Hint := (.s .z (.s .z (.s .z (.s (.s .z (.s .z .z)) (.s .z (.j [10] (.s .z (.s .z .z)) (.s .z .z)))))))
theorem e398 (s72 s73 s133 s134 s135 s283 : Fun) : b398 s72 s73 s133 s134 s135 s283 = denF Tryz.prog (gam [(72, s72), (73, s73), (133, s133), (134, s134), (135, s135), (283, s283)]) Tryz.f398 g398 := by kernel_rfl
def s398 : Fun := b398 s72 s73 s133 s134 s135 s283
theorem F398 : Snd Tryz.prog 398 s398 := snd_of hmix (gcons F72 (gcons F73 (gcons F133 (gcons F134 (gcons F135 (gcons F283 gnil)))))) Tryz.func398 (by kernel_rfl) (by kernel_rfl) (e398 s72 s73 s133 s134 s135 s283)

/-- (*obelisk/interp.Machine).array$1 -/
def b397 (s398 : Fun) : Fun := fun a b => uc a fun a c => uc c fun c d => uc d fun d e => uz e (ld1 b a fun e => nl 2 b e fun f => ld1 b c fun c => ld1 b d fun d => cl (s398 [f, c, d] b) fun b c => ld1 c a fun a => same e a (cK b fun a => .ret a c))
def g397 : Hint := (.s .z (.s (.r [0, 1, 2, 3, 4, 5, 6, 7]) .z))
theorem e397 (s398 : Fun) : b397 s398 = denF Tryz.prog (gam [(398, s398)]) Tryz.f397 g397 := by kernel_rfl
def s397 : Fun := b397 s398
theorem F397 : Snd Tryz.prog 397 s397 := snd_of hmix (gcons F398 gnil) Tryz.func397 (by kernel_rfl) (by kernel_rfl) (e397 s398)

/-- (*obelisk/interp.Machine).make -/
def b240 (s61 s241 s308 s396 s397 : Fun) : Fun := fun a b => uc a fun _ a => uc a fun a c => uz c (cl (dyn (gam [(61, s61), (241, s241), (308, s308), (396, s396), (397, s397)]) a [] b) fun a b => jn (eqN a (I 0) fun c => ifB c (.fail) (.norm [a] b)) fun a b => uc a fun a _ => cK a fun a => .ret a b)
def g240 : Hint := (.s .z (.s .z (.j [5] (.s .z (.s .z .z)) (.s .z .z))))
theorem e240 (s61 s241 s308 s396 s397 : Fun) : b240 s61 s241 s308 s396 s397 = denF Tryz.prog (gam [(61, s61), (241, s241), (308, s308), (396, s396), (397, s397)]) Tryz.f240 g240 := by kernel_rfl
def s240 : Fun := b240 s61 s241 s308 s396 s397
theorem F240 : Snd Tryz.prog 240 s240 := snd_of hmix (gcons F61 (gcons F241 (gcons F308 (gcons F396 (gcons F397 gnil))))) Tryz.func240 (by kernel_rfl) (by kernel_rfl) (e240 s61 s241 s308 s396 s397)

/-- (*obelisk/interp.Machine).raise -/
def b154 (s240 : Fun) : Fun := fun a b => uc a fun a c => uc c fun c d => uz d (mk b (cells a) fun a b => mk b (cells c) fun b c => ld1 c b fun d => blk 0 (eqN d (I 14) fun e => ifB e (.fail) (eqN d (I 15) fun d => ifB d (.fail) (ld1 c a fun d => cl (s240 [d, (.fn (.func 241) .nil (.cons a (.cons b .nil)))] c) fun b c => jn (eqN b (I 0) fun d => ifB d (ld1 c a fun b => nl 12 c b fun b => .norm [a, b] c) (.norm [a, b] c)) fun a b => uc a fun a c => uc c fun c _ => ld1 b a fun a => na 13 a fun a => st1 b a c fun a => .norm [] a))) fun _ a => .ret (.tup .nil) a)
def g154 : Hint := (.s .z (.s .z (.b [] (.s .z (.s .z (.s .z (.s .z (.s .z (.j [2, 4] (.s .z (.s .z .z)) .z)))))))))
theorem e154 (s240 : Fun) : b154 s240 = denF Tryz.prog (gam [(240, s240)]) Tryz.f154 g154 := by kernel_rfl
def s154 : Fun := b154 s240
theorem F154 : Snd Tryz.prog 154 s154 := snd_of hmix (gcons F240 gnil) Tryz.func154 (by kernel_rfl) (by kernel_rfl) (e154 s240)

/-- (*obelisk/heap.Heap).Chars -/
def L124n0 (s162 s174 s204 : Fun) : List AV → Hp → Res := fun a b => uc a fun a c => uc c fun c d => uc d fun d e => uc e fun e f => uc f fun f _ => ltN f e fun g => ifB g (blk 1 (cl (s204 [c, f, (J 67)] b) fun b g => cT b fun h => cK (nth h 0) fun h => cT b fun b => cK (nth b 1) fun b => nl 1 g a fun i => ixA 1 i h fun h => ld1 g h fun h => iShr h b fun b => iConv 16 b fun b => ixA 1 d f fun h => st1 g h b fun b => .norm [a, c, d, e, f] b) fun a b => uc a fun a c => uc c fun c d => uc d fun d e => uc e fun e f => uc f fun f _ => iAdd f (I 1) fun f => .norm [a, c, d, e, f] b) (.exit 0 [d] b)
def b124 (s162 s174 s204 : Fun) : Fun := fun a b => uc a fun a c => uc c fun c d => uz d (cl (s162 [a, c] b) fun b d => eqS b (.str 16 137483774941304901841256615957136564586) fun b => ifB (bnot b) (.fail) (cl (s174 [a, c] d) fun b d => mkM d (.cons (.int 16 (.ofNat 0)) .nil) 2 b b fun b d => lenL b fun e => blk 0 (lp (L124n0 s162 s174 s204) most [a, c, b, e, (I 0)] d) fun a b => uc a fun a _ => cK a fun a => .ret a b))
def g124 : Hint := (.s .z (.s (.s .z (.s .z .z)) (.s .z (.s (.s .z (.b [5] (.l [0, 1, 5, 18, 19] (.s .z (.s (.s .z .z) (.s (.b [0, 1, 5, 18, 19] (.s .z (.s .z .z))) .z)))))) (.s .z .z)))))
theorem e124 (s162 s174 s204 : Fun) : b124 s162 s174 s204 = denF Tryz.prog (gam [(162, s162), (174, s174), (204, s204)]) Tryz.f124 g124 := by kernel_rfl
def s124 : Fun := b124 s162 s174 s204
theorem F124 : Snd Tryz.prog 124 s124 := snd_of hmix (gcons F162 (gcons F174 (gcons F204 gnil))) Tryz.func124 (by kernel_rfl) (by kernel_rfl) (e124 s162 s174 s204)

/-- obelisk/mutf.Encode -/
def L281n0 : List AV → Hp → Res := fun a b => uc a fun a c => uc c fun c d => uc d fun d e => uc e fun e _ => ltN e d fun f => ifB f (blk 1 (ixA 1 c e fun f => ld1 b f fun f => blk 2 (ltN (.int 16 (.ofNat 0)) f fun g => ap (gsel (.bool g) true f) fun h => gj (.bool g) true (ltN h (.int 16 (.ofNat 128)) fun a => .norm [(.bool a)] b) b fun b h => cB (.bool g) fun g => ap (sel g b (.bool false)) fun b => cB b fun b => ifB b (iConv 8 f fun b => bld [(false, 1, b)] fun b => mkS h 1 1 b fun b f => apd f 1 1 a b fun a b => .norm [a, c, d, e] b) (.fail)) fun a b => uc a fun a c => uc c fun c d => uc d fun d e => uc e fun e _ => .norm [a, c, d, e] b) fun a b => uc a fun a c => uc c fun c d => uc d fun d e => uc e fun e _ => iAdd e (I 1) fun e => .norm [a, c, d, e] b) (.exit 0 [a] b)
def b281 : Fun := fun a b => uc a fun a c => uz c (lenL a fun c => blk 0 (lp L281n0 most [.nils, a, c, (I 0)] b) fun a b => uc a fun a _ => b2s b a fun a => cK a fun a => .ret a b)
def g281 : Hint := (.s .z (.s .z (.s (.s .z (.b [3] (.l [3, 6, 7, 8] (.s .z (.s (.s .z .z) (.s (.b [3, 6, 7, 8] (.s .z (.b [3, 6, 7, 8] (.s .z (.s .z .z))))) .z)))))) (.s .z .z))))
theorem e281 : b281 = denF Tryz.prog (gam []) Tryz.f281 g281 := by kernel_rfl
def s281 : Fun := b281
theorem F281 : Snd Tryz.prog 281 s281 := snd_of hmix gnil Tryz.func281 (by kernel_rfl) (by kernel_rfl) (e281)

/-- (*obelisk/strings.Table).Find -/
def b280 (s281 : Fun) : Fun := fun a b => uc a fun a c => uc c fun c d => uz d (eqP a .nilp fun d => ifB d (.fail) (na 2 a fun a => ld1 b a fun d => cl (s281 [c] b) fun b c => ld1 c a fun a => same d a (lkp kqS c true (I 0) d b fun a => cT a fun b => cK (nth b 0) fun _ => cT a fun a => cK (nth a 1) fun a => cB a fun a => ifB a (.fail) (cK (I 0) fun a => .ret a c))))
def g280 : Hint := (.s .z (.s (.s .z (.s .z .z)) (.s (.s (.r [0, 1, 2, 3, 4, 5, 6, 7, 8, 9, 10, 11]) (.s .z (.s .z .z))) (.s .z .z))))
theorem e280 (s281 : Fun) : b280 s281 = denF Tryz.prog (gam [(281, s281)]) Tryz.f280 g280 := by kernel_rfl
def s280 : Fun := b280 s281
theorem F280 : Snd Tryz.prog 280 s280 := snd_of hmix (gcons F281 gnil) Tryz.func280 (by kernel_rfl) (by kernel_rfl) (e280 s281)

/-- (*obelisk/strings.Table).Add -/
def b199 (s124 s162 s280 s281 : Fun) : Fun := fun a b => uc a fun a c => uc c fun c d => uz d (eqP a .nilp fun d => ap (gsel (.bool d) false a) fun e => gj (.bool d) false (nck e fun a => .norm [a] b) b fun b e => gj (.bool d) false (fa 0 b fun a => .norm [a] e) e fun b e => gj (.bool d) false (ld1 e b fun a => .norm [a] e) e fun b e => ap (gsel (.bool d) false c) fun f => gj (.bool d) false (cl (s162 [b, f] e) fun a b => .norm [a] b) e fun b e => gj (.bool d) false (eqS b (.str 16 137483774941304901841256615957136564586) fun a => .norm [(.bool (bnot a))] e) e fun b e => cB (.bool d) fun d => ap (sel d (.bool true) b) fun b => cB b fun b => ifB b (.fail) (nl 0 e a fun b => cl (s124 [b, c] e) fun b d => cl (s280 [a, b] d) fun d e => eqN d (I 0) fun d => ifB (bnot d) (.fail) (na 2 a fun d => ld1 e d fun f => na 1 a fun g => ld1 e g fun h => lenL h fun i => cl (s281 [b] e) fun b e => ld1 e g fun g => same h g (ld1 e d fun d => same f d (mup kqS e f b i fun b => nl 1 b a fun d => bld [(false, 1, c)] fun e => mkS b 1 1 e fun b e => apd e 1 8 d b fun b d => na 1 a fun a => st1 d a b fun a => cK c fun b => .ret b a)))))
def g199 : Hint := (.s .z (.s (.s .z (.s .z .z)) (.s .z (.s (.s .z (.s .z (.s .z .z))) (.s (.r [0, 1, 2, 3, 4, 6, 7, 8, 9, 10, 5, 11]) (.s .z (.s .z .z)))))))
theorem e199 (s124 s162 s280 s281 : Fun) : b199 s124 s162 s280 s281 = denF Tryz.prog (gam [(124, s124), (162, s162), (280, s280), (281, s281)]) Tryz.f199 g199 := by kernel_rfl
def s199 : Fun := b199 s124 s162 s280 s281
theorem F199 : Snd Tryz.prog 199 s199 := snd_of hmix (gcons F124 (gcons F162 (gcons F280 (gcons F281 gnil)))) Tryz.func199 (by kernel_rfl) (by kernel_rfl) (e199 s124 s162 s280 s281)

/-- (*obelisk/interp.Machine).intern -/
def b243 (s192 s199 s240 s280 s293 : Fun) : Fun := fun a b => uc a fun a c => uc c fun c d => uc d fun d e => uz e (mk b (cells a) fun a b => ixA 5 c d fun d => fl 3 b d fun d => cl (s293 [c, d] b) fun b c => cT b fun d => cK (nth d 0) fun d => cT b fun b => cK (nth b 1) fun _ => cl (s192 [d] c) fun b c => cT b fun d => cK (nth d 0) fun d => cT b fun b => cK (nth b 1) fun _ => mk c (.cons .nils .nil) fun b c => st1 c b d fun c => ld1 c a fun d => nl 3 c d fun e => ld1 c b fun f => cl (s280 [e, f] c) fun c e => ld1 e a fun f => same d f (eqN c (I 0) fun c => ifB (bnot c) (.fail) (ld1 e a fun c => cl (s240 [c, (.fn (.func 308) .nil (.cons a (.cons b .nil)))] e) fun b c => eqN b (I 0) fun d => ifB d (.fail) (ld1 c a fun a => nl 3 c a fun a => cl (s199 [a, b] c) fun a b => cK a fun a => .ret a b))))
def g243 : Hint := (.s .z (.s .z (.s .z (.s (.s (.r [0, 1, 2, 3, 4, 5, 6]) (.s .z (.s .z .z))) (.s .z (.s (.s .z (.s .z .z)) (.s .z .z)))))))
theorem e243 (s192 s199 s240 s280 s293 : Fun) : b243 s192 s199 s240 s280 s293 = denF Tryz.prog (gam [(192, s192), (199, s199), (240, s240), (280, s280), (293, s293)]) Tryz.f243 g243 := by kernel_rfl
def s243 : Fun := b243 s192 s199 s240 s280 s293
theorem F243 : Snd Tryz.prog 243 s243 := snd_of hmix (gcons F192 (gcons F199 (gcons F240 (gcons F280 (gcons F293 gnil))))) Tryz.func243 (by kernel_rfl) (by kernel_rfl) (e243 s192 s199 s240 s280 s293)

/-- (*obelisk/interp.Machine).prepare -/
def L155n0 (s243 : Fun) : List AV → Hp → Res := fun a b => uc a fun a c => uc c fun c d => uc d fun d e => uc e fun e f => uc f fun f g => uc g fun g _ => ltN g f fun h => ifB h (blk 1 (ixA 4 e g fun h => ldN b 4 h fun h => mk b (.cons (I 0) (.cons (.str 0 0) (.cons (.str 0 0) (.cons (I 0) .nil)))) fun b i => stN i 4 b h fun h => fl 3 h b fun i => eqN i (I 0) fun i => ifB i (.exit 1 [a, c, d, e, f, g] h) (na 1 c fun i => ld1 h i fun j => fa 3 b fun k => ld1 h k fun l => ixA 5 j l fun m => ldN h 5 m fun n => mk h (.cons (I 0) (.cons (.str 0 0) (.cons (I 0) (.cons (I 0) (.cons (I 0) .nil))))) fun h o => ldN o 5 m fun m => same n m (ld1 o k fun k => same l k (ld1 o i fun i => same j i (stN o 5 h n fun i => fl 0 i h fun h => eqN h (I 8) fun h => ifB (bnot h) (.fail) (nl 1 i c fun h => fl 3 i b fun b => cl (s243 [a, h, b] i) fun b h => eqN b (I 0) fun i => ifB i (.fail) (nl 1 h d fun i => ixA 1 i g fun i => st1 h i b fun b => .norm [a, c, d, e, f, g] b))))))) fun a b => uc a fun a c => uc c fun c d => uc d fun d e => uc e fun e f => uc f fun f g => uc g fun g _ => iAdd g (I 1) fun g => .norm [a, c, d, e, f, g] b) (.exit 0 [] b)
def b155 (s243 : Fun) : Fun := fun a b => uc a fun a c => uc c fun c d => uc d fun d e => uz e (nl 6 b c fun e => lenL e fun e => mkM b (.cons (I 0) .nil) 8 e e fun b e => na 1 d fun f => st1 e f b fun b => nl 6 b c fun e => lenL e fun f => blk 0 (lp (L155n0 s243) most [a, c, d, e, f, (I 0)] b) fun _ a => cK (.bool true) fun b => .ret b a)
def g155 : Hint := (.s .z (.s .z (.s (.s .z (.b [] (.l [0, 1, 2, 23, 24, 25] (.s .z (.s (.s .z .z) (.s (.b [0, 1, 2, 23, 24, 25] (.s .z (.s (.s .z (.s .z .z)) (.s (.s (.r [0, 1, 2, 3, 4, 5, 6, 7, 8, 9]) (.s .z (.s .z .z))) (.s (.r [0, 1, 2, 3, 4, 5, 6, 7, 8]) (.s (.s .z (.s .z .z)) .z)))))) .z)))))) (.s .z .z))))
theorem e155 (s243 : Fun) : b155 s243 = denF Tryz.prog (gam [(243, s243)]) Tryz.f155 g155 := by kernel_rfl
def s155 : Fun := b155 s243
theorem F155 : Snd Tryz.prog 155 s155 := snd_of hmix (gcons F243 gnil) Tryz.func155 (by kernel_rfl) (by kernel_rfl) (e155 s243)

/-- (*obelisk/stack.Stack).Enter -/
def b246 : Fun := fun a b => uc a fun a c => uc c fun c d => uc d fun d e => uc e fun e f => uc f fun f g => uz g (eqP a .nilp fun g => ap (gsel (.bool g) false c) fun h => gj (.bool g) false (ltN h (I 0) fun a => .norm [(.bool a)] b) b fun b h => cB (.bool g) fun g => ap (sel g (.bool true) b) fun b => ap (gsel b false d) fun g => gj b false (ltN g (I 0) fun a => .norm [(.bool a)] h) h fun g h => cB b fun b => ap (sel b (.bool true) g) fun b => ap (gsel b false e) fun g => gj b false (ltN g (I 0) fun a => .norm [(.bool a)] h) h fun g h => cB b fun b => ap (sel b (.bool true) g) fun b => ap (gsel b false f) fun g => gj b false (ltN g (I 0) fun a => .norm [(.bool a)] h) h fun g h => cB b fun b => ap (sel b (.bool true) g) fun b => ap (gsel b false e) fun g => gj b false (ltN (I 2048) g fun a => .norm [(.bool a)] h) h fun g h => cB b fun b => ap (sel b (.bool true) g) fun b => ap (gsel b false f) fun g => gj b false (ltN (I 2048) g fun a => .norm [(.bool a)] h) h fun g h => cB b fun b => ap (sel b (.bool true) g) fun b => cB b fun b => ifB b (.fail) (iAdd e f fun b => iAdd b (I 4) fun b => nl 3 h a fun g => iSub (I 2048) g fun g => ltN g b fun g => ifB g (.fail) (nl 3 h a fun g => iAdd g b fun b => na 3 a fun g => st1 h g b fun b => na 2 a fun g => ld1 b g fun h => na 0 a fun i => ld1 b i fun j => lenL j fun k => bld [(false, 1, c), (false, 1, d), (false, 1, (I 0)), (false, 1, k), (false, 1, e), (false, 1, f), (false, 1, (I 0))] fun c => bld [(true, 7, (.agg c))] fun c => mkS b 7 1 c fun b c => ld1 c i fun d => same j d (ld1 c g fun d => same h d (apd c 7 56 h b fun b c => ld1 c i fun d => same j d (na 2 a fun d => st1 c d b fun b => nl 0 b a fun c => apdZ b 1 8 (.cons (I 0) .nil) c e fun b c => na 0 a fun d => st1 c d b fun b => nl 1 b a fun c => apdZ b 1 1 (.cons (.bool false) .nil) c e fun b c => na 1 a fun a => st1 c a b fun a => cK (.bool true) fun b => .ret b a))))))
def g246 : Hint := (.s .z (.s (.s .z (.s .z .z)) (.s .z (.s (.s .z (.s .z .z)) (.s .z (.s (.r [0, 1, 2, 3, 4, 5, 6, 7, 8, 9, 10, 11, 12, 13, 14, 15, 16, 17, 18, 19]) (.s .z (.s .z (.s .z .z)))))))))
theorem e246 : b246 = denF Tryz.prog (gam []) Tryz.f246 g246 := by kernel_rfl
def s246 : Fun := b246
theorem F246 : Snd Tryz.prog 246 s246 := snd_of hmix gnil Tryz.func246 (by kernel_rfl) (by kernel_rfl) (e246)

/-- (*obelisk/interp.Machine).number -/
def b247 : Fun := fun a b => uc a fun a c => uc c fun c d => uz d (nl 8 b a fun d => lkp kqS b true (I 0) d c fun d => cT d fun e => cK (nth e 0) fun e => cT d fun d => cK (nth d 1) fun d => cB d fun d => ifB d (cK e fun a => .ret a b) (nl 8 b a fun d => nl 8 b a fun e => lenM b e fun e => mup kqS b d c e fun b => nl 8 b a fun a => lenM b a fun a => iSub a (I 1) fun a => cK a fun a => .ret a b))
def g247 : Hint := (.s .z (.s (.s .z (.s .z (.s (.s .z .z) .z))) (.s (.r [0, 1, 2, 3, 4, 5, 6, 7, 8, 9, 10]) (.s .z .z))))
theorem e247 : b247 = denF Tryz.prog (gam []) Tryz.f247 g247 := by kernel_rfl
def s247 : Fun := b247
theorem F247 : Snd Tryz.prog 247 s247 := snd_of hmix gnil Tryz.func247 (by kernel_rfl) (by kernel_rfl) (e247)

/-- (*obelisk/interp.Machine).push -/
def b158 (s55 s246 s247 : Fun) : Fun := fun a b => uc a fun a c => uc c fun c d => uc d fun d e => uc e fun e f => uc f fun f g => uz g (nl 0 b a fun g => cl (s55 [g, d] b) fun b g => nl 7 g b fun h => ixA 9 h e fun h => fa 4 h fun h => ldN g 5 h fun h => mk g (.cons (I 0) (.cons (I 0) (.cons .nils (.cons .nils (.cons .nils .nil))))) fun g i => stN i 5 g h fun h => na 5 a fun i => ld1 h i fun j => fa 1 g fun k => ld1 h k fun l => fa 0 g fun g => ld1 h g fun m => cl (s247 [a, d] h) fun d h => ld1 h g fun g => same m g (ld1 h k fun g => same l g (ld1 h i fun g => same j g (cl (s246 [j, d, e, l, m] h) fun d g => bNot d fun d => cB d fun d => ifB d (.fail) (nl 6 g a fun d => bld [(false, 1, c), (false, 1, (I 0)), (false, 1, b), (false, 1, e), (false, 1, (I 0)), (false, 1, f)] fun b => mk g (cells (.agg b)) fun b c => bld [(false, 1, b)] fun b => mkS c 1 1 b fun b c => apd c 1 8 d b fun b c => na 6 a fun a => st1 c a b fun a => cK (.bool true) fun b => .ret b a)))))
def g158 : Hint := (.s .z (.s .z (.s .z (.s (.s (.r [0, 1, 2, 3, 4, 5, 7, 8, 9, 10, 11, 6, 12, 13]) (.s .z .z)) (.s .z (.s .z .z))))))
theorem e158 (s55 s246 s247 : Fun) : b158 s55 s246 s247 = denF Tryz.prog (gam [(55, s55), (246, s246), (247, s247)]) Tryz.f158 g158 := by kernel_rfl
def s158 : Fun := b158 s55 s246 s247
theorem F158 : Snd Tryz.prog 158 s158 := snd_of hmix (gcons F55 (gcons F246 (gcons F247 gnil))) Tryz.func158 (by kernel_rfl) (by kernel_rfl) (e158 s55 s246 s247)

/-- (*obelisk/interp.Machine).find -/
def b244 (s55 s145 : Fun) : Fun := fun a b => uc a fun a c => uc c fun c d => uc d fun d e => uc e fun e f => uz f (nl 0 b a fun a => cl (s55 [a, c] b) fun a b => cl (s145 [a, d, e] b) fun a b => cK a fun a => .ret a b)
def g244 : Hint := (.s .z (.s .z .z))
theorem e244 (s55 s145 : Fun) : b244 s55 s145 = denF Tryz.prog (gam [(55, s55), (145, s145)]) Tryz.f244 g244 := by kernel_rfl
def s244 : Fun := b244 s55 s145
theorem F244 : Snd Tryz.prog 244 s244 := snd_of hmix (gcons F55 (gcons F145 gnil)) Tryz.func244 (by kernel_rfl) (by kernel_rfl) (e244 s55 s145)

/-- (*obelisk/interp.Machine).finish -/
def b245 (s153 : Fun) : Fun := fun a b => uc a fun a c => uc c fun c d => uz d (na 0 c fun d => ld1 b d fun e => na 0 c fun f => ld1 b f fun g => lenL g fun h => iSub h (I 1) fun h => ixA 1 e h fun h => ld1 b h fun h => cl (s153 [a, h] b) fun a b => ld1 b f fun f => same g f (ld1 b d fun d => same e d (na 0 a fun a => st1 b a (I 2) fun a => nl 0 a c fun b => nl 0 a c fun d => lenL d fun d => iSub d (I 1) fun d => cutS 1 b none (some d) none fun b => na 0 c fun c => st1 a c b fun a => .ret (.tup .nil) a)))
def g245 : Hint := (.s (.r [0, 1, 2, 3, 4, 5, 6, 7, 8, 9, 10, 11, 12, 13, 14, 15, 16]) (.r [0, 1, 2, 3, 4, 5, 6, 7, 8, 9, 10, 11, 12, 13, 14]))
theorem e245 (s153 : Fun) : b245 s153 = denF Tryz.prog (gam [(153, s153)]) Tryz.f245 g245 := by kernel_rfl
def s245 : Fun := b245 s153
theorem F245 : Snd Tryz.prog 245 s245 := snd_of hmix (gcons F153 gnil) Tryz.func245 (by kernel_rfl) (by kernel_rfl) (e245 s153)

/-- (*obelisk/interp.Machine).proceed -/
def L157n0 (s154 s158 s244 s245 : Fun) : List AV → Hp → Res := fun a b => uc a fun a c => uc c fun c _ => nl 0 b c fun d => lenL d fun d => ltN (I 0) d fun d => ifB d (blk 1 (nl 0 b c fun d => nl 0 b c fun e => lenL e fun e => iSub e (I 1) fun e => ixA 1 d e fun d => ld1 b d fun d => cl (s244 [a, d, (.str 8 4500337850585998140), (.str 3 5646632)] b) fun b d => ltN b (I 0) fun b => ifB (bnot b) (.fail) (cl (s245 [a, c] d) fun _ b => .norm [a, c] b)) fun a b => uc a fun a c => uc c fun c _ => .norm [a, c] b) (.exit 0 [] b)
def b157 (s154 s158 s244 s245 : Fun) : Fun := fun a b => uc a fun a c => uc c fun c d => uz d (blk 0 (lp (L157n0 s154 s158 s244 s245) most [a, c] b) fun _ a => cK (I 0) fun b => .ret b a)
def g157 : Hint := (.s .z (.s (.b [] (.l [0, 1] (.s (.s .z (.s .z .z)) (.b [0, 1] (.s (.r [0, 1, 2, 3, 4, 5, 6, 7, 8, 9, 10, 11, 12]) (.s .z (.s (.s .z (.s .z .z)) .z))))))) (.s .z .z)))
theorem e157 (s154 s158 s244 s245 : Fun) : b157 s154 s158 s244 s245 = denF Tryz.prog (gam [(154, s154), (158, s158), (244, s244), (245, s245)]) Tryz.f157 g157 := by kernel_rfl
def s157 : Fun := b157 s154 s158 s244 s245
theorem F157 : Snd Tryz.prog 157 s157 := snd_of hmix (gcons F154 (gcons F158 (gcons F244 (gcons F245 gnil)))) Tryz.func157 (by kernel_rfl) (by kernel_rfl) (e157 s154 s158 s244 s245)

/-- (*obelisk/interp.Machine).start -/
def L84n0 (s55 s82 s153 s154 s155 s157 : Fun) : List AV → Hp → Res := fun a b => uc a fun a c => uc c fun c d => uc d fun d e => uc e fun e _ => nl 0 b d fun f => eqN f (I 0) fun f => ifB f (blk 2 (nl 0 b a fun f => cl (s55 [f, c] b) fun b f => na 0 d fun g => st1 f g (I 1) fun f => nl 0 f e fun g => bld [(false, 1, c)] fun c => mkS f 1 1 c fun c f => apd f 1 16 g c fun c f => na 0 e fun g => st1 f g c fun c => cl (s155 [a, b, d] c) fun c f => bNot c fun c => cB c fun c => ifB c (.fail) (nl 2 f b fun c => iAnd c (I 512) fun c => eqN c (I 0) fun c => ifB (bnot c) (.exit 1 [a, d, e] f) (nl 4 f b fun b => cl (s153 [a, b] f) fun c d => .norm [a, b, c, e] d))) fun a b => uc a fun a c => uc c fun c d => uc d fun d e => uc e fun e _ => .norm [a, c, d, e] b) (.exit 1 [a, d, e] b)
def b84 (s55 s82 s153 s154 s155 s157 : Fun) : Fun := fun a b => uc a fun a c => uc c fun c d => uz d (cl (s153 [a, c] b) fun b d => nl 0 d b fun e => blk 0 (jn (eqN e (I 2) fun f => ifB f (.norm [a, c, b, e, (.bool f)] d) (eqN e (I 1) fun f => .norm [a, c, b, e, (.bool f)] d)) fun a b => uc a fun a c => uc c fun c d => uc d fun d e => uc e fun e f => uc f fun f _ => cB f fun f => ifB f (cK (I 0) fun a => .ret a b) (eqN e (I 3) fun e => ifB e (.fail) (.norm [a, c, d] b))) fun a b => uc a fun a c => uc c fun c d => uc d fun d _ => nl 1 b a fun e => cl (s82 [e, c] b) fun b e => eqN b (I 0) fun b => ifB (bnot b) (.fail) (bld [(false, 1, .nils)] fun b => mk e (cells (.agg b)) fun b e => blk 1 (lp (L84n0 s55 s82 s153 s154 s155 s157) most [a, c, d, b] e) fun a b => uc a fun a c => uc c fun c d => uc d fun d _ => nl 0 b c fun c => eqN c (I 3) fun c => ifB c (.fail) (cl (s157 [a, d] b) fun a b => cK a fun a => .ret a b)))
def g84 : Hint := (.s .z (.s .z (.s (.s .z (.b [0, 1, 5] (.j [0, 1, 5, 15, 16] (.s .z (.s .z .z)) (.s (.s .z .z) (.s .z (.s .z .z)))))) (.s (.s .z (.s .z (.s .z .z))) (.s .z (.s (.b [0, 5, 7] (.l [0, 1, 5, 7] (.s (.s .z (.s .z .z)) (.b [0, 1, 5, 7] (.s .z (.s .z (.s .z (.s (.s .z (.s .z .z)) (.s (.s .z (.s .z .z)) (.s .z .z)))))))))) (.s (.s .z (.s .z .z)) (.s .z .z))))))))
theorem e84 (s55 s82 s153 s154 s155 s157 : Fun) : b84 s55 s82 s153 s154 s155 s157 = denF Tryz.prog (gam [(55, s55), (82, s82), (153, s153), (154, s154), (155, s155), (157, s157)]) Tryz.f84 g84 := by kernel_rfl
def s84 : Fun := b84 s55 s82 s153 s154 s155 s157
theorem F84 : Snd Tryz.prog 84 s84 := snd_of hmix (gcons F55 (gcons F82 (gcons F153 (gcons F154 (gcons F155 (gcons F157 gnil)))))) Tryz.func84 (by kernel_rfl) (by kernel_rfl) (e84 s55 s82 s153 s154 s155 s157)

/-- (*obelisk/stack.Stack).local -/
def b248 (s234 : Fun) : Fun := fun a b => uc a fun a c => uc c fun c d => uz d (cl (s234 [a] b) fun a b => eqP a .nilp fun d => ap (gsel (.bool d) false c) fun e => gj (.bool d) false (ltN e (I 0) fun a => .norm [(.bool a)] b) b fun b e => cB (.bool d) fun d => ap (sel d (.bool true) b) fun b => ap (gsel b false c) fun d => ap (gsel b false a) fun f => gj b false (nck f fun a => .norm [a] e) e fun e f => gj b false (fa 4 e fun a => .norm [a] f) f fun e f => gj b false (ld1 f e fun a => .norm [a] f) f fun e f => gj b false (ltN d e fun a => .norm [(.bool (bnot a))] f) f fun d e => cB b fun b => ap (sel b (.bool true) d) fun b => cB b fun b => ifB b (.fail) (nl 3 e a fun a => iAdd a c fun a => cK a fun a => .ret a e))
def g248 : Hint := (.s .z (.s .z (.s (.s .z (.s .z .z)) (.s .z .z))))
theorem e248 (s234 : Fun) : b248 s234 = denF Tryz.prog (gam [(234, s234)]) Tryz.f248 g248 := by kernel_rfl
def s248 : Fun := b248 s234
theorem F248 : Snd Tryz.prog 248 s248 := snd_of hmix (gcons F234 gnil) Tryz.func248 (by kernel_rfl) (by kernel_rfl) (e248 s234)

/-- (*obelisk/stack.Stack).SetLocal -/
def b159 (s248 : Fun) : Fun := fun a b => uc a fun a c => uc c fun c d => uc d fun d e => uc e fun e f => uz f (cl (s248 [a, c] b) fun b c => ltN b (I 0) fun f => ifB (bnot f) (nl 0 c a fun f => nl 1 c a fun a => ixA 1 f b fun f => st1 c f d fun c => ixA 1 a b fun a => st1 c a e fun a => .ret (.tup .nil) a) (.ret (.tup .nil) c))
def g159 : Hint := (.s .z (.s .z (.s (.r [0, 1, 2, 3, 4, 5, 6, 7, 8, 9, 10, 11, 12, 13, 14, 15]) .z)))
theorem e159 (s248 : Fun) : b159 s248 = denF Tryz.prog (gam [(248, s248)]) Tryz.f159 g159 := by kernel_rfl
def s159 : Fun := b159 s248
theorem F159 : Snd Tryz.prog 159 s159 := snd_of hmix (gcons F248 gnil) Tryz.func159 (by kernel_rfl) (by kernel_rfl) (e159 s248)

/-- (*obelisk/interp.Machine).enter -/
def L85n0 (s158 s159 : Fun) : List AV → Hp → Res := fun a b => uc a fun a c => uc c fun c d => uc d fun d e => uc e fun e _ => ltN e d fun f => ifB f (blk 1 (ixA 1 c e fun f => ld1 b f fun f => nl 5 b a fun g => iConv 31 f fun f => iConv 63 f fun f => cl (s159 [g, e, f, (.bool false)] b) fun _ b => .norm [a, c, d, e] b) fun a b => uc a fun a c => uc c fun c d => uc d fun d e => uc e fun e _ => iAdd e (I 1) fun e => .norm [a, c, d, e] b) (.exit 0 [] b)
def b85 (s158 s159 : Fun) : Fun := fun a b => uc a fun a c => uz c (nl 14 b a fun c => na 14 a fun d => st1 b d .nilp fun b => nl 0 b c fun d => nl 1 b c fun e => cl (s158 [a, (I 0), d, e, .nilp] b) fun b d => bNot b fun b => cB b fun b => ifB b (.fail) (nl 2 d c fun b => lenL b fun c => blk 0 (lp (L85n0 s158 s159) most [a, b, c, (I 0)] d) fun _ a => .ret (.tup .nil) a))
def g85 : Hint := (.s .z (.s .z (.s (.s (.r [0, 1, 2, 3, 4, 5, 6, 7, 8, 9, 10]) (.s .z .z)) (.s .z (.b [] (.l [0, 33, 34, 35] (.s .z (.s (.s .z .z) (.s (.b [0, 33, 34, 35] (.s .z .z)) .z)))))))))
theorem e85 (s158 s159 : Fun) : b85 s158 s159 = denF Tryz.prog (gam [(158, s158), (159, s159)]) Tryz.f85 g85 := by kernel_rfl
def s85 : Fun := b85 s158 s159
theorem F85 : Snd Tryz.prog 85 s85 := snd_of hmix (gcons F158 (gcons F159 gnil)) Tryz.func85 (by kernel_rfl) (by kernel_rfl) (e85 s158 s159)

/-- (*obelisk/interp.Machine).top -/
def b87 : Fun := fun a b => uc a fun a c => uz c (nl 6 b a fun c => lenL c fun c => eqN c (I 0) fun c => ifB c (cK .nilp fun a => .ret a b) (nl 6 b a fun c => nl 6 b a fun a => lenL a fun a => iSub a (I 1) fun a => ixA 1 c a fun a => ld1 b a fun a => cK a fun a => .ret a b))
def g87 : Hint := (.s .z (.s (.s .z (.s (.s .z .z) .z)) (.s (.r [0, 1, 2, 3, 4, 5, 6, 7, 8, 9, 10, 11, 12]) .z)))
theorem e87 : b87 = denF Tryz.prog (gam []) Tryz.f87 g87 := by kernel_rfl
def s87 : Fun := b87
theorem F87 : Snd Tryz.prog 87 s87 := snd_of hmix gnil Tryz.func87 (by kernel_rfl) (by kernel_rfl) (e87)

/-- (*obelisk/interp.Machine).uncaught -/
def b160 (s80 s125 s162 : Fun) : Fun := fun a b => uc a fun a c => uz c (nm (.norm [a] b) fun c _ => nm (nck c fun a => .norm [a] b) fun c _ => nm (fa 2 c fun a => .norm [a] b) fun c _ => nm (ld1 b c fun a => .norm [a] b) fun d _ => nm (.norm [a] b) fun e _ => nm (nck e fun a => .norm [a] b) fun e _ => nm (fa 13 e fun a => .norm [a] b) fun e _ => nm (ld1 b e fun a => .norm [a] b) fun f _ => nm (.norm [(.cons (I 0) (.cons (I 0) (.cons (J 0) (.cons (I 0) (.cons (.str 0 0) (.cons (.str 0 0) (.cons (.bool false) (.cons (I 0) (.cons .nils (.cons (I 0) (.cons (I 0) .nil)))))))))))] b) fun g _ => lay g .e 0 fun g h => ifB true (rsv b fun b i => nm (ld1 i e fun a => .norm [a] i) fun e _ => same f e (nm (ld1 i c fun a => .norm [a] i) fun c _ => same d c (nm (cl (s162 [d, f] i) fun a b => .norm [a] b) fun c d => nm (bld [(false, 1, (I 0)), (false, 1, (I 2)), (false, 1, (J 0)), (false, 1, (I 0)), (false, 1, c), (false, 1, (.str 0 0)), (false, 1, (.bool false)), (false, 1, (I 0)), (false, 1, .nils), (false, 1, (I 0)), (false, 1, (I 0))] fun a => .norm [(.agg a)] d) fun c _ => dueK d b h g fun d => nm (stN d 11 (.ptr b 0) c fun a => .norm [(.tup .nil)] a) fun _ c => jn (nl 2 c a fun d => nl 13 c a fun e => cl (s125 [d, e, (I 0)] c) fun c d => eqN c (I 0) fun c => ifB (bnot c) (.fail) (.norm [a, (.ptr b 0)] d)) fun a b => uc a fun a c => uc c fun c _ => ldN b 11 c fun c => cl (s80 [a, c] b) fun _ a => .ret (.tup .nil) a))) .fail)
def g160 : Hint := (.s (.f [(0, 0), (0, 1), (0, 2), (0, 3), (0, 4), (0, 5), (0, 6), (0, 7), (1, 10), (0, 8), (0, 9), (2, 10), (0, 11)]) (.j [0, 2] (.s (.r [0, 1, 2, 3, 4, 5, 6, 7, 8, 9]) (.s .z (.s .z .z))) .z))
theorem e160 (s80 s125 s162 : Fun) : b160 s80 s125 s162 = denF Tryz.prog (gam [(80, s80), (125, s125), (162, s162)]) Tryz.f160 g160 := by kernel_rfl
def s160 : Fun := b160 s80 s125 s162
theorem F160 : Snd Tryz.prog 160 s160 := snd_of hmix (gcons F80 (gcons F125 (gcons F162 gnil))) Tryz.func160 (by kernel_rfl) (by kernel_rfl) (e160 s80 s125 s162)

/-- obelisk/assign.Instance -/
def b251 (s66 s133 s252 s310 : Fun) : Fun := fun a b => uc a fun a c => uc c fun c d => uc d fun d e => uz e (cl (s133 [c] b) fun b e => cT b fun f => cK (nth f 0) fun f => cT b fun b => cK (nth b 1) fun b => mk e (.cons (J 0) (.cons (.str 0 0) (.cons (I 0) (.cons (J 0) .nil)))) fun e g => stN g 4 e f fun e => blk 0 (cB b fun b => ifB b (eqS d (.str 16 154706541852025644484233205990057992554) fun b => ap (gsel (.bool b) false a) fun _ => ap (gsel (.bool b) false c) fun _ => ap (gsel (.bool b) false d) fun _ => gj (.bool b) false (.fail) e fun a c => cB (.bool b) fun b => ap (sel b (.bool true) a) fun a => cK a fun a => .ret a c) (cl (s310 [a, d] e) fun b e => cB b fun b => ifB b (.fail) (.norm [a, c, d] e))) fun a b => uc a fun a c => uc c fun c d => uc d fun d _ => cl (s252 [a, c, d] b) fun a b => cK a fun a => .ret a b)
def g251 : Hint := (.s .z (.s .z (.s (.b [0, 1, 2] (.s .z (.s (.s .z .z) (.s .z (.s .z .z))))) (.s .z .z))))
theorem e251 (s66 s133 s252 s310 : Fun) : b251 s66 s133 s252 s310 = denF Tryz.prog (gam [(66, s66), (133, s133), (252, s252), (310, s310)]) Tryz.f251 g251 := by kernel_rfl
def s251 : Fun := b251 s66 s133 s252 s310
theorem F251 : Snd Tryz.prog 251 s251 := snd_of hmix (gcons F66 (gcons F133 (gcons F252 (gcons F310 gnil)))) Tryz.func251 (by kernel_rfl) (by kernel_rfl) (e251 s66 s133 s252 s310)

/-- obelisk/throws.Find -/
def L161n0 (s55 s250 s251 : Fun) : List AV → Hp → Res := fun a b => uc a fun a c => uc c fun c d => uc d fun d e => uc e fun e f => uc f fun f g => uc g fun g h => uc h fun h _ => ltN h g fun i => ifB i (blk 1 (ixA 4 f h fun i => ldN b 4 i fun i => mk b (.cons (I 0) (.cons (I 0) (.cons (I 0) (.cons (I 0) .nil)))) fun b j => stN j 4 b i fun i => fl 0 i b fun j => ltN d j fun j => ap (gsel (.bool j) false d) fun k => gj (.bool j) false (fa 1 b fun a => .norm [a] i) i fun i l => gj (.bool j) false (ld1 l i fun a => .norm [a] l) l fun i l => gj (.bool j) false (ltN k i fun a => .norm [(.bool (bnot a))] l) l fun i k => cB (.bool j) fun j => ap (sel j (.bool true) i) fun i => cB i fun i => ifB i (.exit 1 [a, c, d, e, f, g, h] k) (nl 1 k c fun i => fl 3 k b fun j => cl (s250 [i, j] k) fun i j => cT i fun k => cK (nth k 0) fun k => cT i fun i => cK (nth i 1) fun i => fl 3 j b fun b => eqN b (I 0) fun b => ap (gsel (.bool b) false i) fun i => ap (gsel (.bool b) false i) fun i => ap (gsel i true a) fun l => ap (gsel i true k) fun m => gj i true (cl (s55 [l, m] j) fun a b => .norm [a] b) j fun j l => gj i true (eqP j .nilp fun a => .norm [(.bool (bnot a))] l) l fun j l => gj (.bool b) false (cB i fun a => ap (sel a j (.bool false)) fun a => .norm [a] l) l fun i j => ap (gsel (.bool b) false i) fun i => ap (gsel i true a) fun l => ap (gsel i true e) fun m => ap (gsel i true k) fun k => gj i true (cl (s251 [l, m, k] j) fun a b => .norm [a] b) j fun j k => gj (.bool b) false (cB i fun a => ap (sel a j (.bool false)) fun a => .norm [a] k) k fun i j => cB (.bool b) fun b => ap (sel b (.bool true) i) fun b => cB b fun b => ifB b (.fail) (.norm [a, c, d, e, f, g, h] j))) fun a b => uc a fun a c => uc c fun c d => uc d fun d e => uc e fun e f => uc f fun f g => uc g fun g h => uc h fun h _ => iAdd h (I 1) fun h => .norm [a, c, d, e, f, g, h] b) (.exit 0 [] b)
def b161 (s55 s250 s251 : Fun) : Fun := fun a b => uc a fun a c => uc c fun c d => uc d fun d e => uc e fun e f => uc f fun f g => uz g (eqP c .nilp fun g => ap (gsel (.bool g) false d) fun h => gj (.bool g) false (ltN h (I 0) fun a => .norm [(.bool a)] b) b fun b h => cB (.bool g) fun g => ap (sel g (.bool true) b) fun b => ap (gsel b false d) fun g => ap (gsel b false c) fun i => gj b false (nck i fun a => .norm [a] h) h fun h i => gj b false (fa 7 h fun a => .norm [a] i) i fun h i => gj b false (ld1 i h fun a => .norm [a] i) i fun h i => gj b false (lenL h fun a => .norm [a] i) i fun h i => gj b false (ltN g h fun a => .norm [(.bool (bnot a))] i) i fun g h => cB b fun b => ap (sel b (.bool true) g) fun b => cB b fun b => ifB b (.fail) (nl 7 h c fun b => ixA 9 b d fun b => fa 4 b fun b => fl 3 h b fun b => lenL b fun d => blk 0 (lp (L161n0 s55 s250 s251) most [a, c, e, f, b, d, (I 0)] h) fun _ a => cK (.int 63 (.negSucc 0)) fun b => .ret b a))
def g161 : Hint := (.s .z (.s (.s .z (.s .z .z)) (.s (.s .z (.b [] (.l [0, 1, 3, 4, 38, 39, 40] (.s .z (.s (.s .z .z) (.s (.b [0, 1, 3, 4, 38, 39, 40] (.s .z (.s (.s .z (.s .z .z)) (.s (.r [0, 1, 2, 3, 4, 5, 6, 7, 8, 9, 10, 11]) (.s .z (.s .z .z)))))) .z)))))) (.s .z .z))))
theorem e161 (s55 s250 s251 : Fun) : b161 s55 s250 s251 = denF Tryz.prog (gam [(55, s55), (250, s250), (251, s251)]) Tryz.f161 g161 := by kernel_rfl
def s161 : Fun := b161 s55 s250 s251
theorem F161 : Snd Tryz.prog 161 s161 := snd_of hmix (gcons F55 (gcons F250 (gcons F251 gnil))) Tryz.func161 (by kernel_rfl) (by kernel_rfl) (e161 s55 s250 s251)

/-- (*obelisk/stack.Stack).Drop -/
def b163 (s234 : Fun) : Fun := fun a b => uc a fun a c => uc c fun c d => uz d (cl (s234 [a] b) fun b d => eqP b .nilp fun e => ap (gsel (.bool e) false c) fun f => gj (.bool e) false (ltN (I 0) f fun a => .norm [(.bool (bnot a))] d) d fun d f => cB (.bool e) fun e => ap (sel e (.bool true) d) fun d => cB d fun d => ifB d (.ret (.tup .nil) f) (nl 6 f b fun d => iMin c d fun c => nl 6 f b fun d => iSub d c fun d => na 6 b fun b => st1 f b d fun b => nl 0 b a fun d => nl 0 b a fun e => lenL e fun e => iSub e c fun e => cutS 1 d none (some e) none fun d => nl 1 b a fun e => nl 1 b a fun f => lenL f fun f => iSub f c fun c => cutS 1 e none (some c) none fun c => na 0 a fun e => st1 b e d fun b => na 1 a fun a => st1 b a c fun a => .ret (.tup .nil) a))
def g163 : Hint := (.s .z (.s (.s .z (.s .z .z)) (.s .z (.s .z (.r [0, 1, 2, 3, 4, 5, 6, 7, 8, 9, 10, 11, 12, 13, 14, 15, 16, 17, 18, 19, 20, 21, 22, 23, 24, 25, 26, 27, 28, 29, 30, 31])))))
theorem e163 (s234 : Fun) : b163 s234 = denF Tryz.prog (gam [(234, s234)]) Tryz.f163 g163 := by kernel_rfl
def s163 : Fun := b163 s234
theorem F163 : Snd Tryz.prog 163 s163 := snd_of hmix (gcons F234 gnil) Tryz.func163 (by kernel_rfl) (by kernel_rfl) (e163 s234)

/-- (*obelisk/stack.Stack).Push -/
def b165 (s234 : Fun) : Fun := fun a b => uc a fun a c => uc c fun c d => uc d fun d e => uz e (cl (s234 [a] b) fun b e => eqP b .nilp fun f => ap (gsel (.bool f) false b) fun g => gj (.bool f) false (nck g fun a => .norm [a] e) e fun e g => gj (.bool f) false (fa 6 e fun a => .norm [a] g) g fun e g => gj (.bool f) false (ld1 g e fun a => .norm [a] g) g fun e g => ap (gsel (.bool f) false b) fun h => gj (.bool f) false (nck h fun a => .norm [a] g) g fun g h => gj (.bool f) false (fa 5 g fun a => .norm [a] h) h fun g h => gj (.bool f) false (ld1 h g fun a => .norm [a] h) h fun g h => gj (.bool f) false (ltN e g fun a => .norm [(.bool (bnot a))] h) h fun e g => cB (.bool f) fun f => ap (sel f (.bool true) e) fun e => cB e fun e => ifB e (.fail) (nl 6 g b fun e => iAdd e (I 1) fun e => na 6 b fun b => st1 g b e fun b => nm (.norm [a] b) fun e _ => nm (.norm [a] b) fun f _ => nm (.norm [a] b) fun g _ => nm (nck g fun a => .norm [a] b) fun g _ => nm (fa 0 g fun a => .norm [a] b) fun g _ => nm (ld1 b g fun a => .norm [a] b) fun h _ => nm (.norm [c] b) fun c _ => nm (.norm [a] b) fun a _ => nm (nck a fun a => .norm [a] b) fun a _ => nm (fa 1 a fun a => .norm [a] b) fun a _ => nm (ld1 b a fun a => .norm [a] b) fun i _ => nm (.norm [d] b) fun d _ => nm (bld [(false, 1, c)] fun a => .norm [a] b) fun c _ => lay c .e 0 fun c j => ifB (Nat.beq j (Nat.mul 1 1)) (rsv b fun b k => nm (ld1 k a fun a => .norm [a] k) fun l _ => same i l (nm (ld1 k g fun a => .norm [a] k) fun l _ => same h l (nm (bld [(false, 1, d)] fun a => .norm [a] k) fun d _ => lay d .e 0 fun d l => ifB (Nat.beq l (Nat.mul 1 1)) (rsv k fun k m => nm (ld1 m a fun a => .norm [a] m) fun n _ => same i n (nm (ld1 m g fun a => .norm [a] m) fun n _ => same h n (dueK m b j c fun c => nm (ld1 c a fun a => .norm [a] c) fun j _ => same i j (nm (ld1 c g fun a => .norm [a] c) fun g _ => same h g (nm (apd c 1 8 h (.sl b 0 1 1 (some 1)) fun a b => .norm [a] b) fun b c => nm (ld1 c a fun a => .norm [a] c) fun g _ => same i g (dueK c k l d fun c => nm (ld1 c a fun a => .norm [a] c) fun a _ => same i a (nm (apd c 1 1 i (.sl k 0 1 1 (some 1)) fun a b => .norm [a] b) fun a c => nm (nck e fun a => .norm [a] c) fun d _ => nm (fa 0 d fun a => .norm [a] c) fun d _ => nm (st1 c d b fun a => .norm [(.tup .nil)] a) fun _ b => nm (nck f fun a => .norm [a] b) fun c _ => nm (fa 1 c fun a => .norm [a] b) fun c _ => nm (st1 b c a fun a => .norm [(.tup .nil)] a) fun _ a => cK (.bool true) fun b => .ret b a))))))) .fail))) .fail))
def g165 : Hint := (.s .z (.s .z (.s (.s (.r [0, 1, 2, 3, 4, 5, 6, 7, 8, 9, 10, 11, 12]) (.s .z .z)) (.s .z (.s (.f [(0, 0), (0, 1), (0, 2), (0, 3), (0, 4), (0, 5), (0, 6), (0, 9), (0, 10), (0, 11), (0, 12), (0, 13), (1, 7), (1, 14), (2, 7), (0, 8), (2, 14), (0, 15), (0, 16), (0, 17), (0, 18), (0, 19), (0, 20), (0, 21)]) (.s .z .z))))))
theorem e165 (s234 : Fun) : b165 s234 = denF Tryz.prog (gam [(234, s234)]) Tryz.f165 g165 := by kernel_rfl
def s165 : Fun := b165 s234
theorem F165 : Snd Tryz.prog 165 s165 := snd_of hmix (gcons F234 gnil) Tryz.func165 (by kernel_rfl) (by kernel_rfl) (e165 s234)

/-- (*obelisk/interp.Machine).pop -/
def b166 (s149 : Fun) : Fun := fun a b => uc a fun a c => uz c (nl 5 b a fun c => cl (s149 [c] b) fun _ b => nl 6 b a fun c => nl 6 b a fun d => lenL d fun d => iSub d (I 1) fun d => cutS 1 c none (some d) none fun c => na 6 a fun a => st1 b a c fun a => .ret (.tup .nil) a)
def g166 : Hint := (.s .z (.r [0, 1, 2, 3, 4, 5, 6, 7, 8, 9, 10, 11, 12, 13, 14]))
theorem e166 (s149 : Fun) : b166 s149 = denF Tryz.prog (gam [(149, s149)]) Tryz.f166 g166 := by kernel_rfl
def s166 : Fun := b166 s149
theorem F166 : Snd Tryz.prog 166 s166 := snd_of hmix (gcons F149 gnil) Tryz.func166 (by kernel_rfl) (by kernel_rfl) (e166 s149)

/-- (*obelisk/interp.Machine).settle -/
def L86n0 (s87 s160 s161 s162 s163 s165 s166 : Fun) : List AV → Hp → Res := fun a b => uc a fun a _ => nl 15 b a fun c => ap (gsel c true a) fun d => gj c true (nck d fun a => .norm [a] b) b fun b d => gj c true (fa 13 b fun a => .norm [a] d) d fun b d => gj c true (ld1 d b fun a => .norm [a] d) d fun b d => gj c true (eqN b (I 0) fun a => .norm [(.bool (bnot a))] d) d fun b d => cB c fun c => ap (sel c b (.bool false)) fun b => cB b fun b => ifB b (blk 1 (cl (s87 [a] d) fun b c => eqP b .nilp fun d => ifB d (cl (s160 [a] c) fun _ a => .ret (.tup .nil) a) (na 0 a fun d => ld1 c d fun e => na 2 b fun f => ld1 c f fun g => na 3 b fun h => ld1 c h fun i => na 4 b fun j => ld1 c j fun k => nl 2 c a fun l => nl 13 c a fun m => cl (s162 [l, m] c) fun c l => ld1 l j fun j => same k j (ld1 l h fun h => same i h (ld1 l f fun f => same g f (ld1 l d fun d => same e d (cl (s161 [e, g, i, k, c] l) fun c d => ltN c (I 0) fun c => ifB (bnot c) (.fail) (cl (s166 [a] d) fun _ c => nl 0 c b fun b => eqN b (I 1) fun b => ifB b (.fail) (.norm [a] c)))))))) fun a b => uc a fun a _ => .norm [a] b) (.exit 0 [] d)
def b86 (s87 s160 s161 s162 s163 s165 s166 : Fun) : Fun := fun a b => uc a fun a c => uz c (blk 0 (lp (L86n0 s87 s160 s161 s162 s163 s165 s166) most [a] b) fun _ a => .ret (.tup .nil) a)
def g86 : Hint := (.b [] (.l [0] (.s (.s .z (.s .z .z)) (.b [0] (.s .z (.s (.s .z (.s (.s .z .z) .z)) (.s (.r [0, 1, 2, 3, 4, 5, 6, 7, 8, 9, 10, 11, 12, 13, 14, 15, 16, 17, 18, 19, 20, 21, 22, 23, 24, 25, 26]) (.s (.s .z (.s .z .z)) (.s .z (.s .z (.s .z .z)))))))))))
theorem e86 (s87 s160 s161 s162 s163 s165 s166 : Fun) : b86 s87 s160 s161 s162 s163 s165 s166 = denF Tryz.prog (gam [(87, s87), (160, s160), (161, s161), (162, s162), (163, s163), (165, s165), (166, s166)]) Tryz.f86 g86 := by kernel_rfl
def s86 : Fun := b86 s87 s160 s161 s162 s163 s165 s166
theorem F86 : Snd Tryz.prog 86 s86 := snd_of hmix (gcons F87 (gcons F160 (gcons F161 (gcons F162 (gcons F163 (gcons F165 (gcons F166 gnil))))))) Tryz.func86 (by kernel_rfl) (by kernel_rfl) (e86 s87 s160 s161 s162 s163 s165 s166)

/-- (*obelisk/interp.Machine).Begin -/
def b57 (s55 s60 s79 s80 s81 s82 s83 s84 s85 s86 : Fun) : Fun := fun a b => uc a fun a c => uc c fun c d => uc d fun d e => uc e fun e f => uc f fun f g => uz g (mk b (cells a) fun a b => mk b (.cons (I 0) (.cons (I 0) (.cons (J 0) (.cons (I 0) (.cons (.str 0 0) (.cons (.str 0 0) (.cons (.bool false) (.cons (I 0) (.cons .nils (.cons (I 0) (.cons (I 0) .nil))))))))))) fun b g => ld1 g a fun h => eqP h .nilp fun h => gj (.bool h) false (ld1 g a fun a => .norm [a] g) g fun g i => gj (.bool h) false (nck g fun a => .norm [a] i) i fun g i => gj (.bool h) false (fa 0 g fun a => .norm [a] i) i fun g i => gj (.bool h) false (ld1 i g fun a => .norm [a] i) i fun g i => gj (.bool h) false (eqP g .nilp fun a => .norm [(.bool a)] i) i fun g i => cB (.bool h) fun h => ap (sel h (.bool true) g) fun g => cB g fun g => ifB g (.fail) (jn (ld1 i a fun g => nl 15 i g fun g => cB g fun g => ifB g (ld1 i a fun g => bld [(false, 1, (I 0)), (false, 1, (I 3)), (false, 1, (J 0)), (false, 1, (I 0)), (false, 1, (.str 0 0)), (false, 1, (.str 0 0)), (false, 1, (.bool false)), (false, 1, (I 0)), (false, 1, .nils), (false, 1, (I 0)), (false, 1, (I 0))] fun h => cl (s80 [g, (.agg h)] i) fun _ g => .norm [c, d, e, f, a, b, (.fn (.func 79) .nil (.cons a .nil))] g) (.norm [c, d, e, f, a, b, (.fn (.func 79) .nil (.cons a .nil))] i)) fun a b => uc a fun a c => uc c fun c d => uc d fun d e => uc e fun e f => uc f fun f g => uc g fun g h => uc h fun h _ => ld1 b f fun i => na 17 i fun i => st1 b i (I 0) fun b => ld1 b f fun i => nl 0 b i fun i => cl (s81 [i, a] b) fun b i => bNot b fun b => cB b fun b => ifB b (.fail) (ld1 i f fun b => nl 1 i b fun b => cl (s82 [b, a] i) fun b i => eqN b (I 0) fun j => ifB (bnot j) (cl (dyn (gam [(55, s55), (60, s60), (79, s79), (80, s80), (81, s81), (82, s82), (83, s83), (84, s84), (85, s85), (86, s86)]) h [b] i) fun a b => stN b 11 g a fun a => ldN a 11 g fun b => .ret b a) (ld1 i f fun b => nl 0 i b fun b => cl (s55 [b, a] i) fun b i => lenL d fun j => cl (s83 [b, c, j] i) fun b c => ltN b (I 0) fun i => ifB i (cl (dyn (gam [(55, s55), (60, s60), (79, s79), (80, s80), (81, s81), (82, s82), (83, s83), (84, s84), (85, s85), (86, s86)]) h [(I 9)] c) fun a b => stN b 11 g a fun a => ldN a 11 g fun b => .ret b a) (ld1 c f fun h => ld1 c f fun i => ld1 c f fun j => bld [(false, 1, (I 0)), (false, 1, (I 0)), (false, 1, (J 0)), (false, 1, (I 0)), (false, 1, (.str 0 0)), (false, 1, (.str 0 0)), (false, 1, (.bool false)), (false, 1, (I 0)), (false, 1, .nils), (false, 1, (I 0)), (false, 1, (I 0))] fun k => iMax e (I 0) fun e => ld1 c f fun l => same j l (ld1 c f fun l => same i l (ld1 c f fun l => same h l (iMin e (I 100000) fun e => ld1 c f fun l => same j l (ld1 c f fun l => same i l (ld1 c f fun l => same h l (na 16 h fun h => st1 c h e fun c => ld1 c f fun e => same j e (ld1 c f fun e => same i e (na 15 i fun e => st1 c e (.bool true) fun c => ld1 c f fun e => same j e (na 20 j fun e => stN c 11 e (.agg k) fun c => ld1 c f fun e => apd c 1 8 .nils d fun c d => ld1 d f fun h => same e h (bld [(false, 1, a), (false, 1, b), (false, 1, c)] fun b => mk d (cells (.agg b)) fun b c => ld1 c f fun d => same e d (na 14 e fun d => st1 c d b fun b => jn (ld1 b f fun c => cl (s84 [c, a] b) fun a b => eqN a (I 0) fun a => ifB a (ld1 b f fun a => cl (s85 [a] b) fun _ a => .norm [f, g] a) (.norm [f, g] b)) fun a b => uc a fun a c => uc c fun c _ => ld1 b a fun d => cl (s86 [d] b) fun _ b => ld1 b a fun d => nl 4 b d fun e => ld1 b a fun f => na 19 f fun g => ld1 b g fun h => cl (s60 [e] b) fun b e => ld1 e g fun g => same h g (ld1 e a fun g => same f g (ld1 e a fun a => same d a (bld [(false, 1, (I 0)), (false, 1, (I 0)), (false, 1, (J 0)), (false, 1, (I 0)), (false, 1, (.str 0 0)), (false, 1, (.str 0 0)), (false, 1, (.bool false)), (false, 1, (I 0)), (false, 1, b), (false, 1, (I 0)), (false, 1, h)] fun a => stN e 11 c (.agg a) fun a => ldN a 11 c fun b => .ret b a)))))))))))))))))))
def g57 : Hint := (.s .z (.s .z (.s (.s .z (.s .z .z)) (.j [1, 2, 3, 4, 5, 10, 11] (.s .z (.s .z .z)) (.s .z (.s (.s .z (.s .z .z)) (.s (.s .z (.s .z (.s (.s .z .z) .z))) (.s .z (.s (.s .z (.s (.s .z .z) .z)) (.s (.r [0, 1, 2, 3, 6, 4, 5, 7, 8, 9, 10, 11, 12, 13, 14, 15]) (.s (.r [0, 1, 2, 3, 4, 5, 6, 7, 8, 9]) (.j [5, 10] (.s .z (.s .z .z)) (.s .z (.s (.r [0, 1, 2, 3, 5, 6, 7, 8, 4, 9, 10]) .z))))))))))))))
theorem e57 (s55 s60 s79 s80 s81 s82 s83 s84 s85 s86 : Fun) : b57 s55 s60 s79 s80 s81 s82 s83 s84 s85 s86 = denF Tryz.prog (gam [(55, s55), (60, s60), (79, s79), (80, s80), (81, s81), (82, s82), (83, s83), (84, s84), (85, s85), (86, s86)]) Tryz.f57 g57 := by kernel_rfl
def s57 : Fun := b57 s55 s60 s79 s80 s81 s82 s83 s84 s85 s86
theorem F57 : Snd Tryz.prog 57 s57 := snd_of hmix (gcons F55 (gcons F60 (gcons F79 (gcons F80 (gcons F81 (gcons F82 (gcons F83 (gcons F84 (gcons F85 (gcons F86 gnil)))))))))) Tryz.func57 (by kernel_rfl) (by kernel_rfl) (e57 s55 s60 s79 s80 s81 s82 s83 s84 s85 s86)

/-- (*obelisk/stack.Stack).SetAt -/
def b169 (s234 : Fun) : Fun := fun a b => uc a fun a c => uc c fun c d => uz d (cl (s234 [a] b) fun a b => eqP a .nilp fun d => ifB (bnot d) (na 2 a fun a => st1 b a c fun a => .ret (.tup .nil) a) (.ret (.tup .nil) b))
def g169 : Hint := (.s .z (.s .z (.s .z .z)))
theorem e169 (s234 : Fun) : b169 s234 = denF Tryz.prog (gam [(234, s234)]) Tryz.f169 g169 := by kernel_rfl
def s169 : Fun := b169 s234
theorem F169 : Snd Tryz.prog 169 s169 := snd_of hmix (gcons F234 gnil) Tryz.func169 (by kernel_rfl) (by kernel_rfl) (e169 s234)

/-- (*obelisk/stack.Stack).Local -/
def b261 (s248 : Fun) : Fun := fun a b => uc a fun a c => uc c fun c d => uz d (cl (s248 [a, c] b) fun b c => ltN b (I 0) fun d => ifB d (.fail) (nl 0 c a fun d => ixA 1 d b fun d => ld1 c d fun d => nl 1 c a fun a => ixA 1 a b fun a => ld1 c a fun a => cK d fun b => cK a fun a => .ret (.tup (.cons b (.cons a .nil))) c))
def g261 : Hint := (.s .z (.s .z (.s (.s .z (.s .z .z)) (.s (.r [0, 1, 2, 3, 4, 5, 6, 7, 8, 9, 10, 11, 12, 13, 14, 15]) .z))))
theorem e261 (s248 : Fun) : b261 s248 = denF Tryz.prog (gam [(248, s248)]) Tryz.f261 g261 := by kernel_rfl
def s261 : Fun := b261 s248
theorem F261 : Snd Tryz.prog 261 s261 := snd_of hmix (gcons F248 gnil) Tryz.func261 (by kernel_rfl) (by kernel_rfl) (e261 s248)

/-- (*obelisk/stack.Stack).Peek -/
def b327 (s234 : Fun) : Fun := fun a b => uc a fun a c => uc c fun c d => uz d (cl (s234 [a] b) fun b d => eqP b .nilp fun e => ap (gsel (.bool e) false c) fun f => gj (.bool e) false (ltN f (I 0) fun a => .norm [(.bool a)] d) d fun d f => cB (.bool e) fun e => ap (sel e (.bool true) d) fun d => ap (gsel d false c) fun e => ap (gsel d false b) fun b => gj d false (nck b fun a => .norm [a] f) f fun b f => gj d false (fa 6 b fun a => .norm [a] f) f fun b f => gj d false (ld1 f b fun a => .norm [a] f) f fun b f => gj d false (ltN e b fun a => .norm [(.bool (bnot a))] f) f fun b e => cB d fun d => ap (sel d (.bool true) b) fun b => cB b fun b => ifB b (.fail) (nl 0 e a fun b => lenL b fun b => iSub b (I 1) fun b => iSub b c fun b => nl 0 e a fun c => ixA 1 c b fun c => ld1 e c fun c => nl 1 e a fun a => ixA 1 a b fun a => ld1 e a fun a => cK c fun b => cK a fun a => .ret (.tup (.cons b (.cons a .nil))) e))
def g327 : Hint := (.s .z (.s .z (.s (.s .z (.s .z .z)) (.s .z (.s (.r [0, 1, 2, 3, 4, 5, 6, 7, 8, 9, 10, 11, 12, 13, 14, 15]) .z)))))
theorem e327 (s234 : Fun) : b327 s234 = denF Tryz.prog (gam [(234, s234)]) Tryz.f327 g327 := by kernel_rfl
def s327 : Fun := b327 s234
theorem F327 : Snd Tryz.prog 327 s327 := snd_of hmix (gcons F234 gnil) Tryz.func327 (by kernel_rfl) (by kernel_rfl) (e327 s234)

/-- (*obelisk/stack.Stack).Pop -/
def b321 (s163 s327 : Fun) : Fun := fun a b => uc a fun a c => uz c (cl (s327 [a, (I 0)] b) fun b c => cT b fun d => cK (nth d 0) fun d => cT b fun b => cK (nth b 1) fun b => cl (s163 [a, (I 1)] c) fun _ a => cK d fun c => cK b fun b => .ret (.tup (.cons c (.cons b .nil))) a)
def g321 : Hint := (.s .z (.s .z (.s .z (.s .z .z))))
theorem e321 (s163 s327 : Fun) : b321 s163 s327 = denF Tryz.prog (gam [(163, s163), (327, s327)]) Tryz.f321 g321 := by kernel_rfl
def s321 : Fun := b321 s163 s327
theorem F321 : Snd Tryz.prog 321 s321 := snd_of hmix (gcons F163 (gcons F327 gnil)) Tryz.func321 (by kernel_rfl) (by kernel_rfl) (e321 s163 s327)

/-- (*obelisk/interp.Machine).popLong -/
def b320 (s321 : Fun) : Fun := fun a b => uc a fun a c => uz c (nl 5 b a fun c => cl (s321 [c] b) fun _ b => nl 5 b a fun a => cl (s321 [a] b) fun a b => cT a fun c => cK (nth c 0) fun c => cT a fun a => cK (nth a 1) fun _ => cK c fun a => .ret a b)
def g320 : Hint := (.s .z (.s .z (.s .z (.s .z .z))))
theorem e320 (s321 : Fun) : b320 s321 = denF Tryz.prog (gam [(321, s321)]) Tryz.f320 g320 := by kernel_rfl
def s320 : Fun := b320 s321
theorem F320 : Snd Tryz.prog 320 s320 := snd_of hmix (gcons F321 gnil) Tryz.func320 (by kernel_rfl) (by kernel_rfl) (e320 s321)

/-- (*obelisk/interp.Machine).result -/
def b382 (s165 : Fun) : Fun := fun a b => uc a fun a c => uc c fun c d => uc d fun d e => uc e fun e f => uz f (jn (ltN (I 0) e fun f => ifB f (nl 5 b a fun f => cl (s165 [f, c, d] b) fun _ b => .norm [a, e] b) (.norm [a, e] b)) fun a b => uc a fun a c => uc c fun c _ => ltN (I 1) c fun c => ifB c (nl 5 b a fun a => cl (s165 [a, (I 0), (.bool false)] b) fun _ a => .ret (.tup .nil) a) (.ret (.tup .nil) b))
def g382 : Hint := (.j [0, 3] (.s .z (.s .z .z)) (.s .z (.s .z .z)))
theorem e382 (s165 : Fun) : b382 s165 = denF Tryz.prog (gam [(165, s165)]) Tryz.f382 g382 := by kernel_rfl
def s382 : Fun := b382 s165
theorem F382 : Snd Tryz.prog 382 s382 := snd_of hmix (gcons F165 gnil) Tryz.func382 (by kernel_rfl) (by kernel_rfl) (e382 s165)

/-- (*obelisk/interp.Machine).long -/
def b322 (s382 : Fun) : Fun := fun a b => uc a fun a c => uc c fun c d => uz d (cl (s382 [a, c, (.bool false), (I 2)] b) fun _ a => .ret (.tup .nil) a)
def g322 : Hint := .z
theorem e322 (s382 : Fun) : b322 s382 = denF Tryz.prog (gam [(382, s382)]) Tryz.f322 g322 := by kernel_rfl
def s322 : Fun := b322 s382
theorem F322 : Snd Tryz.prog 322 s322 := snd_of hmix (gcons F382 gnil) Tryz.func322 (by kernel_rfl) (by kernel_rfl) (e322 s382)

/-- (*obelisk/interp.Machine).variable -/
def b256 (s159 s165 s261 s320 s321 s322 : Fun) : Fun := fun a b => uc a fun a c => uc c fun c d => uc d fun d e => uc e fun e f => uz f (blk 0 (ap (gsel e true d) fun f => gj e true (eqN f (J 74) fun a => .norm [(.bool a)] b) b fun b f => cB e fun g => ap (sel g b (.bool false)) fun b => cB b fun b => ifB b (na 5 a fun b => ld1 f b fun d => cl (s320 [a] f) fun e f => ld1 f b fun b => same d b (cl (s159 [d, c, e, (.bool false)] f) fun _ b => nl 5 b a fun a => iAdd c (I 1) fun c => cl (s159 [a, c, (I 0), (.bool false)] b) fun _ a => .norm [] a)) (cB e fun b => ifB b (nl 5 f a fun b => cl (s321 [b] f) fun b d => cT b fun e => cK (nth e 0) fun e => cT b fun b => cK (nth b 1) fun b => nl 5 d a fun a => cl (s159 [a, c, e, b] d) fun _ a => .norm [] a) (eqN d (J 74) fun b => ifB b (nl 5 f a fun b => cl (s261 [b, c] f) fun b c => cT b fun d => cK (nth d 0) fun d => cT b fun b => cK (nth b 1) fun _ => cl (s322 [a, d] c) fun _ a => .norm [] a) (nl 5 f a fun b => cl (s261 [b, c] f) fun b c => cT b fun d => cK (nth d 0) fun d => cT b fun b => cK (nth b 1) fun b => nl 5 c a fun a => cl (s165 [a, d, b] c) fun _ a => .norm [] a)))) fun _ a => .ret (.tup .nil) a)
def g256 : Hint := (.b [] (.s .z (.s (.s (.r [0, 1, 2, 3, 4, 5, 6, 7]) .z) (.s .z (.s (.s .z .z) (.s .z (.s (.s .z .z) (.s .z .z))))))))
theorem e256 (s159 s165 s261 s320 s321 s322 : Fun) : b256 s159 s165 s261 s320 s321 s322 = denF Tryz.prog (gam [(159, s159), (165, s165), (261, s261), (320, s320), (321, s321), (322, s322)]) Tryz.f256 g256 := by kernel_rfl
def s256 : Fun := b256 s159 s165 s261 s320 s321 s322
theorem F256 : Snd Tryz.prog 256 s256 := snd_of hmix (gcons F159 (gcons F165 (gcons F261 (gcons F320 (gcons F321 (gcons F322 gnil)))))) Tryz.func256 (by kernel_rfl) (by kernel_rfl) (e256 s159 s165 s261 s320 s321 s322)

/-- (*obelisk/interp.Machine).next -/
def b257 (s168 : Fun) : Fun := fun a b => uc a fun _ a => uc a fun a c => uz c (nm (.norm [a] b) fun c _ => nm (nck c fun a => .norm [a] b) fun c _ => nm (fa 2 c fun a => .norm [a] b) fun c _ => nm (ld1 b c fun a => .norm [a] b) fun d _ => nm (nck d fun a => .norm [a] b) fun e _ => nm (fa 7 e fun a => .norm [a] b) fun e _ => nm (ld1 b e fun a => .norm [a] b) fun f _ => nm (.norm [a] b) fun g _ => nm (nck g fun a => .norm [a] b) fun g _ => nm (fa 3 g fun a => .norm [a] b) fun g _ => nm (ld1 b g fun a => .norm [a] b) fun h _ => nm (ixA 9 f h fun a => .norm [a] b) fun i _ => nm (fa 4 i fun a => .norm [a] b) fun i _ => nm (fa 2 i fun a => .norm [a] b) fun i _ => nm (ld1 b i fun a => .norm [a] b) fun j _ => nm (.norm [a] b) fun k _ => nm (nck k fun a => .norm [a] b) fun k _ => nm (fa 4 k fun a => .norm [a] b) fun k _ => nm (ld1 b k fun a => .norm [a] b) fun l _ => nm (.norm [(.cons (I 0) (.cons (I 0) (.cons (I 0) (.cons (.bool false) (.cons (I 0) (.cons (I 0) (.cons .nils (.cons .nils .nil))))))))] b) fun m _ => lay m .e 0 fun m n => ifB true (rsv b fun b o => nm (ld1 o k fun a => .norm [a] o) fun k _ => same l k (nm (ld1 o i fun a => .norm [a] o) fun i _ => same j i (nm (ld1 o g fun a => .norm [a] o) fun i _ => same h i (nm (ld1 o e fun a => .norm [a] o) fun i _ => same f i (nm (ld1 o c fun a => .norm [a] o) fun i _ => same d i (nm (cl (s168 [j, l] o) fun a b => .norm [a] b) fun i j => nm (ld1 j g fun a => .norm [a] j) fun k _ => same h k (nm (ld1 j e fun a => .norm [a] j) fun k _ => same f k (nm (ld1 j c fun a => .norm [a] j) fun k _ => same d k (nm (.norm [i] j) fun i _ => nm (cT i fun a => cK (nth a 0) fun a => .norm [a] j) fun k _ => nm (cT i fun a => cK (nth a 1) fun a => .norm [a] j) fun i _ => dueK j b n m fun j => nm (ld1 j g fun a => .norm [a] j) fun g _ => same h g (nm (ld1 j e fun a => .norm [a] j) fun e _ => same f e (nm (ld1 j c fun a => .norm [a] j) fun c _ => same d c (nm (stN j 8 (.ptr b 0) k fun a => .norm [(.tup .nil)] a) fun _ c => nm (.norm [i] c) fun _ _ => fl 0 c (.ptr b 0) fun d => fl 1 c (.ptr b 0) fun b => iAdd d b fun b => na 4 a fun d => st1 c d b fun b => na 1 a fun a => st1 b a (I 0) fun a => .ret (.tup .nil) a)))))))))))) .fail)
def g257 : Hint := (.s (.f [(0, 0), (0, 1), (0, 2), (0, 3), (0, 4), (0, 5), (0, 6), (0, 7), (0, 8), (0, 9), (0, 10), (0, 11), (0, 12), (0, 13), (0, 14), (0, 15), (0, 16), (0, 17), (0, 18), (1, 23), (0, 19), (0, 20), (0, 21), (0, 22), (2, 23), (0, 24), (0, 25)]) .z)
theorem e257 (s168 : Fun) : b257 s168 = denF Tryz.prog (gam [(168, s168)]) Tryz.f257 g257 := by kernel_rfl
def s257 : Fun := b257 s168
theorem F257 : Snd Tryz.prog 257 s257 := snd_of hmix (gcons F168 gnil) Tryz.func257 (by kernel_rfl) (by kernel_rfl) (e257 s168)

/-- (*obelisk/interp.Machine).constant -/
def b258 (s154 s165 s243 s257 s322 : Fun) : Fun := fun a b => uc a fun a c => uc c fun c d => uc d fun d e => uz e (mk b (cells d) fun b d => nl 2 d c fun e => nl 1 d e fun e => fl 2 d b fun f => blk 0 (eqN f (I 0) fun g => ifB g (.norm [a, c] d) (eqN f (I 1) fun g => ifB g (nl 5 d a fun b => cl (s165 [b, (I 0), (.bool true)] d) fun _ b => .norm [a, c] b) (eqN f (I 9) fun g => ap (gsel (.bool g) false f) fun h => gj (.bool g) false (eqN h (I 10) fun a => .norm [(.bool a)] d) d fun d h => cB (.bool g) fun g => ap (sel g (.bool true) d) fun d => cB d fun d => ifB d (fl 4 h b fun b => cl (s322 [a, b] h) fun _ b => .norm [a, c] b) (eqN f (I 20) fun d => ifB d (fl 4 h b fun b => ixA 5 e b fun b => fl 2 h b fun b => cl (s322 [a, b] h) fun _ b => .norm [a, c] b) (eqN f (I 18) fun d => ap (gsel (.bool d) false f) fun g => gj (.bool d) false (eqN g (I 19) fun a => .norm [(.bool a)] h) h fun g h => cB (.bool d) fun d => ap (sel d (.bool true) g) fun d => ap (gsel d true e) fun g => gj d true (fa 4 b fun a => .norm [a] h) h fun h i => gj d true (ld1 i h fun a => .norm [a] i) i fun h i => gj d true (ixA 5 g h fun a => .norm [a] i) i fun g h => gj d true (fa 0 g fun a => .norm [a] h) h fun g h => gj d true (ld1 h g fun a => .norm [a] h) h fun g h => gj d true (eqN g (I 8) fun a => .norm [(.bool a)] h) h fun g h => cB d fun d => ap (sel d g (.bool false)) fun d => cB d fun d => ifB d (fl 4 h b fun b => cl (s243 [a, e, b] h) fun b d => eqN b (I 0) fun e => ifB e (.fail) (nl 5 d a fun e => cl (s165 [e, b, (.bool true)] d) fun _ b => .norm [a, c] b)) (eqN f (I 18) fun d => ap (gsel (.bool d) false f) fun e => gj (.bool d) false (eqN e (I 19) fun a => .norm [(.bool a)] h) h fun e f => cB (.bool d) fun d => ap (sel d (.bool true) e) fun d => cB d fun d => ifB d (.fail) (nl 5 f a fun d => fl 4 f b fun b => cl (s165 [d, b, (.bool false)] f) fun _ b => .norm [a, c] b))))))) fun a b => uc a fun a c => uc c fun c _ => cl (s257 [a, c] b) fun _ a => .ret (.tup .nil) a)
def g258 : Hint := (.s .z (.s .z (.s (.s .z (.b [0, 1] (.s .z (.s .z (.s .z (.s .z (.s .z (.s .z (.s .z (.s .z (.s .z (.s (.s .z (.s (.s .z (.s .z .z)) .z)) (.s .z (.s .z (.r [0, 1, 2, 3, 4, 5, 6]))))))))))))))) .z)))
theorem e258 (s154 s165 s243 s257 s322 : Fun) : b258 s154 s165 s243 s257 s322 = denF Tryz.prog (gam [(154, s154), (165, s165), (243, s243), (257, s257), (322, s322)]) Tryz.f258 g258 := by kernel_rfl
def s258 : Fun := b258 s154 s165 s243 s257 s322
theorem F258 : Snd Tryz.prog 258 s258 := snd_of hmix (gcons F154 (gcons F165 (gcons F243 (gcons F257 (gcons F322 gnil))))) Tryz.func258 (by kernel_rfl) (by kernel_rfl) (e258 s154 s165 s243 s257 s322)

/-- (*obelisk/interp.Machine).peek -/
def b323 (s327 : Fun) : Fun := fun a b => uc a fun a c => uc c fun c d => uz d (nl 5 b a fun a => cl (s327 [a, c] b) fun a b => cT a fun c => cK (nth c 0) fun c => cT a fun a => cK (nth a 1) fun _ => cK c fun a => .ret a b)
def g323 : Hint := (.s .z (.s .z (.s .z .z)))
theorem e323 (s327 : Fun) : b323 s327 = denF Tryz.prog (gam [(327, s327)]) Tryz.f323 g323 := by kernel_rfl
def s323 : Fun := b323 s327
theorem F323 : Snd Tryz.prog 323 s323 := snd_of hmix (gcons F327 gnil) Tryz.func323 (by kernel_rfl) (by kernel_rfl) (e323 s327)

/-- (*obelisk/interp.Machine).element -/
def b259 (s125 s154 s163 s165 s174 s257 s322 s323 : Fun) : Fun := fun a b => uc a fun a c => uc c fun c d => uc d fun d e => uz e (jn (ltN d (I 79) fun e => ifB (bnot e) (.fail) (.norm [a, c, d, (I 0)] b)) fun a b => uc a fun a c => uc c fun _ c => uc c fun _ c => uc c fun c _ => cl (s323 [a, c] b) fun _ b => iAdd c (I 1) fun c => cl (s323 [a, c] b) fun b c => blk 0 (eqN b (I 0) fun b => ifB b (cl (s154 [a, (I 17)] c) fun _ a => .ret (.tup .nil) a) (.fail)) fun a b => uc a fun a c => uc c fun c d => uc d fun d e => uc e fun e f => uc f fun f g => uc g fun g _ => ltN (I 0) e fun e => ifB e (.fail) (nl 2 b a fun e => cl (s125 [e, g, f] b) fun b e => nl 5 e a fun f => cl (s163 [f, (I 2)] e) fun _ e => blk 1 (eqN d (I 47) fun f => ifB f (cl (s322 [a, b] e) fun _ b => .norm [a, c] b) (nl 5 e a fun f => eqN d (I 50) fun d => cl (s165 [f, b, (.bool d)] e) fun _ b => .norm [a, c] b)) fun a b => uc a fun a c => uc c fun c _ => cl (s257 [a, c] b) fun _ a => .ret (.tup .nil) a))
def g259 : Hint := (.s .z (.j [0, 1, 2, 6] (.s .z (.s .z .z)) (.s .z (.s (.b [0, 1, 2, 6, 7, 8] (.s .z (.s (.s .z .z) .z))) (.s (.s .z (.s .z .z)) (.s .z (.s .z (.s (.s .z (.b [0, 1] (.s .z (.s .z .z)))) .z))))))))
theorem e259 (s125 s154 s163 s165 s174 s257 s322 s323 : Fun) : b259 s125 s154 s163 s165 s174 s257 s322 s323 = denF Tryz.prog (gam [(125, s125), (154, s154), (163, s163), (165, s165), (174, s174), (257, s257), (322, s322), (323, s323)]) Tryz.f259 g259 := by kernel_rfl
def s259 : Fun := b259 s125 s154 s163 s165 s174 s257 s322 s323
theorem F259 : Snd Tryz.prog 259 s259 := snd_of hmix (gcons F125 (gcons F154 (gcons F163 (gcons F165 (gcons F174 (gcons F257 (gcons F322 (gcons F323 gnil)))))))) Tryz.func259 (by kernel_rfl) (by kernel_rfl) (e259 s125 s154 s163 s165 s174 s257 s322 s323)

/-- (*obelisk/interp.Machine).take -/
def L325n0 (s321 : Fun) : List AV → Hp → Res := fun a b => uc a fun a c => uc c fun c d => uc d fun d _ => ltN d (I 0) fun e => ifB (bnot e) (blk 1 (nl 5 b a fun e => cl (s321 [e] b) fun b e => cT b fun f => cK (nth f 0) fun f => cT b fun b => cK (nth b 1) fun b => ixA 2 c d fun g => fa 0 g fun g => st1 e g f fun e => ixA 2 c d fun f => fa 1 f fun f => st1 e f b fun b => .norm [a, c, d] b) fun a b => uc a fun a c => uc c fun c d => uc d fun d _ => iSub d (I 1) fun d => .norm [a, c, d] b) (.exit 0 [c] b)
def b325 (s321 : Fun) : Fun := fun a b => uc a fun a c => uc c fun c d => uz d (mkM b (.cons (I 0) (.cons (.bool false) .nil)) 16 c c fun b d => iSub c (I 1) fun c => blk 0 (lp (L325n0 s321) most [a, b, c] d) fun a b => uc a fun a _ => cK a fun a => .ret a b)
def g325 : Hint := (.s .z (.s .z (.s (.s .z (.b [5] (.l [0, 5, 6] (.s (.s .z (.s .z .z)) (.s (.b [0, 5, 6] .z) .z))))) (.s .z .z))))
theorem e325 (s321 : Fun) : b325 s321 = denF Tryz.prog (gam [(321, s321)]) Tryz.f325 g325 := by kernel_rfl
def s325 : Fun := b325 s321
theorem F325 : Snd Tryz.prog 325 s325 := snd_of hmix (gcons F321 gnil) Tryz.func325 (by kernel_rfl) (by kernel_rfl) (e325 s321)

/-- (*obelisk/interp.Machine).put -/
def L326n0 (s165 : Fun) : List AV → Hp → Res := fun a b => uc a fun a c => uc c fun c d => uc d fun d e => uc e fun e _ => ltN e d fun f => ifB f (blk 1 (ixA 2 c e fun f => ldN b 2 f fun f => mk b (.cons (I 0) (.cons (.bool false) .nil)) fun b g => stN g 2 b f fun f => nl 5 f a fun g => fl 0 f b fun h => fl 1 f b fun b => cl (s165 [g, h, b] f) fun _ b => .norm [a, c, d, e] b) fun a b => uc a fun a c => uc c fun c d => uc d fun d e => uc e fun e _ => iAdd e (I 1) fun e => .norm [a, c, d, e] b) (.exit 0 [] b)
def b326 (s165 : Fun) : Fun := fun a b => uc a fun a c => uc c fun c d => uz d (lenL c fun d => blk 0 (lp (L326n0 s165) most [a, c, d, (I 0)] b) fun _ a => .ret (.tup .nil) a)
def g326 : Hint := (.s .z (.b [] (.l [0, 6, 7, 8] (.s .z (.s (.s .z .z) (.s (.b [0, 6, 7, 8] (.s .z (.r [0, 1, 2, 3, 4, 5, 6, 7, 8]))) .z))))))
theorem e326 (s165 : Fun) : b326 s165 = denF Tryz.prog (gam [(165, s165)]) Tryz.f326 g326 := by kernel_rfl
def s326 : Fun := b326 s165
theorem F326 : Snd Tryz.prog 326 s326 := snd_of hmix (gcons F165 gnil) Tryz.func326 (by kernel_rfl) (by kernel_rfl) (e326 s165)

/-- (*obelisk/interp.Machine).words -/
def b260 (s163 s325 s326 : Fun) : Fun := fun a b => uc a fun a c => uc c fun c d => uz d (blk 0 (eqN c (I 87) fun d => ifB d (nl 5 b a fun a => cl (s163 [a, (I 1)] b) fun _ a => .ret (.tup .nil) a) (eqN c (I 88) fun d => ifB d (nl 5 b a fun a => cl (s163 [a, (I 2)] b) fun _ a => .ret (.tup .nil) a) (eqN c (I 95) fun d => ifB d (cl (s325 [a, (I 1)] b) fun b c => cl (s325 [a, (I 1)] c) fun c d => cl (s326 [a, b] d) fun _ b => cl (s326 [a, c] b) fun _ a => .ret (.tup .nil) a) (.norm [a, c] b)))) fun a b => uc a fun a c => uc c fun c _ => iSub c (I 89) fun d => iQuo d (I 3) fun d => iAdd (I 1) d fun d => cl (s325 [a, d] b) fun b d => iSub c (I 89) fun c => iRem c (I 3) fun c => cl (s325 [a, c] d) fun c d => cl (s326 [a, b] d) fun _ d => cl (s326 [a, c] d) fun _ c => cl (s326 [a, b] c) fun _ a => .ret (.tup .nil) a)
def g260 : Hint := (.s (.s .z (.b [0, 1] (.s .z (.s (.s .z .z) (.s .z (.s (.s .z .z) (.s .z (.s (.s .z (.s .z (.s .z (.s .z .z)))) .z)))))))) (.s .z (.s .z (.s .z (.s .z (.s .z .z))))))
theorem e260 (s163 s325 s326 : Fun) : b260 s163 s325 s326 = denF Tryz.prog (gam [(163, s163), (325, s325), (326, s326)]) Tryz.f260 g260 := by kernel_rfl
def s260 : Fun := b260 s163 s325 s326
theorem F260 : Snd Tryz.prog 260 s260 := snd_of hmix (gcons F163 (gcons F325 (gcons F326 gnil))) Tryz.func260 (by kernel_rfl) (by kernel_rfl) (e260 s163 s325 s326)

/-- obelisk/arith.Conv -/
def b328 : Fun := fun a b => uc a fun a c => uc c fun c d => uz d (blk 0 (jn (eqN a (I 133) fun d => ifB d (.norm [c, a, (.bool d)] b) (eqN a (I 136) fun d => .norm [c, a, (.bool d)] b)) fun a b => uc a fun a c => uc c fun _ c => uc c fun c _ => cB c fun c => ifB c (iConv 31 a fun a => iConv 63 a fun a => cK a fun a => .ret a b) (.fail)) fun a b => uc a fun a _ => cK a fun a => .ret a b)
def g328 : Hint := (.s .z (.s (.s .z (.b [1] (.j [1, 5, 6] (.s .z (.s .z .z)) (.s (.s .z .z) .z)))) (.s .z .z)))
theorem e328 : b328 = denF Tryz.prog (gam []) Tryz.f328 g328 := by kernel_rfl
def s328 : Fun := b328
theorem F328 : Snd Tryz.prog 328 s328 := snd_of hmix gnil Tryz.func328 (by kernel_rfl) (by kernel_rfl) (e328)

/-- obelisk/arith.plain -/
def b383 : Fun := fun a b => uc a fun a c => uc c fun c d => uc d fun d e => uz e (blk 0 (eqN a (I 97) fun e => ifB e (iAdd c d fun a => cK a fun a => cK (.bool true) fun c => .ret (.tup (.cons a (.cons c .nil))) b) (eqN a (I 101) fun e => ifB e (.fail) (eqN a (I 105) fun a => ifB a (iMul c d fun a => cK a fun a => cK (.bool true) fun c => .ret (.tup (.cons a (.cons c .nil))) b) (.fail)))) fun _ a => cK (I 0) fun b => cK (.bool false) fun c => .ret (.tup (.cons b (.cons c .nil))) a)
def g383 : Hint := (.s .z (.s (.s .z (.b [] (.s .z (.s (.s .z .z) (.s .z (.s .z (.s .z (.s (.s .z .z) .z)))))))) (.s .z .z)))
theorem e383 : b383 = denF Tryz.prog (gam []) Tryz.f383 g383 := by kernel_rfl
def s383 : Fun := b383
theorem F383 : Snd Tryz.prog 383 s383 := snd_of hmix gnil Tryz.func383 (by kernel_rfl) (by kernel_rfl) (e383)

/-- obelisk/arith.Int -/
def b329 (s383 : Fun) : Fun := fun a b => uc a fun a c => uc c fun c d => uc d fun d e => uz e (iConv 31 c fun c => iConv 31 d fun d => blk 0 (eqN a (I 120) fun e => ifB e (.fail) (eqN a (I 122) fun e => ifB e (.fail) (eqN a (I 124) fun e => ifB e (.fail) (jn (eqN a (I 96) fun e => ifB e (.norm [a, c, d, (.bool e)] b) (eqN a (I 100) fun e => ifB e (.norm [a, c, d, (.bool e)] b) (eqN a (I 104) fun e => ifB e (.norm [a, c, d, (.bool e)] b) (.fail)))) fun a b => uc a fun a c => uc c fun c d => uc d fun d e => uc e fun e _ => cB e fun e => ifB e (iAdd a (I 1) fun a => iConv 63 c fun c => iConv 63 d fun d => cl (s383 [a, c, d] b) fun a b => cT a fun c => cK (nth c 0) fun c => cT a fun a => cK (nth a 1) fun a => iConv 31 c fun c => iConv 63 c fun c => cK c fun c => cK a fun a => .ret (.tup (.cons c (.cons a .nil))) b) (.norm [] b))))) fun _ a => cK (I 0) fun b => cK (.bool false) fun c => .ret (.tup (.cons b (.cons c .nil))) a)
def g329 : Hint := (.s .z (.s .z (.s (.s .z (.b [] (.s .z (.s .z (.s .z (.s .z (.s .z (.s .z (.j [0, 8, 9, 40] (.s .z (.s .z (.s .z (.s .z (.s .z (.s .z .z)))))) (.s (.s .z (.s .z .z)) .z)))))))))) (.s .z .z))))
theorem e329 (s383 : Fun) : b329 s383 = denF Tryz.prog (gam [(383, s383)]) Tryz.f329 g329 := by kernel_rfl
def s329 : Fun := b329 s383
theorem F329 : Snd Tryz.prog 329 s329 := snd_of hmix (gcons F383 gnil) Tryz.func329 (by kernel_rfl) (by kernel_rfl) (e329 s383)

/-- (*obelisk/interp.Machine).arith -/
def b262 (s154 s163 s165 s257 s322 s327 s328 s329 : Fun) : Fun := fun a b => uc a fun a c => uc c fun c d => uc d fun d e => uz e (nl 5 b a fun e => cl (s327 [e, (I 0)] b) fun b e => cT b fun f => cK (nth f 0) fun f => cT b fun b => cK (nth b 1) fun _ => nl 5 e a fun b => cl (s327 [b, (I 1)] e) fun b e => cT b fun g => cK (nth g 0) fun g => cT b fun b => cK (nth b 1) fun _ => blk 0 (eqN d (I 133) fun b => ifB b (.fail) (eqN d (I 136) fun b => ifB b (nl 5 e a fun b => cl (s163 [b, (I 2)] e) fun _ b => na 5 a fun e => ld1 b e fun f => cl (s328 [d, g] b) fun b d => ld1 d e fun e => same f e (cl (s165 [f, b, (.bool false)] d) fun _ b => .norm [a, c] b)) (ltN d (I 145) fun b => ap (gsel (.bool (bnot b)) true d) fun h => gj (.bool (bnot b)) true (ltN (I 147) h fun a => .norm [(.bool (bnot a))] e) e fun e h => cB (.bool (bnot b)) fun b => ap (sel b e (.bool false)) fun b => cB b fun b => ifB b (.fail) (eqN d (I 116) fun b => ifB b (.fail) (eqN d (I 117) fun b => ifB b (.fail) (eqN d (I 148) fun b => ap (gsel (.bool b) false d) fun e => gj (.bool b) false (iRem e (I 2) fun a => .norm [a] h) h fun e h => gj (.bool b) false (eqN e (I 1) fun a => .norm [(.bool a)] h) h fun e h => cB (.bool b) fun b => ap (sel b (.bool true) e) fun b => cB b fun b => ifB b (.fail) (cl (s329 [d, g, f] h) fun b d => cT b fun e => cK (nth e 0) fun e => cT b fun b => cK (nth b 1) fun b => bNot b fun b => cB b fun b => ifB b (.fail) (nl 5 d a fun b => cl (s163 [b, (I 2)] d) fun _ b => nl 5 b a fun d => cl (s165 [d, e, (.bool false)] b) fun _ b => .norm [a, c] b)))))))) fun a b => uc a fun a c => uc c fun c _ => cl (s257 [a, c] b) fun _ a => .ret (.tup .nil) a)
def g262 : Hint := (.s .z (.s .z (.s (.b [0, 1] (.s .z (.s .z (.s .z (.s (.s .z (.r [0, 1, 2, 3, 4, 5, 6, 7])) (.s .z (.s .z (.s .z (.s .z (.s .z (.s .z (.s .z (.s .z (.s .z (.s (.s .z (.s .z .z)) (.s .z .z)))))))))))))))) .z)))
theorem e262 (s154 s163 s165 s257 s322 s327 s328 s329 : Fun) : b262 s154 s163 s165 s257 s322 s327 s328 s329 = denF Tryz.prog (gam [(154, s154), (163, s163), (165, s165), (257, s257), (322, s322), (327, s327), (328, s328), (329, s329)]) Tryz.f262 g262 := by kernel_rfl
def s262 : Fun := b262 s154 s163 s165 s257 s322 s327 s328 s329
theorem F262 : Snd Tryz.prog 262 s262 := snd_of hmix (gcons F154 (gcons F163 (gcons F165 (gcons F257 (gcons F322 (gcons F327 (gcons F328 (gcons F329 gnil)))))))) Tryz.func262 (by kernel_rfl) (by kernel_rfl) (e262 s154 s163 s165 s257 s322 s327 s328 s329)

/-- (*obelisk/natives.World).nothing -/
def b106 : Fun := fun a b => uc a fun _ a => uc a fun _ a => uz a (cK (I 0) fun a => cK (.bool false) fun c => cK (I 0) fun d => .ret (.tup (.cons a (.cons c (.cons d .nil)))) b)
def g106 : Hint := (.s .z (.s .z .z))
theorem e106 : b106 = denF Tryz.prog (gam []) Tryz.f106 g106 := by kernel_rfl
def s106 : Fun := b106
theorem F106 : Snd Tryz.prog 106 s106 := snd_of hmix gnil Tryz.func106 (by kernel_rfl) (by kernel_rfl) (e106)

/-- (*obelisk/natives.World).text -/
def b120 (s202 : Fun) : Fun := fun a b => uc a fun a c => uc c fun c d => uz d (nl 0 b a fun a => cl (s202 [a, c] b) fun a b => eqN a (I 0) fun c => ifB c (.fail) (cK a fun a => cK (.bool true) fun c => cK (I 0) fun d => .ret (.tup (.cons a (.cons c (.cons d .nil)))) b))
def g120 : Hint := (.s .z (.s .z (.s (.s .z (.s .z .z)) (.s .z .z))))
theorem e120 (s202 : Fun) : b120 s202 = denF Tryz.prog (gam [(202, s202)]) Tryz.f120 g120 := by kernel_rfl
def s120 : Fun := b120 s202
theorem F120 : Snd Tryz.prog 120 s120 := snd_of hmix (gcons F202 gnil) Tryz.func120 (by kernel_rfl) (by kernel_rfl) (e120 s202)

/-- strings.ReplaceAll -/
def s278 : Fun := repF
theorem F278 : Snd Tryz.prog 278 s278 := snd_by (repF_sound_at (by kernel_rfl) Tryz.strings_ReplaceAll) Tryz.func278 (by kernel_rfl) (by kernel_rfl)

/-- obelisk/names.Dots -/
def b193 (s278 : Fun) : Fun := fun a b => uc a fun a c => uz c (cl (s278 [a, (.str 1 47), (.str 1 46)] b) fun a b => cK a fun a => .ret a b)
def g193 : Hint := (.s .z (.s .z .z))
theorem e193 (s278 : Fun) : b193 s278 = denF Tryz.prog (gam [(278, s278)]) Tryz.f193 g193 := by kernel_rfl
def s193 : Fun := b193 s278
theorem F193 : Snd Tryz.prog 193 s193 := snd_of hmix (gcons F278 gnil) Tryz.func193 (by kernel_rfl) (by kernel_rfl) (e193 s278)

/-- (*obelisk/natives.World).name -/
def b108 (s120 s162 s192 s193 : Fun) : Fun := fun a b => uc a fun a c => uc c fun c d => uz d (nl 0 b a fun d => ixA 1 c (I 0) fun c => ld1 b c fun c => cl (s162 [d, c] b) fun b c => cl (s193 [b] c) fun b c => cl (s192 [b] c) fun b c => cT b fun d => cK (nth d 0) fun d => cT b fun b => cK (nth b 1) fun _ => cl (s120 [a, d] c) fun a b => cT a fun c => cK (nth c 0) fun c => cT a fun d => cK (nth d 1) fun d => cT a fun a => cK (nth a 2) fun a => cK c fun c => cK d fun d => cK a fun a => .ret (.tup (.cons c (.cons d (.cons a .nil)))) b)
def g108 : Hint := (.s .z (.s (.r [0, 1, 2, 3, 4, 5, 6, 7, 8, 9, 10, 11, 12, 13, 14]) (.s .z .z)))
theorem e108 (s120 s162 s192 s193 : Fun) : b108 s120 s162 s192 s193 = denF Tryz.prog (gam [(120, s120), (162, s162), (192, s192), (193, s193)]) Tryz.f108 g108 := by kernel_rfl
def s108 : Fun := b108 s120 s162 s192 s193
theorem F108 : Snd Tryz.prog 108 s108 := snd_of hmix (gcons F120 (gcons F162 (gcons F192 (gcons F193 gnil)))) Tryz.func108 (by kernel_rfl) (by kernel_rfl) (e108 s120 s162 s192 s193)

/-- (*obelisk/natives.World).is -/
def b194 (s162 s251 : Fun) : Fun := fun a b => uc a fun a c => uc c fun c d => uc d fun d e => uz e (nl 0 b a fun e => cl (s162 [e, c] b) fun b c => eqS b (.str 0 0) fun e => ap (gsel (.bool (bnot e)) true a) fun a => gj (.bool (bnot e)) true (nck a fun a => .norm [a] c) c fun a c => gj (.bool (bnot e)) true (fa 2 a fun a => .norm [a] c) c fun a c => gj (.bool (bnot e)) true (ld1 c a fun a => .norm [a] c) c fun a c => ap (gsel (.bool (bnot e)) true b) fun b => ap (gsel (.bool (bnot e)) true d) fun d => gj (.bool (bnot e)) true (cl (s251 [a, b, d] c) fun a b => .norm [a] b) c fun a b => cB (.bool (bnot e)) fun c => ap (sel c a (.bool false)) fun a => cK a fun a => .ret a b)
def g194 : Hint := (.s .z (.s .z (.s .z .z)))
theorem e194 (s162 s251 : Fun) : b194 s162 s251 = denF Tryz.prog (gam [(162, s162), (251, s251)]) Tryz.f194 g194 := by kernel_rfl
def s194 : Fun := b194 s162 s251
theorem F194 : Snd Tryz.prog 194 s194 := snd_of hmix (gcons F162 (gcons F251 gnil)) Tryz.func194 (by kernel_rfl) (by kernel_rfl) (e194 s162 s251)

/-- obelisk/natives.chars -/
def b201 (s192 : Fun) : Fun := fun a b => uc a fun a c => uz c (cl (s192 [a] b) fun a b => cT a fun c => cK (nth c 0) fun c => cT a fun a => cK (nth a 1) fun _ => cK c fun a => .ret a b)
def g201 : Hint := (.s .z (.s .z (.s .z .z)))
theorem e201 (s192 : Fun) : b201 s192 = denF Tryz.prog (gam [(192, s192)]) Tryz.f201 g201 := by kernel_rfl
def s201 : Fun := b201 s192
theorem F201 : Snd Tryz.prog 201 s201 := snd_of hmix (gcons F192 gnil) Tryz.func201 (by kernel_rfl) (by kernel_rfl) (e201 s192)

/-- (*obelisk/natives.World).shown -/
def b119 (s124 s194 s201 : Fun) : Fun := fun a b => uc a fun a c => uc c fun c d => uc d fun d e => uz e (blk 0 (eqN c (J 73) fun e => ifB e (.fail) (eqN c (J 74) fun e => ifB e (.fail) (eqN c (J 67) fun e => ifB e (.fail) (eqN c (J 90) fun c => ifB c (.fail) (.norm [a, d] b))))) fun a b => uc a fun a c => uc c fun c _ => eqN c (I 0) fun d => ifB d (cl (s201 [(.str 4 1819047278)] b) fun a b => cK a fun a => cK (.bool true) fun c => .ret (.tup (.cons a (.cons c .nil))) b) (nl 0 b a fun d => cl (s124 [d, c] b) fun b d => cl (s194 [a, c, (.str 16 137483774941304901841256615957136564586)] d) fun a c => cK b fun b => cK a fun a => .ret (.tup (.cons b (.cons a .nil))) c))
def g119 : Hint := (.s .z (.s (.s .z (.b [0, 2] (.s .z (.s .z (.s .z (.s .z (.s .z (.s .z (.s .z (.s .z .z)))))))))) (.s (.s .z (.s (.s .z .z) .z)) (.s .z .z))))
theorem e119 (s124 s194 s201 : Fun) : b119 s124 s194 s201 = denF Tryz.prog (gam [(124, s124), (194, s194), (201, s201)]) Tryz.f119 g119 := by kernel_rfl
def s119 : Fun := b119 s124 s194 s201
theorem F119 : Snd Tryz.prog 119 s119 := snd_of hmix (gcons F124 (gcons F194 (gcons F201 gnil))) Tryz.func119 (by kernel_rfl) (by kernel_rfl) (e119 s124 s194 s201)

/-- unicode/utf8.AppendRune -/
def b286 : Fun := fun a b => uc a fun a c => uc c fun c d => uz d (iConv 32 c fun d => ltN (.int 32 (.ofNat 127)) d fun d => ifB (bnot d) (iConv 8 c fun c => bld [(false, 1, c)] fun c => mkS b 1 1 c fun b c => apd c 1 1 a b fun a b => cK a fun a => .ret a b) (.fail))
def g286 : Hint := (.s .z (.s (.s .z (.s (.s .z .z) .z)) (.s .z .z)))
theorem e286 : b286 = denF Tryz.prog (gam []) Tryz.f286 g286 := by kernel_rfl
def s286 : Fun := b286
theorem F286 : Snd Tryz.prog 286 s286 := snd_of hmix gnil Tryz.func286 (by kernel_rfl) (by kernel_rfl) (e286)

/-- obelisk/mutf.Out -/
def L209n0 (s286 : Fun) : List AV → Hp → Res := fun a b => uc a fun a c => uc c fun c d => uc d fun d _ => lenL a fun e => ltN d e fun e => ifB e (blk 1 (ixA 1 a d fun e => ld1 b e fun e => iConv 31 e fun e => blk 2 (iAnd e (K 64512) fun f => eqN f (K 55296) fun f => ap (gsel (.bool f) true d) fun g => gj (.bool f) true (iAdd g (I 1) fun a => .norm [a] b) b fun b g => ap (gsel (.bool f) true a) fun h => gj (.bool f) true (lenL h fun a => .norm [a] g) g fun g h => gj (.bool f) true (ltN b g fun a => .norm [(.bool a)] h) h fun b g => cB (.bool f) fun f => ap (sel f b (.bool false)) fun b => ap (gsel b true a) fun f => ap (gsel b true d) fun h => gj b true (iAdd h (I 1) fun a => .norm [a] g) g fun g h => gj b true (ixA 1 f g fun a => .norm [a] h) h fun f g => gj b true (ld1 g f fun a => .norm [a] g) g fun f g => gj b true (iAnd f (.int 16 (.ofNat 64512)) fun a => .norm [a] g) g fun f g => gj b true (eqN f (.int 16 (.ofNat 56320)) fun a => .norm [(.bool a)] g) g fun f g => cB b fun b => ap (sel b f (.bool false)) fun b => cB b fun b => ifB b (.fail) (iAnd e (K 63488) fun b => eqN b (K 55296) fun b => ifB b (bld [(false, 1, (J 63))] fun b => mkS g 1 1 b fun b e => apd e 1 1 c b fun b c => .norm [a, b, d] c) (cl (s286 [c, e] g) fun b c => .norm [a, b, d] c))) fun a b => uc a fun a c => uc c fun c d => uc d fun d _ => .norm [a, c, d] b) fun a b => uc a fun a c => uc c fun c d => uc d fun d _ => iAdd d (I 1) fun d => .norm [a, c, d] b) (.exit 0 [c] b)
def b209 (s286 : Fun) : Fun := fun a b => uc a fun a c => uz c (blk 0 (lp (L209n0 s286) most [a, .nils, (I 0)] b) fun a b => uc a fun a _ => cK a fun a => .ret a b)
def g209 : Hint := (.s .z (.s .z (.s (.s .z (.b [3] (.l [0, 3, 4] (.s (.s .z (.s .z .z)) (.s (.b [0, 3, 4] (.s .z (.b [0, 3, 4] (.s .z (.s .z (.s .z (.s .z .z))))))) .z))))) (.s .z .z))))
theorem e209 (s286 : Fun) : b209 s286 = denF Tryz.prog (gam [(286, s286)]) Tryz.f209 g209 := by kernel_rfl
def s209 : Fun := b209 s286
theorem F209 : Snd Tryz.prog 209 s209 := snd_of hmix (gcons F286 gnil) Tryz.func209 (by kernel_rfl) (by kernel_rfl) (e209 s286)

/-- (*obelisk/natives.World).print -/
def b130 (s209 : Fun) : Fun := fun a b => uc a fun a c => uc c fun c d => uc d fun d e => uz e (cl (s209 [c] b) fun b c => jn (cB d fun d => ifB d (bld [(false, 1, (J 10))] fun d => mkS c 1 1 d fun c d => apd d 1 1 b c fun b c => .norm [a, b] c) (.norm [a, b] c)) fun a b => uc a fun a c => uc c fun c _ => nl 4 b a fun d => lenL d fun d => lenL c fun e => iAdd d e fun d => ltN (I 4096) d fun d => ifB d (.fail) (nl 4 b a fun d => apd b 1 1 d c fun b c => na 4 a fun a => st1 c a b fun a => cK (I 0) fun b => cK (.bool false) fun c => cK (I 0) fun d => .ret (.tup (.cons b (.cons c (.cons d .nil)))) a))
def g130 : Hint := (.s .z (.s .z (.j [0, 9] (.s .z (.s .z .z)) (.s (.s .z (.s .z .z)) (.s .z (.s .z .z))))))
theorem e130 (s209 : Fun) : b130 s209 = denF Tryz.prog (gam [(209, s209)]) Tryz.f130 g130 := by kernel_rfl
def s130 : Fun := b130 s209
theorem F130 : Snd Tryz.prog 130 s130 := snd_of hmix (gcons F209 gnil) Tryz.func130 (by kernel_rfl) (by kernel_rfl) (e130 s209)

/-- (*obelisk/natives.World).streams$1 -/
def b129 (s119 s130 : Fun) : Fun := fun a b => uc a fun a c => uc c fun c d => uc d fun d e => uc e fun e f => uz f (ld1 b d fun f => sIdx f (I 0) fun g => ixA 1 c (I 1) fun c => ld1 b c fun c => cl (s119 [a, g, c] b) fun b c => ld1 c d fun d => same f d (cT b fun d => cK (nth d 0) fun d => cT b fun b => cK (nth b 1) fun b => bNot b fun b => cB b fun b => ifB b (.fail) (ld1 c e fun b => cl (s130 [a, d, b] c) fun a b => cT a fun c => cK (nth c 0) fun c => cT a fun d => cK (nth d 1) fun d => cT a fun a => cK (nth a 2) fun a => cK c fun c => cK d fun d => cK a fun a => .ret (.tup (.cons c (.cons d (.cons a .nil)))) b)))
def g129 : Hint := (.s .z (.s (.r [0, 1, 2, 3, 4, 5, 6, 7, 8, 9, 10, 11]) (.s (.s .z (.s .z .z)) (.s .z .z))))
theorem e129 (s119 s130 : Fun) : b129 s119 s130 = denF Tryz.prog (gam [(119, s119), (130, s130)]) Tryz.f129 g129 := by kernel_rfl
def s129 : Fun := b129 s119 s130
theorem F129 : Snd Tryz.prog 129 s129 := snd_of hmix (gcons F119 (gcons F130 gnil)) Tryz.func129 (by kernel_rfl) (by kernel_rfl) (e129 s119 s130)

/-- (*obelisk/natives.World).Call -/
def b444 (s106 s108 s129 s194 : Fun) : Fun := fun a b => uc a fun a c => uc c fun c d => uc d fun d e => uz e (eqP a .nilp fun e => ifB e (.fail) (na 6 a fun e => st1 b e (.bool false) fun b => ltN (I 0) c fun e => ap (gsel (.bool (bnot e)) false c) fun f => ap (gsel (.bool (bnot e)) false a) fun g => gj (.bool (bnot e)) false (nck g fun a => .norm [a] b) b fun b g => gj (.bool (bnot e)) false (fa 3 b fun a => .norm [a] g) g fun b g => gj (.bool (bnot e)) false (ld1 g b fun a => .norm [a] g) g fun b g => gj (.bool (bnot e)) false (lenL b fun a => .norm [a] g) g fun b g => gj (.bool (bnot e)) false (ltN f b fun a => .norm [(.bool (bnot a))] g) g fun b f => cB (.bool (bnot e)) fun e => ap (sel e (.bool true) b) fun b => ap (gsel b false a) fun e => gj b false (nck e fun a => .norm [a] f) f fun e f => gj b false (fa 3 e fun a => .norm [a] f) f fun e f => gj b false (ld1 f e fun a => .norm [a] f) f fun e f => ap (gsel b false c) fun g => gj b false (ixA 3 e g fun a => .norm [a] f) f fun e f => gj b false (fa 2 e fun a => .norm [a] f) f fun e f => gj b false (ld1 f e fun a => .norm [a] f) f fun e f => gj b false (eqF e .nilf fun a => .norm [(.bool a)] f) f fun e f => cB b fun b => ap (sel b (.bool true) e) fun b => ap (gsel b false d) fun e => gj b false (lenL e fun a => .norm [a] f) f fun e f => ap (gsel b false a) fun g => gj b false (nck g fun a => .norm [a] f) f fun f g => gj b false (fa 3 f fun a => .norm [a] g) g fun f g => gj b false (ld1 g f fun a => .norm [a] g) g fun f g => ap (gsel b false c) fun h => gj b false (ixA 3 f h fun a => .norm [a] g) g fun f g => gj b false (fa 1 f fun a => .norm [a] g) g fun f g => gj b false (ld1 g f fun a => .norm [a] g) g fun f g => gj b false (ltN e f fun a => .norm [(.bool a)] g) g fun e f => cB b fun b => ap (sel b (.bool true) e) fun b => cB b fun b => ifB b (.fail) (nl 3 f a fun b => ixA 3 b c fun b => ldN f 3 b fun b => mk f (.cons (.str 0 0) (.cons (I 0) (.cons .nilf .nil))) fun c e => stN e 3 c b fun b => fl 0 b c fun e => eqS e (.str 0 0) fun e => ap (gsel (.bool (bnot e)) true d) fun f => gj (.bool (bnot e)) true (ixA 1 f (I 0) fun a => .norm [a] b) b fun b f => gj (.bool (bnot e)) true (ld1 f b fun a => .norm [a] f) f fun b f => gj (.bool (bnot e)) true (eqN b (I 0) fun a => .norm [(.bool a)] f) f fun b f => cB (.bool (bnot e)) fun e => ap (sel e b (.bool false)) fun b => cB b fun b => ifB b (.fail) (fa 0 c fun b => ld1 f b fun e => eqS e (.str 0 0) fun g => ap (gsel (.bool (bnot g)) true a) fun h => ap (gsel (.bool (bnot g)) true d) fun i => gj (.bool (bnot g)) true (ixA 1 i (I 0) fun a => .norm [a] f) f fun f i => gj (.bool (bnot g)) true (ld1 i f fun a => .norm [a] i) i fun f i => gj (.bool (bnot g)) true (fa 0 c fun a => .norm [a] i) i fun i j => gj (.bool (bnot g)) true (ld1 j i fun a => .norm [a] j) j fun i j => gj (.bool (bnot g)) true (cl (s194 [h, f, i] j) fun a b => .norm [a] b) j fun f h => ld1 h b fun b => same e b (gj (.bool (bnot g)) true (bNot f fun a => .norm [a] h) h fun b e => cB (.bool (bnot g)) fun f => ap (sel f b (.bool false)) fun b => cB b fun b => ifB b (.fail) (fl 2 e c fun b => fa 1 c fun c => ld1 e c fun f => cutS 1 d none (some f) none fun d => cl (dyn (gam [(106, s106), (108, s108), (129, s129), (194, s194)]) b [a, d] e) fun a b => ld1 b c fun c => same f c (cT a fun c => cK (nth c 0) fun c => cT a fun d => cK (nth d 1) fun d => cT a fun a => cK (nth a 2) fun a => cK c fun c => cK d fun d => cK a fun a => .ret (.tup (.cons c (.cons d (.cons a .nil)))) b)))))))
def g444 : Hint := (.s .z (.s (.s .z (.s .z .z)) (.s .z (.s (.s .z (.s .z .z)) (.s .z (.s (.s .z (.s .z .z)) (.s (.s (.r [0, 1, 2, 3, 4, 5, 6, 7, 8, 9, 10, 11, 12]) (.s .z .z)) (.s (.r [0, 1, 2, 3, 4, 5, 6, 7, 8, 9, 10, 11, 12, 13]) .z))))))))
theorem e444 (s106 s108 s129 s194 : Fun) : b444 s106 s108 s129 s194 = denF Tryz.prog (gam [(106, s106), (108, s108), (129, s129), (194, s194)]) Tryz.f444 g444 := by kernel_rfl
def s444 : Fun := b444 s106 s108 s129 s194
theorem F444 : Snd Tryz.prog 444 s444 := snd_of hmix (gcons F106 (gcons F108 (gcons F129 (gcons F194 gnil)))) Tryz.func444 (by kernel_rfl) (by kernel_rfl) (e444 s106 s108 s129 s194)

/-- (*obelisk/natives.World).Full -/
def b445 : Fun := fun a b => uc a fun a c => uz c (eqP a .nilp fun c => ap (gsel (.bool (bnot c)) true a) fun a => gj (.bool (bnot c)) true (nck a fun a => .norm [a] b) b fun a b => gj (.bool (bnot c)) true (fa 5 a fun a => .norm [a] b) b fun a b => gj (.bool (bnot c)) true (ld1 b a fun a => .norm [a] b) b fun a b => cB (.bool (bnot c)) fun c => ap (sel c a (.bool false)) fun a => cK a fun a => .ret a b)
def g445 : Hint := (.s .z (.s .z .z))
theorem e445 : b445 = denF Tryz.prog (gam []) Tryz.f445 g445 := by kernel_rfl
def s445 : Fun := b445
theorem F445 : Snd Tryz.prog 445 s445 := snd_of hmix gnil Tryz.func445 (by kernel_rfl) (by kernel_rfl) (e445)

/-- (*obelisk/interp.Machine).printed -/
def b385 (s80 s168 s190 s257 s295 s444 s445 : Fun) : Fun := fun a b => uc a fun a c => uc c fun c d => uc d fun d e => uz e (nm (.norm [c] b) fun e _ => nm (nck e fun a => .norm [a] b) fun e _ => nm (fa 2 e fun a => .norm [a] b) fun e _ => nm (ld1 b e fun a => .norm [a] b) fun f _ => nm (nck f fun a => .norm [a] b) fun g _ => nm (fa 7 g fun a => .norm [a] b) fun g _ => nm (ld1 b g fun a => .norm [a] b) fun h _ => nm (.norm [c] b) fun i _ => nm (nck i fun a => .norm [a] b) fun i _ => nm (fa 3 i fun a => .norm [a] b) fun i _ => nm (ld1 b i fun a => .norm [a] b) fun j _ => nm (ixA 9 h j fun a => .norm [a] b) fun k _ => nm (fa 4 k fun a => .norm [a] b) fun k _ => nm (fa 2 k fun a => .norm [a] b) fun k _ => nm (ld1 b k fun a => .norm [a] b) fun l _ => nm (.norm [c] b) fun m _ => nm (nck m fun a => .norm [a] b) fun m _ => nm (fa 4 m fun a => .norm [a] b) fun m _ => nm (ld1 b m fun a => .norm [a] b) fun n _ => nm (.norm [(.cons (I 0) (.cons (I 0) (.cons (I 0) (.cons (.bool false) (.cons (I 0) (.cons (I 0) (.cons .nils (.cons .nils .nil))))))))] b) fun o _ => lay o .e 0 fun o p => ifB true (rsv b fun b q => nm (ld1 q m fun a => .norm [a] q) fun m _ => same n m (nm (ld1 q k fun a => .norm [a] q) fun k _ => same l k (nm (ld1 q i fun a => .norm [a] q) fun k _ => same j k (nm (ld1 q g fun a => .norm [a] q) fun k _ => same h k (nm (ld1 q e fun a => .norm [a] q) fun k _ => same f k (nm (cl (s168 [l, n] q) fun a b => .norm [a] b) fun k l => nm (ld1 l i fun a => .norm [a] l) fun m _ => same j m (nm (ld1 l g fun a => .norm [a] l) fun m _ => same h m (nm (ld1 l e fun a => .norm [a] l) fun m _ => same f m (nm (.norm [k] l) fun k _ => nm (cT k fun a => cK (nth a 0) fun a => .norm [a] l) fun m _ => nm (cT k fun a => cK (nth a 1) fun a => .norm [a] l) fun k _ => dueK l b p o fun l => nm (ld1 l i fun a => .norm [a] l) fun i _ => same j i (nm (ld1 l g fun a => .norm [a] l) fun g _ => same h g (nm (ld1 l e fun a => .norm [a] l) fun e _ => same f e (nm (stN l 8 (.ptr b 0) m fun a => .norm [(.tup .nil)] a) fun _ e => nm (.norm [k] e) fun _ _ => na 2 c fun f => ld1 e f fun g => nl 1 e g fun h => fl 4 e (.ptr b 0) fun b => cl (s295 [h, b] e) fun b e => ld1 e f fun f => same g f (cT b fun f => cK (nth f 0) fun _ => cT b fun f => cK (nth f 1) fun f => cT b fun g => cK (nth g 2) fun _ => cT b fun b => cK (nth b 3) fun _ => nm (.norm [a] e) fun b _ => nm (nck b fun a => .norm [a] e) fun b _ => nm (fa 4 b fun a => .norm [a] e) fun b _ => nm (ld1 e b fun a => .norm [a] e) fun g _ => nm (.norm [f] e) fun f _ => nm (.norm [a] e) fun h _ => nm (nck h fun a => .norm [a] e) fun h _ => nm (fa 10 h fun a => .norm [a] e) fun h _ => nm (ld1 e h fun a => .norm [a] e) fun i _ => nm (.norm [d] e) fun d _ => nm (bld [(false, 1, i), (false, 1, d)] fun a => .norm [a] e) fun d _ => lay d .e 0 fun d j => ifB (Nat.beq j (Nat.mul 2 1)) (rsv e fun e k => nm (ld1 k h fun a => .norm [a] k) fun l _ => same i l (nm (ld1 k b fun a => .norm [a] k) fun l _ => same g l (nm (cl (s190 [(.str 19 2439265639030268300842157990401791553877467498), f, (.str 21 125924534186164816246133852188561726513007718714408)] k) fun a b => .norm [a] b) fun f k => nm (ld1 k h fun a => .norm [a] k) fun l _ => same i l (nm (ld1 k b fun a => .norm [a] k) fun l _ => same g l (dueK k e j d fun d => nm (ld1 d h fun a => .norm [a] d) fun j _ => same i j (nm (ld1 d b fun a => .norm [a] d) fun b _ => same g b (nm (cl (s444 [g, f, (.sl e 0 2 1 (some 2))] d) fun a b => .norm [a] b) fun _ b => nm (ld1 b h fun a => .norm [a] b) fun d _ => same i d (nl 4 b a fun d => cl (s445 [d] b) fun b d => cB b fun b => ifB b (.fail) (cl (s257 [a, c] d) fun _ a => .ret (.tup .nil) a))))))))) .fail))))))))))))) .fail)
def g385 : Hint := (.s (.f [(0, 0), (0, 1), (0, 2), (0, 3), (0, 4), (0, 5), (0, 6), (0, 7), (0, 8), (0, 9), (0, 10), (0, 11), (0, 12), (0, 13), (0, 14), (0, 15), (0, 16), (0, 17), (0, 18), (1, 23), (0, 19), (0, 20), (0, 21), (0, 22), (2, 23), (0, 24), (0, 25)]) (.s (.r [0, 1, 2, 3, 4, 5, 6, 7, 8, 9, 10, 11, 12, 13, 14, 15, 16, 17, 18]) (.s (.f [(0, 0), (0, 1), (0, 2), (0, 3), (0, 4), (0, 6), (0, 7), (0, 8), (0, 9), (0, 10), (1, 11), (0, 5), (2, 11), (0, 12)]) (.s (.s .z (.s .z .z)) .z))))
theorem e385 (s80 s168 s190 s257 s295 s444 s445 : Fun) : b385 s80 s168 s190 s257 s295 s444 s445 = denF Tryz.prog (gam [(80, s80), (168, s168), (190, s190), (257, s257), (295, s295), (444, s444), (445, s445)]) Tryz.f385 g385 := by kernel_rfl
def s385 : Fun := b385 s80 s168 s190 s257 s295 s444 s445
theorem F385 : Snd Tryz.prog 385 s385 := snd_of hmix (gcons F80 (gcons F168 (gcons F190 (gcons F257 (gcons F295 (gcons F444 (gcons F445 gnil))))))) Tryz.func385 (by kernel_rfl) (by kernel_rfl) (e385 s80 s168 s190 s257 s295 s444 s445)

/-- (*obelisk/interp.Machine).back -/
def b332 (s80 s87 s152 s166 s257 s382 s385 : Fun) : Fun := fun a b => uc a fun a c => uc c fun c d => uc d fun d e => uc e fun e f => uz f (cl (s87 [a] b) fun b f => nm (.norm [b] f) fun g _ => nm (nck g fun a => .norm [a] f) fun g _ => nm (fa 2 g fun a => .norm [a] f) fun g _ => nm (ld1 f g fun a => .norm [a] f) fun h _ => nm (nck h fun a => .norm [a] f) fun i _ => nm (fa 7 i fun a => .norm [a] f) fun i _ => nm (ld1 f i fun a => .norm [a] f) fun j _ => nm (.norm [b] f) fun k _ => nm (nck k fun a => .norm [a] f) fun k _ => nm (fa 3 k fun a => .norm [a] f) fun k _ => nm (ld1 f k fun a => .norm [a] f) fun l _ => nm (ixA 9 j l fun a => .norm [a] f) fun m _ => nm (fa 2 m fun a => .norm [a] f) fun m _ => nm (ld1 f m fun a => .norm [a] f) fun n _ => nm (.norm [(.cons (J 0) (.cons (.str 0 0) (.cons (I 0) (.cons (J 0) .nil))))] f) fun o _ => lay o .e 0 fun o p => ifB true (rsv f fun f q => nm (ld1 q m fun a => .norm [a] q) fun m _ => same n m (nm (ld1 q k fun a => .norm [a] q) fun m _ => same l m (nm (ld1 q i fun a => .norm [a] q) fun m _ => same j m (nm (ld1 q g fun a => .norm [a] q) fun m _ => same h m (nm (cl (s152 [n] q) fun a b => .norm [a] b) fun m n => nm (ld1 n k fun a => .norm [a] n) fun q _ => same l q (nm (ld1 n i fun a => .norm [a] n) fun q _ => same j q (nm (ld1 n g fun a => .norm [a] n) fun q _ => same h q (nm (.norm [m] n) fun m _ => nm (cT m fun a => cK (nth a 0) fun a => .norm [a] n) fun q _ => nm (cT m fun a => cK (nth a 1) fun a => .norm [a] n) fun r _ => nm (cT m fun a => cK (nth a 2) fun a => .norm [a] n) fun m _ => nm (.norm [q] n) fun _ _ => dueK n f p o fun n => nm (ld1 n k fun a => .norm [a] n) fun k _ => same l k (nm (ld1 n i fun a => .norm [a] n) fun i _ => same j i (nm (ld1 n g fun a => .norm [a] n) fun g _ => same h g (nm (stN n 4 (.ptr f 0) r fun a => .norm [(.tup .nil)] a) fun _ g => nm (.norm [m] g) fun _ _ => cl (s166 [a] g) fun _ g => blk 0 (nl 0 g b fun h => eqN h (I 1) fun h => ifB h (.fail) (nl 0 g b fun b => eqN b (I 2) fun b => ifB b (cl (s87 [a] g) fun b d => cl (s385 [a, b, c] d) fun _ a => .ret (.tup .nil) a) (.norm [a, c, d, e, (.ptr f 0)] g))) fun a b => uc a fun a c => uc c fun c d => uc d fun d e => uc e fun e f => uc f fun f _ => cl (s87 [a] b) fun b g => eqP b .nilp fun h => ifB h (bld [(false, 1, (I 0)), (false, 1, (I 1)), (false, 1, (J 0)), (false, 1, c), (false, 1, (.str 0 0)), (false, 1, (.str 0 0)), (false, 1, (.bool false)), (false, 1, (I 0)), (false, 1, .nils), (false, 1, (I 0)), (false, 1, (I 0))] fun b => mk g (.cons (I 0) (.cons (I 0) (.cons (J 0) (.cons (I 0) (.cons (.str 0 0) (.cons (.str 0 0) (.cons (.bool false) (.cons (I 0) (.cons .nils (.cons (I 0) (.cons (I 0) .nil))))))))))) fun c d => stN d 11 c (.agg b) fun b => jn (fl 0 b f fun d => eqN d (J 86) fun d => ifB (bnot d) (fl 0 b f fun d => fa 2 c fun e => st1 b e d fun b => .norm [a, c] b) (.norm [a, c] b)) fun a b => uc a fun a c => uc c fun c _ => ldN b 11 c fun c => cl (s80 [a, c] b) fun _ a => .ret (.tup .nil) a) (cl (s382 [a, c, d, e] g) fun _ c => cl (s257 [a, b] c) fun _ a => .ret (.tup .nil) a)))))))))))) .fail)
def g332 : Hint := (.s .z (.s (.f [(0, 0), (0, 1), (0, 2), (0, 3), (0, 4), (0, 5), (0, 6), (0, 7), (0, 8), (0, 9), (0, 10), (0, 11), (0, 12), (0, 13), (1, 19), (0, 14), (0, 15), (0, 16), (0, 17), (0, 18), (0, 20), (2, 19), (0, 21), (0, 22)]) (.s .z (.s (.b [0, 1, 2, 3, 10] (.s .z (.s .z (.s .z (.s (.s .z .z) .z))))) (.s .z (.s (.s .z (.s (.s .z (.j [0, 13] (.s .z (.s .z .z)) (.s .z .z))) .z)) (.s .z .z)))))))
theorem e332 (s80 s87 s152 s166 s257 s382 s385 : Fun) : b332 s80 s87 s152 s166 s257 s382 s385 = denF Tryz.prog (gam [(80, s80), (87, s87), (152, s152), (166, s166), (257, s257), (382, s382), (385, s385)]) Tryz.f332 g332 := by kernel_rfl
def s332 : Fun := b332 s80 s87 s152 s166 s257 s382 s385
theorem F332 : Snd Tryz.prog 332 s332 := snd_of hmix (gcons F80 (gcons F87 (gcons F152 (gcons F166 (gcons F257 (gcons F382 (gcons F385 gnil))))))) Tryz.func332 (by kernel_rfl) (by kernel_rfl) (e332 s80 s87 s152 s166 s257 s382 s385)

/-- (*obelisk/interp.Machine).leave -/
def b263 (s320 s321 s332 : Fun) : Fun := fun a b => uc a fun a c => uc c fun c d => uz d (blk 0 (eqN c (I 177) fun d => ifB d (cl (s332 [a, (I 0), (.bool false), (I 0)] b) fun _ a => .norm [] a) (eqN c (I 173) fun c => ifB c (cl (s320 [a] b) fun b c => cl (s332 [a, b, (.bool false), (I 2)] c) fun _ a => .norm [] a) (nl 5 b a fun c => cl (s321 [c] b) fun b c => cT b fun d => cK (nth d 0) fun d => cT b fun b => cK (nth b 1) fun b => cl (s332 [a, d, b, (I 1)] c) fun _ a => .norm [] a))) fun _ a => .ret (.tup .nil) a)
def g263 : Hint := (.s .z (.b [] (.s .z (.s .z (.s .z (.s .z (.s .z .z)))))))
theorem e263 (s320 s321 s332 : Fun) : b263 s320 s321 s332 = denF Tryz.prog (gam [(320, s320), (321, s321), (332, s332)]) Tryz.f263 g263 := by kernel_rfl
def s263 : Fun := b263 s320 s321 s332
theorem F263 : Snd Tryz.prog 263 s263 := snd_of hmix (gcons F320 (gcons F321 (gcons F332 gnil))) Tryz.func263 (by kernel_rfl) (by kernel_rfl) (e263 s320 s321 s332)

/-- internal/bytealg.LastIndexByteString -/
def L522n0 : List AV → Hp → Res := fun a b => uc a fun a c => uc c fun c d => uc d fun d _ => ltN d (I 0) fun e => ifB (bnot e) (blk 1 (sIdx a d fun e => eqN e c fun e => ifB e (cK d fun a => .ret a b) (.norm [a, c, d] b)) fun a b => uc a fun a c => uc c fun c d => uc d fun d _ => iSub d (I 1) fun d => .norm [a, c, d] b) (.exit 0 [] b)
def b522 : Fun := fun a b => uc a fun a c => uc c fun c d => uz d (lenS a fun d => iSub d (I 1) fun d => blk 0 (lp L522n0 most [a, c, d] b) fun _ a => cK (.int 63 (.negSucc 0)) fun b => .ret b a)
def g522 : Hint := (.s .z (.s (.s .z (.b [] (.l [0, 1, 5] (.s (.s .z (.s .z .z)) (.s (.b [0, 1, 5] (.s .z (.s (.s .z .z) .z))) .z))))) (.s .z .z)))
theorem e522 : b522 = denF Tryz.prog (gam []) Tryz.f522 g522 := by kernel_rfl
def s522 : Fun := b522
theorem F522 : Snd Tryz.prog 522 s522 := snd_of hmix gnil Tryz.func522 (by kernel_rfl) (by kernel_rfl) (e522)

/-- strings.LastIndexByte -/
def b503 (s522 : Fun) : Fun := fun a b => uc a fun a c => uc c fun c d => uz d (cl (s522 [a, c] b) fun a b => cK a fun a => .ret a b)
def g503 : Hint := (.s .z (.s .z .z))
theorem e503 (s522 : Fun) : b503 s522 = denF Tryz.prog (gam [(522, s522)]) Tryz.f503 g503 := by kernel_rfl
def s503 : Fun := b503 s522
theorem F503 : Snd Tryz.prog 503 s503 := snd_of hmix (gcons F522 gnil) Tryz.func503 (by kernel_rfl) (by kernel_rfl) (e503 s522)

/-- obelisk/names.Package -/
def b446 (s503 : Fun) : Fun := fun a b => uc a fun a c => uz c (cl (s503 [a, (J 47)] b) fun b c => iMax b (I 0) fun b => cutT a none (some b) fun a => cK a fun a => .ret a c)
def g446 : Hint := (.s .z (.s .z .z))
theorem e446 (s503 : Fun) : b446 s503 = denF Tryz.prog (gam [(503, s503)]) Tryz.f446 g446 := by kernel_rfl
def s446 : Fun := b446 s503
theorem F446 : Snd Tryz.prog 446 s446 := snd_of hmix (gcons F503 gnil) Tryz.func446 (by kernel_rfl) (by kernel_rfl) (e446 s503)
end
end Go.Proofs.YtdjgkjjgcbgniaaGreatDoor
