/-
  The law MapsFrames holds of the program: whatever the input, it returns true, and the input reads as before. No condition.
-/
import Derived.Test.YtnpfppddongbhaaRows
import Derived.Test.YtnpfppddongbhaaNc
import Derived.WalkKit
import Derived.ProofKit
import Derived.OpenShut
set_option linter.unusedVariables false
set_option linter.unusedSimpArgs false
namespace Go.Proofs.Ytnpfppddongbhaa.LMapsFrames
open Go.ChangeShapes Go.WideShapes Go.ChangeAt Go.RowKit Go.AM
set_option linter.unusedVariables false

theorem own : ownKnob Try.prog.godebug = none := by kernel_rfl

theorem bytes_of {w : World} {V : Value} {l : List Int} (A : ArgS .u8 w V l) : ∃ t : List Nat, (l.map fun n => AV.int (cOf .u8) n) = Bs t ∧ (∀ x ∈ t, x < 256) ∧ t.length = l.length := by
  have hwf := A.wf
  refine ⟨l.map Int.toNat, ?_, ?_, by simp⟩
  · simp only [Bs, List.map_map]
    refine List.map_congr_left fun n hn => ?_
    have := hwf n hn
    simp [Lit.wf, IntKind.min, IntKind.max, IntKind.signed, IntKind.bits] at this
    show AV.int 8 n = AV.int 8 (n.toNat : Int)
    congr 1
    omega
  · intro x hx
    obtain ⟨n, hn, rfl⟩ := List.mem_map.1 hx
    have := hwf n hn
    simp [Lit.wf, IntKind.min, IntKind.max, IntKind.signed, IntKind.bits] at this
    omega
theorem ArgS.len {k : IntKind} {w : World} {V : Value} {l : List Int} (A : ArgS k w V l) : l.length ≤ 9223372036854775807 := by
  rcases A with ⟨-, rfl⟩ | ⟨a, len, cap, zs, -, h1, h2, h3, rfl, -⟩
  · simp
  · have : maxLen ≤ 9223372036854775807 := by decide
    simp; omega
theorem hj (w : World) : (b0 w (Try.prog.globalNamed "internal/bytealg.MaxLen")).J w := fun g hg => by
  have h0 : Try.prog.globalNamed "internal/bytealg.MaxLen" = none := by kernel_rfl
  have hg : Try.prog.globalNamed "internal/bytealg.MaxLen" = some g := hg
  rw [h0] at hg; cases hg
theorem walk (w : World) (V : Value) (l : List Int) (A : ArgS .i64 w V l) (V2 : Value) (l2 : List Int) (A2 : ArgS .u8 w V2 l2) (a2 : Int) (w2 : (Lit.int .i64 a2).wf = true) (a3 : Int) (w3 : (Lit.int .i64 a3).wf = true) :
    Calls Try.prog 22 #[V, V2, .int .i64 a2, .int .i64 a3] w fun e w' => e = .returned (.bool true) ∧ Kept w w' := by
  obtain ⟨ρ, h, v, hA, -, hv, hs, -⟩ := add_arg (Args.none (hj w)) A
  obtain ⟨ρ2, h2, v2, hA2, hx, hv2, hs2, o2⟩ := add_arg hA A2
  obtain ⟨t, ht, hb, hl⟩ := bytes_of A2
  rw [ht] at hs2
  have hs' := (hs.to o2 (fun _ _ f => f)).mono (fun b hb => Nat.lt_of_lt_of_le hb o2.nb)
  obtain ⟨h', e⟩ := lawFrames (Ni := a2) (Si := a3) hs' hs2 hA2.wf hb (by have := ArgS.len A2; omega)
  exact law_walk2 F22.1 hA2 e (.cons (hv.ext hx) (.cons hv2 (.cons (vr_i64 _ _) (.cons (vr_i64 _ _) .nil))))

set_option maxRecDepth 100000 in
theorem lifted (os : Os) (started : os.Started) (H : Type) (enc : TypeId × Value → H) :
    ReturnsInHanded {} Try.checked os 22 .any (Rows.mapsFramesSpec.pre6 enc Try.prog Try.f22 Rows.mapsFramesRow.domain false) (Rows.mapsFramesSpec.post enc Try.prog Try.f22 false true false false) := by
  refine returnsInHanded_of_change (C := Try.checked) own started (by kernel_rfl) Try.func22
    (ChangeSpec.witness6 (enc := enc) (C := Try.checked) false ⟨#[], #[.slice none 0 0, .slice none 0 0, .int .i64 0, .int .i64 0], []⟩ 8 (by kernel_rfl) (by kernel_rfl) (by kernel_rfl) (by kernel_rfl)) ?_
  intro W base args ds gs before hval0 hW hcnd _
  have hval : ∀ (j : Nat) t v, Try.f22.params[j]? = some t → args[j]? = some v → Value.okWide Try.prog W .any base t v := hval0
  have hW' := hW
  obtain ⟨p, q, hA0, hV, rfl, hfz, hnd⟩ := hW
  have hA : DataW.TrodAll enc Try.prog W 0 (fun _ => true) true Try.f22.params.toList args.toList ds p := hA0
  rw [Try.params22] at hA hval
  obtain ⟨v0, vs0, d0, ds0, p0, q0, hargs, rfl, rfl, h0, r0⟩ := trodAll_cons hA
  obtain ⟨v1, vs1, d1, ds1, p1, q1, rfl, rfl, rfl, h1, r1⟩ := trodAll_cons r0
  obtain ⟨v2, vs2, d2, ds2, p2, q2, rfl, rfl, rfl, h2, r2⟩ := trodAll_cons r1
  obtain ⟨v3, vs3, d3, ds3, p3, q3, rfl, rfl, rfl, h3, r3⟩ := trodAll_cons r2
  obtain ⟨rfl, rfl, rfl⟩ := trodAll_nil r3
  obtain rfl : args = #[v0, v1, v2, v3] := by cases args; simp_all
  obtain ⟨rfl, rfl⟩ := trodVars_none hV
  obtain ⟨x0, y0, z0, rfl⟩ := Go.WideShapes.okWide_slice Try.underlying22 (hval 0 22 v0 rfl rfl)
  obtain ⟨l0, A0, S0⟩ := open_arg (k := .i64) Try.underlying22 Try.underlying3 (by kernel_rfl) rfl h0
  obtain ⟨x1, y1, z1, rfl⟩ := Go.WideShapes.okWide_slice Try.underlying24 (hval 1 24 v1 rfl rfl)
  obtain ⟨l1, A1, S1⟩ := open_arg (k := .u8) Try.underlying24 Try.underlying5 (by kernel_rfl) rfl h1
  obtain ⟨a2, rfl, rfl, rfl, w2⟩ := open_int Try.underlying3 (hval 2 3 v2 rfl rfl) h2
  obtain ⟨a3, rfl, rfl, rfl, w3⟩ := open_int Try.underlying3 (hval 3 3 v3 rfl rfl) h3
  clear hA0 hval0
  refine (walk W _ l0 A0 _ l1 A1 a2 w2 a3 w3).mono fun e W' ⟨he, hg⟩ => ?_
  subst he
  exact ⟨_, rfl, AM.post_kept (pv := []) hW' (fun _ _ _ => (trodAll_cons_mk (shut_bool Try.underlying4 _) trodAll_mk0)) (fun sp hsp => (trodAll_cons_mk (S0 W' sp hg.2.1 (fun q hq => hsp q (by simp [hq]))) (trodAll_cons_mk (S1 W' sp hg.2.1 (fun q hq => hsp q (by simp [hq]))) (trodAll_cons_mk (shut_int Try.underlying3 w2) (trodAll_cons_mk (shut_int Try.underlying3 w3) trodAll_mk0))))) (fun _ _ => rfl) hg.1⟩

theorem over : Rows.mapsFramesRow.holds Try.pinned (OpenSpec.ofChange Rows.mapsFramesSpec) :=
  OpenClaim.holds_of_wide 22 Try.f22 rfl rfl rfl rfl rfl rfl rfl ⟨rfl, rfl, rfl, rfl, rfl⟩ rfl rfl rfl rfl rfl (by kernel_rfl) Try.func22 (by kernel_rfl)
    (of_decide_eq_true (by kernel_rfl)) (by unfold Func.isWrapper; first | (rw [if_pos (by decide +kernel)]; kernel_rfl) | (rw [if_neg (by decide +kernel)]; exact ⟨rfl, rfl⟩))
    (fun os started H enc _ => lifted os started H enc)

theorem proved : Rows.MapsFramesSaid := over

#print axioms proved
end Go.Proofs.Ytnpfppddongbhaa.LMapsFrames
