/-
  The law MapsRead holds of the program: whatever the input, it returns true, and the input reads as before. No condition.
-/
import Derived.Test.YtnpfppddongbhaaRows
import Derived.Test.YtnpfppddongbhaaMp14
import Derived.WalkKit
import Derived.ProofKit
import Derived.OpenShut
set_option linter.unusedVariables false
set_option linter.unusedSimpArgs false
namespace Go.Proofs.Ytnpfppddongbhaa.LMapsRead
open Go.ChangeShapes Go.WideShapes Go.ChangeAt Go.RowKit Go.AM
set_option linter.unusedVariables false

theorem own : ownKnob Try.prog.godebug = none := by kernel_rfl

theorem bytes_of {w : World} {V : Value} {l : List Int} (A : ArgS .u8 w V l) : ∃ t : List Nat, (l.map fun n => AV.int (cOf .u8) n) = Bs t ∧ (∀ x ∈ t, x < 256) ∧ t.length = l.length := by
  have hwf := A.wf
  refine ⟨l.map Int.toNat, ?_, ?_, by simp⟩
  · simp only [Bs, List.map_map]
    refine List.map_congr_left fun n hn => ?_
    have := hwf n hn
    simp [Lit.wf, IntKind.min, IntKind.max, IntKind.signed, IntKind.bits] at this
    show AV.int 8 n = AV.int 8 (n.toNat : Int)
    congr 1
    omega
  · intro x hx
    obtain ⟨n, hn, rfl⟩ := List.mem_map.1 hx
    have := hwf n hn
    simp [Lit.wf, IntKind.min, IntKind.max, IntKind.signed, IntKind.bits] at this
    omega
theorem ArgS.len {k : IntKind} {w : World} {V : Value} {l : List Int} (A : ArgS k w V l) : l.length ≤ 9223372036854775807 := by
  rcases A with ⟨-, rfl⟩ | ⟨a, len, cap, zs, -, h1, h2, h3, rfl, -⟩
  · simp
  · have : maxLen ≤ 9223372036854775807 := by decide
    simp; omega
theorem hj (w : World) : (b0 w (Try.prog.globalNamed "internal/bytealg.MaxLen")).J w := fun g hg => by
  have h0 : Try.prog.globalNamed "internal/bytealg.MaxLen" = none := by kernel_rfl
  have hg : Try.prog.globalNamed "internal/bytealg.MaxLen" = some g := hg
  rw [h0] at hg; cases hg
theorem walk (w : World) (V : Value) (l : List Int) (A : ArgS .u8 w V l) : Calls Try.prog 21 #[V] w fun e w' => e = .returned (.bool true) ∧ Kept w w' := by
  obtain ⟨ρ, h, v, hA, -, hv, hs, -⟩ := add_arg (Args.none (hj w)) A
  obtain ⟨t, ht, hb, hl⟩ := bytes_of A
  rw [ht] at hs
  obtain ⟨h', e⟩ := lawRead hs hA.wf hb (by have := ArgS.len A; omega)
  exact law_walk2 F21.1 hA e (.cons hv .nil)

set_option maxRecDepth 100000 in
theorem lifted (os : Os) (started : os.Started) (H : Type) (enc : TypeId × Value → H) :
    ReturnsInHanded {} Try.checked os 21 .any (Rows.mapsReadSpec.pre6 enc Try.prog Try.f21 Rows.mapsReadRow.domain false) (Rows.mapsReadSpec.post enc Try.prog Try.f21 false true false false) := by
  refine returnsInHanded_of_change (C := Try.checked) own started (by kernel_rfl) Try.func21
    (ChangeSpec.witness6 (enc := enc) (C := Try.checked) false ⟨#[], #[.slice none 0 0], []⟩ 8 (by kernel_rfl) (by kernel_rfl) (by kernel_rfl) (by kernel_rfl)) ?_
  intro W base args ds gs before hval0 hW hcnd _
  have hval : ∀ (j : Nat) t v, Try.f21.params[j]? = some t → args[j]? = some v → Value.okWide Try.prog W .any base t v := hval0
  have hW' := hW
  obtain ⟨p, q, hA0, hV, rfl, hfz, hnd⟩ := hW
  have hA : DataW.TrodAll enc Try.prog W 0 (fun _ => true) true Try.f21.params.toList args.toList ds p := hA0
  rw [Try.params21] at hA hval
  obtain ⟨v0, vs0, d0, ds0, p0, q0, hargs, rfl, rfl, h0, r0⟩ := trodAll_cons hA
  obtain ⟨rfl, rfl, rfl⟩ := trodAll_nil r0
  obtain rfl : args = #[v0] := by cases args; simp_all
  obtain ⟨rfl, rfl⟩ := trodVars_none hV
  obtain ⟨x0, y0, z0, rfl⟩ := Go.WideShapes.okWide_slice Try.underlying24 (hval 0 24 v0 rfl rfl)
  obtain ⟨l0, A0, S0⟩ := open_arg (k := .u8) Try.underlying24 Try.underlying5 (by kernel_rfl) rfl h0
  clear hA0 hval0
  refine (walk W _ l0 A0).mono fun e W' ⟨he, hg⟩ => ?_
  subst he
  exact ⟨_, rfl, AM.post_kept (pv := []) hW' (fun _ _ _ => (trodAll_cons_mk (shut_bool Try.underlying4 _) trodAll_mk0)) (fun sp hsp => (trodAll_cons_mk (S0 W' sp hg.2.1 (fun q hq => hsp q (by simp [hq]))) trodAll_mk0)) (fun _ _ => rfl) hg.1⟩

theorem over : Rows.mapsReadRow.holds Try.pinned (OpenSpec.ofChange Rows.mapsReadSpec) :=
  OpenClaim.holds_of_wide 21 Try.f21 rfl rfl rfl rfl rfl rfl rfl ⟨rfl, rfl, rfl, rfl, rfl⟩ rfl rfl rfl rfl rfl (by kernel_rfl) Try.func21 (by kernel_rfl)
    (of_decide_eq_true (by kernel_rfl)) (by unfold Func.isWrapper; first | (rw [if_pos (by decide +kernel)]; kernel_rfl) | (rw [if_neg (by decide +kernel)]; exact ⟨rfl, rfl⟩))
    (fun os started H enc _ => lifted os started H enc)

theorem proved : Rows.MapsReadSaid := over

#print axioms proved
end Go.Proofs.Ytnpfppddongbhaa.LMapsRead
