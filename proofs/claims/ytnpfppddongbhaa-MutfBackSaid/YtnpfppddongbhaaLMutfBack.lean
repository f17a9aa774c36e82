/-
  The law MutfBack holds of the program: whatever the input, it returns true, and the input reads as before. No condition.
-/
import Derived.Test.YtnpfppddongbhaaRows
import Derived.Test.YtnpfppddongbhaaMb1
import Derived.WalkKit
import Derived.ProofKit
import Derived.OpenShut
namespace Go.Proofs.Ytnpfppddongbhaa.LMutfBack
open Go.ChangeShapes Go.WideShapes Go.ChangeAt Go.RowKit Go.AM
set_option linter.unusedVariables false

theorem own : ownKnob Try.prog.godebug = none := by kernel_rfl

theorem walk (w : World) (V : Value) (l : List Int) (A : ArgS .u16 w V l) : Calls Try.prog 8 #[V] w fun e w' => e = .returned (.bool true) ∧ Kept w w' := walkBack w V l A

set_option maxRecDepth 100000 in
theorem lifted (os : Os) (started : os.Started) (H : Type) (enc : TypeId × Value → H) :
    ReturnsInHanded {} Try.checked os 8 .any (Rows.mutfBackSpec.pre6 enc Try.prog Try.f8 Rows.mutfBackRow.domain false) (Rows.mutfBackSpec.post enc Try.prog Try.f8 false true false false) := by
  refine returnsInHanded_of_change (C := Try.checked) own started (by kernel_rfl) Try.func8
    (ChangeSpec.witness6 (enc := enc) (C := Try.checked) false ⟨#[], #[.slice none 0 0], []⟩ 8 (by kernel_rfl) (by kernel_rfl) (by kernel_rfl) (by kernel_rfl)) ?_
  intro W base args ds gs before hval0 hW hcnd _
  have hval : ∀ (j : Nat) t v, Try.f8.params[j]? = some t → args[j]? = some v → Value.okWide Try.prog W .any base t v := hval0
  have hW' := hW
  obtain ⟨p, q, hA0, hV, rfl, hfz, hnd⟩ := hW
  have hA : DataW.TrodAll enc Try.prog W 0 (fun _ => true) true Try.f8.params.toList args.toList ds p := hA0
  rw [Try.params8] at hA hval
  obtain ⟨v0, vs0, d0, ds0, p0, q0, hargs, rfl, rfl, h0, r0⟩ := trodAll_cons hA
  obtain ⟨rfl, rfl, rfl⟩ := trodAll_nil r0
  obtain rfl : args = #[v0] := by cases args; simp_all
  obtain ⟨rfl, rfl⟩ := trodVars_none hV
  obtain ⟨x0, y0, z0, rfl⟩ := Go.WideShapes.okWide_slice Try.underlying40 (hval 0 40 v0 rfl rfl)
  obtain ⟨l0, A0, S0⟩ := open_arg (k := .u16) Try.underlying40 Try.underlying54 (by kernel_rfl) rfl h0
  clear hA0 hval0
  refine (walk W _ l0 A0).mono fun e W' ⟨he, hg⟩ => ?_
  subst he
  exact ⟨_, rfl, AM.post_kept (pv := []) hW' (fun _ _ _ => (trodAll_cons_mk (shut_bool Try.underlying4 _) trodAll_mk0)) (fun sp hsp => (trodAll_cons_mk (S0 W' sp hg.2.1 (fun q hq => hsp q (by simp [hq]))) trodAll_mk0)) (fun _ _ => rfl) hg.1⟩

theorem over : Rows.mutfBackRow.holds Try.pinned (OpenSpec.ofChange Rows.mutfBackSpec) :=
  OpenClaim.holds_of_wide 8 Try.f8 rfl rfl rfl rfl rfl rfl rfl ⟨rfl, rfl, rfl, rfl, rfl⟩ rfl rfl rfl rfl rfl (by kernel_rfl) Try.func8 (by kernel_rfl)
    (of_decide_eq_true (by kernel_rfl)) (by unfold Func.isWrapper; first | (rw [if_pos (by decide +kernel)]; kernel_rfl) | (rw [if_neg (by decide +kernel)]; exact ⟨rfl, rfl⟩))
    (fun os started H enc _ => lifted os started H enc)

theorem proved : Rows.MutfBackSaid := over

#print axioms proved
end Go.Proofs.Ytnpfppddongbhaa.LMutfBack
