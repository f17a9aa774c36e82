/-
  The law CursorReads holds of the program: whatever the input, it returns true, and the input reads as before. No condition.
-/
import Derived.Test.YtnpfppddongbhaaRows
import Derived.Test.YtnpfppddongbhaaCu11
import Derived.WalkKit
import Derived.ProofKit
import Derived.OpenShut
namespace Go.Proofs.Ytnpfppddongbhaa.LCursorReads
open Go.ChangeShapes Go.WideShapes Go.ChangeAt Go.RowKit Go.AM
set_option linter.unusedVariables false

theorem own : ownKnob Try.prog.godebug = none := by kernel_rfl

theorem walk (w : World) (V V2 : Value) (l : List Int) (A : ArgS .u8 w V l) (l2 : List Int) (A2 : ArgS .i64 w V2 l2) : Calls Try.prog 5 #[V, V2] w fun e w' => e = .returned (.bool true) ∧ Kept w w' := walkReads w V V2 l l2 A A2

set_option maxRecDepth 100000 in
theorem lifted (os : Os) (started : os.Started) (H : Type) (enc : TypeId × Value → H) :
    ReturnsInHanded {} Try.checked os 5 .any (Rows.cursorReadsSpec.pre6 enc Try.prog Try.f5 Rows.cursorReadsRow.domain false) (Rows.cursorReadsSpec.post enc Try.prog Try.f5 false true false false) := by
  refine returnsInHanded_of_change (C := Try.checked) own started (by kernel_rfl) Try.func5
    (ChangeSpec.witness6 (enc := enc) (C := Try.checked) false ⟨#[], #[.slice none 0 0, .slice none 0 0], []⟩ 8 (by kernel_rfl) (by kernel_rfl) (by kernel_rfl) (by kernel_rfl)) ?_
  intro W base args ds gs before hval0 hW hcnd _
  have hval : ∀ (j : Nat) t v, Try.f5.params[j]? = some t → args[j]? = some v → Value.okWide Try.prog W .any base t v := hval0
  have hW' := hW
  obtain ⟨p, q, hA0, hV, rfl, hfz, hnd⟩ := hW
  have hA : DataW.TrodAll enc Try.prog W 0 (fun _ => true) true Try.f5.params.toList args.toList ds p := hA0
  rw [Try.params5] at hA hval
  obtain ⟨v0, vs0, d0, ds0, p0, q0, hargs, rfl, rfl, h0, r0⟩ := trodAll_cons hA
  obtain ⟨v1, vs1, d1, ds1, p1, q1, rfl, rfl, rfl, h1, r1⟩ := trodAll_cons r0
  obtain ⟨rfl, rfl, rfl⟩ := trodAll_nil r1
  obtain rfl : args = #[v0, v1] := by cases args; simp_all
  obtain ⟨rfl, rfl⟩ := trodVars_none hV
  obtain ⟨x0, y0, z0, rfl⟩ := Go.WideShapes.okWide_slice Try.underlying24 (hval 0 24 v0 rfl rfl)
  obtain ⟨l0, A0, S0⟩ := open_arg (k := .u8) Try.underlying24 Try.underlying5 (by kernel_rfl) rfl h0
  obtain ⟨x1, y1, z1, rfl⟩ := Go.WideShapes.okWide_slice Try.underlying22 (hval 1 22 v1 rfl rfl)
  obtain ⟨l1, A1, S1⟩ := open_arg (k := .i64) Try.underlying22 Try.underlying3 (by kernel_rfl) rfl h1
  clear hA0 hval0
  refine (walk W _ _ l0 A0 l1 A1).mono fun e W' ⟨he, hg⟩ => ?_
  subst he
  exact ⟨_, rfl, AM.post_kept (pv := []) hW' (fun _ _ _ => (trodAll_cons_mk (shut_bool Try.underlying4 _) trodAll_mk0)) (fun sp hsp => (trodAll_cons_mk (S0 W' sp hg.2.1 (fun q hq => hsp q (by simp [hq]))) (trodAll_cons_mk (S1 W' sp hg.2.1 (fun q hq => hsp q (by simp [hq]))) trodAll_mk0))) (fun _ _ => rfl) hg.1⟩

theorem over : Rows.cursorReadsRow.holds Try.pinned (OpenSpec.ofChange Rows.cursorReadsSpec) :=
  OpenClaim.holds_of_wide 5 Try.f5 rfl rfl rfl rfl rfl rfl rfl ⟨rfl, rfl, rfl, rfl, rfl⟩ rfl rfl rfl rfl rfl (by kernel_rfl) Try.func5 (by kernel_rfl)
    (of_decide_eq_true (by kernel_rfl)) (by unfold Func.isWrapper; first | (rw [if_pos (by decide +kernel)]; kernel_rfl) | (rw [if_neg (by decide +kernel)]; exact ⟨rfl, rfl⟩))
    (fun os started H enc _ => lifted os started H enc)

theorem proved : Rows.CursorReadsSaid := over

#print axioms proved
end Go.Proofs.Ytnpfppddongbhaa.LCursorReads
