/-
  The law TopArgs holds of the program: whatever the input, it returns true, and the input reads as before. No condition; the card ties the two tables that the row lists to the program's text.
-/
import Derived.Test.YtdjgkjjgcbgniaaGreatDoorX7
import Derived.Test.YtdjgkjjgcbgniaaGreatDoorX7a
import Derived.Test.YtdjgkjjgcbgniaaGreatDoorX7b
import Derived.Test.YtdjgkjjgcbgniaaGreatDoorX7c
import Derived.Test.YtdjgkjjgcbgniaaGreatDoorX7d
import Derived.Test.YtdjgkjjgcbgniaaGreatDoorX7e
import Derived.Test.YtdjgkjjgcbgniaaGreatDoorX7f
import Derived.Test.YtdjgkjjgcbgniaaGreatDoorWt
import Derived.Test.YtdjgkjjgcbgniaaGreatDoorFg
import Derived.Test.YtdjgkjjgcbgniaaGreatDoorK7
set_option linter.unusedVariables false
set_option linter.unusedSimpArgs false
namespace Go.Proofs.YtdjgkjjgcbgniaaGreatDoor.LTopArgs
open Go.ChangeShapes Go.WideShapes Go.ChangeAt Go.RowKit Go.AM
set_option linter.unusedVariables false

set_option maxRecDepth 100000
theorem walk (w : World) (hsh : w.ShapedOpen Tryz.prog) (V : Value) (l : List Int) (A : ArgS .i64 w V l) : Calls Tryz.prog 7 #[V] w fun e w' => e = .returned (.bool true) ∧ Kept w w' := by
  have hj := maxLen_J hsh
  have key : ∀ {ρ : Rho} {h : Hp} {v : AV}, Args (Tryz.prog.globalNamed "internal/bytealg.MaxLen") ρ h w → VR ρ v V → isT (s7 [v] h) = true → Calls Tryz.prog 7 #[V] w fun e w' => e = .returned (.bool true) ∧ Kept w w' := by
    intro ρ h v ha hv hT
    obtain ⟨h', e⟩ := isT_inv hT
    exact law_walk2 F7.1 ha e (.cons hv .nil)
  match l, A with
  | [], A =>
    obtain ⟨ρ, h, v, h1, h2, ⟨-, rfl, rfl | rfl⟩ | ⟨rfl, rfl⟩⟩ := one_arg hj A 0 (Nat.zero_le _)
    · exact key h1 h2 xt0a
    · exact key h1 h2 xt0b
    · exact key h1 h2 xt0c
  | [a0], A =>
    obtain ⟨ρ, h, v, h1, h2, ⟨h3, -⟩ | ⟨rfl, rfl⟩⟩ := one_arg hj A 1 (Nat.le_refl _)
    · cases h3
    · exact key h1 h2 (xt1 a0)
  | [a0, a1], A =>
    obtain ⟨ρ, h, v, h1, h2, ⟨h3, -⟩ | ⟨rfl, rfl⟩⟩ := one_arg hj A 2 (Nat.le_refl _)
    · cases h3
    · exact key h1 h2 (xt2 a0 a1)
  | [a0, a1, a2], A =>
    obtain ⟨ρ, h, v, h1, h2, ⟨h3, -⟩ | ⟨rfl, rfl⟩⟩ := one_arg hj A 3 (Nat.le_refl _)
    · cases h3
    · exact key h1 h2 (xt3 a0 a1 a2)
  | [a0, a1, a2, a3], A =>
    obtain ⟨ρ, h, v, h1, h2, ⟨h3, -⟩ | ⟨rfl, rfl⟩⟩ := one_arg hj A 4 (Nat.le_refl _)
    · cases h3
    · exact key h1 h2 (xt4 a0 a1 a2 a3)
  | [a0, a1, a2, a3, a4], A =>
    obtain ⟨ρ, h, v, h1, h2, ⟨h3, -⟩ | ⟨rfl, rfl⟩⟩ := one_arg hj A 5 (Nat.le_refl _)
    · cases h3
    · exact key h1 h2 (xt5 a0 a1 a2 a3 a4)
  | [a0, a1, a2, a3, a4, a5], A =>
    obtain ⟨ρ, h, v, h1, h2, ⟨h3, -⟩ | ⟨rfl, rfl⟩⟩ := one_arg hj A 6 (Nat.le_refl _)
    · cases h3
    · exact key h1 h2 (xt6 a0 a1 a2 a3 a4 a5)
  | [a0, a1, a2, a3, a4, a5, a6], A =>
    obtain ⟨ρ, h, v, h1, h2, ⟨h3, -⟩ | ⟨rfl, rfl⟩⟩ := one_arg hj A 7 (Nat.le_refl _)
    · cases h3
    · exact key h1 h2 (xt7 a0 a1 a2 a3 a4 a5 a6)
  | [a0, a1, a2, a3, a4, a5, a6, a7], A =>
    obtain ⟨ρ, h, v, h1, h2, ⟨h3, -⟩ | ⟨rfl, rfl⟩⟩ := one_arg hj A 8 (Nat.le_refl _)
    · cases h3
    · exact key h1 h2 (xt8 a0 a1 a2 a3 a4 a5 a6 a7)
  | [a0, a1, a2, a3, a4, a5, a6, a7, a8], A =>
    obtain ⟨ρ, h, v, h1, h2, ⟨h3, -⟩ | ⟨rfl, rfl⟩⟩ := one_arg hj A 9 (Nat.le_refl _)
    · cases h3
    · exact key h1 h2 (xt9 a0 a1 a2 a3 a4 a5 a6 a7 a8)
  | [a0, a1, a2, a3, a4, a5, a6, a7, a8, a9], A =>
    obtain ⟨ρ, h, v, h1, h2, ⟨h3, -⟩ | ⟨rfl, rfl⟩⟩ := one_arg hj A 10 (Nat.le_refl _)
    · cases h3
    · exact key h1 h2 (xt10 a0 a1 a2 a3 a4 a5 a6 a7 a8 a9)
  | a0 :: a1 :: a2 :: a3 :: a4 :: a5 :: a6 :: a7 :: a8 :: a9 :: a10 :: rest, A =>
    obtain ⟨ρ, h, v, h1, h2, ⟨h3, -⟩ | ⟨rfl, rfl⟩⟩ := one_arg hj A 10 (by simp only [List.length_cons]; omega)
    · cases h3
    · exact key h1 h2 (xt11 a0 a1 a2 a3 a4 a5 a6 a7 a8 a9 rest.length)


set_option maxRecDepth 100000 in
theorem contract (H : Type) (enc : TypeId × Value → H) (W : World) (base : Nat) (args : Array Value) (ds gs : List (DataW H)) (before : List MemPlace)
    (hval : ∀ (j : Nat) t v, Tryz.f7.params[j]? = some t → args[j]? = some v → Value.okWide Tryz.prog W .any base t v)
    (hW : DataW.Whole enc Tryz.prog Tryz.f7.params.toList Rows.topArgsSpec.vars false W args.toList ds gs before) (hsh : W.ShapedOpen Tryz.prog) :
    Calls Tryz.prog 7 args W fun e W' => ∃ v, e = .returned v ∧ Rows.topArgsSpec.post enc Tryz.prog Tryz.f7 false true false false W args v W' := by
  have hW' := hW
  obtain ⟨p, q, hA0, hV, rfl, hfz, hnd⟩ := hW
  have hA : DataW.TrodAll enc Tryz.prog W 0 (fun _ => true) true Tryz.f7.params.toList args.toList ds p := hA0
  rw [Tryz.params7] at hA hval
  obtain ⟨v0, vs0, d0, ds0, p0, q0, hargs, rfl, rfl, h0, r0⟩ := trodAll_cons hA
  obtain ⟨rfl, rfl, rfl⟩ := trodAll_nil r0
  obtain rfl : args = #[v0] := by cases args; simp_all
  obtain ⟨rfl, rfl⟩ := trodVars_none hV
  obtain ⟨x0, y0, z0, rfl⟩ := Go.WideShapes.okWide_slice Tryz.underlying48 (hval 0 48 v0 rfl rfl)
  obtain ⟨l0, A0, S0⟩ := open_arg (k := .i64) Tryz.underlying48 Tryz.underlying2 (by kernel_rfl) rfl h0
  clear hA0
  refine (walk W hsh _ l0 A0).mono fun e W' ⟨he, hg⟩ => ?_
  subst he
  exact ⟨_, rfl, AM.post_kept (pv := []) hW' (fun _ _ _ => (trodAll_cons_mk (shut_bool Tryz.underlying4 _) trodAll_mk0)) (fun sp hsp => (trodAll_cons_mk (S0 W' sp hg.2.1 (fun q hq => hsp q (by simp [hq]))) trodAll_mk0)) (fun _ _ => rfl) hg.1⟩

theorem met (os : Os) : laidMet Tryz.prog Rows.topArgsRow.laid ((laidWorld os #[.slice none 0 0]).forCall (fun _ _ => 0) ⟨#[], #[.slice none 0 0], []⟩).memory :=
  laidMet_of_run3 12 (by kernel_rfl) (by kernel_rfl) (by kernel_rfl)
theorem reads (os : Os) {H : Type} (enc : TypeId × Value → H) : ∃ places, DataW.whole enc Tryz.prog ((laidWorld os #[.slice none 0 0]).forCall (fun _ _ => 0) ⟨#[], #[.slice none 0 0], []⟩).memory Tryz.f7.params.toList Rows.topArgsSpec.vars false (#[.slice none 0 0] : Array Value).toList 8 = some ([.nil], [], places) :=
  ⟨[], by kernel_rfl⟩
set_option maxRecDepth 100000 in
theorem lifted (os : Os) (started : os.Started) (H : Type) (enc : TypeId × Value → H) (F : Stop.Interp) :
    ReturnsInHanded {} Tryz.checked os 7 .any ((OpenSpec.ofChange Rows.topArgsSpec).preRow enc Tryz.prog Tryz.f7 Rows.topArgsRow.domain false Rows.topArgsRow.laid) (((OpenSpec.ofChange Rows.topArgsSpec).at F).post enc Tryz.prog Tryz.f7 false true false false) := by
  obtain ⟨places, hx⟩ := reads os enc
  refine returnsInHanded_of_row (C := Tryz.checked) (s := OpenSpec.ofChange Rows.topArgsSpec) own started (by kernel_rfl) Tryz.func7
    (witness_row_at (enc := enc) (C := Tryz.checked) false (laidWorld os #[.slice none 0 0]) #[.slice none 0 0] rfl (by kernel_rfl) (by kernel_rfl) (by kernel_rfl)
      (OpenSpec.preRow_of_cond 8 hx (by kernel_rfl) (fun k hk => by cases hk) (by kernel_rfl) (met os))) ?_
  intro W base args ds gs before hval hW _ _ _ _ hsh _
  exact contract H enc W base args ds gs before hval hW hsh

theorem said : Rows.TopArgsSaid :=
  OpenClaim.holds_of_cond 7 Tryz.f7 rfl rfl rfl rfl rfl rfl rfl ⟨rfl, rfl, rfl, rfl, rfl⟩ rfl rfl rfl rfl rfl (by kernel_rfl) Tryz.func7 closed
    (of_decide_eq_true (by kernel_rfl)) (by unfold Func.isWrapper; first | (rw [if_pos (by decide +kernel)]; kernel_rfl) | (rw [if_neg (by decide +kernel)]; exact ⟨rfl, rfl⟩))
    (fun os started H enc _ F => by rw [OpenClaim.pre_eq_preRow]; exact lifted os started H enc F)

theorem plain (f : FuncId) (fn : Func) (hf : Tryz.pinned.checked.prog.funcNamed "obelisk/obelisktop.TopArgs" = some f) (hfn : Tryz.pinned.checked.prog.funcs[f]? = some fn) :
    false = Tryz.pinned.checked.prog.looks [] ∧ ∀ (j : Nat) t, fn.params[j]? = some t → Tryz.pinned.checked.prog.wantsStandIn t = false := by
  obtain rfl : f = 7 := Option.some.inj ((show Tryz.prog.funcNamed "obelisk/obelisktop.TopArgs" = some 7 by kernel_rfl).symm.trans hf) |>.symm
  obtain rfl : fn = Tryz.f7 := (Option.some.inj (Tryz.func7.symm.trans hfn)).symm
  refine ⟨by kernel_rfl, fun j t ht => ?_⟩
  rw [Tryz.params7] at ht
  have hm : t ∈ ([48] : List TypeId) := by simpa using Array.mem_of_getElem? ht
  have hall : (([48] : List TypeId).all fun u => !Tryz.prog.wantsStandIn u) = true := by kernel_rfl
  exact (show Tryz.prog.wantsStandIn t = false by simpa using List.all_eq_true.1 hall t hm)

theorem proved : Rows.TopArgsCardSaid :=
  Claim7.holds_tied_plain_at .later [] _ _ _ _ said (fun _ h => by cases h) (by kernel_rfl) (fun _ h => by cases h) topArgs_row_tie rfl ⟨rfl, rfl⟩ (by kernel_rfl) rfl plain goes

#print axioms proved
end Go.Proofs.YtdjgkjjgcbgniaaGreatDoor.LTopArgs
