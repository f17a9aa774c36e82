/-
  The law TopVerify holds of the program: whatever the input, it returns true, and the input reads as before. No condition; the card ties the two tables that the row lists to the program's text.
-/
import Derived.Test.YtdjgkjjgcbgniaaGreatDoorX5
import Derived.Test.YtdjgkjjgcbgniaaGreatDoorX5a
import Derived.Test.YtdjgkjjgcbgniaaGreatDoorX5b
import Derived.Test.YtdjgkjjgcbgniaaGreatDoorWt
import Derived.Test.YtdjgkjjgcbgniaaGreatDoorFg
import Derived.Test.YtdjgkjjgcbgniaaGreatDoorK5
set_option linter.unusedVariables false
set_option linter.unusedSimpArgs false
namespace Go.Proofs.YtdjgkjjgcbgniaaGreatDoor.LTopVerify
open Go.ChangeShapes Go.WideShapes Go.ChangeAt Go.RowKit Go.AM
set_option linter.unusedVariables false

set_option maxRecDepth 100000
theorem eP (s9 s10 s11 s12 s13 : Fun) : pre5 s9 s10 s11 s12 s13 = fun h => denA Tryz.prog (gam [(9, s9), (10, s10), (11, s11), (12, s12), (13, s13)]) Tryz.f5 4 (Tryz.f5.body.getD .skip) g5 env0 h (fun env h => .norm [env 1] h) := by kernel_rfl
theorem eS (s9 s10 s11 s12 s13 : Fun) : suf5 s9 s10 s11 s12 s13 (.bool true) = fun h => den Tryz.prog (gam [(9, s9), (10, s10), (11, s11), (12, s12), (13, s13)]) Tryz.f5 ((cutC 4 (Tryz.f5.body.getD .skip) g5).getD (.skip, .z)).1 ((cutC 4 (Tryz.f5.body.getD .skip) g5).getD (.skip, .z)).2 [] (upd env0 1 (.bool true)) h (fun env h => rt Tryz.prog Tryz.f5 env h) := by kernel_rfl
theorem walk (w : World) (hsh : w.ShapedOpen Tryz.prog) : Calls Tryz.prog 5 #[] w fun e w' => e = .returned (.bool true) ∧ Kept w w' := by
  obtain ⟨h2, e2⟩ := isT_inv part2
  exact law_cut hmix (gcons F9 (gcons F10 (gcons F11 (gcons F12 (gcons F13 gnil))))) Tryz.func5 (show Tryz.f5.body = some (Tryz.f5.body.getD .skip) by kernel_rfl) 4 1 (show cutC 4 (Tryz.f5.body.getD .skip) g5 = some (((cutC 4 (Tryz.f5.body.getD .skip) g5).getD (.skip, .z)).1, ((cutC 4 (Tryz.f5.body.getD .skip) g5).getD (.skip, .z)).2) by kernel_rfl) ((congrFun (eP s9 s10 s11 s12 s13) H0).symm.trans (norm_of part1)) ((congrFun (eS s9 s10 s11 s12 s13) H0).symm.trans e2) w (maxLen_J hsh)


set_option maxRecDepth 100000 in
theorem contract (H : Type) (enc : TypeId × Value → H) (W : World) (base : Nat) (args : Array Value) (ds gs : List (DataW H)) (before : List MemPlace)
    (hval : ∀ (j : Nat) t v, Tryz.f5.params[j]? = some t → args[j]? = some v → Value.okWide Tryz.prog W .any base t v)
    (hW : DataW.Whole enc Tryz.prog Tryz.f5.params.toList Rows.topVerifySpec.vars false W args.toList ds gs before) (hsh : W.ShapedOpen Tryz.prog) :
    Calls Tryz.prog 5 args W fun e W' => ∃ v, e = .returned v ∧ Rows.topVerifySpec.post enc Tryz.prog Tryz.f5 false true false false W args v W' := by
  have hW' := hW
  obtain ⟨p, q, hA0, hV, rfl, hfz, hnd⟩ := hW
  have hA : DataW.TrodAll enc Tryz.prog W 0 (fun _ => true) true Tryz.f5.params.toList args.toList ds p := hA0
  rw [Tryz.params5] at hA hval
  obtain ⟨rfl, rfl, rfl⟩ := trodAll_none hA
  obtain ⟨rfl, rfl⟩ := trodVars_none hV
  clear hA0
  simp only [List.append_nil] at hW'
  refine (walk W hsh).mono fun e W' ⟨he, hg⟩ => ?_
  subst he
  exact ⟨_, rfl, AM.post_kept (pa := []) (pv := []) hW' (fun _ _ _ => (trodAll_cons_mk (shut_bool Tryz.underlying4 _) trodAll_mk0)) (fun sp hsp => rfl) (fun _ _ => rfl) hg.1⟩

theorem met (os : Os) : laidMet Tryz.prog Rows.topVerifyRow.laid ((laidWorld os #[]).forCall (fun _ _ => 0) ⟨#[], #[], []⟩).memory :=
  laidMet_of_run3 12 (by kernel_rfl) (by kernel_rfl) (by kernel_rfl)
theorem reads (os : Os) {H : Type} (enc : TypeId × Value → H) : ∃ places, DataW.whole enc Tryz.prog ((laidWorld os #[]).forCall (fun _ _ => 0) ⟨#[], #[], []⟩).memory Tryz.f5.params.toList Rows.topVerifySpec.vars false (#[] : Array Value).toList 8 = some ([], [], places) :=
  ⟨[], by kernel_rfl⟩
set_option maxRecDepth 100000 in
theorem lifted (os : Os) (started : os.Started) (H : Type) (enc : TypeId × Value → H) (F : Stop.Interp) :
    ReturnsInHanded {} Tryz.checked os 5 .any ((OpenSpec.ofChange Rows.topVerifySpec).preRow enc Tryz.prog Tryz.f5 Rows.topVerifyRow.domain false Rows.topVerifyRow.laid) (((OpenSpec.ofChange Rows.topVerifySpec).at F).post enc Tryz.prog Tryz.f5 false true false false) := by
  obtain ⟨places, hx⟩ := reads os enc
  refine returnsInHanded_of_row (C := Tryz.checked) (s := OpenSpec.ofChange Rows.topVerifySpec) own started (by kernel_rfl) Tryz.func5
    (witness_row_at (enc := enc) (C := Tryz.checked) false (laidWorld os #[]) #[] rfl (by kernel_rfl) (by kernel_rfl) (by kernel_rfl)
      (OpenSpec.preRow_of_cond 8 hx (by kernel_rfl) (fun k hk => by cases hk) (by kernel_rfl) (met os))) ?_
  intro W base args ds gs before hval hW _ _ _ _ hsh _
  exact contract H enc W base args ds gs before hval hW hsh

theorem said : Rows.TopVerifySaid :=
  OpenClaim.holds_of_cond 5 Tryz.f5 rfl rfl rfl rfl rfl rfl rfl ⟨rfl, rfl, rfl, rfl, rfl⟩ rfl rfl rfl rfl rfl (by kernel_rfl) Tryz.func5 closed
    (of_decide_eq_true (by kernel_rfl)) (by unfold Func.isWrapper; first | (rw [if_pos (by decide +kernel)]; kernel_rfl) | (rw [if_neg (by decide +kernel)]; exact ⟨rfl, rfl⟩))
    (fun os started H enc _ F => by rw [OpenClaim.pre_eq_preRow]; exact lifted os started H enc F)

theorem plain (f : FuncId) (fn : Func) (hf : Tryz.pinned.checked.prog.funcNamed "obelisk/obelisktop.TopVerify" = some f) (hfn : Tryz.pinned.checked.prog.funcs[f]? = some fn) :
    false = Tryz.pinned.checked.prog.looks [] ∧ ∀ (j : Nat) t, fn.params[j]? = some t → Tryz.pinned.checked.prog.wantsStandIn t = false := by
  obtain rfl : f = 5 := Option.some.inj ((show Tryz.prog.funcNamed "obelisk/obelisktop.TopVerify" = some 5 by kernel_rfl).symm.trans hf) |>.symm
  obtain rfl : fn = Tryz.f5 := (Option.some.inj (Tryz.func5.symm.trans hfn)).symm
  refine ⟨by kernel_rfl, fun j t ht => ?_⟩
  rw [Tryz.params5] at ht
  simp at ht

theorem proved : Rows.TopVerifyCardSaid :=
  Claim7.holds_tied_plain_at .later [] _ _ _ _ said (fun _ h => by cases h) (by kernel_rfl) (fun _ h => by cases h) topVerify_row_tie rfl ⟨rfl, rfl⟩ (by kernel_rfl) rfl plain goes

#print axioms proved
end Go.Proofs.YtdjgkjjgcbgniaaGreatDoor.LTopVerify
