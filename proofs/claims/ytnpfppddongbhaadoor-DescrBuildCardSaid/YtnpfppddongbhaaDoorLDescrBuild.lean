/-
  The law DescrBuild holds of the program: whatever the input, it returns true, and the input reads as before. No condition; the card ties the two tables that the row lists to the program's text.
-/
import Derived.Test.YtnpfppddongbhaaDoorNb3
namespace Go.Proofs.YtnpfppddongbhaaDoor.LDescrBuild
open Go.ChangeShapes Go.WideShapes Go.ChangeAt Go.RowKit Go.AM
set_option linter.unusedVariables false

theorem vr_i (ρ : Rho) (a : Int) : VR ρ (.int 63 a) (.int .i64 a) := ⟨.i64, rfl, rfl⟩
theorem walk (w : World) (hsh : w.ShapedOpen Tryd.prog) (V : Value) (l : List Int) (A : ArgS .i64 w V l) (V2 : Value) (l2 : List Int) (A2 : ArgS .i64 w V2 l2) (a2 : Int) (w2 : (Lit.int .i64 a2).wf = true) : Calls Tryd.prog 9 #[V, V2, .int .i64 a2] w fun e w' => e = .returned (.bool true) ∧ Kept w w' := by
  obtain ⟨ρ1, h1, v1, F1, x1, r1, s1, o1⟩ := add_arg (Args.none (maxLen_J hsh)) A
  obtain ⟨ρ2, h2, v2, F2, x2, r2, s2, o2⟩ := add_arg F1 A2
  have nb := o2.nb
  obtain ⟨h', e⟩ := lawBuild (K := l) (D := l2) (P := fun b => b < h2.nb) F2.wf (fun b hb => hb) ((s1.to o2 (fun _ _ f => f)).mono fun b hb => Nat.lt_of_lt_of_le hb nb) s2 a2
  exact law_walk2 F9.1 F2 e (.cons (r1.ext x2) (.cons r2 (.cons (vr_i _ _) .nil)))

set_option maxRecDepth 100000 in
theorem contract (H : Type) (enc : TypeId × Value → H) (W : World) (base : Nat) (args : Array Value) (ds gs : List (DataW H)) (before : List MemPlace)
    (hval : ∀ (j : Nat) t v, Tryd.f9.params[j]? = some t → args[j]? = some v → Value.okWide Tryd.prog W .any base t v)
    (hW : DataW.Whole enc Tryd.prog Tryd.f9.params.toList Rows.descrBuildSpec.vars false W args.toList ds gs before) (hsh : W.ShapedOpen Tryd.prog) :
    Calls Tryd.prog 9 args W fun e W' => ∃ v, e = .returned v ∧ Rows.descrBuildSpec.post enc Tryd.prog Tryd.f9 false true false false W args v W' := by
  have hW' := hW
  obtain ⟨p, q, hA0, hV, rfl, hfz, hnd⟩ := hW
  have hA : DataW.TrodAll enc Tryd.prog W 0 (fun _ => true) true Tryd.f9.params.toList args.toList ds p := hA0
  rw [Tryd.params9] at hA hval
  obtain ⟨v0, vs0, d0, ds0, p0, q0, hargs, rfl, rfl, h0, r0⟩ := trodAll_cons hA
  obtain ⟨v1, vs1, d1, ds1, p1, q1, rfl, rfl, rfl, h1, r1⟩ := trodAll_cons r0
  obtain ⟨v2, vs2, d2, ds2, p2, q2, rfl, rfl, rfl, h2, r2⟩ := trodAll_cons r1
  obtain ⟨rfl, rfl, rfl⟩ := trodAll_nil r2
  obtain rfl : args = #[v0, v1, v2] := by cases args; simp_all
  obtain ⟨rfl, rfl⟩ := trodVars_none hV
  obtain ⟨x0, y0, z0, rfl⟩ := Go.WideShapes.okWide_slice Tryd.underlying41 (hval 0 41 v0 rfl rfl)
  obtain ⟨l0, A0, S0⟩ := open_arg (k := .i64) Tryd.underlying41 Tryd.underlying3 (by kernel_rfl) rfl h0
  obtain ⟨x1, y1, z1, rfl⟩ := Go.WideShapes.okWide_slice Tryd.underlying41 (hval 1 41 v1 rfl rfl)
  obtain ⟨l1, A1, S1⟩ := open_arg (k := .i64) Tryd.underlying41 Tryd.underlying3 (by kernel_rfl) rfl h1
  obtain ⟨a2, rfl, rfl, rfl, w2⟩ := open_int Tryd.underlying3 (hval 2 3 v2 rfl rfl) h2
  clear hA0
  refine (walk W hsh _ l0 A0 _ l1 A1 a2 w2).mono fun e W' ⟨he, hg⟩ => ?_
  subst he
  exact ⟨_, rfl, AM.post_kept (pv := []) hW' (fun _ _ _ => (trodAll_cons_mk (shut_bool Tryd.underlying4 _) trodAll_mk0)) (fun sp hsp => (trodAll_cons_mk (S0 W' sp hg.2.1 (fun q hq => hsp q (by simp [hq]))) (trodAll_cons_mk (S1 W' sp hg.2.1 (fun q hq => hsp q (by simp [hq]))) (trodAll_cons_mk (shut_int Tryd.underlying3 w2) trodAll_mk0)))) (fun _ _ => rfl) hg.1⟩

theorem met (os : Os) : laidMet Tryd.prog Rows.descrBuildRow.laid ((laidWorld os #[.slice none 0 0, .slice none 0 0, .int .i64 0]).forCall (fun _ _ => 0) ⟨#[], #[.slice none 0 0, .slice none 0 0, .int .i64 0], []⟩).memory :=
  laidMet_of_run3 12 (by kernel_rfl) (by kernel_rfl) (by kernel_rfl)
theorem reads (os : Os) {H : Type} (enc : TypeId × Value → H) : ∃ places, DataW.whole enc Tryd.prog ((laidWorld os #[.slice none 0 0, .slice none 0 0, .int .i64 0]).forCall (fun _ _ => 0) ⟨#[], #[.slice none 0 0, .slice none 0 0, .int .i64 0], []⟩).memory Tryd.f9.params.toList Rows.descrBuildSpec.vars false (#[.slice none 0 0, .slice none 0 0, .int .i64 0] : Array Value).toList 8 = some ([.nil, .nil, .lit (.int .i64 0)], [], places) :=
  ⟨[], by kernel_rfl⟩
set_option maxRecDepth 100000 in
theorem lifted (os : Os) (started : os.Started) (H : Type) (enc : TypeId × Value → H) (F : Stop.Interp) :
    ReturnsInHanded {} Tryd.checked os 9 .any ((OpenSpec.ofChange Rows.descrBuildSpec).preRow enc Tryd.prog Tryd.f9 Rows.descrBuildRow.domain false Rows.descrBuildRow.laid) (((OpenSpec.ofChange Rows.descrBuildSpec).at F).post enc Tryd.prog Tryd.f9 false true false false) := by
  obtain ⟨places, hx⟩ := reads os enc
  refine returnsInHanded_of_row (C := Tryd.checked) (s := OpenSpec.ofChange Rows.descrBuildSpec) own started (by kernel_rfl) Tryd.func9
    (witness_row_at (enc := enc) (C := Tryd.checked) false (laidWorld os #[.slice none 0 0, .slice none 0 0, .int .i64 0]) #[.slice none 0 0, .slice none 0 0, .int .i64 0] rfl (by kernel_rfl) (by kernel_rfl) (by kernel_rfl)
      (OpenSpec.preRow_of_cond 8 hx (by kernel_rfl) (fun k hk => by cases hk) (by kernel_rfl) (met os))) ?_
  intro W base args ds gs before hval hW _ _ _ _ hsh _
  exact contract H enc W base args ds gs before hval hW hsh

theorem said : Rows.DescrBuildSaid :=
  OpenClaim.holds_of_cond 9 Tryd.f9 rfl rfl rfl rfl rfl rfl rfl ⟨rfl, rfl, rfl, rfl, rfl⟩ rfl rfl rfl rfl rfl (by kernel_rfl) Tryd.func9 (by kernel_rfl)
    (of_decide_eq_true (by kernel_rfl)) (by unfold Func.isWrapper; first | (rw [if_pos (by decide +kernel)]; kernel_rfl) | (rw [if_neg (by decide +kernel)]; exact ⟨rfl, rfl⟩))
    (fun os started H enc _ F => by rw [OpenClaim.pre_eq_preRow]; exact lifted os started H enc F)

theorem plain (f : FuncId) (fn : Func) (hf : Tryd.pinned.checked.prog.funcNamed "obelisk/obelisklaw4.DescrBuild" = some f) (hfn : Tryd.pinned.checked.prog.funcs[f]? = some fn) :
    false = Tryd.pinned.checked.prog.looks [] ∧ ∀ (j : Nat) t, fn.params[j]? = some t → Tryd.pinned.checked.prog.wantsStandIn t = false := by
  obtain rfl : f = 9 := Option.some.inj ((show Tryd.prog.funcNamed "obelisk/obelisklaw4.DescrBuild" = some 9 by kernel_rfl).symm.trans hf) |>.symm
  obtain rfl : fn = Tryd.f9 := (Option.some.inj (Tryd.func9.symm.trans hfn)).symm
  refine ⟨by kernel_rfl, fun j t ht => ?_⟩
  rw [Tryd.params9] at ht
  have hm : t ∈ ([41, 41, 3] : List TypeId) := by simpa using Array.mem_of_getElem? ht
  have hall : (([41, 41, 3] : List TypeId).all fun u => !Tryd.prog.wantsStandIn u) = true := by kernel_rfl
  exact (show Tryd.prog.wantsStandIn t = false by simpa using List.all_eq_true.1 hall t hm)

theorem proved : Rows.DescrBuildCardSaid :=
  Claim7.holds_tied_plain_at .later [] _ _ _ _ said (fun _ h => by cases h) (by kernel_rfl) (fun _ h => by cases h) descrBuild_row_tie rfl ⟨rfl, rfl⟩ (by kernel_rfl) rfl plain (by kernel_rfl)

#print axioms proved
end Go.Proofs.YtnpfppddongbhaaDoor.LDescrBuild
