/-
  The law TopObject holds of the program: whatever the input, it returns true, and the input reads as before. No condition; the card ties the two tables that the row lists to the program's text.
-/
import Derived.Test.YtdjgkjjgcbgniaaGreatDoorWt
import Derived.Test.YtdjgkjjgcbgniaaGreatDoorFg
import Derived.Test.YtdjgkjjgcbgniaaGreatDoorK8
set_option linter.unusedVariables false
set_option linter.unusedSimpArgs false
namespace Go.Proofs.YtdjgkjjgcbgniaaGreatDoor.LTopObject
open Go.ChangeShapes Go.WideShapes Go.ChangeAt Go.RowKit Go.AM
set_option linter.unusedVariables false

theorem cl_ret (v : AV) (h : Hp) (k : AV → Hp → Res) : cl (.ret v h) k = k v h := rfl
theorem c_0 (a0 : Int) : isT (b8R0 s22 s23 s24 s21 s11 s10 s25 s26 s27 s12 s13 (.bool true) (I 0) H0) = true := by kernel_rfl
theorem c_1 (a0 : Int) : isT (b8R0 s22 s23 s24 s21 s11 s10 s25 s26 s27 s12 s13 (.bool true) (I 1) H0) = true := by kernel_rfl
theorem c_2 (a0 : Int) : isT (b8R0 s22 s23 s24 s21 s11 s10 s25 s26 s27 s12 s13 (.bool true) (I 2) H0) = true := by kernel_rfl
theorem c_3 (a0 : Int) : isT (b8R0 s22 s23 s24 s21 s11 s10 s25 s26 s27 s12 s13 (.bool true) (I 3) H0) = true := by kernel_rfl
theorem all (a0 : Int) : isT (s8 [(.int 63 a0)] H0) = true := by
  have hs : s16 = smallF := by kernel_rfl
  have e0 : s8 [(.int 63 a0)] H0 = cl (s16 [.int 63 a0, I 4] H0) (fun x y => b8R0 s22 s23 s24 s21 s11 s10 s25 s26 s27 s12 s13 (.bool true) x y) := by kernel_rfl
  rw [e0, (congrFun (congrFun hs _) _).trans (smallF_eq a0 4 (by decide) (by decide) _), cl_ret]
  have h0 : (a0.tmod ((4 : Nat) : Int)).natAbs < 4 := by rw [Int.natAbs_tmod]; exact Nat.mod_lt _ (by decide)
  generalize (a0.tmod ((4 : Nat) : Int)).natAbs = r0 at h0 ⊢
  rcases (show r0 = 0 ∨ r0 = 1 ∨ r0 = 2 ∨ r0 = 3 from by omega) with rfl | rfl | rfl | rfl
  · exact c_0 a0
  · exact c_1 a0
  · exact c_2 a0
  · exact c_3 a0

theorem walk (a0 : Int) (w0 : (Lit.int .i64 a0).wf = true) (w : World) (hsh : w.ShapedOpen Tryz.prog) : Calls Tryz.prog 8 #[.int .i64 a0] w fun e w' => e = .returned (.bool true) ∧ Kept w w' := by
  have h : isT (s8 [.int 63 a0] H0) = true := by
    exact all a0
  exact law_walk F8.1 h w (maxLen_J hsh) (.cons (vr_i64 _ a0) .nil)

set_option maxRecDepth 100000 in
theorem contract (H : Type) (enc : TypeId × Value → H) (W : World) (base : Nat) (args : Array Value) (ds gs : List (DataW H)) (before : List MemPlace)
    (hval : ∀ (j : Nat) t v, Tryz.f8.params[j]? = some t → args[j]? = some v → Value.okWide Tryz.prog W .any base t v)
    (hW : DataW.Whole enc Tryz.prog Tryz.f8.params.toList Rows.topObjectSpec.vars false W args.toList ds gs before) (hsh : W.ShapedOpen Tryz.prog) :
    Calls Tryz.prog 8 args W fun e W' => ∃ v, e = .returned v ∧ Rows.topObjectSpec.post enc Tryz.prog Tryz.f8 false true false false W args v W' := by
  have hW' := hW
  obtain ⟨p, q, hA0, hV, rfl, hfz, hnd⟩ := hW
  have hA : DataW.TrodAll enc Tryz.prog W 0 (fun _ => true) true Tryz.f8.params.toList args.toList ds p := hA0
  rw [Tryz.params8] at hA hval
  obtain ⟨v0, vs0, d0, ds0, p0, q0, hargs, rfl, rfl, h0, r0⟩ := trodAll_cons hA
  obtain ⟨rfl, rfl, rfl⟩ := trodAll_nil r0
  obtain rfl : args = #[v0] := by cases args; simp_all
  obtain ⟨rfl, rfl⟩ := trodVars_none hV
  obtain ⟨a0, rfl, rfl, rfl, w0⟩ := open_int Tryz.underlying3 (hval 0 3 v0 rfl rfl) h0
  clear hA0
  simp only [List.append_nil] at hW'
  refine (walk a0 w0 W hsh).mono fun e W' ⟨he, hg⟩ => ?_
  subst he
  exact ⟨_, rfl, AM.post_kept (pa := []) (pv := []) hW' (fun _ _ _ => (trodAll_cons_mk (shut_bool Tryz.underlying4 _) trodAll_mk0)) (fun sp hsp => (trodAll_cons_mk (shut_int Tryz.underlying3 w0) trodAll_mk0)) (fun _ _ => rfl) hg.1⟩

theorem met (os : Os) : laidMet Tryz.prog Rows.topObjectRow.laid ((laidWorld os #[.int .i64 0]).forCall (fun _ _ => 0) ⟨#[], #[.int .i64 0], []⟩).memory :=
  laidMet_of_run3 12 (by kernel_rfl) (by kernel_rfl) (by kernel_rfl)
theorem reads (os : Os) {H : Type} (enc : TypeId × Value → H) : ∃ places, DataW.whole enc Tryz.prog ((laidWorld os #[.int .i64 0]).forCall (fun _ _ => 0) ⟨#[], #[.int .i64 0], []⟩).memory Tryz.f8.params.toList Rows.topObjectSpec.vars false (#[.int .i64 0] : Array Value).toList 8 = some ([.lit (.int .i64 0)], [], places) :=
  ⟨[], by kernel_rfl⟩
set_option maxRecDepth 100000 in
theorem lifted (os : Os) (started : os.Started) (H : Type) (enc : TypeId × Value → H) (F : Stop.Interp) :
    ReturnsInHanded {} Tryz.checked os 8 .any ((OpenSpec.ofChange Rows.topObjectSpec).preRow enc Tryz.prog Tryz.f8 Rows.topObjectRow.domain false Rows.topObjectRow.laid) (((OpenSpec.ofChange Rows.topObjectSpec).at F).post enc Tryz.prog Tryz.f8 false true false false) := by
  obtain ⟨places, hx⟩ := reads os enc
  refine returnsInHanded_of_row (C := Tryz.checked) (s := OpenSpec.ofChange Rows.topObjectSpec) own started (by kernel_rfl) Tryz.func8
    (witness_row_at (enc := enc) (C := Tryz.checked) false (laidWorld os #[.int .i64 0]) #[.int .i64 0] rfl (by kernel_rfl) (by kernel_rfl) (by kernel_rfl)
      (OpenSpec.preRow_of_cond 8 hx (by kernel_rfl) (fun k hk => by cases hk) (by kernel_rfl) (met os))) ?_
  intro W base args ds gs before hval hW _ _ _ _ hsh _
  exact contract H enc W base args ds gs before hval hW hsh

theorem said : Rows.TopObjectSaid :=
  OpenClaim.holds_of_cond 8 Tryz.f8 rfl rfl rfl rfl rfl rfl rfl ⟨rfl, rfl, rfl, rfl, rfl⟩ rfl rfl rfl rfl rfl (by kernel_rfl) Tryz.func8 closed
    (of_decide_eq_true (by kernel_rfl)) (by unfold Func.isWrapper; first | (rw [if_pos (by decide +kernel)]; kernel_rfl) | (rw [if_neg (by decide +kernel)]; exact ⟨rfl, rfl⟩))
    (fun os started H enc _ F => by rw [OpenClaim.pre_eq_preRow]; exact lifted os started H enc F)

theorem plain (f : FuncId) (fn : Func) (hf : Tryz.pinned.checked.prog.funcNamed "obelisk/obelisktop.TopObject" = some f) (hfn : Tryz.pinned.checked.prog.funcs[f]? = some fn) :
    false = Tryz.pinned.checked.prog.looks [] ∧ ∀ (j : Nat) t, fn.params[j]? = some t → Tryz.pinned.checked.prog.wantsStandIn t = false := by
  obtain rfl : f = 8 := Option.some.inj ((show Tryz.prog.funcNamed "obelisk/obelisktop.TopObject" = some 8 by kernel_rfl).symm.trans hf) |>.symm
  obtain rfl : fn = Tryz.f8 := (Option.some.inj (Tryz.func8.symm.trans hfn)).symm
  refine ⟨by kernel_rfl, fun j t ht => ?_⟩
  rw [Tryz.params8] at ht
  have hm : t ∈ ([3] : List TypeId) := by simpa using Array.mem_of_getElem? ht
  have hall : (([3] : List TypeId).all fun u => !Tryz.prog.wantsStandIn u) = true := by kernel_rfl
  exact (show Tryz.prog.wantsStandIn t = false by simpa using List.all_eq_true.1 hall t hm)

theorem proved : Rows.TopObjectCardSaid :=
  Claim7.holds_tied_plain_at .later [] _ _ _ _ said (fun _ h => by cases h) (by kernel_rfl) (fun _ h => by cases h) topObject_row_tie rfl ⟨rfl, rfl⟩ (by kernel_rfl) rfl plain goes

#print axioms proved
end Go.Proofs.YtdjgkjjgcbgniaaGreatDoor.LTopObject
