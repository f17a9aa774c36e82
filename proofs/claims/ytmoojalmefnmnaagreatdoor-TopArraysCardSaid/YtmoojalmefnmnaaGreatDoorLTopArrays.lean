/-
  The law TopArrays holds of the program: whatever the input, it returns true, and the input reads as before. No condition; the card ties the two tables that the row lists to the program's text.
-/
import Derived.Test.YtmoojalmefnmnaaGreatDoorX6
import Derived.Test.YtmoojalmefnmnaaGreatDoorX6a
import Derived.Test.YtmoojalmefnmnaaGreatDoorX6b
import Derived.Test.YtmoojalmefnmnaaGreatDoorX6c
import Derived.Test.YtmoojalmefnmnaaGreatDoorWt
import Derived.Test.YtmoojalmefnmnaaGreatDoorFg
import Derived.Test.YtmoojalmefnmnaaGreatDoorK6
set_option linter.unusedVariables false
set_option linter.unusedSimpArgs false
namespace Go.Proofs.YtmoojalmefnmnaaGreatDoor.LTopArrays
open Go.ChangeShapes Go.WideShapes Go.ChangeAt Go.RowKit Go.AM
set_option linter.unusedVariables false

theorem cl_ret (v : AV) (h : Hp) (k : AV → Hp → Res) : cl (.ret v h) k = k v h := rfl
theorem all (a0 a1 a2 : Int) : isT (s6 [(.int 63 a0), (.int 63 a1), (.int 63 a2)] H0) = true := by
  have hs : s10 = smallF := by kernel_rfl
  have e0 : s6 [(.int 63 a0), (.int 63 a1), (.int 63 a2)] H0 = cl (s10 [.int 63 a0, I 5] (hO (P_0 a0 a1 a2))) (fun x y => b6R1 s10 s11 s25 s28 s20 s22 s31 s21 (.int 63 a1) (.int 63 a2) (.bool true) x y) := by kernel_rfl
  rw [e0, hs, smallF_eq a0 5 (by decide) (by decide), cl_ret]
  have h0 : (a0.tmod ((5 : Nat) : Int)).natAbs < 5 := by rw [Int.natAbs_tmod]; exact Nat.mod_lt _ (by decide)
  generalize (a0.tmod ((5 : Nat) : Int)).natAbs = r0 at h0 ⊢
  show isT (D_0 a0 a1 a2 r0) = true
  have e1 : D_0 a0 a1 a2 r0 = cl (s10 [.int 63 a2, I 8] (hO (P_1 a0 a1 a2 r0))) (fun x y => b6R0 s11 s25 s28 s20 s22 s31 s21 (I r0) (pv (P_1 a0 a1 a2 r0) 1) (.bool true) x y) := by kernel_rfl
  rw [e1, hs, smallF_eq a2 8 (by decide) (by decide), cl_ret]
  have h1 : (a2.tmod ((8 : Nat) : Int)).natAbs < 8 := by rw [Int.natAbs_tmod]; exact Nat.mod_lt _ (by decide)
  generalize (a2.tmod ((8 : Nat) : Int)).natAbs = r1 at h1 ⊢
  show isT (D_1 a0 a1 a2 r0 r1) = true
  rcases (show r0 = 0 ∨ r0 = 1 ∨ r0 = 2 ∨ r0 = 3 ∨ r0 = 4 from by omega) with rfl | rfl | rfl | rfl | rfl
  · rcases (show r1 = 0 ∨ r1 = 1 ∨ r1 = 2 ∨ r1 = 3 ∨ r1 = 4 ∨ r1 = 5 ∨ r1 = 6 ∨ r1 = 7 from by omega) with rfl | rfl | rfl | rfl | rfl | rfl | rfl | rfl
    · exact c_0_0 a0 a1 a2
    · exact c_0_1 a0 a1 a2
    · exact c_0_2 a0 a1 a2
    · exact c_0_3 a0 a1 a2
    · exact c_0_4 a0 a1 a2
    · exact c_0_5 a0 a1 a2
    · exact c_0_6 a0 a1 a2
    · exact c_0_7 a0 a1 a2
  · rcases (show r1 = 0 ∨ r1 = 1 ∨ r1 = 2 ∨ r1 = 3 ∨ r1 = 4 ∨ r1 = 5 ∨ r1 = 6 ∨ r1 = 7 from by omega) with rfl | rfl | rfl | rfl | rfl | rfl | rfl | rfl
    · exact c_1_0 a0 a1 a2
    · exact c_1_1 a0 a1 a2
    · exact c_1_2 a0 a1 a2
    · exact c_1_3 a0 a1 a2
    · exact c_1_4 a0 a1 a2
    · exact c_1_5 a0 a1 a2
    · exact c_1_6 a0 a1 a2
    · exact c_1_7 a0 a1 a2
  · rcases (show r1 = 0 ∨ r1 = 1 ∨ r1 = 2 ∨ r1 = 3 ∨ r1 = 4 ∨ r1 = 5 ∨ r1 = 6 ∨ r1 = 7 from by omega) with rfl | rfl | rfl | rfl | rfl | rfl | rfl | rfl
    · exact c_2_0 a0 a1 a2
    · exact c_2_1 a0 a1 a2
    · exact c_2_2 a0 a1 a2
    · exact c_2_3 a0 a1 a2
    · exact c_2_4 a0 a1 a2
    · exact c_2_5 a0 a1 a2
    · exact c_2_6 a0 a1 a2
    · exact c_2_7 a0 a1 a2
  · rcases (show r1 = 0 ∨ r1 = 1 ∨ r1 = 2 ∨ r1 = 3 ∨ r1 = 4 ∨ r1 = 5 ∨ r1 = 6 ∨ r1 = 7 from by omega) with rfl | rfl | rfl | rfl | rfl | rfl | rfl | rfl
    · exact c_3_0 a0 a1 a2
    · exact c_3_1 a0 a1 a2
    · exact c_3_2 a0 a1 a2
    · exact c_3_3 a0 a1 a2
    · exact c_3_4 a0 a1 a2
    · exact c_3_5 a0 a1 a2
    · exact c_3_6 a0 a1 a2
    · exact c_3_7 a0 a1 a2
  · rcases (show r1 = 0 ∨ r1 = 1 ∨ r1 = 2 ∨ r1 = 3 ∨ r1 = 4 ∨ r1 = 5 ∨ r1 = 6 ∨ r1 = 7 from by omega) with rfl | rfl | rfl | rfl | rfl | rfl | rfl | rfl
    · exact c_4_0 a0 a1 a2
    · exact c_4_1 a0 a1 a2
    · exact c_4_2 a0 a1 a2
    · exact c_4_3 a0 a1 a2
    · exact c_4_4 a0 a1 a2
    · exact c_4_5 a0 a1 a2
    · exact c_4_6 a0 a1 a2
    · exact c_4_7 a0 a1 a2

theorem walk (a0 : Int) (a1 : Int) (a2 : Int) (w0 : (Lit.int .i64 a0).wf = true) (w1 : (Lit.int .i64 a1).wf = true) (w2 : (Lit.int .i64 a2).wf = true) (w : World) (hsh : w.ShapedOpen Tryz.prog) : Calls Tryz.prog 6 #[.int .i64 a0, .int .i64 a1, .int .i64 a2] w fun e w' => e = .returned (.bool true) ∧ Kept w w' := by
  have h : isT (s6 [.int 63 a0, .int 63 a1, .int 63 a2] H0) = true := by
    exact all a0 a1 a2
  exact law_walk F6.1 h w (maxLen_J hsh) (.cons (vr_i64 _ a0) (.cons (vr_i64 _ a1) (.cons (vr_i64 _ a2) .nil)))

set_option maxRecDepth 100000 in
theorem contract (H : Type) (enc : TypeId × Value → H) (W : World) (base : Nat) (args : Array Value) (ds gs : List (DataW H)) (before : List MemPlace)
    (hval : ∀ (j : Nat) t v, Tryz.f6.params[j]? = some t → args[j]? = some v → Value.okWide Tryz.prog W .any base t v)
    (hW : DataW.Whole enc Tryz.prog Tryz.f6.params.toList Rows.topArraysSpec.vars false W args.toList ds gs before) (hsh : W.ShapedOpen Tryz.prog) :
    Calls Tryz.prog 6 args W fun e W' => ∃ v, e = .returned v ∧ Rows.topArraysSpec.post enc Tryz.prog Tryz.f6 false true false false W args v W' := by
  have hW' := hW
  obtain ⟨p, q, hA0, hV, rfl, hfz, hnd⟩ := hW
  have hA : DataW.TrodAll enc Tryz.prog W 0 (fun _ => true) true Tryz.f6.params.toList args.toList ds p := hA0
  rw [Tryz.params6] at hA hval
  obtain ⟨v0, vs0, d0, ds0, p0, q0, hargs, rfl, rfl, h0, r0⟩ := trodAll_cons hA
  obtain ⟨v1, vs1, d1, ds1, p1, q1, rfl, rfl, rfl, h1, r1⟩ := trodAll_cons r0
  obtain ⟨v2, vs2, d2, ds2, p2, q2, rfl, rfl, rfl, h2, r2⟩ := trodAll_cons r1
  obtain ⟨rfl, rfl, rfl⟩ := trodAll_nil r2
  obtain rfl : args = #[v0, v1, v2] := by cases args; simp_all
  obtain ⟨rfl, rfl⟩ := trodVars_none hV
  obtain ⟨a0, rfl, rfl, rfl, w0⟩ := open_int Tryz.underlying3 (hval 0 3 v0 rfl rfl) h0
  obtain ⟨a1, rfl, rfl, rfl, w1⟩ := open_int Tryz.underlying3 (hval 1 3 v1 rfl rfl) h1
  obtain ⟨a2, rfl, rfl, rfl, w2⟩ := open_int Tryz.underlying3 (hval 2 3 v2 rfl rfl) h2
  clear hA0
  simp only [List.append_nil] at hW'
  refine (walk a0 a1 a2 w0 w1 w2 W hsh).mono fun e W' ⟨he, hg⟩ => ?_
  subst he
  exact ⟨_, rfl, AM.post_kept (pa := []) (pv := []) hW' (fun _ _ _ => (trodAll_cons_mk (shut_bool Tryz.underlying4 _) trodAll_mk0)) (fun sp hsp => (trodAll_cons_mk (shut_int Tryz.underlying3 w0) (trodAll_cons_mk (shut_int Tryz.underlying3 w1) (trodAll_cons_mk (shut_int Tryz.underlying3 w2) trodAll_mk0)))) (fun _ _ => rfl) hg.1⟩

theorem met (os : Os) : laidMet Tryz.prog Rows.topArraysRow.laid ((laidWorld os #[.int .i64 0, .int .i64 0, .int .i64 0]).forCall (fun _ _ => 0) ⟨#[], #[.int .i64 0, .int .i64 0, .int .i64 0], []⟩).memory :=
  laidMet_of_run3 12 (by kernel_rfl) (by kernel_rfl) (by kernel_rfl)
theorem reads (os : Os) {H : Type} (enc : TypeId × Value → H) : ∃ places, DataW.whole enc Tryz.prog ((laidWorld os #[.int .i64 0, .int .i64 0, .int .i64 0]).forCall (fun _ _ => 0) ⟨#[], #[.int .i64 0, .int .i64 0, .int .i64 0], []⟩).memory Tryz.f6.params.toList Rows.topArraysSpec.vars false (#[.int .i64 0, .int .i64 0, .int .i64 0] : Array Value).toList 8 = some ([.lit (.int .i64 0), .lit (.int .i64 0), .lit (.int .i64 0)], [], places) :=
  ⟨[], by kernel_rfl⟩
set_option maxRecDepth 100000 in
theorem lifted (os : Os) (started : os.Started) (H : Type) (enc : TypeId × Value → H) (F : Stop.Interp) :
    ReturnsInHanded {} Tryz.checked os 6 .any ((OpenSpec.ofChange Rows.topArraysSpec).preRow enc Tryz.prog Tryz.f6 Rows.topArraysRow.domain false Rows.topArraysRow.laid) (((OpenSpec.ofChange Rows.topArraysSpec).at F).post enc Tryz.prog Tryz.f6 false true false false) := by
  obtain ⟨places, hx⟩ := reads os enc
  refine returnsInHanded_of_row (C := Tryz.checked) (s := OpenSpec.ofChange Rows.topArraysSpec) own started (by kernel_rfl) Tryz.func6
    (witness_row_at (enc := enc) (C := Tryz.checked) false (laidWorld os #[.int .i64 0, .int .i64 0, .int .i64 0]) #[.int .i64 0, .int .i64 0, .int .i64 0] rfl (by kernel_rfl) (by kernel_rfl) (by kernel_rfl)
      (OpenSpec.preRow_of_cond 8 hx (by kernel_rfl) (fun k hk => by cases hk) (by kernel_rfl) (met os))) ?_
  intro W base args ds gs before hval hW _ _ _ _ hsh _
  exact contract H enc W base args ds gs before hval hW hsh

theorem said : Rows.TopArraysSaid :=
  OpenClaim.holds_of_cond 6 Tryz.f6 rfl rfl rfl rfl rfl rfl rfl ⟨rfl, rfl, rfl, rfl, rfl⟩ rfl rfl rfl rfl rfl (by kernel_rfl) Tryz.func6 closed
    (of_decide_eq_true (by kernel_rfl)) (by unfold Func.isWrapper; first | (rw [if_pos (by decide +kernel)]; kernel_rfl) | (rw [if_neg (by decide +kernel)]; exact ⟨rfl, rfl⟩))
    (fun os started H enc _ F => by rw [OpenClaim.pre_eq_preRow]; exact lifted os started H enc F)

theorem plain (f : FuncId) (fn : Func) (hf : Tryz.pinned.checked.prog.funcNamed "obelisk/obelisktop.TopArrays" = some f) (hfn : Tryz.pinned.checked.prog.funcs[f]? = some fn) :
    false = Tryz.pinned.checked.prog.looks [] ∧ ∀ (j : Nat) t, fn.params[j]? = some t → Tryz.pinned.checked.prog.wantsStandIn t = false := by
  obtain rfl : f = 6 := Option.some.inj ((show Tryz.prog.funcNamed "obelisk/obelisktop.TopArrays" = some 6 by kernel_rfl).symm.trans hf) |>.symm
  obtain rfl : fn = Tryz.f6 := (Option.some.inj (Tryz.func6.symm.trans hfn)).symm
  refine ⟨by kernel_rfl, fun j t ht => ?_⟩
  rw [Tryz.params6] at ht
  have hm : t ∈ ([3, 3, 3] : List TypeId) := by simpa using Array.mem_of_getElem? ht
  have hall : (([3, 3, 3] : List TypeId).all fun u => !Tryz.prog.wantsStandIn u) = true := by kernel_rfl
  exact (show Tryz.prog.wantsStandIn t = false by simpa using List.all_eq_true.1 hall t hm)

theorem proved : Rows.TopArraysCardSaid :=
  Claim7.holds_tied_plain_at .later [] _ _ _ _ said (fun _ h => by cases h) (by kernel_rfl) (fun _ h => by cases h) topArrays_row_tie rfl ⟨rfl, rfl⟩ (by kernel_rfl) rfl plain goes

#print axioms proved
end Go.Proofs.YtmoojalmefnmnaaGreatDoor.LTopArrays
