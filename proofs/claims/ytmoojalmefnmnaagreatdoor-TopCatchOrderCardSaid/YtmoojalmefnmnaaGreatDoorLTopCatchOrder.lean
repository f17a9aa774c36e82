/-
  The law TopCatchOrder holds of the program: whatever the input, it returns true, and the input reads as before. No condition; the card ties the two tables that the row lists to the program's text.
-/
import Derived.Test.YtmoojalmefnmnaaGreatDoorX3
import Derived.Test.YtmoojalmefnmnaaGreatDoorX3a
import Derived.Test.YtmoojalmefnmnaaGreatDoorX3b
import Derived.Test.YtmoojalmefnmnaaGreatDoorWt
import Derived.Test.YtmoojalmefnmnaaGreatDoorFg
import Derived.Test.YtmoojalmefnmnaaGreatDoorK3
set_option linter.unusedVariables false
set_option linter.unusedSimpArgs false
namespace Go.Proofs.YtmoojalmefnmnaaGreatDoor.LTopCatchOrder
open Go.ChangeShapes Go.WideShapes Go.ChangeAt Go.RowKit Go.AM
set_option linter.unusedVariables false

theorem cl_ret (v : AV) (h : Hp) (k : AV → Hp → Res) : cl (.ret v h) k = k v h := rfl
theorem all (a0 a1 : Int) : isT (s3 [(.int 63 a0), (.int 63 a1)] H0) = true := by
  have hs : s10 = smallF := by kernel_rfl
  have e0 : s3 [(.int 63 a0), (.int 63 a1)] H0 = cl (s10 [.int 63 a0, I 4] (hO (P_0 a0 a1))) (fun x y => b3R1 s11 s12 s10 s13 s15 s14 s9 s16 s17 s18 s19 s20 s21 s22 (.int 63 a1) (pv (P_0 a0 a1) 1) (.bool true) x y) := by kernel_rfl
  rw [e0, hs, smallF_eq a0 4 (by decide) (by decide), cl_ret]
  have h0 : (a0.tmod ((4 : Nat) : Int)).natAbs < 4 := by rw [Int.natAbs_tmod]; exact Nat.mod_lt _ (by decide)
  generalize (a0.tmod ((4 : Nat) : Int)).natAbs = r0 at h0 ⊢
  show isT (D_0 a0 a1 r0) = true
  have e1 : D_0 a0 a1 r0 = cl (s10 [.int 63 a1, I 4] (hO (P_1 a0 a1 r0))) (fun x y => b3R0 s13 s15 s14 s9 s10 s11 s12 s16 s17 s18 s19 s20 s21 s22 (pv (P_1 a0 a1 r0) 0) (pv (P_1 a0 a1 r0) 1) (I r0) (pv (P_1 a0 a1 r0) 3) (.bool true) (pv (P_1 a0 a1 r0) 5) x y) := by kernel_rfl
  rw [e1, hs, smallF_eq a1 4 (by decide) (by decide), cl_ret]
  have h1 : (a1.tmod ((4 : Nat) : Int)).natAbs < 4 := by rw [Int.natAbs_tmod]; exact Nat.mod_lt _ (by decide)
  generalize (a1.tmod ((4 : Nat) : Int)).natAbs = r1 at h1 ⊢
  show isT (D_1 a0 a1 r0 r1) = true
  rcases (show r0 = 0 ∨ r0 = 1 ∨ r0 = 2 ∨ r0 = 3 from by omega) with rfl | rfl | rfl | rfl
  · rcases (show r1 = 0 ∨ r1 = 1 ∨ r1 = 2 ∨ r1 = 3 from by omega) with rfl | rfl | rfl | rfl
    · exact c_0_0 a0 a1
    · exact c_0_1 a0 a1
    · exact c_0_2 a0 a1
    · exact c_0_3 a0 a1
  · rcases (show r1 = 0 ∨ r1 = 1 ∨ r1 = 2 ∨ r1 = 3 from by omega) with rfl | rfl | rfl | rfl
    · exact c_1_0 a0 a1
    · exact c_1_1 a0 a1
    · exact c_1_2 a0 a1
    · exact c_1_3 a0 a1
  · rcases (show r1 = 0 ∨ r1 = 1 ∨ r1 = 2 ∨ r1 = 3 from by omega) with rfl | rfl | rfl | rfl
    · exact c_2_0 a0 a1
    · exact c_2_1 a0 a1
    · exact c_2_2 a0 a1
    · exact c_2_3 a0 a1
  · rcases (show r1 = 0 ∨ r1 = 1 ∨ r1 = 2 ∨ r1 = 3 from by omega) with rfl | rfl | rfl | rfl
    · exact c_3_0 a0 a1
    · exact c_3_1 a0 a1
    · exact c_3_2 a0 a1
    · exact c_3_3 a0 a1

theorem walk (a0 : Int) (a1 : Int) (w0 : (Lit.int .i64 a0).wf = true) (w1 : (Lit.int .i64 a1).wf = true) (w : World) (hsh : w.ShapedOpen Tryz.prog) : Calls Tryz.prog 3 #[.int .i64 a0, .int .i64 a1] w fun e w' => e = .returned (.bool true) ∧ Kept w w' := by
  have h : isT (s3 [.int 63 a0, .int 63 a1] H0) = true := by
    exact all a0 a1
  exact law_walk F3.1 h w (maxLen_J hsh) (.cons (vr_i64 _ a0) (.cons (vr_i64 _ a1) .nil))

set_option maxRecDepth 100000 in
theorem contract (H : Type) (enc : TypeId × Value → H) (W : World) (base : Nat) (args : Array Value) (ds gs : List (DataW H)) (before : List MemPlace)
    (hval : ∀ (j : Nat) t v, Tryz.f3.params[j]? = some t → args[j]? = some v → Value.okWide Tryz.prog W .any base t v)
    (hW : DataW.Whole enc Tryz.prog Tryz.f3.params.toList Rows.topCatchOrderSpec.vars false W args.toList ds gs before) (hsh : W.ShapedOpen Tryz.prog) :
    Calls Tryz.prog 3 args W fun e W' => ∃ v, e = .returned v ∧ Rows.topCatchOrderSpec.post enc Tryz.prog Tryz.f3 false true false false W args v W' := by
  have hW' := hW
  obtain ⟨p, q, hA0, hV, rfl, hfz, hnd⟩ := hW
  have hA : DataW.TrodAll enc Tryz.prog W 0 (fun _ => true) true Tryz.f3.params.toList args.toList ds p := hA0
  rw [Tryz.params3] at hA hval
  obtain ⟨v0, vs0, d0, ds0, p0, q0, hargs, rfl, rfl, h0, r0⟩ := trodAll_cons hA
  obtain ⟨v1, vs1, d1, ds1, p1, q1, rfl, rfl, rfl, h1, r1⟩ := trodAll_cons r0
  obtain ⟨rfl, rfl, rfl⟩ := trodAll_nil r1
  obtain rfl : args = #[v0, v1] := by cases args; simp_all
  obtain ⟨rfl, rfl⟩ := trodVars_none hV
  obtain ⟨a0, rfl, rfl, rfl, w0⟩ := open_int Tryz.underlying3 (hval 0 3 v0 rfl rfl) h0
  obtain ⟨a1, rfl, rfl, rfl, w1⟩ := open_int Tryz.underlying3 (hval 1 3 v1 rfl rfl) h1
  clear hA0
  simp only [List.append_nil] at hW'
  refine (walk a0 a1 w0 w1 W hsh).mono fun e W' ⟨he, hg⟩ => ?_
  subst he
  exact ⟨_, rfl, AM.post_kept (pa := []) (pv := []) hW' (fun _ _ _ => (trodAll_cons_mk (shut_bool Tryz.underlying4 _) trodAll_mk0)) (fun sp hsp => (trodAll_cons_mk (shut_int Tryz.underlying3 w0) (trodAll_cons_mk (shut_int Tryz.underlying3 w1) trodAll_mk0))) (fun _ _ => rfl) hg.1⟩

theorem met (os : Os) : laidMet Tryz.prog Rows.topCatchOrderRow.laid ((laidWorld os #[.int .i64 0, .int .i64 0]).forCall (fun _ _ => 0) ⟨#[], #[.int .i64 0, .int .i64 0], []⟩).memory :=
  laidMet_of_run3 12 (by kernel_rfl) (by kernel_rfl) (by kernel_rfl)
theorem reads (os : Os) {H : Type} (enc : TypeId × Value → H) : ∃ places, DataW.whole enc Tryz.prog ((laidWorld os #[.int .i64 0, .int .i64 0]).forCall (fun _ _ => 0) ⟨#[], #[.int .i64 0, .int .i64 0], []⟩).memory Tryz.f3.params.toList Rows.topCatchOrderSpec.vars false (#[.int .i64 0, .int .i64 0] : Array Value).toList 8 = some ([.lit (.int .i64 0), .lit (.int .i64 0)], [], places) :=
  ⟨[], by kernel_rfl⟩
set_option maxRecDepth 100000 in
theorem lifted (os : Os) (started : os.Started) (H : Type) (enc : TypeId × Value → H) (F : Stop.Interp) :
    ReturnsInHanded {} Tryz.checked os 3 .any ((OpenSpec.ofChange Rows.topCatchOrderSpec).preRow enc Tryz.prog Tryz.f3 Rows.topCatchOrderRow.domain false Rows.topCatchOrderRow.laid) (((OpenSpec.ofChange Rows.topCatchOrderSpec).at F).post enc Tryz.prog Tryz.f3 false true false false) := by
  obtain ⟨places, hx⟩ := reads os enc
  refine returnsInHanded_of_row (C := Tryz.checked) (s := OpenSpec.ofChange Rows.topCatchOrderSpec) own started (by kernel_rfl) Tryz.func3
    (witness_row_at (enc := enc) (C := Tryz.checked) false (laidWorld os #[.int .i64 0, .int .i64 0]) #[.int .i64 0, .int .i64 0] rfl (by kernel_rfl) (by kernel_rfl) (by kernel_rfl)
      (OpenSpec.preRow_of_cond 8 hx (by kernel_rfl) (fun k hk => by cases hk) (by kernel_rfl) (met os))) ?_
  intro W base args ds gs before hval hW _ _ _ _ hsh _
  exact contract H enc W base args ds gs before hval hW hsh

theorem said : Rows.TopCatchOrderSaid :=
  OpenClaim.holds_of_cond 3 Tryz.f3 rfl rfl rfl rfl rfl rfl rfl ⟨rfl, rfl, rfl, rfl, rfl⟩ rfl rfl rfl rfl rfl (by kernel_rfl) Tryz.func3 closed
    (of_decide_eq_true (by kernel_rfl)) (by unfold Func.isWrapper; first | (rw [if_pos (by decide +kernel)]; kernel_rfl) | (rw [if_neg (by decide +kernel)]; exact ⟨rfl, rfl⟩))
    (fun os started H enc _ F => by rw [OpenClaim.pre_eq_preRow]; exact lifted os started H enc F)

theorem plain (f : FuncId) (fn : Func) (hf : Tryz.pinned.checked.prog.funcNamed "obelisk/obelisktop.TopCatchOrder" = some f) (hfn : Tryz.pinned.checked.prog.funcs[f]? = some fn) :
    false = Tryz.pinned.checked.prog.looks [] ∧ ∀ (j : Nat) t, fn.params[j]? = some t → Tryz.pinned.checked.prog.wantsStandIn t = false := by
  obtain rfl : f = 3 := Option.some.inj ((show Tryz.prog.funcNamed "obelisk/obelisktop.TopCatchOrder" = some 3 by kernel_rfl).symm.trans hf) |>.symm
  obtain rfl : fn = Tryz.f3 := (Option.some.inj (Tryz.func3.symm.trans hfn)).symm
  refine ⟨by kernel_rfl, fun j t ht => ?_⟩
  rw [Tryz.params3] at ht
  have hm : t ∈ ([3, 3] : List TypeId) := by simpa using Array.mem_of_getElem? ht
  have hall : (([3, 3] : List TypeId).all fun u => !Tryz.prog.wantsStandIn u) = true := by kernel_rfl
  exact (show Tryz.prog.wantsStandIn t = false by simpa using List.all_eq_true.1 hall t hm)

theorem proved : Rows.TopCatchOrderCardSaid :=
  Claim7.holds_tied_plain_at .later [] _ _ _ _ said (fun _ h => by cases h) (by kernel_rfl) (fun _ h => by cases h) topCatchOrder_row_tie rfl ⟨rfl, rfl⟩ (by kernel_rfl) rfl plain goes

#print axioms proved
end Go.Proofs.YtmoojalmefnmnaaGreatDoor.LTopCatchOrder
