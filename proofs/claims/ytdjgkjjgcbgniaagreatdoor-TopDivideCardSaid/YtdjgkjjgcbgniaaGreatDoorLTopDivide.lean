/-
  The law TopDivide holds of the program: whatever the input, it returns true, and the input reads as before. No condition; the card ties the two tables that the row lists to the program's text.
-/
import Derived.Test.YtdjgkjjgcbgniaaGreatDoorWt
import Derived.Test.YtdjgkjjgcbgniaaGreatDoorFe
import Derived.Test.YtdjgkjjgcbgniaaGreatDoorK3
namespace Go.Proofs.YtdjgkjjgcbgniaaGreatDoor.LTopDivide
open Go.ChangeShapes Go.WideShapes Go.ChangeAt Go.RowKit Go.AM
set_option linter.unusedVariables false

noncomputable def an (l : List Bool) : Bool := List.rec (motive := fun _ => Bool) true (fun p _ ih => Bool.rec (motive := fun _ => Bool) false ih p) l
theorem w31b (n : Int) : -2147483648 ≤ wrapC 31 n ∧ wrapC 31 n < 2147483648 := by rw [w31]; simp only [Int.bmod]; split <;> omega
theorem ww (n : Int) : wrapC 63 (wrapC 31 (wrapC 63 (wrapC 31 n))) = wrapC 31 n := by
  obtain ⟨h1, h2⟩ := w31b n
  rw [w63_in (wrapC 31 n) (by omega) (by omega), w31_in (wrapC 31 n) h1 h2, w63_in (wrapC 31 n) (by omega) (by omega)]
theorem w3163 (z : Int) : wrapC 31 (wrapC 63 z) = wrapC 31 z := by
  rw [w31, w31, w63]; simp only [Int.bmod]; split <;> split <;> split <;> omega
theorem c0q (a0 a1 : Int) : isT (s3k0 [.int 63 a0, .int 63 a1] H0) = an [(eqI (wrapC 63 (wrapC 31 (wrapC 63 (wrapC 31 a1)))) (.ofNat 0)), (eqI (wrapC 63 (wrapC 31 (wrapC 63 (wrapC 31 a1)))) (.ofNat 0)), (eqI (wrapC 31 a1) (.ofNat 0))] := by kernel_rfl
theorem c0 (a0 a1 : Int) (h : wrapC 31 a1 = 0) : isT (s3k0 [.int 63 a0, .int 63 a1] H0) = true := by
  rw [c0q, ww, h]; rfl
theorem c1q (a0 a1 : Int) : isT (s3k1 [.int 63 a0, .int 63 a1] H0) = an [(bnot (eqI (wrapC 63 (wrapC 31 (wrapC 63 (wrapC 31 a1)))) (.ofNat 0))), (eqI (wrapC 63 (wrapC 31 (wrapC 63 (wrapC 31 a1)))) (.negSucc 0)), (bnot (eqI (wrapC 63 (wrapC 31 (wrapC 63 (wrapC 31 a1)))) (.ofNat 0))), (eqI (wrapC 63 (wrapC 31 (wrapC 63 (wrapC 31 a1)))) (.negSucc 0)), (bnot (eqI (wrapC 31 a1) (.ofNat 0))), (bnot (bnot (eqI (wrapC 31 a1) (.negSucc 0)))), (eqI (wrapC 63 (wrapC 31 (wrapC 63 (Int.sub (.ofNat 0) (wrapC 63 (wrapC 31 (wrapC 63 (wrapC 31 a0)))))))) (wrapC 63 (wrapC 31 (Int.sub (.ofNat 0) (wrapC 31 a0)))))] := by kernel_rfl
theorem c1 (a0 a1 : Int) (h : wrapC 31 a1 = .negSucc 0) : isT (s3k1 [.int 63 a0, .int 63 a1] H0) = true := by
  rw [c1q, ww, ww, h, w3163, eqI_eq (wrapC 63 _), beq_self_eq_true]; rfl
theorem c2q (a0 a1 : Int) : isT (s3k2 [.int 63 a0, .int 63 a1] H0) = an [(bnot (eqI (wrapC 63 (wrapC 31 (wrapC 63 (wrapC 31 a1)))) (.ofNat 0))), (bnot (eqI (wrapC 63 (wrapC 31 (wrapC 63 (wrapC 31 a1)))) (.negSucc 0))), (bnot (eqI (wrapC 63 (wrapC 31 (wrapC 63 (wrapC 31 a1)))) (.ofNat 0))), (bnot (eqI (wrapC 63 (wrapC 31 (wrapC 63 (wrapC 31 a1)))) (.ofNat 0))), (bnot (eqI (wrapC 63 (wrapC 31 (wrapC 63 (wrapC 31 a1)))) (.ofNat 0))), (bnot (eqI (wrapC 63 (wrapC 31 (wrapC 63 (wrapC 31 a1)))) (.negSucc 0))), (bnot (eqI (wrapC 63 (wrapC 31 (wrapC 63 (wrapC 31 a1)))) (.ofNat 0))), (bnot (eqI (wrapC 63 (wrapC 31 (wrapC 63 (wrapC 31 a1)))) (.ofNat 0))), (bnot (eqI (wrapC 31 a1) (.ofNat 0))), (bnot (eqI (wrapC 31 a1) (.negSucc 0))), (bnot (eqI (wrapC 31 a1) (.ofNat 0))), (bnot (eqI (wrapC 31 a1) (.ofNat 0))), (eqI (wrapC 63 (wrapC 31 (wrapC 63 (Int.tdiv (wrapC 63 (wrapC 31 (wrapC 63 (wrapC 31 a0)))) (wrapC 63 (wrapC 31 (wrapC 63 (wrapC 31 a1)))))))) (wrapC 63 (wrapC 31 (Int.tdiv (wrapC 31 a0) (wrapC 31 a1))))), (eqI (wrapC 63 (wrapC 31 (Int.tmod (wrapC 63 (wrapC 31 (wrapC 63 (wrapC 31 a0)))) (wrapC 63 (wrapC 31 (wrapC 63 (wrapC 31 a1))))))) (wrapC 63 (Int.tmod (wrapC 31 a0) (wrapC 31 a1))))] := by kernel_rfl
theorem c2 (a0 a1 : Int) (h0 : wrapC 31 a1 ≠ 0) (h1 : wrapC 31 a1 ≠ .negSucc 0) : isT (s3k2 [.int 63 a0, .int 63 a1] H0) = true := by
  rw [c2q, ww, ww, w3163]
  obtain ⟨b1, b2⟩ := w31b a1
  generalize wrapC 31 a1 = y at *
  generalize wrapC 31 a0 = x at *
  have e0 : eqI y (.ofNat 0) = false := by rw [eqI_eq, beq_eq_false_iff_ne]; exact h0
  have e1 : eqI y (.negSucc 0) = false := by rw [eqI_eq, beq_eq_false_iff_ne]; exact h1
  have hm : (Int.tmod x y).natAbs < y.natAbs := by rw [Int.natAbs_tmod]; exact Nat.mod_lt _ (by omega)
  have e2 : wrapC 31 (Int.tmod x y) = Int.tmod x y := w31_in _ (by omega) (by omega)
  rw [e2, e0, e1, eqI_eq, beq_self_eq_true, eqI_eq, beq_self_eq_true]; rfl
theorem walk (a0 : Int) (a1 : Int) (w0 : (Lit.int .i64 a0).wf = true) (w1 : (Lit.int .i64 a1).wf = true) (w : World) (hsh : w.ShapedOpen Tryz.prog) : Calls Tryz.prog 3 #[.int .i64 a0, .int .i64 a1] w fun e w' => e = .returned (.bool true) ∧ Kept w w' := by
  by_cases h0 : wrapC 31 a1 = 0
  · exact law_walk F3k0.1 (c0 a0 a1 h0) w (maxLen_J hsh) (.cons (vr_i64 _ a0) (.cons (vr_i64 _ a1) .nil))
  · by_cases h1 : wrapC 31 a1 = .negSucc 0
    · exact law_walk F3k1.1 (c1 a0 a1 h1) w (maxLen_J hsh) (.cons (vr_i64 _ a0) (.cons (vr_i64 _ a1) .nil))
    · exact law_walk F3k2.1 (c2 a0 a1 h0 h1) w (maxLen_J hsh) (.cons (vr_i64 _ a0) (.cons (vr_i64 _ a1) .nil))

set_option maxRecDepth 100000 in
theorem contract (H : Type) (enc : TypeId × Value → H) (W : World) (base : Nat) (args : Array Value) (ds gs : List (DataW H)) (before : List MemPlace)
    (hval : ∀ (j : Nat) t v, Tryz.f3.params[j]? = some t → args[j]? = some v → Value.okWide Tryz.prog W .any base t v)
    (hW : DataW.Whole enc Tryz.prog Tryz.f3.params.toList Rows.topDivideSpec.vars false W args.toList ds gs before) (hsh : W.ShapedOpen Tryz.prog) :
    Calls Tryz.prog 3 args W fun e W' => ∃ v, e = .returned v ∧ Rows.topDivideSpec.post enc Tryz.prog Tryz.f3 false true false false W args v W' := by
  have hW' := hW
  obtain ⟨p, q, hA0, hV, rfl, hfz, hnd⟩ := hW
  have hA : DataW.TrodAll enc Tryz.prog W 0 (fun _ => true) true Tryz.f3.params.toList args.toList ds p := hA0
  rw [Tryz.params3] at hA hval
  obtain ⟨v0, vs0, d0, ds0, p0, q0, hargs, rfl, rfl, h0, r0⟩ := trodAll_cons hA
  obtain ⟨v1, vs1, d1, ds1, p1, q1, rfl, rfl, rfl, h1, r1⟩ := trodAll_cons r0
  obtain ⟨rfl, rfl, rfl⟩ := trodAll_nil r1
  obtain rfl : args = #[v0, v1] := by cases args; simp_all
  obtain ⟨rfl, rfl⟩ := trodVars_none hV
  obtain ⟨a0, rfl, rfl, rfl, w0⟩ := open_int Tryz.underlying2 (hval 0 2 v0 rfl rfl) h0
  obtain ⟨a1, rfl, rfl, rfl, w1⟩ := open_int Tryz.underlying2 (hval 1 2 v1 rfl rfl) h1
  clear hA0
  simp only [List.append_nil] at hW'
  refine (walk a0 a1 w0 w1 W hsh).mono fun e W' ⟨he, hg⟩ => ?_
  subst he
  exact ⟨_, rfl, AM.post_kept (pa := []) (pv := []) hW' (fun _ _ _ => (trodAll_cons_mk (shut_bool Tryz.underlying4 _) trodAll_mk0)) (fun sp hsp => (trodAll_cons_mk (shut_int Tryz.underlying2 w0) (trodAll_cons_mk (shut_int Tryz.underlying2 w1) trodAll_mk0))) (fun _ _ => rfl) hg.1⟩

theorem met (os : Os) : laidMet Tryz.prog Rows.topDivideRow.laid ((laidWorld os #[.int .i64 0, .int .i64 0]).forCall (fun _ _ => 0) ⟨#[], #[.int .i64 0, .int .i64 0], []⟩).memory :=
  laidMet_of_run3 12 (by kernel_rfl) (by kernel_rfl) (by kernel_rfl)
theorem reads (os : Os) {H : Type} (enc : TypeId × Value → H) : ∃ places, DataW.whole enc Tryz.prog ((laidWorld os #[.int .i64 0, .int .i64 0]).forCall (fun _ _ => 0) ⟨#[], #[.int .i64 0, .int .i64 0], []⟩).memory Tryz.f3.params.toList Rows.topDivideSpec.vars false (#[.int .i64 0, .int .i64 0] : Array Value).toList 8 = some ([.lit (.int .i64 0), .lit (.int .i64 0)], [], places) :=
  ⟨[], by kernel_rfl⟩
set_option maxRecDepth 100000 in
theorem lifted (os : Os) (started : os.Started) (H : Type) (enc : TypeId × Value → H) (F : Stop.Interp) :
    ReturnsInHanded {} Tryz.checked os 3 .any ((OpenSpec.ofChange Rows.topDivideSpec).preRow enc Tryz.prog Tryz.f3 Rows.topDivideRow.domain false Rows.topDivideRow.laid) (((OpenSpec.ofChange Rows.topDivideSpec).at F).post enc Tryz.prog Tryz.f3 false true false false) := by
  obtain ⟨places, hx⟩ := reads os enc
  refine returnsInHanded_of_row (C := Tryz.checked) (s := OpenSpec.ofChange Rows.topDivideSpec) own started (by kernel_rfl) Tryz.func3
    (witness_row_at (enc := enc) (C := Tryz.checked) false (laidWorld os #[.int .i64 0, .int .i64 0]) #[.int .i64 0, .int .i64 0] rfl (by kernel_rfl) (by kernel_rfl) (by kernel_rfl)
      (OpenSpec.preRow_of_cond 8 hx (by kernel_rfl) (fun k hk => by cases hk) (by kernel_rfl) (met os))) ?_
  intro W base args ds gs before hval hW _ _ _ _ hsh _
  exact contract H enc W base args ds gs before hval hW hsh

theorem said : Rows.TopDivideSaid :=
  OpenClaim.holds_of_cond 3 Tryz.f3 rfl rfl rfl rfl rfl rfl rfl ⟨rfl, rfl, rfl, rfl, rfl⟩ rfl rfl rfl rfl rfl (by kernel_rfl) Tryz.func3 closed
    (of_decide_eq_true (by kernel_rfl)) (by unfold Func.isWrapper; first | (rw [if_pos (by decide +kernel)]; kernel_rfl) | (rw [if_neg (by decide +kernel)]; exact ⟨rfl, rfl⟩))
    (fun os started H enc _ F => by rw [OpenClaim.pre_eq_preRow]; exact lifted os started H enc F)

theorem plain (f : FuncId) (fn : Func) (hf : Tryz.pinned.checked.prog.funcNamed "obelisk/obelisktop.TopDivide" = some f) (hfn : Tryz.pinned.checked.prog.funcs[f]? = some fn) :
    false = Tryz.pinned.checked.prog.looks [] ∧ ∀ (j : Nat) t, fn.params[j]? = some t → Tryz.pinned.checked.prog.wantsStandIn t = false := by
  obtain rfl : f = 3 := Option.some.inj ((show Tryz.prog.funcNamed "obelisk/obelisktop.TopDivide" = some 3 by kernel_rfl).symm.trans hf) |>.symm
  obtain rfl : fn = Tryz.f3 := (Option.some.inj (Tryz.func3.symm.trans hfn)).symm
  refine ⟨by kernel_rfl, fun j t ht => ?_⟩
  rw [Tryz.params3] at ht
  have hm : t ∈ ([2, 2] : List TypeId) := by simpa using Array.mem_of_getElem? ht
  have hall : (([2, 2] : List TypeId).all fun u => !Tryz.prog.wantsStandIn u) = true := by kernel_rfl
  exact (show Tryz.prog.wantsStandIn t = false by simpa using List.all_eq_true.1 hall t hm)

theorem proved : Rows.TopDivideCardSaid :=
  Claim7.holds_tied_plain_at .later [] _ _ _ _ said (fun _ h => by cases h) (by kernel_rfl) (fun _ h => by cases h) topDivide_row_tie rfl ⟨rfl, rfl⟩ (by kernel_rfl) rfl plain goes

#print axioms proved
end Go.Proofs.YtdjgkjjgcbgniaaGreatDoor.LTopDivide
