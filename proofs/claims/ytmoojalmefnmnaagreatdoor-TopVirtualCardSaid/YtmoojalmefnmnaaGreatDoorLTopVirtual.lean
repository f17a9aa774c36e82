/-
  The law TopVirtual holds of the program: whatever the input, it returns true, and the input reads as before. No condition; the card ties the two tables that the row lists to the program's text.
-/
import Derived.Test.YtmoojalmefnmnaaGreatDoorWt
import Derived.Test.YtmoojalmefnmnaaGreatDoorFg
import Derived.Test.YtmoojalmefnmnaaGreatDoorK5
set_option linter.unusedVariables false
set_option linter.unusedSimpArgs false
namespace Go.Proofs.YtmoojalmefnmnaaGreatDoor.LTopVirtual
open Go.ChangeShapes Go.WideShapes Go.ChangeAt Go.RowKit Go.AM
set_option linter.unusedVariables false

theorem cl_ret (v : AV) (h : Hp) (k : AV → Hp → Res) : cl (.ret v h) k = k v h := rfl
theorem eqv (m : Int) (h1 : -1000 < m) (h2 : m < 1000) (k : Int) (hk0 : 0 ≤ k) (hk : k < 10) : eqI (wrapC 63 (wrapC 31 (wrapC 63 (Int.add (wrapC 63 (wrapC 31 (wrapC 63 (wrapC 31 (wrapC 63 (Int.add (wrapC 63 (wrapC 31 (wrapC 63 (wrapC 31 m)))) k)))))) 10)))) (wrapC 63 (Int.add (wrapC 63 (Int.add m k)) 10)) = true := by
  have ia : ∀ x y : Int, Int.add x y = x + y := fun _ _ => rfl
  simp only [ia]
  have e1 : wrapC 31 m = m := w31_in _ (by omega) (by omega)
  have e2 : wrapC 63 m = m := w63_in _ (by omega) (by omega)
  have e3 : wrapC 63 (m + k) = m + k := w63_in _ (by omega) (by omega)
  have e4 : wrapC 31 (m + k) = m + k := w31_in _ (by omega) (by omega)
  have e5 : wrapC 63 (m + k + 10) = m + k + 10 := w63_in _ (by omega) (by omega)
  have e6 : wrapC 31 (m + k + 10) = m + k + 10 := w31_in _ (by omega) (by omega)
  simp only [e1, e2, e3, e4, e5, e6, eqI_eq, beq_self_eq_true]
noncomputable def pv (r : Res) (i : Nat) : AV := Res.rec (motive := fun _ => AV) .unk (fun _ _ => .unk) (fun _ _ _ => .unk) (fun v _ => nth v i) r
noncomputable def hO (r : Res) : Hp := Res.rec (motive := fun _ => Hp) H0 (fun _ _ => H0) (fun _ _ _ => H0) (fun _ h => h) r
noncomputable def qb5R0 (s9 s10 s11 s15 s20 s21 s22 s23 s24 s25 s28 s29 s30 : Fun) : Fun := fun a b => uc a fun a c => uc c fun c d => uz d (cl (s9 [] b) fun b d => bNot b fun e => cB e fun e => ifB e (.fail) (iRem a (I 1000) fun a => cl (s23 [(.str 1 65), (.str 16 154706541852025644484233205990057992554), (I 33)] d) fun d e => cl (s23 [(.str 1 66), (.str 1 65), (I 33)] e) fun e f => cl (s23 [(.str 1 68), (.str 1 66), (I 33)] f) fun f g => bld [(false, 1, d), (false, 1, e), (false, 1, f)] fun h => mkS g 1 3 h fun g h => lenL g fun i => blk 0 (lp (L5n0 s9 s10 s11 s15 s20 s21 s22 s23 s24 s25 s28 s29 s30) most [a, c, b, d, e, f, g, i, (I 0)] h) fun a b => uc a fun a c => uc c fun c d => uc d fun d e => uc e fun e f => uc f fun f g => uc g fun g _ => cl (s29 [e, (.str 1 102), (I 1)] b) fun _ b => cl (s29 [e, (.str 1 103), (I 10)] b) fun _ b => cl (s29 [f, (.str 1 102), (I 2)] b) fun _ b => cl (s11 [] b) fun b h => .ret (.cons b (.cons e (.cons f (.cons g (.cons a (.cons d .nil)))))) h))
noncomputable def P_0 (a0 a1 : Int) : Res := qb5R0 s9 s10 s11 s15 s20 s21 s22 s23 s24 s25 s28 s29 s30 [(.int 63 a0), (.int 63 a1)] H0
noncomputable def D_0 (a0 a1 : Int) (r0 : Nat) : Res := b5R0 s15 s30 s25 s28 s20 s22 s21 (pv (P_0 a0 a1) 0) (pv (P_0 a0 a1) 1) (pv (P_0 a0 a1) 2) (pv (P_0 a0 a1) 3) (pv (P_0 a0 a1) 4) (pv (P_0 a0 a1) 5) (I r0) (hO (P_0 a0 a1))
theorem c_0q (a0 a1 : Int) : isT (D_0 a0 a1 0) = eqI (wrapC 63 (wrapC 31 (wrapC 63 (Int.add (wrapC 63 (wrapC 31 (wrapC 63 (wrapC 31 (wrapC 63 (Int.add (wrapC 63 (wrapC 31 (wrapC 63 (wrapC 31 (Int.tmod a0 (.ofNat 1000)))))) (.ofNat 1))))))) (.ofNat 10))))) (wrapC 63 (Int.add (wrapC 63 (Int.add (Int.tmod a0 (.ofNat 1000)) (.ofNat 1))) (.ofNat 10))) := by kernel_rfl
theorem c_0 (a0 a1 : Int) : isT (D_0 a0 a1 0) = true := (c_0q a0 a1).trans (by
  exact eqv _ (Int.lt_tmod_of_pos _ (by decide)) (Int.tmod_lt_of_pos _ (by decide)) _ (by decide) (by decide))
theorem c_1q (a0 a1 : Int) : isT (D_0 a0 a1 1) = eqI (wrapC 63 (wrapC 31 (wrapC 63 (Int.add (wrapC 63 (wrapC 31 (wrapC 63 (wrapC 31 (wrapC 63 (Int.add (wrapC 63 (wrapC 31 (wrapC 63 (wrapC 31 (Int.tmod a0 (.ofNat 1000)))))) (.ofNat 2))))))) (.ofNat 10))))) (wrapC 63 (Int.add (wrapC 63 (Int.add (Int.tmod a0 (.ofNat 1000)) (.ofNat 2))) (.ofNat 10))) := by kernel_rfl
theorem c_1 (a0 a1 : Int) : isT (D_0 a0 a1 1) = true := (c_1q a0 a1).trans (by
  exact eqv _ (Int.lt_tmod_of_pos _ (by decide)) (Int.tmod_lt_of_pos _ (by decide)) _ (by decide) (by decide))
theorem c_2q (a0 a1 : Int) : isT (D_0 a0 a1 2) = eqI (wrapC 63 (wrapC 31 (wrapC 63 (Int.add (wrapC 63 (wrapC 31 (wrapC 63 (wrapC 31 (wrapC 63 (Int.add (wrapC 63 (wrapC 31 (wrapC 63 (wrapC 31 (Int.tmod a0 (.ofNat 1000)))))) (.ofNat 2))))))) (.ofNat 10))))) (wrapC 63 (Int.add (wrapC 63 (Int.add (Int.tmod a0 (.ofNat 1000)) (.ofNat 2))) (.ofNat 10))) := by kernel_rfl
theorem c_2 (a0 a1 : Int) : isT (D_0 a0 a1 2) = true := (c_2q a0 a1).trans (by
  exact eqv _ (Int.lt_tmod_of_pos _ (by decide)) (Int.tmod_lt_of_pos _ (by decide)) _ (by decide) (by decide))
theorem all (a0 a1 : Int) : isT (s5 [(.int 63 a0), (.int 63 a1)] H0) = true := by
  have hs : s10 = smallF := by kernel_rfl
  have e0 : s5 [(.int 63 a0), (.int 63 a1)] H0 = cl (s10 [.int 63 a1, I 3] (hO (P_0 a0 a1))) (fun x y => b5R0 s15 s30 s25 s28 s20 s22 s21 (pv (P_0 a0 a1) 0) (pv (P_0 a0 a1) 1) (pv (P_0 a0 a1) 2) (pv (P_0 a0 a1) 3) (pv (P_0 a0 a1) 4) (pv (P_0 a0 a1) 5) x y) := by kernel_rfl
  rw [e0, hs, smallF_eq a1 3 (by decide) (by decide), cl_ret]
  have h0 : (a1.tmod ((3 : Nat) : Int)).natAbs < 3 := by rw [Int.natAbs_tmod]; exact Nat.mod_lt _ (by decide)
  generalize (a1.tmod ((3 : Nat) : Int)).natAbs = r0 at h0 ⊢
  show isT (D_0 a0 a1 r0) = true
  rcases (show r0 = 0 ∨ r0 = 1 ∨ r0 = 2 from by omega) with rfl | rfl | rfl
  · exact c_0 a0 a1
  · exact c_1 a0 a1
  · exact c_2 a0 a1

theorem walk (a0 : Int) (a1 : Int) (w0 : (Lit.int .i64 a0).wf = true) (w1 : (Lit.int .i64 a1).wf = true) (w : World) (hsh : w.ShapedOpen Tryz.prog) : Calls Tryz.prog 5 #[.int .i64 a0, .int .i64 a1] w fun e w' => e = .returned (.bool true) ∧ Kept w w' := by
  have h : isT (s5 [.int 63 a0, .int 63 a1] H0) = true := by
    exact all a0 a1
  exact law_walk F5.1 h w (maxLen_J hsh) (.cons (vr_i64 _ a0) (.cons (vr_i64 _ a1) .nil))

set_option maxRecDepth 100000 in
theorem contract (H : Type) (enc : TypeId × Value → H) (W : World) (base : Nat) (args : Array Value) (ds gs : List (DataW H)) (before : List MemPlace)
    (hval : ∀ (j : Nat) t v, Tryz.f5.params[j]? = some t → args[j]? = some v → Value.okWide Tryz.prog W .any base t v)
    (hW : DataW.Whole enc Tryz.prog Tryz.f5.params.toList Rows.topVirtualSpec.vars false W args.toList ds gs before) (hsh : W.ShapedOpen Tryz.prog) :
    Calls Tryz.prog 5 args W fun e W' => ∃ v, e = .returned v ∧ Rows.topVirtualSpec.post enc Tryz.prog Tryz.f5 false true false false W args v W' := by
  have hW' := hW
  obtain ⟨p, q, hA0, hV, rfl, hfz, hnd⟩ := hW
  have hA : DataW.TrodAll enc Tryz.prog W 0 (fun _ => true) true Tryz.f5.params.toList args.toList ds p := hA0
  rw [Tryz.params5] at hA hval
  obtain ⟨v0, vs0, d0, ds0, p0, q0, hargs, rfl, rfl, h0, r0⟩ := trodAll_cons hA
  obtain ⟨v1, vs1, d1, ds1, p1, q1, rfl, rfl, rfl, h1, r1⟩ := trodAll_cons r0
  obtain ⟨rfl, rfl, rfl⟩ := trodAll_nil r1
  obtain rfl : args = #[v0, v1] := by cases args; simp_all
  obtain ⟨rfl, rfl⟩ := trodVars_none hV
  obtain ⟨a0, rfl, rfl, rfl, w0⟩ := open_int Tryz.underlying3 (hval 0 3 v0 rfl rfl) h0
  obtain ⟨a1, rfl, rfl, rfl, w1⟩ := open_int Tryz.underlying3 (hval 1 3 v1 rfl rfl) h1
  clear hA0
  simp only [List.append_nil] at hW'
  refine (walk a0 a1 w0 w1 W hsh).mono fun e W' ⟨he, hg⟩ => ?_
  subst he
  exact ⟨_, rfl, AM.post_kept (pa := []) (pv := []) hW' (fun _ _ _ => (trodAll_cons_mk (shut_bool Tryz.underlying4 _) trodAll_mk0)) (fun sp hsp => (trodAll_cons_mk (shut_int Tryz.underlying3 w0) (trodAll_cons_mk (shut_int Tryz.underlying3 w1) trodAll_mk0))) (fun _ _ => rfl) hg.1⟩

theorem met (os : Os) : laidMet Tryz.prog Rows.topVirtualRow.laid ((laidWorld os #[.int .i64 0, .int .i64 0]).forCall (fun _ _ => 0) ⟨#[], #[.int .i64 0, .int .i64 0], []⟩).memory :=
  laidMet_of_run3 12 (by kernel_rfl) (by kernel_rfl) (by kernel_rfl)
theorem reads (os : Os) {H : Type} (enc : TypeId × Value → H) : ∃ places, DataW.whole enc Tryz.prog ((laidWorld os #[.int .i64 0, .int .i64 0]).forCall (fun _ _ => 0) ⟨#[], #[.int .i64 0, .int .i64 0], []⟩).memory Tryz.f5.params.toList Rows.topVirtualSpec.vars false (#[.int .i64 0, .int .i64 0] : Array Value).toList 8 = some ([.lit (.int .i64 0), .lit (.int .i64 0)], [], places) :=
  ⟨[], by kernel_rfl⟩
set_option maxRecDepth 100000 in
theorem lifted (os : Os) (started : os.Started) (H : Type) (enc : TypeId × Value → H) (F : Stop.Interp) :
    ReturnsInHanded {} Tryz.checked os 5 .any ((OpenSpec.ofChange Rows.topVirtualSpec).preRow enc Tryz.prog Tryz.f5 Rows.topVirtualRow.domain false Rows.topVirtualRow.laid) (((OpenSpec.ofChange Rows.topVirtualSpec).at F).post enc Tryz.prog Tryz.f5 false true false false) := by
  obtain ⟨places, hx⟩ := reads os enc
  refine returnsInHanded_of_row (C := Tryz.checked) (s := OpenSpec.ofChange Rows.topVirtualSpec) own started (by kernel_rfl) Tryz.func5
    (witness_row_at (enc := enc) (C := Tryz.checked) false (laidWorld os #[.int .i64 0, .int .i64 0]) #[.int .i64 0, .int .i64 0] rfl (by kernel_rfl) (by kernel_rfl) (by kernel_rfl)
      (OpenSpec.preRow_of_cond 8 hx (by kernel_rfl) (fun k hk => by cases hk) (by kernel_rfl) (met os))) ?_
  intro W base args ds gs before hval hW _ _ _ _ hsh _
  exact contract H enc W base args ds gs before hval hW hsh

theorem said : Rows.TopVirtualSaid :=
  OpenClaim.holds_of_cond 5 Tryz.f5 rfl rfl rfl rfl rfl rfl rfl ⟨rfl, rfl, rfl, rfl, rfl⟩ rfl rfl rfl rfl rfl (by kernel_rfl) Tryz.func5 closed
    (of_decide_eq_true (by kernel_rfl)) (by unfold Func.isWrapper; first | (rw [if_pos (by decide +kernel)]; kernel_rfl) | (rw [if_neg (by decide +kernel)]; exact ⟨rfl, rfl⟩))
    (fun os started H enc _ F => by rw [OpenClaim.pre_eq_preRow]; exact lifted os started H enc F)

theorem plain (f : FuncId) (fn : Func) (hf : Tryz.pinned.checked.prog.funcNamed "obelisk/obelisktop.TopVirtual" = some f) (hfn : Tryz.pinned.checked.prog.funcs[f]? = some fn) :
    false = Tryz.pinned.checked.prog.looks [] ∧ ∀ (j : Nat) t, fn.params[j]? = some t → Tryz.pinned.checked.prog.wantsStandIn t = false := by
  obtain rfl : f = 5 := Option.some.inj ((show Tryz.prog.funcNamed "obelisk/obelisktop.TopVirtual" = some 5 by kernel_rfl).symm.trans hf) |>.symm
  obtain rfl : fn = Tryz.f5 := (Option.some.inj (Tryz.func5.symm.trans hfn)).symm
  refine ⟨by kernel_rfl, fun j t ht => ?_⟩
  rw [Tryz.params5] at ht
  have hm : t ∈ ([3, 3] : List TypeId) := by simpa using Array.mem_of_getElem? ht
  have hall : (([3, 3] : List TypeId).all fun u => !Tryz.prog.wantsStandIn u) = true := by kernel_rfl
  exact (show Tryz.prog.wantsStandIn t = false by simpa using List.all_eq_true.1 hall t hm)

theorem proved : Rows.TopVirtualCardSaid :=
  Claim7.holds_tied_plain_at .later [] _ _ _ _ said (fun _ h => by cases h) (by kernel_rfl) (fun _ h => by cases h) topVirtual_row_tie rfl ⟨rfl, rfl⟩ (by kernel_rfl) rfl plain goes

#print axioms proved
end Go.Proofs.YtmoojalmefnmnaaGreatDoor.LTopVirtual
