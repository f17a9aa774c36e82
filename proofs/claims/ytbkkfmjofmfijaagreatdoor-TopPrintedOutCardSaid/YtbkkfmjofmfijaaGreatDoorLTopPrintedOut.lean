/-
  The law TopPrintedOut holds of the program: whatever the input, it returns true, and the input reads as before. No condition; the card ties the two tables that the row lists to the program's text.
-/
import Derived.Test.YtbkkfmjofmfijaaGreatDoorXa
import Derived.Test.YtbkkfmjofmfijaaGreatDoorXb
import Derived.Test.YtbkkfmjofmfijaaGreatDoorXc
import Derived.Test.YtbkkfmjofmfijaaGreatDoorXd
import Derived.Test.YtbkkfmjofmfijaaGreatDoorXe
import Derived.Test.YtbkkfmjofmfijaaGreatDoorXf
import Derived.Test.YtbkkfmjofmfijaaGreatDoorXg
import Derived.Test.YtbkkfmjofmfijaaGreatDoorXh
import Derived.Test.YtbkkfmjofmfijaaGreatDoorXi
import Derived.Test.YtbkkfmjofmfijaaGreatDoorXj
import Derived.Test.YtbkkfmjofmfijaaGreatDoorXk
import Derived.Test.YtbkkfmjofmfijaaGreatDoorXl
import Derived.Test.YtbkkfmjofmfijaaGreatDoorWt
import Derived.Test.YtbkkfmjofmfijaaGreatDoorFe
import Derived.Test.YtbkkfmjofmfijaaGreatDoorK7
set_option linter.unusedVariables false
set_option linter.unusedSimpArgs false
namespace Go.Proofs.YtbkkfmjofmfijaaGreatDoor.LTopPrintedOut
open Go.ChangeShapes Go.WideShapes Go.ChangeAt Go.RowKit Go.AM
set_option linter.unusedVariables false

theorem e44J (s59 s60 s61 : Fun) (jf : Nat → Fun) : b44J s59 s60 s61 jf = denFJ Tryz.prog (gam [(59, s59), (60, s60), (61, s61)]) Tryz.f44 jf .z (.s .z (.s .z (.s .z .z))) [0, 10] (.s .z (.s .z .z)) := by kernel_rfl
theorem l44 (s59 s60 s61 : Fun) : loopF Tryz.prog (gam [(59, s59), (60, s60), (61, s61)]) Tryz.f44 [0, 10] (.s (.s .z (.s .z .z)) (.b [0, 10] .z)) = L44n0 s59 s60 s61 := by kernel_rfl
theorem F44J {n : Nat} (hn : n < 60) (hq : FQ n) : Snd Tryz.prog 44 (s44J n) := by
  refine ⟨?_, F44.2⟩
  obtain ⟨c, hc⟩ := Option.isSome_iff_exists.1 (show Tryz.f44.body.isSome = true by kernel_rfl)
  have h := denFJ_sound (J := jF n) (x0 := .z) (x1 := .s .z (.s .z (.s .z .z))) (x2 := .s .z (.s .z .z)) (l := [0, 10]) hmix (gcons F59 (gcons F60 (gcons F61 gnil))) (.s (.s .z (.s .z .z)) (.b [0, 10] .z)) Tryz.func44 hc
    (fun b0 vs h r hr e => by rw [l44]; exact jF_goes hn hq b0 vs h r hr e)
  rw [← e44J] at h
  exact h
theorem F36J {n : Nat} (hn : n < 60) (hq : FQ n) : Snd Tryz.prog 36 (s36J n) := snd_of hmix (gcons F43 (gcons (F44J hn hq) (gcons F45 (gcons F46 (gcons F47 gnil))))) Tryz.func36 (by kernel_rfl) (by kernel_rfl) (e36 s43 (s44J n) s45 s46 s47)
theorem F22J {n : Nat} (hn : n < 60) (hq : FQ n) : Snd Tryz.prog 22 (s22J n) := snd_of hmix (gcons (F36J hn hq) gnil) Tryz.func22 (by kernel_rfl) (by kernel_rfl) (e22 (s36J n))
theorem F7J {n : Nat} (hn : n < 60) (hq : FQ n) : Snd Tryz.prog 7 (s7J n) := snd_of hmix (gcons F8 (gcons F10 (gcons F16 (gcons F19 (gcons F20 (gcons (F22J hn hq) (gcons F27 (gcons F29 (gcons F30 (gcons F31 gnil)))))))))) Tryz.func7 (by kernel_rfl) (by kernel_rfl) (e7 s8 s10 s16 s19 s20 (s22J n) s27 s29 s30 s31)
theorem s7J_small (n : Nat) (a : Int) : s7J n [.int 63 a] H0 = t7J n (.int 63 (.ofNat (Int.tmod a 60).natAbs)) (.bool true) H0 := by
  have e : s7J n [.int 63 a] H0 = cl (s30 [.int 63 a, I 60] H0) fun x c => t7J n x (.bool true) c := by kernel_rfl
  have hs : s30 = smallF := by kernel_rfl
  rw [e, hs, smallF_eq a 60 (by decide) (by decide), cl_r]
  rfl
theorem fqAll : ∀ k, k < 60 → FQ k
  | 0, _ => fq0
  | 1, _ => fq1
  | 2, _ => fq2
  | 3, _ => fq3
  | 4, _ => fq4
  | 5, _ => fq5
  | 6, _ => fq6
  | 7, _ => fq7
  | 8, _ => fq8
  | 9, _ => fq9
  | 10, _ => fq10
  | 11, _ => fq11
  | 12, _ => fq12
  | 13, _ => fq13
  | 14, _ => fq14
  | 15, _ => fq15
  | 16, _ => fq16
  | 17, _ => fq17
  | 18, _ => fq18
  | 19, _ => fq19
  | 20, _ => fq20
  | 21, _ => fq21
  | 22, _ => fq22
  | 23, _ => fq23
  | 24, _ => fq24
  | 25, _ => fq25
  | 26, _ => fq26
  | 27, _ => fq27
  | 28, _ => fq28
  | 29, _ => fq29
  | 30, _ => fq30
  | 31, _ => fq31
  | 32, _ => fq32
  | 33, _ => fq33
  | 34, _ => fq34
  | 35, _ => fq35
  | 36, _ => fq36
  | 37, _ => fq37
  | 38, _ => fq38
  | 39, _ => fq39
  | 40, _ => fq40
  | 41, _ => fq41
  | 42, _ => fq42
  | 43, _ => fq43
  | 44, _ => fq44
  | 45, _ => fq45
  | 46, _ => fq46
  | 47, _ => fq47
  | 48, _ => fq48
  | 49, _ => fq49
  | 50, _ => fq50
  | 51, _ => fq51
  | 52, _ => fq52
  | 53, _ => fq53
  | 54, _ => fq54
  | 55, _ => fq55
  | 56, _ => fq56
  | 57, _ => fq57
  | 58, _ => fq58
  | 59, _ => fq59
  | k + 60, h => absurd h (by omega)
theorem walk (a0 : Int) (w0 : (Lit.int .i64 a0).wf = true) (w : World) (hsh : w.ShapedOpen Tryz.prog) : Calls Tryz.prog 7 #[.int .i64 a0] w fun e w' => e = .returned (.bool true) ∧ Kept w w' := by
  have hk : (Int.tmod a0 60).natAbs < 60 := by rw [Int.natAbs_tmod]; exact Nat.mod_lt _ (by decide)
  have hq := fqAll _ hk
  exact law_walk (F7J hk hq).1 (by rw [s7J_small]; exact (fq_closed hk hq).2.1) w (maxLen_J hsh) (.cons (vr_i64 _ a0) .nil)

set_option maxRecDepth 100000 in
theorem contract (H : Type) (enc : TypeId × Value → H) (W : World) (base : Nat) (args : Array Value) (ds gs : List (DataW H)) (before : List MemPlace)
    (hval : ∀ (j : Nat) t v, Tryz.f7.params[j]? = some t → args[j]? = some v → Value.okWide Tryz.prog W .any base t v)
    (hW : DataW.Whole enc Tryz.prog Tryz.f7.params.toList Rows.topPrintedOutSpec.vars false W args.toList ds gs before) (hsh : W.ShapedOpen Tryz.prog) :
    Calls Tryz.prog 7 args W fun e W' => ∃ v, e = .returned v ∧ Rows.topPrintedOutSpec.post enc Tryz.prog Tryz.f7 false true false false W args v W' := by
  have hW' := hW
  obtain ⟨p, q, hA0, hV, rfl, hfz, hnd⟩ := hW
  have hA : DataW.TrodAll enc Tryz.prog W 0 (fun _ => true) true Tryz.f7.params.toList args.toList ds p := hA0
  rw [Tryz.params7] at hA hval
  obtain ⟨v0, vs0, d0, ds0, p0, q0, hargs, rfl, rfl, h0, r0⟩ := trodAll_cons hA
  obtain ⟨rfl, rfl, rfl⟩ := trodAll_nil r0
  obtain rfl : args = #[v0] := by cases args; simp_all
  obtain ⟨rfl, rfl⟩ := trodVars_none hV
  obtain ⟨a0, rfl, rfl, rfl, w0⟩ := open_int Tryz.underlying3 (hval 0 3 v0 rfl rfl) h0
  clear hA0
  simp only [List.append_nil] at hW'
  refine (walk a0 w0 W hsh).mono fun e W' ⟨he, hg⟩ => ?_
  subst he
  exact ⟨_, rfl, AM.post_kept (pa := []) (pv := []) hW' (fun _ _ _ => (trodAll_cons_mk (shut_bool Tryz.underlying4 _) trodAll_mk0)) (fun sp hsp => (trodAll_cons_mk (shut_int Tryz.underlying3 w0) trodAll_mk0)) (fun _ _ => rfl) hg.1⟩

theorem met (os : Os) : laidMet Tryz.prog Rows.topPrintedOutRow.laid ((laidWorld os #[.int .i64 0]).forCall (fun _ _ => 0) ⟨#[], #[.int .i64 0], []⟩).memory :=
  laidMet_of_run3 12 (by kernel_rfl) (by kernel_rfl) (by kernel_rfl)
theorem reads (os : Os) {H : Type} (enc : TypeId × Value → H) : ∃ places, DataW.whole enc Tryz.prog ((laidWorld os #[.int .i64 0]).forCall (fun _ _ => 0) ⟨#[], #[.int .i64 0], []⟩).memory Tryz.f7.params.toList Rows.topPrintedOutSpec.vars false (#[.int .i64 0] : Array Value).toList 8 = some ([.lit (.int .i64 0)], [], places) :=
  ⟨[], by kernel_rfl⟩
set_option maxRecDepth 100000 in
theorem lifted (os : Os) (started : os.Started) (H : Type) (enc : TypeId × Value → H) (F : Stop.Interp) :
    ReturnsInHanded {} Tryz.checked os 7 .any ((OpenSpec.ofChange Rows.topPrintedOutSpec).preRow enc Tryz.prog Tryz.f7 Rows.topPrintedOutRow.domain false Rows.topPrintedOutRow.laid) (((OpenSpec.ofChange Rows.topPrintedOutSpec).at F).post enc Tryz.prog Tryz.f7 false true false false) := by
  obtain ⟨places, hx⟩ := reads os enc
  refine returnsInHanded_of_row (C := Tryz.checked) (s := OpenSpec.ofChange Rows.topPrintedOutSpec) own started (by kernel_rfl) Tryz.func7
    (witness_row_at (enc := enc) (C := Tryz.checked) false (laidWorld os #[.int .i64 0]) #[.int .i64 0] rfl (by kernel_rfl) (by kernel_rfl) (by kernel_rfl)
      (OpenSpec.preRow_of_cond 8 hx (by kernel_rfl) (fun k hk => by cases hk) (by kernel_rfl) (met os))) ?_
  intro W base args ds gs before hval hW _ _ _ _ hsh _
  exact contract H enc W base args ds gs before hval hW hsh

theorem said : Rows.TopPrintedOutSaid :=
  OpenClaim.holds_of_cond 7 Tryz.f7 rfl rfl rfl rfl rfl rfl rfl ⟨rfl, rfl, rfl, rfl, rfl⟩ rfl rfl rfl rfl rfl (by kernel_rfl) Tryz.func7 closed
    (of_decide_eq_true (by kernel_rfl)) (by unfold Func.isWrapper; first | (rw [if_pos (by decide +kernel)]; kernel_rfl) | (rw [if_neg (by decide +kernel)]; exact ⟨rfl, rfl⟩))
    (fun os started H enc _ F => by rw [OpenClaim.pre_eq_preRow]; exact lifted os started H enc F)

theorem plain (f : FuncId) (fn : Func) (hf : Tryz.pinned.checked.prog.funcNamed "obelisk/obelisktop.TopPrintedOut" = some f) (hfn : Tryz.pinned.checked.prog.funcs[f]? = some fn) :
    false = Tryz.pinned.checked.prog.looks [] ∧ ∀ (j : Nat) t, fn.params[j]? = some t → Tryz.pinned.checked.prog.wantsStandIn t = false := by
  obtain rfl : f = 7 := Option.some.inj ((show Tryz.prog.funcNamed "obelisk/obelisktop.TopPrintedOut" = some 7 by kernel_rfl).symm.trans hf) |>.symm
  obtain rfl : fn = Tryz.f7 := (Option.some.inj (Tryz.func7.symm.trans hfn)).symm
  refine ⟨by kernel_rfl, fun j t ht => ?_⟩
  rw [Tryz.params7] at ht
  have hm : t ∈ ([3] : List TypeId) := by simpa using Array.mem_of_getElem? ht
  have hall : (([3] : List TypeId).all fun u => !Tryz.prog.wantsStandIn u) = true := by kernel_rfl
  exact (show Tryz.prog.wantsStandIn t = false by simpa using List.all_eq_true.1 hall t hm)

theorem proved : Rows.TopPrintedOutCardSaid :=
  Claim7.holds_tied_plain_at .later [] _ _ _ _ said (fun _ h => by cases h) (by kernel_rfl) (fun _ h => by cases h) topPrintedOut_row_tie rfl ⟨rfl, rfl⟩ (by kernel_rfl) rfl plain goes

#print axioms proved
end Go.Proofs.YtbkkfmjofmfijaaGreatDoor.LTopPrintedOut
