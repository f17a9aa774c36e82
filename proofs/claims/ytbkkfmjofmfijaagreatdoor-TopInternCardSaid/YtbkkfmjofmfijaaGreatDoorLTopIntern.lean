/-
  The law TopIntern holds of the program: whatever the input, it returns true, and the input reads as before. No condition; the card ties the two tables that the row lists to the program's text.
-/
import Derived.Test.YtbkkfmjofmfijaaGreatDoorXa
import Derived.Test.YtbkkfmjofmfijaaGreatDoorXb
import Derived.Test.YtbkkfmjofmfijaaGreatDoorXc
import Derived.Test.YtbkkfmjofmfijaaGreatDoorXd
import Derived.Test.YtbkkfmjofmfijaaGreatDoorXe
import Derived.Test.YtbkkfmjofmfijaaGreatDoorXf
import Derived.Test.YtbkkfmjofmfijaaGreatDoorWt
import Derived.Test.YtbkkfmjofmfijaaGreatDoorFf
import Derived.Test.YtbkkfmjofmfijaaGreatDoorK6
set_option linter.unusedVariables false
set_option linter.unusedSimpArgs false
namespace Go.Proofs.YtbkkfmjofmfijaaGreatDoor.LTopIntern
open Go.ChangeShapes Go.WideShapes Go.ChangeAt Go.RowKit Go.AM
set_option linter.unusedVariables false

theorem lo6 {n x : Nat} (h : fits6 n x 0) : ∀ i, i < n → 0 < byteAt x i ∧ byteAt x i < 128 := fun i hi => by have := h i (by omega) hi; omega
theorem fin6 : ∀ m, m ≤ 20 → ∀ y, y < 256 ^ m → fits6 m y 0 → ∃ l s, isT (t6 (.str m y) (.bool true) (Ho l s)) = true
  | 0, _, y, hy, _ => by
    obtain rfl : y = 0 := by rw [Nat.pow_zero] at hy; omega
    exact ⟨[], .unk, d0⟩
  | 1, _, y, hy, hb => by
    by_cases h0 : y = 77
    · subst h0; exact ⟨[], .unk, d1⟩
    exact ⟨_, _, c1 hy (lo6 hb) h0⟩
  | 2, _, y, hy, hb => by
    exact ⟨_, _, c2 hy (lo6 hb)⟩
  | 3, _, y, hy, hb => by
    by_cases h0 : y = 4794664
    · subst h0; exact ⟨[], .unk, d2⟩
    exact ⟨_, _, c3 hy (lo6 hb) h0⟩
  | 4, _, y, hy, hb => by
    by_cases h0 : y = 1819242352
    · subst h0; exact ⟨[], .unk, d3⟩
    by_cases h1 : y = 1701080899
    · subst h1; exact ⟨[], .unk, d4⟩
    by_cases h2 : y = 1701077357
    · subst h2; exact ⟨[], .unk, d5⟩
    by_cases h3 : y = 1801675106
    · subst h3; exact ⟨[], .unk, d6⟩
    exact ⟨_, _, c4 hy (lo6 hb) h0 h1 h2 h3⟩
  | 5, _, y, hy, hb => by
    exact ⟨_, _, c5 hy (lo6 hb)⟩
  | 6, _, y, hy, hb => by
    by_cases h0 : y = 127961628831587
    · subst h0; exact ⟨[], .unk, d7⟩
    by_cases h1 : y = 121437607456361
    · subst h1; exact ⟨[], .unk, d8⟩
    exact ⟨_, _, c6 hy (lo6 hb) h0 h1⟩
  | 7, _, y, hy, hb => by
    exact ⟨_, _, c7 hy (lo6 hb)⟩
  | 8, _, y, hy, hb => by
    exact ⟨_, _, c8 hy (lo6 hb)⟩
  | 9, _, y, hy, hb => by
    exact ⟨_, _, c9 hy (lo6 hb)⟩
  | 10, _, y, hy, hb => by
    exact ⟨_, _, c10 hy (lo6 hb)⟩
  | 11, _, y, hy, hb => by
    exact ⟨_, _, c11 hy (lo6 hb)⟩
  | 12, _, y, hy, hb => by
    exact ⟨_, _, c12 hy (lo6 hb)⟩
  | 13, _, y, hy, hb => by
    by_cases h0 : y = 8035587729358898777305137640531
    · subst h0; exact ⟨[], .unk, d9⟩
    exact ⟨_, _, c13 hy (lo6 hb) h0⟩
  | 14, _, y, hy, hb => by
    exact ⟨_, _, c14 hy (lo6 hb)⟩
  | 15, _, y, hy, hb => by
    exact ⟨_, _, c15 hy (lo6 hb)⟩
  | 16, _, y, hy, hb => by
    by_cases h0 : y = 137483774941304901841256615957136564586
    · subst h0; exact ⟨[], .unk, d10⟩
    by_cases h1 : y = 154706541852025644484233205990057992554
    · subst h1; exact ⟨[], .unk, d11⟩
    exact ⟨_, _, c16 hy (lo6 hb) h0 h1⟩
  | 17, _, y, hy, hb => by
    exact ⟨_, _, c17 hy (lo6 hb)⟩
  | 18, _, y, hy, hb => by
    exact ⟨_, _, c18 hy (lo6 hb)⟩
  | 19, _, y, hy, hb => by
    exact ⟨_, _, c19 hy (lo6 hb)⟩
  | 20, _, y, hy, hb => by
    by_cases h0 : y = 339137050467292191589805048747422779071890467112
    · subst h0; exact ⟨[], .unk, d12⟩
    exact ⟨_, _, c20 hy (lo6 hb) h0⟩
  | m + 21, h, _, _, _ => by omega
theorem all6 (n x : Nat) (hx : x < 256 ^ n) : ∃ l s, isT (s6 [.str n x] (Ho l s)) = true := by
  obtain ⟨m, y, hm, hy, h20⟩ : ∃ m y, ((n ≤ 20 ∧ m = n ∧ y = x) ∨ (20 < n ∧ m = 20 ∧ y = x % 256 ^ 20)) ∧ y < 256 ^ m ∧ m ≤ 20 := by
    by_cases h : n ≤ 20
    · exact ⟨n, x, .inl ⟨h, rfl, rfl⟩, hx, h⟩
    · exact ⟨20, x % 256 ^ 20, .inr ⟨by omega, rfl, rfl⟩, Nat.mod_lt _ (by decide), by decide⟩
  have key : ∀ l s, (fits6 m y 0 ∧ s6 [.str n x] (Ho l s) = t6 (.str m y) (.bool true) (Ho l s)) ∨ s6 [.str n x] (Ho l s) = .ret (.bool true) (Ho l s) := fun l s => run6 n x (Ho l s) hm
  rcases key [] .unk with ⟨hf, _⟩ | h
  · obtain ⟨l, s, h⟩ := fin6 m h20 y hy hf
    refine ⟨l, s, ?_⟩
    rcases key l s with ⟨_, h2⟩ | h2
    · rw [h2]; exact h
    · rw [h2]; rfl
  · exact ⟨[], .unk, by rw [h]; rfl⟩
theorem vr_str (ρ : Rho) (s : ByteArray) : VR ρ (.str s.data.size (packB s.data.toList)) (.string s) := ⟨s, rfl, rfl, rfl⟩
theorem walk (a0 : ByteArray) (w0 : a0.size ≤ maxLen) (w : World) (hsh : w.ShapedOpen Tryz.prog) : Calls Tryz.prog 6 #[.string a0] w fun e w' => e = .returned (.bool true) ∧ Kept w w' := by
  obtain ⟨l, s, h⟩ := all6 a0.data.size (packB a0.data.toList) (by have := packB_lt a0.data.toList; rwa [Array.length_toList] at this)
  exact law_walko F6.1 l s h w (maxLen_J hsh) (.cons (vr_str _ a0) .nil)

set_option maxRecDepth 100000 in
theorem contract (H : Type) (enc : TypeId × Value → H) (W : World) (base : Nat) (args : Array Value) (ds gs : List (DataW H)) (before : List MemPlace)
    (hval : ∀ (j : Nat) t v, Tryz.f6.params[j]? = some t → args[j]? = some v → Value.okWide Tryz.prog W .any base t v)
    (hW : DataW.Whole enc Tryz.prog Tryz.f6.params.toList Rows.topInternSpec.vars false W args.toList ds gs before) (hsh : W.ShapedOpen Tryz.prog) :
    Calls Tryz.prog 6 args W fun e W' => ∃ v, e = .returned v ∧ Rows.topInternSpec.post enc Tryz.prog Tryz.f6 false true false false W args v W' := by
  have hW' := hW
  obtain ⟨p, q, hA0, hV, rfl, hfz, hnd⟩ := hW
  have hA : DataW.TrodAll enc Tryz.prog W 0 (fun _ => true) true Tryz.f6.params.toList args.toList ds p := hA0
  rw [Tryz.params6] at hA hval
  obtain ⟨v0, vs0, d0, ds0, p0, q0, hargs, rfl, rfl, h0, r0⟩ := trodAll_cons hA
  obtain ⟨rfl, rfl, rfl⟩ := trodAll_nil r0
  obtain rfl : args = #[v0] := by cases args; simp_all
  obtain ⟨rfl, rfl⟩ := trodVars_none hV
  obtain ⟨a0, rfl, rfl, rfl, w0⟩ := Go.ChangeMaps.open_string Tryz.underlying9 (hval 0 9 v0 rfl rfl) h0
  clear hA0
  simp only [List.append_nil] at hW'
  refine (walk a0 w0 W hsh).mono fun e W' ⟨he, hg⟩ => ?_
  subst he
  exact ⟨_, rfl, AM.post_kept (pa := []) (pv := []) hW' (fun _ _ _ => (trodAll_cons_mk (shut_bool Tryz.underlying4 _) trodAll_mk0)) (fun sp hsp => (trodAll_cons_mk (Go.ChangeMaps.shut_string Tryz.underlying9 w0) trodAll_mk0)) (fun _ _ => rfl) hg.1⟩

theorem met (os : Os) : laidMet Tryz.prog Rows.topInternRow.laid ((laidWorld os #[.string ByteArray.empty]).forCall (fun _ _ => 0) ⟨#[], #[.string ByteArray.empty], []⟩).memory :=
  laidMet_of_run3 12 (by kernel_rfl) (by kernel_rfl) (by kernel_rfl)
theorem reads (os : Os) {H : Type} (enc : TypeId × Value → H) : ∃ places, DataW.whole enc Tryz.prog ((laidWorld os #[.string ByteArray.empty]).forCall (fun _ _ => 0) ⟨#[], #[.string ByteArray.empty], []⟩).memory Tryz.f6.params.toList Rows.topInternSpec.vars false (#[.string ByteArray.empty] : Array Value).toList 8 = some ([.lit (.string [])], [], places) :=
  ⟨[], by kernel_rfl⟩
set_option maxRecDepth 100000 in
theorem lifted (os : Os) (started : os.Started) (H : Type) (enc : TypeId × Value → H) (F : Stop.Interp) :
    ReturnsInHanded {} Tryz.checked os 6 .any ((OpenSpec.ofChange Rows.topInternSpec).preRow enc Tryz.prog Tryz.f6 Rows.topInternRow.domain false Rows.topInternRow.laid) (((OpenSpec.ofChange Rows.topInternSpec).at F).post enc Tryz.prog Tryz.f6 false true false false) := by
  obtain ⟨places, hx⟩ := reads os enc
  refine returnsInHanded_of_row (C := Tryz.checked) (s := OpenSpec.ofChange Rows.topInternSpec) own started (by kernel_rfl) Tryz.func6
    (witness_row_at (enc := enc) (C := Tryz.checked) false (laidWorld os #[.string ByteArray.empty]) #[.string ByteArray.empty] rfl (by kernel_rfl) (by kernel_rfl) (by kernel_rfl)
      (OpenSpec.preRow_of_cond 8 hx (by kernel_rfl) (fun k hk => by cases hk) (by kernel_rfl) (met os))) ?_
  intro W base args ds gs before hval hW _ _ _ _ hsh _
  exact contract H enc W base args ds gs before hval hW hsh

theorem said : Rows.TopInternSaid :=
  OpenClaim.holds_of_cond 6 Tryz.f6 rfl rfl rfl rfl rfl rfl rfl ⟨rfl, rfl, rfl, rfl, rfl⟩ rfl rfl rfl rfl rfl (by kernel_rfl) Tryz.func6 closed
    (of_decide_eq_true (by kernel_rfl)) (by unfold Func.isWrapper; first | (rw [if_pos (by decide +kernel)]; kernel_rfl) | (rw [if_neg (by decide +kernel)]; exact ⟨rfl, rfl⟩))
    (fun os started H enc _ F => by rw [OpenClaim.pre_eq_preRow]; exact lifted os started H enc F)

theorem plain (f : FuncId) (fn : Func) (hf : Tryz.pinned.checked.prog.funcNamed "obelisk/obelisktop.TopIntern" = some f) (hfn : Tryz.pinned.checked.prog.funcs[f]? = some fn) :
    false = Tryz.pinned.checked.prog.looks [] ∧ ∀ (j : Nat) t, fn.params[j]? = some t → Tryz.pinned.checked.prog.wantsStandIn t = false := by
  obtain rfl : f = 6 := Option.some.inj ((show Tryz.prog.funcNamed "obelisk/obelisktop.TopIntern" = some 6 by kernel_rfl).symm.trans hf) |>.symm
  obtain rfl : fn = Tryz.f6 := (Option.some.inj (Tryz.func6.symm.trans hfn)).symm
  refine ⟨by kernel_rfl, fun j t ht => ?_⟩
  rw [Tryz.params6] at ht
  have hm : t ∈ ([9] : List TypeId) := by simpa using Array.mem_of_getElem? ht
  have hall : (([9] : List TypeId).all fun u => !Tryz.prog.wantsStandIn u) = true := by kernel_rfl
  exact (show Tryz.prog.wantsStandIn t = false by simpa using List.all_eq_true.1 hall t hm)

theorem proved : Rows.TopInternCardSaid :=
  Claim7.holds_tied_plain_at .later [] _ _ _ _ said (fun _ h => by cases h) (by kernel_rfl) (fun _ h => by cases h) topIntern_row_tie rfl ⟨rfl, rfl⟩ (by kernel_rfl) rfl plain goes

#print axioms proved
end Go.Proofs.YtbkkfmjofmfijaaGreatDoor.LTopIntern
