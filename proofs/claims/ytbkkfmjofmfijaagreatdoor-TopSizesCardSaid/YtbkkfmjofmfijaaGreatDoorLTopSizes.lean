/-
  The law TopSizes holds of the program: whatever the input, it returns true, and the input reads as before. No condition; the card ties the two tables that the row lists to the program's text.
-/
import Derived.Test.YtbkkfmjofmfijaaGreatDoorWt
import Derived.Test.YtbkkfmjofmfijaaGreatDoorFe
import Derived.Test.YtbkkfmjofmfijaaGreatDoorK4
set_option linter.unusedVariables false
set_option linter.unusedSimpArgs false
namespace Go.Proofs.YtbkkfmjofmfijaaGreatDoor.LTopSizes
open Go.ChangeShapes Go.WideShapes Go.ChangeAt Go.RowKit Go.AM
set_option linter.unusedVariables false

noncomputable def an (l : List Bool) : Bool := List.rec (motive := fun _ => Bool) true (fun p _ ih => Bool.rec (motive := fun _ => Bool) false ih p) l
theorem w31b (n : Int) : -2147483648 ≤ wrapC 31 n ∧ wrapC 31 n < 2147483648 := by rw [w31]; simp only [Int.bmod]; split <;> omega
theorem w6331 (n : Int) : wrapC 63 (wrapC 31 n) = wrapC 31 n := by
  obtain ⟨h1, h2⟩ := w31b n
  exact w63_in _ (by omega) (by omega)
theorem kw (x : Int) (h0 : 0 ≤ x) (h1 : x < 2147483648) : wrapC 63 (Int.add (.ofNat 3) (wrapC 63 (Int.tdiv (wrapC 63 (Int.sub (wrapC 63 (Int.add (wrapC 63 (Int.mul x (.ofNat 8))) (.ofNat 8))) (.ofNat 1))) (.ofNat 8)))) = x + 3 := by
  have ia : ∀ x y : Int, Int.add x y = x + y := fun _ _ => rfl
  have im : ∀ x y : Int, Int.mul x y = x * y := fun _ _ => rfl
  have is : ∀ x y : Int, Int.sub x y = x - y := fun _ _ => rfl
  have e8 : (Int.ofNat 8 : Int) = 8 := rfl
  have e3 : (Int.ofNat 3 : Int) = 3 := rfl
  have e1 : (Int.ofNat 1 : Int) = 1 := rfl
  simp only [ia, im, is, e8, e3, e1]
  rw [w63_in (x * 8) (by omega) (by omega), w63_in (x * 8 + 8) (by omega) (by omega), w63_in (x * 8 + 8 - 1) (by omega) (by omega), Int.tdiv_eq_ediv_of_nonneg (by omega)]
  have hd : (x * 8 + 8 - 1) / 8 = x := by omega
  rw [hd, w63_in x (by omega) (by omega), w63_in _ (by omega) (by omega)]; omega
theorem c0q (a0 : Int) : isT (s4k0 [.int 63 a0] H0) = an [(beqB (ltI (wrapC 63 (wrapC 31 a0)) (.ofNat 0)) true), (beqB (ltI (wrapC 63 (wrapC 31 a0)) (.ofNat 0)) true)] := by kernel_rfl
theorem lt_t {a b : Int} (h : a < b) : ltI a b = true := by rw [ltI_eq]; simpa using h
theorem lt_f {a b : Int} (h : b ≤ a) : ltI a b = false := by rw [ltI_eq]; simpa using h
theorem c0 (a0 : Int) (h : wrapC 31 a0 < 0) : isT (s4k0 [.int 63 a0] H0) = true := by
  rw [c0q, w6331, lt_t (b := .ofNat 0) h]; rfl
theorem c2q (k : Nat) (a0 : Int) : isT (s4k2 k [.int 63 a0] H0) = an [(beqB (ltI (wrapC 63 (wrapC 31 a0)) (.ofNat 0)) false), (beqB (ltI (wrapC 63 (wrapC 31 a0)) (.ofNat 0)) false), (beqB (ltI (.ofNat 2147483647) (wrapC 63 (wrapC 31 a0))) false), (beqB (ltI (wrapC 63 (Int.add (.ofNat 3) (wrapC 63 (Int.tdiv (wrapC 63 (Int.sub (wrapC 63 (Int.add (wrapC 63 (Int.mul (wrapC 63 (wrapC 31 a0)) (.ofNat 8))) (.ofNat 8))) (.ofNat 1))) (.ofNat 8))))) (.ofNat 0)) false), (eqI (wrapC 63 (Int.add (.ofNat 3) (wrapC 63 (Int.tdiv (wrapC 63 (Int.sub (wrapC 63 (Int.add (wrapC 63 (Int.mul (wrapC 63 (wrapC 31 a0)) (.ofNat 8))) (.ofNat 8))) (.ofNat 1))) (.ofNat 8))))) (.ofNat (Nat.add k 3))), (beqB (ltI (.ofNat 2040) (.ofNat (Nat.add k 3))) false), (Nat.ble (Nat.add k 3) 9223372036854775807), (Nat.ble (Nat.mul (Nat.add k 3) 8) 140737488355328), (Nat.ble (Nat.mul (Nat.add (Nat.add k 3) 8) 8) 140737488355328), (Nat.ble (Nat.add (Nat.add k 3) 8) 9223372036854775807), (beqB (ltI (wrapC 63 (wrapC 31 a0)) (.ofNat 0)) false), (beqB (ltI (.ofNat 2040) (wrapC 63 (Int.add (wrapC 63 (wrapC 31 a0)) (.ofNat 3)))) false), (eqI (wrapC 63 (wrapC 64 (wrapC 63 (wrapC 31 a0)))) (wrapC 63 (wrapC 31 a0)))] := by kernel_rfl
theorem c2 (k : Nat) (a0 : Int) (h : wrapC 31 a0 = (k : Int)) (hk : k ≤ 2037) : isT (s4k2 k [.int 63 a0] H0) = true := by
  rw [c2q, w6331, h]
  have e0 : ltI (k : Int) (.ofNat 0) = false := lt_f (by show (0 : Int) ≤ k; omega)
  have e1 : ltI (.ofNat 2147483647) (k : Int) = false := lt_f (by show (k : Int) ≤ 2147483647; omega)
  have e2 := kw (k : Int) (by omega) (by omega)
  rw [e2]
  have e3 : ltI ((k : Int) + 3) (.ofNat 0) = false := lt_f (by show (0 : Int) ≤ _; omega)
  have e4 : eqI ((k : Int) + 3) (.ofNat (Nat.add k 3)) = true := by rw [eqI_eq]; have : (Int.ofNat (Nat.add k 3) : Int) = (k : Int) + 3 := rfl; rw [this]; simp
  have e5 : ltI (.ofNat 2040) (.ofNat (Nat.add k 3)) = false := lt_f (by show ((k + 3 : Nat) : Int) ≤ 2040; omega)
  have e6 : Nat.ble (Nat.add k 3) 9223372036854775807 = true := by rw [ble_iff]; show k + 3 ≤ _; omega
  have e7 : Nat.ble (Nat.mul (Nat.add k 3) 8) 140737488355328 = true := by rw [ble_iff]; show (k + 3) * 8 ≤ _; omega
  have e8 : Nat.ble (Nat.mul (Nat.add (Nat.add k 3) 8) 8) 140737488355328 = true := by rw [ble_iff]; show (k + 3 + 8) * 8 ≤ _; omega
  have e9 : Nat.ble (Nat.add (Nat.add k 3) 8) 9223372036854775807 = true := by rw [ble_iff]; show k + 3 + 8 ≤ _; omega
  have e10 : ltI (.ofNat 2040) (wrapC 63 (Int.add (k : Int) (.ofNat 3))) = false := by
    have : Int.add (k : Int) (.ofNat 3) = (k : Int) + 3 := rfl
    rw [this, w63_in _ (by omega) (by omega)]
    exact lt_f (by show (k : Int) + 3 ≤ 2040; omega)
  have e11 : eqI (wrapC 63 (wrapC 64 (k : Int))) (k : Int) = true := by
    have : wrapC 64 (k : Int) = (k : Int) := by rw [w64]; omega
    rw [this, w63_in _ (by omega) (by omega), eqI_eq]; simp
  rw [e0, e1, e3, e4, e5, e6, e7, e8, e9, e10, e11]; rfl
theorem c1q (a0 : Int) : isT (s4k1 [.int 63 a0] H0) = an [(beqB (ltI (wrapC 63 (wrapC 31 a0)) (.ofNat 0)) false), (beqB (ltI (wrapC 63 (wrapC 31 a0)) (.ofNat 0)) false), (beqB (ltI (.ofNat 2147483647) (wrapC 63 (wrapC 31 a0))) false), (beqB (ltI (wrapC 63 (Int.add (.ofNat 3) (wrapC 63 (Int.tdiv (wrapC 63 (Int.sub (wrapC 63 (Int.add (wrapC 63 (Int.mul (wrapC 63 (wrapC 31 a0)) (.ofNat 8))) (.ofNat 8))) (.ofNat 1))) (.ofNat 8))))) (.ofNat 0)) false), (beqB (ltI (.ofNat 2040) (wrapC 63 (Int.add (.ofNat 3) (wrapC 63 (Int.tdiv (wrapC 63 (Int.sub (wrapC 63 (Int.add (wrapC 63 (Int.mul (wrapC 63 (wrapC 31 a0)) (.ofNat 8))) (.ofNat 8))) (.ofNat 1))) (.ofNat 8)))))) true), (bnot (eqI (wrapC 63 (wrapC 31 a0)) (.ofNat 1))), (bnot (eqI (wrapC 63 (wrapC 31 a0)) (.ofNat 3))), (bnot (eqI (wrapC 63 (wrapC 31 a0)) (.ofNat 6))), (bnot (eqI (wrapC 63 (wrapC 31 a0)) (.ofNat 1))), (bnot (eqI (wrapC 63 (wrapC 31 a0)) (.ofNat 3))), (bnot (eqI (wrapC 63 (wrapC 31 a0)) (.ofNat 6))), (beqB (ltI (wrapC 63 (wrapC 31 a0)) (.ofNat 0)) false), (beqB (ltI (.ofNat 2147483647) (wrapC 63 (wrapC 31 a0))) false), (beqB (ltI (wrapC 63 (Int.add (.ofNat 3) (wrapC 63 (Int.tdiv (wrapC 63 (Int.sub (wrapC 63 (Int.add (wrapC 63 (Int.mul (wrapC 63 (wrapC 31 a0)) (.ofNat 8))) (.ofNat 8))) (.ofNat 1))) (.ofNat 8))))) (.ofNat 0)) false), (beqB (ltI (.ofNat 2040) (wrapC 63 (Int.add (.ofNat 3) (wrapC 63 (Int.tdiv (wrapC 63 (Int.sub (wrapC 63 (Int.add (wrapC 63 (Int.mul (wrapC 63 (wrapC 31 a0)) (.ofNat 8))) (.ofNat 8))) (.ofNat 1))) (.ofNat 8)))))) true), (beqB (ltI (wrapC 63 (wrapC 31 a0)) (.ofNat 0)) false), (beqB (ltI (.ofNat 2040) (wrapC 63 (Int.add (wrapC 63 (wrapC 31 a0)) (.ofNat 3)))) true)] := by kernel_rfl
theorem c1 (a0 : Int) (h : 2038 ≤ wrapC 31 a0) : isT (s4k1 [.int 63 a0] H0) = true := by
  have hb := w31b a0
  rw [c1q, w6331, kw (wrapC 31 a0) (by omega) (by omega)]
  revert h hb; generalize wrapC 31 a0 = x; intro h hb
  have e0 : ltI x (.ofNat 0) = false := lt_f (by show (0 : Int) ≤ x; omega)
  have e1 : ltI (.ofNat 2147483647) x = false := lt_f (by show x ≤ 2147483647; omega)
  have e3 : ltI (x + 3) (.ofNat 0) = false := lt_f (by show (0 : Int) ≤ _; omega)
  have e5 : ltI (.ofNat 2040) (x + 3) = true := lt_t (by show (2040 : Int) < _; omega)
  have n1 : ∀ m : Nat, m ≤ 9 → eqI x (.ofNat m) = false := fun m hm => by rw [eqI_eq]; have : (Int.ofNat m : Int) = (m : Int) := rfl; rw [this]; exact decide_eq_false (by omega)
  have e10 : ltI (.ofNat 2040) (wrapC 63 (Int.add x (.ofNat 3))) = true := by
    have : Int.add x (.ofNat 3) = x + 3 := rfl
    rw [this, w63_in _ (by omega) (by omega)]; exact e5
  rw [e0, e1, e3, e5, e10, n1 1 (by omega), n1 3 (by omega), n1 6 (by omega)]; rfl
theorem walk (a0 : Int) (w0 : (Lit.int .i64 a0).wf = true) (w : World) (hsh : w.ShapedOpen Tryz.prog) : Calls Tryz.prog 4 #[.int .i64 a0] w fun e w' => e = .returned (.bool true) ∧ Kept w w' := by
  by_cases h0 : wrapC 31 a0 < 0
  · exact law_walk F4k0.1 (c0 a0 h0) w (maxLen_J hsh) (.cons (vr_i64 _ a0) .nil)
  · by_cases h1 : 2038 ≤ wrapC 31 a0
    · exact law_walk F4k1.1 (c1 a0 h1) w (maxLen_J hsh) (.cons (vr_i64 _ a0) .nil)
    · exact law_walk (F4k2 (wrapC 31 a0).toNat).1 (c2 (wrapC 31 a0).toNat a0 (by omega) (by omega)) w (maxLen_J hsh) (.cons (vr_i64 _ a0) .nil)

set_option maxRecDepth 100000 in
theorem contract (H : Type) (enc : TypeId × Value → H) (W : World) (base : Nat) (args : Array Value) (ds gs : List (DataW H)) (before : List MemPlace)
    (hval : ∀ (j : Nat) t v, Tryz.f4.params[j]? = some t → args[j]? = some v → Value.okWide Tryz.prog W .any base t v)
    (hW : DataW.Whole enc Tryz.prog Tryz.f4.params.toList Rows.topSizesSpec.vars false W args.toList ds gs before) (hsh : W.ShapedOpen Tryz.prog) :
    Calls Tryz.prog 4 args W fun e W' => ∃ v, e = .returned v ∧ Rows.topSizesSpec.post enc Tryz.prog Tryz.f4 false true false false W args v W' := by
  have hW' := hW
  obtain ⟨p, q, hA0, hV, rfl, hfz, hnd⟩ := hW
  have hA : DataW.TrodAll enc Tryz.prog W 0 (fun _ => true) true Tryz.f4.params.toList args.toList ds p := hA0
  rw [Tryz.params4] at hA hval
  obtain ⟨v0, vs0, d0, ds0, p0, q0, hargs, rfl, rfl, h0, r0⟩ := trodAll_cons hA
  obtain ⟨rfl, rfl, rfl⟩ := trodAll_nil r0
  obtain rfl : args = #[v0] := by cases args; simp_all
  obtain ⟨rfl, rfl⟩ := trodVars_none hV
  obtain ⟨a0, rfl, rfl, rfl, w0⟩ := open_int Tryz.underlying3 (hval 0 3 v0 rfl rfl) h0
  clear hA0
  simp only [List.append_nil] at hW'
  refine (walk a0 w0 W hsh).mono fun e W' ⟨he, hg⟩ => ?_
  subst he
  exact ⟨_, rfl, AM.post_kept (pa := []) (pv := []) hW' (fun _ _ _ => (trodAll_cons_mk (shut_bool Tryz.underlying4 _) trodAll_mk0)) (fun sp hsp => (trodAll_cons_mk (shut_int Tryz.underlying3 w0) trodAll_mk0)) (fun _ _ => rfl) hg.1⟩

theorem met (os : Os) : laidMet Tryz.prog Rows.topSizesRow.laid ((laidWorld os #[.int .i64 0]).forCall (fun _ _ => 0) ⟨#[], #[.int .i64 0], []⟩).memory :=
  laidMet_of_run3 12 (by kernel_rfl) (by kernel_rfl) (by kernel_rfl)
theorem reads (os : Os) {H : Type} (enc : TypeId × Value → H) : ∃ places, DataW.whole enc Tryz.prog ((laidWorld os #[.int .i64 0]).forCall (fun _ _ => 0) ⟨#[], #[.int .i64 0], []⟩).memory Tryz.f4.params.toList Rows.topSizesSpec.vars false (#[.int .i64 0] : Array Value).toList 8 = some ([.lit (.int .i64 0)], [], places) :=
  ⟨[], by kernel_rfl⟩
set_option maxRecDepth 100000 in
theorem lifted (os : Os) (started : os.Started) (H : Type) (enc : TypeId × Value → H) (F : Stop.Interp) :
    ReturnsInHanded {} Tryz.checked os 4 .any ((OpenSpec.ofChange Rows.topSizesSpec).preRow enc Tryz.prog Tryz.f4 Rows.topSizesRow.domain false Rows.topSizesRow.laid) (((OpenSpec.ofChange Rows.topSizesSpec).at F).post enc Tryz.prog Tryz.f4 false true false false) := by
  obtain ⟨places, hx⟩ := reads os enc
  refine returnsInHanded_of_row (C := Tryz.checked) (s := OpenSpec.ofChange Rows.topSizesSpec) own started (by kernel_rfl) Tryz.func4
    (witness_row_at (enc := enc) (C := Tryz.checked) false (laidWorld os #[.int .i64 0]) #[.int .i64 0] rfl (by kernel_rfl) (by kernel_rfl) (by kernel_rfl)
      (OpenSpec.preRow_of_cond 8 hx (by kernel_rfl) (fun k hk => by cases hk) (by kernel_rfl) (met os))) ?_
  intro W base args ds gs before hval hW _ _ _ _ hsh _
  exact contract H enc W base args ds gs before hval hW hsh

theorem said : Rows.TopSizesSaid :=
  OpenClaim.holds_of_cond 4 Tryz.f4 rfl rfl rfl rfl rfl rfl rfl ⟨rfl, rfl, rfl, rfl, rfl⟩ rfl rfl rfl rfl rfl (by kernel_rfl) Tryz.func4 closed
    (of_decide_eq_true (by kernel_rfl)) (by unfold Func.isWrapper; first | (rw [if_pos (by decide +kernel)]; kernel_rfl) | (rw [if_neg (by decide +kernel)]; exact ⟨rfl, rfl⟩))
    (fun os started H enc _ F => by rw [OpenClaim.pre_eq_preRow]; exact lifted os started H enc F)

theorem plain (f : FuncId) (fn : Func) (hf : Tryz.pinned.checked.prog.funcNamed "obelisk/obelisktop.TopSizes" = some f) (hfn : Tryz.pinned.checked.prog.funcs[f]? = some fn) :
    false = Tryz.pinned.checked.prog.looks [] ∧ ∀ (j : Nat) t, fn.params[j]? = some t → Tryz.pinned.checked.prog.wantsStandIn t = false := by
  obtain rfl : f = 4 := Option.some.inj ((show Tryz.prog.funcNamed "obelisk/obelisktop.TopSizes" = some 4 by kernel_rfl).symm.trans hf) |>.symm
  obtain rfl : fn = Tryz.f4 := (Option.some.inj (Tryz.func4.symm.trans hfn)).symm
  refine ⟨by kernel_rfl, fun j t ht => ?_⟩
  rw [Tryz.params4] at ht
  have hm : t ∈ ([3] : List TypeId) := by simpa using Array.mem_of_getElem? ht
  have hall : (([3] : List TypeId).all fun u => !Tryz.prog.wantsStandIn u) = true := by kernel_rfl
  exact (show Tryz.prog.wantsStandIn t = false by simpa using List.all_eq_true.1 hall t hm)

theorem proved : Rows.TopSizesCardSaid :=
  Claim7.holds_tied_plain_at .later [] _ _ _ _ said (fun _ h => by cases h) (by kernel_rfl) (fun _ h => by cases h) topSizes_row_tie rfl ⟨rfl, rfl⟩ (by kernel_rfl) rfl plain goes

#print axioms proved
end Go.Proofs.YtbkkfmjofmfijaaGreatDoor.LTopSizes
