/-
  The law TopConstants holds of the program: whatever the input, it returns true, and the input reads as before. No condition; the card ties the two tables that the row lists to the program's text.
-/
import Derived.Test.YtbkkfmjofmfijaaGreatDoorWt
import Derived.Test.YtbkkfmjofmfijaaGreatDoorFe
import Derived.Test.YtbkkfmjofmfijaaGreatDoorK3
set_option linter.unusedVariables false
set_option linter.unusedSimpArgs false
namespace Go.Proofs.YtbkkfmjofmfijaaGreatDoor.LTopConstants
open Go.ChangeShapes Go.WideShapes Go.ChangeAt Go.RowKit Go.AM
set_option linter.unusedVariables false

noncomputable def an (l : List Bool) : Bool := List.rec (motive := fun _ => Bool) true (fun p _ ih => Bool.rec (motive := fun _ => Bool) false ih p) l
theorem tU63 (y : Int) : (toU 63 y : Int) = y % 18446744073709551616 := by
  rw [show toU 63 y = toU (cOf .i64) y from rfl, toU_eq, BitVec.toNat_ofInt]
  have h : (0 : Int) < 2 ^ IntKind.i64.bits := Int.pow_pos (by decide)
  have := Int.emod_nonneg y (Int.ne_of_gt h)
  rw [Int.toNat_of_nonneg (by simpa using this)]; rfl
theorem tb (z : Int) : toU 63 (wrapC 63 (wrapC 8 z)) = (z % 256).toNat := by
  have h := tU63 (wrapC 63 (wrapC 8 z))
  rw [w8, w63_in (z % 256) (by omega) (by omega)] at h ⊢
  omega
theorem upb (A : Nat) (h : A < 16777216) : toU 63 (wrapC 63 (Int.mul (wrapC 63 (.ofNat A)) (.ofNat 256))) = A * 256 := by
  have e : wrapC 63 (.ofNat A) = (A : Int) := w63_in _ (by show (-9223372036854775808 : Int) ≤ (A : Int); omega) (by show (A : Int) < _; omega)
  have e2 : Int.mul (A : Int) (.ofNat 256) = (A : Int) * 256 := rfl
  have h := tU63 (wrapC 63 (Int.mul (wrapC 63 (.ofNat A)) (.ofNat 256)))
  rw [e, e2, w63_in _ (by omega) (by omega)] at h ⊢
  omega
theorem lorb (A b : Nat) (hb : b < 256) : Nat.lor (A * 256) b = A * 256 + b := by
  have h := Nat.shiftLeft_add_eq_or_of_lt (i := 8) (b := b) hb A
  rw [Nat.shiftLeft_eq] at h
  exact h.symm
noncomputable abbrev rd4 (m : Int) : Int := wrapC 63 (.ofNat (Nat.lor (toU 63 (wrapC 63 (Int.mul (wrapC 63 (.ofNat (Nat.lor (toU 63 (wrapC 63 (Int.mul (wrapC 63 (.ofNat (Nat.lor (toU 63 (wrapC 63 (Int.mul (wrapC 63 (.ofNat (Nat.lor 0 (toU 63 (wrapC 63 (wrapC 8 (shrI m 24))))))) (.ofNat 256)))) (toU 63 (wrapC 63 (wrapC 8 (shrI m 16))))))) (.ofNat 256)))) (toU 63 (wrapC 63 (wrapC 8 (shrI m 8))))))) (.ofNat 256)))) (toU 63 (wrapC 63 (wrapC 8 m)))))
theorem sh_e (m : Int) (n : Nat) : shrI m n = m / 2 ^ n := by rw [shr_ok, Int.fdiv_eq_ediv_of_nonneg _ (Int.pow_nonneg (by decide))]
theorem rd4_eq (m : Int) (h1 : -30000 < m) (h2 : m < 30000) : wrapC 31 (rd4 m) = m := by
  unfold rd4
  rw [tb, tb, tb, tb, sh_e, sh_e, sh_e]
  have hl : ∀ b, Nat.lor 0 b = b := fun b => Nat.zero_or b
  have u1 := upb (m / 2 ^ 24 % 256).toNat (by omega)
  have l1 := lorb (m / 2 ^ 24 % 256).toNat (m / 2 ^ 16 % 256).toNat (by omega)
  have u2 := upb ((m / 2 ^ 24 % 256).toNat * 256 + (m / 2 ^ 16 % 256).toNat) (by omega)
  have l2 := lorb ((m / 2 ^ 24 % 256).toNat * 256 + (m / 2 ^ 16 % 256).toNat) (m / 2 ^ 8 % 256).toNat (by omega)
  have u3 := upb (((m / 2 ^ 24 % 256).toNat * 256 + (m / 2 ^ 16 % 256).toNat) * 256 + (m / 2 ^ 8 % 256).toNat) (by omega)
  have l3 := lorb (((m / 2 ^ 24 % 256).toNat * 256 + (m / 2 ^ 16 % 256).toNat) * 256 + (m / 2 ^ 8 % 256).toNat) (m % 256).toNat (by omega)
  rw [hl, u1, l1, u2, l2, u3, l3]
  generalize hA : ((((m / 2 ^ 24 % 256).toNat * 256 + (m / 2 ^ 16 % 256).toNat) * 256 + (m / 2 ^ 8 % 256).toNat) * 256 + (m % 256).toNat) = A
  have hA2 : (A : Int) = m % 4294967296 := by omega
  have e : wrapC 63 (.ofNat A) = (A : Int) := w63_in _ (by show (-9223372036854775808 : Int) ≤ (A : Int); omega) (by show (A : Int) < _; omega)
  rw [e, w31, hA2]
  simp only [Int.bmod]; split <;> omega
theorem inB8 (z : Int) : inB (wrapC 8 z) = true := by
  rw [w8]
  obtain ⟨k, hk⟩ : ∃ k : Nat, z % 256 = (k : Int) := ⟨(z % 256).toNat, by omega⟩
  rw [hk]
  show Nat.blt k 256 = true
  rw [blt_iff]; omega
theorem beq_t (x : Nat) : Nat.beq x x = true := by rw [beq_iff]
theorem eqI_t (x : Int) : eqI x x = true := by rw [eqI_eq]; simp
theorem key (P : Nat) : Nat.beq (Nat.add 105 (Nat.shiftLeft P 8)) 435476710261 = false := by
  cases h : Nat.beq (Nat.add 105 (Nat.shiftLeft P 8)) 435476710261 with
  | false => rfl
  | true =>
    rw [beq_iff] at h
    have e : Nat.shiftLeft P 8 = P * 256 := Nat.shiftLeft_eq P 8
    have h : 105 + Nat.shiftLeft P 8 = 435476710261 := h
    rw [e] at h; omega
theorem c0q (a0 : Int) : isT (s3kc [.int 63 a0] (Ho (bitsL 355 239023827275519059667315039792758967614672001231574772925961042567809940718618624))) = an [(inB (wrapC 8 (shrI (Int.tmod a0 (.ofNat 30000)) 24))), (inB (wrapC 8 (shrI (Int.tmod a0 (.ofNat 30000)) 16))), (inB (wrapC 8 (shrI (Int.tmod a0 (.ofNat 30000)) 8))), (inB (wrapC 8 (Int.tmod a0 (.ofNat 30000)))), (inB (wrapC 8 (shrI (Int.tmod a0 (.ofNat 30000)) 24))), (inB (wrapC 8 (shrI (Int.tmod a0 (.ofNat 30000)) 16))), (inB (wrapC 8 (shrI (Int.tmod a0 (.ofNat 30000)) 8))), (inB (wrapC 8 (Int.tmod a0 (.ofNat 30000)))), (Nat.beq (Nat.add (Int.toNat (wrapC 8 (shrI (Int.tmod a0 (.ofNat 30000)) 24))) (Nat.mul 256 (Nat.add (Int.toNat (wrapC 8 (shrI (Int.tmod a0 (.ofNat 30000)) 16))) (Nat.mul 256 (Nat.add (Int.toNat (wrapC 8 (shrI (Int.tmod a0 (.ofNat 30000)) 8))) (Nat.mul 256 (Nat.add (Int.toNat (wrapC 8 (Int.tmod a0 (.ofNat 30000)))) 0))))))) (Nat.add (Int.toNat (wrapC 8 (shrI (Int.tmod a0 (.ofNat 30000)) 24))) (Nat.mul 256 (Nat.add (Int.toNat (wrapC 8 (shrI (Int.tmod a0 (.ofNat 30000)) 16))) (Nat.mul 256 (Nat.add (Int.toNat (wrapC 8 (shrI (Int.tmod a0 (.ofNat 30000)) 8))) (Nat.mul 256 (Nat.add (Int.toNat (wrapC 8 (Int.tmod a0 (.ofNat 30000)))) 0)))))))), (inB (wrapC 8 (shrI (Int.tmod a0 (.ofNat 30000)) 24))), (inB (wrapC 8 (shrI (Int.tmod a0 (.ofNat 30000)) 16))), (inB (wrapC 8 (shrI (Int.tmod a0 (.ofNat 30000)) 8))), (inB (wrapC 8 (Int.tmod a0 (.ofNat 30000)))), (Nat.beq (Nat.add (Int.toNat (wrapC 8 (shrI (Int.tmod a0 (.ofNat 30000)) 24))) (Nat.mul 256 (Nat.add (Int.toNat (wrapC 8 (shrI (Int.tmod a0 (.ofNat 30000)) 16))) (Nat.mul 256 (Nat.add (Int.toNat (wrapC 8 (shrI (Int.tmod a0 (.ofNat 30000)) 8))) (Nat.mul 256 (Nat.add (Int.toNat (wrapC 8 (Int.tmod a0 (.ofNat 30000)))) 0))))))) (Nat.add (Int.toNat (wrapC 8 (shrI (Int.tmod a0 (.ofNat 30000)) 24))) (Nat.mul 256 (Nat.add (Int.toNat (wrapC 8 (shrI (Int.tmod a0 (.ofNat 30000)) 16))) (Nat.mul 256 (Nat.add (Int.toNat (wrapC 8 (shrI (Int.tmod a0 (.ofNat 30000)) 8))) (Nat.mul 256 (Nat.add (Int.toNat (wrapC 8 (Int.tmod a0 (.ofNat 30000)))) 0)))))))), (inB (wrapC 8 (shrI (Int.tmod a0 (.ofNat 30000)) 24))), (inB (wrapC 8 (shrI (Int.tmod a0 (.ofNat 30000)) 16))), (inB (wrapC 8 (shrI (Int.tmod a0 (.ofNat 30000)) 8))), (inB (wrapC 8 (Int.tmod a0 (.ofNat 30000)))), (Nat.beq (Nat.add (Int.toNat (wrapC 8 (shrI (Int.tmod a0 (.ofNat 30000)) 24))) (Nat.mul 256 (Nat.add (Int.toNat (wrapC 8 (shrI (Int.tmod a0 (.ofNat 30000)) 16))) (Nat.mul 256 (Nat.add (Int.toNat (wrapC 8 (shrI (Int.tmod a0 (.ofNat 30000)) 8))) (Nat.mul 256 (Nat.add (Int.toNat (wrapC 8 (Int.tmod a0 (.ofNat 30000)))) 0))))))) (Nat.add (Int.toNat (wrapC 8 (shrI (Int.tmod a0 (.ofNat 30000)) 24))) (Nat.mul 256 (Nat.add (Int.toNat (wrapC 8 (shrI (Int.tmod a0 (.ofNat 30000)) 16))) (Nat.mul 256 (Nat.add (Int.toNat (wrapC 8 (shrI (Int.tmod a0 (.ofNat 30000)) 8))) (Nat.mul 256 (Nat.add (Int.toNat (wrapC 8 (Int.tmod a0 (.ofNat 30000)))) 0)))))))), (beqB (Nat.beq (Nat.add 105 (Nat.shiftLeft (Nat.add (Int.toNat (wrapC 8 (shrI (Int.tmod a0 (.ofNat 30000)) 24))) (Nat.mul 256 (Nat.add (Int.toNat (wrapC 8 (shrI (Int.tmod a0 (.ofNat 30000)) 16))) (Nat.mul 256 (Nat.add (Int.toNat (wrapC 8 (shrI (Int.tmod a0 (.ofNat 30000)) 8))) (Nat.mul 256 (Nat.add (Int.toNat (wrapC 8 (Int.tmod a0 (.ofNat 30000)))) 0))))))) 8)) 435476710261) false), (bAnd (eqI (wrapC 63 (wrapC 31 (rd4 (Int.tmod a0 (.ofNat 30000))))) (wrapC 63 (wrapC 31 (rd4 (Int.tmod a0 (.ofNat 30000)))))) true), (eqI (wrapC 63 (wrapC 31 (wrapC 63 (wrapC 31 (rd4 (Int.tmod a0 (.ofNat 30000))))))) (wrapC 63 (wrapC 31 (wrapC 63 (wrapC 31 (rd4 (Int.tmod a0 (.ofNat 30000)))))))), (eqI (wrapC 63 (wrapC 31 (wrapC 63 (wrapC 31 (wrapC 63 (Int.add (wrapC 63 (wrapC 31 (wrapC 63 (wrapC 31 (wrapC 63 (wrapC 31 (rd4 (Int.tmod a0 (.ofNat 30000))))))))) (.ofNat 1))))))) (wrapC 63 (wrapC 31 (wrapC 63 (wrapC 31 (wrapC 63 (Int.add (wrapC 63 (wrapC 31 (wrapC 63 (wrapC 31 (wrapC 63 (wrapC 31 (rd4 (Int.tmod a0 (.ofNat 30000))))))))) (.ofNat 1)))))))), (eqI (wrapC 63 (wrapC 31 (wrapC 63 (wrapC 31 (rd4 (Int.tmod a0 (.ofNat 30000))))))) (wrapC 63 (wrapC 31 (wrapC 63 (wrapC 31 (rd4 (Int.tmod a0 (.ofNat 30000)))))))), (eqI (wrapC 63 (wrapC 31 (wrapC 63 (Int.add (wrapC 63 (wrapC 31 (wrapC 63 (wrapC 31 (wrapC 63 (wrapC 31 (wrapC 63 (Int.add (wrapC 63 (wrapC 31 (wrapC 63 (wrapC 31 (wrapC 63 (wrapC 31 (rd4 (Int.tmod a0 (.ofNat 30000))))))))) (.ofNat 1))))))))) (wrapC 63 (wrapC 31 (wrapC 63 (wrapC 31 (wrapC 63 (wrapC 31 (rd4 (Int.tmod a0 (.ofNat 30000))))))))))))) (wrapC 63 (Int.add (wrapC 63 (Int.mul (.ofNat 2) (Int.tmod a0 (.ofNat 30000)))) (.ofNat 1)))), (eqI (wrapC 63 (wrapC 31 (wrapC 63 (wrapC 31 (wrapC 63 (Int.add (wrapC 63 (wrapC 31 (wrapC 63 (wrapC 31 (wrapC 63 (wrapC 31 (rd4 (Int.tmod a0 (.ofNat 30000))))))))) (.ofNat 1))))))) (wrapC 63 (wrapC 31 (wrapC 63 (wrapC 31 (wrapC 63 (Int.add (wrapC 63 (wrapC 31 (wrapC 63 (wrapC 31 (wrapC 63 (wrapC 31 (rd4 (Int.tmod a0 (.ofNat 30000))))))))) (.ofNat 1)))))))), (eqI (wrapC 63 (wrapC 31 (wrapC 63 (wrapC 31 (rd4 (Int.tmod a0 (.ofNat 30000))))))) (wrapC 63 (wrapC 31 (wrapC 63 (wrapC 31 (rd4 (Int.tmod a0 (.ofNat 30000)))))))), (eqI (wrapC 63 (wrapC 31 (wrapC 63 (Int.add (wrapC 63 (wrapC 31 (wrapC 63 (wrapC 31 (wrapC 63 (wrapC 31 (wrapC 63 (Int.add (wrapC 63 (wrapC 31 (wrapC 63 (wrapC 31 (wrapC 63 (wrapC 31 (rd4 (Int.tmod a0 (.ofNat 30000))))))))) (.ofNat 1))))))))) (wrapC 63 (wrapC 31 (wrapC 63 (wrapC 31 (wrapC 63 (wrapC 31 (rd4 (Int.tmod a0 (.ofNat 30000))))))))))))) (wrapC 63 (Int.add (wrapC 63 (Int.mul (.ofNat 2) (Int.tmod a0 (.ofNat 30000)))) (.ofNat 1))))] := by kernel_rfl
theorem c0 (a0 : Int) : isT (s3kc [.int 63 a0] (Ho (bitsL 355 239023827275519059667315039792758967614672001231574772925961042567809940718618624))) = true := by
  rw [c0q]
  have hm : -30000 < Int.tmod a0 (.ofNat 30000) ∧ Int.tmod a0 (.ofNat 30000) < 30000 := by
    have h : (Int.tmod a0 (.ofNat 30000)).natAbs < 30000 := by rw [Int.natAbs_tmod]; exact Nat.mod_lt _ (by decide)
    omega
  revert hm; generalize Int.tmod a0 (.ofNat 30000) = m; intro hm
  obtain ⟨h1, h2⟩ := hm
  rw [rd4_eq m h1 h2]
  have w1 : ∀ x : Int, -100000 < x → x < 100000 → wrapC 63 x = x := fun x _ _ => w63_in x (by omega) (by omega)
  have w2 : ∀ x : Int, -100000 < x → x < 100000 → wrapC 31 x = x := fun x _ _ => w31_in x (by omega) (by omega)
  have ea : ∀ x y : Int, Int.add x y = x + y := fun _ _ => rfl
  have em : Int.mul (.ofNat 2) m = 2 * m := rfl
  have e1 : (Int.ofNat 1 : Int) = 1 := rfl
  rw [em, e1]
  simp only [ea]
  have a1 := w1 m (by omega) (by omega)
  have a2 := w2 m (by omega) (by omega)
  have b1 := w1 (m + 1) (by omega) (by omega)
  have b2 := w2 (m + 1) (by omega) (by omega)
  have d1 := w1 (m + 1 + m) (by omega) (by omega)
  have d2 := w2 (m + 1 + m) (by omega) (by omega)
  have f1 := w1 (2 * m) (by omega) (by omega)
  have f2 := w1 (2 * m + 1) (by omega) (by omega)
  simp only [a1, a2, b1, b2, d1, d2, f1, f2]
  have hf : eqI (m + 1 + m) (2 * m + 1) = true := by rw [eqI_eq]; simp; omega
  rw [hf]
  simp only [inB8, beq_t, eqI_t, key]
  rfl
theorem walk (a0 : Int) (w0 : (Lit.int .i64 a0).wf = true) (w : World) (hsh : w.ShapedOpen Tryz.prog) : Calls Tryz.prog 3 #[.int .i64 a0] w fun e w' => e = .returned (.bool true) ∧ Kept w w' :=
  law_walko F3kc.1 _ (c0 a0) w (maxLen_J hsh) (.cons (vr_i64 _ a0) .nil)

set_option maxRecDepth 100000 in
theorem contract (H : Type) (enc : TypeId × Value → H) (W : World) (base : Nat) (args : Array Value) (ds gs : List (DataW H)) (before : List MemPlace)
    (hval : ∀ (j : Nat) t v, Tryz.f3.params[j]? = some t → args[j]? = some v → Value.okWide Tryz.prog W .any base t v)
    (hW : DataW.Whole enc Tryz.prog Tryz.f3.params.toList Rows.topConstantsSpec.vars false W args.toList ds gs before) (hsh : W.ShapedOpen Tryz.prog) :
    Calls Tryz.prog 3 args W fun e W' => ∃ v, e = .returned v ∧ Rows.topConstantsSpec.post enc Tryz.prog Tryz.f3 false true false false W args v W' := by
  have hW' := hW
  obtain ⟨p, q, hA0, hV, rfl, hfz, hnd⟩ := hW
  have hA : DataW.TrodAll enc Tryz.prog W 0 (fun _ => true) true Tryz.f3.params.toList args.toList ds p := hA0
  rw [Tryz.params3] at hA hval
  obtain ⟨v0, vs0, d0, ds0, p0, q0, hargs, rfl, rfl, h0, r0⟩ := trodAll_cons hA
  obtain ⟨rfl, rfl, rfl⟩ := trodAll_nil r0
  obtain rfl : args = #[v0] := by cases args; simp_all
  obtain ⟨rfl, rfl⟩ := trodVars_none hV
  obtain ⟨a0, rfl, rfl, rfl, w0⟩ := open_int Tryz.underlying3 (hval 0 3 v0 rfl rfl) h0
  clear hA0
  simp only [List.append_nil] at hW'
  refine (walk a0 w0 W hsh).mono fun e W' ⟨he, hg⟩ => ?_
  subst he
  exact ⟨_, rfl, AM.post_kept (pa := []) (pv := []) hW' (fun _ _ _ => (trodAll_cons_mk (shut_bool Tryz.underlying4 _) trodAll_mk0)) (fun sp hsp => (trodAll_cons_mk (shut_int Tryz.underlying3 w0) trodAll_mk0)) (fun _ _ => rfl) hg.1⟩

theorem met (os : Os) : laidMet Tryz.prog Rows.topConstantsRow.laid ((laidWorld os #[.int .i64 0]).forCall (fun _ _ => 0) ⟨#[], #[.int .i64 0], []⟩).memory :=
  laidMet_of_run3 12 (by kernel_rfl) (by kernel_rfl) (by kernel_rfl)
theorem reads (os : Os) {H : Type} (enc : TypeId × Value → H) : ∃ places, DataW.whole enc Tryz.prog ((laidWorld os #[.int .i64 0]).forCall (fun _ _ => 0) ⟨#[], #[.int .i64 0], []⟩).memory Tryz.f3.params.toList Rows.topConstantsSpec.vars false (#[.int .i64 0] : Array Value).toList 8 = some ([.lit (.int .i64 0)], [], places) :=
  ⟨[], by kernel_rfl⟩
set_option maxRecDepth 100000 in
theorem lifted (os : Os) (started : os.Started) (H : Type) (enc : TypeId × Value → H) (F : Stop.Interp) :
    ReturnsInHanded {} Tryz.checked os 3 .any ((OpenSpec.ofChange Rows.topConstantsSpec).preRow enc Tryz.prog Tryz.f3 Rows.topConstantsRow.domain false Rows.topConstantsRow.laid) (((OpenSpec.ofChange Rows.topConstantsSpec).at F).post enc Tryz.prog Tryz.f3 false true false false) := by
  obtain ⟨places, hx⟩ := reads os enc
  refine returnsInHanded_of_row (C := Tryz.checked) (s := OpenSpec.ofChange Rows.topConstantsSpec) own started (by kernel_rfl) Tryz.func3
    (witness_row_at (enc := enc) (C := Tryz.checked) false (laidWorld os #[.int .i64 0]) #[.int .i64 0] rfl (by kernel_rfl) (by kernel_rfl) (by kernel_rfl)
      (OpenSpec.preRow_of_cond 8 hx (by kernel_rfl) (fun k hk => by cases hk) (by kernel_rfl) (met os))) ?_
  intro W base args ds gs before hval hW _ _ _ _ hsh _
  exact contract H enc W base args ds gs before hval hW hsh

theorem said : Rows.TopConstantsSaid :=
  OpenClaim.holds_of_cond 3 Tryz.f3 rfl rfl rfl rfl rfl rfl rfl ⟨rfl, rfl, rfl, rfl, rfl⟩ rfl rfl rfl rfl rfl (by kernel_rfl) Tryz.func3 closed
    (of_decide_eq_true (by kernel_rfl)) (by unfold Func.isWrapper; first | (rw [if_pos (by decide +kernel)]; kernel_rfl) | (rw [if_neg (by decide +kernel)]; exact ⟨rfl, rfl⟩))
    (fun os started H enc _ F => by rw [OpenClaim.pre_eq_preRow]; exact lifted os started H enc F)

theorem plain (f : FuncId) (fn : Func) (hf : Tryz.pinned.checked.prog.funcNamed "obelisk/obelisktop.TopConstants" = some f) (hfn : Tryz.pinned.checked.prog.funcs[f]? = some fn) :
    false = Tryz.pinned.checked.prog.looks [] ∧ ∀ (j : Nat) t, fn.params[j]? = some t → Tryz.pinned.checked.prog.wantsStandIn t = false := by
  obtain rfl : f = 3 := Option.some.inj ((show Tryz.prog.funcNamed "obelisk/obelisktop.TopConstants" = some 3 by kernel_rfl).symm.trans hf) |>.symm
  obtain rfl : fn = Tryz.f3 := (Option.some.inj (Tryz.func3.symm.trans hfn)).symm
  refine ⟨by kernel_rfl, fun j t ht => ?_⟩
  rw [Tryz.params3] at ht
  have hm : t ∈ ([3] : List TypeId) := by simpa using Array.mem_of_getElem? ht
  have hall : (([3] : List TypeId).all fun u => !Tryz.prog.wantsStandIn u) = true := by kernel_rfl
  exact (show Tryz.prog.wantsStandIn t = false by simpa using List.all_eq_true.1 hall t hm)

theorem proved : Rows.TopConstantsCardSaid :=
  Claim7.holds_tied_plain_at .later [] _ _ _ _ said (fun _ h => by cases h) (by kernel_rfl) (fun _ h => by cases h) topConstants_row_tie rfl ⟨rfl, rfl⟩ (by kernel_rfl) rfl plain goes

#print axioms proved
end Go.Proofs.YtbkkfmjofmfijaaGreatDoor.LTopConstants
