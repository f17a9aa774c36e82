/-
  Row laws, part 3: reckoned by the abstract machine.
-/
import Derived.Test.YtnpfppddongbhaaDoorCards
import Derived.Test.YtnpfppddongbhaaDoorTie
import Derived.Test.YtnpfppddongbhaaDoorAm43
import Derived.Test.YtnpfppddongbhaaDoorAm31
import Derived.WalkKit
import Derived.ProofKit
import Derived.OpenShut
import Derived.Deep.DeepHandedRow
import Derived.Deep.DeepLaidRun
import Derived.Shelf.Vars
import Derived.Test.YtnpfppddongbhaaDoorNb2
section
namespace Go.Proofs.YtnpfppddongbhaaDoor
open Go.ChangeShapes Go.WideShapes Go.ChangeAt Go.RowKit Go.AM
set_option maxRecDepth 100000

theorem own : ownKnob Tryd.prog.godebug = none := by kernel_rfl
noncomputable def ranges : Array Value := #[.int .u8 128, .int .u8 191, .int .u8 160, .int .u8 191, .int .u8 128, .int .u8 159, .int .u8 144, .int .u8 191, .int .u8 128, .int .u8 143] ++ Array.replicate 22 (.int .u8 0)
noncomputable def firsts : Array Value := (Go.Pinned.utf8FirstZ.map fun (n : Nat) => Value.int .u8 (n : Int)).toArray
def row (cs : Array Value) : Obj → Obj
  | .cells _ t frozen => .cells cs t frozen
  | o => o
noncomputable def laidWorld (os : Os) (args : Array Value) : World :=
  { World.holding Tryd.prog os ⟨#[], args, []⟩ with heap := ((World.holding Tryd.prog os ⟨#[], args, []⟩).heap.modify 2 (row ranges)).modify 1 (row firsts) }
theorem maxLen_at : Tryd.prog.globalNamed "internal/bytealg.MaxLen" = some 0 := by kernel_rfl
theorem maxLen_J {W : World} (h : W.ShapedOpen Tryd.prog) : (b0 W (Tryd.prog.globalNamed "internal/bytealg.MaxLen")).J W := by
  intro g hg
  have hg : Tryd.prog.globalNamed "internal/bytealg.MaxLen" = some g := hg
  rw [maxLen_at] at hg
  obtain rfl := Option.some.inj hg
  obtain ⟨m, hm⟩ := Go.Proofs.cell_of_shapedOpen_int (t := 3) (zero := #[.int .i64 0]) (k := .i64) h (show 0 < Tryd.prog.globals.size from of_decide_eq_true (by kernel_rfl)) (by kernel_rfl) rfl (by kernel_rfl) (by kernel_rfl) Tryd.underlying3
  refine ⟨?_, m, hm⟩
  unfold World.cell? at hm
  show 0 < W.heap.size
  cases hr : W.heap[0]? with
  | none => simp [hr] at hm
  | some o => exact (Array.getElem?_eq_some_iff.1 hr).1
theorem laid_met (os : Os) : laidMet Tryd.prog Rows.poolWitnessRow.laid ((laidWorld os #[]).forCall (fun _ _ => 0) ⟨#[], #[], []⟩).memory :=
  laidMet_of_run3 12 (by kernel_rfl) (by kernel_rfl) (by kernel_rfl)
end Go.Proofs.YtnpfppddongbhaaDoor

end
section
namespace Go.Proofs.YtnpfppddongbhaaDoor
open Go Go.AM
set_option autoImplicit false
set_option linter.unusedSimpArgs false
set_option linter.unusedVariables false
/-! ### what the laws begin with, in any memory -/
abbrev tJs : List UInt8 := [106, 97, 118, 97, 47, 108, 97, 110, 103, 47, 83, 116, 114, 105, 110, 103]
abbrev tB1 : List UInt8 := 91 :: 91 :: 76 :: (tJs ++ [59])
abbrev tB2 : List UInt8 := [40, 73, 74, 91, 66, 41, 86]
theorem S_B1 : AV.str 20 339137050467292191589805048747422779071890479963 = S tB1 := by kernel_rfl
theorem S_B2 : AV.str 7 24252212973291816 = S tB2 := by kernel_rfl
theorem S_Js : AV.str 16 137483774941304901841256615957136564586 = S tJs := by kernel_rfl
theorem cls_Js : cls tJs = true := by kernel_rfl
theorem fld_B1 : fld tB1 = some ⟨91, tJs, 2, 76⟩ := by kernel_rfl
theorem md_B2 : md tB2 = some ([⟨73, [], 0, 0⟩, ⟨74, [], 0, 0⟩, ⟨91, [], 1, 66⟩], tyVoid) := by kernel_rfl
theorem t25h {h : Hp} (hw : Wf h) : ∃ h', s25 [] h = .ret (.bool true) h' ∧ To No h h' ∧ Wf h' := by
  obtain ⟨h1, e1, o1, w1⟩ := t26 (l := tB1) (by decide) hw
  have e1 : s26 [S tB1] h = .ret (.tup (.cons (tyV ⟨91, tJs, 2, 76⟩) (.cons (.bool true) .nil))) h1 := by rw [e1, fld_B1]; rfl
  obtain ⟨h2, m2, c2, o2, w2, n2⟩ := ty0_mk w1
  have m2' : ∀ k : AV → Hp → Res, mk h1 (.cons (.int 8 0) (.cons (.str 0 0) (.cons (.int 63 0) (.cons (.int 8 0) .nil)))) k = k (.ptr h1.nb 0) h2 := m2
  obtain ⟨h3, s3, c3, o3, w3, n3⟩ := c2.st w2 ⟨91, tJs, 2, 76⟩
  have s3 : ∀ k : Hp → Res, stN h2 4 (.ptr h1.nb 0) (tyV ⟨91, tJs, 2, 76⟩) k = k h3 := s3
  have o23 : To No h1 h3 := o2.fresh o3 (fun x e => by have : x = h1.nb := e; omega)
  rcases t32 (l := tB2) (by decide) w3 with ⟨em, -⟩ | ⟨p, v, h4, em, e4, g4, o4, w4⟩
  · rw [md_B2] at em; cases em
  rw [md_B2] at em
  obtain rfl := Option.some.inj em
  have e4 : s32 [S tB2] h3 = .ret (.tup (.cons v (.cons (tyV tyVoid) (.cons (.bool true) .nil)))) h4 := e4
  obtain ⟨h5, m5, c5, o5, w5, n5⟩ := ty0_mk w4
  have m5' : ∀ k : AV → Hp → Res, mk h4 (.cons (.int 8 0) (.cons (.str 0 0) (.cons (.int 63 0) (.cons (.int 8 0) .nil)))) k = k (.ptr h4.nb 0) h5 := m5
  obtain ⟨h6, s6', c6, o6, w6, n6⟩ := c5.st w5 tyVoid
  have s6' : ∀ k : Hp → Res, stN h5 4 (.ptr h4.nb 0) (tyV tyVoid) k = k h6 := s6'
  have nb4 := o4.nb
  have o46 : To (fun y => h4.nb ≤ y) h4 h6 := (o5.mono fun _ _ f => f.elim).trans (o6.mono fun y _ e => by have : y = h4.nb := e; omega)
  have c36 : Cel h6 h1.nb ⟨91, tJs, 2, 76⟩ := (c3.to o4 (fun f => f)).to o46 (fun e => by omega)
  have a0 : ∀ k : AV → Res, ld1 h6 (.ptr h1.nb (Nat.add 0 0)) k = k (.int 8 91) := fun k => c36.l0 k
  have a1 : ∀ k : AV → Res, ld1 h6 (.ptr h1.nb (Nat.add 0 1)) k = k (S tJs) := fun k => c36.l1 k
  have a2 : ∀ k : AV → Res, ld1 h6 (.ptr h1.nb (Nat.add 0 2)) k = k (.int 63 2) := fun k => c36.l2 k
  have a3 : ∀ k : AV → Res, ld1 h6 (.ptr h1.nb (Nat.add 0 3)) k = k (.int 8 76) := fun k => c36.l3 k
  have b0 : ∀ k : AV → Res, ld1 h6 (.ptr h4.nb (Nat.add 0 0)) k = k (.int 8 86) := fun k => c6.l0 k
  have a0' : ∀ k : AV → Res, ld1 h6 (.ptr h1.nb 0) k = k (.int 8 91) := a0
  have a1' : ∀ k : AV → Res, ld1 h6 (.ptr h1.nb 1) k = k (S tJs) := a1
  have a2' : ∀ k : AV → Res, ld1 h6 (.ptr h1.nb 2) k = k (.int 63 2) := a2
  have a3' : ∀ k : AV → Res, ld1 h6 (.ptr h1.nb 3) k = k (.int 8 76) := a3
  have b0' : ∀ k : AV → Res, ld1 h6 (.ptr h4.nb 0) k = k (.int 8 86) := b0
  have o46' : To No h4 h6 := o5.fresh o6 (fun x e => by have : x = h4.nb := e; omega)
  have g6 := g4.to o46' (fun _ _ _ f => f)
  have kv := fun k => g4.cK k
  have lv : ∀ k : AV → Res, lenL v k = k (.int 63 3) := fun k => g6.len k
  have gv : gsel (.bool true) true v = v := rfl
  obtain ⟨h7, e7, o7, w7⟩ := t34 (l := tB2) (by decide) w6
  have e7 : s34 [S tB2] h6 = .ret (.int 63 4) h7 := by
    rw [e7]
    have : argZ tB2 = 4 := by unfold argZ; rw [md_B2]; decide
    rw [this]
  have a4 := fun k => (c36.to o7 (fun f => f)).ld k
  obtain ⟨h8, e8, o8, w8⟩ := t31 (c := 76) (nm := tJs) (.inr ⟨rfl, cls_Js, by decide⟩) 2 (by decide) (by decide) w7
  have e8 : s31 [tyV ⟨91, tJs, 2, 76⟩] h7 = .ret (S tB1) h8 := e8
  have z : ∀ a : List UInt8, decide (a = a) = true := fun a => decide_eq_true rfl
  refine ⟨h8, ?_, ((((o1.trans o23).trans o4).trans o46').trans o7).trans o8, w8⟩
  simp only [↓s25, ↓S_B1, ↓e1, nth_z, nth_1, nth_2, ↓cK_ty, ↓m2, ↓m2', ↓s3, ↓S_B2, ↓e4, ↓kv, ↓m5, ↓m5', ↓s6', ↓cP_p, ↓a0, ↓a1, ↓a2, ↓a3, ↓b0, ↓a0', ↓a1', ↓a2', ↓a3', ↓b0', ↓S_Js, ↓eqS_S, z, ↓gv, ↓lv, ↓e7, ↓a4, ↓e8, ↓uc_c, ↓uz_n, ↓cI_i, ↓cB_b, cB_b, ↓cT_t, cT_t, nth_z, nth_1, cK_b, ↓cK_b, ↓cK_i, cK_i, ifB_t, ifB_f, ↓ap_e, sel_t, sel_f, gsel_tt, gsel_tf, gsel_ft, gsel_ff, gsel_u, gd_tt, gd_tf, gd_ft, gd_ff, gd_u, ↓jn_n, jn_n, jn_r, ↓jn_r, blk_n, blk_r, ↓cl_r, cl_r, ↓iAdd_i, ↓iSub_i, ↓iMul_i, ↓iAnd_i, ↓iOr_i, ↓iXor_i, ↓iNeg_i, iQuo_i, iRem_i, ↓iConv_i, iConv_i, ↓bNot_b, bNot_b, ↓eqN_i, ↓ltN_i, ↓eqB_b, bnot_e, Int.ofNat_eq_natCast, Int.cast_ofNat_Int, Int.reduceBEq, Int.reduceAdd, Int.reduceNeg, Int.reduceNegSucc, Int.reduceLT, Int.reduceLE, Int.reduceMul, Int.reduceTMod, Int.reduceSub, Int.reduceBNe, Bool.not_true, Bool.not_false, decide_true, decide_false, w63_in, w31_in, ne_eq, not_false_eq_true, Int.reduceEq, reduceCtorEq, ww3131, ww6363, ww3163, ww6331, ww3231, ww3263, ww6463, ww6364, sh31, sh63, sl63, m31, m63, n63, s5a, s5b, s6a, s6b, b31, b32, b63, c63, c64, d64, iShl_c, iShr_c, sr3, sr6, sr7]
end Go.Proofs.YtnpfppddongbhaaDoor
end

section
namespace Go.Proofs.YtnpfppddongbhaaDoor
open Go Go.AM
set_option autoImplicit false
set_option linter.unusedSimpArgs false
set_option linter.unusedVariables false
/-- A slice of types whose group is not the variable c0. -/
def GrTx (h : Hp) (N c0 : Nat) (v : AV) (ts : List Ty) : Prop :=
  (v = .nils ∧ ts = []) ∨ ∃ b B, v = .sl b 0 ts.length 4 none ∧ N ≤ b ∧ Rd h b B ∧ B.fr = true ∧ N ≤ B.g ∧ B.g ≠ c0 ∧ ts.length * 4 ≤ B.lim ∧ ∀ i (hi : i < (flat ts).length), B.at i = (flat ts)[i]
theorem GrTx.to {h h' : Hp} {N c0 : Nat} {v : AV} {ts : List Ty} {W : Nat → Prop} (hg : GrTx h N c0 v ts) (ht : To W h h') (hd : ∀ b, N ≤ b → b < h.nb → ¬ W b) : GrTx h' N c0 v ts := by
  rcases hg with e | ⟨b, B, e, h1, h2, h3, h4, h4x, h5, h6⟩
  · exact .inl e
  · exact .inr ⟨b, B, e, h1, h2.to ht (hd b h1 h2.lt) (fun _ => hd _ h4 (h2.grp h3).1), h3, h4, h4x, h5, h6⟩
theorem GrT.x {h h' : Hp} {N c0 : Nat} {v : AV} {ts : List Ty} (hg : GrT h N v ts) (ht : To (fun x => h.nb ≤ x) h h') (hc : h.nb ≤ c0) : GrTx h' N c0 v ts := by
  rcases hg with e | ⟨b, B, e, h1, h2, h3, h4, h5, h6⟩
  · exact .inl e
  · have l1 := h2.lt
    have l2 := (h2.grp h3).1
    exact .inr ⟨b, B, e, h1, h2.to ht (fun e => by omega) (fun _ e => by omega), h3, h4, by omega, h5, h6⟩
theorem apd_tx {h : Hp} {N c0 : Nat} {v : AV} {ts : List Ty} (hN : N ≤ h.nb) (hw : Wf h) (hv : GrTx h N c0 v ts) (hn : ts.length ≤ 100000) (t : Ty) :
    ∃ v' h1 h', (∀ k : AV → Hp → Res, mkS h 4 1 (avL (tyL t)) k = k (.sl h.nb 0 1 4 (some 1)) h1) ∧ (∀ k : AV → Hp → Res, apd h1 4 40 v (.sl h.nb 0 1 4 (some 1)) k = k v' h') ∧ GrT h' N v' (ts ++ [t]) ∧ To (fun b => N ≤ b ∧ b ≠ c0) h h' ∧ Wf h' := by
  obtain ⟨t0, l1, l2⟩ := lay_list (tyL t) .e 0 (tyL_one t)
  obtain ⟨o1, o2⟩ := nw_own hw (0 + 4) .nil t0
  have w1 : Wf (nw h (0 + 4) .nil t0) := o2.wf hw
  have m1 : ∀ k : AV → Hp → Res, mkS h 4 1 (avL (tyL t)) k = k (.sl h.nb 0 1 4 (some 1)) (nw h (0 + 4) .nil t0) := fun k => by
    have e : mkS h 4 1 (avL (tyL t)) k = lay (avL (tyL t)) .e 0 fun t m => ifB (Nat.beq m (Nat.mul 1 4)) (k (.sl h.nb 0 1 4 (some 1)) (nw h m .nil t)) .fail := rfl
    rw [e, l1]; rfl
  have hat0 : ∀ i (hi : i < (tyL t).length), (⟨true, h.nb, 0 + 4, .nil, t0⟩ : Blk).at (0 + i) = (tyL t)[i] := by
    intro i hi
    have hi4 : i < 4 := hi
    rw [at_in _ (show 0 + i < 0 + 4 by omega)]
    simp only [l2 (0 + i)]
    rw [dif_pos ⟨by omega, by omega⟩]
    simp
  have hv1 : GrTx (nw h (0 + 4) .nil t0) N c0 v ts := hv.to o2 (fun _ _ _ f => f)
  have nb1 : (nw h (0 + 4) .nil t0).nb = h.nb + 1 := rfl
  generalize hh1 : nw h (0 + 4) .nil t0 = h1 at *
  have src1 : ∀ k : Nat → AV → Res, src h1 4 (.sl h.nb 0 1 4 (some 1)) k = k 1 (avL (tyL t)) := fun k => by
    have e : src h1 4 (.sl h.nb 0 1 4 (some 1)) k = gb h1 h.nb fun B => rds B (tyL t).length 0 fun l => k 1 l := rfl
    rw [e, gb_rd o1.rd, rds_list (tyL t) 0 _ hat0 (fun v hv => one_unk (tyL_one _ v hv))]
  have t1 : To (fun b => N ≤ b ∧ b ≠ c0) h h1 := o2.mono fun _ _ f => f.elim
  rcases hv1 with ⟨rfl, rfl⟩ | ⟨b, B, rfl, g1, g2, g3, g4, g4x, g5, g6⟩
  · obtain ⟨p1, p2⟩ := nw_own w1 (0 + 4) .nil t0
    refine ⟨.sl h1.nb 0 1 4 none, h1, nw h1 (0 + 4) .nil t0, m1, fun k => ?_, .inr ⟨h1.nb, _, rfl, by omega, p1.rd, rfl, by show N ≤ h1.nb; omega, by show 1 * 4 ≤ 0 + 4; omega, fun i hi => ?_⟩, t1.trans (p2.mono fun _ _ f => f.elim), p2.wf w1⟩
    · unfold apd
      rw [src1]
      show grown h1 4 1 (avL (tyL t)) k = _
      have e : grown h1 4 1 (avL (tyL t)) k = lay (avL (tyL t)) .e 0 fun t m => ifB (Nat.beq m (Nat.mul 1 4)) (k (.sl h1.nb 0 1 4 none) (nw h1 m .nil t)) .fail := rfl
      rw [e, l1]; rfl
    · have e : flat ([] ++ [t]) = tyL t := by simp [flat]
      simp only [e] at hi ⊢
      have := hat0 i hi
      rw [show 0 + i = i from Nat.zero_add i] at this
      rw [← this]
      have hi4 : i < 4 := hi
      rw [at_in _ (show i < 0 + 4 by omega), at_in _ (show i < 0 + 4 by omega)]
  · have h4 : (tyL t).length = 4 := rfl
    obtain ⟨t, t1', t2⟩ : ∃ t', (∀ k : T AV → Nat → Res, lay (avL (tyL t)) B.cs (ts.length * 4) k = k t' (ts.length * 4 + 4)) ∧ ∀ j, t'.get j = if hh : ts.length * 4 ≤ j ∧ j < ts.length * 4 + 4 then some ((tyL t)[j - ts.length * 4]'(by omega)) else B.cs.get j := lay_list (tyL t) B.cs (ts.length * 4) (tyL_one t)
    rename_i tt
    generalize hold : ifN (h1.grp B.g).1 b B.lim (ts.length * 4) (h1.grp B.g).2 h1.nb = old
    have hle : old ≤ h1.nb := by
      have q := (g2.grp g3).2
      have hlt := g2.lt
      have e : ifN (h1.grp B.g).1 b B.lim (ts.length * 4) (h1.grp B.g).2 h1.nb = Bool.rec (motive := fun _ => Nat) h1.nb (Bool.rec (motive := fun _ => Nat) h1.nb (h1.grp B.g).2 (Nat.ble B.lim (ts.length * 4))) (Nat.beq (h1.grp B.g).1 b) := rfl
      rw [← hold, e, recB, recB]
      split
      · split
        · omega
        · exact Nat.le_refl _
      · exact Nat.le_refl _
    have hrun : ∀ k : AV → Hp → Res, apd h1 4 40 (.sl b 0 ts.length 4 none) (.sl h.nb 0 1 4 (some 1)) k = k (.sl h1.nb 0 (ts.length + 1) 4 none) ⟨Nat.succ h1.nb, h1.bs.set ⟨true, B.g, ts.length * 4 + 4, B.df, t⟩ h1.nb, h1.gs.set (h1.nb, old) B.g, h1.ms⟩ := fun k => by
      unfold apd
      rw [src1]
      show ifB (Nat.beq 4 4) (ifB (Nat.beq 1 0) _ (ifB (Nat.ble (Nat.mul (Nat.add ts.length 1) 40) 140737488355328) (ifB (Nat.ble (Nat.add ts.length 1) 9223372036854775807)
        (gb h1 b fun B => ifB B.fr (ifB (Nat.beq 0 0) (lay (avL (tyL tt)) B.cs (Nat.mul ts.length 4) fun t e => ifB (Nat.beq e (Nat.mul (Nat.add ts.length 1) 4)) (ifB (Nat.ble (Nat.mul ts.length 4) B.lim)
          (k (.sl h1.nb 0 (Nat.add ts.length 1) 4 none) ⟨Nat.succ h1.nb, h1.bs.set ⟨true, B.g, e, B.df, t⟩ h1.nb, h1.gs.set (h1.nb, ifN (h1.grp B.g).1 b B.lim (Nat.mul ts.length 4) (h1.grp B.g).2 h1.nb) B.g, h1.ms⟩) .fail) .fail) _) .fail) .fail) .fail)) .fail = _
      have e1 : Nat.ble (Nat.mul (Nat.add ts.length 1) 40) 140737488355328 = true := by rw [ble_iff]; show (ts.length + 1) * 40 ≤ _; omega
      have e2 : Nat.ble (Nat.add ts.length 1) 9223372036854775807 = true := by rw [ble_iff]; show ts.length + 1 ≤ _; omega
      rw [e1, e2]
      show (gb h1 b fun B => ifB B.fr (ifB (Nat.beq 0 0) (lay (avL (tyL tt)) B.cs (Nat.mul ts.length 4) fun t e => ifB (Nat.beq e (Nat.mul (Nat.add ts.length 1) 4)) (ifB (Nat.ble (Nat.mul ts.length 4) B.lim)
          (k (.sl h1.nb 0 (Nat.add ts.length 1) 4 none) ⟨Nat.succ h1.nb, h1.bs.set ⟨true, B.g, e, B.df, t⟩ h1.nb, h1.gs.set (h1.nb, ifN (h1.grp B.g).1 b B.lim (Nat.mul ts.length 4) (h1.grp B.g).2 h1.nb) B.g, h1.ms⟩) .fail) .fail) _) .fail) = _
      rw [gb_rd g2, g3, ifB_t]
      have e3 : Nat.mul ts.length 4 = ts.length * 4 := rfl
      show (lay (avL (tyL tt)) B.cs (Nat.mul ts.length 4) fun t e => ifB (Nat.beq e (Nat.mul (Nat.add ts.length 1) 4)) (ifB (Nat.ble (Nat.mul ts.length 4) B.lim)
          (k (.sl h1.nb 0 (Nat.add ts.length 1) 4 none) ⟨Nat.succ h1.nb, h1.bs.set ⟨true, B.g, e, B.df, t⟩ h1.nb, h1.gs.set (h1.nb, ifN (h1.grp B.g).1 b B.lim (Nat.mul ts.length 4) (h1.grp B.g).2 h1.nb) B.g, h1.ms⟩) .fail) .fail) = _
      have e4 : Nat.mul (Nat.add ts.length 1) 4 = ts.length * 4 + 4 := by show (ts.length + 1) * 4 = _; omega
      rw [e3, hold, e4, t1', (beq_iff _ _).2 rfl, (ble_iff _ _).2 g5]
      rfl
    have hget2 : ∀ x, (h1.bs.set ⟨true, B.g, ts.length * 4 + 4, B.df, t⟩ h1.nb).get x = if x = h1.nb then some ⟨true, B.g, ts.length * 4 + 4, B.df, t⟩ else h1.bs.get x := fun x => T.get_set _ _ _ _
    have hgs2 : ∀ x, (h1.gs.set (h1.nb, old) B.g).get x = if x = B.g then some (h1.nb, old) else h1.gs.get x := fun x => T.get_set _ _ _ _
    have hBg := g2.grp g3
    have tfin : To (fun b => N ≤ b ∧ b ≠ c0) h1 ⟨Nat.succ h1.nb, h1.bs.set ⟨true, B.g, ts.length * 4 + 4, B.df, t⟩ h1.nb, h1.gs.set (h1.nb, old) B.g, h1.ms⟩ := by
      refine ⟨Nat.le_succ _, fun x hx hn => ?_, fun x hx hn => ?_, fun hn g hg => ?_⟩
      · show (h1.bs.set _ h1.nb).get x = _
        rw [hget2, if_neg (by omega)]
      · show (h1.gs.set (h1.nb, old) B.g).get x = _
        rw [hgs2, if_neg (fun e => hn (by rw [e]; exact ⟨g4, g4x⟩))]
      · show (h1.gs.set (h1.nb, old) B.g).get g = none
        have hg : h1.nb + 1 ≤ g := hg
        rw [hgs2, if_neg (by omega)]
        exact hn g (by omega)
    refine ⟨_, h1, _, m1, hrun, .inr ⟨h1.nb, ⟨true, B.g, ts.length * 4 + 4, B.df, t⟩, by rw [List.length_append]; rfl, by omega, ⟨by show (h1.bs.set _ h1.nb).get h1.nb = _; rw [hget2, if_pos rfl], Nat.lt_succ_self _, fun _ => ⟨Nat.lt_succ_of_lt hBg.1, ?_⟩⟩, rfl, g4, by rw [List.length_append]; show (ts.length + 1) * 4 ≤ ts.length * 4 + 4; omega, fun i hi => ?_⟩, t1.trans tfin, tfin.wf w1⟩
    · show (Hp.grp ⟨_, _, h1.gs.set (h1.nb, old) B.g, _⟩ B.g).2 ≤ h1.nb
      simp only [Hp.grp, hgs2, if_pos]
      exact hle
    · simp only [flat_snoc] at hi ⊢
      have hfl := flat_len ts
      rw [List.length_append, h4] at hi
      rw [at_in _ (show i < ts.length * 4 + 4 by omega)]
      simp only [t2 i]
      by_cases c : ts.length * 4 ≤ i
      · rw [dif_pos ⟨c, by omega⟩, List.getElem_append_right (by omega)]
        simp only [hfl]
      · rw [dif_neg (by omega), List.getElem_append_left (by omega)]
        have := g6 i (by omega)
        rw [at_in B (by omega)] at this
        exact this
/-! ### descriptors that are put together -/
def Okt (t : Ty) (x : List UInt8) : Prop := ∃ c nm d, t = mkT c nm d ∧ x = List.replicate d 91 ++ txt c nm ∧ d ≤ 255 ∧ (Prim c nm ∨ Ref c nm) ∧ (59 : UInt8) ∉ nm ∧ nm.length ≤ 3
theorem upto_ap (a b : List UInt8) (h : (59 : UInt8) ∉ a) : upto (a ++ 59 :: b) = some a := by
  induction a with
  | nil => rfl
  | cons c a ih =>
    have h1 : ¬ c = 59 := fun e => h (by simp [e])
    rw [List.cons_append, upto, if_neg h1, ih fun e => h (by simp [e])]; rfl
theorem Okt.fr {t : Ty} {x : List UInt8} (h : Okt t x) (r : List UInt8) : fr (x ++ r) = some (t, x.length) := by
  obtain ⟨c, nm, d, rfl, rfl, hd, hc, hn, hl⟩ := h
  rcases hc with ⟨hp, rfl⟩ | ⟨rfl, hcl, hnl⟩
  · obtain ⟨n1, n2, n3, n4, hv⟩ := prims_ne hp
    have e : txt c [] = [c] := if_neg n1
    rw [e, show List.replicate d 91 ++ [c] ++ r = List.replicate d 91 ++ c :: r by simp, fr_n d c r n4, if_neg (by omega), if_pos hp]
    simp
  · have e : txt 76 nm = 76 :: nm ++ [59] := if_pos rfl
    rw [e, show List.replicate d 91 ++ (76 :: nm ++ [59]) ++ r = List.replicate d 91 ++ 76 :: (nm ++ 59 :: r) by simp, fr_n d 76 _ (by decide), if_neg (by omega), if_neg (by decide), if_pos rfl, upto_ap nm r hn]
    show (if cls nm = true then _ else none) = _
    rw [if_pos hcl]
    simp; omega
theorem Okt.len {t : Ty} {x : List UInt8} (h : Okt t x) : 0 < x.length ∧ x.length ≤ 300 := by
  obtain ⟨c, nm, d, rfl, rfl, hd, hc, hn, hl⟩ := h
  unfold txt
  split <;> simp <;> omega
theorem Okt.head {t : Ty} {x : List UInt8} (h : Okt t x) (r : List UInt8) : ¬ (x ++ r).take 1 = [41] := by
  obtain ⟨c, nm, d, rfl, rfl, hd, hc, hn, hl⟩ := h
  cases d with
  | succ d => rw [List.replicate_succ]; simp
  | zero =>
    rcases hc with ⟨hp, rfl⟩ | ⟨rfl, hcl, hnl⟩
    · obtain ⟨n1, n2, n3, n4, hv⟩ := prims_ne hp
      have e : txt c [] = [c] := if_neg n1
      rw [e]
      intro h
      have : c = 41 := by simpa using h
      subst this
      exact absurd hp (by decide)
    · have e : txt 76 nm = 76 :: nm ++ [59] := if_pos rfl
      rw [e]; simp
theorem Okt.fld {t : Ty} {x : List UInt8} (h : Okt t x) : fld x = some t := by
  have := h.fr []
  rw [List.append_nil] at this
  unfold YtnpfppddongbhaaDoor.fld
  rw [this]
  show (if x.length = x.length then some t else none) = some t
  rw [if_pos rfl]
theorem Okt.ne {t : Ty} {x : List UInt8} (h : Okt t x) : x ≠ [86] := by
  intro e
  subst e
  have := h.fr []
  have e2 : YtnpfppddongbhaaDoor.fr ([86] ++ []) = none := by
    have := fr_n 0 86 [] (by decide)
    exact this.trans (by rw [if_neg (by decide), if_neg (by decide), if_neg (by decide)])
  rw [e2] at this; cases this
inductive Cat : List Ty → List UInt8 → Prop
  | nil : Cat [] []
  | cons {t : Ty} {x : List UInt8} {ts : List Ty} {s : List UInt8} : Okt t x → Cat ts s → Cat (t :: ts) (x ++ s)
theorem Cat.snoc {ts : List Ty} {s : List UInt8} {t : Ty} {x : List UInt8} (h : Cat ts s) (ho : Okt t x) : Cat (ts ++ [t]) (s ++ x) := by
  induction h with
  | nil => simpa using Cat.cons ho .nil
  | cons h1 _ ih => rw [List.cons_append, List.append_assoc]; exact .cons h1 ih
theorem Cat.ml {ts : List Ty} {s : List UInt8} (h : Cat ts s) : ∀ (f : Nat) (r : List UInt8), s.length < f → r.take 1 = [41] → ml f (s ++ r) = some (ts, r) := by
  induction h with
  | nil =>
    intro f r hf hr
    obtain ⟨f, rfl⟩ : ∃ k, f = k + 1 := ⟨f - 1, by omega⟩
    unfold YtnpfppddongbhaaDoor.ml
    rw [List.nil_append, if_pos hr]
  | @cons t x ts s h1 _ ih =>
    intro f r hf hr
    obtain ⟨f, rfl⟩ : ∃ k, f = k + 1 := ⟨f - 1, by omega⟩
    have hl := h1.len
    rw [List.length_append] at hf
    unfold YtnpfppddongbhaaDoor.ml
    rw [List.append_assoc, if_neg (h1.head _), h1.fr]
    simp only [List.drop_left, ih f r (by omega) hr]
theorem Cat.md {ts : List Ty} {s : List UInt8} {t : Ty} {x : List UInt8} (h : Cat ts s) (ho : Okt t x) : md (40 :: s ++ [41] ++ x) = some (ts, t) := by
  unfold YtnpfppddongbhaaDoor.md
  rw [show (40 :: s ++ [41] ++ x : List UInt8) = 40 :: (s ++ 41 :: x) by simp, if_pos (show (40 :: (s ++ 41 :: x) : List UInt8).take 1 = [40] from rfl), show (40 :: (s ++ 41 :: x)).drop 1 = s ++ 41 :: x from rfl, h.ml _ (41 :: x) (by simp; omega) rfl]
  show (if (41 :: x : List UInt8) = [41, 86] then some (ts, tyVoid) else match YtnpfppddongbhaaDoor.fld ((41 :: x).drop 1) with | none => none | some t => some (ts, t)) = _
  rw [if_neg (fun e => ho.ne (List.cons.inj e).2), show (41 :: x).drop 1 = x from rfl, ho.fld]
theorem Cat.mdV {ts : List Ty} {s : List UInt8} (h : Cat ts s) : YtnpfppddongbhaaDoor.md (40 :: s ++ [41, 86]) = some (ts, tyVoid) := by
  unfold YtnpfppddongbhaaDoor.md
  rw [show (40 :: s ++ [41, 86] : List UInt8) = 40 :: (s ++ [41, 86]) by simp, if_pos (show (40 :: (s ++ [41, 86]) : List UInt8).take 1 = [40] from rfl), show (40 :: (s ++ [41, 86])).drop 1 = s ++ [41, 86] from rfl, h.ml _ [41, 86] (by simp; omega) rfl]
  show (if ([41, 86] : List UInt8) = [41, 86] then some (ts, tyVoid) else _) = _
  rw [if_pos rfl]
end Go.Proofs.YtnpfppddongbhaaDoor
end

section
namespace Go.Proofs.YtnpfppddongbhaaDoor
open Go Go.AM
set_option autoImplicit false
set_option linter.unusedSimpArgs false
set_option linter.unusedVariables false
def alc : Nat → UInt8
  | 0 => 73
  | 1 => 74
  | 2 => 66
  | 3 => 67
  | 4 => 83
  | 5 => 90
  | _ => 76
def aln : Nat → List UInt8
  | 0 => []
  | 1 => []
  | 2 => []
  | 3 => []
  | 4 => []
  | 5 => []
  | _ => [97, 47, 98]
def als : List Ty := [⟨73, [], 0, 0⟩, ⟨74, [], 0, 0⟩, ⟨66, [], 0, 0⟩, ⟨67, [], 0, 0⟩, ⟨83, [], 0, 0⟩, ⟨90, [], 0, 0⟩, ⟨76, [97, 47, 98], 0, 0⟩]
theorem als_get (k : Nat) (hk : k < 7) : als[k]'hk = ⟨alc k, aln k, 0, 0⟩ := by
  match k, hk with
  | 0, _ => rfl
  | 1, _ => rfl
  | 2, _ => rfl
  | 3, _ => rfl
  | 4, _ => rfl
  | 5, _ => rfl
  | 6, _ => rfl
theorem cls_ab : cls [97, 47, 98] = true := by kernel_rfl
theorem okt (k d : Nat) (hk : k < 7) (hd : d ≤ 255) : Okt (mkT (alc k) (aln k) d) (List.replicate d 91 ++ txt (alc k) (aln k)) := by
  refine ⟨alc k, aln k, d, rfl, rfl, hd, ?_, ?_, ?_⟩
  · match k, hk with
    | 0, _ => exact .inl ⟨by decide, rfl⟩
    | 1, _ => exact .inl ⟨by decide, rfl⟩
    | 2, _ => exact .inl ⟨by decide, rfl⟩
    | 3, _ => exact .inl ⟨by decide, rfl⟩
    | 4, _ => exact .inl ⟨by decide, rfl⟩
    | 5, _ => exact .inl ⟨by decide, rfl⟩
    | 6, _ => exact .inr ⟨rfl, cls_ab, by decide⟩
  · match k, hk with
    | 0, _ => decide
    | 1, _ => decide
    | 2, _ => decide
    | 3, _ => decide
    | 4, _ => decide
    | 5, _ => decide
    | 6, _ => decide
  · match k, hk with
    | 0, _ => decide
    | 1, _ => decide
    | 2, _ => decide
    | 3, _ => decide
    | 4, _ => decide
    | 5, _ => decide
    | 6, _ => decide
/-- The seven types, laid. -/
def AlsT (h : Hp) (b : Nat) : Prop := ∃ B, Own h b B ∧ ∀ i (hi : i < (flat als).length), B.at i = (flat als)[i]
theorem AlsT.to {h h' : Hp} {b : Nat} {W : Nat → Prop} (ha : AlsT h b) (ht : To W h h') (hw : ¬ W b) : AlsT h' b := by
  obtain ⟨B, o, r⟩ := ha
  exact ⟨B, o.to ht hw, r⟩
theorem AlsT.ix {h : Hp} {b : Nat} (ha : AlsT h b) (k : Nat) (hk : k < 7) (kk : AV → Res) : (ixA 4 (.sl b 0 7 4 (some 7)) (.int 63 (k : Int)) fun a => ldN h 4 a kk) = kk (tyV ⟨alc k, aln k, 0, 0⟩) := by
  obtain ⟨B, o, r⟩ := ha
  have e : (ixA 4 (.sl b 0 7 4 (some 7)) (.int 63 (k : Int)) fun a => ldN h 4 a kk) = ifB (Nat.blt k 7) (ifB (Nat.beq 4 4) (ldN h 4 (.ptr b (Nat.add 0 (Nat.mul k 4))) kk) .fail) .fail := rfl
  rw [e, (blt_iff _ _).2 hk]
  have e2 : Nat.add 0 (Nat.mul k 4) = k * 4 := by show 0 + k * 4 = k * 4; omega
  show ldN h 4 (.ptr b (Nat.add 0 (Nat.mul k 4))) kk = _
  rw [e2, ← als_get k hk]
  exact ldN_rd (l := tyL (als[k]'hk)) o.rd (fun j hj => by
    have hj : j < 4 := hj
    have hk' : k < als.length := hk
    rw [r (k * 4 + j) (by rw [flat_len]; show k * 4 + j < 7 * 4; omega), flat_get als k j hk hj]) (fun v hv => one_unk (tyL_one _ v hv)) kk
theorem mkS_als {h : Hp} (hw : Wf h) : ∃ h', (∀ k : AV → Hp → Res, mkS h 4 7 (avL (flat als)) k = k (.sl h.nb 0 7 4 (some 7)) h') ∧ AlsT h' h.nb ∧ To No h h' ∧ Wf h' ∧ h'.nb = h.nb + 1 := by
  have hone : ∀ v ∈ flat als, one v = true := by
    intro v hv
    obtain ⟨t, -, ht⟩ := List.mem_flatMap.1 hv
    exact tyL_one t v ht
  obtain ⟨t, e1, e2⟩ := lay_list (flat als) .e 0 hone
  obtain ⟨o1, o2⟩ := nw_own hw (0 + (flat als).length) .nil t
  refine ⟨nw h (0 + (flat als).length) .nil t, fun k => ?_, ⟨_, o1, fun i hi => ?_⟩, o2, o2.wf hw, rfl⟩
  · have e : mkS h 4 7 (avL (flat als)) k = lay (avL (flat als)) .e 0 fun t j => ifB (Nat.beq j (Nat.mul 7 4)) (k (.sl h.nb 0 7 4 (some 7)) (nw h j .nil t)) .fail := rfl
    rw [e, e1]; rfl
  · rw [at_in _ (show i < 0 + (flat als).length by omega)]
    simp only [e2 i]
    rw [dif_pos ⟨by omega, by omega⟩]
    simp
theorem ixp_sl {h : Hp} {P : Nat → Prop} {v : AV} {l : List AV} (hs : Sl h P v l) (i : Nat) (hi : i < l.length) : ∃ b o, (∀ k : AV → Res, ixA 1 v (.int 63 (i : Int)) k = k (.ptr b o)) ∧ (∀ k : AV → Res, ld1 h (.ptr b o) k = k l[i]) := by
  rcases hs.2 with ⟨-, rfl⟩ | ⟨-, rfl⟩ | ⟨b, o, cc, B, rfl, h3, h4, h5, hc, h6⟩
  · simp at hi
  · simp at hi
  · refine ⟨b, o + i, fun k => ?_, fun k => ?_⟩
    · have e : ixA 1 (.sl b o l.length 1 cc) (.int 63 (i : Int)) k = ifB (Nat.blt i l.length) (ifB (Nat.beq 1 1) (k (.ptr b (Nat.add o (Nat.mul i 1)))) .fail) .fail := rfl
      rw [e, (blt_iff _ _).2 hi]
      have e2 : Nat.add o (Nat.mul i 1) = o + i := by show o + i * 1 = o + i; omega
      show k (.ptr b (Nat.add o (Nat.mul i 1))) = _
      rw [e2]
    · rw [ld1_rd h4 (h6 i hi)]
      exact cK_one (hs.1 _ (List.getElem_mem hi)) k
theorem k7 (x : Int) : ∃ k : Nat, k < 7 ∧ wrapC 63 (x.tmod 7 + 7) = x.tmod 7 + 7 ∧ (x.tmod 7 + 7).tmod 7 = (k : Int) := by
  have h1 := Int.tmod_lt_of_pos x (show (0 : Int) < 7 by decide)
  have h2 := Int.lt_tmod_of_pos x (show (0 : Int) < 7 by decide)
  have h3 : (x.tmod 7 + 7).tmod 7 = (x.tmod 7 + 7) % 7 := Int.tmod_eq_emod_of_nonneg (by omega)
  exact ⟨((x.tmod 7 + 7) % 7).toNat, by omega, w63_in _ (by omega) (by omega), by rw [h3]; omega⟩
theorem rem7 (x : Int) (k : AV → Res) : iRem (.int 63 x) (.int 63 7) k = k (.int 63 (x.tmod 7)) := iRem_i (k := k) (c := 63) (m := x) (n := 7) (by decide)
theorem sumw_snoc (ts : List Ty) (t : Ty) : sumw (ts ++ [t]) = sumw ts + wd t.k := by
  induction ts with
  | nil => simp [sumw]
  | cons a ts ih => rw [List.cons_append, sumw, ih, sumw]; omega
theorem sumw_le (ts : List Ty) : sumw ts ≤ 2 * ts.length := by
  induction ts with
  | nil => simp [sumw]
  | cons a ts ih => have := wd_le a.k; rw [sumw, List.length_cons]; omega
theorem after9 {h g : Hp} {N : Nat} {v : AV} {ts : List Ty} {t : Ty} {x : List UInt8} (hN : N ≤ h.nb) (hw : Wf g) (oo : To (fun y => h.nb ≤ y) h g) (hg : GrT h N v ts) (hc : Cel g h.nb t) (hx : Okt t x) (hn : ts.length ≤ 100) :
    ∃ v' h1 h2 h3 h4, (∀ k : AV → Res, ldN g 4 (.ptr h.nb 0) k = k (tyV t)) ∧ (∀ k : AV → Hp → Res, mkS g 4 1 (avL (tyL t)) k = k (.sl g.nb 0 1 4 (some 1)) h1) ∧ (∀ k : AV → Hp → Res, apd h1 4 40 v (.sl g.nb 0 1 4 (some 1)) k = k v' h2) ∧
      (∀ k : AV → Res, ldN h2 4 (.ptr h.nb 0) k = k (tyV t)) ∧ s31 [tyV t] h2 = .ret (S x) h3 ∧ (∀ k : AV → Res, ldN h3 4 (.ptr h.nb 0) k = k (tyV t)) ∧ s29 [tyV t] h3 = .ret (.int 63 (wd t.k : Int)) h4 ∧ GrT h4 N v' (ts ++ [t]) ∧ To (fun y => N ≤ y) g h4 ∧ Wf h4 := by
  have nbg := oo.nb
  obtain ⟨v', h1, h2, a1, a2, a3, a4, a5⟩ := apd_tx (N := N) (c0 := h.nb) (by omega) hw (hg.x oo (Nat.le_refl _)) (by omega) t
  have c2 : Cel h2 h.nb t := hc.to a4 (fun e => e.2 rfl)
  obtain ⟨c, nm, d, rfl, rfl, hd, hcc, hnn, hl⟩ := hx
  obtain ⟨h3, b1, b2, b3⟩ := t31 hcc d hd (by omega) a5
  obtain ⟨h4, d1, d2, d3⟩ := t29 (mkT c nm d) b3
  exact ⟨v', h1, h2, h3, h4, fun k => hc.ld k, a1, a2, fun k => c2.ld k, b1, fun k => (c2.to b2 (fun f => f)).ld k, d1, (a3.to b2 (fun _ _ _ f => f)).to d2 (fun _ _ _ f => f), ((a4.mono fun y _ e => e.1).trans (b2.mono fun _ _ f => f.elim)).trans (d2.mono fun _ _ f => f.elim), d3⟩
theorem set9 {h : Hp} {b : Nat} {c : UInt8} {nm : List UInt8} (hw : Wf h) (h2 : Cel h b ⟨c, nm, 0, 0⟩) (d : Nat) :
    ∃ g1 g2 g3, (∀ k : Hp → Res, st1 h (.ptr b (Nat.add 0 2)) (.int 63 (d : Int)) k = k g1) ∧ (∀ k : Hp → Res, st1 g1 (.ptr b (Nat.add 0 3)) (.int 8 (c.toNat : Int)) k = k g2) ∧ (∀ k : Hp → Res, st1 g2 (.ptr b (Nat.add 0 0)) (.int 8 91) k = k g3) ∧ Cel g3 b ⟨91, nm, d, c⟩ ∧ To (At b) h g3 ∧ Wf g3 := by
  obtain ⟨g1, a1, a2, a3, a4, -⟩ := h2.s2 hw d
  obtain ⟨g2, d1, d2, d3, d4, -⟩ := a2.s3 a4 c
  obtain ⟨g3, e1, e2, e3, e4, -⟩ := d2.s0 d4 91
  exact ⟨g1, g2, g3, a1, d1, fun k => e1 k, e2, (a3.trans d3).trans e3, e4⟩
def Is (l : List Int) : List AV := l.map fun n => AV.int 63 n
theorem Is_len (l : List Int) : (Is l).length = l.length := by simp [Is]
theorem Is_get (l : List Int) (i : Nat) (hi : i < l.length) : (Is l)[i]'(by rw [Is_len]; exact hi) = .int 63 l[i] := by simp [Is]
end Go.Proofs.YtnpfppddongbhaaDoor
end

section
namespace Go.Proofs.YtnpfppddongbhaaDoor
open Go Go.AM
set_option autoImplicit false
set_option linter.unusedSimpArgs false
set_option linter.unusedVariables false
theorem step9 {K D : List Int} {N b19 : Nat} {P : Nat → Prop} {v0 v2 v4 v6 v : AV} {ts : List Ty} {s : List UInt8} {i : Nat} {h : Hp} (hP : ∀ b, P b → b < N) (hb : b19 < N)
    (hi : i < K.length) (hi2 : i < 20) (hts : ts.length = i) (hs : s.length ≤ 300 * i) (hN : N ≤ h.nb) (hw : Wf h) (hg : GrT h N v ts) (ha : AlsT h b19) (h0 : Sl h P v0 (Is K)) (h2 : Sl h P v2 (Is D)) :
    ∃ t x v' h', Okt t x ∧ L9n0 [v0, v2, v4, v6, .sl b19 0 7 4 (some 7), S (40 :: s), v, .int 63 (sumw ts : Int), .int 63 (i : Int)] h = .norm [v0, v2, v4, v6, .sl b19 0 7 4 (some 7), S (40 :: (s ++ x)), v', .int 63 (sumw (ts ++ [t]) : Int), .int 63 ((i + 1 : Nat) : Int)] h' ∧ GrT h' N v' (ts ++ [t]) ∧ To (fun y => N ≤ y) h h' ∧ Wf h' := by
  have q : (i : Int) < (K.length : Int) := by omega
  have q20 : (i : Int) < 20 := by omega
  have ln0 := fun k => lenL_sl h0 k
  rw [Is_len] at ln0
  have gt : ∀ x : Int, gsel (.bool true) true (.int 63 x) = .int 63 x := fun x => rfl
  have gv2 : gsel (.bool true) true v2 = v2 := rfl
  have iv := fun k => ix_sl h0 (c := 63) i (by rw [Is_len]; exact hi) k
  rw [Is_get K i hi] at iv
  obtain ⟨k, hk, a1, hk2⟩ := k7 K[i]
  have r1 := fun kk => rem7 K[i] kk
  have r2 : ∀ kk : AV → Res, iRem (.int 63 (K[i].tmod 7 + 7)) (.int 63 7) kk = kk (.int 63 (k : Int)) := fun kk => by rw [← hk2]; exact rem7 _ kk
  have x2 := fun kk => ha.ix k hk kk
  have x2' : ∀ kk : AV → Res, (ixA 4 (.sl b19 0 7 4 (some 7)) (.int 63 ((K[i].tmod 7 + 7).tmod 7)) fun a => ldN h 4 a kk) = kk (tyV ⟨alc k, aln k, 0, 0⟩) := fun kk => by rw [hk2]; exact x2 kk
  obtain ⟨h1, m1, c1, o1, w1, n1⟩ := ty0_mk hw
  have m1' : ∀ k : AV → Hp → Res, mk h (.cons (.int 8 0) (.cons (.str 0 0) (.cons (.int 63 0) (.cons (.int 8 0) .nil)))) k = k (.ptr h.nb 0) h1 := m1
  obtain ⟨g, s1, c2, o2, w2, n2⟩ := c1.st w1 ⟨alc k, aln k, 0, 0⟩
  have s1 : ∀ kk : Hp → Res, stN h1 4 (.ptr h.nb 0) (tyV ⟨alc k, aln k, 0, 0⟩) kk = kk g := s1
  have oo : To (fun y => h.nb ≤ y) h g := (o1.mono fun _ _ f => f.elim).trans (o2.mono fun y _ e => by have : y = h.nb := e; omega)
  have oN : To (fun y => N ≤ y) h g := oo.mono fun y _ e => by omega
  have h2g : Sl g P v2 (Is D) := h2.to oN (fun b hb e => by have := hP b hb; omega)
  have ln2 := fun k => lenL_sl h2g k
  rw [Is_len] at ln2
  have hsw := sumw_le ts
  have fin : ∀ (d : Nat) (g' : Hp), d ≤ 255 → To (fun y => h.nb ≤ y) h g' → Wf g' → Cel g' h.nb (mkT (alc k) (aln k) d) →
      (∀ (x : List UInt8) (v' : AV) (h4 : Hp) (kk : Res), True) → ∃ t x v' h1' h2' h3' h4', Okt t x ∧ t = mkT (alc k) (aln k) d ∧ (∀ k : AV → Res, ldN g' 4 (.ptr h.nb 0) k = k (tyV t)) ∧ (∀ k : AV → Hp → Res, mkS g' 4 1 (avL (tyL t)) k = k (.sl g'.nb 0 1 4 (some 1)) h1') ∧ (∀ k : AV → Hp → Res, apd h1' 4 40 v (.sl g'.nb 0 1 4 (some 1)) k = k v' h2') ∧
        (∀ k : AV → Res, ldN h2' 4 (.ptr h.nb 0) k = k (tyV t)) ∧ s31 [tyV t] h2' = .ret (S x) h3' ∧ (∀ k : AV → Res, ldN h3' 4 (.ptr h.nb 0) k = k (tyV t)) ∧ s29 [tyV t] h3' = .ret (.int 63 (wd t.k : Int)) h4' ∧ (∀ k : AV → Res, sCat (S (40 :: s)) (S x) k = k (S (40 :: (s ++ x)))) ∧ wrapC 63 ((sumw ts : Int) + (wd t.k : Int)) = (sumw (ts ++ [t]) : Int) ∧ GrT h4' N v' (ts ++ [t]) ∧ To (fun y => N ≤ y) h h4' ∧ Wf h4' := by
    intro d g' hd og wg cg _
    have hx := okt k d hk hd
    obtain ⟨v', h1', h2', h3', h4', f1, f2, f3, f4, f5, f6, f7, f8, f9, f10⟩ := after9 hN wg og hg cg hx (by omega)
    have hl := hx.len
    have hwd := wd_le (mkT (alc k) (aln k) d).k
    refine ⟨_, _, v', h1', h2', h3', h4', hx, rfl, f1, f2, f3, f4, f5, f6, f7, fun kk => ?_, ?_, f8, (og.mono fun y _ e => by omega).trans f9, f10⟩
    · rw [cat_S _ _ (by rw [List.length_cons]; omega)]; rfl
    · rw [sumw_snoc, w63_in _ (by omega) (by omega)]; omega
  have e0T : mkT (alc k) (aln k) 0 = ⟨alc k, aln k, 0, 0⟩ := if_neg (by omega)
  by_cases cA : i < D.length
  rotate_left
  · have qA : ¬ (i : Int) < (D.length : Int) := by omega
    obtain ⟨t, x, v', h1', h2', h3', h4', hx, et, f1, f2, f3, f4, f5, f6, f7, fc, fw, f8, f9, f10⟩ := fin 0 g (by omega) oo w2 (by rw [e0T]; exact c2) (fun _ _ _ _ => trivial)
    exact ⟨t, x, v', h4', hx, by simp only [↓L9n0, ↓ln0, q, ↓gt, q20, ↓iv, ↓r1, a1, ↓r2, hk2, ↓x2, ↓x2', ↓m1, ↓m1', ↓s1, ↓ln2, qA, ↓f1, ↓bldT, ↓f2, ↓f3, ↓f4, ↓f5, ↓fc, ↓f6, ↓f7, fw, s1n i (by omega), ↓uc_c, ↓uz_n, ↓cI_i, ↓cB_b, cB_b, ↓cT_t, cT_t, nth_z, nth_1, cK_b, ↓cK_b, ↓cK_i, cK_i, ifB_t, ifB_f, ↓ap_e, sel_t, sel_f, gsel_tt, gsel_tf, gsel_ft, gsel_ff, gsel_u, gd_tt, gd_tf, gd_ft, gd_ff, gd_u, ↓jn_n, jn_n, jn_r, ↓jn_r, blk_n, blk_r, ↓cl_r, cl_r, ↓iAdd_i, ↓iSub_i, ↓iMul_i, ↓iAnd_i, ↓iOr_i, ↓iXor_i, ↓iNeg_i, iQuo_i, iRem_i, ↓iConv_i, iConv_i, ↓bNot_b, bNot_b, ↓eqN_i, ↓ltN_i, ↓eqB_b, bnot_e, Int.ofNat_eq_natCast, Int.cast_ofNat_Int, Int.reduceBEq, Int.reduceAdd, Int.reduceNeg, Int.reduceNegSucc, Int.reduceLT, Int.reduceLE, Int.reduceMul, Int.reduceTMod, Int.reduceSub, Int.reduceBNe, Bool.not_true, Bool.not_false, decide_true, decide_false, w63_in, w31_in, ne_eq, not_false_eq_true, Int.reduceEq, reduceCtorEq, ww3131, ww6363, ww3163, ww6331, ww3231, ww3263, ww6463, ww6364, sh31, sh63, sl63, m31, m63, n63, s5a, s5b, s6a, s6b, b31, b32, b63, c63, c64, d64, iShl_c, iShr_c, sr3, sr6, sr7], f8, f9, f10⟩
  have qA : (i : Int) < (D.length : Int) := by omega
  obtain ⟨pb, po, y1, y2⟩ := ixp_sl h2g i (by rw [Is_len]; exact cA)
  rw [Is_get D i cA] at y2
  by_cases cB : 0 < D[i]
  rotate_left
  · obtain ⟨t, x, v', h1', h2', h3', h4', hx, et, f1, f2, f3, f4, f5, f6, f7, fc, fw, f8, f9, f10⟩ := fin 0 g (by omega) oo w2 (by rw [e0T]; exact c2) (fun _ _ _ _ => trivial)
    exact ⟨t, x, v', h4', hx, by simp only [↓L9n0, ↓ln0, q, ↓gt, q20, ↓iv, ↓r1, a1, ↓r2, hk2, ↓x2, ↓x2', ↓m1, ↓m1', ↓s1, ↓ln2, qA, ↓gv2, ↓y1, ↓y2, cB, ↓f1, ↓bldT, ↓f2, ↓f3, ↓f4, ↓f5, ↓fc, ↓f6, ↓f7, fw, s1n i (by omega), ↓uc_c, ↓uz_n, ↓cI_i, ↓cB_b, cB_b, ↓cT_t, cT_t, nth_z, nth_1, cK_b, ↓cK_b, ↓cK_i, cK_i, ifB_t, ifB_f, ↓ap_e, sel_t, sel_f, gsel_tt, gsel_tf, gsel_ft, gsel_ff, gsel_u, gd_tt, gd_tf, gd_ft, gd_ff, gd_u, ↓jn_n, jn_n, jn_r, ↓jn_r, blk_n, blk_r, ↓cl_r, cl_r, ↓iAdd_i, ↓iSub_i, ↓iMul_i, ↓iAnd_i, ↓iOr_i, ↓iXor_i, ↓iNeg_i, iQuo_i, iRem_i, ↓iConv_i, iConv_i, ↓bNot_b, bNot_b, ↓eqN_i, ↓ltN_i, ↓eqB_b, bnot_e, Int.ofNat_eq_natCast, Int.cast_ofNat_Int, Int.reduceBEq, Int.reduceAdd, Int.reduceNeg, Int.reduceNegSucc, Int.reduceLT, Int.reduceLE, Int.reduceMul, Int.reduceTMod, Int.reduceSub, Int.reduceBNe, Bool.not_true, Bool.not_false, decide_true, decide_false, w63_in, w31_in, ne_eq, not_false_eq_true, Int.reduceEq, reduceCtorEq, ww3131, ww6363, ww3163, ww6331, ww3231, ww3263, ww6463, ww6364, sh31, sh63, sl63, m31, m63, n63, s5a, s5b, s6a, s6b, b31, b32, b63, c63, c64, d64, iShl_c, iShr_c, sr3, sr6, sr7], f8, f9, f10⟩
  by_cases cC : D[i] < 256
  rotate_left
  · obtain ⟨t, x, v', h1', h2', h3', h4', hx, et, f1, f2, f3, f4, f5, f6, f7, fc, fw, f8, f9, f10⟩ := fin 0 g (by omega) oo w2 (by rw [e0T]; exact c2) (fun _ _ _ _ => trivial)
    exact ⟨t, x, v', h4', hx, by simp only [↓L9n0, ↓ln0, q, ↓gt, q20, ↓iv, ↓r1, a1, ↓r2, hk2, ↓x2, ↓x2', ↓m1, ↓m1', ↓s1, ↓ln2, qA, ↓gv2, ↓y1, ↓y2, cB, cC, ↓f1, ↓bldT, ↓f2, ↓f3, ↓f4, ↓f5, ↓fc, ↓f6, ↓f7, fw, s1n i (by omega), ↓uc_c, ↓uz_n, ↓cI_i, ↓cB_b, cB_b, ↓cT_t, cT_t, nth_z, nth_1, cK_b, ↓cK_b, ↓cK_i, cK_i, ifB_t, ifB_f, ↓ap_e, sel_t, sel_f, gsel_tt, gsel_tf, gsel_ft, gsel_ff, gsel_u, gd_tt, gd_tf, gd_ft, gd_ff, gd_u, ↓jn_n, jn_n, jn_r, ↓jn_r, blk_n, blk_r, ↓cl_r, cl_r, ↓iAdd_i, ↓iSub_i, ↓iMul_i, ↓iAnd_i, ↓iOr_i, ↓iXor_i, ↓iNeg_i, iQuo_i, iRem_i, ↓iConv_i, iConv_i, ↓bNot_b, bNot_b, ↓eqN_i, ↓ltN_i, ↓eqB_b, bnot_e, Int.ofNat_eq_natCast, Int.cast_ofNat_Int, Int.reduceBEq, Int.reduceAdd, Int.reduceNeg, Int.reduceNegSucc, Int.reduceLT, Int.reduceLE, Int.reduceMul, Int.reduceTMod, Int.reduceSub, Int.reduceBNe, Bool.not_true, Bool.not_false, decide_true, decide_false, w63_in, w31_in, ne_eq, not_false_eq_true, Int.reduceEq, reduceCtorEq, ww3131, ww6363, ww3163, ww6331, ww3231, ww3263, ww6463, ww6364, sh31, sh63, sl63, m31, m63, n63, s5a, s5b, s6a, s6b, b31, b32, b63, c63, c64, d64, iShl_c, iShr_c, sr3, sr6, sr7], f8, f9, f10⟩
  obtain ⟨d, hd⟩ : ∃ d : Nat, D[i] = (d : Int) := ⟨D[i].toNat, by omega⟩
  have l0 : ∀ kk : AV → Res, ld1 g (.ptr h.nb (Nat.add 0 0)) kk = kk (.int 8 ((alc k).toNat : Int)) := fun kk => c2.l0 kk
  have l0' : ∀ kk : AV → Res, ld1 g (.ptr h.nb 0) kk = kk (.int 8 ((alc k).toNat : Int)) := l0
  obtain ⟨g1, g2, g3, z1, z2, z3, c3, o3, w3⟩ := set9 w2 c2 d
  have z1 : ∀ kk : Hp → Res, st1 g (.ptr h.nb (Nat.add 0 2)) (.int 63 D[i]) kk = kk g1 := fun kk => by rw [hd]; exact z1 kk
  have z1' : ∀ kk : Hp → Res, st1 g (.ptr h.nb 2) (.int 63 D[i]) kk = kk g1 := z1
  have z2' : ∀ kk : Hp → Res, st1 g1 (.ptr h.nb 3) (.int 8 ((alc k).toNat : Int)) kk = kk g2 := z2
  have z3' : ∀ kk : Hp → Res, st1 g2 (.ptr h.nb 0) (.int 8 91) kk = kk g3 := z3
  have edT : mkT (alc k) (aln k) d = ⟨91, aln k, d, alc k⟩ := if_pos (by omega)
  obtain ⟨t, x, v', h1', h2', h3', h4', hx, et, f1, f2, f3, f4, f5, f6, f7, fc, fw, f8, f9, f10⟩ := fin d g3 (by omega) (oo.trans (o3.mono fun y _ e => by have : y = h.nb := e; omega)) w3 (by rw [edT]; exact c3) (fun _ _ _ _ => trivial)
  exact ⟨t, x, v', h4', hx, by simp only [↓L9n0, ↓ln0, q, ↓gt, q20, ↓iv, ↓r1, a1, ↓r2, hk2, ↓x2, ↓x2', ↓m1, ↓m1', ↓s1, ↓ln2, qA, ↓gv2, ↓y1, ↓y2, cB, cC, ↓cP_p, ↓l0, ↓l0', ↓z1, ↓z1', ↓z2, ↓z2', ↓z3, ↓z3', ↓f1, ↓bldT, ↓f2, ↓f3, ↓f4, ↓f5, ↓fc, ↓f6, ↓f7, fw, s1n i (by omega), ↓uc_c, ↓uz_n, ↓cI_i, ↓cB_b, cB_b, ↓cT_t, cT_t, nth_z, nth_1, cK_b, ↓cK_b, ↓cK_i, cK_i, ifB_t, ifB_f, ↓ap_e, sel_t, sel_f, gsel_tt, gsel_tf, gsel_ft, gsel_ff, gsel_u, gd_tt, gd_tf, gd_ft, gd_ff, gd_u, ↓jn_n, jn_n, jn_r, ↓jn_r, blk_n, blk_r, ↓cl_r, cl_r, ↓iAdd_i, ↓iSub_i, ↓iMul_i, ↓iAnd_i, ↓iOr_i, ↓iXor_i, ↓iNeg_i, iQuo_i, iRem_i, ↓iConv_i, iConv_i, ↓bNot_b, bNot_b, ↓eqN_i, ↓ltN_i, ↓eqB_b, bnot_e, Int.ofNat_eq_natCast, Int.cast_ofNat_Int, Int.reduceBEq, Int.reduceAdd, Int.reduceNeg, Int.reduceNegSucc, Int.reduceLT, Int.reduceLE, Int.reduceMul, Int.reduceTMod, Int.reduceSub, Int.reduceBNe, Bool.not_true, Bool.not_false, decide_true, decide_false, w63_in, w31_in, ne_eq, not_false_eq_true, Int.reduceEq, reduceCtorEq, ww3131, ww6363, ww3163, ww6331, ww3231, ww3263, ww6463, ww6364, sh31, sh63, sl63, m31, m63, n63, s5a, s5b, s6a, s6b, b31, b32, b63, c63, c64, d64, iShl_c, iShr_c, sr3, sr6, sr7], f8, f9, f10⟩
theorem loop9 {K D : List Int} {N b19 : Nat} {P : Nat → Prop} {v0 v2 v4 v6 : AV} (hP : ∀ b, P b → b < N) (hb : b19 < N) : ∀ (f m i : Nat) (ts : List Ty) (s : List UInt8) (v : AV) (h : Hp), 20 - i < f → f < m → i ≤ 20 → ts.length = i → s.length ≤ 300 * i → Cat ts s → N ≤ h.nb → Wf h → GrT h N v ts → AlsT h b19 → Sl h P v0 (Is K) → Sl h P v2 (Is D) →
    ∃ ts' s' v' h', lp L9n0 m [v0, v2, v4, v6, .sl b19 0 7 4 (some 7), S (40 :: s), v, .int 63 (sumw ts : Int), .int 63 (i : Int)] h = .exit 0 [v4, v6, .sl b19 0 7 4 (some 7), S (40 :: s'), v', .int 63 (sumw ts' : Int)] h' ∧ Cat ts' s' ∧ s'.length ≤ 6000 ∧ ts'.length ≤ 20 ∧ GrT h' N v' ts' ∧ To (fun y => N ≤ y) h h' ∧ Wf h' := by
  intro f
  induction f with
  | zero => intro m i ts s v h hf; omega
  | succ f ih =>
    intro m i ts s v h hf hm hi hts hs hc hN hw hg ha h0 h2
    obtain ⟨m, rfl⟩ : ∃ k, m = k + 1 := ⟨m - 1, by omega⟩
    have gt : ∀ x : Int, gsel (.bool true) true (.int 63 x) = .int 63 x := fun x => rfl
    have ln0 := fun k => lenL_sl h0 k
    rw [Is_len] at ln0
    by_cases hK : i < K.length
    rotate_left
    · have q : ¬ (i : Int) < (K.length : Int) := by omega
      exact ⟨ts, s, v, h, lpx m (by simp only [↓L9n0, ↓ln0, q, ↓uc_c, ↓uz_n, ↓cI_i, ↓cB_b, cB_b, ↓cT_t, cT_t, nth_z, nth_1, cK_b, ↓cK_b, ↓cK_i, cK_i, ifB_t, ifB_f, ↓ap_e, sel_t, sel_f, gsel_tt, gsel_tf, gsel_ft, gsel_ff, gsel_u, gd_tt, gd_tf, gd_ft, gd_ff, gd_u, ↓jn_n, jn_n, jn_r, ↓jn_r, blk_n, blk_r, ↓cl_r, cl_r, ↓iAdd_i, ↓iSub_i, ↓iMul_i, ↓iAnd_i, ↓iOr_i, ↓iXor_i, ↓iNeg_i, iQuo_i, iRem_i, ↓iConv_i, iConv_i, ↓bNot_b, bNot_b, ↓eqN_i, ↓ltN_i, ↓eqB_b, bnot_e, Int.ofNat_eq_natCast, Int.cast_ofNat_Int, Int.reduceBEq, Int.reduceAdd, Int.reduceNeg, Int.reduceNegSucc, Int.reduceLT, Int.reduceLE, Int.reduceMul, Int.reduceTMod, Int.reduceSub, Int.reduceBNe, Bool.not_true, Bool.not_false, decide_true, decide_false, w63_in, w31_in, ne_eq, not_false_eq_true, Int.reduceEq, reduceCtorEq, ww3131, ww6363, ww3163, ww6331, ww3231, ww3263, ww6463, ww6364, sh31, sh63, sl63, m31, m63, n63, s5a, s5b, s6a, s6b, b31, b32, b63, c63, c64, d64, iShl_c, iShr_c, sr3, sr6, sr7]), hc, by omega, by omega, hg, To.refl _ _, hw⟩
    have q : (i : Int) < (K.length : Int) := by omega
    by_cases h20 : i < 20
    rotate_left
    · have q20 : ¬ (i : Int) < 20 := by omega
      exact ⟨ts, s, v, h, lpx m (by simp only [↓L9n0, ↓ln0, q, ↓gt, q20, ↓uc_c, ↓uz_n, ↓cI_i, ↓cB_b, cB_b, ↓cT_t, cT_t, nth_z, nth_1, cK_b, ↓cK_b, ↓cK_i, cK_i, ifB_t, ifB_f, ↓ap_e, sel_t, sel_f, gsel_tt, gsel_tf, gsel_ft, gsel_ff, gsel_u, gd_tt, gd_tf, gd_ft, gd_ff, gd_u, ↓jn_n, jn_n, jn_r, ↓jn_r, blk_n, blk_r, ↓cl_r, cl_r, ↓iAdd_i, ↓iSub_i, ↓iMul_i, ↓iAnd_i, ↓iOr_i, ↓iXor_i, ↓iNeg_i, iQuo_i, iRem_i, ↓iConv_i, iConv_i, ↓bNot_b, bNot_b, ↓eqN_i, ↓ltN_i, ↓eqB_b, bnot_e, Int.ofNat_eq_natCast, Int.cast_ofNat_Int, Int.reduceBEq, Int.reduceAdd, Int.reduceNeg, Int.reduceNegSucc, Int.reduceLT, Int.reduceLE, Int.reduceMul, Int.reduceTMod, Int.reduceSub, Int.reduceBNe, Bool.not_true, Bool.not_false, decide_true, decide_false, w63_in, w31_in, ne_eq, not_false_eq_true, Int.reduceEq, reduceCtorEq, ww3131, ww6363, ww3163, ww6331, ww3231, ww3263, ww6463, ww6364, sh31, sh63, sl63, m31, m63, n63, s5a, s5b, s6a, s6b, b31, b32, b63, c63, c64, d64, iShl_c, iShr_c, sr3, sr6, sr7]), hc, by omega, by omega, hg, To.refl _ _, hw⟩
    obtain ⟨t, x, v', h', hx, e, g', o', w'⟩ := step9 (v4 := v4) (v6 := v6) hP hb hK h20 hts hs hN hw hg ha h0 h2
    have hl := hx.len
    have nb' := o'.nb
    obtain ⟨ts', s', v'', h'', r1, r2, r3, r4, r5, r6, r7⟩ := ih m (i + 1) (ts ++ [t]) (s ++ x) v' h' (by omega) (by omega) (by omega) (by simp; omega) (by rw [List.length_append]; omega) (hc.snoc hx) (by omega) w' g' (ha.to o' (fun e => by omega)) (h0.to o' (fun b hb e => by have := hP b hb; omega)) (h2.to o' (fun b hb e => by have := hP b hb; omega))
    exact ⟨ts', s', v'', h'', (lpn m e).trans r1, r2, r3, r4, r5, o'.trans r6, r7⟩
theorem loop9b {ts : List Ty} {v w : AV} {N M : Nat} (htl : ts.length ≤ 90000) (v0 v1 v2 : AV) : ∀ (f m i : Nat) (h : Hp), ts.length - i ≤ f → f < m → i ≤ ts.length → Wf h → GrT h N v ts → GrT h M w ts →
    ∃ h', lp L9n1 m [v0, v1, w, v2, v, .int 63 (i : Int)] h = .exit 2 [v0, v1, v2] h' ∧ To No h h' ∧ Wf h' := by
  have stop : ∀ (m i : Nat) (h : Hp), ¬ i < ts.length → Wf h → GrT h N v ts → ∃ h', lp L9n1 (m + 1) [v0, v1, w, v2, v, .int 63 (i : Int)] h = .exit 2 [v0, v1, v2] h' ∧ To No h h' ∧ Wf h' := by
    intro m i h hi hw hg
    have q : ¬ (i : Int) < (ts.length : Int) := by omega
    have ln := fun k => hg.len k
    exact ⟨h, lpx m (by simp only [↓L9n1, ↓ln, q, ↓uc_c, ↓uz_n, ↓cI_i, ↓cB_b, cB_b, ↓cT_t, cT_t, nth_z, nth_1, cK_b, ↓cK_b, ↓cK_i, cK_i, ifB_t, ifB_f, ↓ap_e, sel_t, sel_f, gsel_tt, gsel_tf, gsel_ft, gsel_ff, gsel_u, gd_tt, gd_tf, gd_ft, gd_ff, gd_u, ↓jn_n, jn_n, jn_r, ↓jn_r, blk_n, blk_r, ↓cl_r, cl_r, ↓iAdd_i, ↓iSub_i, ↓iMul_i, ↓iAnd_i, ↓iOr_i, ↓iXor_i, ↓iNeg_i, iQuo_i, iRem_i, ↓iConv_i, iConv_i, ↓bNot_b, bNot_b, ↓eqN_i, ↓ltN_i, ↓eqB_b, bnot_e, Int.ofNat_eq_natCast, Int.cast_ofNat_Int, Int.reduceBEq, Int.reduceAdd, Int.reduceNeg, Int.reduceNegSucc, Int.reduceLT, Int.reduceLE, Int.reduceMul, Int.reduceTMod, Int.reduceSub, Int.reduceBNe, Bool.not_true, Bool.not_false, decide_true, decide_false, w63_in, w31_in, ne_eq, not_false_eq_true, Int.reduceEq, reduceCtorEq, ww3131, ww6363, ww3163, ww6331, ww3231, ww3263, ww6463, ww6364, sh31, sh63, sl63, m31, m63, n63, s5a, s5b, s6a, s6b, b31, b32, b63, c63, c64, d64, iShl_c, iShr_c, sr3, sr6, sr7]), To.refl _ _, hw⟩
  intro f
  induction f with
  | zero =>
    intro m i h hf hm hi hw hg hg2
    obtain ⟨m, rfl⟩ : ∃ k, m = k + 1 := ⟨m - 1, by omega⟩
    exact stop m i h (by omega) hw hg
  | succ f ih =>
    intro m i h hf hm hi hw hg hg2
    obtain ⟨m, rfl⟩ : ∃ k, m = k + 1 := ⟨m - 1, by omega⟩
    by_cases hin : i < ts.length
    · have q : (i : Int) < (ts.length : Int) := by omega
      have ln := fun k => hg.len k
      have x1 := fun k => hg.ix i hin k
      have x2 := fun k => hg2.ix i hin k
      obtain ⟨h3, e3, o3, w3⟩ := t28 ts[i] hw
      have e : L9n1 [v0, v1, w, v2, v, .int 63 (i : Int)] h = .norm [v0, v1, w, v2, v, .int 63 ((i + 1 : Nat) : Int)] h3 := by
        simp only [↓L9n1, ↓ln, q, ↓x1, ↓x2, ↓e3, s1n i (by omega), ↓uc_c, ↓uz_n, ↓cI_i, ↓cB_b, cB_b, ↓cT_t, cT_t, nth_z, nth_1, cK_b, ↓cK_b, ↓cK_i, cK_i, ifB_t, ifB_f, ↓ap_e, sel_t, sel_f, gsel_tt, gsel_tf, gsel_ft, gsel_ff, gsel_u, gd_tt, gd_tf, gd_ft, gd_ff, gd_u, ↓jn_n, jn_n, jn_r, ↓jn_r, blk_n, blk_r, ↓cl_r, cl_r, ↓iAdd_i, ↓iSub_i, ↓iMul_i, ↓iAnd_i, ↓iOr_i, ↓iXor_i, ↓iNeg_i, iQuo_i, iRem_i, ↓iConv_i, iConv_i, ↓bNot_b, bNot_b, ↓eqN_i, ↓ltN_i, ↓eqB_b, bnot_e, Int.ofNat_eq_natCast, Int.cast_ofNat_Int, Int.reduceBEq, Int.reduceAdd, Int.reduceNeg, Int.reduceNegSucc, Int.reduceLT, Int.reduceLE, Int.reduceMul, Int.reduceTMod, Int.reduceSub, Int.reduceBNe, Bool.not_true, Bool.not_false, decide_true, decide_false, w63_in, w31_in, ne_eq, not_false_eq_true, Int.reduceEq, reduceCtorEq, ww3131, ww6363, ww3163, ww6331, ww3231, ww3263, ww6463, ww6364, sh31, sh63, sl63, m31, m63, n63, s5a, s5b, s6a, s6b, b31, b32, b63, c63, c64, d64, iShl_c, iShr_c, sr3, sr6, sr7]
      obtain ⟨h4, e4, o4, w4⟩ := ih m (i + 1) h3 (by omega) (by omega) (by omega) w3 (hg.to o3 (fun _ _ _ f => f)) (hg2.to o3 (fun _ _ _ f => f))
      exact ⟨h4, (lpn m e).trans e4, o3.trans o4, w4⟩
    · exact stop m i h hin hw hg
end Go.Proofs.YtnpfppddongbhaaDoor
end

section
namespace Go.Proofs.YtnpfppddongbhaaDoor
open Go Go.AM
set_option autoImplicit false
set_option linter.unusedSimpArgs false
set_option linter.unusedVariables false
theorem bl73 (k : AV → Res) : bld [(false, 1, (.int 8 (.ofNat 73))), (false, 1, (.str 0 0)), (false, 1, (.int 63 (.ofNat 0))), (false, 1, (.int 8 (.ofNat 0)))] k = k (avL (tyL ⟨73, [], 0, 0⟩)) := rfl
theorem bl74 (k : AV → Res) : bld [(false, 1, (.int 8 (.ofNat 74))), (false, 1, (.str 0 0)), (false, 1, (.int 63 (.ofNat 0))), (false, 1, (.int 8 (.ofNat 0)))] k = k (avL (tyL ⟨74, [], 0, 0⟩)) := rfl
theorem bl66 (k : AV → Res) : bld [(false, 1, (.int 8 (.ofNat 66))), (false, 1, (.str 0 0)), (false, 1, (.int 63 (.ofNat 0))), (false, 1, (.int 8 (.ofNat 0)))] k = k (avL (tyL ⟨66, [], 0, 0⟩)) := rfl
theorem bl67 (k : AV → Res) : bld [(false, 1, (.int 8 (.ofNat 67))), (false, 1, (.str 0 0)), (false, 1, (.int 63 (.ofNat 0))), (false, 1, (.int 8 (.ofNat 0)))] k = k (avL (tyL ⟨67, [], 0, 0⟩)) := rfl
theorem bl83 (k : AV → Res) : bld [(false, 1, (.int 8 (.ofNat 83))), (false, 1, (.str 0 0)), (false, 1, (.int 63 (.ofNat 0))), (false, 1, (.int 8 (.ofNat 0)))] k = k (avL (tyL ⟨83, [], 0, 0⟩)) := rfl
theorem bl90 (k : AV → Res) : bld [(false, 1, (.int 8 (.ofNat 90))), (false, 1, (.str 0 0)), (false, 1, (.int 63 (.ofNat 0))), (false, 1, (.int 8 (.ofNat 0)))] k = k (avL (tyL ⟨90, [], 0, 0⟩)) := rfl
theorem bl76 (k : AV → Res) : bld [(false, 1, (.int 8 (.ofNat 76))), (false, 1, (.str 3 6434657)), (false, 1, (.int 63 (.ofNat 0))), (false, 1, (.int 8 (.ofNat 0)))] k = k (avL (tyL ⟨76, [97, 47, 98], 0, 0⟩)) := by
  have e : AV.str 3 6434657 = S [97, 47, 98] := by kernel_rfl
  rw [e]; rfl
theorem bl7 (k : AV → Res) : bld [(true, 4, (.agg (avL (tyL ⟨73, [], 0, 0⟩)))), (true, 4, (.agg (avL (tyL ⟨74, [], 0, 0⟩)))), (true, 4, (.agg (avL (tyL ⟨66, [], 0, 0⟩)))), (true, 4, (.agg (avL (tyL ⟨67, [], 0, 0⟩)))), (true, 4, (.agg (avL (tyL ⟨83, [], 0, 0⟩)))), (true, 4, (.agg (avL (tyL ⟨90, [], 0, 0⟩)))), (true, 4, (.agg (avL (tyL ⟨76, [97, 47, 98], 0, 0⟩))))] k = k (avL (flat als)) := rfl
theorem lawBuild {K D : List Int} {h : Hp} {v0 v2 : AV} {P : Nat → Prop} (hw : Wf h) (hP : ∀ b, P b → b < h.nb) (h0 : Sl h P v0 (Is K)) (h2 : Sl h P v2 (Is D)) (r : Int) : ∃ h', s9 [v0, v2, .int 63 r] h = .ret (.bool true) h' := by
  obtain ⟨h1, e1, o1, w1⟩ := t25h hw
  obtain ⟨h2', m2, a2, o2, w2, n2⟩ := mkS_als w1
  have nb1 := o1.nb
  obtain ⟨ts, s, v, h3, e3, hc, hs, htl, g3, o3, w3⟩ := loop9 (N := h2'.nb) (b19 := h1.nb) (P := P) (v0 := v0) (v2 := v2) (v4 := .int 63 r) (v6 := .bool true) (K := K) (D := D) (fun b hb => by have := hP b hb; omega) (by omega) 21 most 0 [] [] .nils h2' (by omega) (by unfold most; omega) (by omega) rfl (by simp) .nil (Nat.le_refl _) w2 (.inl ⟨rfl, rfl⟩) a2 ((h0.to o1 (fun _ _ f => f)).to o2 (fun _ _ f => f)) ((h2.to o1 (fun _ _ f => f)).to o2 (fun _ _ f => f))
  have e3 : lp L9n0 most [v0, v2, .int 63 r, .bool true, .sl h1.nb 0 7 4 (some 7), .str 1 40, .nils, .int 63 0, .int 63 0] h2' = .exit 0 [.int 63 r, .bool true, .sl h1.nb 0 7 4 (some 7), S (40 :: s), v, .int 63 (sumw ts : Int)] h3 := e3
  have a3 : AlsT h3 h1.nb := a2.to o3 (fun e => by omega)
  obtain ⟨k, hk, ka, hk2⟩ := k7 r
  have r1 := fun kk => rem7 r kk
  have r2 : ∀ kk : AV → Res, iRem (.int 63 (r.tmod 7 + 7)) (.int 63 7) kk = kk (.int 63 (k : Int)) := fun kk => by rw [← hk2]; exact rem7 _ kk
  have x2 := fun kk => a3.ix k hk kk
  have x2' : ∀ kk : AV → Res, (ixA 4 (.sl h1.nb 0 7 4 (some 7)) (.int 63 ((r.tmod 7 + 7).tmod 7)) fun a => ldN h3 4 a kk) = kk (tyV ⟨alc k, aln k, 0, 0⟩) := fun kk => by rw [hk2]; exact x2 kk
  have e0T : mkT (alc k) (aln k) 0 = ⟨alc k, aln k, 0, 0⟩ := if_neg (by omega)
  have hx := okt k 0 hk (by omega)
  rw [e0T] at hx
  obtain ⟨h4, m4, c4, o4, w4, n4⟩ := ty0_mk w3
  have m4' : ∀ k : AV → Hp → Res, mk h3 (.cons (.int 8 0) (.cons (.str 0 0) (.cons (.int 63 0) (.cons (.int 8 0) .nil)))) k = k (.ptr h3.nb 0) h4 := m4
  obtain ⟨h5, s5, c5, o5, w5, n5⟩ := c4.st w4 ⟨alc k, aln k, 0, 0⟩
  generalize hR : (⟨alc k, aln k, 0, 0⟩ : Ty) = R at *
  generalize hX : List.replicate 0 91 ++ txt (alc k) (aln k) = x at *
  have s5 : ∀ kk : Hp → Res, stN h4 4 (.ptr h3.nb 0) (tyV R) kk = kk h5 := s5
  have o35 : To (fun y => h3.nb ≤ y) h3 h5 := (o4.mono fun _ _ f => f.elim).trans (o5.mono fun y _ e => by have : y = h3.nb := e; omega)
  have l5 := fun kk => c5.ld kk
  obtain ⟨h6, e6, o6, w6⟩ : ∃ h6, s31 [tyV R] h5 = .ret (S x) h6 ∧ To No h5 h6 ∧ Wf h6 := by
    obtain ⟨c, nm, d, q1, q2, q3, q4, q5, q6⟩ := hx
    rw [q1, q2]; exact t31 q4 d q3 (by omega) w5
  have hxl := hx.len
  have k1 : ∀ kk : AV → Res, sCat (S (40 :: s)) (S [41]) kk = kk (S (40 :: s ++ [41])) := fun kk => cat_S _ _ (by simp; omega) kk
  have k2 : ∀ kk : AV → Res, sCat (S (40 :: s ++ [41])) (S x) kk = kk (S (40 :: s ++ [41] ++ x)) := fun kk => cat_S _ _ (by simp; omega) kk
  have k3 : ∀ kk : AV → Res, sCat (S (40 :: s)) (S [41, 86]) kk = kk (S (40 :: s ++ [41, 86])) := fun kk => cat_S _ _ (by simp; omega) kk
  have hmd := hc.md hx
  rcases t32 (l := 40 :: s ++ [41] ++ x) (by simp; omega) w6 with ⟨em, -⟩ | ⟨p, u, h7, em, e7, g7, o7, w7⟩
  · rw [hmd] at em; cases em
  rw [hmd] at em
  obtain rfl := Option.some.inj em
  have e7 : s32 [S (40 :: s ++ [41] ++ x)] h6 = .ret (.tup (.cons u (.cons (tyV R) (.cons (.bool true) .nil)))) h7 := e7
  have g7 : GrT h7 h6.nb u ts := g7
  obtain ⟨h8, m8, c8, o8, w8, n8⟩ := ty0_mk w7
  have m8' : ∀ k : AV → Hp → Res, mk h7 (.cons (.int 8 0) (.cons (.str 0 0) (.cons (.int 63 0) (.cons (.int 8 0) .nil)))) k = k (.ptr h7.nb 0) h8 := m8
  obtain ⟨h9, s9', c9, o9, w9, n9⟩ := c8.st w8 R
  have s9' : ∀ kk : Hp → Res, stN h8 4 (.ptr h7.nb 0) (tyV R) kk = kk h9 := s9'
  have o79 : To (fun y => h7.nb ≤ y) h7 h9 := (o8.mono fun _ _ f => f.elim).trans (o9.mono fun y _ e => by have : y = h7.nb := e; omega)
  have c57 : Cel h7 h3.nb R := (c5.to o6 (fun f => f)).to o7 (fun f => f)
  have lt57 := c57.lt
  have c59 : Cel h9 h3.nb R := c57.to o79 (fun e => by omega)
  have v9 : GrT h9 h2'.nb v ts := (((g3.to o35 (fun y _ h e => by omega)).to o6 (fun _ _ _ f => f)).to o7 (fun _ _ _ f => f)).to o79 (fun y _ h e => by omega)
  have u9 : GrT h9 h6.nb u ts := g7.to o79 (fun y _ h e => by omega)
  have ku := fun kk => g7.cK kk
  have lu := fun kk => u9.len kk
  have lv := fun kk => v9.len kk
  have d1 := fun kk => c9.ld kk
  have d2 := fun kk => c59.ld kk
  obtain ⟨h10, e10, o10, w10⟩ := t28 R w9
  obtain ⟨h11, e11, o11, w11⟩ := loop9b (v := u) (w := v) (by omega) (.bool true) (S (40 :: s)) (.int 63 (sumw ts : Int)) ts.length most 0 h10 (by omega) (by unfold most; omega) (by omega) w10 (u9.to o10 (fun _ _ _ f => f)) (v9.to o10 (fun _ _ _ f => f))
  have e11 : lp L9n1 most [.bool true, S (40 :: s), v, .int 63 (sumw ts : Int), u, .int 63 0] h10 = .exit 2 [.bool true, S (40 :: s), .int 63 (sumw ts : Int)] h11 := e11
  obtain ⟨h12, e12, o12, w12⟩ := t34 (l := 40 :: s ++ [41, 86]) (by simp; omega) w11
  have hz : argZ (40 :: s ++ [41, 86]) = (sumw ts : Int) := by unfold argZ; rw [hc.mdV]
  rw [hz] at e12
  have S41 : AV.str 1 41 = S [41] := rfl
  have S41V : AV.str 2 22057 = S [41, 86] := rfl
  have gs : ∀ a : List UInt8, gsel (.bool true) true (S a) = S a := fun a => rfl
  have gt : ∀ x : Int, gsel (.bool true) true (.int 63 x) = .int 63 x := fun x => rfl
  have gu : gsel (.bool false) false u = u := rfl
  have gv : gsel (.bool false) false v = v := rfl
  exact ⟨h12, by simp only [↓s9, ↓e1, ↓bl73, ↓bl74, ↓bl66, ↓bl67, ↓bl83, ↓bl90, ↓bl76, ↓bl7, ↓m2, ↓e3, ↓blk_x, ↓r1, ka, ↓r2, hk2, ↓x2, ↓x2', ↓m4, ↓m4', ↓s5, ↓S41, ↓k1, ↓l5, ↓e6, ↓k2, ↓e7, nth_z, nth_1, nth_2, ↓ku, ↓cK_ty, ↓m8, ↓m8', ↓s9', Bool.not_true, ↓gu, ↓gv, ↓lu, ↓lv, beq_self_eq_true, ↓d1, ↓d2, ↓e10, ↓e11, ↓gs, ↓gt, ↓S41V, ↓k3, ↓e12, ↓uc_c, ↓uz_n, ↓cI_i, ↓cB_b, cB_b, ↓cT_t, cT_t, nth_z, nth_1, cK_b, ↓cK_b, ↓cK_i, cK_i, ifB_t, ifB_f, ↓ap_e, sel_t, sel_f, gsel_tt, gsel_tf, gsel_ft, gsel_ff, gsel_u, gd_tt, gd_tf, gd_ft, gd_ff, gd_u, ↓jn_n, jn_n, jn_r, ↓jn_r, blk_n, blk_r, ↓cl_r, cl_r, ↓iAdd_i, ↓iSub_i, ↓iMul_i, ↓iAnd_i, ↓iOr_i, ↓iXor_i, ↓iNeg_i, iQuo_i, iRem_i, ↓iConv_i, iConv_i, ↓bNot_b, bNot_b, ↓eqN_i, ↓ltN_i, ↓eqB_b, bnot_e, Int.ofNat_eq_natCast, Int.cast_ofNat_Int, Int.reduceBEq, Int.reduceAdd, Int.reduceNeg, Int.reduceNegSucc, Int.reduceLT, Int.reduceLE, Int.reduceMul, Int.reduceTMod, Int.reduceSub, Int.reduceBNe, Bool.not_true, Bool.not_false, decide_true, decide_false, w63_in, w31_in, ne_eq, not_false_eq_true, Int.reduceEq, reduceCtorEq, ww3131, ww6363, ww3163, ww6331, ww3231, ww3263, ww6463, ww6364, sh31, sh63, sl63, m31, m63, n63, s5a, s5b, s6a, s6b, b31, b32, b63, c63, c64, d64, iShl_c, iShr_c, sr3, sr6, sr7]⟩
end Go.Proofs.YtnpfppddongbhaaDoor
end
