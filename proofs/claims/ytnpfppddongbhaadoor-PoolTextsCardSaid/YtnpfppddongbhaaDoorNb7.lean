/-
  Row laws, part Nb7: reckoned by the abstract machine.
-/
import Derived.Test.YtnpfppddongbhaaDoorNb6
import Derived.Deep.Grids
import Derived.ChangeStays
import Derived.Test.YtnpfppddongbhaaDoorCards
import Derived.Test.YtnpfppddongbhaaDoorTie
import Derived.Test.YtnpfppddongbhaaDoorAm43
import Derived.Test.YtnpfppddongbhaaDoorAm31
import Derived.WalkKit
import Derived.ProofKit
import Derived.OpenShut
import Derived.Deep.DeepHandedRow
import Derived.Deep.DeepLaidRun
import Derived.Shelf.Vars
section
namespace Go.Proofs.YtnpfppddongbhaaDoor
open Go.ChangeShapes Go.WideShapes Go.ChangeAt Go.RowKit Go.AM
set_option maxRecDepth 100000

theorem own : ownKnob Tryd.prog.godebug = none := by kernel_rfl
noncomputable def ranges : Array Value := #[.int .u8 128, .int .u8 191, .int .u8 160, .int .u8 191, .int .u8 128, .int .u8 159, .int .u8 144, .int .u8 191, .int .u8 128, .int .u8 143] ++ Array.replicate 22 (.int .u8 0)
noncomputable def firsts : Array Value := (Go.Pinned.utf8FirstZ.map fun (n : Nat) => Value.int .u8 (n : Int)).toArray
def row (cs : Array Value) : Obj → Obj
  | .cells _ t frozen => .cells cs t frozen
  | o => o
noncomputable def laidWorld (os : Os) (args : Array Value) : World :=
  { World.holding Tryd.prog os ⟨#[], args, []⟩ with heap := ((World.holding Tryd.prog os ⟨#[], args, []⟩).heap.modify 2 (row ranges)).modify 1 (row firsts) }
theorem maxLen_at : Tryd.prog.globalNamed "internal/bytealg.MaxLen" = some 0 := by kernel_rfl
theorem maxLen_J {W : World} (h : W.ShapedOpen Tryd.prog) : (b0 W (Tryd.prog.globalNamed "internal/bytealg.MaxLen")).J W := by
  intro g hg
  have hg : Tryd.prog.globalNamed "internal/bytealg.MaxLen" = some g := hg
  rw [maxLen_at] at hg
  obtain rfl := Option.some.inj hg
  obtain ⟨m, hm⟩ := Go.Proofs.cell_of_shapedOpen_int (t := 3) (zero := #[.int .i64 0]) (k := .i64) h (show 0 < Tryd.prog.globals.size from of_decide_eq_true (by kernel_rfl)) (by kernel_rfl) rfl (by kernel_rfl) (by kernel_rfl) Tryd.underlying3
  refine ⟨?_, m, hm⟩
  unfold World.cell? at hm
  show 0 < W.heap.size
  cases hr : W.heap[0]? with
  | none => simp [hr] at hm
  | some o => exact (Array.getElem?_eq_some_iff.1 hr).1
theorem laid_met (os : Os) : laidMet Tryd.prog Rows.poolWitnessRow.laid ((laidWorld os #[]).forCall (fun _ _ => 0) ⟨#[], #[], []⟩).memory :=
  laidMet_of_run3 12 (by kernel_rfl) (by kernel_rfl) (by kernel_rfl)
end Go.Proofs.YtnpfppddongbhaaDoor

end
section
namespace Go.Proofs.YtnpfppddongbhaaDoor.C
open Go Go.AM
set_option autoImplicit false
set_option linter.unusedSimpArgs false
set_option linter.unusedVariables false
theorem nck_p (b o : Nat) (k : AV → Res) : nck (.ptr b o) k = k (.ptr b o) := of_eq_true (eq_self _)
theorem eqP_pn (b o : Nat) (k : Bool → Res) : eqP (.ptr b o) .nilp k = k false := of_eq_true (eq_self _)
@[congr] theorem nck_cg {v v' : AV} (h : v = v') (k : AV → Res) : nck v k = nck v' k := by rw [h]
@[congr] theorem cP_cg {v v' : AV} (h : v = v') (k : Nat → Nat → Res) : cP v k = cP v' k := by rw [h]
@[congr] theorem lenL_cg {v v' : AV} (h : v = v') (k : AV → Res) : lenL v k = lenL v' k := by rw [h]
theorem lpn {F : List AV → Hp → Res} {vs vs' : List AV} {h h' : Hp} (m : Nat) (e : F vs h = .norm vs' h') : lp F (m + 1) vs h = lp F m vs' h' := by
  have : lp F (m + 1) vs h = Res.rec (motive := fun _ => Res) .fail (lp F m) (fun i vs h => .exit i vs h) (fun v h => .ret v h) (F vs h) := rfl
  rw [this, e]
theorem lpx {F : List AV → Hp → Res} {vs vs' : List AV} {h h' : Hp} {i : Nat} (m : Nat) (e : F vs h = .exit i vs' h') : lp F (m + 1) vs h = .exit i vs' h' := by
  have : lp F (m + 1) vs h = Res.rec (motive := fun _ => Res) .fail (lp F m) (fun i vs h => .exit i vs h) (fun v h => .ret v h) (F vs h) := rfl
  rw [this, e]
theorem lpr {F : List AV → Hp → Res} {vs : List AV} {v : AV} {h h' : Hp} (m : Nat) (e : F vs h = .ret v h') : lp F (m + 1) vs h = .ret v h' := by
  have : lp F (m + 1) vs h = Res.rec (motive := fun _ => Res) .fail (lp F m) (fun i vs h => .exit i vs h) (fun v h => .ret v h) (F vs h) := rfl
  rw [this, e]
theorem n63 (i : Nat) (hi : i < 1000000) : wrapC 63 (i : Int) = (i : Int) := w63_in _ (by omega) (by omega)

/-- Bytes. -/
def Bs (t : List Nat) : List AV := t.map fun (x : Nat) => AV.int 8 (x : Int)
theorem Bs_len (t : List Nat) : (Bs t).length = t.length := by simp [Bs]
theorem Bs_one (t : List Nat) : ∀ x ∈ Bs t, one x = true := by
  intro x hx
  obtain ⟨y, -, rfl⟩ := List.mem_map.1 hx
  rfl

/-- A copy. -/
theorem t66 {h : Hp} {P : Nat → Prop} {v : AV} {t : List Nat} (hs : Sl h P v (Bs t)) (hw : Wf h) (ht : t.length ≤ 100000) :
    ∃ v' h', s66 [v] h = .ret v' h' ∧ Sl h' (fun b => h.nb ≤ b ∧ b < h'.nb) v' (Bs t) ∧ To No h h' ∧ Wf h' := by
  have low : ∀ {h' : Hp} {v' : AV} {l : List AV}, Sl h' (fun b => h.nb ≤ b) v' l → Sl h' (fun b => h.nb ≤ b ∧ b < h'.nb) v' l := by
    intro h' v' l hs
    obtain ⟨h1, h2⟩ := hs
    refine ⟨h1, ?_⟩
    rcases h2 with h2 | h2 | ⟨b, o, c, B, h2, h3, h4, h5, hc, h6⟩
    · exact .inl h2
    · exact .inr (.inl h2)
    · exact .inr (.inr ⟨b, o, c, B, h2, ⟨h3, h4.lt⟩, h4, fun hf => ⟨h5 hf, (h4.grp hf).1⟩, hc, h6⟩)
  obtain ⟨b, e1, e2⟩ := eqL_nil hs (fun b2 => cB (.bool b2) fun b3 => ifB b3 (cK .nils fun v4 => .ret v4 h) (bld [] fun l5 => mkS h 1 0 l5 fun v6 h7 => apd h7 1 1 v6 v fun v8 h9 => cK v8 fun v10 => .ret v10 h9))
  have e0 : s66 [v] h = eqL v .nils (fun b2 => cB (.bool b2) fun b3 => ifB b3 (cK .nils fun v4 => .ret v4 h) (bld [] fun l5 => mkS h 1 0 l5 fun v6 h7 => apd h7 1 1 v6 v fun v8 h9 => cK v8 fun v10 => .ret v10 h9)) := rfl
  rw [e0, e1]
  cases b with
  | true =>
    have := e2 rfl
    exact ⟨.nils, h, rfl, ⟨Bs_one t, .inl ⟨rfl, this⟩⟩, To.refl _ _, hw⟩
  | false =>
    obtain ⟨o1, o2⟩ := nw_own hw 0 .nil .e
    have g : Gr (nw h 0 .nil .e) h.nb (.sl h.nb 0 0 1 (some 0)) [] :=
      ⟨⟨by simp, .inr (.inr ⟨h.nb, 0, _, _, rfl, Nat.le_refl _, o1.rd, fun _ => Nat.le_refl _, (fun c e => by cases e; exact Nat.le_refl _), fun i hi => by simp at hi⟩)⟩, .inr (.inl ⟨_, rfl, rfl⟩)⟩
    obtain ⟨v', h', a1, a2, a3⟩ := apd_gr (by_ := 1) o2.nb (o2.wf hw) g (hs.to o2 (fun _ _ f => f)) (by simp [Bs_len]; omega) (by simp [Bs_len]; omega)
    rw [List.nil_append] at a2
    refine ⟨v', h', ?_, low a2.1, (To.trans (o2.mono fun _ _ f => f.elim) a3).mono (fun b hb hn => by omega), a3.wf (o2.wf hw)⟩
    show (apd (nw h 0 .nil .e) 1 1 (.sl h.nb 0 0 1 (some 0)) v fun v8 h9 => cK v8 fun v10 => .ret v10 h9) = _
    rw [a1, cK_sl a2.1]

/-- A cursor: its variable is block b; its bytes lie in blocks from lo on, below b. -/
structure Cur (h : Hp) (lo b : Nat) (t : List Nat) (at_ : Nat) (bad : Bool) : Prop where
  own : ∃ B v, Own h b B ∧ B.lim = 3 ∧ B.at 0 = v ∧ B.at 1 = .int 63 (at_ : Int) ∧ B.at 2 = .bool bad ∧ Sl h (fun x => lo ≤ x ∧ x < b) v (Bs t)
  le : at_ ≤ t.length
  len : t.length ≤ 100000
  lo : lo ≤ b
  byt : ∀ x ∈ t, x < 256

theorem Cur.to {W : Nat → Prop} {h h' : Hp} {lo b at_ : Nat} {t : List Nat} {bad : Bool} (hc : Cur h lo b t at_ bad) (ht : To W h h') (hw : ∀ x, lo ≤ x → x ≤ b → ¬ W x) : Cur h' lo b t at_ bad := by
  obtain ⟨B, v, o, h1, h2, h3, h4, h5⟩ := hc.own
  exact ⟨⟨B, v, o.to ht (hw b hc.lo (Nat.le_refl _)), h1, h2, h3, h4, h5.to ht (fun x hx => hw x hx.1 (Nat.le_of_lt hx.2))⟩, hc.le, hc.len, hc.lo, hc.byt⟩

theorem one_sl' {h : Hp} {P : Nat → Prop} {v : AV} {l : List AV} (hs : Sl h P v l) : one v = true := one_sl hs

theorem t38 {h : Hp} {P : Nat → Prop} {v : AV} {t : List Nat} (hs : Sl h P v (Bs t)) (hw : Wf h) (ht : t.length ≤ 100000) (hb : ∀ x ∈ t, x < 256) :
    ∃ b h', s38 [v] h = .ret (.ptr b 0) h' ∧ Cur h' h.nb b t 0 false ∧ To No h h' ∧ Wf h' ∧ h'.nb = b + 1 := by
  obtain ⟨v', h1, e1, s1, o1, w1⟩ := t66 hs hw ht
  have hone := one_sl s1
  have hbl : ∀ k : AV → Res, bld [(false, 1, v'), (false, 1, .int 63 (.ofNat 0)), (false, 1, .bool false)] k = k (avL [v', .int 63 0, .bool false]) := fun k => by
    have : bld [(false, 1, v'), (false, 1, .int 63 (.ofNat 0)), (false, 1, .bool false)] k = ifB (one v') (k (avL [v', .int 63 0, .bool false])) .fail := rfl
    rw [this, hone]; rfl
  obtain ⟨tr, t1, t2⟩ := lay_list [v', .int 63 0, .bool false] .e 0 (by
    intro x hx
    rcases List.mem_cons.1 hx with rfl | hx
    · exact hone
    · rcases List.mem_cons.1 hx with rfl | hx
      · rfl
      · rcases List.mem_cons.1 hx with rfl | hx
        · rfl
        · cases hx)
  have hm : ∀ k : AV → Hp → Res, mk h1 (avL [v', .int 63 0, .bool false]) k = k (.ptr h1.nb 0) (nw h1 3 .nil tr) := fun k => by
    have : mk h1 (avL [v', .int 63 0, .bool false]) k = lay (avL [v', .int 63 0, .bool false]) .e 0 fun t n => k (.ptr h1.nb 0) (nw h1 n .nil t) := rfl
    rw [this, t1]; rfl
  obtain ⟨q1, q2⟩ := nw_own w1 3 .nil tr
  have hat : ∀ i (hi : i < 3), (⟨true, h1.nb, 3, .nil, tr⟩ : Blk).at i = [v', .int 63 0, .bool false][i] := fun i hi => by
    rw [at_in _ (show i < 3 from hi)]
    simp only [t2 i]
    rw [dif_pos ⟨by omega, by simpa using hi⟩]
    simp
  refine ⟨h1.nb, nw h1 3 .nil tr, ?_, ⟨⟨_, v', q1, rfl, hat 0 (by decide), hat 1 (by decide), hat 2 (by decide), s1.to q2 (fun _ _ f => f)⟩, Nat.zero_le _, ht, o1.nb, hb⟩, o1.trans q2, q2.wf w1, rfl⟩
  have e0 : s38 [v] h = cl (s66 [v] h) fun v2 h3 => bld [(false, 1, v2), (false, 1, (.int 63 (.ofNat 0))), (false, 1, (.bool false))] fun l4 => mk h3 (cells (.agg l4)) fun v5 h6 => cK v5 fun v7 => .ret v7 h6 := rfl
  rw [e0, e1, cl_r, hbl]
  show (mk h1 (avL [v', .int 63 0, .bool false]) fun v5 h6 => cK v5 fun v7 => .ret v7 h6) = _
  rw [hm]; rfl
end Go.Proofs.YtnpfppddongbhaaDoor.C
end

section
namespace Go.Proofs.YtnpfppddongbhaaDoor.C
open Go Go.AM
set_option autoImplicit false
set_option linter.unusedSimpArgs false
set_option linter.unusedVariables false
section
variable {h : Hp} {lo b at_ : Nat} {t : List Nat} {bad : Bool}
theorem Cur.open (hc : Cur h lo b t at_ bad) : ∃ v, Sl h (fun x => lo ≤ x ∧ x < b) v (Bs t) ∧ (∀ k, ld1 h (.ptr b (Nat.add 0 0)) k = k v) ∧ (∀ k, ld1 h (.ptr b (Nat.add 0 1)) k = k (.int 63 (at_ : Int))) ∧ (∀ k, ld1 h (.ptr b (Nat.add 0 2)) k = k (.bool bad)) := by
  obtain ⟨B, v, o, h1, h2, h3, h4, h5⟩ := hc.own
  exact ⟨v, h5, fun k => (ld1_rd o.rd h2 k).trans (cK_sl h5 k), fun k => (ld1_rd o.rd h3 k).trans (cK_i _ _ _), fun k => (ld1_rd o.rd h4 k).trans (cK_b _ _)⟩
theorem Cur.move (hc : Cur h lo b t at_ bad) (m : Nat) (hm : m ≤ t.length) : ∃ h', (∀ k, st1 h (.ptr b (Nat.add 0 1)) (.int 63 (m : Int)) k = k h') ∧ Cur h' lo b t m bad ∧ To (At b) h h' := by
  obtain ⟨B, v, o, h1, h2, h3, h4, h5⟩ := hc.own
  obtain ⟨h', e1, e2, e3, -⟩ := st1_own (o := 1) (v := .int 63 (m : Int)) o (by omega) rfl
  refine ⟨h', e1, ⟨⟨_, v, e2, h1, ?_, ?_, ?_, h5.to e3 (fun x hx e => by have : x = b := e; omega)⟩, hm, hc.len, hc.lo, hc.byt⟩, e3⟩
  · rw [setC_at (by omega), if_neg (by decide)]; exact h2
  · rw [setC_at (by omega), if_pos rfl]
  · rw [setC_at (by omega), if_neg (by decide)]; exact h4
theorem Cur.fall (hc : Cur h lo b t at_ bad) : ∃ h', (∀ k, st1 h (.ptr b (Nat.add 0 2)) (.bool true) k = k h') ∧ Cur h' lo b t at_ true ∧ To (At b) h h' := by
  obtain ⟨B, v, o, h1, h2, h3, h4, h5⟩ := hc.own
  obtain ⟨h', e1, e2, e3, -⟩ := st1_own (o := 2) (v := .bool true) o (by omega) rfl
  refine ⟨h', e1, ⟨⟨_, v, e2, h1, ?_, ?_, ?_, h5.to e3 (fun x hx e => by have : x = b := e; omega)⟩, hc.le, hc.len, hc.lo, hc.byt⟩, e3⟩
  · rw [setC_at (by omega), if_neg (by decide)]; exact h2
  · rw [setC_at (by omega), if_neg (by decide)]; exact h3
  · rw [setC_at (by omega), if_pos rfl]

theorem t109_no (hc : Cur h lo b t at_ bad) (hw : Wf h) (n : Int) (hn : bad = true ∨ n < 0 ∨ (t.length : Int) - at_ < n) :
    ∃ h', s109 [.ptr b 0, .int 63 n] h = .ret .nils h' ∧ Cur h' lo b t at_ true ∧ To (At b) h h' ∧ Wf h' := by
  obtain ⟨v, hs, e0, e1, e2⟩ := hc.open
  obtain ⟨h', e3, c', o'⟩ := hc.fall
  refine ⟨h', ?_, c', o', o'.wf hw⟩
  have l0 := fun k => lenL_sl hs k
  have w1 : wrapC 63 ((t.length : Int) - (at_ : Int)) = (t.length : Int) - (at_ : Int) := w63_in _ (by have := hc.le; have := hc.len; omega) (by have := hc.len; omega)
  cases bad with
  | true => simp only [↓s109, ↓nck_p, ↓cP_p, ↓eqP_pn, ↓e0, ↓e1, ↓e2, ↓e3, ↓l0, Bs_len, ↓SD, SA, Int.ofNat_eq_natCast, Int.cast_ofNat_Int, Int.reduceBEq, Int.reduceAdd, Int.reduceNeg, Int.reduceNegSucc, Int.reduceLT, Int.reduceLE, Int.reduceMul, Int.reduceTMod, Int.reduceSub, Int.reduceBNe, Bool.not_true, Bool.not_false, decide_true, decide_false, ne_eq, not_false_eq_true, Int.reduceEq, reduceCtorEq]; rfl
  | false =>
    by_cases h1 : n < 0
    · simp only [↓s109, ↓nck_p, ↓cP_p, ↓eqP_pn, ↓e0, ↓e1, ↓e2, ↓e3, ↓l0, Bs_len, h1, ↓SD, SA, Int.ofNat_eq_natCast, Int.cast_ofNat_Int, Int.reduceBEq, Int.reduceAdd, Int.reduceNeg, Int.reduceNegSucc, Int.reduceLT, Int.reduceLE, Int.reduceMul, Int.reduceTMod, Int.reduceSub, Int.reduceBNe, Bool.not_true, Bool.not_false, decide_true, decide_false, ne_eq, not_false_eq_true, Int.reduceEq, reduceCtorEq]; rfl
    · have h2 : (t.length : Int) - at_ < n := by
        rcases hn with hn | hn | hn
        · cases hn
        · exact absurd hn h1
        · exact hn
      simp only [↓s109, ↓nck_p, ↓cP_p, ↓eqP_pn, ↓e0, ↓e1, ↓e2, ↓e3, ↓l0, Bs_len, h1, h2, w1, ↓SD, SA, Int.ofNat_eq_natCast, Int.cast_ofNat_Int, Int.reduceBEq, Int.reduceAdd, Int.reduceNeg, Int.reduceNegSucc, Int.reduceLT, Int.reduceLE, Int.reduceMul, Int.reduceTMod, Int.reduceSub, Int.reduceBNe, Bool.not_true, Bool.not_false, decide_true, decide_false, ne_eq, not_false_eq_true, Int.reduceEq, reduceCtorEq]; rfl

theorem t109_ok (hc : Cur h lo b t at_ false) (hw : Wf h) (n : Nat) (hn : at_ + n ≤ t.length) :
    ∃ v h', s109 [.ptr b 0, .int 63 (n : Int)] h = .ret v h' ∧ Sl h' (fun x => lo ≤ x ∧ x < b) v (Bs ((t.drop at_).take n)) ∧ Cur h' lo b t (at_ + n) false ∧ To (At b) h h' ∧ Wf h' := by
  obtain ⟨v, hs, e0, e1, e2⟩ := hc.open
  obtain ⟨h', e3, c', o'⟩ := hc.move (at_ + n) hn
  obtain ⟨v2, hs2, f0, f1, f2⟩ := c'.open
  have l0 := fun k => lenL_sl hs k
  have hlen := hc.len
  have w1 : wrapC 63 ((t.length : Int) - (at_ : Int)) = (t.length : Int) - (at_ : Int) := w63_in _ (by omega) (by omega)
  have w2 : wrapC 63 ((at_ : Int) + (n : Int)) = ((at_ + n : Nat) : Int) := by rw [w63_in _ (by omega) (by omega)]; omega
  have w3 : wrapC 63 (((at_ + n : Nat) : Int) - (n : Int)) = (at_ : Int) := by rw [w63_in _ (by omega) (by omega)]; omega
  have h1 : ¬ (n : Int) < 0 := by omega
  have h2 : ¬ (t.length : Int) - at_ < (n : Int) := by omega
  obtain ⟨v', g1, g2⟩ := cut_sl hs2 (c1 := 63) (c2 := 63) at_ (at_ + n) (by omega) (by rw [Bs_len]; exact hn)
  have g2' : Sl h' (fun x => lo ≤ x ∧ x < b) v' (Bs ((t.drop at_).take n)) := by
    have e : ((Bs t).drop at_).take (at_ + n - at_) = Bs ((t.drop at_).take n) := by rw [Nat.add_sub_cancel_left]; simp [Bs, List.map_drop, List.map_take]
    rwa [e] at g2
  have cv := fun k => cK_sl g2' k
  exact ⟨v', h', by simp only [↓s109, ↓nck_p, ↓cP_p, ↓eqP_pn, ↓e0, ↓e1, ↓e2, ↓e3, ↓f0, ↓f1, ↓f2, ↓l0, Bs_len, h1, h2, w1, w2, w3, ↓g1, ↓cv, ↓SD, SA, Int.ofNat_eq_natCast, Int.cast_ofNat_Int, Int.reduceBEq, Int.reduceAdd, Int.reduceNeg, Int.reduceNegSucc, Int.reduceLT, Int.reduceLE, Int.reduceMul, Int.reduceTMod, Int.reduceSub, Int.reduceBNe, Bool.not_true, Bool.not_false, decide_true, decide_false, ne_eq, not_false_eq_true, Int.reduceEq, reduceCtorEq], g2', c', o', o'.wf hw⟩

theorem t63 (hc : Cur h lo b t at_ bad) : s63 [.ptr b 0] h = .ret (.bool (!bad)) h := by
  obtain ⟨v, hs, e0, e1, e2⟩ := hc.open
  simp only [↓s63, ↓nck_p, ↓cP_p, ↓eqP_pn, ↓e0, ↓e1, ↓e2, ↓SD, SA, Int.ofNat_eq_natCast, Int.cast_ofNat_Int, Int.reduceBEq, Int.reduceAdd, Int.reduceNeg, Int.reduceNegSucc, Int.reduceLT, Int.reduceLE, Int.reduceMul, Int.reduceTMod, Int.reduceSub, Int.reduceBNe, Bool.not_true, Bool.not_false, decide_true, decide_false, ne_eq, not_false_eq_true, Int.reduceEq, reduceCtorEq]
theorem t61 (hc : Cur h lo b t at_ bad) : s61 [.ptr b 0] h = .ret (.int 63 ((t.length - at_ : Nat) : Int)) h := by
  obtain ⟨v, hs, e0, e1, e2⟩ := hc.open
  have l0 := fun k => lenL_sl hs k
  have hlen := hc.len
  have hle := hc.le
  have w1 : wrapC 63 ((t.length : Int) - (at_ : Int)) = ((t.length - at_ : Nat) : Int) := by rw [w63_in _ (by omega) (by omega)]; omega
  simp only [↓s61, ↓nck_p, ↓cP_p, ↓eqP_pn, ↓e0, ↓e1, ↓e2, ↓l0, Bs_len, w1, ↓SD, SA, Int.ofNat_eq_natCast, Int.cast_ofNat_Int, Int.reduceBEq, Int.reduceAdd, Int.reduceNeg, Int.reduceNegSucc, Int.reduceLT, Int.reduceLE, Int.reduceMul, Int.reduceTMod, Int.reduceSub, Int.reduceBNe, Bool.not_true, Bool.not_false, decide_true, decide_false, ne_eq, not_false_eq_true, Int.reduceEq, reduceCtorEq]
theorem t43 (hc : Cur h lo b t at_ bad) : s43 [.ptr b 0] h = .ret (.int 63 (at_ : Int)) h := by
  obtain ⟨v, hs, e0, e1, e2⟩ := hc.open
  simp only [↓s43, ↓nck_p, ↓cP_p, ↓eqP_pn, ↓e0, ↓e1, ↓e2, ↓SD, SA, Int.ofNat_eq_natCast, Int.cast_ofNat_Int, Int.reduceBEq, Int.reduceAdd, Int.reduceNeg, Int.reduceNegSucc, Int.reduceLT, Int.reduceLE, Int.reduceMul, Int.reduceTMod, Int.reduceSub, Int.reduceBNe, Bool.not_true, Bool.not_false, decide_true, decide_false, ne_eq, not_false_eq_true, Int.reduceEq, reduceCtorEq]
end
end Go.Proofs.YtnpfppddongbhaaDoor.C
end

section
namespace Go.Proofs.YtnpfppddongbhaaDoor.C
open Go Go.AM
set_option autoImplicit false
set_option linter.unusedSimpArgs false
set_option linter.unusedVariables false
/-- A read that the cursor can do. -/
def okc (t : List Nat) (at_ : Nat) (bad : Bool) (n : Int) : Prop := bad = false ∧ 0 ≤ n ∧ n ≤ (t.length : Int) - at_
instance (t : List Nat) (at_ : Nat) (bad : Bool) (n : Int) : Decidable (okc t at_ bad n) := inferInstanceAs (Decidable (_ ∧ _ ∧ _))
def win (t : List Nat) (at_ : Nat) (bad : Bool) (n : Int) : List Nat := if okc t at_ bad n then (t.drop at_).take n.toNat else []
def nat_ (t : List Nat) (at_ : Nat) (bad : Bool) (n : Int) : Nat := if okc t at_ bad n then at_ + n.toNat else at_
def nbad (t : List Nat) (at_ : Nat) (bad : Bool) (n : Int) : Bool := if okc t at_ bad n then false else true
/-- The number that bytes state, the highest first. -/
def be : List Nat → Nat → Nat
  | [], a => a
  | x :: l, a => be l (a * 256 + x)
theorem Sl_nil (h : Hp) (P : Nat → Prop) : Sl h P .nils (Bs []) := ⟨by simp [Bs], .inl ⟨rfl, rfl⟩⟩
theorem win_byt {t : List Nat} (hb : ∀ x ∈ t, x < 256) (at_ : Nat) (bad : Bool) (n : Int) : ∀ x ∈ win t at_ bad n, x < 256 := by
  intro x hx
  unfold win at hx
  split at hx
  · exact hb x (List.mem_of_mem_drop (List.mem_of_mem_take hx))
  · cases hx
theorem win_len (t : List Nat) (at_ : Nat) (bad : Bool) (n : Int) : (win t at_ bad n).length ≤ n.toNat := by
  unfold win
  split
  · simp; omega
  · simp
theorem win_len2 (t : List Nat) (at_ : Nat) (bad : Bool) (n : Int) : (win t at_ bad n).length ≤ t.length := by
  unfold win
  split
  · simp; omega
  · simp
section
variable {h : Hp} {lo b at_ : Nat} {t : List Nat} {bad : Bool}
theorem t109 (hc : Cur h lo b t at_ bad) (hw : Wf h) (n : Int) :
    ∃ v h', s109 [.ptr b 0, .int 63 n] h = .ret v h' ∧ Sl h' (fun x => lo ≤ x ∧ x < b) v (Bs (win t at_ bad n)) ∧ Cur h' lo b t (nat_ t at_ bad n) (nbad t at_ bad n) ∧ To (At b) h h' ∧ Wf h' := by
  by_cases ho : okc t at_ bad n
  · obtain ⟨rfl, h0, h1⟩ := id ho
    obtain ⟨m, rfl⟩ : ∃ m : Nat, n = (m : Int) := ⟨n.toNat, by omega⟩
    have := hc.le
    have r := t109_ok hc hw m (by omega)
    simp only [win, nat_, nbad, if_pos ho, Int.toNat_natCast]
    exact r
  · obtain ⟨h', e1, e2, e3, e4⟩ := t109_no hc hw n (by
      cases bad with
      | true => exact .inl rfl
      | false =>
        refine .inr ?_
        by_cases h0 : n < 0
        · exact .inl h0
        · refine .inr ?_
          have : ¬ (n ≤ (t.length : Int) - at_) := fun h1 => ho ⟨rfl, by omega, h1⟩
          omega)
    simp only [win, nat_, nbad, if_neg ho]
    exact ⟨.nils, h', e1, Sl_nil _ _, e2, e3, e4⟩

theorem sh8 (m : Int) (k : AV → Res) : iShl (.int 63 m) (.int 64 (.ofNat 8)) k = k (.int 63 (wrapC 63 (m * 256))) := iShl_i k 63 m 64 8 (by decide)
theorem c8 (x : Nat) (hx : x < 256) : wrapC 63 (x : Int) = (x : Int) := w63_in _ (by omega) (by omega)
theorem m8 (a : Nat) (ha : a < 1099511627776) : wrapC 63 ((a : Int) * 256) = ((a * 256 : Nat) : Int) := by rw [w63_in _ (by omega) (by omega)]; omega
theorem or8 (a x : Nat) (ha : a < 1099511627776) (hx : x < 256) : wrapC 63 ((Nat.lor (toU 63 ((a * 256 : Nat) : Int)) (toU 63 (x : Int)) : Nat) : Int) = ((a * 256 + x : Nat) : Int) := by
  have e1 : toU 63 ((a * 256 : Nat) : Int) = a * 256 := by have := toU63 ((a * 256 : Nat) : Int); omega
  have e2 : toU 63 (x : Int) = x := by have := toU63 (x : Int); omega
  have e3 : Nat.lor (a * 256) x = a * 256 + x := by
    have := Nat.two_pow_add_eq_or_of_lt (i := 8) (b := x) (by omega) a
    have e : Nat.lor (a * 256) x = (2 ^ 8 * a) ||| x := by rw [Nat.mul_comm]; rfl
    rw [e, ← this]; omega
  rw [e1, e2, e3]
  exact w63_in _ (by omega) (by omega)
theorem ad8 (a x : Nat) (ha : a < 1099511627776) (hx : x < 256) : wrapC 63 (((a * 256 : Nat) : Int) + (x : Int)) = ((a * 256 + x : Nat) : Int) := by rw [w63_in _ (by omega) (by omega)]; omega
theorem s1n (i : Nat) (hi : i < 1000000) : wrapC 63 ((i : Int) + 1) = ((i + 1 : Nat) : Int) := by rw [w63_in _ (by omega) (by omega)]; omega

theorem loop70 {P : Nat → Prop} {v : AV} {l : List Nat} (hs : Sl h P v (Bs l)) (hl : l.length ≤ 4) (hb : ∀ x ∈ l, x < 256) : ∀ (f m i a : Nat), l.length - i ≤ f → f < m → i ≤ l.length → a < 256 ^ i → lp L87n0 m [.int 63 (a : Int), v, .int 63 (l.length : Int), .int 63 (i : Int)] h = .exit 0 [.int 63 (be (l.drop i) a : Int)] h := by
  have stop : ∀ (f m i a : Nat), f < m → ¬ i < l.length → lp L87n0 m [.int 63 (a : Int), v, .int 63 (l.length : Int), .int 63 (i : Int)] h = .exit 0 [.int 63 (be (l.drop i) a : Int)] h := by
    intro f m i a hm hi
    obtain ⟨m, rfl⟩ : ∃ k, m = k + 1 := ⟨m - 1, by omega⟩
    have e1 : ¬ (i : Int) < (l.length : Int) := by omega
    have e : L87n0 [.int 63 (a : Int), v, .int 63 (l.length : Int), .int 63 (i : Int)] h = .exit 0 [.int 63 (a : Int)] h := by simp only [↓L87n0, e1, ↓SD, SA, Int.ofNat_eq_natCast, Int.cast_ofNat_Int, Int.reduceBEq, Int.reduceAdd, Int.reduceNeg, Int.reduceNegSucc, Int.reduceLT, Int.reduceLE, Int.reduceMul, Int.reduceTMod, Int.reduceSub, Int.reduceBNe, Bool.not_true, Bool.not_false, decide_true, decide_false, ne_eq, not_false_eq_true, Int.reduceEq, reduceCtorEq]
    rw [List.drop_eq_nil_of_le (by omega)]
    exact lpx m e
  intro f
  induction f with
  | zero => intro m i a hf hm hi ha; exact stop 0 m i a hm (by omega)
  | succ f ih =>
    intro m i a hf hm hi ha
    by_cases hin : i < l.length
    · obtain ⟨m, rfl⟩ : ∃ k, m = k + 1 := ⟨m - 1, by omega⟩
      have e1 : (i : Int) < (l.length : Int) := by omega
      have hx : l[i] < 256 := hb _ (List.getElem_mem _)
      have g : (Bs l)[i]'(by rw [Bs_len]; exact hin) = .int 8 (l[i] : Int) := by simp [Bs]
      have iv := fun k => ix_sl hs (c := 63) i (by rw [Bs_len]; exact hin) k
      rw [g] at iv
      have ha' : a < 1099511627776 := Nat.lt_of_lt_of_le ha (Nat.le_trans (Nat.pow_le_pow_right (by omega) (show i ≤ 4 by omega)) (by decide))
      have e : L87n0 [.int 63 (a : Int), v, .int 63 (l.length : Int), .int 63 (i : Int)] h = .norm [.int 63 ((a * 256 + l[i] : Nat) : Int), v, .int 63 (l.length : Int), .int 63 ((i + 1 : Nat) : Int)] h := by
        simp only [↓L87n0, e1, ↓iv, ↓sh8, m8 a ha', c8 _ hx, or8 a _ ha' hx, s1n i (by omega), ↓SD, SA, Int.ofNat_eq_natCast, Int.cast_ofNat_Int, Int.reduceBEq, Int.reduceAdd, Int.reduceNeg, Int.reduceNegSucc, Int.reduceLT, Int.reduceLE, Int.reduceMul, Int.reduceTMod, Int.reduceSub, Int.reduceBNe, Bool.not_true, Bool.not_false, decide_true, decide_false, ne_eq, not_false_eq_true, Int.reduceEq, reduceCtorEq]
      rw [lpn m e]
      have := ih m (i + 1) (a * 256 + l[i]) (by omega) (by omega) (by omega) (by rw [Nat.pow_succ]; omega)
      rw [this]
      have hd : l.drop i = l[i] :: l.drop (i + 1) := List.drop_eq_getElem_cons hin
      rw [hd]; rfl
    · exact stop (f + 1) m i a hm hin

theorem t87 (hc : Cur h lo b t at_ bad) (hw : Wf h) (n : Nat) (hn : n ≤ 4) :
    ∃ h', s87 [.ptr b 0, .int 63 (n : Int)] h = .ret (.int 63 (be (win t at_ bad n) 0 : Int)) h' ∧ Cur h' lo b t (nat_ t at_ bad n) (nbad t at_ bad n) ∧ To (At b) h h' ∧ Wf h' := by
  obtain ⟨v, h', e1, s1, c1, o1, w1⟩ := t109 hc hw (n : Int)
  have hl := win_len t at_ bad n
  have lp0 := loop70 s1 (by omega) (win_byt hc.byt _ _ _) (win t at_ bad n).length most 0 0 (by omega) (show _ < 1000000 by omega) (by omega) (by decide)
  have z0 : ((0 : Nat) : Int) = 0 := rfl
  rw [z0] at lp0
  have l0 := fun k => lenL_sl s1 k
  rw [List.drop_zero] at lp0
  exact ⟨h', by simp only [↓s87, ↓e1, ↓l0, Bs_len, lp0, blk_e, ↓SD, SA, Int.ofNat_eq_natCast, Int.cast_ofNat_Int, Int.reduceBEq, Int.reduceAdd, Int.reduceNeg, Int.reduceNegSucc, Int.reduceLT, Int.reduceLE, Int.reduceMul, Int.reduceTMod, Int.reduceSub, Int.reduceBNe, Bool.not_true, Bool.not_false, decide_true, decide_false, ne_eq, not_false_eq_true, Int.reduceEq, reduceCtorEq]; rfl, c1, o1, w1⟩
theorem t88 (hc : Cur h lo b t at_ bad) (hw : Wf h) :
    ∃ h', s88 [.ptr b 0] h = .ret (.int 63 (be (win t at_ bad 1) 0 : Int)) h' ∧ Cur h' lo b t (nat_ t at_ bad 1) (nbad t at_ bad 1) ∧ To (At b) h h' ∧ Wf h' := by
  obtain ⟨h', e, r⟩ := t87 hc hw 1 (by decide)
  have z0 : ((1 : Nat) : Int) = 1 := rfl
  rw [z0] at e r
  exact ⟨h', by simp only [↓s88, e, ↓SD, SA, Int.ofNat_eq_natCast, Int.cast_ofNat_Int, Int.reduceBEq, Int.reduceAdd, Int.reduceNeg, Int.reduceNegSucc, Int.reduceLT, Int.reduceLE, Int.reduceMul, Int.reduceTMod, Int.reduceSub, Int.reduceBNe, Bool.not_true, Bool.not_false, decide_true, decide_false, ne_eq, not_false_eq_true, Int.reduceEq, reduceCtorEq], r⟩
theorem t62 (hc : Cur h lo b t at_ bad) (hw : Wf h) :
    ∃ h', s62 [.ptr b 0] h = .ret (.int 63 (be (win t at_ bad 2) 0 : Int)) h' ∧ Cur h' lo b t (nat_ t at_ bad 2) (nbad t at_ bad 2) ∧ To (At b) h h' ∧ Wf h' := by
  obtain ⟨h', e, r⟩ := t87 hc hw 2 (by decide)
  have z0 : ((2 : Nat) : Int) = 2 := rfl
  rw [z0] at e r
  exact ⟨h', by simp only [↓s62, e, ↓SD, SA, Int.ofNat_eq_natCast, Int.cast_ofNat_Int, Int.reduceBEq, Int.reduceAdd, Int.reduceNeg, Int.reduceNegSucc, Int.reduceLT, Int.reduceLE, Int.reduceMul, Int.reduceTMod, Int.reduceSub, Int.reduceBNe, Bool.not_true, Bool.not_false, decide_true, decide_false, ne_eq, not_false_eq_true, Int.reduceEq, reduceCtorEq], r⟩
theorem t90 (hc : Cur h lo b t at_ bad) (hw : Wf h) :
    ∃ h', s90 [.ptr b 0] h = .ret (.int 63 (be (win t at_ bad 4) 0 : Int)) h' ∧ Cur h' lo b t (nat_ t at_ bad 4) (nbad t at_ bad 4) ∧ To (At b) h h' ∧ Wf h' := by
  obtain ⟨h', e, r⟩ := t87 hc hw 4 (by decide)
  have z0 : ((4 : Nat) : Int) = 4 := rfl
  rw [z0] at e r
  exact ⟨h', by simp only [↓s90, e, ↓SD, SA, Int.ofNat_eq_natCast, Int.cast_ofNat_Int, Int.reduceBEq, Int.reduceAdd, Int.reduceNeg, Int.reduceNegSucc, Int.reduceLT, Int.reduceLE, Int.reduceMul, Int.reduceTMod, Int.reduceSub, Int.reduceBNe, Bool.not_true, Bool.not_false, decide_true, decide_false, ne_eq, not_false_eq_true, Int.reduceEq, reduceCtorEq], r⟩

/-- Bytes out of a cursor: a copy. -/
theorem t89 (hc : Cur h lo b t at_ bad) (hw : Wf h) (n : Int) :
    ∃ v h', s89 [.ptr b 0, .int 63 n] h = .ret v h' ∧ Sl h' (fun x => h.nb ≤ x ∧ x < h'.nb) v (Bs (win t at_ bad n)) ∧ Cur h' lo b t (nat_ t at_ bad n) (nbad t at_ bad n) ∧ To (At b) h h' ∧ Wf h' := by
  obtain ⟨v, h1, e1, s1, c1, o1, w1⟩ := t109 hc hw n
  have hl := win_len2 t at_ bad n
  obtain ⟨v2, h2, e2, s2, o2, w2⟩ := t66 s1 w1 (by have := hc.len; omega)
  have cv := fun k => cK_sl s2 k
  refine ⟨v2, h2, by simp only [↓s89, ↓e1, ↓e2, ↓cv, ↓SD, SA, Int.ofNat_eq_natCast, Int.cast_ofNat_Int, Int.reduceBEq, Int.reduceAdd, Int.reduceNeg, Int.reduceNegSucc, Int.reduceLT, Int.reduceLE, Int.reduceMul, Int.reduceTMod, Int.reduceSub, Int.reduceBNe, Bool.not_true, Bool.not_false, decide_true, decide_false, ne_eq, not_false_eq_true, Int.reduceEq, reduceCtorEq], s2.mono (fun x hx => ⟨Nat.le_trans o1.nb hx.1, hx.2⟩), c1.to o2 (fun _ _ _ f => f), o1.trans (o2.mono fun _ _ f => f.elim), w2⟩
end
end Go.Proofs.YtnpfppddongbhaaDoor.C
end

section
namespace Go.Proofs.YtnpfppddongbhaaDoor.C
open Go Go.AM
set_option autoImplicit false
set_option linter.unusedSimpArgs false
set_option linter.unusedVariables false
section
variable {h : Hp} {lo b at_ : Nat} {t : List Nat} {bad : Bool}
theorem loop32 (hc : Cur h lo b t at_ bad) (n : Nat) (hn : n ≤ 4) (ht : at_ + n ≤ t.length) : ∀ (f m i a : Nat), n - i ≤ f → f < m → i ≤ n → a < 256 ^ i →
    lp L68n0 m [.ptr b 0, .int 63 (n : Int), .int 63 (a : Int), .int 63 (i : Int)] h = .exit 0 [.ptr b 0, .int 63 (n : Int), .int 63 (be (((t.drop at_).take n).drop i) a : Int)] h := by
  obtain ⟨v, hs, e0, e1, e2⟩ := hc.open
  have hlen := hc.len
  have hll : ((t.drop at_).take n).length = n := by simp; omega
  have stop : ∀ (f m i a : Nat), f < m → ¬ i < n → lp L68n0 m [.ptr b 0, .int 63 (n : Int), .int 63 (a : Int), .int 63 (i : Int)] h = .exit 0 [.ptr b 0, .int 63 (n : Int), .int 63 (be (((t.drop at_).take n).drop i) a : Int)] h := by
    intro f m i a hm hi
    obtain ⟨m, rfl⟩ : ∃ k, m = k + 1 := ⟨m - 1, by omega⟩
    have e3 : ¬ (i : Int) < (n : Int) := by omega
    have e : L68n0 [.ptr b 0, .int 63 (n : Int), .int 63 (a : Int), .int 63 (i : Int)] h = .exit 0 [.ptr b 0, .int 63 (n : Int), .int 63 (a : Int)] h := by simp only [↓L68n0, e3, ↓SD, SA, Int.ofNat_eq_natCast, Int.cast_ofNat_Int, Int.reduceBEq, Int.reduceAdd, Int.reduceNeg, Int.reduceNegSucc, Int.reduceLT, Int.reduceLE, Int.reduceMul, Int.reduceTMod, Int.reduceSub, Int.reduceBNe, Bool.not_true, Bool.not_false, decide_true, decide_false, ne_eq, not_false_eq_true, Int.reduceEq, reduceCtorEq]
    rw [List.drop_eq_nil_of_le (by omega)]
    exact lpx m e
  intro f
  induction f with
  | zero => intro m i a hf hm hi ha; exact stop 0 m i a hm (by omega)
  | succ f ih =>
    intro m i a hf hm hi ha
    by_cases hin : i < n
    · obtain ⟨m, rfl⟩ : ∃ k, m = k + 1 := ⟨m - 1, by omega⟩
      have e3 : (i : Int) < (n : Int) := by omega
      have hit : at_ + i < t.length := by omega
      have hx : t[at_ + i] < 256 := hc.byt _ (List.getElem_mem _)
      have g : (Bs t)[at_ + i]'(by rw [Bs_len]; exact hit) = .int 8 (t[at_ + i] : Int) := by simp [Bs]
      have iv := fun k => ix_sl hs (c := 63) (at_ + i) (by rw [Bs_len]; exact hit) k
      rw [g] at iv
      have ha' : a < 1099511627776 := Nat.lt_of_lt_of_le ha (Nat.le_trans (Nat.pow_le_pow_right (by omega) (show i ≤ 4 by omega)) (by decide))
      have w1 : wrapC 63 ((at_ : Int) + (i : Int)) = ((at_ + i : Nat) : Int) := by rw [w63_in _ (by omega) (by omega)]; omega
      have e : L68n0 [.ptr b 0, .int 63 (n : Int), .int 63 (a : Int), .int 63 (i : Int)] h = .norm [.ptr b 0, .int 63 (n : Int), .int 63 ((a * 256 + t[at_ + i] : Nat) : Int), .int 63 ((i + 1 : Nat) : Int)] h := by
        simp only [↓L68n0, ↓nck_p, ↓cP_p, ↓e0, ↓e1, ↓e2, e3, w1, ↓iv, ↓sh8, m8 a ha', c8 _ hx, ad8 a _ ha' hx, s1n i (by omega), ↓SD, SA, Int.ofNat_eq_natCast, Int.cast_ofNat_Int, Int.reduceBEq, Int.reduceAdd, Int.reduceNeg, Int.reduceNegSucc, Int.reduceLT, Int.reduceLE, Int.reduceMul, Int.reduceTMod, Int.reduceSub, Int.reduceBNe, Bool.not_true, Bool.not_false, decide_true, decide_false, ne_eq, not_false_eq_true, Int.reduceEq, reduceCtorEq]
      rw [lpn m e]
      have := ih m (i + 1) (a * 256 + t[at_ + i]) (by omega) (by omega) (by omega) (by rw [Nat.pow_succ]; omega)
      rw [this]
      have hd : ((t.drop at_).take n).drop i = t[at_ + i] :: ((t.drop at_).take n).drop (i + 1) := by
        rw [List.drop_eq_getElem_cons (by rw [hll]; exact hin)]
        simp
      rw [hd]; rfl
    · exact stop (f + 1) m i a hm hin

theorem t68 (hc : Cur h lo b t at_ bad) (hw : Wf h) (n : Nat) (hn : n ≤ 4) :
    ∃ h', s68 [.ptr b 0, .int 63 (n : Int)] h = .ret (.int 63 (be (win t at_ bad n) 0 : Int)) h' ∧ Cur h' lo b t (nat_ t at_ bad n) (nbad t at_ bad n) ∧ To (At b) h h' ∧ Wf h' := by
  obtain ⟨v, hs, e0, e1, e2⟩ := hc.open
  have l0 := fun k => lenL_sl hs k
  have hlen := hc.len
  have hle := hc.le
  have w1 : wrapC 63 ((t.length : Int) - (at_ : Int)) = (t.length : Int) - (at_ : Int) := w63_in _ (by omega) (by omega)
  have z0 : ((0 : Nat) : Int) = 0 := rfl
  by_cases ho : okc t at_ bad (n : Int)
  · obtain ⟨rfl, h0, h1⟩ := id ho
    obtain ⟨h', e3, c', o'⟩ := hc.move (at_ + n) (by omega)
    have w2 : wrapC 63 ((at_ : Int) + (n : Int)) = ((at_ + n : Nat) : Int) := by rw [w63_in _ (by omega) (by omega)]; omega
    have h2 : ¬ (t.length : Int) - at_ < (n : Int) := by omega
    have lp0 := loop32 hc n hn (by omega) n most 0 0 (by omega) (show _ < 1000000 by omega) (by omega) (by decide)
    rw [z0, List.drop_zero] at lp0
    simp only [win, nat_, nbad, if_pos ho, Int.toNat_natCast]
    refine ⟨h', ?_, c', o', o'.wf hw⟩
    simp only [↓s68, ↓nck_p, ↓cP_p, ↓eqP_pn, ↓e0, ↓e1, ↓e2, ↓e3, ↓l0, Bs_len, h2, w1, w2, lp0, blk_e, ↓SD, SA, Int.ofNat_eq_natCast, Int.cast_ofNat_Int, Int.reduceBEq, Int.reduceAdd, Int.reduceNeg, Int.reduceNegSucc, Int.reduceLT, Int.reduceLE, Int.reduceMul, Int.reduceTMod, Int.reduceSub, Int.reduceBNe, Bool.not_true, Bool.not_false, decide_true, decide_false, ne_eq, not_false_eq_true, Int.reduceEq, reduceCtorEq]
    simp only [show Nat.beq 0 0 = true from rfl, ↓nck_p, ↓cP_p, ↓e0, ↓e1, ↓e2, ↓e3, w2, ↓SD, SA, Int.ofNat_eq_natCast, Int.cast_ofNat_Int, Int.reduceBEq, Int.reduceAdd, Int.reduceNeg, Int.reduceNegSucc, Int.reduceLT, Int.reduceLE, Int.reduceMul, Int.reduceTMod, Int.reduceSub, Int.reduceBNe, Bool.not_true, Bool.not_false, decide_true, decide_false, ne_eq, not_false_eq_true, Int.reduceEq, reduceCtorEq]
  · obtain ⟨h', e3, c', o'⟩ := hc.fall
    simp only [win, nat_, nbad, if_neg ho]
    refine ⟨h', ?_, c', o', o'.wf hw⟩
    cases bad with
    | true => simp only [↓s68, ↓nck_p, ↓cP_p, ↓eqP_pn, ↓e0, ↓e1, ↓e2, ↓e3, ↓l0, Bs_len, ↓SD, SA, Int.ofNat_eq_natCast, Int.cast_ofNat_Int, Int.reduceBEq, Int.reduceAdd, Int.reduceNeg, Int.reduceNegSucc, Int.reduceLT, Int.reduceLE, Int.reduceMul, Int.reduceTMod, Int.reduceSub, Int.reduceBNe, Bool.not_true, Bool.not_false, decide_true, decide_false, ne_eq, not_false_eq_true, Int.reduceEq, reduceCtorEq]; rfl
    | false =>
      have h2 : (t.length : Int) - at_ < (n : Int) := by
        have : ¬ ((n : Int) ≤ (t.length : Int) - at_) := fun h1 => ho ⟨rfl, by omega, h1⟩
        omega
      simp only [↓s68, ↓nck_p, ↓cP_p, ↓eqP_pn, ↓e0, ↓e1, ↓e2, ↓e3, ↓l0, Bs_len, h2, w1, ↓SD, SA, Int.ofNat_eq_natCast, Int.cast_ofNat_Int, Int.reduceBEq, Int.reduceAdd, Int.reduceNeg, Int.reduceNegSucc, Int.reduceLT, Int.reduceLE, Int.reduceMul, Int.reduceTMod, Int.reduceSub, Int.reduceBNe, Bool.not_true, Bool.not_false, decide_true, decide_false, ne_eq, not_false_eq_true, Int.reduceEq, reduceCtorEq]; rfl

theorem t69 (hc : Cur h lo b t at_ bad) (hw : Wf h) (n : Int) :
    ∃ v h', s69 [.ptr b 0, .int 63 n] h = .ret v h' ∧ Sl h' (fun x => lo ≤ x ∧ x < b) v (Bs (win t at_ bad n)) ∧ Cur h' lo b t (nat_ t at_ bad n) (nbad t at_ bad n) ∧ To (At b) h h' ∧ Wf h' := by
  obtain ⟨v, hs, e0, e1, e2⟩ := hc.open
  have l0 := fun k => lenL_sl hs k
  have hlen := hc.len
  have hle := hc.le
  have w1 : wrapC 63 ((t.length : Int) - (at_ : Int)) = (t.length : Int) - (at_ : Int) := w63_in _ (by omega) (by omega)
  by_cases ho : okc t at_ bad n
  · obtain ⟨rfl, h0, h1⟩ := id ho
    obtain ⟨n, rfl⟩ : ∃ m : Nat, n = (m : Int) := ⟨n.toNat, by omega⟩
    obtain ⟨h', e3, c', o'⟩ := hc.move (at_ + n) (by omega)
    have w2 : wrapC 63 ((at_ : Int) + (n : Int)) = ((at_ + n : Nat) : Int) := by rw [w63_in _ (by omega) (by omega)]; omega
    have h2 : ¬ (t.length : Int) - at_ < (n : Int) := by omega
    have h3 : ¬ (n : Int) < 0 := by omega
    obtain ⟨v', g1, g2⟩ := cut_sl hs (c1 := 63) (c2 := 63) at_ (at_ + n) (by omega) (by rw [Bs_len]; omega)
    have g2' : Sl h (fun x => lo ≤ x ∧ x < b) v' (Bs ((t.drop at_).take n)) := by
      have e : ((Bs t).drop at_).take (at_ + n - at_) = Bs ((t.drop at_).take n) := by rw [Nat.add_sub_cancel_left]; simp [Bs, List.map_drop, List.map_take]
      rwa [e] at g2
    have cv := fun k => cK_sl g2' k
    simp only [win, nat_, nbad, if_pos ho, Int.toNat_natCast]
    refine ⟨v', h', ?_, g2'.to o' (fun x hx e => by have : x = b := e; omega), c', o', o'.wf hw⟩
    simp only [↓s69, ↓nck_p, ↓cP_p, ↓eqP_pn, ↓e0, ↓e1, ↓e2, ↓e3, ↓l0, Bs_len, h2, h3, w1, w2, ↓g1, ↓cv, ↓SD, SA, Int.ofNat_eq_natCast, Int.cast_ofNat_Int, Int.reduceBEq, Int.reduceAdd, Int.reduceNeg, Int.reduceNegSucc, Int.reduceLT, Int.reduceLE, Int.reduceMul, Int.reduceTMod, Int.reduceSub, Int.reduceBNe, Bool.not_true, Bool.not_false, decide_true, decide_false, ne_eq, not_false_eq_true, Int.reduceEq, reduceCtorEq]
  · obtain ⟨h', e3, c', o'⟩ := hc.fall
    simp only [win, nat_, nbad, if_neg ho]
    refine ⟨.nils, h', ?_, Sl_nil _ _, c', o', o'.wf hw⟩
    cases bad with
    | true => simp only [↓s69, ↓nck_p, ↓cP_p, ↓eqP_pn, ↓e0, ↓e1, ↓e2, ↓e3, ↓l0, Bs_len, ↓SD, SA, Int.ofNat_eq_natCast, Int.cast_ofNat_Int, Int.reduceBEq, Int.reduceAdd, Int.reduceNeg, Int.reduceNegSucc, Int.reduceLT, Int.reduceLE, Int.reduceMul, Int.reduceTMod, Int.reduceSub, Int.reduceBNe, Bool.not_true, Bool.not_false, decide_true, decide_false, ne_eq, not_false_eq_true, Int.reduceEq, reduceCtorEq]; rfl
    | false =>
      by_cases h1 : n < 0
      · simp only [↓s69, ↓nck_p, ↓cP_p, ↓eqP_pn, ↓e0, ↓e1, ↓e2, ↓e3, ↓l0, Bs_len, h1, ↓SD, SA, Int.ofNat_eq_natCast, Int.cast_ofNat_Int, Int.reduceBEq, Int.reduceAdd, Int.reduceNeg, Int.reduceNegSucc, Int.reduceLT, Int.reduceLE, Int.reduceMul, Int.reduceTMod, Int.reduceSub, Int.reduceBNe, Bool.not_true, Bool.not_false, decide_true, decide_false, ne_eq, not_false_eq_true, Int.reduceEq, reduceCtorEq]; rfl
      · have h2 : (t.length : Int) - at_ < n := by
          have : ¬ (n ≤ (t.length : Int) - at_) := fun h3 => ho ⟨rfl, by omega, h3⟩
          omega
        simp only [↓s69, ↓nck_p, ↓cP_p, ↓eqP_pn, ↓e0, ↓e1, ↓e2, ↓e3, ↓l0, Bs_len, h1, h2, w1, ↓SD, SA, Int.ofNat_eq_natCast, Int.cast_ofNat_Int, Int.reduceBEq, Int.reduceAdd, Int.reduceNeg, Int.reduceNegSucc, Int.reduceLT, Int.reduceLE, Int.reduceMul, Int.reduceTMod, Int.reduceSub, Int.reduceBNe, Bool.not_true, Bool.not_false, decide_true, decide_false, ne_eq, not_false_eq_true, Int.reduceEq, reduceCtorEq]; rfl
end
theorem cut_lo0 (z : Nat) (x : AV) (hi : Option AV) (k : AV → Res) : cutS z x none hi none k = cutS z x (some (.int 63 ((0 : Nat) : Int))) hi none k := by cases x <;> rfl
theorem t40 {h : Hp} {P : Nat → Prop} {v : AV} {t : List Nat} (hs : Sl h P v (Bs t)) (n : Nat) (ht : t.length ≤ 9223372036854775807) : ∃ v', s40 [v, .int 63 (n : Int)] h = .ret v' h ∧ Sl h P v' (Bs (t.take n)) := by
  have l0 := fun k => lenL_sl hs k
  have cv := fun k => cK_sl hs k
  by_cases hl : n < t.length
  · obtain ⟨v', g1, g2⟩ := cut_sl hs (c1 := 63) (c2 := 63) 0 n (by omega) (by rw [Bs_len]; omega)
    have e : (((Bs t).drop 0).take (n - 0)) = Bs (t.take n) := by simp [Bs, List.map_take]
    rw [e] at g2
    have cv' := fun k => cK_sl g2 k
    have h1 : (n : Int) < (t.length : Int) := by omega
    exact ⟨v', by simp only [↓s40, ↓l0, Bs_len, h1, ↓cut_lo0, ↓g1, ↓cv', ↓SD, SA, Int.ofNat_eq_natCast, Int.cast_ofNat_Int, Int.reduceBEq, Int.reduceAdd, Int.reduceNeg, Int.reduceNegSucc, Int.reduceLT, Int.reduceLE, Int.reduceMul, Int.reduceTMod, Int.reduceSub, Int.reduceBNe, Bool.not_true, Bool.not_false, decide_true, decide_false, ne_eq, not_false_eq_true, Int.reduceEq, reduceCtorEq], g2⟩
  · have h1 : ¬ (n : Int) < (t.length : Int) := by omega
    rw [List.take_of_length_le (by omega)]
    exact ⟨v, by simp only [↓s40, ↓l0, Bs_len, h1, ↓cv, ↓SD, SA, Int.ofNat_eq_natCast, Int.cast_ofNat_Int, Int.reduceBEq, Int.reduceAdd, Int.reduceNeg, Int.reduceNegSucc, Int.reduceLT, Int.reduceLE, Int.reduceMul, Int.reduceTMod, Int.reduceSub, Int.reduceBNe, Bool.not_true, Bool.not_false, decide_true, decide_false, ne_eq, not_false_eq_true, Int.reduceEq, reduceCtorEq], hs⟩
end Go.Proofs.YtnpfppddongbhaaDoor.C
end

section
namespace Go.Proofs.YtnpfppddongbhaaDoor.C
open Go Go.AM
set_option autoImplicit false
set_option linter.unusedSimpArgs false
set_option linter.unusedVariables false
theorem Sl.low {h : Hp} {N : Nat} {v : AV} {l : List AV} (hs : Sl h (fun b => N ≤ b) v l) : Sl h (fun b => N ≤ b ∧ b < h.nb) v l := by
  obtain ⟨h1, h2⟩ := hs
  refine ⟨h1, ?_⟩
  rcases h2 with h2 | h2 | ⟨b, o, c, B, h2, h3, h4, h5, hc, h6⟩
  · exact .inl h2
  · exact .inr (.inl h2)
  · exact .inr (.inr ⟨b, o, c, B, h2, ⟨h3, h4.lt⟩, h4, fun hf => ⟨h5 hf, (h4.grp hf).1⟩, hc, h6⟩)
/-- A row of bytes of its own, from block N on. -/
def Row (h : Hp) (N : Nat) (v : AV) (t : List Nat) : Prop :=
  (t = [] ∧ Sl h (fun b => N ≤ b ∧ b < h.nb) v (Bs [])) ∨ ∃ b B, v = .sl b 0 t.length 1 none ∧ Own h b B ∧ B.lim = t.length ∧ N ≤ b ∧ ∀ i (hi : i < t.length), B.at i = .int 8 (t[i] : Int)
theorem Row.sl {h : Hp} {N : Nat} {v : AV} {t : List Nat} (hr : Row h N v t) : Sl h (fun b => N ≤ b ∧ b < h.nb) v (Bs t) := by
  rcases hr with ⟨rfl, hr⟩ | ⟨b, B, rfl, o, hl, hN, hat⟩
  · exact hr
  · refine ⟨Bs_one _, .inr (.inr ⟨b, 0, none, B, by rw [Bs_len], ⟨hN, o.lt⟩, o.rd, fun _ => by rw [o.g]; exact ⟨hN, o.lt⟩, (fun c e => by cases e), fun i hi => ?_⟩)⟩
    rw [Bs_len] at hi
    rw [Nat.zero_add, hat i hi]
    simp [Bs]
theorem Row.to {W : Nat → Prop} {h h' : Hp} {N : Nat} {v : AV} {t : List Nat} (hr : Row h N v t) (ht : To W h h') (hd : ∀ b, N ≤ b → b < h.nb → ¬ W b) : Row h' N v t := by
  rcases hr with ⟨rfl, hr⟩ | ⟨b, B, rfl, o, hl, hN, hat⟩
  · exact .inl ⟨rfl, (hr.to ht (fun b hb => hd b hb.1 hb.2)).mono fun b hb => ⟨hb.1, Nat.lt_of_lt_of_le hb.2 ht.nb⟩⟩
  · exact .inr ⟨b, B, rfl, o.to ht (hd b hN o.lt), hl, hN, hat⟩
theorem Row.mono {h : Hp} {N M : Nat} {v : AV} {t : List Nat} (hr : Row h N v t) (hM : M ≤ N) : Row h M v t := by
  rcases hr with ⟨rfl, hr⟩ | ⟨b, B, rfl, o, hl, hN, hat⟩
  · exact .inl ⟨rfl, hr.mono fun b hb => ⟨Nat.le_trans hM hb.1, hb.2⟩⟩
  · exact .inr ⟨b, B, rfl, o, hl, Nat.le_trans hM hN, hat⟩
theorem grown_own {h : Hp} (hw : Wf h) (t : List Nat) :
    ∃ b h', (∀ k : AV → Hp → Res, grown h 1 t.length (avL (Bs t)) k = k (.sl b 0 t.length 1 none) h') ∧ Row h' h.nb (.sl b 0 t.length 1 none) t ∧ To No h h' ∧ Wf h' := by
  obtain ⟨tr, h1, h2⟩ := lay_list (Bs t) .e 0 (Bs_one t)
  have e2 : Nat.beq (0 + (Bs t).length) (Nat.mul t.length 1) = true := by rw [beq_iff, Bs_len]; show 0 + t.length = t.length * 1; omega
  have hrun : ∀ k : AV → Hp → Res, grown h 1 t.length (avL (Bs t)) k = k (.sl h.nb 0 t.length 1 none) (nw h (0 + (Bs t).length) .nil tr) := fun k => by
    have e : grown h 1 t.length (avL (Bs t)) k = lay (avL (Bs t)) .e 0 fun t' j => ifB (Nat.beq j (Nat.mul t.length 1)) (k (.sl h.nb 0 t.length 1 none) (nw h j .nil t')) .fail := rfl
    rw [e, h1, e2, ifB_t]
  obtain ⟨o1, o2⟩ := nw_own hw (0 + (Bs t).length) .nil tr
  refine ⟨h.nb, _, hrun, .inr ⟨h.nb, _, rfl, o1, by show 0 + (Bs t).length = _; rw [Bs_len]; omega, Nat.le_refl _, fun i hi => ?_⟩, o2, o2.wf hw⟩
  rw [at_in _ (show i < 0 + (Bs t).length by rw [Bs_len]; omega)]
  simp only [h2 i]
  rw [dif_pos ⟨by omega, by rw [Bs_len]; omega⟩]
  simp [Bs]
theorem t66o {h : Hp} {P : Nat → Prop} {v : AV} {t : List Nat} (hs : Sl h P v (Bs t)) (hw : Wf h) (ht : t.length ≤ 100000) :
    ∃ v' h', s66 [v] h = .ret v' h' ∧ Row h' h.nb v' t ∧ To No h h' ∧ Wf h' := by
  by_cases h0 : t = []
  · subst h0
    obtain ⟨v', h', e, s, o, w⟩ := t66 hs hw ht
    exact ⟨v', h', e, .inl ⟨rfl, s⟩, o, w⟩
  · obtain ⟨b, e1, e2⟩ := eqL_nil hs (fun b2 => cB (.bool b2) fun b3 => ifB b3 (cK .nils fun v4 => .ret v4 h) (bld [] fun l5 => mkS h 1 0 l5 fun v6 h7 => apd h7 1 1 v6 v fun v8 h9 => cK v8 fun v10 => .ret v10 h9))
    have e0 : s66 [v] h = eqL v .nils (fun b2 => cB (.bool b2) fun b3 => ifB b3 (cK .nils fun v4 => .ret v4 h) (bld [] fun l5 => mkS h 1 0 l5 fun v6 h7 => apd h7 1 1 v6 v fun v8 h9 => cK v8 fun v10 => .ret v10 h9)) := rfl
    rw [e0, e1]
    cases b with
    | true =>
      have := e2 rfl
      exact absurd (List.map_eq_nil_iff.1 this) h0
    | false =>
      obtain ⟨o1, o2⟩ := nw_own hw 0 .nil .e
      have w1 := o2.wf hw
      obtain ⟨b, h', g1, g2, g3, g4⟩ := grown_own w1 t
      have hy := hs.to o2 (fun _ _ f => f)
      have hpos : t.length ≠ 0 := fun h => h0 (List.eq_nil_of_length_eq_zero h)
      have q1 : Nat.beq t.length 0 = false := by rw [Bool.eq_false_iff, ne_eq, beq_iff]; exact hpos
      have q2 : Nat.ble (Nat.mul (Nat.add 0 t.length) 1) 140737488355328 = true := by rw [ble_iff]; show (0 + t.length) * 1 ≤ _; omega
      have q3 : Nat.ble (Nat.add 0 t.length) 9223372036854775807 = true := by rw [ble_iff]; show 0 + t.length ≤ _; omega
      have q4 : Nat.ble (Nat.add 0 t.length) 0 = false := by rw [Bool.eq_false_iff, ne_eq, ble_iff]; show ¬ 0 + t.length ≤ 0; omega
      have run : ∀ k : AV → Hp → Res, apd (nw h 0 .nil .e) 1 1 (.sl h.nb 0 0 1 (some 0)) v k = k (.sl b 0 t.length 1 none) h' := fun k => by
        unfold apd
        rw [src_sl hy, Bs_len]
        show ifB (Nat.beq 1 1) (ifB (Nat.beq t.length 0) _ (ifB (Nat.ble (Nat.mul (Nat.add 0 t.length) 1) 140737488355328) (ifB (Nat.ble (Nat.add 0 t.length) 9223372036854775807) (ifB (Nat.ble (Nat.add 0 t.length) 0) _ (gb (nw h 0 .nil .e) h.nb fun B => rds B (Nat.mul 0 1) 0 fun old => grown (nw h 0 .nil .e) 1 (Nat.add 0 t.length) (app old (avL (Bs t))) k)) .fail) .fail)) .fail = _
        have e0 : Nat.add 0 t.length = t.length := Nat.zero_add _
        rw [q2, q3, q4, q1, e0]
        show (gb (nw h 0 .nil .e) h.nb fun B => rds B (Nat.mul 0 1) 0 fun old => grown (nw h 0 .nil .e) 1 t.length (app old (avL (Bs t))) k) = _
        rw [gb_rd o1.rd]
        exact g1 k
      refine ⟨_, h', ?_, g2.mono (Nat.le_of_lt (Nat.lt_succ_self _)), o2.trans g3, g4⟩
      show (apd (nw h 0 .nil .e) 1 1 (.sl h.nb 0 0 1 (some 0)) v fun v8 h9 => cK v8 fun v10 => .ret v10 h9) = _
      rw [run]
      rfl
theorem t89o {h : Hp} {lo b at_ : Nat} {t : List Nat} {bad : Bool} (hc : Cur h lo b t at_ bad) (hw : Wf h) (n : Int) :
    ∃ v h', s89 [.ptr b 0, .int 63 n] h = .ret v h' ∧ Row h' h.nb v (win t at_ bad n) ∧ Cur h' lo b t (nat_ t at_ bad n) (nbad t at_ bad n) ∧ To (At b) h h' ∧ Wf h' := by
  obtain ⟨v, h1, e1, s1, c1, o1, w1⟩ := t109 hc hw n
  have hl := win_len2 t at_ bad n
  obtain ⟨v2, h2, e2, s2, o2, w2⟩ := t66o s1 w1 (by have := hc.len; omega)
  have cv := fun k => cK_sl s2.sl k
  refine ⟨v2, h2, by simp only [↓s89, ↓e1, ↓e2, ↓cv, ↓SD, SA, Int.ofNat_eq_natCast, Int.cast_ofNat_Int, Int.reduceBEq, Int.reduceAdd, Int.reduceNeg, Int.reduceNegSucc, Int.reduceLT, Int.reduceLE, Int.reduceMul, Int.reduceTMod, Int.reduceSub, Int.reduceBNe, Bool.not_true, Bool.not_false, decide_true, decide_false, ne_eq, not_false_eq_true, Int.reduceEq, reduceCtorEq], s2.mono o1.nb, c1.to o2 (fun _ _ _ f => f), o1.trans (o2.mono fun _ _ f => f.elim), w2⟩
end Go.Proofs.YtnpfppddongbhaaDoor.C
end

section
namespace Go.Proofs.YtnpfppddongbhaaDoor
open Go Go.AM
set_option autoImplicit false
set_option linter.unusedSimpArgs false
set_option linter.unusedVariables false
/-! ### entries of a pool: values of five cells -/
structure Cn where
  tag : Nat
  tx : List UInt8
  num : Int
  a : Nat
  b : Nat
def cn0 : Cn := ⟨0, [], 0, 0, 0⟩
noncomputable def cnL (t : Cn) : List AV := [.int 63 (t.tag : Int), S t.tx, .int 63 t.num, .int 63 (t.a : Int), .int 63 (t.b : Int)]
noncomputable def cnV (t : Cn) : AV := .agg (avL (cnL t))
theorem cnL_one (t : Cn) : ∀ v ∈ cnL t, one v = true := by
  intro v hv
  simp only [cnL, List.mem_cons, List.not_mem_nil, or_false] at hv
  rcases hv with rfl | rfl | rfl | rfl | rfl <;> rfl
theorem cK_cn (t : Cn) (k : AV → Res) : cK (cnV t) k = k (cnV t) := rfl
/-- The variable b holds the entry t. -/
def Cel5 (h : Hp) (b : Nat) (t : Cn) : Prop := ∃ B, Own h b B ∧ B.lim = 5 ∧ B.at 0 = .int 63 (t.tag : Int) ∧ B.at 1 = S t.tx ∧ B.at 2 = .int 63 t.num ∧ B.at 3 = .int 63 (t.a : Int) ∧ B.at 4 = .int 63 (t.b : Int)
theorem Cel5.to {h h' : Hp} {b : Nat} {t : Cn} {W : Nat → Prop} (hc : Cel5 h b t) (ht : To W h h') (hw : ¬ W b) : Cel5 h' b t := by
  obtain ⟨B, o, r⟩ := hc
  exact ⟨B, o.to ht hw, r⟩
theorem Cel5.lt {h : Hp} {b : Nat} {t : Cn} (hc : Cel5 h b t) : b < h.nb := by obtain ⟨B, o, r⟩ := hc; exact o.lt
theorem cn_mk {h : Hp} (hw : Wf h) (t : Cn) : ∃ h', (∀ k : AV → Hp → Res, mk h (avL (cnL t)) k = k (.ptr h.nb 0) h') ∧ Cel5 h' h.nb t ∧ To No h h' ∧ Wf h' ∧ h'.nb = h.nb + 1 := by
  obtain ⟨h', B, m1, m2, m3, m4, m5, m6, m7⟩ := mk_own hw (cnL t) (cnL_one t)
  exact ⟨h', m1, ⟨B, m2, m3, m4 0 (by simp [cnL]), m4 1 (by simp [cnL]), m4 2 (by simp [cnL]), m4 3 (by simp [cnL]), m4 4 (by simp [cnL])⟩, m5, m6, m7⟩
theorem cn0_mk {h : Hp} (hw : Wf h) : ∃ h', (∀ k : AV → Hp → Res, mk h (.cons (.int 63 (.ofNat 0)) (.cons (.str 0 0) (.cons (.int 63 (.ofNat 0)) (.cons (.int 63 (.ofNat 0)) (.cons (.int 63 (.ofNat 0)) .nil))))) k = k (.ptr h.nb 0) h') ∧ (∀ k : AV → Hp → Res, mk h (.cons (.int 63 0) (.cons (.str 0 0) (.cons (.int 63 0) (.cons (.int 63 0) (.cons (.int 63 0) .nil))))) k = k (.ptr h.nb 0) h') ∧ Cel5 h' h.nb cn0 ∧ To No h h' ∧ Wf h' ∧ h'.nb = h.nb + 1 := by
  obtain ⟨h', m1, r⟩ := cn_mk hw cn0
  exact ⟨h', fun k => m1 k, fun k => m1 k, r⟩
theorem cn_cells {h : Hp} (hw : Wf h) (t : Cn) : ∃ h', (∀ k : AV → Hp → Res, mk h (cells (cnV t)) k = k (.ptr h.nb 0) h') ∧ Cel5 h' h.nb t ∧ To No h h' ∧ Wf h' ∧ h'.nb = h.nb + 1 := by
  obtain ⟨h', m1, r⟩ := cn_mk hw t
  exact ⟨h', fun k => m1 k, r⟩
theorem Cel5.st {h : Hp} {b : Nat} {t0 : Cn} (hw : Wf h) (hc : Cel5 h b t0) (t : Cn) : ∃ h', (∀ k : Hp → Res, stN h 5 (.ptr b 0) (cnV t) k = k h') ∧ Cel5 h' b t ∧ To (At b) h h' ∧ Wf h' ∧ h'.nb = h.nb := by
  obtain ⟨B, o, hl, -⟩ := hc
  obtain ⟨h', B', s1, s2, s3, s4, s5, s6⟩ := stN_own (o := 0) (l := cnL t) o (by simp [cnL]; omega) (cnL_one t)
  have hat : ∀ i (hi : i < 5), B'.at i = (cnL t)[i]'(by simpa [cnL] using hi) := fun i hi => by
    rw [s4, dif_pos ⟨Nat.zero_le _, by simpa [cnL] using hi⟩]; rfl
  exact ⟨h', s1, ⟨B', s2, by rw [s3, hl], hat 0 (by decide), hat 1 (by decide), hat 2 (by decide), hat 3 (by decide), hat 4 (by decide)⟩, s5, s5.wf hw, s6⟩
theorem Cel5.ld {h : Hp} {b : Nat} {t : Cn} (hc : Cel5 h b t) (k : AV → Res) : ldN h 5 (.ptr b 0) k = k (cnV t) := by
  obtain ⟨B, o, hl, a0, a1, a2, a3, a4⟩ := hc
  refine ldN_rd (l := cnL t) o.rd (fun i hi => ?_) (fun v hv => one_unk (cnL_one t v hv)) k
  rw [Nat.zero_add]
  have hi : i < 5 := hi
  match i, hi with
  | 0, _ => exact a0
  | 1, _ => exact a1
  | 2, _ => exact a2
  | 3, _ => exact a3
  | 4, _ => exact a4
theorem Cel5.l0 {h : Hp} {b : Nat} {t : Cn} (hc : Cel5 h b t) (k : AV → Res) : ld1 h (.ptr b (Nat.add 0 0)) k = k (.int 63 (t.tag : Int)) := by
  obtain ⟨B, o, hl, a0, a1, a2, a3, a4⟩ := hc
  exact ld1_rd o.rd a0 k
theorem Cel5.l1 {h : Hp} {b : Nat} {t : Cn} (hc : Cel5 h b t) (k : AV → Res) : ld1 h (.ptr b (Nat.add 0 1)) k = k (S t.tx) := by
  obtain ⟨B, o, hl, a0, a1, a2, a3, a4⟩ := hc
  exact ld1_rd o.rd a1 k
theorem Cel5.l2 {h : Hp} {b : Nat} {t : Cn} (hc : Cel5 h b t) (k : AV → Res) : ld1 h (.ptr b (Nat.add 0 2)) k = k (.int 63 t.num) := by
  obtain ⟨B, o, hl, a0, a1, a2, a3, a4⟩ := hc
  exact ld1_rd o.rd a2 k
theorem Cel5.l3 {h : Hp} {b : Nat} {t : Cn} (hc : Cel5 h b t) (k : AV → Res) : ld1 h (.ptr b (Nat.add 0 3)) k = k (.int 63 (t.a : Int)) := by
  obtain ⟨B, o, hl, a0, a1, a2, a3, a4⟩ := hc
  exact ld1_rd o.rd a3 k
theorem Cel5.l4 {h : Hp} {b : Nat} {t : Cn} (hc : Cel5 h b t) (k : AV → Res) : ld1 h (.ptr b (Nat.add 0 4)) k = k (.int 63 (t.b : Int)) := by
  obtain ⟨B, o, hl, a0, a1, a2, a3, a4⟩ := hc
  exact ld1_rd o.rd a4 k
theorem Cel5.s1 {h : Hp} {b : Nat} {t : Cn} (hw : Wf h) (hc : Cel5 h b t) (x : List UInt8) : ∃ h', (∀ k : Hp → Res, st1 h (.ptr b (Nat.add 0 1)) (S x) k = k h') ∧ Cel5 h' b { t with tx := x } ∧ To (At b) h h' ∧ Wf h' ∧ h'.nb = h.nb := by
  obtain ⟨B, o, hl, a0, a1, a2, a3, a4⟩ := hc
  obtain ⟨h', s1, s2, s3, s4⟩ := st1_own (o := 1) (v := S x) o (by omega) rfl
  refine ⟨h', s1, ⟨_, s2, hl, ?_, ?_, ?_, ?_, ?_⟩, s3, s3.wf hw, s4⟩ <;> rw [setC_at (by omega)] <;> first | rfl | assumption
theorem Cel5.s2 {h : Hp} {b : Nat} {t : Cn} (hw : Wf h) (hc : Cel5 h b t) (x : Int) : ∃ h', (∀ k : Hp → Res, st1 h (.ptr b (Nat.add 0 2)) (.int 63 x) k = k h') ∧ Cel5 h' b { t with num := x } ∧ To (At b) h h' ∧ Wf h' ∧ h'.nb = h.nb := by
  obtain ⟨B, o, hl, a0, a1, a2, a3, a4⟩ := hc
  obtain ⟨h', s1, s2, s3, s4⟩ := st1_own (o := 2) (v := .int 63 x) o (by omega) rfl
  refine ⟨h', s1, ⟨_, s2, hl, ?_, ?_, ?_, ?_, ?_⟩, s3, s3.wf hw, s4⟩ <;> rw [setC_at (by omega)] <;> first | rfl | assumption
theorem Cel5.s3 {h : Hp} {b : Nat} {t : Cn} (hw : Wf h) (hc : Cel5 h b t) (x : Nat) : ∃ h', (∀ k : Hp → Res, st1 h (.ptr b (Nat.add 0 3)) (.int 63 (x : Int)) k = k h') ∧ Cel5 h' b { t with a := x } ∧ To (At b) h h' ∧ Wf h' ∧ h'.nb = h.nb := by
  obtain ⟨B, o, hl, a0, a1, a2, a3, a4⟩ := hc
  obtain ⟨h', s1, s2, s3, s4⟩ := st1_own (o := 3) (v := .int 63 (x : Int)) o (by omega) rfl
  refine ⟨h', s1, ⟨_, s2, hl, ?_, ?_, ?_, ?_, ?_⟩, s3, s3.wf hw, s4⟩ <;> rw [setC_at (by omega)] <;> first | rfl | assumption
theorem Cel5.s4 {h : Hp} {b : Nat} {t : Cn} (hw : Wf h) (hc : Cel5 h b t) (x : Nat) : ∃ h', (∀ k : Hp → Res, st1 h (.ptr b (Nat.add 0 4)) (.int 63 (x : Int)) k = k h') ∧ Cel5 h' b { t with b := x } ∧ To (At b) h h' ∧ Wf h' ∧ h'.nb = h.nb := by
  obtain ⟨B, o, hl, a0, a1, a2, a3, a4⟩ := hc
  obtain ⟨h', s1, s2, s3, s4⟩ := st1_own (o := 4) (v := .int 63 (x : Int)) o (by omega) rfl
  refine ⟨h', s1, ⟨_, s2, hl, ?_, ?_, ?_, ?_, ?_⟩, s3, s3.wf hw, s4⟩ <;> rw [setC_at (by omega)] <;> first | rfl | assumption
theorem bl5z (k : AV → Res) : bld [(false, 1, (.int 63 (.ofNat 0))), (false, 1, (.str 0 0)), (false, 1, (.int 63 (.ofNat 0))), (false, 1, (.int 63 (.ofNat 0))), (false, 1, (.int 63 (.ofNat 0)))] k = k (avL (cnL cn0)) := rfl
theorem bl5z' (k : AV → Res) : bld [(false, 1, (.int 63 0)), (false, 1, (.str 0 0)), (false, 1, (.int 63 0)), (false, 1, (.int 63 0)), (false, 1, (.int 63 0))] k = k (avL (cnL cn0)) := rfl
theorem bl5t (c : Nat) (k : AV → Res) : bld [(false, 1, (.int 63 (c : Int))), (false, 1, (.str 0 0)), (false, 1, (.int 63 (.ofNat 0))), (false, 1, (.int 63 (.ofNat 0))), (false, 1, (.int 63 (.ofNat 0)))] k = k (avL (cnL ⟨c, [], 0, 0, 0⟩)) := rfl
theorem bl5t' (c : Nat) (k : AV → Res) : bld [(false, 1, (.int 63 (c : Int))), (false, 1, (.str 0 0)), (false, 1, (.int 63 0)), (false, 1, (.int 63 0)), (false, 1, (.int 63 0))] k = k (avL (cnL ⟨c, [], 0, 0, 0⟩)) := rfl
theorem Bs_By (w : List Nat) (hb : ∀ x ∈ w, x < 256) : C.Bs w = By (w.map UInt8.ofNat) := by
  unfold C.Bs By
  rw [List.map_map]
  apply List.map_congr_left
  intro x hx
  simp only [Function.comp]
  rw [UInt8.toNat_ofNat_of_lt' (hb x hx)]
end Go.Proofs.YtnpfppddongbhaaDoor
end

section
namespace Go.Proofs.YtnpfppddongbhaaDoor
open Go Go.AM
set_option autoImplicit false
set_option linter.unusedSimpArgs false
set_option linter.unusedVariables false
/-! ### the cursor's reads -/
abbrev Sq := Nat × Bool
def val (t : List Nat) (q : Sq) (n : Int) : Nat := C.be (C.win t q.1 q.2 n) 0
def adv (t : List Nat) (q : Sq) (n : Int) : Sq := (C.nat_ t q.1 q.2 n, C.nbad t q.1 q.2 n)
abbrev CurQ (h : Hp) (lo b : Nat) (t : List Nat) (q : Sq) : Prop := C.Cur h lo b t q.1 q.2
theorem u1 {h : Hp} {lo b : Nat} {t : List Nat} {q : Sq} (hc : CurQ h lo b t q) (hw : Wf h) : ∃ h', s88 [.ptr b 0] h = .ret (.int 63 (val t q 1 : Int)) h' ∧ CurQ h' lo b t (adv t q 1) ∧ To (At b) h h' ∧ Wf h' := C.t88 hc hw
theorem u2 {h : Hp} {lo b : Nat} {t : List Nat} {q : Sq} (hc : CurQ h lo b t q) (hw : Wf h) : ∃ h', s62 [.ptr b 0] h = .ret (.int 63 (val t q 2 : Int)) h' ∧ CurQ h' lo b t (adv t q 2) ∧ To (At b) h h' ∧ Wf h' := C.t62 hc hw
theorem u4 {h : Hp} {lo b : Nat} {t : List Nat} {q : Sq} (hc : CurQ h lo b t q) (hw : Wf h) : ∃ h', s90 [.ptr b 0] h = .ret (.int 63 (val t q 4 : Int)) h' ∧ CurQ h' lo b t (adv t q 4) ∧ To (At b) h h' ∧ Wf h' := C.t90 hc hw
def wtx (t : List Nat) (q : Sq) (n : Int) : List UInt8 := (C.win t q.1 q.2 n).map UInt8.ofNat
theorem ub {h : Hp} {lo b : Nat} {t : List Nat} {q : Sq} (hc : CurQ h lo b t q) (hw : Wf h) (n : Int) :
    ∃ v h', s89 [.ptr b 0, .int 63 n] h = .ret v h' ∧ (∀ k : AV → Res, b2s h' v k = k (S (wtx t q n))) ∧ CurQ h' lo b t (adv t q n) ∧ To (At b) h h' ∧ Wf h' := by
  obtain ⟨v, h', e, s, c, o, w⟩ := C.t89 hc hw n
  have hb := C.win_byt hc.byt q.1 q.2 n
  rw [Bs_By _ hb] at s
  exact ⟨v, h', e, fun k => b2s_S s k, c, o, w⟩
noncomputable def n32 (x : Nat) : Int := wrapC 63 (wrapC 31 (x : Int))
noncomputable def n64 (x y : Nat) : Int := wrapC 63 (Int.ofNat (Nat.lor (toU 63 (wrapC 63 ((x : Int) * Int.ofNat (2 ^ 32)))) (toU 63 (y : Int))))
/-- An entry as it is read: the entry, whether its tag is one, where the cursor is then. -/
noncomputable def ent (t : List Nat) (q : Sq) : Cn × Bool × Sq :=
  let g := val t q 1
  let q1 := adv t q 1
  if g = 1 then (⟨1, wtx t (adv t q1 2) (val t q1 2 : Int), 0, 0, 0⟩, true, adv t (adv t q1 2) (val t q1 2 : Int))
  else if g = 3 then (⟨3, [], n32 (val t q1 4), 0, 0⟩, true, adv t q1 4)
  else if g = 5 then (⟨5, [], n64 (val t q1 4) (val t (adv t q1 4) 4), 0, 0⟩, true, adv t (adv t q1 4) 4)
  else if g = 7 ∨ g = 8 then (⟨g, [], 0, val t q1 2, 0⟩, true, adv t q1 2)
  else if g = 9 ∨ g = 10 ∨ g = 11 ∨ g = 12 then (⟨g, [], 0, val t q1 2, val t (adv t q1 2) 2⟩, true, adv t (adv t q1 2) 2)
  else (cn0, false, q1)
noncomputable def entV (e : Cn × Bool × Sq) : AV := .tup (.cons (cnV e.1) (.cons (.bool e.2.1) .nil))
theorem fin5 {h : Hp} {b1 : Nat} {x : Cn} (hw : Wf h) (h1 : Cel5 h b1 x) (t : Cn) : ∃ h4, (∀ k : Hp → Res, stN h 5 (.ptr b1 0) (cnV t) k = k h4) ∧ (∀ k : AV → Res, ldN h4 5 (.ptr b1 0) k = k (cnV t)) ∧ To (At b1) h h4 ∧ Wf h4 := by
  obtain ⟨h4, s1, s2, s3, s4, s5⟩ := h1.st hw t
  exact ⟨h4, s1, fun k => s2.ld k, s3, s4⟩
theorem same_n (c : Nat) (n : Int) (k : Res) : same (.int c n) (.int c n) k = k := by
  have e : same (.int c n) (.int c n) k = ifB (bAnd (Nat.beq c c) (eqI n n)) k .fail := rfl
  have e2 := band_t ((beq_iff c c).2 rfl) (eqI_self n)
  rw [e]
  exact (congrArg (fun b => ifB b k .fail) e2).trans rfl
theorem nbeq (g i : Nat) : (((g : Nat) : Int) == ((i : Nat) : Int)) = decide (g = i) := by
  rw [Bool.eq_iff_iff]
  simp only [beq_iff_eq, decide_eq_true_eq]
  omega
theorem t64 {h : Hp} {lo b : Nat} {t : List Nat} {q : Sq} (hc : CurQ h lo b t q) (hb : b < h.nb) (hw : Wf h) :
    ∃ h', s64 [.ptr b 0] h = .ret (entV (ent t q)) h' ∧ CurQ h' lo b t (ent t q).2.2 ∧ To (At b) h h' ∧ Wf h' := by
  obtain ⟨h1, m1, m1', c1, o1, w1, n1⟩ := cn0_mk hw
  obtain ⟨h2, e2, q2, o2, w2⟩ := u1 (hc.to o1 (fun _ _ _ f => f)) w1
  obtain ⟨h3, m3, m3', c3, o3, w3, n3⟩ := cn0_mk w2
  have nb2 := o2.nb
  obtain ⟨h4, s4, c4, o4, w4, n4⟩ := c3.st w3 ⟨val t q 1, [], 0, 0, 0⟩
  have s4 : ∀ kk : Hp → Res, stN h3 5 (.ptr h2.nb 0) (.agg (avL (cnL ⟨val t q 1, [], 0, 0, 0⟩))) kk = kk h4 := s4
  have l4 : ∀ kk : AV → Res, ld1 h4 (.ptr h2.nb (Nat.add 0 0)) kk = kk (.int 63 (val t q 1 : Int)) := fun kk => c4.l0 kk
  have l4' : ∀ kk : AV → Res, ld1 h4 (.ptr h2.nb 0) kk = kk (.int 63 (val t q 1 : Int)) := l4
  have q4 : CurQ h4 lo b t (adv t q 1) := (q2.to o3 (fun _ _ _ f => f)).to o4 (fun x _ hx e => by have : x = h2.nb := e; omega)
  have c14 : Cel5 h4 h.nb cn0 := ((c1.to o2 (fun e => by have : h.nb = b := e; omega)).to o3 (fun f => f)).to o4 (fun e => by have : h.nb = h2.nb := e; omega)
  have o14 : To (fun x => x = b ∨ h.nb ≤ x) h h4 := (((o1.mono fun _ _ f => f.elim).trans (o2.mono fun x _ e => .inl e)).trans (o3.mono fun _ _ f => f.elim)).trans (o4.mono fun x _ e => by have : x = h2.nb := e; exact .inr (by omega))
  have fin : ∀ {g : Hp}, To (fun x => x = b ∨ h.nb ≤ x) h4 g → To (At b) h g := fun tt => (o14.trans tt).mono fun x hx e => by
    rcases e with e | e
    · exact e
    · omega
  have done : ∀ {g : Hp} (k : Cn) (q' : Sq), Wf g → Cel5 g h2.nb k → CurQ g lo b t q' → To (fun x => x = b ∨ x = h2.nb) h4 g → ∃ h8, (∀ kk : AV → Res, ldN g 5 (.ptr h2.nb 0) kk = kk (cnV k)) ∧ (∀ kk : Hp → Res, stN g 5 (.ptr h.nb 0) (cnV k) kk = kk h8) ∧ (∀ kk : AV → Res, ldN h8 5 (.ptr h.nb 0) kk = kk (cnV k)) ∧ CurQ h8 lo b t q' ∧ To (At b) h h8 ∧ Wf h8 := by
    intro g k q' wg cg qg og
    have cz : Cel5 g h.nb cn0 := c14.to og (fun e => by rcases e with e | e <;> omega)
    obtain ⟨h8, p1, p2, p3, p4⟩ := fin5 wg cz k
    exact ⟨h8, fun kk => cg.ld kk, p1, p2, qg.to p3 (fun x _ hx e => by have : x = h.nb := e; omega), fin ((og.mono fun x _ e => by rcases e with e | e; exact .inl e; exact .inr (by omega)).trans (p3.mono fun x _ e => by have : x = h.nb := e; exact .inr (by omega))), p4⟩
  have hbb : ¬ h2.nb = b := by omega
  have f1 : (((val t q 1 : Nat) : Int) == 1) = decide (val t q 1 = 1) := nbeq _ 1
  have f3 : (((val t q 1 : Nat) : Int) == 3) = decide (val t q 1 = 3) := nbeq _ 3
  have f5 : (((val t q 1 : Nat) : Int) == 5) = decide (val t q 1 = 5) := nbeq _ 5
  have f7 : (((val t q 1 : Nat) : Int) == 7) = decide (val t q 1 = 7) := nbeq _ 7
  have f8 : (((val t q 1 : Nat) : Int) == 8) = decide (val t q 1 = 8) := nbeq _ 8
  have f9 : (((val t q 1 : Nat) : Int) == 9) = decide (val t q 1 = 9) := nbeq _ 9
  have f10 : (((val t q 1 : Nat) : Int) == 10) = decide (val t q 1 = 10) := nbeq _ 10
  have f11 : (((val t q 1 : Nat) : Int) == 11) = decide (val t q 1 = 11) := nbeq _ 11
  have f12 : (((val t q 1 : Nat) : Int) == 12) = decide (val t q 1 = 12) := nbeq _ 12
  by_cases d1 : val t q 1 = 1
  · rw [decide_eq_true d1] at f1
    have hent : ent t q = (⟨1, wtx t (adv t (adv t q 1) 2) (val t (adv t q 1) 2 : Int), 0, 0, 0⟩, true, adv t (adv t (adv t q 1) 2) (val t (adv t q 1) 2 : Int)) := by unfold ent; simp only [d1, if_true]; try rfl
    rw [hent]
    obtain ⟨h5, e5, q5, o5, w5⟩ := u2 q4 w4
    obtain ⟨v, h6, e6, k6, q6, o6, w6⟩ := ub q5 w5 (val t (adv t q 1) 2 : Int)
    obtain ⟨h7, z7, c7, o7, w7, n7⟩ := ((c4.to o5 hbb).to o6 hbb).s1 w6 (wtx t (adv t (adv t q 1) 2) (val t (adv t q 1) 2 : Int))
    have z7' : ∀ kk : Hp → Res, st1 h6 (.ptr h2.nb 1) (S (wtx t (adv t (adv t q 1) 2) (val t (adv t q 1) 2 : Int))) kk = kk h7 := z7
    rw [show ({ (⟨val t q 1, [], 0, 0, 0⟩ : Cn) with tx := wtx t (adv t (adv t q 1) 2) (val t (adv t q 1) 2 : Int) } : Cn) = ⟨1, wtx t (adv t (adv t q 1) 2) (val t (adv t q 1) 2 : Int), 0, 0, 0⟩ by rw [d1]] at c7
    obtain ⟨h8, a1, a2, a3, a4, a5, a6⟩ := done _ _ w7 c7 (q6.to o7 (fun x _ hx e => by have : x = h2.nb := e; omega)) (((o5.mono fun x _ e => .inl e).trans (o6.mono fun x _ e => .inl e)).trans (o7.mono fun x _ e => .inr e))
    exact ⟨h8, by simp only [↓s64, ↓m1, ↓m1', ↓e2, ↓bl5t, ↓bl5t', ↓m3, ↓m3', ↓s4, ↓cP_p, ↓l4, ↓l4', f1, ↓e5, ↓e6, ↓k6, ↓z7, ↓z7', ↓a1, ↓a2, ↓a3, ↓SD, SA, Int.ofNat_eq_natCast, Int.cast_ofNat_Int, Int.reduceBEq, Int.reduceAdd, Int.reduceNeg, Int.reduceNegSucc, Int.reduceLT, Int.reduceLE, Int.reduceMul, Int.reduceTMod, Int.reduceSub, Int.reduceBNe, Bool.not_true, Bool.not_false, decide_true, decide_false, ne_eq, not_false_eq_true, Int.reduceEq, reduceCtorEq]; rfl, a4, a5, a6⟩
  rw [decide_eq_false d1] at f1
  by_cases d3 : val t q 1 = 3
  · rw [decide_eq_true d3] at f3
    have hent : ent t q = (⟨3, [], n32 (val t (adv t q 1) 4), 0, 0⟩, true, adv t (adv t q 1) 4) := by unfold ent; simp only [d3, show ¬ (3 = 1) by decide, if_false, if_true]; try rfl
    rw [hent]
    obtain ⟨h5, e5, q5, o5, w5⟩ := u4 q4 w4
    obtain ⟨h7, z7, c7, o7, w7, n7⟩ := (c4.to o5 hbb).s2 w5 (n32 (val t (adv t q 1) 4))
    have z7 : ∀ kk : Hp → Res, st1 h5 (.ptr h2.nb (Nat.add 0 2)) (.int 63 (wrapC 63 (wrapC 31 (val t (adv t q 1) 4 : Int)))) kk = kk h7 := z7
    have z7' : ∀ kk : Hp → Res, st1 h5 (.ptr h2.nb 2) (.int 63 (wrapC 63 (wrapC 31 (val t (adv t q 1) 4 : Int)))) kk = kk h7 := z7
    rw [show ({ (⟨val t q 1, [], 0, 0, 0⟩ : Cn) with num := n32 (val t (adv t q 1) 4) } : Cn) = ⟨3, [], n32 (val t (adv t q 1) 4), 0, 0⟩ by rw [d3]] at c7
    obtain ⟨h8, a1, a2, a3, a4, a5, a6⟩ := done _ _ w7 c7 (q5.to o7 (fun x _ hx e => by have : x = h2.nb := e; omega)) ((o5.mono fun x _ e => .inl e).trans (o7.mono fun x _ e => .inr e))
    exact ⟨h8, by simp only [↓s64, ↓m1, ↓m1', ↓e2, ↓bl5t, ↓bl5t', ↓m3, ↓m3', ↓s4, ↓cP_p, ↓l4, ↓l4', f1, f3, ↓e5, ↓z7, ↓z7', ↓a1, ↓a2, ↓a3, ↓SD, SA, Int.ofNat_eq_natCast, Int.cast_ofNat_Int, Int.reduceBEq, Int.reduceAdd, Int.reduceNeg, Int.reduceNegSucc, Int.reduceLT, Int.reduceLE, Int.reduceMul, Int.reduceTMod, Int.reduceSub, Int.reduceBNe, Bool.not_true, Bool.not_false, decide_true, decide_false, ne_eq, not_false_eq_true, Int.reduceEq, reduceCtorEq]; rfl, a4, a5, a6⟩
  rw [decide_eq_false d3] at f3
  by_cases d5 : val t q 1 = 5
  · rw [decide_eq_true d5] at f5
    have hent : ent t q = (⟨5, [], n64 (val t (adv t q 1) 4) (val t (adv t (adv t q 1) 4) 4), 0, 0⟩, true, adv t (adv t (adv t q 1) 4) 4) := by unfold ent; simp only [d5, show ¬ (5 = 1) by decide, show ¬ (5 = 3) by decide, if_false, if_true]; try rfl
    rw [hent]
    obtain ⟨h5, e5, q5, o5, w5⟩ := u4 q4 w4
    have sh : ∀ kk : AV → Res, iShl (.int 63 (val t (adv t q 1) 4 : Int)) (.int 64 (.ofNat 32)) kk = kk (.int 63 (wrapC 63 ((val t (adv t q 1) 4 : Int) * Int.ofNat (2 ^ 32)))) := fun kk => iShl_i kk 63 _ 64 32 (by decide)
    have sh' : ∀ kk : AV → Res, iShl (.int 63 (val t (adv t q 1) 4 : Int)) (.int 64 32) kk = kk (.int 63 (wrapC 63 ((val t (adv t q 1) 4 : Int) * Int.ofNat (2 ^ 32)))) := sh
    obtain ⟨h6, z6, c6, o6, w6, n6⟩ := (c4.to o5 hbb).s2 w5 (wrapC 63 ((val t (adv t q 1) 4 : Int) * Int.ofNat (2 ^ 32)))
    generalize hA : wrapC 63 ((val t (adv t q 1) 4 : Int) * Int.ofNat (2 ^ 32)) = A at *
    have z6' : ∀ kk : Hp → Res, st1 h5 (.ptr h2.nb 2) (.int 63 A) kk = kk h6 := z6
    have y6 : ∀ kk : AV → Res, ld1 h6 (.ptr h2.nb (Nat.add 0 2)) kk = kk (.int 63 A) := fun kk => c6.l2 kk
    have y6' : ∀ kk : AV → Res, ld1 h6 (.ptr h2.nb 2) kk = kk (.int 63 A) := y6
    have q6 : CurQ h6 lo b t (adv t (adv t q 1) 4) := q5.to o6 (fun x _ hx e => by have : x = h2.nb := e; omega)
    obtain ⟨h7, e7, q7, o7, w7⟩ := u4 q6 w6
    have c67 := c6.to o7 hbb
    have y7 : ∀ kk : AV → Res, ld1 h7 (.ptr h2.nb (Nat.add 0 2)) kk = kk (.int 63 A) := fun kk => c67.l2 kk
    have y7' : ∀ kk : AV → Res, ld1 h7 (.ptr h2.nb 2) kk = kk (.int 63 A) := y7
    obtain ⟨h8, z8, c8, o8, w8, n8⟩ := c67.s2 w7 (n64 (val t (adv t q 1) 4) (val t (adv t (adv t q 1) 4) 4))
    have z8 : ∀ kk : Hp → Res, st1 h7 (.ptr h2.nb (Nat.add 0 2)) (.int 63 (wrapC 63 (Int.ofNat (Nat.lor (toU 63 A) (toU 63 (val t (adv t (adv t q 1) 4) 4 : Int)))))) kk = kk h8 := by rw [← hA]; exact z8
    have z8' : ∀ kk : Hp → Res, st1 h7 (.ptr h2.nb 2) (.int 63 (wrapC 63 (Int.ofNat (Nat.lor (toU 63 A) (toU 63 (val t (adv t (adv t q 1) 4) 4 : Int)))))) kk = kk h8 := z8
    have z8'' : ∀ kk : Hp → Res, st1 h7 (.ptr h2.nb 2) (.int 63 (wrapC 63 ((Nat.lor (toU 63 A) (toU 63 (val t (adv t (adv t q 1) 4) 4 : Int)) : Nat) : Int))) kk = kk h8 := z8
    have c8 : Cel5 h8 h2.nb ⟨5, [], n64 (val t (adv t q 1) 4) (val t (adv t (adv t q 1) 4) 4), 0, 0⟩ := by rw [← d5]; exact c8
    obtain ⟨h9, a1, a2, a3, a4, a5, a6⟩ := done _ _ w8 c8 (q7.to o8 (fun x _ hx e => by have : x = h2.nb := e; omega)) ((((o5.mono fun x _ e => .inl e).trans (o6.mono fun x _ e => .inr e)).trans (o7.mono fun x _ e => .inl e)).trans (o8.mono fun x _ e => .inr e))
    exact ⟨h9, by simp only [↓s64, ↓m1, ↓m1', ↓e2, ↓bl5t, ↓bl5t', ↓m3, ↓m3', ↓s4, ↓cP_p, ↓l4, ↓l4', f1, f3, f5, ↓e5, ↓sh, ↓sh', ↓z6, ↓z6', ↓y6, ↓y6', ↓e7, ↓y7, ↓y7', ↓same_n, ↓z8, ↓z8', ↓z8'', ↓a1, ↓a2, ↓a3, ↓SD, SA, Int.ofNat_eq_natCast, Int.cast_ofNat_Int, Int.reduceBEq, Int.reduceAdd, Int.reduceNeg, Int.reduceNegSucc, Int.reduceLT, Int.reduceLE, Int.reduceMul, Int.reduceTMod, Int.reduceSub, Int.reduceBNe, Bool.not_true, Bool.not_false, decide_true, decide_false, ne_eq, not_false_eq_true, Int.reduceEq, reduceCtorEq]; rfl, a4, a5, a6⟩
  rw [decide_eq_false d5] at f5
  by_cases d7 : val t q 1 = 7
  · rw [decide_eq_true d7] at f7
    have hent : ent t q = (⟨7, [], 0, val t (adv t q 1) 2, 0⟩, true, adv t (adv t q 1) 2) := by unfold ent; simp only [d7, show ¬ (7 = 1) by decide, show ¬ (7 = 3) by decide, show ¬ (7 = 5) by decide, if_false, true_or, if_true]; try rfl
    rw [hent]
    obtain ⟨h5, e5, q5, o5, w5⟩ := u2 q4 w4
    obtain ⟨h7, z7, c7, o7, w7, n7⟩ := (c4.to o5 hbb).s3 w5 (val t (adv t q 1) 2)
    have z7' : ∀ kk : Hp → Res, st1 h5 (.ptr h2.nb 3) (.int 63 (val t (adv t q 1) 2 : Int)) kk = kk h7 := z7
    have c7 : Cel5 h7 h2.nb ⟨7, [], 0, val t (adv t q 1) 2, 0⟩ := by rw [← d7]; exact c7
    obtain ⟨h8, a1, a2, a3, a4, a5, a6⟩ := done _ _ w7 c7 (q5.to o7 (fun x _ hx e => by have : x = h2.nb := e; omega)) ((o5.mono fun x _ e => .inl e).trans (o7.mono fun x _ e => .inr e))
    exact ⟨h8, by simp only [↓s64, ↓m1, ↓m1', ↓e2, ↓bl5t, ↓bl5t', ↓m3, ↓m3', ↓s4, ↓cP_p, ↓l4, ↓l4', f1, f3, f5, f7, ↓e5, ↓z7, ↓z7', ↓a1, ↓a2, ↓a3, ↓SD, SA, Int.ofNat_eq_natCast, Int.cast_ofNat_Int, Int.reduceBEq, Int.reduceAdd, Int.reduceNeg, Int.reduceNegSucc, Int.reduceLT, Int.reduceLE, Int.reduceMul, Int.reduceTMod, Int.reduceSub, Int.reduceBNe, Bool.not_true, Bool.not_false, decide_true, decide_false, ne_eq, not_false_eq_true, Int.reduceEq, reduceCtorEq]; rfl, a4, a5, a6⟩
  rw [decide_eq_false d7] at f7
  by_cases d8 : val t q 1 = 8
  · rw [decide_eq_true d8] at f8
    have hent : ent t q = (⟨8, [], 0, val t (adv t q 1) 2, 0⟩, true, adv t (adv t q 1) 2) := by unfold ent; simp only [d8, show ¬ (8 = 1) by decide, show ¬ (8 = 3) by decide, show ¬ (8 = 5) by decide, if_false, show ¬ (8 = 7) by decide, or_true, if_true]; try rfl
    rw [hent]
    obtain ⟨h5, e5, q5, o5, w5⟩ := u2 q4 w4
    obtain ⟨h7, z7, c7, o7, w7, n7⟩ := (c4.to o5 hbb).s3 w5 (val t (adv t q 1) 2)
    have z7' : ∀ kk : Hp → Res, st1 h5 (.ptr h2.nb 3) (.int 63 (val t (adv t q 1) 2 : Int)) kk = kk h7 := z7
    have c7 : Cel5 h7 h2.nb ⟨8, [], 0, val t (adv t q 1) 2, 0⟩ := by rw [← d8]; exact c7
    obtain ⟨h8, a1, a2, a3, a4, a5, a6⟩ := done _ _ w7 c7 (q5.to o7 (fun x _ hx e => by have : x = h2.nb := e; omega)) ((o5.mono fun x _ e => .inl e).trans (o7.mono fun x _ e => .inr e))
    exact ⟨h8, by simp only [↓s64, ↓m1, ↓m1', ↓e2, ↓bl5t, ↓bl5t', ↓m3, ↓m3', ↓s4, ↓cP_p, ↓l4, ↓l4', f1, f3, f5, f7, f8, ↓e5, ↓z7, ↓z7', ↓a1, ↓a2, ↓a3, ↓SD, SA, Int.ofNat_eq_natCast, Int.cast_ofNat_Int, Int.reduceBEq, Int.reduceAdd, Int.reduceNeg, Int.reduceNegSucc, Int.reduceLT, Int.reduceLE, Int.reduceMul, Int.reduceTMod, Int.reduceSub, Int.reduceBNe, Bool.not_true, Bool.not_false, decide_true, decide_false, ne_eq, not_false_eq_true, Int.reduceEq, reduceCtorEq]; rfl, a4, a5, a6⟩
  rw [decide_eq_false d8] at f8
  by_cases d9 : val t q 1 = 9
  · rw [decide_eq_true d9] at f9
    have hent : ent t q = (⟨9, [], 0, val t (adv t q 1) 2, val t (adv t (adv t q 1) 2) 2⟩, true, adv t (adv t (adv t q 1) 2) 2) := by unfold ent; simp only [d9, show ¬ (9 = 1) by decide, show ¬ (9 = 3) by decide, show ¬ (9 = 5) by decide, show ¬ (9 = 7) by decide, show ¬ (9 = 8) by decide, if_false, or_self, or_true, true_or, false_or, if_true]; try rfl
    rw [hent]
    obtain ⟨h5, e5, q5, o5, w5⟩ := u2 q4 w4
    obtain ⟨h6, z6, c6, o6, w6, n6⟩ := (c4.to o5 hbb).s3 w5 (val t (adv t q 1) 2)
    have z6' : ∀ kk : Hp → Res, st1 h5 (.ptr h2.nb 3) (.int 63 (val t (adv t q 1) 2 : Int)) kk = kk h6 := z6
    obtain ⟨h7, e7, q7, o7, w7⟩ := u2 (q5.to o6 (fun x _ hx e => by have : x = h2.nb := e; omega)) w6
    obtain ⟨h8, z8, c8, o8, w8, n8⟩ := (c6.to o7 hbb).s4 w7 (val t (adv t (adv t q 1) 2) 2)
    have z8' : ∀ kk : Hp → Res, st1 h7 (.ptr h2.nb 4) (.int 63 (val t (adv t (adv t q 1) 2) 2 : Int)) kk = kk h8 := z8
    have c8 : Cel5 h8 h2.nb ⟨9, [], 0, val t (adv t q 1) 2, val t (adv t (adv t q 1) 2) 2⟩ := by rw [← d9]; exact c8
    obtain ⟨h9, a1, a2, a3, a4, a5, a6⟩ := done _ _ w8 c8 (q7.to o8 (fun x _ hx e => by have : x = h2.nb := e; omega)) ((((o5.mono fun x _ e => .inl e).trans (o6.mono fun x _ e => .inr e)).trans (o7.mono fun x _ e => .inl e)).trans (o8.mono fun x _ e => .inr e))
    exact ⟨h9, by simp only [↓s64, ↓m1, ↓m1', ↓e2, ↓bl5t, ↓bl5t', ↓m3, ↓m3', ↓s4, ↓cP_p, ↓l4, ↓l4', f1, f3, f5, f7, f8, f9, ↓e5, ↓z6, ↓z6', ↓e7, ↓z8, ↓z8', ↓a1, ↓a2, ↓a3, ↓SD, SA, Int.ofNat_eq_natCast, Int.cast_ofNat_Int, Int.reduceBEq, Int.reduceAdd, Int.reduceNeg, Int.reduceNegSucc, Int.reduceLT, Int.reduceLE, Int.reduceMul, Int.reduceTMod, Int.reduceSub, Int.reduceBNe, Bool.not_true, Bool.not_false, decide_true, decide_false, ne_eq, not_false_eq_true, Int.reduceEq, reduceCtorEq]; rfl, a4, a5, a6⟩
  rw [decide_eq_false d9] at f9
  by_cases d10 : val t q 1 = 10
  · rw [decide_eq_true d10] at f10
    have hent : ent t q = (⟨10, [], 0, val t (adv t q 1) 2, val t (adv t (adv t q 1) 2) 2⟩, true, adv t (adv t (adv t q 1) 2) 2) := by unfold ent; simp only [d10, show ¬ (10 = 1) by decide, show ¬ (10 = 3) by decide, show ¬ (10 = 5) by decide, show ¬ (10 = 7) by decide, show ¬ (10 = 8) by decide, show ¬ (10 = 9) by decide, if_false, or_self, or_true, true_or, false_or, if_true]; try rfl
    rw [hent]
    obtain ⟨h5, e5, q5, o5, w5⟩ := u2 q4 w4
    obtain ⟨h6, z6, c6, o6, w6, n6⟩ := (c4.to o5 hbb).s3 w5 (val t (adv t q 1) 2)
    have z6' : ∀ kk : Hp → Res, st1 h5 (.ptr h2.nb 3) (.int 63 (val t (adv t q 1) 2 : Int)) kk = kk h6 := z6
    obtain ⟨h7, e7, q7, o7, w7⟩ := u2 (q5.to o6 (fun x _ hx e => by have : x = h2.nb := e; omega)) w6
    obtain ⟨h8, z8, c8, o8, w8, n8⟩ := (c6.to o7 hbb).s4 w7 (val t (adv t (adv t q 1) 2) 2)
    have z8' : ∀ kk : Hp → Res, st1 h7 (.ptr h2.nb 4) (.int 63 (val t (adv t (adv t q 1) 2) 2 : Int)) kk = kk h8 := z8
    have c8 : Cel5 h8 h2.nb ⟨10, [], 0, val t (adv t q 1) 2, val t (adv t (adv t q 1) 2) 2⟩ := by rw [← d10]; exact c8
    obtain ⟨h9, a1, a2, a3, a4, a5, a6⟩ := done _ _ w8 c8 (q7.to o8 (fun x _ hx e => by have : x = h2.nb := e; omega)) ((((o5.mono fun x _ e => .inl e).trans (o6.mono fun x _ e => .inr e)).trans (o7.mono fun x _ e => .inl e)).trans (o8.mono fun x _ e => .inr e))
    exact ⟨h9, by simp only [↓s64, ↓m1, ↓m1', ↓e2, ↓bl5t, ↓bl5t', ↓m3, ↓m3', ↓s4, ↓cP_p, ↓l4, ↓l4', f1, f3, f5, f7, f8, f9, f10, ↓e5, ↓z6, ↓z6', ↓e7, ↓z8, ↓z8', ↓a1, ↓a2, ↓a3, ↓SD, SA, Int.ofNat_eq_natCast, Int.cast_ofNat_Int, Int.reduceBEq, Int.reduceAdd, Int.reduceNeg, Int.reduceNegSucc, Int.reduceLT, Int.reduceLE, Int.reduceMul, Int.reduceTMod, Int.reduceSub, Int.reduceBNe, Bool.not_true, Bool.not_false, decide_true, decide_false, ne_eq, not_false_eq_true, Int.reduceEq, reduceCtorEq]; rfl, a4, a5, a6⟩
  rw [decide_eq_false d10] at f10
  by_cases d11 : val t q 1 = 11
  · rw [decide_eq_true d11] at f11
    have hent : ent t q = (⟨11, [], 0, val t (adv t q 1) 2, val t (adv t (adv t q 1) 2) 2⟩, true, adv t (adv t (adv t q 1) 2) 2) := by unfold ent; simp only [d11, show ¬ (11 = 1) by decide, show ¬ (11 = 3) by decide, show ¬ (11 = 5) by decide, show ¬ (11 = 7) by decide, show ¬ (11 = 8) by decide, show ¬ (11 = 9) by decide, show ¬ (11 = 10) by decide, if_false, or_self, or_true, true_or, false_or, if_true]; try rfl
    rw [hent]
    obtain ⟨h5, e5, q5, o5, w5⟩ := u2 q4 w4
    obtain ⟨h6, z6, c6, o6, w6, n6⟩ := (c4.to o5 hbb).s3 w5 (val t (adv t q 1) 2)
    have z6' : ∀ kk : Hp → Res, st1 h5 (.ptr h2.nb 3) (.int 63 (val t (adv t q 1) 2 : Int)) kk = kk h6 := z6
    obtain ⟨h7, e7, q7, o7, w7⟩ := u2 (q5.to o6 (fun x _ hx e => by have : x = h2.nb := e; omega)) w6
    obtain ⟨h8, z8, c8, o8, w8, n8⟩ := (c6.to o7 hbb).s4 w7 (val t (adv t (adv t q 1) 2) 2)
    have z8' : ∀ kk : Hp → Res, st1 h7 (.ptr h2.nb 4) (.int 63 (val t (adv t (adv t q 1) 2) 2 : Int)) kk = kk h8 := z8
    have c8 : Cel5 h8 h2.nb ⟨11, [], 0, val t (adv t q 1) 2, val t (adv t (adv t q 1) 2) 2⟩ := by rw [← d11]; exact c8
    obtain ⟨h9, a1, a2, a3, a4, a5, a6⟩ := done _ _ w8 c8 (q7.to o8 (fun x _ hx e => by have : x = h2.nb := e; omega)) ((((o5.mono fun x _ e => .inl e).trans (o6.mono fun x _ e => .inr e)).trans (o7.mono fun x _ e => .inl e)).trans (o8.mono fun x _ e => .inr e))
    exact ⟨h9, by simp only [↓s64, ↓m1, ↓m1', ↓e2, ↓bl5t, ↓bl5t', ↓m3, ↓m3', ↓s4, ↓cP_p, ↓l4, ↓l4', f1, f3, f5, f7, f8, f9, f10, f11, ↓e5, ↓z6, ↓z6', ↓e7, ↓z8, ↓z8', ↓a1, ↓a2, ↓a3, ↓SD, SA, Int.ofNat_eq_natCast, Int.cast_ofNat_Int, Int.reduceBEq, Int.reduceAdd, Int.reduceNeg, Int.reduceNegSucc, Int.reduceLT, Int.reduceLE, Int.reduceMul, Int.reduceTMod, Int.reduceSub, Int.reduceBNe, Bool.not_true, Bool.not_false, decide_true, decide_false, ne_eq, not_false_eq_true, Int.reduceEq, reduceCtorEq]; rfl, a4, a5, a6⟩
  rw [decide_eq_false d11] at f11
  by_cases d12 : val t q 1 = 12
  · rw [decide_eq_true d12] at f12
    have hent : ent t q = (⟨12, [], 0, val t (adv t q 1) 2, val t (adv t (adv t q 1) 2) 2⟩, true, adv t (adv t (adv t q 1) 2) 2) := by unfold ent; simp only [d12, show ¬ (12 = 1) by decide, show ¬ (12 = 3) by decide, show ¬ (12 = 5) by decide, show ¬ (12 = 7) by decide, show ¬ (12 = 8) by decide, show ¬ (12 = 9) by decide, show ¬ (12 = 10) by decide, show ¬ (12 = 11) by decide, if_false, or_self, or_true, true_or, false_or, if_true]; try rfl
    rw [hent]
    obtain ⟨h5, e5, q5, o5, w5⟩ := u2 q4 w4
    obtain ⟨h6, z6, c6, o6, w6, n6⟩ := (c4.to o5 hbb).s3 w5 (val t (adv t q 1) 2)
    have z6' : ∀ kk : Hp → Res, st1 h5 (.ptr h2.nb 3) (.int 63 (val t (adv t q 1) 2 : Int)) kk = kk h6 := z6
    obtain ⟨h7, e7, q7, o7, w7⟩ := u2 (q5.to o6 (fun x _ hx e => by have : x = h2.nb := e; omega)) w6
    obtain ⟨h8, z8, c8, o8, w8, n8⟩ := (c6.to o7 hbb).s4 w7 (val t (adv t (adv t q 1) 2) 2)
    have z8' : ∀ kk : Hp → Res, st1 h7 (.ptr h2.nb 4) (.int 63 (val t (adv t (adv t q 1) 2) 2 : Int)) kk = kk h8 := z8
    have c8 : Cel5 h8 h2.nb ⟨12, [], 0, val t (adv t q 1) 2, val t (adv t (adv t q 1) 2) 2⟩ := by rw [← d12]; exact c8
    obtain ⟨h9, a1, a2, a3, a4, a5, a6⟩ := done _ _ w8 c8 (q7.to o8 (fun x _ hx e => by have : x = h2.nb := e; omega)) ((((o5.mono fun x _ e => .inl e).trans (o6.mono fun x _ e => .inr e)).trans (o7.mono fun x _ e => .inl e)).trans (o8.mono fun x _ e => .inr e))
    exact ⟨h9, by simp only [↓s64, ↓m1, ↓m1', ↓e2, ↓bl5t, ↓bl5t', ↓m3, ↓m3', ↓s4, ↓cP_p, ↓l4, ↓l4', f1, f3, f5, f7, f8, f9, f10, f11, f12, ↓e5, ↓z6, ↓z6', ↓e7, ↓z8, ↓z8', ↓a1, ↓a2, ↓a3, ↓SD, SA, Int.ofNat_eq_natCast, Int.cast_ofNat_Int, Int.reduceBEq, Int.reduceAdd, Int.reduceNeg, Int.reduceNegSucc, Int.reduceLT, Int.reduceLE, Int.reduceMul, Int.reduceTMod, Int.reduceSub, Int.reduceBNe, Bool.not_true, Bool.not_false, decide_true, decide_false, ne_eq, not_false_eq_true, Int.reduceEq, reduceCtorEq]; rfl, a4, a5, a6⟩
  rw [decide_eq_false d12] at f12
  have hent : ent t q = (cn0, false, adv t q 1) := by unfold ent; simp only [d1, d3, d5, d7, d8, d9, d10, d11, d12, if_false, or_self]
  rw [hent]
  obtain ⟨h5, p1, p2, o5, w5⟩ := fin5 w4 c14 cn0
  have p1 : ∀ k : Hp → Res, stN h4 5 (.ptr h.nb 0) (.agg (avL (cnL cn0))) k = k h5 := p1
  exact ⟨h5, by simp only [↓s64, ↓m1, ↓m1', ↓e2, ↓bl5t, ↓bl5t', ↓m3, ↓m3', ↓s4, ↓cP_p, ↓l4, ↓l4', f1, f3, f5, f7, f8, f9, f10, f11, f12, ↓bl5z, ↓bl5z', ↓p1, ↓p2, ↓cK_cn, ↓SD, SA, Int.ofNat_eq_natCast, Int.cast_ofNat_Int, Int.reduceBEq, Int.reduceAdd, Int.reduceNeg, Int.reduceNegSucc, Int.reduceLT, Int.reduceLE, Int.reduceMul, Int.reduceTMod, Int.reduceSub, Int.reduceBNe, Bool.not_true, Bool.not_false, decide_true, decide_false, ne_eq, not_false_eq_true, Int.reduceEq, reduceCtorEq]; rfl, q4.to o5 (fun x _ hx e => by have : x = h.nb := e; omega), fin (o5.mono fun x _ e => by have : x = h.nb := e; exact .inr (by omega)), w5⟩
end Go.Proofs.YtnpfppddongbhaaDoor
end

section
namespace Go.Proofs.YtnpfppddongbhaaDoor
open Go Go.AM
set_option autoImplicit false
set_option linter.unusedSimpArgs false
set_option linter.unusedVariables false
/-! ### pools: slices of entries -/
noncomputable def flat5 (ts : List Cn) : List AV := ts.flatMap cnL
theorem flat5_len (ts : List Cn) : (flat5 ts).length = ts.length * 5 := by
  induction ts with
  | nil => rfl
  | cons t ts ih =>
    have e : flat5 (t :: ts) = cnL t ++ flat5 ts := by simp [flat5]
    rw [e, List.length_append, ih, List.length_cons]
    have : (cnL t).length = 5 := rfl
    omega
theorem flat5_snoc (ts : List Cn) (t : Cn) : flat5 (ts ++ [t]) = flat5 ts ++ cnL t := by simp [flat5]
theorem flat5_get (ts : List Cn) (i j : Nat) (hi : i < ts.length) (hj : j < 5) : (flat5 ts)[i * 5 + j]'(by rw [flat5_len]; omega) = (cnL ts[i])[j]'(by have : (cnL ts[i]).length = 5 := rfl; omega) := by
  induction ts generalizing i with
  | nil => simp at hi
  | cons t ts ih =>
    have e : flat5 (t :: ts) = cnL t ++ flat5 ts := by simp [flat5]
    have h4 : (cnL t).length = 5 := rfl
    simp only [e]
    cases i with
    | zero => rw [List.getElem_append_left (by omega)]; simp
    | succ i =>
      rw [List.getElem_append_right (by omega)]
      have e2 : (i + 1) * 5 + j - (cnL t).length = i * 5 + j := by omega
      simp only [e2, List.getElem_cons_succ]
      exact ih i (by simpa using hi)
/-- The slice v reads as the pool cs; its block is its own, one of those that P lets; it holds cap entries. -/
def Pl5 (h : Hp) (P : Nat → Prop) (cap : Nat) (v : AV) (cs : List Cn) : Prop :=
  ∃ b B, v = .sl b 0 cs.length 5 (some cap) ∧ P b ∧ Own h b B ∧ cap * 5 ≤ B.lim ∧ cs.length ≤ cap ∧ ∀ i (hi : i < (flat5 cs).length), B.at i = (flat5 cs)[i]
theorem Pl5.to {h h' : Hp} {P W : Nat → Prop} {cap : Nat} {v : AV} {cs : List Cn} (hp : Pl5 h P cap v cs) (ht : To W h h') (hd : ∀ b, P b → ¬ W b) : Pl5 h' P cap v cs := by
  obtain ⟨b, B, e, h1, h2, r⟩ := hp
  exact ⟨b, B, e, h1, h2.to ht (hd b h1), r⟩
theorem Pl5.len {h : Hp} {P : Nat → Prop} {cap : Nat} {v : AV} {cs : List Cn} (hp : Pl5 h P cap v cs) (k : AV → Res) : lenL v k = k (.int 63 (cs.length : Int)) := by
  obtain ⟨b, B, rfl, -⟩ := hp; rfl
theorem Pl5.cK {h : Hp} {P : Nat → Prop} {cap : Nat} {v : AV} {cs : List Cn} (hp : Pl5 h P cap v cs) (k : AV → Res) : cK v k = k v := by
  obtain ⟨b, B, rfl, -⟩ := hp; rfl
/-- An element's place and its five fields. -/
theorem Pl5.pt {h : Hp} {P : Nat → Prop} {cap : Nat} {v : AV} {cs : List Cn} (hp : Pl5 h P cap v cs) (i : Nat) (hi : i < cs.length) :
    ∃ b o, (∀ k : AV → Res, ixA 5 v (.int 63 (i : Int)) k = k (.ptr b o)) ∧ (∀ k : AV → Res, ldN h 5 (.ptr b o) k = k (cnV cs[i])) ∧ (∀ k : AV → Res, ld1 h (.ptr b (Nat.add o 0)) k = k (.int 63 (cs[i].tag : Int))) ∧ (∀ k : AV → Res, ld1 h (.ptr b (Nat.add o 1)) k = k (S cs[i].tx)) ∧ (∀ k : AV → Res, ld1 h (.ptr b (Nat.add o 2)) k = k (.int 63 cs[i].num)) ∧ (∀ k : AV → Res, ld1 h (.ptr b (Nat.add o 3)) k = k (.int 63 (cs[i].a : Int))) ∧ (∀ k : AV → Res, ld1 h (.ptr b (Nat.add o 4)) k = k (.int 63 (cs[i].b : Int))) := by
  obtain ⟨b, B, rfl, h1, h2, h3, h4, h5⟩ := hp
  have key : ∀ j (hj : j < 5), B.at (i * 5 + j) = (cnL cs[i])[j]'(by have : (cnL cs[i]).length = 5 := rfl; omega) := fun j hj => by
    rw [h5 (i * 5 + j) (by rw [flat5_len]; omega), flat5_get cs i j hi hj]
  refine ⟨b, i * 5, fun k => ?_, fun k => ?_, fun k => ?_, fun k => ?_, fun k => ?_, fun k => ?_, fun k => ?_⟩
  · have e : ixA 5 (.sl b 0 cs.length 5 (some cap)) (.int 63 (i : Int)) k = ifB (Nat.blt i cs.length) (ifB (Nat.beq 5 5) (k (.ptr b (Nat.add 0 (Nat.mul i 5)))) .fail) .fail := rfl
    rw [e, (blt_iff _ _).2 hi]
    have e2 : Nat.add 0 (Nat.mul i 5) = i * 5 := by show 0 + i * 5 = i * 5; omega
    show k (.ptr b (Nat.add 0 (Nat.mul i 5))) = _
    rw [e2]
  · exact ldN_rd (l := cnL cs[i]) h2.rd (fun j hj => key j hj) (fun v hv => one_unk (cnL_one _ v hv)) k
  · exact ld1_rd h2.rd (key 0 (by decide)) k
  · exact ld1_rd h2.rd (key 1 (by decide)) k
  · exact ld1_rd h2.rd (key 2 (by decide)) k
  · exact ld1_rd h2.rd (key 3 (by decide)) k
  · exact ld1_rd h2.rd (key 4 (by decide)) k
/-- Has entry i the tag t? -/
def tg (cs : List Cn) (i : Int) (t : Nat) : Bool := decide (0 < i) && (match cs[i.toNat]? with | some c => decide (c.tag = t) | none => false)
theorem tg_inv {cs : List Cn} {i : Int} {t : Nat} (h : tg cs i t = true) : ∃ n : Nat, i = (n : Int) ∧ ∃ hn : n < cs.length, cs[n].tag = t := by
  unfold tg at h
  rw [Bool.and_eq_true, decide_eq_true_eq] at h
  obtain ⟨h1, h2⟩ := h
  refine ⟨i.toNat, by omega, ?_⟩
  cases hc : cs[i.toNat]? with
  | none => rw [hc] at h2; cases h2
  | some c =>
    rw [hc] at h2
    obtain ⟨hn, he⟩ := List.getElem?_eq_some_iff.1 hc
    exact ⟨hn, by rw [he]; simpa using h2⟩
theorem t67 {h : Hp} {P : Nat → Prop} {cap : Nat} {v : AV} {cs : List Cn} (hp : Pl5 h P cap v cs) (i : Int) (t : Nat) : s67 [v, .int 63 i, .int 63 (t : Int)] h = .ret (.bool (tg cs i t)) h := by
  have ln := fun k => hp.len k
  have gi : ∀ x : Int, gsel (.bool true) true (.int 63 x) = .int 63 x := fun x => rfl
  have gv : gsel (.bool true) true v = v := rfl
  by_cases c1 : 0 < i
  rotate_left
  · have e : tg cs i t = false := by unfold tg; rw [decide_eq_false c1]; rfl
    rw [e]
    simp only [↓s67, c1, ↓SD, SA, Int.ofNat_eq_natCast, Int.cast_ofNat_Int, Int.reduceBEq, Int.reduceAdd, Int.reduceNeg, Int.reduceNegSucc, Int.reduceLT, Int.reduceLE, Int.reduceMul, Int.reduceTMod, Int.reduceSub, Int.reduceBNe, Bool.not_true, Bool.not_false, decide_true, decide_false, ne_eq, not_false_eq_true, Int.reduceEq, reduceCtorEq]
  obtain ⟨n, rfl⟩ : ∃ n : Nat, i = (n : Int) := ⟨i.toNat, by omega⟩
  by_cases c2 : n < cs.length
  rotate_left
  · have e : tg cs (n : Int) t = false := by unfold tg; rw [Int.toNat_natCast, List.getElem?_eq_none (by omega)]; simp
    have q : ¬ (n : Int) < (cs.length : Int) := by omega
    rw [e]
    simp only [↓s67, c1, ↓gv, ↓gi, ↓ln, q, ↓SD, SA, Int.ofNat_eq_natCast, Int.cast_ofNat_Int, Int.reduceBEq, Int.reduceAdd, Int.reduceNeg, Int.reduceNegSucc, Int.reduceLT, Int.reduceLE, Int.reduceMul, Int.reduceTMod, Int.reduceSub, Int.reduceBNe, Bool.not_true, Bool.not_false, decide_true, decide_false, ne_eq, not_false_eq_true, Int.reduceEq, reduceCtorEq]
  have q : (n : Int) < (cs.length : Int) := by omega
  obtain ⟨b, o, p1, p2, f0, f1, f2, f3, f4⟩ := hp.pt n c2
  have f0' : ∀ k : AV → Res, ld1 h (.ptr b (o + 0)) k = k (.int 63 (cs[n].tag : Int)) := f0
  have f0'' : ∀ k : AV → Res, ld1 h (.ptr b o) k = k (.int 63 (cs[n].tag : Int)) := f0
  have e : tg cs (n : Int) t = decide (cs[n].tag = t) := by unfold tg; rw [Int.toNat_natCast, List.getElem?_eq_getElem c2, decide_eq_true c1]; rfl
  have fe := nbeq cs[n].tag t
  rw [e]
  simp only [↓s67, c1, ↓gv, ↓gi, ↓ln, q, ↓p1, ↓cP_p, ↓f0, ↓f0', ↓f0'', fe, ↓SD, SA, Int.ofNat_eq_natCast, Int.cast_ofNat_Int, Int.reduceBEq, Int.reduceAdd, Int.reduceNeg, Int.reduceNegSucc, Int.reduceLT, Int.reduceLE, Int.reduceMul, Int.reduceTMod, Int.reduceSub, Int.reduceBNe, Bool.not_true, Bool.not_false, decide_true, decide_false, ne_eq, not_false_eq_true, Int.reduceEq, reduceCtorEq]
/-- An entry's text. -/
def txo (cs : List Cn) (i : Int) : Option (List UInt8) := if tg cs i 1 = true then (cs[i.toNat]?).map (·.tx) else none
noncomputable def txV (o : Option (List UInt8)) : AV := .tup (.cons (S (o.getD [])) (.cons (.bool o.isSome) .nil))
theorem t39 {h : Hp} {P : Nat → Prop} {cap : Nat} {v : AV} {cs : List Cn} (hp : Pl5 h P cap v cs) (i : Int) : s39 [v, .int 63 i] h = .ret (txV (txo cs i)) h := by
  have e := t67 hp i 1
  have e : s67 [v, .int 63 i, .int 63 1] h = .ret (.bool (tg cs i 1)) h := e
  unfold txo
  cases ht : tg cs i 1 with
  | false =>
    rw [ht] at e
    simp only [↓s39, ↓e, ↓SD, SA, Int.ofNat_eq_natCast, Int.cast_ofNat_Int, Int.reduceBEq, Int.reduceAdd, Int.reduceNeg, Int.reduceNegSucc, Int.reduceLT, Int.reduceLE, Int.reduceMul, Int.reduceTMod, Int.reduceSub, Int.reduceBNe, Bool.not_true, Bool.not_false, decide_true, decide_false, ne_eq, not_false_eq_true, Int.reduceEq, reduceCtorEq]; rfl
  | true =>
    rw [ht] at e
    obtain ⟨n, rfl, hn, -⟩ := tg_inv ht
    obtain ⟨b, o, p1, p2, f0, f1, f2, f3, f4⟩ := hp.pt n hn
    have f1' : ∀ k : AV → Res, ld1 h (.ptr b (o + 1)) k = k (S cs[n].tx) := f1
    rw [if_pos rfl, Int.toNat_natCast, List.getElem?_eq_getElem hn]
    simp only [↓s39, ↓e, ↓p1, ↓cP_p, ↓f1, ↓f1', ↓cK_S, ↓SD, SA, Int.ofNat_eq_natCast, Int.cast_ofNat_Int, Int.reduceBEq, Int.reduceAdd, Int.reduceNeg, Int.reduceNegSucc, Int.reduceLT, Int.reduceLE, Int.reduceMul, Int.reduceTMod, Int.reduceSub, Int.reduceBNe, Bool.not_true, Bool.not_false, decide_true, decide_false, ne_eq, not_false_eq_true, Int.reduceEq, reduceCtorEq]; rfl
/-- A class's name. -/
def clo (cs : List Cn) (i : Int) : Option (List UInt8) := if tg cs i 7 = true then (match cs[i.toNat]? with | some c => txo cs (c.a : Int) | none => none) else none
theorem t45 {h : Hp} {P : Nat → Prop} {cap : Nat} {v : AV} {cs : List Cn} (hp : Pl5 h P cap v cs) (i : Int) : s45 [v, .int 63 i] h = .ret (txV (clo cs i)) h := by
  have e := t67 hp i 7
  have e : s67 [v, .int 63 i, .int 63 7] h = .ret (.bool (tg cs i 7)) h := e
  unfold clo
  cases ht : tg cs i 7 with
  | false =>
    rw [ht] at e
    simp only [↓s45, ↓e, ↓SD, SA, Int.ofNat_eq_natCast, Int.cast_ofNat_Int, Int.reduceBEq, Int.reduceAdd, Int.reduceNeg, Int.reduceNegSucc, Int.reduceLT, Int.reduceLE, Int.reduceMul, Int.reduceTMod, Int.reduceSub, Int.reduceBNe, Bool.not_true, Bool.not_false, decide_true, decide_false, ne_eq, not_false_eq_true, Int.reduceEq, reduceCtorEq]; rfl
  | true =>
    rw [ht] at e
    obtain ⟨n, rfl, hn, -⟩ := tg_inv ht
    obtain ⟨b, o, p1, p2, f0, f1, f2, f3, f4⟩ := hp.pt n hn
    have f3' : ∀ k : AV → Res, ld1 h (.ptr b (o + 3)) k = k (.int 63 (cs[n].a : Int)) := f3
    have e2 := t39 hp (cs[n].a : Int)
    rw [if_pos rfl, Int.toNat_natCast, List.getElem?_eq_getElem hn]
    show s45 [v, .int 63 (n : Int)] h = .ret (txV (txo cs (cs[n].a : Int))) h
    generalize txo cs (cs[n].a : Int) = r at e2
    have e2 : s39 [v, .int 63 (cs[n].a : Int)] h = .ret (.tup (.cons (S (r.getD [])) (.cons (.bool r.isSome) .nil))) h := e2
    simp only [↓s45, ↓e, ↓p1, ↓cP_p, ↓f3, ↓f3', ↓e2, nth_z, nth_1, ↓cK_S, ↓SD, SA, Int.ofNat_eq_natCast, Int.cast_ofNat_Int, Int.reduceBEq, Int.reduceAdd, Int.reduceNeg, Int.reduceNegSucc, Int.reduceLT, Int.reduceLE, Int.reduceMul, Int.reduceTMod, Int.reduceSub, Int.reduceBNe, Bool.not_true, Bool.not_false, decide_true, decide_false, ne_eq, not_false_eq_true, Int.reduceEq, reduceCtorEq]; rfl
end Go.Proofs.YtnpfppddongbhaaDoor
end

section
namespace Go.Proofs.YtnpfppddongbhaaDoor
open Go Go.AM
set_option autoImplicit false
set_option linter.unusedSimpArgs false
set_option linter.unusedVariables false
/-! ### pools: made, grown -/
theorem mkM_pl {h : Hp} (hw : Wf h) (l c by_ : Nat) (hl : l ≤ c) (hc : c ≤ 1000) (hby : by_ ≤ 100) :
    ∃ h', (∀ k : AV → Hp → Res, mkM h (.cons (.int 63 (.ofNat 0)) (.cons (.str 0 0) (.cons (.int 63 (.ofNat 0)) (.cons (.int 63 (.ofNat 0)) (.cons (.int 63 (.ofNat 0)) .nil))))) by_ (.int 63 (l : Int)) (.int 63 (c : Int)) k = k (.sl h.nb 0 l 5 (some c)) h') ∧
      Pl5 h' (At h.nb) c (.sl h.nb 0 l 5 (some c)) (List.replicate l cn0) ∧ To No h h' ∧ Wf h' ∧ h'.nb = h.nb + 1 := by
  obtain ⟨o1, o2⟩ := nw_own hw (c * 5) (avL (cnL cn0)) .e
  have hmul : by_ * c ≤ 140737488355328 := Nat.le_trans (Nat.mul_le_mul hby hc) (by decide)
  refine ⟨nw h (c * 5) (avL (cnL cn0)) .e, fun k => ?_, ⟨h.nb, _, by rw [List.length_replicate], rfl, o1, Nat.le_refl _, by rw [List.length_replicate]; exact hl, fun i hi => ?_⟩, o2, o2.wf hw, rfl⟩
  · have e : mkM h (.cons (.int 63 (.ofNat 0)) (.cons (.str 0 0) (.cons (.int 63 (.ofNat 0)) (.cons (.int 63 (.ofNat 0)) (.cons (.int 63 (.ofNat 0)) .nil))))) by_ (.int 63 (l : Int)) (.int 63 (c : Int)) k = ifB (Nat.ble l c) (ifB (Nat.ble (Nat.mul by_ c) 140737488355328) (ifB (Nat.ble c 9223372036854775807) (k (.sl h.nb 0 l 5 (some c)) (nw h (Nat.mul c 5) (avL (cnL cn0)) .e)) .fail) .fail) .fail := rfl
    rw [e, (ble_iff _ _).2 hl, (ble_iff _ _).2 (show Nat.mul by_ c ≤ _ from hmul), (ble_iff _ _).2 (show c ≤ 9223372036854775807 by omega)]; rfl
  · have hlen := flat5_len (List.replicate l cn0)
    rw [List.length_replicate] at hlen
    rw [hlen] at hi
    rw [at_in _ (show i < c * 5 by omega)]
    show nth (avL (cnL cn0)) (i % len (avL (cnL cn0))) = _
    have e5 : len (avL (cnL cn0)) = 5 := rfl
    rw [e5]
    have hi5 : i / 5 < l := by omega
    have hg := flat5_get (List.replicate l cn0) (i / 5) (i % 5) (by rw [List.length_replicate]; exact hi5) (Nat.mod_lt _ (by decide))
    have ei : i / 5 * 5 + i % 5 = i := by omega
    simp only [ei, List.getElem_replicate] at hg
    rw [hg]
    have key : ∀ (j : Nat) (hj : j < 5), nth (avL (cnL cn0)) j = (cnL cn0)[j]'hj := fun j hj => by
      match j, hj with
      | 0, _ => rfl
      | 1, _ => rfl
      | 2, _ => rfl
      | 3, _ => rfl
      | 4, _ => rfl
    exact key _ (Nat.mod_lt _ (by decide))
theorem bldC (t : Cn) (k : AV → Res) : bld [(true, 5, cnV t)] k = k (avL (cnL t)) := rfl
theorem bldC' (t : Cn) (k : AV → Res) : bld [(true, 5, .agg (avL (cnL t)))] k = k (avL (cnL t)) := rfl
theorem apd_cn {h : Hp} {P : Nat → Prop} {cap : Nat} {v : AV} {cs : List Cn} (hw : Wf h) (hp : Pl5 h P cap v cs) (hn : cs.length < cap) (hcap : cap ≤ 1000) (t : Cn) :
    ∃ v' h1 h', (∀ k : AV → Hp → Res, mkS h 5 1 (avL (cnL t)) k = k (.sl h.nb 0 1 5 (some 1)) h1) ∧ (∀ k : AV → Hp → Res, apd h1 5 48 v (.sl h.nb 0 1 5 (some 1)) k = k v' h') ∧ Pl5 h' P cap v' (cs ++ [t]) ∧ To P h h' ∧ Wf h' := by
  obtain ⟨t0, l1, l2⟩ := lay_list (cnL t) .e 0 (cnL_one t)
  obtain ⟨o1, o2⟩ := nw_own hw (0 + 5) .nil t0
  have w1 : Wf (nw h (0 + 5) .nil t0) := o2.wf hw
  have m1 : ∀ k : AV → Hp → Res, mkS h 5 1 (avL (cnL t)) k = k (.sl h.nb 0 1 5 (some 1)) (nw h (0 + 5) .nil t0) := fun k => by
    have e : mkS h 5 1 (avL (cnL t)) k = lay (avL (cnL t)) .e 0 fun t m => ifB (Nat.beq m (Nat.mul 1 5)) (k (.sl h.nb 0 1 5 (some 1)) (nw h m .nil t)) .fail := rfl
    rw [e, l1]; rfl
  have hat0 : ∀ i (hi : i < (cnL t).length), (⟨true, h.nb, 0 + 5, .nil, t0⟩ : Blk).at (0 + i) = (cnL t)[i] := by
    intro i hi
    have hi4 : i < 5 := hi
    rw [at_in _ (show 0 + i < 0 + 5 by omega)]
    simp only [l2 (0 + i)]
    rw [dif_pos ⟨by omega, by omega⟩]
    simp
  have hp1 : Pl5 (nw h (0 + 5) .nil t0) P cap v cs := hp.to o2 (fun _ _ f => f)
  generalize hh1 : nw h (0 + 5) .nil t0 = h1 at *
  have src1 : ∀ k : Nat → AV → Res, src h1 5 (.sl h.nb 0 1 5 (some 1)) k = k 1 (avL (cnL t)) := fun k => by
    have e : src h1 5 (.sl h.nb 0 1 5 (some 1)) k = gb h1 h.nb fun B => rds B (cnL t).length 0 fun l => k 1 l := rfl
    rw [e, gb_rd o1.rd, rds_list (cnL t) 0 _ hat0 (fun v hv => one_unk (cnL_one _ v hv))]
  obtain ⟨b, B, rfl, g1, g2, g3, g4, g5⟩ := hp1
  have h5 : (cnL t).length = 5 := rfl
  obtain ⟨t', t1, t2⟩ : ∃ t', (∀ k : T AV → Nat → Res, lay (avL (cnL t)) B.cs (cs.length * 5) k = k t' (cs.length * 5 + 5)) ∧ ∀ j, t'.get j = if hh : cs.length * 5 ≤ j ∧ j < cs.length * 5 + 5 then some ((cnL t)[j - cs.length * 5]'(by omega)) else B.cs.get j := lay_list (cnL t) B.cs (cs.length * 5) (cnL_one t)
  have hrun : ∀ k : AV → Hp → Res, apd h1 5 48 (.sl b 0 cs.length 5 (some cap)) (.sl h.nb 0 1 5 (some 1)) k = k (.sl b 0 (cs.length + 1) 5 (some cap)) (putB h1 b B t' h1.gs) := fun k => by
    unfold apd
    rw [src1]
    show ifB (Nat.beq 5 5) (ifB (Nat.beq 1 0) _ (ifB (Nat.ble (Nat.mul (Nat.add cs.length 1) 48) 140737488355328) (ifB (Nat.ble (Nat.add cs.length 1) 9223372036854775807)
      (ifB (Nat.ble (Nat.add cs.length 1) cap)
        (wb h1 b fun B gs => ifB (Nat.ble (Nat.add 0 (Nat.mul (Nat.add cs.length 1) 5)) B.lim)
          (lay (avL (cnL t)) B.cs (Nat.add 0 (Nat.mul cs.length 5)) fun t e => ifB (Nat.beq e (Nat.add 0 (Nat.mul (Nat.add cs.length 1) 5))) (k (.sl b 0 (Nat.add cs.length 1) 5 (some cap)) (putB h1 b B t gs)) .fail) .fail) _) .fail) .fail)) .fail = _
    have e1 : Nat.ble (Nat.mul (Nat.add cs.length 1) 48) 140737488355328 = true := by rw [ble_iff]; show (cs.length + 1) * 48 ≤ _; omega
    have e2 : Nat.ble (Nat.add cs.length 1) 9223372036854775807 = true := by rw [ble_iff]; show cs.length + 1 ≤ _; omega
    have e3 : Nat.ble (Nat.add cs.length 1) cap = true := by rw [ble_iff]; exact hn
    rw [e1, e2, e3]
    show (wb h1 b fun B gs => ifB (Nat.ble (Nat.add 0 (Nat.mul (Nat.add cs.length 1) 5)) B.lim)
          (lay (avL (cnL t)) B.cs (Nat.add 0 (Nat.mul cs.length 5)) fun t e => ifB (Nat.beq e (Nat.add 0 (Nat.mul (Nat.add cs.length 1) 5))) (k (.sl b 0 (Nat.add cs.length 1) 5 (some cap)) (putB h1 b B t gs)) .fail) .fail) = _
    rw [wb_own g2]
    have e4 : Nat.add 0 (Nat.mul (Nat.add cs.length 1) 5) = cs.length * 5 + 5 := by show 0 + (cs.length + 1) * 5 = _; omega
    have e5 : Nat.add 0 (Nat.mul cs.length 5) = cs.length * 5 := by show 0 + cs.length * 5 = _; omega
    rw [e4, e5, (ble_iff _ _).2 (show cs.length * 5 + 5 ≤ B.lim by omega), ifB_t, t1, (beq_iff _ _).2 rfl, ifB_t]
    try rfl
  have hget : ∀ x, (putB h1 b B t' h1.gs).bs.get x = if x = b then some ⟨B.fr, B.g, B.lim, B.df, t'⟩ else h1.bs.get x := fun x => T.get_set _ _ _ _
  have tt : To P h1 (putB h1 b B t' h1.gs) := ⟨Nat.le_refl _, fun x _ hx => by rw [hget, if_neg (fun e => hx (by rw [e]; exact g1))], fun _ _ _ => rfl, fun hn => hn⟩
  refine ⟨_, h1, _, m1, hrun, ⟨b, ⟨B.fr, B.g, B.lim, B.df, t'⟩, by rw [List.length_append]; rfl, g1, ⟨by rw [hget, if_pos rfl], g2.lt, g2.fr, g2.g, g2.gs⟩, g3, by rw [List.length_append]; exact hn, fun i hi => ?_⟩, (o2.mono fun _ _ f => f.elim).trans tt, tt.wf w1⟩
  simp only [flat5_snoc] at hi ⊢
  have hfl := flat5_len cs
  rw [List.length_append, h5] at hi
  rw [at_in (⟨B.fr, B.g, B.lim, B.df, t'⟩ : Blk) (show i < B.lim by omega)]
  simp only [t2 i]
  by_cases c : cs.length * 5 ≤ i
  · rw [dif_pos ⟨c, by omega⟩, List.getElem_append_right (by omega)]
    simp only [hfl]
  · rw [dif_neg (by omega), List.getElem_append_left (by omega)]
    have := g5 i (by omega)
    rw [at_in B (by omega)] at this
    exact this
end Go.Proofs.YtnpfppddongbhaaDoor
end

section
namespace Go.Proofs.YtnpfppddongbhaaDoor
open Go Go.AM
set_option autoImplicit false
set_option linter.unusedSimpArgs false
set_option linter.unusedVariables false
/-! ### the pool's entries, one after another -/
noncomputable def rdl (t : List Nat) (n : Nat) : Nat → Sq → List Cn → Option (List Cn × Sq)
  | 0, _, _ => none
  | f + 1, q, cs => if cs.length < n then
      (if (ent t q).2.1 = true ∧ (ent t q).2.2.2 = false ∧ ¬ ((ent t q).1.tag = 5 ∧ cs.length = n - 1) then
        rdl t n f (ent t q).2.2 (if (ent t q).1.tag = 5 then cs ++ [(ent t q).1] ++ [cn0] else cs ++ [(ent t q).1])
      else none)
    else some (cs, q)
theorem loop37 {lo b pb n : Nat} {t : List Nat} (hpb : b < pb) (hn : n ≤ 1000) : ∀ (f m : Nat) (q : Sq) (cs : List Cn) (v : AV) (h : Hp), n - cs.length < f → f < m → pb < h.nb → Wf h → CurQ h lo b t q → Pl5 h (At pb) n v cs →
    (rdl t n f q cs = none ∧ ∃ h', lp L37n0 m [.ptr b 0, .int 63 (n : Int), v] h = .ret (.tup (.cons .nils (.cons (.bool false) .nil))) h' ∧ To (fun x => x = b ∨ x = pb) h h' ∧ Wf h') ∨
    (∃ p v' h', rdl t n f q cs = some p ∧ lp L37n0 m [.ptr b 0, .int 63 (n : Int), v] h = .exit 0 [v'] h' ∧ Pl5 h' (At pb) n v' p.1 ∧ CurQ h' lo b t p.2 ∧ To (fun x => x = b ∨ x = pb) h h' ∧ Wf h') := by
  intro f
  induction f with
  | zero => intro m q cs v h hf; omega
  | succ f ih =>
    intro m q cs v h hf hm hnb hw hc hp
    obtain ⟨m, rfl⟩ : ∃ k, m = k + 1 := ⟨m - 1, by omega⟩
    have ln := fun k => hp.len k
    by_cases hl : cs.length < n
    rotate_left
    · have qq : ¬ (cs.length : Int) < (n : Int) := by omega
      exact .inr ⟨(cs, q), v, h, by unfold rdl; rw [if_neg hl], lpx m (by simp only [↓L37n0, ↓ln, qq, ↓SD, SA, Int.ofNat_eq_natCast, Int.cast_ofNat_Int, Int.reduceBEq, Int.reduceAdd, Int.reduceNeg, Int.reduceNegSucc, Int.reduceLT, Int.reduceLE, Int.reduceMul, Int.reduceTMod, Int.reduceSub, Int.reduceBNe, Bool.not_true, Bool.not_false, decide_true, decide_false, ne_eq, not_false_eq_true, Int.reduceEq, reduceCtorEq]), hp, hc, To.refl _ _, hw⟩
    have qq : (cs.length : Int) < (n : Int) := by omega
    obtain ⟨h1, e1, q1, o1, w1⟩ := t64 hc (by omega) hw
    obtain ⟨h2, m2, m2', c2, o2, w2, n2⟩ := cn0_mk w1
    have nb1 := o1.nb
    obtain ⟨h3, s3, c3, o3, w3, n3⟩ := c2.st w2 (ent t q).1
    have q3 : CurQ h3 lo b t (ent t q).2.2 := (q1.to o2 (fun _ _ _ f => f)).to o3 (fun x _ hx e => by have : x = h1.nb := e; omega)
    have p3 : Pl5 h3 (At pb) n v cs := ((hp.to o1 (fun x hx e => by have : x = pb := hx; have : x = b := e; omega)).to o2 (fun _ _ f => f)).to o3 (fun x hx e => by have : x = pb := hx; have : x = h1.nb := e; omega)
    have o13 : To (fun x => x = b ∨ x = pb ∨ h.nb ≤ x) h h3 := ((o1.mono fun x _ e => Or.inl e).trans (o2.mono fun _ _ f => f.elim)).trans (o3.mono fun x _ e => by have : x = h1.nb := e; exact .inr (.inr (by omega)))
    have fin : ∀ {g : Hp}, To (fun x => x = b ∨ x = pb ∨ h.nb ≤ x) h3 g → To (fun x => x = b ∨ x = pb) h g := fun tt => (o13.trans tt).mono fun x hx e => by
      rcases e with e | e | e
      · exact .inl e
      · exact .inr e
      · omega
    have e63 := C.t63 q3
    have l0 : ∀ kk : AV → Res, ld1 h3 (.ptr h1.nb (Nat.add 0 0)) kk = kk (.int 63 ((ent t q).1.tag : Int)) := fun kk => c3.l0 kk
    have l0' : ∀ kk : AV → Res, ld1 h3 (.ptr h1.nb 0) kk = kk (.int 63 ((ent t q).1.tag : Int)) := l0
    have f5 : ((((ent t q).1.tag : Nat) : Int) == 5) = decide ((ent t q).1.tag = 5) := nbeq _ 5
    have fn : (((cs.length : Nat) : Int) == ((n - 1 : Nat) : Int)) = decide (cs.length = n - 1) := nbeq _ _
    have i1 : wrapC 63 ((n : Int) - 1) = ((n - 1 : Nat) : Int) := by rw [w63_in _ (by omega) (by omega)]; omega
    have ln3 := fun k => p3.len k
    have gp : gsel (.bool false) false (.ptr b 0) = .ptr b 0 := rfl
    have gv : gsel (.bool true) true v = v := rfl
    have gn : ∀ x : Int, gsel (.bool true) true (.int 63 x) = .int 63 x := fun x => rfl
    have ld3 := fun kk => c3.ld kk
    have hrd : rdl t n (f + 1) q cs = if (ent t q).2.1 = true ∧ (ent t q).2.2.2 = false ∧ ¬ ((ent t q).1.tag = 5 ∧ cs.length = n - 1) then
        rdl t n f (ent t q).2.2 (if (ent t q).1.tag = 5 then cs ++ [(ent t q).1] ++ [cn0] else cs ++ [(ent t q).1]) else none := by
      conv => lhs; unfold rdl
      rw [if_pos hl]
    rw [hrd]
    have e1 : s64 [.ptr b 0] h = .ret (.tup (.cons (cnV (ent t q).1) (.cons (.bool (ent t q).2.1) .nil))) h1 := e1
    generalize ent t q = E at *
    obtain ⟨c, ok, q'⟩ := E
    simp only at *
    cases ok with
    | false =>
      refine .inl ⟨if_neg (fun hh => by cases hh.1), h3, ?_, fin (To.refl _ _), w3⟩
      exact lpr m (by simp only [↓L37n0, ↓ln, qq, ↓e1, nth_z, nth_1, ↓cK_cn, ↓m2, ↓m2', ↓s3, ↓SD, SA, Int.ofNat_eq_natCast, Int.cast_ofNat_Int, Int.reduceBEq, Int.reduceAdd, Int.reduceNeg, Int.reduceNegSucc, Int.reduceLT, Int.reduceLE, Int.reduceMul, Int.reduceTMod, Int.reduceSub, Int.reduceBNe, Bool.not_true, Bool.not_false, decide_true, decide_false, ne_eq, not_false_eq_true, Int.reduceEq, reduceCtorEq]; rfl)
    | true =>
      cases hbad : q'.2 with
      | true =>
        rw [hbad] at e63
        refine .inl ⟨if_neg (fun hh => by cases hh.2.1), h3, ?_, fin (To.refl _ _), w3⟩
        exact lpr m (by simp only [↓L37n0, ↓ln, qq, ↓e1, nth_z, nth_1, ↓cK_cn, ↓m2, ↓m2', ↓s3, ↓gp, ↓e63, Bool.not_true, ↓SD, SA, Int.ofNat_eq_natCast, Int.cast_ofNat_Int, Int.reduceBEq, Int.reduceAdd, Int.reduceNeg, Int.reduceNegSucc, Int.reduceLT, Int.reduceLE, Int.reduceMul, Int.reduceTMod, Int.reduceSub, Int.reduceBNe, Bool.not_true, Bool.not_false, decide_true, decide_false, ne_eq, not_false_eq_true, Int.reduceEq, reduceCtorEq]; rfl)
      | false =>
        rw [hbad] at e63
        obtain ⟨v', h4, h5, p4, p5, g5, o5, w5⟩ := apd_cn w3 p3 hl hn c
        have hne : ¬ h1.nb = pb := by omega
        have c5 : Cel5 h5 h1.nb c := c3.to o5 hne
        have l5 : ∀ kk : AV → Res, ld1 h5 (.ptr h1.nb (Nat.add 0 0)) kk = kk (.int 63 (c.tag : Int)) := fun kk => c5.l0 kk
        have l5' : ∀ kk : AV → Res, ld1 h5 (.ptr h1.nb 0) kk = kk (.int 63 (c.tag : Int)) := l5
        have q5 : CurQ h5 lo b t q' := q3.to o5 (fun x _ hx e => by have : x = pb := e; omega)
        have nb3 := (o13.trans (o5.mono fun x _ e => .inr (.inl e))).nb
        by_cases g : c.tag = 5
        · rw [decide_eq_true g] at f5
          by_cases gl : cs.length = n - 1
          · rw [decide_eq_true gl] at fn
            refine .inl ⟨if_neg (fun hh => hh.2.2 ⟨g, gl⟩), h3, ?_, fin (To.refl _ _), w3⟩
            exact lpr m (by simp only [↓L37n0, ↓ln, qq, ↓e1, nth_z, nth_1, ↓cK_cn, ↓m2, ↓m2', ↓s3, ↓gp, ↓e63, Bool.not_false, Bool.not_true, ↓cP_p, ↓l0, ↓l0', f5, ↓gv, ↓ln3, ↓gn, i1, fn, ↓SD, SA, Int.ofNat_eq_natCast, Int.cast_ofNat_Int, Int.reduceBEq, Int.reduceAdd, Int.reduceNeg, Int.reduceNegSucc, Int.reduceLT, Int.reduceLE, Int.reduceMul, Int.reduceTMod, Int.reduceSub, Int.reduceBNe, Bool.not_true, Bool.not_false, decide_true, decide_false, ne_eq, not_false_eq_true, Int.reduceEq, reduceCtorEq]; rfl)
          · rw [decide_eq_false gl] at fn
            have hlen2 : (cs ++ [c]).length < n := by simp; omega
            obtain ⟨v'', h6, h7, r4, r5, g7, o7, w7⟩ := apd_cn w5 g5 hlen2 hn cn0
            have e : L37n0 [.ptr b 0, .int 63 (n : Int), v] h = .norm [.ptr b 0, .int 63 (n : Int), v''] h7 := by
              simp only [↓L37n0, ↓ln, qq, ↓e1, nth_z, nth_1, ↓cK_cn, ↓m2, ↓m2', ↓s3, ↓gp, ↓e63, Bool.not_false, Bool.not_true, ↓cP_p, ↓l0, ↓l0', f5, ↓gv, ↓ln3, ↓gn, i1, fn, ↓ld3, ↓bldC, ↓p4, ↓p5, ↓l5, ↓l5', ↓bl5z, ↓bl5z', ↓bldC', ↓r4, ↓r5, ↓SD, SA, Int.ofNat_eq_natCast, Int.cast_ofNat_Int, Int.reduceBEq, Int.reduceAdd, Int.reduceNeg, Int.reduceNegSucc, Int.reduceLT, Int.reduceLE, Int.reduceMul, Int.reduceTMod, Int.reduceSub, Int.reduceBNe, Bool.not_true, Bool.not_false, decide_true, decide_false, ne_eq, not_false_eq_true, Int.reduceEq, reduceCtorEq]
            have o37 : To (fun x => x = b ∨ x = pb) h h7 := fin ((o5.mono fun x _ e => .inr (.inl e)).trans (o7.mono fun x _ e => .inr (.inl e)))
            have nb7 := o37.nb
            rw [if_pos ⟨rfl, rfl, fun hh => gl hh.2⟩, if_pos g]
            rcases ih m q' (cs ++ [c] ++ [cn0]) v'' h7 (by simp; omega) (by omega) (by omega) w7 (q5.to o7 (fun x _ hx e => by have : x = pb := e; omega)) g7 with ⟨r1, h8, r2, r3, r6⟩ | ⟨p, v3, h8, r1, r2, r3, r6, r7, r8⟩
            · exact .inl ⟨r1, h8, (lpn m e).trans r2, o37.trans r3, r6⟩
            · exact .inr ⟨p, v3, h8, r1, (lpn m e).trans r2, r3, r6, o37.trans r7, r8⟩
        · rw [decide_eq_false g] at f5
          have e : L37n0 [.ptr b 0, .int 63 (n : Int), v] h = .norm [.ptr b 0, .int 63 (n : Int), v'] h5 := by
            simp only [↓L37n0, ↓ln, qq, ↓e1, nth_z, nth_1, ↓cK_cn, ↓m2, ↓m2', ↓s3, ↓gp, ↓e63, Bool.not_false, Bool.not_true, ↓cP_p, ↓l0, ↓l0', f5, ↓ld3, ↓bldC, ↓p4, ↓p5, ↓l5, ↓l5', ↓SD, SA, Int.ofNat_eq_natCast, Int.cast_ofNat_Int, Int.reduceBEq, Int.reduceAdd, Int.reduceNeg, Int.reduceNegSucc, Int.reduceLT, Int.reduceLE, Int.reduceMul, Int.reduceTMod, Int.reduceSub, Int.reduceBNe, Bool.not_true, Bool.not_false, decide_true, decide_false, ne_eq, not_false_eq_true, Int.reduceEq, reduceCtorEq]
          have o35 : To (fun x => x = b ∨ x = pb) h h5 := fin (o5.mono fun x _ e => .inr (.inl e))
          have nb5 := o35.nb
          rw [if_pos ⟨rfl, rfl, fun hh => g hh.1⟩, if_neg g]
          rcases ih m q' (cs ++ [c]) v' h5 (by simp; omega) (by omega) (by omega) w5 q5 g5 with ⟨r1, h8, r2, r3, r6⟩ | ⟨p, v3, h8, r1, r2, r3, r6, r7, r8⟩
          · exact .inl ⟨r1, h8, (lpn m e).trans r2, o35.trans r3, r6⟩
          · exact .inr ⟨p, v3, h8, r1, (lpn m e).trans r2, r3, r6, o35.trans r7, r8⟩
end Go.Proofs.YtnpfppddongbhaaDoor
end

section
namespace Go.Proofs.YtnpfppddongbhaaDoor
open Go Go.AM
set_option autoImplicit false
set_option linter.unusedSimpArgs false
set_option linter.unusedVariables false
/-! ### an array's descriptor; which entries are right -/
noncomputable def arB (l : List UInt8) : Bool := match fld l with
  | some t => decide (t.k = 91)
  | none => false
theorem t91 {l : List UInt8} (hl : l.length ≤ 100000) {h : Hp} (hw : Wf h) : ∃ w h', s91 [S l] h = .ret (.tup (.cons (tyV w) (.cons (.bool (arB l)) .nil))) h' ∧ To No h h' ∧ Wf h' := by
  obtain ⟨h1, m1, c1, o1, w1, n1⟩ := ty0_mk hw
  obtain ⟨h2, e2, o2, w2⟩ := t26 hl w1
  obtain ⟨h3, m3, c3, o3, w3, n3⟩ := ty0_mk w2
  have m3' : ∀ k : AV → Hp → Res, mk h2 (.cons (.int 8 0) (.cons (.str 0 0) (.cons (.int 63 0) (.cons (.int 8 0) .nil)))) k = k (.ptr h2.nb 0) h3 := m3
  have bz : ∀ k : AV → Res, bld [(false, 1, (.int 8 0)), (false, 1, (.str 0 0)), (false, 1, (.int 63 0)), (false, 1, (.int 8 0))] k = k (avL (tyL ty0)) := fun k => rfl
  have nb2 := o2.nb
  obtain ⟨h4, s4, c4, o4, w4, n4⟩ := c3.st w3 ((fld l).getD ty0)
  have s4 : ∀ k : Hp → Res, stN h3 4 (.ptr h2.nb 0) (tyV ((fld l).getD ty0)) k = k h4 := s4
  have oo : To (fun x => h.nb ≤ x) h h4 := (((o1.mono fun _ _ f => f.elim).trans (o2.mono fun _ _ f => f.elim)).trans (o3.mono fun _ _ f => f.elim)).trans (o4.mono fun x _ e => by have : x = h2.nb := e; omega)
  have c14 : Cel h4 h.nb ty0 := ((c1.to o2 (fun f => f)).to o3 (fun f => f)).to o4 (fun e => by have : h.nb = h2.nb := e; omega)
  have fin : ∀ {g : Hp}, To (At h.nb) h4 g → To No h g := fun tt => (oo.trans (tt.mono fun x _ e => by have : x = h.nb := e; omega)).mono fun x hx e => by omega
  unfold arB
  cases hf : fld l with
  | none =>
    have ef : fldV (fld l) = .tup (.cons (tyV ty0) (.cons (.bool false) .nil)) := by rw [hf]; rfl
    rw [ef] at e2
    rw [hf] at s4
    have s4 : ∀ k : Hp → Res, stN h3 4 (.ptr h2.nb 0) (tyV ty0) k = k h4 := s4
    obtain ⟨h5, p1, p2, o5, w5⟩ := fin1 w4 c14 ty0
    have p1 : ∀ k : Hp → Res, stN h4 4 (.ptr h.nb 0) (.agg (avL (tyL ty0))) k = k h5 := p1
    exact ⟨ty0, h5, by simp only [↓s91, ↓m1, ↓e2, nth_z, nth_1, ↓cK_ty, ↓m3, ↓m3', ↓s4, ↓bldz, ↓bz, ↓p1, ↓p2, ↓SD, SA, Int.ofNat_eq_natCast, Int.cast_ofNat_Int, Int.reduceBEq, Int.reduceAdd, Int.reduceNeg, Int.reduceNegSucc, Int.reduceLT, Int.reduceLE, Int.reduceMul, Int.reduceTMod, Int.reduceSub, Int.reduceBNe, Bool.not_true, Bool.not_false, decide_true, decide_false, ne_eq, not_false_eq_true, Int.reduceEq, reduceCtorEq], fin o5, w5⟩
  | some t =>
    have ef : fldV (fld l) = .tup (.cons (tyV t) (.cons (.bool true) .nil)) := by rw [hf]; rfl
    rw [ef] at e2
    rw [hf] at s4 c4
    have s4 : ∀ k : Hp → Res, stN h3 4 (.ptr h2.nb 0) (tyV t) k = k h4 := s4
    have c4 : Cel h4 h2.nb t := c4
    have l0 := fun k => c4.l0 k
    have l0' : ∀ k : AV → Res, ld1 h4 (.ptr h2.nb 0) k = k (.int 8 (t.k.toNat : Int)) := l0
    have ld := fun k => c4.ld k
    have f91 := c91 t.k
    show ∃ w h', s91 [S l] h = .ret (.tup (.cons (tyV w) (.cons (.bool (decide (t.k = 91))) .nil))) h' ∧ To No h h' ∧ Wf h'
    cases hd : decide (t.k = 91) with
    | true =>
      rw [hd] at f91
      obtain ⟨h5, p1, p2, o5, w5⟩ := fin1 w4 c14 t
      exact ⟨t, h5, by simp only [↓s91, ↓m1, ↓e2, nth_z, nth_1, ↓cK_ty, ↓m3, ↓m3', ↓s4, ↓cP_p, ↓l0, ↓l0', f91, Bool.not_true, ↓ld, ↓p1, ↓p2, ↓SD, SA, Int.ofNat_eq_natCast, Int.cast_ofNat_Int, Int.reduceBEq, Int.reduceAdd, Int.reduceNeg, Int.reduceNegSucc, Int.reduceLT, Int.reduceLE, Int.reduceMul, Int.reduceTMod, Int.reduceSub, Int.reduceBNe, Bool.not_true, Bool.not_false, decide_true, decide_false, ne_eq, not_false_eq_true, Int.reduceEq, reduceCtorEq], fin o5, w5⟩
    | false =>
      rw [hd] at f91
      obtain ⟨h5, p1, p2, o5, w5⟩ := fin1 w4 c14 ty0
      have p1 : ∀ k : Hp → Res, stN h4 4 (.ptr h.nb 0) (.agg (avL (tyL ty0))) k = k h5 := p1
      exact ⟨ty0, h5, by simp only [↓s91, ↓m1, ↓e2, nth_z, nth_1, ↓cK_ty, ↓m3, ↓m3', ↓s4, ↓cP_p, ↓l0, ↓l0', f91, Bool.not_false, ↓bldz, ↓bz, ↓p1, ↓p2, ↓SD, SA, Int.ofNat_eq_natCast, Int.cast_ofNat_Int, Int.reduceBEq, Int.reduceAdd, Int.reduceNeg, Int.reduceNegSucc, Int.reduceLT, Int.reduceLE, Int.reduceMul, Int.reduceTMod, Int.reduceSub, Int.reduceBNe, Bool.not_true, Bool.not_false, decide_true, decide_false, ne_eq, not_false_eq_true, Int.reduceEq, reduceCtorEq], fin o5, w5⟩
/-- Is an entry right? (of the tags that are no member's and no name's) -/
noncomputable def rg (cs : List Cn) (c : Cn) : Bool :=
  if c.tag = 1 then okD c.tx
  else if c.tag = 7 then (match txo cs (c.a : Int) with | some s => cls s || arB s | none => false)
  else if c.tag = 8 then tg cs (c.a : Int) 1
  else true
theorem t65 {h : Hp} {P : Nat → Prop} {cap : Nat} {v : AV} {cs : List Cn} (hp : Pl5 h P cap v cs) (hw : Wf h) (htx : ∀ c ∈ cs, c.tx.length ≤ 100000) (c : Cn) (hc : c.tx.length ≤ 100000) (h9 : c.tag ≠ 9) (h10 : c.tag ≠ 10) (h11 : c.tag ≠ 11) (h12 : c.tag ≠ 12) :
    ∃ h', s65 [v, cnV c] h = .ret (.bool (rg cs c)) h' ∧ To No h h' ∧ Wf h' := by
  obtain ⟨h1, m1, c1, o1, w1, n1⟩ := cn_cells hw c
  have hp1 := hp.to o1 (fun _ _ f => f)
  have a0 := fun k => c1.l0 k
  have a1 := fun k => c1.l1 k
  have a3 := fun k => c1.l3 k
  have a0' : ∀ k : AV → Res, ld1 h1 (.ptr h.nb 0) k = k (.int 63 (c.tag : Int)) := a0
  have a1' : ∀ k : AV → Res, ld1 h1 (.ptr h.nb 1) k = k (S c.tx) := a1
  have a3' : ∀ k : AV → Res, ld1 h1 (.ptr h.nb 3) k = k (.int 63 (c.a : Int)) := a3
  have f1 : (((c.tag : Nat) : Int) == 1) = decide (c.tag = 1) := nbeq _ 1
  have f7 : (((c.tag : Nat) : Int) == 7) = decide (c.tag = 7) := nbeq _ 7
  have f8 : (((c.tag : Nat) : Int) == 8) = decide (c.tag = 8) := nbeq _ 8
  have f9 : (((c.tag : Nat) : Int) == 9) = decide (c.tag = 9) := nbeq _ 9
  have f10 : (((c.tag : Nat) : Int) == 10) = decide (c.tag = 10) := nbeq _ 10
  have f11 : (((c.tag : Nat) : Int) == 11) = decide (c.tag = 11) := nbeq _ 11
  have f12 : (((c.tag : Nat) : Int) == 12) = decide (c.tag = 12) := nbeq _ 12
  rw [decide_eq_false h9] at f9
  rw [decide_eq_false h10] at f10
  rw [decide_eq_false h11] at f11
  rw [decide_eq_false h12] at f12
  unfold rg
  by_cases d1 : c.tag = 1
  · rw [decide_eq_true d1] at f1
    obtain ⟨w, h2, e2, ow, o2, w2⟩ := t49o hc w1
    rw [if_pos d1]
    have kw : ∀ k : AV → Res, cK w k = k w := fun k => cK_one ow k
    exact ⟨h2, by simp only [↓s65, ↓m1, ↓cP_p, ↓a0, ↓a0', f1, ↓a1, ↓a1', ↓e2, nth_z, nth_1, ↓kw, ↓SD, SA, Int.ofNat_eq_natCast, Int.cast_ofNat_Int, Int.reduceBEq, Int.reduceAdd, Int.reduceNeg, Int.reduceNegSucc, Int.reduceLT, Int.reduceLE, Int.reduceMul, Int.reduceTMod, Int.reduceSub, Int.reduceBNe, Bool.not_true, Bool.not_false, decide_true, decide_false, ne_eq, not_false_eq_true, Int.reduceEq, reduceCtorEq], o1.trans o2, w2⟩
  rw [decide_eq_false d1] at f1
  rw [if_neg d1]
  by_cases d7 : c.tag = 7
  · rw [decide_eq_true d7] at f7
    rw [if_pos d7]
    have e39 := t39 hp1 (c.a : Int)
    cases ht : txo cs (c.a : Int) with
    | none =>
      rw [ht] at e39
      have e39 : s39 [v, .int 63 (c.a : Int)] h1 = .ret (.tup (.cons (S []) (.cons (.bool false) .nil))) h1 := e39
      obtain ⟨w, h2, e2, o2, w2⟩ := t91 (l := []) (by simp) w1
      obtain ⟨h3, m3, c3, o3, w3, n3⟩ := ty0_mk w2
      have m3' : ∀ k : AV → Hp → Res, mk h2 (.cons (.int 8 0) (.cons (.str 0 0) (.cons (.int 63 0) (.cons (.int 8 0) .nil)))) k = k (.ptr h2.nb 0) h3 := m3
      obtain ⟨h4, p1, p2, o4, w4⟩ := fin1 w3 c3 w
      exact ⟨h4, by simp only [↓s65, ↓m1, ↓cP_p, ↓a0, ↓a0', f1, f7, ↓a3, ↓a3', ↓e39, nth_z, nth_1, ↓cK_S, ↓e2, ↓cK_ty, ↓m3, ↓m3', ↓p1, ↓SD, SA, Int.ofNat_eq_natCast, Int.cast_ofNat_Int, Int.reduceBEq, Int.reduceAdd, Int.reduceNeg, Int.reduceNegSucc, Int.reduceLT, Int.reduceLE, Int.reduceMul, Int.reduceTMod, Int.reduceSub, Int.reduceBNe, Bool.not_true, Bool.not_false, decide_true, decide_false, ne_eq, not_false_eq_true, Int.reduceEq, reduceCtorEq], (o1.trans o2).trans (o3.fresh o4 (fun x e => by have : x = h2.nb := e; omega)), w4⟩
    | some s =>
      rw [ht] at e39
      have e39 : s39 [v, .int 63 (c.a : Int)] h1 = .ret (.tup (.cons (S s) (.cons (.bool true) .nil))) h1 := e39
      have hs : s.length ≤ 100000 := by
        unfold txo at ht
        split at ht
        · rename_i hh
          obtain ⟨n, hn, hlt, -⟩ := tg_inv hh
          rw [hn, Int.toNat_natCast, List.getElem?_eq_getElem hlt] at ht
          cases ht
          exact htx _ (List.getElem_mem hlt)
        · cases ht
      obtain ⟨w, h2, e2, o2, w2⟩ := t91 hs w1
      obtain ⟨h3, m3, c3, o3, w3, n3⟩ := ty0_mk w2
      have m3' : ∀ k : AV → Hp → Res, mk h2 (.cons (.int 8 0) (.cons (.str 0 0) (.cons (.int 63 0) (.cons (.int 8 0) .nil)))) k = k (.ptr h2.nb 0) h3 := m3
      obtain ⟨h4, p1, p2, o4, w4⟩ := fin1 w3 c3 w
      obtain ⟨h5, e5, o5, w5⟩ := t17 hs w4
      have gs : gsel (.bool true) true (S s) = S s := rfl
      have ot : To No h h5 := ((o1.trans o2).trans (o3.fresh o4 (fun x e => by have : x = h2.nb := e; omega))).trans o5
      refine ⟨h5, ?_, ot, w5⟩
      show s65 [v, cnV c] h = .ret (.bool (cls s || arB s)) h5
      generalize arB s = ar at *
      cases hcl : cls s with
      | true =>
        rw [hcl] at e5
        simp only [↓s65, ↓m1, ↓cP_p, ↓a0, ↓a0', f1, f7, ↓a3, ↓a3', ↓e39, nth_z, nth_1, ↓cK_S, ↓e2, ↓cK_ty, ↓m3, ↓m3', ↓p1, ↓gs, ↓e5, ↓SD, SA, Int.ofNat_eq_natCast, Int.cast_ofNat_Int, Int.reduceBEq, Int.reduceAdd, Int.reduceNeg, Int.reduceNegSucc, Int.reduceLT, Int.reduceLE, Int.reduceMul, Int.reduceTMod, Int.reduceSub, Int.reduceBNe, Bool.not_true, Bool.not_false, decide_true, decide_false, ne_eq, not_false_eq_true, Int.reduceEq, reduceCtorEq]; try rfl
      | false =>
        rw [hcl] at e5
        cases ar <;> (simp only [↓s65, ↓m1, ↓cP_p, ↓a0, ↓a0', f1, f7, ↓a3, ↓a3', ↓e39, nth_z, nth_1, ↓cK_S, ↓e2, ↓cK_ty, ↓m3, ↓m3', ↓p1, ↓gs, ↓e5, ↓SD, SA, Int.ofNat_eq_natCast, Int.cast_ofNat_Int, Int.reduceBEq, Int.reduceAdd, Int.reduceNeg, Int.reduceNegSucc, Int.reduceLT, Int.reduceLE, Int.reduceMul, Int.reduceTMod, Int.reduceSub, Int.reduceBNe, Bool.not_true, Bool.not_false, decide_true, decide_false, ne_eq, not_false_eq_true, Int.reduceEq, reduceCtorEq]; try rfl)
  rw [decide_eq_false d7] at f7
  rw [if_neg d7]
  by_cases d8 : c.tag = 8
  · rw [decide_eq_true d8] at f8
    rw [if_pos d8]
    have e67 := t67 hp1 (c.a : Int) 1
    have e67 : s67 [v, .int 63 (c.a : Int), .int 63 1] h1 = .ret (.bool (tg cs (c.a : Int) 1)) h1 := e67
    exact ⟨h1, by simp only [↓s65, ↓m1, ↓cP_p, ↓a0, ↓a0', f1, f7, f8, ↓a3, ↓a3', ↓e67, ↓SD, SA, Int.ofNat_eq_natCast, Int.cast_ofNat_Int, Int.reduceBEq, Int.reduceAdd, Int.reduceNeg, Int.reduceNegSucc, Int.reduceLT, Int.reduceLE, Int.reduceMul, Int.reduceTMod, Int.reduceSub, Int.reduceBNe, Bool.not_true, Bool.not_false, decide_true, decide_false, ne_eq, not_false_eq_true, Int.reduceEq, reduceCtorEq], o1, w1⟩
  rw [decide_eq_false d8] at f8
  rw [if_neg d8]
  exact ⟨h1, by simp only [↓s65, ↓m1, ↓cP_p, ↓a0, ↓a0', f1, f7, f8, f9, f10, f11, f12, ↓SD, SA, Int.ofNat_eq_natCast, Int.cast_ofNat_Int, Int.reduceBEq, Int.reduceAdd, Int.reduceNeg, Int.reduceNegSucc, Int.reduceLT, Int.reduceLE, Int.reduceMul, Int.reduceTMod, Int.reduceSub, Int.reduceBNe, Bool.not_true, Bool.not_false, decide_true, decide_false, ne_eq, not_false_eq_true, Int.reduceEq, reduceCtorEq], o1, w1⟩
end Go.Proofs.YtnpfppddongbhaaDoor
end

section
namespace Go.Proofs.YtnpfppddongbhaaDoor
open Go Go.AM
set_option autoImplicit false
set_option linter.unusedSimpArgs false
set_option linter.unusedVariables false
/-! ### a pool is read -/
def Ez (cs : List Cn) : Prop := ∀ c ∈ cs, c.tag ≠ 9 ∧ c.tag ≠ 10 ∧ c.tag ≠ 11 ∧ c.tag ≠ 12 ∧ c.tx.length ≤ 100000
theorem loop37b {P : Nat → Prop} {cap : Nat} {v : AV} {cs : List Cn} (hcs : cs.length ≤ 1000) (hz : Ez cs) : ∀ (f m i : Nat) (h : Hp), cs.length - i ≤ f → f < m → i ≤ cs.length → Wf h → Pl5 h P cap v cs →
    ∃ h', lp L37n1 m [v, v, .int 63 (cs.length : Int), .int 63 (i : Int)] h = (if (cs.drop i).all (rg cs) = true then .exit 2 [v] h' else .ret (.tup (.cons .nils (.cons (.bool false) .nil))) h') ∧ To No h h' ∧ Wf h' := by
  have stop : ∀ (m i : Nat) (h : Hp), ¬ i < cs.length → Wf h → ∃ h', lp L37n1 (m + 1) [v, v, .int 63 (cs.length : Int), .int 63 (i : Int)] h = (if (cs.drop i).all (rg cs) = true then .exit 2 [v] h' else .ret (.tup (.cons .nils (.cons (.bool false) .nil))) h') ∧ To No h h' ∧ Wf h' := by
    intro m i h hi hw
    have q : ¬ (i : Int) < (cs.length : Int) := by omega
    rw [List.drop_eq_nil_of_le (by omega)]
    exact ⟨h, lpx m (by simp only [↓L37n1, q, ↓SD, SA, Int.ofNat_eq_natCast, Int.cast_ofNat_Int, Int.reduceBEq, Int.reduceAdd, Int.reduceNeg, Int.reduceNegSucc, Int.reduceLT, Int.reduceLE, Int.reduceMul, Int.reduceTMod, Int.reduceSub, Int.reduceBNe, Bool.not_true, Bool.not_false, decide_true, decide_false, ne_eq, not_false_eq_true, Int.reduceEq, reduceCtorEq]), To.refl _ _, hw⟩
  intro f
  induction f with
  | zero =>
    intro m i h hf hm hi hw hp
    obtain ⟨m, rfl⟩ : ∃ k, m = k + 1 := ⟨m - 1, by omega⟩
    exact stop m i h (by omega) hw
  | succ f ih =>
    intro m i h hf hm hi hw hp
    obtain ⟨m, rfl⟩ : ∃ k, m = k + 1 := ⟨m - 1, by omega⟩
    by_cases hin : i < cs.length
    · have q : (i : Int) < (cs.length : Int) := by omega
      obtain ⟨pb, po, x1, x2, -⟩ := hp.pt i hin
      obtain ⟨z9, z10, z11, z12, ztx⟩ := hz cs[i] (List.getElem_mem hin)
      obtain ⟨h1, m1, m1', c1, o1, w1, n1⟩ := cn0_mk hw
      obtain ⟨h2, p1, p2, o2, w2⟩ := fin5 w1 c1 cs[i]
      have o12 : To No h h2 := o1.fresh o2 (fun x e => by have : x = h.nb := e; omega)
      obtain ⟨h3, e3, o3, w3⟩ := t65 (hp.to o12 (fun _ _ f => f)) w2 (fun c hc => (hz c hc).2.2.2.2) cs[i] ztx z9 z10 z11 z12
      have o : To No h h3 := o12.trans o3
      rw [List.drop_eq_getElem_cons hin, List.all_cons]
      cases hr : rg cs cs[i] with
      | false =>
        rw [hr] at e3
        refine ⟨h3, ?_, o, w3⟩
        rw [Bool.false_and, if_neg (by decide)]
        exact lpr m (by simp only [↓L37n1, q, ↓x1, ↓x2, ↓m1, ↓m1', ↓p1, ↓p2, ↓e3, ↓SD, SA, Int.ofNat_eq_natCast, Int.cast_ofNat_Int, Int.reduceBEq, Int.reduceAdd, Int.reduceNeg, Int.reduceNegSucc, Int.reduceLT, Int.reduceLE, Int.reduceMul, Int.reduceTMod, Int.reduceSub, Int.reduceBNe, Bool.not_true, Bool.not_false, decide_true, decide_false, ne_eq, not_false_eq_true, Int.reduceEq, reduceCtorEq]; rfl)
      | true =>
        rw [hr] at e3
        have e : L37n1 [v, v, .int 63 (cs.length : Int), .int 63 (i : Int)] h = .norm [v, v, .int 63 (cs.length : Int), .int 63 ((i + 1 : Nat) : Int)] h3 := by
          simp only [↓L37n1, q, ↓x1, ↓x2, ↓m1, ↓m1', ↓p1, ↓p2, ↓e3, s1n i (by omega), ↓SD, SA, Int.ofNat_eq_natCast, Int.cast_ofNat_Int, Int.reduceBEq, Int.reduceAdd, Int.reduceNeg, Int.reduceNegSucc, Int.reduceLT, Int.reduceLE, Int.reduceMul, Int.reduceTMod, Int.reduceSub, Int.reduceBNe, Bool.not_true, Bool.not_false, decide_true, decide_false, ne_eq, not_false_eq_true, Int.reduceEq, reduceCtorEq]
        obtain ⟨h4, e4, o4, w4⟩ := ih m (i + 1) h3 (by omega) (by omega) (by omega) w3 (hp.to o (fun _ _ f => f))
        rw [Bool.true_and]
        exact ⟨h4, (lpn m e).trans e4, o.trans o4, w4⟩
    · exact stop m i h hin hw
noncomputable def rdP (t : List Nat) (q : Sq) : Option (List Cn × Sq) :=
  if (adv t q 2).2 = true ∨ val t q 2 < 1 ∨ 1000 < val t q 2 then none
  else match rdl t (val t q 2) (val t q 2 + 1) (adv t q 2) [cn0] with
    | none => none
    | some p => if p.1.all (rg p.1) = true then some p else none
theorem t37 {h : Hp} {lo b : Nat} {t : List Nat} {q : Sq} (hc : CurQ h lo b t q) (hb : b < h.nb) (hw : Wf h) (hz : ∀ p, rdl t (val t q 2) (val t q 2 + 1) (adv t q 2) [cn0] = some p → Ez p.1 ∧ p.1.length ≤ 1000) :
    (rdP t q = none ∧ ∃ h', s37 [.ptr b 0] h = .ret (.tup (.cons .nils (.cons (.bool false) .nil))) h' ∧ To (At b) h h' ∧ Wf h') ∨
    (∃ p v pb h', rdP t q = some p ∧ s37 [.ptr b 0] h = .ret (.tup (.cons v (.cons (.bool true) .nil))) h' ∧ h.nb ≤ pb ∧ Pl5 h' (At pb) (val t q 2) v p.1 ∧ CurQ h' lo b t p.2 ∧ To (At b) h h' ∧ Wf h') := by
  obtain ⟨h1, e1, q1, o1, w1⟩ := u2 hc hw
  have e63 := C.t63 q1
  have gi : ∀ x : Int, gsel (.bool false) false (.int 63 x) = .int 63 x := fun x => rfl
  unfold rdP
  cases hbad : (adv t q 2).2 with
  | true =>
    rw [hbad] at e63
    rw [if_pos (.inl rfl)]
    exact .inl ⟨rfl, h1, by simp only [↓s37, ↓e1, ↓e63, Bool.not_true, ↓SD, SA, Int.ofNat_eq_natCast, Int.cast_ofNat_Int, Int.reduceBEq, Int.reduceAdd, Int.reduceNeg, Int.reduceNegSucc, Int.reduceLT, Int.reduceLE, Int.reduceMul, Int.reduceTMod, Int.reduceSub, Int.reduceBNe, Bool.not_true, Bool.not_false, decide_true, decide_false, ne_eq, not_false_eq_true, Int.reduceEq, reduceCtorEq]; rfl, o1, w1⟩
  | false =>
    rw [hbad] at e63
    generalize hn : val t q 2 = n at *
    by_cases c1 : n < 1
    · have d1 : (n : Int) < 1 := by omega
      rw [if_pos (.inr (.inl c1))]
      exact .inl ⟨rfl, h1, by simp only [↓s37, ↓e1, ↓e63, Bool.not_false, ↓gi, d1, ↓SD, SA, Int.ofNat_eq_natCast, Int.cast_ofNat_Int, Int.reduceBEq, Int.reduceAdd, Int.reduceNeg, Int.reduceNegSucc, Int.reduceLT, Int.reduceLE, Int.reduceMul, Int.reduceTMod, Int.reduceSub, Int.reduceBNe, Bool.not_true, Bool.not_false, decide_true, decide_false, ne_eq, not_false_eq_true, Int.reduceEq, reduceCtorEq]; rfl, o1, w1⟩
    have d1 : ¬ (n : Int) < 1 := by omega
    by_cases c2 : 1000 < n
    · have d2 : (1000 : Int) < (n : Int) := by omega
      rw [if_pos (.inr (.inr c2))]
      exact .inl ⟨rfl, h1, by simp only [↓s37, ↓e1, ↓e63, Bool.not_false, ↓gi, d1, d2, ↓SD, SA, Int.ofNat_eq_natCast, Int.cast_ofNat_Int, Int.reduceBEq, Int.reduceAdd, Int.reduceNeg, Int.reduceNegSucc, Int.reduceLT, Int.reduceLE, Int.reduceMul, Int.reduceTMod, Int.reduceSub, Int.reduceBNe, Bool.not_true, Bool.not_false, decide_true, decide_false, ne_eq, not_false_eq_true, Int.reduceEq, reduceCtorEq]; rfl, o1, w1⟩
    have d2 : ¬ (1000 : Int) < (n : Int) := by omega
    rw [if_neg (by rintro (h | h | h); exact absurd h (by decide); omega; omega)]
    obtain ⟨h2, m2, p2, o2, w2, n2⟩ := mkM_pl w1 1 n 48 (by omega) (by omega) (by decide)
    have m2 : ∀ k : AV → Hp → Res, mkM h1 (.cons (.int 63 (.ofNat 0)) (.cons (.str 0 0) (.cons (.int 63 (.ofNat 0)) (.cons (.int 63 (.ofNat 0)) (.cons (.int 63 (.ofNat 0)) .nil))))) 48 (.int 63 (.ofNat 1)) (.int 63 (n : Int)) k = k (.sl h1.nb 0 1 5 (some n)) h2 := m2
    have m2' : ∀ k : AV → Hp → Res, mkM h1 (.cons (.int 63 0) (.cons (.str 0 0) (.cons (.int 63 0) (.cons (.int 63 0) (.cons (.int 63 0) .nil))))) 48 (.int 63 1) (.int 63 (n : Int)) k = k (.sl h1.nb 0 1 5 (some n)) h2 := m2
    have nb1 := o1.nb
    have p2 : Pl5 h2 (At h1.nb) n (.sl h1.nb 0 1 5 (some n)) [cn0] := p2
    have fin : ∀ {g : Hp}, To (fun x => x = b ∨ x = h1.nb) h2 g → To (At b) h g := fun tt => ((o1.mono fun x _ e => Or.inl e).trans ((o2.mono fun _ _ f => f.elim).trans tt)).mono fun x hx e => by
      rcases e with e | e
      · exact e
      · omega
    rcases loop37 (lo := lo) (b := b) (t := t) (pb := h1.nb) (n := n) (by omega) (by omega) (n + 1) most (adv t q 2) [cn0] _ h2 (by simp; omega) (by unfold most; omega) (by omega) w2 (q1.to o2 (fun _ _ _ f => f)) p2 with ⟨r1, h3, r2, r3, r4⟩ | ⟨p, v, h3, r1, r2, r3, r4, r5, r6⟩
    · rw [r1]
      exact .inl ⟨rfl, h3, by simp only [↓s37, ↓e1, ↓e63, Bool.not_false, ↓gi, d1, d2, ↓m2, ↓m2', ↓r2, ↓SD, SA, Int.ofNat_eq_natCast, Int.cast_ofNat_Int, Int.reduceBEq, Int.reduceAdd, Int.reduceNeg, Int.reduceNegSucc, Int.reduceLT, Int.reduceLE, Int.reduceMul, Int.reduceTMod, Int.reduceSub, Int.reduceBNe, Bool.not_true, Bool.not_false, decide_true, decide_false, ne_eq, not_false_eq_true, Int.reduceEq, reduceCtorEq], fin r3, r4⟩
    · obtain ⟨ez, hl⟩ := hz p r1
      rw [r1]
      have ln := fun k => r3.len k
      have kv := fun k => r3.cK k
      obtain ⟨h4, e4, o4, w4⟩ := loop37b hl ez p.1.length most 0 h3 (by omega) (by unfold most; omega) (by omega) r6 r3
      rw [List.drop_zero] at e4
      have e4 : lp L37n1 most [v, v, .int 63 (p.1.length : Int), .int 63 0] h3 = (if p.1.all (rg p.1) = true then .exit 2 [v] h4 else .ret (.tup (.cons .nils (.cons (.bool false) .nil))) h4) := e4
      show (_ ∨ _)
      by_cases ha : p.1.all (rg p.1) = true
      · rw [if_pos ha] at e4
        refine .inr ⟨p, v, h1.nb, h4, if_pos ha, ?_, by omega, r3.to o4 (fun _ _ f => f), r4.to o4 (fun _ _ _ f => f), fin (r5.trans (o4.mono fun _ _ f => f.elim)), w4⟩
        simp only [↓s37, ↓e1, ↓e63, Bool.not_false, ↓gi, d1, d2, ↓m2, ↓m2', ↓r2, ↓blk_x, ↓ln, ↓e4, ↓kv, ↓SD, SA, Int.ofNat_eq_natCast, Int.cast_ofNat_Int, Int.reduceBEq, Int.reduceAdd, Int.reduceNeg, Int.reduceNegSucc, Int.reduceLT, Int.reduceLE, Int.reduceMul, Int.reduceTMod, Int.reduceSub, Int.reduceBNe, Bool.not_true, Bool.not_false, decide_true, decide_false, ne_eq, not_false_eq_true, Int.reduceEq, reduceCtorEq]
      · rw [if_neg ha] at e4
        refine .inl ⟨if_neg ha, h4, ?_, fin (r5.trans (o4.mono fun _ _ f => f.elim)), w4⟩
        simp only [↓s37, ↓e1, ↓e63, Bool.not_false, ↓gi, d1, d2, ↓m2, ↓m2', ↓r2, ↓blk_x, ↓ln, ↓e4, ↓SD, SA, Int.ofNat_eq_natCast, Int.cast_ofNat_Int, Int.reduceBEq, Int.reduceAdd, Int.reduceNeg, Int.reduceNegSucc, Int.reduceLT, Int.reduceLE, Int.reduceMul, Int.reduceTMod, Int.reduceSub, Int.reduceBNe, Bool.not_true, Bool.not_false, decide_true, decide_false, ne_eq, not_false_eq_true, Int.reduceEq, reduceCtorEq]
end Go.Proofs.YtnpfppddongbhaaDoor
end

section
namespace Go.Proofs.YtnpfppddongbhaaDoor
open Go Go.AM
set_option autoImplicit false
set_option linter.unusedSimpArgs false
set_option linter.unusedVariables false
/-! ### what the pools' laws begin with, in any memory -/
abbrev tP : List Nat := [0, 3, 1, 0, 1, 97, 7, 0, 1, 9]
theorem rdl_P : rdl tP 3 4 (2, false) [cn0] = some ([cn0, ⟨1, [97], 0, 0, 0⟩, ⟨7, [], 0, 1, 0⟩], (9, false)) := by kernel_rfl
theorem rdP_P : rdP tP (0, false) = some ([cn0, ⟨1, [97], 0, 0, 0⟩, ⟨7, [], 0, 1, 0⟩], (9, false)) := by kernel_rfl
theorem val_P : val tP (0, false) 2 = 3 := by kernel_rfl
theorem adv_P : adv tP (0, false) 2 = (2, false) := by kernel_rfl
theorem t36 {h : Hp} (hw : Wf h) : ∃ h', s36 [] h = .ret (.bool true) h' ∧ To No h h' ∧ Wf h' := by
  obtain ⟨h1, m1, s1, o1, w1⟩ := mkS_sl hw (C.Bs tP) (C.Bs_one tP)
  have m1 : ∀ kk : AV → Hp → Res, (bld [(false, 1, (.int 8 (.ofNat 0))), (false, 1, (.int 8 (.ofNat 3))), (false, 1, (.int 8 (.ofNat 1))), (false, 1, (.int 8 (.ofNat 0))), (false, 1, (.int 8 (.ofNat 1))), (false, 1, (.int 8 (.ofNat 97))), (false, 1, (.int 8 (.ofNat 7))), (false, 1, (.int 8 (.ofNat 0))), (false, 1, (.int 8 (.ofNat 1))), (false, 1, (.int 8 (.ofNat 9)))] fun l0 => mkS h 1 10 l0 kk) = kk (.sl h.nb 0 10 1 (some 10)) h1 := fun kk => (show _ = mkS h 1 (C.Bs tP).length (avL (C.Bs tP)) kk from rfl).trans (m1 kk)
  obtain ⟨b, h2, e2, c2, o2, w2, n2⟩ := C.t38 s1 w1 (by decide) (by decide)
  have e2 : s38 [.sl h.nb 0 10 1 (some 10)] h1 = .ret (.ptr b 0) h2 := e2
  have c2 : CurQ h2 h1.nb b tP (0, false) := c2
  have lob := c2.lo
  have nb1 := o1.nb
  rcases t37 c2 (by omega) w2 (by
    intro p hp
    rw [val_P, adv_P, rdl_P] at hp
    obtain rfl := Option.some.inj hp
    refine ⟨fun c hc => ?_, by decide⟩
    simp only [List.mem_cons, List.not_mem_nil, or_false] at hc
    rcases hc with rfl | rfl | rfl <;> decide) with ⟨r1, -⟩ | ⟨p, v, pb, h3, r1, e3, hpb, p3, c3, o3, w3⟩
  · rw [rdP_P] at r1; cases r1
  · rw [rdP_P] at r1
    obtain rfl := Option.some.inj r1
    have e45 := t45 p3 2
    have hcl : clo [cn0, ⟨1, [97], 0, 0, 0⟩, ⟨7, [], 0, 1, 0⟩] 2 = some [97] := by decide
    rw [hcl] at e45
    have e45 : s45 [v, .int 63 2] h3 = .ret (.tup (.cons (S [97]) (.cons (.bool true) .nil))) h3 := e45
    have kv := fun k => p3.cK k
    have lv : ∀ k : AV → Res, lenL v k = k (.int 63 3) := fun k => p3.len k
    have e61 := C.t61 c3
    have e61 : s61 [.ptr b 0] h3 = .ret (.int 63 1) h3 := e61
    have gv : gsel (.bool true) true v = v := rfl
    have gp : gsel (.bool true) true (.ptr b 0) = .ptr b 0 := rfl
    have gb : ∀ x : Bool, gsel (.bool true) true (.bool x) = .bool x := fun x => rfl
    have gs : ∀ a : List UInt8, gsel (.bool true) true (S a) = S a := fun a => rfl
    have S97 : AV.str 1 97 = S [97] := rfl
    have z : decide (([97] : List UInt8) = [97]) = true := rfl
    have oo : To No h h3 := by
      have q1 : To (fun x => h.nb ≤ x) h h1 := o1.mono fun _ _ f => f.elim
      have q2 : To (fun x => h.nb ≤ x) h1 h2 := o2.mono fun _ _ f => f.elim
      have q3 : To (fun x => h.nb ≤ x) h2 h3 := o3.mono fun x _ e => by have : x = b := e; omega
      exact ((q1.trans q2).trans q3).mono fun x hx e => by omega
    refine ⟨h3, ?_, oo, w3⟩
    simp only [↓s36, ↓m1, ↓e2, ↓e3, nth_z, nth_1, ↓kv, ↓e45, ↓cK_S, ↓gv, ↓lv, ↓gb, ↓gs, ↓S97, ↓eqS_S, z, ↓gp, ↓e61, ↓SD, SA, Int.ofNat_eq_natCast, Int.cast_ofNat_Int, Int.reduceBEq, Int.reduceAdd, Int.reduceNeg, Int.reduceNegSucc, Int.reduceLT, Int.reduceLE, Int.reduceMul, Int.reduceTMod, Int.reduceSub, Int.reduceBNe, Bool.not_true, Bool.not_false, decide_true, decide_false, ne_eq, not_false_eq_true, Int.reduceEq, reduceCtorEq]
end Go.Proofs.YtnpfppddongbhaaDoor
end

section
namespace Go.Proofs.YtnpfppddongbhaaDoor
open Go Go.AM
set_option autoImplicit false
set_option linter.unusedSimpArgs false
set_option linter.unusedVariables false
/-! ### PoolTexts: entries as bytes -/
theorem win_at {t w r : List Nat} {at_ : Nat} (ha : at_ ≤ t.length) (h : t.drop at_ = w ++ r) : C.win t at_ false (w.length : Int) = w ∧ C.nat_ t at_ false (w.length : Int) = at_ + w.length ∧ C.nbad t at_ false (w.length : Int) = false := by
  have hl := congrArg List.length h
  simp at hl
  have ho : C.okc t at_ false (w.length : Int) := ⟨rfl, by omega, by omega⟩
  unfold C.win C.nat_ C.nbad
  rw [if_pos ho, if_pos ho, if_pos ho, Int.toNat_natCast, h, List.take_left]
  exact ⟨rfl, rfl, rfl⟩
theorem val_at {t w r : List Nat} {at_ : Nat} (ha : at_ ≤ t.length) (h : t.drop at_ = w ++ r) : val t (at_, false) (w.length : Int) = C.be w 0 ∧ adv t (at_, false) (w.length : Int) = (at_ + w.length, false) := by
  obtain ⟨h1, h2, h3⟩ := win_at ha h
  unfold val adv
  simp only [h1, h2, h3]
  exact ⟨trivial, trivial⟩
theorem drop_at {t w r : List Nat} {at_ : Nat} (h : t.drop at_ = w ++ r) : t.drop (at_ + w.length) = r := by
  rw [← List.drop_drop, h, List.drop_left]
/-- A text of one byte. -/
theorem ent_text {t r : List Nat} {at_ x : Nat} (ha : at_ ≤ t.length) (h : t.drop at_ = [1, 0, 1, x] ++ r) : ent t (at_, false) = (⟨1, [UInt8.ofNat x], 0, 0, 0⟩, true, (at_ + 4, false)) := by
  have hl := congrArg List.length h
  simp at hl
  obtain ⟨v1, a1⟩ := val_at (w := [1]) (r := [0, 1, x] ++ r) ha h
  have d1 := drop_at (w := [1]) (r := [0, 1, x] ++ r) h
  have v1 : val t (at_, false) 1 = 1 := v1
  have a1 : adv t (at_, false) 1 = (at_ + 1, false) := a1
  obtain ⟨v2, a2⟩ := val_at (w := [0, 1]) (r := [x] ++ r) (at_ := at_ + 1) (by omega) d1
  have d2 := drop_at (w := [0, 1]) (r := [x] ++ r) d1
  have v2 : val t (at_ + 1, false) 2 = 1 := v2
  have a2 : adv t (at_ + 1, false) 2 = (at_ + 3, false) := a2
  obtain ⟨w3, n3, b3⟩ := win_at (w := [x]) (r := r) (at_ := at_ + 3) (by omega) d2
  have w3 : C.win t (at_ + 3) false 1 = [x] := w3
  have n3 : C.nat_ t (at_ + 3) false 1 = at_ + 4 := n3
  have b3 : C.nbad t (at_ + 3) false 1 = false := b3
  have e1 : wtx t (at_ + 3, false) ((1 : Nat) : Int) = [UInt8.ofNat x] := by unfold wtx; show (C.win t (at_ + 3) false 1).map UInt8.ofNat = _; rw [w3]; rfl
  have e2 : adv t (at_ + 3, false) ((1 : Nat) : Int) = (at_ + 4, false) := by unfold adv; show (C.nat_ t (at_ + 3) false 1, C.nbad t (at_ + 3) false 1) = _; rw [n3, b3]
  unfold ent
  simp only [v1, if_true, a1, v2, a2, e1, e2]
/-- A long that is a byte. -/
theorem ent_long {t r : List Nat} {at_ x : Nat} (hx : x < 256) (ha : at_ ≤ t.length) (h : t.drop at_ = [5, 0, 0, 0, 0, 0, 0, 0, x] ++ r) : ent t (at_, false) = (⟨5, [], (x : Int), 0, 0⟩, true, (at_ + 9, false)) := by
  have hl := congrArg List.length h
  simp at hl
  obtain ⟨v1, a1⟩ := val_at (w := [5]) (r := [0, 0, 0, 0, 0, 0, 0, x] ++ r) ha h
  have d1 := drop_at (w := [5]) (r := [0, 0, 0, 0, 0, 0, 0, x] ++ r) h
  have v1 : val t (at_, false) 1 = 5 := v1
  have a1 : adv t (at_, false) 1 = (at_ + 1, false) := a1
  obtain ⟨v2, a2⟩ := val_at (w := [0, 0, 0, 0]) (r := [0, 0, 0, x] ++ r) (at_ := at_ + 1) (by omega) d1
  have d2 := drop_at (w := [0, 0, 0, 0]) (r := [0, 0, 0, x] ++ r) d1
  have v2 : val t (at_ + 1, false) 4 = 0 := v2
  have a2 : adv t (at_ + 1, false) 4 = (at_ + 5, false) := a2
  obtain ⟨v3, a3⟩ := val_at (w := [0, 0, 0, x]) (r := r) (at_ := at_ + 5) (by omega) d2
  have v3 : val t (at_ + 5, false) 4 = x := by
    have e : val t (at_ + 5, false) 4 = C.be [0, 0, 0, x] 0 := v3
    rw [e]; simp [C.be]
  have a3 : adv t (at_ + 5, false) 4 = (at_ + 9, false) := a3
  have en : n64 0 x = (x : Int) := by
    have hc : ∀ y : Fin 256, n64 0 y.val = (y.val : Int) := by decide +kernel
    exact hc ⟨x, hx⟩
  unfold ent
  simp only [v1, a1, v2, a2, v3, a3, en, show ¬ (5 = 1) by decide, show ¬ (5 = 3) by decide, if_false, if_true]
end Go.Proofs.YtnpfppddongbhaaDoor
end

section
namespace Go.Proofs.YtnpfppddongbhaaDoor
open Go Go.AM
set_option autoImplicit false
set_option linter.unusedSimpArgs false
set_option linter.unusedVariables false
/-- Is entry i a long? -/
def lg (L : List Bool) (i : Nat) : Bool := match L[i]? with | some b => b | none => false
def pcb (L : List Bool) (i : Nat) : List Nat := if lg L i = true then [5, 0, 0, 0, 0, 0, 0, 0, i % 256] else [1, 0, 1, 97 + i % 26]
def pce (L : List Bool) (i : Nat) : List Cn := if lg L i = true then [⟨5, [], ((i % 256 : Nat) : Int), 0, 0⟩] ++ [cn0] else [⟨1, [UInt8.ofNat (97 + i % 26)], 0, 0, 0⟩]
def pbs (L : List Bool) : Nat → Nat → List Nat
  | 0, _ => []
  | k + 1, i => pcb L i ++ pbs L k (i + 1)
def pes (L : List Bool) : Nat → Nat → List Cn
  | 0, _ => []
  | k + 1, i => pce L i ++ pes L k (i + 1)
theorem pce_len (L : List Bool) (i : Nat) : 1 ≤ (pce L i).length ∧ (pce L i).length ≤ 2 := by unfold pce; split <;> simp
theorem pcb_len (L : List Bool) (i : Nat) : (pcb L i).length ≤ 9 := by unfold pcb; split <;> simp
theorem pes_len (L : List Bool) : ∀ k i, k ≤ (pes L k i).length ∧ (pes L k i).length ≤ 2 * k := by
  intro k
  induction k with
  | zero => intro i; simp [pes]
  | succ k ih =>
    intro i
    have h1 := pce_len L i
    have h2 := ih (i + 1)
    rw [pes, List.length_append]; omega
theorem pbs_len (L : List Bool) : ∀ k i, (pbs L k i).length ≤ 9 * k := by
  intro k
  induction k with
  | zero => intro i; simp [pbs]
  | succ k ih =>
    intro i
    have h1 := pcb_len L i
    have h2 := ih (i + 1)
    rw [pbs, List.length_append]; omega
theorem rdl_pbs (L : List Bool) (t : List Nat) (N : Nat) : ∀ (k f i at_ : Nat) (cs : List Cn), k < f → at_ ≤ t.length → t.drop at_ = pbs L k i → cs.length + (pes L k i).length = N → rdl t N f (at_, false) cs = some (cs ++ pes L k i, (t.length, false)) := by
  intro k
  induction k with
  | zero =>
    intro f i at_ cs hf ha hd hN
    obtain ⟨f, rfl⟩ : ∃ j, f = j + 1 := ⟨f - 1, by omega⟩
    have hl := congrArg List.length hd
    simp [pbs] at hl
    have hN' : ¬ cs.length < N := by simp [pes] at hN; omega
    have : at_ = t.length := by omega
    unfold rdl
    rw [if_neg hN', this]; simp [pes]
  | succ k ih =>
    intro f i at_ cs hf ha hd hN
    obtain ⟨f, rfl⟩ : ∃ j, f = j + 1 := ⟨f - 1, by omega⟩
    rw [pbs] at hd
    rw [pes, List.length_append] at hN
    have h1 := pce_len L i
    have hlt : cs.length < N := by omega
    have hl := congrArg List.length hd
    simp at hl
    unfold rdl
    rw [if_pos hlt, pes]
    cases hg : lg L i with
    | true =>
      have eb : pcb L i = [5, 0, 0, 0, 0, 0, 0, 0, i % 256] := if_pos hg
      have ee : pce L i = [⟨5, [], ((i % 256 : Nat) : Int), 0, 0⟩] ++ [cn0] := if_pos hg
      rw [eb] at hd hl
      rw [ee] at hN ⊢
      have e := ent_long (x := i % 256) (Nat.mod_lt _ (by decide)) ha hd
      have hd2 := drop_at (w := [5, 0, 0, 0, 0, 0, 0, 0, i % 256]) hd
      simp at hN hl
      rw [e, if_pos ⟨rfl, rfl, fun hh => by have := hh.2; omega⟩, if_pos rfl]
      show rdl t N f (at_ + 9, false) _ = _
      rw [ih f (i + 1) (at_ + 9) _ (by omega) (by omega) hd2 (by simp; omega)]
      simp
    | false =>
      have hg' : ¬ lg L i = true := by rw [hg]; decide
      have eb : pcb L i = [1, 0, 1, 97 + i % 26] := if_neg hg'
      have ee : pce L i = [⟨1, [UInt8.ofNat (97 + i % 26)], 0, 0, 0⟩] := if_neg hg'
      rw [eb] at hd hl
      rw [ee] at hN ⊢
      have e := ent_text (x := 97 + i % 26) ha hd
      have hd2 := drop_at (w := [1, 0, 1, 97 + i % 26]) hd
      simp at hN hl
      rw [e, if_pos ⟨rfl, rfl, fun hh => by have := hh.1; cases this⟩, if_neg (show ¬ (1 = 5) by decide)]
      show rdl t N f (at_ + 4, false) _ = _
      rw [ih f (i + 1) (at_ + 4) _ (by omega) (by omega) hd2 (by simp; omega)]
      simp
theorem okD_1 (j : Nat) (hj : j < 26) : okD [UInt8.ofNat (97 + j)] = true := by
  have hc : ∀ y : Fin 26, okD [UInt8.ofNat (97 + y.val)] = true := by decide +kernel
  exact hc ⟨j, hj⟩
theorem pes_mem (L : List Bool) : ∀ k i, ∀ c ∈ pes L k i, (c = cn0 ∨ (∃ x : Nat, c = ⟨5, [], (x : Int), 0, 0⟩) ∨ ∃ j, j < 26 ∧ c = ⟨1, [UInt8.ofNat (97 + j)], 0, 0, 0⟩) := by
  intro k
  induction k with
  | zero => intro i c hc; simp [pes] at hc
  | succ k ih =>
    intro i c hc
    rw [pes] at hc
    rcases List.mem_append.1 hc with hc | hc
    · unfold pce at hc
      split at hc
      · simp only [List.cons_append, List.nil_append, List.mem_cons, List.not_mem_nil, or_false] at hc
        rcases hc with rfl | rfl
        · exact .inr (.inl ⟨_, rfl⟩)
        · exact .inl rfl
      · simp only [List.mem_cons, List.not_mem_nil, or_false] at hc
        subst hc
        exact .inr (.inr ⟨i % 26, Nat.mod_lt _ (by decide), rfl⟩)
    · exact ih _ c hc
theorem pes_ez (L : List Bool) (k i : Nat) : Ez (cn0 :: pes L k i) := by
  intro c hc
  have : c = cn0 ∨ (∃ x : Nat, c = ⟨5, [], (x : Int), 0, 0⟩) ∨ ∃ j, j < 26 ∧ c = ⟨1, [UInt8.ofNat (97 + j)], 0, 0, 0⟩ := by
    rcases List.mem_cons.1 hc with rfl | hc
    · exact .inl rfl
    · exact pes_mem L k i c hc
  rcases this with rfl | ⟨x, rfl⟩ | ⟨j, hj, rfl⟩
  · exact ⟨by decide, by decide, by decide, by decide, by decide⟩
  · exact ⟨by simp, by simp, by simp, by simp, by simp⟩
  · exact ⟨by simp, by simp, by simp, by simp, by simp⟩
theorem pes_rg (L : List Bool) (k i : Nat) (cs : List Cn) : (cn0 :: pes L k i).all (rg cs) = true := by
  rw [List.all_eq_true]
  intro c hc
  have : c = cn0 ∨ (∃ x : Nat, c = ⟨5, [], (x : Int), 0, 0⟩) ∨ ∃ j, j < 26 ∧ c = ⟨1, [UInt8.ofNat (97 + j)], 0, 0, 0⟩ := by
    rcases List.mem_cons.1 hc with rfl | hc
    · exact .inl rfl
    · exact pes_mem L k i c hc
  rcases this with rfl | ⟨x, rfl⟩ | ⟨j, hj, rfl⟩
  · rfl
  · rfl
  · exact (if_pos rfl).trans (okD_1 j hj)
end Go.Proofs.YtnpfppddongbhaaDoor
end

section
namespace Go.Proofs.YtnpfppddongbhaaDoor
open Go Go.AM
set_option autoImplicit false
set_option linter.unusedSimpArgs false
set_option linter.unusedVariables false
theorem pbs_snoc (L : List Bool) : ∀ k i, pbs L (k + 1) i = pbs L k i ++ pcb L (i + k) := by
  intro k
  induction k with
  | zero => intro i; simp [pbs]
  | succ k ih => intro i; rw [pbs, ih (i + 1), pbs, List.append_assoc, show i + 1 + k = i + (k + 1) by omega]
theorem pes_snoc (L : List Bool) : ∀ k i, pes L (k + 1) i = pes L k i ++ pce L (i + k) := by
  intro k
  induction k with
  | zero => intro i; simp [pes]
  | succ k ih => intro i; rw [pes, ih (i + 1), pes, List.append_assoc, show i + 1 + k = i + (k + 1) by omega]
def Bl (L : List Bool) : List AV := L.map AV.bool
theorem Bl_len (L : List Bool) : (Bl L).length = L.length := by simp [Bl]
theorem Bl_get (L : List Bool) (i : Nat) (hi : i < L.length) : (Bl L)[i]'(by rw [Bl_len]; exact hi) = .bool L[i] := by simp [Bl]
theorem Bs_app (a b : List Nat) : C.Bs (a ++ b) = C.Bs a ++ C.Bs b := by simp [C.Bs]
theorem w8m (i : Nat) : wrapC 8 (i : Int) = ((i % 256 : Nat) : Int) := by
  rw [w8]; omega
theorem step10 {L : List Bool} {n N i : Nat} {P : Nat → Prop} {v2 v4 v : AV} {h : Hp} (hn : n ≤ 60) (hP : ∀ b, P b → b < N) (hi : i < n) (hN : N ≤ h.nb) (hw : Wf h) (hv : Gr h N v (C.Bs (pbs L i 0))) (h2 : Sl h P v2 (Bl L)) :
    ∃ v' h', L10n0 [.int 63 (n : Int), v2, v4, v, .int 63 ((1 + (pes L i 0).length : Nat) : Int), .int 63 (i : Int)] h = .norm [.int 63 (n : Int), v2, v4, v', .int 63 ((1 + (pes L (i + 1) 0).length : Nat) : Int), .int 63 ((i + 1 : Nat) : Int)] h' ∧ Gr h' N v' (C.Bs (pbs L (i + 1) 0)) ∧ To (fun y => N ≤ y) h h' ∧ Wf h' := by
  have q : (i : Int) < (n : Int) := by omega
  have ln := fun k => lenL_sl h2 k
  rw [Bl_len] at ln
  have gt : ∀ x : Int, gsel (.bool true) true (.int 63 x) = .int 63 x := fun x => rfl
  have gv : gsel (.bool true) true v2 = v2 := rfl
  have hbl := pbs_len L i 0
  have hpl := pes_len L i 0
  have r1 : ∀ k : AV → Res, iRem (.int 63 (i : Int)) (.int 63 26) k = k (.int 63 ((i % 26 : Nat) : Int)) := fun k => rem4 i 26 (by decide) k
  have c1 := w8m i
  have c2 : wrapC 8 ((i % 26 : Nat) : Int) = ((i % 26 : Nat) : Int) := by rw [w8m]; omega
  have c3 : wrapC 8 (97 + ((i % 26 : Nat) : Int)) = ((97 + i % 26 : Nat) : Int) := by rw [w8]; omega
  have a1 : wrapC 63 (((1 + (pes L i 0).length : Nat) : Int) + 1) = ((1 + ((pes L i 0).length + 1) : Nat) : Int) := by rw [w63_in _ (by omega) (by omega)]; omega
  have a2 : wrapC 63 (((1 + (pes L i 0).length : Nat) : Int) + 2) = ((1 + ((pes L i 0).length + 2) : Nat) : Int) := by rw [w63_in _ (by omega) (by omega)]; omega
  have snb := pbs_snoc L i 0
  have sne := pes_snoc L i 0
  rw [Nat.zero_add] at snb sne
  have piece : ∀ (w : List Nat), w.length ≤ 9 → ∃ y1 v' h1 h', (∀ k : AV → Hp → Res, mkS h 1 w.length (avL (C.Bs w)) k = k y1 h1) ∧ (∀ k : AV → Hp → Res, apd h1 1 1 v y1 k = k v' h') ∧ Gr h' N v' (C.Bs (pbs L i 0 ++ w)) ∧ To (fun y => N ≤ y) h h' ∧ Wf h' := by
    intro w hwl
    obtain ⟨h1, m1, s1, o1, w1⟩ := mkS_sl hw (C.Bs w) (C.Bs_one w)
    have nb1 := o1.nb
    obtain ⟨hv1, hv2⟩ := hv
    have hv' : Gr h1 N v (C.Bs (pbs L i 0)) := ⟨hv1.to o1 (fun _ _ f => f), by
      rcases hv2 with e | e | ⟨b, B, e, g1, g2, g3⟩
      · exact .inl e
      · exact .inr (.inl e)
      · refine .inr (.inr ⟨b, B, e, ?_, g2, g3⟩)
        rcases hv1.2 with ⟨e2, -⟩ | ⟨e2, -⟩ | ⟨b2, o2, cc, B2, e2, r1, r2, r3, r4, r5⟩
        · rw [e] at e2; cases e2
        · rw [e] at e2; cases e2
        · rw [e] at e2; cases e2
          rw [o1.get b r2.lt (fun f => f)]; exact g1⟩
    obtain ⟨v', h', p1, p2, p3⟩ := apd_gr (by_ := 1) (by omega) w1 hv' s1 (by rw [C.Bs_len, C.Bs_len]; omega) (by rw [C.Bs_len, C.Bs_len]; omega)
    refine ⟨.sl h.nb 0 (C.Bs w).length 1 (some (C.Bs w).length), v', h1, h', fun k => ?_, p1, by rw [Bs_app]; exact p2, (o1.mono fun _ _ f => f.elim).trans p3, p3.wf w1⟩
    have e : mkS h 1 w.length (avL (C.Bs w)) k = mkS h 1 (C.Bs w).length (avL (C.Bs w)) k := by rw [C.Bs_len]
    exact e.trans (m1 k)
  cases hg : lg L i with
  | true =>
    have eb : pcb L i = [5, 0, 0, 0, 0, 0, 0, 0, i % 256] := if_pos hg
    have ee : (pce L i).length = 2 := by unfold pce; rw [if_pos hg]; rfl
    obtain ⟨hl, hb⟩ : ∃ hl : i < L.length, L[i] = true := by
      unfold lg at hg
      cases hc : L[i]? with
      | none => rw [hc] at hg; cases hg
      | some b =>
        rw [hc] at hg
        obtain ⟨hl, he⟩ := List.getElem?_eq_some_iff.1 hc
        exact ⟨hl, by rw [he]; exact hg⟩
    have ql : (i : Int) < (L.length : Int) := by omega
    obtain ⟨pb, po, x1, x2⟩ := ixp_sl h2 i (by rw [Bl_len]; exact hl)
    rw [Bl_get L i hl, hb] at x2
    obtain ⟨y1, v', h1, h', m1, p1, p2, p3, p4⟩ := piece [5, 0, 0, 0, 0, 0, 0, 0, i % 256] (by simp)
    have m1 : ∀ kk : AV → Hp → Res, (bld [(false, 1, (.int 8 (.ofNat 5))), (false, 1, (.int 8 (.ofNat 0))), (false, 1, (.int 8 (.ofNat 0))), (false, 1, (.int 8 (.ofNat 0))), (false, 1, (.int 8 (.ofNat 0))), (false, 1, (.int 8 (.ofNat 0))), (false, 1, (.int 8 (.ofNat 0))), (false, 1, (.int 8 (.ofNat 0))), (false, 1, (.int 8 (wrapC 8 (i : Int))))] fun l => mkS h 1 9 l kk) = kk y1 h1 := fun kk => by rw [c1]; exact m1 kk
    refine ⟨v', h', ?_, by rw [snb, eb]; exact p2, p3, p4⟩
    rw [sne, List.length_append, ee]
    simp only [↓L10n0, q, ↓ln, ql, ↓gv, ↓gt, ↓x1, ↓x2, ↓iConv_i, ↓m1, ↓p1, a2, s1n i (by omega), ↓SD, SA, Int.ofNat_eq_natCast, Int.cast_ofNat_Int, Int.reduceBEq, Int.reduceAdd, Int.reduceNeg, Int.reduceNegSucc, Int.reduceLT, Int.reduceLE, Int.reduceMul, Int.reduceTMod, Int.reduceSub, Int.reduceBNe, Bool.not_true, Bool.not_false, decide_true, decide_false, ne_eq, not_false_eq_true, Int.reduceEq, reduceCtorEq]
  | false =>
    have hg' : ¬ lg L i = true := by rw [hg]; decide
    have eb : pcb L i = [1, 0, 1, 97 + i % 26] := if_neg hg'
    have ee : (pce L i).length = 1 := by unfold pce; rw [if_neg hg']; rfl
    obtain ⟨y1, v', h1, h', m1, p1, p2, p3, p4⟩ := piece [1, 0, 1, 97 + i % 26] (by simp)
    have m1 : ∀ kk : AV → Hp → Res, (bld [(false, 1, (.int 8 (.ofNat 1))), (false, 1, (.int 8 (.ofNat 0))), (false, 1, (.int 8 (.ofNat 1))), (false, 1, (.int 8 ((97 + i % 26 : Nat) : Int)))] fun l => mkS h 1 4 l kk) = kk y1 h1 := fun kk => m1 kk
    have m1' : ∀ kk : AV → Hp → Res, (bld [(false, 1, (.int 8 1)), (false, 1, (.int 8 0)), (false, 1, (.int 8 1)), (false, 1, (.int 8 (wrapC 8 (97 + wrapC 8 ((i : Int).tmod 26)))))] fun l => mkS h 1 4 l kk) = kk y1 h1 := fun kk => by
      have e : wrapC 8 (97 + wrapC 8 ((i : Int).tmod 26)) = ((97 + i % 26 : Nat) : Int) := by
        have : (i : Int).tmod 26 = ((i % 26 : Nat) : Int) := rfl
        rw [this, c2, c3]
      rw [e]; exact m1 kk
    have m1'' : ∀ kk : AV → Hp → Res, (bld [(false, 1, (.int 8 (.ofNat 1))), (false, 1, (.int 8 (.ofNat 0))), (false, 1, (.int 8 (.ofNat 1))), (false, 1, (.int 8 (wrapC 8 (97 + wrapC 8 ((i : Int).tmod 26)))))] fun l => mkS h 1 4 l kk) = kk y1 h1 := m1'
    refine ⟨v', h', ?_, by rw [snb, eb]; exact p2, p3, p4⟩
    rw [sne, List.length_append, ee]
    by_cases hl : i < L.length
    · have ql : (i : Int) < (L.length : Int) := by omega
      have hb : L[i] = false := by
        unfold lg at hg
        rw [List.getElem?_eq_getElem hl] at hg
        exact hg
      obtain ⟨pb, po, x1, x2⟩ := ixp_sl h2 i (by rw [Bl_len]; exact hl)
      rw [Bl_get L i hl, hb] at x2
      simp only [↓L10n0, q, ↓ln, ql, ↓gv, ↓gt, ↓x1, ↓x2, ↓r1, ↓m1', ↓m1'', ↓m1, ↓p1, a1, s1n i (by omega), ↓SD, SA, Int.ofNat_eq_natCast, Int.cast_ofNat_Int, Int.reduceBEq, Int.reduceAdd, Int.reduceNeg, Int.reduceNegSucc, Int.reduceLT, Int.reduceLE, Int.reduceMul, Int.reduceTMod, Int.reduceSub, Int.reduceBNe, Bool.not_true, Bool.not_false, decide_true, decide_false, ne_eq, not_false_eq_true, Int.reduceEq, reduceCtorEq]
    · have ql : ¬ (i : Int) < (L.length : Int) := by omega
      simp only [↓L10n0, q, ↓ln, ql, ↓gv, ↓gt, ↓r1, ↓m1', ↓m1'', ↓m1, ↓p1, a1, s1n i (by omega), ↓SD, SA, Int.ofNat_eq_natCast, Int.cast_ofNat_Int, Int.reduceBEq, Int.reduceAdd, Int.reduceNeg, Int.reduceNegSucc, Int.reduceLT, Int.reduceLE, Int.reduceMul, Int.reduceTMod, Int.reduceSub, Int.reduceBNe, Bool.not_true, Bool.not_false, decide_true, decide_false, ne_eq, not_false_eq_true, Int.reduceEq, reduceCtorEq]
end Go.Proofs.YtnpfppddongbhaaDoor
end

section
namespace Go.Proofs.YtnpfppddongbhaaDoor
open Go Go.AM
set_option autoImplicit false
set_option linter.unusedSimpArgs false
set_option linter.unusedVariables false
theorem loop10 {L : List Bool} {n N : Nat} {P : Nat → Prop} {v2 v4 : AV} (hn : n ≤ 60) (hP : ∀ b, P b → b < N) : ∀ (f m i : Nat) (v : AV) (h : Hp), n - i ≤ f → f < m → i ≤ n → N ≤ h.nb → Wf h → Gr h N v (C.Bs (pbs L i 0)) → Sl h P v2 (Bl L) →
    ∃ v' h', lp L10n0 m [.int 63 (n : Int), v2, v4, v, .int 63 ((1 + (pes L i 0).length : Nat) : Int), .int 63 (i : Int)] h = .exit 0 [.int 63 (n : Int), v2, v4, v', .int 63 ((1 + (pes L n 0).length : Nat) : Int)] h' ∧ Gr h' N v' (C.Bs (pbs L n 0)) ∧ To (fun y => N ≤ y) h h' ∧ Wf h' := by
  intro f
  induction f with
  | zero =>
    intro m i v h hf hm hi hN hw hv h2
    obtain ⟨m, rfl⟩ : ∃ k, m = k + 1 := ⟨m - 1, by omega⟩
    obtain rfl : i = n := by omega
    have q : ¬ (i : Int) < (i : Int) := by omega
    exact ⟨v, h, lpx m (by simp only [↓L10n0, q, ↓SD, SA, Int.ofNat_eq_natCast, Int.cast_ofNat_Int, Int.reduceBEq, Int.reduceAdd, Int.reduceNeg, Int.reduceNegSucc, Int.reduceLT, Int.reduceLE, Int.reduceMul, Int.reduceTMod, Int.reduceSub, Int.reduceBNe, Bool.not_true, Bool.not_false, decide_true, decide_false, ne_eq, not_false_eq_true, Int.reduceEq, reduceCtorEq]), hv, To.refl _ _, hw⟩
  | succ f ih =>
    intro m i v h hf hm hi hN hw hv h2
    obtain ⟨m, rfl⟩ : ∃ k, m = k + 1 := ⟨m - 1, by omega⟩
    by_cases hin : i < n
    · obtain ⟨v', h', e, g', o', w'⟩ := step10 (v4 := v4) hn hP hin hN hw hv h2
      have nb' := o'.nb
      obtain ⟨v'', h'', r1, r2, r3, r4⟩ := ih m (i + 1) v' h' (by omega) (by omega) (by omega) (by omega) w' g' (h2.to o' (fun b hb e => by have := hP b hb; omega))
      exact ⟨v'', h'', (lpn m e).trans r1, r2, o'.trans r3, r4⟩
    · obtain rfl : i = n := by omega
      have q : ¬ (i : Int) < (i : Int) := by omega
      exact ⟨v, h, lpx m (by simp only [↓L10n0, q, ↓SD, SA, Int.ofNat_eq_natCast, Int.cast_ofNat_Int, Int.reduceBEq, Int.reduceAdd, Int.reduceNeg, Int.reduceNegSucc, Int.reduceLT, Int.reduceLE, Int.reduceMul, Int.reduceTMod, Int.reduceSub, Int.reduceBNe, Bool.not_true, Bool.not_false, decide_true, decide_false, ne_eq, not_false_eq_true, Int.reduceEq, reduceCtorEq]), hv, To.refl _ _, hw⟩
/-- The pool that is read. -/
theorem pce_at (L : List Bool) (n : Nat) : ∀ (k i : Nat), i + k = n → ∀ (pre : List Cn), (∀ (hl : lg L i = true) (hk : 0 < k), ∃ (h1 : pre.length + 1 < (pre ++ pes L k i).length), (pre ++ pes L k i)[pre.length]'(by omega) = ⟨5, [], ((i % 256 : Nat) : Int), 0, 0⟩ ∧ (pre ++ pes L k i)[pre.length + 1] = cn0) ∧
    (∀ (hl : lg L i = false) (hk : 0 < k), ∃ (h1 : pre.length < (pre ++ pes L k i).length), (pre ++ pes L k i)[pre.length] = ⟨1, [UInt8.ofNat (97 + i % 26)], 0, 0, 0⟩) := by
  intro k i hik pre
  refine ⟨fun hl hk => ?_, fun hl hk => ?_⟩
  · obtain ⟨k, rfl⟩ : ∃ j, k = j + 1 := ⟨k - 1, by omega⟩
    have ee : pce L i = [⟨5, [], ((i % 256 : Nat) : Int), 0, 0⟩] ++ [cn0] := if_pos hl
    have e : pre ++ pes L (k + 1) i = pre ++ (⟨5, [], ((i % 256 : Nat) : Int), 0, 0⟩ :: cn0 :: pes L k (i + 1)) := by rw [pes, ee]; rfl
    simp only [e]
    refine ⟨by simp, ?_, ?_⟩
    · rw [List.getElem_append_right (by omega)]; simp
    · rw [List.getElem_append_right (by omega)]; simp
  · obtain ⟨k, rfl⟩ : ∃ j, k = j + 1 := ⟨k - 1, by omega⟩
    have ee : pce L i = [⟨1, [UInt8.ofNat (97 + i % 26)], 0, 0, 0⟩] := if_neg (by rw [hl]; decide)
    have e : pre ++ pes L (k + 1) i = pre ++ (⟨1, [UInt8.ofNat (97 + i % 26)], 0, 0, 0⟩ :: pes L k (i + 1)) := by rw [pes, ee]; rfl
    simp only [e]
    refine ⟨by simp, ?_⟩
    rw [List.getElem_append_right (by omega)]; simp
end Go.Proofs.YtnpfppddongbhaaDoor
end

section
namespace Go.Proofs.YtnpfppddongbhaaDoor
open Go Go.AM
set_option autoImplicit false
set_option linter.unusedSimpArgs false
set_option linter.unusedVariables false
theorem pes_split (L : List Bool) : ∀ i k j, pes L (i + k) j = pes L i j ++ pes L k (j + i) := by
  intro i
  induction i with
  | zero => intro k j; simp [pes]
  | succ i ih => intro k j; rw [show i + 1 + k = (i + k) + 1 by omega, pes, pes, ih k (j + 1), List.append_assoc, show j + 1 + i = j + (i + 1) by omega]
theorem step10b {L : List Bool} {n i cap : Nat} {P Q : Nat → Prop} {v2 v4 v : AV} {h : Hp} (hn : n ≤ 60) (hi : i < n) (hw : Wf h) (h2 : Sl h P v2 (Bl L)) (hp : Pl5 h Q cap v (cn0 :: pes L n 0)) :
    ∃ h', L10n1 [.int 63 (n : Int), v2, v4, v, .int 63 ((1 + (pes L i 0).length : Nat) : Int), .int 63 (i : Int)] h = .norm [.int 63 (n : Int), v2, v4, v, .int 63 ((1 + (pes L (i + 1) 0).length : Nat) : Int), .int 63 ((i + 1 : Nat) : Int)] h' ∧ To No h h' ∧ Wf h' := by
  have q : (i : Int) < (n : Int) := by omega
  have ln := fun k => lenL_sl h2 k
  rw [Bl_len] at ln
  have gt : ∀ x : Int, gsel (.bool true) true (.int 63 x) = .int 63 x := fun x => rfl
  have gf : ∀ x : Int, gsel (.bool false) false (.int 63 x) = .int 63 x := fun x => rfl
  have gv2 : gsel (.bool true) true v2 = v2 := rfl
  have gvf : gsel (.bool false) false v = v := rfl
  have gs : ∀ a : List UInt8, gsel (.bool false) false (S a) = S a := fun a => rfl
  have hpl := pes_len L i 0
  have hsp : (cn0 :: pes L n 0 : List Cn) = (cn0 :: pes L i 0) ++ pes L (n - i) i := by
    have := pes_split L i (n - i) 0
    rw [show i + (n - i) = n by omega, Nat.zero_add] at this
    rw [this]; rfl
  rw [hsp] at hp
  have sne := pes_snoc L i 0
  rw [Nat.zero_add] at sne
  have hpre : (cn0 :: pes L i 0).length = 1 + (pes L i 0).length := by simp; omega
  obtain ⟨k1, k2⟩ := pce_at L n (n - i) i (by omega) (cn0 :: pes L i 0)
  cases hg : lg L i with
  | true =>
    obtain ⟨hlt, g1, g2⟩ := k1 hg (by omega)
    have ee : (pce L i).length = 2 := by unfold pce; rw [if_pos hg]; rfl
    obtain ⟨hl, hb⟩ : ∃ hl : i < L.length, L[i] = true := by
      unfold lg at hg
      cases hc : L[i]? with
      | none => rw [hc] at hg; cases hg
      | some b =>
        rw [hc] at hg
        obtain ⟨hl, he⟩ := List.getElem?_eq_some_iff.1 hc
        exact ⟨hl, by rw [he]; exact hg⟩
    have ql : (i : Int) < (L.length : Int) := by omega
    obtain ⟨pb, po, x1, x2⟩ := ixp_sl h2 i (by rw [Bl_len]; exact hl)
    rw [Bl_get L i hl, hb] at x2
    obtain ⟨b1, o1, y1, -, y2, -, y3, -⟩ := hp.pt (cn0 :: pes L i 0).length (by omega)
    obtain ⟨b2, o2, z1, -, z2, -⟩ := hp.pt ((cn0 :: pes L i 0).length + 1) hlt
    rw [g1] at y2 y3
    rw [g2] at z2
    rw [hpre] at y1 z1
    have y2 : ∀ k : AV → Res, ld1 h (.ptr b1 (Nat.add o1 0)) k = k (.int 63 5) := y2
    have y2' : ∀ k : AV → Res, ld1 h (.ptr b1 o1) k = k (.int 63 5) := y2
    have y3 : ∀ k : AV → Res, ld1 h (.ptr b1 (Nat.add o1 2)) k = k (.int 63 (i : Int)) := fun k => by rw [y3]; show k (.int 63 ((i % 256 : Nat) : Int)) = _; rw [Nat.mod_eq_of_lt (by omega)]
    have y3' : ∀ k : AV → Res, ld1 h (.ptr b1 (o1 + 2)) k = k (.int 63 (i : Int)) := y3
    have z2 : ∀ k : AV → Res, ld1 h (.ptr b2 (Nat.add o2 0)) k = k (.int 63 0) := z2
    have z2' : ∀ k : AV → Res, ld1 h (.ptr b2 o2) k = k (.int 63 0) := z2
    have a1 : wrapC 63 (((1 + (pes L i 0).length : Nat) : Int) + 1) = ((1 + (pes L i 0).length + 1 : Nat) : Int) := by rw [w63_in _ (by omega) (by omega)]; omega
    have a2 : wrapC 63 (((1 + (pes L i 0).length : Nat) : Int) + 2) = ((1 + ((pes L i 0).length + 2) : Nat) : Int) := by rw [w63_in _ (by omega) (by omega)]; omega
    refine ⟨h, ?_, To.refl _ _, hw⟩
    rw [sne, List.length_append, ee]
    simp only [↓L10n1, q, ↓ln, ql, ↓gv2, ↓gt, ↓gf, ↓x1, ↓x2, ↓y1, ↓cP_p, ↓y2, ↓y2', ↓gvf, ↓y3, ↓y3', beq_self_eq_true, Bool.not_true, a1, ↓z1, ↓z2, ↓z2', a2, ↓blk_x, s1n i (by omega), ↓SD, SA, Int.ofNat_eq_natCast, Int.cast_ofNat_Int, Int.reduceBEq, Int.reduceAdd, Int.reduceNeg, Int.reduceNegSucc, Int.reduceLT, Int.reduceLE, Int.reduceMul, Int.reduceTMod, Int.reduceSub, Int.reduceBNe, Bool.not_true, Bool.not_false, decide_true, decide_false, ne_eq, not_false_eq_true, Int.reduceEq, reduceCtorEq]
  | false =>
    obtain ⟨hlt, g1⟩ := k2 hg (by omega)
    have hg' : ¬ lg L i = true := by rw [hg]; decide
    have ee : (pce L i).length = 1 := by unfold pce; rw [if_neg hg']; rfl
    have e39 := t39 hp ((1 + (pes L i 0).length : Nat) : Int)
    have htx : txo ((cn0 :: pes L i 0) ++ pes L (n - i) i) ((1 + (pes L i 0).length : Nat) : Int) = some [UInt8.ofNat (97 + i % 26)] := by
      have hx : ((cn0 :: pes L i 0) ++ pes L (n - i) i)[1 + (pes L i 0).length]? = some ⟨1, [UInt8.ofNat (97 + i % 26)], 0, 0, 0⟩ := by
        rw [← hpre, List.getElem?_eq_getElem hlt, g1]
      unfold txo tg
      rw [Int.toNat_natCast, hx, decide_eq_true (by omega)]
      rfl
    rw [htx] at e39
    have e39 : s39 [v, .int 63 ((1 + (pes L i 0).length : Nat) : Int)] h = .ret (.tup (.cons (S [UInt8.ofNat (97 + i % 26)]) (.cons (.bool true) .nil))) h := e39
    have a1 : wrapC 63 (((1 + (pes L i 0).length : Nat) : Int) + 1) = ((1 + ((pes L i 0).length + 1) : Nat) : Int) := by rw [w63_in _ (by omega) (by omega)]; omega
    obtain ⟨h1, -, m1, r1, -, o1, w1⟩ := mkS1 hw (UInt8.ofNat (97 + i % 26))
    have hto : (UInt8.ofNat (97 + i % 26)).toNat = 97 + i % 26 := UInt8.toNat_ofNat_of_lt' (show 97 + i % 26 < 2 ^ 8 by omega)
    have b1 := fun k => b2s_S (r1.sl (n := 1) rfl (c := some 1) (fun cap e => by cases e; exact Nat.le_refl _)) k
    have e97 : wrapC 8 (97 + wrapC 8 ((i : Int).tmod 26)) = ((UInt8.ofNat (97 + i % 26)).toNat : Int) := by
      have t26 : (i : Int).tmod 26 = ((i % 26 : Nat) : Int) := rfl
      rw [t26, w8m, hto, w8]; omega
    have m1' : ∀ kk : AV → Hp → Res, (bld [(false, 1, (.int 8 (wrapC 8 (97 + wrapC 8 ((i : Int).tmod 26)))))] fun l => mkS h 1 1 l kk) = kk (.sl h.nb 0 1 1 (some 1)) h1 := fun kk => by rw [e97]; exact m1 kk
    have zz : decide (([UInt8.ofNat (97 + i % 26)] : List UInt8) = [UInt8.ofNat (97 + i % 26)]) = true := decide_eq_true rfl
    refine ⟨h1, ?_, o1, w1⟩
    rw [sne, List.length_append, ee]
    by_cases hl : i < L.length
    · have ql : (i : Int) < (L.length : Int) := by omega
      have hb : L[i] = false := by
        unfold lg at hg
        rw [List.getElem?_eq_getElem hl] at hg
        exact hg
      obtain ⟨pb, po, x1, x2⟩ := ixp_sl h2 i (by rw [Bl_len]; exact hl)
      rw [Bl_get L i hl, hb] at x2
      simp only [↓L10n1, q, ↓ln, ql, ↓gv2, ↓gt, ↓gf, ↓x1, ↓x2, ↓e39, nth_z, nth_1, ↓cK_S, ↓gs, ↓m1', ↓b1, ↓eqS_S, zz, Bool.not_true, a1, s1n i (by omega), ↓SD, SA, Int.ofNat_eq_natCast, Int.cast_ofNat_Int, Int.reduceBEq, Int.reduceAdd, Int.reduceNeg, Int.reduceNegSucc, Int.reduceLT, Int.reduceLE, Int.reduceMul, Int.reduceTMod, Int.reduceSub, Int.reduceBNe, Bool.not_true, Bool.not_false, decide_true, decide_false, ne_eq, not_false_eq_true, Int.reduceEq, reduceCtorEq]
    · have ql : ¬ (i : Int) < (L.length : Int) := by omega
      simp only [↓L10n1, q, ↓ln, ql, ↓gv2, ↓gt, ↓gf, ↓e39, nth_z, nth_1, ↓cK_S, ↓gs, ↓m1', ↓b1, ↓eqS_S, zz, Bool.not_true, a1, s1n i (by omega), ↓SD, SA, Int.ofNat_eq_natCast, Int.cast_ofNat_Int, Int.reduceBEq, Int.reduceAdd, Int.reduceNeg, Int.reduceNegSucc, Int.reduceLT, Int.reduceLE, Int.reduceMul, Int.reduceTMod, Int.reduceSub, Int.reduceBNe, Bool.not_true, Bool.not_false, decide_true, decide_false, ne_eq, not_false_eq_true, Int.reduceEq, reduceCtorEq]
end Go.Proofs.YtnpfppddongbhaaDoor
end

section
namespace Go.Proofs.YtnpfppddongbhaaDoor
open Go Go.AM
set_option autoImplicit false
set_option linter.unusedSimpArgs false
set_option linter.unusedVariables false
theorem loop10b {L : List Bool} {n cap : Nat} {P Q : Nat → Prop} {v2 v4 v : AV} (hn : n ≤ 60) : ∀ (f m i : Nat) (h : Hp), n - i ≤ f → f < m → i ≤ n → Wf h → Sl h P v2 (Bl L) → Pl5 h Q cap v (cn0 :: pes L n 0) →
    ∃ h', lp L10n1 m [.int 63 (n : Int), v2, v4, v, .int 63 ((1 + (pes L i 0).length : Nat) : Int), .int 63 (i : Int)] h = .exit 2 [v4] h' ∧ To No h h' ∧ Wf h' := by
  intro f
  induction f with
  | zero =>
    intro m i h hf hm hi hw h2 hp
    obtain ⟨m, rfl⟩ : ∃ k, m = k + 1 := ⟨m - 1, by omega⟩
    obtain rfl : i = n := by omega
    have q : ¬ (i : Int) < (i : Int) := by omega
    exact ⟨h, lpx m (by simp only [↓L10n1, q, ↓SD, SA, Int.ofNat_eq_natCast, Int.cast_ofNat_Int, Int.reduceBEq, Int.reduceAdd, Int.reduceNeg, Int.reduceNegSucc, Int.reduceLT, Int.reduceLE, Int.reduceMul, Int.reduceTMod, Int.reduceSub, Int.reduceBNe, Bool.not_true, Bool.not_false, decide_true, decide_false, ne_eq, not_false_eq_true, Int.reduceEq, reduceCtorEq]), To.refl _ _, hw⟩
  | succ f ih =>
    intro m i h hf hm hi hw h2 hp
    obtain ⟨m, rfl⟩ : ∃ k, m = k + 1 := ⟨m - 1, by omega⟩
    by_cases hin : i < n
    · obtain ⟨h', e, o', w'⟩ := step10b (v4 := v4) hn hin hw h2 hp
      obtain ⟨h'', r1, r2, r3⟩ := ih m (i + 1) h' (by omega) (by omega) (by omega) w' (h2.to o' (fun _ _ f => f)) (hp.to o' (fun _ _ f => f))
      exact ⟨h'', (lpn m e).trans r1, o'.trans r2, r3⟩
    · obtain rfl : i = n := by omega
      have q : ¬ (i : Int) < (i : Int) := by omega
      exact ⟨h, lpx m (by simp only [↓L10n1, q, ↓SD, SA, Int.ofNat_eq_natCast, Int.cast_ofNat_Int, Int.reduceBEq, Int.reduceAdd, Int.reduceNeg, Int.reduceNegSucc, Int.reduceLT, Int.reduceLE, Int.reduceMul, Int.reduceTMod, Int.reduceSub, Int.reduceBNe, Bool.not_true, Bool.not_false, decide_true, decide_false, ne_eq, not_false_eq_true, Int.reduceEq, reduceCtorEq]), To.refl _ _, hw⟩
/-- The count's two bytes ahead of the entries: what Read makes of them. -/
theorem rdP_pbs (L : List Bool) (n : Nat) (hn : n ≤ 60) : rdP ([(1 + (pes L n 0).length) / 256, (1 + (pes L n 0).length) % 256] ++ pbs L n 0) (0, false) = some (cn0 :: pes L n 0, (([(1 + (pes L n 0).length) / 256, (1 + (pes L n 0).length) % 256] ++ pbs L n 0).length, false)) ∧
    rdl ([(1 + (pes L n 0).length) / 256, (1 + (pes L n 0).length) % 256] ++ pbs L n 0) (val ([(1 + (pes L n 0).length) / 256, (1 + (pes L n 0).length) % 256] ++ pbs L n 0) (0, false) 2) (val ([(1 + (pes L n 0).length) / 256, (1 + (pes L n 0).length) % 256] ++ pbs L n 0) (0, false) 2 + 1) (adv ([(1 + (pes L n 0).length) / 256, (1 + (pes L n 0).length) % 256] ++ pbs L n 0) (0, false) 2) [cn0] = some (cn0 :: pes L n 0, (([(1 + (pes L n 0).length) / 256, (1 + (pes L n 0).length) % 256] ++ pbs L n 0).length, false)) ∧
    val ([(1 + (pes L n 0).length) / 256, (1 + (pes L n 0).length) % 256] ++ pbs L n 0) (0, false) 2 = 1 + (pes L n 0).length := by
  have hpl := pes_len L n 0
  generalize hc : 1 + (pes L n 0).length = c at *
  generalize ht : [c / 256, c % 256] ++ pbs L n 0 = t at *
  obtain ⟨v1, a1⟩ := val_at (t := t) (w := [c / 256, c % 256]) (r := pbs L n 0) (at_ := 0) (Nat.zero_le _) (by rw [List.drop_zero, ht])
  have v1 : val t (0, false) 2 = c := by
    have e : val t (0, false) 2 = C.be [c / 256, c % 256] 0 := v1
    rw [e]; simp [C.be]; omega
  have a1 : adv t (0, false) 2 = (2, false) := a1
  have hd : t.drop 2 = pbs L n 0 := by rw [← ht]; rfl
  have hr := rdl_pbs L t c n (c + 1) 0 2 [cn0] (by omega) (by rw [← ht]; simp) hd (by simp; omega)
  have hr : rdl t c (c + 1) (2, false) [cn0] = some (cn0 :: pes L n 0, (t.length, false)) := hr
  refine ⟨?_, by rw [v1, a1]; exact hr, v1⟩
  unfold rdP
  rw [a1, v1, if_neg (by rintro (h | h | h); exact absurd h (by decide); omega; omega), hr]
  show (if (cn0 :: pes L n 0).all (rg (cn0 :: pes L n 0)) = true then _ else none) = _
  rw [if_pos (pes_rg L n 0 _)]
end Go.Proofs.YtnpfppddongbhaaDoor
end

section
namespace Go.Proofs.YtnpfppddongbhaaDoor
open Go Go.AM
set_option autoImplicit false
set_option linter.unusedSimpArgs false
set_option linter.unusedVariables false
/-- append beyond a known capacity. -/
theorem apd_over {h : Hp} {P P' : Nat → Prop} {y : AV} {b : Nat} {a m : List AV} (hw : Wf h) (hs : Sl h P (.sl b 0 a.length 1 (some a.length)) a) (hP : ∀ x, P x → x < h.nb) (hy : Sl h P' y m) (hl : a.length + m.length ≤ 100000) :
    ∃ v' h', (∀ k : AV → Hp → Res, apd h 1 1 (.sl b 0 a.length 1 (some a.length)) y k = k v' h') ∧ Sl h' (fun x => x < h'.nb) v' (a ++ m) ∧ To No h h' ∧ Wf h' := by
  by_cases hm : m = []
  · subst hm
    refine ⟨_, h, fun k => ?_, by rw [List.append_nil]; exact hs.mono fun x hx => hP x hx, To.refl _ _, hw⟩
    unfold apd
    rw [src_sl hy]; rfl
  · have hml : Nat.beq m.length 0 = false := by
      rw [Bool.eq_false_iff, ne_eq, beq_iff]
      intro h0; exact hm (List.eq_nil_of_length_eq_zero h0)
    have hpos : 0 < m.length := List.length_pos_iff.2 hm
    have hone : ∀ x ∈ a ++ m, one x = true := fun x hx => by
      rcases List.mem_append.1 hx with hx | hx
      · exact hs.1 x hx
      · exact hy.1 x hx
    obtain ⟨v', h', e1, e2, e3⟩ := new_sl (N := h.nb) (Nat.le_refl _) hw hone
    refine ⟨v', h', fun k => ?_, ?_, e3, e3.wf hw⟩
    · unfold apd
      rw [src_sl hy]
      show ifB (Nat.beq 1 1) (ifB (Nat.beq m.length 0) _ (ifB (Nat.ble (Nat.mul (Nat.add a.length m.length) 1) 140737488355328) (ifB (Nat.ble (Nat.add a.length m.length) 9223372036854775807)
        (ifB (Nat.ble (Nat.add a.length m.length) a.length) _ (gb h b fun B => rds B (Nat.mul a.length 1) 0 fun old => grown h 1 (Nat.add a.length m.length) (app old (avL m)) k)) .fail) .fail)) .fail = _
      have g1 : Nat.ble (Nat.mul (Nat.add a.length m.length) 1) 140737488355328 = true := by rw [ble_iff]; show (a.length + m.length) * 1 ≤ _; omega
      have g2 : Nat.ble (Nat.add a.length m.length) 9223372036854775807 = true := by rw [ble_iff]; show a.length + m.length ≤ _; omega
      have g3 : Nat.ble (Nat.add a.length m.length) a.length = false := by
        rw [Bool.eq_false_iff, ne_eq, ble_iff]; show ¬ a.length + m.length ≤ a.length; omega
      rw [hml, g1, g2, g3]
      show (gb h b fun B => rds B (Nat.mul a.length 1) 0 fun old => grown h 1 (Nat.add a.length m.length) (app old (avL m)) k) = _
      rcases hs.2 with ⟨e, -⟩ | ⟨e, -⟩ | ⟨b', o', c', B, e, r1, r2, r3, r4, r5⟩
      · cases e
      · cases e
      · cases e
        rw [gb_rd r2]
        have e4 : Nat.mul a.length 1 = a.length := Nat.mul_one _
        rw [e4, rds_list a 0 _ r5 (fun v hv => one_unk (hs.1 v hv)), app_avL]
        have := e1 k
        rw [List.length_append] at this
        exact this
    · rcases e2.1.2 with ⟨rfl, e⟩ | ⟨rfl, e⟩ | ⟨b', o', c', B, e, r1, r2, r3, r4, r5⟩
      · exact ⟨hone, .inl ⟨rfl, e⟩⟩
      · exact ⟨hone, .inr (.inl ⟨rfl, e⟩)⟩
      · exact ⟨hone, .inr (.inr ⟨b', o', c', B, e, r2.lt, r2, fun hf => (r2.grp hf).1, r4, r5⟩)⟩
theorem lawTexts {L : List Bool} {h : Hp} {v2 : AV} {P : Nat → Prop} (hw : Wf h) (hP : ∀ b, P b → b < h.nb) (h2 : Sl h P v2 (Bl L)) (n : Int) : ∃ h', s10 [.int 63 n, v2] h = .ret (.bool true) h' := by
  obtain ⟨h1, e1, o1, w1⟩ := t36 hw
  have nb1 := o1.nb
  have gf : ∀ x : Int, gsel (.bool false) false (.int 63 x) = .int 63 x := fun x => rfl
  by_cases c1 : n < 0
  · exact ⟨h1, by simp only [↓s10, ↓e1, c1, ↓SD, SA, Int.ofNat_eq_natCast, Int.cast_ofNat_Int, Int.reduceBEq, Int.reduceAdd, Int.reduceNeg, Int.reduceNegSucc, Int.reduceLT, Int.reduceLE, Int.reduceMul, Int.reduceTMod, Int.reduceSub, Int.reduceBNe, Bool.not_true, Bool.not_false, decide_true, decide_false, ne_eq, not_false_eq_true, Int.reduceEq, reduceCtorEq]⟩
  by_cases c2 : 60 < n
  · exact ⟨h1, by simp only [↓s10, ↓e1, c1, c2, ↓gf, ↓SD, SA, Int.ofNat_eq_natCast, Int.cast_ofNat_Int, Int.reduceBEq, Int.reduceAdd, Int.reduceNeg, Int.reduceNegSucc, Int.reduceLT, Int.reduceLE, Int.reduceMul, Int.reduceTMod, Int.reduceSub, Int.reduceBNe, Bool.not_true, Bool.not_false, decide_true, decide_false, ne_eq, not_false_eq_true, Int.reduceEq, reduceCtorEq]⟩
  obtain ⟨n, rfl⟩ : ∃ m : Nat, n = (m : Int) := ⟨n.toNat, by omega⟩
  have hn : n ≤ 60 := by omega
  have s21 := h2.to o1 (fun _ _ f => f)
  obtain ⟨v, h3, e3, g3, o3, w3⟩ := loop10 (v4 := .bool true) hn (fun b hb => Nat.lt_of_lt_of_le (hP b hb) nb1) n most 0 .nils h1 (by omega) (by unfold most; omega) (by omega) (Nat.le_refl _) w1 ⟨C.Sl_nil _ _, .inl rfl⟩ s21
  have e3 : lp L10n0 most [.int 63 (n : Int), v2, .bool true, .nils, .int 63 1, .int 63 0] h1 = .exit 0 [.int 63 (n : Int), v2, .bool true, v, .int 63 ((1 + (pes L n 0).length : Nat) : Int)] h3 := e3
  have hpl := pes_len L n 0
  have hbl := pbs_len L n 0
  obtain ⟨r1, r2, r3⟩ := rdP_pbs L n hn
  generalize hc : 1 + (pes L n 0).length = c at *
  have sh : ∀ k : AV → Res, iShr (.int 63 (c : Int)) (.int 64 (.ofNat 8)) k = k (.int 63 ((c / 256 : Nat) : Int)) := fun k => by
    rw [iShr_i k 63 (c : Int) 64 8 (by decide), shr_ok, Int.fdiv_eq_ediv_of_nonneg _ (by decide)]
    rfl
  have sh' : ∀ k : AV → Res, iShr (.int 63 (c : Int)) (.int 64 8) k = k (.int 63 ((c / 256 : Nat) : Int)) := sh
  have k1 : wrapC 8 ((c / 256 : Nat) : Int) = ((c / 256 : Nat) : Int) := by rw [w8m]; omega
  have k2 : wrapC 8 (c : Int) = ((c % 256 : Nat) : Int) := w8m c
  obtain ⟨h4, m4, s4, o4, w4⟩ := mkS_sl w3 (C.Bs [c / 256, c % 256]) (C.Bs_one _)
  have m4 : ∀ kk : AV → Hp → Res, (bld [(false, 1, (.int 8 ((c / 256 : Nat) : Int))), (false, 1, (.int 8 ((c % 256 : Nat) : Int)))] fun l => mkS h3 1 2 l kk) = kk (.sl h3.nb 0 2 1 (some 2)) h4 := fun kk => m4 kk
  have nb4 : h3.nb < h4.nb := by
    rcases s4.2 with ⟨e, -⟩ | ⟨e, -⟩ | ⟨b', o', c', B, e, q1, q2, -⟩
    · cases e
    · cases e
    · have : b' = h3.nb := q1
      have := q2.lt
      omega
  have bytes : ∀ x ∈ [c / 256, c % 256] ++ pbs L n 0, x < 256 := by
    intro x hx
    rcases List.mem_append.1 hx with hx | hx
    · simp only [List.mem_cons, List.not_mem_nil, or_false] at hx
      rcases hx with rfl | rfl <;> omega
    · have : ∀ k i, ∀ x ∈ pbs L k i, x < 256 := by
        intro k
        induction k with
        | zero => intro i x hx; simp [pbs] at hx
        | succ k ih =>
          intro i x hx
          rw [pbs] at hx
          rcases List.mem_append.1 hx with hx | hx
          · unfold pcb at hx
            split at hx
            · simp only [List.mem_cons, List.not_mem_nil, or_false] at hx
              rcases hx with rfl | rfl | rfl | rfl | rfl | rfl | rfl | rfl | rfl <;> omega
            · simp only [List.mem_cons, List.not_mem_nil, or_false] at hx
              rcases hx with rfl | rfl | rfl | rfl <;> omega
          · exact ih _ x hx
      exact this n 0 x hx
  obtain ⟨v5, h5, e5, s5, o5, w5⟩ := apd_over (b := h3.nb) (a := C.Bs [c / 256, c % 256]) w4 s4 (fun x hx => by have : x = h3.nb := hx; omega) (g3.1.to o4 (fun _ _ f => f)) (by rw [C.Bs_len, C.Bs_len]; simp; omega)
  have e5 : ∀ kk : AV → Hp → Res, apd h4 1 1 (.sl h3.nb 0 2 1 (some 2)) v kk = kk v5 h5 := e5
  rw [← Bs_app] at s5
  have htl : ([c / 256, c % 256] ++ pbs L n 0).length ≤ 100000 := by simp; omega
  generalize [c / 256, c % 256] ++ pbs L n 0 = t at *
  obtain ⟨b, h6, e6, c6, o6, w6, n6⟩ := C.t38 s5 w5 htl bytes
  have c6 : CurQ h6 h5.nb b t (0, false) := c6
  have lob := c6.lo
  have hcl : (cn0 :: pes L n 0).length = c := by rw [← hc]; simp; omega
  rcases t37 c6 (by omega) w6 (by
    intro p hp
    rw [r2] at hp
    obtain rfl := Option.some.inj hp
    exact ⟨pes_ez L n 0, by show (cn0 :: pes L n 0).length ≤ 1000; omega⟩) with ⟨q1, -⟩ | ⟨p, v7, pb, h7, q1, e7, hpb, p7, c7, o7, w7⟩
  · rw [r1] at q1; cases q1
  · rw [r1] at q1
    obtain rfl := Option.some.inj q1
    have p7 : Pl5 h7 (At pb) (val t (0, false) 2) v7 (cn0 :: pes L n 0) := p7
    have nb3 := o3.nb
    have nb5 := o5.nb
    have s27 : Sl h7 P v2 (Bl L) := ((((s21.to o3 (fun b hb e => by have := hP b hb; omega)).to o4 (fun _ _ f => f)).to o5 (fun _ _ f => f)).to o6 (fun _ _ f => f)).to o7 (fun x hx e => by have := hP x hx; have : x = b := e; omega)
    obtain ⟨h8, e8, o8, w8⟩ := loop10b (v4 := .bool true) hn n most 0 h7 (by omega) (by unfold most; omega) (by omega) w7 s27 p7
    have e8 : lp L10n1 most [.int 63 (n : Int), v2, .bool true, v7, .int 63 1, .int 63 0] h7 = .exit 2 [.bool true] h8 := e8
    have kv := fun k => p7.cK k
    have lv := fun k => p7.len k
    rw [hcl] at lv
    have gv : gsel (.bool false) false v7 = v7 := rfl
    exact ⟨h8, by simp only [↓s10, ↓e1, c1, c2, ↓gf, ↓e3, ↓blk_x, ↓sh, ↓sh', ↓iConv_i, k1, k2, ↓m4, ↓e5, ↓e6, ↓e7, nth_z, nth_1, ↓kv, Bool.not_true, ↓gv, ↓lv, beq_self_eq_true, ↓e8, ↓SD, SA, Int.ofNat_eq_natCast, Int.cast_ofNat_Int, Int.reduceBEq, Int.reduceAdd, Int.reduceNeg, Int.reduceNegSucc, Int.reduceLT, Int.reduceLE, Int.reduceMul, Int.reduceTMod, Int.reduceSub, Int.reduceBNe, Bool.not_true, Bool.not_false, decide_true, decide_false, ne_eq, not_false_eq_true, Int.reduceEq, reduceCtorEq]⟩
end Go.Proofs.YtnpfppddongbhaaDoor
end

section
namespace Go.Proofs.YtnpfppddongbhaaDoor
open Go Go.AM
set_option autoImplicit false

/-- V is a slice of truths that reads as the list l. -/
def ArgB (w : World) (V : Value) (l : List Bool) : Prop :=
  (V = .slice none 0 0 ∧ l = []) ∨ ∃ (a : Addr) (len cap : Nat) (B : Nat → Bool), V = .slice (some a) len cap ∧ len ≤ cap ∧ cap ≤ maxLen ∧ l = (List.range len).map B ∧
    ∀ i, i < cap → w.cell? (a.add i) = some (.bool (B i))

section
variable {H : Type} {enc : TypeId × Value → H} {P : Program} {w : World}
open Go.ChangeShapes Go.Deep in
theorem open_argB {t e : TypeId} {v : Value} {d : DataW H} {p : List MemPlace} (ht : P.underlying t = some (.slice e)) (he : P.underlying e = some .bool) (hc : P.cellsOf e = 1)
    (hone : v.cells.toList = [v]) (h : DataW.Trod enc P w 0 (fun _ => true) true t v d p) :
    ∃ l, ArgB w v l ∧ ∀ (w' : World) (sp : Nat → Bool), (∀ r, r < w.heap.size → w'.heap[r]? = w.heap[r]?) → (∀ q ∈ p, sp q.block = true) → DataW.Trod enc P w' 0 sp true t v d p := by
  obtain ⟨fuel, hf⟩ := h
  have K : Kids P (fun u => u = t ∨ u = e) := by
    refine ⟨fun {u x} hu hx => ?_, fun {u x} hu hx => ?_, fun {u x n} hu hx => ?_, fun {u fs} hu hx => ?_, fun {u k x} hu hx => ?_⟩ <;> rcases hu with rfl | rfl <;> first
      | (rw [ht] at hx; cases hx; done)
      | (rw [he] at hx; cases hx; done)
      | skip
    rw [ht] at hx
    cases hx
    exact .inr rfl
  have hsz : ∀ {u x : TypeId}, (u = t ∨ u = e) → P.underlying u = some (.slice x) → 0 < P.cellsOf x := by
    intro u x hu hx
    rcases hu with rfl | rfl
    · rw [ht] at hx; cases hx; rw [hc]; exact Nat.one_pos
    · rw [he] at hx; cases hx
  have stay : ∀ (w' : World) (sp : Nat → Bool), (∀ q ∈ p, q.block < w.heap.size) → (∀ r, r < w.heap.size → w'.heap[r]? = w.heap[r]?) → (∀ q ∈ p, sp q.block = true) → DataW.Trod enc P w' 0 sp true t v d p := by
    intro w' sp hb hw hsp
    refine ⟨fuel, DataW.trod_stays K hsz (fun h => by cases h) (.inl rfl) hf (fun q hq => ?_) hsp⟩
    have hbq := hb q hq
    cases q with
    | cell b off =>
      show w'.cell? ⟨b, off, none⟩ = w.cell? ⟨b, off, none⟩
      unfold World.cell?
      rw [show w'.heap[(⟨b, off, none⟩ : Addr).block]? = w.heap[b]? from hw b hbq]
    | map b => exact hw b hbq
  rcases open_bools ht he hc hf with ⟨hcs, hx⟩ | ⟨a, len, cap, B, hcs, hb, hl, hm, hx, hcell⟩
  · rw [hone] at hcs
    obtain rfl : v = .slice none 0 0 := by simpa using hcs
    obtain ⟨rfl, rfl⟩ : d = .nil ∧ p = [] := by simpa using hx
    exact ⟨[], .inl ⟨rfl, rfl⟩, fun w' sp hw hsp => stay w' sp (fun q hq => by cases hq) hw hsp⟩
  · rw [hone] at hcs
    obtain rfl : v = .slice (some a) len cap := by simpa using hcs
    obtain ⟨rfl, rfl⟩ : d = boolRow (some a) len cap B ∧ p = MemPlace.row a cap := by simpa using hx
    refine ⟨_, .inr ⟨a, len, cap, B, rfl, hl, hm, rfl, hcell⟩, fun w' sp hw hsp => stay w' sp (fun q hq => ?_) hw hsp⟩
    obtain ⟨i, hi, rfl⟩ := MemPlace.mem_row.1 hq
    show a.block < w.heap.size
    have := hcell i hi
    unfold World.cell? at this
    rw [block_add] at this
    cases hr : w.heap[a.block]? with
    | none => rw [hr] at this; cases this
    | some o => exact (Array.getElem?_eq_some_iff.1 hr).1
end

theorem add_argB {gm : Option Nat} {ρ : Rho} {h : Hp} {w : World} {V : Value} {l : List Bool} (hF : Args gm ρ h w) (ha : ArgB w V l) :
    ∃ ρ' h' v, Args gm ρ' h' w ∧ Ext ρ ρ' ∧ VR ρ' v V ∧ Sl h' (fun b => b < h'.nb) v (l.map AV.bool) ∧ To No h h' := by
  have hone : ∀ x ∈ l.map AV.bool, one x = true := by
    intro x hx
    obtain ⟨y, -, rfl⟩ := List.mem_map.1 hx
    rfl
  rcases ha with ⟨rfl, rfl⟩ | ⟨a, len, cap, B, rfl, hl, hm, rfl, hcell⟩
  · exact ⟨ρ, h, .nils, hF, Ext.refl ρ, rfl, ⟨by simp, .inl ⟨rfl, rfl⟩⟩, To.refl _ _⟩
  · by_cases h0 : len = 0
    · subst h0
      exact ⟨ρ, h, .esl, hF, Ext.refl ρ, ⟨a, cap, rfl⟩, ⟨by simp, .inr (.inl ⟨rfl, by simp⟩)⟩, To.refl _ _⟩
    · obtain ⟨b0, off0, rfl⟩ : ∃ b off, a = ⟨b, off, none⟩ := by
        obtain ⟨b, off, sp⟩ := a
        cases sp with
        | none => exact ⟨b, off, rfl⟩
        | some s =>
          exfalso
          have h2 := hcell 0 (by omega)
          unfold World.cell? at h2
          cases hr : w.heap[b]? with
          | none => simp [Addr.add, hr] at h2
          | some o => cases o <;> simp [Addr.add, hr] at h2
      have hadd : ∀ i, i < cap → (⟨b0, off0, none⟩ : Addr).add i = ⟨b0, off0 + i, none⟩ := by
        intro i hi
        unfold Addr.add
        simp
      have hrow : ∃ cs e fz, w.heap[b0]? = some (.cells cs e fz) ∧ ∀ j, j < cap → cs[off0 + j]? = some (.bool (B j)) := by
        have h1 := hcell 0 (by omega)
        rw [hadd 0 (by omega)] at h1
        unfold World.cell? at h1
        simp only at h1
        cases hr : w.heap[b0]? with
        | none => rw [hr] at h1; cases h1
        | some o =>
          cases o with
          | cells cs e fz =>
            refine ⟨cs, e, fz, rfl, fun j hj => ?_⟩
            have h2 := hcell j hj
            rw [hadd j hj] at h2
            unfold World.cell? at h2
            simp only [hr] at h2
            simpa using h2
          | _ => rw [hr] at h1; cases h1
      obtain ⟨cs, e, fz, hr, hcs⟩ := hrow
      have hsz : off0 + cap ≤ cs.size := by
        have := hcs (cap - 1) (by omega)
        have := (Array.getElem?_eq_some_iff.1 this).1
        omega
      have hlt : b0 < w.heap.size := (Array.getElem?_eq_some_iff.1 hr).1
      have hi := hF.inv
      have hfree : ρ h.nb = Option.none := hi.free _ (Nat.le_refl _)
      obtain ⟨t, -, t2⟩ := lay_list (((List.range len).map B).map AV.bool) .e 0 hone
      have hlen : (((List.range len).map B).map AV.bool).length = len := by simp
      have hext := ups_ext ⟨b0, off0, cs.size, 0⟩ hfree
      have hget : ∀ x, (h.bs.set ⟨false, h.nb, len, .nil, t⟩ h.nb).get x = if x = h.nb then some ⟨false, h.nb, len, .nil, t⟩ else h.bs.get x := fun x => T.get_set _ _ _ _
      have hat : ∀ i (hi' : i < len), (⟨false, h.nb, len, .nil, t⟩ : Blk).at i = .bool (B i) := by
        intro i hi'
        rw [at_in _ (show i < len from hi')]
        simp only [t2 i]
        rw [dif_pos ⟨by omega, by rw [hlen]; omega⟩]
        simp
      have look : ∀ x B, (h.bs.set ⟨false, h.nb, len, .nil, t⟩ h.nb).get x = some B → B.fr = false := by
        intro x B hx
        rw [hget] at hx
        by_cases e0 : x = h.nb
        · rw [if_pos e0] at hx
          obtain rfl := Option.some.inj hx
          rfl
        · rw [if_neg e0] at hx; exact hF.fr x B hx
      refine ⟨ups ρ h.nb ⟨b0, off0, cs.size, 0⟩, ⟨h.nb + 1, h.bs.set ⟨false, h.nb, len, .nil, t⟩ h.nb, h.gs, h.ms⟩, .sl h.nb 0 len 1 (some cap), ⟨⟨?_, ?_, ?_, ?_, ?_, ?_, ?_, Nat.le_refl _, ⟨?_, ?_⟩, hi.jj⟩, look, hF.gs, hF.ms⟩, hext, ?_, ?_, ?_⟩
      · intro x Bk hx
        have hx : (h.bs.set ⟨false, h.nb, len, .nil, t⟩ h.nb).get x = some Bk := hx
        rw [hget] at hx
        by_cases e0 : x = h.nb
        · rw [if_pos e0] at hx
          obtain rfl := Option.some.inj hx
          subst e0
          refine ⟨_, ups_same _ _ _, ⟨cs, e, fz, hr, rfl, fun hf => (by cases hf), fun _ i hi' => ?_⟩, (by show off0 + len ≤ cs.size; omega), fun hf => (by cases hf), fun _ => hlt⟩
          exact ⟨_, hcs i (by have : i < len := hi'; omega), by rw [hat i hi']; rfl⟩
        · rw [if_neg e0] at hx
          obtain ⟨p, hp, hB⟩ := hi.blk x Bk hx
          refine ⟨p, hext _ _ hp, hB.later hext rfl fun _ hf => ?_⟩
          rw [hF.fr x Bk hx] at hf; cases hf
      · intro x Bk hx
        have hx : (h.bs.set ⟨false, h.nb, len, .nil, t⟩ h.nb).get x = some Bk := hx
        rw [hget] at hx
        by_cases e0 : x = h.nb
        · subst e0; exact Nat.lt_succ_self _
        · rw [if_neg e0] at hx; exact Nat.lt_succ_of_lt (hi.nb x Bk hx)
      · intro x Bk hx hf; rw [look x Bk hx] at hf; cases hf
      · intro g q hq
        have hq : h.gs.get g = some q := hq
        rw [hF.gs] at hq; cases hq
      · intro b1 b2 B1 B2 p1 p2 h1 h2 f1; rw [look b1 B1 h1] at f1; cases f1
      · intro b1 b2 B1 B2 p1 p2 h1 h2 f1; rw [look b1 B1 h1] at f1; cases f1
      · intro i hle
        have hle : h.nb + 1 ≤ i := hle
        rw [ups_ne _ _ (by omega)]
        exact hi.free i (by omega)
      · intro x m hx
        have hx : h.ms.get x = some m := hx
        rw [hF.ms] at hx; cases hx
      · intro b1 b2 m1 m2 p1 p2 h1
        have h1 : h.ms.get b1 = some m1 := h1
        rw [hF.ms] at h1; cases h1
      · exact ⟨⟨b0, off0, cs.size, 0⟩, cap, ups_same _ _ _, rfl, hl, .inr rfl, by show off0 + 0 + cap * 1 ≤ cs.size; omega⟩
      · refine ⟨hone, .inr (.inr ⟨h.nb, 0, _, _, by rw [hlen], Nat.lt_succ_self _, ⟨by rw [hget, if_pos rfl], Nat.lt_succ_self _, fun hf => (by cases hf)⟩, fun hf => (by cases hf), (fun c e => by cases e; rw [hlen]; exact hl), fun i hi' => ?_⟩)⟩
        rw [hlen] at hi'
        rw [Nat.zero_add, hat i hi']
        simp
      · exact ⟨Nat.le_succ _, fun x hx _ => by show (h.bs.set _ h.nb).get x = _; rw [hget, if_neg (by omega)], fun _ _ _ => rfl, fun hn g hg => hn g (by have : h.nb + 1 ≤ g := hg; omega)⟩
end Go.Proofs.YtnpfppddongbhaaDoor
end
