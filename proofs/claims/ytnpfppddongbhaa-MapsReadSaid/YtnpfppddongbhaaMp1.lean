/-
  The reader of stated frames: what each of its functions answers (part Mp1).
-/
import Derived.Test.YtnpfppddongbhaaCu4
set_option linter.unusedVariables false
set_option linter.unusedSimpArgs false
namespace Go.AM
open Go
set_option autoImplicit false
set_option linter.unusedSimpArgs false
set_option linter.unusedVariables false
/-! ### slices of values of several cells -/
theorem fl_len {n : Nat} : ∀ (rs : List (List AV)), (∀ r ∈ rs, r.length = n) → rs.flatten.length = rs.length * n
  | [], _ => by simp
  | r :: rs, h => by
    rw [List.flatten_cons, List.length_append, fl_len rs (fun x hx => h x (List.mem_cons_of_mem _ hx)), h r (List.mem_cons_self ..), List.length_cons, Nat.succ_mul]; omega
theorem fl_get {n : Nat} : ∀ (rs : List (List AV)) (hr : ∀ r ∈ rs, r.length = n) (i j : Nat) (hi : i < rs.length) (hj : j < n) (h1 : i * n + j < rs.flatten.length) (h2 : j < (rs[i]).length), rs.flatten[i * n + j] = (rs[i])[j]
  | [], _, i, j, hi, _, _, _ => by simp at hi
  | r :: rs, hr, i, j, hi, hj, h1, h2 => by
    have hl : r.length = n := hr r (List.mem_cons_self ..)
    simp only [List.flatten_cons]
    cases i with
    | zero => rw [List.getElem_append_left (by omega)]; simp
    | succ i =>
      have e1 : (i + 1) * n = i * n + n := Nat.succ_mul _ _
      rw [List.getElem_append_right (by omega)]
      have e2 : (i + 1) * n + j - r.length = i * n + j := by omega
      simp only [e2, List.getElem_cons_succ]
      have hi' : i < rs.length := by simpa using hi
      have hlt : i * n + j < rs.flatten.length := by
        rw [fl_len rs (fun x hx => hr x (List.mem_cons_of_mem _ hx))]
        have := Nat.mul_le_mul_right n (show i + 1 ≤ rs.length by omega)
        omega
      exact fl_get rs (fun x hx => hr x (List.mem_cons_of_mem _ hx)) i j hi' hj hlt (by simpa using h2)
/-- The slice v, which grows by append, reads as the rows rs of n cells each; its blocks are of those that P lets. -/
def Rws (h : Hp) (P : Nat → Prop) (n : Nat) (v : AV) (rs : List (List AV)) : Prop :=
  (∀ r ∈ rs, r.length = n ∧ ∀ x ∈ r, one x = true) ∧ ((v = .nils ∧ rs = []) ∨ ∃ b B, v = .sl b 0 rs.length n none ∧ P b ∧ Rd h b B ∧ B.fr = true ∧ P B.g ∧ rs.length * n ≤ B.lim ∧ ∀ i (hi : i < rs.flatten.length), B.at i = rs.flatten[i])
theorem Rws.nil (h : Hp) (P : Nat → Prop) (n : Nat) : Rws h P n .nils [] := ⟨fun r hr => by simp at hr, .inl ⟨rfl, rfl⟩⟩
theorem Rws.to {h h' : Hp} {P W : Nat → Prop} {n : Nat} {v : AV} {rs : List (List AV)} (hg : Rws h P n v rs) (ht : To W h h') (hd : ∀ b, P b → b < h.nb → ¬ W b) : Rws h' P n v rs := by
  obtain ⟨h0, hg⟩ := hg
  refine ⟨h0, ?_⟩
  rcases hg with e | ⟨b, B, e, h1, h2, h3, h4, h5, h6⟩
  · exact .inl e
  · exact .inr ⟨b, B, e, h1, h2.to ht (hd b h1 h2.lt) (fun _ => hd _ h4 (h2.grp h3).1), h3, h4, h5, h6⟩
theorem Rws.mono {h : Hp} {P Q : Nat → Prop} {n : Nat} {v : AV} {rs : List (List AV)} (hg : Rws h P n v rs) (hd : ∀ b, P b → b < h.nb → Q b) : Rws h Q n v rs := by
  obtain ⟨h0, hg⟩ := hg
  refine ⟨h0, ?_⟩
  rcases hg with e | ⟨b, B, e, h1, h2, h3, h4, h5, h6⟩
  · exact .inl e
  · exact .inr ⟨b, B, e, hd b h1 h2.lt, h2, h3, hd _ h4 (h2.grp h3).1, h5, h6⟩
theorem Rws.len {h : Hp} {P : Nat → Prop} {n : Nat} {v : AV} {rs : List (List AV)} (hg : Rws h P n v rs) (k : AV → Res) : lenL v k = k (.int 63 (rs.length : Int)) := by
  rcases hg.2 with ⟨rfl, rfl⟩ | ⟨b, B, rfl, -⟩ <;> rfl
theorem Rws.cK {h : Hp} {P : Nat → Prop} {n : Nat} {v : AV} {rs : List (List AV)} (hg : Rws h P n v rs) (k : AV → Res) : cK v k = k v := by
  rcases hg.2 with ⟨rfl, rfl⟩ | ⟨b, B, rfl, -⟩ <;> rfl
theorem Rws.one {h : Hp} {P : Nat → Prop} {n : Nat} {v : AV} {rs : List (List AV)} (hg : Rws h P n v rs) : one v = true := by
  rcases hg.2 with ⟨rfl, rfl⟩ | ⟨b, B, rfl, -⟩ <;> rfl
/-- A row's place, and its cells. -/
theorem Rws.pt {h : Hp} {P : Nat → Prop} {n : Nat} {v : AV} {rs : List (List AV)} (hg : Rws h P n v rs) (i : Nat) (hi : i < rs.length) :
    ∃ b o, (∀ k : AV → Res, ixA n v (.int 63 (i : Int)) k = k (.ptr b o)) ∧ (∀ k : AV → Res, ldN h n (.ptr b o) k = k (.agg (avL rs[i]))) ∧ (∀ j (hj : j < rs[i].length) (k : AV → Res), ld1 h (.ptr b (Nat.add o j)) k = k (rs[i])[j]) := by
  obtain ⟨h0, hg⟩ := hg
  have hrow := h0 _ (List.getElem_mem hi)
  rcases hg with ⟨rfl, rfl⟩ | ⟨b, B, rfl, h1, h2, h3, h4, h5, h6⟩
  · simp at hi
  · have hl := fl_len rs (fun r hr => (h0 r hr).1)
    have key : ∀ j (hj : j < rs[i].length), B.at (i * n + j) = (rs[i])[j] := fun j hj => by
      have hj' : j < n := by rw [← hrow.1]; exact hj
      have hlt : i * n + j < rs.flatten.length := by
        rw [hl]
        have := Nat.mul_le_mul_right n (show i + 1 ≤ rs.length by omega)
        have e1 : (i + 1) * n = i * n + n := Nat.succ_mul _ _
        omega
      rw [h6 _ hlt, fl_get rs (fun r hr => (h0 r hr).1) i j hi hj' hlt hj]
    refine ⟨b, i * n, fun k => ?_, fun k => ?_, fun j hj k => ?_⟩
    · have e : ixA n (.sl b 0 rs.length n none) (.int 63 (i : Int)) k = ifB (Nat.blt i rs.length) (ifB (Nat.beq n n) (k (.ptr b (Nat.add 0 (Nat.mul i n)))) .fail) .fail := rfl
      have e2 : Nat.add 0 (Nat.mul i n) = i * n := by show 0 + i * n = i * n; omega
      rw [e, (blt_iff _ _).2 hi, (beq_iff _ _).2 rfl, e2]; rfl
    · have := ldN_rd (l := rs[i]) h2 key (fun v hv => one_unk (hrow.2 v hv)) k
      rw [hrow.1] at this
      exact this
    · exact (ld1_rd h2 (key j hj) k).trans (cK_one (hrow.2 _ (List.getElem_mem hj)) k)
theorem apd_rows {h : Hp} {P : Nat → Prop} {n by_ : Nat} {v : AV} {rs : List (List AV)} (hw : Wf h) (hv : Rws h P n v rs) (hpos : 0 < n) (r : List AV) (hr : r.length = n) (hone : ∀ x ∈ r, one x = true) (hb : (rs.length + 1) * by_ ≤ 140737488355328) (hb2 : rs.length + 1 ≤ 9223372036854775807) :
    ∃ v' h1 h', (∀ k : AV → Hp → Res, mkS h n 1 (avL r) k = k (.sl h.nb 0 1 n (some 1)) h1) ∧ (∀ k : AV → Hp → Res, apd h1 n by_ v (.sl h.nb 0 1 n (some 1)) k = k v' h') ∧ Rws h' (fun x => P x ∨ h.nb ≤ x) n v' (rs ++ [r]) ∧ To P h h' ∧ Wf h' := by
  obtain ⟨t0, l1, l2⟩ := lay_list r .e 0 hone
  rw [hr] at l1
  obtain ⟨o1, o2⟩ := nw_own hw (0 + n) .nil t0
  have w1 : Wf (nw h (0 + n) .nil t0) := o2.wf hw
  have mul1 : Nat.beq (0 + n) (Nat.mul 1 n) = true := by rw [beq_iff]; show 0 + n = 1 * n; omega
  have nn : Nat.beq n n = true := (beq_iff n n).2 rfl
  have m1 : ∀ k : AV → Hp → Res, mkS h n 1 (avL r) k = k (.sl h.nb 0 1 n (some 1)) (nw h (0 + n) .nil t0) := fun k => by
    have e : mkS h n 1 (avL r) k = lay (avL r) .e 0 fun t m => ifB (Nat.beq m (Nat.mul 1 n)) (k (.sl h.nb 0 1 n (some 1)) (nw h m .nil t)) .fail := rfl
    rw [e, l1, mul1]; rfl
  have hat0 : ∀ i (hi : i < r.length), (⟨true, h.nb, 0 + n, .nil, t0⟩ : Blk).at (0 + i) = r[i] := by
    intro i hi
    rw [at_in _ (show 0 + i < 0 + n by omega)]
    simp only [l2 (0 + i)]
    rw [dif_pos ⟨by omega, by omega⟩]
    simp
  have hv1 : Rws (nw h (0 + n) .nil t0) P n v rs := hv.to o2 (fun _ _ _ f => f)
  have nb1 : (nw h (0 + n) .nil t0).nb = h.nb + 1 := rfl
  generalize hh1 : nw h (0 + n) .nil t0 = h1 at *
  have src1 : ∀ k : Nat → AV → Res, src h1 n (.sl h.nb 0 1 n (some 1)) k = k 1 (avL r) := fun k => by
    have e : src h1 n (.sl h.nb 0 1 n (some 1)) k = ifB (Nat.beq n n) (gb h1 h.nb fun B => rds B (Nat.mul 1 n) 0 fun l => k 1 l) .fail := rfl
    have e2 : Nat.mul 1 n = r.length := by show 1 * n = _; omega
    rw [e, nn, ifB_t, gb_rd o1.rd, e2, rds_list r 0 _ hat0 (fun v hv => one_unk (hone v hv))]
  have t1 : To P h h1 := o2.mono fun _ _ f => f.elim
  have hrs' : ∀ x ∈ rs ++ [r], x.length = n ∧ ∀ y ∈ x, AM.one y = true := fun x hx => by
    rcases List.mem_append.1 hx with hx | hx
    · exact hv.1 x hx
    · rw [List.mem_singleton.1 hx]; exact ⟨hr, hone⟩
  rcases hv1 with ⟨h00, ⟨rfl, rfl⟩ | ⟨b, B, rfl, g1, g2, g3, g4, g5, g6⟩⟩
  · obtain ⟨p1, p2⟩ := nw_own w1 (0 + n) .nil t0
    refine ⟨.sl h1.nb 0 1 n none, h1, nw h1 (0 + n) .nil t0, m1, fun k => ?_, ⟨hrs', .inr ⟨h1.nb, _, rfl, .inr (by omega), p1.rd, rfl, .inr (by show h.nb ≤ h1.nb; omega), by show 1 * n ≤ 0 + n; omega, fun i hi => ?_⟩⟩, t1.trans (p2.mono fun _ _ f => f.elim), p2.wf w1⟩
    · unfold apd
      rw [src1]
      show ifB (Nat.beq 1 0) (k AV.nils h1) (ifB (Nat.ble (Nat.mul 1 by_) 140737488355328) (ifB (Nat.ble 1 9223372036854775807) (grown h1 n 1 (avL r) k) .fail) .fail) = _
      have e1 : Nat.ble (Nat.mul 1 by_) 140737488355328 = true := by rw [ble_iff]; show 1 * by_ ≤ _; have : (0 + 1) * by_ ≤ 140737488355328 := hb; omega
      rw [e1]
      show grown h1 n 1 (avL r) k = _
      have e : grown h1 n 1 (avL r) k = lay (avL r) .e 0 fun t m => ifB (Nat.beq m (Nat.mul 1 n)) (k (.sl h1.nb 0 1 n none) (nw h1 m .nil t)) .fail := rfl
      rw [e, l1, mul1]; rfl
    · have e : ([] ++ [r] : List (List AV)).flatten = r := by simp
      simp only [e] at hi ⊢
      have := hat0 i hi
      rw [show 0 + i = i from Nat.zero_add i] at this
      rw [← this]
      rw [at_in _ (show i < 0 + n by omega), at_in _ (show i < 0 + n by omega)]
  · obtain ⟨t, t1', t2⟩ : ∃ t', (∀ k : T AV → Nat → Res, lay (avL r) B.cs (rs.length * n) k = k t' (rs.length * n + n)) ∧ ∀ j, t'.get j = if hh : rs.length * n ≤ j ∧ j < rs.length * n + n then some (r[j - rs.length * n]'(by omega)) else B.cs.get j := by
      have := lay_list r B.cs (rs.length * n) hone
      simpa only [hr] using this
    generalize hold : ifN (h1.grp B.g).1 b B.lim (rs.length * n) (h1.grp B.g).2 h1.nb = old
    have hle : old ≤ h1.nb := by
      have q := (g2.grp g3).2
      have hlt := g2.lt
      have e : ifN (h1.grp B.g).1 b B.lim (rs.length * n) (h1.grp B.g).2 h1.nb = Bool.rec (motive := fun _ => Nat) h1.nb (Bool.rec (motive := fun _ => Nat) h1.nb (h1.grp B.g).2 (Nat.ble B.lim (rs.length * n))) (Nat.beq (h1.grp B.g).1 b) := rfl
      rw [← hold, e, recB, recB]
      split
      · split
        · omega
        · exact Nat.le_refl _
      · exact Nat.le_refl _
    have mul2 : Nat.mul (Nat.add rs.length 1) n = rs.length * n + n := by show (rs.length + 1) * n = _; exact Nat.succ_mul _ _
    have hrun : ∀ k : AV → Hp → Res, apd h1 n by_ (.sl b 0 rs.length n none) (.sl h.nb 0 1 n (some 1)) k = k (.sl h1.nb 0 (rs.length + 1) n none) ⟨Nat.succ h1.nb, h1.bs.set ⟨true, B.g, rs.length * n + n, B.df, t⟩ h1.nb, h1.gs.set (h1.nb, old) B.g, h1.ms⟩ := fun k => by
      unfold apd
      rw [src1]
      show ifB (Nat.beq n n) (ifB (Nat.beq 1 0) _ (ifB (Nat.ble (Nat.mul (Nat.add rs.length 1) by_) 140737488355328) (ifB (Nat.ble (Nat.add rs.length 1) 9223372036854775807)
        (gb h1 b fun B => ifB B.fr (ifB (Nat.beq 0 0) (lay (avL r) B.cs (Nat.mul rs.length n) fun t e => ifB (Nat.beq e (Nat.mul (Nat.add rs.length 1) n)) (ifB (Nat.ble (Nat.mul rs.length n) B.lim)
          (k (.sl h1.nb 0 (Nat.add rs.length 1) n none) ⟨Nat.succ h1.nb, h1.bs.set ⟨true, B.g, e, B.df, t⟩ h1.nb, h1.gs.set (h1.nb, ifN (h1.grp B.g).1 b B.lim (Nat.mul rs.length n) (h1.grp B.g).2 h1.nb) B.g, h1.ms⟩) .fail) .fail) _) .fail) .fail) .fail)) .fail = _
      have e1 : Nat.ble (Nat.mul (Nat.add rs.length 1) by_) 140737488355328 = true := by rw [ble_iff]; exact hb
      have e2 : Nat.ble (Nat.add rs.length 1) 9223372036854775807 = true := by rw [ble_iff]; exact hb2
      rw [e1, e2, nn]
      show (gb h1 b fun B => ifB B.fr (ifB (Nat.beq 0 0) (lay (avL r) B.cs (Nat.mul rs.length n) fun t e => ifB (Nat.beq e (Nat.mul (Nat.add rs.length 1) n)) (ifB (Nat.ble (Nat.mul rs.length n) B.lim)
          (k (.sl h1.nb 0 (Nat.add rs.length 1) n none) ⟨Nat.succ h1.nb, h1.bs.set ⟨true, B.g, e, B.df, t⟩ h1.nb, h1.gs.set (h1.nb, ifN (h1.grp B.g).1 b B.lim (Nat.mul rs.length n) (h1.grp B.g).2 h1.nb) B.g, h1.ms⟩) .fail) .fail) _) .fail) = _
      rw [gb_rd g2, g3, ifB_t]
      have e3 : Nat.mul rs.length n = rs.length * n := rfl
      show (lay (avL r) B.cs (Nat.mul rs.length n) fun t e => ifB (Nat.beq e (Nat.mul (Nat.add rs.length 1) n)) (ifB (Nat.ble (Nat.mul rs.length n) B.lim)
          (k (.sl h1.nb 0 (Nat.add rs.length 1) n none) ⟨Nat.succ h1.nb, h1.bs.set ⟨true, B.g, e, B.df, t⟩ h1.nb, h1.gs.set (h1.nb, ifN (h1.grp B.g).1 b B.lim (Nat.mul rs.length n) (h1.grp B.g).2 h1.nb) B.g, h1.ms⟩) .fail) .fail) = _
      rw [e3, hold, mul2, t1', (beq_iff _ _).2 rfl, (ble_iff _ _).2 g5]
      rfl
    have hget2 : ∀ x, (h1.bs.set ⟨true, B.g, rs.length * n + n, B.df, t⟩ h1.nb).get x = if x = h1.nb then some ⟨true, B.g, rs.length * n + n, B.df, t⟩ else h1.bs.get x := fun x => T.get_set _ _ _ _
    have hgs2 : ∀ x, (h1.gs.set (h1.nb, old) B.g).get x = if x = B.g then some (h1.nb, old) else h1.gs.get x := fun x => T.get_set _ _ _ _
    have hBg := g2.grp g3
    have tfin : To P h1 ⟨Nat.succ h1.nb, h1.bs.set ⟨true, B.g, rs.length * n + n, B.df, t⟩ h1.nb, h1.gs.set (h1.nb, old) B.g, h1.ms⟩ := by
      refine ⟨Nat.le_succ _, fun x hx hn => ?_, fun x hx hn => ?_, fun hn g hg => ?_⟩
      · show (h1.bs.set _ h1.nb).get x = _
        rw [hget2, if_neg (by omega)]
      · show (h1.gs.set (h1.nb, old) B.g).get x = _
        rw [hgs2, if_neg (fun e => hn (by rw [e]; exact g4))]
      · show (h1.gs.set (h1.nb, old) B.g).get g = none
        have hg : h1.nb + 1 ≤ g := hg
        rw [hgs2, if_neg (by omega)]
        exact hn g (by omega)
    have hcat : (rs ++ [r]).flatten = rs.flatten ++ r := by simp
    refine ⟨_, h1, _, m1, hrun, ⟨hrs', .inr ⟨h1.nb, ⟨true, B.g, rs.length * n + n, B.df, t⟩, by rw [List.length_append]; rfl, .inr (by omega), ⟨by show (h1.bs.set _ h1.nb).get h1.nb = _; rw [hget2, if_pos rfl], Nat.lt_succ_self _, fun _ => ⟨Nat.lt_succ_of_lt hBg.1, ?_⟩⟩, rfl, .inl g4, by rw [List.length_append]; show (rs.length + 1) * n ≤ rs.length * n + n; rw [Nat.succ_mul]; exact Nat.le_refl _, fun i hi => ?_⟩⟩, t1.trans tfin, tfin.wf w1⟩
    · show (Hp.grp ⟨_, _, h1.gs.set (h1.nb, old) B.g, _⟩ B.g).2 ≤ h1.nb
      simp only [Hp.grp, hgs2, if_pos]
      exact hle
    · simp only [hcat] at hi ⊢
      have hfl := fl_len rs (fun r hr => (hv.1 r hr).1)
      rw [List.length_append, hr] at hi
      rw [at_in _ (show i < rs.length * n + n by omega)]
      simp only [t2 i]
      by_cases c : rs.length * n ≤ i
      · rw [dif_pos ⟨c, by omega⟩, List.getElem_append_right (by omega)]
        simp only [hfl]
      · rw [dif_neg (by omega), List.getElem_append_left (by omega)]
        have := g6 i (by omega)
        rw [at_in B (by omega)] at this
        exact this
end Go.AM
