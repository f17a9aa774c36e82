/-
  The abstract machine, part 40: values of several cells: read, made, stored; and rows that are made of noughts.
-/
import Derived.Test.YtnpfppddongbhaaDoorAm39
namespace Go.AM
open Go
set_option autoImplicit false

theorem ldN_rd {h : Hp} {b o : Nat} {B : Blk} {l : List AV} (hr : Rd h b B) (hl : ∀ i (hi : i < l.length), B.at (o + i) = l[i]) (hu : ∀ v ∈ l, v ≠ .unk) (k : AV → Res) : ldN h l.length (.ptr b o) k = k (.agg (avL l)) := by
  have e : ldN h l.length (.ptr b o) k = gb h b fun B => rds B l.length o fun t => k (.agg t) := rfl
  rw [e, gb_rd hr, rds_list l o _ hl hu]

theorem mk_own {h : Hp} (hw : Wf h) (l : List AV) (hl : ∀ v ∈ l, one v = true) :
    ∃ h' B, (∀ k : AV → Hp → Res, mk h (avL l) k = k (.ptr h.nb 0) h') ∧ Own h' h.nb B ∧ B.lim = l.length ∧ (∀ i (hi : i < l.length), B.at i = l[i]) ∧ To No h h' ∧ Wf h' ∧ h'.nb = h.nb + 1 := by
  obtain ⟨t, h1, h2⟩ := lay_list l .e 0 hl
  obtain ⟨o1, o2⟩ := nw_own hw (0 + l.length) .nil t
  refine ⟨nw h (0 + l.length) .nil t, _, fun k => ?_, o1, Nat.zero_add _, fun i hi => ?_, o2, o2.wf hw, rfl⟩
  · have e : mk h (avL l) k = lay (avL l) .e 0 fun t n => k (.ptr h.nb 0) (nw h n .nil t) := rfl
    rw [e, h1]
  · rw [at_in _ (show i < 0 + l.length by omega)]
    simp only [h2 i]
    rw [dif_pos ⟨by omega, by omega⟩]
    simp

theorem stN_own {h : Hp} {b o : Nat} {B : Blk} {l : List AV} (hw : Own h b B) (ho : o + l.length ≤ B.lim) (hv : ∀ v ∈ l, one v = true) :
    ∃ h' B', (∀ k : Hp → Res, stN h l.length (.ptr b o) (.agg (avL l)) k = k h') ∧ Own h' b B' ∧ B'.lim = B.lim ∧ (∀ i, B'.at i = if hi : o ≤ i ∧ i < o + l.length then l[i - o]'(by omega) else B.at i) ∧ To (At b) h h' ∧ h'.nb = h.nb := by
  obtain ⟨t, t1, t2⟩ := lay_list l B.cs o hv
  have e : ∀ k : Hp → Res, stN h l.length (.ptr b o) (.agg (avL l)) k = ifB (Nat.beq (len (avL l)) l.length) (wb h b fun B gs => ifB (Nat.ble (Nat.add o l.length) B.lim) (lay (avL l) B.cs o fun t _ => k (putB h b B t gs)) .fail) .fail := fun k => rfl
  have hget : ∀ x, (putB h b B t h.gs).bs.get x = if x = b then some ⟨B.fr, B.g, B.lim, B.df, t⟩ else h.bs.get x := fun x => T.get_set _ _ _ _
  refine ⟨putB h b B t h.gs, ⟨B.fr, B.g, B.lim, B.df, t⟩, fun k => ?_, ⟨?_, hw.lt, hw.fr, hw.g, hw.gs⟩, rfl, fun i => ?_, ⟨Nat.le_refl _, fun x _ hx => ?_, fun _ _ _ => rfl, fun hn => hn⟩, rfl⟩
  · rw [e, len_avL, (beq_iff _ _).2 rfl, ifB_t, wb_own hw, (ble_iff _ _).2 (show Nat.add o l.length ≤ B.lim from ho), ifB_t, t1]
  · rw [hget, if_pos rfl]
  · by_cases hi : i < B.lim
    · rw [at_in (⟨B.fr, B.g, B.lim, B.df, t⟩ : Blk) (show i < B.lim from hi), at_in B hi]
      simp only [t2 i]
      by_cases hc : o ≤ i ∧ i < o + l.length
      · rw [dif_pos hc, dif_pos hc]
      · rw [dif_neg hc, dif_neg hc]
    · rw [at_out (⟨B.fr, B.g, B.lim, B.df, t⟩ : Blk) (show ¬ i < B.lim from hi), at_out B hi, dif_neg (by omega)]
  · rw [hget, if_neg (show ¬ x = b from hx)]

/-- make: a row of one-cell noughts. -/
theorem mkM_own {h : Hp} (hw : Wf h) (v : AV) (n by_ c1 c2 : Nat) (hb : by_ * n ≤ 140737488355328) (hn : n ≤ 9223372036854775807) :
    ∃ h' B, (∀ k : AV → Hp → Res, mkM h (.cons v .nil) by_ (.int c1 (n : Int)) (.int c2 (n : Int)) k = k (.sl h.nb 0 n 1 (some n)) h') ∧ Own h' h.nb B ∧ B.lim = n ∧ (∀ i, i < n → B.at i = v) ∧ To No h h' ∧ Wf h' ∧ h'.nb = h.nb + 1 := by
  obtain ⟨o1, o2⟩ := nw_own hw (n * 1) (.cons v .nil) .e
  refine ⟨nw h (n * 1) (.cons v .nil) .e, _, fun k => ?_, o1, Nat.mul_one n, fun i hi => ?_, o2, o2.wf hw, rfl⟩
  · have e : mkM h (.cons v .nil) by_ (.int c1 (n : Int)) (.int c2 (n : Int)) k = ifB (Nat.ble n n) (ifB (Nat.ble (Nat.mul by_ n) 140737488355328) (ifB (Nat.ble n 9223372036854775807) (k (.sl h.nb 0 n 1 (some n)) (nw h (Nat.mul n 1) (.cons v .nil) .e)) .fail) .fail) .fail := rfl
    rw [e, (ble_iff _ _).2 (Nat.le_refl n), (ble_iff _ _).2 (show Nat.mul by_ n ≤ _ from hb), (ble_iff _ _).2 hn]; rfl
  · rw [at_in _ (show i < n * 1 by omega)]
    show nth (.cons v .nil) (i % len (.cons v .nil)) = v
    have e : len (.cons v .nil) = 1 := rfl
    rw [e, Nat.mod_one]; rfl
end Go.AM
