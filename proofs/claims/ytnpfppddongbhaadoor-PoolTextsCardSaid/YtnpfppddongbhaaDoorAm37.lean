/-
  The abstract machine, part 37: rows of bytes in its memory: what reading, cutting, appending make of them.
-/
import Derived.Test.YtnpfppddongbhaaDoorAm34
namespace Go.AM
open Go
set_option autoImplicit false

/-! ### memory -/
/-- Block b, which may be read. -/
structure Rd (h : Hp) (b : Nat) (B : Blk) : Prop where
  get : h.bs.get b = some B
  lt : b < h.nb
  grp : B.fr = true → B.g < h.nb ∧ (h.grp B.g).2 ≤ b

/-- Block b, alone in its group: it may be read and written. -/
structure Own (h : Hp) (b : Nat) (B : Blk) : Prop where
  get : h.bs.get b = some B
  lt : b < h.nb
  fr : B.fr = true
  g : B.g = b
  gs : h.gs.get b = none

/-- From h to h': what is not in W is as it was; what was not there has no group. -/
structure To (W : Nat → Prop) (h h' : Hp) : Prop where
  nb : h.nb ≤ h'.nb
  get : ∀ b, b < h.nb → ¬ W b → h'.bs.get b = h.bs.get b
  gs : ∀ g, g < h.nb → ¬ W g → h'.gs.get g = h.gs.get g
  new : (∀ g, h.nb ≤ g → h.gs.get g = none) → ∀ g, h'.nb ≤ g → h'.gs.get g = none

/-- No group is there ahead of its first block. -/
def Wf (h : Hp) : Prop := ∀ g, h.nb ≤ g → h.gs.get g = none

def No : Nat → Prop := fun _ => False
def At (b : Nat) : Nat → Prop := fun x => x = b

theorem To.refl (W : Nat → Prop) (h : Hp) : To W h h := ⟨Nat.le_refl _, fun _ _ _ => rfl, fun _ _ _ => rfl, fun h => h⟩
theorem To.trans {W : Nat → Prop} {a b c : Hp} (h1 : To W a b) (h2 : To W b c) : To W a c where
  nb := Nat.le_trans h1.nb h2.nb
  get := fun x hx hw => by rw [h2.get x (Nat.lt_of_lt_of_le hx h1.nb) hw, h1.get x hx hw]
  gs := fun x hx hw => by rw [h2.gs x (Nat.lt_of_lt_of_le hx h1.nb) hw, h1.gs x hx hw]
  new := fun h => h2.new (h1.new h)
theorem To.mono {W W' : Nat → Prop} {a b : Hp} (h : To W a b) (hw : ∀ x, x < a.nb → W x → W' x) : To W' a b where
  nb := h.nb
  get := fun x hx hn => h.get x hx fun q => hn (hw x hx q)
  gs := fun x hx hn => h.gs x hx fun q => hn (hw x hx q)
  new := h.new
theorem To.wf {W : Nat → Prop} {a b : Hp} (h : To W a b) (hw : Wf a) : Wf b := h.new hw

theorem Own.rd {h : Hp} {b : Nat} {B : Blk} (ho : Own h b B) : Rd h b B :=
  ⟨ho.get, ho.lt, fun _ => ⟨by rw [ho.g]; exact ho.lt, by rw [ho.g]; simp [Hp.grp, ho.gs]⟩⟩
theorem Own.to {W : Nat → Prop} {h h' : Hp} {b : Nat} {B : Blk} (ho : Own h b B) (ht : To W h h') (hw : ¬ W b) : Own h' b B :=
  ⟨by rw [ht.get b ho.lt hw]; exact ho.get, Nat.lt_of_lt_of_le ho.lt ht.nb, ho.fr, ho.g, by rw [ht.gs b ho.lt hw]; exact ho.gs⟩
theorem Rd.to {W : Nat → Prop} {h h' : Hp} {b : Nat} {B : Blk} (hr : Rd h b B) (ht : To W h h') (hw : ¬ W b) (hg : B.fr = true → ¬ W B.g) : Rd h' b B :=
  ⟨by rw [ht.get b hr.lt hw]; exact hr.get, Nat.lt_of_lt_of_le hr.lt ht.nb, fun hf => ⟨Nat.lt_of_lt_of_le (hr.grp hf).1 ht.nb, by
    have := (hr.grp hf).2
    unfold Hp.grp at this ⊢
    rw [ht.gs _ (hr.grp hf).1 (hg hf)]; exact this⟩⟩

theorem gb_rd {h : Hp} {b : Nat} {B : Blk} (hr : Rd h b B) (k : Blk → Res) : gb h b k = k B := by
  have e : gb h b k = ifB B.fr (ifB (Nat.ble (h.grp B.g).2 b) (k B) .fail) (k B) := by unfold gb; rw [hr.get]
  rw [e]
  cases hf : B.fr with
  | false => rfl
  | true => rw [ifB_t, (ble_iff _ _).2 (hr.grp hf).2]; rfl

theorem wb_own {h : Hp} {b : Nat} {B : Blk} (ho : Own h b B) (k : Blk → T (Nat × Nat) → Res) : wb h b k = k B h.gs := by
  have e : wb h b k = ifB B.fr (ifB (Nat.beq (h.grp B.g).1 b) (ifB (Nat.beq (h.grp B.g).2 b) (k B h.gs) (k B (h.gs.set (b, b) B.g))) .fail) .fail := by unfold wb; rw [ho.get]
  have hg : h.grp B.g = (b, b) := by rw [ho.g]; simp [Hp.grp, ho.gs]
  rw [e, ho.fr, hg, (beq_iff b b).2 rfl]; rfl

theorem ld1_rd {h : Hp} {b o : Nat} {B : Blk} {v : AV} (hr : Rd h b B) (hv : B.at o = v) (k : AV → Res) : ld1 h (.ptr b o) k = cK v k := by
  have e : ld1 h (.ptr b o) k = gb h b fun B => cK (B.at o) k := rfl
  rw [e, gb_rd hr, hv]

theorem at_in (B : Blk) {i : Nat} (hi : i < B.lim) : B.at i = (match B.cs.get i with | some v => v | none => nth B.df (i % len B.df)) := by
  rw [at_eq, if_pos hi]; cases B.cs.get i <;> rfl
theorem at_out (B : Blk) {i : Nat} (hi : ¬ i < B.lim) : B.at i = .unk := by
  rw [at_eq, if_neg hi]

/-- A block with one cell set. -/
noncomputable def setC (B : Blk) (o : Nat) (v : AV) : Blk := ⟨B.fr, B.g, B.lim, B.df, T.set v B.cs o⟩
theorem setC_at {B : Blk} {o : Nat} {v : AV} (ho : o < B.lim) (i : Nat) : (setC B o v).at i = if i = o then v else B.at i := by
  by_cases hi : i < B.lim
  · rw [at_in (setC B o v) hi, at_in B hi]
    simp only [setC, T.get_set]
    by_cases e : i = o
    · rw [if_pos e, if_pos e]
    · rw [if_neg e, if_neg e]
  · rw [at_out (setC B o v) hi, at_out B hi, if_neg (by omega)]

theorem st1_own {h : Hp} {b o : Nat} {B : Blk} {v : AV} (hw : Own h b B) (ho : o < B.lim) (hv : one v = true) :
    ∃ h', (∀ k : Hp → Res, st1 h (.ptr b o) v k = k h') ∧ Own h' b (setC B o v) ∧ To (At b) h h' ∧ h'.nb = h.nb := by
  have e : ∀ k : Hp → Res, st1 h (.ptr b o) v k = wb h b fun B gs => ifB (one v) (ifB (Nat.blt o B.lim) (k (putB h b B (T.set v B.cs o) gs)) .fail) .fail := fun k => rfl
  have hget : ∀ x, (putB h b B (T.set v B.cs o) h.gs).bs.get x = if x = b then some (setC B o v) else h.bs.get x := fun x => T.get_set _ _ _ _
  refine ⟨putB h b B (T.set v B.cs o) h.gs, fun k => ?_, ⟨?_, hw.lt, hw.fr, hw.g, hw.gs⟩, ⟨Nat.le_refl _, fun x _ hx => ?_, fun _ _ _ => rfl, fun hn => hn⟩, rfl⟩
  · rw [e, wb_own hw, hv, (blt_iff _ _).2 ho]; rfl
  · rw [hget, if_pos rfl]
  · rw [hget, if_neg (show ¬ x = b from hx)]

/-- A new block. -/
theorem nw_own {h : Hp} (hw : Wf h) (lim : Nat) (df : AV) (t : T AV) : Own (nw h lim df t) h.nb ⟨true, h.nb, lim, df, t⟩ ∧ To No h (nw h lim df t) := by
  have hget : ∀ x, (nw h lim df t).bs.get x = if x = h.nb then some ⟨true, h.nb, lim, df, t⟩ else h.bs.get x := fun x => T.get_set _ _ _ _
  refine ⟨⟨by rw [hget, if_pos rfl], Nat.lt_succ_self _, rfl, rfl, hw _ (Nat.le_refl _)⟩, ⟨Nat.le_succ _, fun x hx _ => by rw [hget, if_neg (by omega)], fun _ _ _ => rfl, fun hn g hg => hn g (Nat.le_of_succ_le hg)⟩⟩

/-! ### lists -/
def avL (l : List AV) : AV := l.foldr (fun v t => .cons v t) .nil
theorem avL_nil : avL [] = .nil := rfl
theorem avL_cons (v : AV) (l : List AV) : avL (v :: l) = .cons v (avL l) := rfl
theorem len_avL (l : List AV) : len (avL l) = l.length := by
  induction l with
  | nil => rfl
  | cons v l ih => exact congrArg Nat.succ ih
theorem app_avL (l m : List AV) : app (avL l) (avL m) = avL (l ++ m) := by
  induction l with
  | nil => rfl
  | cons v l ih => exact congrArg (AV.cons v) ih

theorem rds_list {B : Blk} : ∀ (l : List AV) (o : Nat) (k : AV → Res), (∀ i (hi : i < l.length), B.at (o + i) = l[i]) → (∀ v ∈ l, v ≠ .unk) → rds B l.length o k = k (avL l) := by
  intro l
  induction l with
  | nil => intro o k _ _; rfl
  | cons v l ih =>
    intro o k h hk
    have e : rds B (l.length + 1) o k = cK (B.at o) fun v => rds B l.length (o + 1) fun t => k (.cons v t) := rfl
    have h0 : B.at o = v := by
      have := h 0 (by simp)
      simpa only [Nat.add_zero, List.getElem_cons_zero] using this
    rw [List.length_cons, e, h0]
    have hc : ∀ k : AV → Res, cK v k = k v := by
      intro k
      have := hk v (by simp)
      cases v <;> first | rfl | exact absurd rfl this
    rw [hc, ih (o + 1) _ (fun i hi => by
      have := h (i + 1) (by simpa using hi)
      rw [Nat.add_assoc, Nat.add_comm 1 i]
      simpa using this) (fun v hv => hk v (by simp [hv]))]
    rfl

theorem lay_list : ∀ (l : List AV) (t : T AV) (o : Nat), (∀ v ∈ l, one v = true) → ∃ t', (∀ k : T AV → Nat → Res, lay (avL l) t o k = k t' (o + l.length)) ∧ ∀ j, t'.get j = if h : o ≤ j ∧ j < o + l.length then some (l[j - o]'(by omega)) else t.get j := by
  intro l
  induction l with
  | nil => intro t o _; exact ⟨t, fun k => rfl, fun j => by rw [dif_neg (by simp)]⟩
  | cons v l ih =>
    intro t o hl
    obtain ⟨t', h1, h2⟩ := ih (T.set v t o) (o + 1) (fun v hv => hl v (by simp [hv]))
    refine ⟨t', fun k => ?_, fun j => ?_⟩
    · have e : lay (.cons v (avL l)) t o k = ifB (one v) (lay (avL l) (T.set v t o) (o + 1) k) .fail := rfl
      rw [avL_cons, e, hl v (by simp), ifB_t, h1, show o + 1 + l.length = o + (v :: l).length by simp; omega]
    · rw [h2 j]
      by_cases c : o + 1 ≤ j ∧ j < o + 1 + l.length
      · rw [dif_pos c, dif_pos (by simp; omega)]
        have e : j - o = (j - (o + 1)) + 1 := by omega
        simp only [e, List.getElem_cons_succ]
      · rw [dif_neg c, T.get_set]
        by_cases e : j = o
        · subst e
          rw [if_pos rfl, dif_pos (by simp)]
          simp
        · rw [if_neg e, dif_neg (by simp; omega)]
end Go.AM
