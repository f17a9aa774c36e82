/-
  The abstract machine, part 9: stores, new variables, new slices.
-/
import Derived.Test.YtnpfppddongbhaaDoorAm8
namespace Go.AM
open Go
set_option autoImplicit false

/-- w' is w with one new row. -/
structure Nu (w w' : World) (cs : Array Value) (e : TypeId) (fz : Nat × Nat) : Prop where
  row : w'.heap[w.heap.size]? = some (.cells cs e fz)
  other : ∀ r, r < w.heap.size → w'.heap[r]? = w.heap[r]?
  size : w'.heap.size = w.heap.size + 1
  tape : w'.tape = w.tape
  os : w'.os = w.os
  output : w'.output = w.output

/-- One more block is placed. -/
def ups (ρ : Rho) (b : Nat) (p : Pl) : Rho := fun i => if i = b then some p else ρ i
theorem ups_same (ρ : Rho) (b : Nat) (p : Pl) : ups ρ b p b = some p := by simp [ups]
theorem ups_ne (ρ : Rho) {b i : Nat} (p : Pl) (h : i ≠ b) : ups ρ b p i = ρ i := by simp [ups, h]
theorem ups_ext {ρ : Rho} {b : Nat} (p : Pl) (h : ρ b = none) : Ext ρ (ups ρ b p) := by
  intro i q hq
  by_cases e : i = b
  · subst e; rw [h] at hq; cases hq
  · rw [ups_ne ρ p e]; exact hq

theorem BR.later {N0 : Base} {ρ ρ' : Rho} {h h' : Hp} {w w' : World} {b : Nat} {B : Blk} {p : Pl} (hB : BR N0 ρ h w b B p) (he : Ext ρ ρ') (hw : w'.heap[p.r]? = w.heap[p.r]?) (hr : readable h' b B → readable h b B) : BR N0 ρ' h' w' b B p := by
  obtain ⟨cs, e, fz, g1, g2, g3, g4⟩ := hB.obj
  refine ⟨⟨cs, e, fz, by rw [hw]; exact g1, g2, g3, fun hrd i hi => ?_⟩, hB.fit, hB.side⟩
  obtain ⟨V, k1, k2⟩ := g4 (hr hrd) i hi
  exact ⟨V, k1, k2.ext he⟩

theorem BR.lt {N0 : Base} {ρ : Rho} {h : Hp} {w : World} {b : Nat} {B : Blk} {p : Pl} (hB : BR N0 ρ h w b B p) : p.r < w.heap.size := by
  obtain ⟨cs, e, fz, g1, -⟩ := hB.obj
  exact (Array.getElem?_eq_some_iff.1 g1).1

section
variable {P : Program} {N0 : Base} {ρ : Rho} {h : Hp} {w : World} {x y : AV} {X Y : Value} {r : Res}

theorem new_inv (tp : Nat) {lim : Nat} {df : AV} {t : T AV} {w' : World} {cs : Array Value} {e : TypeId} {fz : Nat × Nat} (hi : Inv N0 ρ h w) (hw : Nu w w' cs e fz) (hz : ∀ j, j < cs.size → ¬ (fz.1 ≤ j ∧ j < fz.2)) (hl : lim ≤ cs.size)
    (hc : ∀ i, i < lim → ∃ V, cs[i]? = some V ∧ VR ρ ((⟨true, h.nb, lim, df, t⟩ : Blk).at i) V) :
    Inv N0 (ups ρ h.nb ⟨w.heap.size, 0, cs.size, tp⟩) (nw h lim df t) w' ∧ Tr ρ h w (ups ρ h.nb ⟨w.heap.size, 0, cs.size, tp⟩) (nw h lim df t) w' := by
  have hfree : ρ h.nb = none := hi.free _ (Nat.le_refl _)
  have hext := ups_ext ⟨w.heap.size, 0, cs.size, tp⟩ hfree
  have hget : ∀ b2, (nw h lim df t).bs.get b2 = if b2 = h.nb then some ⟨true, h.nb, lim, df, t⟩ else h.bs.get b2 := fun b2 => by simp [nw, T.get_set]
  have hgrp : ∀ g, (nw h lim df t).grp g = h.grp g := fun g => rfl
  have hng : h.grp h.nb = (h.nb, h.nb) := by
    cases hq : h.gs.get h.nb with
    | none => simp [Hp.grp, hq]
    | some q => have := (hi.gs _ _ hq).1; omega
  have look : ∀ b2 B2, (nw h lim df t).bs.get b2 = some B2 → (b2 = h.nb ∧ B2 = ⟨true, h.nb, lim, df, t⟩) ∨ (b2 ≠ h.nb ∧ h.bs.get b2 = some B2 ∧ b2 < h.nb) := by
    intro b2 B2 h2
    rw [hget] at h2
    by_cases e0 : b2 = h.nb
    · rw [if_pos e0] at h2; exact .inl ⟨e0, (Option.some.inj h2).symm⟩
    · rw [if_neg e0] at h2; exact .inr ⟨e0, h2, hi.nb _ _ h2⟩
  have plc : ∀ b2 B2 p2, h.bs.get b2 = some B2 → ups ρ h.nb ⟨w.heap.size, 0, cs.size, tp⟩ b2 = some p2 → b2 ≠ h.nb → ρ b2 = some p2 ∧ BR N0 ρ h w b2 B2 p2 := by
    intro b2 B2 p2 h2 hp2 hne
    rw [ups_ne _ _ hne] at hp2
    obtain ⟨p3, hp3, hB⟩ := hi.blk b2 B2 h2
    obtain rfl : p2 = p3 := by rw [hp2] at hp3; exact Option.some.inj hp3
    exact ⟨hp2, hB⟩
  refine ⟨⟨?_, ?_, ?_, ?_, ?_, ?_, ?_, by rw [hw.size]; have := hi.wsz; omega, hi.mp.later hext (Nat.le_succ _) (fun r o hr _ => hw.other r (Array.getElem?_eq_some_iff.1 hr).1), Base.st hi.jj fun r hr => hw.other r (by have := hi.wsz; omega)⟩, ⟨hext, Nat.le_succ _, ?_, fun r hr _ _ => hw.other r hr, ?_, hi.mp.same hext, by rw [hw.size]; omega, hw.tape, hw.os, hw.output⟩⟩
  · intro b2 B2 h2
    rcases look b2 B2 h2 with ⟨rfl, rfl⟩ | ⟨hne, h2, hlt⟩
    · refine ⟨_, ups_same _ _ _, ⟨cs, e, fz, hw.row, rfl, fun _ => hz, fun _ i hlt => ?_⟩, by show 0 + lim ≤ cs.size; omega, fun _ => hi.wsz, fun h => by cases h⟩
      obtain ⟨V, k1, k2⟩ := hc i hlt
      exact ⟨V, by simpa using k1, k2.ext hext⟩
    · obtain ⟨p2, hp2, hB⟩ := hi.blk b2 B2 h2
      exact ⟨p2, by rw [ups_ne _ _ hne]; exact hp2, hB.later hext (hw.other _ hB.lt) (fun hrd => hrd)⟩
  · intro b2 B2 h2
    rcases look b2 B2 h2 with ⟨rfl, rfl⟩ | ⟨hne, h2, hlt⟩
    · exact Nat.lt_succ_self _
    · exact Nat.lt_succ_of_lt hlt
  · intro b2 B2 h2 hf
    rcases look b2 B2 h2 with ⟨rfl, rfl⟩ | ⟨hne, h2, hlt⟩
    · refine ⟨Nat.lt_succ_self _, ?_⟩
      rw [hgrp]; show h.nb ≤ (h.grp h.nb).1
      rw [hng]; exact Nat.le_refl _
    · have := hi.gnb b2 B2 h2 hf
      exact ⟨Nat.lt_succ_of_lt this.1, this.2⟩
  · intro g q hq
    have := hi.gs g q hq
    exact ⟨Nat.lt_succ_of_lt this.1, Nat.lt_succ_of_lt this.2.1, this.2.2⟩
  · intro b1 b2 B1 B2 p1 p2 h1 h2 f1 f2 e1 e2 er
    rcases look b1 B1 h1 with ⟨rfl, rfl⟩ | ⟨n1, k1, l1⟩ <;> rcases look b2 B2 h2 with ⟨rfl, rfl⟩ | ⟨n2, k2, l2⟩
    · rfl
    · rw [ups_same] at e1
      obtain rfl := (Option.some.inj e1).symm
      have := (plc b2 B2 p2 k2 e2 n2).2.lt
      simp at er; omega
    · rw [ups_same] at e2
      obtain rfl := (Option.some.inj e2).symm
      have := (plc b1 B1 p1 k1 e1 n1).2.lt
      simp at er; omega
    · exact hi.als b1 b2 B1 B2 p1 p2 k1 k2 f1 f2 (plc b1 B1 p1 k1 e1 n1).1 (plc b2 B2 p2 k2 e2 n2).1 er
  · intro b1 b2 B1 B2 p1 p2 h1 h2 f1 f2 e1 e2 eg r1 r2 hle
    rcases look b1 B1 h1 with ⟨rfl, rfl⟩ | ⟨n1, k1, l1⟩ <;> rcases look b2 B2 h2 with ⟨rfl, rfl⟩ | ⟨n2, k2, l2⟩
    · rw [e1] at e2
      obtain rfl := Option.some.inj e2
      exact ⟨Nat.le_refl _, fun _ => rfl⟩
    · have := (hi.gnb b2 B2 k2 f2).1
      have eg : h.nb = B2.g := eg
      omega
    · have := (hi.gnb b1 B1 k1 f1).1
      have eg : B1.g = h.nb := eg
      omega
    · exact hi.lim b1 b2 B1 B2 p1 p2 k1 k2 f1 f2 (plc b1 B1 p1 k1 e1 n1).1 (plc b2 B2 p2 k2 e2 n2).1 eg r1 r2 hle
  · intro i hle
    have hle : h.nb + 1 ≤ i := hle
    rw [ups_ne _ _ (by omega)]
    exact hi.free i (by omega)
  · intro b p hp
    by_cases e0 : b = h.nb
    · subst e0; exact .inr ⟨hfree, Nat.le_refl _, Nat.lt_succ_self _⟩
    · rw [ups_ne _ _ e0] at hp; exact .inl hp
  · intro b B p hb hf hp
    rcases look b B hb with ⟨rfl, rfl⟩ | ⟨hne, h2, hlt⟩
    · rw [ups_same] at hp
      obtain rfl := (Option.some.inj hp).symm
      exact .inl (Nat.le_refl _)
    · exact .inr ⟨b, B, p, h2, hf, (plc b B p h2 hp hne).1, rfl⟩

theorem nu_alloc (cs : Array Value) (e : TypeId) : Nu w (w.alloc (.cells cs e)) cs e (0, 0) :=
  ⟨by rw [show (w.alloc (.cells cs e)).heap = w.heap.push (.cells cs e) from rfl]; simp, fun r hr => by rw [show (w.alloc (.cells cs e)).heap = w.heap.push (.cells cs e) from rfl, Array.getElem?_push]; rw [if_neg (by omega)], by simp, rfl, rfl, rfl⟩
theorem Nu.drew {cs : Array Value} {e : TypeId} {fz : Nat × Nat} {w' : World} (hn : Nu w.drew w' cs e fz) : Nu w w' cs e fz :=
  ⟨hn.row, hn.other, hn.size, hn.tape, hn.os, hn.output⟩

/-- The outcome of an operation: what it answers is a value, and the state behind it. -/
structure Out (N0 : Base) (ρ : Rho) (h : Hp) (w : World) (v : AV) (h' : Hp) (V : Value) (w' : World) (ρ' : Rho) : Prop where
  val : VR ρ' v V
  inv : Inv N0 ρ' h' w'
  tr : Tr ρ h w ρ' h' w'

/-- A list's values as new cells. -/
theorem lay_new {l : AV} {Vs : List Value} {t : T AV} (hl : LR ρ l Vs) (ht : ∀ j, t.get j = if 0 ≤ j ∧ j < 0 + len l then some (nth l (j - 0)) else (T.e : T AV).get j) (g : Nat) :
    ∀ i, i < len l → ∃ V, Vs.toArray[i]? = some V ∧ VR ρ ((⟨true, g, len l, .nil, t⟩ : Blk).at i) V := by
  intro i hi
  have hlen := LR_len l Vs hl
  obtain ⟨V, hV⟩ : ∃ V, Vs[i]? = some V := ⟨Vs[i]'(by omega), by simp⟩
  refine ⟨V, by simpa using hV, ?_⟩
  rw [at_eq, if_pos hi]
  simp only [ht i]
  rw [if_pos ⟨Nat.zero_le _, by omega⟩]
  exact LR_get l Vs hl i V hV

theorem mk_ok {l : AV} {Vs : Array Value} {k : AV → Hp → Res} (t : TypeId) (hi : Inv N0 ρ h w) (e : mk h l k = r) (hr : r ≠ .fail) (hl : LR ρ l Vs.toList) :
    ∃ v h' ρ', k v h' = r ∧ Out N0 ρ h w v h' (.pointer (some ⟨w.heap.size, 0, none⟩)) (w.alloc (.cells Vs t)) ρ' := by
  obtain ⟨t', h1, h2, h3⟩ := lay_inv l .e 0 e hr
  have hlen := LR_len l _ hl
  rw [Nat.zero_add] at h1
  have hsz : len l = Vs.size := by simpa using hlen
  obtain ⟨i1, i2⟩ := new_inv 0 (lim := len l) (df := .nil) (t := t') hi (nu_alloc Vs t) (fun j _ => by simp) (by omega) (by
    intro i hlt
    have := lay_new hl h2 h.nb i hlt
    simpa using this)
  exact ⟨_, _, _, h1, ⟨_, ups_same _ _ _, rfl⟩, i1, i2⟩
end
end Go.AM
