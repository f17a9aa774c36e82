/-
  The abstract machine, part 8: writing to memory and making more of it.
-/
import Derived.Test.YtnpfppddongbhaaDoorAm7
namespace Go.AM
open Go
set_option autoImplicit false

/-- w' is w but for the row g, which holds cs. -/
structure Wr (w w' : World) (g : Nat) (cs : Array Value) (e : TypeId) (fz : Nat × Nat) : Prop where
  row : w'.heap[g]? = some (.cells cs e fz)
  other : ∀ r, r ≠ g → w'.heap[r]? = w.heap[r]?
  size : w'.heap.size = w.heap.size
  tape : w'.tape = w.tape
  os : w'.os = w.os
  output : w'.output = w.output

section
variable {P : Program} {N0 : Base} {ρ : Rho} {h : Hp} {w : World} {x y : AV} {X Y : Value} {r : Res}

theorem store_run (g o : Nat) (v : Value) {cur : Array Value} {e : TypeId} {fz : Nat × Nat} (hg : w.heap[g]? = some (.cells cur e fz)) (hf : ¬ (fz.1 ≤ o ∧ o < fz.2)) (ho : o < cur.size) (hv : v.oneCell' = true) :
    (store ⟨g, o, none⟩ v).run P w = .ok () (w.setCell ⟨g, o, none⟩ v) ∧ Wr w (w.setCell ⟨g, o, none⟩ v) g (cur.setIfInBounds o v) e fz := by
  refine ⟨?_, ?_⟩
  · rw [run_store P w _ v _ hv]
    have hc : w.cell? ⟨g, o, none⟩ = some cur[o] := by simp [World.cell?, hg, ho]
    have hz : w.frozen? ⟨g, o, none⟩ = false := by
      simp only [World.frozen?, hg]
      simpa using hf
    rw [hc]; simp [hz]
  · rw [setCell_eq_setRow w g o cur e fz v hg]
    refine ⟨setRow_heap w g cur _ e fz hg, fun r hr => ?_, by simp, rfl, rfl, rfl⟩
    simp only [World.setRow, Array.getElem?_modify]
    rw [if_neg (fun e => hr e.symm)]

theorem storeCells_run (g o : Nat) {e : TypeId} {fz : Nat × Nat} : ∀ (vs : List Value) (i : Nat) (cur : Array Value) (w : World), w.heap[g]? = some (.cells cur e fz) → (∀ j, j < cur.size → ¬ (fz.1 ≤ j ∧ j < fz.2)) →
    o + i + vs.length ≤ cur.size → (∀ v ∈ vs, v.oneCell' = true) →
    ∃ w' cs, (storeCells ⟨g, o, none⟩ vs i).run P w = .ok () w' ∧ Wr w w' g cs e fz ∧ cs.size = cur.size ∧
      ∀ j, cs[j]? = if o + i ≤ j ∧ j < o + i + vs.length then vs[j - (o + i)]? else cur[j]? := by
  intro vs
  induction vs with
  | nil =>
    intro i cur w hg hf hl h1
    refine ⟨w, cur, rfl, ⟨hg, fun _ _ => rfl, rfl, rfl, rfl, rfl⟩, rfl, fun j => ?_⟩
    rw [if_neg (by simp)]
  | cons v rest ih =>
    intro i cur w hg hf hl h1
    simp only [List.length_cons] at hl
    obtain ⟨s1, s2⟩ := store_run (P := P) (w := w) g (o + i) v hg (hf _ (by omega)) (by omega) (h1 v (by simp))
    have hadd : (⟨g, o, none⟩ : Addr).add i = ⟨g, o + i, none⟩ := by unfold Addr.add; split <;> simp_all
    obtain ⟨w', cs, g1, g2, g3, g4⟩ := ih (i + 1) _ _ s2.row (by simpa using hf) (by simp; omega) (fun u hu => h1 u (by simp [hu]))
    refine ⟨w', cs, ?_, ⟨g2.row, fun r hr => (g2.other r hr).trans (s2.other r hr), g2.size.trans s2.size, g2.tape.trans s2.tape, g2.os.trans s2.os, g2.output.trans s2.output⟩, by simpa using g3, fun j => ?_⟩
    · simp only [storeCells, Sem.run_bind, hadd, s1, Result.andThen_ok, g1]
    · rw [g4 j]
      by_cases hj : j = o + i
      · subst hj
        rw [if_neg (by omega), if_pos (by simp)]
        simp [show o + i < cur.size from by omega]
      · by_cases hr : o + (i + 1) ≤ j ∧ j < o + (i + 1) + rest.length
        · rw [if_pos hr, if_pos (by simp; omega)]
          obtain ⟨m, rfl⟩ : ∃ m, j = o + i + 1 + m := ⟨j - (o + i + 1), by omega⟩
          rw [show o + i + 1 + m - (o + i) = m + 1 from by omega, show o + i + 1 + m - (o + (i + 1)) = m from by omega]; rfl
        · rw [if_neg hr, if_neg (by simp; omega)]
          simp [show ¬ o + i = j from fun e => hj e.symm]

theorem lay_inv : ∀ (l : AV) (t : T AV) (o : Nat) {k : T AV → Nat → Res}, lay l t o k = r → r ≠ .fail → ∃ t', k t' (o + len l) = r ∧
    (∀ j, t'.get j = if o ≤ j ∧ j < o + len l then some (nth l (j - o)) else t.get j) ∧ ∀ ρ Vs, LR ρ l Vs → ∀ V ∈ Vs, V.oneCell' = true := by
  intro l
  induction l with
  | nil =>
    intro t o k e hr
    exact ⟨t, e, fun j => by rw [if_neg (by simp [len])], fun ρ Vs h => by have h : Vs = [] := h; subst h; simp⟩
  | cons v l _ ih =>
    intro t o k e hr
    have e : ifB (one v) (lay l (T.set v t o) (o + 1) k) .fail = r := e
    obtain ⟨h1, h2⟩ := ifF_inv e hr
    obtain ⟨t', h3, h4, h5⟩ := ih _ _ h2 hr
    have hl : len (.cons v l) = len l + 1 := rfl
    refine ⟨t', by rw [hl, show o + (len l + 1) = o + 1 + len l from by omega]; exact h3, fun j => ?_, fun ρ Vs hV => ?_⟩
    · rw [h4 j, T.get_set, hl]
      by_cases hj : j = o
      · subst hj; rw [if_neg (by omega), if_pos rfl, if_pos (by omega), Nat.sub_self]; rfl
      · by_cases hc : o + 1 ≤ j ∧ j < o + 1 + len l
        · rw [if_pos hc, if_pos (by omega)]
          obtain ⟨m, rfl⟩ : ∃ m, j = o + 1 + m := ⟨j - (o + 1), by omega⟩
          rw [show o + 1 + m - (o + 1) = m from by omega, show o + 1 + m - o = m + 1 from by omega]; rfl
        · rw [if_neg hc, if_neg hj, if_neg (by omega)]
    · obtain ⟨V, Vs', rfl, g1, g2⟩ := hV
      intro U hU
      rcases List.mem_cons.1 hU with rfl | hU
      · exact one_cell g1 h1
      · exact h5 ρ Vs' g2 U hU
  | _ => intro t o k e hr; exact absurd e.symm hr

theorem LR_get {ρ : Rho} : ∀ (l : AV) (Vs : List Value), LR ρ l Vs → ∀ i V, Vs[i]? = some V → VR ρ (nth l i) V := by
  intro l
  induction l with
  | nil => intro Vs h i V e; have h : Vs = [] := h; subst h; simp at e
  | cons v l _ ih =>
    intro Vs h i V e
    obtain ⟨U, Us, rfl, g1, g2⟩ := h
    cases i with
    | zero => simp at e; subst e; exact g1
    | succ i => exact ih Us g2 i V (by simpa using e)
  | _ => intro Vs h; exact h.elim

theorem grp_putB {b : Nat} {B : Blk} {t : T AV} {gs : T (Nat × Nat)} (hi : (h.grp B.g).1 = b) (hgs : (gs = h.gs ∧ (h.grp B.g).2 = b) ∨ gs = h.gs.set (b, b) B.g) :
    (∀ g, ((putB h b B t gs).grp g).1 = (h.grp g).1) ∧ ((putB h b B t gs).grp B.g).2 = b ∧ ∀ g, g ≠ B.g → (putB h b B t gs).grp g = h.grp g := by
  rcases hgs with ⟨rfl, h2⟩ | rfl
  · exact ⟨fun _ => rfl, h2, fun _ _ => rfl⟩
  · have hg : ∀ g, (putB h b B t (h.gs.set (b, b) B.g)).grp g = if g = B.g then (b, b) else h.grp g := by
      intro g
      simp only [Hp.grp, putB, T.get_set]
      by_cases e : g = B.g
      · rw [if_pos e, if_pos e]
      · rw [if_neg e, if_neg e]
    refine ⟨fun g => ?_, ?_, fun g e => ?_⟩
    · rw [hg]; by_cases e : g = B.g
      · subst e; rw [if_pos rfl, hi]
      · rw [if_neg e]
    · rw [hg, if_pos rfl]
    · rw [hg, if_neg e]

/-- A write to a block that may be written. -/
theorem write_inv {b : Nat} {B : Blk} {p : Pl} {gs : T (Nat × Nat)} {t : T AV} {w' : World} {cs : Array Value} {e : TypeId} {fz : Nat × Nat} (hi : Inv N0 ρ h w) (hb : h.bs.get b = some B) (hf : B.fr = true) (hp : ρ b = some p)
    (hn : (h.grp B.g).1 = b) (hgs : (gs = h.gs ∧ (h.grp B.g).2 = b) ∨ gs = h.gs.set (b, b) B.g) (hw : Wr w w' p.r cs e fz) (hs : cs.size = p.sz) (hz : ∀ j, j < p.sz → ¬ (fz.1 ≤ j ∧ j < fz.2))
    (hc : ∀ i, i < B.lim → ∃ V, cs[p.base + i]? = some V ∧ VR ρ ((⟨B.fr, B.g, B.lim, B.df, t⟩ : Blk).at i) V) :
    Inv N0 ρ (putB h b B t gs) w' ∧ Tr ρ h w ρ (putB h b B t gs) w' := by
  obtain ⟨q1, q2, q3⟩ := grp_putB (t := t) hn hgs
  obtain ⟨p', hp', hB⟩ := hi.blk b B hb
  obtain rfl : p = p' := by rw [hp] at hp'; exact Option.some.inj hp'
  have hget : ∀ b2, (putB h b B t gs).bs.get b2 = if b2 = b then some ⟨B.fr, B.g, B.lim, B.df, t⟩ else h.bs.get b2 := fun b2 => by simp [putB, T.get_set]
  -- a block that is read as before
  have old : ∀ b2 B2 p2, b2 ≠ b → h.bs.get b2 = some B2 → ρ b2 = some p2 → readable (putB h b B t gs) b2 B2 → p2.r ≠ p.r := by
    intro b2 B2 p2 hne hb2 hp2 hrd he
    cases hf2 : B2.fr with
    | false =>
      obtain ⟨p3, hp3, hB2⟩ := hi.blk b2 B2 hb2
      obtain rfl : p2 = p3 := by rw [hp2] at hp3; exact Option.some.inj hp3
      have := hB2.side.2 hf2
      have := hB.side.1 hf
      omega
    | true =>
      have hg := hi.als b2 b B2 B p2 p hb2 hb hf2 hf hp2 hp he
      have := hrd hf2
      rw [hg, q2] at this
      have := (hi.gnb b2 B2 hb2 hf2).2
      rw [hg, hn] at this
      omega
  have look : ∀ b2 B2, (putB h b B t gs).bs.get b2 = some B2 → ∃ B2', h.bs.get b2 = some B2' ∧ B2'.fr = B2.fr ∧ B2'.g = B2.g ∧ B2'.lim = B2.lim ∧ (b2 ≠ b → B2' = B2) ∧ (b2 = b → B2 = ⟨B.fr, B.g, B.lim, B.df, t⟩) := by
    intro b2 B2 h2
    rw [hget] at h2
    by_cases e : b2 = b
    · rw [if_pos e] at h2
      obtain rfl := Option.some.inj h2
      exact ⟨B, by rw [e]; exact hb, rfl, rfl, rfl, fun h => absurd e h, fun _ => rfl⟩
    · rw [if_neg e] at h2
      exact ⟨B2, h2, rfl, rfl, rfl, fun _ => rfl, fun h => absurd h e⟩
  have fl : (h.grp B.g).2 ≤ b := by
    have : (h.grp B.g).2 ≤ (h.grp B.g).1 := by
      cases hq : h.gs.get B.g with
      | none => simp [Hp.grp, hq]
      | some q => have := (hi.gs _ _ hq).2.2; simpa [Hp.grp, hq] using this
    omega
  have rdd : ∀ b2 B2 B2', h.bs.get b2 = some B2' → B2'.fr = B2.fr → B2'.g = B2.g → readable (putB h b B t gs) b2 B2 → readable h b2 B2' := by
    intro b2 B2 B2' hb2 e1 e2 hrd hf2
    have := hrd (e1 ▸ hf2)
    by_cases e : B2.g = B.g
    · rw [e, q2] at this
      rw [e2, e]; omega
    · rw [q3 _ e] at this
      rw [e2]; exact this
  refine ⟨⟨?_, ?_, ?_, ?_, ?_, ?_, hi.free, by rw [hw.size]; exact hi.wsz, hi.mp.later (Ext.refl ρ) (Nat.le_refl _) (fun r o hr ho => hw.other r fun e0 => by obtain ⟨cs3, e3, fz3, m1, -⟩ := hB.obj; rw [e0, m1] at hr; exact ho _ _ _ (Option.some.inj hr).symm), Base.st hi.jj fun r hr => hw.other r fun e0 => by have := hB.side.1 hf; omega⟩, ⟨Ext.refl ρ, Nat.le_refl _, fun _ _ e => .inl e, ?_, ?_, hi.mp.same (Ext.refl ρ), by rw [hw.size]; exact Nat.le_refl _, hw.tape, hw.os, hw.output⟩⟩
  · intro b2 B2 h2
    obtain ⟨B2', k1, k2, k3, k4, k5, k6⟩ := look b2 B2 h2
    by_cases e0 : b2 = b
    · subst e0
      obtain rfl := k6 rfl
      exact ⟨p, hp, ⟨cs, _, fz, hw.row, hs, fun _ => hz, fun _ i hlt => hc i hlt⟩, hB.fit, hB.side⟩
    · obtain rfl := k5 e0
      obtain ⟨p2, hp2, hB2⟩ := hi.blk b2 B2' k1
      refine ⟨p2, hp2, ?_, hB2.fit, hB2.side⟩
      obtain ⟨cs2, e2, fz2, g1, g2, g3, g4⟩ := hB2.obj
      by_cases hr : p2.r = p.r
      · obtain ⟨cs3, e3, fz3, m1, m2, -⟩ := hB.obj
        have hsz : p2.sz = p.sz := by
          rw [hr, m1] at g1
          obtain ⟨rfl, -, -⟩ := Obj.cells.inj (Option.some.inj g1)
          rw [← g2, m2]
        exact ⟨cs, e, fz, by rw [hr]; exact hw.row, by rw [hsz]; exact hs, fun _ => by rw [hsz]; exact hz, fun hrd => absurd hr (old b2 B2' p2 e0 k1 hp2 hrd)⟩
      · exact ⟨cs2, e2, fz2, by rw [hw.other _ hr]; exact g1, g2, g3, fun hrd i hlt => g4 (rdd b2 B2' B2' k1 rfl rfl hrd) i hlt⟩
  · intro b2 B2 h2
    obtain ⟨B2', k1, -⟩ := look b2 B2 h2
    exact hi.nb b2 B2' k1
  · intro b2 B2 h2 hf2
    obtain ⟨B2', k1, k2, k3, -⟩ := look b2 B2 h2
    rw [q1]
    rw [← k3]
    exact hi.gnb b2 B2' k1 (k2 ▸ hf2)
  · intro g q hq
    rcases hgs with ⟨rfl, _⟩ | rfl
    · exact hi.gs g q hq
    · have hq : (h.gs.set (b, b) B.g).get g = some q := hq
      rw [T.get_set] at hq
      by_cases e : g = B.g
      · rw [if_pos e] at hq
        obtain rfl := Option.some.inj hq
        have := hi.gnb b B hb hf
        have := hi.nb b B hb
        exact ⟨by rw [e]; show B.g < h.nb; omega, this, Nat.le_refl _⟩
      · rw [if_neg e] at hq; exact hi.gs g q hq
  · intro b1 b2 B1 B2 p1 p2 h1 h2 f1 f2 e1 e2 er
    obtain ⟨B1', k1, k2, k3, -⟩ := look b1 B1 h1
    obtain ⟨B2', l1, l2, l3, -⟩ := look b2 B2 h2
    rw [← k3, ← l3]
    exact hi.als b1 b2 B1' B2' p1 p2 k1 l1 (k2 ▸ f1) (l2 ▸ f2) e1 e2 er
  · intro b1 b2 B1 B2 p1 p2 h1 h2 f1 f2 e1 e2 eg r1 r2 hle
    obtain ⟨B1', k1, k2, k3, k4, -⟩ := look b1 B1 h1
    obtain ⟨B2', l1, l2, l3, l4, -⟩ := look b2 B2 h2
    rw [← k4, ← l4]
    exact hi.lim b1 b2 B1' B2' p1 p2 k1 l1 (k2 ▸ f1) (l2 ▸ f2) e1 e2 (by rw [k3, l3]; exact eg) (rdd _ _ _ k1 k2 k3 r1) (rdd _ _ _ l1 l2 l3 r2) hle
  · intro r hr hn'
    exact fun _ => hw.other r (fun e => hn' b B p hb hf hp e.symm)
  · intro b2 B2 p2 h2 f2 hp2
    obtain ⟨B2', k1, k2, -⟩ := look b2 B2 h2
    exact .inr ⟨b2, B2', p2, k1, k2 ▸ f2, hp2, rfl⟩
end
end Go.AM
