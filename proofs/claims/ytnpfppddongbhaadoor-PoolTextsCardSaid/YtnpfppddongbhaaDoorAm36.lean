/-
  The abstract machine, part 36 (between 35 and 22): a new map; an entry that is set.
-/
import Derived.Test.YtnpfppddongbhaaDoorAm35
namespace Go.AM
open Go Go.MapKept
set_option autoImplicit false

section
variable {P : Program} {N0 : Base} {ρ : Rho} {h : Hp} {w : World} {x y : AV} {X Y : Value} {r : Res}

theorem mkMap_ok {t : TypeId} {k : AV → Hp → Res} (hi : Inv N0 ρ h w) (e : mkMap h k = r) : Does P N0 ρ h w (Instr.makeMap t none) k r := by
  have hfree : ρ h.nb = none := hi.free _ (Nat.le_refl _)
  have hext := ups_ext ⟨w.heap.size, 0, 0, 0⟩ hfree
  obtain ⟨ha1, ha2⟩ := heap_alloc w (.map #[] 0)
  have hsize : (w.alloc (.map #[] 0)).heap.size = w.heap.size + 1 := by show (w.heap.push _).size = _; simp
  have plc : ∀ b2 B2 p2, h.bs.get b2 = some B2 → ups ρ h.nb ⟨w.heap.size, 0, 0, 0⟩ b2 = some p2 → ρ b2 = some p2 := by
    intro b2 B2 p2 h2 hp2
    have := hi.nb b2 B2 h2
    rwa [ups_ne _ _ (by omega)] at hp2
  have hmget : ∀ b, (h.ms.set .nil h.nb).get b = if b = h.nb then some .nil else h.ms.get b := fun b => T.get_set _ _ _ _
  refine ⟨_, _, .map (some w.heap.size), w.alloc (.map #[] 0), ups ρ h.nb ⟨w.heap.size, 0, 0, 0⟩, e, rfl, ⟨_, ups_same _ _ _, rfl⟩, ⟨?_, ?_, ?_, ?_, ?_, ?_, ?_, ?_, ⟨?_, ?_⟩, Base.st hi.jj fun r hr => ha2 r (by have := hi.wsz; omega)⟩, ⟨hext, Nat.le_succ _, ?_, fun r hr _ _ => ha2 r hr, ?_, ?_, by rw [hsize]; omega, rfl, rfl, rfl⟩⟩
  · intro b B hb
    obtain ⟨p, hp, hB⟩ := hi.blk b B hb
    exact ⟨p, hext _ _ hp, hB.later hext (ha2 _ hB.lt) (fun hrd => hrd)⟩
  · intro b B hb; exact Nat.lt_succ_of_lt (hi.nb b B hb)
  · intro b B hb hf
    have := hi.gnb b B hb hf
    exact ⟨Nat.lt_succ_of_lt this.1, this.2⟩
  · intro g q hq
    have := hi.gs g q hq
    exact ⟨Nat.lt_succ_of_lt this.1, Nat.lt_succ_of_lt this.2.1, this.2.2⟩
  · intro b1 b2 B1 B2 p1 p2 h1 h2 f1 f2 e1 e2 er
    exact hi.als b1 b2 B1 B2 p1 p2 h1 h2 f1 f2 (plc _ _ _ h1 e1) (plc _ _ _ h2 e2) er
  · intro b1 b2 B1 B2 p1 p2 h1 h2 f1 f2 e1 e2 eg r1 r2 hle
    exact hi.lim b1 b2 B1 B2 p1 p2 h1 h2 f1 f2 (plc _ _ _ h1 e1) (plc _ _ _ h2 e2) eg r1 r2 hle
  · intro i hle
    have hle : h.nb + 1 ≤ i := hle
    rw [ups_ne _ _ (by omega)]
    exact hi.free i (by omega)
  · rw [hsize]; have := hi.wsz; omega
  · intro b m hb
    have hb : (h.ms.set .nil h.nb).get b = some m := hb
    rw [hmget] at hb
    by_cases e0 : b = h.nb
    · rw [if_pos e0] at hb
      obtain rfl := Option.some.inj hb
      subst e0
      exact ⟨Nat.lt_succ_self _, _, .map #[] 0, ups_same _ _ _, hi.wsz, ha1, rfl⟩
    · rw [if_neg e0] at hb
      obtain ⟨g1, p, o, g2, g3, g4, g5⟩ := hi.mp.ent b m hb
      exact ⟨Nat.lt_succ_of_lt g1, p, o, hext _ _ g2, g3, by rw [ha2 _ (Array.getElem?_eq_some_iff.1 g4).1]; exact g4, g5.ext hext⟩
  · intro b1 b2 m1 m2 p1 p2 h1 h2 e1 e2 er
    have h1 : (h.ms.set .nil h.nb).get b1 = some m1 := h1
    have h2 : (h.ms.set .nil h.nb).get b2 = some m2 := h2
    rw [hmget] at h1 h2
    have old : ∀ b m p, h.ms.get b = some m → b ≠ h.nb → ups ρ h.nb ⟨w.heap.size, 0, 0, 0⟩ b = some p → ρ b = some p ∧ p.r < w.heap.size := by
      intro b m p hb hne hp
      rw [ups_ne _ _ hne] at hp
      obtain ⟨-, q, o, g2, -, g4, -⟩ := hi.mp.ent b m hb
      rw [hp] at g2
      obtain rfl := Option.some.inj g2
      exact ⟨hp, (Array.getElem?_eq_some_iff.1 g4).1⟩
    by_cases n1 : b1 = h.nb <;> by_cases n2 : b2 = h.nb
    · rw [n1, n2]
    · rw [if_neg n2] at h2
      subst n1
      rw [ups_same] at e1
      obtain rfl := (Option.some.inj e1).symm
      have := (old _ _ _ h2 n2 e2).2
      simp at er; omega
    · rw [if_neg n1] at h1
      subst n2
      rw [ups_same] at e2
      obtain rfl := (Option.some.inj e2).symm
      have := (old _ _ _ h1 n1 e1).2
      simp at er; omega
    · rw [if_neg n1] at h1
      rw [if_neg n2] at h2
      exact hi.mp.inj _ _ _ _ _ _ h1 h2 (old _ _ _ h1 n1 e1).1 (old _ _ _ h2 n2 e2).1 er
  · intro b p hp
    by_cases e0 : b = h.nb
    · subst e0; exact .inr ⟨hfree, Nat.le_refl _, Nat.lt_succ_self _⟩
    · rw [ups_ne _ _ e0] at hp; exact .inl hp
  · intro b B p hb hf hp
    exact .inr ⟨b, B, p, hb, hf, plc _ _ _ hb hp, rfl⟩
  · intro b m p hb hp
    have hb : (h.ms.set .nil h.nb).get b = some m := hb
    rw [hmget] at hb
    by_cases e0 : b = h.nb
    · subst e0
      rw [ups_same] at hp
      obtain rfl := (Option.some.inj hp).symm
      exact .inl (Nat.le_refl _)
    · rw [if_neg e0] at hb
      rw [ups_ne _ _ e0] at hp
      exact .inr ⟨b, m, p, hb, hp, rfl⟩

/-- A map's entries are others now. -/
theorem set_inv {b : Nat} {m m' : AV} {p : Pl} {o o' : Obj} (hi : Inv N0 ρ h w) (hg : h.ms.get b = some m) (hp : ρ b = some p) (hrow : w.heap[p.r]? = some o) (hno : ∀ cs e fz, o ≠ .cells cs e fz) (hn : N0 ≤ p.r) (hl : MR ρ p m' o') :
    Inv N0 ρ ⟨h.nb, h.bs, h.gs, h.ms.set m' b⟩ { w with heap := w.heap.setIfInBounds p.r o' } ∧ Tr ρ h w ρ ⟨h.nb, h.bs, h.gs, h.ms.set m' b⟩ { w with heap := w.heap.setIfInBounds p.r o' } := by
  obtain ⟨hs1, hs2⟩ := heap_set (o' := o') hrow
  have hmget : ∀ b2, (h.ms.set m' b).get b2 = if b2 = b then some m' else h.ms.get b2 := fun b2 => T.get_set _ _ _ _
  have hsome : ∀ b2 m2, (h.ms.set m' b).get b2 = some m2 → ∃ m3, h.ms.get b2 = some m3 := by
    intro b2 m2 h2
    rw [hmget] at h2
    by_cases e0 : b2 = b
    · subst e0; exact ⟨m, hg⟩
    · rw [if_neg e0] at h2; exact ⟨m2, h2⟩
  have hcell : ∀ b2 B2 p2, BR N0 ρ h w b2 B2 p2 → p2.r ≠ p.r := by
    intro b2 B2 p2 hB e0
    obtain ⟨cs, e, fz, g1, -⟩ := hB.obj
    rw [e0, hrow] at g1
    exact hno _ _ _ (Option.some.inj g1)
  refine ⟨⟨?_, hi.nb, hi.gnb, hi.gs, hi.als, hi.lim, hi.free, by simpa using hi.wsz, ⟨?_, ?_⟩, Base.st hi.jj fun r hr => hs2 r (by omega)⟩, ⟨Ext.refl ρ, Nat.le_refl _, fun _ _ e => .inl e, ?_, fun b B p h1 h2 h3 => .inr ⟨b, B, p, h1, h2, h3, rfl⟩, ?_, by simp, rfl, rfl, rfl⟩⟩
  · intro b2 B2 h2
    obtain ⟨p2, hp2, hB⟩ := hi.blk b2 B2 h2
    exact ⟨p2, hp2, hB.later (Ext.refl ρ) (hs2 _ (hcell _ _ _ hB)) (fun hrd => hrd)⟩
  · intro b2 m2 h2
    have h2 : (h.ms.set m' b).get b2 = some m2 := h2
    rw [hmget] at h2
    by_cases e0 : b2 = b
    · rw [if_pos e0] at h2
      obtain rfl := Option.some.inj h2
      subst e0
      exact ⟨(hi.mp.ent _ _ hg).1, p, o', hp, hn, hs1, hl⟩
    · rw [if_neg e0] at h2
      obtain ⟨g1, p2, o2, g2, g3, g4, g5⟩ := hi.mp.ent b2 m2 h2
      refine ⟨g1, p2, o2, g2, g3, ?_, g5⟩
      rw [hs2 _ fun er => e0 (hi.mp.inj _ _ _ _ _ _ h2 hg g2 hp er)]
      exact g4
  · intro b1 b2 m1 m2 p1 p2 h1 h2 e1 e2 er
    obtain ⟨m3, h3⟩ := hsome b1 m1 h1
    obtain ⟨m4, h4⟩ := hsome b2 m2 h2
    exact hi.mp.inj _ _ _ _ _ _ h3 h4 e1 e2 er
  · intro r hr hnb hm
    exact hs2 r (fun er => hm b m p hg hp er.symm)
  · intro b2 m2 p2 h2 hp2
    obtain ⟨m3, h3⟩ := hsome b2 m2 h2
    exact .inr ⟨b2, m3, p2, h3, hp2, rfl⟩

theorem mup_ok {t kt et : TypeId} {q : KQ} {d : TypeDesc} {k : Hp → Res} {i v : AV} {I V : Value} (hi : Inv N0 ρ h w) (ht : P.underlying t = some (.map kt et)) (hd : P.underlying kt = some d) (hq : KOk q d)
    (e : mup q h x i v k = r) (hr : r ≠ .fail) (hx : VR ρ x X) (hI : VR ρ i I) (hv : VR ρ v V) : ∃ h' w', k h' = r ∧ (Instr.mapUpdate t X I V).run P w = .ok () w' ∧ Inv N0 ρ h' w' ∧ Tr ρ h w ρ h' w' := by
  obtain ⟨b, rfl, h1⟩ := cMap_inv e hr
  obtain ⟨p0, hp0, rfl⟩ := hx
  cases hg : h.ms.get b with
  | none => rw [hg] at h1; exact absurd h1.symm hr
  | some m =>
    rw [hg] at h1
    have h1 : q i i (fun _ => upL q i v m fun m => k ⟨h.nb, h.bs, h.gs, h.ms.set m b⟩) = r := h1
    obtain ⟨hk, b', h2⟩ := hq.key h1 hr hI
    obtain ⟨-, p, o, g1, gn, g2, g3⟩ := hi.mp.ent b m hg
    obtain rfl : p = p0 := by rw [g1] at hp0; exact Option.some.inj hp0
    obtain ⟨es, c, rfl⟩ : ∃ es c, o = .map es c := by
      cases o <;> first
        | exact g3.elim
        | exact ⟨_, _, rfl⟩
        | skip
      obtain ⟨-, rfl⟩ := g3
      exact absurd h2.symm hr
    have g3 : ELR ρ m es.toList := g3
    have hgo := Go.MapKept.run_getObj_map (P := P) (w := w) g2
    have hc := run_checkKey (P := P) (w := w) hd hk false 9999
    obtain ⟨m', h3, h4⟩ := upL_inv hq hI hv hr m es.toList 0 _ g3 h2
    rcases h4 with ⟨j, V', k1, k2, k3⟩ | ⟨k1, k2⟩
    · have hf := run_findKey (P := P) (w := w) hd k1
      have hst : ((es[0 + j]?).map (·.key)).getD I = I := by simpa using k2
      have hks := run_keyThatStays (P := P) (w := w) hk
      have hso := Go.MapKept.run_setObj_map (P := P) (w := w) (.map (es.modify (0 + j) fun e => { e with key := I, val := V }) c) g2
      obtain ⟨i1, i2⟩ := set_inv (m' := m') (o' := .map (es.modify (0 + j) fun e => { e with key := I, val := V }) c) hi hg hp0 g2 (by simp) gn (by show ELR _ _ _; rw [Array.toList_modify, Nat.zero_add]; exact k3)
      refine ⟨_, _, h3, ?_, i1, i2⟩
      simp [Instr.mapUpdate, run_underlying ht, Result.andThen, hgo, hc, hf] at hst hso ⊢
      rw [hst, hks]
      simpa using hso
    · have hf := run_findKey (P := P) (w := w) hd k1
      have hso := Go.MapKept.run_setObj_map (P := P) (w := w) (.map (es.push { key := I, val := V, born := c }) (c + 1)) g2
      obtain ⟨i1, i2⟩ := set_inv (m' := m') (o' := .map (es.push { key := I, val := V, born := c }) (c + 1)) hi hg hp0 g2 (by simp) gn (by show ELR _ _ _; rw [Array.toList_push]; exact k2 c)
      refine ⟨_, _, h3, ?_, i1, i2⟩
      simp [Instr.mapUpdate, run_underlying ht, Result.andThen, hgo, hc, hf]
      exact hso
end
end Go.AM
