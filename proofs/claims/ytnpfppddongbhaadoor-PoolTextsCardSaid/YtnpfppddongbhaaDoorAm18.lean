/-
  The abstract machine, part 18: a text turned into bytes; a new block of an old one's group.
-/
import Derived.Test.YtnpfppddongbhaaDoorAm17
import Derived.Laws.IdiomStrings
namespace Go.AM
open Go
set_option autoImplicit false

section
variable {P : Program} {N0 : Base} {ρ : Rho} {h : Hp} {w : World} {x y : AV} {X Y : Value} {r : Res}

theorem nu_mark (cs : Array Value) (e : TypeId) (fz : Nat × Nat) : Nu w (w.drew.alloc (.cells cs e fz)) cs e fz := by
  have hh : (w.drew.alloc (.cells cs e fz)).heap = w.heap.push (.cells cs e fz) := rfl
  exact ⟨by rw [hh]; simp, fun r hr => by rw [hh, Array.getElem?_push, if_neg (by omega)], by rw [hh]; simp, rfl, rfl, rfl⟩

theorem s2b_ok {s d u : TypeId} {k : AV → Hp → Res} (hi : Inv N0 ρ h w) (hs : P.underlying s = some .string) (hd : P.underlying d = some (.slice u)) (hu : P.underlying u = some (.int .u8))
    (e : s2b h x k = r) (hr : r ≠ .fail) (hx : VR ρ x X) : Does P N0 ρ h w (convert s d X) k r := by
  obtain ⟨n, a, rfl, h1⟩ := cS_inv e hr
  obtain ⟨st, rfl, rfl, rfl⟩ := hx
  obtain ⟨t', h2, h3, -⟩ := lay_inv _ _ _ h1 hr
  have hrel : LR ρ (bytesL st.data.size (packB st.data.toList)) (st.data.toList.map fun b => Value.int .u8 b.toNat) := by simpa using bytesL_rel (ρ := ρ) st.data.toList
  have hlen := LR_len _ _ hrel
  simp only [List.length_map, Array.length_toList] at hlen
  obtain ⟨ρ', g1, g2, g3⟩ := row_ok (grownCap w st.size 0 u * 1) hi hrel (nu_mark (bytesRow st (grownCap w st.size 0 u)) u ((bytesRow st (grownCap w st.size 0 u)).size, (bytesRow st (grownCap w st.size 0 u)).size + 1)) (fun j hj => by simp only; omega) h3 (by
    intro i V hV
    have hi : i < st.data.size := by
      have := (List.getElem?_eq_some_iff.1 hV).1
      simpa using this
    rw [bytesRow_at st _ i hi]
    simp only [List.getElem?_map, Array.getElem?_toList, Array.getElem?_eq_getElem hi, Option.map_some] at hV
    exact hV)
  rw [hlen] at g2 g3
  have hge := grownCap_ge w st.size 0 u
  refine ⟨_, _, _, _, ρ', h2, run_bytes_of_string w s d u st hs hd hu, ⟨_, grownCap w st.size 0 u, g1, rfl, hge, .inl ⟨rfl, Nat.zero_add _⟩, ?_⟩, g2, g3⟩
  show 0 + 0 + grownCap w st.size 0 u * 1 ≤ (bytesRow st (grownCap w st.size 0 u)).size
  have hsz : st.data.size = st.size := rfl
  unfold bytesRow
  rw [Array.size_append, Array.size_map, Array.size_replicate]
  omega

/-- A new block of block b's group: the memory it lies in may be b's own row, written behind b's cells, or a new one. -/
theorem grp_inv {b : Nat} {B : Blk} {p p' : Pl} {lim' old : Nat} {df' : AV} {t' : T AV} {w' : World} {cs' : Array Value} {et : TypeId} {fz : Nat × Nat}
    (hi : Inv N0 ρ h w) (hb : h.bs.get b = some B) (hf : B.fr = true) (hp : ρ b = some p)
    (hrow : w'.heap[p'.r]? = some (.cells cs' et fz)) (hsz : cs'.size = p'.sz) (hz : ∀ j, j < p'.sz → ¬ (fz.1 ≤ j ∧ j < fz.2)) (hlim : p'.base + lim' ≤ p'.sz)
    (hwhere : p'.r = p.r ∨ p'.r = w.heap.size)
    (hother : ∀ r, r < w.heap.size → r ≠ p.r → w'.heap[r]? = w.heap[r]?) (hsize : w.heap.size ≤ w'.heap.size) (htape : w'.tape = w.tape) (hos : w'.os = w.os) (hout : w'.output = w.output)
    (hkeep : ∀ cs e fz, w.heap[p.r]? = some (.cells cs e fz) → ∃ cs2, w'.heap[p.r]? = some (.cells cs2 e fz) ∧ cs2.size = cs.size ∧ (old ≠ h.nb → ∀ i, i < p.base + B.lim → cs2[i]? = cs[i]?))
    (hold : old = h.nb ∨ (old = (h.grp B.g).2 ∧ (h.grp B.g).1 = b ∧ readable h b B ∧ B.lim ≤ lim' ∧ (p'.r = p.r → p'.base = p.base)))
    (hc : ∀ i, i < lim' → ∃ V, cs'[p'.base + i]? = some V ∧ VR ρ ((⟨true, B.g, lim', df', t'⟩ : Blk).at i) V) :
    Inv N0 (ups ρ h.nb p') ⟨Nat.succ h.nb, h.bs.set ⟨true, B.g, lim', df', t'⟩ h.nb, h.gs.set (h.nb, old) B.g, h.ms⟩ w' ∧
    Tr ρ h w (ups ρ h.nb p') ⟨Nat.succ h.nb, h.bs.set ⟨true, B.g, lim', df', t'⟩ h.nb, h.gs.set (h.nb, old) B.g, h.ms⟩ w' := by
  have hfree : ρ h.nb = none := hi.free _ (Nat.le_refl _)
  have hext := ups_ext p' hfree
  obtain ⟨p0, hp0, hB⟩ := hi.blk b B hb
  obtain rfl : p = p0 := by rw [hp] at hp0; exact Option.some.inj hp0
  have hplt := hB.lt
  have hbnb := hi.nb b B hb
  have hgb := hi.gnb b B hb hf
  generalize hH : (⟨Nat.succ h.nb, h.bs.set ⟨true, B.g, lim', df', t'⟩ h.nb, h.gs.set (h.nb, old) B.g, h.ms⟩ : Hp) = H
  have hget : ∀ b2, H.bs.get b2 = if b2 = h.nb then some ⟨true, B.g, lim', df', t'⟩ else h.bs.get b2 := fun b2 => by subst hH; simp [T.get_set]
  have hgrp : ∀ g, H.grp g = if g = B.g then (h.nb, old) else h.grp g := fun g => by
    subst hH
    simp only [Hp.grp, T.get_set]
    by_cases e : g = B.g
    · rw [if_pos e, if_pos e]
    · rw [if_neg e, if_neg e]
  have hHnb : H.nb = h.nb + 1 := by subst hH; rfl
  have hHms : H.ms = h.ms := by subst hH; rfl
  have hmp : MInv N0 (ups ρ h.nb p') H.ms H.nb w' := by
    rw [hHms, hHnb]
    refine hi.mp.later hext (Nat.le_succ _) fun r o hr ho => hother r (Array.getElem?_eq_some_iff.1 hr).1 fun e => ?_
    obtain ⟨cs, e', fz, g1, -⟩ := hB.obj
    rw [e, g1] at hr
    exact ho _ _ _ (Option.some.inj hr).symm
  have hHgs : ∀ g, H.gs.get g = if g = B.g then some (h.nb, old) else h.gs.get g := fun g => by subst hH; simp [T.get_set]
  have look : ∀ b2 B2, H.bs.get b2 = some B2 → (b2 = h.nb ∧ B2 = ⟨true, B.g, lim', df', t'⟩) ∨ (b2 ≠ h.nb ∧ h.bs.get b2 = some B2 ∧ b2 < h.nb) := by
    intro b2 B2 h2
    rw [hget] at h2
    by_cases e0 : b2 = h.nb
    · rw [if_pos e0] at h2; exact .inl ⟨e0, (Option.some.inj h2).symm⟩
    · rw [if_neg e0] at h2; exact .inr ⟨e0, h2, hi.nb _ _ h2⟩
  have plc : ∀ b2 B2 p2, h.bs.get b2 = some B2 → ups ρ h.nb p' b2 = some p2 → b2 ≠ h.nb → ρ b2 = some p2 ∧ BR N0 ρ h w b2 B2 p2 := by
    intro b2 B2 p2 h2 hp2 hne
    rw [ups_ne _ _ hne] at hp2
    obtain ⟨p3, hp3, hB⟩ := hi.blk b2 B2 h2
    obtain rfl : p2 = p3 := by rw [hp2] at hp3; exact Option.some.inj hp3
    exact ⟨hp2, hB⟩
  have grpLe : (h.grp B.g).2 ≤ (h.grp B.g).1 := by
    cases hq : h.gs.get B.g with
    | none => simp [Hp.grp, hq]
    | some q => have := (hi.gs _ _ hq).2.2; simpa [Hp.grp, hq] using this
  have hnewlt : (h.grp B.g).1 < h.nb := by
    cases hq : h.gs.get B.g with
    | none => simp [Hp.grp, hq]; exact hgb.1
    | some q => have := (hi.gs _ _ hq).2.1; simpa [Hp.grp, hq] using this
  -- what may be read still of the old blocks could be read before
  have rd : ∀ b2 B2, h.bs.get b2 = some B2 → b2 < h.nb → readable H b2 B2 → readable h b2 B2 ∧ (B2.fr = true → B2.g = B.g → old ≠ h.nb) := by
    intro b2 B2 h2 hlt hrd
    refine ⟨fun hf2 => ?_, fun hf2 hg he => ?_⟩
    · have := hrd hf2
      rw [hgrp] at this
      by_cases e : B2.g = B.g
      · rw [if_pos e] at this
        rcases hold with h' | ⟨h', -⟩
        · rw [h'] at this; simp only at this; omega
        · rw [e]; rw [h'] at this; exact this
      · rwa [if_neg e] at this
    · have := hrd hf2
      rw [hgrp, if_pos hg] at this
      simp only at this
      omega
  -- an old block still stands for its row
  have keep : ∀ b2 B2 p2, h.bs.get b2 = some B2 → ρ b2 = some p2 → BR N0 ρ h w b2 B2 p2 → b2 < h.nb → BR N0 (ups ρ h.nb p') H w' b2 B2 p2 := by
    intro b2 B2 p2 h2 hp2 hB2 hlt
    by_cases er : p2.r = p.r
    · have hf2 : B2.fr = true := by
        cases hff : B2.fr with
        | true => rfl
        | false => have := hB2.side.2 hff; have := hB.side.1 hf; omega
      have hg2 := hi.als b2 b B2 B p2 p h2 hb hf2 hf hp2 hp er
      obtain ⟨cs, e, fz2, g1, g2, g3, g4⟩ := hB2.obj
      rw [er] at g1
      obtain ⟨cs2, k1, k2, k3⟩ := hkeep cs e fz2 g1
      refine ⟨⟨cs2, e, fz2, by rw [er]; exact k1, by omega, g3, fun hrd i hilt => ?_⟩, hB2.fit, hB2.side⟩
      obtain ⟨hrd', hne⟩ := rd b2 B2 h2 hlt hrd
      have hne := hne hf2 hg2
      obtain ⟨V, v1, v2⟩ := g4 hrd' i hilt
      rcases hold with h' | ⟨h', hnew, hrb, hll, -⟩
      · exact absurd h' hne
      · have hle : b2 ≤ b := by
          have := (hi.gnb b2 B2 h2 hf2).2
          rw [hg2, hnew] at this; exact this
        have hl := hi.lim b2 b B2 B p2 p h2 hb hf2 hf hp2 hp hg2 hrd' hrb hle
        have hbase := hl.2 er
        exact ⟨V, by rw [k3 hne _ (by omega)]; exact v1, v2.ext hext⟩
    · exact hB2.later hext (hother _ hB2.lt er) (fun hrd => (rd b2 B2 h2 hlt hrd).1)
  refine ⟨⟨?_, ?_, ?_, ?_, ?_, ?_, ?_, by have := hi.wsz; omega, hmp, Base.st hi.jj fun r hr => hother r (by have := hi.wsz; omega) fun e => by have := hB.side.1 hf; omega⟩, ⟨hext, by rw [hHnb]; exact Nat.le_succ _, ?_, fun r hr hn _ => hother r hr (fun e => hn b B p hb hf hp e.symm), ?_, by rw [hHms]; exact hi.mp.same hext, hsize, htape, hos, hout⟩⟩
  · intro b2 B2 h2
    rcases look b2 B2 h2 with ⟨rfl, rfl⟩ | ⟨hne, h2, hlt⟩
    · refine ⟨_, ups_same _ _ _, ⟨cs', et, fz, hrow, hsz, fun _ => hz, fun _ i hlt => ?_⟩, hlim, fun _ => ?_, fun h => by cases h⟩
      · obtain ⟨V, k1, k2⟩ := hc i hlt
        exact ⟨V, k1, k2.ext hext⟩
      · have := hB.side.1 hf
        have := hi.wsz
        rcases hwhere with e | e <;> omega
    · obtain ⟨p2, hp2, hB2⟩ := hi.blk b2 B2 h2
      exact ⟨p2, by rw [ups_ne _ _ hne]; exact hp2, keep b2 B2 p2 h2 hp2 hB2 hlt⟩
  · intro b2 B2 h2
    rw [hHnb]
    rcases look b2 B2 h2 with ⟨rfl, rfl⟩ | ⟨hne, h2, hlt⟩
    · exact Nat.lt_succ_self _
    · exact Nat.lt_succ_of_lt hlt
  · intro b2 B2 h2 hf2
    rw [hHnb, hgrp]
    rcases look b2 B2 h2 with ⟨rfl, rfl⟩ | ⟨hne, h2, hlt⟩
    · refine ⟨Nat.lt_succ_of_lt hgb.1, ?_⟩
      rw [if_pos rfl]; exact Nat.le_refl _
    · have := hi.gnb b2 B2 h2 hf2
      refine ⟨Nat.lt_succ_of_lt this.1, ?_⟩
      by_cases e : B2.g = B.g
      · rw [if_pos e]; exact Nat.le_of_lt hlt
      · rw [if_neg e]; exact this.2
  · intro g q hq
    rw [hHgs] at hq
    rw [hHnb]
    by_cases e : g = B.g
    · rw [if_pos e] at hq
      obtain rfl := Option.some.inj hq
      refine ⟨by have := hgb.1; omega, Nat.lt_succ_self _, ?_⟩
      rcases hold with h' | ⟨h', -⟩
      · rw [h']; exact Nat.le_refl _
      · rw [h']; show (h.grp B.g).2 ≤ h.nb; omega
    · rw [if_neg e] at hq
      have := hi.gs g q hq
      exact ⟨Nat.lt_succ_of_lt this.1, Nat.lt_succ_of_lt this.2.1, this.2.2⟩
  · intro b1 b2 B1 B2 p1 p2 h1 h2 f1 f2 e1 e2 er
    rcases look b1 B1 h1 with ⟨rfl, rfl⟩ | ⟨n1, k1, l1⟩ <;> rcases look b2 B2 h2 with ⟨rfl, rfl⟩ | ⟨n2, k2, l2⟩
    · rfl
    · rw [ups_same] at e1
      obtain rfl := (Option.some.inj e1).symm
      have hB2 := plc b2 B2 p2 k2 e2 n2
      rcases hwhere with hw | hw
      · exact (hi.als b2 b B2 B p2 p k2 hb f2 hf hB2.1 hp (by rw [← er, hw])).symm
      · have := hB2.2.lt; omega
    · rw [ups_same] at e2
      obtain rfl := (Option.some.inj e2).symm
      have hB1 := plc b1 B1 p1 k1 e1 n1
      rcases hwhere with hw | hw
      · exact hi.als b1 b B1 B p1 p k1 hb f1 hf hB1.1 hp (by rw [er, hw])
      · have := hB1.2.lt; omega
    · exact hi.als b1 b2 B1 B2 p1 p2 k1 k2 f1 f2 (plc b1 B1 p1 k1 e1 n1).1 (plc b2 B2 p2 k2 e2 n2).1 er
  · intro b1 b2 B1 B2 p1 p2 h1 h2 f1 f2 e1 e2 eg r1 r2 hle
    rcases look b1 B1 h1 with ⟨rfl, rfl⟩ | ⟨n1, k1, l1⟩ <;> rcases look b2 B2 h2 with ⟨rfl, rfl⟩ | ⟨n2, k2, l2⟩
    · rw [e1] at e2
      obtain rfl := Option.some.inj e2
      exact ⟨Nat.le_refl _, fun _ => rfl⟩
    · omega
    · rw [ups_same] at e2
      obtain rfl := (Option.some.inj e2).symm
      have hB1 := plc b1 B1 p1 k1 e1 n1
      obtain ⟨hr1, hne⟩ := rd b1 B1 k1 l1 r1
      have hne := hne f1 eg
      rcases hold with h' | ⟨h', hnew, hrb, hll, hbase⟩
      · exact absurd h' hne
      · have hle2 : b1 ≤ b := by
          have := (hi.gnb b1 B1 k1 f1).2
          rw [show B1.g = B.g from eg, hnew] at this; exact this
        have hl := hi.lim b1 b B1 B p1 p k1 hb f1 hf hB1.1 hp eg hr1 hrb hle2
        refine ⟨Nat.le_trans hl.1 hll, fun er => ?_⟩
        rcases hwhere with hw | hw
        · rw [hl.2 (by rw [er, hw]), hbase hw]
        · have := hB1.2.lt; omega
    · exact hi.lim b1 b2 B1 B2 p1 p2 k1 k2 f1 f2 (plc b1 B1 p1 k1 e1 n1).1 (plc b2 B2 p2 k2 e2 n2).1 eg (rd b1 B1 k1 l1 r1).1 (rd b2 B2 k2 l2 r2).1 hle
  · intro i hle
    rw [hHnb] at hle
    rw [ups_ne _ _ (by omega)]
    exact hi.free i (by omega)
  · intro b2 p2 hp2
    rw [hHnb]
    by_cases e0 : b2 = h.nb
    · subst e0; exact .inr ⟨hfree, Nat.le_refl _, Nat.lt_succ_self _⟩
    · rw [ups_ne _ _ e0] at hp2; exact .inl hp2
  · intro b2 B2 p2 h2 hf2 hp2
    rcases look b2 B2 h2 with ⟨rfl, rfl⟩ | ⟨hne, k2, hlt⟩
    · rw [ups_same] at hp2
      obtain rfl := (Option.some.inj hp2).symm
      rcases hwhere with hw | hw
      · exact .inr ⟨b, B, p, hb, hf, hp, hw.symm⟩
      · exact .inl (by omega)
    · exact .inr ⟨b2, B2, p2, k2, hf2, (plc b2 B2 p2 k2 hp2 hne).1, rfl⟩
end
end Go.AM
