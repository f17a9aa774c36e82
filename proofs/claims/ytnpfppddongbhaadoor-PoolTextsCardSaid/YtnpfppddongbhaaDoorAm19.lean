/-
  The abstract machine, part 19: 'append' and 'copy'.
-/
import Derived.Test.YtnpfppddongbhaaDoorAm18
namespace Go.AM
open Go
set_option autoImplicit false

section
variable {P : Program} {N0 : Base} {ρ : Rho} {h : Hp} {w : World} {x y : AV} {X Y : Value} {r : Res}

theorem app_grow {t u ty e : TypeId} {d : TypeDesc} {i : TypeInfo} {z : Value} {base : Option Addr} {sLen sCap m : Nat} {olds news : List Value}
    (ht : P.underlying t = some (.slice e)) (hu : P.underlying u = some d) (hd : ∀ k, d ≠ .int k) (hi : P.info? e = some i) (hz : i.zero = some z)
    (hlen : ∀ w', (Builtin.lenOf Y).run P w' = .ok m w') (hold : ∀ w', w'.heap = w.heap → (Builtin.firstCells i.size sLen (.slice base sLen sCap)).run P w' = .ok olds.toArray w')
    (hnew : ∀ w', w'.heap = w.heap → (Builtin.firstCells i.size m Y).run P w' = .ok news.toArray w') (hg : sCap < sLen + m) (h63 : sLen + m ≤ 9223372036854775807) (hb : (sLen + m) * i.bytes ≤ 140737488355328) :
    (Builtin.append_ #[t, u] ty #[.slice base sLen sCap, Y]).run P w =
      .ok (.slice (some ⟨w.heap.size, 0, none⟩) (sLen + m) (grownCap w (sLen + m) sCap e))
        (w.drew.alloc (.cells (olds.toArray ++ news.toArray ++ Builtin.zeroCells z.cells (grownCap w (sLen + m) sCap e - (sLen + m))) e)) := by
  have hn : ¬ (sLen + m ≤ sCap) := by omega
  have h63' : ¬ (9223372036854775807 < ((sLen : Int) + (m : Int))) := by omega
  have h48' : ¬ (281474976710656 < Builtin.nextslicecap (sLen + m) sCap * i.bytes) := by
    have := growslice_fits (old := sCap) (by omega) hb; omega
  have hf := hnew w.drew rfl
  have hfo := hold w.drew rfl
  simp [Builtin.append_, run_underlying ht, run_underlying hu, sizeOf, typeInfo, zeroValue, hi, hz, hlen, hn, h63', h48', Question.forced, hf, hfo, newRow, grownCap]
  congr 2
  apply Array.ext'
  simp [List.append_assoc]

theorem app_room {t u ty e : TypeId} {d : TypeDesc} {base : Option Addr} {sLen sCap m : Nat} {news : List Value} {w' : World}
    (ht : P.underlying t = some (.slice e)) (hu : P.underlying u = some d) (hd : ∀ k, d ≠ .int k) (hok : okT P e = true)
    (hlen : ∀ w', (Builtin.lenOf Y).run P w' = .ok m w')
    (hnew : ∀ w', w'.heap = w.heap → (Builtin.firstCells (szOf P e) m Y).run P w' = .ok news.toArray w') (hroom : sLen + m ≤ sCap)
    (hst : (∃ a, base = some a ∧ (storeCells (a.add (sLen * szOf P e)) news).run P w = .ok () w') ∨ (base = none ∧ w' = w)) :
    (Builtin.append_ #[t, u] ty #[.slice base sLen sCap, Y]).run P w = .ok (.slice base (sLen + m) sCap) w' := by
  have hf := hnew w rfl
  obtain ⟨i, hi⟩ := okT_info hok
  rw [szOf_info hi] at hf hst
  rcases hst with ⟨a, rfl, hst⟩ | ⟨rfl, rfl⟩
  · simp [Builtin.append_, run_underlying ht, run_underlying hu, sizeOf, typeInfo, hi, hlen, hroom, hf, hst]
  · simp [Builtin.append_, run_underlying ht, run_underlying hu, sizeOf, typeInfo, hi, hlen, hroom, hf]

/-- What is known of the types of an 'append'. -/
structure AppT (P : Program) (t u e : TypeId) (d : TypeDesc) : Prop where
  ht : P.underlying t = some (.slice e)
  hu : P.underlying u = some d
  hd : ∀ k, d ≠ .int k
  hok : okT P e = true
  ones : ones (cells (zeroV P e)) = true
  hlen : len (cells (zeroV P e)) = szOf P e

/-- A new row. -/
theorem grown_ok {t u ty e : TypeId} {d : TypeDesc} {base : Option Addr} {sLen sCap m : Nat} {olds news : List Value} {l : AV} {k : AV → Hp → Res} (hi : Inv N0 ρ h w) (hT : AppT P t u e d)
    (hlen : ∀ w', (Builtin.lenOf Y).run P w' = .ok m w') (hold : ∀ w', w'.heap = w.heap → (Builtin.firstCells (szOf P e) sLen (.slice base sLen sCap)).run P w' = .ok olds.toArray w')
    (hnew : ∀ w', w'.heap = w.heap → (Builtin.firstCells (szOf P e) m Y).run P w' = .ok news.toArray w') (ho : olds.length = sLen * szOf P e) (hn : news.length = m * szOf P e)
    (hl : LR ρ l (olds ++ news)) (hg : sCap < sLen + m) (h63 : sLen + m ≤ 9223372036854775807) (hb : (sLen + m) * byOf P e ≤ 140737488355328)
    (ek : grown h (szOf P e) (sLen + m) l k = r) (hr : r ≠ .fail) : Does P N0 ρ h w (Builtin.append_ #[t, u] ty #[.slice base sLen sCap, Y]) k r := by
  obtain ⟨i, z, hinf, hz, hzl⟩ := zero_info (P := P) (ρ := ρ) (t := e) hT.ones
  have hzs := LR_len _ _ hzl
  rw [hT.hlen, Array.length_toList] at hzs
  obtain ⟨t', h1, h2, -⟩ := lay_inv l .e 0 ek hr
  obtain ⟨h3, h4⟩ := ifF_inv h1 hr
  rw [beq_iff] at h3
  have hll := LR_len l _ hl
  have hge := grownCap_ge w (sLen + m) sCap e
  have hsi := szOf_info hinf
  have hrun := app_grow (Y := Y) (ty := ty) hT.ht hT.hu hT.hd hinf hz hlen (by rw [← hsi]; exact hold) (by rw [← hsi]; exact hnew) hg h63 (by rw [← byOf_info hinf]; exact hb)
  obtain ⟨ρ', g1, g2, g3⟩ := row_ok (grownCap w (sLen + m) sCap e * szOf P e) hi hl (nu_mark (olds.toArray ++ news.toArray ++ Builtin.zeroCells z.cells (grownCap w (sLen + m) sCap e - (sLen + m))) e (0, 0)) (fun j _ => by simp) h2 (fun i V hV => by
    have hil := (List.getElem?_eq_some_iff.1 hV).1
    rw [Array.getElem?_append_left (by simpa using hil)]
    simpa using hV)
  rw [Nat.zero_add] at h4
  refine ⟨_, _, _, _, ρ', h4, hrun, ⟨_, grownCap w (sLen + m) sCap e, g1, rfl, hge, .inl ⟨rfl, Nat.zero_add _⟩, ?_⟩, g2, g3⟩
  show 0 + 0 + grownCap w (sLen + m) sCap e * szOf P e ≤ _
  simp only [Array.size_append, List.size_toArray, size_zeroCells, ho, hn, ← hzs, ← Nat.add_mul]
  have hcap : sLen + m + (grownCap w (sLen + m) sCap e - (sLen + m)) = grownCap w (sLen + m) sCap e := by omega
  rw [hcap]; omega

/-- A slice whose capacity is not known grows: in its place or in a new row: a new block either way. -/
theorem apd_any {t u ty e : TypeId} {d : TypeDesc} {b o n m c' lim' old : Nat} {B : Blk} {p : Pl} {olds news : List Value} {l df' : AV} {t' : T AV} {k : AV → Hp → Res} (hi : Inv N0 ρ h w) (hT : AppT P t u e d)
    (hb : h.bs.get b = some B) (hf : B.fr = true) (hp : ρ b = some p) (hfit : p.base + o + c' * szOf P e ≤ p.sz)
    (ho : olds.length = n * szOf P e) (hoc : ∀ j v, olds[j]? = some v → w.cell? ⟨p.r, p.base + o + j, none⟩ = some v)
    (hlen : ∀ w', (Builtin.lenOf Y).run P w' = .ok m w') (hS : Src P ρ w (szOf P e) m Y l news) (hone : ∀ V ∈ news, V.oneCell' = true)
    (h63 : n + m ≤ 9223372036854775807) (hby : (n + m) * byOf P e ≤ 140737488355328) (hlim : lim' = (n + m) * szOf P e)
    (hc : ∀ i, i < lim' → ∃ V, (olds ++ news)[i]? = some V ∧ VR ρ ((⟨true, B.g, lim', df', t'⟩ : Blk).at i) V)
    (hold : old = h.nb ∨ (old = (h.grp B.g).2 ∧ (h.grp B.g).1 = b ∧ readable h b B ∧ B.lim ≤ n * szOf P e ∧ o = 0))
    (ek : k (.sl h.nb 0 (n + m) (szOf P e) none) ⟨Nat.succ h.nb, h.bs.set ⟨true, B.g, lim', df', t'⟩ h.nb, h.gs.set (h.nb, old) B.g, h.ms⟩ = r) :
    Does P N0 ρ h w (Builtin.append_ #[t, u] ty #[.slice (some ⟨p.r, p.base + o, none⟩) n c', Y]) k r := by
  obtain ⟨i, z, hinf, hz, hzl⟩ := zero_info (P := P) (ρ := ρ) (t := e) hT.ones
  have hzs := LR_len _ _ hzl
  rw [hT.hlen, Array.length_toList] at hzs
  obtain ⟨p0, hp0, hB⟩ := hi.blk b B hb
  obtain rfl : p = p0 := by rw [hp] at hp0; exact Option.some.inj hp0
  have hplt := hB.lt
  have hsi := szOf_info hinf
  obtain ⟨cs, et, fz, q1, q2, q3, q4⟩ := hB.obj
  have hnl := hS.length
  have hsum : (n + m) * szOf P e = n * szOf P e + m * szOf P e := Nat.add_mul _ _ _
  have hocs : ∀ j v, olds[j]? = some v → cs[p.base + o + j]? = some v := fun j v hv => by
    have := hoc j v hv
    rwa [cell_of_row w p.r _ cs et fz q1] at this
  by_cases hroom : n + m ≤ c'
  · have hcm := Nat.mul_le_mul_right (szOf P e) hroom
    obtain ⟨w', cs', s1, s2, s3, s4⟩ := storeCells_run (P := P) p.r (p.base + o + n * szOf P e) news 0 cs w q1 (fun j hj => q3 hf j (by omega)) (by omega) hone
    have hrun := app_room (Y := Y) (ty := ty) (base := some ⟨p.r, p.base + o, none⟩) (w := w) (w' := w') hT.ht hT.hu hT.hd hT.hok hlen hS.run hroom (.inl ⟨_, rfl, by rw [addr_add]; exact s1⟩)
    have hall : ∀ (i : Nat) (V : Value), (olds ++ news)[i]? = some V → cs'[p.base + o + i]? = some V := by
      intro i V hV
      rw [s4]
      by_cases hil : i < n * szOf P e
      · rw [if_neg (by omega)]
        rw [List.getElem?_append_left (by omega)] at hV
        exact hocs i V hV
      · have hi2 := (List.getElem?_eq_some_iff.1 hV).1
        rw [List.length_append] at hi2
        rw [if_pos (by omega)]
        rw [List.getElem?_append_right (by omega), ho] at hV
        rw [show p.base + o + i - (p.base + o + n * szOf P e + 0) = i - n * szOf P e from by omega]; exact hV
    obtain ⟨i1, i2⟩ := grp_inv (p' := ⟨p.r, p.base + o, p.sz, c' * szOf P e⟩) (lim' := lim') (old := old) (df' := df') (t' := t') hi hb hf hp s2.row (by simp only; omega) (q3 hf) (by simp only; omega) (.inl rfl)
      (fun r _ hne => s2.other r hne) (by rw [s2.size]; exact Nat.le_refl _) s2.tape s2.os s2.output (by
        intro cs0 e0 fz0 h0
        rw [q1] at h0
        simp only [Option.some.injEq, Obj.cells.injEq] at h0
        obtain ⟨rfl, rfl, rfl⟩ := h0
        refine ⟨cs', s2.row, s3, fun hne i hil => ?_⟩
        rcases hold with h' | ⟨-, -, -, h', h''⟩
        · exact absurd h' hne
        · rw [s4, if_neg (by omega)]) (by
        rcases hold with h' | ⟨h1, h2, h3, h4, h5⟩
        · exact .inl h'
        · exact .inr ⟨h1, h2, h3, by omega, fun _ => by simp only; omega⟩) (fun i hil => by
        obtain ⟨V, v1, v2⟩ := hc i hil
        exact ⟨V, hall i V v1, v2⟩)
    exact ⟨_, _, _, _, _, ek, hrun, ⟨⟨p.r, p.base + o, p.sz, c' * szOf P e⟩, c', ups_same _ _ _, rfl, hroom, .inl ⟨rfl, Nat.zero_add _⟩, by simp only; omega⟩, i1, i2⟩
  · have hge := grownCap_ge w (n + m) c' e
    have hrun := app_grow (Y := Y) (ty := ty) (w := w) (base := some ⟨p.r, p.base + o, none⟩) (sLen := n) (sCap := c') (olds := olds) hT.ht hT.hu hT.hd hinf hz hlen (by
        intro w' hw
        refine run_firstCells_some w' _ n _ n c' olds (by rw [← hsi]; exact ho) (fun j v hv => ?_)
        rw [addr_add]
        have := hoc j v hv
        simpa [World.cell?, hw] using this) (by rw [← hsi]; exact hS.run) (by omega) h63 (by rw [← byOf_info hinf]; exact hby)
    generalize hC : (olds.toArray ++ news.toArray ++ Builtin.zeroCells z.cells (grownCap w (n + m) c' e - (n + m))) = C at hrun
    have hCs : C.size = grownCap w (n + m) c' e * szOf P e := by
      rw [← hC]
      simp only [Array.size_append, List.size_toArray, size_zeroCells, ho, hnl, ← hzs, ← Nat.add_mul]
      congr 1; omega
    have hmul := Nat.mul_le_mul_right (szOf P e) hge
    have hnu := nu_mark (w := w) C e (0, 0)
    have hall : ∀ (i : Nat) (V : Value), (olds ++ news)[i]? = some V → C[i]? = some V := by
      intro i V hV
      have hil := (List.getElem?_eq_some_iff.1 hV).1
      rw [← hC, Array.getElem?_append_left (by simpa using hil)]
      simpa using hV
    obtain ⟨i1, i2⟩ := grp_inv (p' := ⟨w.heap.size, 0, C.size, grownCap w (n + m) c' e * szOf P e⟩) (lim' := lim') (old := old) (df' := df') (t' := t') hi hb hf hp hnu.row rfl (fun j _ => by simp) (by simp only; omega) (.inr rfl)
      (fun r hr _ => hnu.other r hr) (by rw [hnu.size]; omega) hnu.tape hnu.os hnu.output (by
        intro cs0 e0 fz0 h0
        exact ⟨cs0, by rw [hnu.other _ hplt]; exact h0, rfl, fun _ _ _ => rfl⟩) (by
        rcases hold with h' | ⟨h1, h2, h3, h4, h5⟩
        · exact .inl h'
        · exact .inr ⟨h1, h2, h3, by omega, fun he => by simp only at he; omega⟩) (fun i hil => by
        obtain ⟨V, v1, v2⟩ := hc i hil
        exact ⟨V, by rw [Nat.zero_add]; exact hall i V v1, v2⟩)
    exact ⟨_, _, _, _, _, ek, hrun, ⟨⟨w.heap.size, 0, C.size, grownCap w (n + m) c' e * szOf P e⟩, grownCap w (n + m) c' e, ups_same _ _ _, rfl, hge, .inl ⟨rfl, Nat.zero_add _⟩, by simp only; omega⟩, i1, i2⟩
end
end Go.AM
