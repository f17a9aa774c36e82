/-
  The abstract machine, part 20: 'append' and 'copy', whole.
-/
import Derived.Test.YtnpfppddongbhaaDoorAm19
namespace Go.AM
open Go
set_option autoImplicit false

section
variable {P : Program} {N0 : Base} {ρ : Rho} {h : Hp} {w : World} {x y : AV} {X Y : Value} {r : Res}

theorem ifN_inv {newest b lim p fl nb : Nat} : ifN newest b lim p fl nb = nb ∨ (ifN newest b lim p fl nb = fl ∧ newest = b ∧ lim ≤ p) := by
  have e : ifN newest b lim p fl nb = Bool.rec (motive := fun _ => Nat) nb (Bool.rec (motive := fun _ => Nat) nb fl (Nat.ble lim p)) (Nat.beq newest b) := rfl
  rw [e, recB, recB]
  simp only [beq_iff, ble_iff]
  by_cases h1 : newest = b
  · by_cases h2 : lim ≤ p
    · rw [if_pos h1, if_pos h2]; exact .inr ⟨rfl, h1, h2⟩
    · rw [if_pos h1, if_neg h2]; exact .inl rfl
  · rw [if_neg h1]; exact .inl rfl

theorem apd_ok {t u ty e : TypeId} {d : TypeDesc} {k : AV → Hp → Res} (hi : Inv N0 ρ h w) (hT : AppT P t u e d) (ek : apd h (szOf P e) (byOf P e) x y k = r) (hr : r ≠ .fail) (hx : VR ρ x X) (hy : VR ρ y Y) :
    Does P N0 ρ h w (Builtin.append_ #[t, u] ty #[X, Y]) k r := by
  obtain ⟨m, l, news, h1, hS, hlen⟩ := src_ok (P := P) hi ek hr hy
  have hnl := hS.length
  have hll := LR_len l _ hS.rel
  cases x with
  | nils =>
    have hx : X = .slice none 0 0 := hx
    subst hx
    rcases ifB_inv h1 with ⟨h2, h3⟩ | ⟨h2, h3⟩
    · rw [beq_iff] at h2
      subst h2
      refine Does.here hi h3 (V := .slice none 0 0) rfl ?_
      exact app_room (base := none) (w' := w) (news := news) hT.ht hT.hu hT.hd hT.hok hlen hS.run (Nat.le_refl _) (.inr ⟨rfl, rfl⟩)
    · have hm : m ≠ 0 := fun h => by rw [← beq_iff, h2] at h; cases h
      obtain ⟨h4, h5⟩ := ifF_inv h3 hr
      obtain ⟨h6, h7⟩ := ifF_inv h5 hr
      rw [ble_iff] at h4 h6
      have hg := grown_ok (ty := ty) (base := none) (sLen := 0) (sCap := 0) (olds := []) (news := news) (l := l) hi hT hlen (fun w' _ => by simp [Builtin.firstCells]) hS.run (by simp) hnl (by simpa using hS.rel) (by omega) (by omega) (by rw [Nat.zero_add]; exact h4) (by rw [Nat.zero_add]; exact h7) hr
      exact hg
  | esl =>
    obtain ⟨a, c', rfl⟩ := hx
    obtain ⟨h2, h3⟩ := ifF_inv h1 hr
    rw [beq_iff] at h2
    subst h2
    refine Does.here hi h3 (V := .slice (some a) 0 c') ⟨a, c', rfl⟩ ?_
    have hn : news = [] := List.eq_nil_of_length_eq_zero (by rw [hnl, Nat.zero_mul])
    subst hn
    exact app_room (w' := w) hT.ht hT.hu hT.hd hT.hok hlen hS.run (Nat.zero_le _) (.inl ⟨a, rfl, rfl⟩)
  | sl b o n z' c =>
    obtain ⟨h2, h3⟩ := ifF_inv h1 hr
    rw [beq_iff] at h2
    subst h2
    obtain ⟨p, c', hp, rfl, hnc, hcc, hfit⟩ := hx
    rcases ifB_inv h3 with ⟨h4, h5⟩ | ⟨h4, h5⟩
    · rw [beq_iff] at h4
      subst h4
      refine Does.here hi h5 (V := .slice (some ⟨p.r, p.base + o, none⟩) n c') ⟨p, c', hp, rfl, hnc, hcc, hfit⟩ ?_
      have hn : news = [] := List.eq_nil_of_length_eq_zero (by rw [hnl, Nat.zero_mul])
      subst hn
      exact app_room (w' := w) hT.ht hT.hu hT.hd hT.hok hlen hS.run hnc (.inl ⟨_, rfl, rfl⟩)
    · obtain ⟨h6, h7⟩ := ifF_inv h5 hr
      obtain ⟨h8, h9⟩ := ifF_inv h7 hr
      rw [ble_iff] at h6 h8
      have h6 : (n + m) * byOf P e ≤ 140737488355328 := h6
      have h8 : n + m ≤ 9223372036854775807 := h8
      have hsum : (n + m) * szOf P e = n * szOf P e + m * szOf P e := Nat.add_mul _ _ _
      cases c with
      | none =>
        obtain ⟨B, hb, hrd, h10⟩ := gb_inv h9 hr
        obtain ⟨hf, h11⟩ := ifF_inv h10 hr
        obtain ⟨p0, hp0, hB⟩ := hi.blk b B hb
        obtain rfl : p = p0 := by rw [hp] at hp0; exact Option.some.inj hp0
        rcases ifB_inv h11 with ⟨h12, h13⟩ | ⟨h12, h13⟩
        · rw [beq_iff] at h12
          subst h12
          obtain ⟨t', h14, h15, h16⟩ := lay_inv l _ _ h13 hr
          obtain ⟨h17, h18⟩ := ifF_inv h14 hr
          obtain ⟨h19, h20⟩ := ifF_inv h18 hr
          rw [beq_iff] at h17
          rw [ble_iff] at h19
          have h17 : n * szOf P e + len l = (n + m) * szOf P e := h17
          have h19 : n * szOf P e ≤ B.lim := h19
          have h15 : ∀ j, t'.get j = if n * szOf P e ≤ j ∧ j < n * szOf P e + len l then some (nth l (j - n * szOf P e)) else B.cs.get j := h15
          obtain ⟨cs, et, fz, q1, q2, q3, q4⟩ := hB.obj
          have hbf := hB.fit
          have holen : ((cs.toList.drop p.base).take (n * szOf P e)).length = n * szOf P e := by
            rw [List.length_take, List.length_drop, Array.length_toList]; omega
          have hog : ∀ j, j < n * szOf P e → ((cs.toList.drop p.base).take (n * szOf P e))[j]? = cs[p.base + j]? := by
            intro j hj
            rw [List.getElem?_take_of_lt hj, List.getElem?_drop, Array.getElem?_toList]
          refine apd_any (olds := (cs.toList.drop p.base).take (n * szOf P e)) (news := news) (l := l) hi hT hb hf hp hfit holen (fun j v hv => ?_) hlen hS (h16 ρ _ hS.rel) h8 h6 h17 ?_ ?_ h20
          · have hj := (List.getElem?_eq_some_iff.1 hv).1
            rw [holen] at hj
            rw [hog j hj] at hv
            rw [cell_of_row w p.r _ cs et fz q1, Nat.add_zero]; exact hv
          · intro i hil
            have hil : i < n * szOf P e + len l := hil
            rw [at_eq, if_pos hil]
            simp only [h15 i]
            by_cases hin : i < n * szOf P e
            · obtain ⟨V, v1, v2⟩ := q4 hrd i (by omega)
              rw [at_eq, if_pos (by omega)] at v2
              rw [if_neg (by omega), List.getElem?_append_left (by omega), hog i hin]
              exact ⟨V, v1, v2⟩
            · rw [if_pos (by omega), List.getElem?_append_right (by omega), holen]
              obtain ⟨V, hV⟩ : ∃ V, news[i - n * szOf P e]? = some V := ⟨news[i - n * szOf P e]'(by omega), by simp⟩
              exact ⟨V, hV, LR_get l _ hS.rel _ _ hV⟩
          · rcases ifN_inv (newest := (h.grp B.g).1) (b := b) (lim := B.lim) (p := n * szOf P e) (fl := (h.grp B.g).2) (nb := h.nb) with e1 | ⟨e1, e2, e3⟩
            · exact .inl e1
            · exact .inr ⟨e1, e2, hrd, e3, rfl⟩
        · obtain ⟨old, Vs, g1, g2, g3, g4, g5⟩ := rds_ok hB hrd _ _ h13 hr
          have happ := LR_app _ _ _ _ g3 hS.rel
          obtain ⟨t', h14, h15, h16⟩ := lay_inv _ _ _ g1 hr
          obtain ⟨h17, h18⟩ := ifF_inv h14 hr
          rw [beq_iff] at h17
          have hone := h16 ρ _ happ
          refine apd_any (olds := Vs) (news := news) (l := l) hi hT hb hf hp hfit g2 (fun j v hv => ?_) hlen hS (fun V hV => hone V (by simp [hV])) h8 h6 h17 ?_ (.inl rfl) h18
          · have := g5 j v hv
            rw [Nat.add_assoc]; exact this
          · intro i hil
            rw [at_eq, if_pos hil]
            simp only [h15 i]
            rw [if_pos ⟨Nat.zero_le _, hil⟩]
            have hil2 : i < (Vs ++ news).length := by
              have := LR_len _ _ happ
              rw [← this]; have hil : i < 0 + len (app old l) := hil; omega
            exact ⟨(Vs ++ news)[i], by simp, LR_get _ _ happ _ _ (by simp)⟩
      | some c =>
        obtain rfl : c = c' := by rcases hcc with ⟨h, -⟩ | h; (cases h); exact Option.some.inj h
        rcases ifB_inv h9 with ⟨h10, h11⟩ | ⟨h10, h11⟩
        · rw [ble_iff] at h10
          have h10 : n + m ≤ c := h10
          obtain ⟨B, gs, hb, hf, hn, hgs, h12⟩ := wb_inv h11 hr
          obtain ⟨h13, h14⟩ := ifF_inv h12 hr
          rw [ble_iff] at h13
          have h13 : o + (n + m) * szOf P e ≤ B.lim := h13
          obtain ⟨t', h15, h16, h17⟩ := lay_inv l _ _ h14 hr
          obtain ⟨h18, h19⟩ := ifF_inv h15 hr
          obtain ⟨w', s1, i1, i2⟩ := storeN_ok (P := P) (o := o + n * szOf P e) (n := m * szOf P e) hi hb hf hp hn hgs hS.rel (by omega) (by omega) h16 (h17 ρ _ hS.rel)
          have hrun := app_room (Y := Y) (ty := ty) (base := some ⟨p.r, p.base + o, none⟩) (sLen := n) (sCap := c) hT.ht hT.hu hT.hd hT.hok hlen hS.run h10 (.inl ⟨_, rfl, by rw [addr_add, Nat.add_assoc]; exact s1⟩)
          exact ⟨_, _, _, _, ρ, h19, hrun, ⟨p, c, hp, rfl, h10, .inr rfl, hfit⟩, i1, i2⟩
        · have h10 : ¬ n + m ≤ c := fun h => by rw [← ble_iff] at h; exact absurd (h10.symm.trans h) (by simp)
          obtain ⟨B, hb, hrd, h12⟩ := gb_inv h11 hr
          obtain ⟨p0, hp0, hB⟩ := hi.blk b B hb
          obtain rfl : p = p0 := by rw [hp] at hp0; exact Option.some.inj hp0
          obtain ⟨old, Vs, g1, g2, g3, g4, g5⟩ := rds_ok hB hrd _ _ h12 hr
          exact grown_ok (ty := ty) (base := some ⟨p.r, p.base + o, none⟩) (sLen := n) (sCap := c) (olds := Vs) (news := news) hi hT hlen (fun w' hw => by
            refine run_firstCells_some w' _ n _ n c Vs g2 (fun j v hv => ?_)
            rw [addr_add, Nat.add_assoc]
            have := g5 j v hv
            simpa [World.cell?, hw] using this) hS.run g2 hnl (LR_app _ _ _ _ g3 hS.rel) (by omega) h8 h6 g1 hr
  | _ => exact absurd h1.symm hr
end
end Go.AM
