/-
  The abstract machine, part 10: stores; loads and stores of aggregates; slices that are made.
-/
import Derived.Test.YtnpfppddongbhaaDoorAm9
namespace Go.AM
open Go
set_option autoImplicit false

section
variable {P : Program} {N0 : Base} {ρ : Rho} {h : Hp} {w : World} {x y : AV} {X Y : Value} {r : Res}

theorem okT_und {t : TypeId} (h : okT P t = true) : ∃ d, P.underlying t = some d := by
  unfold okT at h
  cases hu : P.underlying t with
  | none => rw [hu] at h; cases h
  | some d => exact ⟨d, rfl⟩
theorem okT_info {t : TypeId} (h : okT P t = true) : ∃ i, P.info? t = some i := by
  obtain ⟨d, hd⟩ := okT_und h
  unfold Program.underlying at hd
  cases hi : P.info? t with
  | none => rw [hi] at hd; cases hd
  | some i => exact ⟨i, rfl⟩
theorem sizeOf_run {t : TypeId} (h : okT P t = true) (w : World) : (sizeOf t).run P w = .ok (szOf P t) w := by
  obtain ⟨i, hi⟩ := okT_info h
  simp [sizeOf, typeInfo, szOf, hi]
theorem isAgg_run {t : TypeId} (h : okT P t = true) (w : World) : (isAgg t).run P w = .ok (agT P t) w := by
  obtain ⟨d, hd⟩ := okT_und h
  unfold isAgg agT
  rw [Sem.run_bind, run_und hd, hd]
  cases d <;> rfl

theorem st1_ok {t : TypeId} {k : Hp → Res} (hi : Inv N0 ρ h w) (hok : okT P t = true) (hsz : szOf P t = 1) (e : st1 h x y k = r) (hr : r ≠ .fail) (hx : VR ρ x X) (hy : VR ρ y Y) :
    ∃ h' w', k h' = r ∧ (Instr.storeAt t X Y).run P w = .ok () w' ∧ Inv N0 ρ h' w' ∧ Tr ρ h w ρ h' w' := by
  obtain ⟨b, o, rfl, h1⟩ := cP_inv e hr
  obtain ⟨B, gs, hb, hf, hn, hgs, h2⟩ := wb_inv h1 hr
  obtain ⟨h3, h4⟩ := ifF_inv h2 hr
  obtain ⟨h5, h6⟩ := ifF_inv h4 hr
  rw [blt_iff] at h5
  obtain ⟨p, hp, rfl⟩ := hx
  obtain ⟨p', hp', hB⟩ := hi.blk b B hb
  obtain rfl : p = p' := by rw [hp] at hp'; exact Option.some.inj hp'
  obtain ⟨cs, et, fz, g1, g2, g3, g4⟩ := hB.obj
  have hfit := hB.fit
  have hone := one_cell hy h3
  obtain ⟨s1, s2⟩ := store_run (P := P) p.r (p.base + o) Y g1 (g3 hf _ (by omega)) (by omega) hone
  have hrd : readable h b B := fun _ => by
    have : (h.grp B.g).2 ≤ (h.grp B.g).1 := by
      cases hq : h.gs.get B.g with
      | none => simp [Hp.grp, hq]
      | some q => have := (hi.gs _ _ hq).2.2; simpa [Hp.grp, hq] using this
    omega
  obtain ⟨i1, i2⟩ := write_inv (t := T.set y B.cs o) hi hb hf hp hn hgs s2 (by simpa using g2) (g3 hf) (by
    intro i hlt
    obtain ⟨V, k1, k2⟩ := g4 hrd i hlt
    rw [at_eq] at k2 ⊢
    rw [if_pos hlt] at k2
    show ∃ V, (cs.setIfInBounds (p.base + o) Y)[p.base + i]? = some V ∧ VR ρ (if i < B.lim then (match (T.set y B.cs o).get i with | some v => v | none => nth B.df (i % len B.df)) else .unk) V
    rw [if_pos hlt, T.get_set]
    by_cases ei : i = o
    · subst ei
      exact ⟨Y, by simp [show p.base + i < cs.size from by omega], by rw [if_pos rfl]; exact hy⟩
    · exact ⟨V, by rw [Array.getElem?_setIfInBounds_ne (by omega)]; exact k1, by rw [if_neg ei]; exact k2⟩)
  refine ⟨_, _, h6, ?_, i1, i2⟩
  have hcells := cells_one hy h3
  simp only [Instr.storeAt, Instr.sureAddr, storeVar, pure_bind]
  rw [Sem.run_bind, sizeOf_run hok]
  simp only [Result.andThen_ok, hcells, hsz]
  simp [storeCells, s1, Addr.add]

theorem storeN_ok {b o n : Nat} {B : Blk} {gs : T (Nat × Nat)} {t' : T AV} {l : AV} {Vs : List Value} {p : Pl} (hi : Inv N0 ρ h w) (hb : h.bs.get b = some B) (hf : B.fr = true) (hp : ρ b = some p) (hn : (h.grp B.g).1 = b)
    (hgs : (gs = h.gs ∧ (h.grp B.g).2 = b) ∨ gs = h.gs.set (b, b) B.g) (hl : LR ρ l Vs) (hlen : len l = n) (hfit : o + n ≤ B.lim)
    (ht : ∀ j, t'.get j = if o ≤ j ∧ j < o + len l then some (nth l (j - o)) else B.cs.get j) (h1 : ∀ V ∈ Vs, V.oneCell' = true) :
    ∃ w', (storeCells ⟨p.r, p.base + o, none⟩ Vs).run P w = .ok () w' ∧ Inv N0 ρ (putB h b B t' gs) w' ∧ Tr ρ h w ρ (putB h b B t' gs) w' := by
  obtain ⟨p', hp', hB⟩ := hi.blk b B hb
  obtain rfl : p = p' := by rw [hp] at hp'; exact Option.some.inj hp'
  obtain ⟨cs, et, fz, g1, g2, g3, g4⟩ := hB.obj
  have hfit' := hB.fit
  have hVl := LR_len l Vs hl
  obtain ⟨w', cs', s1, s2, s3, s4⟩ := storeCells_run (P := P) p.r (p.base + o) Vs 0 cs w g1 (fun j hj => g3 hf j (by omega)) (by omega) h1
  have hrd : readable h b B := fun _ => by
    have : (h.grp B.g).2 ≤ (h.grp B.g).1 := by
      cases hq : h.gs.get B.g with
      | none => simp [Hp.grp, hq]
      | some q => have := (hi.gs _ _ hq).2.2; simpa [Hp.grp, hq] using this
    omega
  obtain ⟨i1, i2⟩ := write_inv (t := t') hi hb hf hp hn hgs s2 (by omega) (g3 hf) (by
    intro i hlt
    obtain ⟨V, k1, k2⟩ := g4 hrd i hlt
    rw [at_eq, if_pos hlt] at k2
    rw [at_eq]
    show ∃ V, cs'[p.base + i]? = some V ∧ VR ρ (if i < B.lim then (match t'.get i with | some v => v | none => nth B.df (i % len B.df)) else .unk) V
    rw [if_pos hlt, ht i, s4]
    by_cases ei : o ≤ i ∧ i < o + len l
    · rw [if_pos ei, if_pos (by omega)]
      obtain ⟨U, hU⟩ : ∃ U, Vs[i - o]? = some U := ⟨Vs[i - o]'(by omega), by simp⟩
      exact ⟨U, by rw [show p.base + i - (p.base + o + 0) = i - o from by omega]; exact hU, LR_get l Vs hl _ _ hU⟩
    · rw [if_neg ei, if_neg (by omega)]
      exact ⟨V, k1, k2⟩)
  exact ⟨w', s1, i1, i2⟩

theorem stN_ok {t : TypeId} {k : Hp → Res} (hi : Inv N0 ρ h w) (hok : okT P t = true) (e : stN h (szOf P t) x y k = r) (hr : r ≠ .fail) (hx : VR ρ x X) (hy : VR ρ y Y) :
    ∃ h' w', k h' = r ∧ (Instr.storeAt t X Y).run P w = .ok () w' ∧ Inv N0 ρ h' w' ∧ Tr ρ h w ρ h' w' := by
  obtain ⟨b, o, rfl, h1⟩ := cP_inv e hr
  obtain ⟨l, rfl, h2⟩ := cA_inv h1 hr
  obtain ⟨h3, h4⟩ := ifF_inv h2 hr
  rw [beq_iff] at h3
  obtain ⟨B, gs, hb, hf, hn, hgs, h5⟩ := wb_inv h4 hr
  obtain ⟨h6, h7⟩ := ifF_inv h5 hr
  rw [ble_iff] at h6
  obtain ⟨t', h8, h9, h10⟩ := lay_inv l _ _ h7 hr
  obtain ⟨p, hp, rfl⟩ := hx
  obtain ⟨Vs, rfl, hl⟩ := hy
  obtain ⟨w', s1, i1, i2⟩ := storeN_ok (P := P) hi hb hf hp hn hgs hl h3 h6 h9 (h10 ρ _ hl)
  refine ⟨_, w', h8, ?_, i1, i2⟩
  have hVl := LR_len l _ hl
  simp only [Instr.storeAt, Instr.sureAddr, storeVar, pure_bind]
  rw [Sem.run_bind, sizeOf_run hok]
  have hs : Vs.size = szOf P t := by rw [← h3, hVl]; simp
  simp only [Result.andThen_ok, Value.cells, hs]
  simpa using s1

theorem rds_ok {b : Nat} {B : Blk} {p : Pl} (hB : BR N0 ρ h w b B p) (hrd : readable h b B) : ∀ (n o : Nat) {k : AV → Res}, rds B n o k = r → r ≠ .fail →
    ∃ l Vs, k l = r ∧ Vs.length = n ∧ LR ρ l Vs ∧ o + n ≤ max B.lim o ∧ ∀ i V, Vs[i]? = some V → w.cell? ⟨p.r, p.base + (o + i), none⟩ = some V := by
  intro n
  induction n with
  | zero => intro o k e hr; exact ⟨.nil, [], e, rfl, rfl, by omega, fun i V h => by simp at h⟩
  | succ n ih =>
    intro o k e hr
    have e : cK (B.at o) (fun v => rds B n (o + 1) fun t => k (.cons v t)) = r := e
    obtain ⟨h1, h2⟩ := cK_inv e hr
    have hlt := at_lt h1
    obtain ⟨V, c1, c2⟩ := cell_at hB hrd hlt
    obtain ⟨l, Vs, g1, g2, g3, g4, g5⟩ := ih (o + 1) h2 hr
    refine ⟨_, V :: Vs, g1, by simp [g2], ⟨V, Vs, rfl, c2, g3⟩, by omega, fun i U hU => ?_⟩
    cases i with
    | zero => simp at hU; subst hU; simpa using c1
    | succ i => have := g5 i U (by simpa using hU); rw [show o + 1 + i = o + (i + 1) from by omega] at this; exact this

theorem addr_add (g o n : Nat) : (⟨g, o, none⟩ : Addr).add n = ⟨g, o + n, none⟩ := by unfold Addr.add; split <;> simp_all

theorem ldN_ok {t : TypeId} {k : AV → Res} (hi : Inv N0 ρ h w) (ht : agT P t = true) (hok : okT P t = true) (e : ldN h (szOf P t) x k = r) (hr : r ≠ .fail) (hx : VR ρ x X) :
    ∃ v V, k v = r ∧ VR ρ v V ∧ (Instr.loadAt t X).run P w = .ok V w := by
  obtain ⟨b, o, rfl, h1⟩ := cP_inv e hr
  obtain ⟨B, hb, hrd, h2⟩ := gb_inv h1 hr
  obtain ⟨p, hp, rfl⟩ := hx
  obtain ⟨p', hp', hB⟩ := hi.blk b B hb
  obtain rfl : p = p' := by rw [hp] at hp'; exact Option.some.inj hp'
  obtain ⟨l, Vs, g1, g2, g3, -, g5⟩ := rds_ok hB hrd _ _ h2 hr
  refine ⟨_, .agg Vs.toArray, g1, ⟨_, rfl, by simpa using g3⟩, ?_⟩
  have hl := run_loadCells_list (P := P) w ⟨p.r, p.base + o, none⟩ Vs (fun j v hv => by rw [addr_add, Nat.add_assoc]; exact g5 j v hv)
  rw [g2] at hl
  simp only [Instr.loadAt, Instr.sureAddr, loadVar, pure_bind]
  rw [Sem.run_bind, isAgg_run hok, ht]
  simp only [Result.andThen_ok, if_true]
  rw [Sem.run_bind, sizeOf_run hok]
  simp [hl]
end
end Go.AM
