/-
  The abstract machine, part 7: when its memory stands for the model's; what reading, writing and making memory keep of that.
-/
import Derived.Test.YtnpfppddongbhaaDoorAm6
namespace Go.AM
open Go
set_option autoImplicit false

/-- What of the world stays as it is while the machine runs: the blocks below n; one of them, where the program has such a variable, is the cell of internal/bytealg.MaxLen, an int. -/
structure Base where
  n : Nat
  g : Option Nat
instance : Coe Base Nat := ⟨Base.n⟩
def Base.J (N0 : Base) (w : World) : Prop := ∀ g, N0.g = some g → g < N0.n ∧ ∃ m, w.cell? ⟨g, 0, none⟩ = some (.int .i64 m)
theorem Base.st {N0 : Base} {w w' : World} (h : N0.J w) (hw : ∀ r, r < N0.n → w'.heap[r]? = w.heap[r]?) : N0.J w' := by
  intro g hg
  obtain ⟨h1, m, h2⟩ := h g hg
  refine ⟨h1, m, ?_⟩
  unfold World.cell? at h2 ⊢
  rw [show w'.heap[(⟨g, 0, none⟩ : Addr).block]? = w.heap[g]? from hw g h1]
  exact h2
/-- The base names the program's variable. -/
def Base.fits (N0 : Base) (P : Program) : Prop := N0.g = P.globalNamed "internal/bytealg.MaxLen"

def readable (h : Hp) (b : Nat) (B : Blk) : Prop := B.fr = true → (h.grp B.g).2 ≤ b

/-- Block b of the machine stands for the row of cells at p. -/
structure BR (N0 : Base) (ρ : Rho) (h : Hp) (w : World) (b : Nat) (B : Blk) (p : Pl) : Prop where
  obj : ∃ cs e fz, w.heap[p.r]? = some (.cells cs e fz) ∧ cs.size = p.sz ∧ (B.fr = true → ∀ j, j < p.sz → ¬ (fz.1 ≤ j ∧ j < fz.2)) ∧
    (readable h b B → ∀ i, i < B.lim → ∃ V, cs[p.base + i]? = some V ∧ VR ρ (B.at i) V)
  fit : p.base + B.lim ≤ p.sz
  side : (B.fr = true → N0 ≤ p.r) ∧ (B.fr = false → p.r < N0)

/-- A list of entries, each a key and a value, stands for a map's entries. -/
def ELR (ρ : Rho) : AV → List MapEntry → Prop
  | .nil, l => l = []
  | .cons (.cons k v) t, l => ∃ e l', l = e :: l' ∧ VR ρ k e.key ∧ VR ρ v e.val ∧ ELR ρ t l'
  | _, _ => False

/-- What an entry of the machine's stands for: a map's entries; an iterator over a text. -/
def MR (ρ : Rho) (p : Pl) (m : AV) : Obj → Prop
  | .map es _ => ELR ρ m es.toList
  | .stringIter s pos => p.base = 0 ∧ m = itr s.data.size (packB s.data.toList) pos
  | _ => False

/-- The machine's maps stand for the world's: each one's own; all of them made by this call. -/
structure MInv (N0 : Base) (ρ : Rho) (ms : T AV) (nb : Nat) (w : World) : Prop where
  ent : ∀ b m, ms.get b = some m → b < nb ∧ ∃ p o, ρ b = some p ∧ N0 ≤ p.r ∧ w.heap[p.r]? = some o ∧ MR ρ p m o
  inj : ∀ b1 b2 m1 m2 p1 p2, ms.get b1 = some m1 → ms.get b2 = some m2 → ρ b1 = some p1 → ρ b2 = some p2 → p1.r = p2.r → b1 = b2

theorem ELR.ext {ρ ρ' : Rho} (he : Ext ρ ρ') : ∀ (x : AV) (l : List MapEntry), ELR ρ x l → ELR ρ' x l := by
  intro x
  induction x with
  | nil => intro l h; exact h
  | cons a t _ iht =>
    intro l h
    cases a with
    | cons k v =>
      obtain ⟨e, l', rfl, h1, h2, h3⟩ := h
      exact ⟨e, l', rfl, h1.ext he, h2.ext he, iht l' h3⟩
    | _ => exact h.elim
  | _ => intro l h; exact h.elim

theorem MR.cells {ρ : Rho} {p : Pl} {m : AV} {o : Obj} (h : MR ρ p m o) : ∀ cs e fz, o ≠ .cells cs e fz := by
  intro cs e fz ho
  rw [ho] at h
  exact h.elim
theorem MR.ext {ρ ρ' : Rho} (he : Ext ρ ρ') {p : Pl} {m : AV} {o : Obj} (h : MR ρ p m o) : MR ρ' p m o := by
  cases o <;> first
    | exact h.elim
    | skip
  · rename_i es c
    exact ELR.ext he m es.toList h
  · exact h

theorem MInv.later {N0 : Base} {ρ ρ' : Rho} {ms : T AV} {nb nb' : Nat} {w w' : World} (h : MInv N0 ρ ms nb w) (he : Ext ρ ρ') (hn : nb ≤ nb') (hw : ∀ (r : Nat) (o : Obj), w.heap[r]? = some o → (∀ cs e fz, o ≠ .cells cs e fz) → w'.heap[r]? = w.heap[r]?) : MInv N0 ρ' ms nb' w' where
  ent := fun b m hb => by
    obtain ⟨h1, p, o, h2, h3, h4, h5⟩ := h.ent b m hb
    exact ⟨Nat.lt_of_lt_of_le h1 hn, p, o, he _ _ h2, h3, by rw [hw _ _ h4 h5.cells]; exact h4, h5.ext he⟩
  inj := fun b1 b2 m1 m2 p1 p2 h1 h2 e1 e2 er => by
    obtain ⟨-, q1, -, k1, -⟩ := h.ent b1 m1 h1
    obtain ⟨-, q2, -, k2, -⟩ := h.ent b2 m2 h2
    have f1 := he _ _ k1
    have f2 := he _ _ k2
    rw [e1] at f1
    rw [e2] at f2
    obtain rfl := Option.some.inj f1
    obtain rfl := Option.some.inj f2
    exact h.inj b1 b2 m1 m2 _ _ h1 h2 k1 k2 er

/-- The machine's memory stands for the world's: what it made lies from block N0 on. -/
structure Inv (N0 : Base) (ρ : Rho) (h : Hp) (w : World) : Prop where
  blk : ∀ b B, h.bs.get b = some B → ∃ p, ρ b = some p ∧ BR N0 ρ h w b B p
  nb : ∀ b B, h.bs.get b = some B → b < h.nb
  gnb : ∀ b B, h.bs.get b = some B → B.fr = true → B.g < h.nb ∧ b ≤ (h.grp B.g).1
  gs : ∀ g q, h.gs.get g = some q → g < h.nb ∧ q.1 < h.nb ∧ q.2 ≤ q.1
  als : ∀ b1 b2 B1 B2 p1 p2, h.bs.get b1 = some B1 → h.bs.get b2 = some B2 → B1.fr = true → B2.fr = true → ρ b1 = some p1 → ρ b2 = some p2 → p1.r = p2.r → B1.g = B2.g
  lim : ∀ b1 b2 B1 B2 p1 p2, h.bs.get b1 = some B1 → h.bs.get b2 = some B2 → B1.fr = true → B2.fr = true → ρ b1 = some p1 → ρ b2 = some p2 → B1.g = B2.g →
    readable h b1 B1 → readable h b2 B2 → b1 ≤ b2 → B1.lim ≤ B2.lim ∧ (p1.r = p2.r → p1.base = p2.base)
  free : ∀ i, h.nb ≤ i → ρ i = none
  wsz : N0 ≤ w.heap.size
  mp : MInv N0 ρ h.ms h.nb w
  jj : N0.J w

/-- From one state to a later one: what was placed stays; what is new is new; whatever did not belong to the machine's own blocks is as it was. -/
structure Tr (ρ : Rho) (h : Hp) (w : World) (ρ' : Rho) (h' : Hp) (w' : World) : Prop where
  ext : Ext ρ ρ'
  nb : h.nb ≤ h'.nb
  new : ∀ b p, ρ' b = some p → ρ b = some p ∨ (ρ b = none ∧ h.nb ≤ b ∧ b < h'.nb)
  frame : ∀ r, r < w.heap.size → (∀ b B p, h.bs.get b = some B → B.fr = true → ρ b = some p → p.r ≠ r) → (∀ b m p, h.ms.get b = some m → ρ b = some p → p.r ≠ r) → w'.heap[r]? = w.heap[r]?
  img : ∀ b B p, h'.bs.get b = some B → B.fr = true → ρ' b = some p → w.heap.size ≤ p.r ∨ ∃ b0 B0 p0, h.bs.get b0 = some B0 ∧ B0.fr = true ∧ ρ b0 = some p0 ∧ p0.r = p.r
  mimg : ∀ b m p, h'.ms.get b = some m → ρ' b = some p → w.heap.size ≤ p.r ∨ ∃ b0 m0 p0, h.ms.get b0 = some m0 ∧ ρ b0 = some p0 ∧ p0.r = p.r
  size : w.heap.size ≤ w'.heap.size
  tape : w'.tape = w.tape
  os : w'.os = w.os
  output : w'.output = w.output

/-- Maps that stay as they are. -/
theorem MInv.same {N0 : Base} {ρ ρ' : Rho} {ms : T AV} {nb : Nat} {w : World} (h : MInv N0 ρ ms nb w) (he : Ext ρ ρ') : ∀ b m p, ms.get b = some m → ρ' b = some p → w.heap.size ≤ p.r ∨ ∃ b0 m0 p0, ms.get b0 = some m0 ∧ ρ b0 = some p0 ∧ p0.r = p.r := by
  intro b m p hb hp
  obtain ⟨-, q, -, k1, -⟩ := h.ent b m hb
  have f1 := he _ _ k1
  rw [hp] at f1
  obtain rfl := Option.some.inj f1
  exact .inr ⟨b, m, _, hb, k1, rfl⟩

theorem Tr.refl (ρ : Rho) (h : Hp) (w : World) : Tr ρ h w ρ h w :=
  ⟨Ext.refl ρ, Nat.le_refl _, fun _ _ e => .inl e, fun _ _ _ _ => rfl, fun b B p h1 h2 h3 => .inr ⟨b, B, p, h1, h2, h3, rfl⟩, fun b m p h1 h3 => .inr ⟨b, m, p, h1, h3, rfl⟩, Nat.le_refl _, rfl, rfl, rfl⟩

theorem Tr.trans {ρ1 ρ2 ρ3 : Rho} {h1 h2 h3 : Hp} {w1 w2 w3 : World} (a : Tr ρ1 h1 w1 ρ2 h2 w2) (b : Tr ρ2 h2 w2 ρ3 h3 w3) : Tr ρ1 h1 w1 ρ3 h3 w3 where
  ext := a.ext.trans b.ext
  nb := Nat.le_trans a.nb b.nb
  new := fun x p e => by
    have ha := a.nb
    have hb := b.nb
    rcases b.new x p e with h | ⟨h, h', h''⟩
    · rcases a.new x p h with h | ⟨h, h', h''⟩
      · exact .inl h
      · exact .inr ⟨h, h', by omega⟩
    · cases hx : ρ1 x with
      | none => exact .inr ⟨rfl, by omega, h''⟩
      | some q => rw [a.ext x q hx] at h; cases h
  frame := fun r hr hn hm => by
    rw [b.frame r (Nat.lt_of_lt_of_le hr a.size) ?_ ?_, a.frame r hr hn hm]
    · intro x B p hx hB hp e
      rcases a.img x B p hx hB hp with h | ⟨b0, B0, p0, g1, g2, g3, g4⟩
      · omega
      · exact hn b0 B0 p0 g1 g2 g3 (g4.trans e)
    · intro x m p hx hp e
      rcases a.mimg x m p hx hp with h | ⟨b0, m0, p0, g1, g3, g4⟩
      · omega
      · exact hm b0 m0 p0 g1 g3 (g4.trans e)
  img := fun x B p hx hB hp => by
    rcases b.img x B p hx hB hp with h | ⟨b0, B0, p0, g1, g2, g3, g4⟩
    · exact .inl (Nat.le_trans a.size h)
    · rcases a.img b0 B0 p0 g1 g2 g3 with h | ⟨b1, B1, p1, k1, k2, k3, k4⟩
      · exact .inl (g4 ▸ h)
      · exact .inr ⟨b1, B1, p1, k1, k2, k3, k4.trans g4⟩
  mimg := fun x m p hx hp => by
    rcases b.mimg x m p hx hp with h | ⟨b0, m0, p0, g1, g3, g4⟩
    · exact .inl (Nat.le_trans a.size h)
    · rcases a.mimg b0 m0 p0 g1 g3 with h | ⟨b1, m1, p1, k1, k3, k4⟩
      · exact .inl (g4 ▸ h)
      · exact .inr ⟨b1, m1, p1, k1, k3, k4.trans g4⟩
  size := Nat.le_trans a.size b.size
  tape := b.tape.trans a.tape
  os := b.os.trans a.os
  output := b.output.trans a.output

/-! ### reading -/
theorem at_eq (B : Blk) (i : Nat) : B.at i = if i < B.lim then (match B.cs.get i with | some v => v | none => nth B.df (i % len B.df)) else .unk := by
  have h : B.at i = Bool.rec (motive := fun _ => AV) .unk (Option.rec (motive := fun _ => AV) (nth B.df (Nat.mod i (len B.df))) (fun v => v) (B.cs.get i)) (Nat.blt i B.lim) := rfl
  rw [h, recB]; simp only [blt_iff]
  by_cases hi : i < B.lim
  · rw [if_pos hi, if_pos hi]; cases B.cs.get i <;> rfl
  · rw [if_neg hi, if_neg hi]
theorem at_lt {B : Blk} {i : Nat} (h : B.at i ≠ .unk) : i < B.lim := by
  rw [at_eq] at h
  by_cases hi : i < B.lim
  · exact hi
  · rw [if_neg hi] at h; exact absurd rfl h

theorem gb_inv {h : Hp} {b : Nat} {k : Blk → Res} {r : Res} (e : gb h b k = r) (hr : r ≠ .fail) : ∃ B, h.bs.get b = some B ∧ readable h b B ∧ k B = r := by
  unfold gb at e
  cases hb : h.bs.get b with
  | none => rw [hb] at e; exact absurd e.symm hr
  | some B =>
    rw [hb] at e
    refine ⟨B, rfl, ?_⟩
    have e : ifB B.fr (ifB (Nat.ble (h.grp B.g).2 b) (k B) .fail) (k B) = r := e
    rcases ifB_inv e with ⟨h1, h2⟩ | ⟨h1, h2⟩
    · obtain ⟨h3, h4⟩ := ifF_inv h2 hr
      rw [ble_iff] at h3
      exact ⟨fun _ => h3, h4⟩
    · exact ⟨fun h => (by rw [h1] at h; cases h), h2⟩

theorem wb_inv {h : Hp} {b : Nat} {k : Blk → T (Nat × Nat) → Res} {r : Res} (e : wb h b k = r) (hr : r ≠ .fail) :
    ∃ B gs, h.bs.get b = some B ∧ B.fr = true ∧ (h.grp B.g).1 = b ∧ ((gs = h.gs ∧ (h.grp B.g).2 = b) ∨ gs = h.gs.set (b, b) B.g) ∧ k B gs = r := by
  unfold wb at e
  cases hb : h.bs.get b with
  | none => rw [hb] at e; exact absurd e.symm hr
  | some B =>
    rw [hb] at e
    have e : ifB B.fr (ifB (Nat.beq (h.grp B.g).1 b) (ifB (Nat.beq (h.grp B.g).2 b) (k B h.gs) (k B (h.gs.set (b, b) B.g))) .fail) .fail = r := e
    obtain ⟨h1, h2⟩ := ifF_inv e hr
    obtain ⟨h3, h4⟩ := ifF_inv h2 hr
    rw [beq_iff] at h3
    rcases ifB_inv h4 with ⟨h5, h6⟩ | ⟨h5, h6⟩
    · rw [beq_iff] at h5; exact ⟨B, _, rfl, h1, h3, .inl ⟨rfl, h5⟩, h6⟩
    · exact ⟨B, _, rfl, h1, h3, .inr rfl, h6⟩

section
variable {P : Program} {N0 : Base} {ρ : Rho} {h : Hp} {w : World} {x y : AV} {X Y : Value} {r : Res}

theorem cell_at {b : Nat} {B : Blk} {p : Pl} (hB : BR N0 ρ h w b B p) (hrd : readable h b B) {i : Nat} (hi : i < B.lim) :
    ∃ V, w.cell? ⟨p.r, p.base + i, none⟩ = some V ∧ VR ρ (B.at i) V := by
  obtain ⟨cs, e, fz, hw, -, -, hc⟩ := hB.obj
  obtain ⟨V, h1, h2⟩ := hc hrd i hi
  exact ⟨V, by rw [cell_of_row w p.r _ cs e fz hw]; exact h1, h2⟩

theorem ld1_ok {t : TypeId} {k : AV → Res} (hi : Inv N0 ρ h w) (ht : ag (P.underlying t) = false) (hok : okT P t = true) (e : ld1 h x k = r) (hr : r ≠ .fail) (hx : VR ρ x X) :
    ∃ v V, k v = r ∧ VR ρ v V ∧ (Instr.loadAt t X).run P w = .ok V w := by
  obtain ⟨b, o, rfl, h1⟩ := cP_inv e hr
  obtain ⟨B, hb, hrd, h2⟩ := gb_inv h1 hr
  obtain ⟨h3, h4⟩ := cK_inv h2 hr
  obtain ⟨p, hp, rfl⟩ := hx
  obtain ⟨p', hp', hB⟩ := hi.blk b B hb
  obtain rfl : p = p' := by rw [hp] at hp'; exact Option.some.inj hp'
  obtain ⟨V, hc, hv⟩ := cell_at hB hrd (at_lt h3)
  refine ⟨_, V, h4, hv, ?_⟩
  unfold okT at hok
  cases hu : P.underlying t with
  | none => rw [hu] at hok; cases hok
  | some d =>
    rw [hu] at ht
    have hna : (isAgg t).run P w = .ok false w := by
      unfold isAgg
      rw [Sem.run_bind, run_und hu]
      cases d <;> first | rfl | simp [ag] at ht
    simp only [Instr.loadAt, Instr.sureAddr, loadVar, pure_bind]
    rw [Sem.run_bind, hna]
    simp [hc]
end
end Go.AM
