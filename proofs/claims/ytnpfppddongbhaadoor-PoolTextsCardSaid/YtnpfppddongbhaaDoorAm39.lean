/-
  The abstract machine, part 39: arguments that are slices of numbers: opened, laid in its memory, read again.
-/
import Derived.Test.YtnpfppddongbhaaDoorAm38
import Derived.ChangeSlices
import Derived.OpenShut
namespace Go.AM
open Go
set_option autoImplicit false

/-- V is a slice of numbers of kind k that reads as the list l. -/
def ArgS (k : IntKind) (w : World) (V : Value) (l : List Int) : Prop :=
  (V = .slice none 0 0 ∧ l = []) ∨ ∃ (a : Addr) (len cap : Nat) (zs : List Int), V = .slice (some a) len cap ∧ len ≤ cap ∧ cap ≤ maxLen ∧ zs.length = cap ∧ l = zs.take len ∧
    (∀ i, i < zs.length → w.cell? (a.add i) = some (.int k (zs.getD i 0))) ∧ ∀ n ∈ zs, (Lit.int k n).wf = true

theorem ArgS.wf {k : IntKind} {w : World} {V : Value} {l : List Int} (h : ArgS k w V l) : ∀ n ∈ l, (Lit.int k n).wf = true := by
  rcases h with ⟨-, rfl⟩ | ⟨a, len, cap, zs, -, -, -, -, rfl, -, h⟩
  · intro n hn; cases hn
  · exact fun n hn => h n (List.mem_of_mem_take hn)

section
variable {H : Type} {enc : TypeId × Value → H} {P : Program} {w : World}
open Go.ChangeShapes in
theorem open_arg {t e : TypeId} {k : IntKind} {v : Value} {d : DataW H} {p : List MemPlace} (ht : P.underlying t = some (.slice e)) (he : P.underlying e = some (.int k)) (hc : P.cellsOf e = 1)
    (hone : v.cells.toList = [v]) (h : DataW.Trod enc P w 0 (fun _ => true) true t v d p) :
    ∃ l, ArgS k w v l ∧ ∀ (w' : World) (sp : Nat → Bool), (∀ r, r < w.heap.size → w'.heap[r]? = w.heap[r]?) → (∀ q ∈ p, sp q.block = true) → DataW.Trod enc P w' 0 sp true t v d p := by
  obtain ⟨fuel, hf⟩ := h
  rcases open_ints ht he hc hf with ⟨hcs, hx⟩ | ⟨a, len, cap, zs, hcs, hb, hl, hm, hz, hx, hcell, hwf⟩
  · rw [hone] at hcs
    obtain rfl : v = .slice none 0 0 := by simpa using hcs
    obtain ⟨rfl, rfl⟩ : d = .nil ∧ p = [] := by simpa using hx
    exact ⟨[], .inl ⟨rfl, rfl⟩, fun w' sp _ _ => ⟨1, by simp [DataW.trod, Value.cells, ht]⟩⟩
  · rw [hone] at hcs
    obtain rfl : v = .slice (some a) len cap := by simpa using hcs
    obtain ⟨rfl, rfl⟩ : d = .slice (lits k (zs.take len)) (lits k (zs.drop len)) ∧ p = MemPlace.row a zs.length := by simpa using hx
    have hz' : zs.length = cap := by simpa using hz
    refine ⟨_, .inr ⟨a, len, cap, zs, rfl, hl, hm, hz', rfl, hcell, hwf⟩, fun w' sp hw hsp => ⟨2, ?_⟩⟩
    have hlt : ∀ i, i < zs.length → a.block < w.heap.size := by
      intro i hi
      have := hcell i hi
      unfold World.cell? at this
      rw [block_add] at this
      cases hr : w.heap[a.block]? with
      | none => rw [hr] at this; cases this
      | some o => exact (Array.getElem?_eq_some_iff.1 hr).1
    have hcell' : ∀ i, i < zs.length → w'.cell? (a.add i) = some (.int k (zs.getD i 0)) := by
      intro i hi
      have h1 := hcell i hi
      unfold World.cell? at h1 ⊢
      rw [block_add] at h1 ⊢
      rw [hw _ (hlt i hi)]
      exact h1
    have hzz : zs.length = if sp a.block then cap else len := by
      by_cases hc0 : zs.length = 0
      · split <;> omega
      · have : sp a.block = true := by
          have := hsp (.cell a.block a.off) (MemPlace.mem_row.2 ⟨0, by omega, by simp⟩)
          exact this
        rw [this]; simpa using hz'
    have := shut_ints (enc := enc) (w := w') (base := 0) (spare := sp) (held := true) 0 ht he hc (Nat.zero_le _) hl hm hzz hcell' hwf
    rw [hone]
    exact this
end

/-- Memory that holds arguments alone. -/
structure Args (g : Option Nat) (ρ : Rho) (h : Hp) (w : World) : Prop where
  inv : Inv (b0 w g) ρ h w
  fr : ∀ b B, h.bs.get b = some B → B.fr = false
  gs : h.gs = .e
  ms : h.ms = .e

theorem Args.none {w : World} {g : Option Nat} (hj : (b0 w g).J w) : Args g (fun _ => none) H0 w := ⟨inv_H0 hj, fun b B h => (by cases h), rfl, rfl⟩
theorem Args.wf {g : Option Nat} {ρ : Rho} {h : Hp} {w : World} (ha : Args g ρ h w) : Wf h := fun g _ => by rw [ha.gs]; rfl

theorem add_arg {gm : Option Nat} {ρ : Rho} {h : Hp} {w : World} {k : IntKind} {V : Value} {l : List Int} (hF : Args gm ρ h w) (ha : ArgS k w V l) :
    ∃ ρ' h' v, Args gm ρ' h' w ∧ Ext ρ ρ' ∧ VR ρ' v V ∧ Sl h' (fun b => b < h'.nb) v (l.map fun n => AV.int (cOf k) n) ∧ To No h h' := by
  have hone : ∀ x ∈ l.map (fun n => AV.int (cOf k) n), one x = true := by
    intro x hx
    obtain ⟨y, -, rfl⟩ := List.mem_map.1 hx
    rfl
  rcases ha with ⟨rfl, rfl⟩ | ⟨a, len, cap, zs, rfl, hl, hm, hz, rfl, hcell, -⟩
  · exact ⟨ρ, h, .nils, hF, Ext.refl ρ, rfl, ⟨by simp, .inl ⟨rfl, rfl⟩⟩, To.refl _ _⟩
  · by_cases h0 : len = 0
    · subst h0
      exact ⟨ρ, h, .esl, hF, Ext.refl ρ, ⟨a, cap, rfl⟩, ⟨by simp, .inr (.inl ⟨rfl, by simp⟩)⟩, To.refl _ _⟩
    · obtain ⟨b, off, rfl, hc⟩ := Go.ints_at hcell (by omega)
      have hrow : ∃ cs e fz, w.heap[b]? = some (.cells cs e fz) ∧ ∀ j, j < zs.length → cs[off + j]? = some (.int k (zs.getD j 0)) := by
        have h1 := hc 0 (by omega)
        unfold World.cell? at h1
        simp only at h1
        cases hr : w.heap[b]? with
        | none => rw [hr] at h1; cases h1
        | some o =>
          cases o with
          | cells cs e fz =>
            refine ⟨cs, e, fz, rfl, fun j hj => ?_⟩
            have h2 := hc j hj
            unfold World.cell? at h2
            simp only [hr] at h2
            simpa using h2
          | _ => rw [hr] at h1; cases h1
      obtain ⟨cs, e, fz, hr, hcs⟩ := hrow
      have hsz : off + cap ≤ cs.size := by
        have := hcs (cap - 1) (by omega)
        have := (Array.getElem?_eq_some_iff.1 this).1
        omega
      have hlt : b < w.heap.size := (Array.getElem?_eq_some_iff.1 hr).1
      have hi := hF.inv
      have hfree : ρ h.nb = Option.none := hi.free _ (Nat.le_refl _)
      obtain ⟨t, -, t2⟩ := lay_list ((zs.take len).map fun n => AV.int (cOf k) n) .e 0 hone
      have hlen : ((zs.take len).map fun n => AV.int (cOf k) n).length = len := by simp; omega
      have hext := ups_ext ⟨b, off, cs.size, 0⟩ hfree
      have hget : ∀ x, (h.bs.set ⟨false, h.nb, len, .nil, t⟩ h.nb).get x = if x = h.nb then some ⟨false, h.nb, len, .nil, t⟩ else h.bs.get x := fun x => T.get_set _ _ _ _
      have hat : ∀ i (hi' : i < len), (⟨false, h.nb, len, .nil, t⟩ : Blk).at i = .int (cOf k) (zs.getD i 0) := by
        intro i hi'
        rw [at_in _ (show i < len from hi')]
        simp only [t2 i]
        rw [dif_pos ⟨by omega, by rw [hlen]; omega⟩]
        simp [List.getD, show i < zs.length by omega]
      have look : ∀ x B, (h.bs.set ⟨false, h.nb, len, .nil, t⟩ h.nb).get x = some B → B.fr = false := by
        intro x B hx
        rw [hget] at hx
        by_cases e0 : x = h.nb
        · rw [if_pos e0] at hx
          obtain rfl := Option.some.inj hx
          rfl
        · rw [if_neg e0] at hx; exact hF.fr x B hx
      refine ⟨ups ρ h.nb ⟨b, off, cs.size, 0⟩, ⟨h.nb + 1, h.bs.set ⟨false, h.nb, len, .nil, t⟩ h.nb, h.gs, h.ms⟩, .sl h.nb 0 len 1 (some cap), ⟨⟨?_, ?_, ?_, ?_, ?_, ?_, ?_, Nat.le_refl _, ⟨?_, ?_⟩, hi.jj⟩, look, hF.gs, hF.ms⟩, hext, ?_, ?_, ?_⟩
      · intro x B hx
        have hx : (h.bs.set ⟨false, h.nb, len, .nil, t⟩ h.nb).get x = some B := hx
        rw [hget] at hx
        by_cases e0 : x = h.nb
        · rw [if_pos e0] at hx
          obtain rfl := Option.some.inj hx
          subst e0
          refine ⟨_, ups_same _ _ _, ⟨cs, e, fz, hr, rfl, fun hf => (by cases hf), fun _ i hi' => ?_⟩, (by show off + len ≤ cs.size; omega), fun hf => (by cases hf), fun _ => hlt⟩
          exact ⟨_, hcs i (by have : i < len := hi'; omega), by rw [hat i hi']; exact ⟨k, rfl, rfl⟩⟩
        · rw [if_neg e0] at hx
          obtain ⟨p, hp, hB⟩ := hi.blk x B hx
          refine ⟨p, hext _ _ hp, hB.later hext rfl fun _ hf => ?_⟩
          rw [hF.fr x B hx] at hf; cases hf
      · intro x B hx
        have hx : (h.bs.set ⟨false, h.nb, len, .nil, t⟩ h.nb).get x = some B := hx
        rw [hget] at hx
        by_cases e0 : x = h.nb
        · subst e0; exact Nat.lt_succ_self _
        · rw [if_neg e0] at hx; exact Nat.lt_succ_of_lt (hi.nb x B hx)
      · intro x B hx hf; rw [look x B hx] at hf; cases hf
      · intro g q hq
        have hq : h.gs.get g = some q := hq
        rw [hF.gs] at hq; cases hq
      · intro b1 b2 B1 B2 p1 p2 h1 h2 f1; rw [look b1 B1 h1] at f1; cases f1
      · intro b1 b2 B1 B2 p1 p2 h1 h2 f1; rw [look b1 B1 h1] at f1; cases f1
      · intro i hle
        have hle : h.nb + 1 ≤ i := hle
        rw [ups_ne _ _ (by omega)]
        exact hi.free i (by omega)
      · intro x m hx
        have hx : h.ms.get x = some m := hx
        rw [hF.ms] at hx; cases hx
      · intro b1 b2 m1 m2 p1 p2 h1
        have h1 : h.ms.get b1 = some m1 := h1
        rw [hF.ms] at h1; cases h1
      · exact ⟨⟨b, off, cs.size, 0⟩, cap, ups_same _ _ _, rfl, hl, .inr rfl, by show off + 0 + cap * 1 ≤ cs.size; omega⟩
      · refine ⟨hone, .inr (.inr ⟨h.nb, 0, _, _, by rw [hlen], Nat.lt_succ_self _, ⟨by rw [hget, if_pos rfl], Nat.lt_succ_self _, fun hf => (by cases hf)⟩, fun hf => (by cases hf), (fun c e => by cases e; rw [hlen]; exact hl), fun i hi' => ?_⟩)⟩
        rw [hlen] at hi'
        rw [Nat.zero_add, hat i hi']
        simp [List.getD, show i < zs.length by omega]
      · exact ⟨Nat.le_succ _, fun x hx _ => by show (h.bs.set _ h.nb).get x = _; rw [hget, if_neg (by omega)], fun _ _ _ => rfl, fun hn g hg => hn g (by have : h.nb + 1 ≤ g := hg; omega)⟩

theorem law_walk2 {P : Program} {f : FuncId} {g : Fun} (hF : FSound P f g) {args : List AV} {As : Array Value} {ρ : Rho} {h h' : Hp} {w : World} (hA : Args (P.globalNamed "internal/bytealg.MaxLen") ρ h w) (e : g args h = .ret (.bool true) h') (ha : F2 (VR ρ) args As.toList) :
    Calls P f As w fun e w' => e = .returned (.bool true) ∧ Kept w w' := by
  refine (hF (b0 w _) rfl ρ h w args As (.bool true) h' e hA.inv ha).mono fun e w' ⟨V, ρ', h1, h2⟩ => ?_
  have h3 : V = .bool true := h2.val
  subst h3
  exact ⟨h1, h2.tr.kept hA.fr hA.ms⟩
end Go.AM
