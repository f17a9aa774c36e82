/-
  The abstract machine, part 41: is memory in order behind a run? asked by reckoning; rows of bytes that are written one by one.
-/
import Derived.Test.YtnpfppddongbhaaDoorAm40
namespace Go.AM
open Go
set_option autoImplicit false
/-- Does p hold of all places of a trie that hold something? -/
noncomputable def T.allH {α : Type} (p : Nat → Bool) (t : T α) : (Nat → Nat) → Bool :=
  T.rec (motive := fun _ => (Nat → Nat) → Bool) (fun _ => true)
    (fun v _ _ il ir f => Bool.rec (motive := fun _ => Bool) false (Bool.rec (motive := fun _ => Bool) false (ir fun k => f (2 * k + 2)) (il fun k => f (2 * k + 1))) (Option.rec (motive := fun _ => Bool) true (fun _ => p (f 0)) v)) t
theorem T.allH_get {α : Type} (p : Nat → Bool) : ∀ (t : T α) (f : Nat → Nat) (k : Nat) (v : α), T.allH p t f = true → t.get k = some v → p (f k) = true := by
  intro t
  induction t with
  | e => intro f k v _ h; cases h
  | n o l r ihl ihr =>
    intro f k v ha hg
    have e : T.allH p (.n o l r) f = Bool.rec (motive := fun _ => Bool) false (Bool.rec (motive := fun _ => Bool) false (T.allH p r fun k => f (2 * k + 2)) (T.allH p l fun k => f (2 * k + 1))) (Option.rec (motive := fun _ => Bool) true (fun _ => p (f 0)) o) := rfl
    rw [e, recB, recB] at ha
    have h1 : (Option.rec (motive := fun _ => Bool) true (fun _ => p (f 0)) o) = true := by
      by_cases q : (Option.rec (motive := fun _ => Bool) true (fun _ => p (f 0)) o) = true
      · exact q
      · rw [if_neg q] at ha; cases ha
    rw [if_pos h1] at ha
    have h2 : T.allH p l (fun k => f (2 * k + 1)) = true := by
      by_cases q : T.allH p l (fun k => f (2 * k + 1)) = true
      · exact q
      · rw [if_neg q] at ha; cases ha
    rw [if_pos h2] at ha
    cases k with
    | zero =>
      have hg : o = some v := hg
      subst hg
      exact h1
    | succ m =>
      rw [T.get_ns] at hg
      by_cases hm : m % 2 = 1
      · rw [if_pos hm] at hg
        have := ihr _ _ _ ha hg
        have e : 2 * (m / 2) + 2 = m + 1 := by omega
        simpa [e] using this
      · rw [if_neg hm] at hg
        have := ihl _ _ _ h2 hg
        have e : 2 * (m / 2) + 1 = m + 1 := by omega
        simpa [e] using this
noncomputable def wfH (h : Hp) : Bool := T.allH (fun k => Nat.blt k h.nb) h.gs fun k => k
theorem wfH_of {h : Hp} (hb : wfH h = true) : Wf h := by
  intro g hg
  cases hq : h.gs.get g with
  | none => rfl
  | some q =>
    have := T.allH_get _ _ _ _ _ hb hq
    rw [blt_iff] at this
    omega
/-- True, and memory is in order. -/
noncomputable def isTH (r : Res) : Bool := Bool.rec (motive := fun _ => Bool) false (Res.rec (motive := fun _ => Bool) false (fun _ _ => false) (fun _ _ _ => false) (fun _ h => wfH h) r) (isT r)
theorem isTH_inv {r : Res} (h : isTH r = true) : ∃ h', r = .ret (.bool true) h' ∧ Wf h' := by
  have e : isTH r = Bool.rec (motive := fun _ => Bool) false (Res.rec (motive := fun _ => Bool) false (fun _ _ => false) (fun _ _ _ => false) (fun _ h => wfH h) r) (isT r) := rfl
  rw [e, recB] at h
  by_cases q : isT r = true
  · rw [if_pos q] at h
    obtain ⟨h', rfl⟩ := isT_inv q
    exact ⟨h', rfl, wfH_of h⟩
  · rw [if_neg q] at h; cases h

/-- A row of bytes of its own. -/
def RowN (h : Hp) (b : Nat) (t : List Nat) : Prop := ∃ B, Own h b B ∧ B.lim = t.length ∧ ∀ i (hi : i < t.length), B.at i = .int 8 (t[i] : Int)
theorem RowN.put {h : Hp} {b : Nat} {t : List Nat} (hr : RowN h b t) (j x : Nat) (hj : j < t.length) :
    ∃ h', (∀ k : Hp → Res, st1 h (.ptr b j) (.int 8 (x : Int)) k = k h') ∧ RowN h' b (t.set j x) ∧ To (At b) h h' ∧ h'.nb = h.nb := by
  obtain ⟨B, o, hl, hat⟩ := hr
  obtain ⟨h', e, o', t', n'⟩ := st1_own (o := j) (v := .int 8 (x : Int)) o (by omega) rfl
  refine ⟨h', e, ⟨_, o', by rw [List.length_set]; exact hl, fun i hi => ?_⟩, t', n'⟩
  rw [List.length_set] at hi
  rw [setC_at (by omega)]
  by_cases e : i = j
  · subst e; rw [if_pos rfl]; simp
  · rw [if_neg e, hat i hi, List.getElem_set_ne (fun h => e h.symm)]
theorem RowN.to {W : Nat → Prop} {h h' : Hp} {b : Nat} {t : List Nat} (hr : RowN h b t) (ht : To W h h') (hw : ¬ W b) : RowN h' b t := by
  obtain ⟨B, o, hl, hat⟩ := hr
  exact ⟨B, o.to ht hw, hl, hat⟩
theorem RowN.sl {h : Hp} {b : Nat} {t : List Nat} (hr : RowN h b t) (P : Nat → Prop) (hP : P b) : Sl h P (.sl b 0 t.length 1 (some t.length)) (t.map fun (x : Nat) => AV.int 8 (x : Int)) := by
  obtain ⟨B, o, hl, hat⟩ := hr
  refine ⟨fun x hx => ?_, .inr (.inr ⟨b, 0, some t.length, B, by rw [List.length_map], hP, o.rd, fun _ => by rw [o.g]; exact hP, (fun c e => by cases e; rw [List.length_map]; exact Nat.le_refl _), fun i hi => ?_⟩)⟩
  · obtain ⟨y, -, rfl⟩ := List.mem_map.1 hx; rfl
  · rw [List.length_map] at hi
    rw [Nat.zero_add, hat i hi]
    simp
theorem mkRowN {h : Hp} (hw : Wf h) (n : Nat) (hn : n ≤ 1000000) :
    ∃ h', (∀ k : AV → Hp → Res, mkM h (.cons (.int 8 0) .nil) 1 (.int 63 (n : Int)) (.int 63 (n : Int)) k = k (.sl h.nb 0 n 1 (some n)) h') ∧ RowN h' h.nb (List.replicate n 0) ∧ To No h h' ∧ Wf h' ∧ h'.nb = h.nb + 1 := by
  obtain ⟨h', B, e, o, hl, hat, t, w, q⟩ := mkM_own hw (.int 8 0) n 1 63 63 (by omega) (by omega)
  refine ⟨h', e, ⟨B, o, by rw [List.length_replicate]; exact hl, fun i hi => ?_⟩, t, w, q⟩
  rw [List.length_replicate] at hi
  rw [hat i hi, List.getElem_replicate]; rfl
end Go.AM
