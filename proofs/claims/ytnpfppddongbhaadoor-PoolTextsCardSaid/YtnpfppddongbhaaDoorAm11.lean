/-
  The abstract machine, part 11: aggregates that are put together.
-/
import Derived.Test.YtnpfppddongbhaaDoorAm10
namespace Go.AM
open Go
set_option autoImplicit false

/-- Two lists, place by place. -/
inductive F2 {α β : Type} (Q : α → β → Prop) : List α → List β → Prop where
  | nil : F2 Q [] []
  | cons {a : α} {b : β} {l : List α} {m : List β} : Q a b → F2 Q l m → F2 Q (a :: l) (b :: m)

section
variable {P : Program} {ρ : Rho}

theorem tkL_rel : ∀ (n : Nat) (l : AV) (vs : List Value), LR ρ l vs → LR ρ (tkL n l) (vs.take n) := by
  intro n
  induction n with
  | zero => intro l vs _; show LR ρ .nil _; simp [LR, R]
  | succ n ih =>
    intro l vs h
    cases l with
    | nil => have h : vs = [] := h; subst h; rfl
    | cons v t => obtain ⟨V, l', rfl, h1, h2⟩ := h; exact ⟨V, l'.take n, rfl, h1, ih t l' h2⟩
    | _ => exact h.elim
theorem dpL_rel : ∀ (n : Nat) (l : AV) (vs : List Value), LR ρ l vs → LR ρ (dpL n l) (vs.drop n) := by
  intro n
  induction n with
  | zero => intro l vs h; exact h
  | succ n ih =>
    intro l vs h
    cases l with
    | nil => have h : vs = [] := h; subst h; rfl
    | cons v t => obtain ⟨V, l', rfl, h1, h2⟩ := h; exact ih t l' h2
    | _ => exact h.elim
theorem repL_rel (l : AV) (vs : List Value) (h : LR ρ l vs) : ∀ n, LR ρ (repL l n) (List.replicate n vs).flatten := by
  intro n
  induction n with
  | zero => rfl
  | succ n ih => rw [List.replicate_succ, List.flatten_cons]; exact LR_app l _ vs _ h ih

/-- A slot of an aggregate stands for the cells ch. -/
def SlotRel (ρ : Rho) (p : Bool × Nat × AV) (ch : List Value) : Prop :=
  ∃ V, VR ρ p.2.2 V ∧ (p.1 = true → ch = V.cells.toList) ∧ (p.1 = false → one p.2.2 = true → ch = V.cells.toList)

theorem bld_ok {r : Res} : ∀ (ps : List (Bool × Nat × AV)) (chs : List (List Value)) {k : AV → Res}, F2 (SlotRel ρ) ps chs → bld ps k = r → r ≠ .fail →
    ∃ l, k l = r ∧ LR ρ l chs.flatten ∧ F2 (fun p ch => (p.1 = true → p.2.1 = ch.length) ∧ (p.1 = false → ch.length = 1)) ps chs := by
  intro ps
  induction ps with
  | nil =>
    intro chs k hc e hr
    cases hc
    exact ⟨.nil, e, rfl, .nil⟩
  | cons p ps ih =>
    intro chs k hc e hr
    cases hc with
    | cons h1 h2 =>
      rename_i ch chs
      obtain ⟨V, hv, g1, g2⟩ := h1
      have e : Bool.rec (motive := fun _ => Res) (ifB (one p.2.2) (bld ps fun t => k (.cons p.2.2 t)) .fail) (cA p.2.2 fun l => ifB (Nat.beq (len l) p.2.1) (bld ps fun t => k (app l t)) .fail) p.1 = r := e
      rw [recB] at e
      by_cases hp : p.1 = true
      · rw [if_pos hp] at e
        obtain ⟨lv, e1, e2⟩ := cA_inv e hr
        obtain ⟨e3, e4⟩ := ifF_inv e2 hr
        rw [beq_iff] at e3
        obtain ⟨l, k1, k2, k3⟩ := ih chs h2 e4 hr
        rw [e1] at hv
        obtain ⟨arr, rfl, ha⟩ := hv
        have hch := g1 hp
        refine ⟨_, k1, ?_, .cons ⟨fun _ => ?_, fun hf => by rw [hp] at hf; cases hf⟩ k3⟩
        · rw [List.flatten_cons, hch]; exact LR_app lv l _ _ ha k2
        · rw [← e3, hch, LR_len lv _ ha]; rfl
      · rw [if_neg hp] at e
        have hp' : p.1 = false := by simpa using hp
        obtain ⟨e3, e4⟩ := ifF_inv e hr
        obtain ⟨l, k1, k2, k3⟩ := ih chs h2 e4 hr
        have hch := g2 hp' e3
        have hcell := cells_one hv e3
        refine ⟨_, k1, ?_, .cons ⟨fun ht => absurd ht hp, fun _ => by rw [hch, hcell]; rfl⟩ k3⟩
        rw [List.flatten_cons, hch, hcell]
        exact ⟨V, _, rfl, hv, k2⟩

/-! ### the model's 'fill', on chunks -/
def chunks : List Nat → List Value → List (List Value)
  | [], _ => []
  | s :: ss, zs => zs.take s :: chunks ss (zs.drop s)
theorem chunks_flatten : ∀ (ss : List Nat) (zs : List Value), ss.sum = zs.length → (chunks ss zs).flatten = zs := by
  intro ss
  induction ss with
  | nil => intro zs h; have : zs = [] := List.eq_nil_of_length_eq_zero h.symm; subst this; rfl
  | cons s ss ih =>
    intro zs h
    rw [chunks, List.flatten_cons, ih _ (by simp at h ⊢; omega), List.take_append_drop]
theorem chunks_len : ∀ (ss : List Nat) (zs : List Value), ss.sum ≤ zs.length → (chunks ss zs).map List.length = ss := by
  intro ss
  induction ss with
  | nil => intro zs _; rfl
  | cons s ss ih => intro zs h; simp only [List.sum_cons] at h; rw [chunks, List.map_cons, ih _ (by simp; omega), List.length_take, Nat.min_eq_left (by omega)]

theorem set_seg : ∀ (vs : List Value) (o i : Nat) (arr : Array Value), o + i + vs.length ≤ arr.size →
    ((vs.zipIdx i).foldl (fun (cs : Array Value) (q : Value × Nat) => cs.setIfInBounds (o + q.2) q.1) arr).toList = arr.toList.take (o + i) ++ vs ++ arr.toList.drop (o + i + vs.length) := by
  intro vs
  induction vs with
  | nil => intro o i arr _; simp
  | cons v vs ih =>
    intro o i arr h
    simp only [List.length_cons] at h
    rw [List.zipIdx_cons, List.foldl_cons, ih o (i + 1) _ (by simp; omega), Array.toList_setIfInBounds]
    have := list_seg_step arr.toList (o + i) v vs (by simp; omega)
    rw [show o + (i + 1) = o + i + 1 from by omega, this, List.length_cons]

theorem flatten_set : ∀ (cs : List (List Value)) (i : Nat) (new old : List Value), cs[i]? = some old → new.length = old.length →
    (cs.set i new).flatten = cs.flatten.take ((cs.map List.length).take i).sum ++ new ++ cs.flatten.drop (((cs.map List.length).take i).sum + new.length) := by
  intro cs
  induction cs with
  | nil => intro i new old h; simp at h
  | cons c cs ih =>
    intro i new old h hl
    cases i with
    | zero => simp at h; subst h; simp [hl]
    | succ i =>
      simp only [List.getElem?_cons_succ] at h
      rw [List.set_cons_succ, List.flatten_cons, ih i new old h hl]
      simp only [List.flatten_cons, List.map_cons, List.take_succ_cons, List.sum_cons, Nat.add_assoc]
      rw [List.take_length_add_append, List.drop_length_add_append]; simp

theorem fill_chunks (place : Nat → Option (Nat × Nat)) (szs : List Nat) (hplace : ∀ i s, szs[i]? = some s → place i = some ((szs.take i).sum, s)) :
    ∀ (parts : List (Nat × Value)) (cs : List (List Value)), cs.map List.length = szs → (∀ p ∈ parts, szs[p.1]? = some p.2.cells.size) →
    Instr.fill place cs.flatten.toArray parts = some (parts.foldl (fun cs p => cs.set p.1 p.2.cells.toList) cs).flatten.toArray := by
  intro parts
  induction parts with
  | nil => intro cs _ _; rfl
  | cons p parts ih =>
    intro cs hcs hp
    obtain ⟨i, v⟩ := p
    have hs := hp (i, v) (by simp)
    simp only at hs
    have hpl := hplace i _ hs
    have hi : i < szs.length := (List.getElem?_eq_some_iff.1 hs).1
    obtain ⟨old, hold, hol⟩ : ∃ old, cs[i]? = some old ∧ old.length = v.cells.size := by
      have hi' : i < cs.length := by rw [← hcs] at hi; simpa using hi
      refine ⟨cs[i], by simp, ?_⟩
      rw [← hcs] at hs
      rw [List.getElem?_map, List.getElem?_eq_getElem hi'] at hs
      exact Option.some.inj hs
    have hbound : (szs.take i).sum + v.cells.size ≤ cs.flatten.length := by
      have h1 : cs.flatten.length = szs.sum := by rw [List.length_flatten, hcs]
      have h2 : szs.sum = (szs.take i).sum + (szs.drop i).sum := by rw [← List.sum_append, List.take_append_drop]
      have h3 : szs.drop i = v.cells.size :: szs.drop (i + 1) := by
        rw [List.drop_eq_getElem_cons hi]
        congr 1
        exact (List.getElem?_eq_some_iff.1 hs).2
      rw [h1, h2, h3, List.sum_cons]; omega
    have hseg := set_seg v.cells.toList (szs.take i).sum 0 cs.flatten.toArray (by simpa using hbound)
    have hset := flatten_set cs i v.cells.toList old hold (by simpa using hol.symm)
    rw [hcs] at hset
    have e : (v.cells.zipIdx.foldl (fun cs (x : Value × Nat) => cs.setIfInBounds ((szs.take i).sum + x.2) x.1) cs.flatten.toArray) = (cs.set i v.cells.toList).flatten.toArray := by
      apply Array.ext'
      rw [← Array.foldl_toList, Array.toList_zipIdx, hseg, hset]; simp
    simp only [Instr.fill, hpl]
    rw [if_neg (by simp; simpa using hbound)]
    rw [show (fun (cs : Array Value) (x : Value × Nat) => match x with | (c, j) => cs.setIfInBounds ((szs.take i).sum + j) c) = (fun cs (x : Value × Nat) => cs.setIfInBounds ((szs.take i).sum + x.2) x.1) from rfl, e]
    rw [ih _ (by
      rw [List.map_set, hcs]
      apply List.ext_getElem?
      intro j
      by_cases hj : i = j
      · subst hj; simp [hi]; simpa using (List.getElem?_eq_some_iff.1 hs).2.symm
      · rw [List.getElem?_set_ne hj]) (fun q hq => hp q (by simp [hq]))]
    rfl

/-- What stands in a slot behind the parts: the part that is given, else what stood there. -/
theorem fold_set_get : ∀ (parts : List (Nat × Value)) (cs : List (List Value)), (parts.map (·.1)).Nodup → ∀ i, i < cs.length →
    (parts.foldl (fun cs p => cs.set p.1 p.2.cells.toList) cs)[i]? = match parts.find? (fun p => p.1 == i) with | some p => some p.2.cells.toList | none => cs[i]? := by
  intro parts
  induction parts with
  | nil => intro cs _ i _; rfl
  | cons p parts ih =>
    intro cs hn i hi
    simp only [List.map_cons, List.nodup_cons] at hn
    rw [List.foldl_cons, ih _ hn.2 i (by simpa using hi), List.find?_cons]
    by_cases e : p.1 = i
    · subst e
      have hnone : parts.find? (fun q => q.1 == p.1) = none := by
        rw [List.find?_eq_none]
        intro q hq h
        exact hn.1 (by simp only [beq_iff_eq] at h; rw [← h]; exact List.mem_map_of_mem hq)
      rw [hnone]; simp [hi]
    · have : (p.1 == i) = false := by simpa using e
      rw [this]
      cases parts.find? (fun q => q.1 == i) with
      | some q => rfl
      | none => simp [List.getElem?_set_ne e]
end
end Go.AM
