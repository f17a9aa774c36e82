/-
  The abstract machine, part 12: 'build' and 'buildSlice' of the model.
-/
import Derived.Test.YtnpfppddongbhaaDoorAm11
namespace Go.AM
open Go
set_option autoImplicit false

section
variable {P : Program} {ρ : Rho} {r : Res}

theorem ofV1_rel (v : Value) : VR ρ (ofV1 v) v := by
  unfold ofV1
  split <;> first
    | rfl
    | exact ⟨_, rfl, rfl⟩
    | exact ⟨_, rfl, rfl, rfl⟩
    | trivial
theorem lst_rel : ∀ vs : List Value, LR ρ (lst (vs.map ofV1)) vs := by
  intro vs
  induction vs with
  | nil => rfl
  | cons v vs ih => exact ⟨v, vs, rfl, ofV1_rel v, ih⟩
theorem ofV_rel (v : Value) : VR ρ (ofV v) v := by
  unfold ofV
  split
  · exact ⟨_, rfl, lst_rel _⟩
  · exact ⟨_, rfl, lst_rel _⟩
  · exact ofV1_rel v

theorem ones_known {x : AV} (h : ones (cells x) = true) : x ≠ .unk := by
  intro e; subst e; cases h

/-- A type's zero value. -/
theorem zero_rel {t : TypeId} (h : ones (cells (zeroV P t)) = true) : ∃ z : Value, (∀ w, (zeroValue t).run P w = .ok z w) ∧ LR ρ (cells (zeroV P t)) z.cells.toList := by
  have hk := ones_known h
  unfold zeroV at hk ⊢
  cases hi : P.info? t with
  | none => rw [hi] at hk; exact absurd rfl hk
  | some i =>
    rw [hi] at hk
    simp only at hk ⊢
    cases hz : i.zero with
    | none => rw [hz] at hk; exact absurd rfl hk
    | some z =>
      rw [hz] at hk
      exact ⟨z, fun w => by simp [zeroValue, typeInfo, hi, hz], cells_rel (ofV_rel z) hk⟩

/-- Parts of the machine and of the model. -/
def PRel (ρ : Rho) : List (Nat × AV) → List (Nat × Value) → Prop := F2 fun p q => p.1 = q.1 ∧ VR ρ p.2 q.2

theorem PRel.find {ps : List (Nat × AV)} {pv : List (Nat × Value)} (h : PRel ρ ps pv) (i : Nat) :
    (ps.find? (fun p => Nat.beq p.1 i) = none ∧ pv.find? (fun q => q.1 == i) = none) ∨
    ∃ p q, ps.find? (fun p => Nat.beq p.1 i) = some p ∧ pv.find? (fun q => q.1 == i) = some q ∧ VR ρ p.2 q.2 ∧ q ∈ pv := by
  induction h with
  | nil => exact .inl ⟨rfl, rfl⟩
  | @cons p q l m hpq _ ih =>
    rw [List.find?_cons, List.find?_cons]
    by_cases e : p.1 = i
    · have e1 : Nat.beq p.1 i = true := by rw [beq_iff]; exact e
      have e2 : (q.1 == i) = true := by rw [← hpq.1]; simpa using e
      rw [e1, e2]
      exact .inr ⟨p, q, rfl, rfl, hpq.2, by simp⟩
    · have e1 : Nat.beq p.1 i = false := by rw [Bool.eq_false_iff, ne_eq, beq_iff]; exact e
      have e2 : (q.1 == i) = false := by rw [← hpq.1]; simpa using e
      rw [e1, e2]
      rcases ih with h | ⟨p', q', h1, h2, h3, h4⟩
      · exact .inl h
      · exact .inr ⟨p', q', h1, h2, h3, by simp [h4]⟩

theorem PRel.distinct {n : Nat} {ps : List (Nat × AV)} {pv : List (Nat × Value)} (h : PRel ρ ps pv) : distinct n ps = true → (pv.map (·.1)).Nodup ∧ ∀ q ∈ pv, q.1 < n := by
  induction h with
  | nil => intro _; simp
  | @cons p q l m hpq hlm ih =>
    intro hd
    simp only [AM.distinct, Bool.and_eq_true, Bool.not_eq_true', blt_iff] at hd
    obtain ⟨h1, h2, h3⟩ := hd
    obtain ⟨i1, i2⟩ := ih h3
    refine ⟨?_, fun x hx => ?_⟩
    · rw [List.map_cons, List.nodup_cons]
      refine ⟨fun hm => ?_, i1⟩
      obtain ⟨x, hx, hxe⟩ := List.mem_map.1 hm
      rcases PRel.find hlm q.1 with ⟨g1, g2⟩ | ⟨p', q', g1, g2, g3, g4⟩
      · rw [List.find?_eq_none] at g2
        exact g2 x hx (by simpa using hxe)
      · have := List.find?_some g1
        have hp' := List.mem_of_find?_eq_some g1
        rw [List.any_eq_false] at h2
        exact h2 p' hp' (by rw [hpq.1]; exact this)
    · rcases List.mem_cons.1 hx with rfl | hx
      · rw [← hpq.1]; exact h1
      · exact i2 x hx

/-- What the slots are to hold. -/
def tgt (P : Program) (pv : List (Nat × Value)) : List TypeId → Nat → List Value → List (List Value)
  | [], _, _ => []
  | t :: ts, i, zs => (match pv.find? (fun q => q.1 == i) with | some q => q.2.cells.toList | none => zs.take (szOf P t)) :: tgt P pv ts (i + 1) (zs.drop (szOf P t))

theorem tgt_get (pv : List (Nat × Value)) : ∀ (ts : List TypeId) (i : Nat) (zs : List Value) (j : Nat), j < ts.length →
    (tgt P pv ts i zs)[j]? = match pv.find? (fun q => q.1 == i + j) with | some q => some q.2.cells.toList | none => (chunks (ts.map (szOf P)) zs)[j]? := by
  intro ts
  induction ts with
  | nil => intro i zs j h; simp at h
  | cons t ts ih =>
    intro i zs j h
    cases j with
    | zero => simp only [tgt, List.map_cons, chunks, List.getElem?_cons_zero, Nat.add_zero]; split <;> rfl
    | succ j =>
      simp only [tgt, List.map_cons, chunks, List.getElem?_cons_succ]
      rw [ih (i + 1) _ j (by simpa using h), show i + 1 + j = i + (j + 1) from by omega]
theorem tgt_len (pv : List (Nat × Value)) : ∀ (ts : List TypeId) (i : Nat) (zs : List Value), (tgt P pv ts i zs).length = ts.length := by
  intro ts
  induction ts with
  | nil => intro i zs; rfl
  | cons t ts ih => intro i zs; simp [tgt, ih]

theorem slots_rel {ps : List (Nat × AV)} {pv : List (Nat × Value)} (hp : PRel ρ ps pv) {Z : AV} {zs : List Value} (hZ : LR ρ Z zs) : ∀ (ts : List TypeId) (i o : Nat), (∀ t ∈ ts, okS P t = true) → o + sizes P ts ≤ zs.length →
    F2 (SlotRel ρ) (slots P ts ps i o Z) (tgt P pv ts i (zs.drop o)) := by
  intro ts
  induction ts with
  | nil => intro i o _ _; exact .nil
  | cons t ts ih =>
    intro i o hok hle
    simp only [sizes] at hle
    have hs := hok t (by simp)
    simp only [okS, Bool.and_eq_true, Bool.or_eq_true, beq_iff] at hs
    refine .cons ?_ (by rw [List.drop_drop]; exact ih (i + 1) (o + szOf P t) (fun u hu => hok u (by simp [hu])) (by omega))
    rcases hp.find i with ⟨h1, h2⟩ | ⟨p, q, h1, h2, h3, -⟩
    · rw [h1, h2]
      simp only
      cases ha : agT P t with
      | true =>
        exact ⟨.agg ((zs.drop o).take (szOf P t)).toArray, ⟨_, rfl, by simpa using tkL_rel _ _ _ (dpL_rel o Z zs hZ)⟩, fun _ => by simp [Value.cells], fun hf => by cases hf⟩
      | false =>
        have h1 : szOf P t = 1 := by rcases hs.2 with h | h; (rw [ha] at h; cases h); exact h
        have ho : o < zs.length := by omega
        refine ⟨zs[o], LR_get Z zs hZ o _ (by simp), fun ht => by simp at ht, fun _ hone => ?_⟩
        rw [cells_one (LR_get Z zs hZ o zs[o] (by simp)) hone, h1, List.drop_eq_getElem_cons ho]; rfl
    · rw [h1, h2]
      exact ⟨q.2, h3, fun _ => rfl, fun _ _ => rfl⟩

theorem fold_lens : ∀ (pv : List (Nat × Value)) (cs : List (List Value)), (∀ q ∈ pv, (cs.map List.length)[q.1]? = some q.2.cells.size) → (pv.foldl (fun cs p => cs.set p.1 p.2.cells.toList) cs).map List.length = cs.map List.length := by
  intro pv
  induction pv with
  | nil => intro cs _; rfl
  | cons p pv ih =>
    intro cs h
    have h1 : (cs.set p.1 p.2.cells.toList).map List.length = cs.map List.length := by
      rw [List.map_set]
      apply List.ext_getElem?
      intro j
      rw [List.getElem?_set]
      split
      · rename_i hj
        subst hj
        have := h p (by simp)
        rw [this]
        have hl := (List.getElem?_eq_some_iff.1 this).1
        rw [if_pos hl]; simp
      · rfl
    rw [List.foldl_cons, ih _ (by rw [h1]; exact fun q hq => h q (by simp [hq])), h1]

theorem sizes_sum (ts : List TypeId) : sizes P ts = (ts.map (szOf P)).sum := by
  induction ts with
  | nil => rfl
  | cons t ts ih => simp [sizes, ih]

theorem slots_sizes (ps : List (Nat × AV)) (Z : AV) : ∀ (ts : List TypeId) (i o : Nat), (slots P ts ps i o Z).map (fun p => (p.1, p.2.1)) = ts.map fun t => (agT P t, szOf P t) := by
  intro ts
  induction ts with
  | nil => intro i o; rfl
  | cons t ts ih => intro i o; simp [slots, ih]

theorem F2.get {α β : Type} {Q : α → β → Prop} {l : List α} {m : List β} (h : F2 Q l m) : ∀ (i : Nat) (a : α) (b : β), l[i]? = some a → m[i]? = some b → Q a b := by
  induction h with
  | nil => intro i a b h; simp at h
  | cons hq _ ih =>
    intro i a b h1 h2
    cases i with
    | zero => simp at h1 h2; subst h1 h2; exact hq
    | succ i => exact ih i a b (by simpa using h1) (by simpa using h2)

/-- An aggregate is put together: the model's cells are what the machine's list stands for. -/
theorem fill_ok {place : Nat → Option (Nat × Nat)} {ps : List (Nat × AV)} {pv : List (Nat × Value)} {ts : List TypeId} {Z : AV} {zs : List Value} {k : AV → Res} (hp : PRel ρ ps pv) (hd : distinct ts.length ps = true) (hok : ∀ t ∈ ts, okS P t = true)
    (hZ : LR ρ Z zs) (hlen : len Z = sizes P ts) (hpl : ∀ i s, (ts.map (szOf P))[i]? = some s → place i = some (((ts.map (szOf P)).take i).sum, s)) (e : bld (slots P ts ps 0 0 Z) k = r) (hr : r ≠ .fail) :
    ∃ l cells, k l = r ∧ Instr.fill place zs.toArray pv = some cells ∧ LR ρ l cells.toList ∧ cells.size = sizes P ts := by
  have hzl : zs.length = sizes P ts := by rw [← LR_len Z zs hZ, hlen]
  have hrel := slots_rel (P := P) hp hZ ts 0 0 hok (by omega)
  rw [List.drop_zero] at hrel
  obtain ⟨l, h1, h2, h3⟩ := bld_ok _ _ hrel e hr
  obtain ⟨n1, n2⟩ := hp.distinct hd
  have hch : (chunks (ts.map (szOf P)) zs).flatten = zs := chunks_flatten _ _ (by rw [← sizes_sum, hzl])
  have hcl : (chunks (ts.map (szOf P)) zs).map List.length = ts.map (szOf P) := chunks_len _ _ (by rw [← sizes_sum, hzl]; exact Nat.le_refl _)
  have hsz : ∀ q ∈ pv, (ts.map (szOf P))[q.1]? = some q.2.cells.size := by
    intro q hq
    have hlt := n2 q hq
    have hf : pv.find? (fun x => x.1 == q.1) = some q := by
      rcases hp.find q.1 with ⟨-, g2⟩ | ⟨p', q', -, g2, -, g4⟩
      · rw [List.find?_eq_none] at g2; exact absurd (by simp) (g2 q hq)
      · have he := List.find?_some g2
        have hq' := List.mem_of_find?_eq_some g2
        rw [g2]
        congr 1
        -- the same place, the same part
        have := List.pairwise_iff_getElem.1 (by simpa [List.Nodup] using n1 : (pv.map (·.1)).Pairwise (· ≠ ·))
        obtain ⟨a, ha, rfl⟩ := List.getElem_of_mem hq
        obtain ⟨b, hb, rfl⟩ := List.getElem_of_mem hq'
        have he : pv[b].1 = pv[a].1 := by simpa using he
        have hal : a < (pv.map (·.1)).length := by simpa using ha
        have hbl : b < (pv.map (·.1)).length := by simpa using hb
        have hab : (pv.map (·.1))[a] = (pv.map (·.1))[b] := by rw [List.getElem_map, List.getElem_map]; exact he.symm
        rcases Nat.lt_trichotomy a b with h | h | h
        · exact absurd hab (this a b hal hbl h)
        · subst h; rfl
        · exact absurd hab.symm (this b a hbl hal h)
    have hg := tgt_get (P := P) pv ts 0 zs q.1 hlt
    rw [Nat.zero_add, hf] at hg
    simp only at hg
    have hs : (slots P ts ps 0 0 Z)[q.1]? = some ((slots P ts ps 0 0 Z)[q.1]'(by have := congrArg List.length (slots_sizes (P := P) ps Z ts 0 0); simp at this; omega)) := by simp
    have hq3 := h3.get q.1 _ _ hs hg
    have hmap := congrArg (fun l => l[q.1]?) (slots_sizes (P := P) ps Z ts 0 0)
    simp only [List.getElem?_map, hs, Option.map_some, List.getElem?_eq_getElem hlt] at hmap
    have hm := Option.some.inj hmap
    have hok1 := hok _ (List.getElem_mem hlt)
    simp only [okS, Bool.and_eq_true, Bool.or_eq_true, beq_iff] at hok1
    rw [List.getElem?_map, List.getElem?_eq_getElem hlt]
    simp only [Option.map_some]
    congr 1
    have hm1 := (Prod.ext_iff.1 hm).1
    have hm2 := (Prod.ext_iff.1 hm).2
    simp only at hm1 hm2
    cases hb : agT P ts[q.1] with
    | true => rw [hb] at hm1; have := hq3.1 hm1; rw [← hm2, this]; simp
    | false =>
      rw [hb] at hm1
      have := hq3.2 hm1
      rcases hok1.2 with h | h
      · rw [hb] at h; cases h
      · rw [h]; simpa using this.symm
  have hfill := fill_chunks place (ts.map (szOf P)) hpl pv _ hcl hsz
  rw [hch] at hfill
  have htgt : pv.foldl (fun cs p => cs.set p.1 p.2.cells.toList) (chunks (ts.map (szOf P)) zs) = tgt P pv ts 0 zs := by
    have hcn : (chunks (ts.map (szOf P)) zs).length = ts.length := by have := congrArg List.length hcl; simpa using this
    have hfl : ∀ (ps : List (Nat × Value)) (cs : List (List Value)), (ps.foldl (fun cs p => cs.set p.1 p.2.cells.toList) cs).length = cs.length := by
      intro ps
      induction ps with
      | nil => intro cs; rfl
      | cons p ps ih => intro cs; rw [List.foldl_cons, ih]; simp
    apply List.ext_getElem?
    intro j
    by_cases hj : j < ts.length
    · rw [fold_set_get pv _ n1 j (by omega), tgt_get pv ts 0 zs j hj, Nat.zero_add]
      cases List.find? (fun q => q.1 == j) pv <;> rfl
    · rw [List.getElem?_eq_none (by rw [hfl]; omega), List.getElem?_eq_none (by rw [tgt_len]; omega)]
  rw [htgt] at hfill
  refine ⟨l, _, h1, hfill, by simpa using h2, ?_⟩
  rw [← htgt]
  have := fold_lens pv (chunks (ts.map (szOf P)) zs) (by rw [hcl]; exact hsz)
  rw [hcl] at this
  rw [List.size_toArray, List.length_flatten, this, sizes_sum]
end
end Go.AM
