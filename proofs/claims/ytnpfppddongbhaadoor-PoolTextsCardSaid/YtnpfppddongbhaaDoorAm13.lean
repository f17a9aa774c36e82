/-
  The abstract machine, part 13: what an operation that answers a value does: new variables, aggregates, parts, places.
-/
import Derived.Test.YtnpfppddongbhaaDoorAm12
namespace Go.AM
open Go
set_option autoImplicit false

/-- Run in the world, s answers a value and goes to a world; the machine goes on with what stands for both. -/
def Does (P : Program) (N0 : Base) (ρ : Rho) (h : Hp) (w : World) (s : Sem Value) (k : AV → Hp → Res) (r : Res) : Prop :=
  ∃ v h' V w' ρ', k v h' = r ∧ s.run P w = .ok V w' ∧ Out N0 ρ h w v h' V w' ρ'

section
variable {P : Program} {N0 : Base} {ρ : Rho} {h : Hp} {w : World} {x y : AV} {X Y : Value} {r : Res} {k : AV → Hp → Res}

theorem Does.here {s : Sem Value} {v : AV} {V : Value} (hi : Inv N0 ρ h w) (e : k v h = r) (hv : VR ρ v V) (hs : s.run P w = .ok V w) : Does P N0 ρ h w s k r :=
  ⟨v, h, V, w, ρ, e, hs, hv, hi, Tr.refl ρ h w⟩
theorem Does.pur {s : Sem Value} (hi : Inv N0 ρ h w) (e : ∃ v, k v h = r ∧ Pur P ρ s v) : Does P N0 ρ h w s k r := by
  obtain ⟨v, h1, V, h2, h3⟩ := e
  exact Does.here hi h1 h2 (h3 w)
theorem Does.read {s : Sem Value} (hi : Inv N0 ρ h w) (e : ∃ v V, k v h = r ∧ VR ρ v V ∧ s.run P w = .ok V w) : Does P N0 ρ h w s k r := by
  obtain ⟨v, V, h1, h2, h3⟩ := e
  exact Does.here hi h1 h2 h3

theorem lay_ones : ∀ (l : AV) (t : T AV) (o : Nat) {k : T AV → Nat → Res}, lay l t o k = r → r ≠ .fail → ones l = true := by
  intro l
  induction l with
  | nil => intro t o k e hr; rfl
  | cons v l _ ih =>
    intro t o k e hr
    have e : ifB (one v) (lay l (T.set v t o) (o + 1) k) .fail = r := e
    obtain ⟨h1, h2⟩ := ifF_inv e hr
    have h3 := ih _ _ h2 hr
    show (one v && ones l) = true
    rw [h1, h3]; rfl
  | _ => intro t o k e hr; exact absurd e.symm hr

theorem alloc_ok {t : TypeId} (hi : Inv N0 ρ h w) (e : mk h (cells (zeroV P t)) k = r) (hr : r ≠ .fail) : Does P N0 ρ h w (Instr.alloc t true (.tuple #[])) k r := by
  obtain ⟨z, hz, hl⟩ := zero_rel (P := P) (ρ := ρ) (t := t) (lay_ones _ _ _ e hr)
  obtain ⟨v, h', ρ', h1, h2⟩ := mk_ok (Vs := z.cells) t hi e hr hl
  refine ⟨v, h', _, _, ρ', h1, ?_, h2⟩
  unfold Instr.alloc
  rw [Sem.run_bind, hz]
  simp [newVar, newRow]

theorem box_ok {t : TypeId} (hi : Inv N0 ρ h w) (e : mk h (cells x) k = r) (hr : r ≠ .fail) (hx : VR ρ x X) : Does P N0 ρ h w (Instr.box t X) k r := by
  have hn : x ≠ .unk := ones_known (lay_ones _ _ _ e hr)
  obtain ⟨v, h', ρ', h1, h2⟩ := mk_ok (Vs := X.cells) t hi e hr (cells_rel hx hn)
  refine ⟨v, h', _, _, ρ', h1, ?_, h2⟩
  simp [Instr.box, newVar, newRow]

theorem run_places : ∀ (fs : List Field) (w : World), (∀ f ∈ fs, okT P f.type = true) →
    (fs.mapM (fun f => (do pure (f.offset, ← sizeOf f.type) : Sem (Nat × Nat)))).run P w = .ok (fs.map fun f => (f.offset, szOf P f.type)) w := by
  intro fs
  induction fs with
  | nil => intro w _; rfl
  | cons f fs ih =>
    intro w h
    rw [List.mapM_cons, Sem.run_bind, Sem.run_bind, sizeOf_run (h f (by simp))]
    simp only [Result.andThen_ok, Sem.run_pure]
    rw [Sem.run_bind, ih w (fun g hg => h g (by simp [hg]))]
    rfl

theorem tight_sum : ∀ (fs : List Field) (o : Nat), tight P fs o = true → ∀ i f, fs[i]? = some f → f.offset = o + ((fs.map fun f => szOf P f.type).take i).sum := by
  intro fs
  induction fs with
  | nil => intro o _ i f h; simp at h
  | cons g fs ih =>
    intro o ht i f h
    simp only [tight, Bool.and_eq_true, beq_iff] at ht
    cases i with
    | zero => simp at h; subst h; simp [ht.1]
    | succ i =>
      have := ih _ ht.2 i f (by simpa using h)
      rw [this]; simp; omega

theorem rep_eq {α : Type} (x : α) (n : Nat) : rep x n = List.replicate n x := by
  induction n with
  | zero => rfl
  | succ n ih => rw [List.replicate_succ, ← ih]; rfl
theorem rep_len {α : Type} (x : α) (n : Nat) : (rep x n).length = n := by rw [rep_eq, List.length_replicate]
theorem rep_mem {α : Type} {x u : α} {n : Nat} (h : u ∈ rep x n) : u = x := by rw [rep_eq] at h; exact List.eq_of_mem_replicate h
theorem rep_place (e : TypeId) (n : Nat) : ∀ i s, ((rep e n).map (szOf P))[i]? = some s → some (i * szOf P e, szOf P e) = some ((((rep e n).map (szOf P)).take i).sum, s) := by
  intro i s hs
  rw [rep_eq, List.map_replicate] at hs ⊢
  obtain ⟨hi, he⟩ := List.getElem?_eq_some_iff.1 hs
  rw [List.getElem_replicate] at he
  rw [List.take_replicate, List.sum_replicate_nat, ← he, Nat.min_eq_left (by simp at hi; omega)]

theorem build_ok {t : TypeId} {ps : List (Nat × AV)} {pv : Array (Nat × Value)} (hp : PRel ρ ps pv.toList)
    (e : (match P.underlying t with
      | some (.struct fs) => sif ((fs.toList.all fun f => okS P f.type) && (tight P fs.toList 0 && (distinct fs.size ps && (ones (cells (zeroV P t)) && Nat.beq (len (cells (zeroV P t))) (sizes P (fs.toList.map (·.type))))))) (bld (slots P (fs.toList.map (·.type)) ps 0 0 (cells (zeroV P t))) fun l => k (.agg l) h) .fail
      | some (.array n e) => sif (okS P e && (distinct n ps && (ones (cells (zeroV P t)) && Nat.beq (len (cells (zeroV P t))) (sizes P (rep e n))))) (bld (slots P (rep e n) ps 0 0 (cells (zeroV P t))) fun l => k (.agg l) h) .fail
      | _ => .fail) = r) (hr : r ≠ .fail) : ∃ v, k v h = r ∧ Pur P ρ (Instr.build t pv) v := by
  split at e
  · rename_i fs hu
    obtain ⟨h1, h2⟩ := sif_inv e hr
    simp only [Bool.and_eq_true, List.all_eq_true, beq_iff] at h1
    obtain ⟨h3, h4, h5, h6, h7⟩ := h1
    obtain ⟨z, hz, hl⟩ := zero_rel (P := P) (ρ := ρ) (t := t) h6
    have hok : ∀ f ∈ fs.toList, okT P f.type = true := fun f hf => by have := h3 f hf; simp only [okS, Bool.and_eq_true] at this; exact this.1
    obtain ⟨l, cs, g1, g2, g3, g4⟩ := fill_ok (P := P) (place := fun i => (fs.toList.map fun f => (f.offset, szOf P f.type)).toArray[i]?) hp (by simpa using h5) (by simpa using h3) hl h7 (by
      intro i s hs
      simp only [List.getElem?_map, Option.map_map] at hs
      simp only [List.getElem?_toArray, List.getElem?_map]
      cases hf : fs.toList[i]? with
      | none => rw [hf] at hs; simp at hs
      | some f =>
        rw [hf] at hs
        simp only [Option.map_some, Option.some.injEq, Function.comp] at hs
        subst hs
        have := tight_sum fs.toList 0 h4 i f hf
        simp only [Option.map_some, Option.some.injEq, Prod.mk.injEq]
        exact ⟨by rw [this, Nat.zero_add, List.map_map]; rfl, trivial⟩) h2 hr
    refine ⟨.agg l, g1, .agg cs, ⟨cs, rfl, g3⟩, fun w => ?_⟩
    unfold Instr.build
    rw [Sem.run_bind, hz]
    simp only [Result.andThen_ok]
    rw [Sem.run_bind, run_und hu]
    simp only [Result.andThen_ok]
    rw [Sem.run_bind, Array.mapM_eq_mapM_toList]
    rw [map_eq_pure_bind, Sem.run_bind, run_places _ _ hok]
    simp only [Result.andThen_ok, Sem.run_pure]
    rw [Array.toArray_toList] at g2
    rw [g2]; rfl
  · rename_i n e' hu
    obtain ⟨h1, h2⟩ := sif_inv e hr
    simp only [Bool.and_eq_true, beq_iff] at h1
    obtain ⟨h3, h5, h6, h7⟩ := h1
    obtain ⟨z, hz, hl⟩ := zero_rel (P := P) (ρ := ρ) (t := t) h6
    obtain ⟨l, cs, g1, g2, g3, g4⟩ := fill_ok (P := P) (place := fun i => some (i * szOf P e', szOf P e')) hp (by rw [rep_len]; exact h5) (by intro u hu; rw [rep_mem hu]; exact h3) hl h7 (rep_place e' n) h2 hr
    refine ⟨.agg l, g1, .agg cs, ⟨cs, rfl, g3⟩, fun w => ?_⟩
    have hok : okT P e' = true := by simp only [okS, Bool.and_eq_true] at h3; exact h3.1
    unfold Instr.build
    rw [Sem.run_bind, hz]
    simp only [Result.andThen_ok]
    rw [Sem.run_bind, run_und hu]
    simp only [Result.andThen_ok]
    rw [Sem.run_bind, sizeOf_run hok]
    simp only [Result.andThen_ok]
    rw [Array.toArray_toList] at g2
    rw [g2]; rfl
  · exact absurd e.symm hr
end
end Go.AM
