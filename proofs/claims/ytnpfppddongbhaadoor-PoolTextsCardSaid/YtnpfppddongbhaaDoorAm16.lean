/-
  The abstract machine, part 16: slices that are made.
-/
import Derived.Test.YtnpfppddongbhaaDoorAm15
namespace Go.AM
open Go
set_option autoImplicit false

section
variable {P : Program} {N0 : Base} {ρ : Rho} {h : Hp} {w : World} {x y : AV} {X Y : Value} {r : Res} {k : AV → Hp → Res}

theorem made_get (z : Array Value) (n i : Nat) (hi : i < n) : (madeCells z n)[i]? = some (z[i % z.size]!) := by
  unfold madeCells
  rw [Array.getElem?_map, Array.getElem?_eq_getElem (by simpa using hi)]
  simp

theorem rep_flat_get (zs : List Value) : ∀ (n i : Nat), i < n * zs.length → ((List.replicate n zs).flatten)[i]? = zs[i % zs.length]? := by
  intro n
  induction n with
  | zero => intro i h; simp at h
  | succ n ih =>
    intro i h
    rw [List.replicate_succ, List.flatten_cons]
    have hz : 0 < zs.length := by
      rcases Nat.eq_zero_or_pos zs.length with h0 | h0
      · rw [h0] at h; simp at h
      · exact h0
    by_cases hi : i < zs.length
    · rw [List.getElem?_append_left hi, Nat.mod_eq_of_lt hi]
    · have h' : (n + 1) * zs.length = n * zs.length + zs.length := Nat.succ_mul _ _
      rw [List.getElem?_append_right (by omega), ih _ (by omega)]
      congr 1
      exact (Nat.mod_eq_sub_mod (by omega)).symm

theorem made_flat (z : Array Value) (n : Nat) : (madeCells z (n * z.size)).toList = (List.replicate n z.toList).flatten := by
  apply List.ext_getElem?
  intro i
  by_cases hi : i < n * z.size
  · rw [rep_flat_get z.toList n i (by simpa using hi)]
    have := made_get z _ i hi
    rw [Array.getElem?_toList, this]
    have hz : 0 < z.size := by
      rcases Nat.eq_zero_or_pos z.size with h0 | h0
      · rw [h0] at hi; simp at hi
      · exact h0
    have hm := Nat.mod_lt i hz
    rw [show z.toList.length = z.size from by simp, Array.getElem?_toList, Array.getElem?_eq_getElem hm, getElem!_pos z _ hm]
  · rw [List.getElem?_eq_none (by rw [Array.length_toList, size_madeCells]; omega), List.getElem?_eq_none (by simp; omega)]

/-- A new row with cells in front of which nothing else is known. -/
theorem row_ok (tp : Nat) {l : AV} {Vs : List Value} {cs : Array Value} {et : TypeId} {w' : World} {t' : T AV} {fz : Nat × Nat} (hi : Inv N0 ρ h w) (hl : LR ρ l Vs) (hnu : Nu w w' cs et fz) (hz : ∀ j, j < cs.size → ¬ (fz.1 ≤ j ∧ j < fz.2))
    (ht : ∀ j, t'.get j = if 0 ≤ j ∧ j < 0 + len l then some (nth l (j - 0)) else (T.e : T AV).get j) (hcs : ∀ (i : Nat) (V : Value), Vs[i]? = some V → cs[i]? = some V) :
    ∃ ρ', ρ' h.nb = some ⟨w.heap.size, 0, cs.size, tp⟩ ∧ Inv N0 ρ' (nw h (len l) .nil t') w' ∧ Tr ρ h w ρ' (nw h (len l) .nil t') w' := by
  have hlen := LR_len l _ hl
  have hle : len l ≤ cs.size := by
    rcases Nat.eq_zero_or_pos Vs.length with h0 | h0
    · omega
    · have := hcs (Vs.length - 1) (Vs[Vs.length - 1]'(by omega)) (by simp)
      have := (Array.getElem?_eq_some_iff.1 this).1
      omega
  obtain ⟨i1, i2⟩ := new_inv tp (lim := len l) (df := .nil) (t := t') hi hnu hz hle (by
    intro i hlt
    obtain ⟨V, g1, g2⟩ := lay_new hl ht h.nb i hlt
    exact ⟨V, hcs i V (by simpa using g1), g2⟩)
  exact ⟨_, ups_same _ _ _, i1, i2⟩

theorem mkS_ok {u : TypeId} {n z : Nat} {l : AV} {cs : Array Value} (hi : Inv N0 ρ h w) (e : mkS h z n l k = r) (hr : r ≠ .fail) (hl : LR ρ l cs.toList) :
    ∃ v h' ρ', k v h' = r ∧ Out N0 ρ h w v h' (.slice (some ⟨w.heap.size, 0, none⟩) n n) (w.alloc (.cells cs u)) ρ' := by
  obtain ⟨t', h1, h2, h3⟩ := lay_inv l .e 0 e hr
  obtain ⟨h4, h5⟩ := ifF_inv h1 hr
  rw [beq_iff] at h4
  have h4 : 0 + len l = n * z := h4
  rw [Nat.zero_add] at h4 h5
  have hlen := LR_len l _ hl
  rw [Array.length_toList] at hlen
  obtain ⟨ρ', g1, g2, g3⟩ := row_ok 0 hi hl (nu_alloc cs u) (fun j _ => by simp) h2 (fun i V hV => by simpa using hV)
  refine ⟨_, _, ρ', h5, ⟨_, n, g1, rfl, Nat.le_refl _, .inr rfl, ?_⟩, g2, g3⟩
  show 0 + 0 + n * z ≤ cs.size
  omega

theorem buildSlice_ok {t u : TypeId} {n : Nat} {ps : List (Nat × AV)} {pv : Array (Nat × Value)} (hi : Inv N0 ρ h w) (hp : PRel ρ ps pv.toList) (hu : P.underlying t = some (.slice u))
    (hc : (okS P u && (distinct n ps && (ones (cells (zeroV P u)) && (Nat.beq (len (cells (zeroV P u))) (szOf P u) && Nat.ble (Nat.mul n (szOf P u)) 16777216)))) = true)
    (e : bld (slots P (rep u n) ps 0 0 (repL (cells (zeroV P u)) n)) (fun l => mkS h (szOf P u) n l k) = r) (hr : r ≠ .fail) : Does P N0 ρ h w (Instr.buildSlice t n pv) k r := by
  simp only [Bool.and_eq_true, beq_iff, ble_iff] at hc
  obtain ⟨h1, h2, h3, h4, h5⟩ := hc
  have hok : okT P u = true := by simp only [okS, Bool.and_eq_true] at h1; exact h1.1
  obtain ⟨z, hz, hl⟩ := zero_rel (P := P) (ρ := ρ) (t := u) h3
  have hzl := LR_len _ _ hl
  rw [h4, Array.length_toList] at hzl
  have hL := repL_rel _ _ hl n
  rw [← made_flat] at hL
  have hlen : len (repL (cells (zeroV P u)) n) = sizes P (rep u n) := by
    rw [LR_len _ _ hL, Array.length_toList, size_madeCells, sizes_sum, rep_eq, List.map_replicate, List.sum_replicate_nat, hzl]
  obtain ⟨l, cs, g1, g2, g3, g4⟩ := fill_ok (P := P) (place := fun i => some (i * szOf P u, szOf P u)) hp (by rw [rep_len]; exact h2) (by intro v hv; rw [rep_mem hv]; exact h1) hL hlen (rep_place u n) e hr
  obtain ⟨v, h', ρ', g5, g6⟩ := mkS_ok (u := u) (cs := cs) hi g1 hr g3
  refine ⟨v, h', _, _, ρ', g5, ?_, g6⟩
  rw [Array.toArray_toList] at g2
  have h5 : n * szOf P u ≤ 16777216 := h5
  unfold Instr.buildSlice
  rw [Sem.run_bind, run_und hu]
  simp only [Result.andThen_ok]
  rw [Sem.run_bind, sizeOf_run hok]
  simp only [Result.andThen_ok]
  have hbig : ¬ n * szOf P u > 2 ^ 24 := by omega
  simp only [if_neg hbig, pure_bind]
  by_cases h0 : n * szOf P u = 0
  · rw [← hzl, h0] at g2
    have he : madeCells z.cells 0 = madeCells #[] 0 := by simp [madeCells]
    rw [he] at g2
    simp only [h0, if_true]
    have g2 : Instr.fill (fun i => some (i * szOf P u, szOf P u)) ((Array.range 0).map ((#[] : Array Value)[· % (#[] : Array Value).size]!)) pv.toList = some cs := g2
    rw [g2]
    simp [newRow]
  · simp only [if_neg h0]
    rw [Sem.run_bind, hz]
    simp only [Result.andThen_ok]
    rw [← hzl] at g2
    have g2 : Instr.fill (fun i => some (i * szOf P u, szOf P u)) ((Array.range (n * szOf P u)).map (z.cells[· % z.cells.size]!)) pv.toList = some cs := g2
    rw [g2]
    simp [newRow]
end
end Go.AM
