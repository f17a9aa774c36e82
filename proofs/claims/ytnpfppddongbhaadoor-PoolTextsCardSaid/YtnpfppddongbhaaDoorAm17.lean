/-
  The abstract machine, part 17: 'make'; what is appended or copied; texts and bytes.
-/
import Derived.Test.YtnpfppddongbhaaDoorAm16
import Derived.Laws.BytesString
import Derived.Laws.Append
namespace Go.AM
open Go
set_option autoImplicit false

section
variable {P : Program} {N0 : Base} {ρ : Rho} {h : Hp} {w : World} {x y : AV} {X Y : Value} {r : Res}

theorem zero_info {t : TypeId} (h : ones (cells (zeroV P t)) = true) : ∃ i z, P.info? t = some i ∧ i.zero = some z ∧ LR ρ (cells (zeroV P t)) z.cells.toList := by
  have hk := ones_known h
  unfold zeroV at hk ⊢
  cases hi : P.info? t with
  | none => rw [hi] at hk; exact absurd rfl hk
  | some i =>
    rw [hi] at hk
    simp only at hk ⊢
    cases hz : i.zero with
    | none => rw [hz] at hk; exact absurd rfl hk
    | some z =>
      rw [hz] at hk
      exact ⟨i, z, rfl, hz, cells_rel (ofV_rel z) hk⟩

theorem szOf_info {t : TypeId} {i : TypeInfo} (h : P.info? t = some i) : szOf P t = i.size := by simp [szOf, h]
theorem byOf_info {t : TypeId} {i : TypeInfo} (h : P.info? t = some i) : byOf P t = i.bytes := by simp [byOf, h]

theorem mkM_ok {t u : TypeId} {k : AV → Hp → Res} (hi : Inv N0 ρ h w) (hu : P.underlying t = some (.slice u)) (hc : (ones (cells (zeroV P u)) && Nat.beq (len (cells (zeroV P u))) (szOf P u)) = true)
    (e : mkM h (cells (zeroV P u)) (byOf P u) x y k = r) (hr : r ≠ .fail) (hx : VR ρ x X) (hy : VR ρ y Y) : Does P N0 ρ h w (Instr.makeSlice t X Y) k r := by
  simp only [Bool.and_eq_true, beq_iff] at hc
  obtain ⟨h1, h2⟩ := hc
  obtain ⟨i, z, hinf, hz, hl⟩ := zero_info (P := P) (ρ := ρ) (t := u) h1
  obtain ⟨c1, a, rfl, h3⟩ := cI_inv e hr
  obtain ⟨c2, b, rfl, h4⟩ := cI_inv h3 hr
  obtain ⟨l, rfl, h5⟩ := natC_inv h4 hr
  obtain ⟨c, rfl, h6⟩ := natC_inv h5 hr
  obtain ⟨h7, h8⟩ := ifF_inv h6 hr
  obtain ⟨h9, h10⟩ := ifF_inv h8 hr
  obtain ⟨h11, h12⟩ := ifF_inv h10 hr
  rw [ble_iff] at h7 h9 h11
  have h9 : byOf P u * c ≤ 140737488355328 := h9
  obtain ⟨k1, -, rfl⟩ := hx
  obtain ⟨k2, -, rfl⟩ := hy
  have hzl := LR_len _ _ hl
  rw [Array.length_toList] at hzl
  rw [byOf_info hinf] at h9
  have hrun := run_make (P := P) w t u i z hu hinf hz k1 k2 l c (by omega) (by omega) (by rw [← Int.natCast_mul]; omega) (by omega)
  simp only [Int.toNat_natCast] at hrun
  rw [← szOf_info hinf, ← h2, hzl] at hrun
  obtain ⟨i1, i2⟩ := new_inv 0 (lim := c * z.cells.size) (df := cells (zeroV P u)) (t := .e) hi (nu_alloc (madeCells z.cells (c * z.cells.size)) u) (fun j _ => by simp) (by rw [size_madeCells]; exact Nat.le_refl _) (by
    intro j hj
    have hzp : 0 < z.cells.size := by
      rcases Nat.eq_zero_or_pos z.cells.size with h0 | h0
      · rw [h0] at hj; simp at hj
      · exact h0
    have hm := Nat.mod_lt j hzp
    refine ⟨_, made_get _ _ _ hj, ?_⟩
    rw [at_eq, if_pos hj]
    show VR ρ (nth (cells (zeroV P u)) (j % len (cells (zeroV P u)))) _
    rw [hzl]
    refine LR_get _ _ hl _ _ ?_
    rw [Array.getElem?_toList, Array.getElem?_eq_getElem hm, getElem!_pos z.cells _ hm])
  refine ⟨_, _, _, _, ups ρ h.nb ⟨w.heap.size, 0, (madeCells z.cells (c * z.cells.size)).size, 0⟩, h12, hrun, ⟨⟨w.heap.size, 0, (madeCells z.cells (c * z.cells.size)).size, 0⟩, c, ups_same _ _ _, rfl, h7, .inr rfl, ?_⟩, ?_, ?_⟩
  · show 0 + 0 + c * len (cells (zeroV P u)) ≤ (madeCells z.cells (c * z.cells.size)).size
    rw [size_madeCells, hzl]; omega
  · show Inv _ _ (nw h (c * len (cells (zeroV P u))) (cells (zeroV P u)) .e) _
    rw [hzl]; exact i1
  · show Tr _ _ _ _ (nw h (c * len (cells (zeroV P u))) (cells (zeroV P u)) .e) _
    rw [hzl]; exact i2

theorem bytesL_rel : ∀ (l : List UInt8), LR ρ (bytesL l.length (packB l)) (l.map fun b => Value.int .u8 b.toNat) := by
  intro l
  induction l with
  | nil => rfl
  | cons b l ih =>
    have h2 : packB (b :: l) = b.toNat + 256 * packB l := rfl
    have hb := b.toNat_lt
    refine ⟨.int .u8 b.toNat, _, rfl, ⟨.u8, rfl, ?_⟩, ?_⟩
    · have : Nat.mod (packB (b :: l)) 256 = b.toNat := by rw [h2]; show (b.toNat + 256 * packB l) % 256 = _; omega
      rw [this]; rfl
    · have : Nat.div (packB (b :: l)) 256 = packB l := by rw [h2]; show (b.toNat + 256 * packB l) / 256 = _; omega
      show LR ρ (bytesL l.length (Nat.div (packB (b :: l)) 256)) _
      rw [this]; exact ih

/-- The cells that are appended or copied. -/
structure Src (P : Program) (ρ : Rho) (w : World) (z m : Nat) (Y : Value) (l : AV) (Vs : List Value) : Prop where
  rel : LR ρ l Vs
  length : Vs.length = m * z
  run : ∀ w', w'.heap = w.heap → (Builtin.firstCells z m Y).run P w' = .ok Vs.toArray w'

theorem src_ok {z : Nat} {k : Nat → AV → Res} (hi : Inv N0 ρ h w) (e : src h z y k = r) (hr : r ≠ .fail) (hy : VR ρ y Y) :
    ∃ m l Vs, k m l = r ∧ Src P ρ w z m Y l Vs ∧ ∀ w', (Builtin.lenOf Y).run P w' = .ok m w' := by
  cases y with
  | str n x =>
    obtain ⟨s, rfl, rfl, rfl⟩ := hy
    obtain ⟨h1, h2⟩ := ifF_inv e hr
    rw [beq_iff] at h1
    subst h1
    refine ⟨_, _, _, h2, ⟨by simpa using bytesL_rel (ρ := ρ) s.data.toList, by simp, fun w' _ => ?_⟩, fun w' => rfl⟩
    simp [Builtin.firstCells, ← Array.toList_map]
  | nils =>
    have hy : Y = .slice none 0 0 := hy
    subst hy
    exact ⟨0, .nil, [], e, ⟨rfl, by simp, fun w' _ => by simp [Builtin.firstCells]⟩, fun w' => rfl⟩
  | esl =>
    obtain ⟨a, c', rfl⟩ := hy
    exact ⟨0, .nil, [], e, ⟨rfl, by simp, fun w' _ => by simp [Builtin.firstCells, loadCells, loadCellsFrom]⟩, fun w' => rfl⟩
  | sl b o n z' c =>
    obtain ⟨h1, h2⟩ := ifF_inv e hr
    rw [beq_iff] at h1
    subst h1
    obtain ⟨B, hb, hrd, h3⟩ := gb_inv h2 hr
    obtain ⟨p, c', hp, rfl, -⟩ := hy
    obtain ⟨p', hp', hB⟩ := hi.blk b B hb
    obtain rfl : p = p' := by rw [hp] at hp'; exact Option.some.inj hp'
    obtain ⟨l, Vs, g1, g2, g3, -, g5⟩ := rds_ok hB hrd _ _ h3 hr
    refine ⟨n, l, Vs, g1, ⟨g3, g2, fun w' hw => ?_⟩, fun w' => rfl⟩
    refine run_firstCells_some w' z n _ n c' Vs g2 (fun j v hv => ?_)
    have := g5 j v hv
    rw [addr_add, Nat.add_assoc]
    simpa [World.cell?, hw] using this
  | _ => exact absurd e.symm hr

theorem packL_ok : ∀ (l : AV) (Vs : List Value) {k : Nat → Res}, LR ρ l Vs → packL l k = r → r ≠ .fail →
    ∃ bs : List UInt8, k (packB bs) = r ∧ Vs = bs.map fun b => Value.int .u8 b.toNat := by
  intro l
  induction l with
  | nil => intro Vs k hl e hr; have hl : Vs = [] := hl; subst hl; exact ⟨[], e, rfl⟩
  | cons v l _ ih =>
    intro Vs k hl e hr
    obtain ⟨V, Vs', rfl, g1, g2⟩ := hl
    have e : cI v (fun c n => ifB (Nat.beq c 8) (Int.rec (motive := fun _ => Res) (fun m => ifB (Nat.blt m 256) (packL l fun p => k (Nat.add m (Nat.mul 256 p))) .fail) (fun _ => .fail) n) .fail) = r := e
    obtain ⟨c, n, rfl, h1⟩ := cI_inv e hr
    obtain ⟨h2, h3⟩ := ifF_inv h1 hr
    obtain ⟨m, rfl, h4⟩ := natC_inv h3 hr
    obtain ⟨h5, h6⟩ := ifF_inv h4 hr
    rw [beq_iff] at h2
    rw [blt_iff] at h5
    obtain ⟨kd, hk, rfl⟩ := g1
    obtain rfl : kd = .u8 := cOf_k hk (by rw [h2]; rfl)
    obtain ⟨bs, h7, h8⟩ := ih Vs' g2 h6 hr
    have hm : (UInt8.ofNat m).toNat = m := by simp; omega
    refine ⟨UInt8.ofNat m :: bs, ?_, by rw [h8, List.map_cons, hm]⟩
    have : packB (UInt8.ofNat m :: bs) = (UInt8.ofNat m).toNat + 256 * packB bs := rfl
    rw [this, hm]; exact h7
  | _ => intro Vs k hl e hr; exact absurd e.symm hr

theorem push_bytes : ∀ (bs : List UInt8) (s : ByteArray), ((bs.map fun b => (b.toNat : Int)).foldl (fun r n => r.push (UInt8.ofNat n.toNat)) s).data.toList = s.data.toList ++ bs := by
  intro bs
  induction bs with
  | nil => intro s; simp
  | cons b bs ih => intro s; simp [ih]

theorem b2s_ok {s d u : TypeId} {k : AV → Res} (hi : Inv N0 ρ h w) (hs : P.underlying s = some (.slice u)) (hd : P.underlying d = some .string) (hu : P.underlying u = some (.int .u8))
    (e : b2s h x k = r) (hr : r ≠ .fail) (hx : VR ρ x X) : ∃ v V, k v = r ∧ VR ρ v V ∧ (convert s d X).run P w = .ok V w := by
  have e0 : noS x (src h 1 x fun n l => packL l fun p => k (.str n p)) = r := e
  have hf : ∀ n y, x ≠ .str n y := fun n y hxs => by subst hxs; exact hr e0.symm
  have e : src h 1 x (fun n l => packL l fun p => k (.str n p)) = r := by
    cases x <;> first
      | exact absurd e0.symm hr
      | exact e0
  obtain ⟨m, l, Vs, h1, h2, h3⟩ := src_ok (P := P) hi e hr hx
  obtain ⟨bs, h4, h5⟩ := packL_ok l Vs h2.rel h1 hr
  have hlen := h2.length
  rw [Nat.mul_one, h5, List.length_map] at hlen
  have conv : ∀ a n c, X = .slice a n c → (convert s d X).run P w = (Conv.bytesToString X).run P w := by
    intro a n c hX
    subst hX
    unfold convert
    rw [Sem.run_bind, run_und hs]
    simp only [Result.andThen_ok]
    rw [Sem.run_bind, run_und hd]
    simp only [Result.andThen_ok]
    rw [Sem.run_bind, run_und hu]
    rfl
  have go : ∀ (V : ByteArray), V.data.toList = bs → (convert s d X).run P w = .ok (.string V) w → ∃ v V, k v = r ∧ VR ρ v V ∧ (convert s d X).run P w = .ok V w := by
    intro V hV hrun
    refine ⟨_, _, h4, ⟨V, rfl, ?_, by rw [hV]⟩, hrun⟩
    rw [← Array.length_toList, hV]; exact hlen
  cases x with
  | str n y => exact absurd rfl (hf n y)
  | nils =>
    have hx : X = .slice none 0 0 := hx
    subst hx
    have hm := h3 w
    simp only [Builtin.lenOf, Sem.run_pure, Result.ok.injEq, and_true] at hm
    subst hm
    obtain rfl : bs = [] := List.eq_nil_of_length_eq_zero hlen
    exact go .empty rfl (by rw [conv _ _ _ rfl]; simp [Conv.bytesToString])
  | esl =>
    obtain ⟨a, c', rfl⟩ := hx
    have hm := h3 w
    simp only [Builtin.lenOf, Sem.run_pure, Result.ok.injEq, and_true] at hm
    subst hm
    obtain rfl : bs = [] := List.eq_nil_of_length_eq_zero hlen
    exact go .empty rfl (by rw [conv _ _ _ rfl, run_bytesToString w a 0 c' [] (by simp [loadCells, loadCellsFrom])]; rfl)
  | sl b o n z c =>
    obtain ⟨p, c', hp, rfl, -⟩ := hx
    have hm := h3 w
    simp only [Builtin.lenOf, Sem.run_pure, Result.ok.injEq, and_true] at hm
    subst hm
    have hl := h2.run w rfl
    simp only [Builtin.firstCells, Nat.mul_one] at hl
    have hmap : bs.map (fun b => Value.int .u8 (b.toNat : Int)) = (bs.map fun b => (b.toNat : Int)).map (Value.int .u8) := by rw [List.map_map]; rfl
    rw [h5, hmap] at hl
    exact go ((bs.map fun b => (b.toNat : Int)).foldl (fun r n => r.push (UInt8.ofNat n.toNat)) ByteArray.empty) (by rw [push_bytes]; rfl) (by rw [conv _ _ _ rfl, run_bytesToString w _ _ c' _ hl])
  | _ => exact absurd e.symm hr
end
end Go.AM
