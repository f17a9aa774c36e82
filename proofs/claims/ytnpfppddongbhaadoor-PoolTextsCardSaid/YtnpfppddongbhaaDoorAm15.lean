/-
  The abstract machine, part 15: cuts; slices that are made.
-/
import Derived.Test.YtnpfppddongbhaaDoorAm14
import Derived.Laws.MakeOwn
namespace Go.AM
open Go
set_option autoImplicit false

/-- A bound of a cut. -/
def BV (d j : Nat) (x : Option Value) : Prop := (x = none ∧ j = d) ∨ ∃ k, x = some (.int k j)
def OR (ρ : Rho) (x : Option AV) (X : Option Value) : Prop := (x = none ∧ X = none) ∨ ∃ y Y, x = some y ∧ X = some Y ∧ VR ρ y Y

section
variable {P : Program} {N0 : Base} {ρ : Rho} {h : Hp} {w : World} {x y : AV} {X Y : Value} {r : Res} {k : AV → Res} {lo hi mx : Option AV} {LO HI MX : Option Value}

theorem bnd_ok {d : Nat} {x : Option AV} {X : Option Value} {k : Nat → Res} (e : bnd d x k = r) (hr : r ≠ .fail) (hx : OR ρ x X) : ∃ j, k j = r ∧ BV d j X := by
  rcases hx with ⟨rfl, rfl⟩ | ⟨y, Y, rfl, rfl, hy⟩
  · exact ⟨d, e, .inl ⟨rfl, rfl⟩⟩
  · have e : cI y (fun _ j => Int.rec (motive := fun _ => Res) k (fun _ => .fail) j) = r := e
    obtain ⟨c, n, rfl, h1⟩ := cI_inv e hr
    obtain ⟨m, rfl, h2⟩ := natC_inv h1 hr
    obtain ⟨kd, rfl, rfl⟩ := hy
    exact ⟨m, h2, .inr ⟨kd, rfl⟩⟩

theorem sb {kd : IntKind} {j y : Nat} {code : BoundsCode} (hj : j ≤ y) (w : World) : (Instr.sliceBound (.int kd (j : Int)) y code).run P w = .ok j w := by
  rw [run_sliceBound w kd j y code (by omega) (by omega)]; rfl

theorem bounds_run {is : Bool} {len cap l m n : Nat} (hl : BV 0 l LO) (hm : BV len m HI) (hn : BV cap n MX) (c1 : n ≤ cap) (c2 : m ≤ n) (c3 : l ≤ m) (hx : MX = none ∨ HI ≠ none) (w : World) :
    (Instr.sliceBounds is len cap LO HI MX).run P w = .ok (l, m, n) w := by
  unfold Instr.sliceBounds
  rcases hn with ⟨a1, b1⟩ | ⟨kn, a1⟩ <;> rcases hm with ⟨a2, b2⟩ | ⟨km, a2⟩ <;> rcases hl with ⟨a3, b3⟩ | ⟨kl, a3⟩ <;> subst a1 <;> subst a2 <;> subst a3 <;> (try subst b1) <;> (try subst b2) <;> (try subst b3) <;> first
    | (exfalso; simp at hx; done)
    | (simp [sb, c1, c2, c3]; done)
    | (simp [sb, c2, c3]; done)
    | (simp [sb, c3]; done)
    | (simp [sb, c1, c2]; done)
    | (simp [sb, c2]; done)
    | (simp [sb, c1]; done)
    | simp

theorem cutO_eq (o l z m : Nat) : cutO o l z m = if m = l then o else o + l * z := by
  have : cutO o l z m = Bool.rec (motive := fun _ => Nat) (o + l * z) o (Nat.beq m l) := rfl
  rw [this, recB]; simp only [beq_iff]

theorem cut_fit {l c z : Nat} (h : l ≤ c) : l * z + (c - l) * z = c * z := by rw [← Nat.add_mul]; congr 1; omega

theorem slice_run {t u : TypeId} {a : Option Addr} {len cap l m n : Nat} (hu : P.underlying t = some (.slice u)) (hok : okT P u = true) (hl : BV 0 l LO) (hm : BV len m HI) (hn : BV cap n MX) (c1 : n ≤ cap) (c2 : m ≤ n) (c3 : l ≤ m)
    (hx : MX = none ∨ HI ≠ none) (w : World) : (Instr.sliceAt t (.slice a len cap) LO HI MX).run P w = .ok (.slice (if n = l then a else a.map (·.add (l * szOf P u))) (m - l) (n - l)) w := by
  unfold Instr.sliceAt
  rw [Sem.run_bind, run_und hu]
  simp only [Result.andThen_ok]
  unfold Instr.slice
  rw [Sem.run_bind, run_und hu]
  simp only [Result.andThen_ok]
  rw [Sem.run_bind, bounds_run hl hm hn c1 c2 c3 hx]
  simp only [Result.andThen_ok]
  rw [Sem.run_bind, sizeOf_run hok]
  rfl

theorem cutS_ok {t u : TypeId} (hu : P.underlying t = some (.slice u)) (hok : okT P u = true) (hmh : (mx.isNone || hi.isSome) = true) (e : cutS (szOf P u) x lo hi mx k = r) (hr : r ≠ .fail) (hx : VR ρ x X)
    (hl : OR ρ lo LO) (hm : OR ρ hi HI) (hn : OR ρ mx MX) : ∃ v, k v = r ∧ Pur P ρ (Instr.sliceAt t X LO HI MX) v := by
  have hxm : MX = none ∨ HI ≠ none := by
    rcases hn with ⟨rfl, rfl⟩ | ⟨y, Y, rfl, rfl, -⟩
    · exact .inl rfl
    · rcases hm with ⟨rfl, rfl⟩ | ⟨y, Y, rfl, rfl, -⟩
      · simp at hmh
      · exact .inr (by simp)
  cases x with
  | nils =>
    have hx : X = .slice none 0 0 := hx
    subst hx
    have e : bnd 0 lo (fun l => bnd 0 hi fun h => bnd 0 mx fun m => ifB (Nat.beq (Nat.add (Nat.add l h) m) 0) (k .nils) .fail) = r := e
    obtain ⟨l, h1, g1⟩ := bnd_ok e hr hl
    obtain ⟨m, h2, g2⟩ := bnd_ok h1 hr hm
    obtain ⟨n, h3, g3⟩ := bnd_ok h2 hr hn
    obtain ⟨h4, h5⟩ := ifF_inv h3 hr
    rw [beq_iff] at h4
    have h4 : l + m + n = 0 := h4
    refine ⟨_, h5, .slice none 0 0, rfl, fun w => ?_⟩
    rw [slice_run hu hok g1 g2 g3 (by omega) (by omega) (by omega) hxm w]
    have e1 : l = 0 := by omega
    have e2 : m = 0 := by omega
    have e3 : n = 0 := by omega
    simp [e1, e2, e3]
  | esl =>
    obtain ⟨a, c', rfl⟩ := hx
    have e : bnd 0 lo (fun l => bnd 0 hi fun h => Option.rec (motive := fun _ => Res) (ifB (Nat.beq (Nat.add l h) 0) (k .esl) .fail) (fun _ => .fail) mx) = r := e
    obtain ⟨l, h1, g1⟩ := bnd_ok e hr hl
    obtain ⟨m, h2, g2⟩ := bnd_ok h1 hr hm
    cases mx with
    | some y => exact absurd h2.symm hr
    | none =>
      have hMX : MX = none := by
        rcases hn with ⟨-, h⟩ | ⟨y, Y, h, -⟩
        · exact h
        · cases h
      subst hMX
      obtain ⟨h4, h5⟩ := ifF_inv h2 hr
      rw [beq_iff] at h4
      have h4 : l + m = 0 := h4
      have e1 : l = 0 := by omega
      have e2 : m = 0 := by omega
      subst e1 e2
      refine ⟨_, h5, _, ?_, fun w => slice_run hu hok g1 g2 (.inl ⟨rfl, rfl⟩) (Nat.le_refl _) (by omega) (by omega) hxm w⟩
      split
      · exact ⟨_, _, rfl⟩
      · exact ⟨_, _, rfl⟩
  | sl b o n z' c =>
    have e : ifB (Nat.beq (szOf P u) z') _ .fail = r := e
    obtain ⟨h1, h2⟩ := ifF_inv e hr
    rw [beq_iff] at h1
    subst h1
    obtain ⟨p, c', hp, rfl, hnc, hcc, hfit⟩ := hx
    cases c with
    | some c =>
      obtain rfl : c = c' := by rcases hcc with ⟨h, -⟩ | h; (cases h); exact Option.some.inj h
      obtain ⟨l, h3, g1⟩ := bnd_ok h2 hr hl
      obtain ⟨m, h4, g2⟩ := bnd_ok h3 hr hm
      obtain ⟨nn, h5, g3⟩ := bnd_ok h4 hr hn
      obtain ⟨h6, h7⟩ := ifF_inv h5 hr
      obtain ⟨h8, h9⟩ := ifF_inv h7 hr
      obtain ⟨h10, h11⟩ := ifF_inv h9 hr
      rw [ble_iff] at h6 h8 h10
      refine ⟨_, h11, .slice (some ⟨p.r, p.base + cutO o l (szOf P u) nn, none⟩) (m - l) (nn - l), ⟨p, nn - l, hp, rfl, Nat.sub_le_sub_right h8 l, .inr rfl, ?_⟩, fun w => ?_⟩
      · have := cut_fit (z := szOf P u) (show l ≤ nn from by omega)
        have h12 := Nat.mul_le_mul_right (szOf P u) h6
        rw [cutO_eq]; split
        · rename_i he
          rw [he, Nat.sub_self, Nat.zero_mul]; omega
        · omega
      · rw [slice_run hu hok g1 g2 g3 h6 h8 h10 hxm w, cutO_eq]
        congr 2
        split
        · rfl
        · simp [addr_add, Nat.add_assoc]
    | none =>
      cases mx with
      | some mm =>
        obtain ⟨l, h3, g1⟩ := bnd_ok h2 hr hl
        obtain ⟨m, h4, g2⟩ := bnd_ok h3 hr hm
        obtain ⟨nn, h5, g3⟩ := bnd_ok h4 hr hn
        obtain ⟨h6, h7⟩ := ifF_inv h5 hr
        obtain ⟨h8, h9⟩ := ifF_inv h7 hr
        obtain ⟨h10, h11⟩ := ifF_inv h9 hr
        rw [ble_iff] at h6 h8 h10
        have g4 : BV c' nn MX := by
          rcases g3 with ⟨h, -⟩ | h
          · rcases hn with ⟨h', -⟩ | ⟨y, Y, -, h', -⟩
            · cases h'
            · rw [h] at h'; cases h'
          · exact .inr h
        refine ⟨_, h11, .slice (some ⟨p.r, p.base + cutO o l (szOf P u) nn, none⟩) (m - l) (nn - l), ⟨p, nn - l, hp, rfl, Nat.sub_le_sub_right h8 l, .inr rfl, ?_⟩, fun w => ?_⟩
        · have := cut_fit (z := szOf P u) (show l ≤ nn from by omega)
          have h12 := Nat.mul_le_mul_right (szOf P u) (show nn ≤ c' from by omega)
          rw [cutO_eq]; split
          · rename_i he
            rw [he, Nat.sub_self, Nat.zero_mul]; omega
          · omega
        · rw [slice_run hu hok g1 g2 g4 (by omega) h8 h10 hxm w, cutO_eq]
          congr 2
          split
          · rfl
          · simp [addr_add, Nat.add_assoc]
      | none =>
        have hMX : MX = none := by
          rcases hn with ⟨-, h⟩ | ⟨y, Y, h, -⟩
          · exact h
          · cases h
        subst hMX
        obtain ⟨l, h3, g1⟩ := bnd_ok h2 hr hl
        obtain ⟨m, h4, g2⟩ := bnd_ok h3 hr hm
        obtain ⟨h6, h7⟩ := ifF_inv h4 hr
        obtain ⟨h8, h9⟩ := ifF_inv h7 hr
        rw [ble_iff] at h6 h8
        have hrun := fun w => slice_run (a := some ⟨p.r, p.base + o, none⟩) hu hok g1 g2 (.inl ⟨rfl, rfl⟩ : BV c' c' none) (Nat.le_refl _) (by omega) h8 (.inl rfl) w
        have htop : o + c' * szOf P u = p.top := by
          rcases hcc with ⟨-, h⟩ | h
          · exact h
          · cases h
        rcases ifB_inv h9 with ⟨h10, h11⟩ | ⟨h10, h11⟩
        · rw [beq_iff] at h10
          subst h10
          refine ⟨_, h11, .slice (some ⟨p.r, p.base + o, none⟩) m c', ⟨p, c', hp, rfl, by omega, .inl ⟨rfl, htop⟩, hfit⟩, fun w => ?_⟩
          rw [hrun w]
          have ha : (if c' = 0 then some (⟨p.r, p.base + o, none⟩ : Addr) else (some (⟨p.r, p.base + o, none⟩ : Addr)).map (·.add (0 * szOf P u))) = some ⟨p.r, p.base + o, none⟩ := by
            split
            · rfl
            · simp [addr_add]
          rw [ha, Nat.sub_zero, Nat.sub_zero]
        · rcases ifB_inv h11 with ⟨h12, h13⟩ | ⟨h12, h13⟩
          · rw [blt_iff] at h12
            refine ⟨_, h13, .slice (some ⟨p.r, p.base + (o + l * szOf P u), none⟩) (m - l) (c' - l), ⟨p, c' - l, hp, rfl, Nat.sub_le_sub_right (show m ≤ c' by omega) l, .inl ⟨rfl, by have := cut_fit (z := szOf P u) (show l ≤ c' from by omega); show o + l * szOf P u + (c' - l) * szOf P u = p.top; omega⟩, ?_⟩, fun w => ?_⟩
            · have := cut_fit (z := szOf P u) (show l ≤ c' from by omega)
              show p.base + (o + l * szOf P u) + (c' - l) * szOf P u ≤ p.sz
              omega
            · rw [hrun w, if_neg (by omega)]
              simp [addr_add, Nat.add_assoc]
          · have h12 : ¬ l < n := fun h => by rw [← blt_iff, h12] at h; cases h
            have hml : m - l = 0 := by omega
            refine ⟨_, h13, _, ?_, hrun⟩
            rw [hml]
            split
            · exact ⟨_, _, rfl⟩
            · exact ⟨_, _, rfl⟩
  | _ => exact absurd e.symm hr

theorem cutP_ok {t u : TypeId} {n : Nat} (hi' : Inv N0 ρ h w) (hu : P.underlying t = some (.array n u)) (hok : okT P u = true) (hmh : (mx.isNone || hi.isSome) = true) (e : cutP h n (szOf P u) x lo hi mx k = r) (hr : r ≠ .fail) (hx : VR ρ x X)
    (hl : OR ρ lo LO) (hm : OR ρ hi HI) (hn : OR ρ mx MX) : ∃ v, k v = r ∧ Pur P ρ (Instr.sliceAt t X LO HI MX) v := by
  have hxm : MX = none ∨ HI ≠ none := by
    rcases hn with ⟨rfl, rfl⟩ | ⟨y, Y, rfl, rfl, -⟩
    · exact .inl rfl
    · rcases hm with ⟨rfl, rfl⟩ | ⟨y, Y, rfl, rfl, -⟩
      · simp at hmh
      · exact .inr (by simp)
  obtain ⟨b, o, rfl, h1⟩ := cP_inv e hr
  cases hb : h.bs.get b with
  | none => rw [hb] at h1; exact absurd h1.symm hr
  | some B =>
    rw [hb] at h1
    obtain ⟨h2, h3⟩ := ifF_inv h1 hr
    rw [ble_iff] at h2
    have h2 : o + n * szOf P u ≤ B.lim := h2
    obtain ⟨l, h4, g1⟩ := bnd_ok h3 hr hl
    obtain ⟨m, h5, g2⟩ := bnd_ok h4 hr hm
    obtain ⟨nn, h6, g3⟩ := bnd_ok h5 hr hn
    obtain ⟨h7, h8⟩ := ifF_inv h6 hr
    obtain ⟨h9, h10⟩ := ifF_inv h8 hr
    obtain ⟨h11, h12⟩ := ifF_inv h10 hr
    rw [ble_iff] at h7 h9 h11
    obtain ⟨p, hp, rfl⟩ := hx
    obtain ⟨p', hp', hB⟩ := hi'.blk b B hb
    obtain rfl : p = p' := by rw [hp] at hp'; exact Option.some.inj hp'
    have hfit := hB.fit
    refine ⟨_, h12, .slice (some ⟨p.r, p.base + cutO o l (szOf P u) nn, none⟩) (m - l) (nn - l), ⟨p, nn - l, hp, rfl, Nat.sub_le_sub_right h9 l, .inr rfl, ?_⟩, fun w => ?_⟩
    · have := cut_fit (z := szOf P u) (show l ≤ nn from by omega)
      have h12 := Nat.mul_le_mul_right (szOf P u) h7
      rw [cutO_eq]; split
      · rename_i he
        rw [he, Nat.sub_self, Nat.zero_mul]; omega
      · omega
    · unfold Instr.sliceAt
      rw [Sem.run_bind, run_und hu]
      simp only [Result.andThen_ok, Instr.sureAddr, pure_bind]
      rw [Sem.run_bind, bounds_run g1 g2 g3 h7 h9 h11 hxm]
      simp only [Result.andThen_ok]
      rw [Sem.run_bind, sizeOf_run hok, cutO_eq]
      simp only [Result.andThen_ok, Sem.run_pure]
      congr 3
      split
      · rfl
      · simp [addr_add, Nat.add_assoc]

theorem cutT_ok {t : TypeId} (hu : P.underlying t = some .string) (e : cutT x lo hi k = r) (hr : r ≠ .fail) (hx : VR ρ x X) (hl : OR ρ lo LO) (hm : OR ρ hi HI) :
    ∃ v, k v = r ∧ Pur P ρ (Instr.sliceAt t X LO HI none) v := by
  obtain ⟨n, a, rfl, h1⟩ := cS_inv e hr
  obtain ⟨l, h2, g1⟩ := bnd_ok h1 hr hl
  obtain ⟨m, h3, g2⟩ := bnd_ok h2 hr hm
  obtain ⟨h4, h5⟩ := ifF_inv h3 hr
  obtain ⟨h6, h7⟩ := ifF_inv h5 hr
  rw [ble_iff] at h4 h6
  obtain ⟨s, rfl, rfl, rfl⟩ := hx
  have h4 : m ≤ s.size := h4
  have hsz : s.data.size = s.size := rfl
  have hs : (s.extract l m).data.toList = (s.data.toList.drop l).take (m - l) := by
    rw [ByteArray.data_extract, Array.toList_extract]
  refine ⟨_, h7, .string (s.extract l m), ⟨_, rfl, ?_, ?_⟩, fun w => ?_⟩
  · rw [ByteArray.data_extract, Array.size_extract]
    show min m s.data.size - l = m - l
    rw [hsz, Nat.min_eq_left h4]
  · rw [hs, packB_take _ _ (by rw [List.length_drop, Array.length_toList, hsz]; omega), packB_drop]
    show _ = Nat.shiftRight (packB s.data.toList) (8 * l) % 2 ^ (8 * (m - l))
    rw [← Nat.shiftRight_eq_div_pow]; rfl
  · unfold Instr.sliceAt
    rw [Sem.run_bind, run_und hu]
    simp only [Result.andThen_ok]
    unfold Instr.slice
    rw [Sem.run_bind, run_und hu]
    simp only [Result.andThen_ok]
    have hb := bounds_run (P := P) (is := false) (len := s.size) (cap := s.size) g1 g2 (.inl ⟨rfl, rfl⟩) (Nat.le_refl _) h4 h6 (.inl rfl) w
    simp [hb]
end
end Go.AM
