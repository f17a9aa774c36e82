/-
  The abstract machine, part 35 (between 21 and 22): maps; values that are functions.
-/
import Derived.Test.YtnpfppddongbhaaDoorAm21
import Derived.MapKept
namespace Go.AM
open Go Go.MapKept
set_option autoImplicit false

section
variable {P : Program} {N0 : Base} {ρ : Rho} {h : Hp} {w : World} {x y : AV} {X Y : Value} {r : Res}

theorem keyQ_inv {kt : TypeId} {q : KQ} (hq : keyQ P kt = some q) : ∃ d, P.underlying kt = some d ∧
    ∀ (x y : AV) (k : Bool → Res) (r : Res), q x y k = r → r ≠ .fail → ∃ b, k b = r ∧ ∀ (ρ : Rho) X Y, VR ρ x X → VR ρ y Y → IsKey d X ∧ IsKey d Y ∧ (b = true ↔ X = Y) := by
  unfold keyQ at hq
  split at hq
  · rename_i c hu
    obtain rfl := Option.some.inj hq
    refine ⟨_, hu, fun x y k r e hr => ?_⟩
    obtain ⟨c1, a, rfl, h1⟩ := cI_inv e hr
    obtain ⟨c2, b, rfl, h2⟩ := cI_inv h1 hr
    obtain ⟨h3, h4⟩ := ifF_inv h2 hr
    obtain ⟨h5, h6⟩ := ifF_inv h4 hr
    rw [beq_iff] at h3 h5
    refine ⟨_, h6, fun ρ X Y hx hy => ?_⟩
    obtain ⟨k1, e1, rfl⟩ := hx
    obtain ⟨k2, e2, rfl⟩ := hy
    have g1 : k1 = c := cOf_inj _ _ (e1.trans h3)
    have g2 : k2 = c := cOf_inj _ _ (e2.trans h5)
    subst g1
    subst g2
    refine ⟨rfl, rfl, ?_⟩
    rw [eqI_eq]; simp
  · rename_i hu
    obtain rfl := Option.some.inj hq
    refine ⟨_, hu, fun x y k r e hr => ?_⟩
    obtain ⟨n, a, rfl, h1⟩ := cS_inv e hr
    obtain ⟨m, b, rfl, h2⟩ := cS_inv h1 hr
    refine ⟨_, h2, fun ρ X Y hx hy => ?_⟩
    obtain ⟨s1, rfl, rfl, rfl⟩ := hx
    obtain ⟨s2, rfl, rfl, rfl⟩ := hy
    refine ⟨trivial, trivial, ?_⟩
    rw [sEq_eq]
    constructor
    · intro h
      have h : s1.toList = s2.toList := by simpa using h
      rw [ByteArray.toList_eq, ByteArray.toList_eq] at h
      have : s1 = s2 := by
        have hd : s1.data = s2.data := Array.toList_inj.1 h
        cases s1; cases s2; simp_all
      rw [this]
    · intro h
      cases h
      simp
  · rename_i hu
    obtain rfl := Option.some.inj hq
    refine ⟨_, hu, fun x y k r e hr => ?_⟩
    obtain ⟨a, rfl, h1⟩ := cB_inv e hr
    obtain ⟨b, rfl, h2⟩ := cB_inv h1 hr
    refine ⟨_, h2, fun ρ X Y hx hy => ?_⟩
    have hx : X = .bool a := hx
    have hy : Y = .bool b := hy
    subst hx
    subst hy
    refine ⟨trivial, trivial, ?_⟩
    rw [beqB_eq]; simp
  · cases hq

theorem cC_inv {k : AV → AV → Res} (e : cC x k = r) (hr : r ≠ .fail) : ∃ a b, x = .cons a b ∧ k a b = r := by
  cases x <;> first | exact ⟨_, _, rfl, e⟩ | exact absurd e.symm hr

/-- How keys are compared: rightly. -/
def KOk (q : KQ) (d : TypeDesc) : Prop :=
  ∀ (x y : AV) (k : Bool → Res) (r : Res), q x y k = r → r ≠ .fail → ∃ b, k b = r ∧ ∀ (ρ : Rho) X Y, VR ρ x X → VR ρ y Y → IsKey d X ∧ IsKey d Y ∧ (b = true ↔ X = Y)

theorem KOk.now {q : KQ} {d : TypeDesc} (hq : KOk q d) {k : Bool → Res} (e : q x y k = r) (hr : r ≠ .fail) (hx : VR ρ x X) (hy : VR ρ y Y) : ∃ b, k b = r ∧ Instr.sameNow d X Y = some b ∧ (b = true ↔ X = Y) := by
  obtain ⟨b, h1, h2⟩ := hq x y k r e hr
  obtain ⟨h3, h4, h5⟩ := h2 ρ X Y hx hy
  obtain ⟨b', h6, h7⟩ := MapKept.sameNow_of_keys h3 h4
  refine ⟨b, h1, ?_, h5⟩
  rw [h6]
  have : b' = b := by
    rw [Bool.eq_iff_iff, h7, h5]
  rw [this]

theorem KOk.key {q : KQ} {d : TypeDesc} (hq : KOk q d) {k : Bool → Res} (e : q x x k = r) (hr : r ≠ .fail) (hx : VR ρ x X) : IsKey d X ∧ ∃ b, k b = r := by
  obtain ⟨b, h1, h2⟩ := hq x x k r e hr
  exact ⟨(h2 ρ X X hx hx).1, b, h1⟩

theorem lkL_inv {q : KQ} {d : TypeDesc} (hq : KOk q d) {kf : AV → Res} {kn : Res} (hx : VR ρ x X) (hr : r ≠ .fail) : ∀ (m : AV) (l : List MapEntry) (i : Nat), ELR ρ m l → lkL q x kf kn m = r →
    (∃ j v V, Instr.findNow d X l i = some (some (j, V)) ∧ VR ρ v V ∧ kf v = r) ∨ (Instr.findNow d X l i = some none ∧ kn = r) := by
  intro m
  induction m with
  | nil =>
    intro l i hl e
    have hl : l = [] := hl
    subst hl
    exact .inr ⟨rfl, e⟩
  | cons a t _ iht =>
    intro l i hl e
    have e : cC a (fun y v => q x y fun b => ifB b (kf v) (lkL q x kf kn t)) = r := e
    obtain ⟨y, v, rfl, h1⟩ := cC_inv e hr
    obtain ⟨en, l', rfl, g1, g2, g3⟩ := hl
    obtain ⟨b, h2, h3, -⟩ := hq.now h1 hr hx g1
    cases b with
    | true => exact .inl ⟨i, v, en.val, by simp [Instr.findNow, h3], g2, h2⟩
    | false =>
      rcases iht l' (i + 1) g3 h2 with ⟨j, v', V', k1, k2, k3⟩ | ⟨k1, k2⟩
      · exact .inl ⟨j, v', V', by simp [Instr.findNow, h3, k1], k2, k3⟩
      · exact .inr ⟨by simp [Instr.findNow, h3, k1], k2⟩
  | _ => intro l i hl; exact hl.elim

theorem upL_inv {q : KQ} {d : TypeDesc} (hq : KOk q d) {v : AV} {V : Value} (hx : VR ρ x X) (hv : VR ρ v V) (hr : r ≠ .fail) : ∀ (m : AV) (l : List MapEntry) (i : Nat) (k : AV → Res), ELR ρ m l → upL q x v m k = r →
    ∃ m', k m' = r ∧ ((∃ j V', Instr.findNow d X l i = some (some (i + j, V')) ∧ ((l[j]?).map (·.key)).getD X = X ∧ ELR ρ m' (l.modify j fun e => { e with key := X, val := V })) ∨
      (Instr.findNow d X l i = some none ∧ ∀ born, ELR ρ m' (l ++ [{ key := X, val := V, born := born }]))) := by
  intro m
  induction m with
  | nil =>
    intro l i k hl e
    have hl : l = [] := hl
    subst hl
    exact ⟨_, e, .inr ⟨rfl, fun born => ⟨_, [], rfl, hx, hv, rfl⟩⟩⟩
  | cons a t _ iht =>
    intro l i k hl e
    have e : cC a (fun y _ => q x y fun b => ifB b (k (.cons (.cons x v) t)) (upL q x v t fun t => k (.cons a t))) = r := e
    obtain ⟨y, u, rfl, h1⟩ := cC_inv e hr
    obtain ⟨en, l', rfl, g1, g2, g3⟩ := hl
    obtain ⟨b, h2, h3, h4⟩ := hq.now h1 hr hx g1
    cases b with
    | true =>
      have hk : X = en.key := h4.1 rfl
      exact ⟨_, h2, .inl ⟨0, en.val, by simp [Instr.findNow, h3], by simp [hk], ⟨_, l', rfl, hx, hv, g3⟩⟩⟩
    | false =>
      obtain ⟨m', k1, k2⟩ := iht l' (i + 1) _ g3 h2
      refine ⟨_, k1, ?_⟩
      rcases k2 with ⟨j, V', k2, k3, k4⟩ | ⟨k2, k3⟩
      · refine .inl ⟨j + 1, V', ?_, by simpa using k3, ⟨en, _, rfl, g1, g2, k4⟩⟩
        have e1 : i + 1 + j = i + (j + 1) := by omega
        simp [Instr.findNow, h3, k2, e1]
      · exact .inr ⟨by simp [Instr.findNow, h3, k2], fun born => ⟨en, _, rfl, g1, g2, k3 born⟩⟩
  | _ => intro l i k hl; exact hl.elim

theorem found_inv {ok b : Bool} {v : AV} {V : Value} {k : AV → Res} (e : found ok v b k = r) (hr : r ≠ .fail) (hv : VR ρ v V) : ∃ v', k v' = r ∧ VR ρ v' (if ok then .tuple #[V, .bool b] else V) := by
  obtain ⟨h1, h2⟩ := cK_inv e hr
  cases ok with
  | false => exact ⟨v, h2, hv⟩
  | true => exact ⟨_, h2, ⟨_, rfl, ⟨V, [.bool b], rfl, hv, ⟨.bool b, [], rfl, rfl, rfl⟩⟩⟩⟩

theorem zeroV_run {t : TypeId} (h : zeroV P t ≠ .unk) (w : World) : ∃ z, (zeroValue t).run P w = .ok z w ∧ VR ρ (zeroV P t) z := by
  unfold zeroV at h ⊢
  cases hi : P.info? t with
  | none => rw [hi] at h; exact absurd rfl h
  | some i =>
    rw [hi] at h
    simp only at h ⊢
    cases hz : i.zero with
    | none => rw [hz] at h; exact absurd rfl h
    | some z =>
      rw [hz] at h
      exact ⟨z, by simp [zeroValue, typeInfo, hi, hz], ofV_rel z⟩

theorem lkp_ok {t kt et : TypeId} {q : KQ} {d : TypeDesc} {ok : Bool} {k : AV → Res} {i : AV} {I : Value} (hi : Inv N0 ρ h w) (ht : P.underlying t = some (.map kt et)) (hd : P.underlying kt = some d) (hq : KOk q d)
    (e : lkp q h ok (zeroV P et) x i k = r) (hr : r ≠ .fail) (hx : VR ρ x X) (hI : VR ρ i I) : ∃ v V, k v = r ∧ VR ρ v V ∧ (Instr.lookup t X I ok).run P w = .ok V w := by
  have zero : ∀ {k : AV → Res}, found ok (zeroV P et) false k = r → ∃ v V z, k v = r ∧ VR ρ v V ∧ (zeroValue et).run P w = .ok z w ∧ V = if ok then .tuple #[z, .bool false] else z := by
    intro k e
    obtain ⟨h1, -⟩ := cK_inv e hr
    obtain ⟨z, h2, h3⟩ := zeroV_run (P := P) (ρ := ρ) (t := et) h1 w
    obtain ⟨v', h4, h5⟩ := found_inv e hr h3
    exact ⟨v', _, z, h4, h5, h2, rfl⟩
  cases x with
  | nilm =>
    have hx : X = .map none := hx
    subst hx
    obtain ⟨hk, b, h1⟩ := hq.key (k := fun _ => found ok (zeroV P et) false k) e hr hI
    obtain ⟨v, V, z, h2, h3, h4, rfl⟩ := zero h1
    refine ⟨v, _, h2, h3, ?_⟩
    have hf : (Instr.findKey kt I []).run P w = .ok none w := run_findKey hd rfl
    have hc := run_checkKey (P := P) (w := w) hd hk true 9999
    simp [Instr.lookup, run_underlying ht, Result.andThen, hc, hf, h4]
  | map b =>
    obtain ⟨p0, hp0, rfl⟩ := hx
    cases hg : h.ms.get b with
    | none =>
      have : Res.fail = r := by
        rw [← e]; unfold lkp; simp [hg]
      exact absurd this.symm hr
    | some m =>
      have e : q i i (fun _ => lkL q i (fun v => found ok v true k) (found ok (zeroV P et) false k) m) = r := by
        rw [← e]; unfold lkp; simp [hg]
      obtain ⟨hk, b', h1⟩ := hq.key e hr hI
      obtain ⟨-, p, o, g1, -, g2, g3⟩ := hi.mp.ent b m hg
      obtain rfl : p = p0 := by rw [g1] at hp0; exact Option.some.inj hp0
      obtain ⟨es, c, rfl⟩ : ∃ es c, o = .map es c := by
        cases o <;> first
          | exact g3.elim
          | exact ⟨_, _, rfl⟩
          | skip
        obtain ⟨-, rfl⟩ := g3
        exact absurd h1.symm hr
      have g3 : ELR ρ m es.toList := g3
      have hgo := Go.MapKept.run_getObj_map (P := P) (w := w) g2
      have hc := run_checkKey (P := P) (w := w) hd hk es.isEmpty 9999
      rcases lkL_inv hq hI hr m es.toList 0 g3 h1 with ⟨j, v, V, k1, k2, k3⟩ | ⟨k1, k2⟩
      · obtain ⟨v', h4, h5⟩ := found_inv k3 hr k2
        have hf := run_findKey (P := P) (w := w) hd k1
        refine ⟨v', _, h4, h5, ?_⟩
        simp [Instr.lookup, run_underlying ht, Result.andThen, hgo, hc, hf]
      · obtain ⟨v, V, z, h2, h3, h4, rfl⟩ := zero k2
        have hf := run_findKey (P := P) (w := w) hd k1
        refine ⟨v, _, h2, h3, ?_⟩
        simp [Instr.lookup, run_underlying ht, Result.andThen, hgo, hc, hf, h4]
  | _ => exact absurd e.symm hr
end
end Go.AM
