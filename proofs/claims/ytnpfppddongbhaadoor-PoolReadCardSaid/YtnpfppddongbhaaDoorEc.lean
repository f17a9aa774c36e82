/-
  An abstract machine for the model's code, part 3: what it answers is what the model does.
-/
import Derived.Test.YtnpfppddongbhaaDoorEb
import Derived.MapKept
import Derived.Laws.StructEq
import Derived.Laws.RangeString
import Derived.OrdersHeld
import Derived.Scope
import Derived.LoopN
import Derived.ChangeSame
import Derived.RowKit3
set_option linter.unusedVariables false
set_option linter.unusedSimpArgs false
namespace Go.AM
open Go Go.MapKept
set_option autoImplicit false

section
variable {P : Program} {N0 : Base} {ρ : Rho} {h : Hp} {w : World} {x y : AV} {X Y : Value} {r : Res}

theorem keyQ_inv {kt : TypeId} {q : KQ} (hq : keyQ P kt = some q) : ∃ d, P.underlying kt = some d ∧
    ∀ (x y : AV) (k : Bool → Res) (r : Res), q x y k = r → r ≠ .fail → ∃ b, k b = r ∧ ∀ (ρ : Rho) X Y, VR ρ x X → VR ρ y Y → IsKey d X ∧ IsKey d Y ∧ (b = true ↔ X = Y) := by
  unfold keyQ at hq
  split at hq
  · rename_i c hu
    obtain rfl := Option.some.inj hq
    refine ⟨_, hu, fun x y k r e hr => ?_⟩
    obtain ⟨c1, a, rfl, h1⟩ := cI_inv e hr
    obtain ⟨c2, b, rfl, h2⟩ := cI_inv h1 hr
    obtain ⟨h3, h4⟩ := ifF_inv h2 hr
    obtain ⟨h5, h6⟩ := ifF_inv h4 hr
    rw [beq_iff] at h3 h5
    refine ⟨_, h6, fun ρ X Y hx hy => ?_⟩
    obtain ⟨k1, e1, rfl⟩ := hx
    obtain ⟨k2, e2, rfl⟩ := hy
    have g1 : k1 = c := cOf_inj _ _ (e1.trans h3)
    have g2 : k2 = c := cOf_inj _ _ (e2.trans h5)
    subst g1
    subst g2
    refine ⟨rfl, rfl, ?_⟩
    rw [eqI_eq]; simp
  · rename_i hu
    obtain rfl := Option.some.inj hq
    refine ⟨_, hu, fun x y k r e hr => ?_⟩
    obtain ⟨n, a, rfl, h1⟩ := cS_inv e hr
    obtain ⟨m, b, rfl, h2⟩ := cS_inv h1 hr
    refine ⟨_, h2, fun ρ X Y hx hy => ?_⟩
    obtain ⟨s1, rfl, rfl, rfl⟩ := hx
    obtain ⟨s2, rfl, rfl, rfl⟩ := hy
    refine ⟨trivial, trivial, ?_⟩
    rw [sEq_eq]
    constructor
    · intro h
      have h : s1.toList = s2.toList := by simpa using h
      rw [ByteArray.toList_eq, ByteArray.toList_eq] at h
      have : s1 = s2 := by
        have hd : s1.data = s2.data := Array.toList_inj.1 h
        cases s1; cases s2; simp_all
      rw [this]
    · intro h
      cases h
      simp
  · rename_i hu
    obtain rfl := Option.some.inj hq
    refine ⟨_, hu, fun x y k r e hr => ?_⟩
    obtain ⟨a, rfl, h1⟩ := cB_inv e hr
    obtain ⟨b, rfl, h2⟩ := cB_inv h1 hr
    refine ⟨_, h2, fun ρ X Y hx hy => ?_⟩
    have hx : X = .bool a := hx
    have hy : Y = .bool b := hy
    subst hx
    subst hy
    refine ⟨trivial, trivial, ?_⟩
    rw [beqB_eq]; simp
  · cases hq

theorem cC_inv {k : AV → AV → Res} (e : cC x k = r) (hr : r ≠ .fail) : ∃ a b, x = .cons a b ∧ k a b = r := by
  cases x <;> first | exact ⟨_, _, rfl, e⟩ | exact absurd e.symm hr

/-- How keys are compared: rightly. -/
def KOk (q : KQ) (d : TypeDesc) : Prop :=
  ∀ (x y : AV) (k : Bool → Res) (r : Res), q x y k = r → r ≠ .fail → ∃ b, k b = r ∧ ∀ (ρ : Rho) X Y, VR ρ x X → VR ρ y Y → IsKey d X ∧ IsKey d Y ∧ (b = true ↔ X = Y)

theorem KOk.now {q : KQ} {d : TypeDesc} (hq : KOk q d) {k : Bool → Res} (e : q x y k = r) (hr : r ≠ .fail) (hx : VR ρ x X) (hy : VR ρ y Y) : ∃ b, k b = r ∧ Instr.sameNow d X Y = some b ∧ (b = true ↔ X = Y) := by
  obtain ⟨b, h1, h2⟩ := hq x y k r e hr
  obtain ⟨h3, h4, h5⟩ := h2 ρ X Y hx hy
  obtain ⟨b', h6, h7⟩ := MapKept.sameNow_of_keys h3 h4
  refine ⟨b, h1, ?_, h5⟩
  rw [h6]
  have : b' = b := by
    rw [Bool.eq_iff_iff, h7, h5]
  rw [this]

theorem KOk.key {q : KQ} {d : TypeDesc} (hq : KOk q d) {k : Bool → Res} (e : q x x k = r) (hr : r ≠ .fail) (hx : VR ρ x X) : IsKey d X ∧ ∃ b, k b = r := by
  obtain ⟨b, h1, h2⟩ := hq x x k r e hr
  exact ⟨(h2 ρ X X hx hx).1, b, h1⟩

theorem lkL_inv {q : KQ} {d : TypeDesc} (hq : KOk q d) {kf : AV → Res} {kn : Res} (hx : VR ρ x X) (hr : r ≠ .fail) : ∀ (m : AV) (l : List MapEntry) (i : Nat), ELR ρ m l → lkL q x kf kn m = r →
    (∃ j v V, Instr.findNow d X l i = some (some (j, V)) ∧ VR ρ v V ∧ kf v = r) ∨ (Instr.findNow d X l i = some none ∧ kn = r) := by
  intro m
  induction m with
  | nil =>
    intro l i hl e
    have hl : l = [] := hl
    subst hl
    exact .inr ⟨rfl, e⟩
  | cons a t _ iht =>
    intro l i hl e
    have e : cC a (fun y v => q x y fun b => ifB b (kf v) (lkL q x kf kn t)) = r := e
    obtain ⟨y, v, rfl, h1⟩ := cC_inv e hr
    obtain ⟨en, l', rfl, g1, g2, g3⟩ := hl
    obtain ⟨b, h2, h3, -⟩ := hq.now h1 hr hx g1
    cases b with
    | true => exact .inl ⟨i, v, en.val, by simp [Instr.findNow, h3], g2, h2⟩
    | false =>
      rcases iht l' (i + 1) g3 h2 with ⟨j, v', V', k1, k2, k3⟩ | ⟨k1, k2⟩
      · exact .inl ⟨j, v', V', by simp [Instr.findNow, h3, k1], k2, k3⟩
      · exact .inr ⟨by simp [Instr.findNow, h3, k1], k2⟩
  | _ => intro l i hl; exact hl.elim

theorem upL_inv {q : KQ} {d : TypeDesc} (hq : KOk q d) {v : AV} {V : Value} (hx : VR ρ x X) (hv : VR ρ v V) (hr : r ≠ .fail) : ∀ (m : AV) (l : List MapEntry) (i : Nat) (k : AV → Res), ELR ρ m l → upL q x v m k = r →
    ∃ m', k m' = r ∧ ((∃ j V', Instr.findNow d X l i = some (some (i + j, V')) ∧ ((l[j]?).map (·.key)).getD X = X ∧ ELR ρ m' (l.modify j fun e => { e with key := X, val := V })) ∨
      (Instr.findNow d X l i = some none ∧ ∀ born, ELR ρ m' (l ++ [{ key := X, val := V, born := born }]))) := by
  intro m
  induction m with
  | nil =>
    intro l i k hl e
    have hl : l = [] := hl
    subst hl
    exact ⟨_, e, .inr ⟨rfl, fun born => ⟨_, [], rfl, hx, hv, rfl⟩⟩⟩
  | cons a t _ iht =>
    intro l i k hl e
    have e : cC a (fun y _ => q x y fun b => ifB b (k (.cons (.cons x v) t)) (upL q x v t fun t => k (.cons a t))) = r := e
    obtain ⟨y, u, rfl, h1⟩ := cC_inv e hr
    obtain ⟨en, l', rfl, g1, g2, g3⟩ := hl
    obtain ⟨b, h2, h3, h4⟩ := hq.now h1 hr hx g1
    cases b with
    | true =>
      have hk : X = en.key := h4.1 rfl
      exact ⟨_, h2, .inl ⟨0, en.val, by simp [Instr.findNow, h3], by simp [hk], ⟨_, l', rfl, hx, hv, g3⟩⟩⟩
    | false =>
      obtain ⟨m', k1, k2⟩ := iht l' (i + 1) _ g3 h2
      refine ⟨_, k1, ?_⟩
      rcases k2 with ⟨j, V', k2, k3, k4⟩ | ⟨k2, k3⟩
      · refine .inl ⟨j + 1, V', ?_, by simpa using k3, ⟨en, _, rfl, g1, g2, k4⟩⟩
        have e1 : i + 1 + j = i + (j + 1) := by omega
        simp [Instr.findNow, h3, k2, e1]
      · exact .inr ⟨by simp [Instr.findNow, h3, k2], fun born => ⟨en, _, rfl, g1, g2, k3 born⟩⟩
  | _ => intro l i k hl; exact hl.elim

theorem found_inv {ok b : Bool} {v : AV} {V : Value} {k : AV → Res} (e : found ok v b k = r) (hr : r ≠ .fail) (hv : VR ρ v V) : ∃ v', k v' = r ∧ VR ρ v' (if ok then .tuple #[V, .bool b] else V) := by
  obtain ⟨h1, h2⟩ := cK_inv e hr
  cases ok with
  | false => exact ⟨v, h2, hv⟩
  | true => exact ⟨_, h2, ⟨_, rfl, ⟨V, [.bool b], rfl, hv, ⟨.bool b, [], rfl, rfl, rfl⟩⟩⟩⟩

theorem zeroV_run {t : TypeId} (h : zeroV P t ≠ .unk) (w : World) : ∃ z, (zeroValue t).run P w = .ok z w ∧ VR ρ (zeroV P t) z := by
  unfold zeroV at h ⊢
  cases hi : P.info? t with
  | none => rw [hi] at h; exact absurd rfl h
  | some i =>
    rw [hi] at h
    simp only at h ⊢
    cases hz : i.zero with
    | none => rw [hz] at h; exact absurd rfl h
    | some z =>
      rw [hz] at h
      exact ⟨z, by simp [zeroValue, typeInfo, hi, hz], ofV_rel z⟩

theorem lkp_ok {t kt et : TypeId} {q : KQ} {d : TypeDesc} {ok : Bool} {k : AV → Res} {i : AV} {I : Value} (hi : Inv N0 ρ h w) (ht : P.underlying t = some (.map kt et)) (hd : P.underlying kt = some d) (hq : KOk q d)
    (e : lkp q h ok (zeroV P et) x i k = r) (hr : r ≠ .fail) (hx : VR ρ x X) (hI : VR ρ i I) : ∃ v V, k v = r ∧ VR ρ v V ∧ (Instr.lookup t X I ok).run P w = .ok V w := by
  have zero : ∀ {k : AV → Res}, found ok (zeroV P et) false k = r → ∃ v V z, k v = r ∧ VR ρ v V ∧ (zeroValue et).run P w = .ok z w ∧ V = if ok then .tuple #[z, .bool false] else z := by
    intro k e
    obtain ⟨h1, -⟩ := cK_inv e hr
    obtain ⟨z, h2, h3⟩ := zeroV_run (P := P) (ρ := ρ) (t := et) h1 w
    obtain ⟨v', h4, h5⟩ := found_inv e hr h3
    exact ⟨v', _, z, h4, h5, h2, rfl⟩
  cases x with
  | nilm =>
    have hx : X = .map none := hx
    subst hx
    obtain ⟨hk, b, h1⟩ := hq.key (k := fun _ => found ok (zeroV P et) false k) e hr hI
    obtain ⟨v, V, z, h2, h3, h4, rfl⟩ := zero h1
    refine ⟨v, _, h2, h3, ?_⟩
    have hf : (Instr.findKey kt I []).run P w = .ok none w := run_findKey hd rfl
    have hc := run_checkKey (P := P) (w := w) hd hk true 9999
    simp [Instr.lookup, run_underlying ht, Result.andThen, hc, hf, h4]
  | map b =>
    obtain ⟨p0, hp0, rfl⟩ := hx
    cases hg : h.ms.get b with
    | none =>
      have : Res.fail = r := by
        rw [← e]; unfold lkp; simp [hg]
      exact absurd this.symm hr
    | some m =>
      have e : q i i (fun _ => lkL q i (fun v => found ok v true k) (found ok (zeroV P et) false k) m) = r := by
        rw [← e]; unfold lkp; simp [hg]
      obtain ⟨hk, b', h1⟩ := hq.key e hr hI
      obtain ⟨-, p, o, g1, -, g2, g3⟩ := hi.mp.ent b m hg
      obtain rfl : p = p0 := by rw [g1] at hp0; exact Option.some.inj hp0
      obtain ⟨es, c, rfl⟩ : ∃ es c, o = .map es c := by
        cases o <;> first
          | exact g3.elim
          | exact ⟨_, _, rfl⟩
          | skip
        obtain ⟨-, rfl⟩ := g3
        exact absurd h1.symm hr
      have g3 : ELR ρ m es.toList := g3
      have hgo := Go.MapKept.run_getObj_map (P := P) (w := w) g2
      have hc := run_checkKey (P := P) (w := w) hd hk es.isEmpty 9999
      rcases lkL_inv hq hI hr m es.toList 0 g3 h1 with ⟨j, v, V, k1, k2, k3⟩ | ⟨k1, k2⟩
      · obtain ⟨v', h4, h5⟩ := found_inv k3 hr k2
        have hf := run_findKey (P := P) (w := w) hd k1
        refine ⟨v', _, h4, h5, ?_⟩
        simp [Instr.lookup, run_underlying ht, Result.andThen, hgo, hc, hf]
      · obtain ⟨v, V, z, h2, h3, h4, rfl⟩ := zero k2
        have hf := run_findKey (P := P) (w := w) hd k1
        refine ⟨v, _, h2, h3, ?_⟩
        simp [Instr.lookup, run_underlying ht, Result.andThen, hgo, hc, hf, h4]
  | _ => exact absurd e.symm hr
end
end Go.AM

namespace Go.AM
open Go Go.MapKept
set_option autoImplicit false

section
variable {P : Program} {N0 : Base} {ρ : Rho} {h : Hp} {w : World} {x y : AV} {X Y : Value} {r : Res}

theorem mkMap_ok {t : TypeId} {k : AV → Hp → Res} (hi : Inv N0 ρ h w) (e : mkMap h k = r) : Does P N0 ρ h w (Instr.makeMap t none) k r := by
  have hfree : ρ h.nb = none := hi.free _ (Nat.le_refl _)
  have hext := ups_ext ⟨w.heap.size, 0, 0, 0⟩ hfree
  obtain ⟨ha1, ha2⟩ := heap_alloc w (.map #[] 0)
  have hsize : (w.alloc (.map #[] 0)).heap.size = w.heap.size + 1 := by show (w.heap.push _).size = _; simp
  have plc : ∀ b2 B2 p2, h.bs.get b2 = some B2 → ups ρ h.nb ⟨w.heap.size, 0, 0, 0⟩ b2 = some p2 → ρ b2 = some p2 := by
    intro b2 B2 p2 h2 hp2
    have := hi.nb b2 B2 h2
    rwa [ups_ne _ _ (by omega)] at hp2
  have hmget : ∀ b, (h.ms.set .nil h.nb).get b = if b = h.nb then some .nil else h.ms.get b := fun b => T.get_set _ _ _ _
  refine ⟨_, _, .map (some w.heap.size), w.alloc (.map #[] 0), ups ρ h.nb ⟨w.heap.size, 0, 0, 0⟩, e, rfl, ⟨_, ups_same _ _ _, rfl⟩, ⟨?_, ?_, ?_, ?_, ?_, ?_, ?_, ?_, ⟨?_, ?_⟩, Base.st hi.jj fun r hr => ha2 r (by have := hi.wsz; omega)⟩, ⟨hext, Nat.le_succ _, ?_, fun r hr _ _ => ha2 r hr, ?_, ?_, by rw [hsize]; omega, rfl, rfl, rfl⟩⟩
  · intro b B hb
    obtain ⟨p, hp, hB⟩ := hi.blk b B hb
    exact ⟨p, hext _ _ hp, hB.later hext (ha2 _ hB.lt) (fun hrd => hrd)⟩
  · intro b B hb; exact Nat.lt_succ_of_lt (hi.nb b B hb)
  · intro b B hb hf
    have := hi.gnb b B hb hf
    exact ⟨Nat.lt_succ_of_lt this.1, this.2⟩
  · intro g q hq
    have := hi.gs g q hq
    exact ⟨Nat.lt_succ_of_lt this.1, Nat.lt_succ_of_lt this.2.1, this.2.2⟩
  · intro b1 b2 B1 B2 p1 p2 h1 h2 f1 f2 e1 e2 er
    exact hi.als b1 b2 B1 B2 p1 p2 h1 h2 f1 f2 (plc _ _ _ h1 e1) (plc _ _ _ h2 e2) er
  · intro b1 b2 B1 B2 p1 p2 h1 h2 f1 f2 e1 e2 eg r1 r2 hle
    exact hi.lim b1 b2 B1 B2 p1 p2 h1 h2 f1 f2 (plc _ _ _ h1 e1) (plc _ _ _ h2 e2) eg r1 r2 hle
  · intro i hle
    have hle : h.nb + 1 ≤ i := hle
    rw [ups_ne _ _ (by omega)]
    exact hi.free i (by omega)
  · rw [hsize]; have := hi.wsz; omega
  · intro b m hb
    have hb : (h.ms.set .nil h.nb).get b = some m := hb
    rw [hmget] at hb
    by_cases e0 : b = h.nb
    · rw [if_pos e0] at hb
      obtain rfl := Option.some.inj hb
      subst e0
      exact ⟨Nat.lt_succ_self _, _, .map #[] 0, ups_same _ _ _, hi.wsz, ha1, rfl⟩
    · rw [if_neg e0] at hb
      obtain ⟨g1, p, o, g2, g3, g4, g5⟩ := hi.mp.ent b m hb
      exact ⟨Nat.lt_succ_of_lt g1, p, o, hext _ _ g2, g3, by rw [ha2 _ (Array.getElem?_eq_some_iff.1 g4).1]; exact g4, g5.ext hext⟩
  · intro b1 b2 m1 m2 p1 p2 h1 h2 e1 e2 er
    have h1 : (h.ms.set .nil h.nb).get b1 = some m1 := h1
    have h2 : (h.ms.set .nil h.nb).get b2 = some m2 := h2
    rw [hmget] at h1 h2
    have old : ∀ b m p, h.ms.get b = some m → b ≠ h.nb → ups ρ h.nb ⟨w.heap.size, 0, 0, 0⟩ b = some p → ρ b = some p ∧ p.r < w.heap.size := by
      intro b m p hb hne hp
      rw [ups_ne _ _ hne] at hp
      obtain ⟨-, q, o, g2, -, g4, -⟩ := hi.mp.ent b m hb
      rw [hp] at g2
      obtain rfl := Option.some.inj g2
      exact ⟨hp, (Array.getElem?_eq_some_iff.1 g4).1⟩
    by_cases n1 : b1 = h.nb <;> by_cases n2 : b2 = h.nb
    · rw [n1, n2]
    · rw [if_neg n2] at h2
      subst n1
      rw [ups_same] at e1
      obtain rfl := (Option.some.inj e1).symm
      have := (old _ _ _ h2 n2 e2).2
      simp at er; omega
    · rw [if_neg n1] at h1
      subst n2
      rw [ups_same] at e2
      obtain rfl := (Option.some.inj e2).symm
      have := (old _ _ _ h1 n1 e1).2
      simp at er; omega
    · rw [if_neg n1] at h1
      rw [if_neg n2] at h2
      exact hi.mp.inj _ _ _ _ _ _ h1 h2 (old _ _ _ h1 n1 e1).1 (old _ _ _ h2 n2 e2).1 er
  · intro b p hp
    by_cases e0 : b = h.nb
    · subst e0; exact .inr ⟨hfree, Nat.le_refl _, Nat.lt_succ_self _⟩
    · rw [ups_ne _ _ e0] at hp; exact .inl hp
  · intro b B p hb hf hp
    exact .inr ⟨b, B, p, hb, hf, plc _ _ _ hb hp, rfl⟩
  · intro b m p hb hp
    have hb : (h.ms.set .nil h.nb).get b = some m := hb
    rw [hmget] at hb
    by_cases e0 : b = h.nb
    · subst e0
      rw [ups_same] at hp
      obtain rfl := (Option.some.inj hp).symm
      exact .inl (Nat.le_refl _)
    · rw [if_neg e0] at hb
      rw [ups_ne _ _ e0] at hp
      exact .inr ⟨b, m, p, hb, hp, rfl⟩

/-- A map's entries are others now. -/
theorem set_inv {b : Nat} {m m' : AV} {p : Pl} {o o' : Obj} (hi : Inv N0 ρ h w) (hg : h.ms.get b = some m) (hp : ρ b = some p) (hrow : w.heap[p.r]? = some o) (hno : ∀ cs e fz, o ≠ .cells cs e fz) (hn : N0 ≤ p.r) (hl : MR ρ p m' o') :
    Inv N0 ρ ⟨h.nb, h.bs, h.gs, h.ms.set m' b⟩ { w with heap := w.heap.setIfInBounds p.r o' } ∧ Tr ρ h w ρ ⟨h.nb, h.bs, h.gs, h.ms.set m' b⟩ { w with heap := w.heap.setIfInBounds p.r o' } := by
  obtain ⟨hs1, hs2⟩ := heap_set (o' := o') hrow
  have hmget : ∀ b2, (h.ms.set m' b).get b2 = if b2 = b then some m' else h.ms.get b2 := fun b2 => T.get_set _ _ _ _
  have hsome : ∀ b2 m2, (h.ms.set m' b).get b2 = some m2 → ∃ m3, h.ms.get b2 = some m3 := by
    intro b2 m2 h2
    rw [hmget] at h2
    by_cases e0 : b2 = b
    · subst e0; exact ⟨m, hg⟩
    · rw [if_neg e0] at h2; exact ⟨m2, h2⟩
  have hcell : ∀ b2 B2 p2, BR N0 ρ h w b2 B2 p2 → p2.r ≠ p.r := by
    intro b2 B2 p2 hB e0
    obtain ⟨cs, e, fz, g1, -⟩ := hB.obj
    rw [e0, hrow] at g1
    exact hno _ _ _ (Option.some.inj g1)
  refine ⟨⟨?_, hi.nb, hi.gnb, hi.gs, hi.als, hi.lim, hi.free, by simpa using hi.wsz, ⟨?_, ?_⟩, Base.st hi.jj fun r hr => hs2 r (by omega)⟩, ⟨Ext.refl ρ, Nat.le_refl _, fun _ _ e => .inl e, ?_, fun b B p h1 h2 h3 => .inr ⟨b, B, p, h1, h2, h3, rfl⟩, ?_, by simp, rfl, rfl, rfl⟩⟩
  · intro b2 B2 h2
    obtain ⟨p2, hp2, hB⟩ := hi.blk b2 B2 h2
    exact ⟨p2, hp2, hB.later (Ext.refl ρ) (hs2 _ (hcell _ _ _ hB)) (fun hrd => hrd)⟩
  · intro b2 m2 h2
    have h2 : (h.ms.set m' b).get b2 = some m2 := h2
    rw [hmget] at h2
    by_cases e0 : b2 = b
    · rw [if_pos e0] at h2
      obtain rfl := Option.some.inj h2
      subst e0
      exact ⟨(hi.mp.ent _ _ hg).1, p, o', hp, hn, hs1, hl⟩
    · rw [if_neg e0] at h2
      obtain ⟨g1, p2, o2, g2, g3, g4, g5⟩ := hi.mp.ent b2 m2 h2
      refine ⟨g1, p2, o2, g2, g3, ?_, g5⟩
      rw [hs2 _ fun er => e0 (hi.mp.inj _ _ _ _ _ _ h2 hg g2 hp er)]
      exact g4
  · intro b1 b2 m1 m2 p1 p2 h1 h2 e1 e2 er
    obtain ⟨m3, h3⟩ := hsome b1 m1 h1
    obtain ⟨m4, h4⟩ := hsome b2 m2 h2
    exact hi.mp.inj _ _ _ _ _ _ h3 h4 e1 e2 er
  · intro r hr hnb hm
    exact hs2 r (fun er => hm b m p hg hp er.symm)
  · intro b2 m2 p2 h2 hp2
    obtain ⟨m3, h3⟩ := hsome b2 m2 h2
    exact .inr ⟨b2, m3, p2, h3, hp2, rfl⟩

theorem mup_ok {t kt et : TypeId} {q : KQ} {d : TypeDesc} {k : Hp → Res} {i v : AV} {I V : Value} (hi : Inv N0 ρ h w) (ht : P.underlying t = some (.map kt et)) (hd : P.underlying kt = some d) (hq : KOk q d)
    (e : mup q h x i v k = r) (hr : r ≠ .fail) (hx : VR ρ x X) (hI : VR ρ i I) (hv : VR ρ v V) : ∃ h' w', k h' = r ∧ (Instr.mapUpdate t X I V).run P w = .ok () w' ∧ Inv N0 ρ h' w' ∧ Tr ρ h w ρ h' w' := by
  obtain ⟨b, rfl, h1⟩ := cMap_inv e hr
  obtain ⟨p0, hp0, rfl⟩ := hx
  cases hg : h.ms.get b with
  | none => rw [hg] at h1; exact absurd h1.symm hr
  | some m =>
    rw [hg] at h1
    have h1 : q i i (fun _ => upL q i v m fun m => k ⟨h.nb, h.bs, h.gs, h.ms.set m b⟩) = r := h1
    obtain ⟨hk, b', h2⟩ := hq.key h1 hr hI
    obtain ⟨-, p, o, g1, gn, g2, g3⟩ := hi.mp.ent b m hg
    obtain rfl : p = p0 := by rw [g1] at hp0; exact Option.some.inj hp0
    obtain ⟨es, c, rfl⟩ : ∃ es c, o = .map es c := by
      cases o <;> first
        | exact g3.elim
        | exact ⟨_, _, rfl⟩
        | skip
      obtain ⟨-, rfl⟩ := g3
      exact absurd h2.symm hr
    have g3 : ELR ρ m es.toList := g3
    have hgo := Go.MapKept.run_getObj_map (P := P) (w := w) g2
    have hc := run_checkKey (P := P) (w := w) hd hk false 9999
    obtain ⟨m', h3, h4⟩ := upL_inv hq hI hv hr m es.toList 0 _ g3 h2
    rcases h4 with ⟨j, V', k1, k2, k3⟩ | ⟨k1, k2⟩
    · have hf := run_findKey (P := P) (w := w) hd k1
      have hst : ((es[0 + j]?).map (·.key)).getD I = I := by simpa using k2
      have hks := run_keyThatStays (P := P) (w := w) hk
      have hso := Go.MapKept.run_setObj_map (P := P) (w := w) (.map (es.modify (0 + j) fun e => { e with key := I, val := V }) c) g2
      obtain ⟨i1, i2⟩ := set_inv (m' := m') (o' := .map (es.modify (0 + j) fun e => { e with key := I, val := V }) c) hi hg hp0 g2 (by simp) gn (by show ELR _ _ _; rw [Array.toList_modify, Nat.zero_add]; exact k3)
      refine ⟨_, _, h3, ?_, i1, i2⟩
      simp [Instr.mapUpdate, run_underlying ht, Result.andThen, hgo, hc, hf] at hst hso ⊢
      rw [hst, hks]
      simpa using hso
    · have hf := run_findKey (P := P) (w := w) hd k1
      have hso := Go.MapKept.run_setObj_map (P := P) (w := w) (.map (es.push { key := I, val := V, born := c }) (c + 1)) g2
      obtain ⟨i1, i2⟩ := set_inv (m' := m') (o' := .map (es.push { key := I, val := V, born := c }) (c + 1)) hi hg hp0 g2 (by simp) gn (by show ELR _ _ _; rw [Array.toList_push]; exact k2 c)
      refine ⟨_, _, h3, ?_, i1, i2⟩
      simp [Instr.mapUpdate, run_underlying ht, Result.andThen, hgo, hc, hf]
      exact hso
end
end Go.AM

namespace Go.AM
open Go
set_option autoImplicit false

section
variable {P : Program} {N0 : Base} {ρ : Rho} {h : Hp} {w : World} {x y : AV} {X Y : Value} {r : Res}

theorem part1_run {t : TypeId} {d : TypeDesc} {xs : Array Value} {o : Nat} {V : Value} (hd : P.underlying t = some d) (ha : ag (some d) = false) (hx : xs[o]? = some V) (w : World) : (Go.part t xs o).run P w = .ok V w := by
  have hok : okT P t = true := by unfold okT; rw [hd]
  have hag : agT P t = false := by unfold agT; rw [hd]; exact ha
  unfold Go.part
  rw [Sem.run_bind, isAgg_run hok, hag]
  simp [hx]

theorem eqFs_inv {l m : AV} {xs ys : Array Value} (hx : LR ρ l xs.toList) (hy : LR ρ m ys.toList) (hr : r ≠ .fail) : ∀ (fs : List Field) (k : Bool → Res), eqFs P l m fs k = r →
    ∃ b, k b = r ∧ ∀ d w, (Op.eqFields (d + 1) xs ys fs).run P w = .ok b w := by
  intro fs
  induction fs with
  | nil => intro k e; exact ⟨true, e, fun d w => rfl⟩
  | cons f fs ih =>
    intro k e
    unfold eqFs at e
    obtain ⟨hn, e⟩ := sif_inv e hr
    have hn : f.name ≠ "_" := by simpa using hn
    have fin : ∀ (td : TypeDesc) (b : Bool) (V W : Value), P.underlying f.type = some td → ag (some td) = false → VR ρ (nth l f.offset) V → VR ρ (nth m f.offset) W → nth l f.offset ≠ .unk → nth m f.offset ≠ .unk →
        (∀ X Y, VR ρ (nth l f.offset) X → VR ρ (nth m f.offset) Y → ∀ d w, (Op.equalIn (d + 1) f.type X Y).run P w = .ok b w) →
        eqFs P l m fs (fun c => k (bAn2 b c)) = r → ∃ b, k b = r ∧ ∀ d w, (Op.eqFields (d + 1) xs ys (f :: fs)).run P w = .ok b w := by
      intro td b _ _ hu ha _ _ nx ny heq e
      obtain ⟨c, h1, h2⟩ := ih _ e
      obtain ⟨V, hV, hVR⟩ := LR_nth l _ f.offset hx nx
      obtain ⟨W, hW, hWR⟩ := LR_nth m _ f.offset hy ny
      refine ⟨_, h1, fun d w => ?_⟩
      have pV := part1_run (P := P) hu ha (by simpa using hV : xs[f.offset]? = some V) w
      have pW := part1_run (P := P) hu ha (by simpa using hW : ys[f.offset]? = some W) w
      unfold Op.eqFields
      rw [if_pos hn]
      simp only [Sem.run_bind, pV, pW, Result.andThen_ok, heq V W hVR hWR d w]
      cases b
      · rfl
      · exact h2 d w
    split at e
    · rename_i hu
      obtain ⟨a, ea, e1⟩ := cB_inv e hr
      obtain ⟨b, eb, e2⟩ := cB_inv e1 hr
      refine fin _ (beqB a b) (.bool a) (.bool b) hu rfl (by rw [ea]; rfl) (by rw [eb]; rfl) (by rw [ea]; simp) (by rw [eb]; simp) (fun X Y hX hY d w => ?_) e2
      rw [ea] at hX
      rw [eb] at hY
      have hX : X = .bool a := hX
      have hY : Y = .bool b := hY
      rw [hX, hY, run_equalIn_bool' w d _ _ _ hu, beqB_eq]
    · rename_i kk hu
      obtain ⟨c, a, b, ea, eb, e2⟩ := bin2_inv e hr
      obtain ⟨V, hV, hVR⟩ := LR_nth l _ f.offset hx (by rw [ea]; simp)
      obtain ⟨W, hW, hWR⟩ := LR_nth m _ f.offset hy (by rw [eb]; simp)
      refine fin _ (eqI a b) V W hu rfl hVR hWR (by rw [ea]; simp) (by rw [eb]; simp) (fun X Y hX hY d w => ?_) e2
      rw [ea] at hX
      rw [eb] at hY
      obtain ⟨kd, rfl, rfl, rfl⟩ := int2 hX hY
      rw [run_equalIn_int w d _ _ _ _ _ hu, eqI_eq]
    · rename_i hu
      obtain ⟨n, a, ea, e1⟩ := cS_inv e hr
      obtain ⟨n', b, eb, e2⟩ := cS_inv e1 hr
      obtain ⟨V, hV, hVR⟩ := LR_nth l _ f.offset hx (by rw [ea]; simp)
      obtain ⟨W, hW, hWR⟩ := LR_nth m _ f.offset hy (by rw [eb]; simp)
      refine fin _ (sEq n a n' b) V W hu rfl hVR hWR (by rw [ea]; simp) (by rw [eb]; simp) (fun X Y hX hY d w => ?_) e2
      rw [ea] at hX
      rw [eb] at hY
      obtain ⟨s, rfl, rfl, rfl⟩ := hX
      obtain ⟨s', rfl, rfl, rfl⟩ := hY
      rw [run_equalIn_string w d _ _ _ hu, sEq_eq]
    · exact absurd e.symm hr

theorem dBin2_pur {op : BinOp} {t : TypeId} {k : AV → Res} (xo yo : Operand) (e : dBin2 P op t x y k = r) (hr : r ≠ .fail) (hx : VR ρ x X) (hy : VR ρ y Y) :
    ∃ v, k v = r ∧ Pur P ρ (do eqGuard op t xo yo X Y; binOp op t X Y) v := by
  unfold dBin2 at e
  split at e
  · rename_i fs hu
    obtain ⟨hc, e⟩ := sif_inv e hr
    simp only [Bool.and_eq_true, Bool.not_eq_true'] at hc
    have hfs : P.underlying t = some (.struct (P.fieldsOf t)) := by unfold Program.fieldsOf; rw [hu]
    have hfo : P.fieldsOf t = fs := by unfold Program.fieldsOf; rw [hu]
    cases op with
    | eql =>
      obtain ⟨l, rfl, e1⟩ := cA_inv e hr
      obtain ⟨m, rfl, e2⟩ := cA_inv e1 hr
      obtain ⟨xs, rfl, hl⟩ := hx
      obtain ⟨ys, rfl, hm⟩ := hy
      obtain ⟨b, h1, h2⟩ := eqFs_inv hl hm hr fs.toList _ e2
      refine ⟨_, h1, .bool b, rfl, fun w => ?_⟩
      rw [Sem.run_bind, run_eqGuard_agg w _ t xo yo xs ys hc.1]
      simp only [Result.andThen_ok]
      rw [run_eql_struct, show (10000 : Nat) = 9999 + 1 from rfl, run_equalIn_agg w 9999 t xs ys hfs hc.2, hfo, h2 9998 w]
      rfl
    | neq =>
      obtain ⟨l, rfl, e1⟩ := cA_inv e hr
      obtain ⟨m, rfl, e2⟩ := cA_inv e1 hr
      obtain ⟨xs, rfl, hl⟩ := hx
      obtain ⟨ys, rfl, hm⟩ := hy
      obtain ⟨b, h1, h2⟩ := eqFs_inv hl hm hr fs.toList _ e2
      refine ⟨_, h1, .bool (!b), (by rw [bnot_eq]; rfl), fun w => ?_⟩
      rw [Sem.run_bind, run_eqGuard_agg w _ t xo yo xs ys hc.1]
      simp only [Result.andThen_ok]
      rw [run_neq_struct, show (10000 : Nat) = 9999 + 1 from rfl, run_equalIn_agg w 9999 t xs ys hfs hc.2, hfo, h2 9998 w]
      rfl
    | _ => exact absurd e.symm hr
  · exact dBin_pur xo yo e hr hx hy

theorem iMin_ok {ts : Array TypeId} {t : TypeId} {k : AV → Res} (e : iMin x y k = r) (hr : r ≠ .fail) (hx : VR ρ x X) (hy : VR ρ y Y) : ∃ v, k v = r ∧ Pur P ρ (Builtin.min_ ts t #[X, Y]) v := by
  obtain ⟨c, a, b, rfl, rfl, h1⟩ := bin2_inv e hr
  obtain ⟨kd, rfl, rfl, rfl⟩ := int2 hx hy
  refine ⟨_, h1, .int kd (if b < a then b else a), ⟨kd, rfl, ?_⟩, fun w => rfl⟩
  rw [recB]; simp only [ltI_eq, decide_eq_true_eq]
theorem iMax_ok {ts : Array TypeId} {t : TypeId} {k : AV → Res} (e : iMax x y k = r) (hr : r ≠ .fail) (hx : VR ρ x X) (hy : VR ρ y Y) : ∃ v, k v = r ∧ Pur P ρ (Builtin.max_ ts t #[X, Y]) v := by
  obtain ⟨c, a, b, rfl, rfl, h1⟩ := bin2_inv e hr
  obtain ⟨kd, rfl, rfl, rfl⟩ := int2 hx hy
  refine ⟨_, h1, .int kd (if b > a then b else a), ⟨kd, rfl, ?_⟩, fun w => rfl⟩
  rw [recB]; simp only [ltI_eq, decide_eq_true_eq, gt_iff_lt]

set_option maxRecDepth 10000 in
theorem runeC_eq (n : Int) : runeC n = if Utf8.valid n then n.toNat else Utf8.runeError := by
  cases n with
  | ofNat m =>
    have e : runeC (Int.ofNat m) = Bool.rec (motive := fun _ => Nat) (Bool.rec (motive := fun _ => Nat) 65533 (Bool.rec (motive := fun _ => Nat) 65533 m (Nat.ble m 1114111)) (Nat.ble 57344 m)) m (Nat.blt m 55296) := rfl
    have a1 := blt_iff m 55296
    have a2 := ble_iff 57344 m
    have a3 := ble_iff m 1114111
    have hv : Utf8.valid (Int.ofNat m) = true ↔ (m < 55296 ∨ 57344 ≤ m ∧ m ≤ 1114111) := by
      have e2 : Int.ofNat m = (m : Int) := rfl
      rw [e2]
      simp only [Utf8.valid, Bool.or_eq_true, Bool.and_eq_true, decide_eq_true_eq]
      omega
    rw [e]
    generalize Nat.blt m 55296 = b1 at *
    generalize Nat.ble 57344 m = b2 at *
    generalize Nat.ble m 1114111 = b3 at *
    rw [recB, recB, recB]
    by_cases h1 : m < 55296
    · rw [if_pos (a1.2 h1), if_pos (hv.2 (.inl h1))]; rfl
    · rw [if_neg (fun h => h1 (a1.1 h))]
      by_cases h2 : 57344 ≤ m
      · rw [if_pos (a2.2 h2)]
        by_cases h3 : m ≤ 1114111
        · rw [if_pos (a3.2 h3), if_pos (hv.2 (.inr ⟨h2, h3⟩))]; rfl
        · rw [if_neg (fun h => h3 (a3.1 h)), if_neg (fun h => by rcases hv.1 h with h | h <;> omega)]; rfl
      · rw [if_neg (fun h => h2 (a2.1 h)), if_neg (fun h => by rcases hv.1 h with h | h <;> omega)]; rfl
  | negSucc m =>
    have e : runeC (Int.negSucc m) = 65533 := rfl
    rw [e, if_neg]
    · rfl
    · simp only [Utf8.valid, Bool.or_eq_true, Bool.and_eq_true, decide_eq_true_eq]; omega

theorem u8n (n : Nat) (h : n < 256) : (UInt8.ofNat n).toNat = n := by simp [UInt8.toNat_ofNat']; omega

theorem runeC_lt (n : Int) : runeC n ≤ 1114111 := by
  rw [runeC_eq]
  split
  · rename_i h
    simp only [Utf8.valid, Bool.or_eq_true, Bool.and_eq_true, decide_eq_true_eq] at h
    omega
  · decide

theorem iStr_ok {k : AV → Res} (e : iStr x k = r) (hr : r ≠ .fail) (hx : VR ρ x X) : ∃ kd n v, X = .int kd n ∧ k v = r ∧ VR ρ v (.string (Utf8.encode n)) := by
  obtain ⟨c, n, rfl, h1⟩ := cI_inv e hr
  obtain ⟨kd, -, rfl⟩ := hx
  refine ⟨kd, n, ?_⟩
  have hc := runeC_lt n
  have he : Utf8.encode n = (let c := runeC n; let b (n : Nat) : UInt8 := UInt8.ofNat n
    if c < 0x80 then ⟨#[b c]⟩
    else if c < 0x800 then ⟨#[b (0xC0 + c / 64), b (0x80 + c % 64)]⟩
    else if c < 0x10000 then ⟨#[b (0xE0 + c / 4096), b (0x80 + c / 64 % 64), b (0x80 + c % 64)]⟩
    else ⟨#[b (0xF0 + c / 262144), b (0x80 + c / 4096 % 64), b (0x80 + c / 64 % 64), b (0x80 + c % 64)]⟩) := by
    rw [runeC_eq]; rfl
  rw [he]
  generalize runeC n = c at *
  simp only at h1
  have pk : ∀ l : List UInt8, packB l = List.rec (motive := fun _ => Nat) 0 (fun b _ ih => Nat.add b.toNat (Nat.mul 256 ih)) l := fun l => rfl
  rcases ifB_inv h1 with ⟨q, h2⟩ | ⟨q, h2⟩
  · rw [blt_iff] at q
    refine ⟨_, rfl, h2, _, rfl, ?_⟩
    rw [if_pos q]
    exact ⟨by first | trivial | rfl, by rw [pk]; show (UInt8.ofNat c).toNat + 256 * 0 = c; rw [u8n _ (by omega)]; omega⟩
  · have q : ¬ c < 128 := fun h => by rw [(blt_iff _ _).2 h] at q; cases q
    rcases ifB_inv h2 with ⟨q2, h3⟩ | ⟨q2, h3⟩
    · rw [blt_iff] at q2
      refine ⟨_, rfl, h3, _, rfl, ?_⟩
      rw [if_neg q, if_pos q2]
      refine ⟨by first | trivial | rfl, ?_⟩
      rw [pk]
      show (UInt8.ofNat (0xC0 + c / 64)).toNat + 256 * ((UInt8.ofNat (0x80 + c % 64)).toNat + 256 * 0) = (192 + c / 64) + 256 * (128 + c % 64)
      rw [u8n _ (by omega), u8n _ (by omega)]; omega
    · have q2 : ¬ c < 2048 := fun h => by rw [(blt_iff _ _).2 h] at q2; cases q2
      rcases ifB_inv h3 with ⟨q3, h4⟩ | ⟨q3, h4⟩
      · rw [blt_iff] at q3
        refine ⟨_, rfl, h4, _, rfl, ?_⟩
        rw [if_neg q, if_neg q2, if_pos q3]
        refine ⟨by first | trivial | rfl, ?_⟩
        rw [pk]
        show (UInt8.ofNat (0xE0 + c / 4096)).toNat + 256 * ((UInt8.ofNat (0x80 + c / 64 % 64)).toNat + 256 * ((UInt8.ofNat (0x80 + c % 64)).toNat + 256 * 0)) = (224 + c / 4096) + 256 * ((128 + c / 64 % 64) + 256 * (128 + c % 64))
        rw [u8n _ (by omega), u8n _ (by omega), u8n _ (by omega)]; omega
      · have q3 : ¬ c < 65536 := fun h => by rw [(blt_iff _ _).2 h] at q3; cases q3
        refine ⟨_, rfl, h4, _, rfl, ?_⟩
        rw [if_neg q, if_neg q2, if_neg q3]
        refine ⟨by first | trivial | rfl, ?_⟩
        rw [pk]
        show (UInt8.ofNat (0xF0 + c / 262144)).toNat + 256 * ((UInt8.ofNat (0x80 + c / 4096 % 64)).toNat + 256 * ((UInt8.ofNat (0x80 + c / 64 % 64)).toNat + 256 * ((UInt8.ofNat (0x80 + c % 64)).toNat + 256 * 0))) = (240 + c / 262144) + 256 * ((128 + c / 4096 % 64) + 256 * ((128 + c / 64 % 64) + 256 * (128 + c % 64)))
        rw [u8n _ (by omega), u8n _ (by omega), u8n _ (by omega), u8n _ (by omega)]; omega

theorem conv2_ok {s d : TypeId} {k : AV → Hp → Res} (hi : Inv N0 ρ h w) (e : dConv2 P s d x h k = r) (hr : r ≠ .fail) (hx : VR ρ x X) : Does P N0 ρ h w (convert s d X) k r := by
  unfold dConv2 at e
  split at e
  · rename_i kk hs hd
    obtain ⟨kd, n, v, rfl, h1, h2⟩ := iStr_ok (k := fun v => k v h) e hr hx
    refine Does.here hi h1 h2 ?_
    unfold convert
    rw [Sem.run_bind, run_und hs]
    simp only [Result.andThen_ok]
    rw [Sem.run_bind, run_und hd]
    rfl
  · exact conv_ok hi e hr hx

theorem heap_alloc' (w : World) (o : Obj) : (w.alloc o).heap[w.heap.size]? = some o ∧ ∀ r, r < w.heap.size → (w.alloc o).heap[r]? = w.heap[r]? :=
  ⟨by rw [show (w.alloc o).heap = w.heap.push o from rfl]; simp, fun r hr => by rw [show (w.alloc o).heap = w.heap.push o from rfl, Array.getElem?_push, if_neg (by omega)]⟩

/-- An entry of the machine's more. -/
theorem ent_new {m : AV} {o : Obj} (hi : Inv N0 ρ h w) (hno : ∀ cs e fz, o ≠ .cells cs e fz) (hm : MR (ups ρ h.nb ⟨w.heap.size, 0, 0, 0⟩) ⟨w.heap.size, 0, 0, 0⟩ m o) :
    Inv N0 (ups ρ h.nb ⟨w.heap.size, 0, 0, 0⟩) ⟨Nat.succ h.nb, h.bs, h.gs, h.ms.set m h.nb⟩ (w.alloc o) ∧ Tr ρ h w (ups ρ h.nb ⟨w.heap.size, 0, 0, 0⟩) ⟨Nat.succ h.nb, h.bs, h.gs, h.ms.set m h.nb⟩ (w.alloc o) := by
  have hfree : ρ h.nb = none := hi.free _ (Nat.le_refl _)
  have hext := ups_ext ⟨w.heap.size, 0, 0, 0⟩ hfree
  obtain ⟨ha1, ha2⟩ := heap_alloc' w o
  have hsize : (w.alloc o).heap.size = w.heap.size + 1 := by show (w.heap.push _).size = _; simp
  have plc : ∀ b2 B2 p2, h.bs.get b2 = some B2 → ups ρ h.nb ⟨w.heap.size, 0, 0, 0⟩ b2 = some p2 → ρ b2 = some p2 := by
    intro b2 B2 p2 h2 hp2
    have := hi.nb b2 B2 h2
    rwa [ups_ne _ _ (by omega)] at hp2
  have hmget : ∀ b, (h.ms.set m h.nb).get b = if b = h.nb then some m else h.ms.get b := fun b => T.get_set _ _ _ _
  refine ⟨⟨?_, ?_, ?_, ?_, ?_, ?_, ?_, ?_, ⟨?_, ?_⟩, Base.st hi.jj fun r hr => ha2 r (by have := hi.wsz; omega)⟩, ⟨hext, Nat.le_succ _, ?_, fun r hr _ _ => ha2 r hr, ?_, ?_, by rw [hsize]; omega, rfl, rfl, rfl⟩⟩
  · intro b B hb
    obtain ⟨p, hp, hB⟩ := hi.blk b B hb
    exact ⟨p, hext _ _ hp, hB.later hext (ha2 _ hB.lt) (fun hrd => hrd)⟩
  · intro b B hb; exact Nat.lt_succ_of_lt (hi.nb b B hb)
  · intro b B hb hf
    have := hi.gnb b B hb hf
    exact ⟨Nat.lt_succ_of_lt this.1, this.2⟩
  · intro g q hq
    have := hi.gs g q hq
    exact ⟨Nat.lt_succ_of_lt this.1, Nat.lt_succ_of_lt this.2.1, this.2.2⟩
  · intro b1 b2 B1 B2 p1 p2 h1 h2 f1 f2 e1 e2 er
    exact hi.als b1 b2 B1 B2 p1 p2 h1 h2 f1 f2 (plc _ _ _ h1 e1) (plc _ _ _ h2 e2) er
  · intro b1 b2 B1 B2 p1 p2 h1 h2 f1 f2 e1 e2 eg r1 r2 hle
    exact hi.lim b1 b2 B1 B2 p1 p2 h1 h2 f1 f2 (plc _ _ _ h1 e1) (plc _ _ _ h2 e2) eg r1 r2 hle
  · intro i hle
    have hle : h.nb + 1 ≤ i := hle
    rw [ups_ne _ _ (by omega)]
    exact hi.free i (by omega)
  · rw [hsize]; have := hi.wsz; omega
  · intro b m2 hb
    have hb : (h.ms.set m h.nb).get b = some m2 := hb
    rw [hmget] at hb
    by_cases e0 : b = h.nb
    · rw [if_pos e0] at hb
      obtain rfl := Option.some.inj hb
      subst e0
      exact ⟨Nat.lt_succ_self _, _, o, ups_same _ _ _, hi.wsz, ha1, hm⟩
    · rw [if_neg e0] at hb
      obtain ⟨g1, p, o2, g2, g3, g4, g5⟩ := hi.mp.ent b m2 hb
      exact ⟨Nat.lt_succ_of_lt g1, p, o2, hext _ _ g2, g3, by rw [ha2 _ (Array.getElem?_eq_some_iff.1 g4).1]; exact g4, g5.ext hext⟩
  · intro b1 b2 m1 m2 p1 p2 h1 h2 e1 e2 er
    have h1 : (h.ms.set m h.nb).get b1 = some m1 := h1
    have h2 : (h.ms.set m h.nb).get b2 = some m2 := h2
    rw [hmget] at h1 h2
    have old : ∀ b m p, h.ms.get b = some m → b ≠ h.nb → ups ρ h.nb ⟨w.heap.size, 0, 0, 0⟩ b = some p → ρ b = some p ∧ p.r < w.heap.size := by
      intro b m p hb hne hp
      rw [ups_ne _ _ hne] at hp
      obtain ⟨-, q, o2, g2, -, g4, -⟩ := hi.mp.ent b m hb
      rw [hp] at g2
      obtain rfl := Option.some.inj g2
      exact ⟨hp, (Array.getElem?_eq_some_iff.1 g4).1⟩
    by_cases n1 : b1 = h.nb <;> by_cases n2 : b2 = h.nb
    · rw [n1, n2]
    · rw [if_neg n2] at h2
      subst n1
      rw [ups_same] at e1
      obtain rfl := (Option.some.inj e1).symm
      have := (old _ _ _ h2 n2 e2).2
      simp at er; omega
    · rw [if_neg n1] at h1
      subst n2
      rw [ups_same] at e2
      obtain rfl := (Option.some.inj e2).symm
      have := (old _ _ _ h1 n1 e1).2
      simp at er; omega
    · rw [if_neg n1] at h1
      rw [if_neg n2] at h2
      exact hi.mp.inj _ _ _ _ _ _ h1 h2 (old _ _ _ h1 n1 e1).1 (old _ _ _ h2 n2 e2).1 er
  · intro b p hp
    by_cases e0 : b = h.nb
    · subst e0; exact .inr ⟨hfree, Nat.le_refl _, Nat.lt_succ_self _⟩
    · rw [ups_ne _ _ e0] at hp; exact .inl hp
  · intro b B p hb hf hp
    exact .inr ⟨b, B, p, hb, hf, plc _ _ _ hb hp, rfl⟩
  · intro b m2 p hb hp
    have hb : (h.ms.set m h.nb).get b = some m2 := hb
    rw [hmget] at hb
    by_cases e0 : b = h.nb
    · subst e0
      rw [ups_same] at hp
      obtain rfl := (Option.some.inj hp).symm
      exact .inl (Nat.le_refl _)
    · rw [if_neg e0] at hb
      rw [ups_ne _ _ e0] at hp
      exact .inr ⟨b, m2, p, hb, hp, rfl⟩

theorem rng_ok {t : TypeId} {k : AV → Hp → Res} (hi : Inv N0 ρ h w) (hu : P.underlying t = some .string) (e : rng h x k = r) (hr : r ≠ .fail) (hx : VR ρ x X) : Does P N0 ρ h w (Instr.range t X) k r := by
  obtain ⟨n, a, rfl, h1⟩ := cS_inv e hr
  obtain ⟨s, rfl, rfl, rfl⟩ := hx
  obtain ⟨i1, i2⟩ := ent_new (m := itr s.data.size (packB s.data.toList) 0) (o := .stringIter s 0) hi (by simp) ⟨rfl, rfl⟩
  exact ⟨_, _, _, _, _, h1, run_range_string w t s hu, ⟨⟨_, ups_same _ _ _, rfl⟩, i1, i2⟩⟩

theorem byteAt_out (l : List UInt8) (i : Nat) (h : l.length ≤ i) : byteAt (packB l) i = 0 := by
  have hu : byteAt (packB l) i = (packB l >>> (8 * i)) % 256 := rfl
  have hlt := packB_lt l
  have h1 : packB l < 2 ^ (8 * i) := by
    refine Nat.lt_of_lt_of_le hlt ?_
    rw [Nat.pow_mul]
    exact Nat.pow_le_pow_right (by decide) h
  rw [hu, Nat.shiftRight_eq_div_pow, Nat.div_eq_of_lt h1]

theorem get_byte (s : ByteArray) (i : Nat) : (s.get! i).toNat = byteAt (packB s.data.toList) i := by
  by_cases h : i < s.data.size
  · rw [byteAt_eq _ _ (by simpa using h)]
    have : s.get! i = s.data[i]'h := by
      have e : s.get! i = s.data[i]! := rfl
      rw [e]; exact getElem!_pos s.data i h
    rw [this]; simp
  · rw [byteAt_out _ _ (by simpa using h)]
    have : s.get! i = 0 := by
      have e : s.get! i = s.data[i]! := rfl
      rw [e]; exact getElem!_neg s.data i h
    rw [this]; rfl

theorem decA_eq (s : ByteArray) (p : Nat) : decA s.data.size (packB s.data.toList) p = Utf8.decode s p := by
  unfold decA Utf8.decode
  simp only [get_byte, Utf8.runeError]
  have hs : s.size = s.data.size := rfl
  rw [hs]
  have hv : ∀ c : Nat, (Utf8.valid (c : Int)) = (decide (c < 0xD800) || (decide (0xE000 ≤ c) && decide (c ≤ 0x10FFFF))) := by
    intro c
    rw [Bool.eq_iff_iff]
    simp only [Utf8.valid, Bool.or_eq_true, Bool.and_eq_true, decide_eq_true_eq]
    omega
  simp only [hv]

theorem nxt_ok {t : TypeId} {k : AV → Hp → Res} (hi : Inv N0 ρ h w) (e : nxt h x k = r) (hr : r ≠ .fail) (hx : VR ρ x X) : Does P N0 ρ h w (Instr.next X true t) k r := by
  obtain ⟨b, o, rfl, h1⟩ := cP_inv e hr
  obtain ⟨h0, h1⟩ := ifF_inv h1 hr
  rw [beq_iff] at h0
  subst h0
  obtain ⟨p0, hp0, rfl⟩ := hx
  cases hg : h.ms.get b with
  | none => rw [hg] at h1; exact absurd h1.symm hr
  | some m =>
    rw [hg] at h1
    obtain ⟨l, rfl, h2⟩ := cT_inv h1 hr
    obtain ⟨-, p, ob, g1, gn, g2, g3⟩ := hi.mp.ent b _ hg
    obtain rfl : p = p0 := by rw [g1] at hp0; exact Option.some.inj hp0
    cases ob <;> first
      | exact g3.elim
      | skip
    · rename_i s pos
      obtain ⟨hb, hm⟩ := g3
      obtain rfl : l = .cons (.str s.data.size (packB s.data.toList)) (.cons (.int 63 (Int.ofNat pos)) .nil) := by cases hm; rfl
      have hba : p.base + 0 = 0 := by omega
      have hgo : (getObj p.r).run P w = .ok (.stringIter s pos) w := by simp [getObj, Sem.run, g2]
      have h2 : ifB (Nat.blt pos s.data.size) (k (.tup (.cons (.bool true) (.cons (.int 63 (Int.ofNat pos)) (.cons (.int 31 (Int.ofNat (decA s.data.size (packB s.data.toList) pos).1)) .nil)))) ⟨h.nb, h.bs, h.gs, h.ms.set (itr s.data.size (packB s.data.toList) (Nat.add pos (decA s.data.size (packB s.data.toList) pos).2)) b⟩)
        (k (.tup (.cons (.bool false) .nil)) h) = r := h2
      rw [decA_eq] at h2
      rcases ifB_inv h2 with ⟨q, h3⟩ | ⟨q, h3⟩
      · rw [blt_iff] at q
        have q : pos < s.size := q
        have hso : ∀ o', (setObj p.r o').run P w = .ok () { w with heap := w.heap.setIfInBounds p.r o' } := fun o' => by
          simp [setObj, Sem.run, g2]
        obtain ⟨i1, i2⟩ := set_inv (m' := itr s.data.size (packB s.data.toList) (Nat.add pos (Utf8.decode s pos).2)) (o' := .stringIter s (pos + (Utf8.decode s pos).2)) hi hg g1 g2 (by simp) gn ⟨hb, rfl⟩
        refine ⟨_, _, .tuple #[.bool true, goInt pos, .int .i32 (Utf8.decode s pos).1], _, _, h3, ?_, ⟨⟨_, rfl, _, _, rfl, rfl, _, _, rfl, ⟨.i64, rfl, rfl⟩, _, _, rfl, ⟨.i32, rfl, rfl⟩, rfl⟩, i1, i2⟩⟩
        simp only [Instr.next, hba, Sem.run_bind, hgo, Result.andThen_ok, if_pos q, hso]
        rfl
      · have q : ¬ pos < s.size := fun hq => by
          have hq : pos < s.data.size := hq
          rw [(blt_iff _ _).2 hq] at q; cases q
        refine Does.here hi h3 (V := .tuple #[.bool false]) ⟨_, rfl, _, _, rfl, rfl, rfl⟩ ?_
        simp only [Instr.next, hba, Sem.run_bind, hgo, Result.andThen_ok, if_neg q]
        rfl
end
end Go.AM

namespace Go.AM
open Go
set_option autoImplicit false

/-- The machine's slots stand for the frame's. -/
def ERel (ρ : Rho) (env : Env) (a : Act) : Prop := ∀ t, VR ρ (env t) (a.tmps.getD t undef)

/-- What a function's text says is what a call does. -/
def FSound (P : Program) (f : FuncId) (g : Fun) : Prop :=
  ∀ (N0 : Base), N0.fits P → ∀ (ρ : Rho) (h : Hp) (w : World) (args : List AV) (Args : Array Value) (v : AV) (h' : Hp), g args h = .ret v h' → Inv N0 ρ h w → F2 (VR ρ) args Args.toList →
    Calls P f Args w fun e w' => ∃ V ρ', e = .returned V ∧ Out N0 ρ h w v h' V w' ρ'
/-- A function that is entered where it is called. -/
def Enters (P : Program) (f : FuncId) : Prop := ∀ args w, (callFunc f args).run P w = .ok (.enter f args) w
/-- A function without a body that answers where it is called. -/
def ESound (P : Program) (f : FuncId) (g : Fun) : Prop :=
  ∀ (N0 : Base), N0.fits P → ∀ (ρ : Rho) (h : Hp) (w : World) (args : List AV) (Args : Array Value) (v : AV) (h' : Hp), g args h = .ret v h' → Inv N0 ρ h w → F2 (VR ρ) args Args.toList →
    ∃ V w' ρ', (callFunc f Args).run P w = .ok (.value V) w' ∧ Out N0 ρ h w v h' V w' ρ'
def GSound (P : Program) (γ : FuncId → Option Fun) : Prop := ∀ f g, γ f = some g → (FSound P f g ∧ Enters P f) ∨ ESound P f g

section
variable {P : Program} {N0 : Base} {ρ : Rho} {h : Hp} {w : World} {x y : AV} {X Y : Value} {r : Res} {env : Env} {a : Act}

theorem ev_rel (he : ERel ρ env a) (o : Operand) : VR ρ (ev env o) (a.eval o) := by
  cases o with
  | tmp t => exact he t
  | const v => exact ofV_rel v
  | global g => exact trivial
  | func f => exact ⟨#[], #[], rfl, rfl, rfl⟩

theorem or_rel (he : ERel ρ env a) (o : Option Operand) : OR ρ (o.map (ev env)) (o.map a.eval) := by
  cases o with
  | none => exact .inl ⟨rfl, rfl⟩
  | some o => exact .inr ⟨_, _, rfl, rfl, ev_rel he o⟩

theorem lowered_rel (he : ERel ρ env a) (ps : List (Nat × Operand)) : PRel ρ (lowered env ps) (ps.map fun p => (p.1, a.eval p.2)) := by
  induction ps with
  | nil => exact .nil
  | cons p ps ih => exact .cons ⟨rfl, ev_rel he p.2⟩ ih

theorem F2_map (he : ERel ρ env a) (l : List Operand) : F2 (VR ρ) (l.map (ev env)) (l.map a.eval) := by
  induction l with
  | nil => exact .nil
  | cons x l ih => exact .cons (ev_rel he x) ih

/-- The outcome of an operation on the frame. -/
def Op1 (P : Program) (N0 : Base) (ρ : Rho) (h : Hp) (w : World) (o : Oper) (a : Act) (k : AV → Hp → Res) (r : Res) : Prop :=
  ∃ v h', k v h' = r ∧ ∀ (next : Act → World → Prop) (Q : Exit → Act → World → Prop), (∀ V w' ρ', Out N0 ρ h w v h' V w' ρ' → next (a.put o.dst V) w') → o.wp P a w next Q

theorem op_val {o : Oper} {k : AV → Hp → Res} {s : Sem Value} (ho : execOp a.eval o = (do pure (.value (← s)))) (hd : Does P N0 ρ h w s k r) : Op1 P N0 ρ h w o a k r := by
  obtain ⟨v, h', V, w', ρ', h1, h2, h3⟩ := hd
  refine ⟨v, h', h1, fun next Q hn => ?_⟩
  unfold Oper.wp
  rw [ho, Sem.run_bind, h2]
  exact hn V w' ρ' h3

theorem op_pur {o : Oper} {k : AV → Hp → Res} {s : Sem Value} (hi : Inv N0 ρ h w) (ho : execOp a.eval o = (do pure (.value (← s)))) (hd : ∃ v, k v h = r ∧ Pur P ρ s v) : Op1 P N0 ρ h w o a k r :=
  op_val ho (Does.pur hi hd)

theorem op_unit {o : Oper} {k : AV → Hp → Res} {s : Sem Unit} (ho : execOp a.eval o = (do s; pure .skip)) (hd : ∃ h' w', k (.tup .nil) h' = r ∧ s.run P w = .ok () w' ∧ Inv N0 ρ h' w' ∧ Tr ρ h w ρ h' w') : Op1 P N0 ρ h w o a k r := by
  obtain ⟨h', w', h1, h2, h3, h4⟩ := hd
  refine ⟨_, h', h1, fun next Q hn => ?_⟩
  unfold Oper.wp
  rw [ho, Sem.run_bind, h2]
  exact hn undef w' ρ ⟨⟨#[], rfl, rfl⟩, h3, h4⟩

theorem op_here {o : Oper} {k : AV → Hp → Res} {v : AV} {V : Value} (hi : Inv N0 ρ h w) (ho : (execOp a.eval o).run P w = .ok (.value V) w) (hv : VR ρ v V) (e : k v h = r) : Op1 P N0 ρ h w o a k r :=
  ⟨v, h, e, fun next Q hn => by unfold Oper.wp; rw [ho]; exact hn V w ρ ⟨hv, hi, Tr.refl ρ h w⟩⟩

theorem F2.append {α β : Type} {Q : α → β → Prop} {a b : List α} {c d : List β} (h1 : F2 Q a c) (h2 : F2 Q b d) : F2 Q (a ++ b) (c ++ d) := by
  induction h1 with
  | nil => exact h2
  | cons hq _ ih => exact .cons hq ih

theorem lst_F2 {vs : List AV} {Vs : List Value} (h : F2 (VR ρ) vs Vs) : LR ρ (lst vs) Vs := by
  induction h with
  | nil => rfl
  | cons h1 _ ih => exact ⟨_, _, rfl, h1, ih⟩

theorem mkf_rel (he : ERel ρ env a) (f : Fn) (l m : Array Operand) : VR ρ (.fn f (lst (l.toList.map (ev env))) (lst (m.toList.map (ev env)))) (.func f (l.map a.eval) (m.map a.eval)) :=
  ⟨_, _, rfl, by rw [Array.toList_map]; exact lst_F2 (F2_map he _), by rw [Array.toList_map]; exact lst_F2 (F2_map he _)⟩

theorem unL_inv (hr : r ≠ .fail) : ∀ (l : AV) {k : List AV → Res}, unL l k = r → ∃ vs, k vs = r ∧ ∀ L, LR ρ l L → F2 (VR ρ) vs L := by
  intro l
  induction l with
  | nil => intro k e; exact ⟨[], e, fun L hL => by have hL : L = [] := hL; subst hL; exact .nil⟩
  | cons v t _ iht =>
    intro k e
    have e : unL t (fun t => k (v :: t)) = r := e
    obtain ⟨vs, h1, h2⟩ := iht e
    refine ⟨v :: vs, h1, fun L hL => ?_⟩
    obtain ⟨V, L', rfl, g1, g2⟩ := hL
    exact .cons g1 (h2 _ g2)
  | _ => intro k e; exact absurd e.symm hr

theorem dyn_inv {γ : FuncId → Option Fun} {v : AV} {V : Value} {args : List AV} (e : dyn γ v args h = r) (hr : r ≠ .fail) (hv : VR ρ v V) :
    ∃ f g la lb LA LB, V = .func (.func f) LA LB ∧ γ f = some g ∧ F2 (VR ρ) la LA.toList ∧ F2 (VR ρ) lb LB.toList ∧ g (la ++ args ++ lb) h = r := by
  obtain ⟨fn, a, b, rfl, h1⟩ := cFn_inv e hr
  obtain ⟨LA, LB, rfl, h2, h3⟩ := hv
  cases fn with
  | func f =>
    simp only at h1
    cases hg : γ f with
    | none => rw [hg] at h1; exact absurd h1.symm hr
    | some g =>
      rw [hg] at h1
      simp only at h1
      obtain ⟨la, g1, g2⟩ := unL_inv (ρ := ρ) hr a h1
      obtain ⟨lb, g3, g4⟩ := unL_inv (ρ := ρ) hr b g1
      exact ⟨f, g, la, lb, LA, LB, rfl, hg, g2 _ h2, g4 _ h3, g3⟩
  | _ => exact absurd h1.symm hr

theorem dOp_sound {γ : FuncId → Option Fun} (hγ : GSound P γ ∧ N0.fits P) (o : Oper) {k : AV → Hp → Res} (hi : Inv N0 ρ h w) (he : ERel ρ env a) (e : dOp P γ env h o.op k = r) (hr : r ≠ .fail) : Op1 P N0 ρ h w o a k r := by
  generalize ho : o.op = op at e
  have hx : ∀ v : Operand, VR ρ (ev env v) (a.eval v) := ev_rel he
  cases op with
  | move x => exact op_here hi (by simp [execOp, ho]) (hx x) e
  | assign x => exact op_here hi (by simp [execOp, ho]) (hx x) e
  | pick c x y =>
    obtain ⟨t, h1, h2⟩ := cB_inv e hr
    have h3 := hx c
    rw [h1] at h3
    have h3 : a.eval c = .bool t := h3
    refine op_here hi (V := if t then a.eval x else a.eval y) (by simp [execOp, ho, h3, asBool]) ?_ h2
    cases t
    · exact hx y
    · exact hx x
  | alloc t => exact op_val (by simp only [execOp, ho]) (alloc_ok hi e hr)
  | box t x => exact op_val (by simp only [execOp, ho]) (box_ok (t := t) hi e hr (hx x))
  | build t ps => exact op_pur hi (by simp only [execOp, ho]) (build_ok (ps := lowered env ps.toList) (pv := ps.map fun (i, x) => (i, a.eval x)) (by rw [Array.toList_map]; exact lowered_rel he ps.toList) e hr)
  | buildSlice t n ps =>
    simp only [dOp] at e
    split at e
    · rename_i u hu
      obtain ⟨h1, h2⟩ := sif_inv e hr
      exact op_val (by simp only [execOp, ho]) (buildSlice_ok (ps := lowered env ps.toList) (pv := ps.map fun (i, x) => (i, a.eval x)) hi (by rw [Array.toList_map]; exact lowered_rel he ps.toList) hu h1 h2 hr)
    · exact absurd e.symm hr
  | load t x =>
    simp only [dOp] at e
    obtain ⟨h1, h2⟩ := sif_inv e hr
    split at h2
    · rename_i ht
      exact op_val (by simp only [execOp, ho]) (Does.read hi (ldN_ok hi ht h1 h2 hr (hx x)))
    · rename_i ht
      exact op_val (by simp only [execOp, ho]) (Does.read hi (ld1_ok hi ht h1 h2 hr (hx x)))
  | store t x y =>
    simp only [dOp] at e
    obtain ⟨h1, h2⟩ := sif_inv e hr
    split at h2
    · exact op_unit (by simp only [execOp, ho]) (stN_ok (k := fun h => k (.tup .nil) h) hi h1 h2 hr (hx x) (hx y))
    · obtain ⟨h3, h4⟩ := sif_inv h2 hr
      rw [beq_iff] at h3
      exact op_unit (by simp only [execOp, ho]) (st1_ok (k := fun h => k (.tup .nil) h) hi h1 h3 h4 hr (hx x) (hx y))
  | nilCheck x =>
    obtain ⟨h1, h2⟩ := nck_ok (P := P) o (kk := k) ho rfl e hr (hx x)
    exact op_here hi (h2 w) (hx x) h1
  | binOp op t x y z => exact op_pur hi (by simp only [execOp, ho]) (dBin2_pur x y e hr (hx x) (hx y))
  | unOp op t x =>
    simp only [dOp] at e
    split at e
    · exact op_pur hi (by simp only [execOp, ho]) (iNeg_pur e hr (hx x))
    · exact op_pur hi (by simp only [execOp, ho]) (iNot_pur e hr (hx x))
    · exact op_pur hi (by simp only [execOp, ho]) (bNot_pur e hr (hx x))
    · exact absurd e.symm hr
  | convert s d x => exact op_val (by simp only [execOp, ho]) (conv2_ok hi e hr (hx x))
  | range t x =>
    simp only [dOp] at e
    split at e
    · rename_i hu
      exact op_val (by simp only [execOp, ho]) (rng_ok hi hu e hr (hx x))
    · exact absurd e.symm hr
  | next x s =>
    simp only [dOp] at e
    obtain ⟨hs, e2⟩ := sif_inv e hr
    subst hs
    exact op_val (by simp only [execOp, ho]) (nxt_ok (t := o.type) hi e2 hr (hx x))
  | makeMap t rs =>
    cases rs with
    | none => exact op_val (by simp only [execOp, ho, Option.map_none]) (mkMap_ok (t := t) hi e)
    | some x => exact absurd e.symm hr
  | lookup t x i ok =>
    simp only [dOp] at e
    split at e
    · rename_i kt et ht
      split at e
      · rename_i q hq
        obtain ⟨d, hd, hk⟩ := keyQ_inv hq
        exact op_val (by simp only [execOp, ho]) (Does.read hi (lkp_ok (k := fun v => k v h) hi ht hd hk e hr (hx x) (hx i)))
      · exact absurd e.symm hr
    · exact absurd e.symm hr
  | mapUpdate t m x v =>
    simp only [dOp] at e
    split at e
    · rename_i kt et ht
      split at e
      · rename_i q hq
        obtain ⟨d, hd, hk⟩ := keyQ_inv hq
        exact op_unit (by simp only [execOp, ho]) (mup_ok (k := fun h => k (.tup .nil) h) hi ht hd hk e hr (hx m) (hx x) (hx v))
      · exact absurd e.symm hr
    · exact absurd e.symm hr
  | insert t m x v =>
    simp only [dOp] at e
    split at e
    · rename_i kt et ht
      split at e
      · rename_i q hq
        obtain ⟨d, hd, hk⟩ := keyQ_inv hq
        exact op_unit (by simp only [execOp, ho]) (mup_ok (k := fun h => k (.tup .nil) h) hi ht hd hk e hr (hx m) (hx x) (hx v))
      · exact absurd e.symm hr
    · exact absurd e.symm hr
  | makeFunc f l m => exact op_here hi (V := .func f (l.map a.eval) (m.map a.eval)) (by simp [execOp, ho, Instr.makeFunc]) (mkf_rel he f l m) e
  | makeInterface t x =>
    simp only [dOp] at e
    split at e
    · exact absurd e.symm hr
    · exact absurd e.symm hr
    · rename_i h1 h2
      cases hu : P.underlying t with
      | none => exact absurd hu h2
      | some d => exact op_pur hi (by simp only [execOp, ho]) ⟨_, e, ifc_ok hu (fun ms hms => h1 ms (by rw [hu, hms])) (hx x)⟩
  | makeSlice t l c =>
    simp only [dOp] at e
    split at e
    · rename_i u hu
      obtain ⟨h1, h2⟩ := sif_inv e hr
      exact op_val (by simp only [execOp, ho]) (mkM_ok hi hu h1 h2 hr (hx l) (hx c))
    · exact absurd e.symm hr
  | slice t x lo hi' mx =>
    simp only [dOp] at e
    obtain ⟨h0, e⟩ := sif_inv e hr
    have h0' : ((mx.map (ev env)).isNone || (hi'.map (ev env)).isSome) = true := by simpa using h0
    split at e
    · rename_i hu
      split at e
      · exact op_pur hi (by simp only [execOp, ho, Option.map_none]) (cutT_ok hu e hr (hx x) (or_rel he lo) (or_rel he hi'))
      · exact absurd e.symm hr
    · rename_i u hu
      obtain ⟨h1, h2⟩ := sif_inv e hr
      exact op_pur hi (by simp only [execOp, ho]) (cutS_ok hu h1 h0' h2 hr (hx x) (or_rel he lo) (or_rel he hi') (or_rel he mx))
    · rename_i n u hu
      obtain ⟨h1, h2⟩ := sif_inv e hr
      exact op_pur hi (by simp only [execOp, ho]) (cutP_ok hi hu h1 h0' h2 hr (hx x) (or_rel he lo) (or_rel he hi') (or_rel he mx))
    · exact absurd e.symm hr
  | fieldAddr t x f =>
    simp only [dOp] at e
    split at e
    · rename_i fs hu
      split at e
      · rename_i fd hf
        obtain ⟨h1, h2⟩ := sifT_inv e hr
        exact op_pur hi (by simp only [execOp, ho]) (fieldAddr_ok (k := fun v => k v h) hu hf (fun h0 => by rw [← beq_iff, h1] at h0; cases h0) h2 hr (hx x))
      · exact absurd e.symm hr
    · exact absurd e.symm hr
  | field t x f =>
    simp only [dOp] at e
    split at e
    · rename_i fs hu
      split at e
      · rename_i fd hf
        obtain ⟨h1, h2⟩ := sif_inv e hr
        exact op_pur hi (by simp only [execOp, ho]) (field_ok hu hf h1 h2 hr (hx x))
      · exact absurd e.symm hr
    · exact absurd e.symm hr
  | indexAddr t x i =>
    simp only [dOp] at e
    split at e
    · rename_i u hu
      obtain ⟨h1, h2⟩ := sif_inv e hr
      exact op_pur hi (by simp only [execOp, ho]) (ixA_ok hu h1 h2 hr (hx x) (hx i))
    · rename_i n u hu
      obtain ⟨h1, h2⟩ := sif_inv e hr
      exact op_pur hi (by simp only [execOp, ho]) (ixP_ok hu h1 h2 hr (hx x) (hx i))
    · exact absurd e.symm hr
  | index t x i =>
    simp only [dOp] at e
    split at e
    · rename_i hu
      exact op_pur hi (by simp only [execOp, ho]) (sIdx_pur hu e hr (hx x) (hx i))
    · rename_i n u hu
      obtain ⟨h1, h2⟩ := sif_inv e hr
      exact op_pur hi (by simp only [execOp, ho]) (ixV_ok hu h1 h2 hr (hx x) (hx i))
    · exact absurd e.symm hr
  | extract x i => exact op_pur hi (by simp only [execOp, ho]) (extract_ok (k := fun v => k v h) e hr (hx x))
  | call c =>
    simp only [dOp] at e
    split at e
    · rename_i f hc
      split at e
      · rename_i g hg
        cases hres : g (c.args.toList.map (ev env)) h with
        | ret v h' =>
          rw [hres] at e
          rcases hγ.1 f g hg with ⟨hs, hen⟩ | hes
          rotate_left
          · obtain ⟨V, w', ρ', h1, h2⟩ := hes N0 hγ.2 ρ h w _ (c.args.map a.eval) v h' hres hi (by rw [Array.toList_map]; exact F2_map he _)
            refine ⟨v, h', e, fun next Q hn => ?_⟩
            unfold Oper.wp
            have hrun : (execOp a.eval o).run P w = .ok (.value V) w' := by
              simp only [execOp, ho, resolve, hc, Act.eval, Deferred.ofValue, pure_bind, invoke]
              simpa using h1
            rw [hrun]
            exact hn V w' ρ' h2
          refine ⟨v, h', e, fun next Q hn => ?_⟩
          have hcalls := hs N0 hγ.2 ρ h w _ (c.args.map a.eval) v h' hres hi (by rw [Array.toList_map]; exact F2_map he _)
          unfold Oper.wp
          have hrun : (execOp a.eval o).run P w = .ok (.enter f (c.args.map a.eval)) w := by
            simp only [execOp, ho, resolve, hc, Act.eval, Deferred.ofValue, pure_bind, invoke]
            have := hen (#[] ++ c.args.map a.eval ++ #[]) w
            simpa using this
          rw [hrun, Oper.upon_enter]
          refine hcalls.mono fun e' w' ⟨V, ρ', he', hout⟩ => ?_
          subst he'
          exact hn V w' ρ' hout
        | _ => rw [hres] at e; exact absurd e.symm hr
      · exact absurd e.symm hr
    · rename_i x _ hc
      cases hres : dyn γ (ev env x) (c.args.toList.map (ev env)) h with
      | ret v h' =>
        rw [hres] at e
        refine ⟨v, h', e, fun next Q hn => ?_⟩
        obtain ⟨f, g, ca, cb, LA, LB, hX, hg, ha, hb, hg2⟩ := dyn_inv (ρ := ρ) hres (by simp) (hx x)
        have hF2 : F2 (VR ρ) (ca ++ c.args.toList.map (ev env) ++ cb) (LA ++ c.args.map a.eval ++ LB).toList := by
          rw [Array.toList_append, Array.toList_append, Array.toList_map]
          exact (ha.append (F2_map he _)).append hb
        rcases hγ.1 f g hg with ⟨hs, hen⟩ | hes
        rotate_left
        · obtain ⟨V, w', ρ', h1, h2⟩ := hes N0 hγ.2 ρ h w _ (LA ++ c.args.map a.eval ++ LB) v h' hg2 hi hF2
          unfold Oper.wp
          have hrun : (execOp a.eval o).run P w = .ok (.value V) w' := by
            simp only [execOp, ho, resolve, hc, hX, Deferred.ofValue, pure_bind, invoke]
            simpa using h1
          rw [hrun]
          exact hn V w' ρ' h2
        have hcalls := hs N0 hγ.2 ρ h w _ (LA ++ c.args.map a.eval ++ LB) v h' hg2 hi hF2
        unfold Oper.wp
        have hrun : (execOp a.eval o).run P w = .ok (.enter f (LA ++ c.args.map a.eval ++ LB)) w := by
          simp only [execOp, ho, resolve, hc, hX, Deferred.ofValue, pure_bind, invoke]
          exact hen _ w
        rw [hrun, Oper.upon_enter]
        refine hcalls.mono fun e' w' ⟨V, ρ', he', hout⟩ => ?_
        subst he'
        exact hn V w' ρ' hout
      | _ => rw [hres] at e; exact absurd e.symm hr
    · rename_i hc
      split at e
      · rename_i x y hxl
        have hargs : c.args = #[x, y] := by apply Array.toList_inj.1; rw [hxl]
        have hex : execOp a.eval o = (do pure (.value (← Builtin.min_ c.argTypes o.type #[a.eval x, a.eval y]))) := by
          simp [execOp, ho, resolve, hc, hargs, invoke, builtin]
        exact op_pur hi hex (iMin_ok e hr (hx x) (hx y))
      · exact absurd e.symm hr
    · rename_i hc
      split at e
      · rename_i x y hxl
        have hargs : c.args = #[x, y] := by apply Array.toList_inj.1; rw [hxl]
        have hex : execOp a.eval o = (do pure (.value (← Builtin.max_ c.argTypes o.type #[a.eval x, a.eval y]))) := by
          simp [execOp, ho, resolve, hc, hargs, invoke, builtin]
        exact op_pur hi hex (iMax_ok e hr (hx x) (hx y))
      · exact absurd e.symm hr
    · rename_i hc
      split at e
      · rename_i x t hxl htl
        have hargs : c.args = #[x] := by apply Array.toList_inj.1; rw [hxl]
        have htys : c.argTypes = #[t] := by apply Array.toList_inj.1; rw [htl]
        have hex : execOp a.eval o = (do pure (.value (← Builtin.len_ #[t] o.type #[a.eval x]))) := by
          simp [execOp, ho, resolve, hc, hargs, htys, invoke, builtin]
        split at e
        · rename_i hu
          exact op_pur hi hex (lenS_ok hu e hr (hx x))
        · rename_i u hu
          exact op_pur hi hex (lenL_ok hu e hr (hx x))
        · exact absurd e.symm hr
      · exact absurd e.symm hr
    · rename_i hc
      split at e
      · rename_i x y t u hxl htl
        have hargs : c.args = #[x, y] := by apply Array.toList_inj.1; rw [hxl]
        have htys : c.argTypes = #[t, u] := by apply Array.toList_inj.1; rw [htl]
        have hex : execOp a.eval o = (do pure (.value (← Builtin.append_ #[t, u] o.type #[a.eval x, a.eval y]))) := by
          simp [execOp, ho, resolve, hc, hargs, htys, invoke, builtin]
        split at e
        · rename_i el _ hu1 hu2
          obtain ⟨h1, h2⟩ := sif_inv e hr
          simp only [Bool.and_eq_true, beq_iff] at h1
          exact op_val hex (apd_ok (d := _) hi ⟨hu1, hu2, (by intro k h; cases h), h1.1, h1.2.1, h1.2.2⟩ h2 hr (hx x) (hx y))
        · rename_i el hu1 hu2
          obtain ⟨h1, h2⟩ := sif_inv e hr
          simp only [Bool.and_eq_true, beq_iff] at h1
          exact op_val hex (apd_ok (d := _) hi ⟨hu1, hu2, (by intro k h; cases h), h1.1, h1.2.1, h1.2.2⟩ h2 hr (hx x) (hx y))
        · exact absurd e.symm hr
      · exact absurd e.symm hr
    · rename_i hc
      split at e
      · rename_i x y t u hxl htl
        have hargs : c.args = #[x, y] := by apply Array.toList_inj.1; rw [hxl]
        have htys : c.argTypes = #[t, u] := by apply Array.toList_inj.1; rw [htl]
        have hex : execOp a.eval o = (do pure (.value (← Builtin.copy_ #[t, u] o.type #[a.eval x, a.eval y]))) := by
          simp [execOp, ho, resolve, hc, hargs, htys, invoke, builtin]
        split at e
        · rename_i el hu
          obtain ⟨h1, h2⟩ := sif_inv e hr
          exact op_val hex (cpy_ok hi hu h1 h2 hr (hx x) (hx y))
        · exact absurd e.symm hr
      · exact absurd e.symm hr
    · exact absurd e.symm hr
  | _ => exact absurd e.symm hr
end
end Go.AM

namespace Go.AM
open Go
set_option autoImplicit false

/-- From a first state to one that the machine and the model share. -/
structure St (N0 : Base) (n : Nat) (ρ0 : Rho) (h0 : Hp) (w0 : World) (ρ : Rho) (h : Hp) (w : World) (env : Env) (a : Act) : Prop where
  inv : Inv N0 ρ h w
  tr : Tr ρ0 h0 w0 ρ h w
  er : ERel ρ env a
  sz : n ≤ a.tmps.size
  df : a.defers = []

section
variable {P : Program} {N0 : Base} {n : Nat} {ρ0 ρ : Rho} {h0 h : Hp} {w0 w : World} {r : Res} {env : Env} {a : Act}

theorem ERel.ext {ρ' : Rho} (he : ERel ρ env a) (hx : Ext ρ ρ') : ERel ρ' env a := fun t => (he t).ext hx

theorem put_tmps (d : Nat) (V : Value) (hd : d < a.tmps.size) (t : Nat) : (a.put (some d) V).tmps.getD t undef = if t = d then V else a.tmps.getD t undef := by
  simp only [Act.put, Array.getD_eq_getD_getElem?, Array.getElem?_setIfInBounds]
  by_cases h : t = d
  · subst h; simp [hd]
  · rw [if_neg (fun e => h e.symm), if_neg h]

theorem put_st {d : Option Nat} {v : AV} {V : Value} {k : Env → Res} (e : put n d v env k = r) (hr : r ≠ .fail) (hs : St N0 n ρ0 h0 w0 ρ h w env a) (hv : VR ρ v V) :
    ∃ env', k env' = r ∧ St N0 n ρ0 h0 w0 ρ h w env' (a.put d V) := by
  cases d with
  | none => exact ⟨env, e, hs⟩
  | some d =>
    obtain ⟨h1, h2⟩ := sif_inv e hr
    rw [blt_iff] at h1
    refine ⟨_, h2, hs.inv, hs.tr, fun t => ?_, by simpa [Act.put] using hs.sz, hs.df⟩
    have hd : d < a.tmps.size := Nat.lt_of_lt_of_le h1 hs.sz
    rw [put_tmps d V hd]
    have hu : upd env d v t = Bool.rec (motive := fun _ => AV) (env t) v (Nat.beq t d) := rfl
    rw [hu, recB]
    simp only [beq_iff]
    by_cases ht : t = d
    · rw [if_pos ht, if_pos ht]; exact hv
    · rw [if_neg ht, if_neg ht]; exact hs.er t

theorem St.next {ρ' : Rho} {h' : Hp} {w' : World} {v : AV} {V : Value} (hs : St N0 n ρ0 h0 w0 ρ h w env a) (ho : Out N0 ρ h w v h' V w' ρ') : St N0 n ρ0 h0 w0 ρ' h' w' env a :=
  ⟨ho.inv, hs.tr.trans ho.tr, hs.er.ext ho.tr.ext, hs.sz, hs.df⟩

theorem jn_inv {r1 : Res} {k : List AV → Hp → Res} (e : jn r1 k = r) (hr : r ≠ .fail) : r1 ≠ .fail ∧ ((∃ vs h, r1 = .norm vs h ∧ k vs h = r) ∨ (∃ i vs h, r1 = .exit i vs h ∧ r = .exit i vs h) ∨ (∃ v h, r1 = .ret v h ∧ r = .ret v h)) := by
  cases r1 with
  | fail => exact absurd e.symm hr
  | norm vs h => exact ⟨by simp, .inl ⟨vs, h, rfl, e⟩⟩
  | exit i vs h => exact ⟨by simp, .inr (.inl ⟨i, vs, h, rfl, e.symm⟩)⟩
  | ret v h => exact ⟨by simp, .inr (.inr ⟨v, h, rfl, e.symm⟩)⟩

/-- What a guard's operation yielded, as the machine sees it. -/
theorem yield_of {ops : Array Oper} {j t : Nat} (ht : (ops.toList[j]?).bind (·.dst) = some t) : yielded ops a.tmps j = match a.tmps[t]? with | some (.bool b) => some b | _ => none := by
  unfold yielded
  rw [← Array.getElem?_toList, ht]
  rfl

theorem yield_bool {ops : Array Oper} {j t : Nat} {b : Bool} (ht : (ops.toList[j]?).bind (·.dst) = some t) (he : ERel ρ env a) (hb : env t = .bool b) : yielded ops a.tmps j = some b := by
  have h1 := he t
  rw [hb] at h1
  have h1 : a.tmps.getD t undef = .bool b := h1
  rw [yield_of ht]
  rw [Array.getD_eq_getD_getElem?] at h1
  cases hq : a.tmps[t]? with
  | none => rw [hq] at h1; cases h1
  | some v => rw [hq] at h1; have h1 : v = .bool b := h1; subst h1; rfl

theorem yield_tup {ops : Array Oper} {j t : Nat} {v : AV} (ht : (ops.toList[j]?).bind (·.dst) = some t) (he : ERel ρ env a) (hb : env t = .tup v) : yielded ops a.tmps j = none := by
  have h1 := he t
  rw [hb] at h1
  obtain ⟨l, h1, -⟩ := h1
  rw [yield_of ht]
  rw [Array.getD_eq_getD_getElem?] at h1
  cases hq : a.tmps[t]? with
  | none => rfl
  | some v => rw [hq] at h1; have h1 : v = .tuple l := h1; subst h1; rfl

theorem gsel_rel {ops : Array Oper} {j t : Nat} {want : Bool} {x : AV} {X : Value} (ht : (ops.toList[j]?).bind (·.dst) = some t) (he : ERel ρ env a) (hx : VR ρ x X) :
    VR ρ (gsel (env t) want x) (if yielded ops a.tmps j == some want then X else undef) := by
  cases hg : env t with
  | bool b =>
    rw [yield_bool ht he hg]
    have e : gsel (.bool b) want x = sel (beqB b want) x (.tup .nil) := rfl
    rw [e]
    cases b <;> cases want <;> first
      | exact hx
      | exact ⟨#[], rfl, rfl⟩
  | tup v =>
    rw [yield_tup ht he hg]
    exact ⟨#[], rfl, rfl⟩
  | _ => exact trivial

theorem gd_inv {ops : Array Oper} {j t : Nat} {want : Bool} {x y : Res} (ht : (ops.toList[j]?).bind (·.dst) = some t) (he : ERel ρ env a) (e : gd (env t) want x y = r) (hr : r ≠ .fail) :
    (yielded ops a.tmps j = some want ∧ x = r) ∨ ((yielded ops a.tmps j == some want) = false ∧ y = r) := by
  cases hg : env t with
  | bool b =>
    rw [hg] at e
    rw [yield_bool ht he hg]
    have e : ifB (beqB b want) x y = r := e
    cases b <;> cases want <;> first
      | exact .inl ⟨rfl, e⟩
      | exact .inr ⟨rfl, e⟩
  | tup v =>
    rw [hg] at e
    rw [yield_tup ht he hg]
    exact .inr ⟨rfl, e⟩
  | _ => rw [hg] at e; exact absurd e.symm hr

theorem dOps_sound {γ : FuncId → Option Fun} (hγ : GSound P γ ∧ N0.fits P) {ops : Array Oper} {Q : Exit → Act → World → Prop} {k : Env → Hp → Res} (hr : r ≠ .fail)
    (hQ : ∀ ρ h w env a, St N0 n ρ0 h0 w0 ρ h w env a → k env h = r → Q .normal a w) :
    ∀ (rest : List Oper) (i : Nat) (ρ : Rho) (h : Hp) (w : World) (env : Env) (a : Act), ops.toList.drop i = rest → St N0 n ρ0 h0 w0 ρ h w env a → dOps P γ n ops.toList rest env h k = r → wpOps P ops Q (List.range' i rest.length) a w := by
  intro rest
  induction rest with
  | nil =>
    intro i ρ h w env a _ hs e
    exact hQ ρ h w env a hs e
  | cons o rest ih =>
    intro i ρ h w env a hd hs e
    have hoi : ops[i]? = some o := by
      rw [← Array.getElem?_toList]
      have := congrArg (·[0]?) hd
      simpa using this
    have hd' : ops.toList.drop (i + 1) = rest := by
      rw [← List.drop_drop, hd]; rfl
    rw [List.length_cons, List.range'_succ]
    unfold wpOps
    rw [hoi]
    simp only
    simp only [dOps] at e
    split at e
    · rename_i hg
      have hw : Region.wanted o (yielded ops a.tmps) = true := by simp [Region.wanted, hg]
      rw [if_pos hw]
      obtain ⟨v, h', h1, h2⟩ := dOp_sound hγ o hs.inv hs.er e hr
      refine .inl (h2 _ _ fun V w' ρ' hout => ?_)
      obtain ⟨env', h3, h4⟩ := put_st h1 hr (hs.next hout) hout.val
      exact ih (i + 1) ρ' h' w' env' _ hd' h4 h3
    · rename_i j want hg
      split at e
      · rename_i t ht
        have hw : Region.wanted o (yielded ops a.tmps) = (yielded ops a.tmps j == some want) := by simp [Region.wanted, hg]
        have mv : ∀ x, ap (gsel (env t) want (ev env x)) (fun v => put n o.dst v env fun env => dOps P γ n ops.toList rest env h k) = r → (execOp a.eval o).run P w = .ok (.value (a.eval x)) w →
            (if Region.wanted o (yielded ops a.tmps) = true then o.wp P a w (wpOps P ops Q (List.range' (i + 1) rest.length)) Q ∨ (o.asks P a w ∧ LetsOut Q) else wpOps P ops Q (List.range' (i + 1) rest.length) (a.put o.dst undef) w) := by
          intro x e hrun
          have hsel := gsel_rel (ops := ops) (want := want) ht hs.er (ev_rel hs.er x)
          have e : put n o.dst (gsel (env t) want (ev env x)) env (fun env => dOps P γ n ops.toList rest env h k) = r := e
          obtain ⟨env', h3, h4⟩ := put_st e hr hs hsel
          rw [hw]
          split
          · rename_i hy
            rw [if_pos hy] at h4
            refine .inl ?_
            unfold Oper.wp
            rw [hrun]
            exact ih (i + 1) ρ h w env' _ hd' h4 h3
          · rename_i hy
            rw [if_neg hy] at h4
            exact ih (i + 1) ρ h w env' _ hd' h4 h3
        split at e
        · rename_i x hop
          exact mv x e (by simp [execOp, hop])
        · rename_i x hop
          exact mv x e (by simp [execOp, hop])
        · obtain ⟨hne, hcase⟩ := jn_inv e hr
          rcases gd_inv (ops := ops) ht hs.er rfl hne with ⟨hy, hx⟩ | ⟨hy, hx⟩
          · rw [hw, hy]
            simp only [beq_self_eq_true, if_true]
            obtain ⟨v, h', h1, h2⟩ := dOp_sound hγ o hs.inv hs.er hx hne
            refine .inl (h2 _ _ fun V w' ρ' hout => ?_)
            rcases hcase with ⟨vs, hh, e1, e2⟩ | ⟨i', vs, hh, e1, e2⟩ | ⟨v', hh, e1, e2⟩
            · rw [e1] at h1
              obtain ⟨rfl, rfl⟩ : [v] = vs ∧ h' = hh := by cases h1; exact ⟨rfl, rfl⟩
              have e2 : put n o.dst v env (fun env => dOps P γ n ops.toList rest env h' k) = r := e2
              obtain ⟨env', h3, h4⟩ := put_st e2 hr (hs.next hout) hout.val
              exact ih (i + 1) ρ' h' w' env' _ hd' h4 h3
            · rw [e1] at h1; cases h1
            · rw [e1] at h1; cases h1
          · rw [hw, hy]
            simp only [Bool.false_eq_true, if_false]
            rcases hcase with ⟨vs, hh, e1, e2⟩ | ⟨i', vs, hh, e1, e2⟩ | ⟨v', hh, e1, e2⟩
            · rw [e1] at hx
              obtain ⟨rfl, rfl⟩ : [AV.tup .nil] = vs ∧ h = hh := by cases hx; exact ⟨rfl, rfl⟩
              have e2 : put n o.dst (.tup .nil) env (fun env => dOps P γ n ops.toList rest env h k) = r := e2
              have hu : VR ρ (.tup .nil) undef := ⟨#[], rfl, rfl⟩
              obtain ⟨env', h3, h4⟩ := put_st e2 hr hs hu
              exact ih (i + 1) ρ h w env' _ hd' h4 h3
            · rw [e1] at hx; cases hx
            · rw [e1] at hx; cases hx
      · exact absurd e.symm hr
end
end Go.AM

namespace Go.AM
open Go
set_option autoImplicit false

theorem bAnd_iff (a b : Bool) : bAnd a b = true ↔ a = true ∧ b = true := by cases a <;> cases b <;> decide

section
variable {ρ : Rho}

theorem packB_inj' {a b : ByteArray} (h1 : a.data.size = b.data.size) (h2 : packB a.data.toList = packB b.data.toList) : a = b := by
  have := packB_inj a.data.toList b.data.toList (by simpa using h1) h2
  have hd : a.data = b.data := Array.toList_inj.1 this
  cases a; cases b; simp_all

/-- What is surely the same stands for one value only. -/
theorem eqAV_det : ∀ (x y : AV), eqAV x y = true → (∀ V V', VR ρ x V → VR ρ y V' → V = V') ∧ (∀ l l', LR ρ x l → LR ρ y l' → l = l') := by
  intro x
  induction x with
  | bool b =>
    intro y e
    cases y <;> first
      | exact Bool.noConfusion (show false = true from e)
      | skip
    rename_i b'
    replace e : beqB b b' = true := e
    have : b = b' := by revert e; cases b <;> cases b' <;> decide
    subst this
    refine ⟨fun V V' h h' => ?_, fun l l' h => h.elim⟩
    have h : V = .bool b := h
    have h' : V' = .bool b := h'
    rw [h, h']
  | int c n =>
    intro y e
    cases y <;> first
      | exact Bool.noConfusion (show false = true from e)
      | skip
    rename_i c' n'
    replace e : bAnd (Nat.beq c c') (eqI n n') = true := e
    rw [bAnd_iff, beq_iff, eqI_eq] at e
    have hn : n = n' := by simpa using e.2
    obtain ⟨rfl, -⟩ := e
    subst hn
    refine ⟨fun V V' h h' => ?_, fun l l' h => h.elim⟩
    obtain ⟨k, e1, rfl⟩ := h
    obtain ⟨k', e2, rfl⟩ := h'
    rw [cOf_k e1 e2]
  | str n x =>
    intro y e
    cases y <;> first
      | exact Bool.noConfusion (show false = true from e)
      | skip
    rename_i n' x'
    replace e : sEq n x n' x' = true := e
    replace e : Bool.rec (motive := fun _ => Bool) false (Nat.beq x x') (Nat.beq n n') = true := e
    rw [recB] at e
    simp only [beq_iff] at e
    have h1 : n = n' := by
      by_cases h : n = n'
      · exact h
      · rw [if_neg h] at e; cases e
    rw [if_pos h1, beq_iff] at e
    subst h1
    subst e
    refine ⟨fun V V' h h' => ?_, fun l l' h => h.elim⟩
    obtain ⟨s, rfl, h1, h2⟩ := h
    obtain ⟨s', rfl, h3, h4⟩ := h'
    rw [packB_inj' (h1.trans h3.symm) (h2.trans h4.symm)]
  | ptr b o =>
    intro y e
    cases y <;> first
      | exact Bool.noConfusion (show false = true from e)
      | skip
    rename_i b' o'
    replace e : bAnd (Nat.beq b b') (Nat.beq o o') = true := e
    rw [bAnd_iff, beq_iff, beq_iff] at e
    obtain ⟨rfl, rfl⟩ := e
    refine ⟨fun V V' h h' => ?_, fun l l' h => h.elim⟩
    obtain ⟨p, e1, rfl⟩ := h
    obtain ⟨p', e2, rfl⟩ := h'
    rw [e1] at e2
    obtain rfl := Option.some.inj e2
    rfl
  | sl b o n z c =>
    intro y e
    cases y <;> first
      | exact Bool.noConfusion (show false = true from e)
      | skip
    rename_i b' o' n' z' c'
    replace e : bAnd (Nat.beq b b') (bAnd (Nat.beq o o') (bAnd (Nat.beq n n') (bAnd (Nat.beq z z') (optEq z c c')))) = true := e
    rw [bAnd_iff, bAnd_iff, bAnd_iff, bAnd_iff, beq_iff, beq_iff, beq_iff, beq_iff] at e
    obtain ⟨rfl, rfl, rfl, rfl, e⟩ := e
    refine ⟨fun V V' h h' => ?_, fun l l' h => h.elim⟩
    obtain ⟨p, d, e1, rfl, -, e2, -⟩ := h
    obtain ⟨p', d', e3, rfl, -, e4, -⟩ := h'
    rw [e1] at e3
    obtain rfl := Option.some.inj e3
    have : d = d' := by
      cases c with
      | none =>
        cases c' with
        | none =>
          replace e : Nat.blt 0 z = true := e
          rw [blt_iff] at e
          rcases e2 with ⟨-, e2⟩ | e2
          · rcases e4 with ⟨-, e4⟩ | e4
            · exact Nat.eq_of_mul_eq_mul_right e (by omega)
            · cases e4
          · cases e2
        | some m => cases e
      | some m =>
        cases c' with
        | none => cases e
        | some m' =>
          replace e : Nat.beq m m' = true := e
          rw [beq_iff] at e
          subst e
          rcases e2 with ⟨e2, -⟩ | e2
          · cases e2
          · rcases e4 with ⟨e4, -⟩ | e4
            · cases e4
            · rw [e2] at e4; exact Option.some.inj e4
    rw [this]
  | ifc t v ih =>
    intro y e
    cases y <;> first
      | exact Bool.noConfusion (show false = true from e)
      | skip
    rename_i t' v'
    replace e : bAnd (Nat.beq t t') (eqAV v v') = true := e
    rw [bAnd_iff, beq_iff] at e
    obtain ⟨rfl, e⟩ := e
    refine ⟨fun V V' h h' => ?_, fun l l' h => h.elim⟩
    obtain ⟨W, rfl, h1⟩ := h
    obtain ⟨W', rfl, h2⟩ := h'
    rw [(ih v' e).1 W W' h1 h2]
  | map b =>
    intro y e
    cases y <;> first
      | exact Bool.noConfusion (show false = true from e)
      | skip
    rename_i b'
    replace e : Nat.beq b b' = true := e
    rw [beq_iff] at e
    subst e
    refine ⟨fun V V' h h' => ?_, fun l l' h => h.elim⟩
    obtain ⟨p, e1, rfl⟩ := h
    obtain ⟨p', e2, rfl⟩ := h'
    rw [e1] at e2
    obtain rfl := Option.some.inj e2
    rfl
  | agg v ih =>
    intro y e
    cases y <;> first
      | exact Bool.noConfusion (show false = true from e)
      | skip
    rename_i v'
    replace e : eqAV v v' = true := e
    refine ⟨fun V V' h h' => ?_, fun l l' h => h.elim⟩
    obtain ⟨W, rfl, h1⟩ := h
    obtain ⟨W', rfl, h2⟩ := h'
    rw [Array.toList_inj.1 ((ih v' e).2 _ _ h1 h2)]
  | tup v ih =>
    intro y e
    cases y <;> first
      | exact Bool.noConfusion (show false = true from e)
      | skip
    rename_i v'
    replace e : eqAV v v' = true := e
    refine ⟨fun V V' h h' => ?_, fun l l' h => h.elim⟩
    obtain ⟨W, rfl, h1⟩ := h
    obtain ⟨W', rfl, h2⟩ := h'
    rw [Array.toList_inj.1 ((ih v' e).2 _ _ h1 h2)]
  | cons h t ihh iht =>
    intro y e
    cases y <;> first
      | exact Bool.noConfusion (show false = true from e)
      | skip
    rename_i h' t'
    replace e : bAnd (eqAV h h') (eqAV t t') = true := e
    rw [bAnd_iff] at e
    refine ⟨fun V V' h => h.elim, fun l l' g g' => ?_⟩
    obtain ⟨V, m, rfl, g1, g2⟩ := g
    obtain ⟨V', m', rfl, g3, g4⟩ := g'
    rw [(ihh h' e.1).1 V V' g1 g3, (iht t' e.2).2 m m' g2 g4]
  | nil =>
    intro y e
    cases y <;> first
      | exact Bool.noConfusion (show false = true from e)
      | skip
    refine ⟨fun V V' h => h.elim, fun l l' g g' => ?_⟩
    have g : l = [] := g
    have g' : l' = [] := g'
    rw [g, g']
  | _ =>
    intro y e
    cases y <;> first
      | exact Bool.noConfusion (show false = true from e)
      | exact ⟨fun V V' h h' => (show V = _ from h).trans (show V' = _ from h').symm, fun l l' h => h.elim⟩
end
end Go.AM

namespace Go.AM
open Go
set_option autoImplicit false

section
variable {P : Program} {N0 : Base} {ρ : Rho} {h : Hp} {w : World} {r : Res} {env : Env} {a : Act}

theorem pure_val {o : Oper} {s : Sem Value} {k : AV → Hp → Res} (ho : execOp a.eval o = (do pure (.value (← s)))) (hd : ∃ v, k v h = r ∧ Pur P ρ s v) :
    ∃ v V, k v h = r ∧ VR ρ v V ∧ ∀ w, (execOp a.eval o).run P w = .ok (.value V) w := by
  obtain ⟨v, h1, V, h2, h3⟩ := hd
  exact ⟨v, V, h1, h2, fun w => by rw [ho, Sem.run_bind, h3]; rfl⟩

theorem dOp_pure {γ : FuncId → Option Fun} (o : Oper) {k : AV → Hp → Res} (hi : Inv N0 ρ h w) (he : ERel ρ env a) (hk : kindD P o.op = 0) (e : dOp P γ env h o.op k = r) (hr : r ≠ .fail) :
    ∃ v V, k v h = r ∧ VR ρ v V ∧ ∀ w, (execOp a.eval o).run P w = .ok (.value V) w := by
  generalize ho : o.op = op at e hk
  have hx : ∀ v : Operand, VR ρ (ev env v) (a.eval v) := ev_rel he
  cases op with
  | move x => exact ⟨_, _, e, hx x, fun w => by simp [execOp, ho]⟩
  | assign x => exact ⟨_, _, e, hx x, fun w => by simp [execOp, ho]⟩
  | pick c x y =>
    obtain ⟨t, h1, h2⟩ := cB_inv e hr
    have h3 := hx c
    rw [h1] at h3
    have h3 : a.eval c = .bool t := h3
    refine ⟨_, if t then a.eval x else a.eval y, h2, ?_, fun w => by simp [execOp, ho, h3, asBool]⟩
    cases t
    · exact hx y
    · exact hx x
  | build t ps =>
    exact pure_val (by simp only [execOp, ho]) (build_ok (ps := lowered env ps.toList) (pv := ps.map fun (i, x) => (i, a.eval x)) (by rw [Array.toList_map]; exact lowered_rel he ps.toList) e hr)
  | nilCheck x =>
    obtain ⟨h1, h2⟩ := nck_ok (P := P) o (kk := k) ho rfl e hr (hx x)
    exact ⟨_, _, h1, hx x, h2⟩
  | binOp op t x y z => exact pure_val (by simp only [execOp, ho]) (dBin2_pur x y e hr (hx x) (hx y))
  | unOp op t x =>
    simp only [dOp] at e
    split at e
    · exact pure_val (by simp only [execOp, ho]) (iNeg_pur e hr (hx x))
    · exact pure_val (by simp only [execOp, ho]) (iNot_pur e hr (hx x))
    · exact pure_val (by simp only [execOp, ho]) (bNot_pur e hr (hx x))
    · exact absurd e.symm hr
  | convert s d x =>
    simp only [dOp] at e
    simp only [kindD] at hk
    split at hk
    · rename_i k1 c hs hd
      simp only [dConv2, dConv, hs, hd] at e
      obtain ⟨c1, y, h0, h1⟩ := cI_inv e hr
      have h3 := hx x
      rw [h0] at h3
      obtain ⟨k2, -, h3⟩ := h3
      refine ⟨_, .int c (c.wrap y), h1, ⟨c, rfl, by rw [wrapC_eq]⟩, fun w => ?_⟩
      simp only [execOp, ho, h3]
      unfold convert
      simp [run_und hs, run_und hd, Conv.intToInt]
    · rename_i hs hd
      simp only [dConv2, dConv, hs, hd] at e
      obtain ⟨n, y, h0, h1⟩ := cS_inv e hr
      have h3 := hx x
      rw [h0] at h3
      obtain ⟨st, h3, h4, h5⟩ := h3
      refine ⟨_, .string st, h1, ⟨st, rfl, h4, h5⟩, fun w => ?_⟩
      simp only [execOp, ho, h3]
      unfold convert
      simp [run_und hs, run_und hd]
    · cases hk
    · cases hk
  | makeInterface t x =>
    simp only [dOp] at e
    split at e
    · exact absurd e.symm hr
    · exact absurd e.symm hr
    · rename_i h1 h2
      cases hu : P.underlying t with
      | none => exact absurd hu h2
      | some d => exact pure_val (by simp only [execOp, ho]) ⟨_, e, ifc_ok hu (fun ms hms => h1 ms (by rw [hu, hms])) (hx x)⟩
  | slice t x lo hi' mx =>
    simp only [dOp] at e
    obtain ⟨h0, e⟩ := sif_inv e hr
    have h0' : ((mx.map (ev env)).isNone || (hi'.map (ev env)).isSome) = true := by simpa using h0
    split at e
    · rename_i hu
      split at e
      · exact pure_val (by simp only [execOp, ho, Option.map_none]) (cutT_ok hu e hr (hx x) (or_rel he lo) (or_rel he hi'))
      · exact absurd e.symm hr
    · rename_i u hu
      obtain ⟨h1, h2⟩ := sif_inv e hr
      exact pure_val (by simp only [execOp, ho]) (cutS_ok hu h1 h0' h2 hr (hx x) (or_rel he lo) (or_rel he hi') (or_rel he mx))
    · rename_i n u hu
      obtain ⟨h1, h2⟩ := sif_inv e hr
      exact pure_val (by simp only [execOp, ho]) (cutP_ok hi hu h1 h0' h2 hr (hx x) (or_rel he lo) (or_rel he hi') (or_rel he mx))
    · exact absurd e.symm hr
  | fieldAddr t x f =>
    simp only [dOp] at e
    split at e
    · rename_i fs hu
      split at e
      · rename_i fd hf
        obtain ⟨h1, h2⟩ := sifT_inv e hr
        exact pure_val (by simp only [execOp, ho]) (fieldAddr_ok (k := fun v => k v h) hu hf (fun h0 => by rw [← beq_iff, h1] at h0; cases h0) h2 hr (hx x))
      · exact absurd e.symm hr
    · exact absurd e.symm hr
  | field t x f =>
    simp only [dOp] at e
    split at e
    · rename_i fs hu
      split at e
      · rename_i fd hf
        obtain ⟨h1, h2⟩ := sif_inv e hr
        exact pure_val (by simp only [execOp, ho]) (field_ok hu hf h1 h2 hr (hx x))
      · exact absurd e.symm hr
    · exact absurd e.symm hr
  | indexAddr t x i =>
    simp only [dOp] at e
    split at e
    · rename_i u hu
      obtain ⟨h1, h2⟩ := sif_inv e hr
      exact pure_val (by simp only [execOp, ho]) (ixA_ok hu h1 h2 hr (hx x) (hx i))
    · rename_i n u hu
      obtain ⟨h1, h2⟩ := sif_inv e hr
      exact pure_val (by simp only [execOp, ho]) (ixP_ok hu h1 h2 hr (hx x) (hx i))
    · exact absurd e.symm hr
  | index t x i =>
    simp only [dOp] at e
    split at e
    · rename_i hu
      exact pure_val (by simp only [execOp, ho]) (sIdx_pur hu e hr (hx x) (hx i))
    · rename_i n u hu
      obtain ⟨h1, h2⟩ := sif_inv e hr
      exact pure_val (by simp only [execOp, ho]) (ixV_ok hu h1 h2 hr (hx x) (hx i))
    · exact absurd e.symm hr
  | extract x i => exact pure_val (by simp only [execOp, ho]) (extract_ok (k := fun v => k v h) e hr (hx x))
  | call c =>
    simp only [dOp] at e
    simp only [kindD] at hk
    split at hk
    · rename_i hc
      rw [hc] at e
      simp only at e
      split at e
      · rename_i x t hxl htl
        have hargs : c.args = #[x] := by apply Array.toList_inj.1; rw [hxl]
        have htys : c.argTypes = #[t] := by apply Array.toList_inj.1; rw [htl]
        have hex : execOp a.eval o = (do pure (.value (← Builtin.len_ #[t] o.type #[a.eval x]))) := by
          simp [execOp, ho, resolve, hc, hargs, htys, invoke, builtin]
        split at e
        · rename_i hu
          exact pure_val hex (lenS_ok hu e hr (hx x))
        · rename_i u hu
          exact pure_val hex (lenL_ok hu e hr (hx x))
        · exact absurd e.symm hr
      · exact absurd e.symm hr
    · cases hk
  | makeFunc f l m => exact ⟨_, .func f (l.map a.eval) (m.map a.eval), e, mkf_rel he f l m, fun w => by simp [execOp, ho, Instr.makeFunc]⟩
  | makeMap t rs => cases hk
  | lookup t x i ok => cases hk
  | mapUpdate t m x v => cases hk
  | insert t m x v => cases hk
  | alloc t => cases hk
  | box t x => cases hk
  | buildSlice t n ps => cases hk
  | makeSlice t l c => cases hk
  | store t x y => cases hk
  | load t x => cases hk
  | range t x => cases hk
  | next x s => cases hk
  | _ => exact absurd e.symm hr

theorem dOp_read {γ : FuncId → Option Fun} (o : Oper) {k : AV → Hp → Res} (hi : Inv N0 ρ h w) (he : ERel ρ env a) (hk : kindD P o.op = 1) (e : dOp P γ env h o.op k = r) (hr : r ≠ .fail) :
    ∃ v V, k v h = r ∧ VR ρ v V ∧ (execOp a.eval o).run P w = .ok (.value V) w := by
  generalize ho : o.op = op at e hk
  have hx : ∀ v : Operand, VR ρ (ev env v) (a.eval v) := ev_rel he
  cases op with
  | load t x =>
    simp only [dOp] at e
    obtain ⟨h1, h2⟩ := sif_inv e hr
    split at h2
    · rename_i ht
      obtain ⟨v, V, g1, g2, g3⟩ := ldN_ok hi ht h1 h2 hr (hx x)
      exact ⟨v, V, g1, g2, by simp only [execOp, ho]; rw [Sem.run_bind, g3]; rfl⟩
    · rename_i ht
      obtain ⟨v, V, g1, g2, g3⟩ := ld1_ok hi ht h1 h2 hr (hx x)
      exact ⟨v, V, g1, g2, by simp only [execOp, ho]; rw [Sem.run_bind, g3]; rfl⟩
  | convert s d x =>
    simp only [dOp] at e
    simp only [kindD] at hk
    unfold dConv2 at e
    split at e
    · rename_i hs hd; rw [hs, hd] at hk; cases hk
    unfold dConv at e
    split at e
    · rename_i hs hd; rw [hs, hd] at hk; cases hk
    · rename_i hs hd; rw [hs, hd] at hk; cases hk
    · rename_i u hs hd
      split at e
      · rename_i hu
        obtain ⟨v, V, g1, g2, g3⟩ := b2s_ok hi hs hd hu e hr (hx x)
        exact ⟨v, V, g1, g2, by simp only [execOp, ho]; rw [Sem.run_bind, g3]; rfl⟩
      · exact absurd e.symm hr
    · rename_i u hs hd; rw [hs, hd] at hk; cases hk
    · exact absurd e.symm hr
  | call c =>
    simp only [kindD] at hk
    split at hk <;> cases hk
  | lookup t x i ok =>
    simp only [dOp] at e
    split at e
    · rename_i kt et ht
      split at e
      · rename_i q hq
        obtain ⟨d, hd, hkq⟩ := keyQ_inv hq
        obtain ⟨v, V, g1, g2, g3⟩ := lkp_ok (k := fun v => k v h) hi ht hd hkq e hr (hx x) (hx i)
        exact ⟨v, V, g1, g2, by simp only [execOp, ho]; rw [Sem.run_bind, g3]; rfl⟩
      · exact absurd e.symm hr
    · exact absurd e.symm hr
  | makeMap t rs => cases hk
  | mapUpdate t m x v => cases hk
  | insert t m x v => cases hk
  | alloc t => cases hk
  | box t x => cases hk
  | buildSlice t n ps => cases hk
  | makeSlice t l c => cases hk
  | store t x y => cases hk
  | _ => cases hk
end
end Go.AM

namespace Go.AM
open Go
set_option autoImplicit false

section
variable {P : Program} {ops : Array Oper} {Q : Exit → Act → World → Prop}

/-- Whatever order is picked, and I holds behind every operation. -/
def wpAnyI (P : Program) (ops : Array Oper) (Q : Exit → Act → World → Prop) (I : Array Bool → World → Prop) : Nat → Array Bool → Act → World → Prop
  | 0, L, a, w => Region.ready .any ops L = [] ∧ Q .normal a w
  | fuel + 1, L, a, w => (Region.ready .any ops L = [] → Q .normal a w) ∧
    ∀ i ∈ Region.ready .any ops L, wpOp P ops Q i (fun a' w' => I (L.setIfInBounds i true) w' ∧ wpAnyI P ops Q I fuel (L.setIfInBounds i true) a' w') a w

theorem wpAny_of_I {I : Array Bool → World → Prop} : ∀ (fuel : Nat) (L : Array Bool) (a : Act) (w : World), wpAnyI P ops Q I fuel L a w → wpAny P .any ops Q fuel L a w
  | 0, _, _, _, h => h
  | fuel + 1, _, _, _, h => ⟨h.1, fun i hi => wpOp_mono (fun a' w' h' => wpAny_of_I fuel _ a' w' h'.2) (h.2 i hi)⟩

theorem wpAnyI_mono {I J : Array Bool → World → Prop} (hIJ : ∀ L w, I L w → J L w) : ∀ (fuel : Nat) (L : Array Bool) (a : Act) (w : World), wpAnyI P ops Q I fuel L a w → wpAnyI P ops Q J fuel L a w
  | 0, _, _, _, h => h
  | fuel + 1, _, _, _, h => ⟨h.1, fun i hi => wpOp_mono (fun a' w' h' => ⟨hIJ _ _ h'.1, wpAnyI_mono hIJ fuel _ a' w' h'.2⟩) (h.2 i hi)⟩

/-- An operation that may change memory. -/
def Acts (P : Program) (o : Oper) : Prop := kindD P o.op ≠ 0 ∧ kindD P o.op ≠ 1
def Closed (ops : Array Oper) (L : Array Bool) : Prop := ∀ j oj, ops[j]? = some oj → L.getD j false = true → ∀ e ∈ oj.after, Region.binds .any e = true → L.getD e.on false = true
/-- No operation that is done and may change memory waits for number i. -/
def NoAct (P : Program) (ops : Array Oper) (L : Array Bool) (i : Nat) : Prop := ∀ j oj, ops[j]? = some oj → Acts P oj → L.getD j false = true → ∀ e ∈ oj.after, Region.binds .any e = true → e.on ≠ i
/-- What pends. -/
def IK (P : Program) (ops : Array Oper) (K : List (Nat × (World → Prop))) (L : Array Bool) (w : World) : Prop := ∀ p ∈ K, NoAct P ops L p.1 → p.2 w

theorem getD_set_inv {L : Array Bool} {i j : Nat} (h : (L.setIfInBounds i true).getD j false = true) : j = i ∨ L.getD j false = true := by
  by_cases hij : i = j
  · exact .inl hij.symm
  · rw [getD_set_ne false hij] at h; exact .inr h

theorem getD_set_self {L : Array Bool} {i : Nat} (h : L.getD i true = false) : (L.setIfInBounds i true).getD i false = true := by
  have hlt : i < L.size := by
    rcases Nat.lt_or_ge i L.size with h' | h'
    · exact h'
    · simp [Array.getElem?_eq_none h'] at h
  simp [hlt]

theorem getD_both {L : Array Bool} {i : Nat} (h : L.getD i true = false) : L.getD i false = false := by
  rcases Nat.lt_or_ge i L.size with h' | h'
  · simp [h'] at h ⊢; exact h
  · simp [Array.getElem?_eq_none h'] at h

theorem Closed.set {L : Array Bool} {i : Nat} (hc : Closed ops L) (hr : i ∈ Region.ready .any ops L) : Closed ops (L.setIfInBounds i true) := by
  obtain ⟨h0, o, ho, hall⟩ := mem_ready.1 hr
  intro j oj hj hl e he hb
  rcases getD_set_inv hl with rfl | hl
  · rw [ho] at hj
    obtain rfl := Option.some.inj hj
    exact getD_set_true (hall e he hb)
  · exact getD_set_true (hc j oj hj hl e he hb)

/-- Nobody that is done waits for what is not. -/
theorem Closed.noEdge {L : Array Bool} {i : Nat} (hc : Closed ops L) (hr : i ∈ Region.ready .any ops L) : ∀ j oj, ops[j]? = some oj → L.getD j false = true → ∀ e ∈ oj.after, Region.binds .any e = true → e.on ≠ i := by
  obtain ⟨h0, o, ho, hall⟩ := mem_ready.1 hr
  intro j oj hj hl e he hb hei
  have := hc j oj hj hl e he hb
  rw [hei, getD_both h0] at this
  cases this

theorem NoAct.set {L : Array Bool} {i k : Nat} {oi : Oper} (hi : ops[i]? = some oi) (hna : ¬ Acts P oi) (h : NoAct P ops L k) : NoAct P ops (L.setIfInBounds i true) k := by
  intro j oj hj ha hl
  rcases getD_set_inv hl with rfl | hl
  · rw [hi] at hj
    obtain rfl := Option.some.inj hj
    exact absurd ha hna
  · exact h j oj hj ha hl

theorem IK.less {L : Array Bool} {i : Nat} {oi : Oper} {K : List (Nat × (World → Prop))} {w : World} (hi : ops[i]? = some oi) (hna : ¬ Acts P oi) (h : IK P ops K (L.setIfInBounds i true) w) : IK P ops K L w :=
  fun p hp hn => h p hp (hn.set hi hna)

/-- An operation that changes nothing is taken as early as may be. -/
theorem hoist {i : Nat} {oi : Oper} {v : Value} {R : World → Prop} {K : List (Nat × (World → Prop))} (hi : ops[i]? = some oi) (hsel : ∀ (j : Nat) (o : Oper) cs b, ops[j]? = some o → o.op ≠ .select cs b)
    (hQ : ∀ c a w, ¬ Q (.panic c) a w) (hna : ¬ Acts P oi) :
    ∀ (fuel : Nat) (L : Array Bool) (a : Act) (w : World),
      (∀ j oj, ops[j]? = some oj → j ≠ i → L.getD j true = false → (∀ e ∈ oj.after, Region.binds .any e = true → e.on ≠ i) → oi.apart ops oj = true) →
      i ∈ Region.ready .any ops L → Closed ops L → YieldsIf P ops R oi v a → R w → IK P ops K L w → IK P ops K (L.setIfInBounds i true) w →
      wpAnyI P ops Q (IK P ops ((i, R) :: K)) fuel (L.setIfInBounds i true) (a.put oi.dst v) w → wpAnyI P ops Q (IK P ops K) (fuel + 1) L a w := by
  have weak : ∀ L w, IK P ops ((i, R) :: K) L w → IK P ops K L w := fun L w h p hp => h p (by simp [hp])
  intro fuel
  induction fuel with
  | zero =>
    intro L a w _ hr _ hy hR _ hI H
    refine ⟨fun h => (by rw [h] at hr; cases hr), fun j hj => ?_⟩
    by_cases hji : j = i
    · subst hji; exact hy.wpOp hi hR ⟨hI, wpAnyI_mono weak 0 _ _ _ H⟩
    · have := ready_mono hj hji
      rw [H.1] at this
      cases this
  | succ fuel ih =>
    intro L a w hfree hr hc hy hR hI0 hI H
    refine ⟨fun h => (by rw [h] at hr; cases hr), fun j hj => ?_⟩
    by_cases hji : j = i
    · subst hji; exact hy.wpOp hi hR ⟨hI, wpAnyI_mono weak _ _ _ _ H⟩
    · have h1 := H.2 j (ready_mono hj hji)
      obtain ⟨hjun, oj, hoj, hall⟩ := mem_ready.1 hj
      have hnot : ∀ e ∈ oj.after, Region.binds .any e = true → e.on ≠ i := fun e he hb heq => by
        have h1 := hall e he hb
        rw [heq, getD_both (mem_ready.1 hr).1] at h1
        cases h1
      have h2 := wpOp_putIf hoj (hfree j oj hoj hji hjun hnot) (fun cs b => hsel i oi cs b hi) (fun cs b => hsel j oj cs b hoj) (fun c a w h => absurd h (hQ c _ w)) hy h1
      have hfree' : ∀ k ok, ops[k]? = some ok → k ≠ i → (L.setIfInBounds j true).getD k true = false →
          (∀ e ∈ ok.after, Region.binds .any e = true → e.on ≠ i) → oi.apart ops ok = true := fun k ok hk hki hun hno => by
        refine hfree k ok hk hki ?_ hno
        by_cases hjk : j = k
        · subst hjk; exact hjun
        · rw [getD_set_ne true hjk] at hun; exact hun
      refine wpOp_mono (fun a' w' h3 => ?_) h2
      obtain ⟨h4, h5, h6⟩ := h3
      rw [Array.setIfInBounds_comm _ _ (Ne.symm hji)] at h6
      have h5' : IK P ops ((i, R) :: K) ((L.setIfInBounds j true).setIfInBounds i true) w' := by rw [Array.setIfInBounds_comm _ _ hji]; exact h5
      have hc' := hc.set hj
      have hr' := ready_mono hr (Ne.symm hji)
      have hRw : R w' := by
        refine h5' (i, R) (by simp) ?_
        intro k ok hk ha hl
        rcases getD_set_inv hl with rfl | hl
        · rw [hi] at hk
          obtain rfl := Option.some.inj hk
          exact absurd ha hna
        · exact hc'.noEdge hr' k ok hk hl
      have hK := weak _ _ h5'
      exact ⟨hK.less hi hna, ih (L.setIfInBounds j true) a' w' hfree' hr' hc' h4 hRw (hK.less hi hna) hK h6⟩
end
end Go.AM

namespace Go.AM
open Go
set_option autoImplicit false

section
variable {P : Program} {ops : Array Oper} {Q : Exit → Act → World → Prop} {N0 : Base} {n : Nat} {ρ0 ρ : Rho} {h0 h : Hp} {w0 w : World} {r : Res} {env : Env} {a : Act} {γ : FuncId → Option Fun}

/-- An operation that changes nothing: either it is not wanted, or it yields its value. -/
theorem stepD_still {o : Oper} {k : AV → Env → Hp → Res} (hs : St N0 n ρ0 h0 w0 ρ h w env a) (hk : kindD P o.op = 0 ∨ kindD P o.op = 1) (e : stepD P γ n ops.toList o env h k = r) (hr : r ≠ .fail) :
    ∃ v V env', k v env' h = r ∧ VR ρ v V ∧ St N0 n ρ0 h0 w0 ρ h w env' (a.put o.dst V) ∧
      ((Region.wanted o (yielded ops a.tmps) = true ∧ (execOp a.eval o).run P w = .ok (.value V) w ∧ (kindD P o.op = 0 → ∀ w, (execOp a.eval o).run P w = .ok (.value V) w)) ∨ (Region.wanted o (yielded ops a.tmps) = false ∧ V = undef)) := by
  have one : ∀ {k : AV → Hp → Res} {r : Res}, dOp P γ env h o.op k = r → r ≠ .fail → ∃ v V, k v h = r ∧ VR ρ v V ∧ (execOp a.eval o).run P w = .ok (.value V) w ∧ (kindD P o.op = 0 → ∀ w, (execOp a.eval o).run P w = .ok (.value V) w) := by
    intro k r e hr
    rcases hk with hk | hk
    · obtain ⟨v, V, h1, h2, h3⟩ := dOp_pure o hs.inv hs.er hk e hr
      exact ⟨v, V, h1, h2, h3 w, fun _ => h3⟩
    · obtain ⟨v, V, h1, h2, h3⟩ := dOp_read o hs.inv hs.er hk e hr
      exact ⟨v, V, h1, h2, h3, fun h0 => by rw [hk] at h0; cases h0⟩
  unfold stepD at e
  split at e
  · rename_i hg
    have hw : Region.wanted o (yielded ops a.tmps) = true := by simp [Region.wanted, hg]
    obtain ⟨v, V, h1, h2, h3, h4⟩ := one e hr
    obtain ⟨env', h5, h6⟩ := put_st h1 hr hs h2
    exact ⟨v, V, env', h5, h2, h6, .inl ⟨hw, h3, h4⟩⟩
  · rename_i j want hg
    split at e
    · rename_i t ht
      have hw : Region.wanted o (yielded ops a.tmps) = (yielded ops a.tmps j == some want) := by simp [Region.wanted, hg]
      have mv : ∀ x, ap (gsel (env t) want (ev env x)) (fun v => put n o.dst v env fun env => k v env h) = r → (∀ w, (execOp a.eval o).run P w = .ok (.value (a.eval x)) w) →
          ∃ v V env', k v env' h = r ∧ VR ρ v V ∧ St N0 n ρ0 h0 w0 ρ h w env' (a.put o.dst V) ∧
            ((Region.wanted o (yielded ops a.tmps) = true ∧ (execOp a.eval o).run P w = .ok (.value V) w ∧ (kindD P o.op = 0 → ∀ w, (execOp a.eval o).run P w = .ok (.value V) w)) ∨ (Region.wanted o (yielded ops a.tmps) = false ∧ V = undef)) := by
        intro x e hrun
        have hsel := gsel_rel (ops := ops) (want := want) ht hs.er (ev_rel hs.er x)
        generalize gsel (env t) want (ev env x) = g at e hsel
        have e : put n o.dst g env (fun env => k g env h) = r := e
        obtain ⟨env', h3, h4⟩ := put_st e hr hs hsel
        rw [hw]
        by_cases hy : (yielded ops a.tmps j == some want) = true
        · rw [if_pos hy] at h4 hsel
          exact ⟨_, _, env', h3, hsel, h4, .inl ⟨hy, hrun w, fun _ => hrun⟩⟩
        · rw [if_neg hy] at h4 hsel
          exact ⟨_, _, env', h3, hsel, h4, .inr ⟨by simpa using hy, rfl⟩⟩
      split at e
      · rename_i x hop
        exact mv x e (fun w => by simp [execOp, hop])
      · rename_i x hop
        exact mv x e (fun w => by simp [execOp, hop])
      · obtain ⟨hne, hcase⟩ := jn_inv e hr
        rcases gd_inv (ops := ops) ht hs.er rfl hne with ⟨hy, hx⟩ | ⟨hy, hx⟩
        · obtain ⟨v, V, h1, h2, h3, h4⟩ := one hx hne
          rcases hcase with ⟨vs, hh, e1, e2⟩ | ⟨i', vs, hh, e1, e2⟩ | ⟨v', hh, e1, e2⟩
          · rw [e1] at h1
            obtain ⟨rfl, rfl⟩ : [v] = vs ∧ h = hh := by cases h1; exact ⟨rfl, rfl⟩
            have e2 : put n o.dst v env (fun env => k v env h) = r := e2
            obtain ⟨env', h5, h6⟩ := put_st e2 hr hs h2
            exact ⟨v, V, env', h5, h2, h6, .inl ⟨by rw [hw, hy]; simp, h3, h4⟩⟩
          · rw [e1] at h1; cases h1
          · rw [e1] at h1; cases h1
        · rcases hcase with ⟨vs, hh, e1, e2⟩ | ⟨i', vs, hh, e1, e2⟩ | ⟨v', hh, e1, e2⟩
          · rw [e1] at hx
            obtain ⟨rfl, rfl⟩ : [AV.tup .nil] = vs ∧ h = hh := by cases hx; exact ⟨rfl, rfl⟩
            have hu : VR ρ (.tup .nil) undef := ⟨#[], rfl, rfl⟩
            have e2 : put n o.dst (.tup .nil) env (fun env => k (.tup .nil) env h) = r := e2
            obtain ⟨env', h5, h6⟩ := put_st e2 hr hs hu
            exact ⟨_, _, env', h5, hu, h6, .inr ⟨by rw [hw]; exact hy, rfl⟩⟩
          · rw [e1] at hx; cases hx
          · rw [e1] at hx; cases hx
    · exact absurd e.symm hr

/-- Looked at again, it is the same. -/
def Recheck (N0 : Base) (f : Hp → Res → Res) (R : World → Prop) (ρ : Rho) : Prop := ∀ ρ' h' w' K r, Ext ρ ρ' → Inv N0 ρ' h' w' → f h' K = r → r ≠ .fail → K = r ∧ R w'

theorem Recheck.ext {f : Hp → Res → Res} {R : World → Prop} {ρ' : Rho} (hx : Ext ρ ρ') (h : Recheck N0 f R ρ) : Recheck N0 f R ρ' :=
  fun ρ2 h' w' K r he hi e hr => h ρ2 h' w' K r (hx.trans he) hi e hr

theorem same_inv {x y : AV} {k : Res} (e : same x y k = r) (hr : r ≠ .fail) : eqAV x y = true ∧ k = r := ifF_inv e hr

theorem again_ok {o : Oper} {v : AV} {V : Value} (hk : kindD P o.op = 1) (he : ERel ρ env a) (hv : VR ρ v V) :
    Recheck N0 (again P γ ops.toList o env v) (fun w => Region.wanted o (yielded ops a.tmps) = true → (execOp a.eval o).run P w = .ok (.value V) w) ρ := by
  intro ρ' h' w' K r hx hi e hr
  have he' := he.ext hx
  have one : ∀ {k : Res} {r : Res}, dOp P γ env h' o.op (fun v' _ => same v v' k) = r → r ≠ .fail → k = r ∧ (execOp a.eval o).run P w' = .ok (.value V) w' := by
    intro k r e hr
    obtain ⟨v', V', h1, h2, h3⟩ := dOp_read o hi he' hk e hr
    obtain ⟨h4, h5⟩ := same_inv h1 hr
    have := (eqAV_det (ρ := ρ') v v' h4).1 V V' (hv.ext hx) h2
    subst this
    exact ⟨h5, h3⟩
  unfold again at e
  split at e
  · obtain ⟨h1, h2⟩ := one e hr
    exact ⟨h1, fun _ => h2⟩
  · rename_i j want hg
    split at e
    · rename_i t ht
      have hw : Region.wanted o (yielded ops a.tmps) = (yielded ops a.tmps j == some want) := by simp [Region.wanted, hg]
      obtain ⟨hne, hcase⟩ := jn_inv e hr
      rcases gd_inv (ops := ops) ht he' rfl hne with ⟨hy, hx'⟩ | ⟨hy, hx'⟩
      · obtain ⟨h1, h2⟩ := one hx' hne
        rcases hcase with ⟨vs, hh, e1, e2⟩ | ⟨i', vs, hh, e1, e2⟩ | ⟨v', hh, e1, e2⟩
        · exact ⟨e2, fun _ => h2⟩
        · rw [e1] at h1; cases h1
        · rw [e1] at h1; cases h1
      · rcases hcase with ⟨vs, hh, e1, e2⟩ | ⟨i', vs, hh, e1, e2⟩ | ⟨v', hh, e1, e2⟩
        · exact ⟨e2, fun h => by rw [hw, hy] at h; cases h⟩
        · rw [e1] at hx'; cases hx'
        · rw [e1] at hx'; cases hx'
    · exact absurd e.symm hr

theorem agains_inv : ∀ (l : List (Nat × (Hp → Res → Res))) {ρ' : Rho} {h' : Hp} {w' : World} {K : Res}, (∀ q ∈ l, ∃ R, Recheck N0 q.2 R ρ) → Ext ρ ρ' → Inv N0 ρ' h' w' → agains l h' K = r → r ≠ .fail →
    K = r ∧ ∀ q ∈ l, ∀ R, Recheck N0 q.2 R ρ → R w' := by
  intro l
  induction l with
  | nil => intro ρ' h' w' K _ _ _ e _; exact ⟨e, fun q hq => by cases hq⟩
  | cons p l ih =>
    intro ρ' h' w' K hl hx hi e hr
    have e : p.2 h' (agains l h' K) = r := e
    obtain ⟨R, hR⟩ := hl p (by simp)
    obtain ⟨h1, -⟩ := hR ρ' h' w' _ r hx hi e hr
    obtain ⟨h2, h3⟩ := ih (fun q hq => hl q (by simp [hq])) hx hi h1 hr
    refine ⟨h2, fun q hq R' hR' => ?_⟩
    rcases List.mem_cons.1 hq with rfl | hq
    · exact (hR' ρ' h' w' _ r hx hi e hr).2
    · exact h3 q hq R' hR'

theorem pends_mem {o : Oper} : ∀ (l : List (Nat × (Hp → Res → Res))) (q : Nat × (Hp → Res → Res)), q ∈ pends o l ↔ q ∈ l ∧ ∀ e ∈ o.after, Region.binds .any e = true → e.on ≠ q.1 := by
  intro l
  induction l with
  | nil => intro q; simp [pends]
  | cons p l ih =>
    intro q
    have hb : (o.after.toList.any fun e => Region.binds .any e && Nat.beq e.on p.1) = true ↔ ¬ ∀ e ∈ o.after, Region.binds .any e = true → e.on ≠ p.1 := by
      rw [List.any_eq_true]
      constructor
      · rintro ⟨e, he, hb⟩ hall
        rw [Bool.and_eq_true, beq_iff] at hb
        exact hall e (by simpa using he) hb.1 hb.2
      · intro hn
        refine Classical.byContradiction fun hc => hn fun e he hbd heq => hc ⟨e, by simpa using he, ?_⟩
        rw [Bool.and_eq_true, beq_iff]
        exact ⟨hbd, heq⟩
    unfold pends
    split
    · rename_i ht
      rw [ih q]
      constructor
      · rintro ⟨h1, h2⟩; exact ⟨by simp [h1], h2⟩
      · rintro ⟨h1, h2⟩
        rcases List.mem_cons.1 h1 with rfl | h1
        · exact absurd h2 (hb.1 ht)
        · exact ⟨h1, h2⟩
    · rename_i ht
      have hno : ∀ e ∈ o.after, Region.binds .any e = true → e.on ≠ p.1 := by
        refine Classical.byContradiction fun hc => ?_
        have := hb.2 hc
        rw [this] at ht; cases ht
      rw [List.mem_cons, ih q]
      constructor
      · rintro (rfl | ⟨h1, h2⟩)
        · exact ⟨by simp, hno⟩
        · exact ⟨by simp [h1], h2⟩
      · rintro ⟨h1, h2⟩
        rcases List.mem_cons.1 h1 with rfl | h1
        · exact .inl rfl
        · exact .inr ⟨h1, h2⟩
end
end Go.AM

namespace Go.AM
open Go
set_option autoImplicit false

section
variable {P : Program} {ops : Array Oper} {Q : Exit → Act → World → Prop} {N0 : Base} {n : Nat} {ρ0 ρ : Rho} {h0 h : Hp} {w0 w : World} {r : Res} {env : Env} {a : Act} {γ : FuncId → Option Fun}

/-- An operation that may change memory. -/
theorem stepD_act {o : Oper} {i : Nat} {k : AV → Env → Hp → Res} (hγ : GSound P γ ∧ N0.fits P) (hi : ops[i]? = some o) (hs : St N0 n ρ0 h0 w0 ρ h w env a) (e : stepD P γ n ops.toList o env h k = r) (hr : r ≠ .fail)
    {K : Act → World → Prop} (hK : ∀ v V ρ' h' w' env', k v env' h' = r → Ext ρ ρ' → St N0 n ρ0 h0 w0 ρ' h' w' env' (a.put o.dst V) → K (a.put o.dst V) w') : wpOp P ops Q i K a w := by
  unfold wpOp
  rw [hi]
  simp only
  unfold stepD at e
  split at e
  · rename_i hg
    have hw : Region.wanted o (yielded ops a.tmps) = true := by simp [Region.wanted, hg]
    rw [if_pos hw]
    obtain ⟨v, h', h1, h2⟩ := dOp_sound hγ o hs.inv hs.er e hr
    refine .inl (h2 _ _ fun V w' ρ' hout => ?_)
    obtain ⟨env', h3, h4⟩ := put_st h1 hr (hs.next hout) hout.val
    exact hK v V ρ' h' w' env' h3 hout.tr.ext h4
  · rename_i j want hg
    split at e
    · rename_i t ht
      have hw : Region.wanted o (yielded ops a.tmps) = (yielded ops a.tmps j == some want) := by simp [Region.wanted, hg]
      have mv : ∀ x, ap (gsel (env t) want (ev env x)) (fun v => put n o.dst v env fun env => k v env h) = r → (execOp a.eval o).run P w = .ok (.value (a.eval x)) w →
          (if Region.wanted o (yielded ops a.tmps) = true then o.wp P a w K Q ∨ (o.asks P a w ∧ LetsOut Q) else K (a.put o.dst undef) w) := by
        intro x e hrun
        have hsel := gsel_rel (ops := ops) (want := want) ht hs.er (ev_rel hs.er x)
        generalize gsel (env t) want (ev env x) = g at e hsel
        have e : put n o.dst g env (fun env => k g env h) = r := e
        obtain ⟨env', h3, h4⟩ := put_st e hr hs hsel
        rw [hw]
        split
        · rename_i hy
          rw [if_pos hy] at h4
          refine .inl ?_
          unfold Oper.wp
          rw [hrun]
          exact hK _ _ ρ h w env' h3 (Ext.refl ρ) h4
        · rename_i hy
          rw [if_neg hy] at h4
          exact hK _ _ ρ h w env' h3 (Ext.refl ρ) h4
      split at e
      · rename_i x hop
        exact mv x e (by simp [execOp, hop])
      · rename_i x hop
        exact mv x e (by simp [execOp, hop])
      · obtain ⟨hne, hcase⟩ := jn_inv e hr
        rcases gd_inv (ops := ops) ht hs.er rfl hne with ⟨hy, hx⟩ | ⟨hy, hx⟩
        · rw [hw, hy]
          simp only [beq_self_eq_true, if_true]
          obtain ⟨v, h', h1, h2⟩ := dOp_sound hγ o hs.inv hs.er hx hne
          refine .inl (h2 _ _ fun V w' ρ' hout => ?_)
          rcases hcase with ⟨vs, hh, e1, e2⟩ | ⟨i', vs, hh, e1, e2⟩ | ⟨v', hh, e1, e2⟩
          · rw [e1] at h1
            obtain ⟨rfl, rfl⟩ : [v] = vs ∧ h' = hh := by cases h1; exact ⟨rfl, rfl⟩
            have e2 : put n o.dst v env (fun env => k v env h') = r := e2
            obtain ⟨env', h3, h4⟩ := put_st e2 hr (hs.next hout) hout.val
            exact hK v V ρ' h' w' env' h3 hout.tr.ext h4
          · rw [e1] at h1; cases h1
          · rw [e1] at h1; cases h1
        · rw [hw, hy]
          simp only [Bool.false_eq_true, if_false]
          rcases hcase with ⟨vs, hh, e1, e2⟩ | ⟨i', vs, hh, e1, e2⟩ | ⟨v', hh, e1, e2⟩
          · rw [e1] at hx
            obtain ⟨rfl, rfl⟩ : [AV.tup .nil] = vs ∧ h = hh := by cases hx; exact ⟨rfl, rfl⟩
            have hu : VR ρ (.tup .nil) undef := ⟨#[], rfl, rfl⟩
            have e2 : put n o.dst (.tup .nil) env (fun env => k (.tup .nil) env h) = r := e2
            obtain ⟨env', h3, h4⟩ := put_st e2 hr hs hu
            exact hK _ _ ρ h w env' h3 (Ext.refl ρ) h4
          · rw [e1] at hx; cases hx
          · rw [e1] at hx; cases hx
    · exact absurd e.symm hr

/-- What pends in the machine is what pends in the model. -/
structure PendOK (P : Program) (ops : Array Oper) (N0 : Base) (ρ : Rho) (L : Array Bool) (K : List (Nat × (World → Prop))) (pend : List (Nat × (Hp → Res → Res))) : Prop where
  all : ∀ q ∈ pend, ∃ R, Recheck N0 q.2 R ρ
  has : ∀ p ∈ K, NoAct P ops L p.1 → ∃ f, (p.1, f) ∈ pend ∧ Recheck N0 f p.2 ρ

theorem not_acts {o : Oper} (h : kindD P o.op = 0 ∨ kindD P o.op = 1) : ¬ Acts P o := fun ha => h.elim ha.1 ha.2

theorem dDraw_sound (hγ : GSound P γ ∧ N0.fits P) {k : Env → Hp → Res} (hr : r ≠ .fail) (hsel : Region.noSelect ops = true) (hQp : ∀ c a w, ¬ Q (.panic c) a w)
    (hQ : ∀ ρ h w env a, St N0 n ρ0 h0 w0 ρ h w env a → k env h = r → Q .normal a w) :
    ∀ (rest : List Nat) (L : Array Bool) (K : List (Nat × (World → Prop))) (pend : List (Nat × (Hp → Res → Res))) (ρ : Rho) (h : Hp) (w : World) (env : Env) (a : Act), orderOk P ops rest L = true → Closed ops L →
      St N0 n ρ0 h0 w0 ρ h w env a → IK P ops K L w → PendOK P ops N0 ρ L K pend → dDraw P γ n ops.toList rest pend env h k = r → wpAnyI P ops Q (IK P ops K) rest.length L a w := by
  intro rest
  induction rest with
  | nil =>
    intro L K pend ρ h w env a ho hc hs hI hp e
    have ho : (Region.ready .any ops L).isEmpty = true := ho
    exact ⟨by simpa using ho, hQ ρ h w env a hs e⟩
  | cons i rest ih =>
    intro L K pend ρ h w env a ho hc hs hI hp e
    unfold orderOk at ho
    rw [Bool.and_eq_true] at ho
    obtain ⟨ho1, ho2⟩ := ho
    cases hoi : ops[i]? with
    | none => rw [hoi] at ho1; cases ho1
    | some o =>
      rw [hoi] at ho1
      simp only at ho1
      have hli : ops.toList[i]? = some o := by rw [Array.getElem?_toList]; exact hoi
      unfold dDraw at e
      rw [hli] at e
      simp only at e
      have sub : ∀ p, NoAct P ops (L.setIfInBounds i true) p → NoAct P ops L p := fun p hn j oj hj ha hl => hn j oj hj ha (getD_set_true hl)
      have hI2 : IK P ops K (L.setIfInBounds i true) w := fun p hpk hn => hI p hpk (sub _ hn)
      split at e
      · rename_i hk
        rw [hk] at ho1
        simp only [Bool.and_eq_true] at ho1
        obtain ⟨v, V, env', e', hv, hs', hy⟩ := stepD_still hs (.inl hk) e hr
        have hrd : i ∈ Region.ready .any ops L := by simpa using ho1.1
        refine hoist (v := V) (R := fun _ => True) hoi (Region.noSelect_spec hsel) hQp (not_acts (.inl hk)) rest.length L a w (Region.free_spec hoi ho1.2) hrd hc ?_ trivial hI hI2 ?_
        · rcases hy with ⟨h1, -, h3⟩ | ⟨h1, h2⟩
          · exact .inl ⟨h1, fun w _ => h3 hk w⟩
          · exact .inr ⟨h1, h2⟩
        · refine wpAnyI_mono ?_ _ _ _ _ (ih (L.setIfInBounds i true) K pend ρ h w env' _ ho2 (hc.set hrd) hs' hI2 ⟨hp.all, fun p hpk hn => hp.has p hpk (sub _ hn)⟩ e')
          intro L' w' hIK p hpk
          rcases List.mem_cons.1 hpk with rfl | hpk
          · exact fun _ => trivial
          · exact hIK p hpk
      · rename_i hk
        rw [hk] at ho1
        simp only [Bool.and_eq_true] at ho1
        obtain ⟨v, V, env', e', hv, hs', hy⟩ := stepD_still hs (.inr hk) e hr
        have hrd : i ∈ Region.ready .any ops L := by simpa using ho1.1
        have hRw : Region.wanted o (yielded ops a.tmps) = true → (execOp a.eval o).run P w = .ok (.value V) w := by
          rcases hy with ⟨-, h2, -⟩ | ⟨h1, -⟩
          · exact fun _ => h2
          · intro h; rw [h1] at h; cases h
        have hrc := again_ok (P := P) (ops := ops) (N0 := N0) (γ := γ) (V := V) hk hs.er hv
        refine hoist (v := V) (R := fun w => Region.wanted o (yielded ops a.tmps) = true → (execOp a.eval o).run P w = .ok (.value V) w) hoi (Region.noSelect_spec hsel) hQp (not_acts (.inr hk)) rest.length L a w (Region.free_spec hoi ho1.2) hrd hc ?_ hRw hI hI2 ?_
        · rcases hy with ⟨h1, -, -⟩ | ⟨h1, h2⟩
          · exact .inl ⟨h1, fun w hR => hR h1⟩
          · exact .inr ⟨h1, h2⟩
        · refine ih (L.setIfInBounds i true) _ _ ρ h w env' _ ho2 (hc.set hrd) hs' ?_ ⟨?_, ?_⟩ e'
          · intro p hpk hn
            rcases List.mem_cons.1 hpk with rfl | hpk
            · exact hRw
            · exact hI2 p hpk hn
          · intro q hq
            rcases List.mem_cons.1 hq with rfl | hq
            · exact ⟨_, hrc⟩
            · exact hp.all q hq
          · intro p hpk hn
            rcases List.mem_cons.1 hpk with rfl | hpk
            · exact ⟨_, by simp, hrc⟩
            · obtain ⟨f, h1, h2⟩ := hp.has p hpk (sub _ hn)
              exact ⟨f, by simp [h1], h2⟩
      · rename_i hk0 hk1
        have hact : Acts P o := ⟨hk0, hk1⟩
        have hrdy : Region.ready .any ops L = [i] := by
          split at ho1
          · exact absurd ‹_› hk0
          · exact absurd ‹_› hk1
          · split at ho1
            · rename_i j hj
              rw [beq_iff] at ho1
              rw [hj, ho1]
            · cases ho1
        have hrd : i ∈ Region.ready .any ops L := by rw [hrdy]; simp
        refine ⟨fun h => (by rw [hrdy] at h; cases h), fun j hj => ?_⟩
        obtain rfl : j = i := by rw [hrdy] at hj; simpa using hj
        refine stepD_act hγ hoi hs e hr fun v V ρ' h' w' env' e' hx hs' => ?_
        have hall : ∀ q ∈ pends o pend, ∃ R, Recheck N0 q.2 R ρ := fun q hq => hp.all q ((pends_mem pend q).1 hq).1
        obtain ⟨e2, hRs⟩ := agains_inv (pends o pend) hall hx hs'.inv e' hr
        have hhas : ∀ p ∈ K, NoAct P ops (L.setIfInBounds j true) p.1 → ∃ f, (p.1, f) ∈ pends o pend ∧ Recheck N0 f p.2 ρ := by
          intro p hpk hn
          obtain ⟨f, h1, h2⟩ := hp.has p hpk (sub _ hn)
          exact ⟨f, (pends_mem pend (p.1, f)).2 ⟨h1, hn j o hoi hact (getD_set_self (mem_ready.1 hrd).1)⟩, h2⟩
        have hI3 : IK P ops K (L.setIfInBounds j true) w' := by
          intro p hpk hn
          obtain ⟨f, h1, h2⟩ := hhas p hpk hn
          exact hRs _ h1 p.2 h2
        refine ⟨hI3, ih (L.setIfInBounds j true) K (pends o pend) ρ' h' w' env' _ ho2 (hc.set hrd) hs' hI3 ⟨?_, ?_⟩ e2⟩
        · intro q hq
          obtain ⟨R, hR⟩ := hall q hq
          exact ⟨R, hR.ext hx⟩
        · intro p hpk hn
          obtain ⟨f, h1, h2⟩ := hhas p hpk hn
          exact ⟨f, h1, h2.ext hx⟩
end
end Go.AM

namespace Go.AM
open Go
set_option autoImplicit false

section
variable {P : Program} {N0 : Base} {n : Nat} {ρ0 ρ : Rho} {h0 h : Hp} {w0 w : World} {r : Res} {env : Env} {a : Act}

theorem upd_eq (env : Env) (d t : Nat) (v : AV) : upd env d v t = if t = d then v else env t := by
  have hu : upd env d v t = Bool.rec (motive := fun _ => AV) (env t) v (Nat.beq t d) := rfl
  rw [hu, recB]; simp only [beq_iff]

theorem un_map (f : Env) : ∀ (l : List Nat) {k : Env → Res}, un l (l.map f) k = r → ∃ env', k env' = r ∧ ∀ t, env' t = f t ∨ env' t = .unk := by
  intro l
  induction l with
  | nil => intro k e; exact ⟨env0, e, fun t => .inr rfl⟩
  | cons d l ih =>
    intro k e
    have e : un l (l.map f) (fun env => k (upd env d (f d))) = r := e
    obtain ⟨env', h1, h2⟩ := ih e
    refine ⟨_, h1, fun t => ?_⟩
    rw [upd_eq]
    by_cases ht : t = d
    · rw [if_pos ht, ht]; exact .inl rfl
    · rw [if_neg ht]; exact h2 t

theorem ERel.less {env' : Env} (he : ERel ρ env a) (h : ∀ t, env' t = env t ∨ env' t = .unk) : ERel ρ env' a := by
  intro t
  rcases h t with e | e
  · rw [e]; exact he t
  · rw [e]; exact trivial

theorem St.less {env' : Env} (hs : St N0 n ρ0 h0 w0 ρ h w env a) (hl : ∀ t, env' t = env t ∨ env' t = .unk) : St N0 n ρ0 h0 w0 ρ h w env' a :=
  ⟨hs.inv, hs.tr, hs.er.less hl, hs.sz, hs.df⟩

/-- What code may come to, where the machine comes to r. -/
def Post (P : Program) (fn : Func) (N0 : Base) (n : Nat) (ρ0 : Rho) (h0 : Hp) (w0 : World) (xs : List (Nat × List Nat)) (k : Env → Hp → Res) (r : Res) : Exit → Act → World → Prop
  | .normal, a, w => ∃ ρ h env, St N0 n ρ0 h0 w0 ρ h w env a ∧ k env h = r
  | .exit id, a, w => ∃ ρ h env l, St N0 n ρ0 h0 w0 ρ h w env a ∧ xs.find? (fun p => Nat.beq p.1 id) = some (id, l) ∧ r = .exit id (l.map env) h
  | .ret, a, w => ∃ ρ h env, St N0 n ρ0 h0 w0 ρ h w env a ∧ rt P fn env h = r
  | _, _, _ => False

theorem exitL_inv : ∀ (xs : List (Nat × List Nat)) {id : Nat} {k : List Nat → Res}, exitL xs id k = r → r ≠ .fail → ∃ l, xs.find? (fun p => Nat.beq p.1 id) = some (id, l) ∧ k l = r := by
  intro xs
  induction xs with
  | nil => intro id k e hr; exact absurd e.symm hr
  | cons p xs ih =>
    intro id k e hr
    have e : ifB (Nat.beq p.1 id) (k p.2) (exitL xs id k) = r := e
    rcases ifB_inv e with ⟨h1, h2⟩ | ⟨h1, h2⟩
    · rw [List.find?_cons, h1]
      rw [beq_iff] at h1
      exact ⟨p.2, by rw [← h1], h2⟩
    · rw [List.find?_cons, h1]
      exact ih h2 hr

theorem blk_inv {id : Nat} {r1 : Res} {k : List AV → Hp → Res} (e : blk id r1 k = r) (hr : r ≠ .fail) :
    r1 ≠ .fail ∧ ((∃ vs h, r1 = .norm vs h ∧ k vs h = r) ∨ (∃ vs h, r1 = .exit id vs h ∧ k vs h = r) ∨ (∃ i vs h, i ≠ id ∧ r1 = .exit i vs h ∧ r = .exit i vs h) ∨ (∃ v h, r1 = .ret v h ∧ r = .ret v h)) := by
  cases r1 with
  | fail => exact absurd e.symm hr
  | norm vs h => exact ⟨by simp, .inl ⟨vs, h, rfl, e⟩⟩
  | exit i vs h =>
    refine ⟨by simp, .inr ?_⟩
    have e : ifB (Nat.beq i id) (k vs h) (.exit i vs h) = r := e
    rcases ifB_inv e with ⟨h1, h2⟩ | ⟨h1, h2⟩
    · rw [beq_iff] at h1; subst h1; exact .inl ⟨vs, h, rfl, h2⟩
    · exact .inr (.inl ⟨i, vs, h, (fun he => by rw [← beq_iff, h1] at he; cases he), rfl, h2.symm⟩)
  | ret v h => exact ⟨by simp, .inr (.inr (.inr ⟨v, h, rfl, e.symm⟩))⟩

/-- What a function returns. -/
theorem rt_not {fn : Func} (hr : rt P fn env h ≠ .fail) : (∃ v h', rt P fn env h = .ret v h') := by
  have key : ∀ (l : List ResultVar) (k : List AV → Res), (∀ vs, k vs = .fail ∨ ∃ v h', k vs = .ret v h') → rtV env h P l k = .fail ∨ ∃ v h', rtV env h P l k = .ret v h' := by
    intro l
    induction l with
    | nil => intro k hk; exact hk []
    | cons x l ih =>
      intro k hk
      cases x with
      | tmp t =>
        simp only [rtV]
        by_cases hf : cK (env t) (fun v => rtV env h P l fun vs => k (v :: vs)) = .fail
        · exact .inl hf
        · obtain ⟨h1, h2⟩ := cK_inv rfl hf
          rw [← h2]
          exact ih _ fun vs => hk _
      | cell c t =>
        simp only [rtV]
        generalize hq : sif (okT P t) _ .fail = q
        by_cases hf : q = .fail
        · exact .inl hf
        · obtain ⟨h1, h2⟩ := sif_inv hq hf
          split at h2
          · obtain ⟨b, o, -, h3⟩ := cP_inv h2 hf
            obtain ⟨B, -, -, h4⟩ := gb_inv h3 hf
            have rdl : ∀ (m o : Nat) (kk : AV → Res), (∀ l, kk l = .fail ∨ ∃ v h', kk l = .ret v h') → rds B m o kk = .fail ∨ ∃ v h', rds B m o kk = .ret v h' := by
              intro m
              induction m with
              | zero => intro o kk hkk; exact hkk _
              | succ m ihm =>
                intro o kk hkk
                by_cases hf2 : rds B (m + 1) o kk = .fail
                · exact .inl hf2
                · obtain ⟨-, h5⟩ := cK_inv (x := B.at o) (k := fun v => rds B m (o + 1) fun t => kk (.cons v t)) rfl hf2
                  have : rds B (m + 1) o kk = cK (B.at o) (fun v => rds B m (o + 1) fun t => kk (.cons v t)) := rfl
                  rw [this, ← h5]
                  exact ihm _ _ fun l => hkk _
            rw [← h4]
            exact rdl _ _ _ fun l => ih _ fun vs => hk _
          · obtain ⟨b, o, -, h3⟩ := cP_inv h2 hf
            obtain ⟨B, -, -, h4⟩ := gb_inv h3 hf
            obtain ⟨-, h5⟩ := cK_inv h4 hf
            rw [← h5]
            exact ih _ fun vs => hk _
  rcases key fn.results.toList (fun vs => match vs with | [v] => .ret v h | vs => .ret (.tup (lst vs)) h) (fun vs => by cases vs with
    | nil => exact .inr ⟨_, _, rfl⟩
    | cons v l => cases l <;> exact .inr ⟨_, _, rfl⟩) with h1 | h1
  · exact absurd h1 hr
  · exact h1

theorem Inv.drew {w' : World} (hi : Inv N0 ρ h w) (hw : w'.heap = w.heap) : Inv N0 ρ h w' := by
  refine ⟨fun b B hb => ?_, hi.nb, hi.gnb, hi.gs, hi.als, hi.lim, hi.free, by rw [hw]; exact hi.wsz, hi.mp.later (Ext.refl ρ) (Nat.le_refl _) fun r o _ _ => by rw [hw], Base.st hi.jj fun r _ => by rw [hw]⟩
  obtain ⟨p, h1, h2⟩ := hi.blk b B hb
  obtain ⟨cs, e, fz, g1, g2, g3, g4⟩ := h2.obj
  exact ⟨p, h1, ⟨cs, e, fz, by rw [hw]; exact g1, g2, g3, g4⟩, h2.fit, h2.side⟩

theorem St.drew {w' : World} (hs : St N0 n ρ0 h0 w0 ρ h w env a) (hw : w'.heap = w.heap) (h1 : w'.tape = w.tape) (h2 : w'.os = w.os) (h3 : w'.output = w.output) : St N0 n ρ0 h0 w0 ρ h w' env a :=
  ⟨hs.inv.drew hw, hs.tr.trans ⟨Ext.refl ρ, Nat.le_refl _, fun _ _ e => .inl e, fun r _ _ _ => by rw [hw], fun b B p h1 h2 h3 => .inr ⟨b, B, p, h1, h2, h3, rfl⟩, fun b m p h1 h3 => .inr ⟨b, m, p, h1, h3, rfl⟩, by rw [hw]; exact Nat.le_refl _, h1, h2, h3⟩, hs.er, hs.sz, hs.df⟩

theorem den_sound (hm : P.follows .mixedOrders = true) {γ : FuncId → Option Fun} (hγ : GSound P γ ∧ N0.fits P) (fn : Func) : ∀ (c : Code) (x : Hint) (xs : List (Nat × List Nat)) (ρ : Rho) (h : Hp) (w : World) (env : Env) (a : Act) (k : Env → Hp → Res) (r : Res), r ≠ .fail →
    St N0 fn.ntmps ρ0 h0 w0 ρ h w env a → den P γ fn c x xs env h k = r → c.wp P (Post P fn N0 fn.ntmps ρ0 h0 w0 xs k r) a w := by
  intro c
  induction c with
  | skip =>
    intro x xs ρ h w env a k r hr hs e
    have e : k env h = r := by cases x <;> exact e
    exact wp_skip ⟨ρ, h, env, hs, e⟩
  | region id ops d =>
    intro x xs ρ h w env a k r hr hs e
    cases d with
    | true =>
      cases x with
      | r o =>
        obtain ⟨h1, h2⟩ := sif_inv (b := Region.noSelect ops && (Nat.beq o.length ops.size && orderOk P ops o (Array.replicate ops.size false))) e hr
        rw [Bool.and_eq_true, Bool.and_eq_true, beq_iff] at h1
        obtain ⟨h3, h4, h5⟩ := h1
        refine wp_region_any hm ?_
        have := dDraw_sound (Q := Post P fn N0 fn.ntmps ρ0 h0 w0 xs k r) (n := fn.ntmps) hγ hr h3 (fun c a w h => h) (fun ρ h w env a hs e => ⟨ρ, h, env, hs, e⟩) o (Array.replicate ops.size false) [] [] ρ h { w with drawn := w.drawn + 1 } env a h5
          (fun j oj hj hl => by rw [Array.getD_eq_getD_getElem?, Array.getElem?_replicate] at hl; split at hl <;> cases hl) (hs.drew rfl rfl rfl rfl) (fun p hp => absurd hp (by simp)) ⟨fun q hq => absurd hq (by simp), fun p hp => absurd hp (by simp)⟩ h2
        rw [h4] at this
        exact wpAny_of_I _ _ _ _ this
      | _ => exact absurd e.symm hr
    | false =>
      have e : dOps P γ fn.ntmps ops.toList ops.toList env h k = r := by cases x <;> exact e
      refine wp_region ?_
      have := dOps_sound (ops := ops) (Q := Post P fn N0 fn.ntmps ρ0 h0 w0 xs k r) hγ hr (fun ρ h w env a hs e => ⟨ρ, h, env, hs, e⟩) ops.toList 0 ρ h w env a rfl hs e
      rwa [Array.length_toList, ← List.range_eq_range'] at this
  | seq p q ihp ihq =>
    intro x xs ρ h w env a k r hr hs e
    cases x with
    | s x y =>
      have e : den P γ fn p x xs env h (fun env h => den P γ fn q y xs env h k) = r := e
      refine wp_seq (wp_mono (ihp x xs ρ h w env a _ r hr hs e) fun ex a' w' hp => ?_)
      cases ex with
      | normal =>
        obtain ⟨ρ', h', env', hs', e'⟩ := hp
        exact ihq y xs ρ' h' w' env' a' k r hr hs' e'
      | _ => exact hp
    | j l x y =>
      have e : jn (den P γ fn p x xs env h fun env h => .norm (l.map env) h) (fun vs h => un l vs fun env => den P γ fn q y xs env h k) = r := e
      obtain ⟨hne, hcase⟩ := jn_inv e hr
      refine wp_seq (wp_mono (ihp x xs ρ h w env a _ _ hne hs rfl) fun ex a' w' hp => ?_)
      cases ex with
      | normal =>
        obtain ⟨ρ', h', env', hs', e'⟩ := hp
        rcases hcase with ⟨vs, hh, e1, e2⟩ | ⟨i, vs, hh, e1, e2⟩ | ⟨v, hh, e1, e2⟩
        · rw [e1] at e'
          obtain ⟨rfl, rfl⟩ : l.map env' = vs ∧ h' = hh := by cases e'; exact ⟨rfl, rfl⟩
          obtain ⟨env2, h3, h4⟩ := un_map env' l e2
          exact ihq y xs ρ' h' w' env2 a' k r hr (hs'.less h4) h3
        · rw [e1] at e'; cases e'
        · rw [e1] at e'; cases e'
      | exit id =>
        obtain ⟨ρ', h', env', l', hs', hf, e'⟩ := hp
        refine ⟨ρ', h', env', l', hs', hf, ?_⟩
        rcases hcase with ⟨vs, hh, e1, e2⟩ | ⟨i, vs, hh, e1, e2⟩ | ⟨v, hh, e1, e2⟩
        · rw [e1] at e'; cases e'
        · rw [e2, ← e1, e']
        · rw [e1] at e'; cases e'
      | ret =>
        obtain ⟨ρ', h', env', hs', e'⟩ := hp
        refine ⟨ρ', h', env', hs', ?_⟩
        obtain ⟨v', h'', hv⟩ := rt_not (P := P) (fn := fn) (env := env') (h := h') (by rw [e']; exact hne)
        rcases hcase with ⟨vs, hh, e1, e2⟩ | ⟨i, vs, hh, e1, e2⟩ | ⟨v, hh, e1, e2⟩
        · rw [e1, hv] at e'; cases e'
        · rw [e1, hv] at e'; cases e'
        · rw [e', e1, e2]
      | _ => exact hp
    | _ => exact absurd e.symm hr
  | cond c p q ihp ihq =>
    intro x xs ρ h w env a k r hr hs e
    cases x with
    | s x y =>
      have e : cB (ev env c) (fun t => ifB t (den P γ fn p x xs env h k) (den P γ fn q y xs env h k)) = r := e
      obtain ⟨t, h1, h2⟩ := cB_inv e hr
      have hc := ev_rel hs.er c
      rw [h1] at hc
      have hc : a.eval c = .bool t := hc
      refine wp_cond hc ?_
      cases t with
      | true => exact ihp x xs ρ h w env a k r hr hs h2
      | false => exact ihq y xs ρ h w env a k r hr hs h2
    | _ => exact absurd e.symm hr
  | block id p ihp =>
    intro x xs ρ h w env a k r hr hs e
    cases x with
    | b l x =>
      have e : blk id (den P γ fn p x ((id, l) :: xs) env h fun env h => .norm (l.map env) h) (fun vs h => un l vs fun env => k env h) = r := e
      obtain ⟨hne, hcase⟩ := blk_inv e hr
      refine wp_block (wp_mono (ihp x ((id, l) :: xs) ρ h w env a _ _ hne hs rfl) fun ex a' w' hp => ?_)
      cases ex with
      | normal =>
        obtain ⟨ρ', h', env', hs', e'⟩ := hp
        rcases hcase with ⟨vs, hh, e1, e2⟩ | ⟨vs, hh, e1, e2⟩ | ⟨i, vs, hh, hi, e1, e2⟩ | ⟨v, hh, e1, e2⟩
        · rw [e1] at e'
          obtain ⟨rfl, rfl⟩ : l.map env' = vs ∧ h' = hh := by cases e'; exact ⟨rfl, rfl⟩
          obtain ⟨env2, h3, h4⟩ := un_map env' l e2
          exact ⟨ρ', h', env2, hs'.less h4, h3⟩
        · rw [e1] at e'; cases e'
        · rw [e1] at e'; cases e'
        · rw [e1] at e'; cases e'
      | exit id' =>
        obtain ⟨ρ', h', env', l', hs', hf, e'⟩ := hp
        rcases hcase with ⟨vs, hh, e1, e2⟩ | ⟨vs, hh, e1, e2⟩ | ⟨i, vs, hh, hi, e1, e2⟩ | ⟨v, hh, e1, e2⟩
        · rw [e1] at e'; cases e'
        · rw [e1] at e'
          obtain ⟨rfl, rfl, rfl⟩ : id = id' ∧ vs = l'.map env' ∧ hh = h' := by cases e'; exact ⟨rfl, rfl, rfl⟩
          have hll : l' = l := by
            rw [List.find?_cons, (beq_iff id id).2 rfl] at hf
            cases hf; rfl
          subst hll
          obtain ⟨env2, h3, h4⟩ := un_map env' l' e2
          show Exit.inBlock id _ (.exit id) a' w'
          unfold Exit.inBlock
          simp only [if_true]
          exact ⟨ρ', hh, env2, hs'.less h4, h3⟩
        · rw [e1] at e'
          obtain ⟨rfl, rfl, rfl⟩ : i = id' ∧ vs = l'.map env' ∧ hh = h' := by cases e'; exact ⟨rfl, rfl, rfl⟩
          show Exit.inBlock id _ (.exit i) a' w'
          unfold Exit.inBlock
          simp only [if_neg hi]
          refine ⟨ρ', hh, env', l', hs', ?_, e2⟩
          have hb : Nat.beq id i = false := by rw [Bool.eq_false_iff, ne_eq, beq_iff]; exact fun he => hi he.symm
          rw [List.find?_cons, hb] at hf
          exact hf
        · rw [e1] at e'; cases e'
      | ret =>
        obtain ⟨ρ', h', env', hs', e'⟩ := hp
        refine ⟨ρ', h', env', hs', ?_⟩
        obtain ⟨v', h'', hv⟩ := rt_not (P := P) (fn := fn) (env := env') (h := h') (by rw [e']; exact hne)
        rcases hcase with ⟨vs, hh, e1, e2⟩ | ⟨vs, hh, e1, e2⟩ | ⟨i, vs, hh, hi, e1, e2⟩ | ⟨v, hh, e1, e2⟩
        · rw [e1, hv] at e'; cases e'
        · rw [e1, hv] at e'; cases e'
        · rw [e1, hv] at e'; cases e'
        · rw [e', e1, e2]
      | _ => exact hp
    | _ => exact absurd e.symm hr
  | loop p ihp =>
    intro x xs ρ h w env a k r hr hs e
    cases x with
    | l l x =>
      change lp (fun vs h => un l vs fun env => den P γ fn p x xs env h fun env h => .norm (l.map env) h) most (l.map env) h = r at e
      refine wp_loop_rounds most ?_
      generalize most = m at e ⊢
      induction m generalizing ρ h w env a with
      | zero => exact absurd e.symm hr
      | succ m ihm =>
        rw [rounds_succ]
        generalize hF : (un l (l.map env) fun env => den P γ fn p x xs env h fun env h => .norm (l.map env) h) = r1
        have e : jn r1 (fun vs h => lp (fun vs h => un l vs fun env => den P γ fn p x xs env h fun env h => .norm (l.map env) h) m vs h) = r := by
          rw [← hF]; exact e
        obtain ⟨hne, hcase⟩ := jn_inv e hr
        obtain ⟨env2, h3, h4⟩ := un_map env l hF
        refine wp_mono (ihp x xs ρ h w env2 a _ r1 hne (hs.less h4) h3) fun ex a' w' hp => ?_
        cases ex with
        | normal =>
          obtain ⟨ρ', h', env', hs', e'⟩ := hp
          rcases hcase with ⟨vs, hh, e1, e2⟩ | ⟨i, vs, hh, e1, e2⟩ | ⟨v, hh, e1, e2⟩
          · rw [e1] at e'
            obtain ⟨rfl, rfl⟩ : l.map env' = vs ∧ h' = hh := by cases e'; exact ⟨rfl, rfl⟩
            exact ihm ρ' h' w' env' a' hs' e2
          · rw [e1] at e'; cases e'
          · rw [e1] at e'; cases e'
        | exit id =>
          obtain ⟨ρ', h', env', l', hs', hf, e'⟩ := hp
          refine ⟨ρ', h', env', l', hs', hf, ?_⟩
          rcases hcase with ⟨vs, hh, e1, e2⟩ | ⟨i, vs, hh, e1, e2⟩ | ⟨v, hh, e1, e2⟩
          · rw [e1] at e'; cases e'
          · rw [e2, ← e1, e']
          · rw [e1] at e'; cases e'
        | ret =>
          obtain ⟨ρ', h', env', hs', e'⟩ := hp
          refine ⟨ρ', h', env', hs', ?_⟩
          obtain ⟨v', h'', hv⟩ := rt_not (P := P) (fn := fn) (env := env') (h := h') (by rw [e']; exact hne)
          rcases hcase with ⟨vs, hh, e1, e2⟩ | ⟨i, vs, hh, e1, e2⟩ | ⟨v, hh, e1, e2⟩
          · rw [e1, hv] at e'; cases e'
          · rw [e1, hv] at e'; cases e'
          · rw [e', e1, e2]
        | _ => exact hp
    | _ => exact absurd e.symm hr
  | scope p ihp =>
    intro x xs ρ h w env a k r hr hs e
    have e : den P γ fn p x xs env h k = r := by cases x <;> exact e
    refine wp_scope_straight (wp_mono (ihp x xs ρ h w env a k r hr hs e) fun ex a' w' hp => ?_)
    cases ex <;> first
      | exact hp
      | exact hp.elim
  | label l =>
    intro x xs ρ h w env a k r hr hs e
    have e : k env h = r := by cases x <;> exact e
    exact wp_label ⟨ρ, h, env, hs, e⟩
  | exit id =>
    intro x xs ρ h w env a k r hr hs e
    have e : exitL xs id (fun l => .exit id (l.map env) h) = r := by cases x <;> exact e
    obtain ⟨l, h1, h2⟩ := exitL_inv xs e hr
    exact wp_exit ⟨ρ, h, env, l, hs, h1, h2.symm⟩
  | ret =>
    intro x xs ρ h w env a k r hr hs e
    have e : rt P fn env h = r := by cases x <;> exact e
    exact wp_ret ⟨ρ, h, env, hs, e⟩
  | _ =>
    intro x xs ρ h w env a k r hr hs e
    have e : Res.fail = r := by cases x <;> exact e
    exact absurd e.symm hr
end
end Go.AM

namespace Go.AM
open Go
set_option autoImplicit false

section
variable {P : Program} {N0 : Base} {n : Nat} {ρ0 ρ : Rho} {h0 h : Hp} {w0 w : World} {r : Res} {env : Env} {a : Act}

theorem F2_lst {vs : List AV} {Vs : List Value} (h : F2 (VR ρ) vs Vs) : LR ρ (lst vs) Vs := by
  induction h with
  | nil => rfl
  | cons h1 _ ih => exact ⟨_, _, rfl, h1, ih⟩

/-- A result slot's value. -/
def resOf (tmps : Array Value) : ResultVar → Sem Value
  | .tmp t => pure (tmps.getD t undef)
  | .cell a t => do loadVar t (← asAddr (tmps.getD a undef))

theorem sure_as {t : TypeId} {V X : Value} (h : (Instr.loadAt t X).run P w = .ok V w) : (do loadVar t (← asAddr X) : Sem Value).run P w = .ok V w := by
  unfold Instr.loadAt at h
  cases X with
  | pointer a =>
    cases a with
    | none => simp [Instr.sureAddr, stuck] at h
    | some a => simpa [Instr.sureAddr, asAddr] using h
  | _ => simp [Instr.sureAddr, stuck] at h

theorem rtV_inv (hi : Inv N0 ρ h w) (he : ERel ρ env a) : ∀ (l : List ResultVar) {k : List AV → Res}, rtV env h P l k = r → r ≠ .fail →
    ∃ vs Vs, k vs = r ∧ F2 (VR ρ) vs Vs ∧ (l.mapM (resOf a.tmps)).run P w = .ok Vs w := by
  intro l
  induction l with
  | nil => intro k e hr; exact ⟨[], [], e, .nil, rfl⟩
  | cons x l ih =>
    intro k e hr
    have go : ∀ {v V}, rtV env h P l (fun vs => k (v :: vs)) = r → VR ρ v V → (resOf a.tmps x).run P w = .ok V w → ∃ vs Vs, k vs = r ∧ F2 (VR ρ) vs Vs ∧ ((x :: l).mapM (resOf a.tmps)).run P w = .ok Vs w := by
      intro v V e hv hrun
      obtain ⟨vs, Vs, h1, h2, h3⟩ := ih e hr
      refine ⟨_, V :: Vs, h1, .cons hv h2, ?_⟩
      rw [List.mapM_cons, Sem.run_bind, hrun]
      simp only [Result.andThen_ok]
      rw [Sem.run_bind, h3]
      rfl
    cases x with
    | tmp t =>
      obtain ⟨h1, h2⟩ := cK_inv e hr
      exact go h2 (he t) rfl
    | cell c t =>
      simp only [rtV] at e
      obtain ⟨h1, h2⟩ := sif_inv e hr
      split at h2
      · rename_i ht
        obtain ⟨v, V, h3, h4, h5⟩ := ldN_ok hi ht h1 h2 hr (he c)
        exact go h3 h4 (sure_as h5)
      · rename_i ht
        obtain ⟨v, V, h3, h4, h5⟩ := ld1_ok hi ht h1 h2 hr (he c)
        exact go h3 h4 (sure_as h5)

theorem rt_ok {fn : Func} {v : AV} {h' : Hp} (hi : Inv N0 ρ h w) (he : ERel ρ env a) (e : rt P fn env h = .ret v h') : h' = h ∧ ∃ V, (results fn a.tmps).run P w = .ok V w ∧ VR ρ v V := by
  obtain ⟨vs, Vs, h1, h2, h3⟩ := rtV_inv hi he fn.results.toList e (by simp)
  have hm : (fn.results.mapM (resOf a.tmps)).run P w = .ok Vs.toArray w := by
    rw [Array.mapM_eq_mapM_toList, map_eq_pure_bind, Sem.run_bind, h3]
    rfl
  have hres : (results fn a.tmps).run P w = .ok (if h : Vs.toArray.size = 1 then Vs.toArray[0] else .tuple Vs.toArray) w := by
    have hd : results fn a.tmps = (do let vs ← fn.results.mapM (resOf a.tmps); pure (if h : vs.size = 1 then vs[0] else .tuple vs)) := rfl
    rw [hd, Sem.run_bind, hm]
    rfl
  cases h2 with
  | nil =>
    have h1 : Res.ret (.tup (lst [])) h = .ret v h' := h1
    cases h1
    exact ⟨rfl, _, hres, ⟨_, rfl, rfl⟩⟩
  | @cons v1 V1 vs Vs hv hrest =>
    cases hrest with
    | nil =>
      have h1 : Res.ret v1 h = .ret v h' := h1
      cases h1
      exact ⟨rfl, _, hres, hv⟩
    | @cons v2 V2 vs Vs hv2 hrest =>
      have h1 : Res.ret (.tup (lst (v1 :: v2 :: vs))) h = .ret v h' := h1
      cases h1
      refine ⟨rfl, _, hres, ?_⟩
      rw [dif_neg (by simp)]
      exact ⟨_, rfl, F2_lst (.cons hv (.cons hv2 hrest))⟩

theorem unX_inv : ∀ (l : List Nat) (args : List AV) {k : Env → Res}, unX l args k = r → r ≠ .fail → ∃ env', k env' = r ∧ ∀ t, env' t = .unk ∨ ∃ i : Nat, l[i]? = some t ∧ args[i]? = some (env' t) := by
  intro l
  induction l with
  | nil => intro args k e hr; obtain ⟨-, h2⟩ := uz_inv e hr; exact ⟨env0, h2, fun t => .inl rfl⟩
  | cons d l ih =>
    intro args k e hr
    have e : uc args (fun v vs => unX l vs fun env => k (upd env d v)) = r := e
    obtain ⟨v, vs, rfl, h1⟩ := uc_inv e hr
    obtain ⟨env', h2, h3⟩ := ih vs h1 hr
    refine ⟨_, h2, fun t => ?_⟩
    rw [upd_eq]
    by_cases ht : t = d
    · rw [if_pos ht]; exact .inr ⟨0, by simp [ht], rfl⟩
    · rw [if_neg ht]
      rcases h3 t with h | ⟨i, h4, h5⟩
      · exact .inl h
      · exact .inr ⟨i + 1, by simpa using h4, by simpa using h5⟩

theorem F2.get' {α β : Type} {Q : α → β → Prop} {l : List α} {m : List β} (h : F2 Q l m) : ∀ (i : Nat) (a : α), l[i]? = some a → ∃ b, m[i]? = some b ∧ Q a b := by
  induction h with
  | nil => intro i a h; simp at h
  | cons hq _ ih =>
    intro i a h1
    cases i with
    | zero => simp at h1; subst h1; exact ⟨_, rfl, hq⟩
    | succ i => exact ih i a (by simpa using h1)

theorem denF_sound (hm : P.follows .mixedOrders = true) {γ : FuncId → Option Fun} (hγ : GSound P γ) {f : FuncId} {fn : Func} {c : Code} (x : Hint) (hf : P.funcs[f]? = some fn) (hb : fn.body = some c) : FSound P f (denF P γ fn x) := by
  intro N0 hN ρ h w args Args v h' e hi ha
  unfold denF at e
  rw [hb] at e
  obtain ⟨env, h1, h2⟩ := unX_inv _ _ e (by simp)
  refine calls_of_wp hf hb ?_
  have hs : St N0 fn.ntmps ρ h w ρ h w env { tmps := Args ++ Array.replicate (fn.ntmps - Args.size) undef, defers := [] } := by
    refine ⟨hi, Tr.refl ρ h w, fun t => ?_, by simp; omega, rfl⟩
    rcases h2 t with h3 | ⟨i, h3, h4⟩
    · rw [h3]; exact trivial
    · have hit : i = t := by
        have := (List.getElem?_eq_some_iff.1 h3)
        obtain ⟨h5, h6⟩ := this
        simpa using h6
      subst hit
      obtain ⟨V, h7, h8⟩ := ha.get' i _ h4
      rw [Array.getElem?_toList] at h7
      have hlt := (Array.getElem?_eq_some_iff.1 h7).1
      have : (Args ++ Array.replicate (fn.ntmps - Args.size) undef).getD i undef = V := by
        rw [Array.getD_eq_getD_getElem?, Array.getElem?_append_left hlt, h7]; rfl
      rw [this]; exact h8
  refine wp_mono (den_sound hm ⟨hγ, hN⟩ fn c x [] ρ h w env _ _ _ (by simp) hs h1) fun ex a' w' hp => ?_
  have fin : ∀ ρ1 h1 env1, St N0 fn.ntmps ρ h w ρ1 h1 w' env1 a' → rt P fn env1 h1 = .ret v h' → a'.defers = [] ∧ ∃ V, (results fn a'.tmps).run P w' = .ok V w' ∧ ∃ V' ρ', Ending.returned V = .returned V' ∧ Out N0 ρ h w v h' V' w' ρ' := by
    intro ρ1 h1 env1 hs1 e1
    obtain ⟨rfl, V, h3, h4⟩ := rt_ok hs1.inv hs1.er e1
    exact ⟨hs1.df, V, h3, V, ρ1, rfl, h4, hs1.inv, hs1.tr⟩
  cases ex with
  | normal => obtain ⟨ρ1, h1, env1, hs1, e1⟩ := hp; exact fin _ _ _ hs1 e1
  | ret => obtain ⟨ρ1, h1, env1, hs1, e1⟩ := hp; exact fin _ _ _ hs1 e1
  | exit id => obtain ⟨ρ1, h1, env1, l, hs1, hx, e1⟩ := hp; simp at hx
  | _ => exact hp.elim

theorem enters_of {f : FuncId} {fn : Func} {c : Code} (hf : P.funcs[f]? = some fn) (hname : (fn.name == "runtime.NumGoroutine") = false) (hb : fn.body = some c) : Enters P f :=
  fun args w => by
    have h1 : fn.name ≠ "runtime.NumGoroutine" := by simpa using hname
    simp [callFunc, hf, h1, hb]

theorem gam_nil : GSound P (gam []) := fun f g h => by cases h
theorem gam_consO {f : FuncId} {g : Fun} {l : List (Nat × Fun)} (h1 : (FSound P f g ∧ Enters P f) ∨ ESound P f g) (h3 : GSound P (gam l)) : GSound P (gam ((f, g) :: l)) := by
  intro f' g' h
  have h : Bool.rec (motive := fun _ => Option Fun) (gam l f') (some g) (Nat.beq f f') = some g' := h
  rw [recB] at h
  simp only [beq_iff] at h
  by_cases he : f = f'
  · rw [if_pos he] at h
    cases h; subst he; exact h1
  · rw [if_neg he] at h
    exact h3 f' g' h
theorem gam_cons {f : FuncId} {g : Fun} {l : List (Nat × Fun)} (h1 : FSound P f g) (h2 : Enters P f) (h3 : GSound P (gam l)) : GSound P (gam ((f, g) :: l)) := gam_consO (.inl ⟨h1, h2⟩) h3
end
end Go.AM

namespace Go.AM
open Go
set_option autoImplicit false
noncomputable section

def H0 : Hp := ⟨0, .e, .e, .e⟩

/-- The base at a law's beginning. -/
def b0 (w : World) (g : Option Nat) : Base := ⟨w.heap.size, g⟩

theorem inv_H0 {w : World} {g : Option Nat} (hj : (b0 w g).J w) : Inv (b0 w g) (fun _ => none) H0 w where
  blk := fun b B h => by cases h
  nb := fun b B h => by cases h
  gnb := fun b B h => by cases h
  gs := fun g q h => by cases h
  als := fun b1 b2 B1 B2 p1 p2 h => by cases h
  lim := fun b1 b2 B1 B2 p1 p2 h => by cases h
  free := fun _ _ => rfl
  wsz := Nat.le_refl _
  mp := ⟨fun b m h => (by cases h), fun b1 b2 m1 m2 p1 p2 h => (by cases h)⟩
  jj := hj

/-- Nothing of what was there has turned. -/
def Kept (w w' : World) : Prop := w.keptBut w' (fun _ => False) ∧ (∀ r, r < w.heap.size → w'.heap[r]? = w.heap[r]?) ∧ w.heap.size ≤ w'.heap.size

theorem Tr.kept {ρ ρ' : Rho} {h h' : Hp} {w w' : World} (ht : Tr ρ h w ρ' h' w') (hf : ∀ b B, h.bs.get b = some B → B.fr = false) (hm : h.ms = .e) : Kept w w' := by
  have hfr : ∀ r, r < w.heap.size → w'.heap[r]? = w.heap[r]? := fun r hr => ht.frame r hr (fun b B p hb hB => by rw [hf b B hb] at hB; cases hB) (fun b m p hb => by rw [hm] at hb; cases hb)
  refine ⟨⟨ht.os, ht.output, fun i hi => ?_⟩, hfr, ht.size⟩
  rw [hfr i hi]
  cases h1 : w.heap[i]? with
  | none => simp
  | some o => cases o <;> simp

/-- Does it answer true? -/
def isT (r : Res) : Bool :=
  Res.rec (motive := fun _ => Bool) false (fun _ _ => false) (fun _ _ _ => false)
    (fun v _ => AV.rec (motive := fun _ => Bool) false (fun b => b) (fun _ _ => false) (fun _ _ => false) false (fun _ _ => false) false (fun _ _ _ _ _ => false) false false (fun _ _ _ => false) false (fun _ _ _ _ _ => false) false (fun _ => false) (fun _ _ => false) (fun _ _ => false) false (fun _ _ _ _ => false) v) r

theorem isT_inv {r : Res} (h : isT r = true) : ∃ h', r = .ret (.bool true) h' := by
  cases r with
  | ret v h' =>
    cases v <;> first
      | (rename_i b; cases b <;> first | exact ⟨h', rfl⟩ | exact Bool.noConfusion (show false = true from h))
      | exact Bool.noConfusion (show false = true from h)
  | _ => exact Bool.noConfusion (show false = true from h)

theorem law_walk {P : Program} {f : FuncId} {g : Fun} (hF : FSound P f g) {args : List AV} {Args : Array Value} (hT : isT (g args H0) = true) (w : World) (hj : (b0 w (P.globalNamed "internal/bytealg.MaxLen")).J w) (ha : F2 (VR fun _ => none) args Args.toList) :
    Calls P f Args w fun e w' => e = .returned (.bool true) ∧ Kept w w' := by
  obtain ⟨h', e⟩ := isT_inv hT
  refine (hF (b0 w _) rfl (fun _ => none) H0 w args Args (.bool true) h' e (inv_H0 hj) ha).mono fun e w' ⟨V, ρ', h1, h2⟩ => ?_
  have h3 : V = .bool true := h2.val
  subst h3
  exact ⟨h1, h2.tr.kept (fun b B hb => by cases hb) rfl⟩

theorem vr_i64 (ρ : Rho) (n : Int) : VR ρ (.int 63 n) (.int .i64 n) := ⟨.i64, rfl, rfl⟩
theorem vr_u8 (ρ : Rho) (n : Int) : VR ρ (.int 8 n) (.int .u8 n) := ⟨.u8, rfl, rfl⟩
theorem vr_bool (ρ : Rho) (b : Bool) : VR ρ (.bool b) (.bool b) := rfl
end
end Go.AM

namespace Go
section
variable {H : Type} {enc : TypeId × Value → H} {P : Program}
/-- What a law leaves behind: true; all that was there reads as before. -/
theorem AM.post_kept {f : Func} {s : ChangeSpec} {apart fresh handsOn : Bool} {W W' : World} {args : Array Value} {v : Value} {ds gs : List (DataW H)} {before pa pv : List MemPlace}
    (hW : DataW.Whole enc P f.params.toList s.vars apart W args.toList ds gs before)
    (hres : ∀ (b : Nat) (sp : Nat → Bool) (hd : Bool), DataW.TrodAll enc P W' b sp hd f.resultTypes.toList (v.resultList f.resultTypes.size) (s.fn H (ds ++ gs)).results [])
    (hargs : ∀ sp : Nat → Bool, (∀ p ∈ before, sp p.block = true) → DataW.TrodAll enc P W' 0 sp true f.params.toList args.toList (s.fn H (ds ++ gs)).args pa)
    (hvars : ∀ sp : Nat → Bool, (∀ p ∈ before, sp p.block = true) → DataW.TrodVars enc P W' sp s.vars (s.fn H (ds ++ gs)).vars pv)
    (hk : W.keptBut W' (fun _ => False)) : s.post enc P f apart fresh handsOn false W args v W' := by
  have hold : ∀ p ∈ before, (fun b => decide (b < W.heap.size)) p.block = true := fun p hp => by simpa using hW.lt p hp
  exact ⟨ds, gs, before, [], pa, pv, hW, hres _ _ _, hargs _ hold, hvars _ hold, World.keptBut_mono (fun p hp => hp.elim) hk, fun h => by cases h⟩
end
end Go

namespace Go.AM
open Go
set_option autoImplicit false

/-- Sound, and entered where it is called. -/
def Snd (P : Program) (f : FuncId) (g : Fun) : Prop := FSound P f g ∧ Enters P f

theorem denF_fsound {P : Program} (hm : P.follows .mixedOrders = true) {γ : FuncId → Option Fun} (hγ : GSound P γ) {f : FuncId} {fn : Func} (x : Hint) (hf : P.funcs[f]? = some fn) : FSound P f (denF P γ fn x) := by
  cases hb : fn.body with
  | some c => exact denF_sound hm hγ x hf hb
  | none =>
    intro N0 hN ρ h w args Args v h' e
    unfold denF at e
    rw [hb] at e
    cases e

theorem snd_of {P : Program} (hm : P.follows .mixedOrders = true) {γ : FuncId → Option Fun} (hγ : GSound P γ) {f : FuncId} {fn : Func} {x : Hint} {g : Fun} (hf : P.funcs[f]? = some fn)
    (hn : (fn.name == "runtime.NumGoroutine") = false) (hb : fn.body.isSome = true) (e : g = denF P γ fn x) : Snd P f g := by
  obtain ⟨c, hc⟩ := Option.isSome_iff_exists.1 hb
  exact ⟨e ▸ denF_fsound hm hγ x hf, enters_of hf hn hc⟩

theorem snd_fail {P : Program} {f : FuncId} {fn : Func} (hf : P.funcs[f]? = some fn) (hn : (fn.name == "runtime.NumGoroutine") = false) (hb : fn.body.isSome = true) : Snd P f (fun _ _ => .fail) := by
  obtain ⟨c, hc⟩ := Option.isSome_iff_exists.1 hb
  exact ⟨fun N0 hN ρ h w args Args v h' e => (by cases e), enters_of hf hn hc⟩

theorem gcons {P : Program} {f : FuncId} {g : Fun} {l : List (Nat × Fun)} (h1 : Snd P f g) (h3 : GSound P (gam l)) : GSound P (gam ((f, g) :: l)) := gam_cons h1.1 h1.2 h3
/-- A function that answers where it is called. -/
theorem gconsE {P : Program} {f : FuncId} {g : Fun} {l : List (Nat × Fun)} (h1 : ESound P f g) (h3 : GSound P (gam l)) : GSound P (gam ((f, g) :: l)) := gam_consO (.inr h1) h3
theorem gnil {P : Program} : GSound P (gam []) := gam_nil
end Go.AM
