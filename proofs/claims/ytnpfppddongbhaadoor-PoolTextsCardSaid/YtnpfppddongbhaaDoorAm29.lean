/-
  The abstract machine, part 29 (between 28 and 24): regions with a drawn order, whole.
-/
import Derived.Test.YtnpfppddongbhaaDoorAm28
namespace Go.AM
open Go
set_option autoImplicit false

section
variable {P : Program} {ops : Array Oper} {Q : Exit → Act → World → Prop} {N0 : Base} {n : Nat} {ρ0 ρ : Rho} {h0 h : Hp} {w0 w : World} {r : Res} {env : Env} {a : Act} {γ : FuncId → Option Fun}

/-- An operation that changes nothing: either it is not wanted, or it yields its value. -/
theorem stepD_still {o : Oper} {k : AV → Env → Hp → Res} (hs : St N0 n ρ0 h0 w0 ρ h w env a) (hk : kindD P o.op = 0 ∨ kindD P o.op = 1) (e : stepD P γ n ops.toList o env h k = r) (hr : r ≠ .fail) :
    ∃ v V env', k v env' h = r ∧ VR ρ v V ∧ St N0 n ρ0 h0 w0 ρ h w env' (a.put o.dst V) ∧
      ((Region.wanted o (yielded ops a.tmps) = true ∧ (execOp a.eval o).run P w = .ok (.value V) w ∧ (kindD P o.op = 0 → ∀ w, (execOp a.eval o).run P w = .ok (.value V) w)) ∨ (Region.wanted o (yielded ops a.tmps) = false ∧ V = undef)) := by
  have one : ∀ {k : AV → Hp → Res} {r : Res}, dOp P γ env h o.op k = r → r ≠ .fail → ∃ v V, k v h = r ∧ VR ρ v V ∧ (execOp a.eval o).run P w = .ok (.value V) w ∧ (kindD P o.op = 0 → ∀ w, (execOp a.eval o).run P w = .ok (.value V) w) := by
    intro k r e hr
    rcases hk with hk | hk
    · obtain ⟨v, V, h1, h2, h3⟩ := dOp_pure o hs.inv hs.er hk e hr
      exact ⟨v, V, h1, h2, h3 w, fun _ => h3⟩
    · obtain ⟨v, V, h1, h2, h3⟩ := dOp_read o hs.inv hs.er hk e hr
      exact ⟨v, V, h1, h2, h3, fun h0 => by rw [hk] at h0; cases h0⟩
  unfold stepD at e
  split at e
  · rename_i hg
    have hw : Region.wanted o (yielded ops a.tmps) = true := by simp [Region.wanted, hg]
    obtain ⟨v, V, h1, h2, h3, h4⟩ := one e hr
    obtain ⟨env', h5, h6⟩ := put_st h1 hr hs h2
    exact ⟨v, V, env', h5, h2, h6, .inl ⟨hw, h3, h4⟩⟩
  · rename_i j want hg
    split at e
    · rename_i t ht
      have hw : Region.wanted o (yielded ops a.tmps) = (yielded ops a.tmps j == some want) := by simp [Region.wanted, hg]
      have mv : ∀ x, ap (gsel (env t) want (ev env x)) (fun v => put n o.dst v env fun env => k v env h) = r → (∀ w, (execOp a.eval o).run P w = .ok (.value (a.eval x)) w) →
          ∃ v V env', k v env' h = r ∧ VR ρ v V ∧ St N0 n ρ0 h0 w0 ρ h w env' (a.put o.dst V) ∧
            ((Region.wanted o (yielded ops a.tmps) = true ∧ (execOp a.eval o).run P w = .ok (.value V) w ∧ (kindD P o.op = 0 → ∀ w, (execOp a.eval o).run P w = .ok (.value V) w)) ∨ (Region.wanted o (yielded ops a.tmps) = false ∧ V = undef)) := by
        intro x e hrun
        have hsel := gsel_rel (ops := ops) (want := want) ht hs.er (ev_rel hs.er x)
        generalize gsel (env t) want (ev env x) = g at e hsel
        have e : put n o.dst g env (fun env => k g env h) = r := e
        obtain ⟨env', h3, h4⟩ := put_st e hr hs hsel
        rw [hw]
        by_cases hy : (yielded ops a.tmps j == some want) = true
        · rw [if_pos hy] at h4 hsel
          exact ⟨_, _, env', h3, hsel, h4, .inl ⟨hy, hrun w, fun _ => hrun⟩⟩
        · rw [if_neg hy] at h4 hsel
          exact ⟨_, _, env', h3, hsel, h4, .inr ⟨by simpa using hy, rfl⟩⟩
      split at e
      · rename_i x hop
        exact mv x e (fun w => by simp [execOp, hop])
      · rename_i x hop
        exact mv x e (fun w => by simp [execOp, hop])
      · obtain ⟨hne, hcase⟩ := jn_inv e hr
        rcases gd_inv (ops := ops) ht hs.er rfl hne with ⟨hy, hx⟩ | ⟨hy, hx⟩
        · obtain ⟨v, V, h1, h2, h3, h4⟩ := one hx hne
          rcases hcase with ⟨vs, hh, e1, e2⟩ | ⟨i', vs, hh, e1, e2⟩ | ⟨v', hh, e1, e2⟩
          · rw [e1] at h1
            obtain ⟨rfl, rfl⟩ : [v] = vs ∧ h = hh := by cases h1; exact ⟨rfl, rfl⟩
            have e2 : put n o.dst v env (fun env => k v env h) = r := e2
            obtain ⟨env', h5, h6⟩ := put_st e2 hr hs h2
            exact ⟨v, V, env', h5, h2, h6, .inl ⟨by rw [hw, hy]; simp, h3, h4⟩⟩
          · rw [e1] at h1; cases h1
          · rw [e1] at h1; cases h1
        · rcases hcase with ⟨vs, hh, e1, e2⟩ | ⟨i', vs, hh, e1, e2⟩ | ⟨v', hh, e1, e2⟩
          · rw [e1] at hx
            obtain ⟨rfl, rfl⟩ : [AV.tup .nil] = vs ∧ h = hh := by cases hx; exact ⟨rfl, rfl⟩
            have hu : VR ρ (.tup .nil) undef := ⟨#[], rfl, rfl⟩
            have e2 : put n o.dst (.tup .nil) env (fun env => k (.tup .nil) env h) = r := e2
            obtain ⟨env', h5, h6⟩ := put_st e2 hr hs hu
            exact ⟨_, _, env', h5, hu, h6, .inr ⟨by rw [hw]; exact hy, rfl⟩⟩
          · rw [e1] at hx; cases hx
          · rw [e1] at hx; cases hx
    · exact absurd e.symm hr

/-- Looked at again, it is the same. -/
def Recheck (N0 : Base) (f : Hp → Res → Res) (R : World → Prop) (ρ : Rho) : Prop := ∀ ρ' h' w' K r, Ext ρ ρ' → Inv N0 ρ' h' w' → f h' K = r → r ≠ .fail → K = r ∧ R w'

theorem Recheck.ext {f : Hp → Res → Res} {R : World → Prop} {ρ' : Rho} (hx : Ext ρ ρ') (h : Recheck N0 f R ρ) : Recheck N0 f R ρ' :=
  fun ρ2 h' w' K r he hi e hr => h ρ2 h' w' K r (hx.trans he) hi e hr

theorem same_inv {x y : AV} {k : Res} (e : same x y k = r) (hr : r ≠ .fail) : eqAV x y = true ∧ k = r := ifF_inv e hr

theorem again_ok {o : Oper} {v : AV} {V : Value} (hk : kindD P o.op = 1) (he : ERel ρ env a) (hv : VR ρ v V) :
    Recheck N0 (again P γ ops.toList o env v) (fun w => Region.wanted o (yielded ops a.tmps) = true → (execOp a.eval o).run P w = .ok (.value V) w) ρ := by
  intro ρ' h' w' K r hx hi e hr
  have he' := he.ext hx
  have one : ∀ {k : Res} {r : Res}, dOp P γ env h' o.op (fun v' _ => same v v' k) = r → r ≠ .fail → k = r ∧ (execOp a.eval o).run P w' = .ok (.value V) w' := by
    intro k r e hr
    obtain ⟨v', V', h1, h2, h3⟩ := dOp_read o hi he' hk e hr
    obtain ⟨h4, h5⟩ := same_inv h1 hr
    have := (eqAV_det (ρ := ρ') v v' h4).1 V V' (hv.ext hx) h2
    subst this
    exact ⟨h5, h3⟩
  unfold again at e
  split at e
  · obtain ⟨h1, h2⟩ := one e hr
    exact ⟨h1, fun _ => h2⟩
  · rename_i j want hg
    split at e
    · rename_i t ht
      have hw : Region.wanted o (yielded ops a.tmps) = (yielded ops a.tmps j == some want) := by simp [Region.wanted, hg]
      obtain ⟨hne, hcase⟩ := jn_inv e hr
      rcases gd_inv (ops := ops) ht he' rfl hne with ⟨hy, hx'⟩ | ⟨hy, hx'⟩
      · obtain ⟨h1, h2⟩ := one hx' hne
        rcases hcase with ⟨vs, hh, e1, e2⟩ | ⟨i', vs, hh, e1, e2⟩ | ⟨v', hh, e1, e2⟩
        · exact ⟨e2, fun _ => h2⟩
        · rw [e1] at h1; cases h1
        · rw [e1] at h1; cases h1
      · rcases hcase with ⟨vs, hh, e1, e2⟩ | ⟨i', vs, hh, e1, e2⟩ | ⟨v', hh, e1, e2⟩
        · exact ⟨e2, fun h => by rw [hw, hy] at h; cases h⟩
        · rw [e1] at hx'; cases hx'
        · rw [e1] at hx'; cases hx'
    · exact absurd e.symm hr

theorem agains_inv : ∀ (l : List (Nat × (Hp → Res → Res))) {ρ' : Rho} {h' : Hp} {w' : World} {K : Res}, (∀ q ∈ l, ∃ R, Recheck N0 q.2 R ρ) → Ext ρ ρ' → Inv N0 ρ' h' w' → agains l h' K = r → r ≠ .fail →
    K = r ∧ ∀ q ∈ l, ∀ R, Recheck N0 q.2 R ρ → R w' := by
  intro l
  induction l with
  | nil => intro ρ' h' w' K _ _ _ e _; exact ⟨e, fun q hq => by cases hq⟩
  | cons p l ih =>
    intro ρ' h' w' K hl hx hi e hr
    have e : p.2 h' (agains l h' K) = r := e
    obtain ⟨R, hR⟩ := hl p (by simp)
    obtain ⟨h1, -⟩ := hR ρ' h' w' _ r hx hi e hr
    obtain ⟨h2, h3⟩ := ih (fun q hq => hl q (by simp [hq])) hx hi h1 hr
    refine ⟨h2, fun q hq R' hR' => ?_⟩
    rcases List.mem_cons.1 hq with rfl | hq
    · exact (hR' ρ' h' w' _ r hx hi e hr).2
    · exact h3 q hq R' hR'

theorem pends_mem {o : Oper} : ∀ (l : List (Nat × (Hp → Res → Res))) (q : Nat × (Hp → Res → Res)), q ∈ pends o l ↔ q ∈ l ∧ ∀ e ∈ o.after, Region.binds .any e = true → e.on ≠ q.1 := by
  intro l
  induction l with
  | nil => intro q; simp [pends]
  | cons p l ih =>
    intro q
    have hb : (o.after.toList.any fun e => Region.binds .any e && Nat.beq e.on p.1) = true ↔ ¬ ∀ e ∈ o.after, Region.binds .any e = true → e.on ≠ p.1 := by
      rw [List.any_eq_true]
      constructor
      · rintro ⟨e, he, hb⟩ hall
        rw [Bool.and_eq_true, beq_iff] at hb
        exact hall e (by simpa using he) hb.1 hb.2
      · intro hn
        refine Classical.byContradiction fun hc => hn fun e he hbd heq => hc ⟨e, by simpa using he, ?_⟩
        rw [Bool.and_eq_true, beq_iff]
        exact ⟨hbd, heq⟩
    unfold pends
    split
    · rename_i ht
      rw [ih q]
      constructor
      · rintro ⟨h1, h2⟩; exact ⟨by simp [h1], h2⟩
      · rintro ⟨h1, h2⟩
        rcases List.mem_cons.1 h1 with rfl | h1
        · exact absurd h2 (hb.1 ht)
        · exact ⟨h1, h2⟩
    · rename_i ht
      have hno : ∀ e ∈ o.after, Region.binds .any e = true → e.on ≠ p.1 := by
        refine Classical.byContradiction fun hc => ?_
        have := hb.2 hc
        rw [this] at ht; cases ht
      rw [List.mem_cons, ih q]
      constructor
      · rintro (rfl | ⟨h1, h2⟩)
        · exact ⟨by simp, hno⟩
        · exact ⟨by simp [h1], h2⟩
      · rintro ⟨h1, h2⟩
        rcases List.mem_cons.1 h1 with rfl | h1
        · exact .inl rfl
        · exact .inr ⟨h1, h2⟩
end
end Go.AM
