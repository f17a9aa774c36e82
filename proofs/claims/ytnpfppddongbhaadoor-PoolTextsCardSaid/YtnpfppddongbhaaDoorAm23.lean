/-
  The abstract machine, part 23: regions in the order of their text.
-/
import Derived.Test.YtnpfppddongbhaaDoorAm22
namespace Go.AM
open Go
set_option autoImplicit false

/-- From a first state to one that the machine and the model share. -/
structure St (N0 : Base) (n : Nat) (ρ0 : Rho) (h0 : Hp) (w0 : World) (ρ : Rho) (h : Hp) (w : World) (env : Env) (a : Act) : Prop where
  inv : Inv N0 ρ h w
  tr : Tr ρ0 h0 w0 ρ h w
  er : ERel ρ env a
  sz : n ≤ a.tmps.size
  df : a.defers = []

section
variable {P : Program} {N0 : Base} {n : Nat} {ρ0 ρ : Rho} {h0 h : Hp} {w0 w : World} {r : Res} {env : Env} {a : Act}

theorem ERel.ext {ρ' : Rho} (he : ERel ρ env a) (hx : Ext ρ ρ') : ERel ρ' env a := fun t => (he t).ext hx

theorem put_tmps (d : Nat) (V : Value) (hd : d < a.tmps.size) (t : Nat) : (a.put (some d) V).tmps.getD t undef = if t = d then V else a.tmps.getD t undef := by
  simp only [Act.put, Array.getD_eq_getD_getElem?, Array.getElem?_setIfInBounds]
  by_cases h : t = d
  · subst h; simp [hd]
  · rw [if_neg (fun e => h e.symm), if_neg h]

theorem put_st {d : Option Nat} {v : AV} {V : Value} {k : Env → Res} (e : put n d v env k = r) (hr : r ≠ .fail) (hs : St N0 n ρ0 h0 w0 ρ h w env a) (hv : VR ρ v V) :
    ∃ env', k env' = r ∧ St N0 n ρ0 h0 w0 ρ h w env' (a.put d V) := by
  cases d with
  | none => exact ⟨env, e, hs⟩
  | some d =>
    obtain ⟨h1, h2⟩ := sif_inv e hr
    rw [blt_iff] at h1
    refine ⟨_, h2, hs.inv, hs.tr, fun t => ?_, by simpa [Act.put] using hs.sz, hs.df⟩
    have hd : d < a.tmps.size := Nat.lt_of_lt_of_le h1 hs.sz
    rw [put_tmps d V hd]
    have hu : upd env d v t = Bool.rec (motive := fun _ => AV) (env t) v (Nat.beq t d) := rfl
    rw [hu, recB]
    simp only [beq_iff]
    by_cases ht : t = d
    · rw [if_pos ht, if_pos ht]; exact hv
    · rw [if_neg ht, if_neg ht]; exact hs.er t

theorem St.next {ρ' : Rho} {h' : Hp} {w' : World} {v : AV} {V : Value} (hs : St N0 n ρ0 h0 w0 ρ h w env a) (ho : Out N0 ρ h w v h' V w' ρ') : St N0 n ρ0 h0 w0 ρ' h' w' env a :=
  ⟨ho.inv, hs.tr.trans ho.tr, hs.er.ext ho.tr.ext, hs.sz, hs.df⟩

theorem jn_inv {r1 : Res} {k : List AV → Hp → Res} (e : jn r1 k = r) (hr : r ≠ .fail) : r1 ≠ .fail ∧ ((∃ vs h, r1 = .norm vs h ∧ k vs h = r) ∨ (∃ i vs h, r1 = .exit i vs h ∧ r = .exit i vs h) ∨ (∃ v h, r1 = .ret v h ∧ r = .ret v h)) := by
  cases r1 with
  | fail => exact absurd e.symm hr
  | norm vs h => exact ⟨by simp, .inl ⟨vs, h, rfl, e⟩⟩
  | exit i vs h => exact ⟨by simp, .inr (.inl ⟨i, vs, h, rfl, e.symm⟩)⟩
  | ret v h => exact ⟨by simp, .inr (.inr ⟨v, h, rfl, e.symm⟩)⟩

/-- What a guard's operation yielded, as the machine sees it. -/
theorem yield_of {ops : Array Oper} {j t : Nat} (ht : (ops.toList[j]?).bind (·.dst) = some t) : yielded ops a.tmps j = match a.tmps[t]? with | some (.bool b) => some b | _ => none := by
  unfold yielded
  rw [← Array.getElem?_toList, ht]
  rfl

theorem yield_bool {ops : Array Oper} {j t : Nat} {b : Bool} (ht : (ops.toList[j]?).bind (·.dst) = some t) (he : ERel ρ env a) (hb : env t = .bool b) : yielded ops a.tmps j = some b := by
  have h1 := he t
  rw [hb] at h1
  have h1 : a.tmps.getD t undef = .bool b := h1
  rw [yield_of ht]
  rw [Array.getD_eq_getD_getElem?] at h1
  cases hq : a.tmps[t]? with
  | none => rw [hq] at h1; cases h1
  | some v => rw [hq] at h1; have h1 : v = .bool b := h1; subst h1; rfl

theorem yield_tup {ops : Array Oper} {j t : Nat} {v : AV} (ht : (ops.toList[j]?).bind (·.dst) = some t) (he : ERel ρ env a) (hb : env t = .tup v) : yielded ops a.tmps j = none := by
  have h1 := he t
  rw [hb] at h1
  obtain ⟨l, h1, -⟩ := h1
  rw [yield_of ht]
  rw [Array.getD_eq_getD_getElem?] at h1
  cases hq : a.tmps[t]? with
  | none => rfl
  | some v => rw [hq] at h1; have h1 : v = .tuple l := h1; subst h1; rfl

theorem gsel_rel {ops : Array Oper} {j t : Nat} {want : Bool} {x : AV} {X : Value} (ht : (ops.toList[j]?).bind (·.dst) = some t) (he : ERel ρ env a) (hx : VR ρ x X) :
    VR ρ (gsel (env t) want x) (if yielded ops a.tmps j == some want then X else undef) := by
  cases hg : env t with
  | bool b =>
    rw [yield_bool ht he hg]
    have e : gsel (.bool b) want x = sel (beqB b want) x (.tup .nil) := rfl
    rw [e]
    cases b <;> cases want <;> first
      | exact hx
      | exact ⟨#[], rfl, rfl⟩
  | tup v =>
    rw [yield_tup ht he hg]
    exact ⟨#[], rfl, rfl⟩
  | _ => exact trivial

theorem gd_inv {ops : Array Oper} {j t : Nat} {want : Bool} {x y : Res} (ht : (ops.toList[j]?).bind (·.dst) = some t) (he : ERel ρ env a) (e : gd (env t) want x y = r) (hr : r ≠ .fail) :
    (yielded ops a.tmps j = some want ∧ x = r) ∨ ((yielded ops a.tmps j == some want) = false ∧ y = r) := by
  cases hg : env t with
  | bool b =>
    rw [hg] at e
    rw [yield_bool ht he hg]
    have e : ifB (beqB b want) x y = r := e
    cases b <;> cases want <;> first
      | exact .inl ⟨rfl, e⟩
      | exact .inr ⟨rfl, e⟩
  | tup v =>
    rw [hg] at e
    rw [yield_tup ht he hg]
    exact .inr ⟨rfl, e⟩
  | _ => rw [hg] at e; exact absurd e.symm hr

theorem dOps_sound {γ : FuncId → Option Fun} (hγ : GSound P γ ∧ N0.fits P) {ops : Array Oper} {Q : Exit → Act → World → Prop} {k : Env → Hp → Res} (hr : r ≠ .fail)
    (hQ : ∀ ρ h w env a, St N0 n ρ0 h0 w0 ρ h w env a → k env h = r → Q .normal a w) :
    ∀ (rest : List Oper) (i : Nat) (ρ : Rho) (h : Hp) (w : World) (env : Env) (a : Act), ops.toList.drop i = rest → St N0 n ρ0 h0 w0 ρ h w env a → dOps P γ n ops.toList rest env h k = r → wpOps P ops Q (List.range' i rest.length) a w := by
  intro rest
  induction rest with
  | nil =>
    intro i ρ h w env a _ hs e
    exact hQ ρ h w env a hs e
  | cons o rest ih =>
    intro i ρ h w env a hd hs e
    have hoi : ops[i]? = some o := by
      rw [← Array.getElem?_toList]
      have := congrArg (·[0]?) hd
      simpa using this
    have hd' : ops.toList.drop (i + 1) = rest := by
      rw [← List.drop_drop, hd]; rfl
    rw [List.length_cons, List.range'_succ]
    unfold wpOps
    rw [hoi]
    simp only
    simp only [dOps] at e
    split at e
    · rename_i hg
      have hw : Region.wanted o (yielded ops a.tmps) = true := by simp [Region.wanted, hg]
      rw [if_pos hw]
      obtain ⟨v, h', h1, h2⟩ := dOp_sound hγ o hs.inv hs.er e hr
      refine .inl (h2 _ _ fun V w' ρ' hout => ?_)
      obtain ⟨env', h3, h4⟩ := put_st h1 hr (hs.next hout) hout.val
      exact ih (i + 1) ρ' h' w' env' _ hd' h4 h3
    · rename_i j want hg
      split at e
      · rename_i t ht
        have hw : Region.wanted o (yielded ops a.tmps) = (yielded ops a.tmps j == some want) := by simp [Region.wanted, hg]
        have mv : ∀ x, ap (gsel (env t) want (ev env x)) (fun v => put n o.dst v env fun env => dOps P γ n ops.toList rest env h k) = r → (execOp a.eval o).run P w = .ok (.value (a.eval x)) w →
            (if Region.wanted o (yielded ops a.tmps) = true then o.wp P a w (wpOps P ops Q (List.range' (i + 1) rest.length)) Q ∨ (o.asks P a w ∧ LetsOut Q) else wpOps P ops Q (List.range' (i + 1) rest.length) (a.put o.dst undef) w) := by
          intro x e hrun
          have hsel := gsel_rel (ops := ops) (want := want) ht hs.er (ev_rel hs.er x)
          have e : put n o.dst (gsel (env t) want (ev env x)) env (fun env => dOps P γ n ops.toList rest env h k) = r := e
          obtain ⟨env', h3, h4⟩ := put_st e hr hs hsel
          rw [hw]
          split
          · rename_i hy
            rw [if_pos hy] at h4
            refine .inl ?_
            unfold Oper.wp
            rw [hrun]
            exact ih (i + 1) ρ h w env' _ hd' h4 h3
          · rename_i hy
            rw [if_neg hy] at h4
            exact ih (i + 1) ρ h w env' _ hd' h4 h3
        split at e
        · rename_i x hop
          exact mv x e (by simp [execOp, hop])
        · rename_i x hop
          exact mv x e (by simp [execOp, hop])
        · obtain ⟨hne, hcase⟩ := jn_inv e hr
          rcases gd_inv (ops := ops) ht hs.er rfl hne with ⟨hy, hx⟩ | ⟨hy, hx⟩
          · rw [hw, hy]
            simp only [beq_self_eq_true, if_true]
            obtain ⟨v, h', h1, h2⟩ := dOp_sound hγ o hs.inv hs.er hx hne
            refine .inl (h2 _ _ fun V w' ρ' hout => ?_)
            rcases hcase with ⟨vs, hh, e1, e2⟩ | ⟨i', vs, hh, e1, e2⟩ | ⟨v', hh, e1, e2⟩
            · rw [e1] at h1
              obtain ⟨rfl, rfl⟩ : [v] = vs ∧ h' = hh := by cases h1; exact ⟨rfl, rfl⟩
              have e2 : put n o.dst v env (fun env => dOps P γ n ops.toList rest env h' k) = r := e2
              obtain ⟨env', h3, h4⟩ := put_st e2 hr (hs.next hout) hout.val
              exact ih (i + 1) ρ' h' w' env' _ hd' h4 h3
            · rw [e1] at h1; cases h1
            · rw [e1] at h1; cases h1
          · rw [hw, hy]
            simp only [Bool.false_eq_true, if_false]
            rcases hcase with ⟨vs, hh, e1, e2⟩ | ⟨i', vs, hh, e1, e2⟩ | ⟨v', hh, e1, e2⟩
            · rw [e1] at hx
              obtain ⟨rfl, rfl⟩ : [AV.tup .nil] = vs ∧ h = hh := by cases hx; exact ⟨rfl, rfl⟩
              have e2 : put n o.dst (.tup .nil) env (fun env => dOps P γ n ops.toList rest env h k) = r := e2
              have hu : VR ρ (.tup .nil) undef := ⟨#[], rfl, rfl⟩
              obtain ⟨env', h3, h4⟩ := put_st e2 hr hs hu
              exact ih (i + 1) ρ h w env' _ hd' h4 h3
            · rw [e1] at hx; cases hx
            · rw [e1] at hx; cases hx
      · exact absurd e.symm hr
end
end Go.AM
