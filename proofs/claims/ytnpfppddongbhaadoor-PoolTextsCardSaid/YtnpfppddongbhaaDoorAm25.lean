/-
  The abstract machine, part 25: functions.
-/
import Derived.Test.YtnpfppddongbhaaDoorAm24
namespace Go.AM
open Go
set_option autoImplicit false

section
variable {P : Program} {N0 : Base} {n : Nat} {ρ0 ρ : Rho} {h0 h : Hp} {w0 w : World} {r : Res} {env : Env} {a : Act}

theorem F2_lst {vs : List AV} {Vs : List Value} (h : F2 (VR ρ) vs Vs) : LR ρ (lst vs) Vs := by
  induction h with
  | nil => rfl
  | cons h1 _ ih => exact ⟨_, _, rfl, h1, ih⟩

/-- A result slot's value. -/
def resOf (tmps : Array Value) : ResultVar → Sem Value
  | .tmp t => pure (tmps.getD t undef)
  | .cell a t => do loadVar t (← asAddr (tmps.getD a undef))

theorem sure_as {t : TypeId} {V X : Value} (h : (Instr.loadAt t X).run P w = .ok V w) : (do loadVar t (← asAddr X) : Sem Value).run P w = .ok V w := by
  unfold Instr.loadAt at h
  cases X with
  | pointer a =>
    cases a with
    | none => simp [Instr.sureAddr, stuck] at h
    | some a => simpa [Instr.sureAddr, asAddr] using h
  | _ => simp [Instr.sureAddr, stuck] at h

theorem rtV_inv (hi : Inv N0 ρ h w) (he : ERel ρ env a) : ∀ (l : List ResultVar) {k : List AV → Res}, rtV env h P l k = r → r ≠ .fail →
    ∃ vs Vs, k vs = r ∧ F2 (VR ρ) vs Vs ∧ (l.mapM (resOf a.tmps)).run P w = .ok Vs w := by
  intro l
  induction l with
  | nil => intro k e hr; exact ⟨[], [], e, .nil, rfl⟩
  | cons x l ih =>
    intro k e hr
    have go : ∀ {v V}, rtV env h P l (fun vs => k (v :: vs)) = r → VR ρ v V → (resOf a.tmps x).run P w = .ok V w → ∃ vs Vs, k vs = r ∧ F2 (VR ρ) vs Vs ∧ ((x :: l).mapM (resOf a.tmps)).run P w = .ok Vs w := by
      intro v V e hv hrun
      obtain ⟨vs, Vs, h1, h2, h3⟩ := ih e hr
      refine ⟨_, V :: Vs, h1, .cons hv h2, ?_⟩
      rw [List.mapM_cons, Sem.run_bind, hrun]
      simp only [Result.andThen_ok]
      rw [Sem.run_bind, h3]
      rfl
    cases x with
    | tmp t =>
      obtain ⟨h1, h2⟩ := cK_inv e hr
      exact go h2 (he t) rfl
    | cell c t =>
      simp only [rtV] at e
      obtain ⟨h1, h2⟩ := sif_inv e hr
      split at h2
      · rename_i ht
        obtain ⟨v, V, h3, h4, h5⟩ := ldN_ok hi ht h1 h2 hr (he c)
        exact go h3 h4 (sure_as h5)
      · rename_i ht
        obtain ⟨v, V, h3, h4, h5⟩ := ld1_ok hi ht h1 h2 hr (he c)
        exact go h3 h4 (sure_as h5)

theorem rt_ok {fn : Func} {v : AV} {h' : Hp} (hi : Inv N0 ρ h w) (he : ERel ρ env a) (e : rt P fn env h = .ret v h') : h' = h ∧ ∃ V, (results fn a.tmps).run P w = .ok V w ∧ VR ρ v V := by
  obtain ⟨vs, Vs, h1, h2, h3⟩ := rtV_inv hi he fn.results.toList e (by simp)
  have hm : (fn.results.mapM (resOf a.tmps)).run P w = .ok Vs.toArray w := by
    rw [Array.mapM_eq_mapM_toList, map_eq_pure_bind, Sem.run_bind, h3]
    rfl
  have hres : (results fn a.tmps).run P w = .ok (if h : Vs.toArray.size = 1 then Vs.toArray[0] else .tuple Vs.toArray) w := by
    have hd : results fn a.tmps = (do let vs ← fn.results.mapM (resOf a.tmps); pure (if h : vs.size = 1 then vs[0] else .tuple vs)) := rfl
    rw [hd, Sem.run_bind, hm]
    rfl
  cases h2 with
  | nil =>
    have h1 : Res.ret (.tup (lst [])) h = .ret v h' := h1
    cases h1
    exact ⟨rfl, _, hres, ⟨_, rfl, rfl⟩⟩
  | @cons v1 V1 vs Vs hv hrest =>
    cases hrest with
    | nil =>
      have h1 : Res.ret v1 h = .ret v h' := h1
      cases h1
      exact ⟨rfl, _, hres, hv⟩
    | @cons v2 V2 vs Vs hv2 hrest =>
      have h1 : Res.ret (.tup (lst (v1 :: v2 :: vs))) h = .ret v h' := h1
      cases h1
      refine ⟨rfl, _, hres, ?_⟩
      rw [dif_neg (by simp)]
      exact ⟨_, rfl, F2_lst (.cons hv (.cons hv2 hrest))⟩

theorem unX_inv : ∀ (l : List Nat) (args : List AV) {k : Env → Res}, unX l args k = r → r ≠ .fail → ∃ env', k env' = r ∧ ∀ t, env' t = .unk ∨ ∃ i : Nat, l[i]? = some t ∧ args[i]? = some (env' t) := by
  intro l
  induction l with
  | nil => intro args k e hr; obtain ⟨-, h2⟩ := uz_inv e hr; exact ⟨env0, h2, fun t => .inl rfl⟩
  | cons d l ih =>
    intro args k e hr
    have e : uc args (fun v vs => unX l vs fun env => k (upd env d v)) = r := e
    obtain ⟨v, vs, rfl, h1⟩ := uc_inv e hr
    obtain ⟨env', h2, h3⟩ := ih vs h1 hr
    refine ⟨_, h2, fun t => ?_⟩
    rw [upd_eq]
    by_cases ht : t = d
    · rw [if_pos ht]; exact .inr ⟨0, by simp [ht], rfl⟩
    · rw [if_neg ht]
      rcases h3 t with h | ⟨i, h4, h5⟩
      · exact .inl h
      · exact .inr ⟨i + 1, by simpa using h4, by simpa using h5⟩

theorem F2.get' {α β : Type} {Q : α → β → Prop} {l : List α} {m : List β} (h : F2 Q l m) : ∀ (i : Nat) (a : α), l[i]? = some a → ∃ b, m[i]? = some b ∧ Q a b := by
  induction h with
  | nil => intro i a h; simp at h
  | cons hq _ ih =>
    intro i a h1
    cases i with
    | zero => simp at h1; subst h1; exact ⟨_, rfl, hq⟩
    | succ i => exact ih i a (by simpa using h1)

theorem denF_sound (hm : P.follows .mixedOrders = true) {γ : FuncId → Option Fun} (hγ : GSound P γ) {f : FuncId} {fn : Func} {c : Code} (x : Hint) (hf : P.funcs[f]? = some fn) (hb : fn.body = some c) : FSound P f (denF P γ fn x) := by
  intro N0 hN ρ h w args Args v h' e hi ha
  unfold denF at e
  rw [hb] at e
  obtain ⟨env, h1, h2⟩ := unX_inv _ _ e (by simp)
  refine calls_of_wp hf hb ?_
  have hs : St N0 fn.ntmps ρ h w ρ h w env { tmps := Args ++ Array.replicate (fn.ntmps - Args.size) undef, defers := [] } := by
    refine ⟨hi, Tr.refl ρ h w, fun t => ?_, by simp; omega, rfl⟩
    rcases h2 t with h3 | ⟨i, h3, h4⟩
    · rw [h3]; exact trivial
    · have hit : i = t := by
        have := (List.getElem?_eq_some_iff.1 h3)
        obtain ⟨h5, h6⟩ := this
        simpa using h6
      subst hit
      obtain ⟨V, h7, h8⟩ := ha.get' i _ h4
      rw [Array.getElem?_toList] at h7
      have hlt := (Array.getElem?_eq_some_iff.1 h7).1
      have : (Args ++ Array.replicate (fn.ntmps - Args.size) undef).getD i undef = V := by
        rw [Array.getD_eq_getD_getElem?, Array.getElem?_append_left hlt, h7]; rfl
      rw [this]; exact h8
  refine wp_mono (den_sound hm ⟨hγ, hN⟩ fn c x [] ρ h w env _ _ _ (by simp) hs h1) fun ex a' w' hp => ?_
  have fin : ∀ ρ1 h1 env1, St N0 fn.ntmps ρ h w ρ1 h1 w' env1 a' → rt P fn env1 h1 = .ret v h' → a'.defers = [] ∧ ∃ V, (results fn a'.tmps).run P w' = .ok V w' ∧ ∃ V' ρ', Ending.returned V = .returned V' ∧ Out N0 ρ h w v h' V' w' ρ' := by
    intro ρ1 h1 env1 hs1 e1
    obtain ⟨rfl, V, h3, h4⟩ := rt_ok hs1.inv hs1.er e1
    exact ⟨hs1.df, V, h3, V, ρ1, rfl, h4, hs1.inv, hs1.tr⟩
  cases ex with
  | normal => obtain ⟨ρ1, h1, env1, hs1, e1⟩ := hp; exact fin _ _ _ hs1 e1
  | ret => obtain ⟨ρ1, h1, env1, hs1, e1⟩ := hp; exact fin _ _ _ hs1 e1
  | exit id => obtain ⟨ρ1, h1, env1, l, hs1, hx, e1⟩ := hp; simp at hx
  | _ => exact hp.elim

theorem enters_of {f : FuncId} {fn : Func} {c : Code} (hf : P.funcs[f]? = some fn) (hname : (fn.name == "runtime.NumGoroutine") = false) (hb : fn.body = some c) : Enters P f :=
  fun args w => by
    have h1 : fn.name ≠ "runtime.NumGoroutine" := by simpa using hname
    simp [callFunc, hf, h1, hb]

theorem gam_nil : GSound P (gam []) := fun f g h => by cases h
theorem gam_consO {f : FuncId} {g : Fun} {l : List (Nat × Fun)} (h1 : (FSound P f g ∧ Enters P f) ∨ ESound P f g) (h3 : GSound P (gam l)) : GSound P (gam ((f, g) :: l)) := by
  intro f' g' h
  have h : Bool.rec (motive := fun _ => Option Fun) (gam l f') (some g) (Nat.beq f f') = some g' := h
  rw [recB] at h
  simp only [beq_iff] at h
  by_cases he : f = f'
  · rw [if_pos he] at h
    cases h; subst he; exact h1
  · rw [if_neg he] at h
    exact h3 f' g' h
theorem gam_cons {f : FuncId} {g : Fun} {l : List (Nat × Fun)} (h1 : FSound P f g) (h2 : Enters P f) (h3 : GSound P (gam l)) : GSound P (gam ((f, g) :: l)) := gam_consO (.inl ⟨h1, h2⟩) h3
end
end Go.AM
