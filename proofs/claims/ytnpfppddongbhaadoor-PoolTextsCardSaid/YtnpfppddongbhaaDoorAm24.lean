/-
  The abstract machine, part 24: code and functions.
-/
import Derived.Scope
import Derived.Test.YtnpfppddongbhaaDoorAm30
import Derived.LoopN
namespace Go.AM
open Go
set_option autoImplicit false

section
variable {P : Program} {N0 : Base} {n : Nat} {ρ0 ρ : Rho} {h0 h : Hp} {w0 w : World} {r : Res} {env : Env} {a : Act}

theorem upd_eq (env : Env) (d t : Nat) (v : AV) : upd env d v t = if t = d then v else env t := by
  have hu : upd env d v t = Bool.rec (motive := fun _ => AV) (env t) v (Nat.beq t d) := rfl
  rw [hu, recB]; simp only [beq_iff]

theorem un_map (f : Env) : ∀ (l : List Nat) {k : Env → Res}, un l (l.map f) k = r → ∃ env', k env' = r ∧ ∀ t, env' t = f t ∨ env' t = .unk := by
  intro l
  induction l with
  | nil => intro k e; exact ⟨env0, e, fun t => .inr rfl⟩
  | cons d l ih =>
    intro k e
    have e : un l (l.map f) (fun env => k (upd env d (f d))) = r := e
    obtain ⟨env', h1, h2⟩ := ih e
    refine ⟨_, h1, fun t => ?_⟩
    rw [upd_eq]
    by_cases ht : t = d
    · rw [if_pos ht, ht]; exact .inl rfl
    · rw [if_neg ht]; exact h2 t

theorem ERel.less {env' : Env} (he : ERel ρ env a) (h : ∀ t, env' t = env t ∨ env' t = .unk) : ERel ρ env' a := by
  intro t
  rcases h t with e | e
  · rw [e]; exact he t
  · rw [e]; exact trivial

theorem St.less {env' : Env} (hs : St N0 n ρ0 h0 w0 ρ h w env a) (hl : ∀ t, env' t = env t ∨ env' t = .unk) : St N0 n ρ0 h0 w0 ρ h w env' a :=
  ⟨hs.inv, hs.tr, hs.er.less hl, hs.sz, hs.df⟩

/-- What code may come to, where the machine comes to r. -/
def Post (P : Program) (fn : Func) (N0 : Base) (n : Nat) (ρ0 : Rho) (h0 : Hp) (w0 : World) (xs : List (Nat × List Nat)) (k : Env → Hp → Res) (r : Res) : Exit → Act → World → Prop
  | .normal, a, w => ∃ ρ h env, St N0 n ρ0 h0 w0 ρ h w env a ∧ k env h = r
  | .exit id, a, w => ∃ ρ h env l, St N0 n ρ0 h0 w0 ρ h w env a ∧ xs.find? (fun p => Nat.beq p.1 id) = some (id, l) ∧ r = .exit id (l.map env) h
  | .ret, a, w => ∃ ρ h env, St N0 n ρ0 h0 w0 ρ h w env a ∧ rt P fn env h = r
  | _, _, _ => False

theorem exitL_inv : ∀ (xs : List (Nat × List Nat)) {id : Nat} {k : List Nat → Res}, exitL xs id k = r → r ≠ .fail → ∃ l, xs.find? (fun p => Nat.beq p.1 id) = some (id, l) ∧ k l = r := by
  intro xs
  induction xs with
  | nil => intro id k e hr; exact absurd e.symm hr
  | cons p xs ih =>
    intro id k e hr
    have e : ifB (Nat.beq p.1 id) (k p.2) (exitL xs id k) = r := e
    rcases ifB_inv e with ⟨h1, h2⟩ | ⟨h1, h2⟩
    · rw [List.find?_cons, h1]
      rw [beq_iff] at h1
      exact ⟨p.2, by rw [← h1], h2⟩
    · rw [List.find?_cons, h1]
      exact ih h2 hr

theorem blk_inv {id : Nat} {r1 : Res} {k : List AV → Hp → Res} (e : blk id r1 k = r) (hr : r ≠ .fail) :
    r1 ≠ .fail ∧ ((∃ vs h, r1 = .norm vs h ∧ k vs h = r) ∨ (∃ vs h, r1 = .exit id vs h ∧ k vs h = r) ∨ (∃ i vs h, i ≠ id ∧ r1 = .exit i vs h ∧ r = .exit i vs h) ∨ (∃ v h, r1 = .ret v h ∧ r = .ret v h)) := by
  cases r1 with
  | fail => exact absurd e.symm hr
  | norm vs h => exact ⟨by simp, .inl ⟨vs, h, rfl, e⟩⟩
  | exit i vs h =>
    refine ⟨by simp, .inr ?_⟩
    have e : ifB (Nat.beq i id) (k vs h) (.exit i vs h) = r := e
    rcases ifB_inv e with ⟨h1, h2⟩ | ⟨h1, h2⟩
    · rw [beq_iff] at h1; subst h1; exact .inl ⟨vs, h, rfl, h2⟩
    · exact .inr (.inl ⟨i, vs, h, (fun he => by rw [← beq_iff, h1] at he; cases he), rfl, h2.symm⟩)
  | ret v h => exact ⟨by simp, .inr (.inr (.inr ⟨v, h, rfl, e.symm⟩))⟩

/-- What a function returns. -/
theorem rt_not {fn : Func} (hr : rt P fn env h ≠ .fail) : (∃ v h', rt P fn env h = .ret v h') := by
  have key : ∀ (l : List ResultVar) (k : List AV → Res), (∀ vs, k vs = .fail ∨ ∃ v h', k vs = .ret v h') → rtV env h P l k = .fail ∨ ∃ v h', rtV env h P l k = .ret v h' := by
    intro l
    induction l with
    | nil => intro k hk; exact hk []
    | cons x l ih =>
      intro k hk
      cases x with
      | tmp t =>
        simp only [rtV]
        by_cases hf : cK (env t) (fun v => rtV env h P l fun vs => k (v :: vs)) = .fail
        · exact .inl hf
        · obtain ⟨h1, h2⟩ := cK_inv rfl hf
          rw [← h2]
          exact ih _ fun vs => hk _
      | cell c t =>
        simp only [rtV]
        generalize hq : sif (okT P t) _ .fail = q
        by_cases hf : q = .fail
        · exact .inl hf
        · obtain ⟨h1, h2⟩ := sif_inv hq hf
          split at h2
          · obtain ⟨b, o, -, h3⟩ := cP_inv h2 hf
            obtain ⟨B, -, -, h4⟩ := gb_inv h3 hf
            have rdl : ∀ (m o : Nat) (kk : AV → Res), (∀ l, kk l = .fail ∨ ∃ v h', kk l = .ret v h') → rds B m o kk = .fail ∨ ∃ v h', rds B m o kk = .ret v h' := by
              intro m
              induction m with
              | zero => intro o kk hkk; exact hkk _
              | succ m ihm =>
                intro o kk hkk
                by_cases hf2 : rds B (m + 1) o kk = .fail
                · exact .inl hf2
                · obtain ⟨-, h5⟩ := cK_inv (x := B.at o) (k := fun v => rds B m (o + 1) fun t => kk (.cons v t)) rfl hf2
                  have : rds B (m + 1) o kk = cK (B.at o) (fun v => rds B m (o + 1) fun t => kk (.cons v t)) := rfl
                  rw [this, ← h5]
                  exact ihm _ _ fun l => hkk _
            rw [← h4]
            exact rdl _ _ _ fun l => ih _ fun vs => hk _
          · obtain ⟨b, o, -, h3⟩ := cP_inv h2 hf
            obtain ⟨B, -, -, h4⟩ := gb_inv h3 hf
            obtain ⟨-, h5⟩ := cK_inv h4 hf
            rw [← h5]
            exact ih _ fun vs => hk _
  rcases key fn.results.toList (fun vs => match vs with | [v] => .ret v h | vs => .ret (.tup (lst vs)) h) (fun vs => by cases vs with
    | nil => exact .inr ⟨_, _, rfl⟩
    | cons v l => cases l <;> exact .inr ⟨_, _, rfl⟩) with h1 | h1
  · exact absurd h1 hr
  · exact h1

theorem Inv.drew {w' : World} (hi : Inv N0 ρ h w) (hw : w'.heap = w.heap) : Inv N0 ρ h w' := by
  refine ⟨fun b B hb => ?_, hi.nb, hi.gnb, hi.gs, hi.als, hi.lim, hi.free, by rw [hw]; exact hi.wsz, hi.mp.later (Ext.refl ρ) (Nat.le_refl _) fun r o _ _ => by rw [hw], Base.st hi.jj fun r _ => by rw [hw]⟩
  obtain ⟨p, h1, h2⟩ := hi.blk b B hb
  obtain ⟨cs, e, fz, g1, g2, g3, g4⟩ := h2.obj
  exact ⟨p, h1, ⟨cs, e, fz, by rw [hw]; exact g1, g2, g3, g4⟩, h2.fit, h2.side⟩

theorem St.drew {w' : World} (hs : St N0 n ρ0 h0 w0 ρ h w env a) (hw : w'.heap = w.heap) (h1 : w'.tape = w.tape) (h2 : w'.os = w.os) (h3 : w'.output = w.output) : St N0 n ρ0 h0 w0 ρ h w' env a :=
  ⟨hs.inv.drew hw, hs.tr.trans ⟨Ext.refl ρ, Nat.le_refl _, fun _ _ e => .inl e, fun r _ _ _ => by rw [hw], fun b B p h1 h2 h3 => .inr ⟨b, B, p, h1, h2, h3, rfl⟩, fun b m p h1 h3 => .inr ⟨b, m, p, h1, h3, rfl⟩, by rw [hw]; exact Nat.le_refl _, h1, h2, h3⟩, hs.er, hs.sz, hs.df⟩

theorem den_sound (hm : P.follows .mixedOrders = true) {γ : FuncId → Option Fun} (hγ : GSound P γ ∧ N0.fits P) (fn : Func) : ∀ (c : Code) (x : Hint) (xs : List (Nat × List Nat)) (ρ : Rho) (h : Hp) (w : World) (env : Env) (a : Act) (k : Env → Hp → Res) (r : Res), r ≠ .fail →
    St N0 fn.ntmps ρ0 h0 w0 ρ h w env a → den P γ fn c x xs env h k = r → c.wp P (Post P fn N0 fn.ntmps ρ0 h0 w0 xs k r) a w := by
  intro c
  induction c with
  | skip =>
    intro x xs ρ h w env a k r hr hs e
    have e : k env h = r := by cases x <;> exact e
    exact wp_skip ⟨ρ, h, env, hs, e⟩
  | region id ops d =>
    intro x xs ρ h w env a k r hr hs e
    cases d with
    | true =>
      cases x with
      | r o =>
        obtain ⟨h1, h2⟩ := sif_inv (b := Region.noSelect ops && (Nat.beq o.length ops.size && orderOk P ops o (Array.replicate ops.size false))) e hr
        rw [Bool.and_eq_true, Bool.and_eq_true, beq_iff] at h1
        obtain ⟨h3, h4, h5⟩ := h1
        refine wp_region_any hm ?_
        have := dDraw_sound (Q := Post P fn N0 fn.ntmps ρ0 h0 w0 xs k r) (n := fn.ntmps) hγ hr h3 (fun c a w h => h) (fun ρ h w env a hs e => ⟨ρ, h, env, hs, e⟩) o (Array.replicate ops.size false) [] [] ρ h { w with drawn := w.drawn + 1 } env a h5
          (fun j oj hj hl => by rw [Array.getD_eq_getD_getElem?, Array.getElem?_replicate] at hl; split at hl <;> cases hl) (hs.drew rfl rfl rfl rfl) (fun p hp => absurd hp (by simp)) ⟨fun q hq => absurd hq (by simp), fun p hp => absurd hp (by simp)⟩ h2
        rw [h4] at this
        exact wpAny_of_I _ _ _ _ this
      | _ => exact absurd e.symm hr
    | false =>
      have e : dOps P γ fn.ntmps ops.toList ops.toList env h k = r := by cases x <;> exact e
      refine wp_region ?_
      have := dOps_sound (ops := ops) (Q := Post P fn N0 fn.ntmps ρ0 h0 w0 xs k r) hγ hr (fun ρ h w env a hs e => ⟨ρ, h, env, hs, e⟩) ops.toList 0 ρ h w env a rfl hs e
      rwa [Array.length_toList, ← List.range_eq_range'] at this
  | seq p q ihp ihq =>
    intro x xs ρ h w env a k r hr hs e
    cases x with
    | s x y =>
      have e : den P γ fn p x xs env h (fun env h => den P γ fn q y xs env h k) = r := e
      refine wp_seq (wp_mono (ihp x xs ρ h w env a _ r hr hs e) fun ex a' w' hp => ?_)
      cases ex with
      | normal =>
        obtain ⟨ρ', h', env', hs', e'⟩ := hp
        exact ihq y xs ρ' h' w' env' a' k r hr hs' e'
      | _ => exact hp
    | j l x y =>
      have e : jn (den P γ fn p x xs env h fun env h => .norm (l.map env) h) (fun vs h => un l vs fun env => den P γ fn q y xs env h k) = r := e
      obtain ⟨hne, hcase⟩ := jn_inv e hr
      refine wp_seq (wp_mono (ihp x xs ρ h w env a _ _ hne hs rfl) fun ex a' w' hp => ?_)
      cases ex with
      | normal =>
        obtain ⟨ρ', h', env', hs', e'⟩ := hp
        rcases hcase with ⟨vs, hh, e1, e2⟩ | ⟨i, vs, hh, e1, e2⟩ | ⟨v, hh, e1, e2⟩
        · rw [e1] at e'
          obtain ⟨rfl, rfl⟩ : l.map env' = vs ∧ h' = hh := by cases e'; exact ⟨rfl, rfl⟩
          obtain ⟨env2, h3, h4⟩ := un_map env' l e2
          exact ihq y xs ρ' h' w' env2 a' k r hr (hs'.less h4) h3
        · rw [e1] at e'; cases e'
        · rw [e1] at e'; cases e'
      | exit id =>
        obtain ⟨ρ', h', env', l', hs', hf, e'⟩ := hp
        refine ⟨ρ', h', env', l', hs', hf, ?_⟩
        rcases hcase with ⟨vs, hh, e1, e2⟩ | ⟨i, vs, hh, e1, e2⟩ | ⟨v, hh, e1, e2⟩
        · rw [e1] at e'; cases e'
        · rw [e2, ← e1, e']
        · rw [e1] at e'; cases e'
      | ret =>
        obtain ⟨ρ', h', env', hs', e'⟩ := hp
        refine ⟨ρ', h', env', hs', ?_⟩
        obtain ⟨v', h'', hv⟩ := rt_not (P := P) (fn := fn) (env := env') (h := h') (by rw [e']; exact hne)
        rcases hcase with ⟨vs, hh, e1, e2⟩ | ⟨i, vs, hh, e1, e2⟩ | ⟨v, hh, e1, e2⟩
        · rw [e1, hv] at e'; cases e'
        · rw [e1, hv] at e'; cases e'
        · rw [e', e1, e2]
      | _ => exact hp
    | _ => exact absurd e.symm hr
  | cond c p q ihp ihq =>
    intro x xs ρ h w env a k r hr hs e
    cases x with
    | s x y =>
      have e : cB (ev env c) (fun t => ifB t (den P γ fn p x xs env h k) (den P γ fn q y xs env h k)) = r := e
      obtain ⟨t, h1, h2⟩ := cB_inv e hr
      have hc := ev_rel hs.er c
      rw [h1] at hc
      have hc : a.eval c = .bool t := hc
      refine wp_cond hc ?_
      cases t with
      | true => exact ihp x xs ρ h w env a k r hr hs h2
      | false => exact ihq y xs ρ h w env a k r hr hs h2
    | _ => exact absurd e.symm hr
  | block id p ihp =>
    intro x xs ρ h w env a k r hr hs e
    cases x with
    | b l x =>
      have e : blk id (den P γ fn p x ((id, l) :: xs) env h fun env h => .norm (l.map env) h) (fun vs h => un l vs fun env => k env h) = r := e
      obtain ⟨hne, hcase⟩ := blk_inv e hr
      refine wp_block (wp_mono (ihp x ((id, l) :: xs) ρ h w env a _ _ hne hs rfl) fun ex a' w' hp => ?_)
      cases ex with
      | normal =>
        obtain ⟨ρ', h', env', hs', e'⟩ := hp
        rcases hcase with ⟨vs, hh, e1, e2⟩ | ⟨vs, hh, e1, e2⟩ | ⟨i, vs, hh, hi, e1, e2⟩ | ⟨v, hh, e1, e2⟩
        · rw [e1] at e'
          obtain ⟨rfl, rfl⟩ : l.map env' = vs ∧ h' = hh := by cases e'; exact ⟨rfl, rfl⟩
          obtain ⟨env2, h3, h4⟩ := un_map env' l e2
          exact ⟨ρ', h', env2, hs'.less h4, h3⟩
        · rw [e1] at e'; cases e'
        · rw [e1] at e'; cases e'
        · rw [e1] at e'; cases e'
      | exit id' =>
        obtain ⟨ρ', h', env', l', hs', hf, e'⟩ := hp
        rcases hcase with ⟨vs, hh, e1, e2⟩ | ⟨vs, hh, e1, e2⟩ | ⟨i, vs, hh, hi, e1, e2⟩ | ⟨v, hh, e1, e2⟩
        · rw [e1] at e'; cases e'
        · rw [e1] at e'
          obtain ⟨rfl, rfl, rfl⟩ : id = id' ∧ vs = l'.map env' ∧ hh = h' := by cases e'; exact ⟨rfl, rfl, rfl⟩
          have hll : l' = l := by
            rw [List.find?_cons, (beq_iff id id).2 rfl] at hf
            cases hf; rfl
          subst hll
          obtain ⟨env2, h3, h4⟩ := un_map env' l' e2
          show Exit.inBlock id _ (.exit id) a' w'
          unfold Exit.inBlock
          simp only [if_true]
          exact ⟨ρ', hh, env2, hs'.less h4, h3⟩
        · rw [e1] at e'
          obtain ⟨rfl, rfl, rfl⟩ : i = id' ∧ vs = l'.map env' ∧ hh = h' := by cases e'; exact ⟨rfl, rfl, rfl⟩
          show Exit.inBlock id _ (.exit i) a' w'
          unfold Exit.inBlock
          simp only [if_neg hi]
          refine ⟨ρ', hh, env', l', hs', ?_, e2⟩
          have hb : Nat.beq id i = false := by rw [Bool.eq_false_iff, ne_eq, beq_iff]; exact fun he => hi he.symm
          rw [List.find?_cons, hb] at hf
          exact hf
        · rw [e1] at e'; cases e'
      | ret =>
        obtain ⟨ρ', h', env', hs', e'⟩ := hp
        refine ⟨ρ', h', env', hs', ?_⟩
        obtain ⟨v', h'', hv⟩ := rt_not (P := P) (fn := fn) (env := env') (h := h') (by rw [e']; exact hne)
        rcases hcase with ⟨vs, hh, e1, e2⟩ | ⟨vs, hh, e1, e2⟩ | ⟨i, vs, hh, hi, e1, e2⟩ | ⟨v, hh, e1, e2⟩
        · rw [e1, hv] at e'; cases e'
        · rw [e1, hv] at e'; cases e'
        · rw [e1, hv] at e'; cases e'
        · rw [e', e1, e2]
      | _ => exact hp
    | _ => exact absurd e.symm hr
  | loop p ihp =>
    intro x xs ρ h w env a k r hr hs e
    cases x with
    | l l x =>
      change lp (fun vs h => un l vs fun env => den P γ fn p x xs env h fun env h => .norm (l.map env) h) most (l.map env) h = r at e
      refine wp_loop_rounds most ?_
      generalize most = m at e ⊢
      induction m generalizing ρ h w env a with
      | zero => exact absurd e.symm hr
      | succ m ihm =>
        rw [rounds_succ]
        generalize hF : (un l (l.map env) fun env => den P γ fn p x xs env h fun env h => .norm (l.map env) h) = r1
        have e : jn r1 (fun vs h => lp (fun vs h => un l vs fun env => den P γ fn p x xs env h fun env h => .norm (l.map env) h) m vs h) = r := by
          rw [← hF]; exact e
        obtain ⟨hne, hcase⟩ := jn_inv e hr
        obtain ⟨env2, h3, h4⟩ := un_map env l hF
        refine wp_mono (ihp x xs ρ h w env2 a _ r1 hne (hs.less h4) h3) fun ex a' w' hp => ?_
        cases ex with
        | normal =>
          obtain ⟨ρ', h', env', hs', e'⟩ := hp
          rcases hcase with ⟨vs, hh, e1, e2⟩ | ⟨i, vs, hh, e1, e2⟩ | ⟨v, hh, e1, e2⟩
          · rw [e1] at e'
            obtain ⟨rfl, rfl⟩ : l.map env' = vs ∧ h' = hh := by cases e'; exact ⟨rfl, rfl⟩
            exact ihm ρ' h' w' env' a' hs' e2
          · rw [e1] at e'; cases e'
          · rw [e1] at e'; cases e'
        | exit id =>
          obtain ⟨ρ', h', env', l', hs', hf, e'⟩ := hp
          refine ⟨ρ', h', env', l', hs', hf, ?_⟩
          rcases hcase with ⟨vs, hh, e1, e2⟩ | ⟨i, vs, hh, e1, e2⟩ | ⟨v, hh, e1, e2⟩
          · rw [e1] at e'; cases e'
          · rw [e2, ← e1, e']
          · rw [e1] at e'; cases e'
        | ret =>
          obtain ⟨ρ', h', env', hs', e'⟩ := hp
          refine ⟨ρ', h', env', hs', ?_⟩
          obtain ⟨v', h'', hv⟩ := rt_not (P := P) (fn := fn) (env := env') (h := h') (by rw [e']; exact hne)
          rcases hcase with ⟨vs, hh, e1, e2⟩ | ⟨i, vs, hh, e1, e2⟩ | ⟨v, hh, e1, e2⟩
          · rw [e1, hv] at e'; cases e'
          · rw [e1, hv] at e'; cases e'
          · rw [e', e1, e2]
        | _ => exact hp
    | _ => exact absurd e.symm hr
  | scope p ihp =>
    intro x xs ρ h w env a k r hr hs e
    have e : den P γ fn p x xs env h k = r := by cases x <;> exact e
    refine wp_scope_straight (wp_mono (ihp x xs ρ h w env a k r hr hs e) fun ex a' w' hp => ?_)
    cases ex <;> first
      | exact hp
      | exact hp.elim
  | label l =>
    intro x xs ρ h w env a k r hr hs e
    have e : k env h = r := by cases x <;> exact e
    exact wp_label ⟨ρ, h, env, hs, e⟩
  | exit id =>
    intro x xs ρ h w env a k r hr hs e
    have e : exitL xs id (fun l => .exit id (l.map env) h) = r := by cases x <;> exact e
    obtain ⟨l, h1, h2⟩ := exitL_inv xs e hr
    exact wp_exit ⟨ρ, h, env, l, hs, h1, h2.symm⟩
  | ret =>
    intro x xs ρ h w env a k r hr hs e
    have e : rt P fn env h = r := by cases x <;> exact e
    exact wp_ret ⟨ρ, h, env, hs, e⟩
  | _ =>
    intro x xs ρ h w env a k r hr hs e
    have e : Res.fail = r := by cases x <;> exact e
    exact absurd e.symm hr
end
end Go.AM
