/-
  An abstract machine for the model's code, part 5: what it answers is what the model does.
-/
import Derived.Test.YtbkkfmjofmfijaaGreatDoorEd
import Derived.Scope
import Derived.LoopN
import Derived.ChangeSame
import Derived.RowKit3
import Derived.Laws.StandIn
import Derived.Lib.Bytealg
import Derived.Shelf.Strings.Replace
import Derived.ChangeSlices
import Derived.OpenShut
set_option linter.unusedVariables false
set_option linter.unusedSimpArgs false
namespace Go.AM
open Go
set_option autoImplicit false

section
variable {P : Program} {N0 : Base} {n : Nat} {ρ0 ρ : Rho} {h0 h : Hp} {w0 w : World} {r : Res} {env : Env} {a : Act}

theorem upd_eq (env : Env) (d t : Nat) (v : AV) : upd env d v t = if t = d then v else env t := by
  have hu : upd env d v t = Bool.rec (motive := fun _ => AV) (env t) v (Nat.beq t d) := rfl
  rw [hu, recB]; simp only [beq_iff]

theorem un_map (f : Env) : ∀ (l : List Nat) {k : Env → Res}, un l (l.map f) k = r → ∃ env', k env' = r ∧ ∀ t, env' t = f t ∨ env' t = .unk := by
  intro l
  induction l with
  | nil => intro k e; exact ⟨env0, e, fun t => .inr rfl⟩
  | cons d l ih =>
    intro k e
    have e : un l (l.map f) (fun env => k (upd env d (f d))) = r := e
    obtain ⟨env', h1, h2⟩ := ih e
    refine ⟨_, h1, fun t => ?_⟩
    rw [upd_eq]
    by_cases ht : t = d
    · rw [if_pos ht, ht]; exact .inl rfl
    · rw [if_neg ht]; exact h2 t

theorem ERel.less {env' : Env} (he : ERel ρ env a) (h : ∀ t, env' t = env t ∨ env' t = .unk) : ERel ρ env' a := by
  intro t
  rcases h t with e | e
  · rw [e]; exact he t
  · rw [e]; exact trivial

theorem St.less {env' : Env} (hs : St N0 n ρ0 h0 w0 ρ h w env a) (hl : ∀ t, env' t = env t ∨ env' t = .unk) : St N0 n ρ0 h0 w0 ρ h w env' a :=
  ⟨hs.inv, hs.tr, hs.er.less hl, hs.sz, hs.df⟩

/-- What code may come to, where the machine comes to r. -/
def Post (P : Program) (fn : Func) (N0 : Base) (n : Nat) (ρ0 : Rho) (h0 : Hp) (w0 : World) (xs : List (Nat × List Nat)) (k : Env → Hp → Res) (r : Res) : Exit → Act → World → Prop
  | .normal, a, w => ∃ ρ h env, St N0 n ρ0 h0 w0 ρ h w env a ∧ Sm (k env h) r
  | .exit id, a, w => ∃ ρ h env l, St N0 n ρ0 h0 w0 ρ h w env a ∧ xs.find? (fun p => Nat.beq p.1 id) = some (id, l) ∧ now r = .exit id (l.map env) h
  | .ret, a, w => ∃ ρ h env, St N0 n ρ0 h0 w0 ρ h w env a ∧ Sm (rt P fn env h) r
  | _, _, _ => False

theorem exitL_inv : ∀ (xs : List (Nat × List Nat)) {id : Nat} {k : List Nat → Res}, exitL xs id k = r → r ≠ .fail → ∃ l, xs.find? (fun p => Nat.beq p.1 id) = some (id, l) ∧ k l = r := by
  intro xs
  induction xs with
  | nil => intro id k e hr; exact absurd e.symm hr
  | cons p xs ih =>
    intro id k e hr
    have e : ifB (Nat.beq p.1 id) (k p.2) (exitL xs id k) = r := e
    rcases ifB_inv e with ⟨h1, h2⟩ | ⟨h1, h2⟩
    · rw [List.find?_cons, h1]
      rw [beq_iff] at h1
      exact ⟨p.2, by rw [← h1], h2⟩
    · rw [List.find?_cons, h1]
      exact ih h2 hr

theorem blk_inv {id : Nat} {r1 : Res} {k : List AV → Hp → Res} (e : Sm (blk id r1 k) r) (hr : Fine r) :
    Fine r1 ∧ ((∃ vs h, now r1 = .norm vs h ∧ Sm (k vs h) r) ∨ (∃ vs h, now r1 = .exit id vs h ∧ Sm (k vs h) r) ∨ (∃ i vs h, i ≠ id ∧ now r1 = .exit i vs h ∧ now r = .exit i vs h) ∨ (∃ v h, now r1 = .ret v h ∧ now r = .ret v h)) := by
  induction r1 with
  | fail => exact absurd rfl (e.nf hr)
  | norm vs h => exact ⟨by simp, .inl ⟨vs, h, rfl, e⟩⟩
  | exit i vs h =>
    refine ⟨by simp, .inr ?_⟩
    have e : Sm (ifB (Nat.beq i id) (k vs h) (.exit i vs h)) r := e
    rcases ifB_inv (Eq.refl (ifB (Nat.beq i id) (k vs h) (.exit i vs h))) with ⟨h1, h2⟩ | ⟨h1, h2⟩
    · have h3 := Sm.of h2 e
      rw [beq_iff] at h1; subst h1; exact .inl ⟨vs, h, rfl, h3⟩
    · have h3 := Sm.of h2 e
      exact .inr (.inl ⟨i, vs, h, (fun he => by rw [← beq_iff, h1] at he; cases he), rfl, h3.symm⟩)
  | ret v h => exact ⟨by simp, .inr (.inr (.inr ⟨v, h, rfl, e.symm⟩))⟩
  | ask p q ih =>
    have e : now (.ask p (blk id q k)) = now r := e
    obtain ⟨rfl, h2⟩ := now_ask (by rw [e]; exact hr.ok)
    obtain ⟨h3, h4⟩ := ih (h2.symm.trans e)
    exact ⟨⟨h3.ok⟩, h4⟩

/-- What a function returns. -/
theorem rt_not {fn : Func} (hr : rt P fn env h ≠ .fail) : (∃ v h', rt P fn env h = .ret v h') := by
  have key : ∀ (l : List ResultVar) (k : List AV → Res), (∀ vs, k vs = .fail ∨ ∃ v h', k vs = .ret v h') → rtV env h P l k = .fail ∨ ∃ v h', rtV env h P l k = .ret v h' := by
    intro l
    induction l with
    | nil => intro k hk; exact hk []
    | cons x l ih =>
      intro k hk
      cases x with
      | tmp t =>
        simp only [rtV]
        by_cases hf : cK (env t) (fun v => rtV env h P l fun vs => k (v :: vs)) = .fail
        · exact .inl hf
        · obtain ⟨h1, h2⟩ := cK_inv rfl hf
          rw [← h2]
          exact ih _ fun vs => hk _
      | cell c t =>
        simp only [rtV]
        generalize hq : sif (okT P t) _ .fail = q
        by_cases hf : q = .fail
        · exact .inl hf
        · obtain ⟨h1, h2⟩ := sif_inv hq hf
          split at h2
          · obtain ⟨b, o, -, h3⟩ := cP_inv h2 hf
            obtain ⟨B, -, -, h4⟩ := gb_inv h3 hf
            have rdl : ∀ (m o : Nat) (kk : AV → Res), (∀ l, kk l = .fail ∨ ∃ v h', kk l = .ret v h') → rds B m o kk = .fail ∨ ∃ v h', rds B m o kk = .ret v h' := by
              intro m
              induction m with
              | zero => intro o kk hkk; exact hkk _
              | succ m ihm =>
                intro o kk hkk
                by_cases hf2 : rds B (m + 1) o kk = .fail
                · exact .inl hf2
                · obtain ⟨-, h5⟩ := cK_inv (x := B.at o) (k := fun v => rds B m (o + 1) fun t => kk (.cons v t)) rfl hf2
                  have : rds B (m + 1) o kk = cK (B.at o) (fun v => rds B m (o + 1) fun t => kk (.cons v t)) := rfl
                  rw [this, ← h5]
                  exact ihm _ _ fun l => hkk _
            rw [← h4]
            exact rdl _ _ _ fun l => ih _ fun vs => hk _
          · obtain ⟨b, o, -, h3⟩ := cP_inv h2 hf
            obtain ⟨B, -, -, h4⟩ := gb_inv h3 hf
            obtain ⟨-, h5⟩ := cK_inv h4 hf
            rw [← h5]
            exact ih _ fun vs => hk _
  rcases key fn.results.toList (fun vs => match vs with | [v] => .ret v h | vs => .ret (.tup (lst vs)) h) (fun vs => by cases vs with
    | nil => exact .inr ⟨_, _, rfl⟩
    | cons v l => cases l <;> exact .inr ⟨_, _, rfl⟩) with h1 | h1
  · exact absurd h1 hr
  · exact h1

theorem Inv.drew {w' : World} (hi : Inv N0 ρ h w) (hw : w'.heap = w.heap) : Inv N0 ρ h w' := by
  refine ⟨fun b B hb => ?_, hi.nb, hi.gnb, hi.gs, hi.als, hi.lim, hi.free, by rw [hw]; exact hi.wsz, hi.mp.later (Ext.refl ρ) (Nat.le_refl _) fun r o _ _ => by rw [hw], Base.st hi.jj fun r _ => by rw [hw]⟩
  obtain ⟨p, h1, h2⟩ := hi.blk b B hb
  obtain ⟨cs, e, fz, g1, g2, g3, g4⟩ := h2.obj
  exact ⟨p, h1, ⟨cs, e, fz, by rw [hw]; exact g1, g2, g3, g4⟩, h2.fit, h2.side⟩

theorem St.drew {w' : World} (hs : St N0 n ρ0 h0 w0 ρ h w env a) (hw : w'.heap = w.heap) (h1 : w'.tape = w.tape) (h2 : w'.os = w.os) (h3 : w'.output = w.output) : St N0 n ρ0 h0 w0 ρ h w' env a :=
  ⟨hs.inv.drew hw, hs.tr.trans ⟨Ext.refl ρ, Nat.le_refl _, fun _ _ e => .inl e, fun r _ _ _ => by rw [hw], fun _ _ b B p h1 h2 h3 => .inr ⟨b, B, p, h1, h2, h3, rfl⟩, fun _ _ b m p h1 h2 h3 => .inr ⟨b, m, p, h1, h2, h3, rfl⟩, by rw [hw]; exact Nat.le_refl _, h1, h2, h3, rfl⟩, hs.er, hs.sz, hs.df⟩

/-- Memory's list of ways is no part of what it says. -/
theorem St.oc {nb lo : Nat} {bs : T Blk} {gs : T (Nat × Nat)} {ms : T AV} {oc l : Oc} (hs : St N0 n ρ0 h0 w0 ρ ⟨nb, bs, gs, ms, lo, oc⟩ w env a) : St N0 n ρ0 h0 w0 ρ ⟨nb, bs, gs, ms, lo, l⟩ w env a :=
  ⟨⟨fun b B hb => (by obtain ⟨p, h1, h2⟩ := hs.inv.blk b B hb; exact ⟨p, h1, ⟨h2.obj, h2.fit, h2.side⟩⟩), hs.inv.nb, hs.inv.gnb, hs.inv.gs, hs.inv.als, hs.inv.lim, hs.inv.free, hs.inv.wsz, hs.inv.mp, hs.inv.jj⟩,
    ⟨hs.tr.ext, hs.tr.nb, hs.tr.new, hs.tr.frame, hs.tr.img, hs.tr.mimg, hs.tr.size, hs.tr.tape, hs.tr.os, hs.tr.output, hs.tr.lo⟩, hs.er, hs.sz, hs.df⟩
theorem orc_inv {h : Hp} {t : Bool} {A B : Hp → Res} {r : Res} (e : Sm (orc h t A B) r) (hr : Fine r) : ∃ nb bs gs ms lo oc l, h = ⟨nb, bs, gs, ms, lo, oc⟩ ∧ ((t = true ∧ Sm (A ⟨nb, bs, gs, ms, lo, l⟩) r) ∨ (t = false ∧ Sm (B ⟨nb, bs, gs, ms, lo, l⟩) r)) := by
  obtain ⟨nb, bs, gs, ms, lo, ⟨oc, s⟩⟩ := h
  cases oc with
  | nil =>
    have e : Sm (Bool.rec (motive := fun _ => Res) (B ⟨nb, bs, gs, ms, lo, ⟨[], s⟩⟩) (A ⟨nb, bs, gs, ms, lo, ⟨[], s⟩⟩) t) r := e
    refine ⟨nb, bs, gs, ms, lo, _, ⟨[], s⟩, rfl, ?_⟩
    cases t with
    | true => exact .inl ⟨rfl, e⟩
    | false => exact .inr ⟨rfl, e⟩
  | cons d l =>
    have e : now (.ask (beqB t d) (Bool.rec (motive := fun _ => Res) (B ⟨nb, bs, gs, ms, lo, ⟨l, s⟩⟩) (A ⟨nb, bs, gs, ms, lo, ⟨l, s⟩⟩) d)) = now r := e
    obtain ⟨h1, h2⟩ := now_ask (by rw [e]; exact hr.ok)
    refine ⟨nb, bs, gs, ms, lo, _, ⟨l, s⟩, rfl, ?_⟩
    have h3 := h2.symm.trans e
    have h4 : t = d := by cases t <;> cases d <;> first | rfl | cases h1
    subst h4
    cases t with
    | true => exact .inl ⟨rfl, h3⟩
    | false => exact .inr ⟨rfl, h3⟩

theorem den_sound_at (hm : P.follows .mixedOrders = true) {γ : FuncId → Option Fun} (hγ : GSound P γ ∧ N0.fits P) (fn : Func) : ∀ (S : Nat) (c : Code), SizeOf.sizeOf c < S → ∀ (ρ0 : Rho) (h0 : Hp) (w0 : World) (x : Hint) (xs : List (Nat × List Nat)) (ρ : Rho) (h : Hp) (w : World) (env : Env) (a : Act) (k : Env → Hp → Res) (r : Res), Fine r →
    St N0 fn.ntmps ρ0 h0 w0 ρ h w env a → Sm (den P γ fn c x xs env h k) r → c.wp P (Post P fn N0 fn.ntmps ρ0 h0 w0 xs k r) a w := by
  intro S
  induction S with
  | zero => intro c hS; omega
  | succ S IH =>
  intro c hS ρ0 h0 w0
  cases c with
  | skip =>
    intro x xs ρ h w env a k r hr hs e
    have e : Sm (k env h) r := by cases x <;> exact e
    exact wp_skip ⟨ρ, h, env, hs, e⟩
  | region id ops d =>
    intro x xs ρ h w env a k r hr hs e
    cases d with
    | true =>
      cases x with
      | r o =>
        obtain ⟨h1, h2⟩ := sif_inv (b := Region.noSelect ops && (Nat.beq o.length ops.size && orderOk P ops o (Array.replicate ops.size false))) rfl (e.nf hr)
        rw [Bool.and_eq_true, Bool.and_eq_true, beq_iff] at h1
        obtain ⟨h3, h4, h5⟩ := h1
        refine wp_region_any hm ?_
        have := dDraw_sound (Q := Post P fn N0 fn.ntmps ρ0 h0 w0 xs k r) (n := fn.ntmps) hγ hr h3 (fun c a w h => h) (fun ρ h w env a hs e => ⟨ρ, h, env, hs, e⟩) o (Array.replicate ops.size false) [] [] ρ h { w with drawn := w.drawn + 1 } env a h5
          (fun j oj hj hl => by rw [Array.getD_eq_getD_getElem?, Array.getElem?_replicate] at hl; split at hl <;> cases hl) (hs.drew rfl rfl rfl rfl) (fun p hp => absurd hp (by simp)) ⟨fun q hq => absurd hq (by simp), fun p hp => absurd hp (by simp)⟩ (.of h2 e)
        rw [h4] at this
        exact wpAny_of_I _ _ _ _ this
      | f o =>
        obtain ⟨h1, h2⟩ := sif_inv (b := Region.noSelect ops && (slotsOk ops && flOk P ops o [])) rfl (e.nf hr)
        rw [Bool.and_eq_true, Bool.and_eq_true] at h1
        obtain ⟨h3, h4, h5⟩ := h1
        refine wp_region_any hm ?_
        have hcount : (Array.replicate ops.size false).count false = ops.size := by simp
        have hs' := hs.drew (w' := { w with drawn := w.drawn + 1 }) rfl rfl rfl rfl
        have hnone : ∀ i, (Array.replicate ops.size false).getD i false = true → False := fun i hl => by
          rw [Array.getD_eq_getD_getElem?, Array.getElem?_replicate] at hl; split at hl <;> cases hl
        have := dFl_sound (Q := Post P fn N0 fn.ntmps ρ0 h0 w0 xs k r) (n := fn.ntmps) hγ hr (slots_of h4) (fun ρ h w env a hs e => ⟨ρ, h, env, hs, e⟩) _ o [] (Array.replicate ops.size false) [] [] ρ h { w with drawn := w.drawn + 1 } env a rfl h5
          (fun q hq => absurd hq (by simp)) ⟨hs'.inv, hs'.tr, hs'.sz, hs'.df, by simp, fun i hl => (hnone i hl).elim, fun j oj hj hl => (hnone j hl).elim, trivial, fun t => .inl (hs'.er t), (fun g o h => nomatch h),
            ⟨(fun e he => nomatch he), (fun e he => nomatch he), (fun e he => nomatch he), (fun e he => nomatch he), (fun e he => nomatch he), by simp⟩⟩ (.of h2 e)
        rwa [hcount] at this
      | _ => exact absurd rfl (e.nf hr)
    | false =>
      have e : Sm (dOps P γ fn.ntmps ops.toList ops.toList env h k) r := by cases x <;> exact e
      refine wp_region ?_
      have := dOps_sound (ops := ops) (Q := Post P fn N0 fn.ntmps ρ0 h0 w0 xs k r) hγ hr (fun ρ h w env a hs e => ⟨ρ, h, env, hs, e⟩) ops.toList 0 ρ h w env a rfl hs e
      rwa [Array.length_toList, ← List.range_eq_range'] at this
  | seq p q =>
    have ihp := IH p (by simp only [Code.seq.sizeOf_spec] at hS; omega) ρ0 h0 w0
    have ihq := IH q (by simp only [Code.seq.sizeOf_spec] at hS; omega) ρ0 h0 w0
    intro x xs ρ h w env a k r hr hs e
    cases x with
    | s x y =>
      have e : Sm (den P γ fn p x xs env h (fun env h => den P γ fn q y xs env h k)) r := e
      refine wp_seq (wp_mono (ihp x xs ρ h w env a _ r hr hs e) fun ex a' w' hp => ?_)
      cases ex with
      | normal =>
        obtain ⟨ρ', h', env', hs', e'⟩ := hp
        exact ihq y xs ρ' h' w' env' a' k r hr hs' e'
      | _ => exact hp
    | w x lb =>
      by_cases hq : ∃ id a1 a2 id1 a3 rest, q = Code.block id (.loop (.seq a1 (.seq a2 (.block id1 (.seq a3 rest)))))
      · obtain ⟨id, a1, a2, id1, a3, rest0, rfl⟩ := hq
        have e : Sm (dRw P γ fn.ntmps p _ lb (fun env h k => den P γ fn rest0 x [] env h k) env h k) r := e
        refine dRw_sound hγ (e.fine hr) hs (fun B R2 CC C R3 rest hq ρ h w env a k r hr hs e => ?_) rfl fun ρ h w env a hs e1 => ⟨ρ, h, env, hs, Eq.trans e1 e⟩
        obtain rfl : rest0 = rest := by injection hq with _ h1; injection h1 with h1; injection h1 with _ h1; injection h1 with _ h1; injection h1 with _ h1; injection h1
        have ih := IH rest0 (by simp only [Code.seq.sizeOf_spec, Code.block.sizeOf_spec, Code.loop.sizeOf_spec] at hS; omega) ρ h w x [] ρ h w env a k r hr hs e
        refine wp_mono ih fun ex a' w' hp => ?_
        cases ex with
        | normal => exact .inl ⟨rfl, hp⟩
        | exit id =>
          obtain ⟨ρ', h', env', l', hs', hf, e'⟩ := hp
          cases hf
        | ret =>
          obtain ⟨ρ', h', env', hs', e'⟩ := hp
          obtain ⟨v', h'', hv⟩ := rt_not (P := P) (fn := fn) (env := env') (h := h') (e'.nf hr)
          exact .inr fun vs hh e2 => by
            have e3 : Res.ret v' h'' = .norm vs hh := Eq.trans (by rw [hv]; rfl) (Eq.trans e' e2)
            cases e3
        | _ => exact hp.elim
      · rw [den] at e
        · exact dRw_sound hγ (e.fine hr) hs (fun B R2 CC C R3 rest h => (hq ⟨_, _, _, _, _, _, h⟩).elim) rfl fun ρ h w env a hs e1 => ⟨ρ, h, env, hs, Eq.trans e1 e⟩
        · intro id a1 a2 id1 a3 rest h
          exact hq ⟨_, _, _, _, _, _, h⟩
    | m =>
      have e : Sm (dRng P γ fn.ntmps p q env h k) r := e
      exact dRng_sound hγ (e.fine hr) hs rfl fun ρ h w env a hs e1 => ⟨ρ, h, env, hs, Eq.trans e1 e⟩
    | j l x y =>
      have e : Sm (jn (den P γ fn p x xs env h fun env h => .norm (l.map env) h) (fun vs h => un l vs fun env => den P γ fn q y xs env h k)) r := e
      obtain ⟨hne, hcase⟩ := jn_inv e hr
      refine wp_seq (wp_mono (ihp x xs ρ h w env a _ _ hne hs (.eq rfl)) fun ex a' w' hp => ?_)
      cases ex with
      | normal =>
        obtain ⟨ρ', h', env', hs', e'⟩ := hp
        rcases hcase with ⟨vs, hh, e1, e2⟩ | ⟨i, vs, hh, e1, e2⟩ | ⟨v, hh, e1, e2⟩
        · obtain ⟨rfl, rfl⟩ : l.map env' = vs ∧ h' = hh := Sm.norm e' e1
          obtain ⟨env2, h3, h4⟩ := un_map env' l (Eq.refl _)
          exact ihq y xs ρ' h' w' env2 a' k r hr (hs'.less h4) (.of h3 e2)
        · have e3 : Res.norm (l.map env') h' = _ := Eq.trans e' e1; cases e3
        · have e3 : Res.norm (l.map env') h' = _ := Eq.trans e' e1; cases e3
      | exit id =>
        obtain ⟨ρ', h', env', l', hs', hf, e'⟩ := hp
        refine ⟨ρ', h', env', l', hs', hf, ?_⟩
        rcases hcase with ⟨vs, hh, e1, e2⟩ | ⟨i, vs, hh, e1, e2⟩ | ⟨v, hh, e1, e2⟩
        · rw [e1] at e'; cases e'
        · rw [e2, ← e1, e']
        · rw [e1] at e'; cases e'
      | ret =>
        obtain ⟨ρ', h', env', hs', e'⟩ := hp
        refine ⟨ρ', h', env', hs', ?_⟩
        obtain ⟨v', h'', hv⟩ := rt_not (P := P) (fn := fn) (env := env') (h := h') (e'.nf hne)
        rcases hcase with ⟨vs, hh, e1, e2⟩ | ⟨i, vs, hh, e1, e2⟩ | ⟨v, hh, e1, e2⟩
        · have e3 : Res.ret v' h'' = _ := Eq.trans (by rw [hv]; rfl) (Eq.trans e' e1); cases e3
        · have e3 : Res.ret v' h'' = _ := Eq.trans (by rw [hv]; rfl) (Eq.trans e' e1); cases e3
        · exact Eq.trans e' (e1.trans e2.symm)
      | _ => exact hp
    | _ => exact absurd rfl (e.nf hr)
  | cond c p q =>
    have ihp := IH p (by simp only [Code.cond.sizeOf_spec] at hS; omega) ρ0 h0 w0
    have ihq := IH q (by simp only [Code.cond.sizeOf_spec] at hS; omega) ρ0 h0 w0
    intro x xs ρ h w env a k r hr hs e
    cases x with
    | s x y =>
      have e : Sm (cB (ev env c) (fun t => ifB t (den P γ fn p x xs env h k) (den P γ fn q y xs env h k))) r := e
      obtain ⟨t, h1, h2⟩ := cB_inv rfl (e.nf hr)
      have h2 := Sm.of h2 e
      have hc := ev_rel hs.er c
      rw [h1] at hc
      have hc : a.eval c = .bool t := hc
      refine wp_cond hc ?_
      cases t with
      | true => exact ihp x xs ρ h w env a k r hr hs h2
      | false => exact ihq y xs ρ h w env a k r hr hs h2
    | q t x =>
      cases t with
      | true =>
        have e : Sm (cB (ev env c) (fun t => .ask t (den P γ fn p x xs env h k))) r := e
        obtain ⟨t, h1, h2⟩ := cB_inv rfl (e.nf hr)
        have h2 := Sm.of h2 e
        have hc := ev_rel hs.er c
        rw [h1] at hc
        have hc : a.eval c = .bool t := hc
        obtain ⟨rfl, h3⟩ := now_ask (by rw [show now (.ask t (den P γ fn p x xs env h k)) = now r from h2]; exact hr.ok)
        exact wp_cond hc (ihp x xs ρ h w env a k r hr hs (h3.symm.trans h2))
      | false =>
        have e : Sm (cB (ev env c) (fun t => .ask (bnot t) (den P γ fn q x xs env h k))) r := e
        obtain ⟨t, h1, h2⟩ := cB_inv rfl (e.nf hr)
        have h2 := Sm.of h2 e
        have hc := ev_rel hs.er c
        rw [h1] at hc
        have hc : a.eval c = .bool t := hc
        obtain ⟨h4, h3⟩ := now_ask (by rw [show now (.ask (bnot t) (den P γ fn q x xs env h k)) = now r from h2]; exact hr.ok)
        have ht : t = false := by cases t with | true => cases h4 | false => rfl
        subst ht
        exact wp_cond hc (ihq x xs ρ h w env a k r hr hs (h3.symm.trans h2))
    | o x y =>
      have e : Sm (cB (ev env c) (fun t => orc h t (fun h => den P γ fn p x xs env h k) (fun h => den P γ fn q y xs env h k))) r := e
      obtain ⟨t, h1, h2⟩ := cB_inv rfl (e.nf hr)
      have h2 := Sm.of h2 e
      have hc := ev_rel hs.er c
      rw [h1] at hc
      have hc : a.eval c = .bool t := hc
      obtain ⟨nb, bs, gs, ms, lo, oc, l, rfl, h3⟩ := orc_inv h2 hr
      refine wp_cond hc ?_
      rcases h3 with ⟨rfl, h3⟩ | ⟨rfl, h3⟩
      · exact ihp x xs ρ _ w env a k r hr hs.oc h3
      · exact ihq y xs ρ _ w env a k r hr hs.oc h3
    | _ => exact absurd rfl (e.nf hr)
  | block id p =>
    have ihp := IH p (by simp only [Code.block.sizeOf_spec] at hS; omega) ρ0 h0 w0
    intro x xs ρ h w env a k r hr hs e
    cases x with
    | b l x =>
      have e : Sm (blk id (den P γ fn p x ((id, l) :: xs) env h fun env h => .norm (l.map env) h) (fun vs h => un l vs fun env => k env h)) r := e
      obtain ⟨hne, hcase⟩ := blk_inv e hr
      refine wp_block (wp_mono (ihp x ((id, l) :: xs) ρ h w env a _ _ hne hs (.eq rfl)) fun ex a' w' hp => ?_)
      cases ex with
      | normal =>
        obtain ⟨ρ', h', env', hs', e'⟩ := hp
        rcases hcase with ⟨vs, hh, e1, e2⟩ | ⟨vs, hh, e1, e2⟩ | ⟨i, vs, hh, hi, e1, e2⟩ | ⟨v, hh, e1, e2⟩
        · obtain ⟨rfl, rfl⟩ : l.map env' = vs ∧ h' = hh := Sm.norm e' e1
          obtain ⟨env2, h3, h4⟩ := un_map env' l (Eq.refl _)
          exact ⟨ρ', h', env2, hs'.less h4, .of h3 e2⟩
        · have e3 : Res.norm (l.map env') h' = _ := Eq.trans e' e1; cases e3
        · have e3 : Res.norm (l.map env') h' = _ := Eq.trans e' e1; cases e3
        · have e3 : Res.norm (l.map env') h' = _ := Eq.trans e' e1; cases e3
      | exit id' =>
        obtain ⟨ρ', h', env', l', hs', hf, e'⟩ := hp
        rcases hcase with ⟨vs, hh, e1, e2⟩ | ⟨vs, hh, e1, e2⟩ | ⟨i, vs, hh, hi, e1, e2⟩ | ⟨v, hh, e1, e2⟩
        · rw [e1] at e'; cases e'
        · rw [e1] at e'
          obtain ⟨rfl, rfl, rfl⟩ : id = id' ∧ vs = l'.map env' ∧ hh = h' := by cases e'; exact ⟨rfl, rfl, rfl⟩
          have hll : l' = l := by
            rw [List.find?_cons, (beq_iff id id).2 rfl] at hf
            cases hf; rfl
          subst hll
          obtain ⟨env2, h3, h4⟩ := un_map env' l' (Eq.refl _)
          replace h3 := Sm.of h3 e2
          show Exit.inBlock id _ (.exit id) a' w'
          unfold Exit.inBlock
          simp only [if_true]
          exact ⟨ρ', hh, env2, hs'.less h4, h3⟩
        · rw [e1] at e'
          obtain ⟨rfl, rfl, rfl⟩ : i = id' ∧ vs = l'.map env' ∧ hh = h' := by cases e'; exact ⟨rfl, rfl, rfl⟩
          show Exit.inBlock id _ (.exit i) a' w'
          unfold Exit.inBlock
          simp only [if_neg hi]
          refine ⟨ρ', hh, env', l', hs', ?_, e2⟩
          have hb : Nat.beq id i = false := by rw [Bool.eq_false_iff, ne_eq, beq_iff]; exact fun he => hi he.symm
          rw [List.find?_cons, hb] at hf
          exact hf
        · rw [e1] at e'; cases e'
      | ret =>
        obtain ⟨ρ', h', env', hs', e'⟩ := hp
        refine ⟨ρ', h', env', hs', ?_⟩
        obtain ⟨v', h'', hv⟩ := rt_not (P := P) (fn := fn) (env := env') (h := h') (e'.nf hne)
        rcases hcase with ⟨vs, hh, e1, e2⟩ | ⟨vs, hh, e1, e2⟩ | ⟨i, vs, hh, hi, e1, e2⟩ | ⟨v, hh, e1, e2⟩
        · have e3 : Res.ret v' h'' = _ := Eq.trans (by rw [hv]; rfl) (Eq.trans e' e1); cases e3
        · have e3 : Res.ret v' h'' = _ := Eq.trans (by rw [hv]; rfl) (Eq.trans e' e1); cases e3
        · have e3 : Res.ret v' h'' = _ := Eq.trans (by rw [hv]; rfl) (Eq.trans e' e1); cases e3
        · exact Eq.trans e' (e1.trans e2.symm)
      | _ => exact hp
    | _ => exact absurd rfl (e.nf hr)
  | loop p =>
    have ihp := IH p (by simp only [Code.loop.sizeOf_spec] at hS; omega) ρ0 h0 w0
    intro x xs ρ h w env a k r hr hs e
    cases x with
    | l l x =>
      change Sm (lp (fun vs h => un l vs fun env => den P γ fn p x xs env h fun env h => .norm (l.map env) h) most (l.map env) h) r at e
      refine wp_loop_rounds most ?_
      generalize most = m at e ⊢
      induction m generalizing ρ h w env a with
      | zero => exact absurd rfl (e.nf hr)
      | succ m ihm =>
        rw [rounds_succ]
        generalize hF : (un l (l.map env) fun env => den P γ fn p x xs env h fun env h => .norm (l.map env) h) = r1
        have e : Sm (jn r1 (fun vs h => lp (fun vs h => un l vs fun env => den P γ fn p x xs env h fun env h => .norm (l.map env) h) m vs h)) r := by
          rw [← hF]; exact e
        obtain ⟨hne, hcase⟩ := jn_inv e hr
        obtain ⟨env2, h3, h4⟩ := un_map env l hF
        refine wp_mono (ihp x xs ρ h w env2 a _ r1 hne (hs.less h4) (.eq h3)) fun ex a' w' hp => ?_
        cases ex with
        | normal =>
          obtain ⟨ρ', h', env', hs', e'⟩ := hp
          rcases hcase with ⟨vs, hh, e1, e2⟩ | ⟨i, vs, hh, e1, e2⟩ | ⟨v, hh, e1, e2⟩
          · obtain ⟨rfl, rfl⟩ : l.map env' = vs ∧ h' = hh := Sm.norm e' e1
            exact ihm ρ' h' w' env' a' hs' e2
          · have e3 : Res.norm (l.map env') h' = _ := Eq.trans e' e1; cases e3
          · have e3 : Res.norm (l.map env') h' = _ := Eq.trans e' e1; cases e3
        | exit id =>
          obtain ⟨ρ', h', env', l', hs', hf, e'⟩ := hp
          refine ⟨ρ', h', env', l', hs', hf, ?_⟩
          rcases hcase with ⟨vs, hh, e1, e2⟩ | ⟨i, vs, hh, e1, e2⟩ | ⟨v, hh, e1, e2⟩
          · rw [e1] at e'; cases e'
          · rw [e2, ← e1, e']
          · rw [e1] at e'; cases e'
        | ret =>
          obtain ⟨ρ', h', env', hs', e'⟩ := hp
          refine ⟨ρ', h', env', hs', ?_⟩
          obtain ⟨v', h'', hv⟩ := rt_not (P := P) (fn := fn) (env := env') (h := h') (e'.nf hne)
          rcases hcase with ⟨vs, hh, e1, e2⟩ | ⟨i, vs, hh, e1, e2⟩ | ⟨v, hh, e1, e2⟩
          · have e3 : Res.ret v' h'' = _ := Eq.trans (by rw [hv]; rfl) (Eq.trans e' e1); cases e3
          · have e3 : Res.ret v' h'' = _ := Eq.trans (by rw [hv]; rfl) (Eq.trans e' e1); cases e3
          · exact Eq.trans e' (e1.trans e2.symm)
        | _ => exact hp
    | _ => exact absurd rfl (e.nf hr)
  | scope p =>
    have ihp := IH p (by simp only [Code.scope.sizeOf_spec] at hS; omega) ρ0 h0 w0
    intro x xs ρ h w env a k r hr hs e
    have e : Sm (den P γ fn p x xs env h k) r := by cases x <;> exact e
    refine wp_scope_straight (wp_mono (ihp x xs ρ h w env a k r hr hs e) fun ex a' w' hp => ?_)
    cases ex <;> first
      | exact hp
      | exact hp.elim
  | label l =>
    intro x xs ρ h w env a k r hr hs e
    have e : Sm (k env h) r := by cases x <;> exact e
    exact wp_label ⟨ρ, h, env, hs, e⟩
  | exit id =>
    intro x xs ρ h w env a k r hr hs e
    have e : Sm (exitL xs id (fun l => .exit id (l.map env) h)) r := by cases x <;> exact e
    obtain ⟨l, h1, h2⟩ := exitL_inv xs rfl (e.nf hr)
    exact wp_exit ⟨ρ, h, env, l, hs, h1, (Sm.of h2 e).symm⟩
  | ret =>
    intro x xs ρ h w env a k r hr hs e
    have e : Sm (rt P fn env h) r := by cases x <;> exact e
    exact wp_ret ⟨ρ, h, env, hs, e⟩
  | _ =>
    intro x xs ρ h w env a k r hr hs e
    have e : Sm Res.fail r := by cases x <;> exact e
    exact absurd rfl (e.nf hr)
theorem den_sound (hm : P.follows .mixedOrders = true) {γ : FuncId → Option Fun} (hγ : GSound P γ ∧ N0.fits P) (fn : Func) : ∀ (c : Code) (x : Hint) (xs : List (Nat × List Nat)) (ρ : Rho) (h : Hp) (w : World) (env : Env) (a : Act) (k : Env → Hp → Res) (r : Res), Fine r →
    St N0 fn.ntmps ρ0 h0 w0 ρ h w env a → Sm (den P γ fn c x xs env h k) r → c.wp P (Post P fn N0 fn.ntmps ρ0 h0 w0 xs k r) a w := fun c => den_sound_at hm hγ fn (SizeOf.sizeOf c + 1) c (Nat.lt_succ_self _) ρ0 h0 w0

end
end Go.AM

namespace Go.AM
open Go
set_option autoImplicit false

section
variable {P : Program} {N0 : Base} {n : Nat} {ρ0 ρ : Rho} {h0 h : Hp} {w0 w : World} {r : Res} {env : Env} {a : Act}

theorem F2_lst {vs : List AV} {Vs : List Value} (h : F2 (VR ρ) vs Vs) : LR ρ (lst vs) Vs := by
  induction h with
  | nil => rfl
  | cons h1 _ ih => exact ⟨_, _, rfl, h1, ih⟩

/-- A result slot's value. -/
def resOf (tmps : Array Value) : ResultVar → Sem Value
  | .tmp t => pure (tmps.getD t undef)
  | .cell a t => do loadVar t (← asAddr (tmps.getD a undef))

theorem sure_as {t : TypeId} {V X : Value} (h : (Instr.loadAt t X).run P w = .ok V w) : (do loadVar t (← asAddr X) : Sem Value).run P w = .ok V w := by
  unfold Instr.loadAt at h
  cases X with
  | pointer a =>
    cases a with
    | none => simp [Instr.sureAddr, stuck] at h
    | some a => simpa [Instr.sureAddr, asAddr] using h
  | _ => simp [Instr.sureAddr, stuck] at h

theorem rtV_inv (hi : Inv N0 ρ h w) (he : ERel ρ env a) : ∀ (l : List ResultVar) {k : List AV → Res}, rtV env h P l k = r → r ≠ .fail →
    ∃ vs Vs, k vs = r ∧ F2 (VR ρ) vs Vs ∧ (l.mapM (resOf a.tmps)).run P w = .ok Vs w := by
  intro l
  induction l with
  | nil => intro k e hr; exact ⟨[], [], e, .nil, rfl⟩
  | cons x l ih =>
    intro k e hr
    have go : ∀ {v V}, rtV env h P l (fun vs => k (v :: vs)) = r → VR ρ v V → (resOf a.tmps x).run P w = .ok V w → ∃ vs Vs, k vs = r ∧ F2 (VR ρ) vs Vs ∧ ((x :: l).mapM (resOf a.tmps)).run P w = .ok Vs w := by
      intro v V e hv hrun
      obtain ⟨vs, Vs, h1, h2, h3⟩ := ih e hr
      refine ⟨_, V :: Vs, h1, .cons hv h2, ?_⟩
      rw [List.mapM_cons, Sem.run_bind, hrun]
      simp only [Result.andThen_ok]
      rw [Sem.run_bind, h3]
      rfl
    cases x with
    | tmp t =>
      obtain ⟨h1, h2⟩ := cK_inv e hr
      exact go h2 (he t) rfl
    | cell c t =>
      simp only [rtV] at e
      obtain ⟨h1, h2⟩ := sif_inv e hr
      split at h2
      · rename_i ht
        obtain ⟨v, V, h3, h4, h5⟩ := ldN_ok hi ht h1 h2 hr (he c)
        exact go h3 h4 (sure_as h5)
      · rename_i ht
        obtain ⟨v, V, h3, h4, h5⟩ := ld1_ok hi ht h1 h2 hr (he c)
        exact go h3 h4 (sure_as h5)

theorem rt_ok {fn : Func} {v : AV} {h' : Hp} (hi : Inv N0 ρ h w) (he : ERel ρ env a) (e : rt P fn env h = .ret v h') : h' = h ∧ ∃ V, (results fn a.tmps).run P w = .ok V w ∧ VR ρ v V := by
  obtain ⟨vs, Vs, h1, h2, h3⟩ := rtV_inv hi he fn.results.toList e (by simp)
  have hm : (fn.results.mapM (resOf a.tmps)).run P w = .ok Vs.toArray w := by
    rw [Array.mapM_eq_mapM_toList, map_eq_pure_bind, Sem.run_bind, h3]
    rfl
  have hres : (results fn a.tmps).run P w = .ok (if h : Vs.toArray.size = 1 then Vs.toArray[0] else .tuple Vs.toArray) w := by
    have hd : results fn a.tmps = (do let vs ← fn.results.mapM (resOf a.tmps); pure (if h : vs.size = 1 then vs[0] else .tuple vs)) := rfl
    rw [hd, Sem.run_bind, hm]
    rfl
  cases h2 with
  | nil =>
    have h1 : Res.ret (.tup (lst [])) h = .ret v h' := h1
    cases h1
    exact ⟨rfl, _, hres, ⟨_, rfl, rfl⟩⟩
  | @cons v1 V1 vs Vs hv hrest =>
    cases hrest with
    | nil =>
      have h1 : Res.ret v1 h = .ret v h' := h1
      cases h1
      exact ⟨rfl, _, hres, hv⟩
    | @cons v2 V2 vs Vs hv2 hrest =>
      have h1 : Res.ret (.tup (lst (v1 :: v2 :: vs))) h = .ret v h' := h1
      cases h1
      refine ⟨rfl, _, hres, ?_⟩
      rw [dif_neg (by simp)]
      exact ⟨_, rfl, F2_lst (.cons hv (.cons hv2 hrest))⟩

theorem unX_inv : ∀ (l : List Nat) (args : List AV) {k : Env → Res}, unX l args k = r → r ≠ .fail → ∃ env', k env' = r ∧ ∀ t, env' t = .unk ∨ ∃ i : Nat, l[i]? = some t ∧ args[i]? = some (env' t) := by
  intro l
  induction l with
  | nil => intro args k e hr; obtain ⟨-, h2⟩ := uz_inv e hr; exact ⟨env0, h2, fun t => .inl rfl⟩
  | cons d l ih =>
    intro args k e hr
    have e : uc args (fun v vs => unX l vs fun env => k (upd env d v)) = r := e
    obtain ⟨v, vs, rfl, h1⟩ := uc_inv e hr
    obtain ⟨env', h2, h3⟩ := ih vs h1 hr
    refine ⟨_, h2, fun t => ?_⟩
    rw [upd_eq]
    by_cases ht : t = d
    · rw [if_pos ht]; exact .inr ⟨0, by simp [ht], rfl⟩
    · rw [if_neg ht]
      rcases h3 t with h | ⟨i, h4, h5⟩
      · exact .inl h
      · exact .inr ⟨i + 1, by simpa using h4, by simpa using h5⟩

theorem F2.get' {α β : Type} {Q : α → β → Prop} {l : List α} {m : List β} (h : F2 Q l m) : ∀ (i : Nat) (a : α), l[i]? = some a → ∃ b, m[i]? = some b ∧ Q a b := by
  induction h with
  | nil => intro i a h; simp at h
  | cons hq _ ih =>
    intro i a h1
    cases i with
    | zero => simp at h1; subst h1; exact ⟨_, rfl, hq⟩
    | succ i => exact ih i a (by simpa using h1)

theorem denF_sound (hm : P.follows .mixedOrders = true) {γ : FuncId → Option Fun} (hγ : GSound P γ) {f : FuncId} {fn : Func} {c : Code} (x : Hint) (hf : P.funcs[f]? = some fn) (hb : fn.body = some c) : FSound P f (denF P γ fn x) := by
  intro N0 hN ρ h w args Args v h' e hi ha
  unfold denF at e
  rw [hb] at e
  simp only at e
  obtain ⟨env, h1, h2⟩ := unX_inv _ _ (Eq.refl (unX (List.range (Nat.add fn.params.size fn.nfree)) args fun env => den P γ fn c x [] env h fun env h => rt P fn env h)) (fun h0 => by rw [h0] at e; cases e)
  refine calls_of_wp hf hb ?_
  have hs : St N0 fn.ntmps ρ h w ρ h w env { tmps := Args ++ Array.replicate (fn.ntmps - Args.size) undef, defers := [] } := by
    refine ⟨hi, Tr.refl ρ h w, fun t => ?_, by simp; omega, rfl⟩
    rcases h2 t with h3 | ⟨i, h3, h4⟩
    · rw [h3]; exact trivial
    · have hit : i = t := by
        have := (List.getElem?_eq_some_iff.1 h3)
        obtain ⟨h5, h6⟩ := this
        simpa using h6
      subst hit
      obtain ⟨V, h7, h8⟩ := ha.get' i _ h4
      rw [Array.getElem?_toList] at h7
      have hlt := (Array.getElem?_eq_some_iff.1 h7).1
      have : (Args ++ Array.replicate (fn.ntmps - Args.size) undef).getD i undef = V := by
        rw [Array.getD_eq_getD_getElem?, Array.getElem?_append_left hlt, h7]; rfl
      rw [this]; exact h8
  refine wp_mono (den_sound hm ⟨hγ, hN⟩ fn c x [] ρ h w env _ _ (.ret v h') (by simp) hs (Eq.trans (congrArg now h1) e)) fun ex a' w' hp => ?_
  have fin : ∀ ρ1 h1 env1, St N0 fn.ntmps ρ h w ρ1 h1 w' env1 a' → Sm (rt P fn env1 h1) (.ret v h') → a'.defers = [] ∧ ∃ V, (results fn a'.tmps).run P w' = .ok V w' ∧ ∃ V' ρ', Ending.returned V = .returned V' ∧ Out N0 ρ h w v h' V' w' ρ' := by
    intro ρ1 h1 env1 hs1 e1
    obtain ⟨v2, h2, hv2⟩ := rt_not (e1.nf (by simp))
    have e1 : rt P fn env1 h1 = .ret v h' := by
      have e2 : Res.ret v2 h2 = .ret v h' := Eq.trans (by rw [hv2]; rfl) e1
      rw [hv2, e2]
    obtain ⟨rfl, V, h3, h4⟩ := rt_ok hs1.inv hs1.er e1
    exact ⟨hs1.df, V, h3, V, ρ1, rfl, h4, hs1.inv, hs1.tr⟩
  cases ex with
  | normal => obtain ⟨ρ1, h1, env1, hs1, e1⟩ := hp; exact fin _ _ _ hs1 e1
  | ret => obtain ⟨ρ1, h1, env1, hs1, e1⟩ := hp; exact fin _ _ _ hs1 e1
  | exit id => obtain ⟨ρ1, h1, env1, l, hs1, hx, e1⟩ := hp; simp at hx
  | _ => exact hp.elim

theorem enters_of {f : FuncId} {fn : Func} {c : Code} (hf : P.funcs[f]? = some fn) (hname : (fn.name == "runtime.NumGoroutine") = false) (hb : fn.body = some c) : Enters P f :=
  fun args w => by
    have h1 : fn.name ≠ "runtime.NumGoroutine" := by simpa using hname
    simp [callFunc, hf, h1, hb]

theorem gam_nil : GSound P (gam []) := fun f g h => by cases h
theorem gam_consO {f : FuncId} {g : Fun} {l : List (Nat × Fun)} (h1 : (FSound P f g ∧ Enters P f) ∨ ESound P f g) (h3 : GSound P (gam l)) : GSound P (gam ((f, g) :: l)) := by
  intro f' g' h
  have h : Bool.rec (motive := fun _ => Option Fun) (gam l f') (some g) (Nat.beq f f') = some g' := h
  rw [recB] at h
  simp only [beq_iff] at h
  by_cases he : f = f'
  · rw [if_pos he] at h
    cases h; subst he; exact h1
  · rw [if_neg he] at h
    exact h3 f' g' h
theorem gam_cons {f : FuncId} {g : Fun} {l : List (Nat × Fun)} (h1 : FSound P f g) (h2 : Enters P f) (h3 : GSound P (gam l)) : GSound P (gam ((f, g) :: l)) := gam_consO (.inl ⟨h1, h2⟩) h3
end
end Go.AM

namespace Go.AM
open Go
set_option autoImplicit false
noncomputable section

def H0 : Hp := ⟨0, .e, .e, .e, 0, ⟨[], .unk⟩⟩

/-- The base at a law's beginning. -/
def b0 (w : World) (g : Option Nat) : Base := ⟨w.heap.size, g⟩

theorem inv_H0 {w : World} {g : Option Nat} (hj : (b0 w g).J w) : Inv (b0 w g) (fun _ => none) H0 w where
  blk := fun b B h => by cases h
  nb := fun b B h => by cases h
  gnb := fun b B h => by cases h
  gs := fun g q h => by cases h
  als := fun b1 b2 B1 B2 p1 p2 h => by cases h
  lim := fun b1 b2 B1 B2 p1 p2 h => by cases h
  free := fun _ _ => rfl
  wsz := Nat.le_refl _
  mp := ⟨fun b m h => (by cases h), fun b1 b2 m1 m2 p1 p2 h => (by cases h)⟩
  jj := hj

/-- Nothing of what was there has turned. -/
def Kept (w w' : World) : Prop := w.keptBut w' (fun _ => False) ∧ (∀ r, r < w.heap.size → w'.heap[r]? = w.heap[r]?) ∧ w.heap.size ≤ w'.heap.size

theorem Tr.kept {ρ ρ' : Rho} {h h' : Hp} {w w' : World} (ht : Tr ρ h w ρ' h' w') (hf : ∀ b B, h.bs.get b = some B → B.fr = false) (hm : h.ms = .e) : Kept w w' := by
  have hfr : ∀ r, r < w.heap.size → w'.heap[r]? = w.heap[r]? := fun r hr => ht.frame r hr (fun b B p hb hB => by rw [hf b B hb] at hB; cases hB.1) (fun b m p hb => by rw [hm] at hb; cases hb)
  refine ⟨⟨ht.os, ht.output, fun i hi => ?_⟩, hfr, ht.size⟩
  rw [hfr i hi]
  cases h1 : w.heap[i]? with
  | none => simp
  | some o => cases o <;> simp

/-- Does it answer true? -/
def isT (r : Res) : Bool :=
  Res.rec (motive := fun _ => Bool) false (fun _ _ => false) (fun _ _ _ => false)
    (fun v _ => AV.rec (motive := fun _ => Bool) false (fun b => b) (fun _ _ => false) (fun _ _ => false) false (fun _ _ => false) false (fun _ _ _ _ _ => false) false false (fun _ _ _ => false) false (fun _ _ _ _ _ => false) false (fun _ => false) (fun _ _ => false) (fun _ _ => false) false (fun _ _ _ _ => false) v) (fun p _ ih => Bool.rec (motive := fun _ => Bool) false ih p) r

theorem isT_inv {r : Res} (h : isT r = true) : ∃ h', now r = .ret (.bool true) h' := by
  induction r with
  | ret v h' =>
    cases v <;> first
      | (rename_i b; cases b <;> first | exact ⟨h', rfl⟩ | exact Bool.noConfusion (show false = true from h))
      | exact Bool.noConfusion (show false = true from h)
  | ask p q ih =>
    cases p with
    | true => exact ih h
    | false => exact Bool.noConfusion (show false = true from h)
  | _ => exact Bool.noConfusion (show false = true from h)

theorem law_walk {P : Program} {f : FuncId} {g : Fun} (hF : FSound P f g) {args : List AV} {Args : Array Value} (hT : isT (g args H0) = true) (w : World) (hj : (b0 w (P.globalNamed "internal/bytealg.MaxLen")).J w) (ha : F2 (VR fun _ => none) args Args.toList) :
    Calls P f Args w fun e w' => e = .returned (.bool true) ∧ Kept w w' := by
  obtain ⟨h', e⟩ := isT_inv hT
  refine (hF (b0 w _) rfl (fun _ => none) H0 w args Args (.bool true) h' e (inv_H0 hj) ha).mono fun e w' ⟨V, ρ', h1, h2⟩ => ?_
  have h3 : V = .bool true := h2.val
  subst h3
  exact ⟨h1, h2.tr.kept (fun b B hb => by cases hb) rfl⟩

/-- A number's bits, the lowest first. -/
def bitsL (n : Nat) : Nat → List Bool := Nat.rec (motive := fun _ => Nat → List Bool) (fun _ => []) (fun _ ih x => Nat.beq (Nat.mod x 2) 1 :: ih (Nat.div x 2)) n
/-- The empty memory, with the ways that branches go. -/
def Ho (l : List Bool) (s : AV) : Hp := ⟨0, .e, .e, .e, 0, ⟨l, s⟩⟩
theorem inv_Ho {l : List Bool} {s : AV} {w : World} {g : Option Nat} (hj : (b0 w g).J w) : Inv (b0 w g) (fun _ => none) (Ho l s) w where
  blk := fun b B h => by cases h
  nb := fun b B h => by cases h
  gnb := fun b B h => by cases h
  gs := fun g q h => by cases h
  als := fun b1 b2 B1 B2 p1 p2 h => by cases h
  lim := fun b1 b2 B1 B2 p1 p2 h => by cases h
  free := fun _ _ => rfl
  wsz := Nat.le_refl _
  mp := ⟨fun b m h => (by cases h), fun b1 b2 m1 m2 p1 p2 h => (by cases h)⟩
  jj := hj
theorem law_walko {P : Program} {f : FuncId} {g : Fun} (hF : FSound P f g) (l : List Bool) (s : AV) {args : List AV} {Args : Array Value} (hT : isT (g args (Ho l s)) = true) (w : World) (hj : (b0 w (P.globalNamed "internal/bytealg.MaxLen")).J w) (ha : F2 (VR fun _ => none) args Args.toList) :
    Calls P f Args w fun e w' => e = .returned (.bool true) ∧ Kept w w' := by
  obtain ⟨h', e⟩ := isT_inv hT
  refine (hF (b0 w _) rfl (fun _ => none) (Ho l s) w args Args (.bool true) h' e (inv_Ho hj) ha).mono fun e w' ⟨V, ρ', h1, h2⟩ => ?_
  have h3 : V = .bool true := h2.val
  subst h3
  exact ⟨h1, h2.tr.kept (fun b B hb => by cases hb) rfl⟩

theorem vr_i64 (ρ : Rho) (n : Int) : VR ρ (.int 63 n) (.int .i64 n) := ⟨.i64, rfl, rfl⟩
theorem vr_u8 (ρ : Rho) (n : Int) : VR ρ (.int 8 n) (.int .u8 n) := ⟨.u8, rfl, rfl⟩
theorem vr_bool (ρ : Rho) (b : Bool) : VR ρ (.bool b) (.bool b) := rfl
end
end Go.AM

namespace Go
section
variable {H : Type} {enc : TypeId × Value → H} {P : Program}
/-- What a law leaves behind: true; all that was there reads as before. -/
theorem AM.post_kept {f : Func} {s : ChangeSpec} {apart fresh handsOn : Bool} {W W' : World} {args : Array Value} {v : Value} {ds gs : List (DataW H)} {before pa pv : List MemPlace}
    (hW : DataW.Whole enc P f.params.toList s.vars apart W args.toList ds gs before)
    (hres : ∀ (b : Nat) (sp : Nat → Bool) (hd : Bool), DataW.TrodAll enc P W' b sp hd f.resultTypes.toList (v.resultList f.resultTypes.size) (s.fn H (ds ++ gs)).results [])
    (hargs : ∀ sp : Nat → Bool, (∀ p ∈ before, sp p.block = true) → DataW.TrodAll enc P W' 0 sp true f.params.toList args.toList (s.fn H (ds ++ gs)).args pa)
    (hvars : ∀ sp : Nat → Bool, (∀ p ∈ before, sp p.block = true) → DataW.TrodVars enc P W' sp s.vars (s.fn H (ds ++ gs)).vars pv)
    (hk : W.keptBut W' (fun _ => False)) : s.post enc P f apart fresh handsOn false W args v W' := by
  have hold : ∀ p ∈ before, (fun b => decide (b < W.heap.size)) p.block = true := fun p hp => by simpa using hW.lt p hp
  exact ⟨ds, gs, before, [], pa, pv, hW, hres _ _ _, hargs _ hold, hvars _ hold, World.keptBut_mono (fun p hp => hp.elim) hk, fun h => by cases h⟩
end
end Go

namespace Go.AM
open Go
set_option autoImplicit false

/-- Sound, and entered where it is called. -/
def Snd (P : Program) (f : FuncId) (g : Fun) : Prop := FSound P f g ∧ Enters P f

theorem denF_fsound {P : Program} (hm : P.follows .mixedOrders = true) {γ : FuncId → Option Fun} (hγ : GSound P γ) {f : FuncId} {fn : Func} (x : Hint) (hf : P.funcs[f]? = some fn) : FSound P f (denF P γ fn x) := by
  cases hb : fn.body with
  | some c => exact denF_sound hm hγ x hf hb
  | none =>
    intro N0 hN ρ h w args Args v h' e
    unfold denF at e
    rw [hb] at e
    have e : Res.fail = .ret v h' := e
    cases e

theorem snd_of {P : Program} (hm : P.follows .mixedOrders = true) {γ : FuncId → Option Fun} (hγ : GSound P γ) {f : FuncId} {fn : Func} {x : Hint} {g : Fun} (hf : P.funcs[f]? = some fn)
    (hn : (fn.name == "runtime.NumGoroutine") = false) (hb : fn.body.isSome = true) (e : g = denF P γ fn x) : Snd P f g := by
  obtain ⟨c, hc⟩ := Option.isSome_iff_exists.1 hb
  exact ⟨e ▸ denF_fsound hm hγ x hf, enters_of hf hn hc⟩

theorem snd_fail {P : Program} {f : FuncId} {fn : Func} (hf : P.funcs[f]? = some fn) (hn : (fn.name == "runtime.NumGoroutine") = false) (hb : fn.body.isSome = true) : Snd P f (fun _ _ => .fail) := by
  obtain ⟨c, hc⟩ := Option.isSome_iff_exists.1 hb
  exact ⟨fun N0 hN ρ h w args Args v h' e => (by have e : Res.fail = .ret v h' := e; cases e), enters_of hf hn hc⟩

theorem gcons {P : Program} {f : FuncId} {g : Fun} {l : List (Nat × Fun)} (h1 : Snd P f g) (h3 : GSound P (gam l)) : GSound P (gam ((f, g) :: l)) := gam_cons h1.1 h1.2 h3
/-- A function that answers where it is called. -/
theorem gconsE {P : Program} {f : FuncId} {g : Fun} {l : List (Nat × Fun)} (h1 : ESound P f g) (h3 : GSound P (gam l)) : GSound P (gam ((f, g) :: l)) := gam_consO (.inr h1) h3
theorem gnil {P : Program} : GSound P (gam []) := gam_nil
end Go.AM

namespace Go.AM
open Go
set_option autoImplicit false

section
variable (k : AV → Res) (kh : AV → Hp → Res) (h : Hp) (v w : AV) (vs : List AV) (r x y : Res) (b : Bool) (i : Nat)

theorem uc_c (k : AV → List AV → Res) : uc (v :: vs) k = k v vs := of_eq_true (eq_self _)
theorem uz_n : uz [] r = r := of_eq_true (eq_self _)
theorem cI_i (c : Nat) (n : Int) (k : Nat → Int → Res) : cI (.int c n) k = k c n := of_eq_true (eq_self _)
theorem cB_b (k : Bool → Res) : cB (.bool b) k = k b := of_eq_true (eq_self _)
theorem cS_s (n m : Nat) (k : Nat → Nat → Res) : cS (.str n m) k = k n m := of_eq_true (eq_self _)
theorem cP_p (n m : Nat) (k : Nat → Nat → Res) : cP (.ptr n m) k = k n m := of_eq_true (eq_self _)
theorem cL_l (b o n z : Nat) (c : Option Nat) (k : Nat → Nat → Nat → Nat → Option Nat → Res) : cL (.sl b o n z c) k = k b o n z c := of_eq_true (eq_self _)
theorem cA_a : cA (.agg v) k = k v := of_eq_true (eq_self _)
theorem cT_t : cT (.tup v) k = k v := of_eq_true (eq_self _)
theorem nth_z (t : AV) : nth (.cons v t) 0 = v := of_eq_true (eq_self _)
theorem nth_s (t : AV) : nth (.cons v t) (i + 1) = nth t i := of_eq_true (eq_self _)
theorem nth_1 (a t : AV) : nth (.cons a (.cons v t)) 1 = v := of_eq_true (eq_self _)
theorem nth_2 (a a' t : AV) : nth (.cons a (.cons a' (.cons v t))) 2 = v := of_eq_true (eq_self _)
theorem nth_3 (a a' a'' t : AV) : nth (.cons a (.cons a' (.cons a'' (.cons v t)))) 3 = v := of_eq_true (eq_self _)
theorem cK_b : cK (.bool b) k = k (.bool b) := of_eq_true (eq_self _)
theorem cK_i (c : Nat) (n : Int) : cK (.int c n) k = k (.int c n) := of_eq_true (eq_self _)
theorem cK_s (n m : Nat) : cK (.str n m) k = k (.str n m) := of_eq_true (eq_self _)
theorem cK_np : cK .nilp k = k .nilp := of_eq_true (eq_self _)
theorem cK_p (n m : Nat) : cK (.ptr n m) k = k (.ptr n m) := of_eq_true (eq_self _)
theorem cK_nl : cK .nils k = k .nils := of_eq_true (eq_self _)
theorem cK_l (b o n z : Nat) (c : Option Nat) : cK (.sl b o n z c) k = k (.sl b o n z c) := of_eq_true (eq_self _)
theorem cK_el : cK .esl k = k .esl := of_eq_true (eq_self _)
theorem cK_a : cK (.agg v) k = k (.agg v) := of_eq_true (eq_self _)
theorem cK_t : cK (.tup v) k = k (.tup v) := of_eq_true (eq_self _)
theorem ifB_t : ifB true x y = x := of_eq_true (eq_self _)
theorem ifB_f : ifB false x y = y := of_eq_true (eq_self _)
theorem ap_e : ap v k = k v := of_eq_true (eq_self _)
theorem sel_t : sel true v w = v := of_eq_true (eq_self _)
theorem sel_f : sel false v w = w := of_eq_true (eq_self _)
theorem gsel_tt : gsel (.bool true) true v = v := of_eq_true (eq_self _)
theorem gsel_tf : gsel (.bool true) false v = .tup .nil := of_eq_true (eq_self _)
theorem gsel_ft : gsel (.bool false) true v = .tup .nil := of_eq_true (eq_self _)
theorem gsel_ff : gsel (.bool false) false v = v := of_eq_true (eq_self _)
theorem gd_tt : gd (.bool true) true x y = x := of_eq_true (eq_self _)
theorem gd_tf : gd (.bool true) false x y = y := of_eq_true (eq_self _)
theorem gd_ft : gd (.bool false) true x y = y := of_eq_true (eq_self _)
theorem gd_ff : gd (.bool false) false x y = x := of_eq_true (eq_self _)
theorem gd_u (t : AV) (want : Bool) : gd (.tup t) want x y = y := of_eq_true (eq_self _)
theorem gsel_u (t : AV) (want : Bool) : gsel (.tup t) want v = .tup .nil := of_eq_true (eq_self _)
theorem jn_n (k : List AV → Hp → Res) : jn (.norm vs h) k = k vs h := of_eq_true (eq_self _)
theorem jn_e (k : List AV → Hp → Res) : jn (.exit i vs h) k = .exit i vs h := of_eq_true (eq_self _)
theorem jn_r (k : List AV → Hp → Res) : jn (.ret v h) k = .ret v h := of_eq_true (eq_self _)
theorem jn_if (k : List AV → Hp → Res) : jn (ifB b x y) k = ifB b (jn x k) (jn y k) := by cases b <;> rfl
theorem blk_n (id : Nat) (k : List AV → Hp → Res) : blk id (.norm vs h) k = k vs h := of_eq_true (eq_self _)
theorem blk_r (id : Nat) (k : List AV → Hp → Res) : blk id (.ret v h) k = .ret v h := of_eq_true (eq_self _)
theorem blk_e (id : Nat) (k : List AV → Hp → Res) : blk id (.exit i vs h) k = ifB (Nat.beq i id) (k vs h) (.exit i vs h) := of_eq_true (eq_self _)
theorem blk_if (id : Nat) (k : List AV → Hp → Res) : blk id (ifB b x y) k = ifB b (blk id x k) (blk id y k) := by cases b <;> rfl
theorem cl_r : cl (.ret v h) kh = kh v h := of_eq_true (eq_self _)
theorem cl_if : cl (ifB b x y) kh = ifB b (cl x kh) (cl y kh) := by cases b <;> rfl

variable (c : Nat) (m n : Int)
theorem bin2_i (k : Nat → Int → Int → Res) : bin2 (.int c m) (.int c n) k = k c m n := by
  have : bin2 (.int c m) (.int c n) k = ifB (Nat.beq c c) (k c m n) .fail := of_eq_true (eq_self _)
  rw [this, (beq_iff c c).2 rfl]; rfl
theorem iAdd_i : iAdd (.int c m) (.int c n) k = k (.int c (wrapC c (m + n))) := bin2_i c m n _
theorem iSub_i : iSub (.int c m) (.int c n) k = k (.int c (wrapC c (m - n))) := bin2_i c m n _
theorem iMul_i : iMul (.int c m) (.int c n) k = k (.int c (wrapC c (m * n))) := bin2_i c m n _
theorem iAnd_i : iAnd (.int c m) (.int c n) k = k (.int c (wrapC c (Int.ofNat (Nat.land (toU c m) (toU c n))))) := bin2_i c m n _
theorem iOr_i : iOr (.int c m) (.int c n) k = k (.int c (wrapC c (Int.ofNat (Nat.lor (toU c m) (toU c n))))) := bin2_i c m n _
theorem iXor_i : iXor (.int c m) (.int c n) k = k (.int c (wrapC c (Int.ofNat (Nat.xor (toU c m) (toU c n))))) := bin2_i c m n _
theorem iQuo_i (hn : n ≠ 0) : iQuo (.int c m) (.int c n) k = k (.int c (wrapC c (m.tdiv n))) := by
  have : iQuo (.int c m) (.int c n) k = bin2 (.int c m) (.int c n) fun c a b => ifB (eqI b (Int.ofNat 0)) .fail (k (.int c (wrapC c (Int.tdiv a b)))) := of_eq_true (eq_self _)
  rw [this, bin2_i, eqI_eq]
  have : (n == Int.ofNat 0) = false := by simpa using hn
  rw [this]; rfl
theorem iRem_i (hn : n ≠ 0) : iRem (.int c m) (.int c n) k = k (.int c (m.tmod n)) := by
  have : iRem (.int c m) (.int c n) k = bin2 (.int c m) (.int c n) fun c a b => ifB (eqI b (Int.ofNat 0)) .fail (k (.int c (Int.tmod a b))) := of_eq_true (eq_self _)
  rw [this, bin2_i, eqI_eq]
  have : (n == Int.ofNat 0) = false := by simpa using hn
  rw [this]; rfl
theorem iNeg_i : iNeg (.int c m) k = k (.int c (wrapC c (0 - m))) := of_eq_true (eq_self _)
theorem iConv_i (d : Nat) : iConv d (.int c m) k = k (.int d (wrapC d m)) := of_eq_true (eq_self _)
theorem bNot_b : bNot (.bool b) k = k (.bool (!b)) := by cases b <;> rfl
theorem eqN_i (k : Bool → Res) : eqN (.int c m) (.int c n) k = k (m == n) := by
  have : eqN (.int c m) (.int c n) k = bin2 (.int c m) (.int c n) fun _ a b => k (eqI a b) := of_eq_true (eq_self _)
  rw [this, bin2_i, eqI_eq]
theorem ltN_i (k : Bool → Res) : ltN (.int c m) (.int c n) k = k (decide (m < n)) := by
  have : ltN (.int c m) (.int c n) k = bin2 (.int c m) (.int c n) fun _ a b => k (ltI a b) := of_eq_true (eq_self _)
  rw [this, bin2_i, ltI_eq]
theorem eqB_b (a : Bool) (k : Bool → Res) : eqB (.bool a) (.bool b) k = k (a == b) := by
  have : eqB (.bool a) (.bool b) k = k (beqB a b) := of_eq_true (eq_self _)
  rw [this, beqB_eq]
theorem bnot_e : bnot b = !b := by cases b <;> rfl
/-- A shift by a number below the bits. -/
theorem iShl_i (d j : Nat) (hj : j ≤ bitsC c) : iShl (.int c m) (.int d (Int.ofNat j)) k = k (.int c (wrapC c (m * Int.ofNat (2 ^ j)))) := by
  have : iShl (.int c m) (.int d (Int.ofNat j)) k = k (.int c (wrapC c (m * Int.ofNat (2 ^ (Bool.rec (motive := fun _ => Nat) (bitsC c) j (Nat.ble j (bitsC c))))))) := of_eq_true (eq_self _)
  rw [this, (ble_iff _ _).2 hj]
theorem iShr_i (d j : Nat) (hj : j ≤ bitsC c) : iShr (.int c m) (.int d (Int.ofNat j)) k = k (.int c (shrI m j)) := by
  have : iShr (.int c m) (.int d (Int.ofNat j)) k = k (.int c (shrI m (Bool.rec (motive := fun _ => Nat) (bitsC c) j (Nat.ble j (bitsC c))))) := of_eq_true (eq_self _)
  rw [this, (ble_iff _ _).2 hj]
end

/-! ### where a test is reckoned first -/
@[congr] theorem ifB_cg {b b' : Bool} (h : b = b') (x y : Res) : ifB b x y = ifB b' x y := by rw [h]
@[congr] theorem jn_cg {r r' : Res} (h : r = r') (k : List AV → Hp → Res) : jn r k = jn r' k := by rw [h]
@[congr] theorem blk_cg {r r' : Res} (h : r = r') (id : Nat) (k : List AV → Hp → Res) : blk id r k = blk id r' k := by rw [h]
@[congr] theorem cl_cg {r r' : Res} (h : r = r') (k : AV → Hp → Res) : cl r k = cl r' k := by rw [h]
@[congr] theorem cK_cg {v v' : AV} (h : v = v') (k : AV → Res) : cK v k = cK v' k := by rw [h]
@[congr] theorem cB_cg {v v' : AV} (h : v = v') (k : Bool → Res) : cB v k = cB v' k := by rw [h]
@[congr] theorem cI_cg {v v' : AV} (h : v = v') (k : Nat → Int → Res) : cI v k = cI v' k := by rw [h]
@[congr] theorem cT_cg {v v' : AV} (h : v = v') (k : AV → Res) : cT v k = cT v' k := by rw [h]
@[congr] theorem gd_cg {v v' : AV} (h : v = v') (w : Bool) (x y : Res) : gd v w x y = gd v' w x y := by rw [h]
@[congr] theorem ap_cg {v v' : AV} (h : v = v') (k : AV → Res) : ap v k = ap v' k := by rw [h]
@[congr] theorem bNot_cg {v v' : AV} (h : v = v') (k : AV → Res) : bNot v k = bNot v' k := by rw [h]
@[congr] theorem iConv_cg {v v' : AV} (h : v = v') (c : Nat) (k : AV → Res) : iConv c v k = iConv c v' k := by rw [h]
@[congr] theorem uc_cg {v v' : List AV} (h : v = v') (k : AV → List AV → Res) : uc v k = uc v' k := by rw [h]
@[congr] theorem eqN_cg {v v' w w' : AV} (h : v = v') (h' : w = w') (k : Bool → Res) : eqN v w k = eqN v' w' k := by rw [h, h']
@[congr] theorem ltN_cg {v v' w w' : AV} (h : v = v') (h' : w = w') (k : Bool → Res) : ltN v w k = ltN v' w' k := by rw [h, h']
@[congr] theorem eqB_cg {v v' w w' : AV} (h : v = v') (h' : w = w') (k : Bool → Res) : eqB v w k = eqB v' w' k := by rw [h, h']
@[congr] theorem iAdd_cg {v v' w w' : AV} (h : v = v') (h' : w = w') (k : AV → Res) : iAdd v w k = iAdd v' w' k := by rw [h, h']
@[congr] theorem iSub_cg {v v' w w' : AV} (h : v = v') (h' : w = w') (k : AV → Res) : iSub v w k = iSub v' w' k := by rw [h, h']
@[congr] theorem iMul_cg {v v' w w' : AV} (h : v = v') (h' : w = w') (k : AV → Res) : iMul v w k = iMul v' w' k := by rw [h, h']
@[congr] theorem iQuo_cg {v v' w w' : AV} (h : v = v') (h' : w = w') (k : AV → Res) : iQuo v w k = iQuo v' w' k := by rw [h, h']
@[congr] theorem iRem_cg {v v' w w' : AV} (h : v = v') (h' : w = w') (k : AV → Res) : iRem v w k = iRem v' w' k := by rw [h, h']
@[congr] theorem iAnd_cg {v v' w w' : AV} (h : v = v') (h' : w = w') (k : AV → Res) : iAnd v w k = iAnd v' w' k := by rw [h, h']
@[congr] theorem iOr_cg {v v' w w' : AV} (h : v = v') (h' : w = w') (k : AV → Res) : iOr v w k = iOr v' w' k := by rw [h, h']
@[congr] theorem iXor_cg {v v' w w' : AV} (h : v = v') (h' : w = w') (k : AV → Res) : iXor v w k = iXor v' w' k := by rw [h, h']
@[congr] theorem iShl_cg {v v' w w' : AV} (h : v = v') (h' : w = w') (k : AV → Res) : iShl v w k = iShl v' w' k := by rw [h, h']
@[congr] theorem iShr_cg {v v' w w' : AV} (h : v = v') (h' : w = w') (k : AV → Res) : iShr v w k = iShr v' w' k := by rw [h, h']

/-! ### wraps -/
theorem wrap_bmod (k : IntKind) (h : k.signed = true) (n : Int) : k.wrap n = Int.bmod n (2 ^ k.bits) := by
  unfold IntKind.wrap Int.bmod
  cases k <;> simp [IntKind.signed] at h <;> simp [IntKind.bits, IntKind.signed] <;> omega
theorem w63 (n : Int) : wrapC 63 n = Int.bmod n 18446744073709551616 := (wrapC_eq .i64 n).trans (wrap_bmod .i64 rfl n)
theorem w31 (n : Int) : wrapC 31 n = Int.bmod n 4294967296 := (wrapC_eq .i32 n).trans (wrap_bmod .i32 rfl n)
theorem w15 (n : Int) : wrapC 15 n = Int.bmod n 65536 := (wrapC_eq .i16 n).trans (wrap_bmod .i16 rfl n)
theorem w7 (n : Int) : wrapC 7 n = Int.bmod n 256 := (wrapC_eq .i8 n).trans (wrap_bmod .i8 rfl n)
theorem wrap_umod (k : IntKind) (h : k.signed = false) (n : Int) : k.wrap n = n % 2 ^ k.bits := by
  unfold IntKind.wrap
  simp [h]
theorem w64 (n : Int) : wrapC 64 n = n % 18446744073709551616 := (wrapC_eq .u64 n).trans (wrap_umod .u64 rfl n)
theorem w32 (n : Int) : wrapC 32 n = n % 4294967296 := (wrapC_eq .u32 n).trans (wrap_umod .u32 rfl n)
theorem w16 (n : Int) : wrapC 16 n = n % 65536 := (wrapC_eq .u16 n).trans (wrap_umod .u16 rfl n)
theorem w8 (n : Int) : wrapC 8 n = n % 256 := (wrapC_eq .u8 n).trans (wrap_umod .u8 rfl n)
theorem w63_in (n : Int) (h1 : -9223372036854775808 ≤ n) (h2 : n < 9223372036854775808) : wrapC 63 n = n := by rw [w63]; simp only [Int.bmod]; split <;> omega
theorem w31_in (n : Int) (h1 : -2147483648 ≤ n) (h2 : n < 2147483648) : wrapC 31 n = n := by rw [w31]; simp only [Int.bmod]; split <;> omega
theorem w16_in (n : Int) (h1 : 0 ≤ n) (h2 : n < 65536) : wrapC 16 n = n := by rw [w16]; omega
theorem w8_in (n : Int) (h1 : 0 ≤ n) (h2 : n < 256) : wrapC 8 n = n := by rw [w8]; omega
end Go.AM

namespace Go.AM
open Go
set_option autoImplicit false

theorem efail {P : Program} {f : FuncId} : ESound P f (fun _ _ => .fail) := fun N0 hN ρ h w args Args v h' e => by have e : Res.fail = .ret v h' := e; cases e

theorem idxB_eq (x : Nat) (c : UInt8) : ∀ (l : List UInt8) (i : Nat), (∀ j (hj : j < l.length), byteAt x (i + j) = l[j].toNat) → idxB x c.toNat l.length i = if Lib.indexByte l c = -1 then -1 else Lib.indexByte l c + i := by
  intro l
  induction l with
  | nil => intro i _; rfl
  | cons b l ih =>
    intro i h
    have e : idxB x c.toNat (l.length + 1) i = Bool.rec (motive := fun _ => Int) (idxB x c.toNat l.length (i + 1)) (Int.ofNat i) (Nat.beq (byteAt x i) c.toNat) := rfl
    rw [List.length_cons, e, recB]
    have h0 := h 0 (by simp)
    simp only [Nat.add_zero, List.getElem_cons_zero] at h0
    rw [h0]
    simp only [beq_iff]
    have hge := Lib.indexByte_ge l c
    unfold Lib.indexByte
    by_cases hb : b = c
    · subst hb
      simp
    · have hn : ¬ b.toNat = c.toNat := fun h => hb (UInt8.toNat_inj.1 h)
      have hb' : (b == c) = false := by simpa using hb
      rw [if_neg hn, ih (i + 1) (fun j hj => by
        have := h (j + 1) (by simpa using hj)
        rw [show i + 1 + j = i + (j + 1) by omega]
        simpa using this), hb']
      simp only [Bool.false_eq_true, if_false, beq_iff_eq]
      split
      · simp
      · rw [if_neg (by omega)]; omega

theorem cntB_eq (x : Nat) (c : UInt8) : ∀ (l : List UInt8) (i : Nat), (∀ j (hj : j < l.length), byteAt x (i + j) = l[j].toNat) → cntB x c.toNat l.length i = Lib.countByte l c := by
  intro l
  induction l with
  | nil => intro i _; rfl
  | cons b l ih =>
    intro i h
    have e : cntB x c.toNat (l.length + 1) i = Bool.rec (motive := fun _ => Nat) (cntB x c.toNat l.length (i + 1)) (Nat.succ (cntB x c.toNat l.length (i + 1))) (Nat.beq (byteAt x i) c.toNat) := rfl
    rw [List.length_cons, e, recB]
    have h0 := h 0 (by simp)
    simp only [Nat.add_zero, List.getElem_cons_zero] at h0
    rw [h0]
    simp only [beq_iff]
    rw [ih (i + 1) (fun j hj => by
      have := h (j + 1) (by simpa using hj)
      rw [show i + 1 + j = i + (j + 1) by omega]
      simpa using this)]
    unfold Lib.countByte
    rw [List.count_cons]
    by_cases hb : b = c
    · subst hb; simp
    · have hn : ¬ b.toNat = c.toNat := fun h => hb (UInt8.toNat_inj.1 h)
      rw [if_neg hn]
      simp [hb]

section
variable {P : Program} {f : FuncId} {fn : Func}
theorem x2_inv {ρ : Rho} {args : List AV} {Args : Array Value} {h h' : Hp} {v : AV} {r : Nat → Nat → Nat → Int}
    (e : now (List.rec (motive := fun _ => Res) .fail (fun s t _ => List.rec (motive := fun _ => Res) .fail (fun c t _ => List.rec (motive := fun _ => Res)
      (cS s fun n x => cI c fun d b => ifB (Nat.beq d 8) (Int.rec (motive := fun _ => Res) (fun b => ifB (Nat.blt b 256) (.ret (.int 63 (r n x b)) h) .fail) (fun _ => .fail) b) .fail) (fun _ _ _ => .fail) t) t) args : Res) = .ret v h')
    (ha : F2 (VR ρ) args Args.toList) : ∃ (s : ByteArray) (c : UInt8), Args = #[.string s, .int .u8 c.toNat] ∧ v = .int 63 (r s.data.size (packB s.data.toList) c.toNat) ∧ h' = h := by
  cases ha' : Args.toList with
  | nil =>
    rw [ha'] at ha
    cases ha
    exact absurd (show Res.fail = .ret v h' from e) (by simp)
  | cons A L =>
    rw [ha'] at ha
    cases ha with
    | @cons a _ _ _ hA hL =>
      cases hL with
      | nil => exact absurd (show Res.fail = .ret v h' from e) (by simp)
      | @cons b _ _ _ hB hL2 =>
        cases hL2 with
        | cons hC hL3 => exact absurd (show Res.fail = .ret v h' from e) (by simp)
        | nil =>
          have e : (cS a fun n x => cI b fun d c => ifB (Nat.beq d 8) (Int.rec (motive := fun _ => Res) (fun c => ifB (Nat.blt c 256) (.ret (.int 63 (r n x c)) h) .fail) (fun _ => .fail) c) .fail) = .ret v h' := by
            rw [← e]
            refine Eq.symm ?_
            show now (cS a _) = _
            rw [now_cS]; refine congrArg _ (funext fun n => funext fun x => ?_)
            rw [now_cI]; refine congrArg _ (funext fun d => funext fun c => ?_)
            rw [now_ifB]; refine congrArg (fun z => ifB (Nat.beq d 8) z .fail) ?_
            cases c with
            | ofNat m => show now (ifB _ _ _) = _; rw [now_ifB]; rfl
            | negSucc m => rfl
          obtain ⟨n, x, rfl, e1⟩ := cS_inv e (by simp)
          obtain ⟨d, c, rfl, e2⟩ := cI_inv e1 (by simp)
          obtain ⟨hd, e3⟩ := ifF_inv e2 (by simp)
          rw [beq_iff] at hd
          subst hd
          obtain ⟨m, rfl, e4⟩ := natC_inv e3 (by simp)
          obtain ⟨hm, e5⟩ := ifF_inv e4 (by simp)
          rw [blt_iff] at hm
          obtain ⟨s, rfl, rfl, rfl⟩ := hA
          obtain ⟨k, hk, rfl⟩ := hB
          obtain rfl : k = .u8 := cOf_inj _ _ hk
          cases e5
          refine ⟨s, UInt8.ofNat m, ?_, ?_, rfl⟩
          · apply Array.toList_inj.1
            rw [ha']
            have : ((UInt8.ofNat m).toNat : Int) = m := by rw [u8n _ hm]
            rw [this]
          · rw [u8n _ hm]

theorem xIdx_e (hf : P.funcs[f]? = some fn) (hn : (fn.name == "runtime.NumGoroutine") = false) (hb : fn.body.isNone = true) (hx : Extern.findNext fn = none) (he : Extern.find fn = some Extern.BytealgIndexByte.indexByte) : ESound P f xIdx := by
  intro N0 hN ρ h w args Args v h' e hi ha
  obtain ⟨s, c, rfl, rfl, rfl⟩ := x2_inv (r := fun n x b => idxB x b n 0) e ha
  refine ⟨.int .i64 (Lib.indexByte s.data.toList c), w, ρ, ?_, ⟨.i64, rfl, ?_⟩, hi, Tr.refl _ _ _⟩
  · rw [run_callFunc_extern hf hn hb hx he, Lib.run_indexByteString]
    simp
  · have h1 := idxB_eq (packB s.data.toList) c s.data.toList 0 (fun j hj => by rw [Nat.zero_add]; exact byteAt_eq _ _ hj)
    simp only [Array.length_toList] at h1
    rw [h1]
    have hge := Lib.indexByte_ge s.data.toList c
    congr 1
    split
    · rename_i h0; exact h0
    · simp

theorem xCnt_e (hf : P.funcs[f]? = some fn) (hn : (fn.name == "runtime.NumGoroutine") = false) (hb : fn.body.isNone = true) (hx : Extern.findNext fn = none) (he : Extern.find fn = some Extern.BytealgCount.count) : ESound P f xCnt := by
  intro N0 hN ρ h w args Args v h' e hi ha
  obtain ⟨s, c, rfl, rfl, rfl⟩ := x2_inv (r := fun n x b => Int.ofNat (cntB x b n 0)) e ha
  refine ⟨.int .i64 (Lib.countByte s.data.toList c), w, ρ, ?_, ⟨.i64, rfl, ?_⟩, hi, Tr.refl _ _ _⟩
  · rw [run_callFunc_extern hf hn hb hx he, Lib.run_countString]
    simp
  · have h1 := cntB_eq (packB s.data.toList) c s.data.toList 0 (fun j hj => by rw [Nat.zero_add]; exact byteAt_eq _ _ hj)
    simp only [Array.length_toList] at h1
    rw [h1]; rfl
end
end Go.AM

namespace Go.AM
open Go
set_option autoImplicit false
noncomputable section

/-- What a closed call answers and makes: the first number of its blocks; its answer; the number behind the last; its blocks, each with what is said of its group; its maps. -/
structure Snap where
  k : Nat
  v : AV
  nb : Nat
  L : List (Nat × Blk × Option (Nat × Nat))
  M : List (Nat × AV)

/-- Cells, one behind the other from a place on. -/
def cellL (l : List AV) : Nat → T AV := List.rec (motive := fun _ => Nat → T AV) (fun _ => .e) (fun v _ ih i => T.set v (ih (Nat.succ i)) i) l
abbrev iN (n : Nat) : AV := .int 63 (.ofNat n)
abbrev sN (n x : Nat) : AV := .str n x
/-- The empty memory, with another first number. -/
def Hs (k : Nat) : Hp := ⟨k, .e, .e, .e, 0, ⟨[], .unk⟩⟩

def addB (l : List (Nat × Blk × Option (Nat × Nat))) : T Blk → T Blk := List.rec (motive := fun _ => T Blk → T Blk) (fun t => t) (fun p _ ih t => ih (T.set p.2.1 t p.1)) l
def addG (l : List (Nat × Blk × Option (Nat × Nat))) : T (Nat × Nat) → T (Nat × Nat) :=
  List.rec (motive := fun _ => T (Nat × Nat) → T (Nat × Nat)) (fun t => t) (fun p _ ih t => Option.rec (motive := fun _ => T (Nat × Nat)) (ih t) (fun q => ih (T.set q t p.2.1.g)) p.2.2) l
def addM (l : List (Nat × AV)) : T AV → T AV := List.rec (motive := fun _ => T AV → T AV) (fun t => t) (fun p _ ih t => ih (T.set p.2 t p.1)) l

def Snap.lay (S : Snap) (h : Hp) : Hp := Hp.rec (motive := fun _ => Hp) (fun _ bs gs ms lo oc => ⟨S.nb, addB S.L bs, addG S.L gs, addM S.M ms, lo, oc⟩) h
/-- The call, by what is known of it. -/
def Snap.fn (S : Snap) : Fun := fun args h => List.rec (motive := fun _ => Res) (ifB (Nat.ble h.nb S.k) (.ret S.v (S.lay h)) .fail) (fun _ _ _ => .fail) args

abbrev Seen := Option (AV × Nat × List (Option Blk × Option (Nat × Nat)) × List (Option AV))
/-- What is seen of an answer. -/
def Snap.see (S : Snap) (r : Res) : Seen :=
  Res.rec (motive := fun _ => Seen) none (fun _ _ => none) (fun _ _ _ => none) (fun v h => some (v, h.nb, S.L.map (fun p => (h.bs.get p.1, h.gs.get p.2.1.g)), S.M.map (fun p => h.ms.get p.1))) (fun p _ ih => Bool.rec (motive := fun _ => Seen) none ih p) r
def Snap.said (S : Snap) : Seen := some (S.v, S.nb, S.L.map (fun p => (some p.2.1, p.2.2)), S.M.map (fun p => some p.2))
def Snap.ok (S : Snap) : Bool := List.rec (motive := fun _ => Bool) true (fun p _ ih => Bool.rec (motive := fun _ => Bool) false (Bool.rec (motive := fun _ => Bool) false ih p.2.1.fr) (Nat.ble S.k p.2.1.g)) S.L

/-- Cells at their places. -/
def cellP (l : List (Nat × AV)) : T AV := addM l .e

theorem addB_get (l : List (Nat × Blk × Option (Nat × Nat))) : ∀ (t : T Blk) (k : Nat) (B : Blk), (addB l t).get k = some B → (∃ p ∈ l, p.1 = k ∧ p.2.1 = B) ∨ t.get k = some B := by
  induction l with
  | nil => intro t k B h; exact .inr h
  | cons p l ih =>
    intro t k B h
    rcases ih _ k B h with ⟨q, h1, h2⟩ | h1
    · exact .inl ⟨q, List.mem_cons_of_mem _ h1, h2⟩
    · rw [T.get_set] at h1
      by_cases hk : k = p.1
      · rw [if_pos hk] at h1
        exact .inl ⟨p, List.mem_cons_self, hk.symm, Option.some.inj h1⟩
      · rw [if_neg hk] at h1; exact .inr h1
theorem addM_get (l : List (Nat × AV)) : ∀ (t : T AV) (k : Nat) (B : AV), (addM l t).get k = some B → (∃ p ∈ l, p.1 = k ∧ p.2 = B) ∨ t.get k = some B := by
  induction l with
  | nil => intro t k B h; exact .inr h
  | cons p l ih =>
    intro t k B h
    rcases ih _ k B h with ⟨q, h1, h2⟩ | h1
    · exact .inl ⟨q, List.mem_cons_of_mem _ h1, h2⟩
    · rw [T.get_set] at h1
      by_cases hk : k = p.1
      · rw [if_pos hk] at h1
        exact .inl ⟨p, List.mem_cons_self, hk.symm, Option.some.inj h1⟩
      · rw [if_neg hk] at h1; exact .inr h1
theorem addG_none {p : Nat × Blk × Option (Nat × Nat)} {l : List (Nat × Blk × Option (Nat × Nat))} {t : T (Nat × Nat)} (h : p.2.2 = none) : addG (p :: l) t = addG l t := by
  show Option.rec (motive := fun _ => T (Nat × Nat)) (addG l t) (fun q => addG l (T.set q t p.2.1.g)) p.2.2 = _
  rw [h]
theorem addG_some {p : Nat × Blk × Option (Nat × Nat)} {q : Nat × Nat} {l : List (Nat × Blk × Option (Nat × Nat))} {t : T (Nat × Nat)} (h : p.2.2 = some q) : addG (p :: l) t = addG l (T.set q t p.2.1.g) := by
  show Option.rec (motive := fun _ => T (Nat × Nat)) (addG l t) (fun q => addG l (T.set q t p.2.1.g)) p.2.2 = _
  rw [h]
theorem addG_get (l : List (Nat × Blk × Option (Nat × Nat))) : ∀ (t : T (Nat × Nat)) (g : Nat) (q : Nat × Nat), (addG l t).get g = some q → (∃ p ∈ l, p.2.1.g = g ∧ p.2.2 = some q) ∨ t.get g = some q := by
  induction l with
  | nil => intro t k B h; exact .inr h
  | cons p l ih =>
    intro t g q h
    cases hp : p.2.2 with
    | none =>
      rw [addG_none hp] at h
      rcases ih _ g q h with ⟨q, h1, h2⟩ | h1
      · exact .inl ⟨q, List.mem_cons_of_mem _ h1, h2⟩
      · exact .inr h1
    | some q0 =>
      rw [addG_some hp] at h
      rcases ih _ g q h with ⟨q, h1, h2⟩ | h1
      · exact .inl ⟨q, List.mem_cons_of_mem _ h1, h2⟩
      · rw [T.get_set] at h1
        by_cases hk : g = p.2.1.g
        · rw [if_pos hk] at h1
          exact .inl ⟨p, List.mem_cons_self, hk.symm, hp.trans h1⟩
        · rw [if_neg hk] at h1; exact .inr h1
theorem addG_keeps (l : List (Nat × Blk × Option (Nat × Nat))) : ∀ (t : T (Nat × Nat)) (g : Nat) (q : Nat × Nat), t.get g = some q → ∃ q', (addG l t).get g = some q' := by
  induction l with
  | nil => intro t g q h; exact ⟨q, h⟩
  | cons p l ih =>
    intro t g q h
    cases hp : p.2.2 with
    | none => rw [addG_none hp]; exact ih t g q h
    | some q0 =>
      rw [addG_some hp]
      by_cases hk : g = p.2.1.g
      · exact ih _ g q0 (by rw [T.get_set, if_pos hk])
      · exact ih _ g q (by rw [T.get_set, if_neg hk]; exact h)
theorem addG_has (l : List (Nat × Blk × Option (Nat × Nat))) : ∀ (t : T (Nat × Nat)) (p : Nat × Blk × Option (Nat × Nat)) (q : Nat × Nat), p ∈ l → p.2.2 = some q → ∃ q', (addG l t).get p.2.1.g = some q' := by
  induction l with
  | nil => intro t p q h; cases h
  | cons x l ih =>
    intro t p q h hq
    rcases List.mem_cons.1 h with rfl | h
    · rw [addG_some hq]
      exact addG_keeps l _ _ q (by rw [T.get_set, if_pos rfl])
    · cases hx : x.2.2 with
      | none => rw [addG_none hx]; exact ih _ p q h hq
      | some q0 => rw [addG_some hx]; exact ih _ p q h hq
/-- Of what is not among the groups that are added nothing turns. -/
theorem addG_out (l : List (Nat × Blk × Option (Nat × Nat))) : ∀ (t : T (Nat × Nat)) (g : Nat), (∀ p ∈ l, p.2.1.g ≠ g) → (addG l t).get g = t.get g := by
  induction l with
  | nil => intro t g _; rfl
  | cons x l ih =>
    intro t g h
    have h1 : ∀ p ∈ l, p.2.1.g ≠ g := fun p hp => h p (List.mem_cons_of_mem _ hp)
    cases hx : x.2.2 with
    | none => rw [addG_none hx]; exact ih _ g h1
    | some q0 => rw [addG_some hx, ih _ g h1, T.get_set, if_neg (fun e => h x List.mem_cons_self e.symm)]
theorem addB_out (l : List (Nat × Blk × Option (Nat × Nat))) : ∀ (t : T Blk) (k : Nat), (∀ p ∈ l, p.1 ≠ k) → (addB l t).get k = t.get k := by
  induction l with
  | nil => intro t g _; rfl
  | cons x l ih =>
    intro t g h
    show (addB l (T.set x.2.1 t x.1)).get g = _
    rw [ih _ g (fun p hp => h p (List.mem_cons_of_mem _ hp)), T.get_set, if_neg (fun e => h x List.mem_cons_self e.symm)]

theorem map_eq_mem {α β : Type} {f g : α → β} : ∀ {l : List α}, l.map f = l.map g → ∀ x ∈ l, f x = g x := by
  intro l
  induction l with
  | nil => intro _ x h; cases h
  | cons y l ih =>
    intro h x hx
    rw [List.map_cons, List.map_cons] at h
    obtain ⟨h1, h2⟩ := List.cons.inj h
    rcases List.mem_cons.1 hx with rfl | hx
    · exact h1
    · exact ih h2 x hx

theorem Snap.ok_inv {S : Snap} (h : S.ok = true) : ∀ p ∈ S.L, S.k ≤ p.2.1.g ∧ p.2.1.fr = true := by
  unfold Snap.ok at h
  generalize S.L = l at h ⊢
  induction l with
  | nil => intro p hp; cases hp
  | cons x l ih =>
    intro p hp
    have h : Bool.rec (motive := fun _ => Bool) false (Bool.rec (motive := fun _ => Bool) false (List.rec (motive := fun _ => Bool) true (fun p _ ih => Bool.rec (motive := fun _ => Bool) false (Bool.rec (motive := fun _ => Bool) false ih p.2.1.fr) (Nat.ble S.k p.2.1.g)) l) x.2.1.fr) (Nat.ble S.k x.2.1.g) = true := h
    cases h1 : Nat.ble S.k x.2.1.g with
    | false => rw [h1] at h; cases h
    | true =>
      cases h2 : x.2.1.fr with
      | false => rw [h1, h2] at h; cases h
      | true =>
        rw [h1, h2] at h
        rcases List.mem_cons.1 hp with rfl | hp
        · exact ⟨Nat.le_of_ble_eq_true h1, h2⟩
        · exact ih h p hp

theorem Snap.see_inv {S : Snap} {r : Res} (h : S.see r = S.said) : ∃ h1, now r = .ret S.v h1 ∧ h1.nb = S.nb ∧ (∀ p ∈ S.L, h1.bs.get p.1 = some p.2.1 ∧ h1.gs.get p.2.1.g = p.2.2) ∧ ∀ p ∈ S.M, h1.ms.get p.1 = some p.2 := by
  induction r with
  | ret v h1 =>
    have h : some (v, h1.nb, S.L.map (fun p => (h1.bs.get p.1, h1.gs.get p.2.1.g)), S.M.map (fun p => h1.ms.get p.1)) = some (S.v, S.nb, S.L.map (fun p => (some p.2.1, p.2.2)), S.M.map (fun p => some p.2)) := h
    obtain h := Option.some.inj h
    obtain ⟨e1, h⟩ := Prod.mk.inj h
    obtain ⟨e2, h⟩ := Prod.mk.inj h
    obtain ⟨e3, e4⟩ := Prod.mk.inj h
    subst e1
    exact ⟨h1, rfl, e2, fun p hp => Prod.mk.inj (map_eq_mem e3 p hp), map_eq_mem e4⟩
  | ask p q ih =>
    cases p with
    | true => exact ih h
    | false => cases h
  | _ => cases h

theorem inv_Hs {w : World} {g : Option Nat} (k : Nat) (hj : (⟨w.heap.size, g⟩ : Base).J w) : Inv ⟨w.heap.size, g⟩ (fun _ => none) (Hs k) w where
  blk := fun b B h => by cases h
  nb := fun b B h => by cases h
  gnb := fun b B h => by cases h
  gs := fun g q h => by cases h
  als := fun b1 b2 B1 B2 p1 p2 h => by cases h
  lim := fun b1 b2 B1 B2 p1 p2 h => by cases h
  free := fun _ _ => rfl
  wsz := Nat.le_refl _
  mp := ⟨fun b m h => (by cases h), fun b1 b2 m1 m2 p1 p2 h => (by cases h)⟩
  jj := hj

theorem grp_of {h : Hp} {g : Nat} : h.grp g = match h.gs.get g with | some q => q | none => (g, g) := by
  unfold Hp.grp
  cases h.gs.get g <;> rfl

theorem Snap.sound {P : Program} {f : FuncId} {g : Fun} (hF : FSound P f g) (S : Snap) (hs : S.see (g [] (Hs S.k)) = S.said) (hok : S.ok = true) : FSound P f S.fn := by
  intro N0 hN ρ h w args Args v h' e hi ha
  cases args with
  | cons x l => exact absurd (show Res.fail = .ret v h' from e) (by simp)
  | nil =>
    have e : ifB (Nat.ble h.nb S.k) (.ret S.v (S.lay h)) .fail = Res.ret v h' := by
      have e : now (ifB (Nat.ble h.nb S.k) (.ret S.v (S.lay h)) .fail) = Res.ret v h' := e
      cases hb : Nat.ble h.nb S.k <;> (rw [hb] at e; exact e)
    obtain ⟨hk, e⟩ := ifF_inv e (by intro h; cases h)
    rw [ble_iff] at hk
    injection e with e1 e2
    subst e1
    subst e2
    obtain ⟨h1, er, hnb, hL, hM⟩ := S.see_inv hs
    have hO := S.ok_inv hok
    have hj : (⟨w.heap.size, N0.g⟩ : Base).J w := fun g hg => by
      obtain ⟨h1, m, h2⟩ := hi.jj g hg
      exact ⟨Nat.lt_of_lt_of_le h1 hi.wsz, m, h2⟩
    have hA : Args.toList = [] := by cases hA : Args.toList with
      | nil => rfl
      | cons y m => rw [hA] at ha; cases ha
    refine (hF ⟨w.heap.size, N0.g⟩ hN (fun _ => none) (Hs S.k) w [] Args S.v h1 er (inv_Hs S.k hj) (by rw [hA]; exact .nil)).mono fun e w' ⟨V, ρ1, h2, ho⟩ => ⟨V, fun b => if b < S.k then ρ b else ρ1 b, h2, ?_⟩
    -- what was there, what is new
    have lo1 : ∀ b p, ρ1 b = some p → S.k ≤ b := fun b p hb => by
      rcases ho.tr.new b p hb with h | ⟨-, h, -⟩
      · cases h
      · exact h
    have lo0 : ∀ b p, ρ b = some p → b < S.k := fun b p hb => by
      by_cases hbn : h.nb ≤ b
      · rw [hi.free b hbn] at hb; cases hb
      · omega
    have ext1 : Ext ρ1 (fun b => if b < S.k then ρ b else ρ1 b) := fun b p hb => by
      have := lo1 b p hb
      show (if b < S.k then ρ b else ρ1 b) = some p
      rw [if_neg (by omega)]; exact hb
    have ext0 : Ext ρ (fun b => if b < S.k then ρ b else ρ1 b) := fun b p hb => by
      have := lo0 b p hb
      show (if b < S.k then ρ b else ρ1 b) = some p
      rw [if_pos this]; exact hb
    have hk1 : S.k ≤ h1.nb := ho.tr.nb
    have frame : ∀ r, r < w.heap.size → w'.heap[r]? = w.heap[r]? := fun r hr => ho.tr.frame r hr (fun b B p hb => by cases hb) (fun b m p hb => by cases hb)
    -- the blocks
    have hbs : ∀ b B, (S.lay h).bs.get b = some B → (b < S.k ∧ h.bs.get b = some B) ∨ (S.k ≤ b ∧ h1.bs.get b = some B ∧ ∃ q, (b, B, q) ∈ S.L) := by
      intro b B hb
      have hb : (addB S.L h.bs).get b = some B := hb
      rcases addB_get S.L h.bs b B hb with ⟨p, g1, g2, g3⟩ | g1
      · have h3 := (hL p g1).1
        rw [g2, g3] at h3
        obtain ⟨q, h4, -⟩ := ho.inv.blk b B h3
        exact .inr ⟨lo1 b q h4, h3, p.2.2, by rw [← g2, ← g3]; exact g1⟩
      · exact .inl ⟨Nat.lt_of_lt_of_le (hi.nb b B g1) hk, g1⟩
    -- the groups
    have hg0 : ∀ g, g < S.k → (S.lay h).grp g = h.grp g := by
      intro g hg
      rw [grp_of, grp_of]
      show (match (addG S.L h.gs).get g with | some q => q | none => (g, g)) = _
      rw [addG_out S.L h.gs g (fun p hp hpg => by have := (hO p hp).1; omega)]
    have hgn : ∀ g, S.k ≤ g → h.gs.get g = none := by
      intro g hg
      cases hq : h.gs.get g with
      | none => rfl
      | some q => have := (hi.gs g q hq).1; omega
    have hgL : ∀ p ∈ S.L, (addG S.L h.gs).get p.2.1.g = h1.gs.get p.2.1.g := by
      intro p hp
      have hkp := (hO p hp).1
      cases hq : p.2.2 with
      | none =>
        have h3 := (hL p hp).2
        rw [h3, hq]
        cases hx : (addG S.L h.gs).get p.2.1.g with
        | none => rfl
        | some q =>
          rcases addG_get S.L h.gs _ q hx with ⟨p', k1, k2, k3⟩ | k1
          · have h4 := (hL p' k1).2
            rw [k2, h3, hq, k3] at h4
            cases h4
          · rw [hgn _ hkp] at k1; cases k1
      | some q =>
        obtain ⟨q', hx⟩ := addG_has S.L h.gs p q hp hq
        rw [hx]
        rcases addG_get S.L h.gs _ q' hx with ⟨p', k1, k2, k3⟩ | k1
        · have h4 := (hL p' k1).2
          rw [k2, k3] at h4
          exact h4.symm
        · rw [hgn _ hkp] at k1; cases k1
    have hg1 : ∀ p ∈ S.L, (S.lay h).grp p.2.1.g = h1.grp p.2.1.g := by
      intro p hp
      rw [grp_of, grp_of]
      show (match (addG S.L h.gs).get p.2.1.g with | some q => q | none => (p.2.1.g, p.2.1.g)) = _
      rw [hgL p hp]
    have rd0 : ∀ b B, h.bs.get b = some B → readable (S.lay h) b B → readable h b B := fun b B hb hr hf => by
      have h3 := hr hf
      have h4 := (hi.gnb b B hb hf).1
      rw [hg0 B.g (by omega)] at h3
      exact h3
    have rd1 : ∀ b B q, (b, B, q) ∈ S.L → readable (S.lay h) b B → readable h1 b B := fun b B q hb hr hf => by
      have h3 := hr hf
      rw [hg1 _ hb] at h3
      exact h3
    have r0 : ∀ b B p, h.bs.get b = some B → ρ b = some p → p.r < w.heap.size := fun b B p hb hp => by
      obtain ⟨p', h3, h4⟩ := hi.blk b B hb
      rw [hp] at h3
      obtain rfl := Option.some.inj h3
      exact h4.lt
    have r1 : ∀ b B p, h1.bs.get b = some B → B.fr = true → ρ1 b = some p → w.heap.size ≤ p.r := fun b B p hb hf hp => by
      rcases ho.tr.img 0 (Nat.zero_le _) b B p hb ⟨hf, Nat.zero_le _⟩ hp with h3 | ⟨b0, B0, p0, h3, -⟩
      · exact h3
      · cases h3
    have ρ0 : ∀ b, b < S.k → (if b < S.k then ρ b else ρ1 b) = ρ b := fun b hb => if_pos hb
    have ρ1' : ∀ b, S.k ≤ b → (if b < S.k then ρ b else ρ1 b) = ρ1 b := fun b hb => if_neg (by omega)
    -- the maps
    have hms : ∀ b m, (S.lay h).ms.get b = some m → (b < S.k ∧ h.ms.get b = some m) ∨ (S.k ≤ b ∧ h1.ms.get b = some m) := by
      intro b m hb
      have hb : (addM S.M h.ms).get b = some m := hb
      rcases addM_get S.M h.ms b m hb with ⟨p, g1, g2, g3⟩ | g1
      · have h3 := hM p g1
        rw [g2, g3] at h3
        obtain ⟨-, q, o, h4, -⟩ := ho.inv.mp.ent b m h3
        exact .inr ⟨lo1 b q h4, h3⟩
      · exact .inl ⟨Nat.lt_of_lt_of_le (hi.mp.ent b m g1).1 hk, g1⟩
    have m0 : ∀ b m p, h.ms.get b = some m → ρ b = some p → p.r < w.heap.size := fun b m p hb hp => by
      obtain ⟨-, p', o, h3, -, h4, -⟩ := hi.mp.ent b m hb
      rw [hp] at h3
      obtain rfl := Option.some.inj h3
      exact (Array.getElem?_eq_some_iff.1 h4).1
    have m1 : ∀ b m p, h1.ms.get b = some m → ρ1 b = some p → w.heap.size ≤ p.r := fun b m p hb hp => by
      obtain ⟨-, p', o, h3, h5, h4, -⟩ := ho.inv.mp.ent b m hb
      rw [hp] at h3
      obtain rfl := Option.some.inj h3
      exact h5
    refine ⟨ho.val.ext ext1, ?_, ?_⟩
    · refine ⟨?_, ?_, ?_, ?_, ?_, ?_, ?_, ?_, ?_, ?_⟩
      · -- blk
        intro b B hb
        rcases hbs b B hb with ⟨h3, h4⟩ | ⟨h3, h4, q, h5⟩
        · obtain ⟨p, h6, h7⟩ := hi.blk b B h4
          exact ⟨p, ext0 b p h6, h7.later ext0 (frame _ h7.lt) (rd0 b B h4)⟩
        · obtain ⟨p, h6, h7⟩ := ho.inv.blk b B h4
          obtain ⟨cs, e, fz, k1, k2, k3, k4⟩ := h7.obj
          refine ⟨p, ext1 b p h6, ⟨⟨cs, e, fz, k1, k2, k3, fun hr i hi' => ?_⟩, h7.fit, ?_, ?_⟩⟩
          · obtain ⟨V, k5, k6⟩ := k4 (rd1 b B q h5 hr) i hi'
            exact ⟨V, k5, k6.ext ext1⟩
          · intro hf
            exact Nat.le_trans hi.wsz (r1 b B p h4 hf h6)
          · intro hf
            have := (hO _ h5).2
            rw [show B.fr = true from this] at hf
            cases hf
      · intro b B hb
        show b < S.nb
        rcases hbs b B hb with ⟨h3, h4⟩ | ⟨h3, h4, q, h5⟩
        · omega
        · rw [← hnb]; exact ho.inv.nb b B h4
      · intro b B hb hf
        show B.g < S.nb ∧ b ≤ ((S.lay h).grp B.g).1
        rcases hbs b B hb with ⟨h3, h4⟩ | ⟨h3, h4, q, h5⟩
        · obtain ⟨k1, k2⟩ := hi.gnb b B h4 hf
          rw [hg0 B.g (by omega)]
          exact ⟨by omega, k2⟩
        · obtain ⟨k1, k2⟩ := ho.inv.gnb b B h4 hf
          rw [hg1 _ h5, ← hnb]
          exact ⟨k1, k2⟩
      · intro g q hq
        show g < S.nb ∧ q.1 < S.nb ∧ q.2 ≤ q.1
        rcases addG_get S.L h.gs g q hq with ⟨p, k1, k2, k3⟩ | k1
        · have h4 := (hL p k1).2
          rw [k2, k3] at h4
          rw [← hnb]
          exact ho.inv.gs g q h4
        · obtain ⟨k2, k3, k4⟩ := hi.gs g q k1
          exact ⟨by omega, by omega, k4⟩
      · intro b1 b2 B1 B2 p1 p2 g1 g2 f1 f2 q1 q2 er
        rcases hbs b1 B1 g1 with ⟨h3, h4⟩ | ⟨h3, h4, x, h5⟩ <;> rcases hbs b2 B2 g2 with ⟨k3, k4⟩ | ⟨k3, k4, y, k5⟩
        · rw [ρ0 b1 h3] at q1; rw [ρ0 b2 k3] at q2
          exact hi.als b1 b2 B1 B2 p1 p2 h4 k4 f1 f2 q1 q2 er
        · rw [ρ0 b1 h3] at q1; rw [ρ1' b2 k3] at q2
          have := r0 b1 B1 p1 h4 q1
          have := r1 b2 B2 p2 k4 f2 q2
          omega
        · rw [ρ1' b1 h3] at q1; rw [ρ0 b2 k3] at q2
          have := r1 b1 B1 p1 h4 f1 q1
          have := r0 b2 B2 p2 k4 q2
          omega
        · rw [ρ1' b1 h3] at q1; rw [ρ1' b2 k3] at q2
          exact ho.inv.als b1 b2 B1 B2 p1 p2 h4 k4 f1 f2 q1 q2 er
      · intro b1 b2 B1 B2 p1 p2 g1 g2 f1 f2 q1 q2 eg rr1 rr2 hb
        rcases hbs b1 B1 g1 with ⟨h3, h4⟩ | ⟨h3, h4, x, h5⟩ <;> rcases hbs b2 B2 g2 with ⟨k3, k4⟩ | ⟨k3, k4, y, k5⟩
        · rw [ρ0 b1 h3] at q1; rw [ρ0 b2 k3] at q2
          exact hi.lim b1 b2 B1 B2 p1 p2 h4 k4 f1 f2 q1 q2 eg (rd0 b1 B1 h4 rr1) (rd0 b2 B2 k4 rr2) hb
        · have := (hi.gnb b1 B1 h4 f1).1
          have := (hO _ k5).1
          simp only at this
          omega
        · have := (hi.gnb b2 B2 k4 f2).1
          have := (hO _ h5).1
          simp only at this
          omega
        · rw [ρ1' b1 h3] at q1; rw [ρ1' b2 k3] at q2
          exact ho.inv.lim b1 b2 B1 B2 p1 p2 h4 k4 f1 f2 q1 q2 eg (rd1 b1 B1 x h5 rr1) (rd1 b2 B2 y k5 rr2) hb
      · intro i hi'
        have hi' : S.nb ≤ i := hi'
        show (if i < S.k then ρ i else ρ1 i) = none
        rw [if_neg (by omega)]
        exact ho.inv.free i (by omega)
      · exact Nat.le_trans hi.wsz ho.tr.size
      · refine ⟨fun b m hb => ?_, fun b1 b2 x1 x2 p1 p2 g1 g2 q1 q2 er => ?_⟩
        · show b < S.nb ∧ _
          rcases hms b m hb with ⟨h3, h4⟩ | ⟨h3, h4⟩
          · obtain ⟨k1, p, o, k2, k3, k4, k5⟩ := hi.mp.ent b m h4
            exact ⟨by omega, p, o, ext0 b p k2, k3, by rw [frame _ (m0 b m p h4 k2)]; exact k4, k5.ext ext0⟩
          · obtain ⟨k1, p, o, k2, k3, k4, k5⟩ := ho.inv.mp.ent b m h4
            exact ⟨by omega, p, o, ext1 b p k2, Nat.le_trans hi.wsz k3, k4, k5.ext ext1⟩
        · rcases hms b1 x1 g1 with ⟨h3, h4⟩ | ⟨h3, h4⟩ <;> rcases hms b2 x2 g2 with ⟨k3, k4⟩ | ⟨k3, k4⟩
          · rw [ρ0 b1 h3] at q1; rw [ρ0 b2 k3] at q2
            exact hi.mp.inj b1 b2 x1 x2 p1 p2 h4 k4 q1 q2 er
          · rw [ρ0 b1 h3] at q1; rw [ρ1' b2 k3] at q2
            have := m0 b1 x1 p1 h4 q1
            have := m1 b2 x2 p2 k4 q2
            omega
          · rw [ρ1' b1 h3] at q1; rw [ρ0 b2 k3] at q2
            have := m1 b1 x1 p1 h4 q1
            have := m0 b2 x2 p2 k4 q2
            omega
          · rw [ρ1' b1 h3] at q1; rw [ρ1' b2 k3] at q2
            exact ho.inv.mp.inj b1 b2 x1 x2 p1 p2 h4 k4 q1 q2 er
      · exact Base.st hi.jj fun r hr => frame r (Nat.lt_of_lt_of_le hr hi.wsz)
    · refine ⟨ext0, by show h.nb ≤ S.nb; omega, fun b p hb => ?_, fun r hr _ _ => frame r hr, fun l hl b B p hb hB hp => ?_, fun l hl b m p hb hl' hp => ?_, ho.tr.size, ho.tr.tape, ho.tr.os, ho.tr.output, rfl⟩
      · by_cases hbk : b < S.k
        · rw [ρ0 b hbk] at hb; exact .inl hb
        · rw [ρ1' b (by omega)] at hb
          rcases ho.tr.new b p hb with h3 | ⟨-, h3, h4⟩
          · cases h3
          · exact .inr ⟨hi.free b (by omega), by omega, by show b < S.nb; omega⟩
      · rcases hbs b B hb with ⟨h3, h4⟩ | ⟨h3, h4, x, h5⟩
        · rw [ρ0 b h3] at hp
          exact .inr ⟨b, B, p, h4, hB, hp, rfl⟩
        · rw [ρ1' b h3] at hp
          exact .inl (r1 b B p h4 hB.1 hp)
      · rcases hms b m hb with ⟨h3, h4⟩ | ⟨h3, h4⟩
        · rw [ρ0 b h3] at hp
          exact .inr ⟨b, m, p, h4, hl', hp, rfl⟩
        · rw [ρ1' b h3] at hp
          exact .inl (m1 b m p h4 hp)

/-- A closed sentence that holds: it answers true, and leaves all as it was. -/
def truth : Fun := fun args h => List.rec (motive := fun _ => Res) (.ret (.bool true) h) (fun _ _ _ => .fail) args

theorem truth_sound {P : Program} {f : FuncId} {g : Fun} (hF : FSound P f g) (hT : isT (g [] H0) = true) : FSound P f truth := by
  intro N0 hN ρ h w args Args v h' e hi ha
  cases args with
  | cons x l => exact absurd (show Res.fail = .ret v h' from e) (by simp)
  | nil =>
    have e : Res.ret (.bool true) h = Res.ret v h' := e
    injection e with e1 e2
    subst e1
    subst e2
    obtain ⟨h1, er⟩ := isT_inv hT
    have hj : (⟨w.heap.size, N0.g⟩ : Base).J w := fun g hg => by
      obtain ⟨h1, m, h2⟩ := hi.jj g hg
      exact ⟨Nat.lt_of_lt_of_le h1 hi.wsz, m, h2⟩
    have hA : Args.toList = [] := by cases hA : Args.toList with
      | nil => rfl
      | cons y m => rw [hA] at ha; cases ha
    refine (hF ⟨w.heap.size, N0.g⟩ hN (fun _ => none) H0 w [] Args (.bool true) h1 er (inv_Hs 0 hj) (by rw [hA]; exact .nil)).mono fun e w' ⟨V, ρ1, h2, ho⟩ => ⟨V, ρ, h2, ?_⟩
    have frame : ∀ r, r < w.heap.size → w'.heap[r]? = w.heap[r]? := fun r hr => ho.tr.frame r hr (fun b B p hb => by cases hb) (fun b m p hb => by cases hb)
    refine ⟨ho.val, ⟨fun b B hb => ?_, hi.nb, hi.gnb, hi.gs, hi.als, hi.lim, hi.free, Nat.le_trans hi.wsz ho.tr.size, ?_, Base.st hi.jj fun r hr => frame r (Nat.lt_of_lt_of_le hr hi.wsz)⟩,
      ⟨Ext.refl ρ, Nat.le_refl _, fun b p hb => .inl hb, fun r hr _ _ => frame r hr, fun l hl b B p hb hB hp => .inr ⟨b, B, p, hb, hB, hp, rfl⟩, fun l hl b m p hb hl' hp => .inr ⟨b, m, p, hb, hl', hp, rfl⟩, ho.tr.size, ho.tr.tape, ho.tr.os, ho.tr.output, rfl⟩⟩
    · obtain ⟨p, h6, h7⟩ := hi.blk b B hb
      exact ⟨p, h6, h7.later (Ext.refl ρ) (frame _ h7.lt) fun h => h⟩
    · exact hi.mp.later (Ext.refl ρ) (Nat.le_refl _) fun r o ho _ => frame r (Array.getElem?_eq_some_iff.1 ho).1
end
end Go.AM

namespace Go.AM
open Go
set_option autoImplicit false
noncomputable section
abbrev I (n : Nat) : AV := .int 63 (.ofNat n)
abbrev J (n : Nat) : AV := .int 8 (.ofNat n)
abbrev K (n : Nat) : AV := .int 31 (.ofNat n)
/-- A field's address. -/
def fa (n : Nat) (x : AV) (k : AV → Res) : Res := cP x fun p o => k (.ptr p (Nat.add o n))
/-- A field's value. -/
def fl (n : Nat) (h : Hp) (x : AV) (k : AV → Res) : Res := cP x fun p o => ld1 h (.ptr p (Nat.add o n)) k
def nl (n : Nat) (h : Hp) (x : AV) (k : AV → Res) : Res := nck x fun v => fl n h v k
def na (n : Nat) (x : AV) (k : AV → Res) : Res := nck x fun v => fa n v k
/-- What is done only where its guard says so. -/
def gj (x : AV) (want : Bool) (r : Res) (h : Hp) (k : AV → Hp → Res) : Res := jn (gd x want r (.norm [.tup .nil] h)) fun w h => uc w fun v _ => k v h
/-- A number's rest, without its sign. -/
def smallF : Fun := fun a b => uc a fun a c => uc c fun c d => uz d (iRem a c fun a => jn (ltN a (I 0) fun c => ifB c (iNeg a fun a => .norm [a] b) (.norm [a] b)) fun a b => uc a fun a _ => cK a fun a => .ret a b)
theorem smallF_eq (a : Int) (m : Nat) (hm : 0 < m) (hb : m ≤ 1000) (h : Hp) : smallF [.int 63 a, I m] h = .ret (I (a.tmod m).natAbs) h := by
  have e : smallF [.int 63 a, I m] h = ifB (eqI (Int.ofNat m) (Int.ofNat 0)) .fail ((fun a => jn (ltN a (I 0) fun c => ifB c (iNeg a fun a => .norm [a] h) (.norm [a] h)) fun a b => uc a fun a _ => cK a fun a => .ret a b) (.int 63 (Int.tmod a (Int.ofNat m)))) := rfl
  have e0 : eqI (Int.ofNat m) (Int.ofNat 0) = false := by
    cases m with
    | zero => omega
    | succ m => rfl
  rw [e, e0]
  show (fun a => jn (ltN a (I 0) fun c => ifB c (iNeg a fun a => .norm [a] h) (.norm [a] h)) fun a b => uc a fun a _ => cK a fun a => .ret a b) (.int 63 (Int.tmod a (Int.ofNat m))) = _
  have hlt : (a.tmod m).natAbs < m := by
    rw [Int.natAbs_tmod]
    exact Nat.mod_lt _ hm
  show (fun x : Int => (fun a => jn (ltN a (I 0) fun c => ifB c (iNeg a fun a => .norm [a] h) (.norm [a] h)) fun a b => uc a fun a _ => cK a fun a => .ret a b) (.int 63 x)) (Int.tmod a (m : Int)) = _
  generalize Int.tmod a (m : Int) = x at hlt
  cases x with
  | ofNat r => rfl
  | negSucc r =>
    have hr : r + 1 < m := hlt
    have hw : wrapC 63 (Int.sub (Int.ofNat 0) (Int.negSucc r)) = Int.ofNat (r + 1) := by
      have : Int.sub (Int.ofNat 0) (Int.negSucc r) = Int.ofNat (r + 1) := by
        show (0 : Int) - Int.negSucc r = _
        rw [Int.negSucc_eq]; show _ = ((r + 1 : Nat) : Int); omega
      rw [this]
      show Bool.rec (motive := fun _ => Int) _ (Int.ofNat (r + 1)) (Nat.blt (r + 1) (Nat.pow 2 63)) = _
      rw [show Nat.blt (r + 1) (Nat.pow 2 63) = true from by rw [blt_iff]; have : Nat.pow 2 63 = 9223372036854775808 := by decide
                                                             omega]
    show jn (iNeg (.int 63 (Int.negSucc r)) fun a => .norm [a] h) _ = _
    show jn (.norm [.int 63 (wrapC 63 (Int.sub (Int.ofNat 0) (Int.negSucc r)))] h) _ = _
    rw [hw]
    rfl
end
end Go.AM

namespace Go.AM
open Go Go.RowKit
set_option autoImplicit false

theorem Inv.below {N0 : Base} {ρ : Rho} {h : Hp} {w w' : World} (hi : Inv N0 ρ h w) (hb : Below w.heap.size w w') : Inv N0 ρ h w' := by
  have hw : ∀ (r : Nat) (o : Obj), w.heap[r]? = some o → w'.heap[r]? = some o := fun r o hr => by
    rw [hb.block r (by
      rw [Array.getElem?_eq_some_iff] at hr
      exact hr.1), hr]
  refine ⟨fun b B hB => ?_, hi.nb, hi.gnb, hi.gs, hi.als, hi.lim, hi.free, Nat.le_trans hi.wsz hb.size, hi.mp.later (Ext.refl ρ) (Nat.le_refl _) fun r o hr _ => by rw [hw r o hr, hr], Base.st hi.jj fun r hr => hb.block r (Nat.lt_of_lt_of_le hr hi.wsz)⟩
  obtain ⟨p, h1, h2⟩ := hi.blk b B hB
  obtain ⟨cs, e, fz, g1, g2, g3, g4⟩ := h2.obj
  exact ⟨p, h1, ⟨cs, e, fz, hw _ _ g1, g2, g3, g4⟩, h2.fit, h2.side⟩

theorem Tr.below (ρ : Rho) (h : Hp) {w w' : World} (hb : Below w.heap.size w w') : Tr ρ h w ρ h w' :=
  ⟨Ext.refl ρ, Nat.le_refl _, fun _ _ e => .inl e, fun r hr _ _ => hb.block r hr, fun l _ b B p h1 h2 h3 => .inr ⟨b, B, p, h1, h2, h3, rfl⟩, fun l _ b m p h1 h2 h3 => .inr ⟨b, m, p, h1, h2, h3, rfl⟩, hb.size, hb.tape, hb.os, hb.output, rfl⟩

/-- A text's bytes. -/
def unp (n x : Nat) : List UInt8 := (List.range n).map fun i => UInt8.ofNat (byteAt x i)
theorem unp_pack (l : List UInt8) : unp l.length (packB l) = l := by
  unfold unp
  apply List.ext_getElem (by simp)
  intro i h1 h2
  rw [List.getElem_map, List.getElem_range, byteAt_eq l i h2]
  exact UInt8.toNat_inj.1 (by rw [UInt8.toNat_ofNat_of_lt' l[i].toNat_lt])

def rep1 (o z : UInt8) (l : List UInt8) : List UInt8 := l.map fun b => if b = o then z else b
theorem replaceK_one (o z : UInt8) : ∀ l : List UInt8, Lib.replaceK [o] [z] (l.count o) l = rep1 o z l := by
  intro l
  induction l with
  | nil => rfl
  | cons b l ih =>
    by_cases hb : b = o
    · subst hb
      rw [List.count_cons_self, Lib.replaceK_hit [b] [z] _ _ 0 (by rw [Lib.index_one]; unfold Lib.indexByte; simp)]
      simp only [List.take_zero, List.nil_append, List.length_singleton, Nat.zero_add, List.drop_one, List.tail_cons, ih, rep1, List.map_cons, if_true, List.singleton_append]
    · rw [List.count_cons_of_ne hb]
      have e : rep1 o z (b :: l) = b :: rep1 o z l := by simp [rep1, hb]
      rw [e, ← ih]
      cases hk : l.count o with
      | zero => rfl
      | succ k =>
        obtain ⟨i, hi⟩ := Lib.index_of_count (s := l) (old := [o]) (by rw [Lib.count_one]; omega)
        have hi2 : Lib.index (b :: l) [o] = ((i + 1 : Nat) : Int) := by
          rw [Lib.index_one] at hi ⊢
          have hbo : (b == o) = false := by simpa using hb
          unfold Lib.indexByte
          rw [hbo, hi]
          simp only [Bool.false_eq_true, if_false, beq_iff_eq]
          rw [if_neg (by omega)]
          omega
        rw [Lib.replaceK_hit [o] [z] k (b :: l) (i + 1) hi2, Lib.replaceK_hit [o] [z] k l i hi]
        simp
theorem replaceAll_one (o z : UInt8) (l : List UInt8) : Lib.replaceAll l [o] [z] = rep1 o z l := by
  unfold Lib.replaceAll Lib.replace
  by_cases h : o = z
  · subst h
    simp only [BEq.rfl, if_true]
    unfold rep1
    induction l with
    | nil => rfl
    | cons b l ih => rw [List.map_cons, ← ih]; congr 1; split <;> simp_all
  · have h1 : ([o] == [z]) = false := by simpa using h
    rw [h1]
    simp only [Bool.false_eq_true, if_false]
    unfold Lib.replaceNum
    rw [if_pos (.inl (by decide)), Lib.count_one, replaceK_one]

noncomputable def repF : Fun := fun a h => List.rec (motive := fun _ => Res) .fail (fun s t _ => List.rec (motive := fun _ => Res) .fail (fun o t _ => List.rec (motive := fun _ => Res) .fail (fun z t _ => List.rec (motive := fun _ => Res)
  (cS s fun n x => cS o fun no xo => cS z fun nz xz => ifB (Nat.blt n 1000000) (ifB (Nat.beq no 1) (ifB (Nat.beq nz 1) (.ret (.str n (packB (rep1 (UInt8.ofNat xo) (UInt8.ofNat xz) (unp n x)))) h) .fail) .fail) .fail) (fun _ _ _ => .fail) t) t) t) a
theorem one_byte (s : ByteArray) (h : s.data.size = 1) : s.data.toList = [UInt8.ofNat (packB s.data.toList)] := by
  have h1 : s.data.toList.length = 1 := by simpa using h
  obtain ⟨b, hb⟩ := List.length_eq_one_iff.1 h1
  rw [hb]
  have e : packB [b] = b.toNat := by
    have : packB [b] = b.toNat + 256 * 0 := rfl
    omega
  rw [e]
  exact congrArg (fun x => [x]) (UInt8.toNat_inj.1 (by rw [UInt8.toNat_ofNat_of_lt' b.toNat_lt]))

theorem repF_sound {P : Program} {f : FuncId} {gm : Nat} (h0 : P.globalNamed "internal/bytealg.MaxLen" = some gm)
    (hc : ∀ (s old new : ByteArray) (m : Int) (w : World), s.size < 4294967281 → w.cell? ⟨gm, 0, none⟩ = some (.int .i64 m) → 1 ≤ old.size → s.size + Lib.countB s old * new.size ≤ 140737488355328 →
      Calls P f #[.string s, .string old, .string new] w fun e w' => e = .returned (.string ⟨(Lib.replaceAll s.data.toList old.data.toList new.data.toList).toArray⟩) ∧ Below w.heap.size w w') : FSound P f repF := by
  intro N0 hN ρ h w args Args v h' e hi ha
  cases ha' : Args.toList with
  | nil => rw [ha'] at ha; cases ha; exact absurd (show Res.fail = .ret v h' from e) (by simp)
  | cons A L =>
    rw [ha'] at ha
    cases ha with
    | @cons a _ _ _ hA hL =>
      cases hL with
      | nil => exact absurd (show Res.fail = .ret v h' from e) (by simp)
      | @cons b _ _ _ hB hL2 =>
        cases hL2 with
        | nil => exact absurd (show Res.fail = .ret v h' from e) (by simp)
        | @cons c _ _ _ hC hL3 =>
          cases hL3 with
          | cons hD hL4 => exact absurd (show Res.fail = .ret v h' from e) (by simp)
          | nil =>
            have e : (cS a fun n x => cS b fun no xo => cS c fun nz xz => ifB (Nat.blt n 1000000) (ifB (Nat.beq no 1) (ifB (Nat.beq nz 1) (.ret (.str n (packB (rep1 (UInt8.ofNat xo) (UInt8.ofNat xz) (unp n x)))) h) .fail) .fail) .fail) = .ret v h' := by
              rw [← e]
              refine Eq.symm ?_
              show now (cS a _) = _
              rw [now_cS]; refine congrArg _ (funext fun _ => funext fun _ => ?_)
              rw [now_cS]; refine congrArg _ (funext fun _ => funext fun _ => ?_)
              rw [now_cS]; refine congrArg _ (funext fun _ => funext fun _ => ?_)
              rw [now_ifB, now_ifB, now_ifB]; rfl
            obtain ⟨n, x, rfl, e1⟩ := cS_inv e (by simp)
            obtain ⟨no, xo, rfl, e2⟩ := cS_inv e1 (by simp)
            obtain ⟨nz, xz, rfl, e3⟩ := cS_inv e2 (by simp)
            obtain ⟨g1, e4⟩ := ifF_inv e3 (by simp)
            obtain ⟨g2, e5⟩ := ifF_inv e4 (by simp)
            obtain ⟨g3, e6⟩ := ifF_inv e5 (by simp)
            rw [blt_iff] at g1
            rw [beq_iff] at g2 g3
            obtain ⟨s, rfl, rfl, rfl⟩ := hA
            obtain ⟨o, rfl, rfl, rfl⟩ := hB
            obtain ⟨z, rfl, rfl, rfl⟩ := hC
            cases e6
            have hg : N0.g = some gm := hN.trans h0
            obtain ⟨-, m, hm⟩ := hi.jj gm hg
            have hAr : Args = #[.string s, .string o, .string z] := Array.toList_inj.1 ha'
            rw [hAr]
            have hcnt : Lib.countB s o ≤ s.size := by
              unfold Lib.countB
              rw [one_byte o g2, Lib.count_one]
              exact Nat.le_trans List.count_le_length (by simp)
            have hz : z.size = 1 := g3
            have hs : s.size < 1000000 := g1
            refine Calls.mono (hc s o z m w (by omega) hm (by show 1 ≤ o.data.size; omega) (by rw [hz]; omega)) ?_
            rintro e w' ⟨rfl, hb⟩
            refine ⟨_, ρ, rfl, ?_, hi.below hb, Tr.below ρ _ hb⟩
            refine ⟨_, rfl, ?_, ?_⟩
            · rw [one_byte o g2, one_byte z g3, replaceAll_one]
              simp [rep1]
            · have hu := unp_pack s.data.toList
              rw [Array.length_toList] at hu
              have ho := one_byte o g2
              have hz' := one_byte z g3
              generalize hob : UInt8.ofNat (packB o.data.toList) = ob at ho ⊢
              generalize hzb : UInt8.ofNat (packB z.data.toList) = zb at hz' ⊢
              rw [ho, hz', replaceAll_one, hu]

theorem snd_by {P : Program} {f : FuncId} {fn : Func} {g : Fun} (hs : FSound P f g) (hf : P.funcs[f]? = some fn) (hn : (fn.name == "runtime.NumGoroutine") = false) (hb : fn.body.isSome = true) : Snd P f g := by
  obtain ⟨c, hc⟩ := Option.isSome_iff_exists.1 hb
  exact ⟨hs, enters_of hf hn hc⟩
end Go.AM

namespace Go.AM
open Go
set_option autoImplicit false
noncomputable section
/-- What the one says; where it says nothing, what the other says. -/
def orF (f g : Fun) : Fun := fun a h => Res.rec (motive := fun _ => Res) (g a h) (fun _ _ => .fail) (fun _ _ _ => .fail) (fun v h' => .ret v h') (fun p _ ih => .ask p ih) (f a h)
theorem orF_sound {P : Program} {f : FuncId} {g1 g2 : Fun} (h1 : FSound P f g1) (h2 : FSound P f g2) : FSound P f (orF g1 g2) := by
  intro N0 hN ρ h w args Args v h' e hi ha
  have key : ∀ q : Res, now (Res.rec (motive := fun _ => Res) (g2 args h) (fun _ _ => .fail) (fun _ _ _ => .fail) (fun v h' => .ret v h') (fun p _ ih => .ask p ih) q) = .ret v h' → now q = .ret v h' ∨ now (g2 args h) = .ret v h' := by
    intro q
    induction q with
    | fail => intro e; exact .inr e
    | norm x y => intro e; exact absurd (show Res.fail = .ret v h' from e) (by simp)
    | exit i x y => intro e; exact absurd (show Res.fail = .ret v h' from e) (by simp)
    | ret x y => intro e; exact .inl e
    | ask p q ih =>
      intro e
      cases p with
      | true => exact ih e
      | false => exact absurd (show Res.fail = .ret v h' from e) (by simp)
  rcases key (g1 args h) e with h3 | h3
  · exact h1 N0 hN ρ h w args Args v h' h3 hi ha
  · exact h2 N0 hN ρ h w args Args v h' h3 hi ha
/-- A call that answers a truth: it is asked whether it is true. -/
def askB (g : Fun) : Fun := fun a h => Res.rec (motive := fun _ => Res) .fail (fun _ _ => .fail) (fun _ _ _ => .fail) (fun v h' => cB v fun p => .ask p (.ret (.bool true) h')) (fun p _ ih => .ask p ih) (g a h)
theorem askB_sound {P : Program} {f : FuncId} {g : Fun} (h1 : FSound P f g) : FSound P f (askB g) := by
  intro N0 hN ρ h w args Args v h' e hi ha
  refine h1 N0 hN ρ h w args Args v h' ?_ hi ha
  have key : ∀ q : Res, now (Res.rec (motive := fun _ => Res) .fail (fun _ _ => .fail) (fun _ _ _ => .fail) (fun v h' => cB v fun p => .ask p (.ret (.bool true) h')) (fun p _ ih => .ask p ih) q) = .ret v h' → now q = .ret v h' := by
    intro q
    induction q with
    | ret x y =>
      intro e
      have e : now (cB x fun p => .ask p (.ret (.bool true) y)) = .ret v h' := e
      cases x with
      | bool b =>
        cases b with
        | true => exact e
        | false => exact absurd (show Res.fail = .ret v h' from e) (by simp)
      | _ => exact absurd (show Res.fail = .ret v h' from e) (by simp)
    | ask p q ih =>
      intro e
      cases p with
      | true => exact ih e
      | false => exact absurd (show Res.fail = .ret v h' from e) (by simp)
    | _ => intro e; exact absurd (show Res.fail = .ret v h' from e) (by simp)
  exact key (g args h) e
/-- A call of three arguments: the third is asked to be this number. -/
def sub3 (n : Int) (g : Fun) : Fun := fun a h => uc a fun p a => uc a fun s a => uc a fun w a => uz a (cI w fun c x => .ask (eqI x n) (g [p, s, .int c n] h))
theorem sub3_sound {P : Program} {f : FuncId} {g : Fun} (n : Int) (h1 : FSound P f g) : FSound P f (sub3 n g) := by
  intro N0 hN ρ h w args Args v h' e hi ha
  refine h1 N0 hN ρ h w args Args v h' ?_ hi ha
  have no : ∀ {q : Res}, now q = .ret v h' → q ≠ .fail := fun e h => by rw [h] at e; cases e
  obtain ⟨p, a1, rfl, e1⟩ := uc_inv rfl (no e)
  have e := (congrArg now e1).trans e
  obtain ⟨s, a2, rfl, e2⟩ := uc_inv rfl (no e)
  have e := (congrArg now e2).trans e
  obtain ⟨x, a3, rfl, e3⟩ := uc_inv rfl (no e)
  have e := (congrArg now e3).trans e
  obtain ⟨rfl, e4⟩ := uz_inv rfl (no e)
  have e := (congrArg now e4).trans e
  obtain ⟨c, y, rfl, e5⟩ := cI_inv rfl (no e)
  have e := (congrArg now e5).trans e
  obtain ⟨h2, h3⟩ := now_ask (p := eqI y n) (by rw [show now (.ask (eqI y n) (g [p, s, .int c n] h)) = .ret v h' from e]; simp)
  rw [eqI_eq] at h2
  have hy : y = n := by simpa using h2
  subst hy
  exact h3.symm.trans e
abbrev pB (k n o : Nat) : AV := .ptr (Nat.add k n) o
abbrev mB (k n : Nat) : AV := .map (Nat.add k n)
abbrev lB (k n o x y : Nat) (z : Option Nat) : AV := .sl (Nat.add k n) o x y z
end
end Go.AM

namespace Go.AM
open Go
set_option autoImplicit false

/-- V is a slice of numbers of kind k that reads as the list l. -/
def ArgS (k : IntKind) (w : World) (V : Value) (l : List Int) : Prop :=
  (V = .slice none 0 0 ∧ l = []) ∨ ∃ (a : Addr) (len cap : Nat) (zs : List Int), V = .slice (some a) len cap ∧ len ≤ cap ∧ cap ≤ maxLen ∧ zs.length = cap ∧ l = zs.take len ∧
    (∀ i, i < zs.length → w.cell? (a.add i) = some (.int k (zs.getD i 0))) ∧ ∀ n ∈ zs, (Lit.int k n).wf = true

theorem ArgS.wf {k : IntKind} {w : World} {V : Value} {l : List Int} (h : ArgS k w V l) : ∀ n ∈ l, (Lit.int k n).wf = true := by
  rcases h with ⟨-, rfl⟩ | ⟨a, len, cap, zs, -, -, -, -, rfl, -, h⟩
  · intro n hn; cases hn
  · exact fun n hn => h n (List.mem_of_mem_take hn)

section
variable {H : Type} {enc : TypeId × Value → H} {P : Program} {w : World}
open Go.ChangeShapes in
theorem open_arg {t e : TypeId} {k : IntKind} {v : Value} {d : DataW H} {p : List MemPlace} (ht : P.underlying t = some (.slice e)) (he : P.underlying e = some (.int k)) (hc : P.cellsOf e = 1)
    (hone : v.cells.toList = [v]) (h : DataW.Trod enc P w 0 (fun _ => true) true t v d p) :
    ∃ l, ArgS k w v l ∧ ∀ (w' : World) (sp : Nat → Bool), (∀ r, r < w.heap.size → w'.heap[r]? = w.heap[r]?) → (∀ q ∈ p, sp q.block = true) → DataW.Trod enc P w' 0 sp true t v d p := by
  obtain ⟨fuel, hf⟩ := h
  rcases open_ints ht he hc hf with ⟨hcs, hx⟩ | ⟨a, len, cap, zs, hcs, hb, hl, hm, hz, hx, hcell, hwf⟩
  · rw [hone] at hcs
    obtain rfl : v = .slice none 0 0 := by simpa using hcs
    obtain ⟨rfl, rfl⟩ : d = .nil ∧ p = [] := by simpa using hx
    exact ⟨[], .inl ⟨rfl, rfl⟩, fun w' sp _ _ => ⟨1, by simp [DataW.trod, Value.cells, ht]⟩⟩
  · rw [hone] at hcs
    obtain rfl : v = .slice (some a) len cap := by simpa using hcs
    obtain ⟨rfl, rfl⟩ : d = .slice (lits k (zs.take len)) (lits k (zs.drop len)) ∧ p = MemPlace.row a zs.length := by simpa using hx
    have hz' : zs.length = cap := by simpa using hz
    refine ⟨_, .inr ⟨a, len, cap, zs, rfl, hl, hm, hz', rfl, hcell, hwf⟩, fun w' sp hw hsp => ⟨2, ?_⟩⟩
    have hlt : ∀ i, i < zs.length → a.block < w.heap.size := by
      intro i hi
      have := hcell i hi
      unfold World.cell? at this
      rw [block_add] at this
      cases hr : w.heap[a.block]? with
      | none => rw [hr] at this; cases this
      | some o => exact (Array.getElem?_eq_some_iff.1 hr).1
    have hcell' : ∀ i, i < zs.length → w'.cell? (a.add i) = some (.int k (zs.getD i 0)) := by
      intro i hi
      have h1 := hcell i hi
      unfold World.cell? at h1 ⊢
      rw [block_add] at h1 ⊢
      rw [hw _ (hlt i hi)]
      exact h1
    have hzz : zs.length = if sp a.block then cap else len := by
      by_cases hc0 : zs.length = 0
      · split <;> omega
      · have : sp a.block = true := by
          have := hsp (.cell a.block a.off) (MemPlace.mem_row.2 ⟨0, by omega, by simp⟩)
          exact this
        rw [this]; simpa using hz'
    have := shut_ints (enc := enc) (w := w') (base := 0) (spare := sp) (held := true) 0 ht he hc (Nat.zero_le _) hl hm hzz hcell' hwf
    rw [hone]
    exact this
end

/-- Memory that holds arguments alone. -/
structure Args (g : Option Nat) (ρ : Rho) (h : Hp) (w : World) : Prop where
  inv : Inv (b0 w g) ρ h w
  fr : ∀ b B, h.bs.get b = some B → B.fr = false
  gs : h.gs = .e
  ms : h.ms = .e
  lo : h.lo = 0

theorem Args.none {w : World} {g : Option Nat} (hj : (b0 w g).J w) : Args g (fun _ => none) H0 w := ⟨inv_H0 hj, fun b B h => (by cases h), rfl, rfl, rfl⟩

theorem cellL_get (l : List AV) : ∀ (i j : Nat), (cellL l i).get j = if h : i ≤ j ∧ j - i < l.length then some (l[j - i]'h.2) else none := by
  induction l with
  | nil => intro i j; rw [dif_neg (fun h => absurd h.2 (Nat.not_lt_zero _))]; rfl
  | cons v l ih =>
    intro i j
    have e : cellL (v :: l) i = T.set v (cellL l (i + 1)) i := rfl
    rw [e, T.get_set]
    by_cases hj : j = i
    · subst hj
      rw [if_pos rfl, dif_pos ⟨Nat.le_refl _, by simp⟩]
      simp
    · rw [if_neg hj, ih]
      by_cases h : i + 1 ≤ j ∧ j - (i + 1) < l.length
      · rw [dif_pos h, dif_pos ⟨by omega, by simp only [List.length_cons]; omega⟩]
        have e2 : j - i = (j - (i + 1)) + 1 := by omega
        simp only [e2, List.getElem_cons_succ]
      · rw [dif_neg h, dif_neg]
        intro h2
        simp only [List.length_cons] at h2
        exact h ⟨by omega, by omega⟩
/-- Memory with the first numbers of an argument. -/
noncomputable def Ha (m : Nat) (t : T AV) : Hp := ⟨1, T.set ⟨false, 0, m, .nil, t⟩ .e 0, .e, .e, 0, ⟨[], .unk⟩⟩
theorem at_cells (m : Nat) (t : T AV) {i : Nat} (hi : i < m) {v : AV} (hv : t.get i = some v) : (⟨false, 0, m, .nil, t⟩ : Blk).at i = v := by
  have e : (⟨false, 0, m, .nil, t⟩ : Blk).at i = Bool.rec (motive := fun _ => AV) .unk (Option.rec (motive := fun _ => AV) (nth .nil (Nat.mod i (len .nil))) (fun v => v) (t.get i)) (Nat.blt i m) := rfl
  rw [e, (blt_iff i m).2 hi, hv]

theorem one_arg {w : World} {g : Option Nat} (hj : (b0 w g).J w) {k : IntKind} {V : Value} {l : List Int} (ha : ArgS k w V l) (m : Nat) (hm : m ≤ l.length) :
    ∃ ρ h v, Args g ρ h w ∧ VR ρ v V ∧ ((l = [] ∧ h = H0 ∧ (v = .nils ∨ v = .esl)) ∨ v = .sl 0 0 l.length 1 none ∧ h = Ha m (cellL ((l.take m).map fun n => AV.int (cOf k) n) 0)) := by
  have hF := Args.none hj
  rcases ha with ⟨rfl, rfl⟩ | ⟨a, len, cap, zs, rfl, hl, hmx, hz, rfl, hcell, -⟩
  · exact ⟨_, H0, .nils, hF, rfl, .inl ⟨rfl, rfl, .inl rfl⟩⟩
  · by_cases h0 : len = 0
    · subst h0
      exact ⟨_, H0, .esl, hF, ⟨a, cap, rfl⟩, .inl ⟨by simp, rfl, .inr rfl⟩⟩
    · obtain ⟨b, off, rfl, hc⟩ := Go.ints_at hcell (by omega)
      have hll : (zs.take len).length = len := by simp; omega
      rw [hll] at hm ⊢
      have hrow : ∃ cs e fz, w.heap[b]? = some (.cells cs e fz) ∧ ∀ j, j < zs.length → cs[off + j]? = some (.int k (zs.getD j 0)) := by
        have h1 := hc 0 (by omega)
        unfold World.cell? at h1
        simp only at h1
        cases hr : w.heap[b]? with
        | none => rw [hr] at h1; cases h1
        | some o =>
          cases o with
          | cells cs e fz =>
            refine ⟨cs, e, fz, rfl, fun j hj => ?_⟩
            have h2 := hc j hj
            unfold World.cell? at h2
            simp only [hr] at h2
            simpa using h2
          | _ => rw [hr] at h1; cases h1
      obtain ⟨cs, e, fz, hr, hcs⟩ := hrow
      have hsz : off + cap ≤ cs.size := by
        have := hcs (cap - 1) (by omega)
        have := (Array.getElem?_eq_some_iff.1 this).1
        omega
      have hlt : b < w.heap.size := (Array.getElem?_eq_some_iff.1 hr).1
      have hi := hF.inv
      generalize ht : cellL (((zs.take len).take m).map fun n => AV.int (cOf k) n) 0 = t
      have hlen : (((zs.take len).take m).map fun n => AV.int (cOf k) n).length = m := by simp; omega
      have hget : ∀ x, (T.set (⟨false, 0, m, .nil, t⟩ : Blk) .e 0).get x = if x = 0 then some ⟨false, 0, m, .nil, t⟩ else Option.none := fun x => T.get_set _ _ _ _
      have hat : ∀ i (hi' : i < m), (⟨false, 0, m, .nil, t⟩ : Blk).at i = .int (cOf k) (zs.getD i 0) := by
        intro i hi'
        refine at_cells m t hi' ?_
        rw [← ht, cellL_get, dif_pos ⟨Nat.zero_le _, by rw [hlen]; omega⟩]
        simp [List.getD, show i < zs.length by omega]
      have look : ∀ x B, (T.set (⟨false, 0, m, .nil, t⟩ : Blk) .e 0).get x = some B → B.fr = false := by
        intro x B hx
        rw [hget] at hx
        by_cases e0 : x = 0
        · rw [if_pos e0] at hx
          obtain rfl := Option.some.inj hx
          rfl
        · rw [if_neg e0] at hx; cases hx
      refine ⟨ups (fun _ => none) 0 ⟨b, off, cs.size, cap⟩, Ha m t, .sl 0 0 len 1 none, ⟨⟨?_, ?_, ?_, ?_, ?_, ?_, ?_, Nat.le_refl _, ⟨?_, ?_⟩, hi.jj⟩, look, rfl, rfl, rfl⟩, ?_, .inr ⟨rfl, rfl⟩⟩
      · intro x B hx
        have hx : (T.set (⟨false, 0, m, .nil, t⟩ : Blk) .e 0).get x = some B := hx
        rw [hget] at hx
        by_cases e0 : x = 0
        · rw [if_pos e0] at hx
          obtain rfl := Option.some.inj hx
          subst e0
          refine ⟨_, ups_same _ _ _, ⟨cs, e, fz, hr, rfl, fun hf => (by cases hf), fun _ i hi' => ?_⟩, (by show off + m ≤ cs.size; omega), fun hf => (by cases hf), fun _ => hlt⟩
          exact ⟨_, hcs i (by have : i < m := hi'; omega), by rw [hat i hi']; exact ⟨k, rfl, rfl⟩⟩
        · rw [if_neg e0] at hx; cases hx
      · intro x B hx
        have hx : (T.set (⟨false, 0, m, .nil, t⟩ : Blk) .e 0).get x = some B := hx
        rw [hget] at hx
        by_cases e0 : x = 0
        · subst e0; exact Nat.lt_succ_self _
        · rw [if_neg e0] at hx; cases hx
      · intro x B hx hf; rw [look x B hx] at hf; cases hf
      · intro g q hq; cases hq
      · intro b1 b2 B1 B2 p1 p2 h1 h2 f1; rw [look b1 B1 h1] at f1; cases f1
      · intro b1 b2 B1 B2 p1 p2 h1 h2 f1; rw [look b1 B1 h1] at f1; cases f1
      · intro i hle
        have hle : 1 ≤ i := hle
        rw [ups_ne _ _ (by omega)]
      · intro x m hx; cases hx
      · intro b1 b2 m1 m2 p1 p2 h1; cases h1
      · exact ⟨⟨b, off, cs.size, cap⟩, cap, ups_same _ _ _, rfl, hl, .inl ⟨rfl, by show 0 + cap * 1 = cap; omega⟩, by show off + 0 + cap * 1 ≤ cs.size; omega⟩

theorem law_walk2 {P : Program} {f : FuncId} {g : Fun} (hF : FSound P f g) {args : List AV} {As : Array Value} {ρ : Rho} {h h' : Hp} {w : World} (hA : Args (P.globalNamed "internal/bytealg.MaxLen") ρ h w) (e : now (g args h) = .ret (.bool true) h') (ha : F2 (VR ρ) args As.toList) :
    Calls P f As w fun e w' => e = .returned (.bool true) ∧ Kept w w' := by
  refine (hF (b0 w _) rfl ρ h w args As (.bool true) h' e hA.inv ha).mono fun e w' ⟨V, ρ', h1, h2⟩ => ?_
  have h3 : V = .bool true := h2.val
  subst h3
  exact ⟨h1, h2.tr.kept hA.fr hA.ms⟩
end Go.AM

namespace Go.AM
open Go
set_option autoImplicit false

/-- The code behind the first parts of a row, and its hint. -/
def cutC : Nat → Code → Hint → Option (Code × Hint)
  | 0, c, x => some (c, x)
  | n + 1, .seq _ b, .s _ y => cutC n b y
  | _ + 1, _, _ => none
/-- What the first parts of a row denote. -/
noncomputable def denA (P : Program) (γ : FuncId → Option Fun) (fn : Func) : Nat → Code → Hint → Env → Hp → (Env → Hp → Res) → Res
  | 0, _, _, env, h, k => k env h
  | n + 1, .seq a b, .s x y, env, h, k => den P γ fn a x [] env h fun env h => denA P γ fn n b y env h k
  | _ + 1, _, _, _, _, _ => .fail

section
variable {P : Program} {N0 : Base} {ρ0 : Rho} {h0 : Hp} {w0 : World}

theorem cut_wp (hm : P.follows .mixedOrders = true) {γ : FuncId → Option Fun} (hγ : GSound P γ ∧ N0.fits P) (fn : Func) (s : Nat) (v : AV) (h1 : Hp) {Q : Exit → Act → World → Prop} {c2 : Code} {x2 : Hint}
    (hQ : ∀ ρ w1 env1 a1, St N0 fn.ntmps ρ0 h0 w0 ρ h1 w1 env1 a1 → env1 s = v → c2.wp P Q a1 w1) :
    ∀ (n : Nat) (c : Code) (x : Hint) (ρ : Rho) (h : Hp) (w : World) (env : Env) (a : Act), St N0 fn.ntmps ρ0 h0 w0 ρ h w env a → cutC n c x = some (c2, x2) →
      Sm (denA P γ fn n c x env h (fun env h => .norm [env s] h)) (.norm [v] h1) → c.wp P Q a w := by
  intro n
  induction n with
  | zero =>
    intro c x ρ h w env a hs hc e
    have hc : some (c, x) = some (c2, x2) := by cases x <;> cases c <;> exact hc
    have e : Sm (Res.norm [env s] h) (.norm [v] h1) := by cases x <;> cases c <;> exact e
    obtain ⟨rfl, rfl⟩ : c = c2 ∧ x = x2 := by injection hc with hc; injection hc with h1 h2; exact ⟨h1, h2⟩
    obtain ⟨e1, e2⟩ := Sm.norm e rfl
    subst e2
    exact hQ ρ w env a hs (by injection e1)
  | succ n ih =>
    intro c x ρ h w env a hs hc e
    cases c with
    | seq p q =>
      cases x with
      | s x y =>
        have hc : cutC n q y = some (c2, x2) := hc
        have e : Sm (den P γ fn p x [] env h (fun env h => denA P γ fn n q y env h (fun env h => .norm [env s] h))) (.norm [v] h1) := e
        refine wp_seq (wp_mono (den_sound hm hγ fn p x [] ρ h w env a _ _ (by simp) hs e) fun ex a' w' hp => ?_)
        cases ex with
        | normal => obtain ⟨ρ1, h2, env1, hs1, e1⟩ := hp; exact ih q y ρ1 h2 w' env1 a' hs1 hc e1
        | exit id => obtain ⟨ρ1, h2, env1, l, hs1, hx, e1⟩ := hp; simp at hx
        | ret =>
          obtain ⟨ρ1, h2, env1, hs1, e1⟩ := hp
          obtain ⟨v', h'', hv⟩ := rt_not (e1.nf (by simp))
          have e3 : Res.ret v' h'' = .norm [v] h1 := Eq.trans (by rw [hv]; rfl) e1
          cases e3
        | _ => exact hp.elim
      | _ => exact absurd rfl (e.nf (by simp))
    | _ => exact absurd rfl (e.nf (by simp))
end

/-- A law without arguments, walked in two parts. -/
theorem law_cut {P : Program} {f : FuncId} {fn : Func} {c c2 : Code} {x x2 : Hint} (hm : P.follows .mixedOrders = true) {γ : FuncId → Option Fun} (hγ : GSound P γ) (hf : P.funcs[f]? = some fn) (hb : fn.body = some c)
    (n s : Nat) (hc : cutC n c x = some (c2, x2)) {h1 h2 : Hp}
    (e1 : denA P γ fn n c x env0 H0 (fun env h => .norm [env s] h) = .norm [.bool true] h1)
    (e2 : den P γ fn c2 x2 [] (upd env0 s (.bool true)) H0 (fun env h => rt P fn env h) = .ret (.bool true) h2)
    (w : World) (hj : (b0 w (P.globalNamed "internal/bytealg.MaxLen")).J w) : Calls P f #[] w fun e w' => e = .returned (.bool true) ∧ Kept w w' := by
  refine calls_of_wp hf hb ?_
  have hs : St (b0 w (P.globalNamed "internal/bytealg.MaxLen")) fn.ntmps (fun _ => none) H0 w (fun _ => none) H0 w env0 { tmps := #[] ++ Array.replicate (fn.ntmps - (#[] : Array Value).size) undef, defers := [] } :=
    ⟨inv_H0 hj, Tr.refl _ _ _, fun t => trivial, by simp, rfl⟩
  refine cut_wp hm ⟨hγ, (rfl : (b0 w (P.globalNamed "internal/bytealg.MaxLen")).fits P)⟩ fn s (.bool true) h1 (fun ρ w1 env1 a1 hs1 hv => ?_) n c x _ H0 w env0 _ hs hc (.eq e1)
  have hj1 : (b0 w1 (P.globalNamed "internal/bytealg.MaxLen")).J w1 := fun g hg => by
    obtain ⟨h3, m, h4⟩ := hs1.inv.jj g hg
    exact ⟨Nat.lt_of_lt_of_le h3 hs1.inv.wsz, m, h4⟩
  have hs2 : St (b0 w1 (P.globalNamed "internal/bytealg.MaxLen")) fn.ntmps (fun _ => none) H0 w1 (fun _ => none) H0 w1 (upd env0 s (.bool true)) a1 := by
    refine ⟨inv_H0 hj1, Tr.refl _ _ _, fun t => ?_, hs1.sz, hs1.df⟩
    have h3 := hs1.er t
    by_cases ht : t = s
    · subst ht
      rw [hv] at h3
      rw [upd_eq, if_pos rfl]
      exact h3
    · rw [upd_eq, if_neg ht]; exact trivial
  refine wp_mono (den_sound hm ⟨hγ, (rfl : (b0 w1 (P.globalNamed "internal/bytealg.MaxLen")).fits P)⟩ fn c2 x2 [] _ H0 w1 _ a1 _ (.ret (.bool true) h2) (by simp) hs2 (.eq e2)) fun ex a' w' hp => ?_
  have fin : ∀ ρ2 h3 env2, St (b0 w1 (P.globalNamed "internal/bytealg.MaxLen")) fn.ntmps (fun _ => none) H0 w1 ρ2 h3 w' env2 a' → Sm (rt P fn env2 h3) (.ret (.bool true) h2) →
      a'.defers = [] ∧ ∃ V, (results fn a'.tmps).run P w' = .ok V w' ∧ Ending.returned V = .returned (.bool true) ∧ Kept w w' := by
    intro ρ2 h3 env2 hs3 e3
    obtain ⟨v', h'', hv'⟩ := rt_not (e3.nf (by simp))
    have e4 : Res.ret v' h'' = .ret (.bool true) h2 := Eq.trans (by rw [hv']; rfl) e3
    replace e3 := hv'.trans e4
    obtain ⟨rfl, V, h4, h5⟩ := rt_ok hs3.inv hs3.er e3
    have h5 : V = .bool true := h5
    subst h5
    refine ⟨hs3.df, _, h4, rfl, ?_⟩
    have k1 := hs1.tr.kept (fun b B hb => by cases hb) rfl
    have k2 := hs3.tr.kept (fun b B hb => by cases hb) rfl
    have hfr : ∀ r, r < w.heap.size → w'.heap[r]? = w.heap[r]? := fun r hr => (k2.2.1 r (Nat.lt_of_lt_of_le hr k1.2.2)).trans (k1.2.1 r hr)
    refine ⟨⟨hs3.tr.os.trans hs1.tr.os, hs3.tr.output.trans hs1.tr.output, fun i hi => ?_⟩, hfr, Nat.le_trans k1.2.2 k2.2.2⟩
    rw [hfr i hi]
    cases h6 : w.heap[i]? with
    | none => simp
    | some o => cases o <;> simp
  cases ex with
  | normal => obtain ⟨ρ2, h3, env2, hs3, e3⟩ := hp; exact fin _ _ _ hs3 e3
  | ret => obtain ⟨ρ2, h3, env2, hs3, e3⟩ := hp; exact fin _ _ _ hs3 e3
  | exit id => obtain ⟨ρ2, h3, env2, l, hs3, hx, e3⟩ := hp; simp at hx
  | _ => exact hp.elim
end Go.AM

namespace Go.AM
open Go
set_option autoImplicit false
noncomputable section

/-- Setting what stands there changes nothing. -/
theorem T.set_get {α : Type} (v : α) (t : T α) : ∀ k, t.get k = some v → T.set v t k = t := by
  induction t with
  | e => intro k h; cases h
  | n o a b c d iha ihb ihc ihd =>
    intro k h
    cases k with
    | zero => have h : o = some v := h; subst h; rfl
    | succ m =>
      rw [T.get_ns] at h
      rw [T.set_s]
      have hm : m % 4 = 0 ∨ m % 4 = 1 ∨ m % 4 = 2 ∨ m % 4 = 3 := by omega
      rcases hm with h0 | h0 | h0 | h0 <;> rw [h0] at h ⊢
      · have h : a.get (m / 4) = some v := h
        show T.n o (T.set v a (m / 4)) b c d = _
        rw [iha _ h]
      · have h : b.get (m / 4) = some v := h
        show T.n o a (T.set v b (m / 4)) c d = _
        rw [ihb _ h]
      · have h : c.get (m / 4) = some v := h
        show T.n o a b (T.set v c (m / 4)) d = _
        rw [ihc _ h]
      · have h : d.get (m / 4) = some v := h
        show T.n o a b c (T.set v d (m / 4)) = _
        rw [ihd _ h]

/-- Memory with another list of what is told. -/
def Hp.wo (h : Hp) (l : Oc) : Hp := Hp.rec (motive := fun _ => Hp) (fun nb bs gs ms lo _ => ⟨nb, bs, gs, ms, lo, l⟩) h
theorem Out.wo {N0 : Base} {ρ ρ' : Rho} {h h' : Hp} {w w' : World} {v : AV} {V : Value} (o : Out N0 ρ h w v h' V w' ρ') (l : Oc) : Out N0 ρ h w v (h'.wo l) V w' ρ' := by
  obtain ⟨nb, bs, gs, ms, lo, oc⟩ := h'
  exact ⟨o.val, ⟨fun b B hb => (by obtain ⟨p, h1, h2⟩ := o.inv.blk b B hb; exact ⟨p, h1, ⟨h2.obj, h2.fit, h2.side⟩⟩), o.inv.nb, o.inv.gnb, o.inv.gs, o.inv.als, o.inv.lim, o.inv.free, o.inv.wsz, o.inv.mp, o.inv.jj⟩,
    ⟨o.tr.ext, o.tr.nb, o.tr.new, o.tr.frame, o.tr.img, o.tr.mimg, o.tr.size, o.tr.tape, o.tr.os, o.tr.output, o.tr.lo⟩⟩

/-- Goes on as the list of ways says: with the value that is told, or without; without, if nothing is said. -/
def bit (h : Hp) (a : AV → Hp → Res) (b : Hp → Res) : Res := Hp.rec (motive := fun _ => Res) (fun nb bs gs ms lo oc => Oc.rec (motive := fun _ => Res) (fun l s => List.rec (motive := fun _ => Res) (b ⟨nb, bs, gs, ms, lo, ⟨[], s⟩⟩) (fun d l _ => Bool.rec (motive := fun _ => Res) (b ⟨nb, bs, gs, ms, lo, ⟨l, s⟩⟩) (a s ⟨nb, bs, gs, ms, lo, ⟨l, s⟩⟩) d) l) oc) h
theorem bit_inv {h : Hp} {A : AV → Hp → Res} {B : Hp → Res} {r : Res} (e : now (bit h A B) = r) : ∃ s l, now (A s (h.wo l)) = r ∨ now (B (h.wo l)) = r := by
  obtain ⟨nb, bs, gs, ms, lo, ⟨oc, s⟩⟩ := h
  cases oc with
  | nil => exact ⟨s, ⟨[], s⟩, .inr e⟩
  | cons d l =>
    cases d with
    | true => exact ⟨s, ⟨l, s⟩, .inl e⟩
    | false => exact ⟨s, ⟨l, s⟩, .inr e⟩

/-- Behind a call. -/
def post (f : AV → Hp → Res) (q : Res) : Res := Res.rec (motive := fun _ => Res) .fail (fun _ _ => .fail) (fun _ _ _ => .fail) (fun v h => f v h) (fun p _ ih => .ask p ih) q
theorem post_inv {f : AV → Hp → Res} {v : AV} {h : Hp} : ∀ {q : Res}, now (post f q) = .ret v h → ∃ v0 h0, now q = .ret v0 h0 ∧ now (f v0 h0) = .ret v h := by
  intro q
  induction q with
  | ret x y => intro e; exact ⟨x, y, rfl, e⟩
  | ask p q ih =>
    intro e
    cases p with
    | true => exact ih e
    | false => exact absurd (show Res.fail = .ret v h from e) (by simp)
  | _ => intro e; exact absurd (show Res.fail = .ret v h from e) (by simp)

/-- A call whose answer is changed by f, which asks that nothing changes. -/
theorem post_sound {P : Program} {f : FuncId} {g : Fun} (F : AV → Hp → Res) (h1 : FSound P f g) (hF : ∀ v0 h0 v h, now (F v0 h0) = .ret v h → v = v0 ∧ ∃ l, h = h0.wo l) : FSound P f (fun a h => post F (g a h)) := by
  intro N0 hN ρ h w args Args v h' e hi ha
  obtain ⟨v0, h0, e1, e2⟩ := post_inv e
  obtain ⟨rfl, l, rfl⟩ := hF _ _ _ _ e2
  exact (h1 N0 hN ρ h w args Args v h0 e1 hi ha).mono fun e w' ⟨V, ρ', k1, k2⟩ => ⟨V, ρ', k1, k2.wo l⟩

/-- Texts of n bytes are asked to be X. -/
def mapS (n X : Nat) (v : AV) : (AV → Res) → Res := AV.rec (motive := fun _ => (AV → Res) → Res)
  (fun k => k .unk) (fun b k => k (.bool b)) (fun c n k => k (.int c n)) (fun m a k => Bool.rec (motive := fun _ => Res) (k (.str m a)) (.ask (Nat.beq a X) (k (.str m X))) (Nat.beq m n)) (fun k => k .nilp) (fun b o k => k (.ptr b o)) (fun k => k .nils) (fun b o n z c k => k (.sl b o n z c)) (fun k => k .esl) (fun k => k .nili) (fun t v _ k => k (.ifc t v)) (fun k => k .nilf) (fun f a b _ _ k => k (.fn f a b)) (fun k => k .nilm) (fun b k => k (.map b)) (fun _ ih k => ih fun v => k (.agg v)) (fun _ ih k => ih fun v => k (.tup v)) (fun k => k .nil) (fun _ _ iha ihb k => iha fun a => ihb fun b => k (.cons a b)) v
theorem mapS_inv (n X : Nat) {v' : AV} {h' : Hp} : ∀ (v : AV) (k : AV → Res), now (mapS n X v k) = .ret v' h' → now (k v) = .ret v' h' := by
  intro v
  induction v with
  | str m a =>
    intro k e
    have e : now (Bool.rec (motive := fun _ => Res) (k (.str m a)) (.ask (Nat.beq a X) (k (.str m X))) (Nat.beq m n)) = .ret v' h' := e
    cases hb : Nat.beq m n with
    | false => rw [hb] at e; exact e
    | true =>
      rw [hb] at e
      have e : now (.ask (Nat.beq a X) (k (.str m X))) = .ret v' h' := e
      obtain ⟨h2, h3⟩ := now_ask (by rw [e]; simp)
      rw [(beq_iff _ _).1 h2]
      exact h3.symm.trans e
  | agg v ih => intro k e; exact ih _ e
  | tup v ih => intro k e; exact ih _ e
  | cons a b iha ihb => intro k e; exact ihb _ (iha _ e)
  | _ => intro k e; exact e

/-- The text that a call answers is put as the text that is told. -/
def subS (g : Fun) : Fun := fun a h => post (fun v h => bit h (fun s h => cS s fun n X => mapS n X v fun v => .ret v h) (fun h => .ret v h)) (g a h)
theorem subS_sound {P : Program} {f : FuncId} {g : Fun} (h1 : FSound P f g) : FSound P f (subS g) := by
  refine post_sound _ h1 fun v0 h0 v h e => ?_
  obtain ⟨s, l, e1 | e1⟩ := bit_inv e
  · obtain ⟨n, X, rfl, e2⟩ := cS_inv rfl (fun h => by rw [show cS s _ = Res.fail from h] at e1; cases e1)
    rw [← e2] at e1
    have e3 := mapS_inv n X _ _ e1
    obtain ⟨rfl, rfl⟩ : v0 = v ∧ h0.wo l = h := by injection e3 with p q; exact ⟨p, q⟩
    exact ⟨rfl, l, rfl⟩
  · obtain ⟨rfl, rfl⟩ : v0 = v ∧ h0.wo l = h := by injection e1 with p q; exact ⟨p, q⟩
    exact ⟨rfl, l, rfl⟩

/-- Cells are asked to be the bytes of X. -/
def subT (X o n : Nat) : T AV → (T AV → Res) → Res := Nat.rec (motive := fun _ => T AV → (T AV → Res) → Res) (fun t k => k t) (fun i ih t k => Option.rec (motive := fun _ => Res) .fail (fun v => cI v fun c x => .ask (eqI x (.ofNat (byteAt X i))) (ih (T.set (.int c (.ofNat (byteAt X i))) t (Nat.add o i)) k)) (t.get (Nat.add o i))) n
theorem subT_inv (X o : Nat) {v' : AV} {h' : Hp} (t : T AV) (k : T AV → Res) : ∀ n, now (subT X o n t k) = .ret v' h' → now (k t) = .ret v' h' := by
  intro n
  induction n with
  | zero => intro e; exact e
  | succ i ih =>
    intro e
    have e : now (Option.rec (motive := fun _ => Res) .fail (fun v => cI v fun c x => .ask (eqI x (.ofNat (byteAt X i))) (subT X o i (T.set (.int c (.ofNat (byteAt X i))) t (Nat.add o i)) k)) (t.get (Nat.add o i))) = .ret v' h' := e
    cases hg : t.get (Nat.add o i) with
    | none => rw [hg] at e; exact absurd (show Res.fail = .ret v' h' from e) (by simp)
    | some v =>
      rw [hg] at e
      have e : now (cI v fun c x => .ask (eqI x (.ofNat (byteAt X i))) (subT X o i (T.set (.int c (.ofNat (byteAt X i))) t (Nat.add o i)) k)) = .ret v' h' := e
      cases v with
      | int c x =>
        have e : now (.ask (eqI x (.ofNat (byteAt X i))) (subT X o i (T.set (.int c (.ofNat (byteAt X i))) t (Nat.add o i)) k)) = .ret v' h' := e
        obtain ⟨h2, h3⟩ := now_ask (by rw [e]; simp)
        rw [eqI_eq] at h2
        have hx : x = .ofNat (byteAt X i) := by simpa using h2
        have e2 := h3.symm.trans e
        rw [← hx, T.set_get _ _ _ hg] at e2
        exact ih e2
      | _ => exact absurd (show Res.fail = .ret v' h' from e) (by simp)
/-- Memory with other cells of a block. -/
def setC (h : Hp) (b : Nat) (B : Blk) (t : T AV) : Hp := Hp.rec (motive := fun _ => Hp) (fun nb bs gs ms lo oc => ⟨nb, bs.set ⟨B.fr, B.g, B.lim, B.df, t⟩ b, gs, ms, lo, oc⟩) h
/-- The rows of n numbers that a value holds are asked to be X's bytes. -/
def subR (n X : Nat) (v : AV) : Hp → (Hp → Res) → Res := AV.rec (motive := fun _ => Hp → (Hp → Res) → Res)
  (fun h k => k h) (fun _ h k => k h) (fun _ _ h k => k h) (fun _ _ h k => k h) (fun h k => k h) (fun _ _ h k => k h) (fun h k => k h)
  (fun b o m _ _ h k => ifB (Nat.beq m n) (Option.rec (motive := fun _ => Res) .fail (fun B => subT X o n B.cs fun t => k (setC h b B t)) (h.bs.get b)) .fail)
  (fun h k => k h) (fun h k => k h) (fun _ _ _ h k => k h) (fun h k => k h) (fun _ _ _ _ _ h k => k h) (fun h k => k h) (fun _ h k => k h) (fun _ ih => ih) (fun _ ih => ih) (fun h k => k h) (fun _ _ iha ihb h k => iha h fun h => ihb h k) v
theorem subR_inv (n X : Nat) {v' : AV} {h' : Hp} : ∀ (v : AV) (h : Hp) (k : Hp → Res), now (subR n X v h k) = .ret v' h' → now (k h) = .ret v' h' := by
  intro v
  induction v with
  | sl b o m z c =>
    intro h k e
    have e : now (ifB (Nat.beq m n) (Option.rec (motive := fun _ => Res) .fail (fun B => subT X o n B.cs fun t => k (setC h b B t)) (h.bs.get b)) .fail) = .ret v' h' := e
    cases hb : Nat.beq m n with
    | false => rw [hb] at e; exact absurd (show Res.fail = .ret v' h' from e) (by simp)
    | true =>
      rw [hb] at e
      have e : now (Option.rec (motive := fun _ => Res) .fail (fun B => subT X o n B.cs fun t => k (setC h b B t)) (h.bs.get b)) = .ret v' h' := e
      cases hg : h.bs.get b with
      | none => rw [hg] at e; exact absurd (show Res.fail = .ret v' h' from e) (by simp)
      | some B =>
        rw [hg] at e
        have e1 := subT_inv X o B.cs (fun t => k (setC h b B t)) n e
        have hs : setC h b B B.cs = h := by
          obtain ⟨nb, bs, gs, ms, lo, oc⟩ := h
          show (⟨nb, bs.set B b, gs, ms, lo, oc⟩ : Hp) = _
          rw [T.set_get B bs b hg]
        rw [hs] at e1
        exact e1
  | agg v ih => intro h k e; exact ih h k e
  | tup v ih => intro h k e; exact ih h k e
  | cons a b iha ihb => intro h k e; exact ihb h k (iha h _ e)
  | _ => intro h k e; exact e
/-- The row of numbers that a call answers is put as the bytes of the text that is told. -/
def subC (g : Fun) : Fun := fun a h => post (fun v h => bit h (fun s h => cS s fun n X => subR n X v h fun h => .ret v h) (fun h => .ret v h)) (g a h)
theorem subC_sound {P : Program} {f : FuncId} {g : Fun} (h1 : FSound P f g) : FSound P f (subC g) := by
  refine post_sound _ h1 fun v0 h0 v h e => ?_
  obtain ⟨s, l, e1 | e1⟩ := bit_inv e
  · obtain ⟨n, X, rfl, e2⟩ := cS_inv rfl (fun h => by rw [show cS s _ = Res.fail from h] at e1; cases e1)
    rw [← e2] at e1
    have e3 := subR_inv n X _ _ _ e1
    obtain ⟨rfl, rfl⟩ : v0 = v ∧ h0.wo l = h := by injection e3 with p q; exact ⟨p, q⟩
    exact ⟨rfl, l, rfl⟩
  · obtain ⟨rfl, rfl⟩ : v0 = v ∧ h0.wo l = h := by injection e1 with p q; exact ⟨p, q⟩
    exact ⟨rfl, l, rfl⟩
end
end Go.AM
