/-
  The abstract machine, part 22: one operation.
-/
import Derived.Test.YtnpfppddongbhaaDoorAm42
namespace Go.AM
open Go
set_option autoImplicit false

/-- The machine's slots stand for the frame's. -/
def ERel (ρ : Rho) (env : Env) (a : Act) : Prop := ∀ t, VR ρ (env t) (a.tmps.getD t undef)

/-- What a function's text says is what a call does. -/
def FSound (P : Program) (f : FuncId) (g : Fun) : Prop :=
  ∀ (N0 : Base), N0.fits P → ∀ (ρ : Rho) (h : Hp) (w : World) (args : List AV) (Args : Array Value) (v : AV) (h' : Hp), g args h = .ret v h' → Inv N0 ρ h w → F2 (VR ρ) args Args.toList →
    Calls P f Args w fun e w' => ∃ V ρ', e = .returned V ∧ Out N0 ρ h w v h' V w' ρ'
/-- A function that is entered where it is called. -/
def Enters (P : Program) (f : FuncId) : Prop := ∀ args w, (callFunc f args).run P w = .ok (.enter f args) w
/-- A function without a body that answers where it is called. -/
def ESound (P : Program) (f : FuncId) (g : Fun) : Prop :=
  ∀ (N0 : Base), N0.fits P → ∀ (ρ : Rho) (h : Hp) (w : World) (args : List AV) (Args : Array Value) (v : AV) (h' : Hp), g args h = .ret v h' → Inv N0 ρ h w → F2 (VR ρ) args Args.toList →
    ∃ V w' ρ', (callFunc f Args).run P w = .ok (.value V) w' ∧ Out N0 ρ h w v h' V w' ρ'
def GSound (P : Program) (γ : FuncId → Option Fun) : Prop := ∀ f g, γ f = some g → (FSound P f g ∧ Enters P f) ∨ ESound P f g

section
variable {P : Program} {N0 : Base} {ρ : Rho} {h : Hp} {w : World} {x y : AV} {X Y : Value} {r : Res} {env : Env} {a : Act}

theorem ev_rel (he : ERel ρ env a) (o : Operand) : VR ρ (ev env o) (a.eval o) := by
  cases o with
  | tmp t => exact he t
  | const v => exact ofV_rel v
  | global g => exact trivial
  | func f => exact ⟨#[], #[], rfl, rfl, rfl⟩

theorem or_rel (he : ERel ρ env a) (o : Option Operand) : OR ρ (o.map (ev env)) (o.map a.eval) := by
  cases o with
  | none => exact .inl ⟨rfl, rfl⟩
  | some o => exact .inr ⟨_, _, rfl, rfl, ev_rel he o⟩

theorem lowered_rel (he : ERel ρ env a) (ps : List (Nat × Operand)) : PRel ρ (lowered env ps) (ps.map fun p => (p.1, a.eval p.2)) := by
  induction ps with
  | nil => exact .nil
  | cons p ps ih => exact .cons ⟨rfl, ev_rel he p.2⟩ ih

theorem F2_map (he : ERel ρ env a) (l : List Operand) : F2 (VR ρ) (l.map (ev env)) (l.map a.eval) := by
  induction l with
  | nil => exact .nil
  | cons x l ih => exact .cons (ev_rel he x) ih

/-- The outcome of an operation on the frame. -/
def Op1 (P : Program) (N0 : Base) (ρ : Rho) (h : Hp) (w : World) (o : Oper) (a : Act) (k : AV → Hp → Res) (r : Res) : Prop :=
  ∃ v h', k v h' = r ∧ ∀ (next : Act → World → Prop) (Q : Exit → Act → World → Prop), (∀ V w' ρ', Out N0 ρ h w v h' V w' ρ' → next (a.put o.dst V) w') → o.wp P a w next Q

theorem op_val {o : Oper} {k : AV → Hp → Res} {s : Sem Value} (ho : execOp a.eval o = (do pure (.value (← s)))) (hd : Does P N0 ρ h w s k r) : Op1 P N0 ρ h w o a k r := by
  obtain ⟨v, h', V, w', ρ', h1, h2, h3⟩ := hd
  refine ⟨v, h', h1, fun next Q hn => ?_⟩
  unfold Oper.wp
  rw [ho, Sem.run_bind, h2]
  exact hn V w' ρ' h3

theorem op_pur {o : Oper} {k : AV → Hp → Res} {s : Sem Value} (hi : Inv N0 ρ h w) (ho : execOp a.eval o = (do pure (.value (← s)))) (hd : ∃ v, k v h = r ∧ Pur P ρ s v) : Op1 P N0 ρ h w o a k r :=
  op_val ho (Does.pur hi hd)

theorem op_unit {o : Oper} {k : AV → Hp → Res} {s : Sem Unit} (ho : execOp a.eval o = (do s; pure .skip)) (hd : ∃ h' w', k (.tup .nil) h' = r ∧ s.run P w = .ok () w' ∧ Inv N0 ρ h' w' ∧ Tr ρ h w ρ h' w') : Op1 P N0 ρ h w o a k r := by
  obtain ⟨h', w', h1, h2, h3, h4⟩ := hd
  refine ⟨_, h', h1, fun next Q hn => ?_⟩
  unfold Oper.wp
  rw [ho, Sem.run_bind, h2]
  exact hn undef w' ρ ⟨⟨#[], rfl, rfl⟩, h3, h4⟩

theorem op_here {o : Oper} {k : AV → Hp → Res} {v : AV} {V : Value} (hi : Inv N0 ρ h w) (ho : (execOp a.eval o).run P w = .ok (.value V) w) (hv : VR ρ v V) (e : k v h = r) : Op1 P N0 ρ h w o a k r :=
  ⟨v, h, e, fun next Q hn => by unfold Oper.wp; rw [ho]; exact hn V w ρ ⟨hv, hi, Tr.refl ρ h w⟩⟩

theorem F2.append {α β : Type} {Q : α → β → Prop} {a b : List α} {c d : List β} (h1 : F2 Q a c) (h2 : F2 Q b d) : F2 Q (a ++ b) (c ++ d) := by
  induction h1 with
  | nil => exact h2
  | cons hq _ ih => exact .cons hq ih

theorem lst_F2 {vs : List AV} {Vs : List Value} (h : F2 (VR ρ) vs Vs) : LR ρ (lst vs) Vs := by
  induction h with
  | nil => rfl
  | cons h1 _ ih => exact ⟨_, _, rfl, h1, ih⟩

theorem mkf_rel (he : ERel ρ env a) (f : Fn) (l m : Array Operand) : VR ρ (.fn f (lst (l.toList.map (ev env))) (lst (m.toList.map (ev env)))) (.func f (l.map a.eval) (m.map a.eval)) :=
  ⟨_, _, rfl, by rw [Array.toList_map]; exact lst_F2 (F2_map he _), by rw [Array.toList_map]; exact lst_F2 (F2_map he _)⟩

theorem unL_inv (hr : r ≠ .fail) : ∀ (l : AV) {k : List AV → Res}, unL l k = r → ∃ vs, k vs = r ∧ ∀ L, LR ρ l L → F2 (VR ρ) vs L := by
  intro l
  induction l with
  | nil => intro k e; exact ⟨[], e, fun L hL => by have hL : L = [] := hL; subst hL; exact .nil⟩
  | cons v t _ iht =>
    intro k e
    have e : unL t (fun t => k (v :: t)) = r := e
    obtain ⟨vs, h1, h2⟩ := iht e
    refine ⟨v :: vs, h1, fun L hL => ?_⟩
    obtain ⟨V, L', rfl, g1, g2⟩ := hL
    exact .cons g1 (h2 _ g2)
  | _ => intro k e; exact absurd e.symm hr

theorem dyn_inv {γ : FuncId → Option Fun} {v : AV} {V : Value} {args : List AV} (e : dyn γ v args h = r) (hr : r ≠ .fail) (hv : VR ρ v V) :
    ∃ f g la lb LA LB, V = .func (.func f) LA LB ∧ γ f = some g ∧ F2 (VR ρ) la LA.toList ∧ F2 (VR ρ) lb LB.toList ∧ g (la ++ args ++ lb) h = r := by
  obtain ⟨fn, a, b, rfl, h1⟩ := cFn_inv e hr
  obtain ⟨LA, LB, rfl, h2, h3⟩ := hv
  cases fn with
  | func f =>
    simp only at h1
    cases hg : γ f with
    | none => rw [hg] at h1; exact absurd h1.symm hr
    | some g =>
      rw [hg] at h1
      simp only at h1
      obtain ⟨la, g1, g2⟩ := unL_inv (ρ := ρ) hr a h1
      obtain ⟨lb, g3, g4⟩ := unL_inv (ρ := ρ) hr b g1
      exact ⟨f, g, la, lb, LA, LB, rfl, hg, g2 _ h2, g4 _ h3, g3⟩
  | _ => exact absurd h1.symm hr

theorem dOp_sound {γ : FuncId → Option Fun} (hγ : GSound P γ ∧ N0.fits P) (o : Oper) {k : AV → Hp → Res} (hi : Inv N0 ρ h w) (he : ERel ρ env a) (e : dOp P γ env h o.op k = r) (hr : r ≠ .fail) : Op1 P N0 ρ h w o a k r := by
  generalize ho : o.op = op at e
  have hx : ∀ v : Operand, VR ρ (ev env v) (a.eval v) := ev_rel he
  cases op with
  | move x => exact op_here hi (by simp [execOp, ho]) (hx x) e
  | assign x => exact op_here hi (by simp [execOp, ho]) (hx x) e
  | pick c x y =>
    obtain ⟨t, h1, h2⟩ := cB_inv e hr
    have h3 := hx c
    rw [h1] at h3
    have h3 : a.eval c = .bool t := h3
    refine op_here hi (V := if t then a.eval x else a.eval y) (by simp [execOp, ho, h3, asBool]) ?_ h2
    cases t
    · exact hx y
    · exact hx x
  | alloc t => exact op_val (by simp only [execOp, ho]) (alloc_ok hi e hr)
  | box t x => exact op_val (by simp only [execOp, ho]) (box_ok (t := t) hi e hr (hx x))
  | build t ps => exact op_pur hi (by simp only [execOp, ho]) (build_ok (ps := lowered env ps.toList) (pv := ps.map fun (i, x) => (i, a.eval x)) (by rw [Array.toList_map]; exact lowered_rel he ps.toList) e hr)
  | buildSlice t n ps =>
    simp only [dOp] at e
    split at e
    · rename_i u hu
      obtain ⟨h1, h2⟩ := sif_inv e hr
      exact op_val (by simp only [execOp, ho]) (buildSlice_ok (ps := lowered env ps.toList) (pv := ps.map fun (i, x) => (i, a.eval x)) hi (by rw [Array.toList_map]; exact lowered_rel he ps.toList) hu h1 h2 hr)
    · exact absurd e.symm hr
  | load t x =>
    simp only [dOp] at e
    obtain ⟨h1, h2⟩ := sif_inv e hr
    split at h2
    · rename_i ht
      exact op_val (by simp only [execOp, ho]) (Does.read hi (ldN_ok hi ht h1 h2 hr (hx x)))
    · rename_i ht
      exact op_val (by simp only [execOp, ho]) (Does.read hi (ld1_ok hi ht h1 h2 hr (hx x)))
  | store t x y =>
    simp only [dOp] at e
    obtain ⟨h1, h2⟩ := sif_inv e hr
    split at h2
    · exact op_unit (by simp only [execOp, ho]) (stN_ok (k := fun h => k (.tup .nil) h) hi h1 h2 hr (hx x) (hx y))
    · obtain ⟨h3, h4⟩ := sif_inv h2 hr
      rw [beq_iff] at h3
      exact op_unit (by simp only [execOp, ho]) (st1_ok (k := fun h => k (.tup .nil) h) hi h1 h3 h4 hr (hx x) (hx y))
  | nilCheck x =>
    obtain ⟨h1, h2⟩ := nck_ok (P := P) o (kk := k) ho rfl e hr (hx x)
    exact op_here hi (h2 w) (hx x) h1
  | binOp op t x y z => exact op_pur hi (by simp only [execOp, ho]) (dBin2_pur x y e hr (hx x) (hx y))
  | unOp op t x =>
    simp only [dOp] at e
    split at e
    · exact op_pur hi (by simp only [execOp, ho]) (iNeg_pur e hr (hx x))
    · exact op_pur hi (by simp only [execOp, ho]) (iNot_pur e hr (hx x))
    · exact op_pur hi (by simp only [execOp, ho]) (bNot_pur e hr (hx x))
    · exact absurd e.symm hr
  | convert s d x => exact op_val (by simp only [execOp, ho]) (conv2_ok hi e hr (hx x))
  | range t x =>
    simp only [dOp] at e
    split at e
    · rename_i hu
      exact op_val (by simp only [execOp, ho]) (rng_ok hi hu e hr (hx x))
    · exact absurd e.symm hr
  | next x s =>
    simp only [dOp] at e
    obtain ⟨hs, e2⟩ := sif_inv e hr
    subst hs
    exact op_val (by simp only [execOp, ho]) (nxt_ok (t := o.type) hi e2 hr (hx x))
  | makeMap t rs =>
    cases rs with
    | none => exact op_val (by simp only [execOp, ho, Option.map_none]) (mkMap_ok (t := t) hi e)
    | some x => exact absurd e.symm hr
  | lookup t x i ok =>
    simp only [dOp] at e
    split at e
    · rename_i kt et ht
      split at e
      · rename_i q hq
        obtain ⟨d, hd, hk⟩ := keyQ_inv hq
        exact op_val (by simp only [execOp, ho]) (Does.read hi (lkp_ok (k := fun v => k v h) hi ht hd hk e hr (hx x) (hx i)))
      · exact absurd e.symm hr
    · exact absurd e.symm hr
  | mapUpdate t m x v =>
    simp only [dOp] at e
    split at e
    · rename_i kt et ht
      split at e
      · rename_i q hq
        obtain ⟨d, hd, hk⟩ := keyQ_inv hq
        exact op_unit (by simp only [execOp, ho]) (mup_ok (k := fun h => k (.tup .nil) h) hi ht hd hk e hr (hx m) (hx x) (hx v))
      · exact absurd e.symm hr
    · exact absurd e.symm hr
  | insert t m x v =>
    simp only [dOp] at e
    split at e
    · rename_i kt et ht
      split at e
      · rename_i q hq
        obtain ⟨d, hd, hk⟩ := keyQ_inv hq
        exact op_unit (by simp only [execOp, ho]) (mup_ok (k := fun h => k (.tup .nil) h) hi ht hd hk e hr (hx m) (hx x) (hx v))
      · exact absurd e.symm hr
    · exact absurd e.symm hr
  | makeFunc f l m => exact op_here hi (V := .func f (l.map a.eval) (m.map a.eval)) (by simp [execOp, ho, Instr.makeFunc]) (mkf_rel he f l m) e
  | makeInterface t x =>
    simp only [dOp] at e
    split at e
    · exact absurd e.symm hr
    · exact absurd e.symm hr
    · rename_i h1 h2
      cases hu : P.underlying t with
      | none => exact absurd hu h2
      | some d => exact op_pur hi (by simp only [execOp, ho]) ⟨_, e, ifc_ok hu (fun ms hms => h1 ms (by rw [hu, hms])) (hx x)⟩
  | makeSlice t l c =>
    simp only [dOp] at e
    split at e
    · rename_i u hu
      obtain ⟨h1, h2⟩ := sif_inv e hr
      exact op_val (by simp only [execOp, ho]) (mkM_ok hi hu h1 h2 hr (hx l) (hx c))
    · exact absurd e.symm hr
  | slice t x lo hi' mx =>
    simp only [dOp] at e
    obtain ⟨h0, e⟩ := sif_inv e hr
    have h0' : ((mx.map (ev env)).isNone || (hi'.map (ev env)).isSome) = true := by simpa using h0
    split at e
    · rename_i hu
      split at e
      · exact op_pur hi (by simp only [execOp, ho, Option.map_none]) (cutT_ok hu e hr (hx x) (or_rel he lo) (or_rel he hi'))
      · exact absurd e.symm hr
    · rename_i u hu
      obtain ⟨h1, h2⟩ := sif_inv e hr
      exact op_pur hi (by simp only [execOp, ho]) (cutS_ok hu h1 h0' h2 hr (hx x) (or_rel he lo) (or_rel he hi') (or_rel he mx))
    · rename_i n u hu
      obtain ⟨h1, h2⟩ := sif_inv e hr
      exact op_pur hi (by simp only [execOp, ho]) (cutP_ok hi hu h1 h0' h2 hr (hx x) (or_rel he lo) (or_rel he hi') (or_rel he mx))
    · exact absurd e.symm hr
  | fieldAddr t x f =>
    simp only [dOp] at e
    split at e
    · rename_i fs hu
      split at e
      · rename_i fd hf
        obtain ⟨h1, h2⟩ := sifT_inv e hr
        exact op_pur hi (by simp only [execOp, ho]) (fieldAddr_ok (k := fun v => k v h) hu hf (fun h0 => by rw [← beq_iff, h1] at h0; cases h0) h2 hr (hx x))
      · exact absurd e.symm hr
    · exact absurd e.symm hr
  | field t x f =>
    simp only [dOp] at e
    split at e
    · rename_i fs hu
      split at e
      · rename_i fd hf
        obtain ⟨h1, h2⟩ := sif_inv e hr
        exact op_pur hi (by simp only [execOp, ho]) (field_ok hu hf h1 h2 hr (hx x))
      · exact absurd e.symm hr
    · exact absurd e.symm hr
  | indexAddr t x i =>
    simp only [dOp] at e
    split at e
    · rename_i u hu
      obtain ⟨h1, h2⟩ := sif_inv e hr
      exact op_pur hi (by simp only [execOp, ho]) (ixA_ok hu h1 h2 hr (hx x) (hx i))
    · rename_i n u hu
      obtain ⟨h1, h2⟩ := sif_inv e hr
      exact op_pur hi (by simp only [execOp, ho]) (ixP_ok hu h1 h2 hr (hx x) (hx i))
    · exact absurd e.symm hr
  | index t x i =>
    simp only [dOp] at e
    split at e
    · rename_i hu
      exact op_pur hi (by simp only [execOp, ho]) (sIdx_pur hu e hr (hx x) (hx i))
    · rename_i n u hu
      obtain ⟨h1, h2⟩ := sif_inv e hr
      exact op_pur hi (by simp only [execOp, ho]) (ixV_ok hu h1 h2 hr (hx x) (hx i))
    · exact absurd e.symm hr
  | extract x i => exact op_pur hi (by simp only [execOp, ho]) (extract_ok (k := fun v => k v h) e hr (hx x))
  | call c =>
    simp only [dOp] at e
    split at e
    · rename_i f hc
      split at e
      · rename_i g hg
        cases hres : g (c.args.toList.map (ev env)) h with
        | ret v h' =>
          rw [hres] at e
          rcases hγ.1 f g hg with ⟨hs, hen⟩ | hes
          rotate_left
          · obtain ⟨V, w', ρ', h1, h2⟩ := hes N0 hγ.2 ρ h w _ (c.args.map a.eval) v h' hres hi (by rw [Array.toList_map]; exact F2_map he _)
            refine ⟨v, h', e, fun next Q hn => ?_⟩
            unfold Oper.wp
            have hrun : (execOp a.eval o).run P w = .ok (.value V) w' := by
              simp only [execOp, ho, resolve, hc, Act.eval, Deferred.ofValue, pure_bind, invoke]
              simpa using h1
            rw [hrun]
            exact hn V w' ρ' h2
          refine ⟨v, h', e, fun next Q hn => ?_⟩
          have hcalls := hs N0 hγ.2 ρ h w _ (c.args.map a.eval) v h' hres hi (by rw [Array.toList_map]; exact F2_map he _)
          unfold Oper.wp
          have hrun : (execOp a.eval o).run P w = .ok (.enter f (c.args.map a.eval)) w := by
            simp only [execOp, ho, resolve, hc, Act.eval, Deferred.ofValue, pure_bind, invoke]
            have := hen (#[] ++ c.args.map a.eval ++ #[]) w
            simpa using this
          rw [hrun, Oper.upon_enter]
          refine hcalls.mono fun e' w' ⟨V, ρ', he', hout⟩ => ?_
          subst he'
          exact hn V w' ρ' hout
        | _ => rw [hres] at e; exact absurd e.symm hr
      · exact absurd e.symm hr
    · rename_i x _ hc
      cases hres : dyn γ (ev env x) (c.args.toList.map (ev env)) h with
      | ret v h' =>
        rw [hres] at e
        refine ⟨v, h', e, fun next Q hn => ?_⟩
        obtain ⟨f, g, ca, cb, LA, LB, hX, hg, ha, hb, hg2⟩ := dyn_inv (ρ := ρ) hres (by simp) (hx x)
        have hF2 : F2 (VR ρ) (ca ++ c.args.toList.map (ev env) ++ cb) (LA ++ c.args.map a.eval ++ LB).toList := by
          rw [Array.toList_append, Array.toList_append, Array.toList_map]
          exact (ha.append (F2_map he _)).append hb
        rcases hγ.1 f g hg with ⟨hs, hen⟩ | hes
        rotate_left
        · obtain ⟨V, w', ρ', h1, h2⟩ := hes N0 hγ.2 ρ h w _ (LA ++ c.args.map a.eval ++ LB) v h' hg2 hi hF2
          unfold Oper.wp
          have hrun : (execOp a.eval o).run P w = .ok (.value V) w' := by
            simp only [execOp, ho, resolve, hc, hX, Deferred.ofValue, pure_bind, invoke]
            simpa using h1
          rw [hrun]
          exact hn V w' ρ' h2
        have hcalls := hs N0 hγ.2 ρ h w _ (LA ++ c.args.map a.eval ++ LB) v h' hg2 hi hF2
        unfold Oper.wp
        have hrun : (execOp a.eval o).run P w = .ok (.enter f (LA ++ c.args.map a.eval ++ LB)) w := by
          simp only [execOp, ho, resolve, hc, hX, Deferred.ofValue, pure_bind, invoke]
          exact hen _ w
        rw [hrun, Oper.upon_enter]
        refine hcalls.mono fun e' w' ⟨V, ρ', he', hout⟩ => ?_
        subst he'
        exact hn V w' ρ' hout
      | _ => rw [hres] at e; exact absurd e.symm hr
    · rename_i hc
      split at e
      · rename_i x y hxl
        have hargs : c.args = #[x, y] := by apply Array.toList_inj.1; rw [hxl]
        have hex : execOp a.eval o = (do pure (.value (← Builtin.min_ c.argTypes o.type #[a.eval x, a.eval y]))) := by
          simp [execOp, ho, resolve, hc, hargs, invoke, builtin]
        exact op_pur hi hex (iMin_ok e hr (hx x) (hx y))
      · exact absurd e.symm hr
    · rename_i hc
      split at e
      · rename_i x y hxl
        have hargs : c.args = #[x, y] := by apply Array.toList_inj.1; rw [hxl]
        have hex : execOp a.eval o = (do pure (.value (← Builtin.max_ c.argTypes o.type #[a.eval x, a.eval y]))) := by
          simp [execOp, ho, resolve, hc, hargs, invoke, builtin]
        exact op_pur hi hex (iMax_ok e hr (hx x) (hx y))
      · exact absurd e.symm hr
    · rename_i hc
      split at e
      · rename_i x t hxl htl
        have hargs : c.args = #[x] := by apply Array.toList_inj.1; rw [hxl]
        have htys : c.argTypes = #[t] := by apply Array.toList_inj.1; rw [htl]
        have hex : execOp a.eval o = (do pure (.value (← Builtin.len_ #[t] o.type #[a.eval x]))) := by
          simp [execOp, ho, resolve, hc, hargs, htys, invoke, builtin]
        split at e
        · rename_i hu
          exact op_pur hi hex (lenS_ok hu e hr (hx x))
        · rename_i u hu
          exact op_pur hi hex (lenL_ok hu e hr (hx x))
        · exact absurd e.symm hr
      · exact absurd e.symm hr
    · rename_i hc
      split at e
      · rename_i x y t u hxl htl
        have hargs : c.args = #[x, y] := by apply Array.toList_inj.1; rw [hxl]
        have htys : c.argTypes = #[t, u] := by apply Array.toList_inj.1; rw [htl]
        have hex : execOp a.eval o = (do pure (.value (← Builtin.append_ #[t, u] o.type #[a.eval x, a.eval y]))) := by
          simp [execOp, ho, resolve, hc, hargs, htys, invoke, builtin]
        split at e
        · rename_i el _ hu1 hu2
          obtain ⟨h1, h2⟩ := sif_inv e hr
          simp only [Bool.and_eq_true, beq_iff] at h1
          exact op_val hex (apd_ok (d := _) hi ⟨hu1, hu2, (by intro k h; cases h), h1.1, h1.2.1, h1.2.2⟩ h2 hr (hx x) (hx y))
        · rename_i el hu1 hu2
          obtain ⟨h1, h2⟩ := sif_inv e hr
          simp only [Bool.and_eq_true, beq_iff] at h1
          exact op_val hex (apd_ok (d := _) hi ⟨hu1, hu2, (by intro k h; cases h), h1.1, h1.2.1, h1.2.2⟩ h2 hr (hx x) (hx y))
        · exact absurd e.symm hr
      · exact absurd e.symm hr
    · rename_i hc
      split at e
      · rename_i x y t u hxl htl
        have hargs : c.args = #[x, y] := by apply Array.toList_inj.1; rw [hxl]
        have htys : c.argTypes = #[t, u] := by apply Array.toList_inj.1; rw [htl]
        have hex : execOp a.eval o = (do pure (.value (← Builtin.copy_ #[t, u] o.type #[a.eval x, a.eval y]))) := by
          simp [execOp, ho, resolve, hc, hargs, htys, invoke, builtin]
        split at e
        · rename_i el hu
          obtain ⟨h1, h2⟩ := sif_inv e hr
          exact op_val hex (cpy_ok hi hu h1 h2 hr (hx x) (hx y))
        · exact absurd e.symm hr
      · exact absurd e.symm hr
    · exact absurd e.symm hr
  | _ => exact absurd e.symm hr
end
end Go.AM
