/-
  The abstract machine, part 30 (between 29 and 24): regions with a drawn order, whole.
-/
import Derived.Test.YtnpfppddongbhaaDoorAm29
namespace Go.AM
open Go
set_option autoImplicit false

section
variable {P : Program} {ops : Array Oper} {Q : Exit → Act → World → Prop} {N0 : Base} {n : Nat} {ρ0 ρ : Rho} {h0 h : Hp} {w0 w : World} {r : Res} {env : Env} {a : Act} {γ : FuncId → Option Fun}

/-- An operation that may change memory. -/
theorem stepD_act {o : Oper} {i : Nat} {k : AV → Env → Hp → Res} (hγ : GSound P γ ∧ N0.fits P) (hi : ops[i]? = some o) (hs : St N0 n ρ0 h0 w0 ρ h w env a) (e : stepD P γ n ops.toList o env h k = r) (hr : r ≠ .fail)
    {K : Act → World → Prop} (hK : ∀ v V ρ' h' w' env', k v env' h' = r → Ext ρ ρ' → St N0 n ρ0 h0 w0 ρ' h' w' env' (a.put o.dst V) → K (a.put o.dst V) w') : wpOp P ops Q i K a w := by
  unfold wpOp
  rw [hi]
  simp only
  unfold stepD at e
  split at e
  · rename_i hg
    have hw : Region.wanted o (yielded ops a.tmps) = true := by simp [Region.wanted, hg]
    rw [if_pos hw]
    obtain ⟨v, h', h1, h2⟩ := dOp_sound hγ o hs.inv hs.er e hr
    refine .inl (h2 _ _ fun V w' ρ' hout => ?_)
    obtain ⟨env', h3, h4⟩ := put_st h1 hr (hs.next hout) hout.val
    exact hK v V ρ' h' w' env' h3 hout.tr.ext h4
  · rename_i j want hg
    split at e
    · rename_i t ht
      have hw : Region.wanted o (yielded ops a.tmps) = (yielded ops a.tmps j == some want) := by simp [Region.wanted, hg]
      have mv : ∀ x, ap (gsel (env t) want (ev env x)) (fun v => put n o.dst v env fun env => k v env h) = r → (execOp a.eval o).run P w = .ok (.value (a.eval x)) w →
          (if Region.wanted o (yielded ops a.tmps) = true then o.wp P a w K Q ∨ (o.asks P a w ∧ LetsOut Q) else K (a.put o.dst undef) w) := by
        intro x e hrun
        have hsel := gsel_rel (ops := ops) (want := want) ht hs.er (ev_rel hs.er x)
        generalize gsel (env t) want (ev env x) = g at e hsel
        have e : put n o.dst g env (fun env => k g env h) = r := e
        obtain ⟨env', h3, h4⟩ := put_st e hr hs hsel
        rw [hw]
        split
        · rename_i hy
          rw [if_pos hy] at h4
          refine .inl ?_
          unfold Oper.wp
          rw [hrun]
          exact hK _ _ ρ h w env' h3 (Ext.refl ρ) h4
        · rename_i hy
          rw [if_neg hy] at h4
          exact hK _ _ ρ h w env' h3 (Ext.refl ρ) h4
      split at e
      · rename_i x hop
        exact mv x e (by simp [execOp, hop])
      · rename_i x hop
        exact mv x e (by simp [execOp, hop])
      · obtain ⟨hne, hcase⟩ := jn_inv e hr
        rcases gd_inv (ops := ops) ht hs.er rfl hne with ⟨hy, hx⟩ | ⟨hy, hx⟩
        · rw [hw, hy]
          simp only [beq_self_eq_true, if_true]
          obtain ⟨v, h', h1, h2⟩ := dOp_sound hγ o hs.inv hs.er hx hne
          refine .inl (h2 _ _ fun V w' ρ' hout => ?_)
          rcases hcase with ⟨vs, hh, e1, e2⟩ | ⟨i', vs, hh, e1, e2⟩ | ⟨v', hh, e1, e2⟩
          · rw [e1] at h1
            obtain ⟨rfl, rfl⟩ : [v] = vs ∧ h' = hh := by cases h1; exact ⟨rfl, rfl⟩
            have e2 : put n o.dst v env (fun env => k v env h') = r := e2
            obtain ⟨env', h3, h4⟩ := put_st e2 hr (hs.next hout) hout.val
            exact hK v V ρ' h' w' env' h3 hout.tr.ext h4
          · rw [e1] at h1; cases h1
          · rw [e1] at h1; cases h1
        · rw [hw, hy]
          simp only [Bool.false_eq_true, if_false]
          rcases hcase with ⟨vs, hh, e1, e2⟩ | ⟨i', vs, hh, e1, e2⟩ | ⟨v', hh, e1, e2⟩
          · rw [e1] at hx
            obtain ⟨rfl, rfl⟩ : [AV.tup .nil] = vs ∧ h = hh := by cases hx; exact ⟨rfl, rfl⟩
            have hu : VR ρ (.tup .nil) undef := ⟨#[], rfl, rfl⟩
            have e2 : put n o.dst (.tup .nil) env (fun env => k (.tup .nil) env h) = r := e2
            obtain ⟨env', h3, h4⟩ := put_st e2 hr hs hu
            exact hK _ _ ρ h w env' h3 (Ext.refl ρ) h4
          · rw [e1] at hx; cases hx
          · rw [e1] at hx; cases hx
    · exact absurd e.symm hr

/-- What pends in the machine is what pends in the model. -/
structure PendOK (P : Program) (ops : Array Oper) (N0 : Base) (ρ : Rho) (L : Array Bool) (K : List (Nat × (World → Prop))) (pend : List (Nat × (Hp → Res → Res))) : Prop where
  all : ∀ q ∈ pend, ∃ R, Recheck N0 q.2 R ρ
  has : ∀ p ∈ K, NoAct P ops L p.1 → ∃ f, (p.1, f) ∈ pend ∧ Recheck N0 f p.2 ρ

theorem not_acts {o : Oper} (h : kindD P o.op = 0 ∨ kindD P o.op = 1) : ¬ Acts P o := fun ha => h.elim ha.1 ha.2

theorem dDraw_sound (hγ : GSound P γ ∧ N0.fits P) {k : Env → Hp → Res} (hr : r ≠ .fail) (hsel : Region.noSelect ops = true) (hQp : ∀ c a w, ¬ Q (.panic c) a w)
    (hQ : ∀ ρ h w env a, St N0 n ρ0 h0 w0 ρ h w env a → k env h = r → Q .normal a w) :
    ∀ (rest : List Nat) (L : Array Bool) (K : List (Nat × (World → Prop))) (pend : List (Nat × (Hp → Res → Res))) (ρ : Rho) (h : Hp) (w : World) (env : Env) (a : Act), orderOk P ops rest L = true → Closed ops L →
      St N0 n ρ0 h0 w0 ρ h w env a → IK P ops K L w → PendOK P ops N0 ρ L K pend → dDraw P γ n ops.toList rest pend env h k = r → wpAnyI P ops Q (IK P ops K) rest.length L a w := by
  intro rest
  induction rest with
  | nil =>
    intro L K pend ρ h w env a ho hc hs hI hp e
    have ho : (Region.ready .any ops L).isEmpty = true := ho
    exact ⟨by simpa using ho, hQ ρ h w env a hs e⟩
  | cons i rest ih =>
    intro L K pend ρ h w env a ho hc hs hI hp e
    unfold orderOk at ho
    rw [Bool.and_eq_true] at ho
    obtain ⟨ho1, ho2⟩ := ho
    cases hoi : ops[i]? with
    | none => rw [hoi] at ho1; cases ho1
    | some o =>
      rw [hoi] at ho1
      simp only at ho1
      have hli : ops.toList[i]? = some o := by rw [Array.getElem?_toList]; exact hoi
      unfold dDraw at e
      rw [hli] at e
      simp only at e
      have sub : ∀ p, NoAct P ops (L.setIfInBounds i true) p → NoAct P ops L p := fun p hn j oj hj ha hl => hn j oj hj ha (getD_set_true hl)
      have hI2 : IK P ops K (L.setIfInBounds i true) w := fun p hpk hn => hI p hpk (sub _ hn)
      split at e
      · rename_i hk
        rw [hk] at ho1
        simp only [Bool.and_eq_true] at ho1
        obtain ⟨v, V, env', e', hv, hs', hy⟩ := stepD_still hs (.inl hk) e hr
        have hrd : i ∈ Region.ready .any ops L := by simpa using ho1.1
        refine hoist (v := V) (R := fun _ => True) hoi (Region.noSelect_spec hsel) hQp (not_acts (.inl hk)) rest.length L a w (Region.free_spec hoi ho1.2) hrd hc ?_ trivial hI hI2 ?_
        · rcases hy with ⟨h1, -, h3⟩ | ⟨h1, h2⟩
          · exact .inl ⟨h1, fun w _ => h3 hk w⟩
          · exact .inr ⟨h1, h2⟩
        · refine wpAnyI_mono ?_ _ _ _ _ (ih (L.setIfInBounds i true) K pend ρ h w env' _ ho2 (hc.set hrd) hs' hI2 ⟨hp.all, fun p hpk hn => hp.has p hpk (sub _ hn)⟩ e')
          intro L' w' hIK p hpk
          rcases List.mem_cons.1 hpk with rfl | hpk
          · exact fun _ => trivial
          · exact hIK p hpk
      · rename_i hk
        rw [hk] at ho1
        simp only [Bool.and_eq_true] at ho1
        obtain ⟨v, V, env', e', hv, hs', hy⟩ := stepD_still hs (.inr hk) e hr
        have hrd : i ∈ Region.ready .any ops L := by simpa using ho1.1
        have hRw : Region.wanted o (yielded ops a.tmps) = true → (execOp a.eval o).run P w = .ok (.value V) w := by
          rcases hy with ⟨-, h2, -⟩ | ⟨h1, -⟩
          · exact fun _ => h2
          · intro h; rw [h1] at h; cases h
        have hrc := again_ok (P := P) (ops := ops) (N0 := N0) (γ := γ) (V := V) hk hs.er hv
        refine hoist (v := V) (R := fun w => Region.wanted o (yielded ops a.tmps) = true → (execOp a.eval o).run P w = .ok (.value V) w) hoi (Region.noSelect_spec hsel) hQp (not_acts (.inr hk)) rest.length L a w (Region.free_spec hoi ho1.2) hrd hc ?_ hRw hI hI2 ?_
        · rcases hy with ⟨h1, -, -⟩ | ⟨h1, h2⟩
          · exact .inl ⟨h1, fun w hR => hR h1⟩
          · exact .inr ⟨h1, h2⟩
        · refine ih (L.setIfInBounds i true) _ _ ρ h w env' _ ho2 (hc.set hrd) hs' ?_ ⟨?_, ?_⟩ e'
          · intro p hpk hn
            rcases List.mem_cons.1 hpk with rfl | hpk
            · exact hRw
            · exact hI2 p hpk hn
          · intro q hq
            rcases List.mem_cons.1 hq with rfl | hq
            · exact ⟨_, hrc⟩
            · exact hp.all q hq
          · intro p hpk hn
            rcases List.mem_cons.1 hpk with rfl | hpk
            · exact ⟨_, by simp, hrc⟩
            · obtain ⟨f, h1, h2⟩ := hp.has p hpk (sub _ hn)
              exact ⟨f, by simp [h1], h2⟩
      · rename_i hk0 hk1
        have hact : Acts P o := ⟨hk0, hk1⟩
        have hrdy : Region.ready .any ops L = [i] := by
          split at ho1
          · exact absurd ‹_› hk0
          · exact absurd ‹_› hk1
          · split at ho1
            · rename_i j hj
              rw [beq_iff] at ho1
              rw [hj, ho1]
            · cases ho1
        have hrd : i ∈ Region.ready .any ops L := by rw [hrdy]; simp
        refine ⟨fun h => (by rw [hrdy] at h; cases h), fun j hj => ?_⟩
        obtain rfl : j = i := by rw [hrdy] at hj; simpa using hj
        refine stepD_act hγ hoi hs e hr fun v V ρ' h' w' env' e' hx hs' => ?_
        have hall : ∀ q ∈ pends o pend, ∃ R, Recheck N0 q.2 R ρ := fun q hq => hp.all q ((pends_mem pend q).1 hq).1
        obtain ⟨e2, hRs⟩ := agains_inv (pends o pend) hall hx hs'.inv e' hr
        have hhas : ∀ p ∈ K, NoAct P ops (L.setIfInBounds j true) p.1 → ∃ f, (p.1, f) ∈ pends o pend ∧ Recheck N0 f p.2 ρ := by
          intro p hpk hn
          obtain ⟨f, h1, h2⟩ := hp.has p hpk (sub _ hn)
          exact ⟨f, (pends_mem pend (p.1, f)).2 ⟨h1, hn j o hoi hact (getD_set_self (mem_ready.1 hrd).1)⟩, h2⟩
        have hI3 : IK P ops K (L.setIfInBounds j true) w' := by
          intro p hpk hn
          obtain ⟨f, h1, h2⟩ := hhas p hpk hn
          exact hRs _ h1 p.2 h2
        refine ⟨hI3, ih (L.setIfInBounds j true) K (pends o pend) ρ' h' w' env' _ ho2 (hc.set hrd) hs' hI3 ⟨?_, ?_⟩ e2⟩
        · intro q hq
          obtain ⟨R, hR⟩ := hall q hq
          exact ⟨R, hR.ext hx⟩
        · intro p hpk hn
          obtain ⟨f, h1, h2⟩ := hhas p hpk hn
          exact ⟨f, h1, h2.ext hx⟩
end
end Go.AM
