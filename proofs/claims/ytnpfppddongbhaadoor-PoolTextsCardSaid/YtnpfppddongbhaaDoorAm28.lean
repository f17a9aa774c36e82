/-
  The abstract machine, part 28 (between 27 and 24): regions with a drawn order: any order.
-/
import Derived.Test.YtnpfppddongbhaaDoorAm27
namespace Go.AM
open Go
set_option autoImplicit false

section
variable {P : Program} {ops : Array Oper} {Q : Exit → Act → World → Prop}

/-- Whatever order is picked, and I holds behind every operation. -/
def wpAnyI (P : Program) (ops : Array Oper) (Q : Exit → Act → World → Prop) (I : Array Bool → World → Prop) : Nat → Array Bool → Act → World → Prop
  | 0, L, a, w => Region.ready .any ops L = [] ∧ Q .normal a w
  | fuel + 1, L, a, w => (Region.ready .any ops L = [] → Q .normal a w) ∧
    ∀ i ∈ Region.ready .any ops L, wpOp P ops Q i (fun a' w' => I (L.setIfInBounds i true) w' ∧ wpAnyI P ops Q I fuel (L.setIfInBounds i true) a' w') a w

theorem wpAny_of_I {I : Array Bool → World → Prop} : ∀ (fuel : Nat) (L : Array Bool) (a : Act) (w : World), wpAnyI P ops Q I fuel L a w → wpAny P .any ops Q fuel L a w
  | 0, _, _, _, h => h
  | fuel + 1, _, _, _, h => ⟨h.1, fun i hi => wpOp_mono (fun a' w' h' => wpAny_of_I fuel _ a' w' h'.2) (h.2 i hi)⟩

theorem wpAnyI_mono {I J : Array Bool → World → Prop} (hIJ : ∀ L w, I L w → J L w) : ∀ (fuel : Nat) (L : Array Bool) (a : Act) (w : World), wpAnyI P ops Q I fuel L a w → wpAnyI P ops Q J fuel L a w
  | 0, _, _, _, h => h
  | fuel + 1, _, _, _, h => ⟨h.1, fun i hi => wpOp_mono (fun a' w' h' => ⟨hIJ _ _ h'.1, wpAnyI_mono hIJ fuel _ a' w' h'.2⟩) (h.2 i hi)⟩

/-- An operation that may change memory. -/
def Acts (P : Program) (o : Oper) : Prop := kindD P o.op ≠ 0 ∧ kindD P o.op ≠ 1
def Closed (ops : Array Oper) (L : Array Bool) : Prop := ∀ j oj, ops[j]? = some oj → L.getD j false = true → ∀ e ∈ oj.after, Region.binds .any e = true → L.getD e.on false = true
/-- No operation that is done and may change memory waits for number i. -/
def NoAct (P : Program) (ops : Array Oper) (L : Array Bool) (i : Nat) : Prop := ∀ j oj, ops[j]? = some oj → Acts P oj → L.getD j false = true → ∀ e ∈ oj.after, Region.binds .any e = true → e.on ≠ i
/-- What pends. -/
def IK (P : Program) (ops : Array Oper) (K : List (Nat × (World → Prop))) (L : Array Bool) (w : World) : Prop := ∀ p ∈ K, NoAct P ops L p.1 → p.2 w

theorem getD_set_inv {L : Array Bool} {i j : Nat} (h : (L.setIfInBounds i true).getD j false = true) : j = i ∨ L.getD j false = true := by
  by_cases hij : i = j
  · exact .inl hij.symm
  · rw [getD_set_ne false hij] at h; exact .inr h

theorem getD_set_self {L : Array Bool} {i : Nat} (h : L.getD i true = false) : (L.setIfInBounds i true).getD i false = true := by
  have hlt : i < L.size := by
    rcases Nat.lt_or_ge i L.size with h' | h'
    · exact h'
    · simp [Array.getElem?_eq_none h'] at h
  simp [hlt]

theorem getD_both {L : Array Bool} {i : Nat} (h : L.getD i true = false) : L.getD i false = false := by
  rcases Nat.lt_or_ge i L.size with h' | h'
  · simp [h'] at h ⊢; exact h
  · simp [Array.getElem?_eq_none h'] at h

theorem Closed.set {L : Array Bool} {i : Nat} (hc : Closed ops L) (hr : i ∈ Region.ready .any ops L) : Closed ops (L.setIfInBounds i true) := by
  obtain ⟨h0, o, ho, hall⟩ := mem_ready.1 hr
  intro j oj hj hl e he hb
  rcases getD_set_inv hl with rfl | hl
  · rw [ho] at hj
    obtain rfl := Option.some.inj hj
    exact getD_set_true (hall e he hb)
  · exact getD_set_true (hc j oj hj hl e he hb)

/-- Nobody that is done waits for what is not. -/
theorem Closed.noEdge {L : Array Bool} {i : Nat} (hc : Closed ops L) (hr : i ∈ Region.ready .any ops L) : ∀ j oj, ops[j]? = some oj → L.getD j false = true → ∀ e ∈ oj.after, Region.binds .any e = true → e.on ≠ i := by
  obtain ⟨h0, o, ho, hall⟩ := mem_ready.1 hr
  intro j oj hj hl e he hb hei
  have := hc j oj hj hl e he hb
  rw [hei, getD_both h0] at this
  cases this

theorem NoAct.set {L : Array Bool} {i k : Nat} {oi : Oper} (hi : ops[i]? = some oi) (hna : ¬ Acts P oi) (h : NoAct P ops L k) : NoAct P ops (L.setIfInBounds i true) k := by
  intro j oj hj ha hl
  rcases getD_set_inv hl with rfl | hl
  · rw [hi] at hj
    obtain rfl := Option.some.inj hj
    exact absurd ha hna
  · exact h j oj hj ha hl

theorem IK.less {L : Array Bool} {i : Nat} {oi : Oper} {K : List (Nat × (World → Prop))} {w : World} (hi : ops[i]? = some oi) (hna : ¬ Acts P oi) (h : IK P ops K (L.setIfInBounds i true) w) : IK P ops K L w :=
  fun p hp hn => h p hp (hn.set hi hna)

/-- An operation that changes nothing is taken as early as may be. -/
theorem hoist {i : Nat} {oi : Oper} {v : Value} {R : World → Prop} {K : List (Nat × (World → Prop))} (hi : ops[i]? = some oi) (hsel : ∀ (j : Nat) (o : Oper) cs b, ops[j]? = some o → o.op ≠ .select cs b)
    (hQ : ∀ c a w, ¬ Q (.panic c) a w) (hna : ¬ Acts P oi) :
    ∀ (fuel : Nat) (L : Array Bool) (a : Act) (w : World),
      (∀ j oj, ops[j]? = some oj → j ≠ i → L.getD j true = false → (∀ e ∈ oj.after, Region.binds .any e = true → e.on ≠ i) → oi.apart ops oj = true) →
      i ∈ Region.ready .any ops L → Closed ops L → YieldsIf P ops R oi v a → R w → IK P ops K L w → IK P ops K (L.setIfInBounds i true) w →
      wpAnyI P ops Q (IK P ops ((i, R) :: K)) fuel (L.setIfInBounds i true) (a.put oi.dst v) w → wpAnyI P ops Q (IK P ops K) (fuel + 1) L a w := by
  have weak : ∀ L w, IK P ops ((i, R) :: K) L w → IK P ops K L w := fun L w h p hp => h p (by simp [hp])
  intro fuel
  induction fuel with
  | zero =>
    intro L a w _ hr _ hy hR _ hI H
    refine ⟨fun h => (by rw [h] at hr; cases hr), fun j hj => ?_⟩
    by_cases hji : j = i
    · subst hji; exact hy.wpOp hi hR ⟨hI, wpAnyI_mono weak 0 _ _ _ H⟩
    · have := ready_mono hj hji
      rw [H.1] at this
      cases this
  | succ fuel ih =>
    intro L a w hfree hr hc hy hR hI0 hI H
    refine ⟨fun h => (by rw [h] at hr; cases hr), fun j hj => ?_⟩
    by_cases hji : j = i
    · subst hji; exact hy.wpOp hi hR ⟨hI, wpAnyI_mono weak _ _ _ _ H⟩
    · have h1 := H.2 j (ready_mono hj hji)
      obtain ⟨hjun, oj, hoj, hall⟩ := mem_ready.1 hj
      have hnot : ∀ e ∈ oj.after, Region.binds .any e = true → e.on ≠ i := fun e he hb heq => by
        have h1 := hall e he hb
        rw [heq, getD_both (mem_ready.1 hr).1] at h1
        cases h1
      have h2 := wpOp_putIf hoj (hfree j oj hoj hji hjun hnot) (fun cs b => hsel i oi cs b hi) (fun cs b => hsel j oj cs b hoj) (fun c a w h => absurd h (hQ c _ w)) hy h1
      have hfree' : ∀ k ok, ops[k]? = some ok → k ≠ i → (L.setIfInBounds j true).getD k true = false →
          (∀ e ∈ ok.after, Region.binds .any e = true → e.on ≠ i) → oi.apart ops ok = true := fun k ok hk hki hun hno => by
        refine hfree k ok hk hki ?_ hno
        by_cases hjk : j = k
        · subst hjk; exact hjun
        · rw [getD_set_ne true hjk] at hun; exact hun
      refine wpOp_mono (fun a' w' h3 => ?_) h2
      obtain ⟨h4, h5, h6⟩ := h3
      rw [Array.setIfInBounds_comm _ _ (Ne.symm hji)] at h6
      have h5' : IK P ops ((i, R) :: K) ((L.setIfInBounds j true).setIfInBounds i true) w' := by rw [Array.setIfInBounds_comm _ _ hji]; exact h5
      have hc' := hc.set hj
      have hr' := ready_mono hr (Ne.symm hji)
      have hRw : R w' := by
        refine h5' (i, R) (by simp) ?_
        intro k ok hk ha hl
        rcases getD_set_inv hl with rfl | hl
        · rw [hi] at hk
          obtain rfl := Option.some.inj hk
          exact absurd ha hna
        · exact hc'.noEdge hr' k ok hk hl
      have hK := weak _ _ h5'
      exact ⟨hK.less hi hna, ih (L.setIfInBounds j true) a' w' hfree' hr' hc' h4 hRw (hK.less hi hna) hK h6⟩
end
end Go.AM
