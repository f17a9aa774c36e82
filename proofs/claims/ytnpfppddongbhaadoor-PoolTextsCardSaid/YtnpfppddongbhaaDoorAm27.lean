/-
  The abstract machine, part 27 (between 26 and 24): regions with a drawn order: operations that only compute or look at memory.
-/
import Derived.Test.YtnpfppddongbhaaDoorAm26
namespace Go.AM
open Go
set_option autoImplicit false

section
variable {P : Program} {N0 : Base} {ρ : Rho} {h : Hp} {w : World} {r : Res} {env : Env} {a : Act}

theorem pure_val {o : Oper} {s : Sem Value} {k : AV → Hp → Res} (ho : execOp a.eval o = (do pure (.value (← s)))) (hd : ∃ v, k v h = r ∧ Pur P ρ s v) :
    ∃ v V, k v h = r ∧ VR ρ v V ∧ ∀ w, (execOp a.eval o).run P w = .ok (.value V) w := by
  obtain ⟨v, h1, V, h2, h3⟩ := hd
  exact ⟨v, V, h1, h2, fun w => by rw [ho, Sem.run_bind, h3]; rfl⟩

theorem dOp_pure {γ : FuncId → Option Fun} (o : Oper) {k : AV → Hp → Res} (hi : Inv N0 ρ h w) (he : ERel ρ env a) (hk : kindD P o.op = 0) (e : dOp P γ env h o.op k = r) (hr : r ≠ .fail) :
    ∃ v V, k v h = r ∧ VR ρ v V ∧ ∀ w, (execOp a.eval o).run P w = .ok (.value V) w := by
  generalize ho : o.op = op at e hk
  have hx : ∀ v : Operand, VR ρ (ev env v) (a.eval v) := ev_rel he
  cases op with
  | move x => exact ⟨_, _, e, hx x, fun w => by simp [execOp, ho]⟩
  | assign x => exact ⟨_, _, e, hx x, fun w => by simp [execOp, ho]⟩
  | pick c x y =>
    obtain ⟨t, h1, h2⟩ := cB_inv e hr
    have h3 := hx c
    rw [h1] at h3
    have h3 : a.eval c = .bool t := h3
    refine ⟨_, if t then a.eval x else a.eval y, h2, ?_, fun w => by simp [execOp, ho, h3, asBool]⟩
    cases t
    · exact hx y
    · exact hx x
  | build t ps =>
    exact pure_val (by simp only [execOp, ho]) (build_ok (ps := lowered env ps.toList) (pv := ps.map fun (i, x) => (i, a.eval x)) (by rw [Array.toList_map]; exact lowered_rel he ps.toList) e hr)
  | nilCheck x =>
    obtain ⟨h1, h2⟩ := nck_ok (P := P) o (kk := k) ho rfl e hr (hx x)
    exact ⟨_, _, h1, hx x, h2⟩
  | binOp op t x y z => exact pure_val (by simp only [execOp, ho]) (dBin2_pur x y e hr (hx x) (hx y))
  | unOp op t x =>
    simp only [dOp] at e
    split at e
    · exact pure_val (by simp only [execOp, ho]) (iNeg_pur e hr (hx x))
    · exact pure_val (by simp only [execOp, ho]) (iNot_pur e hr (hx x))
    · exact pure_val (by simp only [execOp, ho]) (bNot_pur e hr (hx x))
    · exact absurd e.symm hr
  | convert s d x =>
    simp only [dOp] at e
    simp only [kindD] at hk
    split at hk
    · rename_i k1 c hs hd
      simp only [dConv2, dConv, hs, hd] at e
      obtain ⟨c1, y, h0, h1⟩ := cI_inv e hr
      have h3 := hx x
      rw [h0] at h3
      obtain ⟨k2, -, h3⟩ := h3
      refine ⟨_, .int c (c.wrap y), h1, ⟨c, rfl, by rw [wrapC_eq]⟩, fun w => ?_⟩
      simp only [execOp, ho, h3]
      unfold convert
      simp [run_und hs, run_und hd, Conv.intToInt]
    · rename_i hs hd
      simp only [dConv2, dConv, hs, hd] at e
      obtain ⟨n, y, h0, h1⟩ := cS_inv e hr
      have h3 := hx x
      rw [h0] at h3
      obtain ⟨st, h3, h4, h5⟩ := h3
      refine ⟨_, .string st, h1, ⟨st, rfl, h4, h5⟩, fun w => ?_⟩
      simp only [execOp, ho, h3]
      unfold convert
      simp [run_und hs, run_und hd]
    · cases hk
    · cases hk
  | makeInterface t x =>
    simp only [dOp] at e
    split at e
    · exact absurd e.symm hr
    · exact absurd e.symm hr
    · rename_i h1 h2
      cases hu : P.underlying t with
      | none => exact absurd hu h2
      | some d => exact pure_val (by simp only [execOp, ho]) ⟨_, e, ifc_ok hu (fun ms hms => h1 ms (by rw [hu, hms])) (hx x)⟩
  | slice t x lo hi' mx =>
    simp only [dOp] at e
    obtain ⟨h0, e⟩ := sif_inv e hr
    have h0' : ((mx.map (ev env)).isNone || (hi'.map (ev env)).isSome) = true := by simpa using h0
    split at e
    · rename_i hu
      split at e
      · exact pure_val (by simp only [execOp, ho, Option.map_none]) (cutT_ok hu e hr (hx x) (or_rel he lo) (or_rel he hi'))
      · exact absurd e.symm hr
    · rename_i u hu
      obtain ⟨h1, h2⟩ := sif_inv e hr
      exact pure_val (by simp only [execOp, ho]) (cutS_ok hu h1 h0' h2 hr (hx x) (or_rel he lo) (or_rel he hi') (or_rel he mx))
    · rename_i n u hu
      obtain ⟨h1, h2⟩ := sif_inv e hr
      exact pure_val (by simp only [execOp, ho]) (cutP_ok hi hu h1 h0' h2 hr (hx x) (or_rel he lo) (or_rel he hi') (or_rel he mx))
    · exact absurd e.symm hr
  | fieldAddr t x f =>
    simp only [dOp] at e
    split at e
    · rename_i fs hu
      split at e
      · rename_i fd hf
        obtain ⟨h1, h2⟩ := sifT_inv e hr
        exact pure_val (by simp only [execOp, ho]) (fieldAddr_ok (k := fun v => k v h) hu hf (fun h0 => by rw [← beq_iff, h1] at h0; cases h0) h2 hr (hx x))
      · exact absurd e.symm hr
    · exact absurd e.symm hr
  | field t x f =>
    simp only [dOp] at e
    split at e
    · rename_i fs hu
      split at e
      · rename_i fd hf
        obtain ⟨h1, h2⟩ := sif_inv e hr
        exact pure_val (by simp only [execOp, ho]) (field_ok hu hf h1 h2 hr (hx x))
      · exact absurd e.symm hr
    · exact absurd e.symm hr
  | indexAddr t x i =>
    simp only [dOp] at e
    split at e
    · rename_i u hu
      obtain ⟨h1, h2⟩ := sif_inv e hr
      exact pure_val (by simp only [execOp, ho]) (ixA_ok hu h1 h2 hr (hx x) (hx i))
    · rename_i n u hu
      obtain ⟨h1, h2⟩ := sif_inv e hr
      exact pure_val (by simp only [execOp, ho]) (ixP_ok hu h1 h2 hr (hx x) (hx i))
    · exact absurd e.symm hr
  | index t x i =>
    simp only [dOp] at e
    split at e
    · rename_i hu
      exact pure_val (by simp only [execOp, ho]) (sIdx_pur hu e hr (hx x) (hx i))
    · rename_i n u hu
      obtain ⟨h1, h2⟩ := sif_inv e hr
      exact pure_val (by simp only [execOp, ho]) (ixV_ok hu h1 h2 hr (hx x) (hx i))
    · exact absurd e.symm hr
  | extract x i => exact pure_val (by simp only [execOp, ho]) (extract_ok (k := fun v => k v h) e hr (hx x))
  | call c =>
    simp only [dOp] at e
    simp only [kindD] at hk
    split at hk
    · rename_i hc
      rw [hc] at e
      simp only at e
      split at e
      · rename_i x t hxl htl
        have hargs : c.args = #[x] := by apply Array.toList_inj.1; rw [hxl]
        have htys : c.argTypes = #[t] := by apply Array.toList_inj.1; rw [htl]
        have hex : execOp a.eval o = (do pure (.value (← Builtin.len_ #[t] o.type #[a.eval x]))) := by
          simp [execOp, ho, resolve, hc, hargs, htys, invoke, builtin]
        split at e
        · rename_i hu
          exact pure_val hex (lenS_ok hu e hr (hx x))
        · rename_i u hu
          exact pure_val hex (lenL_ok hu e hr (hx x))
        · exact absurd e.symm hr
      · exact absurd e.symm hr
    · cases hk
  | makeFunc f l m => exact ⟨_, .func f (l.map a.eval) (m.map a.eval), e, mkf_rel he f l m, fun w => by simp [execOp, ho, Instr.makeFunc]⟩
  | makeMap t rs => cases hk
  | lookup t x i ok => cases hk
  | mapUpdate t m x v => cases hk
  | insert t m x v => cases hk
  | alloc t => cases hk
  | box t x => cases hk
  | buildSlice t n ps => cases hk
  | makeSlice t l c => cases hk
  | store t x y => cases hk
  | load t x => cases hk
  | range t x => cases hk
  | next x s => cases hk
  | _ => exact absurd e.symm hr

theorem dOp_read {γ : FuncId → Option Fun} (o : Oper) {k : AV → Hp → Res} (hi : Inv N0 ρ h w) (he : ERel ρ env a) (hk : kindD P o.op = 1) (e : dOp P γ env h o.op k = r) (hr : r ≠ .fail) :
    ∃ v V, k v h = r ∧ VR ρ v V ∧ (execOp a.eval o).run P w = .ok (.value V) w := by
  generalize ho : o.op = op at e hk
  have hx : ∀ v : Operand, VR ρ (ev env v) (a.eval v) := ev_rel he
  cases op with
  | load t x =>
    simp only [dOp] at e
    obtain ⟨h1, h2⟩ := sif_inv e hr
    split at h2
    · rename_i ht
      obtain ⟨v, V, g1, g2, g3⟩ := ldN_ok hi ht h1 h2 hr (hx x)
      exact ⟨v, V, g1, g2, by simp only [execOp, ho]; rw [Sem.run_bind, g3]; rfl⟩
    · rename_i ht
      obtain ⟨v, V, g1, g2, g3⟩ := ld1_ok hi ht h1 h2 hr (hx x)
      exact ⟨v, V, g1, g2, by simp only [execOp, ho]; rw [Sem.run_bind, g3]; rfl⟩
  | convert s d x =>
    simp only [dOp] at e
    simp only [kindD] at hk
    unfold dConv2 at e
    split at e
    · rename_i hs hd; rw [hs, hd] at hk; cases hk
    unfold dConv at e
    split at e
    · rename_i hs hd; rw [hs, hd] at hk; cases hk
    · rename_i hs hd; rw [hs, hd] at hk; cases hk
    · rename_i u hs hd
      split at e
      · rename_i hu
        obtain ⟨v, V, g1, g2, g3⟩ := b2s_ok hi hs hd hu e hr (hx x)
        exact ⟨v, V, g1, g2, by simp only [execOp, ho]; rw [Sem.run_bind, g3]; rfl⟩
      · exact absurd e.symm hr
    · rename_i u hs hd; rw [hs, hd] at hk; cases hk
    · exact absurd e.symm hr
  | call c =>
    simp only [kindD] at hk
    split at hk <;> cases hk
  | lookup t x i ok =>
    simp only [dOp] at e
    split at e
    · rename_i kt et ht
      split at e
      · rename_i q hq
        obtain ⟨d, hd, hkq⟩ := keyQ_inv hq
        obtain ⟨v, V, g1, g2, g3⟩ := lkp_ok (k := fun v => k v h) hi ht hd hkq e hr (hx x) (hx i)
        exact ⟨v, V, g1, g2, by simp only [execOp, ho]; rw [Sem.run_bind, g3]; rfl⟩
      · exact absurd e.symm hr
    · exact absurd e.symm hr
  | makeMap t rs => cases hk
  | mapUpdate t m x v => cases hk
  | insert t m x v => cases hk
  | alloc t => cases hk
  | box t x => cases hk
  | buildSlice t n ps => cases hk
  | makeSlice t l c => cases hk
  | store t x y => cases hk
  | _ => cases hk
end
end Go.AM
