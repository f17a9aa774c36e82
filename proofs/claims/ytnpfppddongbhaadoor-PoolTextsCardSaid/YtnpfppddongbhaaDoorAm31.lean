/-
  The abstract machine, part 31: from what it answers to the statements: the empty memory to begin with; what was there is kept.
-/
import Derived.Test.YtnpfppddongbhaaDoorAm25
import Derived.ChangeSame
import Derived.RowKit3
namespace Go.AM
open Go
set_option autoImplicit false
noncomputable section

def H0 : Hp := ⟨0, .e, .e, .e⟩

/-- The base at a law's beginning. -/
def b0 (w : World) (g : Option Nat) : Base := ⟨w.heap.size, g⟩

theorem inv_H0 {w : World} {g : Option Nat} (hj : (b0 w g).J w) : Inv (b0 w g) (fun _ => none) H0 w where
  blk := fun b B h => by cases h
  nb := fun b B h => by cases h
  gnb := fun b B h => by cases h
  gs := fun g q h => by cases h
  als := fun b1 b2 B1 B2 p1 p2 h => by cases h
  lim := fun b1 b2 B1 B2 p1 p2 h => by cases h
  free := fun _ _ => rfl
  wsz := Nat.le_refl _
  mp := ⟨fun b m h => (by cases h), fun b1 b2 m1 m2 p1 p2 h => (by cases h)⟩
  jj := hj

/-- Nothing of what was there has turned. -/
def Kept (w w' : World) : Prop := w.keptBut w' (fun _ => False) ∧ (∀ r, r < w.heap.size → w'.heap[r]? = w.heap[r]?) ∧ w.heap.size ≤ w'.heap.size

theorem Tr.kept {ρ ρ' : Rho} {h h' : Hp} {w w' : World} (ht : Tr ρ h w ρ' h' w') (hf : ∀ b B, h.bs.get b = some B → B.fr = false) (hm : h.ms = .e) : Kept w w' := by
  have hfr : ∀ r, r < w.heap.size → w'.heap[r]? = w.heap[r]? := fun r hr => ht.frame r hr (fun b B p hb hB => by rw [hf b B hb] at hB; cases hB) (fun b m p hb => by rw [hm] at hb; cases hb)
  refine ⟨⟨ht.os, ht.output, fun i hi => ?_⟩, hfr, ht.size⟩
  rw [hfr i hi]
  cases h1 : w.heap[i]? with
  | none => simp
  | some o => cases o <;> simp

/-- Does it answer true? -/
def isT (r : Res) : Bool :=
  Res.rec (motive := fun _ => Bool) false (fun _ _ => false) (fun _ _ _ => false)
    (fun v _ => AV.rec (motive := fun _ => Bool) false (fun b => b) (fun _ _ => false) (fun _ _ => false) false (fun _ _ => false) false (fun _ _ _ _ _ => false) false false (fun _ _ _ => false) false (fun _ _ _ _ _ => false) false (fun _ => false) (fun _ _ => false) (fun _ _ => false) false (fun _ _ _ _ => false) v) r

theorem isT_inv {r : Res} (h : isT r = true) : ∃ h', r = .ret (.bool true) h' := by
  cases r with
  | ret v h' =>
    cases v <;> first
      | (rename_i b; cases b <;> first | exact ⟨h', rfl⟩ | exact Bool.noConfusion (show false = true from h))
      | exact Bool.noConfusion (show false = true from h)
  | _ => exact Bool.noConfusion (show false = true from h)

theorem law_walk {P : Program} {f : FuncId} {g : Fun} (hF : FSound P f g) {args : List AV} {Args : Array Value} (hT : isT (g args H0) = true) (w : World) (hj : (b0 w (P.globalNamed "internal/bytealg.MaxLen")).J w) (ha : F2 (VR fun _ => none) args Args.toList) :
    Calls P f Args w fun e w' => e = .returned (.bool true) ∧ Kept w w' := by
  obtain ⟨h', e⟩ := isT_inv hT
  refine (hF (b0 w _) rfl (fun _ => none) H0 w args Args (.bool true) h' e (inv_H0 hj) ha).mono fun e w' ⟨V, ρ', h1, h2⟩ => ?_
  have h3 : V = .bool true := h2.val
  subst h3
  exact ⟨h1, h2.tr.kept (fun b B hb => by cases hb) rfl⟩

theorem vr_i64 (ρ : Rho) (n : Int) : VR ρ (.int 63 n) (.int .i64 n) := ⟨.i64, rfl, rfl⟩
theorem vr_u8 (ρ : Rho) (n : Int) : VR ρ (.int 8 n) (.int .u8 n) := ⟨.u8, rfl, rfl⟩
theorem vr_bool (ρ : Rho) (b : Bool) : VR ρ (.bool b) (.bool b) := rfl
end
end Go.AM

namespace Go
section
variable {H : Type} {enc : TypeId × Value → H} {P : Program}
/-- What a law leaves behind: true; all that was there reads as before. -/
theorem AM.post_kept {f : Func} {s : ChangeSpec} {apart fresh handsOn : Bool} {W W' : World} {args : Array Value} {v : Value} {ds gs : List (DataW H)} {before pa pv : List MemPlace}
    (hW : DataW.Whole enc P f.params.toList s.vars apart W args.toList ds gs before)
    (hres : ∀ (b : Nat) (sp : Nat → Bool) (hd : Bool), DataW.TrodAll enc P W' b sp hd f.resultTypes.toList (v.resultList f.resultTypes.size) (s.fn H (ds ++ gs)).results [])
    (hargs : ∀ sp : Nat → Bool, (∀ p ∈ before, sp p.block = true) → DataW.TrodAll enc P W' 0 sp true f.params.toList args.toList (s.fn H (ds ++ gs)).args pa)
    (hvars : ∀ sp : Nat → Bool, (∀ p ∈ before, sp p.block = true) → DataW.TrodVars enc P W' sp s.vars (s.fn H (ds ++ gs)).vars pv)
    (hk : W.keptBut W' (fun _ => False)) : s.post enc P f apart fresh handsOn false W args v W' := by
  have hold : ∀ p ∈ before, (fun b => decide (b < W.heap.size)) p.block = true := fun p hp => by simpa using hW.lt p hp
  exact ⟨ds, gs, before, [], pa, pv, hW, hres _ _ _, hargs _ hold, hvars _ hold, World.keptBut_mono (fun p hp => hp.elim) hk, fun h => by cases h⟩
end
end Go
