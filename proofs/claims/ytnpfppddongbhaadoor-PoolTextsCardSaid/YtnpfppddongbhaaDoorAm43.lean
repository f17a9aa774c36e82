/-
  The abstract machine, part 43: functions without a body: where a byte is in a text; how often.
-/
import Derived.Test.YtnpfppddongbhaaDoorAm32
import Derived.Laws.StandIn
import Derived.Lib.Bytealg
namespace Go.AM
open Go
set_option autoImplicit false

theorem efail {P : Program} {f : FuncId} : ESound P f (fun _ _ => .fail) := fun N0 hN ρ h w args Args v h' e => by cases e

theorem idxB_eq (x : Nat) (c : UInt8) : ∀ (l : List UInt8) (i : Nat), (∀ j (hj : j < l.length), byteAt x (i + j) = l[j].toNat) → idxB x c.toNat l.length i = if Lib.indexByte l c = -1 then -1 else Lib.indexByte l c + i := by
  intro l
  induction l with
  | nil => intro i _; rfl
  | cons b l ih =>
    intro i h
    have e : idxB x c.toNat (l.length + 1) i = Bool.rec (motive := fun _ => Int) (idxB x c.toNat l.length (i + 1)) (Int.ofNat i) (Nat.beq (byteAt x i) c.toNat) := rfl
    rw [List.length_cons, e, recB]
    have h0 := h 0 (by simp)
    simp only [Nat.add_zero, List.getElem_cons_zero] at h0
    rw [h0]
    simp only [beq_iff]
    have hge := Lib.indexByte_ge l c
    unfold Lib.indexByte
    by_cases hb : b = c
    · subst hb
      simp
    · have hn : ¬ b.toNat = c.toNat := fun h => hb (UInt8.toNat_inj.1 h)
      have hb' : (b == c) = false := by simpa using hb
      rw [if_neg hn, ih (i + 1) (fun j hj => by
        have := h (j + 1) (by simpa using hj)
        rw [show i + 1 + j = i + (j + 1) by omega]
        simpa using this), hb']
      simp only [Bool.false_eq_true, if_false, beq_iff_eq]
      split
      · simp
      · rw [if_neg (by omega)]; omega

theorem cntB_eq (x : Nat) (c : UInt8) : ∀ (l : List UInt8) (i : Nat), (∀ j (hj : j < l.length), byteAt x (i + j) = l[j].toNat) → cntB x c.toNat l.length i = Lib.countByte l c := by
  intro l
  induction l with
  | nil => intro i _; rfl
  | cons b l ih =>
    intro i h
    have e : cntB x c.toNat (l.length + 1) i = Bool.rec (motive := fun _ => Nat) (cntB x c.toNat l.length (i + 1)) (Nat.succ (cntB x c.toNat l.length (i + 1))) (Nat.beq (byteAt x i) c.toNat) := rfl
    rw [List.length_cons, e, recB]
    have h0 := h 0 (by simp)
    simp only [Nat.add_zero, List.getElem_cons_zero] at h0
    rw [h0]
    simp only [beq_iff]
    rw [ih (i + 1) (fun j hj => by
      have := h (j + 1) (by simpa using hj)
      rw [show i + 1 + j = i + (j + 1) by omega]
      simpa using this)]
    unfold Lib.countByte
    rw [List.count_cons]
    by_cases hb : b = c
    · subst hb; simp
    · have hn : ¬ b.toNat = c.toNat := fun h => hb (UInt8.toNat_inj.1 h)
      rw [if_neg hn]
      simp [hb]

section
variable {P : Program} {f : FuncId} {fn : Func}
theorem x2_inv {ρ : Rho} {args : List AV} {Args : Array Value} {h h' : Hp} {v : AV} {r : Nat → Nat → Nat → Int}
    (e : (List.rec (motive := fun _ => Res) .fail (fun s t _ => List.rec (motive := fun _ => Res) .fail (fun c t _ => List.rec (motive := fun _ => Res)
      (cS s fun n x => cI c fun d b => ifB (Nat.beq d 8) (Int.rec (motive := fun _ => Res) (fun b => ifB (Nat.blt b 256) (.ret (.int 63 (r n x b)) h) .fail) (fun _ => .fail) b) .fail) (fun _ _ _ => .fail) t) t) args : Res) = .ret v h')
    (ha : F2 (VR ρ) args Args.toList) : ∃ (s : ByteArray) (c : UInt8), Args = #[.string s, .int .u8 c.toNat] ∧ v = .int 63 (r s.data.size (packB s.data.toList) c.toNat) ∧ h' = h := by
  cases ha' : Args.toList with
  | nil =>
    rw [ha'] at ha
    cases ha
    cases e
  | cons A L =>
    rw [ha'] at ha
    cases ha with
    | @cons a _ _ _ hA hL =>
      cases hL with
      | nil => cases e
      | @cons b _ _ _ hB hL2 =>
        cases hL2 with
        | cons hC hL3 => cases e
        | nil =>
          have e : (cS a fun n x => cI b fun d c => ifB (Nat.beq d 8) (Int.rec (motive := fun _ => Res) (fun c => ifB (Nat.blt c 256) (.ret (.int 63 (r n x c)) h) .fail) (fun _ => .fail) c) .fail) = .ret v h' := e
          obtain ⟨n, x, rfl, e1⟩ := cS_inv e (by simp)
          obtain ⟨d, c, rfl, e2⟩ := cI_inv e1 (by simp)
          obtain ⟨hd, e3⟩ := ifF_inv e2 (by simp)
          rw [beq_iff] at hd
          subst hd
          obtain ⟨m, rfl, e4⟩ := natC_inv e3 (by simp)
          obtain ⟨hm, e5⟩ := ifF_inv e4 (by simp)
          rw [blt_iff] at hm
          obtain ⟨s, rfl, rfl, rfl⟩ := hA
          obtain ⟨k, hk, rfl⟩ := hB
          obtain rfl : k = .u8 := cOf_inj _ _ hk
          cases e5
          refine ⟨s, UInt8.ofNat m, ?_, ?_, rfl⟩
          · apply Array.toList_inj.1
            rw [ha']
            have : ((UInt8.ofNat m).toNat : Int) = m := by rw [u8n _ hm]
            rw [this]
          · rw [u8n _ hm]

theorem xIdx_e (hf : P.funcs[f]? = some fn) (hn : (fn.name == "runtime.NumGoroutine") = false) (hb : fn.body.isNone = true) (hx : Extern.findNext fn = none) (he : Extern.find fn = some Extern.BytealgIndexByte.indexByte) : ESound P f xIdx := by
  intro N0 hN ρ h w args Args v h' e hi ha
  obtain ⟨s, c, rfl, rfl, rfl⟩ := x2_inv (r := fun n x b => idxB x b n 0) e ha
  refine ⟨.int .i64 (Lib.indexByte s.data.toList c), w, ρ, ?_, ⟨.i64, rfl, ?_⟩, hi, Tr.refl _ _ _⟩
  · rw [run_callFunc_extern hf hn hb hx he, Lib.run_indexByteString]
    simp
  · have h1 := idxB_eq (packB s.data.toList) c s.data.toList 0 (fun j hj => by rw [Nat.zero_add]; exact byteAt_eq _ _ hj)
    simp only [Array.length_toList] at h1
    rw [h1]
    have hge := Lib.indexByte_ge s.data.toList c
    congr 1
    split
    · rename_i h0; exact h0
    · simp

theorem xCnt_e (hf : P.funcs[f]? = some fn) (hn : (fn.name == "runtime.NumGoroutine") = false) (hb : fn.body.isNone = true) (hx : Extern.findNext fn = none) (he : Extern.find fn = some Extern.BytealgCount.count) : ESound P f xCnt := by
  intro N0 hN ρ h w args Args v h' e hi ha
  obtain ⟨s, c, rfl, rfl, rfl⟩ := x2_inv (r := fun n x b => Int.ofNat (cntB x b n 0)) e ha
  refine ⟨.int .i64 (Lib.countByte s.data.toList c), w, ρ, ?_, ⟨.i64, rfl, ?_⟩, hi, Tr.refl _ _ _⟩
  · rw [run_callFunc_extern hf hn hb hx he, Lib.run_countString]
    simp
  · have h1 := cntB_eq (packB s.data.toList) c s.data.toList 0 (fun j hj => by rw [Nat.zero_add]; exact byteAt_eq _ _ hj)
    simp only [Array.length_toList] at h1
    rw [h1]; rfl
end
end Go.AM
