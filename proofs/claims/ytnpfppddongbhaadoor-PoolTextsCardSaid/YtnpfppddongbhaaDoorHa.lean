/-
  Two functions of the library that the machine gets from the kit's contracts: ReplaceAll of one byte by one; Repeat.
-/
import Derived.Test.YtnpfppddongbhaaDoorAm43
import Derived.Test.YtnpfppddongbhaaDoorShelf
namespace Go.Proofs.YtnpfppddongbhaaDoor
open Go Go.AM Go.RowKit
set_option autoImplicit false

theorem _root_.Go.AM.Inv.below {N0 : Base} {ρ : Rho} {h : Hp} {w w' : World} (hi : Inv N0 ρ h w) (hb : Below w.heap.size w w') : Inv N0 ρ h w' := by
  have hw : ∀ (r : Nat) (o : Obj), w.heap[r]? = some o → w'.heap[r]? = some o := fun r o hr => by
    rw [hb.block r (by
      rw [Array.getElem?_eq_some_iff] at hr
      exact hr.1), hr]
  refine ⟨fun b B hB => ?_, hi.nb, hi.gnb, hi.gs, hi.als, hi.lim, hi.free, Nat.le_trans hi.wsz hb.size, hi.mp.later (Ext.refl ρ) (Nat.le_refl _) fun r o hr _ => by rw [hw r o hr, hr], Base.st hi.jj fun r hr => hb.block r (Nat.lt_of_lt_of_le hr hi.wsz)⟩
  obtain ⟨p, h1, h2⟩ := hi.blk b B hB
  obtain ⟨cs, e, fz, g1, g2, g3, g4⟩ := h2.obj
  exact ⟨p, h1, ⟨cs, e, fz, hw _ _ g1, g2, g3, g4⟩, h2.fit, h2.side⟩

theorem _root_.Go.AM.Tr.below (ρ : Rho) (h : Hp) {w w' : World} (hb : Below w.heap.size w w') : Tr ρ h w ρ h w' :=
  ⟨Ext.refl ρ, Nat.le_refl _, fun _ _ e => .inl e, fun r hr _ _ => hb.block r hr, fun b B p h1 h2 h3 => .inr ⟨b, B, p, h1, h2, h3, rfl⟩, fun b m p h1 h3 => .inr ⟨b, m, p, h1, h3, rfl⟩, hb.size, hb.tape, hb.os, hb.output⟩

/-- A text's bytes. -/
def unp (n x : Nat) : List UInt8 := (List.range n).map fun i => UInt8.ofNat (byteAt x i)
theorem unp_pack (l : List UInt8) : unp l.length (packB l) = l := by
  unfold unp
  apply List.ext_getElem (by simp)
  intro i h1 h2
  rw [List.getElem_map, List.getElem_range, byteAt_eq l i h2]
  exact UInt8.toNat_inj.1 (by rw [UInt8.toNat_ofNat_of_lt' l[i].toNat_lt])

def rep1 (o z : UInt8) (l : List UInt8) : List UInt8 := l.map fun b => if b = o then z else b
theorem replaceK_one (o z : UInt8) : ∀ l : List UInt8, Lib.replaceK [o] [z] (l.count o) l = rep1 o z l := by
  intro l
  induction l with
  | nil => rfl
  | cons b l ih =>
    by_cases hb : b = o
    · subst hb
      rw [List.count_cons_self, Lib.replaceK_hit [b] [z] _ _ 0 (by rw [Lib.index_one]; unfold Lib.indexByte; simp)]
      simp only [List.take_zero, List.nil_append, List.length_singleton, Nat.zero_add, List.drop_one, List.tail_cons, ih, rep1, List.map_cons, if_true, List.singleton_append]
    · rw [List.count_cons_of_ne hb]
      have e : rep1 o z (b :: l) = b :: rep1 o z l := by simp [rep1, hb]
      rw [e, ← ih]
      cases hk : l.count o with
      | zero => rfl
      | succ k =>
        obtain ⟨i, hi⟩ := Lib.index_of_count (s := l) (old := [o]) (by rw [Lib.count_one]; omega)
        have hi2 : Lib.index (b :: l) [o] = ((i + 1 : Nat) : Int) := by
          rw [Lib.index_one] at hi ⊢
          have hbo : (b == o) = false := by simpa using hb
          unfold Lib.indexByte
          rw [hbo, hi]
          simp only [Bool.false_eq_true, if_false, beq_iff_eq]
          rw [if_neg (by omega)]
          omega
        rw [Lib.replaceK_hit [o] [z] k (b :: l) (i + 1) hi2, Lib.replaceK_hit [o] [z] k l i hi]
        simp
theorem replaceAll_one (o z : UInt8) (l : List UInt8) : Lib.replaceAll l [o] [z] = rep1 o z l := by
  unfold Lib.replaceAll Lib.replace
  by_cases h : o = z
  · subst h
    simp only [BEq.rfl, if_true]
    unfold rep1
    induction l with
    | nil => rfl
    | cons b l ih => rw [List.map_cons, ← ih]; congr 1; split <;> simp_all
  · have h1 : ([o] == [z]) = false := by simpa using h
    rw [h1]
    simp only [Bool.false_eq_true, if_false]
    unfold Lib.replaceNum
    rw [if_pos (.inl (by decide)), Lib.count_one, replaceK_one]

noncomputable def s54 : Fun := fun a h => List.rec (motive := fun _ => Res) .fail (fun s t _ => List.rec (motive := fun _ => Res) .fail (fun o t _ => List.rec (motive := fun _ => Res) .fail (fun z t _ => List.rec (motive := fun _ => Res)
  (cS s fun n x => cS o fun no xo => cS z fun nz xz => ifB (Nat.blt n 1000000) (ifB (Nat.beq no 1) (ifB (Nat.beq nz 1) (.ret (.str n (packB (rep1 (UInt8.ofNat xo) (UInt8.ofNat xz) (unp n x)))) h) .fail) .fail) .fail) (fun _ _ _ => .fail) t) t) t) a
noncomputable def s58 : Fun := fun a h => List.rec (motive := fun _ => Res) .fail (fun s t _ => List.rec (motive := fun _ => Res) .fail (fun c t _ => List.rec (motive := fun _ => Res)
  (cS s fun n x => cI c fun d c => ifB (Nat.beq d 63) (Int.rec (motive := fun _ => Res) (fun c => ifB (Nat.ble c 1000000) (ifB (Nat.ble (n * c) 1000000) (.ret (.str (n * c) (packB (Lib.repeatL (unp n x) c))) h) .fail) .fail) (fun _ => .fail) c) .fail) (fun _ _ _ => .fail) t) t) a

theorem one_byte (s : ByteArray) (h : s.data.size = 1) : s.data.toList = [UInt8.ofNat (packB s.data.toList)] := by
  have h1 : s.data.toList.length = 1 := by simpa using h
  obtain ⟨b, hb⟩ := List.length_eq_one_iff.1 h1
  rw [hb]
  have e : packB [b] = b.toNat := by
    have : packB [b] = b.toNat + 256 * 0 := rfl
    omega
  rw [e]
  exact congrArg (fun x => [x]) (UInt8.toNat_inj.1 (by rw [UInt8.toNat_ofNat_of_lt' b.toNat_lt]))

theorem maxLen_at0 : Tryd.prog.globalNamed "internal/bytealg.MaxLen" = some 0 := by kernel_rfl

theorem F54s : FSound Tryd.prog 54 s54 := by
  intro N0 hN ρ h w args Args v h' e hi ha
  cases ha' : Args.toList with
  | nil => rw [ha'] at ha; cases ha; cases e
  | cons A L =>
    rw [ha'] at ha
    cases ha with
    | @cons a _ _ _ hA hL =>
      cases hL with
      | nil => cases e
      | @cons b _ _ _ hB hL2 =>
        cases hL2 with
        | nil => cases e
        | @cons c _ _ _ hC hL3 =>
          cases hL3 with
          | cons hD hL4 => cases e
          | nil =>
            have e : (cS a fun n x => cS b fun no xo => cS c fun nz xz => ifB (Nat.blt n 1000000) (ifB (Nat.beq no 1) (ifB (Nat.beq nz 1) (.ret (.str n (packB (rep1 (UInt8.ofNat xo) (UInt8.ofNat xz) (unp n x)))) h) .fail) .fail) .fail) = .ret v h' := e
            obtain ⟨n, x, rfl, e1⟩ := cS_inv e (by simp)
            obtain ⟨no, xo, rfl, e2⟩ := cS_inv e1 (by simp)
            obtain ⟨nz, xz, rfl, e3⟩ := cS_inv e2 (by simp)
            obtain ⟨g1, e4⟩ := ifF_inv e3 (by simp)
            obtain ⟨g2, e5⟩ := ifF_inv e4 (by simp)
            obtain ⟨g3, e6⟩ := ifF_inv e5 (by simp)
            rw [blt_iff] at g1
            rw [beq_iff] at g2 g3
            obtain ⟨s, rfl, rfl, rfl⟩ := hA
            obtain ⟨o, rfl, rfl, rfl⟩ := hB
            obtain ⟨z, rfl, rfl, rfl⟩ := hC
            cases e6
            have hg : N0.g = some 0 := hN.trans maxLen_at0
            obtain ⟨-, m, hm⟩ := hi.jj 0 hg
            have hAr : Args = #[.string s, .string o, .string z] := Array.toList_inj.1 ha'
            rw [hAr]
            have hcnt : Lib.countB s o ≤ s.size := by
              unfold Lib.countB
              rw [one_byte o g2, Lib.count_one]
              exact Nat.le_trans List.count_le_length (by simp)
            have hz : z.size = 1 := g3
            have hs : s.size < 1000000 := g1
            refine Calls.mono (Tryd.strings_ReplaceAll s o z m w (by omega) hm (by show 1 ≤ o.data.size; omega) (by rw [hz]; omega)) ?_
            rintro e w' ⟨rfl, hb⟩
            refine ⟨_, ρ, rfl, ?_, hi.below hb, Tr.below ρ _ hb⟩
            refine ⟨_, rfl, ?_, ?_⟩
            · rw [one_byte o g2, one_byte z g3, replaceAll_one]
              simp [rep1]
            · have hu := unp_pack s.data.toList
              rw [Array.length_toList] at hu
              have ho := one_byte o g2
              have hz' := one_byte z g3
              generalize hob : UInt8.ofNat (packB o.data.toList) = ob at ho ⊢
              generalize hzb : UInt8.ofNat (packB z.data.toList) = zb at hz' ⊢
              rw [ho, hz', replaceAll_one, hu]

theorem F58s : FSound Tryd.prog 58 s58 := by
  intro N0 hN ρ h w args Args v h' e hi ha
  cases ha' : Args.toList with
  | nil => rw [ha'] at ha; cases ha; cases e
  | cons A L =>
    rw [ha'] at ha
    cases ha with
    | @cons a _ _ _ hA hL =>
      cases hL with
      | nil => cases e
      | @cons b _ _ _ hB hL2 =>
        cases hL2 with
        | cons hC hL3 => cases e
        | nil =>
          have e : (cS a fun n x => cI b fun d c => ifB (Nat.beq d 63) (Int.rec (motive := fun _ => Res) (fun c => ifB (Nat.ble c 1000000) (ifB (Nat.ble (n * c) 1000000) (.ret (.str (n * c) (packB (Lib.repeatL (unp n x) c))) h) .fail) .fail) (fun _ => .fail) c) .fail) = .ret v h' := e
          obtain ⟨n, x, rfl, e1⟩ := cS_inv e (by simp)
          obtain ⟨d, c, rfl, e2⟩ := cI_inv e1 (by simp)
          obtain ⟨hd, e3⟩ := ifF_inv e2 (by simp)
          rw [beq_iff] at hd
          subst hd
          obtain ⟨m, rfl, e4⟩ := natC_inv e3 (by simp)
          obtain ⟨g1, e5⟩ := ifF_inv e4 (by simp)
          obtain ⟨g2, e6⟩ := ifF_inv e5 (by simp)
          rw [ble_iff] at g1 g2
          obtain ⟨s, rfl, rfl, rfl⟩ := hA
          obtain ⟨k, hk, rfl⟩ := hB
          obtain rfl : k = .i64 := cOf_inj _ _ hk
          cases e6
          have hAr : Args = #[.string s, .int .i64 m] := Array.toList_inj.1 ha'
          rw [hAr]
          refine Calls.mono (Tryd.strings_Repeat s m w (by omega) (by have : s.size * m ≤ 1000000 := g2; omega)) ?_
          rintro e w' ⟨rfl, hb⟩
          refine ⟨_, ρ, rfl, ?_, hi.below hb, Tr.below ρ _ hb⟩
          refine ⟨_, rfl, ?_, ?_⟩
          · have := Lib.repeatL_length s.data.toList m
            simp at this ⊢
            rw [this, Nat.mul_comm]
          · have hu := unp_pack s.data.toList
            rw [Array.length_toList] at hu
            rw [hu]
theorem snd_by {P : Program} {f : FuncId} {fn : Func} {g : Fun} (hs : FSound P f g) (hf : P.funcs[f]? = some fn) (hn : (fn.name == "runtime.NumGoroutine") = false) (hb : fn.body.isSome = true) : Snd P f g := by
  obtain ⟨c, hc⟩ := Option.isSome_iff_exists.1 hb
  exact ⟨hs, enters_of hf hn hc⟩
theorem F54 : Snd Tryd.prog 54 s54 := snd_by F54s Tryd.func54 (by kernel_rfl) (by kernel_rfl)
theorem F58 : Snd Tryd.prog 58 s58 := snd_by F58s Tryd.func58 (by kernel_rfl) (by kernel_rfl)
end Go.Proofs.YtnpfppddongbhaaDoor
