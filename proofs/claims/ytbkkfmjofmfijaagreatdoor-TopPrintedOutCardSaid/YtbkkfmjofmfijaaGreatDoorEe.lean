/-
  An abstract machine for the model's code, part 5: what it answers is what the model does.
-/
import Derived.Test.YtbkkfmjofmfijaaGreatDoorEd
import Derived.Shelf.Strings.Replace
import Derived.ChangeSlices
import Derived.OpenShut
set_option linter.unusedVariables false
set_option linter.unusedSimpArgs false
namespace Go.AM
open Go Go.RowKit
set_option autoImplicit false

theorem Inv.below {N0 : Base} {ρ : Rho} {h : Hp} {w w' : World} (hi : Inv N0 ρ h w) (hb : Below w.heap.size w w') : Inv N0 ρ h w' := by
  have hw : ∀ (r : Nat) (o : Obj), w.heap[r]? = some o → w'.heap[r]? = some o := fun r o hr => by
    rw [hb.block r (by
      rw [Array.getElem?_eq_some_iff] at hr
      exact hr.1), hr]
  refine ⟨fun b B hB => ?_, hi.nb, hi.gnb, hi.gs, hi.als, hi.lim, hi.free, Nat.le_trans hi.wsz hb.size, hi.mp.later (Ext.refl ρ) (Nat.le_refl _) fun r o hr _ => by rw [hw r o hr, hr], Base.st hi.jj fun r hr => hb.block r (Nat.lt_of_lt_of_le hr hi.wsz)⟩
  obtain ⟨p, h1, h2⟩ := hi.blk b B hB
  obtain ⟨cs, e, fz, g1, g2, g3, g4⟩ := h2.obj
  exact ⟨p, h1, ⟨cs, e, fz, hw _ _ g1, g2, g3, g4⟩, h2.fit, h2.side⟩

theorem Tr.below (ρ : Rho) (h : Hp) {w w' : World} (hb : Below w.heap.size w w') : Tr ρ h w ρ h w' :=
  ⟨Ext.refl ρ, Nat.le_refl _, fun _ _ e => .inl e, fun r hr _ _ => hb.block r hr, fun l _ b B p h1 h2 h3 => .inr ⟨b, B, p, h1, h2, h3, rfl⟩, fun l _ b m p h1 h2 h3 => .inr ⟨b, m, p, h1, h2, h3, rfl⟩, hb.size, hb.tape, hb.os, hb.output, rfl⟩

/-- A text's bytes. -/
def unp (n x : Nat) : List UInt8 := (List.range n).map fun i => UInt8.ofNat (byteAt x i)
theorem unp_pack (l : List UInt8) : unp l.length (packB l) = l := by
  unfold unp
  apply List.ext_getElem (by simp)
  intro i h1 h2
  rw [List.getElem_map, List.getElem_range, byteAt_eq l i h2]
  exact UInt8.toNat_inj.1 (by rw [UInt8.toNat_ofNat_of_lt' l[i].toNat_lt])

def rep1 (o z : UInt8) (l : List UInt8) : List UInt8 := l.map fun b => if b = o then z else b
theorem replaceK_one (o z : UInt8) : ∀ l : List UInt8, Lib.replaceK [o] [z] (l.count o) l = rep1 o z l := by
  intro l
  induction l with
  | nil => rfl
  | cons b l ih =>
    by_cases hb : b = o
    · subst hb
      rw [List.count_cons_self, Lib.replaceK_hit [b] [z] _ _ 0 (by rw [Lib.index_one]; unfold Lib.indexByte; simp)]
      simp only [List.take_zero, List.nil_append, List.length_singleton, Nat.zero_add, List.drop_one, List.tail_cons, ih, rep1, List.map_cons, if_true, List.singleton_append]
    · rw [List.count_cons_of_ne hb]
      have e : rep1 o z (b :: l) = b :: rep1 o z l := by simp [rep1, hb]
      rw [e, ← ih]
      cases hk : l.count o with
      | zero => rfl
      | succ k =>
        obtain ⟨i, hi⟩ := Lib.index_of_count (s := l) (old := [o]) (by rw [Lib.count_one]; omega)
        have hi2 : Lib.index (b :: l) [o] = ((i + 1 : Nat) : Int) := by
          rw [Lib.index_one] at hi ⊢
          have hbo : (b == o) = false := by simpa using hb
          unfold Lib.indexByte
          rw [hbo, hi]
          simp only [Bool.false_eq_true, if_false, beq_iff_eq]
          rw [if_neg (by omega)]
          omega
        rw [Lib.replaceK_hit [o] [z] k (b :: l) (i + 1) hi2, Lib.replaceK_hit [o] [z] k l i hi]
        simp
theorem replaceAll_one (o z : UInt8) (l : List UInt8) : Lib.replaceAll l [o] [z] = rep1 o z l := by
  unfold Lib.replaceAll Lib.replace
  by_cases h : o = z
  · subst h
    simp only [BEq.rfl, if_true]
    unfold rep1
    induction l with
    | nil => rfl
    | cons b l ih => rw [List.map_cons, ← ih]; congr 1; split <;> simp_all
  · have h1 : ([o] == [z]) = false := by simpa using h
    rw [h1]
    simp only [Bool.false_eq_true, if_false]
    unfold Lib.replaceNum
    rw [if_pos (.inl (by decide)), Lib.count_one, replaceK_one]

noncomputable def repF : Fun := fun a h => List.rec (motive := fun _ => Res) .fail (fun s t _ => List.rec (motive := fun _ => Res) .fail (fun o t _ => List.rec (motive := fun _ => Res) .fail (fun z t _ => List.rec (motive := fun _ => Res)
  (cS s fun n x => cS o fun no xo => cS z fun nz xz => ifB (Nat.blt n 1000000) (ifB (Nat.beq no 1) (ifB (Nat.beq nz 1) (.ret (.str n (packB (rep1 (UInt8.ofNat xo) (UInt8.ofNat xz) (unp n x)))) h) .fail) .fail) .fail) (fun _ _ _ => .fail) t) t) t) a
theorem one_byte (s : ByteArray) (h : s.data.size = 1) : s.data.toList = [UInt8.ofNat (packB s.data.toList)] := by
  have h1 : s.data.toList.length = 1 := by simpa using h
  obtain ⟨b, hb⟩ := List.length_eq_one_iff.1 h1
  rw [hb]
  have e : packB [b] = b.toNat := by
    have : packB [b] = b.toNat + 256 * 0 := rfl
    omega
  rw [e]
  exact congrArg (fun x => [x]) (UInt8.toNat_inj.1 (by rw [UInt8.toNat_ofNat_of_lt' b.toNat_lt]))

theorem repF_sound {P : Program} {f : FuncId} {gm : Nat} (h0 : P.globalNamed "internal/bytealg.MaxLen" = some gm)
    (hc : ∀ (s old new : ByteArray) (m : Int) (w : World), s.size < 4294967281 → w.cell? ⟨gm, 0, none⟩ = some (.int .i64 m) → 1 ≤ old.size → s.size + Lib.countB s old * new.size ≤ 140737488355328 →
      Calls P f #[.string s, .string old, .string new] w fun e w' => e = .returned (.string ⟨(Lib.replaceAll s.data.toList old.data.toList new.data.toList).toArray⟩) ∧ Below w.heap.size w w') : FSound P f repF := by
  intro N0 hN ρ h w args Args v h' e hi ha
  cases ha' : Args.toList with
  | nil => rw [ha'] at ha; cases ha; exact absurd (show Res.fail = .ret v h' from e) (by simp)
  | cons A L =>
    rw [ha'] at ha
    cases ha with
    | @cons a _ _ _ hA hL =>
      cases hL with
      | nil => exact absurd (show Res.fail = .ret v h' from e) (by simp)
      | @cons b _ _ _ hB hL2 =>
        cases hL2 with
        | nil => exact absurd (show Res.fail = .ret v h' from e) (by simp)
        | @cons c _ _ _ hC hL3 =>
          cases hL3 with
          | cons hD hL4 => exact absurd (show Res.fail = .ret v h' from e) (by simp)
          | nil =>
            have e : (cS a fun n x => cS b fun no xo => cS c fun nz xz => ifB (Nat.blt n 1000000) (ifB (Nat.beq no 1) (ifB (Nat.beq nz 1) (.ret (.str n (packB (rep1 (UInt8.ofNat xo) (UInt8.ofNat xz) (unp n x)))) h) .fail) .fail) .fail) = .ret v h' := by
              rw [← e]
              refine Eq.symm ?_
              show now (cS a _) = _
              rw [now_cS]; refine congrArg _ (funext fun _ => funext fun _ => ?_)
              rw [now_cS]; refine congrArg _ (funext fun _ => funext fun _ => ?_)
              rw [now_cS]; refine congrArg _ (funext fun _ => funext fun _ => ?_)
              rw [now_ifB, now_ifB, now_ifB]; rfl
            obtain ⟨n, x, rfl, e1⟩ := cS_inv e (by simp)
            obtain ⟨no, xo, rfl, e2⟩ := cS_inv e1 (by simp)
            obtain ⟨nz, xz, rfl, e3⟩ := cS_inv e2 (by simp)
            obtain ⟨g1, e4⟩ := ifF_inv e3 (by simp)
            obtain ⟨g2, e5⟩ := ifF_inv e4 (by simp)
            obtain ⟨g3, e6⟩ := ifF_inv e5 (by simp)
            rw [blt_iff] at g1
            rw [beq_iff] at g2 g3
            obtain ⟨s, rfl, rfl, rfl⟩ := hA
            obtain ⟨o, rfl, rfl, rfl⟩ := hB
            obtain ⟨z, rfl, rfl, rfl⟩ := hC
            cases e6
            have hg : N0.g = some gm := hN.trans h0
            obtain ⟨-, m, hm⟩ := hi.jj gm hg
            have hAr : Args = #[.string s, .string o, .string z] := Array.toList_inj.1 ha'
            rw [hAr]
            have hcnt : Lib.countB s o ≤ s.size := by
              unfold Lib.countB
              rw [one_byte o g2, Lib.count_one]
              exact Nat.le_trans List.count_le_length (by simp)
            have hz : z.size = 1 := g3
            have hs : s.size < 1000000 := g1
            refine Calls.mono (hc s o z m w (by omega) hm (by show 1 ≤ o.data.size; omega) (by rw [hz]; omega)) ?_
            rintro e w' ⟨rfl, hb⟩
            refine ⟨_, ρ, rfl, ?_, hi.below hb, Tr.below ρ _ hb⟩
            refine ⟨_, rfl, ?_, ?_⟩
            · rw [one_byte o g2, one_byte z g3, replaceAll_one]
              simp [rep1]
            · have hu := unp_pack s.data.toList
              rw [Array.length_toList] at hu
              have ho := one_byte o g2
              have hz' := one_byte z g3
              generalize hob : UInt8.ofNat (packB o.data.toList) = ob at ho ⊢
              generalize hzb : UInt8.ofNat (packB z.data.toList) = zb at hz' ⊢
              rw [ho, hz', replaceAll_one, hu]

theorem snd_by {P : Program} {f : FuncId} {fn : Func} {g : Fun} (hs : FSound P f g) (hf : P.funcs[f]? = some fn) (hn : (fn.name == "runtime.NumGoroutine") = false) (hb : fn.body.isSome = true) : Snd P f g := by
  obtain ⟨c, hc⟩ := Option.isSome_iff_exists.1 hb
  exact ⟨hs, enters_of hf hn hc⟩
end Go.AM

namespace Go.AM
open Go
set_option autoImplicit false
noncomputable section
/-- What the one says; where it says nothing, what the other says. -/
def orF (f g : Fun) : Fun := fun a h => Res.rec (motive := fun _ => Res) (g a h) (fun _ _ => .fail) (fun _ _ _ => .fail) (fun v h' => .ret v h') (fun p _ ih => .ask p ih) (f a h)
theorem orF_sound {P : Program} {f : FuncId} {g1 g2 : Fun} (h1 : FSound P f g1) (h2 : FSound P f g2) : FSound P f (orF g1 g2) := by
  intro N0 hN ρ h w args Args v h' e hi ha
  have key : ∀ q : Res, now (Res.rec (motive := fun _ => Res) (g2 args h) (fun _ _ => .fail) (fun _ _ _ => .fail) (fun v h' => .ret v h') (fun p _ ih => .ask p ih) q) = .ret v h' → now q = .ret v h' ∨ now (g2 args h) = .ret v h' := by
    intro q
    induction q with
    | fail => intro e; exact .inr e
    | norm x y => intro e; exact absurd (show Res.fail = .ret v h' from e) (by simp)
    | exit i x y => intro e; exact absurd (show Res.fail = .ret v h' from e) (by simp)
    | ret x y => intro e; exact .inl e
    | ask p q ih =>
      intro e
      cases p with
      | true => exact ih e
      | false => exact absurd (show Res.fail = .ret v h' from e) (by simp)
  rcases key (g1 args h) e with h3 | h3
  · exact h1 N0 hN ρ h w args Args v h' h3 hi ha
  · exact h2 N0 hN ρ h w args Args v h' h3 hi ha
/-- A call that answers a truth: it is asked whether it is true. -/
def askB (g : Fun) : Fun := fun a h => Res.rec (motive := fun _ => Res) .fail (fun _ _ => .fail) (fun _ _ _ => .fail) (fun v h' => cB v fun p => .ask p (.ret (.bool true) h')) (fun p _ ih => .ask p ih) (g a h)
theorem askB_sound {P : Program} {f : FuncId} {g : Fun} (h1 : FSound P f g) : FSound P f (askB g) := by
  intro N0 hN ρ h w args Args v h' e hi ha
  refine h1 N0 hN ρ h w args Args v h' ?_ hi ha
  have key : ∀ q : Res, now (Res.rec (motive := fun _ => Res) .fail (fun _ _ => .fail) (fun _ _ _ => .fail) (fun v h' => cB v fun p => .ask p (.ret (.bool true) h')) (fun p _ ih => .ask p ih) q) = .ret v h' → now q = .ret v h' := by
    intro q
    induction q with
    | ret x y =>
      intro e
      have e : now (cB x fun p => .ask p (.ret (.bool true) y)) = .ret v h' := e
      cases x with
      | bool b =>
        cases b with
        | true => exact e
        | false => exact absurd (show Res.fail = .ret v h' from e) (by simp)
      | _ => exact absurd (show Res.fail = .ret v h' from e) (by simp)
    | ask p q ih =>
      intro e
      cases p with
      | true => exact ih e
      | false => exact absurd (show Res.fail = .ret v h' from e) (by simp)
    | _ => intro e; exact absurd (show Res.fail = .ret v h' from e) (by simp)
  exact key (g args h) e
/-- A call of three arguments: the third is asked to be this number. -/
def sub3 (n : Int) (g : Fun) : Fun := fun a h => uc a fun p a => uc a fun s a => uc a fun w a => uz a (cI w fun c x => .ask (eqI x n) (g [p, s, .int c n] h))
theorem sub3_sound {P : Program} {f : FuncId} {g : Fun} (n : Int) (h1 : FSound P f g) : FSound P f (sub3 n g) := by
  intro N0 hN ρ h w args Args v h' e hi ha
  refine h1 N0 hN ρ h w args Args v h' ?_ hi ha
  have no : ∀ {q : Res}, now q = .ret v h' → q ≠ .fail := fun e h => by rw [h] at e; cases e
  obtain ⟨p, a1, rfl, e1⟩ := uc_inv rfl (no e)
  have e := (congrArg now e1).trans e
  obtain ⟨s, a2, rfl, e2⟩ := uc_inv rfl (no e)
  have e := (congrArg now e2).trans e
  obtain ⟨x, a3, rfl, e3⟩ := uc_inv rfl (no e)
  have e := (congrArg now e3).trans e
  obtain ⟨rfl, e4⟩ := uz_inv rfl (no e)
  have e := (congrArg now e4).trans e
  obtain ⟨c, y, rfl, e5⟩ := cI_inv rfl (no e)
  have e := (congrArg now e5).trans e
  obtain ⟨h2, h3⟩ := now_ask (p := eqI y n) (by rw [show now (.ask (eqI y n) (g [p, s, .int c n] h)) = .ret v h' from e]; simp)
  rw [eqI_eq] at h2
  have hy : y = n := by simpa using h2
  subst hy
  exact h3.symm.trans e
abbrev pB (k n o : Nat) : AV := .ptr (Nat.add k n) o
abbrev mB (k n : Nat) : AV := .map (Nat.add k n)
abbrev lB (k n o x y : Nat) (z : Option Nat) : AV := .sl (Nat.add k n) o x y z
end
end Go.AM

namespace Go.AM
open Go
set_option autoImplicit false

/-- V is a slice of numbers of kind k that reads as the list l. -/
def ArgS (k : IntKind) (w : World) (V : Value) (l : List Int) : Prop :=
  (V = .slice none 0 0 ∧ l = []) ∨ ∃ (a : Addr) (len cap : Nat) (zs : List Int), V = .slice (some a) len cap ∧ len ≤ cap ∧ cap ≤ maxLen ∧ zs.length = cap ∧ l = zs.take len ∧
    (∀ i, i < zs.length → w.cell? (a.add i) = some (.int k (zs.getD i 0))) ∧ ∀ n ∈ zs, (Lit.int k n).wf = true

theorem ArgS.wf {k : IntKind} {w : World} {V : Value} {l : List Int} (h : ArgS k w V l) : ∀ n ∈ l, (Lit.int k n).wf = true := by
  rcases h with ⟨-, rfl⟩ | ⟨a, len, cap, zs, -, -, -, -, rfl, -, h⟩
  · intro n hn; cases hn
  · exact fun n hn => h n (List.mem_of_mem_take hn)

section
variable {H : Type} {enc : TypeId × Value → H} {P : Program} {w : World}
open Go.ChangeShapes in
theorem open_arg {t e : TypeId} {k : IntKind} {v : Value} {d : DataW H} {p : List MemPlace} (ht : P.underlying t = some (.slice e)) (he : P.underlying e = some (.int k)) (hc : P.cellsOf e = 1)
    (hone : v.cells.toList = [v]) (h : DataW.Trod enc P w 0 (fun _ => true) true t v d p) :
    ∃ l, ArgS k w v l ∧ ∀ (w' : World) (sp : Nat → Bool), (∀ r, r < w.heap.size → w'.heap[r]? = w.heap[r]?) → (∀ q ∈ p, sp q.block = true) → DataW.Trod enc P w' 0 sp true t v d p := by
  obtain ⟨fuel, hf⟩ := h
  rcases open_ints ht he hc hf with ⟨hcs, hx⟩ | ⟨a, len, cap, zs, hcs, hb, hl, hm, hz, hx, hcell, hwf⟩
  · rw [hone] at hcs
    obtain rfl : v = .slice none 0 0 := by simpa using hcs
    obtain ⟨rfl, rfl⟩ : d = .nil ∧ p = [] := by simpa using hx
    exact ⟨[], .inl ⟨rfl, rfl⟩, fun w' sp _ _ => ⟨1, by simp [DataW.trod, Value.cells, ht]⟩⟩
  · rw [hone] at hcs
    obtain rfl : v = .slice (some a) len cap := by simpa using hcs
    obtain ⟨rfl, rfl⟩ : d = .slice (lits k (zs.take len)) (lits k (zs.drop len)) ∧ p = MemPlace.row a zs.length := by simpa using hx
    have hz' : zs.length = cap := by simpa using hz
    refine ⟨_, .inr ⟨a, len, cap, zs, rfl, hl, hm, hz', rfl, hcell, hwf⟩, fun w' sp hw hsp => ⟨2, ?_⟩⟩
    have hlt : ∀ i, i < zs.length → a.block < w.heap.size := by
      intro i hi
      have := hcell i hi
      unfold World.cell? at this
      rw [block_add] at this
      cases hr : w.heap[a.block]? with
      | none => rw [hr] at this; cases this
      | some o => exact (Array.getElem?_eq_some_iff.1 hr).1
    have hcell' : ∀ i, i < zs.length → w'.cell? (a.add i) = some (.int k (zs.getD i 0)) := by
      intro i hi
      have h1 := hcell i hi
      unfold World.cell? at h1 ⊢
      rw [block_add] at h1 ⊢
      rw [hw _ (hlt i hi)]
      exact h1
    have hzz : zs.length = if sp a.block then cap else len := by
      by_cases hc0 : zs.length = 0
      · split <;> omega
      · have : sp a.block = true := by
          have := hsp (.cell a.block a.off) (MemPlace.mem_row.2 ⟨0, by omega, by simp⟩)
          exact this
        rw [this]; simpa using hz'
    have := shut_ints (enc := enc) (w := w') (base := 0) (spare := sp) (held := true) 0 ht he hc (Nat.zero_le _) hl hm hzz hcell' hwf
    rw [hone]
    exact this
end

/-- Memory that holds arguments alone. -/
structure Args (g : Option Nat) (ρ : Rho) (h : Hp) (w : World) : Prop where
  inv : Inv (b0 w g) ρ h w
  fr : ∀ b B, h.bs.get b = some B → B.fr = false
  gs : h.gs = .e
  ms : h.ms = .e
  lo : h.lo = 0

theorem Args.none {w : World} {g : Option Nat} (hj : (b0 w g).J w) : Args g (fun _ => none) H0 w := ⟨inv_H0 hj, fun b B h => (by cases h), rfl, rfl, rfl⟩

theorem cellL_get (l : List AV) : ∀ (i j : Nat), (cellL l i).get j = if h : i ≤ j ∧ j - i < l.length then some (l[j - i]'h.2) else none := by
  induction l with
  | nil => intro i j; rw [dif_neg (fun h => absurd h.2 (Nat.not_lt_zero _))]; rfl
  | cons v l ih =>
    intro i j
    have e : cellL (v :: l) i = T.set v (cellL l (i + 1)) i := rfl
    rw [e, T.get_set]
    by_cases hj : j = i
    · subst hj
      rw [if_pos rfl, dif_pos ⟨Nat.le_refl _, by simp⟩]
      simp
    · rw [if_neg hj, ih]
      by_cases h : i + 1 ≤ j ∧ j - (i + 1) < l.length
      · rw [dif_pos h, dif_pos ⟨by omega, by simp only [List.length_cons]; omega⟩]
        have e2 : j - i = (j - (i + 1)) + 1 := by omega
        simp only [e2, List.getElem_cons_succ]
      · rw [dif_neg h, dif_neg]
        intro h2
        simp only [List.length_cons] at h2
        exact h ⟨by omega, by omega⟩
/-- Memory with the first numbers of an argument. -/
noncomputable def Ha (m : Nat) (t : T AV) : Hp := ⟨1, T.set ⟨false, 0, m, .nil, t⟩ .e 0, .e, .e, 0, ⟨[], .unk⟩⟩
theorem at_cells (m : Nat) (t : T AV) {i : Nat} (hi : i < m) {v : AV} (hv : t.get i = some v) : (⟨false, 0, m, .nil, t⟩ : Blk).at i = v := by
  have e : (⟨false, 0, m, .nil, t⟩ : Blk).at i = Bool.rec (motive := fun _ => AV) .unk (Option.rec (motive := fun _ => AV) (nth .nil (Nat.mod i (len .nil))) (fun v => v) (t.get i)) (Nat.blt i m) := rfl
  rw [e, (blt_iff i m).2 hi, hv]

theorem one_arg {w : World} {g : Option Nat} (hj : (b0 w g).J w) {k : IntKind} {V : Value} {l : List Int} (ha : ArgS k w V l) (m : Nat) (hm : m ≤ l.length) :
    ∃ ρ h v, Args g ρ h w ∧ VR ρ v V ∧ ((l = [] ∧ h = H0 ∧ (v = .nils ∨ v = .esl)) ∨ v = .sl 0 0 l.length 1 none ∧ h = Ha m (cellL ((l.take m).map fun n => AV.int (cOf k) n) 0)) := by
  have hF := Args.none hj
  rcases ha with ⟨rfl, rfl⟩ | ⟨a, len, cap, zs, rfl, hl, hmx, hz, rfl, hcell, -⟩
  · exact ⟨_, H0, .nils, hF, rfl, .inl ⟨rfl, rfl, .inl rfl⟩⟩
  · by_cases h0 : len = 0
    · subst h0
      exact ⟨_, H0, .esl, hF, ⟨a, cap, rfl⟩, .inl ⟨by simp, rfl, .inr rfl⟩⟩
    · obtain ⟨b, off, rfl, hc⟩ := Go.ints_at hcell (by omega)
      have hll : (zs.take len).length = len := by simp; omega
      rw [hll] at hm ⊢
      have hrow : ∃ cs e fz, w.heap[b]? = some (.cells cs e fz) ∧ ∀ j, j < zs.length → cs[off + j]? = some (.int k (zs.getD j 0)) := by
        have h1 := hc 0 (by omega)
        unfold World.cell? at h1
        simp only at h1
        cases hr : w.heap[b]? with
        | none => rw [hr] at h1; cases h1
        | some o =>
          cases o with
          | cells cs e fz =>
            refine ⟨cs, e, fz, rfl, fun j hj => ?_⟩
            have h2 := hc j hj
            unfold World.cell? at h2
            simp only [hr] at h2
            simpa using h2
          | _ => rw [hr] at h1; cases h1
      obtain ⟨cs, e, fz, hr, hcs⟩ := hrow
      have hsz : off + cap ≤ cs.size := by
        have := hcs (cap - 1) (by omega)
        have := (Array.getElem?_eq_some_iff.1 this).1
        omega
      have hlt : b < w.heap.size := (Array.getElem?_eq_some_iff.1 hr).1
      have hi := hF.inv
      generalize ht : cellL (((zs.take len).take m).map fun n => AV.int (cOf k) n) 0 = t
      have hlen : (((zs.take len).take m).map fun n => AV.int (cOf k) n).length = m := by simp; omega
      have hget : ∀ x, (T.set (⟨false, 0, m, .nil, t⟩ : Blk) .e 0).get x = if x = 0 then some ⟨false, 0, m, .nil, t⟩ else Option.none := fun x => T.get_set _ _ _ _
      have hat : ∀ i (hi' : i < m), (⟨false, 0, m, .nil, t⟩ : Blk).at i = .int (cOf k) (zs.getD i 0) := by
        intro i hi'
        refine at_cells m t hi' ?_
        rw [← ht, cellL_get, dif_pos ⟨Nat.zero_le _, by rw [hlen]; omega⟩]
        simp [List.getD, show i < zs.length by omega]
      have look : ∀ x B, (T.set (⟨false, 0, m, .nil, t⟩ : Blk) .e 0).get x = some B → B.fr = false := by
        intro x B hx
        rw [hget] at hx
        by_cases e0 : x = 0
        · rw [if_pos e0] at hx
          obtain rfl := Option.some.inj hx
          rfl
        · rw [if_neg e0] at hx; cases hx
      refine ⟨ups (fun _ => none) 0 ⟨b, off, cs.size, cap⟩, Ha m t, .sl 0 0 len 1 none, ⟨⟨?_, ?_, ?_, ?_, ?_, ?_, ?_, Nat.le_refl _, ⟨?_, ?_⟩, hi.jj⟩, look, rfl, rfl, rfl⟩, ?_, .inr ⟨rfl, rfl⟩⟩
      · intro x B hx
        have hx : (T.set (⟨false, 0, m, .nil, t⟩ : Blk) .e 0).get x = some B := hx
        rw [hget] at hx
        by_cases e0 : x = 0
        · rw [if_pos e0] at hx
          obtain rfl := Option.some.inj hx
          subst e0
          refine ⟨_, ups_same _ _ _, ⟨cs, e, fz, hr, rfl, fun hf => (by cases hf), fun _ i hi' => ?_⟩, (by show off + m ≤ cs.size; omega), fun hf => (by cases hf), fun _ => hlt⟩
          exact ⟨_, hcs i (by have : i < m := hi'; omega), by rw [hat i hi']; exact ⟨k, rfl, rfl⟩⟩
        · rw [if_neg e0] at hx; cases hx
      · intro x B hx
        have hx : (T.set (⟨false, 0, m, .nil, t⟩ : Blk) .e 0).get x = some B := hx
        rw [hget] at hx
        by_cases e0 : x = 0
        · subst e0; exact Nat.lt_succ_self _
        · rw [if_neg e0] at hx; cases hx
      · intro x B hx hf; rw [look x B hx] at hf; cases hf
      · intro g q hq; cases hq
      · intro b1 b2 B1 B2 p1 p2 h1 h2 f1; rw [look b1 B1 h1] at f1; cases f1
      · intro b1 b2 B1 B2 p1 p2 h1 h2 f1; rw [look b1 B1 h1] at f1; cases f1
      · intro i hle
        have hle : 1 ≤ i := hle
        rw [ups_ne _ _ (by omega)]
      · intro x m hx; cases hx
      · intro b1 b2 m1 m2 p1 p2 h1; cases h1
      · exact ⟨⟨b, off, cs.size, cap⟩, cap, ups_same _ _ _, rfl, hl, .inl ⟨rfl, by show 0 + cap * 1 = cap; omega⟩, by show off + 0 + cap * 1 ≤ cs.size; omega⟩

theorem law_walk2 {P : Program} {f : FuncId} {g : Fun} (hF : FSound P f g) {args : List AV} {As : Array Value} {ρ : Rho} {h h' : Hp} {w : World} (hA : Args (P.globalNamed "internal/bytealg.MaxLen") ρ h w) (e : now (g args h) = .ret (.bool true) h') (ha : F2 (VR ρ) args As.toList) :
    Calls P f As w fun e w' => e = .returned (.bool true) ∧ Kept w w' := by
  refine (hF (b0 w _) rfl ρ h w args As (.bool true) h' e hA.inv ha).mono fun e w' ⟨V, ρ', h1, h2⟩ => ?_
  have h3 : V = .bool true := h2.val
  subst h3
  exact ⟨h1, h2.tr.kept hA.fr hA.ms⟩
end Go.AM

namespace Go.AM
open Go
set_option autoImplicit false

/-- The code behind the first parts of a row, and its hint. -/
def cutC : Nat → Code → Hint → Option (Code × Hint)
  | 0, c, x => some (c, x)
  | n + 1, .seq _ b, .s _ y => cutC n b y
  | _ + 1, _, _ => none
/-- What the first parts of a row denote. -/
noncomputable def denA (P : Program) (γ : FuncId → Option Fun) (fn : Func) : Nat → Code → Hint → Env → Hp → (Env → Hp → Res) → Res
  | 0, _, _, env, h, k => k env h
  | n + 1, .seq a b, .s x y, env, h, k => den P γ fn a x [] env h fun env h => denA P γ fn n b y env h k
  | _ + 1, _, _, _, _, _ => .fail

section
variable {P : Program} {N0 : Base} {ρ0 : Rho} {h0 : Hp} {w0 : World}

theorem cut_wp (hm : P.follows .mixedOrders = true) {γ : FuncId → Option Fun} (hγ : GSound P γ ∧ N0.fits P) (fn : Func) (s : Nat) (v : AV) (h1 : Hp) {Q : Exit → Act → World → Prop} {c2 : Code} {x2 : Hint}
    (hQ : ∀ ρ w1 env1 a1, St N0 fn.ntmps ρ0 h0 w0 ρ h1 w1 env1 a1 → env1 s = v → c2.wp P Q a1 w1) :
    ∀ (n : Nat) (c : Code) (x : Hint) (ρ : Rho) (h : Hp) (w : World) (env : Env) (a : Act), St N0 fn.ntmps ρ0 h0 w0 ρ h w env a → cutC n c x = some (c2, x2) →
      Sm (denA P γ fn n c x env h (fun env h => .norm [env s] h)) (.norm [v] h1) → c.wp P Q a w := by
  intro n
  induction n with
  | zero =>
    intro c x ρ h w env a hs hc e
    have hc : some (c, x) = some (c2, x2) := by cases x <;> cases c <;> exact hc
    have e : Sm (Res.norm [env s] h) (.norm [v] h1) := by cases x <;> cases c <;> exact e
    obtain ⟨rfl, rfl⟩ : c = c2 ∧ x = x2 := by injection hc with hc; injection hc with h1 h2; exact ⟨h1, h2⟩
    obtain ⟨e1, e2⟩ := Sm.norm e rfl
    subst e2
    exact hQ ρ w env a hs (by injection e1)
  | succ n ih =>
    intro c x ρ h w env a hs hc e
    cases c with
    | seq p q =>
      cases x with
      | s x y =>
        have hc : cutC n q y = some (c2, x2) := hc
        have e : Sm (den P γ fn p x [] env h (fun env h => denA P γ fn n q y env h (fun env h => .norm [env s] h))) (.norm [v] h1) := e
        refine wp_seq (wp_mono (den_sound hm hγ fn p x [] ρ h w env a _ _ (by simp) hs e) fun ex a' w' hp => ?_)
        cases ex with
        | normal => obtain ⟨ρ1, h2, env1, hs1, e1⟩ := hp; exact ih q y ρ1 h2 w' env1 a' hs1 hc e1
        | exit id => obtain ⟨ρ1, h2, env1, l, hs1, hx, e1⟩ := hp; simp at hx
        | ret =>
          obtain ⟨ρ1, h2, env1, hs1, e1⟩ := hp
          obtain ⟨v', h'', hv⟩ := rt_not (e1.nf (by simp))
          have e3 : Res.ret v' h'' = .norm [v] h1 := Eq.trans (by rw [hv]; rfl) e1
          cases e3
        | _ => exact hp.elim
      | _ => exact absurd rfl (e.nf (by simp))
    | _ => exact absurd rfl (e.nf (by simp))
end

/-- A law without arguments, walked in two parts. -/
theorem law_cut {P : Program} {f : FuncId} {fn : Func} {c c2 : Code} {x x2 : Hint} (hm : P.follows .mixedOrders = true) {γ : FuncId → Option Fun} (hγ : GSound P γ) (hf : P.funcs[f]? = some fn) (hb : fn.body = some c)
    (n s : Nat) (hc : cutC n c x = some (c2, x2)) {h1 h2 : Hp}
    (e1 : denA P γ fn n c x env0 H0 (fun env h => .norm [env s] h) = .norm [.bool true] h1)
    (e2 : den P γ fn c2 x2 [] (upd env0 s (.bool true)) H0 (fun env h => rt P fn env h) = .ret (.bool true) h2)
    (w : World) (hj : (b0 w (P.globalNamed "internal/bytealg.MaxLen")).J w) : Calls P f #[] w fun e w' => e = .returned (.bool true) ∧ Kept w w' := by
  refine calls_of_wp hf hb ?_
  have hs : St (b0 w (P.globalNamed "internal/bytealg.MaxLen")) fn.ntmps (fun _ => none) H0 w (fun _ => none) H0 w env0 { tmps := #[] ++ Array.replicate (fn.ntmps - (#[] : Array Value).size) undef, defers := [] } :=
    ⟨inv_H0 hj, Tr.refl _ _ _, fun t => trivial, by simp, rfl⟩
  refine cut_wp hm ⟨hγ, (rfl : (b0 w (P.globalNamed "internal/bytealg.MaxLen")).fits P)⟩ fn s (.bool true) h1 (fun ρ w1 env1 a1 hs1 hv => ?_) n c x _ H0 w env0 _ hs hc (.eq e1)
  have hj1 : (b0 w1 (P.globalNamed "internal/bytealg.MaxLen")).J w1 := fun g hg => by
    obtain ⟨h3, m, h4⟩ := hs1.inv.jj g hg
    exact ⟨Nat.lt_of_lt_of_le h3 hs1.inv.wsz, m, h4⟩
  have hs2 : St (b0 w1 (P.globalNamed "internal/bytealg.MaxLen")) fn.ntmps (fun _ => none) H0 w1 (fun _ => none) H0 w1 (upd env0 s (.bool true)) a1 := by
    refine ⟨inv_H0 hj1, Tr.refl _ _ _, fun t => ?_, hs1.sz, hs1.df⟩
    have h3 := hs1.er t
    by_cases ht : t = s
    · subst ht
      rw [hv] at h3
      rw [upd_eq, if_pos rfl]
      exact h3
    · rw [upd_eq, if_neg ht]; exact trivial
  refine wp_mono (den_sound hm ⟨hγ, (rfl : (b0 w1 (P.globalNamed "internal/bytealg.MaxLen")).fits P)⟩ fn c2 x2 [] _ H0 w1 _ a1 _ (.ret (.bool true) h2) (by simp) hs2 (.eq e2)) fun ex a' w' hp => ?_
  have fin : ∀ ρ2 h3 env2, St (b0 w1 (P.globalNamed "internal/bytealg.MaxLen")) fn.ntmps (fun _ => none) H0 w1 ρ2 h3 w' env2 a' → Sm (rt P fn env2 h3) (.ret (.bool true) h2) →
      a'.defers = [] ∧ ∃ V, (results fn a'.tmps).run P w' = .ok V w' ∧ Ending.returned V = .returned (.bool true) ∧ Kept w w' := by
    intro ρ2 h3 env2 hs3 e3
    obtain ⟨v', h'', hv'⟩ := rt_not (e3.nf (by simp))
    have e4 : Res.ret v' h'' = .ret (.bool true) h2 := Eq.trans (by rw [hv']; rfl) e3
    replace e3 := hv'.trans e4
    obtain ⟨rfl, V, h4, h5⟩ := rt_ok hs3.inv hs3.er e3
    have h5 : V = .bool true := h5
    subst h5
    refine ⟨hs3.df, _, h4, rfl, ?_⟩
    have k1 := hs1.tr.kept (fun b B hb => by cases hb) rfl
    have k2 := hs3.tr.kept (fun b B hb => by cases hb) rfl
    have hfr : ∀ r, r < w.heap.size → w'.heap[r]? = w.heap[r]? := fun r hr => (k2.2.1 r (Nat.lt_of_lt_of_le hr k1.2.2)).trans (k1.2.1 r hr)
    refine ⟨⟨hs3.tr.os.trans hs1.tr.os, hs3.tr.output.trans hs1.tr.output, fun i hi => ?_⟩, hfr, Nat.le_trans k1.2.2 k2.2.2⟩
    rw [hfr i hi]
    cases h6 : w.heap[i]? with
    | none => simp
    | some o => cases o <;> simp
  cases ex with
  | normal => obtain ⟨ρ2, h3, env2, hs3, e3⟩ := hp; exact fin _ _ _ hs3 e3
  | ret => obtain ⟨ρ2, h3, env2, hs3, e3⟩ := hp; exact fin _ _ _ hs3 e3
  | exit id => obtain ⟨ρ2, h3, env2, l, hs3, hx, e3⟩ := hp; simp at hx
  | _ => exact hp.elim
end Go.AM

namespace Go.AM
open Go
set_option autoImplicit false
noncomputable section

/-- Setting what stands there changes nothing. -/
theorem T.set_get {α : Type} (v : α) (t : T α) : ∀ k, t.get k = some v → T.set v t k = t := by
  induction t with
  | e => intro k h; cases h
  | n o a b c d iha ihb ihc ihd =>
    intro k h
    cases k with
    | zero => have h : o = some v := h; subst h; rfl
    | succ m =>
      rw [T.get_ns] at h
      rw [T.set_s]
      have hm : m % 4 = 0 ∨ m % 4 = 1 ∨ m % 4 = 2 ∨ m % 4 = 3 := by omega
      rcases hm with h0 | h0 | h0 | h0 <;> rw [h0] at h ⊢
      · have h : a.get (m / 4) = some v := h
        show T.n o (T.set v a (m / 4)) b c d = _
        rw [iha _ h]
      · have h : b.get (m / 4) = some v := h
        show T.n o a (T.set v b (m / 4)) c d = _
        rw [ihb _ h]
      · have h : c.get (m / 4) = some v := h
        show T.n o a b (T.set v c (m / 4)) d = _
        rw [ihc _ h]
      · have h : d.get (m / 4) = some v := h
        show T.n o a b c (T.set v d (m / 4)) = _
        rw [ihd _ h]

/-- Memory with another list of what is told. -/
def Hp.wo (h : Hp) (l : Oc) : Hp := Hp.rec (motive := fun _ => Hp) (fun nb bs gs ms lo _ => ⟨nb, bs, gs, ms, lo, l⟩) h
theorem Out.wo {N0 : Base} {ρ ρ' : Rho} {h h' : Hp} {w w' : World} {v : AV} {V : Value} (o : Out N0 ρ h w v h' V w' ρ') (l : Oc) : Out N0 ρ h w v (h'.wo l) V w' ρ' := by
  obtain ⟨nb, bs, gs, ms, lo, oc⟩ := h'
  exact ⟨o.val, ⟨fun b B hb => (by obtain ⟨p, h1, h2⟩ := o.inv.blk b B hb; exact ⟨p, h1, ⟨h2.obj, h2.fit, h2.side⟩⟩), o.inv.nb, o.inv.gnb, o.inv.gs, o.inv.als, o.inv.lim, o.inv.free, o.inv.wsz, o.inv.mp, o.inv.jj⟩,
    ⟨o.tr.ext, o.tr.nb, o.tr.new, o.tr.frame, o.tr.img, o.tr.mimg, o.tr.size, o.tr.tape, o.tr.os, o.tr.output, o.tr.lo⟩⟩

/-- Goes on as the list of ways says: with the value that is told, or without; without, if nothing is said. -/
def bit (h : Hp) (a : AV → Hp → Res) (b : Hp → Res) : Res := Hp.rec (motive := fun _ => Res) (fun nb bs gs ms lo oc => Oc.rec (motive := fun _ => Res) (fun l s => List.rec (motive := fun _ => Res) (b ⟨nb, bs, gs, ms, lo, ⟨[], s⟩⟩) (fun d l _ => Bool.rec (motive := fun _ => Res) (b ⟨nb, bs, gs, ms, lo, ⟨l, s⟩⟩) (a s ⟨nb, bs, gs, ms, lo, ⟨l, s⟩⟩) d) l) oc) h
theorem bit_inv {h : Hp} {A : AV → Hp → Res} {B : Hp → Res} {r : Res} (e : now (bit h A B) = r) : ∃ s l, now (A s (h.wo l)) = r ∨ now (B (h.wo l)) = r := by
  obtain ⟨nb, bs, gs, ms, lo, ⟨oc, s⟩⟩ := h
  cases oc with
  | nil => exact ⟨s, ⟨[], s⟩, .inr e⟩
  | cons d l =>
    cases d with
    | true => exact ⟨s, ⟨l, s⟩, .inl e⟩
    | false => exact ⟨s, ⟨l, s⟩, .inr e⟩

/-- Behind a call. -/
def post (f : AV → Hp → Res) (q : Res) : Res := Res.rec (motive := fun _ => Res) .fail (fun _ _ => .fail) (fun _ _ _ => .fail) (fun v h => f v h) (fun p _ ih => .ask p ih) q
theorem post_inv {f : AV → Hp → Res} {v : AV} {h : Hp} : ∀ {q : Res}, now (post f q) = .ret v h → ∃ v0 h0, now q = .ret v0 h0 ∧ now (f v0 h0) = .ret v h := by
  intro q
  induction q with
  | ret x y => intro e; exact ⟨x, y, rfl, e⟩
  | ask p q ih =>
    intro e
    cases p with
    | true => exact ih e
    | false => exact absurd (show Res.fail = .ret v h from e) (by simp)
  | _ => intro e; exact absurd (show Res.fail = .ret v h from e) (by simp)

/-- A call whose answer is changed by f, which asks that nothing changes. -/
theorem post_sound {P : Program} {f : FuncId} {g : Fun} (F : AV → Hp → Res) (h1 : FSound P f g) (hF : ∀ v0 h0 v h, now (F v0 h0) = .ret v h → v = v0 ∧ ∃ l, h = h0.wo l) : FSound P f (fun a h => post F (g a h)) := by
  intro N0 hN ρ h w args Args v h' e hi ha
  obtain ⟨v0, h0, e1, e2⟩ := post_inv e
  obtain ⟨rfl, l, rfl⟩ := hF _ _ _ _ e2
  exact (h1 N0 hN ρ h w args Args v h0 e1 hi ha).mono fun e w' ⟨V, ρ', k1, k2⟩ => ⟨V, ρ', k1, k2.wo l⟩

/-- Texts of n bytes are asked to be X. -/
def mapS (n X : Nat) (v : AV) : (AV → Res) → Res := AV.rec (motive := fun _ => (AV → Res) → Res)
  (fun k => k .unk) (fun b k => k (.bool b)) (fun c n k => k (.int c n)) (fun m a k => Bool.rec (motive := fun _ => Res) (k (.str m a)) (.ask (Nat.beq a X) (k (.str m X))) (Nat.beq m n)) (fun k => k .nilp) (fun b o k => k (.ptr b o)) (fun k => k .nils) (fun b o n z c k => k (.sl b o n z c)) (fun k => k .esl) (fun k => k .nili) (fun t v _ k => k (.ifc t v)) (fun k => k .nilf) (fun f a b _ _ k => k (.fn f a b)) (fun k => k .nilm) (fun b k => k (.map b)) (fun _ ih k => ih fun v => k (.agg v)) (fun _ ih k => ih fun v => k (.tup v)) (fun k => k .nil) (fun _ _ iha ihb k => iha fun a => ihb fun b => k (.cons a b)) v
theorem mapS_inv (n X : Nat) {v' : AV} {h' : Hp} : ∀ (v : AV) (k : AV → Res), now (mapS n X v k) = .ret v' h' → now (k v) = .ret v' h' := by
  intro v
  induction v with
  | str m a =>
    intro k e
    have e : now (Bool.rec (motive := fun _ => Res) (k (.str m a)) (.ask (Nat.beq a X) (k (.str m X))) (Nat.beq m n)) = .ret v' h' := e
    cases hb : Nat.beq m n with
    | false => rw [hb] at e; exact e
    | true =>
      rw [hb] at e
      have e : now (.ask (Nat.beq a X) (k (.str m X))) = .ret v' h' := e
      obtain ⟨h2, h3⟩ := now_ask (by rw [e]; simp)
      rw [(beq_iff _ _).1 h2]
      exact h3.symm.trans e
  | agg v ih => intro k e; exact ih _ e
  | tup v ih => intro k e; exact ih _ e
  | cons a b iha ihb => intro k e; exact ihb _ (iha _ e)
  | _ => intro k e; exact e

/-- The text that a call answers is put as the text that is told. -/
def subS (g : Fun) : Fun := fun a h => post (fun v h => bit h (fun s h => cS s fun n X => mapS n X v fun v => .ret v h) (fun h => .ret v h)) (g a h)
theorem subS_sound {P : Program} {f : FuncId} {g : Fun} (h1 : FSound P f g) : FSound P f (subS g) := by
  refine post_sound _ h1 fun v0 h0 v h e => ?_
  obtain ⟨s, l, e1 | e1⟩ := bit_inv e
  · obtain ⟨n, X, rfl, e2⟩ := cS_inv rfl (fun h => by rw [show cS s _ = Res.fail from h] at e1; cases e1)
    rw [← e2] at e1
    have e3 := mapS_inv n X _ _ e1
    obtain ⟨rfl, rfl⟩ : v0 = v ∧ h0.wo l = h := by injection e3 with p q; exact ⟨p, q⟩
    exact ⟨rfl, l, rfl⟩
  · obtain ⟨rfl, rfl⟩ : v0 = v ∧ h0.wo l = h := by injection e1 with p q; exact ⟨p, q⟩
    exact ⟨rfl, l, rfl⟩

/-- Cells are asked to be the bytes of X. -/
def subT (X o n : Nat) : T AV → (T AV → Res) → Res := Nat.rec (motive := fun _ => T AV → (T AV → Res) → Res) (fun t k => k t) (fun i ih t k => Option.rec (motive := fun _ => Res) .fail (fun v => cI v fun c x => .ask (eqI x (.ofNat (byteAt X i))) (ih (T.set (.int c (.ofNat (byteAt X i))) t (Nat.add o i)) k)) (t.get (Nat.add o i))) n
theorem subT_inv (X o : Nat) {v' : AV} {h' : Hp} (t : T AV) (k : T AV → Res) : ∀ n, now (subT X o n t k) = .ret v' h' → now (k t) = .ret v' h' := by
  intro n
  induction n with
  | zero => intro e; exact e
  | succ i ih =>
    intro e
    have e : now (Option.rec (motive := fun _ => Res) .fail (fun v => cI v fun c x => .ask (eqI x (.ofNat (byteAt X i))) (subT X o i (T.set (.int c (.ofNat (byteAt X i))) t (Nat.add o i)) k)) (t.get (Nat.add o i))) = .ret v' h' := e
    cases hg : t.get (Nat.add o i) with
    | none => rw [hg] at e; exact absurd (show Res.fail = .ret v' h' from e) (by simp)
    | some v =>
      rw [hg] at e
      have e : now (cI v fun c x => .ask (eqI x (.ofNat (byteAt X i))) (subT X o i (T.set (.int c (.ofNat (byteAt X i))) t (Nat.add o i)) k)) = .ret v' h' := e
      cases v with
      | int c x =>
        have e : now (.ask (eqI x (.ofNat (byteAt X i))) (subT X o i (T.set (.int c (.ofNat (byteAt X i))) t (Nat.add o i)) k)) = .ret v' h' := e
        obtain ⟨h2, h3⟩ := now_ask (by rw [e]; simp)
        rw [eqI_eq] at h2
        have hx : x = .ofNat (byteAt X i) := by simpa using h2
        have e2 := h3.symm.trans e
        rw [← hx, T.set_get _ _ _ hg] at e2
        exact ih e2
      | _ => exact absurd (show Res.fail = .ret v' h' from e) (by simp)
/-- Memory with other cells of a block. -/
def setC (h : Hp) (b : Nat) (B : Blk) (t : T AV) : Hp := Hp.rec (motive := fun _ => Hp) (fun nb bs gs ms lo oc => ⟨nb, bs.set ⟨B.fr, B.g, B.lim, B.df, t⟩ b, gs, ms, lo, oc⟩) h
/-- The rows of n numbers that a value holds are asked to be X's bytes. -/
def subR (n X : Nat) (v : AV) : Hp → (Hp → Res) → Res := AV.rec (motive := fun _ => Hp → (Hp → Res) → Res)
  (fun h k => k h) (fun _ h k => k h) (fun _ _ h k => k h) (fun _ _ h k => k h) (fun h k => k h) (fun _ _ h k => k h) (fun h k => k h)
  (fun b o m _ _ h k => ifB (Nat.beq m n) (Option.rec (motive := fun _ => Res) .fail (fun B => subT X o n B.cs fun t => k (setC h b B t)) (h.bs.get b)) .fail)
  (fun h k => k h) (fun h k => k h) (fun _ _ _ h k => k h) (fun h k => k h) (fun _ _ _ _ _ h k => k h) (fun h k => k h) (fun _ h k => k h) (fun _ ih => ih) (fun _ ih => ih) (fun h k => k h) (fun _ _ iha ihb h k => iha h fun h => ihb h k) v
theorem subR_inv (n X : Nat) {v' : AV} {h' : Hp} : ∀ (v : AV) (h : Hp) (k : Hp → Res), now (subR n X v h k) = .ret v' h' → now (k h) = .ret v' h' := by
  intro v
  induction v with
  | sl b o m z c =>
    intro h k e
    have e : now (ifB (Nat.beq m n) (Option.rec (motive := fun _ => Res) .fail (fun B => subT X o n B.cs fun t => k (setC h b B t)) (h.bs.get b)) .fail) = .ret v' h' := e
    cases hb : Nat.beq m n with
    | false => rw [hb] at e; exact absurd (show Res.fail = .ret v' h' from e) (by simp)
    | true =>
      rw [hb] at e
      have e : now (Option.rec (motive := fun _ => Res) .fail (fun B => subT X o n B.cs fun t => k (setC h b B t)) (h.bs.get b)) = .ret v' h' := e
      cases hg : h.bs.get b with
      | none => rw [hg] at e; exact absurd (show Res.fail = .ret v' h' from e) (by simp)
      | some B =>
        rw [hg] at e
        have e1 := subT_inv X o B.cs (fun t => k (setC h b B t)) n e
        have hs : setC h b B B.cs = h := by
          obtain ⟨nb, bs, gs, ms, lo, oc⟩ := h
          show (⟨nb, bs.set B b, gs, ms, lo, oc⟩ : Hp) = _
          rw [T.set_get B bs b hg]
        rw [hs] at e1
        exact e1
  | agg v ih => intro h k e; exact ih h k e
  | tup v ih => intro h k e; exact ih h k e
  | cons a b iha ihb => intro h k e; exact ihb h k (iha h _ e)
  | _ => intro h k e; exact e
/-- The row of numbers that a call answers is put as the bytes of the text that is told. -/
def subC (g : Fun) : Fun := fun a h => post (fun v h => bit h (fun s h => cS s fun n X => subR n X v h fun h => .ret v h) (fun h => .ret v h)) (g a h)
theorem subC_sound {P : Program} {f : FuncId} {g : Fun} (h1 : FSound P f g) : FSound P f (subC g) := by
  refine post_sound _ h1 fun v0 h0 v h e => ?_
  obtain ⟨s, l, e1 | e1⟩ := bit_inv e
  · obtain ⟨n, X, rfl, e2⟩ := cS_inv rfl (fun h => by rw [show cS s _ = Res.fail from h] at e1; cases e1)
    rw [← e2] at e1
    have e3 := subR_inv n X _ _ _ e1
    obtain ⟨rfl, rfl⟩ : v0 = v ∧ h0.wo l = h := by injection e3 with p q; exact ⟨p, q⟩
    exact ⟨rfl, l, rfl⟩
  · obtain ⟨rfl, rfl⟩ : v0 = v ∧ h0.wo l = h := by injection e1 with p q; exact ⟨p, q⟩
    exact ⟨rfl, l, rfl⟩
end
end Go.AM

namespace Go.AM
open Go
set_option autoImplicit false
noncomputable section

/-! ### values under other numbers -/
/-- A value; blocks under the numbers that σ gives; what has none is not known any more. -/
def rn (σ : Nat → Option Nat) (v : AV) : AV := AV.rec (motive := fun _ => AV) .unk (fun b => .bool b) (fun c n => .int c n) (fun n x => .str n x) .nilp (fun b o => Option.rec (motive := fun _ => AV) .unk (fun c => .ptr c o) (σ b)) .nils
  (fun b o n z c => Option.rec (motive := fun _ => AV) .unk (fun b' => .sl b' o n z c) (σ b)) .esl .nili (fun t _ ih => .ifc t ih) .nilf (fun f _ _ iha ihb => .fn f iha ihb) .nilm (fun b => Option.rec (motive := fun _ => AV) .unk (fun c => .map c) (σ b))
  (fun _ ih => .agg ih) (fun _ ih => .tup ih) .nil (fun _ _ iha ihb => .cons iha ihb) v

section
variable {σ : Nat → Option Nat} {ρ1 ρ2 : Rho}
theorem R_rn (h : ∀ b c, σ b = some c → ρ2 c = ρ1 b) (v : AV) : (∀ V, (R ρ1 v).1 V → (R ρ2 (rn σ v)).1 V) ∧ (∀ l, (R ρ1 v).2 l → (R ρ2 (rn σ v)).2 l) := by
  induction v with
  | ptr b o =>
    refine ⟨fun V ⟨p, hp, hv⟩ => ?_, fun _ h => h.elim⟩
    show (R ρ2 (Option.rec (motive := fun _ => AV) .unk (fun c => .ptr c o) (σ b))).1 V
    cases hs : σ b with
    | none => exact trivial
    | some c => exact ⟨p, (h b c hs).trans hp, hv⟩
  | sl b o n z c =>
    refine ⟨fun V ⟨p, c', hp, hv⟩ => ?_, fun _ h => h.elim⟩
    show (R ρ2 (Option.rec (motive := fun _ => AV) .unk (fun b' => .sl b' o n z c) (σ b))).1 V
    cases hs : σ b with
    | none => exact trivial
    | some b' => exact ⟨p, c', (h b b' hs).trans hp, hv⟩
  | map b =>
    refine ⟨fun V ⟨p, hp, hv⟩ => ?_, fun _ h => h.elim⟩
    show (R ρ2 (Option.rec (motive := fun _ => AV) .unk (fun c => .map c) (σ b))).1 V
    cases hs : σ b with
    | none => exact trivial
    | some c => exact ⟨p, (h b c hs).trans hp, hv⟩
  | ifc t v ih => exact ⟨fun V ⟨W, hw, hv⟩ => ⟨W, hw, ih.1 _ hv⟩, fun _ h => h.elim⟩
  | fn f a b iha ihb => exact ⟨fun V ⟨l, m, hv, h1, h2⟩ => ⟨l, m, hv, iha.2 _ h1, ihb.2 _ h2⟩, fun _ h => h.elim⟩
  | agg v ih => exact ⟨fun V ⟨l, hv, h1⟩ => ⟨l, hv, ih.2 _ h1⟩, fun _ h => h.elim⟩
  | tup v ih => exact ⟨fun V ⟨l, hv, h1⟩ => ⟨l, hv, ih.2 _ h1⟩, fun _ h => h.elim⟩
  | cons a t ihh iht => exact ⟨fun _ h => h.elim, fun l ⟨V, l', hl, h1, h2⟩ => ⟨V, l', hl, ihh.1 _ h1, iht.2 _ h2⟩⟩
  | _ => exact ⟨fun _ h => h, fun _ h => h⟩
theorem VR.rn (h : ∀ b c, σ b = some c → ρ2 c = ρ1 b) {v : AV} {V : Value} (hv : VR ρ1 v V) : VR ρ2 (rn σ v) V := (R_rn h v).1 V hv

theorem rn_len (l : AV) : len (AM.rn σ l) = len l := by
  induction l with
  | ptr b o => show len (Option.rec (motive := fun _ => AV) .unk (fun c => .ptr c o) (σ b)) = 0; cases σ b <;> rfl
  | sl b o n z c => show len (Option.rec (motive := fun _ => AV) .unk (fun b' => .sl b' o n z c) (σ b)) = 0; cases σ b <;> rfl
  | map b => show len (Option.rec (motive := fun _ => AV) .unk (fun c => .map c) (σ b)) = 0; cases σ b <;> rfl
  | cons a t _ iht => exact congrArg Nat.succ iht
  | _ => rfl
theorem rn_nth (l : AV) : ∀ i, nth (AM.rn σ l) i = AM.rn σ (nth l i) := by
  induction l with
  | ptr b o => intro i; show nth (Option.rec (motive := fun _ => AV) .unk (fun c => .ptr c o) (σ b)) i = .unk; cases σ b <;> rfl
  | sl b o n z c => intro i; show nth (Option.rec (motive := fun _ => AV) .unk (fun b' => .sl b' o n z c) (σ b)) i = .unk; cases σ b <;> rfl
  | map b => intro i; show nth (Option.rec (motive := fun _ => AV) .unk (fun c => .map c) (σ b)) i = .unk; cases σ b <;> rfl
  | cons a t _ iht =>
    intro i
    cases i with
    | zero => rfl
    | succ i => exact iht i
  | _ => intro i; rfl

theorem ELR.rn (h : ∀ b c, σ b = some c → ρ2 c = ρ1 b) : ∀ (x : AV) (l : List MapEntry), ELR ρ1 x l → ELR ρ2 (AM.rn σ x) l := by
  intro x
  induction x with
  | nil => intro l h; exact h
  | cons a t _ iht =>
    intro l hl
    cases a with
    | cons k v =>
      obtain ⟨e, l', rfl, h1, h2, h3⟩ := hl
      exact ⟨e, l', rfl, h1.rn h, h2.rn h, iht l' h3⟩
    | _ => exact hl.elim
  | _ => intro l h; exact h.elim
theorem MR.rn (h : ∀ b c, σ b = some c → ρ2 c = ρ1 b) {p : Pl} {m : AV} {o : Obj} (hm : MR ρ1 p m o) : MR ρ2 p (AM.rn σ m) o := by
  cases o <;> first
    | exact hm.elim
    | skip
  · rename_i es c
    exact ⟨ELR.rn h m es.toList hm.1, hm.2⟩
  · obtain ⟨h1, h2⟩ := hm
    exact ⟨h1, by rw [h2]; rfl⟩
end

/-! ### tries -/
def tmap {α β : Type} (f : α → β) (t : T α) : T β := T.rec (motive := fun _ => T β) .e (fun v _ _ _ _ a b c d => .n (Option.rec (motive := fun _ => Option β) none (fun v => some (f v)) v) a b c d) t
theorem get_tmap {α β : Type} (f : α → β) (t : T α) : ∀ k, (tmap f t).get k = (t.get k).map f := by
  induction t with
  | e => intro k; rfl
  | n v a b c d iha ihb ihc ihd =>
    intro k
    cases k with
    | zero => show Option.rec (motive := fun _ => Option β) none (fun v => some (f v)) v = v.map f; cases v <;> rfl
    | succ m =>
      show (T.n _ (tmap f a) (tmap f b) (tmap f c) (tmap f d)).get (m + 1) = _
      rw [T.get_ns, T.get_ns, iha, ihb, ihc, ihd]
      have hm : m % 4 = 0 ∨ m % 4 = 1 ∨ m % 4 = 2 ∨ m % 4 = 3 := by omega
      rcases hm with h0 | h0 | h0 | h0 <;> rw [h0] <;> rfl

/-! ### blocks under other numbers -/
def unkB (v : AV) : Bool := AV.rec (motive := fun _ => Bool) true (fun _ => false) (fun _ _ => false) (fun _ _ => false) false (fun _ _ => false) false (fun _ _ _ _ _ => false) false false (fun _ _ _ => false) false (fun _ _ _ _ _ => false) false (fun _ => false) (fun _ _ => false) (fun _ _ => false) false (fun _ _ _ _ => false) v
def eslB (v : AV) : Bool := AV.rec (motive := fun _ => Bool) false (fun _ => false) (fun _ _ => false) (fun _ _ => false) false (fun _ _ => false) false (fun _ _ _ _ _ => false) true false (fun _ _ _ => false) false (fun _ _ _ _ _ => false) false (fun _ => false) (fun _ _ => false) (fun _ _ => false) false (fun _ _ _ _ => false) v
theorem unkB_eq {v : AV} (h : unkB v = true) : v = .unk := by cases v <;> first | rfl | exact Bool.noConfusion h
theorem eslB_eq {v : AV} (h : eslB v = true) : v = .esl := by cases v <;> first | rfl | exact Bool.noConfusion h
def eqU (x y : AV) : Bool := Bool.rec (motive := fun _ => Bool) (Bool.rec (motive := fun _ => Bool) (eqAV x y) (eslB y) (eslB x)) (unkB y) (unkB x)
theorem eqU_eq {x y : AV} (h : eqU x y = true) : x = y := by
  unfold eqU at h
  cases hx : unkB x with
  | true => rw [hx] at h; rw [unkB_eq hx, unkB_eq h]
  | false =>
    rw [hx] at h
    have h : Bool.rec (motive := fun _ => Bool) (eqAV x y) (eslB y) (eslB x) = true := h
    cases hy : eslB x with
    | true => rw [hy] at h; rw [eslB_eq hy, eslB_eq h]
    | false => rw [hy] at h; exact eqAV_eq x y h
def upI (f : Nat → Bool) (n : Nat) : Bool := Nat.rec (motive := fun _ => Bool) true (fun i ih => Bool.rec (motive := fun _ => Bool) false ih (f i)) n
theorem upI_inv {f : Nat → Bool} : ∀ {n : Nat}, upI f n = true → ∀ i, i < n → f i = true := by
  intro n
  induction n with
  | zero => intro _ i h; omega
  | succ n ih =>
    intro h i hi
    have h : Bool.rec (motive := fun _ => Bool) false (upI f n) (f n) = true := h
    cases hf : f n with
    | false => rw [hf] at h; cases h
    | true =>
      rw [hf] at h
      by_cases hin : i = n
      · rw [hin]; exact hf
      · exact ih h i (by omega)
def cellsN (σ : Nat → Option Nat) (B : Blk) (p : Nat) : Nat → AV := Nat.rec (motive := fun _ => Nat → AV) (fun _ => .nil) (fun _ ih i => .cons (rn σ (B.at i)) (ih (Nat.succ i))) p
/-- A block's first p cells, if all others repeat them. -/
def patD (σ : Nat → Option Nat) (p : Nat) (B : Blk) : Option AV := Bool.rec (motive := fun _ => Option AV) (Bool.rec (motive := fun _ => Option AV) none (some (cellsN σ B p 0)) (upI (fun i => eqU (nth (cellsN σ B p 0) (Nat.mod i (len (cellsN σ B p 0)))) (rn σ (B.at i))) B.lim)) none (eB B.cs)
theorem patD_inv {σ : Nat → Option Nat} {p : Nat} {B : Blk} {d : AV} (h : patD σ p B = some d) : ∀ i, i < B.lim → nth d (i % len d) = rn σ (B.at i) := by
  unfold patD at h
  cases he : eB B.cs with
  | true => rw [he] at h; cases h
  | false =>
    rw [he] at h
    have h : Bool.rec (motive := fun _ => Option AV) none (some (cellsN σ B p 0)) (upI (fun i => eqU (nth (cellsN σ B p 0) (Nat.mod i (len (cellsN σ B p 0)))) (rn σ (B.at i))) B.lim) = some d := h
    cases hu : upI (fun i => eqU (nth (cellsN σ B p 0) (Nat.mod i (len (cellsN σ B p 0)))) (rn σ (B.at i))) B.lim with
    | false => rw [hu] at h; cases h
    | true =>
      rw [hu] at h
      obtain rfl := Option.some.inj h
      exact fun i hi => eqU_eq (upI_inv hu i hi)
/-- A block under another number: its group; its cells, or what they repeat. -/
def rnB (σ : Nat → Option Nat) (g : Nat) (D : Option AV) (B : Blk) : Blk := ⟨B.fr, g, B.lim, Option.rec (motive := fun _ => AV) (rn σ B.df) (fun d => d) D, Option.rec (motive := fun _ => T AV) (tmap (rn σ) B.cs) (fun _ => .e) D⟩
theorem rnB_at {σ : Nat → Option Nat} {g : Nat} {D : Option AV} {B : Blk} (hD : ∀ d, D = some d → ∀ i, i < B.lim → nth d (i % len d) = rn σ (B.at i)) (i : Nat) : (rnB σ g D B).at i = .unk ∨ (rnB σ g D B).at i = rn σ (B.at i) := by
  rw [at_eq]
  show (if i < B.lim then _ else _) = _ ∨ (if i < B.lim then _ else _) = _
  by_cases hi : i < B.lim
  · rw [if_pos hi]
    refine .inr ?_
    cases D with
    | some d => exact hD d rfl i hi
    | none =>
      rw [at_eq, if_pos hi]
      show (match (tmap (rn σ) B.cs).get i with | some v => v | none => nth (rn σ B.df) (i % len (rn σ B.df))) = _
      rw [get_tmap, rn_len, rn_nth]
      cases B.cs.get i <;> rfl
  · rw [if_neg hi]; exact .inl rfl
end
end Go.AM

namespace Go.AM
open Go
set_option autoImplicit false
noncomputable section

def allL {α : Type} (p : α → Bool) (l : List α) : Bool := List.rec (motive := fun _ => Bool) true (fun x _ ih => Bool.rec (motive := fun _ => Bool) false ih (p x)) l
theorem allL_inv {α : Type} {p : α → Bool} : ∀ {l : List α}, allL p l = true → ∀ x ∈ l, p x = true := by
  intro l
  induction l with
  | nil => intro _ x h; cases h
  | cons y l ih =>
    intro h x hx
    have h : Bool.rec (motive := fun _ => Bool) false (allL p l) (p y) = true := h
    cases hy : p y with
    | false => rw [hy] at h; cases h
    | true =>
      rw [hy] at h
      rcases List.mem_cons.1 hx with rfl | hx
      · exact hy
      · exact ih h x hx

/-- Where a number stands in a list, from c on. -/
def idx (N : List Nat) (b : Nat) : Nat → Option Nat := List.rec (motive := fun _ => Nat → Option Nat) (fun _ => none) (fun x _ ih c => Bool.rec (motive := fun _ => Option Nat) (ih (Nat.succ c)) (some c) (Nat.beq x b)) N
theorem idx_inv {b : Nat} : ∀ (N : List Nat) (c d : Nat), idx N b c = some d → ∃ i, d = c + i ∧ N[i]? = some b := by
  intro N
  induction N with
  | nil => intro c d h; cases h
  | cons x N ih =>
    intro c d h
    have h : Bool.rec (motive := fun _ => Option Nat) (idx N b (c + 1)) (some c) (Nat.beq x b) = some d := h
    cases hx : Nat.beq x b with
    | true =>
      rw [hx] at h
      obtain rfl := Option.some.inj h
      rw [beq_iff] at hx
      exact ⟨0, rfl, by rw [hx]; rfl⟩
    | false =>
      rw [hx] at h
      obtain ⟨i, h1, h2⟩ := ih (c + 1) d h
      exact ⟨i + 1, by omega, h2⟩
/-- The new number of a block: from n on those that stand in N; below n its own. -/
def sg (n : Nat) (N : List Nat) (b : Nat) : Option Nat := Option.rec (motive := fun _ => Option Nat) (Bool.rec (motive := fun _ => Option Nat) none (some b) (Nat.blt b n)) (fun c => some c) (idx N b n)
/-- Where the blocks lie under their new numbers. -/
def ro (n : Nat) (N : List Nat) (ρ : Rho) : Rho := fun c => if c < n then ρ c else match N[c - n]? with
  | some b => ρ b
  | none => none
theorem ro_lt {n : Nat} {N : List Nat} {ρ : Rho} {c : Nat} (h : c < n) : ro n N ρ c = ρ c := if_pos h
theorem ro_new {n : Nat} {N : List Nat} {ρ : Rho} {i b : Nat} (h : N[i]? = some b) : ro n N ρ (n + i) = ρ b := by
  unfold ro
  rw [if_neg (by omega), show n + i - n = i from by omega, h]
theorem sg_ro {n : Nat} {N : List Nat} {ρ : Rho} (b c : Nat) (h : sg n N b = some c) : ro n N ρ c = ρ b := by
  unfold sg at h
  cases hx : idx N b n with
  | some d =>
    rw [hx] at h
    obtain rfl := Option.some.inj h
    obtain ⟨i, rfl, h2⟩ := idx_inv N n d hx
    exact ro_new h2
  | none =>
    rw [hx] at h
    have h : Bool.rec (motive := fun _ => Option Nat) none (some b) (Nat.blt b n) = some c := h
    cases hb : Nat.blt b n with
    | false => rw [hb] at h; cases h
    | true =>
      rw [hb] at h
      obtain rfl := Option.some.inj h
      exact ro_lt ((blt_iff _ _).1 hb)

def oldB (σ : Nat → Option Nat) (h1 : Hp) (K : List Nat) : T Blk := List.rec (motive := fun _ => T Blk) .e (fun b _ ih => Option.rec (motive := fun _ => T Blk) ih (fun B => T.set (rnB σ B.g none B) ih b) (h1.bs.get b)) K
theorem oldB_inv {σ : Nat → Option Nat} {h1 : Hp} : ∀ (K : List Nat) (c : Nat) (B' : Blk), (oldB σ h1 K).get c = some B' → ∃ B, c ∈ K ∧ h1.bs.get c = some B ∧ B' = rnB σ B.g none B := by
  intro K
  induction K with
  | nil => intro c B' h; cases h
  | cons b K ih =>
    intro c B' h
    have h : (Option.rec (motive := fun _ => T Blk) (oldB σ h1 K) (fun B => T.set (rnB σ B.g none B) (oldB σ h1 K) b) (h1.bs.get b)).get c = some B' := h
    cases hb : h1.bs.get b with
    | none =>
      rw [hb] at h
      obtain ⟨B, k1, k2, k3⟩ := ih c B' h
      exact ⟨B, List.mem_cons_of_mem _ k1, k2, k3⟩
    | some B =>
      rw [hb] at h
      have h : (T.set (rnB σ B.g none B) (oldB σ h1 K) b).get c = some B' := h
      rw [T.get_set] at h
      by_cases hc : c = b
      · rw [if_pos hc] at h
        exact ⟨B, by rw [hc]; exact List.mem_cons_self, by rw [hc]; exact hb, (Option.some.inj h).symm⟩
      · rw [if_neg hc] at h
        obtain ⟨B, k1, k2, k3⟩ := ih c B' h
        exact ⟨B, List.mem_cons_of_mem _ k1, k2, k3⟩
def newB (σ : Nat → Option Nat) (fg p : Nat) (h1 : Hp) (t : T Blk) (N : List Nat) : Nat → T Blk := List.rec (motive := fun _ => Nat → T Blk) (fun _ => t) (fun b _ ih c => Option.rec (motive := fun _ => T Blk) (ih (Nat.succ c)) (fun B => T.set (rnB σ c (Bool.rec (motive := fun _ => Option AV) none (patD σ p B) (Nat.beq c fg)) B) (ih (Nat.succ c)) c) (h1.bs.get b)) N
theorem newB_inv {σ : Nat → Option Nat} {fg p : Nat} {h1 : Hp} {t : T Blk} : ∀ (N : List Nat) (n c : Nat) (B' : Blk), (newB σ fg p h1 t N n).get c = some B' → (∃ i b B, c = n + i ∧ N[i]? = some b ∧ h1.bs.get b = some B ∧ B' = rnB σ c (Bool.rec (motive := fun _ => Option AV) none (patD σ p B) (Nat.beq c fg)) B) ∨ t.get c = some B' := by
  intro N
  induction N with
  | nil => intro n c B' h; exact .inr h
  | cons b N ih =>
    intro n c B' h
    have up : (∃ i b' B, c = n + 1 + i ∧ N[i]? = some b' ∧ h1.bs.get b' = some B ∧ B' = rnB σ c (Bool.rec (motive := fun _ => Option AV) none (patD σ p B) (Nat.beq c fg)) B) ∨ t.get c = some B' → (∃ i b' B, c = n + i ∧ (b :: N)[i]? = some b' ∧ h1.bs.get b' = some B ∧ B' = rnB σ c (Bool.rec (motive := fun _ => Option AV) none (patD σ p B) (Nat.beq c fg)) B) ∨ t.get c = some B' := by
      rintro (⟨i, b', B, k1, k2, k3⟩ | k)
      · exact .inl ⟨i + 1, b', B, by omega, k2, k3⟩
      · exact .inr k
    have h : (Option.rec (motive := fun _ => T Blk) (newB σ fg p h1 t N (n + 1)) (fun B => T.set (rnB σ n (Bool.rec (motive := fun _ => Option AV) none (patD σ p B) (Nat.beq n fg)) B) (newB σ fg p h1 t N (n + 1)) n) (h1.bs.get b)).get c = some B' := h
    cases hb : h1.bs.get b with
    | none => rw [hb] at h; exact up (ih (n + 1) c B' h)
    | some B =>
      rw [hb] at h
      have h : (T.set (rnB σ n (Bool.rec (motive := fun _ => Option AV) none (patD σ p B) (Nat.beq n fg)) B) (newB σ fg p h1 t N (n + 1)) n).get c = some B' := h
      rw [T.get_set] at h
      by_cases hc : c = n
      · rw [if_pos hc] at h
        subst hc
        exact .inl ⟨0, b, B, rfl, rfl, hb, (Option.some.inj h).symm⟩
      · rw [if_neg hc] at h; exact up (ih (n + 1) c B' h)
def oldG (h1 : Hp) (K : List Nat) : T (Nat × Nat) := List.rec (motive := fun _ => T (Nat × Nat)) .e (fun b _ ih => Option.rec (motive := fun _ => T (Nat × Nat)) ih (fun B => Option.rec (motive := fun _ => T (Nat × Nat)) ih (fun q => T.set q ih B.g) (h1.gs.get B.g)) (h1.bs.get b)) K
theorem oldG_get {h1 : Hp} : ∀ (K : List Nat) (g : Nat) (q : Nat × Nat), (oldG h1 K).get g = some q → h1.gs.get g = some q ∧ ∃ b B, b ∈ K ∧ h1.bs.get b = some B ∧ B.g = g := by
  intro K
  induction K with
  | nil => intro g q h; cases h
  | cons b K ih =>
    intro g q h
    have up : (∃ b' B, b' ∈ K ∧ h1.bs.get b' = some B ∧ B.g = g) → ∃ b' B, b' ∈ b :: K ∧ h1.bs.get b' = some B ∧ B.g = g := fun ⟨b', B, k1, k2⟩ => ⟨b', B, List.mem_cons_of_mem _ k1, k2⟩
    have h : (Option.rec (motive := fun _ => T (Nat × Nat)) (oldG h1 K) (fun B => Option.rec (motive := fun _ => T (Nat × Nat)) (oldG h1 K) (fun q => T.set q (oldG h1 K) B.g) (h1.gs.get B.g)) (h1.bs.get b)).get g = some q := h
    cases hb : h1.bs.get b with
    | none => rw [hb] at h; exact ⟨(ih g q h).1, up (ih g q h).2⟩
    | some B =>
      rw [hb] at h
      have h : (Option.rec (motive := fun _ => T (Nat × Nat)) (oldG h1 K) (fun q => T.set q (oldG h1 K) B.g) (h1.gs.get B.g)).get g = some q := h
      cases hq : h1.gs.get B.g with
      | none => rw [hq] at h; exact ⟨(ih g q h).1, up (ih g q h).2⟩
      | some q' =>
        rw [hq] at h
        have h : (T.set q' (oldG h1 K) B.g).get g = some q := h
        rw [T.get_set] at h
        by_cases hg : g = B.g
        · rw [if_pos hg] at h
          obtain rfl := Option.some.inj h
          exact ⟨by rw [hg]; exact hq, b, B, List.mem_cons_self, hb, hg.symm⟩
        · rw [if_neg hg] at h; exact ⟨(ih g q h).1, up (ih g q h).2⟩
theorem oldG_has {h1 : Hp} : ∀ (K : List Nat) (b : Nat) (B : Blk) (q : Nat × Nat), b ∈ K → h1.bs.get b = some B → h1.gs.get B.g = some q → ∃ q', (oldG h1 K).get B.g = some q' := by
  intro K
  induction K with
  | nil => intro b B q h; cases h
  | cons x K ih =>
    intro b B q hm hb hq
    have hd : oldG h1 (x :: K) = Option.rec (motive := fun _ => T (Nat × Nat)) (oldG h1 K) (fun B => Option.rec (motive := fun _ => T (Nat × Nat)) (oldG h1 K) (fun q => T.set q (oldG h1 K) B.g) (h1.gs.get B.g)) (h1.bs.get x) := rfl
    rw [hd]
    rcases List.mem_cons.1 hm with rfl | hm
    · rw [hb]
      show ∃ q', (Option.rec (motive := fun _ => T (Nat × Nat)) (oldG h1 K) (fun q => T.set q (oldG h1 K) B.g) (h1.gs.get B.g)).get B.g = some q'
      rw [hq]
      exact ⟨q, by show (T.set q (oldG h1 K) B.g).get B.g = some q; rw [T.get_set, if_pos rfl]⟩
    · obtain ⟨q', hq'⟩ := ih b B q hm hb hq
      cases hx : h1.bs.get x with
      | none => exact ⟨q', hq'⟩
      | some X =>
        show ∃ q', (Option.rec (motive := fun _ => T (Nat × Nat)) (oldG h1 K) (fun q => T.set q (oldG h1 K) X.g) (h1.gs.get X.g)).get B.g = some q'
        cases hxq : h1.gs.get X.g with
        | none => exact ⟨q', hq'⟩
        | some q2 =>
          show ∃ q', (T.set q2 (oldG h1 K) X.g).get B.g = some q'
          rw [T.get_set]
          by_cases hg : B.g = X.g
          · rw [if_pos hg]; exact ⟨q2, rfl⟩
          · rw [if_neg hg]; exact ⟨q', hq'⟩
def oldM (σ : Nat → Option Nat) (h1 : Hp) (K : List Nat) : T AV := List.rec (motive := fun _ => T AV) .e (fun b _ ih => Option.rec (motive := fun _ => T AV) ih (fun m => T.set (rn σ m) ih b) (h1.ms.get b)) K
theorem oldM_inv {σ : Nat → Option Nat} {h1 : Hp} : ∀ (K : List Nat) (c : Nat) (m' : AV), (oldM σ h1 K).get c = some m' → ∃ m, c ∈ K ∧ h1.ms.get c = some m ∧ m' = rn σ m := by
  intro K
  induction K with
  | nil => intro c B' h; cases h
  | cons b K ih =>
    intro c B' h
    have h : (Option.rec (motive := fun _ => T AV) (oldM σ h1 K) (fun B => T.set (rn σ B) (oldM σ h1 K) b) (h1.ms.get b)).get c = some B' := h
    cases hb : h1.ms.get b with
    | none =>
      rw [hb] at h
      obtain ⟨B, k1, k2, k3⟩ := ih c B' h
      exact ⟨B, List.mem_cons_of_mem _ k1, k2, k3⟩
    | some B =>
      rw [hb] at h
      have h : (T.set (rn σ B) (oldM σ h1 K) b).get c = some B' := h
      rw [T.get_set] at h
      by_cases hc : c = b
      · rw [if_pos hc] at h
        exact ⟨B, by rw [hc]; exact List.mem_cons_self, by rw [hc]; exact hb, (Option.some.inj h).symm⟩
      · rw [if_neg hc] at h
        obtain ⟨B, k1, k2, k3⟩ := ih c B' h
        exact ⟨B, List.mem_cons_of_mem _ k1, k2, k3⟩

/-- Memory laid anew: the blocks K and the maps M (all below n) under their own numbers; the blocks N under the numbers from n on, each in a group of its own; of the one with the new number fg only the first p cells, if the others repeat them. -/
def reH (n : Nat) (N : List Nat) (fg pt : Nat) (K M : List Nat) (oc : Oc) (h : Hp) : Hp := ⟨Nat.add n N.length, newB (sg n N) fg pt h (oldB (sg n N) h K) N n, oldG h K, oldM (sg n N) h M, h.lo, oc⟩
/-- A block's group (n: there is no such block). -/
def grN (h : Hp) (b n : Nat) : Nat := Option.rec (motive := fun _ => Nat) n (fun B => B.g) (h.bs.get b)
def distN (h : Hp) (n : Nat) (N : List Nat) : Bool := List.rec (motive := fun _ => Bool) true (fun x l ih => Bool.rec (motive := fun _ => Bool) false ih (allL (fun y => bnot (Nat.beq (grN h x n) (grN h y n))) l)) N
def reOk (n : Nat) (N K M : List Nat) (h : Hp) : Bool :=
  allL (fun b => Bool.rec (motive := fun _ => Bool) false (Option.rec (motive := fun _ => Bool) true (fun B => Bool.rec (motive := fun _ => Bool) false (Bool.rec (motive := fun _ => Bool) false (Bool.rec (motive := fun _ => Bool) false (allL (fun x => bnot (Nat.beq B.g (grN h x n))) N) (Nat.blt (h.grp B.g).1 n)) (Nat.blt B.g n)) B.fr) (h.bs.get b)) (Nat.blt b n)) K &&
  (allL (fun b => Nat.blt b n) M && (allL (fun x => Option.rec (motive := fun _ => Bool) false (fun X => Bool.rec (motive := fun _ => Bool) false (Nat.ble (h.grp X.g).2 x) X.fr) (h.bs.get x)) N && (distN h n N && Nat.beq h.lo 0)))

theorem distN_inv {h : Hp} {n : Nat} : ∀ {N : List Nat}, distN h n N = true → ∀ (i j a b : Nat), N[i]? = some a → N[j]? = some b → grN h a n = grN h b n → i = j := by
  intro N
  induction N with
  | nil => intro _ i j a b h1; simp at h1
  | cons x N ih =>
    intro hd i j a b h1 h2 hg
    have hd : Bool.rec (motive := fun _ => Bool) false (distN h n N) (allL (fun y => bnot (Nat.beq (grN h x n) (grN h y n))) N) = true := hd
    cases ha : allL (fun y => bnot (Nat.beq (grN h x n) (grN h y n))) N with
    | false => rw [ha] at hd; cases hd
    | true =>
      rw [ha] at hd
      have hx := allL_inv ha
      cases i with
      | zero =>
        cases j with
        | zero => rfl
        | succ j =>
          simp at h1 h2
          subst h1
          have h3 := hx b (List.mem_of_getElem? h2)
          rw [(beq_iff _ _).2 hg] at h3; cases h3
      | succ i =>
        cases j with
        | zero =>
          simp at h1 h2
          subst h2
          have h3 := hx a (List.mem_of_getElem? h1)
          rw [(beq_iff _ _).2 hg.symm] at h3; cases h3
        | succ j =>
          simp at h1 h2
          rw [ih hd i j a b h1 h2 hg]

section
variable {n : Nat} {N K M : List Nat} {fg pt : Nat} {oc : Oc} {h : Hp}
structure ReOk (n : Nat) (N K M : List Nat) (h : Hp) : Prop where
  k : ∀ b, b ∈ K → b < n ∧ ∀ B, h.bs.get b = some B → B.fr = true ∧ B.g < n ∧ (h.grp B.g).1 < n ∧ ∀ x, x ∈ N → B.g ≠ grN h x n
  m : ∀ b, b ∈ M → b < n
  x : ∀ x, x ∈ N → ∃ X, h.bs.get x = some X ∧ X.fr = true ∧ (h.grp X.g).2 ≤ x
  d : ∀ (i j a b : Nat), N[i]? = some a → N[j]? = some b → grN h a n = grN h b n → i = j
  lo : h.lo = 0
theorem reOk_inv (hk : reOk n N K M h = true) : ReOk n N K M h := by
  unfold reOk at hk
  rw [Bool.and_eq_true, Bool.and_eq_true, Bool.and_eq_true, Bool.and_eq_true] at hk
  obtain ⟨h1, h2, h3, h4, h5⟩ := hk
  refine ⟨fun b hb => ?_, fun b hb => (blt_iff _ _).1 (allL_inv h2 b hb), fun x hx => ?_, distN_inv h4, (beq_iff _ _).1 h5⟩
  · have h6 := allL_inv h1 b hb
    cases hbn : Nat.blt b n with
    | false => rw [hbn] at h6; cases h6
    | true =>
      rw [hbn] at h6
      refine ⟨(blt_iff _ _).1 hbn, fun B hB => ?_⟩
      have h6 : Option.rec (motive := fun _ => Bool) true (fun B => Bool.rec (motive := fun _ => Bool) false (Bool.rec (motive := fun _ => Bool) false (Bool.rec (motive := fun _ => Bool) false (allL (fun x => bnot (Nat.beq B.g (grN h x n))) N) (Nat.blt (h.grp B.g).1 n)) (Nat.blt B.g n)) B.fr) (h.bs.get b) = true := h6
      rw [hB] at h6
      have h6 : Bool.rec (motive := fun _ => Bool) false (Bool.rec (motive := fun _ => Bool) false (Bool.rec (motive := fun _ => Bool) false (allL (fun x => bnot (Nat.beq B.g (grN h x n))) N) (Nat.blt (h.grp B.g).1 n)) (Nat.blt B.g n)) B.fr = true := h6
      cases hf : B.fr with
      | false => rw [hf] at h6; cases h6
      | true =>
        rw [hf] at h6
        cases hg : Nat.blt B.g n with
        | false => rw [hg] at h6; cases h6
        | true =>
          rw [hg] at h6
          cases hq : Nat.blt (h.grp B.g).1 n with
          | false => rw [hq] at h6; cases h6
          | true =>
            rw [hq] at h6
            refine ⟨rfl, (blt_iff _ _).1 hg, (blt_iff _ _).1 hq, fun x hx he => ?_⟩
            have h7 := allL_inv h6 x hx
            rw [(beq_iff _ _).2 he] at h7; cases h7
  · have h6 := allL_inv h3 x hx
    cases hB : h.bs.get x with
    | none => rw [hB] at h6; cases h6
    | some X =>
      rw [hB] at h6
      have h6 : Bool.rec (motive := fun _ => Bool) false (Nat.ble (h.grp X.g).2 x) X.fr = true := h6
      cases hf : X.fr with
      | false => rw [hf] at h6; cases h6
      | true =>
        rw [hf] at h6
        exact ⟨X, rfl, hf, (ble_iff _ _).1 h6⟩

/-- A block of the memory laid anew: one of the old ones, or a new one. -/
theorem reH_blk {c : Nat} {B' : Blk} (hb : (reH n N fg pt K M oc h).bs.get c = some B') :
    (∃ i b B, c = n + i ∧ N[i]? = some b ∧ h.bs.get b = some B ∧ B' = rnB (sg n N) c (Bool.rec (motive := fun _ => Option AV) none (patD (sg n N) pt B) (Nat.beq c fg)) B) ∨ ∃ B, c ∈ K ∧ h.bs.get c = some B ∧ B' = rnB (sg n N) B.g none B := by
  rcases newB_inv N n c B' hb with h1 | h1
  · exact .inl h1
  · exact .inr (oldB_inv K c B' h1)

variable {N0 : Base} {ρ : Rho} {w : World}
theorem grp_re {b : Nat} {B : Blk} (hb : b ∈ K) (hB : h.bs.get b = some B) : (reH n N fg pt K M oc h).grp B.g = h.grp B.g := by
  rw [grp_of, grp_of]
  show (match (oldG h K).get B.g with | some q => q | none => (B.g, B.g)) = _
  cases hq : h.gs.get B.g with
  | none =>
    cases hx : (oldG h K).get B.g with
    | none => rfl
    | some q => have := (oldG_get K _ q hx).1; rw [hq] at this; cases this
  | some q =>
    obtain ⟨q', hx⟩ := oldG_has K b B q hb hB hq
    rw [hx]
    have := (oldG_get K _ q' hx).1
    rw [hq] at this
    obtain rfl := Option.some.inj this
    rfl
theorem grp_re_new (hk : ReOk n N K M h) {c : Nat} (hc : n ≤ c) : (reH n N fg pt K M oc h).grp c = (c, c) := by
  rw [grp_of]
  show (match (oldG h K).get c with | some q => q | none => (c, c)) = _
  cases hx : (oldG h K).get c with
  | none => rfl
  | some q =>
    obtain ⟨-, b, B, k1, k2, k3⟩ := oldG_get K c q hx
    have := ((hk.k b k1).2 B k2).2.1
    omega

theorem re_inv (hk : ReOk n N K M h) (hi : Inv N0 ρ h w) : Inv N0 (ro n N ρ) (reH n N fg pt K M oc h) w := by
  have hlen : ∀ i b, N[i]? = some b → i < N.length := fun i b hb => (List.getElem?_eq_some_iff.1 hb).1
  -- a block's row
  have row : ∀ (c b : Nat) (B : Blk) (g : Nat) (f : Option AV), (∀ d, f = some d → ∀ i, i < B.lim → nth d (i % len d) = rn (sg n N) (B.at i)) → h.bs.get b = some B → ro n N ρ c = ρ b → (readable (reH n N fg pt K M oc h) c (rnB (sg n N) g f B) → readable h b B) → ∃ p, ro n N ρ c = some p ∧ BR N0 (ro n N ρ) (reH n N fg pt K M oc h) w c (rnB (sg n N) g f B) p := by
    intro c b B g f hD hB hr hrd
    obtain ⟨p, h1, h2⟩ := hi.blk b B hB
    refine ⟨p, hr.trans h1, ?_, h2.fit, h2.side⟩
    obtain ⟨cs, e, fz, k1, k2, k3, k4⟩ := h2.obj
    refine ⟨cs, e, fz, k1, k2, k3, fun hread i hil => ?_⟩
    obtain ⟨V, k5, k6⟩ := k4 (hrd hread) i hil
    refine ⟨V, k5, ?_⟩
    rcases rnB_at (σ := sg n N) (g := g) (D := f) (B := B) hD i with h3 | h3
    · rw [h3]; exact trivial
    · rw [h3]; exact k6.rn sg_ro
  have rdOld : ∀ (c : Nat) (B : Blk), c ∈ K → h.bs.get c = some B → readable (reH n N fg pt K M oc h) c (rnB (sg n N) B.g none B) → readable h c B := by
    intro c B hc hB hr hf
    have this : ((reH n N fg pt K M oc h).grp B.g).2 ≤ c := hr hf
    rw [grp_re hc hB] at this
    exact this
  have rdNew : ∀ (i b : Nat) (B : Blk), N[i]? = some b → h.bs.get b = some B → readable h b B := by
    intro i b B hb hB _
    obtain ⟨X, k1, -, k3⟩ := hk.x b (List.mem_of_getElem? hb)
    rw [hB] at k1
    obtain rfl := Option.some.inj k1
    exact k3
  refine ⟨fun c B' hb => ?_, fun c B' hb => ?_, fun c B' hb hf => ?_, fun g q hq => ?_, fun c1 c2 B1 B2 p1 p2 hb1 hb2 hf1 hf2 hp1 hp2 hpr => ?_, fun c1 c2 B1 B2 p1 p2 hb1 hb2 hf1 hf2 hp1 hp2 hg hr1 hr2 hc => ?_, fun i hin => ?_, hi.wsz, ⟨fun b m hb => ?_, fun b1 b2 m1 m2 p1 p2 hb1 hb2 hp1 hp2 hpr => ?_⟩, hi.jj⟩
  · -- blk
    rcases reH_blk hb with ⟨i, b, B, rfl, k1, k2, rfl⟩ | ⟨B, k1, k2, rfl⟩
    · refine row _ b B _ _ (fun d hd => ?_) k2 (ro_new k1) fun _ => rdNew i b B k1 k2
      cases hq : Nat.beq (n + i) fg with
      | true => rw [hq] at hd; exact patD_inv hd
      | false => rw [hq] at hd; cases hd
    · exact row _ c B _ _ (fun d hd => by cases hd) k2 (ro_lt (hk.k c k1).1) (rdOld c B k1 k2)
  · -- nb
    show c < n + N.length
    rcases reH_blk hb with ⟨i, b, B, rfl, k1, k2, rfl⟩ | ⟨B, k1, k2, rfl⟩
    · have := hlen i b k1; omega
    · have := (hk.k c k1).1; omega
  · -- gnb
    rcases reH_blk hb with ⟨i, b, B, rfl, k1, k2, rfl⟩ | ⟨B, k1, k2, rfl⟩
    · refine ⟨show n + i < n + N.length from by have := hlen i b k1; omega, ?_⟩
      show n + i ≤ ((reH n N fg pt K M oc h).grp (n + i)).1
      rw [grp_re_new hk (by omega)]; exact Nat.le_refl _
    · obtain ⟨k3, k4, k5, -⟩ := (hk.k c k1).2 B k2
      refine ⟨show B.g < n + N.length from by omega, ?_⟩
      show c ≤ ((reH n N fg pt K M oc h).grp B.g).1
      rw [grp_re k1 k2]
      exact (hi.gnb c B k2 k3).2
  · -- gs
    obtain ⟨k1, b, B, k2, k3, rfl⟩ := oldG_get K g q hq
    obtain ⟨k4, k5, k6, -⟩ := (hk.k b k2).2 B k3
    have k7 := hi.gs _ q k1
    have e : h.grp B.g = q := by rw [grp_of, k1]
    rw [e] at k6
    exact ⟨show B.g < n + N.length from by omega, show q.1 < n + N.length from by omega, k7.2.2⟩
  · -- als
    rcases reH_blk hb1 with ⟨i, b, B, rfl, k1, k2, rfl⟩ | ⟨B, k1, k2, rfl⟩ <;> rcases reH_blk hb2 with ⟨i', b', B', rfl, k1', k2', rfl⟩ | ⟨B', k1', k2', rfl⟩
    · rw [ro_new k1] at hp1; rw [ro_new k1'] at hp2
      have := hi.als b b' B B' p1 p2 k2 k2' hf1 hf2 hp1 hp2 hpr
      have hii := hk.d i i' b b' k1 k1' (by unfold grN; rw [k2, k2']; exact this)
      rw [hii]
      rfl
    · rw [ro_new k1] at hp1; rw [ro_lt (hk.k _ k1').1] at hp2
      have := hi.als b c2 B B' p1 p2 k2 k2' hf1 hf2 hp1 hp2 hpr
      exact absurd (by unfold grN; rw [k2]; exact this.symm) (((hk.k _ k1').2 B' k2').2.2.2 b (List.mem_of_getElem? k1))
    · rw [ro_lt (hk.k _ k1).1] at hp1; rw [ro_new k1'] at hp2
      have := hi.als c1 b' B B' p1 p2 k2 k2' hf1 hf2 hp1 hp2 hpr
      exact absurd (by unfold grN; rw [k2']; exact this) (((hk.k _ k1).2 B k2).2.2.2 b' (List.mem_of_getElem? k1'))
    · rw [ro_lt (hk.k _ k1).1] at hp1; rw [ro_lt (hk.k _ k1').1] at hp2
      exact hi.als c1 c2 B B' p1 p2 k2 k2' hf1 hf2 hp1 hp2 hpr
  · -- lim
    rcases reH_blk hb1 with ⟨i, b, B, rfl, k1, k2, rfl⟩ | ⟨B, k1, k2, rfl⟩ <;> rcases reH_blk hb2 with ⟨i', b', B', rfl, k1', k2', rfl⟩ | ⟨B', k1', k2', rfl⟩
    · have hii : n + i = n + i' := hg
      obtain rfl : i = i' := by omega
      rw [k1] at k1'
      obtain rfl := Option.some.inj k1'
      rw [k2] at k2'
      obtain rfl := Option.some.inj k2'
      rw [hp1] at hp2
      obtain rfl := Option.some.inj hp2
      exact ⟨Nat.le_refl _, fun _ => rfl⟩
    · have hii : n + i = B'.g := hg
      have := ((hk.k _ k1').2 B' k2').2.1
      omega
    · have hii : B.g = n + i' := hg
      have := ((hk.k _ k1).2 B k2).2.1
      omega
    · rw [ro_lt (hk.k _ k1).1] at hp1; rw [ro_lt (hk.k _ k1').1] at hp2
      exact hi.lim c1 c2 B B' p1 p2 k2 k2' hf1 hf2 hp1 hp2 hg (rdOld c1 B k1 k2 hr1) (rdOld c2 B' k1' k2' hr2) hc
  · -- free
    have hin : n + N.length ≤ i := hin
    unfold ro
    rw [if_neg (by omega)]
    have : N[i - n]? = none := List.getElem?_eq_none_iff.2 (by omega)
    rw [this]
  · -- maps
    obtain ⟨m0, k1, k2, rfl⟩ := oldM_inv M b m hb
    have hbn := hk.m b k1
    obtain ⟨-, p, o, k3, k4, k5, k6⟩ := hi.mp.ent b m0 k2
    exact ⟨show b < n + N.length from by omega, p, o, by rw [ro_lt hbn]; exact k3, k4, k5, k6.rn sg_ro⟩
  · obtain ⟨m0, k1, k2, rfl⟩ := oldM_inv M b1 m1 hb1
    obtain ⟨m0', k1', k2', rfl⟩ := oldM_inv M b2 m2 hb2
    rw [ro_lt (hk.m _ k1)] at hp1
    rw [ro_lt (hk.m _ k1')] at hp2
    exact hi.mp.inj b1 b2 m0 m0' p1 p2 k2 k2' hp1 hp2 hpr

theorem re_tr {ρ0 : Rho} {h0 : Hp} {w0 : World} (hk : ReOk n N K M h) (hn : h0.nb ≤ n) (hf : ∀ i, h0.nb ≤ i → ρ0 i = none) (ht : Tr ρ0 h0 w0 ρ h w) : Tr ρ0 h0 w0 (ro n N ρ) (reH n N fg pt K M oc h) w := by
  have hlo : h0.lo = 0 := ht.lo.symm.trans hk.lo
  have low : ∀ b p, ρ0 b = some p → b < n := fun b p hb => by
    by_cases h1 : h0.nb ≤ b
    · rw [hf b h1] at hb; cases hb
    · omega
  refine ⟨fun b p hb => ?_, show h0.nb ≤ n + N.length from by omega, fun b p hb => ?_, ht.frame, fun l hl c B p hb hB hp => ?_, fun l hl b m p hb hlb hp => ?_, ht.size, ht.tape, ht.os, ht.output, ht.lo⟩
  · rw [ro_lt (low b p hb)]; exact ht.ext b p hb
  · by_cases hbn : b < n
    · rw [ro_lt hbn] at hb
      rcases ht.new b p hb with h1 | ⟨h1, h2, -⟩
      · exact .inl h1
      · exact .inr ⟨h1, h2, show b < n + N.length from by omega⟩
    · have hlt : b - n < N.length := by
        by_cases h1 : b - n < N.length
        · exact h1
        · unfold ro at hb
          rw [if_neg hbn, List.getElem?_eq_none_iff.2 (by omega)] at hb
          cases hb
      exact .inr ⟨hf b (by omega), by omega, show b < n + N.length from by omega⟩
  · obtain rfl : l = 0 := by omega
    rcases reH_blk hb with ⟨i, b, B0, rfl, k1, k2, rfl⟩ | ⟨B0, k1, k2, rfl⟩
    · rw [ro_new k1] at hp
      exact ht.img 0 (Nat.zero_le _) b B0 p k2 ⟨hB.1, Nat.zero_le _⟩ hp
    · rw [ro_lt (hk.k c k1).1] at hp
      exact ht.img 0 (Nat.zero_le _) c B0 p k2 ⟨hB.1, Nat.zero_le _⟩ hp
  · obtain ⟨m0, k1, k2, rfl⟩ := oldM_inv M b m hb
    rw [ro_lt (hk.m b k1)] at hp
    exact ht.mimg l hl b m0 p k2 hlb hp
end
end
end Go.AM

namespace Go.AM
open Go
set_option autoImplicit false

/-- From values and memory a loop with the body F comes to r, in so many rounds; memory may be laid anew, but for what lies below b0. -/
inductive Goes (b0 : Nat) (F : List AV → Hp → Res) : Nat → List AV → Hp → Res → Prop where
  | stop {vs : List AV} {h : Hp} {r : Res} : (∀ vs' h', now (F vs h) ≠ .norm vs' h') → now (F vs h) = now r → Goes b0 F 1 vs h r
  | step {m : Nat} {vs vs' : List AV} {h h' : Hp} {r : Res} : now (F vs h) = .norm vs' h' → Goes b0 F m vs' h' r → Goes b0 F (m + 1) vs h r
  | re {m : Nat} {vs : List AV} {h : Hp} {r : Res} (n : Nat) (N : List Nat) (fg pt : Nat) (K M : List Nat) (oc : Oc) : reOk n N K M h = true → b0 ≤ n → Goes b0 F m (vs.map (rn (sg n N))) (reH n N fg pt K M oc h) r → Goes b0 F m vs h r
  | oc {m : Nat} {vs : List AV} {h : Hp} {r : Res} (l : Oc) : Goes b0 F m vs (h.wo l) r → Goes b0 F m vs h r

section
variable {P : Program} {N0 : Base} {ρ0 : Rho} {h0 : Hp} {w0 : World}

theorem Goes.lp {b0 : Nat} {F : List AV → Hp → Res} : ∀ (f : Nat) (vs : List AV) (h : Hp) (r : Res), Sm (lp F f vs h) r → Fine r → ∃ m, Goes b0 F m vs h r := by
  intro f
  induction f with
  | zero => intro vs h r e hr; exact absurd rfl (e.nf hr)
  | succ f ih =>
    intro vs h r e hr
    have e : Sm (jn (F vs h) (fun vs h => AM.lp F f vs h)) r := e
    obtain ⟨hne, hcase⟩ := jn_inv e hr
    rcases hcase with ⟨vs', h', e1, e2⟩ | ⟨i, vs', h', e1, e2⟩ | ⟨v, h', e1, e2⟩
    · obtain ⟨m, hm⟩ := ih vs' h' r e2 hr
      exact ⟨m + 1, .step e1 hm⟩
    · exact ⟨1, .stop (fun a b hab => by rw [e1] at hab; cases hab) (e1.trans e2.symm)⟩
    · exact ⟨1, .stop (fun a b hab => by rw [e1] at hab; cases hab) (e1.trans e2.symm)⟩

theorem goes_sound (hm : P.follows .mixedOrders = true) {γ : FuncId → Option Fun} (hγ : GSound P γ ∧ N0.fits P) (fn : Func) (p : Code) (l : List Nat) (x : Hint) (xs : List (Nat × List Nat)) (k : Env → Hp → Res) (hf : ∀ i, h0.nb ≤ i → ρ0 i = none) :
    ∀ {m : Nat} {vs : List AV} {h : Hp} {r : Res}, Goes h0.nb (fun vs h => un l vs fun env => den P γ fn p x xs env h fun env h => .norm (l.map env) h) m vs h r → Fine r → ∀ (ρ : Rho) (w : World) (env : Env) (a : Act), l.map env = vs → St N0 fn.ntmps ρ0 h0 w0 ρ h w env a →
    Code.rounds P p (Post P fn N0 fn.ntmps ρ0 h0 w0 xs k r) m a w := by
  intro m vs h r hg
  induction hg with
  | @stop vs h r hn e =>
    intro hr ρ w env a hv hs
    rw [rounds_succ]
    subst hv
    obtain ⟨env2, h3, h4⟩ := un_map env l rfl
    refine wp_mono (den_sound hm hγ fn p x xs ρ h w env2 a _ r hr (hs.less h4) ((Sm.eq h3).trans e)) fun ex a' w' hp => ?_
    cases ex with
    | normal =>
      obtain ⟨ρ', h', env', hs', e'⟩ := hp
      exact absurd (e.trans e'.symm) (hn _ _)
    | exit id => exact hp
    | ret => exact hp
    | _ => exact hp
  | @step m vs vs' h h' r e _ ih =>
    intro hr ρ w env a hv hs
    rw [rounds_succ]
    subst hv
    obtain ⟨env2, h3, h4⟩ := un_map env l rfl
    refine wp_mono (den_sound hm hγ fn p x xs ρ h w env2 a _ (.norm vs' h') (by simp) (hs.less h4) ((Sm.eq h3).trans e)) fun ex a' w' hp => ?_
    cases ex with
    | normal =>
      obtain ⟨ρ', h2, env', hs', e'⟩ := hp
      have e' : Res.norm (l.map env') h2 = .norm vs' h' := e'
      injection e' with e1 e2
      subst e2
      exact ih hr ρ' w' env' a' e1 hs'
    | exit id =>
      obtain ⟨ρ', h2, env', l', hs', hf', e'⟩ := hp
      cases e'
    | ret =>
      obtain ⟨ρ', h2, env', hs', e'⟩ := hp
      obtain ⟨v2, h3, hv2⟩ := rt_not (P := P) (fn := fn) (env := env') (h := h2) (e'.nf (by simp))
      have e3 : Res.ret v2 h3 = .norm vs' h' := Eq.trans (by rw [hv2]; rfl) e'
      cases e3
    | _ => exact hp
  | @re m vs h r n N fg pt K M oc hk hn _ ih =>
    intro hr ρ w env a hv hs
    have hk := reOk_inv hk
    refine ih hr (ro n N ρ) w (fun t => rn (sg n N) (env t)) a ?_ ⟨re_inv hk hs.inv, re_tr hk hn hf hs.tr, fun t => (hs.er t).rn sg_ro, hs.sz, hs.df⟩
    rw [← hv, List.map_map]
    rfl
  | @oc m vs h r l _ ih =>
    intro hr ρ w env a hv hs
    refine ih hr ρ w env a hv ?_
    obtain ⟨nb, bs, gs, ms, lo, oc⟩ := h
    exact hs.oc

/-- Code with a loop in it that is known by J. -/
noncomputable def denJ (P : Program) (γ : FuncId → Option Fun) (fn : Func) (J : Fun) (c0 : Code) (x0 : Hint) (c1 : Code) (x1 : Hint) (id : Nat) (l : List Nat) (c2 : Code) (x2 : Hint) (xs : List (Nat × List Nat)) (env : Env) (h : Hp) (k : Env → Hp → Res) : Res :=
  den P γ fn c0 x0 xs env h fun env h => den P γ fn c1 x1 xs env h fun env h => blk id (J (l.map env) h) fun vs h => un l vs fun env => den P γ fn c2 x2 xs env h k

theorem denJ_sound (hm : P.follows .mixedOrders = true) {γ : FuncId → Option Fun} (hγ : GSound P γ ∧ N0.fits P) (fn : Func) (hf : ∀ i, h0.nb ≤ i → ρ0 i = none) {J : Fun} {c0 c1 c2 p : Code} {x0 x1 x2 x : Hint} {id : Nat} {l : List Nat} {xs : List (Nat × List Nat)}
    (hJ : ∀ vs h r, Fine r → Sm (J vs h) r → ∃ m, Goes h0.nb (fun vs h => un l vs fun env => den P γ fn p x ((id, l) :: xs) env h fun env h => .norm (l.map env) h) m vs h r)
    (ρ : Rho) (h : Hp) (w : World) (env : Env) (a : Act) (k : Env → Hp → Res) (r : Res) (hr : Fine r) (hs : St N0 fn.ntmps ρ0 h0 w0 ρ h w env a) (e : Sm (denJ P γ fn J c0 x0 c1 x1 id l c2 x2 xs env h k) r) :
    (Code.seq c0 (.seq c1 (.seq (.block id (.loop p)) c2))).wp P (Post P fn N0 fn.ntmps ρ0 h0 w0 xs k r) a w := by
  unfold denJ at e
  refine wp_seq (wp_mono (den_sound hm hγ fn c0 x0 xs ρ h w env a _ r hr hs e) fun ex a' w' hp => ?_)
  cases ex with
  | normal =>
    obtain ⟨ρ, h, env, hs, e⟩ := hp
    refine wp_seq (wp_mono (den_sound hm hγ fn c1 x1 xs ρ h w' env a' _ r hr hs e) fun ex a' w' hp => ?_)
    cases ex with
    | normal =>
      obtain ⟨ρ, h, env, hs, e⟩ := hp
      obtain ⟨hne, hcase⟩ := blk_inv e hr
      obtain ⟨m, hg⟩ := hJ (l.map env) h (J (l.map env) h) hne rfl
      have hl := wp_loop_rounds m (goes_sound hm hγ fn p l x ((id, l) :: xs) (fun env h => .norm (l.map env) h) hf hg hne ρ w' env a' rfl hs)
      have hb : (Code.block id (.loop p)).wp P (Post P fn N0 fn.ntmps ρ0 h0 w0 xs (fun env h => den P γ fn c2 x2 xs env h k) r) a' w' := by
        refine wp_block (wp_mono hl fun ex a' w' hp => ?_)
        cases ex with
        | normal =>
          obtain ⟨ρ', h', env', hs', e'⟩ := hp
          rcases hcase with ⟨vs, hh, e1, e2⟩ | ⟨vs, hh, e1, e2⟩ | ⟨i, vs, hh, hi, e1, e2⟩ | ⟨v, hh, e1, e2⟩
          · obtain ⟨rfl, rfl⟩ : l.map env' = vs ∧ h' = hh := Sm.norm e' e1
            obtain ⟨env2, h3, h4⟩ := un_map env' l (Eq.refl _)
            exact ⟨ρ', h', env2, hs'.less h4, .of h3 e2⟩
          · have e3 : Res.norm (l.map env') h' = _ := Eq.trans e' e1; cases e3
          · have e3 : Res.norm (l.map env') h' = _ := Eq.trans e' e1; cases e3
          · have e3 : Res.norm (l.map env') h' = _ := Eq.trans e' e1; cases e3
        | exit id' =>
          obtain ⟨ρ', h', env', l', hs', hf, e'⟩ := hp
          rcases hcase with ⟨vs, hh, e1, e2⟩ | ⟨vs, hh, e1, e2⟩ | ⟨i, vs, hh, hi, e1, e2⟩ | ⟨v, hh, e1, e2⟩
          · rw [e1] at e'; cases e'
          · rw [e1] at e'
            obtain ⟨rfl, rfl, rfl⟩ : id = id' ∧ vs = l'.map env' ∧ hh = h' := by cases e'; exact ⟨rfl, rfl, rfl⟩
            have hll : l' = l := by
              rw [List.find?_cons, (beq_iff id id).2 rfl] at hf
              cases hf; rfl
            subst hll
            obtain ⟨env2, h3, h4⟩ := un_map env' l' (Eq.refl _)
            replace h3 := Sm.of h3 e2
            show Exit.inBlock id _ (.exit id) a' w'
            unfold Exit.inBlock
            simp only [if_true]
            exact ⟨ρ', hh, env2, hs'.less h4, h3⟩
          · rw [e1] at e'
            obtain ⟨rfl, rfl, rfl⟩ : i = id' ∧ vs = l'.map env' ∧ hh = h' := by cases e'; exact ⟨rfl, rfl, rfl⟩
            show Exit.inBlock id _ (.exit i) a' w'
            unfold Exit.inBlock
            simp only [if_neg hi]
            refine ⟨ρ', hh, env', l', hs', ?_, e2⟩
            have hb : Nat.beq id i = false := by rw [Bool.eq_false_iff, ne_eq, beq_iff]; exact fun he => hi he.symm
            rw [List.find?_cons, hb] at hf
            exact hf
          · rw [e1] at e'; cases e'
        | ret =>
          obtain ⟨ρ', h', env', hs', e'⟩ := hp
          refine ⟨ρ', h', env', hs', ?_⟩
          obtain ⟨v', h'', hv⟩ := rt_not (P := P) (fn := fn) (env := env') (h := h') (e'.nf hne)
          rcases hcase with ⟨vs, hh, e1, e2⟩ | ⟨vs, hh, e1, e2⟩ | ⟨i, vs, hh, hi, e1, e2⟩ | ⟨v, hh, e1, e2⟩
          · have e3 : Res.ret v' h'' = _ := Eq.trans (by rw [hv]; rfl) (Eq.trans e' e1); cases e3
          · have e3 : Res.ret v' h'' = _ := Eq.trans (by rw [hv]; rfl) (Eq.trans e' e1); cases e3
          · have e3 : Res.ret v' h'' = _ := Eq.trans (by rw [hv]; rfl) (Eq.trans e' e1); cases e3
          · exact Eq.trans e' (e1.trans e2.symm)
        | _ => exact hp
      refine wp_seq (wp_mono hb fun ex a' w' hp => ?_)
      cases ex with
      | normal =>
        obtain ⟨ρ, h, env, hs, e⟩ := hp
        exact den_sound hm hγ fn c2 x2 xs ρ h w' env a' k r hr hs e
      | _ => exact hp
    | _ => exact hp
  | _ => exact hp

/-- A function with a loop in it that is known by J (which is told how many blocks there were when the function was called). -/
noncomputable def denFJ (P : Program) (γ : FuncId → Option Fun) (fn : Func) (J : Nat → Fun) (x0 x1 : Hint) (l : List Nat) (x2 : Hint) : Fun := fun args h =>
  match fn.body with
  | some (.seq c0 (.seq c1 (.seq (.block id (.loop _)) c2))) => unX (List.range (Nat.add fn.params.size fn.nfree)) args fun env => denJ P γ fn (J h.nb) c0 x0 c1 x1 id l c2 x2 [] env h fun env h => rt P fn env h
  | _ => .fail
/-- The loop's body. -/
noncomputable def loopF (P : Program) (γ : FuncId → Option Fun) (fn : Func) (l : List Nat) (x : Hint) : List AV → Hp → Res :=
  match fn.body with
  | some (.seq _ (.seq _ (.seq (.block id (.loop p)) _))) => fun vs h => un l vs fun env => den P γ fn p x [(id, l)] env h fun env h => .norm (l.map env) h
  | _ => fun _ _ => .fail

theorem denFJ_sound (hm : P.follows .mixedOrders = true) {γ : FuncId → Option Fun} (hγ : GSound P γ) {f : FuncId} {fn : Func} {c : Code} {J : Nat → Fun} {x0 x1 x2 : Hint} {l : List Nat} (x : Hint) (hf : P.funcs[f]? = some fn) (hb : fn.body = some c)
    (hJ : ∀ b0 vs h r, Fine r → Sm (J b0 vs h) r → ∃ m, Goes b0 (loopF P γ fn l x) m vs h r) : FSound P f (denFJ P γ fn J x0 x1 l x2) := by
  intro N0 hN ρ h w args Args v h' e hi ha
  unfold denFJ at e
  rw [hb] at e
  have hloop : loopF P γ fn l x = (match some c with
    | some (.seq _ (.seq _ (.seq (.block id (.loop p)) _))) => fun vs h => un l vs fun env => den P γ fn p x [(id, l)] env h fun env h => .norm (l.map env) h
    | _ => fun _ _ => .fail) := by unfold loopF; rw [hb]
  rw [hloop] at hJ
  split at e
  · rename_i c0 c1 id p c2 hc
    obtain rfl : c = _ := Option.some.inj hc
    have hJ : ∀ b0 vs h r, Fine r → Sm (J b0 vs h) r → ∃ m, Goes b0 (fun vs h => un l vs fun env => den P γ fn p x [(id, l)] env h fun env h => .norm (l.map env) h) m vs h r := hJ
    obtain ⟨env, h1, h2⟩ := unX_inv _ _ (Eq.refl (unX (List.range (Nat.add fn.params.size fn.nfree)) args fun env => denJ P γ fn (J h.nb) c0 x0 c1 x1 id l c2 x2 [] env h fun env h => rt P fn env h)) (fun h0 => by rw [h0] at e; cases e)
    refine calls_of_wp hf hb ?_
    have hs : St N0 fn.ntmps ρ h w ρ h w env { tmps := Args ++ Array.replicate (fn.ntmps - Args.size) undef, defers := [] } := by
      refine ⟨hi, Tr.refl ρ h w, fun t => ?_, by simp; omega, rfl⟩
      rcases h2 t with h3 | ⟨i, h3, h4⟩
      · rw [h3]; exact trivial
      · have hit : i = t := by
          have := (List.getElem?_eq_some_iff.1 h3)
          obtain ⟨h5, h6⟩ := this
          simpa using h6
        subst hit
        obtain ⟨V, h7, h8⟩ := ha.get' i _ h4
        rw [Array.getElem?_toList] at h7
        have hlt := (Array.getElem?_eq_some_iff.1 h7).1
        have : (Args ++ Array.replicate (fn.ntmps - Args.size) undef).getD i undef = V := by
          rw [Array.getD_eq_getD_getElem?, Array.getElem?_append_left hlt, h7]; rfl
        rw [this]; exact h8
    refine wp_mono (denJ_sound hm ⟨hγ, hN⟩ fn hi.free (fun vs h r hr e => hJ _ vs h r hr e) ρ h w env _ _ (.ret v h') (by simp) hs (Eq.trans (congrArg now h1) e)) fun ex a' w' hp => ?_
    have fin : ∀ ρ1 h1 env1, St N0 fn.ntmps ρ h w ρ1 h1 w' env1 a' → Sm (rt P fn env1 h1) (.ret v h') → a'.defers = [] ∧ ∃ V, (results fn a'.tmps).run P w' = .ok V w' ∧ ∃ V' ρ', Ending.returned V = .returned V' ∧ Out N0 ρ h w v h' V' w' ρ' := by
      intro ρ1 h1 env1 hs1 e1
      obtain ⟨v2, h2, hv2⟩ := rt_not (e1.nf (by simp))
      have e1 : rt P fn env1 h1 = .ret v h' := by
        have e2 : Res.ret v2 h2 = .ret v h' := Eq.trans (by rw [hv2]; rfl) e1
        rw [hv2, e2]
      obtain ⟨rfl, V, h3, h4⟩ := rt_ok hs1.inv hs1.er e1
      exact ⟨hs1.df, V, h3, V, ρ1, rfl, h4, hs1.inv, hs1.tr⟩
    cases ex with
    | normal => obtain ⟨ρ1, h1, env1, hs1, e1⟩ := hp; exact fin _ _ _ hs1 e1
    | ret => obtain ⟨ρ1, h1, env1, hs1, e1⟩ := hp; exact fin _ _ _ hs1 e1
    | exit id => obtain ⟨ρ1, h1, env1, l, hs1, hx, e1⟩ := hp; simp at hx
    | _ => exact hp.elim
  · exact absurd (show Res.fail = .ret v h' from e) (by simp)
end
end Go.AM

namespace Go.AM
open Go
set_option autoImplicit false
noncomputable section

/-! ### memories compared -/
def eqO {α : Type} (f : α → α → Bool) (x y : Option α) : Bool := Option.rec (motive := fun _ => Bool) (Option.rec (motive := fun _ => Bool) true (fun _ => false) y) (fun a => Option.rec (motive := fun _ => Bool) false (fun b => f a b) y) x
theorem eqO_eq {α : Type} {f : α → α → Bool} (hf : ∀ a b, f a b = true → a = b) {x y : Option α} (h : eqO f x y = true) : x = y := by
  cases x <;> cases y <;> first
    | rfl
    | exact Bool.noConfusion h
    | exact congrArg some (hf _ _ h)
def eqT {α : Type} (f : α → α → Bool) (t : T α) : T α → Bool := T.rec (motive := fun _ => T α → Bool) (fun s => T.rec (motive := fun _ => Bool) true (fun _ _ _ _ _ _ _ _ _ => false) s)
  (fun v _ _ _ _ ia ib ic id s => T.rec (motive := fun _ => Bool) false (fun v' a b c d _ _ _ _ => bAnd (eqO f v v') (bAnd (ia a) (bAnd (ib b) (bAnd (ic c) (id d))))) s) t
theorem eqT_eq {α : Type} {f : α → α → Bool} (hf : ∀ a b, f a b = true → a = b) : ∀ (t s : T α), eqT f t s = true → t = s := by
  intro t
  induction t with
  | e => intro s h; cases s with | e => rfl | n => exact Bool.noConfusion h
  | n v a b c d iha ihb ihc ihd =>
    intro s h
    cases s with
    | e => exact Bool.noConfusion h
    | n v' a' b' c' d' =>
      have h : bAnd (eqO f v v') (bAnd (eqT f a a') (bAnd (eqT f b b') (bAnd (eqT f c c') (eqT f d d')))) = true := h
      rw [bAnd_iff, bAnd_iff, bAnd_iff, bAnd_iff] at h
      rw [eqO_eq hf h.1, iha _ h.2.1, ihb _ h.2.2.1, ihc _ h.2.2.2.1, ihd _ h.2.2.2.2]
def eqBk (x y : Blk) : Bool := Blk.rec (motive := fun _ => Bool) (fun fr g lim df cs => Blk.rec (motive := fun _ => Bool) (fun fr' g' lim' df' cs' => bAnd (beqB fr fr') (bAnd (Nat.beq g g') (bAnd (Nat.beq lim lim') (bAnd (eqU df df') (eqT eqU cs cs'))))) y) x
theorem eqBk_eq (x y : Blk) (h : eqBk x y = true) : x = y := by
  obtain ⟨fr, g, lim, df, cs⟩ := x
  obtain ⟨fr', g', lim', df', cs'⟩ := y
  have h : bAnd (beqB fr fr') (bAnd (Nat.beq g g') (bAnd (Nat.beq lim lim') (bAnd (eqU df df') (eqT eqU cs cs')))) = true := h
  rw [bAnd_iff, bAnd_iff, bAnd_iff, bAnd_iff, beqB_eq, beq_iff, beq_iff] at h
  obtain ⟨h1, h2, h3, h4, h5⟩ := h
  have h1 : fr = fr' := by simpa using h1
  rw [h1, h2, h3, eqU_eq h4, eqT_eq (fun _ _ => eqU_eq) _ _ h5]
def eqPr (x y : Nat × Nat) : Bool := bAnd (Nat.beq x.1 y.1) (Nat.beq x.2 y.2)
theorem eqPr_eq (x y : Nat × Nat) (h : eqPr x y = true) : x = y := by
  unfold eqPr at h
  rw [bAnd_iff, beq_iff, beq_iff] at h
  exact Prod.ext h.1 h.2
/-- Two memories are alike (what is told apart). -/
def eqHp (x y : Hp) : Bool := bAnd (Nat.beq x.nb y.nb) (bAnd (Nat.beq x.lo y.lo) (bAnd (eqT eqPr x.gs y.gs) (bAnd (eqT eqU x.ms y.ms) (eqT eqBk x.bs y.bs))))
theorem eqHp_eq {x y : Hp} (h : eqHp x y = true) (ho : x.oc = y.oc) : x = y := by
  obtain ⟨nb, bs, gs, ms, lo, oc⟩ := x
  obtain ⟨nb', bs', gs', ms', lo', oc'⟩ := y
  have h : bAnd (Nat.beq nb nb') (bAnd (Nat.beq lo lo') (bAnd (eqT eqPr gs gs') (bAnd (eqT eqU ms ms') (eqT eqBk bs bs')))) = true := h
  rw [bAnd_iff, bAnd_iff, bAnd_iff, bAnd_iff, beq_iff, beq_iff] at h
  obtain ⟨h1, h2, h3, h4, h5⟩ := h
  have ho : oc = oc' := ho
  rw [h1, h2, eqT_eq eqPr_eq _ _ h3, eqT_eq (fun _ _ => eqU_eq) _ _ h4, eqT_eq eqBk_eq _ _ h5, ho]
def eqLs (x : List AV) : List AV → Bool := List.rec (motive := fun _ => List AV → Bool) (fun y => List.rec (motive := fun _ => Bool) true (fun _ _ _ => false) y) (fun a _ ih y => List.rec (motive := fun _ => Bool) false (fun b l _ => bAnd (eqU a b) (ih l)) y) x
theorem eqLs_eq : ∀ (x y : List AV), eqLs x y = true → x = y := by
  intro x
  induction x with
  | nil => intro y h; cases y with | nil => rfl | cons => exact Bool.noConfusion h
  | cons a x ih =>
    intro y h
    cases y with
    | nil => exact Bool.noConfusion h
    | cons b y =>
      have h : bAnd (eqU a b) (eqLs x y) = true := h
      rw [bAnd_iff] at h
      rw [eqU_eq h.1, ih _ h.2]

/-! ### what can be reached (a list that is used, never trusted) -/
def refs (v : AV) : List Nat → List Nat := AV.rec (motive := fun _ => List Nat → List Nat) (fun l => l) (fun _ l => l) (fun _ _ l => l) (fun _ _ l => l) (fun l => l) (fun b _ l => b :: l) (fun l => l) (fun b _ _ _ _ l => b :: l) (fun l => l) (fun l => l) (fun _ _ ih l => ih l) (fun l => l) (fun _ _ _ iha ihb l => iha (ihb l)) (fun l => l) (fun b l => b :: l) (fun _ ih l => ih l) (fun _ ih l => ih l) (fun l => l) (fun _ _ iha ihb l => iha (ihb l)) v
def refsT (t : T AV) : List Nat → List Nat := T.rec (motive := fun _ => List Nat → List Nat) (fun l => l) (fun v _ _ _ _ ia ib ic id l => Option.rec (motive := fun _ => List Nat) (ia (ib (ic (id l)))) (fun v => refs v (ia (ib (ic (id l))))) v) t
def live (h : Hp) (f : Nat) : List Nat → T Bool → List Nat → List Nat → List Nat × List Nat := Nat.rec (motive := fun _ => List Nat → T Bool → List Nat → List Nat → List Nat × List Nat) (fun _ _ K M => (K, M))
  (fun _ ih todo seen K M => List.rec (motive := fun _ => List Nat × List Nat) (K, M) (fun b l _ => Option.rec (motive := fun _ => List Nat × List Nat)
    (Option.rec (motive := fun _ => List Nat × List Nat) (Option.rec (motive := fun _ => List Nat × List Nat) (ih l (T.set true seen b) K M) (fun m => ih (refs m l) (T.set true seen b) K (b :: M)) (h.ms.get b)) (fun B => ih (refsT B.cs (refs B.df l)) (T.set true seen b) (b :: K) M) (h.bs.get b))
    (fun _ => ih l seen K M) (seen.get b)) todo) f

/-! ### rounds -/
/-- So many rounds of a loop's body. -/
def it (F : List AV → Hp → Res) (k : Nat) : List AV → Hp → Res := Nat.rec (motive := fun _ => List AV → Hp → Res) (fun vs h => .norm vs h) (fun _ ih vs h => jn (F vs h) ih) k
theorem jn_norm {r1 : Res} {k : List AV → Hp → Res} {vs : List AV} {h : Hp} (e : now (jn r1 k) = .norm vs h) : ∃ vs1 h1, now r1 = .norm vs1 h1 ∧ now (k vs1 h1) = .norm vs h := by
  obtain ⟨-, hc⟩ := jn_inv (r := .norm vs h) e (by simp)
  rcases hc with ⟨vs1, h1, e1, e2⟩ | ⟨i, vs1, h1, -, e2⟩ | ⟨v, h1, -, e2⟩
  · exact ⟨vs1, h1, e1, e2⟩
  · cases e2
  · cases e2
theorem Goes.it {b0 : Nat} {F : List AV → Hp → Res} {m : Nat} {vs' : List AV} {h' : Hp} {r : Res} (hg : Goes b0 F m vs' h' r) : ∀ (k : Nat) (vs : List AV) (h : Hp), now (it F k vs h) = .norm vs' h' → Goes b0 F (m + k) vs h r := by
  intro k
  induction k with
  | zero => intro vs h e; have e : Res.norm vs h = .norm vs' h' := e; injection e with e1 e2; subst e1; subst e2; exact hg
  | succ k ih =>
    intro vs h e
    obtain ⟨vs1, h1, e1, e2⟩ := jn_norm e
    exact .step e1 (ih vs1 h1 e2)
theorem now_jn (a : Res) (f g : List AV → Hp → Res) : now (jn (jn a f) g) = now (jn a fun vs h => jn (f vs h) g) := by
  induction a with
  | ask p q ih =>
    cases p with
    | true => exact ih
    | false => rfl
  | _ => rfl
/-- A run that goes on behind some rounds. -/
theorem goes_it {b0 : Nat} {F K : List AV → Hp → Res} {r : Res} (hr : Fine r) (hK : ∀ vs h, Sm (K vs h) r → ∃ m, Goes b0 F m vs h r) : ∀ (k : Nat) (vs : List AV) (h : Hp), Sm (jn (it F k vs h) K) r → ∃ m, Goes b0 F m vs h r := by
  intro k
  induction k with
  | zero => intro vs h e; exact hK vs h e
  | succ k ih =>
    intro vs h e
    have e : Sm (jn (F vs h) fun vs h => jn (it F k vs h) K) r := (now_jn (F vs h) (it F k) K).symm.trans e
    obtain ⟨-, hcase⟩ := jn_inv e hr
    rcases hcase with ⟨vs', h', e1, e2⟩ | ⟨i, vs', h', e1, e2⟩ | ⟨v, h', e1, e2⟩
    · obtain ⟨m, hm⟩ := ih vs' h' e2
      exact ⟨m + 1, .step e1 hm⟩
    · exact ⟨1, .stop (fun a b hab => by rw [e1] at hab; cases hab) (e1.trans e2.symm)⟩
    · exact ⟨1, .stop (fun a b hab => by rw [e1] at hab; cases hab) (e1.trans e2.symm)⟩
/-- What is asked, then r. -/
def aks (l : List Bool) (r : Res) : Res := List.rec (motive := fun _ => Res) r (fun p _ ih => .ask p ih) l
theorem now_aks {l : List Bool} {r : Res} (h : ∀ p ∈ l, p = true) : now (aks l r) = now r := by
  induction l with
  | nil => rfl
  | cons p l ih =>
    have hp := h p List.mem_cons_self
    subst hp
    exact ih fun q hq => h q (List.mem_cons_of_mem _ hq)
/-- After so many rounds memory is laid anew. -/
def itG (F : List AV → Hp → Res) (k n : Nat) (Nf : List AV → Hp → List Nat) (fg pt : Nat) (K M : List Nat) (oc : Oc) (vs : List AV) (h : Hp) : Res :=
  jn (AM.it F k vs h) fun vs h => ifB (reOk n (Nf vs h) K M h) (.norm (vs.map (rn (sg n (Nf vs h)))) (reH n (Nf vs h) fg pt K M oc h)) .fail
theorem Goes.itG {b0 : Nat} {F : List AV → Hp → Res} {m : Nat} {vs vs' : List AV} {h h' : Hp} {r : Res} {k n : Nat} {Nf : List AV → Hp → List Nat} {fg pt : Nat} {K M : List Nat} {oc : Oc} (hg : Goes b0 F m vs' h' r) (hb : b0 ≤ n)
    (e : now (itG F k n Nf fg pt K M oc vs h) = .norm vs' h') : Goes b0 F (m + k) vs h r := by
  obtain ⟨vs1, h1, e1, e2⟩ := jn_norm e
  have e2 : now (ifB (reOk n (Nf vs1 h1) K M h1) (.norm (vs1.map (rn (sg n (Nf vs1 h1)))) (reH n (Nf vs1 h1) fg pt K M oc h1)) .fail) = .norm vs' h' := e2
  cases hk : reOk n (Nf vs1 h1) K M h1 with
  | false => rw [hk] at e2; cases e2
  | true =>
    rw [hk] at e2
    have e2 : Res.norm (vs1.map (rn (sg n (Nf vs1 h1)))) (reH n (Nf vs1 h1) fg pt K M oc h1) = .norm vs' h' := e2
    injection e2 with e3 e4
    refine Goes.it (.re n (Nf vs1 h1) fg pt K M oc hk hb ?_) k vs h e1
    rw [e3, e4]
    exact hg
end
end Go.AM

namespace Go.AM
open Go
set_option autoImplicit false
noncomputable section

/-- Which places of a trie hold something. -/
def shp {α : Type} (t : T α) : T Unit := tmap (fun _ => ()) t
theorem shp_set {α : Type} (v w : α) (t : T α) : ∀ k, t.get k = some w → shp (T.set v t k) = shp t := by
  induction t with
  | e => intro k h; cases h
  | n o a b c d iha ihb ihc ihd =>
    intro k h
    cases k with
    | zero =>
      have h : o = some w := h
      subst h
      rfl
    | succ m =>
      rw [T.get_ns] at h
      rw [T.set_s]
      have hm : m % 4 = 0 ∨ m % 4 = 1 ∨ m % 4 = 2 ∨ m % 4 = 3 := by omega
      rcases hm with h0 | h0 | h0 | h0 <;> rw [h0] at h ⊢
      · have h : a.get (m / 4) = some w := h
        show T.n _ (shp (T.set v a (m / 4))) _ _ _ = T.n _ (shp a) _ _ _
        rw [iha _ h]
      · have h : b.get (m / 4) = some w := h
        show T.n _ _ (shp (T.set v b (m / 4))) _ _ = T.n _ _ (shp b) _ _
        rw [ihb _ h]
      · have h : c.get (m / 4) = some w := h
        show T.n _ _ _ (shp (T.set v c (m / 4))) _ = T.n _ _ _ (shp c) _
        rw [ihc _ h]
      · have h : d.get (m / 4) = some w := h
        show T.n _ _ _ _ (shp (T.set v d (m / 4))) = T.n _ _ _ _ (shp d)
        rw [ihd _ h]
theorem T.same {α : Type} : ∀ (t s : T α), shp t = shp s → (∀ k, t.get k = s.get k) → t = s := by
  intro t
  induction t with
  | e => intro s h _; cases s with | e => rfl | n => cases h
  | n o a b c d iha ihb ihc ihd =>
    intro s h hg
    cases s with
    | e => cases h
    | n o' a' b' c' d' =>
      have h : T.n _ (shp a) (shp b) (shp c) (shp d) = T.n _ (shp a') (shp b') (shp c') (shp d') := h
      injection h with _ h1 h2 h3 h4
      have g0 : o = o' := hg 0
      have ga : ∀ k, a.get k = a'.get k := fun k => by
        have := hg (4 * k + 1)
        rw [T.get_ns, T.get_ns, show 4 * k / 4 = k from by omega, show 4 * k % 4 = 0 from by omega] at this
        exact this
      have gb : ∀ k, b.get k = b'.get k := fun k => by
        have := hg (4 * k + 1 + 1)
        rw [T.get_ns, T.get_ns, show (4 * k + 1) / 4 = k from by omega, show (4 * k + 1) % 4 = 1 from by omega] at this
        exact this
      have gc : ∀ k, c.get k = c'.get k := fun k => by
        have := hg (4 * k + 2 + 1)
        rw [T.get_ns, T.get_ns, show (4 * k + 2) / 4 = k from by omega, show (4 * k + 2) % 4 = 2 from by omega] at this
        exact this
      have gd : ∀ k, d.get k = d'.get k := fun k => by
        have := hg (4 * k + 3 + 1)
        rw [T.get_ns, T.get_ns, show (4 * k + 3) / 4 = k from by omega, show (4 * k + 3) % 4 = 3 from by omega] at this
        exact this
      rw [g0, iha a' h1 ga, ihb b' h2 gb, ihc c' h3 gc, ihd d' h4 gd]

/-- What stands at one place is put anew, by what stood there. -/
def T.md {α : Type} (f : α → α) (t : T α) (k : Nat) : T α := Option.rec (motive := fun _ => T α) t (fun v => T.set (f v) t k) (t.get k)
theorem T.get_md {α : Type} (f : α → α) (t : T α) (k j : Nat) : (T.md f t k).get j = if j = k then (t.get k).map f else t.get j := by
  unfold T.md
  cases h : t.get k with
  | none =>
    by_cases hj : j = k
    · rw [if_pos hj, hj]; exact h
    · rw [if_neg hj]
  | some v =>
    show (T.set (f v) t k).get j = _
    rw [T.get_set]
    rfl
theorem T.shp_md {α : Type} (f : α → α) (t : T α) (k : Nat) : shp (T.md f t k) = shp t := by
  unfold T.md
  cases h : t.get k with
  | none => rfl
  | some v => exact shp_set (f v) v t k h
/-- Three places. -/
def md3 {α : Type} (f1 f2 f3 : α → α) (k1 k2 k3 : Nat) (t : T α) : T α := T.md f3 (T.md f2 (T.md f1 t k1) k2) k3
theorem md3_back {α : Type} {f1 f2 f3 g1 g2 g3 : α → α} {k1 k2 k3 : Nat} {t : T α} {a b c : α} (h1 : t.get k1 = some a) (h2 : t.get k2 = some b) (h3 : t.get k3 = some c) (e12 : k1 ≠ k2) (e13 : k1 ≠ k3) (e23 : k2 ≠ k3)
    (ha : f1 (g1 a) = a) (hb : f2 (g2 b) = b) (hc : f3 (g3 c) = c) : md3 f1 f2 f3 k1 k2 k3 (md3 g1 g2 g3 k1 k2 k3 t) = t := by
  apply T.same
  · unfold md3
    simp only [T.shp_md]
  · intro j
    unfold md3
    simp only [T.get_md]
    by_cases j1 : j = k1
    · subst j1
      simp [e12, e13, h1, ha]
    · by_cases j2 : j = k2
      · subst j2
        simp [j1, e23, Ne.symm e12, h2, hb]
      · by_cases j3 : j = k3
        · subst j3
          simp [j1, j2, Ne.symm e13, Ne.symm e23, h3, hc]
        · simp [j1, j2, j3]
end
end Go.AM
