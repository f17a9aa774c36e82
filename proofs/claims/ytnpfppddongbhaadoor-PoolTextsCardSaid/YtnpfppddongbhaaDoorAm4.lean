/-
  The abstract machine, part 4: when a value of it stands for a value of the model; the operations that leave memory alone.
-/
import Derived.Test.YtnpfppddongbhaaDoorAm3
import Derived.Laws.Sem
import Derived.Laws.World
import Derived.WalkKit
import Derived.WalkSpells
import Derived.WalkLawsBesides
namespace Go.AM
open Go
set_option autoImplicit false

/-- Where an abstract block lies: in which block of memory, from which cell on; how many cells that block has. -/
structure Pl where
  r : Nat
  base : Nat
  sz : Nat
  top : Nat
abbrev Rho := Nat → Option Pl

/-- When an abstract value stands for a value; when an abstract list stands for a list of values. -/
def R (ρ : Rho) : AV → (Value → Prop) × (List Value → Prop)
  | .unk => (fun _ => True, fun _ => False)
  | .bool b => (fun V => V = .bool b, fun _ => False)
  | .int c n => (fun V => ∃ k, cOf k = c ∧ V = .int k n, fun _ => False)
  | .str n x => (fun V => ∃ s : ByteArray, V = .string s ∧ s.data.size = n ∧ packB s.data.toList = x, fun _ => False)
  | .nilp => (fun V => V = .pointer none, fun _ => False)
  | .ptr b o => (fun V => ∃ p, ρ b = some p ∧ V = .pointer (some ⟨p.r, p.base + o, none⟩), fun _ => False)
  | .nils => (fun V => V = .slice none 0 0, fun _ => False)
  | .sl b o n z c => (fun V => ∃ p c', ρ b = some p ∧ V = .slice (some ⟨p.r, p.base + o, none⟩) n c' ∧ n ≤ c' ∧ ((c = none ∧ o + c' * z = p.top) ∨ c = some c') ∧ p.base + o + c' * z ≤ p.sz, fun _ => False)
  | .esl => (fun V => ∃ a c', V = .slice (some a) 0 c', fun _ => False)
  | .nili => (fun V => V = .nilIface, fun _ => False)
  | .ifc t v => (fun V => ∃ W, V = .iface t W ∧ (R ρ v).1 W, fun _ => False)
  | .nilf => (fun V => V = .nilFunc, fun _ => False)
  | .fn f a b => (fun V => ∃ l m, V = .func f l m ∧ (R ρ a).2 l.toList ∧ (R ρ b).2 m.toList, fun _ => False)
  | .nilm => (fun V => V = .map none, fun _ => False)
  | .map b => (fun V => ∃ p, ρ b = some p ∧ V = .map (some p.r), fun _ => False)
  | .agg v => (fun V => ∃ l, V = .agg l ∧ (R ρ v).2 l.toList, fun _ => False)
  | .tup v => (fun V => ∃ l, V = .tuple l ∧ (R ρ v).2 l.toList, fun _ => False)
  | .nil => (fun _ => False, fun l => l = [])
  | .cons h t => (fun _ => False, fun l => ∃ V l', l = V :: l' ∧ (R ρ h).1 V ∧ (R ρ t).2 l')

abbrev VR (ρ : Rho) (x : AV) (V : Value) : Prop := (R ρ x).1 V
abbrev LR (ρ : Rho) (x : AV) (l : List Value) : Prop := (R ρ x).2 l

/-- What is placed stays where it is. -/
def Ext (ρ ρ' : Rho) : Prop := ∀ b p, ρ b = some p → ρ' b = some p
theorem Ext.refl (ρ : Rho) : Ext ρ ρ := fun _ _ h => h
theorem Ext.trans {a b c : Rho} (h : Ext a b) (h' : Ext b c) : Ext a c := fun _ _ e => h' _ _ (h _ _ e)

theorem R_ext {ρ ρ' : Rho} (he : Ext ρ ρ') (x : AV) : (∀ V, (R ρ x).1 V → (R ρ' x).1 V) ∧ (∀ l, (R ρ x).2 l → (R ρ' x).2 l) := by
  induction x with
  | ptr b o => exact ⟨fun V ⟨p, hp, hv⟩ => ⟨p, he _ _ hp, hv⟩, fun _ h => h⟩
  | sl b o n z c => exact ⟨fun V ⟨p, c', hp, hv⟩ => ⟨p, c', he _ _ hp, hv⟩, fun _ h => h⟩
  | map b => exact ⟨fun V ⟨p, hp, hv⟩ => ⟨p, he _ _ hp, hv⟩, fun _ h => h⟩
  | ifc t v ih => exact ⟨fun V ⟨W, hw, hv⟩ => ⟨W, hw, ih.1 _ hv⟩, fun _ h => h⟩
  | fn f a b iha ihb => exact ⟨fun V ⟨l, m, hv, h1, h2⟩ => ⟨l, m, hv, iha.2 _ h1, ihb.2 _ h2⟩, fun _ h => h⟩
  | agg v ih => exact ⟨fun V ⟨l, hv, h1⟩ => ⟨l, hv, ih.2 _ h1⟩, fun _ h => h⟩
  | tup v ih => exact ⟨fun V ⟨l, hv, h1⟩ => ⟨l, hv, ih.2 _ h1⟩, fun _ h => h⟩
  | cons h t ihh iht => exact ⟨fun _ h => h, fun l ⟨V, l', hl, h1, h2⟩ => ⟨V, l', hl, ihh.1 _ h1, iht.2 _ h2⟩⟩
  | _ => exact ⟨fun _ h => h, fun _ h => h⟩
theorem VR.ext {ρ ρ' : Rho} (he : Ext ρ ρ') {x : AV} {V : Value} (h : VR ρ x V) : VR ρ' x V := (R_ext he x).1 V h
theorem LR.ext {ρ ρ' : Rho} (he : Ext ρ ρ') {x : AV} {l : List Value} (h : LR ρ x l) : LR ρ' x l := (R_ext he x).2 l h

theorem LR_len {ρ : Rho} : ∀ (x : AV) (l : List Value), LR ρ x l → len x = l.length := by
  intro x
  induction x with
  | nil => intro l h; have h : l = [] := h; subst h; rfl
  | cons h t _ ih => intro l hl; obtain ⟨V, l', rfl, _, h2⟩ := hl; exact congrArg Nat.succ (ih _ h2)
  | _ => intro l h; exact h.elim

theorem LR_nth {ρ : Rho} : ∀ (x : AV) (l : List Value) (i : Nat), LR ρ x l → nth x i ≠ .unk → ∃ V, l[i]? = some V ∧ VR ρ (nth x i) V := by
  intro x
  induction x with
  | cons h t _ ih =>
    intro l i hl hn; obtain ⟨V, l', rfl, h1, h2⟩ := hl
    cases i with
    | zero => exact ⟨V, rfl, h1⟩
    | succ i => exact ih l' i h2 hn
  | _ => intro l i h hn; exact absurd rfl hn

theorem LR_app {ρ : Rho} : ∀ (x y : AV) (l m : List Value), LR ρ x l → LR ρ y m → LR ρ (app x y) (l ++ m) := by
  intro x
  induction x with
  | nil => intro y l m h hm; have h : l = [] := h; subst h; exact hm
  | cons h t _ ih => intro y l m hl hm; obtain ⟨V, l', rfl, h1, h2⟩ := hl; exact ⟨V, l' ++ m, rfl, h1, ih y l' m h2 hm⟩
  | _ => intro y l m h; exact h.elim

theorem one_cell {ρ : Rho} {x : AV} {V : Value} (h : VR ρ x V) (ho : one x = true) : V.oneCell' = true := by
  cases x <;> simp only [VR, R] at h <;> first
    | (have : False := by simp [one] at ho
       exact this.elim)
    | (subst h; rfl)
    | (obtain ⟨_, _, rfl⟩ := h; rfl)
    | (obtain ⟨_, rfl, _⟩ := h; rfl)
    | (obtain ⟨_, _, rfl, _⟩ := h; rfl)
    | (obtain ⟨_, _, _, rfl, _⟩ := h; rfl)
    | (obtain ⟨_, _, rfl⟩ := h; rfl)

theorem cells_one {ρ : Rho} {x : AV} {V : Value} (h : VR ρ x V) (ho : one x = true) : V.cells = #[V] := by
  have := one_cell h ho
  cases V <;> first | rfl | simp [Value.oneCell'] at this

theorem cells_rel {ρ : Rho} {x : AV} {V : Value} (h : VR ρ x V) (hx : x ≠ .unk) : LR ρ (cells x) V.cells.toList := by
  cases x with
  | agg v => obtain ⟨l, rfl, h1⟩ := h; exact h1
  | unk => exact absurd rfl hx
  | tup v => obtain ⟨l, rfl, h1⟩ := h; exact ⟨_, [], rfl, ⟨l, rfl, h1⟩, rfl⟩
  | nil => exact h.elim
  | cons => exact h.elim
  | _ => exact ⟨V, [], congrArg Array.toList (cells_one h rfl), h, rfl⟩

theorem cB_inv {x : AV} {k : _} {r : Res} (h : cB x k = r) (hr : r ≠ .fail) : ∃ b, x = .bool b ∧ k b = r := by
  cases x <;> first | exact ⟨_, rfl, h⟩ | exact absurd h.symm hr

theorem cI_inv {x : AV} {k : _} {r : Res} (h : cI x k = r) (hr : r ≠ .fail) : ∃ c n, x = .int c n ∧ k c n = r := by
  cases x <;> first | exact ⟨_, _, rfl, h⟩ | exact absurd h.symm hr

theorem cS_inv {x : AV} {k : _} {r : Res} (h : cS x k = r) (hr : r ≠ .fail) : ∃ n y, x = .str n y ∧ k n y = r := by
  cases x <;> first | exact ⟨_, _, rfl, h⟩ | exact absurd h.symm hr

theorem cP_inv {x : AV} {k : _} {r : Res} (h : cP x k = r) (hr : r ≠ .fail) : ∃ b o, x = .ptr b o ∧ k b o = r := by
  cases x <;> first | exact ⟨_, _, rfl, h⟩ | exact absurd h.symm hr

theorem cL_inv {x : AV} {k : _} {r : Res} (h : cL x k = r) (hr : r ≠ .fail) : ∃ b o n z c, x = .sl b o n z c ∧ k b o n z c = r := by
  cases x <;> first | exact ⟨_, _, _, _, _, rfl, h⟩ | exact absurd h.symm hr

theorem cA_inv {x : AV} {k : _} {r : Res} (h : cA x k = r) (hr : r ≠ .fail) : ∃ v, x = .agg v ∧ k v = r := by
  cases x <;> first | exact ⟨_, rfl, h⟩ | exact absurd h.symm hr

theorem cT_inv {x : AV} {k : _} {r : Res} (h : cT x k = r) (hr : r ≠ .fail) : ∃ v, x = .tup v ∧ k v = r := by
  cases x <;> first | exact ⟨_, rfl, h⟩ | exact absurd h.symm hr

theorem cIfc_inv {x : AV} {k : _} {r : Res} (h : cIfc x k = r) (hr : r ≠ .fail) : ∃ t v, x = .ifc t v ∧ k t v = r := by
  cases x <;> first | exact ⟨_, _, rfl, h⟩ | exact absurd h.symm hr

theorem cFn_inv {x : AV} {k : _} {r : Res} (h : cFn x k = r) (hr : r ≠ .fail) : ∃ f a b, x = .fn f a b ∧ k f a b = r := by
  cases x <;> first | exact ⟨_, _, _, rfl, h⟩ | exact absurd h.symm hr

theorem cMap_inv {x : AV} {k : _} {r : Res} (h : cMap x k = r) (hr : r ≠ .fail) : ∃ b, x = .map b ∧ k b = r := by
  cases x <;> first | exact ⟨_, rfl, h⟩ | exact absurd h.symm hr

theorem cK_inv {x : AV} {k : AV → Res} {r : Res} (h : cK x k = r) (hr : r ≠ .fail) : x ≠ .unk ∧ k x = r := by
  cases x <;> first | exact absurd h.symm hr | exact ⟨by simp, h⟩
theorem ifB_inv {b : Bool} {x y r : Res} (h : ifB b x y = r) : (b = true ∧ x = r) ∨ (b = false ∧ y = r) := by
  cases b
  · exact .inr ⟨rfl, h⟩
  · exact .inl ⟨rfl, h⟩
theorem ifF_inv {b : Bool} {x r : Res} (h : ifB b x .fail = r) (hr : r ≠ .fail) : b = true ∧ x = r := by
  rcases ifB_inv h with h | h
  · exact h
  · exact absurd h.2.symm hr
theorem ifT_inv {b : Bool} {x r : Res} (h : ifB b .fail x = r) (hr : r ≠ .fail) : b = false ∧ x = r := by
  rcases ifB_inv h with h | h
  · exact absurd h.2.symm hr
  · exact h
theorem sif_inv {b : Bool} {x r : Res} (h : sif b x .fail = r) (hr : r ≠ .fail) : b = true ∧ x = r := ifF_inv h hr
theorem sifT_inv {b : Bool} {x r : Res} (h : sif b .fail x = r) (hr : r ≠ .fail) : b = false ∧ x = r := ifT_inv h hr
theorem uc_inv {vs : List AV} {k : AV → List AV → Res} {r : Res} (h : uc vs k = r) (hr : r ≠ .fail) : ∃ v t, vs = v :: t ∧ k v t = r := by
  cases vs with
  | nil => exact absurd h.symm hr
  | cons v t => exact ⟨v, t, rfl, h⟩
theorem uz_inv {vs : List AV} {x r : Res} (h : uz vs x = r) (hr : r ≠ .fail) : vs = [] ∧ x = r := by
  cases vs with
  | nil => exact ⟨rfl, h⟩
  | cons v t => exact absurd h.symm hr
theorem bin2_inv {x y : AV} {k : Nat → Int → Int → Res} {r : Res} (h : bin2 x y k = r) (hr : r ≠ .fail) : ∃ c a b, x = .int c a ∧ y = .int c b ∧ k c a b = r := by
  obtain ⟨c, a, e1, h1⟩ := cI_inv h hr
  obtain ⟨c', b, e2, h2⟩ := cI_inv h1 hr
  obtain ⟨e, h3⟩ := ifF_inv h2 hr
  rw [beq_iff] at e
  subst e
  exact ⟨c, a, b, e1, e2, h3⟩
theorem natC_inv {k : Nat → Res} {n : Int} {r : Res} (h : Int.rec (motive := fun _ => Res) k (fun _ => .fail) n = r) (hr : r ≠ .fail) : ∃ m : Nat, n = (m : Int) ∧ k m = r := by
  cases n with
  | ofNat m => exact ⟨m, rfl, h⟩
  | negSucc m => exact absurd h.symm hr

/-! ### operations that only compute: 'Pur': run in whatever world, the operation answers a value that v stands for, and the world stays -/
def Pur (P : Program) (ρ : Rho) (s : Sem Value) (v : AV) : Prop := ∃ V, VR ρ v V ∧ ∀ w, s.run P w = .ok V w

theorem packB_lt : ∀ l : List UInt8, packB l < 256 ^ l.length := by
  intro l
  induction l with
  | nil => exact Nat.one_pos
  | cons b l ih =>
    have h : packB (b :: l) = b.toNat + 256 * packB l := rfl
    have := b.toNat_lt
    rw [h, List.length_cons, Nat.pow_succ]; omega

theorem packB_inj : ∀ l m : List UInt8, l.length = m.length → packB l = packB m → l = m := by
  intro l
  induction l with
  | nil => intro m hl _; exact (List.eq_nil_of_length_eq_zero hl.symm).symm
  | cons b l ih =>
    intro m hl hp
    cases m with
    | nil => simp at hl
    | cons c m =>
      have h1 : packB (b :: l) = b.toNat + 256 * packB l := rfl
      have h2 : packB (c :: m) = c.toNat + 256 * packB m := rfl
      have hb := b.toNat_lt
      have hc := c.toNat_lt
      rw [h1, h2] at hp
      have e1 : b = c := UInt8.toNat_inj.1 (by omega)
      have e2 := ih m (by simpa using hl) (by omega)
      rw [e1, e2]

theorem sEq_eq (a b : ByteArray) : sEq a.data.size (packB a.data.toList) b.data.size (packB b.data.toList) = (a.toList == b.toList) := by
  have h : sEq a.data.size (packB a.data.toList) b.data.size (packB b.data.toList) = Bool.rec (motive := fun _ => Bool) false (Nat.beq (packB a.data.toList) (packB b.data.toList)) (Nat.beq a.data.size b.data.size) := rfl
  rw [h, recB, Bool.eq_iff_iff]
  simp only [beq_iff, ByteArray.toList_eq, beq_iff_eq]
  constructor
  · intro h
    split at h
    · rename_i hs
      exact packB_inj _ _ (by simpa using hs) (by rwa [beq_iff] at h)
    · cases h
  · intro h
    have hs : a.data.size = b.data.size := by have := congrArg List.length h; simpa using this
    rw [if_pos hs, beq_iff, h]

theorem packB_append (l m : List UInt8) : packB (l ++ m) = packB l + packB m * 2 ^ (8 * l.length) := by
  induction l with
  | nil => have : packB [] = 0 := rfl; simp [this]
  | cons b l ih =>
    have h : packB (b :: (l ++ m)) = b.toNat + 256 * packB (l ++ m) := rfl
    have h2 : packB (b :: l) = b.toNat + 256 * packB l := rfl
    have e : 2 ^ (8 * (l.length + 1)) = 256 * 2 ^ (8 * l.length) := by rw [Nat.mul_add, Nat.pow_add, Nat.mul_comm]
    rw [List.cons_append, h, ih, h2, List.length_cons, e, Nat.mul_add, Nat.mul_left_comm]; omega

theorem packB_drop (l : List UInt8) : ∀ i, packB (l.drop i) = packB l / 2 ^ (8 * i) := by
  induction l with
  | nil => intro i; have : packB [] = 0 := rfl; simp [this]
  | cons b l ih =>
    intro i
    cases i with
    | zero => simp
    | succ i =>
      have h2 : packB (b :: l) = b.toNat + 256 * packB l := rfl
      have hb := b.toNat_lt
      have e : 2 ^ (8 * (i + 1)) = 256 * 2 ^ (8 * i) := by rw [Nat.mul_add, Nat.pow_add, Nat.mul_comm]
      rw [List.drop_succ_cons, ih, h2, e, ← Nat.div_div_eq_div_mul]
      congr 1; omega

theorem packB_take (l : List UInt8) : ∀ i, i ≤ l.length → packB (l.take i) = packB l % 2 ^ (8 * i) := by
  intro i hi
  have h := packB_append (l.take i) (l.drop i)
  rw [List.take_append_drop, List.length_take, Nat.min_eq_left hi] at h
  have hlt := packB_lt (l.take i)
  rw [List.length_take, Nat.min_eq_left hi] at hlt
  have e : 256 ^ i = 2 ^ (8 * i) := by rw [Nat.pow_mul]
  rw [e] at hlt
  rw [h, Nat.add_mul_mod_self_right, Nat.mod_eq_of_lt hlt]

theorem byteAt_eq (l : List UInt8) (i : Nat) (h : i < l.length) : byteAt (packB l) i = (l[i]).toNat := by
  have hu : byteAt (packB l) i = (packB l >>> (8 * i)) % 256 := rfl
  rw [hu, Nat.shiftRight_eq_div_pow, ← packB_drop]
  rw [List.drop_eq_getElem_cons h]
  have h2 : packB (l[i] :: l.drop (i + 1)) = l[i].toNat + 256 * packB (l.drop (i + 1)) := rfl
  have hb := (l[i]).toNat_lt
  rw [h2]; omega

section
variable {P : Program} {ρ : Rho} {x y : AV} {X Y : Value} {k : AV → Res} {r : Res}

theorem cOf_k {c : Nat} {k1 k2 : IntKind} (h1 : cOf k1 = c) (h2 : cOf k2 = c) : k1 = k2 := cOf_inj _ _ (h1.trans h2.symm)

theorem eqG_run (op : BinOp) (t : TypeId) (xo yo : Operand) (w : World) (hX : ∀ z, X ≠ .agg z) (hn : X ≠ .nilIface) : (eqGuard op t xo yo X Y).run P w = .ok () w := by
  unfold eqGuard
  cases op <;> simp only [Bool.not_true, Bool.not_false, if_true, Bool.false_eq_true, if_false] <;> first
    | rfl
    | (cases X <;> first | rfl | exact absurd rfl (hX _) | exact absurd rfl hn)

theorem pur_of {s : Sem Value} {v : AV} {V : Value} (hv : VR ρ v V) (h : s = Pure.pure V) : Pur P ρ s v := ⟨V, hv, fun w => by rw [h]; rfl⟩

theorem int2 {c : Nat} {a b : Int} (hx : VR ρ (.int c a) X) (hy : VR ρ (.int c b) Y) : ∃ kd, cOf kd = c ∧ X = .int kd a ∧ Y = .int kd b := by
  obtain ⟨k1, e1, rfl⟩ := hx
  obtain ⟨k2, e2, rfl⟩ := hy
  exact ⟨k1, e1, rfl, by rw [cOf_k e1 e2]⟩

theorem iAdd_pur (t : TypeId) (h : iAdd x y k = r) (hr : r ≠ .fail) (hx : VR ρ x X) (hy : VR ρ y Y) : ∃ v, k v = r ∧ Pur P ρ (binOp .add t X Y) v := by
  obtain ⟨c, a, b, rfl, rfl, h1⟩ := bin2_inv h hr
  obtain ⟨kd, rfl, rfl, rfl⟩ := int2 hx hy
  exact ⟨_, h1, pur_of ⟨kd, rfl, rfl⟩ (by rw [binOp_add, wrapC_eq]; rfl)⟩
theorem iSub_pur (t : TypeId) (h : iSub x y k = r) (hr : r ≠ .fail) (hx : VR ρ x X) (hy : VR ρ y Y) : ∃ v, k v = r ∧ Pur P ρ (binOp .sub t X Y) v := by
  obtain ⟨c, a, b, rfl, rfl, h1⟩ := bin2_inv h hr
  obtain ⟨kd, rfl, rfl, rfl⟩ := int2 hx hy
  exact ⟨_, h1, pur_of ⟨kd, rfl, rfl⟩ (by rw [binOp_sub, wrapC_eq]; rfl)⟩
theorem iMul_pur (t : TypeId) (h : iMul x y k = r) (hr : r ≠ .fail) (hx : VR ρ x X) (hy : VR ρ y Y) : ∃ v, k v = r ∧ Pur P ρ (binOp .mul t X Y) v := by
  obtain ⟨c, a, b, rfl, rfl, h1⟩ := bin2_inv h hr
  obtain ⟨kd, rfl, rfl, rfl⟩ := int2 hx hy
  exact ⟨_, h1, pur_of ⟨kd, rfl, rfl⟩ (by rw [binOp_mul, wrapC_eq]; rfl)⟩
theorem iQuo_pur (t : TypeId) (h : iQuo x y k = r) (hr : r ≠ .fail) (hx : VR ρ x X) (hy : VR ρ y Y) : ∃ v, k v = r ∧ Pur P ρ (binOp .quo t X Y) v := by
  obtain ⟨c, a, b, rfl, rfl, h1⟩ := bin2_inv h hr
  obtain ⟨kd, rfl, rfl, rfl⟩ := int2 hx hy
  obtain ⟨h0, h2⟩ := ifT_inv h1 hr
  rw [eqI_eq] at h0
  have hb : b ≠ 0 := by simpa using h0
  exact ⟨_, h2, pur_of ⟨kd, rfl, rfl⟩ (by rw [binOp_quo, wrapC_eq]; simp [Op.intDiv, hb])⟩
theorem iRem_pur (t : TypeId) (h : iRem x y k = r) (hr : r ≠ .fail) (hx : VR ρ x X) (hy : VR ρ y Y) : ∃ v, k v = r ∧ Pur P ρ (binOp .rem t X Y) v := by
  obtain ⟨c, a, b, rfl, rfl, h1⟩ := bin2_inv h hr
  obtain ⟨kd, rfl, rfl, rfl⟩ := int2 hx hy
  obtain ⟨h0, h2⟩ := ifT_inv h1 hr
  rw [eqI_eq] at h0
  have hb : b ≠ 0 := by simpa using h0
  exact ⟨_, h2, pur_of ⟨kd, rfl, rfl⟩ (by rw [binOp_rem]; simp [Op.intDiv, hb])⟩
theorem iAnd_pur (t : TypeId) (h : iAnd x y k = r) (hr : r ≠ .fail) (hx : VR ρ x X) (hy : VR ρ y Y) : ∃ v, k v = r ∧ Pur P ρ (binOp .and t X Y) v := by
  obtain ⟨c, a, b, rfl, rfl, h1⟩ := bin2_inv h hr
  obtain ⟨kd, rfl, rfl, rfl⟩ := int2 hx hy
  exact ⟨_, h1, pur_of ⟨kd, rfl, rfl⟩ (by rw [binOp_and, and_ok]; rfl)⟩
theorem iOr_pur (t : TypeId) (h : iOr x y k = r) (hr : r ≠ .fail) (hx : VR ρ x X) (hy : VR ρ y Y) : ∃ v, k v = r ∧ Pur P ρ (binOp .or t X Y) v := by
  obtain ⟨c, a, b, rfl, rfl, h1⟩ := bin2_inv h hr
  obtain ⟨kd, rfl, rfl, rfl⟩ := int2 hx hy
  exact ⟨_, h1, pur_of ⟨kd, rfl, rfl⟩ (by rw [binOp_or, or_ok]; rfl)⟩
theorem iXor_pur (t : TypeId) (h : iXor x y k = r) (hr : r ≠ .fail) (hx : VR ρ x X) (hy : VR ρ y Y) : ∃ v, k v = r ∧ Pur P ρ (binOp .xor t X Y) v := by
  obtain ⟨c, a, b, rfl, rfl, h1⟩ := bin2_inv h hr
  obtain ⟨kd, rfl, rfl, rfl⟩ := int2 hx hy
  exact ⟨_, h1, pur_of ⟨kd, rfl, rfl⟩ (by rw [binOp_xor, xor_ok]; rfl)⟩
theorem iAndNot_pur (t : TypeId) (h : iAndNot x y k = r) (hr : r ≠ .fail) (hx : VR ρ x X) (hy : VR ρ y Y) : ∃ v, k v = r ∧ Pur P ρ (binOp .andNot t X Y) v := by
  obtain ⟨c, a, b, rfl, rfl, h1⟩ := bin2_inv h hr
  obtain ⟨kd, rfl, rfl, rfl⟩ := int2 hx hy
  exact ⟨_, h1, pur_of ⟨kd, rfl, rfl⟩ (by rw [binOp_andNot]; have e := andNot_ok kd a b; exact (congrArg (fun n => (Pure.pure (Value.int kd n) : Sem Value)) e).symm)⟩

theorem cSh_inv {kd : IntKind} {n : Int} {f : Nat → Res} (h : cSh (cOf kd) n f = r) (hr : r ≠ .fail) : 0 ≤ n ∧ f (min n.toNat kd.bits) = r := by
  cases n with
  | negSucc m => exact absurd h.symm hr
  | ofNat m =>
    have h1 : f (Bool.rec (motive := fun _ => Nat) (bitsC (cOf kd)) m (Nat.ble m (bitsC (cOf kd)))) = r := h
    rw [recB, bitsC_eq] at h1
    simp only [ble_iff] at h1
    refine ⟨Int.natCast_nonneg m, ?_⟩
    have e : (Int.ofNat m).toNat = m := rfl
    rw [e]
    have e2 : min m kd.bits = if m ≤ kd.bits then m else kd.bits := by split <;> omega
    rw [e2]; exact h1
theorem iShl_pur (t : TypeId) (h : iShl x y k = r) (hr : r ≠ .fail) (hx : VR ρ x X) (hy : VR ρ y Y) : ∃ v, k v = r ∧ Pur P ρ (binOp .shl t X Y) v := by
  obtain ⟨c, a, rfl, h1⟩ := cI_inv h hr
  obtain ⟨d, b, rfl, h2⟩ := cI_inv h1 hr
  obtain ⟨kd, rfl, rfl⟩ := hx
  obtain ⟨ke, rfl, rfl⟩ := hy
  obtain ⟨h0, h3⟩ := cSh_inv h2 hr
  refine ⟨_, h3, pur_of ⟨kd, rfl, rfl⟩ ?_⟩
  rw [binOp_shl, wrapC_eq]
  have e : Int.ofNat (Nat.pow 2 (min b.toNat kd.bits)) = (2 : Int) ^ (min b.toNat kd.bits) := by simp [Nat.pow_eq]
  rw [e]
  simp [Op.shift, show ¬ b < 0 from by omega]
theorem iShr_pur (t : TypeId) (h : iShr x y k = r) (hr : r ≠ .fail) (hx : VR ρ x X) (hy : VR ρ y Y) : ∃ v, k v = r ∧ Pur P ρ (binOp .shr t X Y) v := by
  obtain ⟨c, a, rfl, h1⟩ := cI_inv h hr
  obtain ⟨d, b, rfl, h2⟩ := cI_inv h1 hr
  obtain ⟨kd, rfl, rfl⟩ := hx
  obtain ⟨ke, rfl, rfl⟩ := hy
  obtain ⟨h0, h3⟩ := cSh_inv h2 hr
  refine ⟨_, h3, pur_of ⟨kd, rfl, rfl⟩ ?_⟩
  rw [binOp_shr, shr_ok]
  simp [Op.shift, show ¬ b < 0 from by omega]
theorem iNeg_pur (h : iNeg x k = r) (hr : r ≠ .fail) (hx : VR ρ x X) : ∃ v, k v = r ∧ Pur P ρ (Op.unary .neg X) v := by
  obtain ⟨c, a, rfl, h1⟩ := cI_inv h hr
  obtain ⟨kd, rfl, rfl⟩ := hx
  exact ⟨_, h1, pur_of ⟨kd, rfl, rfl⟩ (by rw [wrapC_eq]; rfl)⟩
theorem iNot_pur (h : iNot x k = r) (hr : r ≠ .fail) (hx : VR ρ x X) : ∃ v, k v = r ∧ Pur P ρ (Op.unary .xor X) v := by
  obtain ⟨c, a, rfl, h1⟩ := cI_inv h hr
  obtain ⟨kd, rfl, rfl⟩ := hx
  exact ⟨_, h1, pur_of ⟨kd, rfl, rfl⟩ (by have e := not_ok kd a; exact (congrArg (fun n => (Pure.pure (Value.int kd n) : Sem Value)) e).symm)⟩
theorem bNot_pur (h : bNot x k = r) (hr : r ≠ .fail) (hx : VR ρ x X) : ∃ v, k v = r ∧ Pur P ρ (Op.unary .not X) v := by
  obtain ⟨b, rfl, h1⟩ := cB_inv h hr
  have hx : X = .bool b := hx
  subst hx
  exact ⟨_, h1, pur_of rfl (by rw [bnot_eq]; rfl)⟩
end
end Go.AM
