/-
  The law of what is printed beyond the bound: its run up to the loop, memory behind any number of rounds, one round; and that the loop goes so.
-/
import Derived.Test.YtbkkfmjofmfijaaGreatDoorFe
import Derived.KernelRfl
set_option linter.unusedVariables false
set_option linter.unusedSimpArgs false
namespace Go.Proofs.YtbkkfmjofmfijaaGreatDoor
open Go Go.AM
set_option autoImplicit false
set_option maxRecDepth 100000
noncomputable section
def b7TP (s8 s10 s16 s19 s20 s22 s27 s29 s30 s31 : Fun) (a : AV) (b : AV) (c : Hp) : Res := blk 0 (lp (L7n0 s8 s10 s16 s19 s20 s22 s27 s29 s30 s31) most [a, b, (.str 0 0), (I 0)] c) fun a b => uc a fun a c => uc c fun c d => uc d fun d _ => cl (s19 [] b) fun b f => cl (s27 [b] f) fun f g => cl (s29 [b, d] g) fun d g => cl (s31 [b, (.str 18 5174820716358828607022171764334454026365516)] g) fun g h => bld [(false, 1, (J 167)), (false, 1, (J 255)), (false, 1, (J 247))] fun i => mkS h 1 3 i fun h i => bld [(false, 1, f), (false, 1, d), (false, 1, g), (false, 1, h)] fun d => mkS i 1 4 d fun d f => cl (s10 [d] f) fun d f => bld [(false, 1, (J 0)), (false, 1, (J 1)), (false, 1, (J 0))] fun g => mkS f 1 3 g fun f g => cl (s16 [b, (I 9), (.str 2 28519), (.str 3 5646632), (I 2), (I 0), d, .nils, f] g) fun _ d => bld [(false, 1, b)] fun b => mkS d 1 1 b fun b d => cl (s20 [b] d) fun b d => .exit 99 [b, (.str 2 28519), (I 100000), .nils] d
def s7TP (a : AV) (b : AV) (c : Hp) : Res := b7TP s8 s10 s16 s19 s20 s22 s27 s29 s30 s31 a b c
def b22P (s36 : Fun) : Fun := fun a b => uc a fun a c => uc c fun c d => uc d fun d f => uc f fun f g => uz g (mk b (.cons (I 0) (.cons (I 0) (.cons (J 0) (.cons (I 0) (.cons (.str 0 0) (.cons (.str 0 0) (.cons (.bool false) (.cons (I 0) (.cons .nils (.cons (I 0) (.cons (I 0) .nil))))))))))) fun b g => nl 0 g a fun a => bld [(false, 1, (I 2)), (false, 1, (.str 1 77)), (false, 1, .nils), (false, 1, c), (false, 1, f), (false, 1, d)] fun c => .exit 99 [a, (.agg c), b] g)
def s22P : Fun := b22P s36
def b36P (s43 s44 s45 s46 s47 : Fun) : Fun := fun a b => uc a fun a c => uc c fun c d => uz d (mk b (cells c) fun b c => mk c (.cons (I 0) (.cons (I 0) (.cons (J 0) (.cons (I 0) (.cons (.str 0 0) (.cons (.str 0 0) (.cons (.bool false) (.cons (I 0) (.cons .nils (.cons (I 0) (.cons (I 0) .nil))))))))))) fun c d => eqP a .nilp fun f => ifB f (.fail) (fl 0 d b fun f => blk 0 (eqN f (I 1) fun g => ifB g (nl 0 d a fun a => fl 1 d b fun f => fl 2 d b fun b => cl (s43 [a, f, b] d) fun a b => bld [(false, 1, a), (false, 1, (I 0)), (false, 1, (J 0)), (false, 1, (I 0)), (false, 1, (.str 0 0)), (false, 1, (.str 0 0)), (false, 1, (.bool false)), (false, 1, (I 0)), (false, 1, .nils), (false, 1, (I 0)), (false, 1, (I 0))] fun a => stN b 11 c (.agg a) fun a => ldN a 11 c fun b => .ret b a) (eqN f (I 2) fun g => ifB g (nl 1 d a fun a => fl 1 d b fun f => fl 3 d b fun g => fl 4 d b fun h => fl 5 d b fun b => .exit 99 [a, f, g, h, b, c] d) (eqN f (I 3) fun b => ifB b (nl 1 d a fun b => na 1 a fun f => ld1 d f fun g => na 1 a fun a => ld1 d a fun h => cl (s45 [b] d) fun b d => ld1 d a fun i => same h i (ld1 d f fun f => same g f (cl (s46 [g] d) fun d f => ld1 f a fun a => same h a (cl (s47 [h] f) fun a f => bld [(false, 1, (I 0)), (false, 1, (I 0)), (false, 1, (J 0)), (false, 1, (I 0)), (false, 1, (.str 0 0)), (false, 1, (.str 0 0)), (false, 1, (.bool false)), (false, 1, (I 0)), (false, 1, b), (false, 1, d), (false, 1, a)] fun a => stN f 11 c (.agg a) fun a => ldN a 11 c fun b => .ret b a)))) (.norm [c] d)))) fun a b => uc a fun a _ => bld [(false, 1, (I 1)), (false, 1, (I 5)), (false, 1, (J 0)), (false, 1, (I 0)), (false, 1, (.str 0 0)), (false, 1, (.str 0 0)), (false, 1, (.bool false)), (false, 1, (I 0)), (false, 1, .nils), (false, 1, (I 0)), (false, 1, (I 0))] fun c => stN b 11 a (.agg c) fun b => ldN b 11 a fun a => .ret a b))
def s36P : Fun := b36P s43 s44 s45 s46 s47
def b44P (s59 s60 s61 : Fun) : Fun := fun a b => uc a fun a c => uc c fun c d => uc d fun d f => uc f fun f g => uc g fun g h => uz h (mk b (.cons (I 0) (.cons (I 0) (.cons (J 0) (.cons (I 0) (.cons (.str 0 0) (.cons (.str 0 0) (.cons (.bool false) (.cons (I 0) (.cons .nils (.cons (I 0) (.cons (I 0) .nil))))))))))) fun b h => cl (s59 [a, c, d, f, g] h) fun c d => mk d (.cons (I 0) (.cons (I 0) (.cons (J 0) (.cons (I 0) (.cons (.str 0 0) (.cons (.str 0 0) (.cons (.bool false) (.cons (I 0) (.cons .nils (.cons (I 0) (.cons (I 0) .nil))))))))))) fun d f => stN f 11 d c fun c => fl 1 c d fun d => eqN d (I 5) fun d => ifB d (.fail) (.exit 99 [a, b] c))
def s44P : Fun := b44P s59 s60 s61
def b44J (s59 s60 s61 : Fun) (jf : Nat → Fun) : Fun := fun a b => (fun b0 => uc a fun a c => uc c fun c d => uc d fun d f => uc f fun f g => uc g fun g h => uz h (mk b (.cons (I 0) (.cons (I 0) (.cons (J 0) (.cons (I 0) (.cons (.str 0 0) (.cons (.str 0 0) (.cons (.bool false) (.cons (I 0) (.cons .nils (.cons (I 0) (.cons (I 0) .nil))))))))))) fun b h => cl (s59 [a, c, d, f, g] h) fun c d => mk d (.cons (I 0) (.cons (I 0) (.cons (J 0) (.cons (I 0) (.cons (.str 0 0) (.cons (.str 0 0) (.cons (.bool false) (.cons (I 0) (.cons .nils (.cons (I 0) (.cons (I 0) .nil))))))))))) fun d f => stN f 11 d c fun c => fl 1 c d fun d => eqN d (I 5) fun d => ifB d (.fail) (blk 0 (jf b0 [a, b] c) fun a b => uc a fun a c => uc c fun c _ => cl (s61 [a] b) fun a b => cT a fun d => cK (nth d 0) fun d => cT a fun a => cK (nth a 1) fun _ => mk b (.cons (I 0) (.cons (I 0) (.cons (J 0) (.cons (I 0) (.cons (.str 0 0) (.cons (.str 0 0) (.cons (.bool false) (.cons (I 0) (.cons .nils (.cons (I 0) (.cons (I 0) .nil))))))))))) fun a b => stN b 11 a d fun b => ldN b 11 a fun a => stN b 11 c a fun a => ldN a 11 c fun b => .ret b a))) b.nb
def ex (r : Res) (k : List AV → Hp → Res) : Res := Res.rec (motive := fun _ => Res) .fail (fun _ _ => .fail) (fun _ vs h => k vs h) (fun _ _ => .fail) (fun p _ ih => Bool.rec (motive := fun _ => Res) .fail ih p) r
def hOf (r : Res) : Hp := Res.rec (motive := fun _ => Hp) H0 (fun _ h => h) (fun _ _ h => h) (fun _ h => h) (fun _ _ ih => ih) r
def vOf (r : Res) : List AV := Res.rec (motive := fun _ => List AV) [] (fun vs _ => vs) (fun _ vs _ => vs) (fun _ _ => []) (fun _ _ ih => ih) r
def body44 : List AV → Hp → Res := L44n0 s59 s60 s61
def bk (v : AV) : Nat := AV.rec (motive := fun _ => Nat) 0 (fun _ => 0) (fun _ _ => 0) (fun _ _ => 0) 0 (fun b _ => b) 0 (fun b _ _ _ _ => b) 0 0 (fun _ _ _ => 0) 0 (fun _ _ _ _ _ => 0) 0 (fun b => b) (fun _ _ => 0) (fun _ _ => 0) 0 (fun _ _ _ _ => 0) v
def cg (h : Hp) (b o : Nat) : AV := Option.rec (motive := fun _ => AV) .unk (fun B => B.at o) (h.bs.get b)
def hd1 (l : List AV) : AV := List.rec (motive := fun _ => AV) .unk (fun v _ _ => v) l
/-- The rows that are laid anew in each round: the stack's two, and what was printed. -/
def nf (vs : List AV) (h : Hp) : List Nat := [bk (cg h (bk (cg h (bk (hd1 vs)) 5)) 0), bk (cg h (bk (cg h (bk (hd1 vs)) 5)) 1), bk (cg h (bk (cg h (bk (hd1 vs)) 4)) 4)]
def rfL (l : List AV) : List Nat := List.rec (motive := fun _ => List Nat) [] (fun v _ ih => refs v ih) l
def wo (N : List Nat) (l : List Nat) : List Nat := List.rec (motive := fun _ => List Nat) [] (fun b _ ih => Bool.rec (motive := fun _ => List Nat) ih (b :: ih) (allL (fun x => bnot (Nat.beq x b)) N)) l
/-- The run up to its loop and two rounds more. -/
def pr (n : Nat) : Res := ex (s7TP (.int 63 (.ofNat n)) (.bool true) H0) fun a h => uc a fun t _ => ex (s22P a h) fun a h => uc a fun x a => uc a fun y a => uc a fun bb _ => ex (s36P [x, y] h) fun a h => uc a fun p1 a => uc a fun p2 a => uc a fun p3 a => uc a fun p4 a => uc a fun p5 a => uc a fun cc _ => ex (s44P [p1, p2, p3, p4, p5] h) fun vs h => uc vs fun m vs => uc vs fun an _ => jn (it body44 8 [m, an] h) fun vs h => .norm (List.append vs [cc, bb, t]) h
def two (l : List AV) : List AV := List.rec (motive := fun _ => List AV) [] (fun a l _ => List.rec (motive := fun _ => List AV) [a] (fun b _ _ => [a, b]) l) l
def oc4 : Oc := ⟨[false, false, false, false, false], .unk⟩
def nu (n : Nat) : Nat := (hOf (pr n)).nb
def kM (n : Nat) : List Nat × List Nat := live (hOf (pr n)) 100000 (rfL (vOf (pr n))) .e [] []
def kK (n : Nat) : List Nat := wo (nf (vOf (pr n)) (hOf (pr n))) (kM n).1
def h0 (n : Nat) : Hp := reH (nu n) (nf (vOf (pr n)) (hOf (pr n))) (Nat.add (nu n) 2) (Nat.succ n) (kK n) (kM n).2 oc4 (hOf (pr n))
def v0 (n : Nat) : List AV := (two (vOf (pr n))).map (rn (sg (nu n) (nf (vOf (pr n)) (hOf (pr n)))))
def enc (l : List Nat) : Nat := List.rec (motive := fun _ => Nat) 0 (fun x _ ih => Nat.add x (Nat.mul 100000 ih)) l
def stC (o : Nat) (v : AV) (B : Blk) : Blk := Blk.rec (motive := fun _ => Blk) (fun fr g lim df cs => ⟨fr, g, lim, df, T.set v cs o⟩) B
def stL (l : Nat) (B : Blk) : Blk := Blk.rec (motive := fun _ => Blk) (fun fr g _ df cs => ⟨fr, g, Nat.mul l 1, df, cs⟩) B
def ent (r : Int) : AV := .cons (.cons (.str 8 6208537792749186637) (.int 63 r)) .nil
/-- Memory with so many bytes printed (in the block b), so many instructions run. -/
def ptA (b l : Nat) (r : Int) (h : Hp) : Hp := Hp.rec (motive := fun _ => Hp) (fun nb bs gs ms lo oc => ⟨nb, md3 (stC 17 (.int 63 r)) (stC 4 (.sl b 0 l 1 none)) (stL l) 14797 11453 b bs, gs, T.md (fun _ => ent r) ms 14796, lo, oc⟩) h
def hH (n l : Nat) (r : Int) : Hp := ptA (Nat.add (nu n) 2) l r (h0 n)
def cC (x : AV) (k : AV → AV → Res) : Res :=
  AV.rec (motive := fun _ => Res) (.fail) (fun _ => (.fail)) (fun _ _ => (.fail)) (fun _ _ => (.fail)) (.fail) (fun _ _ => (.fail)) (.fail) (fun _ _ _ _ _ => (.fail)) (.fail) (.fail) (fun _ _ _ => (.fail)) (.fail) (fun _ _ _ _ _ => (.fail)) (.fail) (fun _ => (.fail)) (fun _ _ => (.fail)) (fun _ _ => (.fail)) (.fail) (fun a b _ _ => k a b) x
def cO {α : Type} (x : Option α) (k : α → Res) : Res := Option.rec (motive := fun _ => Res) .fail k x
def yes : Res := .ret (.bool true) H0
/-- The four places are asked to hold just this. -/
def posQ (g : Hp) (b l : Nat) (r : Int) : Res :=
  cO (g.bs.get 14797) fun B1 => cO (B1.cs.get 17) fun v => cI v fun c x => ifB (Nat.beq c 63) (.ask (eqI x r)
    (cO (g.bs.get 11453) fun B2 => cO (B2.cs.get 4) fun v => cL v fun b' o l' z c => ifB (Nat.beq b' b) (ifB (Nat.beq o 0) (ifB (Nat.beq z 1) (Option.rec (motive := fun _ => Res) (.ask (Nat.beq l' l)
      (cO (g.bs.get b) fun B3 => .ask (Nat.beq B3.lim (Nat.mul l 1))
        (cO (g.ms.get 14796) fun m => cC m fun e t => ifB (eqAV t .nil) (cC e fun k v => ifB (eqAV k (.str 8 6208537792749186637)) (cI v fun c x => ifB (Nat.beq c 63) (.ask (eqI x r) yes) .fail) .fail) .fail))) (fun _ => .fail) c) .fail) .fail) .fail)) .fail
def r1 (r : Int) : Int := wrapC 63 (Int.add r (.ofNat 1))
def jnN (r : Res) (k : List AV → Hp → Res) : Res := Res.rec (motive := fun _ => Res) .fail k (fun _ _ _ => .fail) (fun _ _ => .fail) (fun p _ ih => .ask p ih) r
/-- One round, and what it is asked to leave. -/
def rnd (n l : Nat) (r : Int) : Res := jnN (it body44 4 (v0 n) (hH n l r)) fun vs h => ifB (reOk (nu n) (nf vs h) (kK n) (kM n).2 h) (ifB (eqLs (vs.map (rn (sg (nu n) (nf vs h)))) (v0 n))
  (ifB (eqHp (ptA (Nat.add (nu n) 2) (Nat.mul 2 (Nat.succ n)) (.ofNat 8) (reH (nu n) (nf vs h) (Nat.add (nu n) 2) (Nat.succ n) (kK n) (kM n).2 oc4 h)) (h0 n))
    (posQ (reH (nu n) (nf vs h) (Nat.add (nu n) 2) (Nat.succ n) (kK n) (kM n).2 oc4 h) (Nat.add (nu n) 2) (Nat.add (Nat.succ n) l) (r1 (r1 (r1 (r1 r))))) .fail) .fail) .fail
noncomputable def an (l : List Bool) : Bool := List.rec (motive := fun _ => Bool) true (fun p _ ih => Bool.rec (motive := fun _ => Bool) false ih p) l
/-- What is asked in a round. -/
def qR (n l : Nat) (r : Int) : List Bool := [beqB (bnot (ltI r (.ofNat 100000))) false, beqB (bnot (ltI (r1 r) (.ofNat 100000))) false, beqB (bnot (ltI (r1 (r1 r)) (.ofNat 100000))) false, beqB (ltI (.ofNat 4096) (wrapC 63 (Int.add (.ofNat l) (.ofNat (Nat.succ n))))) false,
  Nat.ble (Nat.mul (Nat.add (Nat.succ n) l) 1) 140737488355328, Nat.ble (Nat.add (Nat.succ n) l) 9223372036854775807, Nat.ble (Nat.mul l 1) (Nat.mul l 1), Nat.beq (Nat.mod (Nat.mul l 1) (Nat.succ n)) 0, beqB (bnot (ltI (r1 (r1 (r1 r))) (.ofNat 100000))) false,
  eqI (r1 (r1 (r1 (r1 r)))) (r1 (r1 (r1 (r1 r)))), Nat.beq (Nat.add (Nat.succ n) l) (Nat.add (Nat.succ n) l), Nat.beq (Nat.mul (Nat.add (Nat.succ n) l) 1) (Nat.mul (Nat.add (Nat.succ n) l) 1), eqI (r1 (r1 (r1 (r1 r)))) (r1 (r1 (r1 (r1 r))))]
def rK (n : Nat) : Nat := Nat.div 4096 (Nat.succ n)
/-- Memory behind the last whole round. -/
def hE (n : Nat) : Hp := (hH n (Nat.mul (rK n) (Nat.succ n)) (.ofNat (Nat.mul 4 (rK n)))).wo ⟨[], .unk⟩
def jF (n b0 : Nat) : Fun := fun vs h => jn (it body44 8 vs h) fun vs h => ifB (Nat.ble b0 (nu n)) (ifB (reOk (nu n) (nf vs h) (kK n) (kM n).2 h) (ifB (eqLs (vs.map (rn (sg (nu n) (nf vs h)))) (v0 n))
  (ifB (eqHp (reH (nu n) (nf vs h) (Nat.add (nu n) 2) (Nat.succ n) (kK n) (kM n).2 oc4 h) (h0 n)) (lp body44 most (v0 n) (hE n)) .fail) .fail) .fail) .fail
def s44J (n : Nat) : Fun := b44J s59 s60 s61 (jF n)
def s36J (n : Nat) : Fun := b36 s43 (s44J n) s45 s46 s47
def s22J (n : Nat) : Fun := b22 (s36J n)
def t7J (n : Nat) (a b : AV) (c : Hp) : Res := b7T s8 s10 s16 s19 s20 (s22J n) s27 s29 s30 s31 a b c
def s7J (n : Nat) : Fun := b7 s8 s10 s16 s19 s20 (s22J n) s27 s29 s30 s31
theorem cO_sm {α : Type} {x : Option α} {k : α → Res} {r : Res} (e : Sm (cO x k) r) (hr : Fine r) : ∃ a, x = some a ∧ Sm (k a) r := by
  cases x with
  | none => exact absurd rfl (e.nf hr)
  | some a => exact ⟨a, rfl, e⟩
theorem cI_sm {x : AV} {k : Nat → Int → Res} {r : Res} (e : Sm (cI x k) r) (hr : Fine r) : ∃ c n, x = .int c n ∧ Sm (k c n) r := by
  cases x <;> first | exact ⟨_, _, rfl, e⟩ | exact absurd rfl (e.nf hr)
theorem cL_sm {x : AV} {k : Nat → Nat → Nat → Nat → Option Nat → Res} {r : Res} (e : Sm (cL x k) r) (hr : Fine r) : ∃ b o n z c, x = .sl b o n z c ∧ Sm (k b o n z c) r := by
  cases x <;> first | exact ⟨_, _, _, _, _, rfl, e⟩ | exact absurd rfl (e.nf hr)
theorem cC_sm {x : AV} {k : AV → AV → Res} {r : Res} (e : Sm (cC x k) r) (hr : Fine r) : ∃ a b, x = .cons a b ∧ Sm (k a b) r := by
  cases x <;> first | exact ⟨_, _, rfl, e⟩ | exact absurd rfl (e.nf hr)
theorem ifF_sm {b : Bool} {x r : Res} (e : Sm (ifB b x .fail) r) (hr : Fine r) : b = true ∧ Sm x r := by
  cases b with
  | true => exact ⟨rfl, e⟩
  | false => exact absurd rfl (e.nf hr)
theorem jnN_inv {a r : Res} {k : List AV → Hp → Res} (e : Sm (jnN a k) r) (hr : Fine r) : ∃ vs h, now a = .norm vs h ∧ Sm (k vs h) r := by
  induction a with
  | norm vs h => exact ⟨vs, h, rfl, e⟩
  | ask p q ih =>
    have e : Sm (.ask p (jnN q k)) r := e
    obtain ⟨rfl, e⟩ := ask_inv e hr
    exact ih e
  | _ => exact absurd rfl (e.nf hr)
theorem posQ_inv {g : Hp} {b l : Nat} {r : Int} {q : Res} (e : Sm (posQ g b l r) q) (hr : Fine q) : ∃ B1 B2 B3, g.bs.get 14797 = some B1 ∧ B1.cs.get 17 = some (.int 63 r) ∧ g.bs.get 11453 = some B2 ∧ B2.cs.get 4 = some (.sl b 0 l 1 none) ∧ g.bs.get b = some B3 ∧ B3.lim = l * 1 ∧ g.ms.get 14796 = some (ent r) := by
  obtain ⟨B1, h1, e⟩ := cO_sm e hr
  obtain ⟨v, h2, e⟩ := cO_sm e hr
  obtain ⟨c, x, rfl, e⟩ := cI_sm e hr
  obtain ⟨h3, e⟩ := ifF_sm e hr
  obtain ⟨h4, e⟩ := ask_inv e hr
  obtain ⟨B2, h5, e⟩ := cO_sm e hr
  obtain ⟨v, h6, e⟩ := cO_sm e hr
  obtain ⟨b', o, l', z, c', rfl, e⟩ := cL_sm e hr
  obtain ⟨h7, e⟩ := ifF_sm e hr
  obtain ⟨h8, e⟩ := ifF_sm e hr
  obtain ⟨h9, e⟩ := ifF_sm e hr
  cases c' with
  | some y => exact absurd rfl (e.nf hr)
  | none =>
    obtain ⟨h10, e⟩ := ask_inv e hr
    obtain ⟨B3, h11, e⟩ := cO_sm e hr
    obtain ⟨h12, e⟩ := ask_inv e hr
    obtain ⟨m, h13, e⟩ := cO_sm e hr
    obtain ⟨a, t, rfl, e⟩ := cC_sm e hr
    obtain ⟨h14, e⟩ := ifF_sm e hr
    obtain ⟨k, v, rfl, e⟩ := cC_sm e hr
    obtain ⟨h15, e⟩ := ifF_sm e hr
    obtain ⟨c2, x2, rfl, e⟩ := cI_sm e hr
    obtain ⟨h16, e⟩ := ifF_sm e hr
    obtain ⟨h17, e⟩ := ask_inv e hr
    rw [beq_iff] at h3 h7 h8 h9 h10 h12 h16
    rw [eqI_eq] at h4 h17
    have h4 : x = r := by simpa using h4
    have h17 : x2 = r := by simpa using h17
    have h14 := eqAV_eq _ _ h14
    have h15 := eqAV_eq _ _ h15
    subst h3 h4 h7 h8 h9 h10 h14 h15 h16 h17
    exact ⟨B1, B2, B3, h1, h2, h5, h6, h11, h12, h13⟩
theorem stC_back {o : Nat} {v w : AV} {B : Blk} (h : B.cs.get o = some v) : stC o v (stC o w B) = B := by
  obtain ⟨fr, g, lim, df, cs⟩ := B
  have h : cs.get o = some v := h
  show (⟨fr, g, lim, df, T.set v (T.set w cs o) o⟩ : Blk) = _
  have : T.set v (T.set w cs o) o = cs := by
    apply T.same
    · rw [shp_set v w (T.set w cs o) o (by rw [T.get_set, if_pos rfl]), shp_set w v cs o h]
    · intro j
      rw [T.get_set, T.get_set]
      by_cases hj : j = o
      · rw [if_pos hj, hj]; exact h.symm
      · rw [if_neg hj, if_neg hj]
  rw [this]
theorem stL_back {l l' : Nat} {B : Blk} (h : B.lim = l * 1) : stL l (stL l' B) = B := by
  obtain ⟨fr, g, lim, df, cs⟩ := B
  have h : lim = l * 1 := h
  subst h
  rfl
theorem ptA_back {g : Hp} {b l l' : Nat} {r r' : Int} (hb : b ≠ 14797 ∧ b ≠ 11453) {B1 B2 B3 : Blk} (h1 : g.bs.get 14797 = some B1) (h2 : B1.cs.get 17 = some (.int 63 r)) (h3 : g.bs.get 11453 = some B2) (h4 : B2.cs.get 4 = some (.sl b 0 l 1 none)) (h5 : g.bs.get b = some B3) (h6 : B3.lim = l * 1)
    (h7 : g.ms.get 14796 = some (ent r)) : ptA b l r (ptA b l' r' g) = g := by
  obtain ⟨nb, bs, gs, ms, lo, oc⟩ := g
  show (⟨nb, md3 _ _ _ 14797 11453 b (md3 _ _ _ 14797 11453 b bs), gs, T.md _ (T.md _ ms 14796) 14796, lo, oc⟩ : Hp) = _
  rw [md3_back h1 h3 h5 (by decide) (Ne.symm hb.1) (Ne.symm hb.2) (stC_back h2) (stC_back h4) (stL_back h6)]
  have : T.md (fun _ => ent r) (T.md (fun _ => ent r') ms 14796) 14796 = ms := by
    have h7 : ms.get 14796 = some (ent r) := h7
    apply T.same
    · rw [T.shp_md, T.shp_md]
    · intro j
      rw [T.get_md, T.get_md, T.get_md, if_pos rfl]
      by_cases hj : j = 14796
      · rw [if_pos hj, hj, h7]; rfl
      · rw [if_neg hj, if_neg hj]
  rw [this]
/-- What the kernel reckons for one length: memory behind two rounds; the whole run, its rounds but two left out; one round. -/
def FQ (n : Nat) : Prop := ∀ (l : Nat) (r : Int), bAnd (eqHp (hH n (Nat.mul 2 (Nat.succ n)) (.ofNat 8)) (h0 n)) (bAnd (isT (t7J n (.int 63 (.ofNat n)) (.bool true) H0)) (bAnd (Nat.ble 14798 (nu n)) (isT (rnd n l r)))) = an (qR n l r)
theorem r1_eq {r : Int} (h0 : 0 ≤ r) (h1 : r < 100000) : r1 r = r + 1 := w63_in _ (by show (-9223372036854775808 : Int) ≤ r + 1; omega) (by show r + 1 < (9223372036854775808 : Int); omega)
theorem lt_no {r : Int} (h : r < 100000) : beqB (bnot (ltI r (.ofNat 100000))) false = true := by
  rw [ltI_eq]
  have : decide (r < Int.ofNat 100000) = true := by simpa using h
  rw [this]; rfl
theorem an_c {p : Bool} {A : List Bool} (h1 : p = true) (h2 : an A = true) : an (p :: A) = true := by rw [h1]; exact h2
theorem qR_true {n l : Nat} {r : Int} (hn : n < 60) (hl : l % (n + 1) = 0) (hl2 : l + (n + 1) ≤ 4096) (hr : 0 ≤ r) (hr2 : r < 90000) : an (qR n l r) = true := by
  have e1 := r1_eq hr (by omega)
  have e2 := r1_eq (r := r + 1) (by omega) (by omega)
  have e3 := r1_eq (r := r + 1 + 1) (by omega) (by omega)
  have eqt : ∀ x : Int, eqI x x = true := fun x => by rw [eqI_eq]; simp
  have bqt : ∀ x : Nat, Nat.beq x x = true := fun x => by rw [beq_iff]
  refine an_c (lt_no (by omega)) (an_c (by rw [e1]; exact lt_no (by omega)) (an_c (by rw [e1, e2]; exact lt_no (by omega)) (an_c ?_ (an_c ?_ (an_c ?_ (an_c ?_ (an_c ?_ (an_c (by rw [e1, e2, e3]; exact lt_no (by omega)) (an_c (eqt _) (an_c (bqt _) (an_c (bqt _) (an_c (eqt _) rfl))))))))))))
  · have e : wrapC 63 (Int.add (.ofNat l) (.ofNat (Nat.succ n))) = ((l + (n + 1) : Nat) : Int) := w63_in _ (by show (-9223372036854775808 : Int) ≤ (l : Int) + ((n + 1 : Nat) : Int); omega) (by show (l : Int) + ((n + 1 : Nat) : Int) < _; omega)
    rw [e, ltI_eq]
    have : decide (Int.ofNat 4096 < ((l + (n + 1) : Nat) : Int)) = false := by
      rw [decide_eq_false_iff_not]
      show ¬ ((4096 : Int) < ((l + (n + 1) : Nat) : Int))
      omega
    rw [this]; rfl
  · rw [ble_iff]; show (n + 1 + l) * 1 ≤ _; omega
  · rw [ble_iff]; show n + 1 + l ≤ _; omega
  · rw [ble_iff]; exact Nat.le_refl _
  · rw [beq_iff]; show l * 1 % (n + 1) = 0; rw [Nat.mul_one]; exact hl
section
variable {n : Nat} (hn : n < 60) (hq : FQ n)
include hn hq
theorem fq_closed : eqHp (hH n (Nat.mul 2 (Nat.succ n)) (.ofNat 8)) (h0 n) = true ∧ isT (t7J n (.int 63 (.ofNat n)) (.bool true) H0) = true ∧ 14798 ≤ nu n := by
  have h := hq 0 0
  rw [qR_true hn (Nat.zero_mod _) (by omega) (by omega) (by omega), bAnd_iff, bAnd_iff, bAnd_iff, ble_iff] at h
  exact ⟨h.1, h.2.1, h.2.2.1⟩
theorem fq_rnd {l : Nat} {r : Int} (hl : l % (n + 1) = 0) (hl2 : l + (n + 1) ≤ 4096) (hr : 0 ≤ r) (hr2 : r < 90000) : isT (rnd n l r) = true := by
  have h := hq l r
  rw [qR_true hn hl hl2 hr hr2, bAnd_iff, bAnd_iff, bAnd_iff] at h
  exact h.2.2.2
/-- One round more. -/
theorem goes_rnd {b0 m l : Nat} {r : Int} {R : Res} (hl : l % (n + 1) = 0) (hl2 : l + (n + 1) ≤ 4096) (hr : 0 ≤ r) (hr2 : r < 90000) (hb : b0 ≤ nu n) (hg : Goes b0 body44 m (v0 n) (hH n (n + 1 + l) (r + 1 + 1 + 1 + 1)) R) : Goes b0 body44 (m + 4) (v0 n) (hH n l r) R := by
  obtain ⟨h', e⟩ := isT_inv (fq_rnd hn hq hl hl2 hr hr2)
  have hf : Fine (.ret (.bool true) h') := by simp
  have e : Sm (rnd n l r) (.ret (.bool true) h') := e
  obtain ⟨vs, h, e1, e2⟩ := jnN_inv e hf
  obtain ⟨k1, e2⟩ := ifF_sm e2 hf
  obtain ⟨k2, e2⟩ := ifF_sm e2 hf
  obtain ⟨k3, e2⟩ := ifF_sm e2 hf
  obtain ⟨B1, B2, B3, p1, p2, p3, p4, p5, p6, p7⟩ := posQ_inv e2 hf
  have k4 := eqHp_eq k3 rfl
  have hnu := (fq_closed hn hq).2.2
  have k5 := ptA_back (l' := Nat.mul 2 (Nat.succ n)) (r' := .ofNat 8) (show Nat.add (nu n) 2 ≠ 14797 ∧ Nat.add (nu n) 2 ≠ 11453 from ⟨show nu n + 2 ≠ 14797 from by omega, show nu n + 2 ≠ 11453 from by omega⟩) p1 p2 p3 p4 p5 p6 p7
  rw [k4] at k5
  rw [r1_eq hr (by omega), r1_eq (r := r + 1) (by omega) (by omega), r1_eq (r := r + 1 + 1) (by omega) (by omega), r1_eq (r := r + 1 + 1 + 1) (by omega) (by omega)] at k5
  refine Goes.it (.re (nu n) (nf vs h) (Nat.add (nu n) 2) (Nat.succ n) (kK n) (kM n).2 oc4 k1 hb ?_) 4 (v0 n) (hH n l r) e1
  rw [eqLs_eq _ _ k2, ← k5]
  exact hg
theorem goes_rnds {b0 m : Nat} {R : Res} (hb : b0 ≤ nu n) : ∀ (j l : Nat) (r : Int), l % (n + 1) = 0 → l + j * (n + 1) ≤ 4096 → 0 ≤ r → r + 4 * j < 90000 → Goes b0 body44 m (v0 n) (hH n (l + j * (n + 1)) (r + 4 * j)) R → ∃ m', Goes b0 body44 m' (v0 n) (hH n l r) R := by
  intro j
  induction j with
  | zero =>
    intro l r _ _ _ _ hg
    rw [Nat.zero_mul, Nat.add_zero, show r + 4 * ((0 : Nat) : Int) = r from by omega] at hg
    exact ⟨m, hg⟩
  | succ j ih =>
    intro l r hl hl2 hr hr2 hg
    have hm : (j + 1) * (n + 1) = j * (n + 1) + (n + 1) := Nat.succ_mul _ _
    obtain ⟨m', hg'⟩ := ih (n + 1 + l) (r + 1 + 1 + 1 + 1) (by rw [Nat.add_mod_left]; exact hl) (by omega) (by omega) (by omega) (by
      rw [show n + 1 + l + j * (n + 1) = l + (j + 1) * (n + 1) from by omega, show r + 1 + 1 + 1 + 1 + 4 * (j : Int) = r + 4 * ((j + 1 : Nat) : Int) from by omega]
      exact hg)
    exact ⟨m' + 4, goes_rnd hn hq hl (by omega) hr (by omega) hb hg'⟩
theorem jF_goes (b0 : Nat) (vs : List AV) (h : Hp) (R : Res) (hR : Fine R) (e : Sm (jF n b0 vs h) R) : ∃ m, Goes b0 body44 m vs h R := by
  refine goes_it hR (fun vs h e => ?_) 8 vs h e
  obtain ⟨k1, e⟩ := ifF_sm e hR
  obtain ⟨k2, e⟩ := ifF_sm e hR
  obtain ⟨k3, e⟩ := ifF_sm e hR
  obtain ⟨k4, e⟩ := ifF_sm e hR
  rw [ble_iff] at k1
  obtain ⟨m, hg⟩ := Goes.lp (b0 := b0) most (v0 n) (hE n) R e hR
  have hK : rK n * (n + 1) ≤ 4096 := Nat.div_mul_le_self 4096 (n + 1)
  have hK2 : 2 ≤ rK n := by
    show 2 ≤ 4096 / (n + 1)
    rw [Nat.le_div_iff_mul_le (by omega)]; omega
  have hK3 : rK n ≤ 4096 := Nat.div_le_self _ _
  have h2 : Goes b0 body44 m (v0 n) (hH n (2 * (n + 1) + (rK n - 2) * (n + 1)) ((8 : Int) + 4 * ((rK n - 2 : Nat) : Int))) R := by
    have a1 : 2 * (n + 1) + (rK n - 2) * (n + 1) = Nat.mul (rK n) (Nat.succ n) := by
      rw [← Nat.add_mul, show 2 + (rK n - 2) = rK n from by omega]; rfl
    have a2 : (8 : Int) + 4 * ((rK n - 2 : Nat) : Int) = .ofNat (Nat.mul 4 (rK n)) := by
      show _ = ((4 * rK n : Nat) : Int)
      omega
    rw [a1, a2]
    exact .oc ⟨[], .unk⟩ hg
  have hle : 2 * (n + 1) + (rK n - 2) * (n + 1) ≤ 4096 := by
    rw [← Nat.add_mul, show 2 + (rK n - 2) = rK n from by omega]; exact hK
  obtain ⟨m', hg'⟩ := goes_rnds hn hq k1 (rK n - 2) (2 * (n + 1)) 8 (by rw [Nat.mul_comm]; exact Nat.mul_mod_right _ _) hle (by omega) (by omega) h2
  have hi := eqHp_eq (fq_closed hn hq).1 rfl
  have hi : hH n (2 * (n + 1)) 8 = h0 n := hi
  rw [hi] at hg'
  refine ⟨m', .re (nu n) (nf vs h) (Nat.add (nu n) 2) (Nat.succ n) (kK n) (kM n).2 oc4 k2 k1 ?_⟩
  rw [eqLs_eq _ _ k3, eqHp_eq k4 rfl]
  exact hg'
end
end
end Go.Proofs.YtbkkfmjofmfijaaGreatDoor
