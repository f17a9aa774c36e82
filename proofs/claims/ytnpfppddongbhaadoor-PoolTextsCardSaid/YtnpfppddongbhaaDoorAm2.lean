/-
  The abstract machine, part 2: what a function's code denotes. 'den' goes over the model's code; a hint says which slots live on where ways meet.
-/
import Derived.Test.YtnpfppddongbhaaDoorAm1
import Derived.Orders
namespace Go.AM
open Go
set_option autoImplicit false
noncomputable section

/-- Hints beside the code: 'j': a sequence whose first part may end in more than one way: the slots that live on; 'b': a block: the slots that live on behind it; 'l': a loop: those that live on at its head. -/
inductive Hint where
  | z : Hint
  | s (a b : Hint) : Hint
  | j (l : List Nat) (a b : Hint) : Hint
  | b (l : List Nat) (a : Hint) : Hint
  | l (l : List Nat) (a : Hint) : Hint
  | r (o : List Nat) : Hint

abbrev Env := Nat → AV
abbrev Fun := List AV → Hp → Res

/-- A choice by what the text alone tells. -/
abbrev sif (b : Bool) (x y : Res) : Res := Bool.rec (motive := fun _ => Res) y x b

def upd (env : Env) (d : Nat) (v : AV) : Env := fun i => Bool.rec (motive := fun _ => AV) (env i) v (Nat.beq i d)
def env0 : Env := fun _ => .unk

/-- The slots l hold the values vs; of the others nothing is known. -/
abbrev un (l : List Nat) : List AV → (Env → Res) → Res :=
  List.rec (motive := fun _ => List AV → (Env → Res) → Res) (fun _ k => k env0)
    (fun d _ ih vs k => uc vs fun v vs => ih vs fun env => k (upd env d v)) l

/-- No value more. -/
def uz (vs : List AV) (r : Res) : Res := List.rec (motive := fun _ => Res) r (fun _ _ _ => .fail) vs
/-- A function's arguments: just as many values as slots. -/
abbrev unX (l : List Nat) : List AV → (Env → Res) → Res :=
  List.rec (motive := fun _ => List AV → (Env → Res) → Res) (fun vs k => uz vs (k env0))
    (fun d _ ih vs k => uc vs fun v vs => ih vs fun env => k (upd env d v)) l

def lst (vs : List AV) : AV := List.rec (motive := fun _ => AV) .nil (fun v _ ih => .cons v ih) vs
def packB (l : List UInt8) : Nat := List.rec (motive := fun _ => Nat) 0 (fun b _ ih => Nat.add b.toNat (Nat.mul 256 ih)) l

/-- A value of one cell that the program's text bears. -/
def ofV1 : Value → AV
  | .bool b => .bool b
  | .int k n => .int (cOf k) n
  | .string s => .str s.data.size (packB s.data.toList)
  | .pointer none => .nilp
  | .slice none 0 0 => .nils
  | .nilIface => .nili
  | .nilFunc => .nilf
  | .map none => .nilm
  | _ => .unk
def ofV : Value → AV
  | .agg cs => .agg (lst (cs.toList.map ofV1))
  | .tuple vs => .tup (lst (vs.toList.map ofV1))
  | v => ofV1 v

def ev (env : Env) : Operand → AV
  | .tmp t => env t
  | .const v => ofV v
  | .global _ => .unk
  | .func f => .fn (.func f) .nil .nil

/-- A type's cells: whether it is an aggregate, and how many. -/
def ag (d : Option TypeDesc) : Bool := match d with | some (.struct _) | some (.array _ _) => true | _ => false
def szOf (P : Program) (t : TypeId) : Nat := match P.info? t with | some i => i.size | none => 0
def byOf (P : Program) (t : TypeId) : Nat := match P.info? t with | some i => i.bytes | none => 0
def zeroV (P : Program) (t : TypeId) : AV := match P.info? t with | some i => (match i.zero with | some v => ofV v | none => .unk) | none => .unk
/-- Is the type one of the program's? -/
def okT (P : Program) (t : TypeId) : Bool := match P.underlying t with | some _ => true | none => false
/-- Are all of a list's values those of one cell? -/
def ones (l : AV) : Bool := AV.rec (motive := fun _ => Bool) false (fun _ => false) (fun _ _ => false) (fun _ _ => false) false (fun _ _ => false) false (fun _ _ _ _ _ => false) false false (fun _ _ _ => false) false (fun _ _ _ _ _ => false) false (fun _ => false) (fun _ _ => false) (fun _ _ => false) true (fun v _ _ ih => one v && ih) l
def agT (P : Program) (t : TypeId) : Bool := ag (P.underlying t)

/-- The first n of a list; what is behind the first n. -/
def tkL (n : Nat) : AV → AV :=
  Nat.rec (motive := fun _ => AV → AV) (fun _ => .nil)
    (fun _ ih l => AV.rec (motive := fun _ => AV) .nil (fun _ => .nil) (fun _ _ => .nil) (fun _ _ => .nil) .nil (fun _ _ => .nil) .nil (fun _ _ _ _ _ => .nil) .nil .nil (fun _ _ _ => .nil) .nil (fun _ _ _ _ _ => .nil) .nil (fun _ => .nil) (fun _ _ => .nil) (fun _ _ => .nil) .nil
      (fun v t _ _ => .cons v (ih t)) l) n
def dpL (n : Nat) : AV → AV :=
  Nat.rec (motive := fun _ => AV → AV) (fun l => l)
    (fun _ ih l => AV.rec (motive := fun _ => AV) .nil (fun _ => .nil) (fun _ _ => .nil) (fun _ _ => .nil) .nil (fun _ _ => .nil) .nil (fun _ _ _ _ _ => .nil) .nil .nil (fun _ _ _ => .nil) .nil (fun _ _ _ _ _ => .nil) .nil (fun _ => .nil) (fun _ _ => .nil) (fun _ _ => .nil) .nil
      (fun _ t _ _ => ih t) l) n
/-- A list n times. -/
def repL (l : AV) (n : Nat) : AV := Nat.rec (motive := fun _ => AV) .nil (fun _ ih => app l ih) n

/-- The parts of an aggregate in the order of their places: the one that is given, else the part of the zero value. -/
def slots (P : Program) (ts : List TypeId) (ps : List (Nat × AV)) (i o : Nat) (Z : AV) : List (Bool × Nat × AV) :=
  match ts with
  | [] => []
  | t :: ts => (agT P t, szOf P t, match ps.find? (fun p => Nat.beq p.1 i) with
      | some p => p.2
      | none => match agT P t with
        | true => .agg (tkL (szOf P t) (dpL o Z))
        | false => nth Z o) :: slots P ts ps (i + 1) (o + szOf P t) Z

/-- Is it a type of the program's, and does a value that is no aggregate take one cell? -/
def okS (P : Program) (t : TypeId) : Bool := okT P t && (agT P t || Nat.beq (szOf P t) 1)
/-- How many cells types take together. -/
def sizes (P : Program) (ts : List TypeId) : Nat := match ts with | [] => 0 | t :: ts => szOf P t + sizes P ts

/-- Are the places of the parts below n, and none given twice? -/
def distinct (n : Nat) : List (Nat × AV) → Bool
  | [] => true
  | p :: l => Nat.blt p.1 n && (!(l.any fun q => Nat.beq q.1 p.1) && distinct n l)

/-- The offsets of fields, as their sizes add up. -/
def tight (P : Program) : List Field → Nat → Bool
  | [], _ => true
  | f :: fs, o => Nat.beq f.offset o && tight P fs (o + szOf P f.type)

def lowered (env : Env) (ps : List (Nat × Operand)) : List (Nat × AV) := ps.map fun p => (p.1, ev env p.2)

def rep {α : Type} (x : α) (n : Nat) : List α := Nat.rec (motive := fun _ => List α) [] (fun _ ih => x :: ih) n

/-- Whatever a pointer, an interface's value or a function may be but nil. -/
def nck (x : AV) (k : AV → Res) : Res :=
  AV.rec (motive := fun _ => Res) .fail (fun _ => .fail) (fun _ _ => .fail) (fun _ _ => .fail) .fail (fun _ _ => k x) .fail (fun _ _ _ _ _ => .fail) .fail .fail (fun _ _ _ => k x) .fail (fun _ _ _ _ _ => .fail) .fail (fun _ => .fail) (fun _ _ => .fail) (fun _ _ => .fail) .fail (fun _ _ _ _ => .fail) x

/-- Equality at a type. -/
def eqP (x y : AV) (k : Bool → Res) : Res :=
  AV.rec (motive := fun _ => Res) .fail (fun _ => .fail) (fun _ _ => .fail) (fun _ _ => .fail)
    (AV.rec (motive := fun _ => Res) .fail (fun _ => .fail) (fun _ _ => .fail) (fun _ _ => .fail) (k true) (fun _ _ => k false) .fail (fun _ _ _ _ _ => .fail) .fail .fail (fun _ _ _ => .fail) .fail (fun _ _ _ _ _ => .fail) .fail (fun _ => .fail) (fun _ _ => .fail) (fun _ _ => .fail) .fail (fun _ _ _ _ => .fail) y)
    (fun _ _ => AV.rec (motive := fun _ => Res) .fail (fun _ => .fail) (fun _ _ => .fail) (fun _ _ => .fail) (k false) (fun _ _ => .fail) .fail (fun _ _ _ _ _ => .fail) .fail .fail (fun _ _ _ => .fail) .fail (fun _ _ _ _ _ => .fail) .fail (fun _ => .fail) (fun _ _ => .fail) (fun _ _ => .fail) .fail (fun _ _ _ _ => .fail) y)
    .fail (fun _ _ _ _ _ => .fail) .fail .fail (fun _ _ _ => .fail) .fail (fun _ _ _ _ _ => .fail) .fail (fun _ => .fail) (fun _ _ => .fail) (fun _ _ => .fail) .fail (fun _ _ _ _ => .fail) x
def eqL (x y : AV) (k : Bool → Res) : Res :=
  AV.rec (motive := fun _ => Res) .fail (fun _ => .fail) (fun _ _ => .fail) (fun _ _ => .fail) .fail (fun _ _ => .fail)
    (AV.rec (motive := fun _ => Res) .fail (fun _ => .fail) (fun _ _ => .fail) (fun _ _ => .fail) .fail (fun _ _ => .fail) (k true) (fun _ _ _ _ _ => k false) (k false) .fail (fun _ _ _ => .fail) .fail (fun _ _ _ _ _ => .fail) .fail (fun _ => .fail) (fun _ _ => .fail) (fun _ _ => .fail) .fail (fun _ _ _ _ => .fail) y)
    (fun _ _ _ _ _ => AV.rec (motive := fun _ => Res) .fail (fun _ => .fail) (fun _ _ => .fail) (fun _ _ => .fail) .fail (fun _ _ => .fail) (k false) (fun _ _ _ _ _ => .fail) .fail .fail (fun _ _ _ => .fail) .fail (fun _ _ _ _ _ => .fail) .fail (fun _ => .fail) (fun _ _ => .fail) (fun _ _ => .fail) .fail (fun _ _ _ _ => .fail) y)
    (AV.rec (motive := fun _ => Res) .fail (fun _ => .fail) (fun _ _ => .fail) (fun _ _ => .fail) .fail (fun _ _ => .fail) (k false) (fun _ _ _ _ _ => .fail) .fail .fail (fun _ _ _ => .fail) .fail (fun _ _ _ _ _ => .fail) .fail (fun _ => .fail) (fun _ _ => .fail) (fun _ _ => .fail) .fail (fun _ _ _ _ => .fail) y)
    .fail (fun _ _ _ => .fail) .fail (fun _ _ _ _ _ => .fail) .fail (fun _ => .fail) (fun _ _ => .fail) (fun _ _ => .fail) .fail (fun _ _ _ _ => .fail) x

def eqB (x y : AV) (k : Bool → Res) : Res := cB x fun a => cB y fun b => k (beqB a b)
def eqN (x y : AV) (k : Bool → Res) : Res := bin2 x y fun _ a b => k (eqI a b)
def eqS (x y : AV) (k : Bool → Res) : Res := cS x fun n a => cS y fun m b => k (sEq n a m b)
def ltN (x y : AV) (k : Bool → Res) : Res := bin2 x y fun _ a b => k (ltI a b)
def ltS (x y : AV) (k : Bool → Res) : Res := cS x fun n a => cS y fun m b => k (strLt a b n m)

def eqAt (P : Program) (t : TypeId) (x y : AV) (k : Bool → Res) : Res :=
  match P.underlying t with
  | some .bool => eqB x y k
  | some (.int _) => eqN x y k
  | some .string => eqS x y k
  | some (.pointer _) => eqP x y k
  | some (.slice _) => eqL x y k
  | _ => .fail

def ltAt (P : Program) (t : TypeId) (x y : AV) (k : Bool → Res) : Res :=
  match P.underlying t with
  | some (.int _) => ltN x y k
  | some .string => ltS x y k
  | _ => .fail

def dBin (P : Program) (op : BinOp) (t : TypeId) (x y : AV) (k : AV → Res) : Res :=
  match op with
  | .add => match P.underlying t with
    | some (.int _) => iAdd x y k
    | some .string => sCat x y k
    | _ => .fail
  | .sub => iSub x y k
  | .mul => iMul x y k
  | .quo => iQuo x y k
  | .rem => iRem x y k
  | .and => iAnd x y k
  | .or => iOr x y k
  | .xor => iXor x y k
  | .shl => iShl x y k
  | .shr => iShr x y k
  | .andNot => iAndNot x y k
  | .eql => eqAt P t x y fun b => k (.bool b)
  | .neq => eqAt P t x y fun b => k (.bool (bnot b))
  | .lss => ltAt P t x y fun b => k (.bool b)
  | .gtr => ltAt P t y x fun b => k (.bool b)
  | .leq => ltAt P t y x fun b => k (.bool (bnot b))
  | .geq => ltAt P t x y fun b => k (.bool (bnot b))

def dConv (P : Program) (s d : TypeId) (x : AV) (h : Hp) (k : AV → Hp → Res) : Res :=
  match P.underlying s, P.underlying d with
  | some (.int _), some (.int c) => iConv (cOf c) x fun v => k v h
  | some .string, some .string => cS x fun n a => k (.str n a) h
  | some (.slice e), some .string => match P.underlying e with | some (.int .u8) => b2s h x fun v => k v h | _ => .fail
  | some .string, some (.slice e) => match P.underlying e with | some (.int .u8) => s2b h x k | _ => .fail
  | _, _ => .fail

/-- Equality of structs: field by field; numbers, texts, truth values. -/
def eqFs (P : Program) (x y : AV) : List Field → (Bool → Res) → Res
  | [], k => k true
  | f :: fs, k => sif (f.name != "_") (match P.underlying f.type with
    | some .bool => eqB (nth x f.offset) (nth y f.offset) fun b => eqFs P x y fs fun c => k (bAn2 b c)
    | some (.int _) => eqN (nth x f.offset) (nth y f.offset) fun b => eqFs P x y fs fun c => k (bAn2 b c)
    | some .string => eqS (nth x f.offset) (nth y f.offset) fun b => eqFs P x y fs fun c => k (bAn2 b c)
    | _ => .fail) .fail
def dBin2 (P : Program) (op : BinOp) (t : TypeId) (x y : AV) (k : AV → Res) : Res :=
  match P.underlying t with
  | some (.struct fs) => sif (!P.eqGuardType P.depth t && !P.stoodInHeld t) (match op with
    | .eql => cA x fun l => cA y fun m => eqFs P l m fs.toList fun b => k (.bool b)
    | .neq => cA x fun l => cA y fun m => eqFs P l m fs.toList fun b => k (.bool (bnot b))
    | _ => .fail) .fail
  | _ => dBin P op t x y k
def dConv2 (P : Program) (s d : TypeId) (x : AV) (h : Hp) (k : AV → Hp → Res) : Res :=
  match P.underlying s, P.underlying d with
  | some (.int _), some .string => iStr x fun v => k v h
  | _, _ => dConv P s d x h k

/-- One of two values. -/
def sel (t : Bool) (a b : AV) : AV := Bool.rec (motive := fun _ => AV) b a t
/-- What a slot holds behind a move that is done only where its guard says so. -/
def gsel (g : AV) (want : Bool) (x : AV) : AV :=
  AV.rec (motive := fun _ => AV) .unk (fun t => sel (beqB t want) x (.tup .nil)) (fun _ _ => .unk) (fun _ _ => .unk) .unk (fun _ _ => .unk) .unk (fun _ _ _ _ _ => .unk) .unk .unk (fun _ _ _ => .unk) .unk (fun _ _ _ _ _ => .unk) .unk (fun _ => .unk) (fun _ _ => .unk) (fun _ _ => .tup .nil) .unk (fun _ _ _ _ => .unk) g
/-- A value under a name. -/
def ap (x : AV) (k : AV → Res) : Res := k x
/-- The callees. -/
def gam (l : List (Nat × Fun)) : FuncId → Option Fun :=
  List.rec (motive := fun _ => FuncId → Option Fun) (fun _ => none) (fun p _ ih f => Bool.rec (motive := fun _ => Option Fun) (ih f) (some p.2) (Nat.beq p.1 f)) l

/-- A call of a value. -/
def dyn (γ : FuncId → Option Fun) (v : AV) (args : List AV) (h : Hp) : Res :=
  cFn v fun f a b => match f with
    | .func f => match γ f with
      | some g => unL a fun la => unL b fun lb => g (la ++ args ++ lb) h
      | none => .fail
    | _ => .fail

/-- How a map's keys of this type are compared. -/
def keyQ (P : Program) (t : TypeId) : Option KQ := match P.underlying t with | some (.int c) => some (kqI (cOf c)) | some .string => some kqS | some .bool => some kqB | _ => none

/-- One operation. -/
def dOp (P : Program) (γ : FuncId → Option Fun) (env : Env) (h : Hp) (op : Op) (k : AV → Hp → Res) : Res :=
  match op with
  | .move x => k (ev env x) h
  | .assign x => k (ev env x) h
  | .pick c a b => cB (ev env c) fun t => ap (sel t (ev env a) (ev env b)) fun v => k v h
  | .alloc t => mk h (cells (zeroV P t)) k
  | .box _ x => mk h (cells (ev env x)) k
  | .build t ps => match P.underlying t with
    | some (.struct fs) => sif ((fs.toList.all fun f => okS P f.type) && (tight P fs.toList 0 && (distinct fs.size (lowered env ps.toList) && (ones (cells (zeroV P t)) && Nat.beq (len (cells (zeroV P t))) (sizes P (fs.toList.map (·.type))))))) (bld (slots P (fs.toList.map (·.type)) (lowered env ps.toList) 0 0 (cells (zeroV P t))) fun l => k (.agg l) h) .fail
    | some (.array n e) => sif (okS P e && (distinct n (lowered env ps.toList) && (ones (cells (zeroV P t)) && Nat.beq (len (cells (zeroV P t))) (sizes P (rep e n))))) (bld (slots P (rep e n) (lowered env ps.toList) 0 0 (cells (zeroV P t))) fun l => k (.agg l) h) .fail
    | _ => .fail
  | .buildSlice t n ps => match P.underlying t with
    | some (.slice e) => sif (okS P e && (distinct n (lowered env ps.toList) && (ones (cells (zeroV P e)) && (Nat.beq (len (cells (zeroV P e))) (szOf P e) && Nat.ble (Nat.mul n (szOf P e)) 16777216)))) (bld (slots P (rep e n) (lowered env ps.toList) 0 0 (repL (cells (zeroV P e)) n)) fun l => mkS h (szOf P e) n l k) .fail
    | _ => .fail
  | .load t a => sif (okT P t) (match agT P t with
    | true => ldN h (szOf P t) (ev env a) fun v => k v h
    | false => ld1 h (ev env a) fun v => k v h) .fail
  | .store t a v => sif (okT P t) (match agT P t with
    | true => stN h (szOf P t) (ev env a) (ev env v) fun h => k (.tup .nil) h
    | false => sif (Nat.beq (szOf P t) 1) (st1 h (ev env a) (ev env v) fun h => k (.tup .nil) h) .fail) .fail
  | .nilCheck x => nck (ev env x) fun v => k v h
  | .binOp op t x y _ => dBin2 P op t (ev env x) (ev env y) fun v => k v h
  | .unOp op _ x => match op with
    | .neg => iNeg (ev env x) fun v => k v h
    | .xor => iNot (ev env x) fun v => k v h
    | .not => bNot (ev env x) fun v => k v h
    | _ => .fail
  | .convert s d x => dConv2 P s d (ev env x) h k
  | .makeInterface t x => match P.underlying t with
    | some (.interface _) => .fail
    | none => .fail
    | _ => k (.ifc t (ev env x)) h
  | .makeMap _ none => mkMap h k
  | .lookup t x i ok => match P.underlying t with
    | some (.map kt et) => match keyQ P kt with
      | some q => lkp q h ok (zeroV P et) (ev env x) (ev env i) fun v => k v h
      | none => .fail
    | _ => .fail
  | .mapUpdate t m x v => match P.underlying t with
    | some (.map kt _) => match keyQ P kt with
      | some q => mup q h (ev env m) (ev env x) (ev env v) fun h => k (.tup .nil) h
      | none => .fail
    | _ => .fail
  | .insert t m x v => match P.underlying t with
    | some (.map kt _) => match keyQ P kt with
      | some q => mup q h (ev env m) (ev env x) (ev env v) fun h => k (.tup .nil) h
      | none => .fail
    | _ => .fail
  | .makeFunc f a b => k (.fn f (lst (a.toList.map (ev env))) (lst (b.toList.map (ev env)))) h
  | .makeSlice t l c => match P.underlying t with
    | some (.slice e) => sif (ones (cells (zeroV P e)) && Nat.beq (len (cells (zeroV P e))) (szOf P e)) (mkM h (cells (zeroV P e)) (byOf P e) (ev env l) (ev env c) k) .fail
    | _ => .fail
  | .slice t x lo hi mx => sif (mx.isNone || hi.isSome) (match P.underlying t with
    | some .string => match mx with
      | none => cutT (ev env x) (lo.map (ev env)) (hi.map (ev env)) fun v => k v h
      | some _ => .fail
    | some (.slice e) => sif (okT P e) (cutS (szOf P e) (ev env x) (lo.map (ev env)) (hi.map (ev env)) (mx.map (ev env)) fun v => k v h) .fail
    | some (.array n e) => sif (okT P e) (cutP h n (szOf P e) (ev env x) (lo.map (ev env)) (hi.map (ev env)) (mx.map (ev env)) fun v => k v h) .fail
    | _ => .fail) .fail
  | .fieldAddr t x f => match P.underlying t with
    | some (.struct fs) => match fs[f]? with
      | some f => sif (Nat.beq (szOf P f.type) 0) .fail (cP (ev env x) fun b o => k (.ptr b (Nat.add o f.offset)) h)
      | none => .fail
    | _ => .fail
  | .field t x f => match P.underlying t with
    | some (.struct fs) => match fs[f]? with
      | some f => sif (okT P f.type) (part (agT P f.type) f.offset (szOf P f.type) (ev env x) fun v => k v h) .fail
      | none => .fail
    | _ => .fail
  | .indexAddr t x i => match P.underlying t with
    | some (.slice e) => sif (okT P e) (ixA (szOf P e) (ev env x) (ev env i) fun v => k v h) .fail
    | some (.array n e) => sif (okT P e) (ixP n (szOf P e) (ev env x) (ev env i) fun v => k v h) .fail
    | _ => .fail
  | .index t x i => match P.underlying t with
    | some .string => sIdx (ev env x) (ev env i) fun v => k v h
    | some (.array n e) => sif (okT P e) (ixV (agT P e) n (szOf P e) (ev env x) (ev env i) fun v => k v h) .fail
    | _ => .fail
  | .extract x i => cT (ev env x) fun l => cK (nth l i) fun v => k v h
  | .call c => match c.callee with
    | .value (.func f) => match γ f with
      | some g => cl (g (c.args.toList.map (ev env)) h) k
      | none => .fail
    | .value x => cl (dyn γ (ev env x) (c.args.toList.map (ev env)) h) k
    | .builtin .min => match c.args.toList with
      | [x, y] => iMin (ev env x) (ev env y) fun v => k v h
      | _ => .fail
    | .builtin .max => match c.args.toList with
      | [x, y] => iMax (ev env x) (ev env y) fun v => k v h
      | _ => .fail
    | .builtin .len => match c.args.toList, c.argTypes.toList with
      | [x], [t] => match P.underlying t with
        | some .string => lenS (ev env x) fun v => k v h
        | some (.slice _) => lenL (ev env x) fun v => k v h
        | _ => .fail
      | _, _ => .fail
    | .builtin .append => match c.args.toList, c.argTypes.toList with
      | [x, y], [t, u] => match P.underlying t, P.underlying u with
        | some (.slice e), some (.slice _) => sif (okT P e && (ones (cells (zeroV P e)) && Nat.beq (len (cells (zeroV P e))) (szOf P e))) (apd h (szOf P e) (byOf P e) (ev env x) (ev env y) k) .fail
        | some (.slice e), some .string => sif (okT P e && (ones (cells (zeroV P e)) && Nat.beq (len (cells (zeroV P e))) (szOf P e))) (apd h (szOf P e) (byOf P e) (ev env x) (ev env y) k) .fail
        | _, _ => .fail
      | _, _ => .fail
    | .builtin .copy => match c.args.toList, c.argTypes.toList with
      | [x, y], [t, _] => match P.underlying t with
        | some (.slice e) => sif (okT P e) (cpy h (szOf P e) (ev env x) (ev env y) k) .fail
        | _ => .fail
      | _, _ => .fail
    | _ => .fail
  | .range t x => match P.underlying t with
    | some .string => rng h (ev env x) k
    | _ => .fail
  | .next x s => sif s (nxt h (ev env x) k) .fail
  | _ => .fail

/-- A slot is written; one that the frame has not: none. -/
abbrev put (n : Nat) (d : Option Nat) (v : AV) (env : Env) (k : Env → Res) : Res :=
  match d with
  | some d => sif (Nat.blt d n) (k (upd env d v)) .fail
  | none => k env

/-- A region's operations, one behind the other. -/
def dOps (P : Program) (γ : FuncId → Option Fun) (n : Nat) (all : List Oper) : List Oper → Env → Hp → (Env → Hp → Res) → Res
  | [], env, h, k => k env h
  | o :: rest, env, h, k =>
    match o.guard with
    | none => dOp P γ env h o.op fun v h => put n o.dst v env fun env => dOps P γ n all rest env h k
    | some (j, want) => match (all[j]?).bind (·.dst) with
      | some t => match o.op with
        | .move x => ap (gsel (env t) want (ev env x)) fun v => put n o.dst v env fun env => dOps P γ n all rest env h k
        | .assign x => ap (gsel (env t) want (ev env x)) fun v => put n o.dst v env fun env => dOps P γ n all rest env h k
        | _ => jn (gd (env t) want (dOp P γ env h o.op fun v h => .norm [v] h) (.norm [.tup .nil] h)) fun vs h => uc vs fun v _ => put n o.dst v env fun env => dOps P γ n all rest env h k
      | none => .fail

/-- How an operation of a region with a drawn order is taken: 0: it only computes; 1: it looks at memory; 2: it may change memory. -/
def kindD (P : Program) (op : Op) : Nat :=
  match op with
  | .load .. => 1
  | .convert s d _ => match P.underlying s, P.underlying d with
    | some (.int _), some (.int _) => 0
    | some .string, some .string => 0
    | some (.slice _), _ => 1
    | _, _ => 2
  | .alloc _ => 2
  | .box .. => 2
  | .buildSlice .. => 2
  | .makeSlice .. => 2
  | .store .. => 2
  | .makeMap .. => 2
  | .mapUpdate .. => 2
  | .insert .. => 2
  | .lookup .. => 1
  | .range .. => 2
  | .next .. => 2
  | .call c => match c.callee with
    | .builtin .len => 0
    | _ => 2
  | _ => 0

/-- One operation of such a region. -/
def stepD (P : Program) (γ : FuncId → Option Fun) (n : Nat) (all : List Oper) (o : Oper) (env : Env) (h : Hp) (k : AV → Env → Hp → Res) : Res :=
  match o.guard with
  | none => dOp P γ env h o.op fun v h => put n o.dst v env fun env => k v env h
  | some (j, want) => match (all[j]?).bind (·.dst) with
    | some t => match o.op with
      | .move x => ap (gsel (env t) want (ev env x)) fun v => put n o.dst v env fun env => k v env h
      | .assign x => ap (gsel (env t) want (ev env x)) fun v => put n o.dst v env fun env => k v env h
      | _ => jn (gd (env t) want (dOp P γ env h o.op fun v h => .norm [v] h) (.norm [.tup .nil] h)) fun vs h => uc vs fun v _ => put n o.dst v env fun env => k v env h
    | none => .fail

/-- What an operation looked at is looked at again: it is to be the same. -/
def again (P : Program) (γ : FuncId → Option Fun) (all : List Oper) (o : Oper) (env : Env) (v : AV) (h : Hp) (k : Res) : Res :=
  match o.guard with
  | none => dOp P γ env h o.op fun v' _ => same v v' k
  | some (j, want) => match (all[j]?).bind (·.dst) with
    | some t => jn (gd (env t) want (dOp P γ env h o.op fun v' _ => same v v' (.norm [] h)) (.norm [] h)) fun _ _ => k
    | none => .fail

def agains : List (Nat × (Hp → Res → Res)) → Hp → Res → Res
  | [], _, k => k
  | p :: l, h, k => p.2 h (agains l h k)

/-- Which of them pend still behind operation o. -/
def pends (o : Oper) : List (Nat × (Hp → Res → Res)) → List (Nat × (Hp → Res → Res))
  | [] => []
  | p :: l => match o.after.toList.any fun e => Region.binds .any e && Nat.beq e.on p.1 with
    | true => pends o l
    | false => p :: pends o l

/-- A region's operations in the order given; whatever looked at memory pends until an operation that may change memory, and waits for it, is done. -/
def dDraw (P : Program) (γ : FuncId → Option Fun) (n : Nat) (all : List Oper) : List Nat → List (Nat × (Hp → Res → Res)) → Env → Hp → (Env → Hp → Res) → Res
  | [], _, env, h, k => k env h
  | i :: rest, pend, env, h, k => match all[i]? with
    | none => .fail
    | some o => match kindD P o.op with
      | 0 => stepD P γ n all o env h fun _ env h => dDraw P γ n all rest pend env h k
      | 1 => stepD P γ n all o env h fun v env' h' => dDraw P γ n all rest ((i, again P γ all o env v) :: pend) env' h' k
      | _ => stepD P γ n all o env h fun _ env h => agains (pends o pend) h (dDraw P γ n all rest (pends o pend) env h k)

/-- May a region's operations be taken in this order: each that only computes or looks at memory as soon as nobody could come between; each of the others alone. -/
def orderOk (P : Program) (ops : Array Oper) : List Nat → Array Bool → Bool
  | [], l => (Region.ready .any ops l).isEmpty
  | i :: rest, l => (match ops[i]? with
      | none => false
      | some o => match kindD P o.op with
        | 0 => (Region.ready .any ops l).contains i && Region.free .any ops l i
        | 1 => (Region.ready .any ops l).contains i && Region.free .any ops l i
        | _ => match Region.ready .any ops l with
          | [j] => Nat.beq i j
          | _ => false) && orderOk P ops rest (l.setIfInBounds i true)

/-- What a function returns: the values of its result slots. -/
def rtV (env : Env) (h : Hp) (P : Program) : List ResultVar → (List AV → Res) → Res
  | [], k => k []
  | .tmp t :: l, k => cK (env t) fun v => rtV env h P l fun vs => k (v :: vs)
  | .cell a t :: l, k => sif (okT P t) (match agT P t with
    | true => ldN h (szOf P t) (env a) fun v => rtV env h P l fun vs => k (v :: vs)
    | false => ld1 h (env a) fun v => rtV env h P l fun vs => k (v :: vs)) .fail
def rt (P : Program) (fn : Func) (env : Env) (h : Hp) : Res :=
  rtV env h P fn.results.toList fun vs => match vs with
    | [v] => .ret v h
    | vs => .ret (.tup (lst vs)) h

def exitL (xs : List (Nat × List Nat)) (id : Nat) (k : List Nat → Res) : Res :=
  List.rec (motive := fun _ => Res) .fail (fun p _ ih => sif (Nat.beq p.1 id) (k p.2) ih) xs

/-- How often a loop may go round. -/
def most : Nat := 1000000

/-- What code denotes: 'k': what comes behind its end; 'xs': the slots that live on behind each block around it. -/
def den (P : Program) (γ : FuncId → Option Fun) (fn : Func) : Code → Hint → List (Nat × List Nat) → Env → Hp → (Env → Hp → Res) → Res
  | .skip, _, _, env, h, k => k env h
  | .region _ ops false, _, _, env, h, k => dOps P γ fn.ntmps ops.toList ops.toList env h k
  | .region _ ops true, .r o, _, env, h, k => sif (Region.noSelect ops && (Nat.beq o.length ops.size && orderOk P ops o (Array.replicate ops.size false))) (dDraw P γ fn.ntmps ops.toList o [] env h k) .fail
  | .seq a b, .s x y, xs, env, h, k => den P γ fn a x xs env h fun env h => den P γ fn b y xs env h k
  | .seq a b, .j l x y, xs, env, h, k =>
    jn (den P γ fn a x xs env h fun env h => .norm (l.map env) h) fun vs h => un l vs fun env => den P γ fn b y xs env h k
  | .cond c a b, .s x y, xs, env, h, k => cB (ev env c) fun t => ifB t (den P γ fn a x xs env h k) (den P γ fn b y xs env h k)
  | .block id a, .b l x, xs, env, h, k =>
    blk id (den P γ fn a x ((id, l) :: xs) env h fun env h => .norm (l.map env) h) fun vs h => un l vs fun env => k env h
  | .loop a, .l l x, xs, env, h, _ =>
    lp (fun vs h => un l vs fun env => den P γ fn a x xs env h fun env h => .norm (l.map env) h) most (l.map env) h
  | .scope a, x, xs, env, h, k => den P γ fn a x xs env h k
  | .label _, _, _, env, h, k => k env h
  | .exit id, _, xs, env, h, _ => exitL xs id fun l => .exit id (l.map env) h
  | .ret, _, _, env, h, _ => rt P fn env h
  | _, _, _, _, _, _ => .fail

/-- What a function denotes. -/
def denF (P : Program) (γ : FuncId → Option Fun) (fn : Func) (x : Hint) : Fun := fun args h =>
  match fn.body with
  | some c => unX (List.range fn.params.size) args fun env => den P γ fn c x [] env h fun env h => rt P fn env h
  | none => .fail

end
end Go.AM
