/-
  The law of pairs of chars: its states, what is asked in its runs; its two loops, known by laws of their own; what the kernel is to reckon, and what follows.
-/
import Derived.Test.YtbkkfmjofmfijaaGreatDoorFe
import Derived.KernelRfl
set_option linter.unusedVariables false
set_option linter.unusedSimpArgs false
namespace Go.Proofs.YtbkkfmjofmfijaaGreatDoor
open Go Go.AM
set_option autoImplicit false
set_option maxRecDepth 100000
noncomputable section
def s5P:Fun:=b5J s8 s10 s14 s16 s19 s20 s22 s24 s25 s26 s27 (fun _ vs h=>.exit 99 vs h) wantF
def body5:List AV→Hp→Res:=L5n0 s8 s10 s14 s16 s19 s20 s22 s24 s25 s26 s27
def body6:List AV→Hp→Res:=L5n1 s8 s10 s14 s16 s19 s20 s22 s24 s25 s26 s27
def hOf (r:Res):Hp:=Res.rec (motive:=fun _=>Hp) H0 (fun _ h=>h) (fun _ _ h=>h) (fun _ h=>h) (fun _ _ ih=>ih) r
def vOf (r:Res):List AV:=Res.rec (motive:=fun _=>List AV) [] (fun vs _=>vs) (fun _ vs _=>vs) (fun _ _=>[]) (fun _ _ ih=>ih) r
def bk (v:AV):Nat:=AV.rec (motive:=fun _=>Nat) 0 (fun _=>0) (fun _ _=>0) (fun _ _=>0) 0 (fun b _=>b) 0 (fun b _ _ _ _=>b) 0 0 (fun _ _ _=>0) 0 (fun _ _ _ _ _=>0) 0 (fun b=>b) (fun _ _=>0) (fun _ _=>0) 0 (fun _ _ _ _=>0) v
def sln (v:AV):Nat:=AV.rec (motive:=fun _=>Nat) 0 (fun _=>0) (fun _ _=>0) (fun _ _=>0) 0 (fun b _=>0) 0 (fun _ _ n _ _=>n) 0 0 (fun _ _ _=>0) 0 (fun _ _ _ _ _=>0) 0 (fun b=>0) (fun _ _=>0) (fun _ _=>0) 0 (fun _ _ _ _=>0) v
def cg (h:Hp) (b o:Nat):AV:=Option.rec (motive:=fun _=>AV) .unk (fun B=>B.at o) (h.bs.get b)
def nL (l:List AV) (i:Nat):AV:=List.rec (motive:=fun _=>Nat→AV) (fun _=>.unk) (fun v _ ih i=>Nat.rec (motive:=fun _=>AV) v (fun j _=>ih j) i) l i
/-- The blocks of a slice's elements (slices,one cell each). -/
def rowsB (h:Hp) (b:Nat) (n:Nat):Nat→List Nat:=Nat.rec (motive:=fun _=>Nat→List Nat) (fun _=>[]) (fun _ ih i=>bk (cg h b i) :: ih (Nat.succ i)) n
/-- The builder's blocks: itself,its keys,entries,numbers,the code,each entry's bytes. -/
def nf (vs:List AV) (h:Hp):List Nat:=bk (nL vs 2) :: bk (cg h (bk (nL vs 2)) 0) :: bk (cg h (bk (nL vs 2)) 1) :: bk (cg h (bk (nL vs 2)) 2) :: bk (nL vs 4) :: rowsB h (bk (cg h (bk (nL vs 2)) 1)) (sln (cg h (bk (nL vs 2)) 1)) 0
def oc0:Oc:=⟨[],.unk⟩
def nxt (vs:List AV) (h:Hp):Hp:=reH 1 (nf vs h) 0 0 [0] [] oc0 h
def nxv (vs:List AV) (h:Hp):List AV:=vs.map (rn (sg 1 (nf vs h)))
/-- A row of twelve chars of which L count. -/
def Hu (L:Nat) (xs:List AV):Hp:=⟨1,T.set ⟨false,0,L,.nil,cellL xs 0⟩ .e 0,.e,.e,0,oc0⟩
/-- The run up to its first loop,of chars that are given; so many rounds. -/
def ex99 (r:Res) (k:List AV→Hp→Res):Res:=Res.rec (motive:=fun _=>Res) .fail (fun _ _=>.fail) (fun _ vs h=>k vs h) (fun _ _=>.fail) (fun p _ ih=>Bool.rec (motive:=fun _=>Res) .fail ih p) r
def st0 (xs:List AV):Res:=ex99 (s5P [.sl 0 0 12 1 none] (Hu 12 xs)) fun vs h=>.norm (nxv vs h) (nxt vs h)
/-- 1000,1001,.. d of them,then the first of them. -/
def can (d:Nat) (n:Nat):Nat→List AV:=Nat.rec (motive:=fun _=>Nat→List AV) (fun _=>[]) (fun _ ih j=>.int 16 (.ofNat (Bool.rec (motive:=fun _=>Nat) 1000 (Nat.add 1000 j) (Nat.blt j d))) :: ih (Nat.succ j)) n
def jnN (r:Res) (k:List AV→Hp→Res):Res:=Res.rec (motive:=fun _=>Res) .fail k (fun _ _ _=>.fail) (fun _ _=>.fail) (fun p _ ih=>.ask p ih) r
def stc (i d:Nat):Res:=jnN (st0 (can d 12 0)) fun vs h=>jnN (it body5 i vs h) fun vs h=>.norm (nxv vs h) (nxt vs h)
/-- The place of the j-th number's entry among the entries. -/
def kx (j:Nat):Nat:=Nat.rec (motive:=fun _=>Nat) 6 (fun i _=>Nat.add 11 i) j
/-- Places: chars; keys; the entries' bytes; the code's. -/
def upL {α:Type} (f:Nat→α) (n:Nat):List α→List α:=Nat.rec (motive:=fun _=>List α→List α) (fun l=>l) (fun i ih l=>ih (f i :: l)) n
def plc (i d:Nat):List (Nat×Nat):=upL (fun j=>(0,j)) 12 (upL (fun j=>(2,kx j)) d (upL (fun j=>(Nat.add 6 (kx j),1)) d (upL (fun j=>(Nat.add 6 (kx j),2)) d (upL (fun j=>(Nat.add 6 (kx j),3)) d (upL (fun j=>(Nat.add 6 (kx j),4)) d (upL (fun j=>(5,Nat.add 9 (Nat.mul 6 j))) i []))))))
/-- One place is put anew. -/
def put1 (p:Nat×Nat) (v:AV) (h:Hp):Hp:=Hp.rec (motive:=fun _=>Hp) (fun nb bs gs ms lo oc=>⟨nb,T.md (fun B=>Blk.rec (motive:=fun _=>Blk) (fun fr g lim df cs=>⟨fr,g,lim,df,T.md (fun _=>v) cs p.2⟩) B) bs p.1,gs,ms,lo,oc⟩) h
def rd1 (p:Nat×Nat) (h:Hp):Option AV:=Option.rec (motive:=fun _=>Option AV) none (fun B=>B.cs.get p.2) (h.bs.get p.1)
def puts (P:List (Nat×Nat)):List AV→Hp→Hp:=List.rec (motive:=fun _=>List AV→Hp→Hp) (fun _ h=>h) (fun p _ ih vs h=>List.rec (motive:=fun _=>Hp) h (fun v vs _=>put1 p v (ih vs h)) vs) P
def putz (P:List (Nat×Nat)):Hp→Hp:=List.rec (motive:=fun _=>Hp→Hp) (fun h=>h) (fun p _ ih h=>ih (put1 p .nilf h)) P
def rdz (P:List (Nat×Nat)):Hp→List (Option AV):=List.rec (motive:=fun _=>Hp→List (Option AV)) (fun _=>[]) (fun p _ ih h=>rd1 p h :: ih (put1 p .nilf h)) P
/-- The first block's bound. -/
def lim0 (L:Nat) (h:Hp):Hp:=Hp.rec (motive:=fun _=>Hp) (fun nb bs gs ms lo oc=>⟨nb,T.md (fun B=>Blk.rec (motive:=fun _=>Blk) (fun fr g _ df cs=>⟨fr,g,L,df,cs⟩) B) bs 0,gs,ms,lo,oc⟩) h
def S0 (i d:Nat):Hp:=putz (plc i d) (hOf (stc i d))
def sbT:AV:=.str 23 10956966084090815260342509131105871416374185281426186602
def vS (L i:Nat):List AV:=[.sl 0 0 L 1 none,.bool true,.ptr 1 0,sbT,.sl 5 0 (Nat.add 7 (Nat.mul 6 i)) 1 none,.nils,.int 63 (.ofNat i)]
def hS (L i d:Nat) (vals:List AV):Hp:=(lim0 L (puts (plc i d) vals (S0 i d))).wo oc0
def falses (n:Nat) (l:List Bool):List Bool:=Nat.rec (motive:=fun _=>List Bool) l (fun _ ih=>false :: ih) n
def nk (d:Nat):Nat:=Nat.rec (motive:=fun _=>Nat) 6 (fun i _=>Nat.add 11 i) d
/-- The ways of the look for the p-th of d numbers; for a new one. -/
def bits (d p:Nat):List Bool:=Bool.rec (motive:=fun _=>List Bool) (falses (nk d) []) (falses (kx p) [true]) (Nat.blt p d)
def rQ (L i d p:Nat) (vals:List AV):Res:=body5 (vS L i) ((hS L i d vals).wo ⟨bits d p,.unk⟩)
def dn (d p:Nat):Nat:=Bool.rec (motive:=fun _=>Nat) (Nat.succ d) d (Nat.blt p d)
def tlL (l:List AV):List AV:=List.rec (motive:=fun _=>List AV) [] (fun _ l _=>l) l
def okQ (L i d p:Nat) (vals:List AV):Res:=jnN (rQ L i d p vals) fun vs h=>ifB (reOk 1 (nf vs h) [0] [] h) (ifB (eqLs (tlL (nxv vs h)) (tlL (vS 0 (Nat.succ i)))) (ifB (eqHp (putz (plc (Nat.succ i) (dn d p)) (lim0 12 (nxt vs h))) (S0 (Nat.succ i) (dn d p))) (.ret (.bool true) H0) .fail) .fail) .fail
/-- The numbers of a list. -/
def intsO (l:List (Option AV)):(List Int→Res)→Res:=List.rec (motive:=fun _=>(List Int→Res)→Res) (fun k=>k []) (fun o _ ih k=>Option.rec (motive:=fun _=>Res) .fail (fun v=>cI v fun c x=>ifB (Nat.beq c 16) (ih fun l=>k (x :: l)) .fail) o) l
def natI (x:Int) (k:Nat→Res):Res:=Int.rec (motive:=fun _=>Res) k (fun _=>.fail) x
/-- Pairs of bytes that are told; bytes that are told. -/
def prsA (l:AV):(List (Nat×Nat)→Res)→Res:=
 AV.rec (motive:=fun _=>(List (Nat×Nat)→Res)→Res)
  (fun _=>.fail) (fun _ _=>.fail) (fun _ _ _=>.fail) (fun _ _ _=>.fail) (fun _=>.fail) (fun _ _ _=>.fail) (fun _=>.fail) (fun _ _ _ _ _ _=>.fail) (fun _=>.fail) (fun _=>.fail) (fun _ _ _ _=>.fail) (fun _=>.fail) (fun _ _ _ _ _ _=>.fail) (fun _=>.fail) (fun _ _=>.fail) (fun _ _ _=>.fail) (fun _ _ _=>.fail)
  (fun k=>k []) (fun v _ _ ih k=>cC v fun a b=>cI a fun _ a=>natI a fun a=>cI b fun _ b=>natI b fun b=>ih fun l=>k ((a,b) :: l)) l
def natsA (l:AV):(List Nat→Res)→Res:=
 AV.rec (motive:=fun _=>(List Nat→Res)→Res)
  (fun _=>.fail) (fun _ _=>.fail) (fun _ _ _=>.fail) (fun _ _ _=>.fail) (fun _=>.fail) (fun _ _ _=>.fail) (fun _=>.fail) (fun _ _ _ _ _ _=>.fail) (fun _=>.fail) (fun _=>.fail) (fun _ _ _ _=>.fail) (fun _=>.fail) (fun _ _ _ _ _ _=>.fail) (fun _=>.fail) (fun _ _=>.fail) (fun _ _ _=>.fail) (fun _ _ _=>.fail)
  (fun k=>k []) (fun v _ _ ih k=>cI v fun _ a=>natI a fun a=>ih fun l=>k (a :: l)) l
def lenL' {α:Type} (l:List α):Nat:=List.rec (motive:=fun _=>Nat) 0 (fun _ _ ih=>Nat.succ ih) l
def mapL' {α β:Type} (f:α→β) (l:List α) (t:List β):List β:=List.rec (motive:=fun _=>List β) t (fun a _ ih=>f a :: ih) l
/-- The key of a char. -/
def kW (p:Nat×Nat):Nat:=Nat.add 105 (Nat.mul 16777216 (Nat.add (Prod.fst p) (Nat.mul 256 (Prod.snd p))))
/-- What the places hold,by the chars,the different ones among them (as bytes),each one's number. -/
def valW (xs:List Int) (ws:List (Nat×Nat)) (ys:List Nat):List AV:=mapL' (fun x=>.int 16 x) xs (mapL' (fun p=>.str 5 (kW p)) ws (mapL' (fun _=>.int 8 (.ofNat 0)) ws (mapL' (fun _=>.int 8 (.ofNat 0)) ws (mapL' (fun p=>.int 8 (.ofNat (Prod.fst p))) ws (mapL' (fun p=>.int 8 (.ofNat (Prod.snd p))) ws (mapL' (fun y=>.int 8 (.ofNat y)) ys []))))))
def wv (p:Nat×Nat):Nat:=256 * p.1 + p.2
/-- Where a number stands in a list. -/
def idxN (x:Nat):List Nat→Nat
 | []=>0
 | y :: l=>if y = x then 0 else idxN x l + 1
/-- The different ones in their order,and each one's number of the pool. -/
def ded:List Nat→List Nat→List Nat→List Nat×List Nat
 | [],ws,ys=>(ws,ys)
 | x :: l,ws,ys=>ded l (if x∈ws then ws else ws ++ [x]) (ys ++ [kx (idxN x ws) + 1])
def patQ (xs:List Int) (ws:List (Nat×Nat)) (ys:List Nat):Bool:=decide ((∀ x∈xs,0≤x∧x < 65536)∧(∀ p∈ws,p.1 < 256∧p.2 < 256)∧ded (xs.map Int.toNat) [] [] = (ws.map wv,ys))
def tkL' {α:Type} (n:Nat):List α→List α:=Nat.rec (motive:=fun _=>List α→List α) (fun _=>[]) (fun _ ih l=>List.rec (motive:=fun _=>List α) [] (fun a l _=>a :: ih l) l) n
def t5th (s:AV):AV:=tl1 (tl1 (tl1 (tl1 (tl1 s))))
def limO (h:Hp) (L:Nat):Bool:=Option.rec (motive:=fun _=>Bool) false (fun B=>Nat.beq B.lim L) (h.bs.get 0)
/-- The builder's loop,by what it comes to. -/
def J1:Nat→Fun:=fun b0 vs h=>ifB (Nat.ble b0 1) (ifB (reOk 1 (nf vs h) [0] [] h) (ifB (eqLs (nxv vs h) (vS (sln (nL vs 0)) 0)) (ifB (limO (nxt vs h) (sln (nL vs 0))) (ifB (eqHp (putz (plc 0 0) (lim0 12 (nxt vs h))) (S0 0 0))
 (intsO (rdz (plc 0 0) (lim0 12 (nxt vs h))) fun xs=>prsA (fs1 (t5th (ocS h))) fun ws=>natsA (fs1 (tl1 (t5th (ocS h)))) fun ys=>cS (fs1 (tl1 (tl1 (t5th (ocS h))))) fun n N=>ifB (Nat.beq (lenL' ys) (sln (nL vs 0))) (ifB (Nat.ble (sln (nL vs 0)) 12)
  (.ask (patQ (tkL' (sln (nL vs 0)) xs) ws ys) (.exit 0 (tkL' 6 (vS (sln (nL vs 0)) (sln (nL vs 0)))) ((hS (sln (nL vs 0)) (sln (nL vs 0)) (lenL' ws) (valW xs ws ys)).wo ⟨bitsL n N,ocS h⟩))) .fail) .fail) .fail) .fail) .fail) .fail) .fail
def s5J:Fun:=b5J s8 s10 s14 s16 s19 s20 s22 s24 s25 s26 s27 J1 wantF
def t5K (b0:Nat) (a c:AV) (b:Hp):Res:=b5K s8 s10 s14 s16 s19 s20 s22 s24 s25 s26 s27 J1 wantF b0 a c b
def anL (z:Bool) (l:List Bool):Bool:=List.rec (motive:=fun _=>Bool) z (fun p _ ih=>Bool.rec (motive:=fun _=>Bool) false ih p) l
def apL {α:Type} (l m:List α):List α:=List.rec (motive:=fun _=>List α) m (fun a _ ih=>a :: ih) l
/-- For each number below n. -/
def eachL {α:Type} (f:Nat→List α) (n:Nat):List α→List α:=Nat.rec (motive:=fun _=>List α→List α) (fun m=>m) (fun i ih m=>ih (apL (f i) m)) n
def avT (l:List AV):AV:=List.rec (motive:=fun _=>AV) .nil (fun a _ ih=>.cons a ih) l
/-- The number of the j-th entry of a number. -/
def Kn (j:Nat):Nat:=Nat.succ (kx j)
/-- The ways of the looks behind the loop,up to the one for Code. -/
def btab:List AV:=[.str 268 28269553036454149273332760011886696253239742350009903329945699220681916421,.str 358 1093625362391505962186251113558810682676584715446606218212885303204976499599687961611756588511526917,.str 376 143343663499379469475676305956380433799785311823017570233599302461682679755530300504376159569382855409669,.str 394 18788340662190665823115844774314696219005460391266558965658327772257672200916867547709591987078149624255479813,.str 412 2462625387274654950767440006258975862817483704404090416746768337765357610718575663213391640930307227550414249394181,.str 430 322781234760863573706989896500376484291213224103652939103832419567580952752105149328705669160017228929487896496593436677,.str 448 42307582002575910332922579714097346549017899709713998034217522897561970639123926132812109468141778230245837569601494931472389,.str 466 5545339388241629719156828368286167406872874150751633150340959161229242615611251246079948812208279156194782421922807143657948315653,.str 484 726838724295606890549323807888004534353641360687318060281490199180639288113397923326191050713763565560762521606266177933534601628614661,.str 502 95268205270873786358080970147496530326800480428008152797215483387004752771599292606210513399154418065180265231976520474104247304665780191237,.str 520 12486994201263968925526388919172665222994392570659884603436627838501486955279062480481224412253967884639307724485626491581791902717153141225160709,.str 538 1636695303948070935006594848413799576108321023021532394741645684048066898202337277441635046162952078575443342063780035504608628272942696526664263794693,.str 556 214524926879081553593184399971293538039669853129478294043576983099548224481176751628829988770670454843040509730983776813660062124991145119142938384097345541]
def offs (n:Nat) (m:List AV):List AV:=upL (fun k=>.int 63 (.ofNat (Nat.mul 5 (Nat.succ k)))) n m
/-- What a run of L chars,d of them different,is told. -/
def told (L d:Nat) (x:Nat→Int) (hi lo y:Nat→Nat) (n X:Nat):AV:=avT [avT (offs (Nat.add 32 d) (upL (fun j=>.int 63 (.ofNat (Nat.add (Nat.mul 5 (Kn j)) 2))) d [])),
 avT [.cons (.int 63 (.ofNat 5)) (.bool false),.cons (.int 63 (.ofNat 8)) (.bool false),.cons (.int 63 (.ofNat 13)) (.bool true),.cons (.int 63 (.ofNat 55)) (.bool false),.cons (.int 63 (.ofNat 71)) (.bool false),.cons (.int 63 (.ofNat 23)) (.bool false)],
 avT (upL (fun j=>.cons (.int 63 (.ofNat (Nat.add 7 (Nat.mul 6 j)))) (.int 63 (.ofNat (y j)))) L []),avT (upL (fun j=>.int 16 (x j)) L []),.str n X,avT (upL (fun j=>.cons (.int 8 (.ofNat (hi j))) (.int 8 (.ofNat (lo j)))) d []),avT (upL (fun j=>.int 8 (.ofNat (y j))) L []),nL btab d]
/-- A number of the pool as it is read from an instruction. -/
def qA (y:Nat):Bool:=eqI (wrapC 63 (.ofNat (Nat.land (toU 63 (wrapC 63 (.ofNat (Nat.lor 0 (toU 63 (wrapC 63 (.ofNat y))))))) 65535))) (.ofNat y)
/-- A char's bytes as an entry's number. -/
def numE (hi lo:Nat):Int:=wrapC 63 (wrapC 31 (wrapC 63 (.ofNat (Nat.lor (toU 63 (wrapC 63 (Int.mul (wrapC 63 (.ofNat (Nat.lor 0 (toU 63 (wrapC 63 (.ofNat hi)))))) (.ofNat 256)))) (toU 63 (wrapC 63 (.ofNat lo)))))))
/-- The pool's tags. -/
def tagL (l:List Nat):Nat→List (Nat×Int)→List (Nat×Int):=List.rec (motive:=fun _=>Nat→List (Nat×Int)→List (Nat×Int)) (fun _ m=>m) (fun t _ ih k m=>(Nat.mul 5 k,Int.ofNat t) :: ih (Nat.succ k) m) l
def threes (n:Nat) (m:List Nat):List Nat:=Nat.rec (motive:=fun _=>List Nat) m (fun _ ih=>3 :: ih) n
def tags (d:Nat):List Nat:=apL [1,7,1,1,12,10,3,1,1,12,10] (threes (Nat.sub d 1) [1,1,12,10,1,7,1,1,12,9,1,7,1,1,12,10,1,1,1,7,1,7])
def CL (d:Nat) (hi lo:Nat→Nat):List (Nat×Int):=tagL (tags d) 1 (upL (fun j=>(Nat.add (Nat.mul 5 (Kn j)) 2,numE (hi j) (lo j))) d [])
def o0 (y:Nat):Nat:=Nat.add (Nat.add 0 (Nat.mul y 5)) 0
def o2 (y:Nat):Nat:=Nat.add (Nat.add 0 (Nat.mul y 5)) 2
section
variable (L d:Nat) (x:Nat→Int) (hi lo y:Nat→Nat) (n X:Nat)
def cq (y:Nat) (m:List Bool):List Bool:=Nat.blt y (Nat.add 33 d) :: memO (o0 y) (CL d hi lo) :: beqB (eqI (selI (o0 y) (CL d hi lo)) (.ofNat 8)) false :: m
def tq (y:Nat):List Bool:=[beqB (ltI (.ofNat y) (.ofNat 1)) false,beqB (bnot (ltI (.ofNat y) (.ofNat (Nat.add 33 d)))) false,Nat.blt y (Nat.add 33 d),memO (o0 y) (CL d hi lo),beqB (eqI (selI (o0 y) (CL d hi lo)) (.ofNat 3)) true]
/-- A char's bits in a word,s bits shifted. -/
def prt (c:Int) (s:Nat):Nat:=toU 64 (wrapC 64 (.ofNat (Nat.land (toU 64 (wrapC 64 (Int.mul (wrapC 64 (wrapC 63 c)) (.ofNat (Nat.pow 2 s))))) (Nat.mul 65535 (Nat.pow 2 s)))))
/-- A word of chars from the b-th on,r of them behind the first. -/
def wrd (c:Nat→Int) (b r:Nat):Int:=Nat.rec (motive:=fun _=>Int) (wrapC 64 (.ofNat (Nat.lor 0 (prt (c b) 0))))
 (fun i ih=>wrapC 64 (.ofNat (Nat.lor (toU 64 (wrapC 64 (.ofNat (Nat.land (toU 64 ih) (Nat.sub 18446744073709551615 (Nat.mul 65535 (Nat.pow 2 (Nat.mul 16 (Nat.succ i))))))))) (prt (c (Nat.add b (Nat.succ i))) (Nat.mul 16 (Nat.succ i)))))) r
/-- The chars of the builder's m-th text. -/
def chs (m j:Nat):Int:=Bool.rec (motive:=fun _=>Int) (x j) (wrapC 16 (selI (o2 (y j)) (CL d hi lo))) (Nat.beq (Nat.succ j) m)
def mn (a b:Nat):Nat:=Bool.rec (motive:=fun _=>Nat) b a (Nat.ble a b)
def hq (m k:Nat):Bool:=eqI (wrapC 16 (shrI (wrd (chs d x hi lo y m) (Nat.mul 4 (Nat.div k 4)) (mn 3 (Nat.sub (Nat.sub m 1) (Nat.mul 4 (Nat.div k 4))))) (Nat.mul 16 (Nat.mod k 4)))) (x k)
def rq (j:Nat):List Bool:=qA (y j) :: cq d hi lo (y j) (Nat.blt (y j) (Nat.add 33 d) :: memO (o2 (y j)) (CL d hi lo) :: qA (y j) :: upL (hq d x hi lo y j) j [])
def lq (m:List Bool):List Bool:=Nat.ble n n :: bnot (Nat.beq n 0) :: Nat.ble (Nat.mul n 1) 140737488355328 :: Nat.ble n 9223372036854775807 :: m
/-- What is asked in a run. -/
def qsL:List Bool:=patQ (upL (fun j=>x j) L []) (upL (fun j=>(hi j,lo j)) d []) (upL (fun j=>y j) L []) :: encQ (upL (fun j=>x j) L []) n X :: upL (fun j=>beqB (Nat.beq (kW (hi j,lo j)) 435476710261) false) d (upL (fun j=>qA (y j)) L (eachL (fun j=>tq d hi lo (y j)) L (upL (fun j=>qA (y j)) L (eachL (fun j=>cq d hi lo (y j) []) L (eachL (rq d x hi lo y) L (upL (hq d x hi lo y L) L (encQ (upL (fun j=>x j) L []) n X :: beqB (ltI (.ofNat 4096) (wrapC 63 (Int.add (.ofNat 0) (.ofNat n)))) false :: lq n (lq n [Nat.ble n n,Nat.blt X (Nat.pow 256 n),Nat.ble n n,Nat.blt X (Nat.pow 256 n)]))))))))
end
/-- What the kernel reckons for L chars,d of them different. -/
def BQ (L d:Nat):Prop:=∀ (x:Nat→Int) (hi lo y:Nat→Nat) (n X:Nat),isT (s5J [.sl 0 0 L 1 none] ((Hu L (upL (fun j=>.int 16 (x j)) 12 [])).wo ⟨[],told L d x hi lo y n X⟩)) = anL (sEq n X n X) (qsL L d x hi lo y n X)
def upN {α:Type} (d:Nat) (v:α) (k:Nat→α) (j:Nat):α:=Bool.rec (motive:=fun _=>α) (k j) v (Nat.beq j d)
/-- The bytes of a char as a number,the highest first. -/
def e4 (c:Nat) (x:Int):Int:=Nat.rec (motive:=fun _=>Int) (wrapC 8 (shrI (wrapC 63 x) 24)) (fun c _=>Nat.rec (motive:=fun _=>Int) (wrapC 8 (shrI (wrapC 63 x) 16)) (fun c _=>Nat.rec (motive:=fun _=>Int) (wrapC 8 (shrI (wrapC 63 x) 8)) (fun _ _=>wrapC 8 (wrapC 63 x)) c) c) c
def bsN (x:Int):Nat:=Nat.add (Int.toNat (wrapC 8 (shrI (wrapC 63 x) 24))) (Nat.mul 256 (Nat.add (Int.toNat (wrapC 8 (shrI (wrapC 63 x) 16))) (Nat.mul 256 (Nat.add (Int.toNat (wrapC 8 (shrI (wrapC 63 x) 8))) (Nat.mul 256 (Nat.add (Int.toNat (wrapC 8 (wrapC 63 x))) 0))))))
def kN (x:Int):Nat:=Nat.add 105 (Nat.shiftLeft (bsN x) 8)
def q4 (x:Int) (m:List Bool):List Bool:=inB (wrapC 8 (shrI (wrapC 63 x) 24)) :: inB (wrapC 8 (shrI (wrapC 63 x) 16)) :: inB (wrapC 8 (shrI (wrapC 63 x) 8)) :: inB (wrapC 8 (wrapC 63 x)) :: m
/-- What is asked in a round of the builder's loop. -/
def rqs (d p:Nat) (x:Int) (k:Nat→Nat):List Bool:=q4 x (q4 x (Nat.beq (bsN x) (bsN x) :: q4 x (Nat.beq (bsN x) (bsN x) :: q4 x (Nat.beq (bsN x) (bsN x) :: Bool.rec (motive:=fun _=>List Bool) (upL (fun j=>beqB (Nat.beq (k j) (kN x)) false) d []) (upL (fun j=>beqB (Nat.beq (k j) (kN x)) false) p [beqB (Nat.beq (k p) (kN x)) true]) (Nat.blt p d)))))
def valF (i d:Nat) (x:Nat→Int) (k:Nat→Nat) (e:Nat→Nat→Int) (y:Nat→Nat):List AV:=upL (fun j=>.int 16 (x j)) 12 (upL (fun j=>.str 5 (k j)) d (upL (fun j=>.int 8 (e 0 j)) d (upL (fun j=>.int 8 (e 1 j)) d (upL (fun j=>.int 8 (e 2 j)) d (upL (fun j=>.int 8 (e 3 j)) d (upL (fun j=>.int 8 (.ofNat (y j))) i []))))))
def soL (l:List AV):List (Option AV):=List.rec (motive:=fun _=>List (Option AV)) [] (fun v _ ih=>some v :: ih) l
def limB (h:Hp):Option Nat:=Option.rec (motive:=fun _=>Option Nat) none (fun B=>some B.lim) (h.bs.get 0)
/-- What the kernel reckons of a round: behind i chars,d of them different,the next one is the p-th of them (a new one: p is d). -/
def FQ (i d p : Nat) : Prop := ∀ (M : Nat) (x : Nat → Int) (k : Nat → Nat) (e : Nat → Nat → Int) (y : Nat → Nat),
  (isT (okQ (Nat.add M (Nat.succ i)) i d p (valF i d x k e y)), rdz (plc (Nat.succ i) (dn d p)) (lim0 12 (nxt (vOf (rQ (Nat.add M (Nat.succ i)) i d p (valF i d x k e y))) (hOf (rQ (Nat.add M (Nat.succ i)) i d p (valF i d x k e y))))), nL (nxv (vOf (rQ (Nat.add M (Nat.succ i)) i d p (valF i d x k e y))) (hOf (rQ (Nat.add M (Nat.succ i)) i d p (valF i d x k e y)))) 0, limB (nxt (vOf (rQ (Nat.add M (Nat.succ i)) i d p (valF i d x k e y))) (hOf (rQ (Nat.add M (Nat.succ i)) i d p (valF i d x k e y)))))
   = (anL true (rqs d p (x i) k), soL (valF (Nat.succ i) (dn d p) x (upN d (kN (x i)) k) (fun c => upN d (e4 c (x i)) (e c)) (upN i (Kn p) y)), .sl 0 0 (Nat.add M (Nat.succ i)) 1 none, some (Nat.add M (Nat.succ i)))
theorem md8 (a b:Nat) (h:a < 256):(a + 256 * b) % 256 = a:=by omega
theorem dv8 (a b:Nat) (h:a < 256):(a + 256 * b) / 256 = b:=by omega
/-- A code point as a text. -/
theorem iStr_u (c:Nat) (hc:c < 1114112) (hs:c < 55296∨57343 < c):∃ X,(∀ k:AV→Res,iStr (.int 31 (c:Int)) k = k (.str (utfC c).length X))∧bytesL (utfC c).length X = AM.avL (Bs (utfC c)):=by
 have hr:runeC (c:Int) = c:=by
  show Bool.rec (motive:=fun _=>Nat) (Bool.rec (motive:=fun _=>Nat) 65533 (Bool.rec (motive:=fun _=>Nat) 65533 c (Nat.ble c 1114111)) (Nat.ble 57344 c)) c (Nat.blt c 55296) = c
  by_cases h1:c < 55296
  ·rw [(blt_iff _ _).2 h1]
  ·have h2:Nat.blt c 55296 = false:=by rw [Bool.eq_false_iff,ne_eq,blt_iff]; exact h1
   rw [h2,(ble_iff _ _).2 (show 57344≤c by omega),(ble_iff _ _).2 (show c≤1114111 by omega)]
 have he:∀ k:AV→Res,iStr (.int 31 (c:Int)) k = ifB (Nat.blt c 128) (k (.str 1 c))
  (ifB (Nat.blt c 2048) (k (.str 2 (Nat.add (Nat.add 192 (Nat.div c 64)) (Nat.mul 256 (Nat.add 128 (Nat.mod c 64))))))
   (ifB (Nat.blt c 65536) (k (.str 3 (Nat.add (Nat.add 224 (Nat.div c 4096)) (Nat.mul 256 (Nat.add (Nat.add 128 (Nat.mod (Nat.div c 64) 64)) (Nat.mul 256 (Nat.add 128 (Nat.mod c 64))))))))
    (k (.str 4 (Nat.add (Nat.add 240 (Nat.div c 262144)) (Nat.mul 256 (Nat.add (Nat.add 128 (Nat.mod (Nat.div c 4096) 64)) (Nat.mul 256 (Nat.add (Nat.add 128 (Nat.mod (Nat.div c 64) 64)) (Nat.mul 256 (Nat.add 128 (Nat.mod c 64))))))))))))  := fun k=>by
  have e0:iStr (.int 31 (c:Int)) k = (fun c=>ifB (Nat.blt c 128) (k (.str 1 c))
   (ifB (Nat.blt c 2048) (k (.str 2 (Nat.add (Nat.add 192 (Nat.div c 64)) (Nat.mul 256 (Nat.add 128 (Nat.mod c 64))))))
   (ifB (Nat.blt c 65536) (k (.str 3 (Nat.add (Nat.add 224 (Nat.div c 4096)) (Nat.mul 256 (Nat.add (Nat.add 128 (Nat.mod (Nat.div c 64) 64)) (Nat.mul 256 (Nat.add 128 (Nat.mod c 64))))))))
    (k (.str 4 (Nat.add (Nat.add 240 (Nat.div c 262144)) (Nat.mul 256 (Nat.add (Nat.add 128 (Nat.mod (Nat.div c 4096) 64)) (Nat.mul 256 (Nat.add (Nat.add 128 (Nat.mod (Nat.div c 64) 64)) (Nat.mul 256 (Nat.add 128 (Nat.mod c 64))))))))))))) (runeC (c:Int)):=rfl
  rw [e0,hr]
 have no:∀ {a b:Nat},¬ a < b→Nat.blt a b = false:=fun h=>by rw [Bool.eq_false_iff,ne_eq,blt_iff]; exact h
 have J8:∀ {a b:Nat},a = b→AV.int 8 (Int.ofNat a) = .int 8 (b:Int):=fun h=>by rw [h]; rfl
 by_cases h1:c < 128
 ·have q:utfC c = [c]:=by unfold utfC; rw [if_pos h1]
  rw [q]
  refine ⟨c,fun k=>by rw [he,(blt_iff _ _).2 h1]; rfl,?_⟩
  show AV.cons (.int 8 (Int.ofNat (c % 256))) .nil = .cons (.int 8 (c:Int)) .nil
  rw [J8 (show c % 256 = c by omega)]
 by_cases h2:c < 2048
 ·have q:utfC c = [192 + c / 64,128 + c % 64]:=by unfold utfC; rw [if_neg h1,if_pos h2]
  rw [q]
  refine ⟨_,fun k=>by rw [he,no h1,(blt_iff _ _).2 h2]; rfl,?_⟩
  show AV.cons (.int 8 (Int.ofNat ((192 + c / 64 + 256 * (128 + c % 64)) % 256))) (.cons (.int 8 (Int.ofNat ((192 + c / 64 + 256 * (128 + c % 64)) / 256 % 256))) .nil) = .cons (.int 8 ((192 + c / 64:Nat):Int)) (.cons (.int 8 ((128 + c % 64:Nat):Int)) .nil)
  rw [J8 (show (192 + c / 64 + 256 * (128 + c % 64)) % 256 = 192 + c / 64 by exact md8 _ _ (by omega)),J8 (show (192 + c / 64 + 256 * (128 + c % 64)) / 256 % 256 = 128 + c % 64 by rw [dv8 _ _ (by omega)]; first | exact md8 _ _ (by omega) | omega)]
 by_cases h3:c < 65536
 ·have q:utfC c = [224 + c / 4096,128 + c / 64 % 64,128 + c % 64]:=by unfold utfC; rw [if_neg h1,if_neg h2,if_pos h3]
  rw [q]
  refine ⟨_,fun k=>by rw [he,no h1,no h2,(blt_iff _ _).2 h3]; rfl,?_⟩
  show AV.cons (.int 8 (Int.ofNat ((224 + c / 4096 + 256 * (128 + c / 64 % 64 + 256 * (128 + c % 64))) % 256))) (.cons (.int 8 (Int.ofNat ((224 + c / 4096 + 256 * (128 + c / 64 % 64 + 256 * (128 + c % 64))) / 256 % 256))) (.cons (.int 8 (Int.ofNat ((224 + c / 4096 + 256 * (128 + c / 64 % 64 + 256 * (128 + c % 64))) / 256 / 256 % 256))) .nil)) = .cons (.int 8 ((224 + c / 4096:Nat):Int)) (.cons (.int 8 ((128 + c / 64 % 64:Nat):Int)) (.cons (.int 8 ((128 + c % 64:Nat):Int)) .nil))
  rw [J8 (show (224 + c / 4096 + 256 * (128 + c / 64 % 64 + 256 * (128 + c % 64))) % 256 = 224 + c / 4096 by exact md8 _ _ (by omega)),J8 (show (224 + c / 4096 + 256 * (128 + c / 64 % 64 + 256 * (128 + c % 64))) / 256 % 256 = 128 + c / 64 % 64 by rw [dv8 _ _ (by omega)]; first | exact md8 _ _ (by omega) | omega),J8 (show (224 + c / 4096 + 256 * (128 + c / 64 % 64 + 256 * (128 + c % 64))) / 256 / 256 % 256 = 128 + c % 64 by rw [dv8 _ _ (by omega),dv8 _ _ (by omega)]; first | exact md8 _ _ (by omega) | omega)]
 ·have q:utfC c = [240 + c / 262144,128 + c / 4096 % 64,128 + c / 64 % 64,128 + c % 64]:=by unfold utfC; rw [if_neg h1,if_neg h2,if_neg h3]
  rw [q]
  refine ⟨_,fun k=>by rw [he,no h1,no h2,no h3]; rfl,?_⟩
  show AV.cons (.int 8 (Int.ofNat ((240 + c / 262144 + 256 * (128 + c / 4096 % 64 + 256 * (128 + c / 64 % 64 + 256 * (128 + c % 64)))) % 256))) (.cons (.int 8 (Int.ofNat ((240 + c / 262144 + 256 * (128 + c / 4096 % 64 + 256 * (128 + c / 64 % 64 + 256 * (128 + c % 64)))) / 256 % 256))) (.cons (.int 8 (Int.ofNat ((240 + c / 262144 + 256 * (128 + c / 4096 % 64 + 256 * (128 + c / 64 % 64 + 256 * (128 + c % 64)))) / 256 / 256 % 256))) (.cons (.int 8 (Int.ofNat ((240 + c / 262144 + 256 * (128 + c / 4096 % 64 + 256 * (128 + c / 64 % 64 + 256 * (128 + c % 64)))) / 256 / 256 / 256 % 256))) .nil))) = .cons (.int 8 ((240 + c / 262144:Nat):Int)) (.cons (.int 8 ((128 + c / 4096 % 64:Nat):Int)) (.cons (.int 8 ((128 + c / 64 % 64:Nat):Int)) (.cons (.int 8 ((128 + c % 64:Nat):Int)) .nil)))
  rw [J8 (show (240 + c / 262144 + 256 * (128 + c / 4096 % 64 + 256 * (128 + c / 64 % 64 + 256 * (128 + c % 64)))) % 256 = 240 + c / 262144 by exact md8 _ _ (by omega)),J8 (show (240 + c / 262144 + 256 * (128 + c / 4096 % 64 + 256 * (128 + c / 64 % 64 + 256 * (128 + c % 64)))) / 256 % 256 = 128 + c / 4096 % 64 by rw [dv8 _ _ (by omega)]; first | exact md8 _ _ (by omega) | omega),J8 (show (240 + c / 262144 + 256 * (128 + c / 4096 % 64 + 256 * (128 + c / 64 % 64 + 256 * (128 + c % 64)))) / 256 / 256 % 256 = 128 + c / 64 % 64 by rw [dv8 _ _ (by omega),dv8 _ _ (by omega)]; first | exact md8 _ _ (by omega) | omega),J8 (show (240 + c / 262144 + 256 * (128 + c / 4096 % 64 + 256 * (128 + c / 64 % 64 + 256 * (128 + c % 64)))) / 256 / 256 / 256 % 256 = 128 + c % 64 by rw [dv8 _ _ (by omega),dv8 _ _ (by omega),dv8 _ _ (by omega)]; first | exact md8 _ _ (by omega) | omega)]
/-- string(r) is put behind a slice that grows. -/
theorem pushR {h:Hp} {N:Nat} {u:AV} {acc:List Nat} (hN:N≤h.nb) (hw:Wf h) (hu:Gr h N u (Bs acc)) (ha:acc.length≤90000) (c:Nat) (hc:c < 1114112) (hs:c < 55296∨57343 < c):
  ∃ u' h',(∀ k:AV→Hp→Res,(iStr (.int 31 (c:Int)) fun j=>apd h 1 1 u j k) = k u' h')∧Gr h' N u' (Bs (acc ++ utfC c))∧To (fun b=>N≤b) h h'∧Wf h'∧N≤h'.nb∧h'.nb≤h.nb + 2:=by
 obtain ⟨X,e1,e2⟩:=iStr_u c hc hs
 have ul:=utf_len c
 obtain ⟨u',h',q1,q2,q3,q4⟩:=apd_grS (y:=.str (utfC c).length X) (by_:=1) (m:=Bs (utfC c)) hN hw hu (Bs_one _) (fun k=>by
  show ifB (Nat.beq 1 1) (k (utfC c).length (bytesL (utfC c).length X)) .fail = _
  rw [e2,Bs_len]; rfl) (by rw [Bs_len,Bs_len]; omega) (by rw [Bs_len,Bs_len]; omega)
 rw [← Bs_app] at q2
 exact ⟨u',h',fun k=>by rw [e1,q1],q2,q3,q3.wf hw,Nat.le_trans hN q3.nb,by omega⟩
theorem stepG {b0:Nat} {F:List AV→Hp→Res} {vs vs':List AV} {h h':Hp} {R:Res} (e:F vs h = .norm vs' h') (hg:∃ m,Goes b0 F m vs' h' R):∃ m,Goes b0 F m vs h R:=by
 obtain ⟨m,hg⟩:=hg
 exact ⟨m + 1,.step (by rw [e]; rfl) hg⟩
theorem loopW {h0:Hp} {N b0:Nat} {P:Nat→Prop} {v c1 c2 c3 c4:AV} {t:List Nat} (hv:Sl h0 P v (U t)) (hP:∀ b,P b→¬ N≤b) (hc:∀ x∈t,x < 65536) (hl:t.length≤1000):
  ∀ (f i:Nat) (h:Hp) (u:AV) (acc:List Nat),t.length - i≤f→i≤t.length→acc.length≤4 * i→Gr h N u (Bs acc)→N≤h.nb→Wf h→To (fun b=>N≤b) h0 h →
  ∃ u' h',(∀ R,(∃ m,Goes b0 body6 m [v,c1,c2,c3,c4,u',.int 63 (t.length:Int)] h' R)→∃ m,Goes b0 body6 m [v,c1,c2,c3,c4,u,.int 63 (i:Int)] h R)∧Gr h' N u' (Bs (acc ++ outC (t.drop i)))∧To (fun b=>N≤b) h0 h'∧Wf h'∧h'.nb≤h.nb + 2 * (t.length - i):=by
 have stop:∀ (i:Nat) (h:Hp) (u:AV) (acc:List Nat),¬ i < t.length→i≤t.length→Gr h N u (Bs acc)→Wf h→To (fun b=>N≤b) h0 h →
   ∃ u' h',(∀ R,(∃ m,Goes b0 body6 m [v,c1,c2,c3,c4,u',.int 63 (t.length:Int)] h' R)→∃ m,Goes b0 body6 m [v,c1,c2,c3,c4,u,.int 63 (i:Int)] h R)∧Gr h' N u' (Bs (acc ++ outC (t.drop i)))∧To (fun b=>N≤b) h0 h'∧Wf h'∧h'.nb≤h.nb + 2 * (t.length - i):=by
  intro i h u acc hi hil hu hw ht
  have hil:i = t.length:=by omega
  subst hil
  rw [List.drop_eq_nil_of_le (Nat.le_refl _)]
  exact ⟨u,h,fun R hg=>hg,by simpa [outC] using hu,ht,hw,Nat.le_add_right _ _⟩
 intro f
 induction f with
 | zero=>intro i h u acc hf hi ha hu hN hw ht; exact stop i h u acc (by omega) hi hu hw ht
 | succ f ih=>
  intro i h u acc hf hi ha hu hN hw ht
  by_cases hin:i < t.length
  ·have e1:(i:Int) < (t.length:Int):=by omega
   have e6:wrapC 63 ((i:Int) + 1) = ((i + 1:Nat):Int):=s1n i (by omega)
   have e7:wrapC 63 (((i + 1:Nat):Int) + 1) = ((i + 2:Nat):Int):=s1n (i + 1) (by omega)
   have hv':=hv.to ht hP
   have len:=fun k=>lenL_sl hv' k
   obtain ⟨p,ix,ld⟩:=ix_sl2 hv' i (by rw [U_len]; exact hin)
   have g:(U t)[i]'(by rw [U_len]; exact hin) = .int 16 (t[i]:Int):=by simp [U]
   rw [g] at ld
   have hci:=hc _ (List.getElem_mem hin)
   have hd:t.drop i = t[i] :: t.drop (i + 1):=List.drop_eq_getElem_cons hin
   generalize t[i] = c at *
   have c31:=w31n c (by omega)
      -- one char
   have single:∀ (u':AV) (h':Hp),body6 [v,c1,c2,c3,c4,u,.int 63 (i:Int)] h = .norm [v,c1,c2,c3,c4,u',.int 63 ((i + 1:Nat):Int)] h'→Gr h' N u' (Bs (acc ++ loneC c))→To (fun b=>N≤b) h h'→Wf h'→N≤h'.nb→h'.nb≤h.nb + 2→outC (t.drop i) = loneC c ++ outC (t.drop (i + 1))→(loneC c).length≤4 →
     ∃ u' h',(∀ R,(∃ m,Goes b0 body6 m [v,c1,c2,c3,c4,u',.int 63 (t.length:Int)] h' R)→∃ m,Goes b0 body6 m [v,c1,c2,c3,c4,u,.int 63 (i:Int)] h R)∧Gr h' N u' (Bs (acc ++ outC (t.drop i)))∧To (fun b=>N≤b) h0 h'∧Wf h'∧h'.nb≤h.nb + 2 * (t.length - i):=by
    intro u' h' e g1 g2 g3 g4 g5 ho hll
    obtain ⟨u2,h2,q1,q2,q3,q4,q5⟩:=ih (i + 1) h' u' (acc ++ loneC c) (by omega) (by omega) (by rw [List.length_append]; omega) g1 g4 g3 (ht.trans g2)
    exact ⟨u2,h2,fun R hg=>stepG e (q1 R hg),by rw [ho,← List.append_assoc]; exact q2,q3,q4,by omega⟩
   have quest:(55296≤c∧c < 57344)→(∀ (u':AV) (h':Hp),(∀ k:AV→Hp→Res,(iStr (.int 31 63) fun j=>apd h 1 1 u j k) = k u' h')→body6 [v,c1,c2,c3,c4,u,.int 63 (i:Int)] h = .norm [v,c1,c2,c3,c4,u',.int 63 ((i + 1:Nat):Int)] h')→outC (t.drop i) = loneC c ++ outC (t.drop (i + 1)) →
     ∃ u' h',(∀ R,(∃ m,Goes b0 body6 m [v,c1,c2,c3,c4,u',.int 63 (t.length:Int)] h' R)→∃ m,Goes b0 body6 m [v,c1,c2,c3,c4,u,.int 63 (i:Int)] h R)∧Gr h' N u' (Bs (acc ++ outC (t.drop i)))∧To (fun b=>N≤b) h0 h'∧Wf h'∧h'.nb≤h.nb + 2 * (t.length - i):=by
    intro hs hrun ho
    obtain ⟨u',h',p1,p2,p3,p4,p5,p6⟩:=pushR hN hw hu (by omega) 63 (by omega) (by omega)
    have hlo:loneC c = [63]:=by unfold loneC; rw [if_pos hs]
    have hu63:utfC 63 = [63]:=rfl
    rw [hu63,← hlo] at p2
    exact single u' h' (hrun u' h' p1) p2 p3 p4 p5 p6 ho (by rw [hlo]; simp)
   by_cases hhi:55296≤c∧c < 56320
   ·have hsu:55296≤c∧c < 57344:=⟨hhi.1,by omega⟩
    have a1:¬ (c:Int) < 55296:=by omega
    have a2:¬ (57343:Int) < (c:Int):=by omega
    have a3:(c:Int) < 56320:=by omega
    by_cases h1:i + 1 < t.length
    ·have e2:((i + 1:Nat):Int) < (t.length:Int):=by omega
     obtain ⟨p',ix',ld'⟩:=ix_sl2 hv' (i + 1) (by rw [U_len]; exact h1)
     have g':(U t)[i + 1]'(by rw [U_len]; exact h1) = .int 16 (t[i + 1]:Int):=by simp [U]
     rw [g'] at ld'
     have hdi:=hc _ (List.getElem_mem h1)
     have hd':t.drop (i + 1) = t[i + 1] :: t.drop (i + 2):=List.drop_eq_getElem_cons h1
     generalize t[i + 1] = d at *
     by_cases hlo:56320≤d∧d < 57344
     ·have d1:¬ (d:Int) < 56320:=by omega
      have d2:¬ (57343:Int) < (d:Int):=by omega
      have hout:outC (t.drop i) = utfC (65536 + (c - 55296) * 1024 + (d - 56320)) ++ outC (t.drop (i + 2)):=by rw [hd,hd',out_pair _ _ _ ⟨hhi,hlo⟩]
      have d31:=w31n d (by omega)
      obtain ⟨A,cA,A1⟩:∃ A,c = 55296 + A∧A < 1024:=⟨c - 55296,by omega,by omega⟩
      obtain ⟨B,dB,B1⟩:∃ B,d = 56320 + B∧B < 1024:=⟨d - 56320,by omega,by omega⟩
      have hA:c - 55296 = A:=by rw [cA]; exact Nat.add_sub_cancel_left ..
      have hB:d - 56320 = B:=by rw [dB]; exact Nat.add_sub_cancel_left ..
      rw [hA,hB] at hout
      clear hA hB
      have g0:wrapC 31 ((c:Int) - 55296) = (A:Int):=by rw [w31_in _ (by omega) (by omega)]; omega
      have g1:wrapC 31 ((A:Int) * 1024) = ((A * 1024:Nat):Int):=by rw [w31_in _ (by omega) (by omega)]; omega
      have g2:wrapC 31 (65536 + ((A * 1024:Nat):Int)) = ((65536 + A * 1024:Nat):Int):=by rw [w31_in _ (by omega) (by omega)]; omega
      have g3:wrapC 31 (((65536 + A * 1024:Nat):Int) + (d:Int)) = ((65536 + A * 1024 + d:Nat):Int):=by rw [w31_in _ (by omega) (by omega)]; omega
      have g4:wrapC 31 (((65536 + A * 1024 + d:Nat):Int) - 56320) = ((65536 + A * 1024 + B:Nat):Int):=by rw [w31_in _ (by omega) (by omega)]; omega
      have hVl:65536 + A * 1024 + B < 1114112:=by omega
      have hVg:65536≤65536 + A * 1024 + B:=by omega
      generalize 65536 + A * 1024 + B = V at *
      have ul:=utf_len V
      obtain ⟨u',h',p1,p2,p3,p4,p5,p6⟩:=pushR hN hw hu (by omega) V hVl (by omega)
      have e:body6 [v,c1,c2,c3,c4,u,.int 63 (i:Int)] h = .norm [v,c1,c2,c3,c4,u',.int 63 ((i + 2:Nat):Int)] h':=by
       simp only [↓body6,↓L5n1,↓len,U_len,e1,↓ix,↓ld,c31,a1,a2,a3,e6,e2,↓ix',↓ld',d1,d2,g0,g1,g2,d31,g3,g4,↓p1,e7,↓SA,SD,↓u1,↓u2,↓u3,↓u4,↓u5,↓u6,↓u7,↓u8,↓U1,↓U2,rk,Int.ofNat_eq_natCast,Int.cast_ofNat_Int,Int.reduceBEq,Int.reduceAdd,Int.reduceNeg,Int.reduceLT,Int.reduceLE,Int.reduceMul,Int.reduceSub,Bool.not_true,Bool.not_false,decide_true,decide_false,ne_eq,not_false_eq_true,Int.reduceEq,reduceCtorEq,gj,I,J,K]
      rw [hout,← List.append_assoc]
      obtain ⟨u2,h2,z1,z2,z3,z4,z5⟩:=ih (i + 2) h' u' _ (by omega) (by omega) (by rw [List.length_append]; omega) p2 p5 p4 (ht.trans p3)
      exact ⟨u2,h2,fun R hg=>stepG e (z1 R hg),z2,z3,z4,by omega⟩
     ·refine quest hsu (fun u' h' q=>?_) ?_
      ·by_cases d1:d < 56320
       ·have d1:(d:Int) < 56320:=by omega
        simp only [↓body6,↓L5n1,↓len,U_len,e1,↓ix,↓ld,c31,a1,a2,a3,e6,e2,↓ix',↓ld',d1,↓q,↓SA,SD,↓u1,↓u2,↓u3,↓u4,↓u5,↓u6,↓u7,↓u8,↓U1,↓U2,rk,Int.ofNat_eq_natCast,Int.cast_ofNat_Int,Int.reduceBEq,Int.reduceAdd,Int.reduceNeg,Int.reduceLT,Int.reduceLE,Int.reduceMul,Int.reduceSub,Bool.not_true,Bool.not_false,decide_true,decide_false,ne_eq,not_false_eq_true,Int.reduceEq,reduceCtorEq,gj,I,J,K]
       ·have d1:¬ (d:Int) < 56320:=by omega
        have d2:(57343:Int) < (d:Int):=by omega
        simp only [↓body6,↓L5n1,↓len,U_len,e1,↓ix,↓ld,c31,a1,a2,a3,e6,e2,↓ix',↓ld',d1,d2,↓q,↓SA,SD,↓u1,↓u2,↓u3,↓u4,↓u5,↓u6,↓u7,↓u8,↓U1,↓U2,rk,Int.ofNat_eq_natCast,Int.cast_ofNat_Int,Int.reduceBEq,Int.reduceAdd,Int.reduceNeg,Int.reduceLT,Int.reduceLE,Int.reduceMul,Int.reduceSub,Bool.not_true,Bool.not_false,decide_true,decide_false,ne_eq,not_false_eq_true,Int.reduceEq,reduceCtorEq,gj,I,J,K]
      ·rw [hd]
       exact out_lone _ _ (fun d' s' he hh=>by rw [hd'] at he; obtain ⟨rfl,-⟩:=List.cons.inj he; exact hlo hh.2)
    ·have e2:¬ ((i + 1:Nat):Int) < (t.length:Int):=by omega
     refine quest hsu (fun u' h' q=>?_) ?_
     ·simp only [↓body6,↓L5n1,↓len,U_len,e1,↓ix,↓ld,c31,a1,a2,a3,e6,e2,↓q,↓SA,SD,↓u1,↓u2,↓u3,↓u4,↓u5,↓u6,↓u7,↓u8,↓U1,↓U2,rk,Int.ofNat_eq_natCast,Int.cast_ofNat_Int,Int.reduceBEq,Int.reduceAdd,Int.reduceNeg,Int.reduceLT,Int.reduceLE,Int.reduceMul,Int.reduceSub,Bool.not_true,Bool.not_false,decide_true,decide_false,ne_eq,not_false_eq_true,Int.reduceEq,reduceCtorEq,gj,I,J,K]
     ·rw [hd]
      exact out_lone _ _ (fun d' s' he hh=>by rw [List.drop_eq_nil_of_le (by omega)] at he; cases he)
   ·have ho:outC (t.drop i) = loneC c ++ outC (t.drop (i + 1)):=by
     rw [hd]; exact out_lone _ _ (fun d' s' he hh=>hhi hh.1)
    by_cases hsu:55296≤c∧c < 57344
    ·refine quest hsu (fun u' h' q=>?_) ho
     have a1:¬ (c:Int) < 55296:=by omega
     have a2:¬ (57343:Int) < (c:Int):=by omega
     have a3:¬ (c:Int) < 56320:=by omega
     simp only [↓body6,↓L5n1,↓len,U_len,e1,↓ix,↓ld,c31,a1,a2,a3,e6,↓q,↓SA,SD,↓u1,↓u2,↓u3,↓u4,↓u5,↓u6,↓u7,↓u8,↓U1,↓U2,rk,Int.ofNat_eq_natCast,Int.cast_ofNat_Int,Int.reduceBEq,Int.reduceAdd,Int.reduceNeg,Int.reduceLT,Int.reduceLE,Int.reduceMul,Int.reduceSub,Bool.not_true,Bool.not_false,decide_true,decide_false,ne_eq,not_false_eq_true,Int.reduceEq,reduceCtorEq,gj,I,J,K]
    ·have hlo:loneC c = utfC c:=by unfold loneC; rw [if_neg hsu]
     have ul:=utf_len c
     obtain ⟨u',h',p1,p2,p3,p4,p5,p6⟩:=pushR hN hw hu (by omega) c (by omega) (by omega)
     refine single u' h' ?_ (by rw [hlo]; exact p2) p3 p4 p5 p6 ho (by rw [hlo]; exact ul)
     by_cases q:(c:Int) < 55296
     ·simp only [↓body6,↓L5n1,↓len,U_len,e1,↓ix,↓ld,c31,q,e6,↓p1,↓SA,SD,↓u1,↓u2,↓u3,↓u4,↓u5,↓u6,↓u7,↓u8,↓U1,↓U2,rk,Int.ofNat_eq_natCast,Int.cast_ofNat_Int,Int.reduceBEq,Int.reduceAdd,Int.reduceNeg,Int.reduceLT,Int.reduceLE,Int.reduceMul,Int.reduceSub,Bool.not_true,Bool.not_false,decide_true,decide_false,ne_eq,not_false_eq_true,Int.reduceEq,reduceCtorEq,gj,I,J,K]
     ·have a2:(57343:Int) < (c:Int):=by omega
      simp only [↓body6,↓L5n1,↓len,U_len,e1,↓ix,↓ld,c31,q,a2,e6,↓p1,↓SA,SD,↓u1,↓u2,↓u3,↓u4,↓u5,↓u6,↓u7,↓u8,↓U1,↓U2,rk,Int.ofNat_eq_natCast,Int.cast_ofNat_Int,Int.reduceBEq,Int.reduceAdd,Int.reduceNeg,Int.reduceLT,Int.reduceLE,Int.reduceMul,Int.reduceSub,Bool.not_true,Bool.not_false,decide_true,decide_false,ne_eq,not_false_eq_true,Int.reduceEq,reduceCtorEq,gj,I,J,K]
  ·exact stop i h u acc hin hi hu hw ht
theorem eqAV_sm {x y:AV} {r q:Res} (e:Sm (ifB (eqAV x y) r .fail) q) (hq:Fine q):x = y∧Sm r q:=by
 obtain ⟨h1,h2⟩:=ifF_sm e hq
 exact ⟨eqAV_eq _ _ h1,h2⟩
theorem cB_sm {x:AV} {k:Bool→Res} {r:Res} (e:Sm (cB x k) r) (hr:Fine r):∃ b,x = .bool b∧Sm (k b) r:=by
 cases x <;> first | exact ⟨_,rfl,e⟩ | exact absurd rfl (e.nf hr)
theorem cP_sm {x:AV} {k:Nat→Nat→Res} {r:Res} (e:Sm (cP x k) r) (hr:Fine r):∃ b o,x = .ptr b o∧Sm (k b o) r:=by
 cases x <;> first | exact ⟨_,_,rfl,e⟩ | exact absurd rfl (e.nf hr)
theorem alS_id {b1 c b:Nat} (h1:b ≠ b1) (h2:b ≠ c):alS b1 c b = some b:=by
 unfold alS
 have e1:Nat.beq b b1 = false:=by rw [Bool.eq_false_iff,ne_eq,beq_iff]; exact h1
 have e2:Nat.beq b c = false:=by rw [Bool.eq_false_iff,ne_eq,beq_iff]; exact h2
 rw [e1,e2]
theorem alS_1 {b1 c:Nat}:alS b1 c b1 = some c:=by
 unfold alS
 rw [(beq_iff b1 b1).2 rfl]
theorem rn_sl {σ:Nat→Option Nat} {b d o n z:Nat} {c:Option Nat} (h:σ b = some d):rn σ (.sl b o n z c) = .sl d o n z c:=by
 show Option.rec (motive:=fun _=>AV) .unk (fun b'=>.sl b' o n z c) (σ b) = _
 rw [h]
theorem rn_ptr {σ:Nat→Option Nat} {b d o:Nat} (h:σ b = some d):rn σ (.ptr b o) = .ptr d o:=by
 show Option.rec (motive:=fun _=>AV) .unk (fun c=>.ptr c o) (σ b) = _
 rw [h]
theorem lenL_l (b o n z:Nat) (c:Option Nat) (k:AV→Res):lenL (.sl b o n z c) k = k (.int 63 (n:Int)):=rfl
theorem stopW (b o L z:Nat) (c:Option Nat) (c1 c2 c3 c4 u:AV) (h:Hp):body6 [.sl b o L z c,c1,c2,c3,c4,u,.int 63 (L:Int)] h = .exit 2 [c1,c2,c3,c4,u] h:=by
 have e1:¬ (L:Int) < (L:Int):=by omega
 simp only [↓body6,↓L5n1,↓lenL_l,e1,↓SA,SD,↓u1,↓u2,↓u3,↓u4,↓u5,↓u6,↓u7,↓u8,↓U1,↓U2,rk,Int.ofNat_eq_natCast,Int.cast_ofNat_Int,Int.reduceBEq,Int.reduceAdd,Int.reduceNeg,Int.reduceLT,Int.reduceLE,Int.reduceMul,Int.reduceSub,Bool.not_true,Bool.not_false,decide_true,decide_false,ne_eq,not_false_eq_true,Int.reduceEq,reduceCtorEq,gj,I,J,K]
/-- The law's second loop,by what it comes to. -/
theorem want_goes (b0 b' : Nat) (vs : List AV) (h : Hp) (R : Res) (hR : Fine R) (e : Sm (wantF b' vs h) R) : ∃ m, Goes b0 body6 m vs h R := by
  by_cases hI : ∃ (N0 : Base) (ρ : Rho) (w : World), Inv N0 ρ h w
  · obtain ⟨N0, ρ, w, hi⟩ := hI
    obtain ⟨v, a1, rfl, f1⟩ := uc_sm e hR
    obtain ⟨c1, a2, rfl, f2⟩ := uc_sm f1 hR
    obtain ⟨c2, a3, rfl, f3⟩ := uc_sm f2 hR
    obtain ⟨c3, a4, rfl, f4⟩ := uc_sm f3 hR
    obtain ⟨c4, a5, rfl, f5⟩ := uc_sm f4 hR
    obtain ⟨w0, a6, rfl, f6⟩ := uc_sm f5 hR
    obtain ⟨i0, a7, rfl, f7⟩ := uc_sm f6 hR
    obtain ⟨rfl, f8⟩ := uz_sm f7 hR
    obtain ⟨rfl, f9⟩ := eqAV_sm f8 hR
    obtain ⟨rfl, g1⟩ := eqAV_sm f9 hR
    obtain ⟨hlo, g2⟩ := ifF_sm g1 hR
    rw [beq_iff] at hlo
    obtain ⟨t1, rfl, k1⟩ := cB_sm g2 hR
    obtain ⟨p, o, rfl, k2⟩ := cP_sm k1 hR
    obtain ⟨sn, sx, rfl, k3⟩ := cS_sm k2 hR
    obtain ⟨b4, o4, n4, z4, m4, rfl, k4⟩ := cL_sm k3 hR
    obtain ⟨hp, k5⟩ := ifF_sm k4 hR
    obtain ⟨hb4, k6⟩ := ifF_sm k5 hR
    rw [blt_iff] at hp hb4
    obtain ⟨b, c, xs, n, X, B, rfl, h1, h2, h40, h3, h4, h5, h6, g3⟩ := rowQ_sm hR k6
    clear e f1 f2 f3 f4 f5 f6 f7 f8 f9 g1 g2 k1 k2 k3 k4 k5 k6
    have hbn := hi.nb b B h3
    obtain ⟨h7, rfl, rfl⟩ := encQ_inv h6
    have hs := row_sl hi h2 h3 h4 h5 h7
    have hw := wf_inv hi hlo
    have htl : (xs.map Int.toNat).length = xs.length := by simp
    generalize ht : xs.map Int.toNat = t at *
    have htc : ∀ x ∈ t, x < 65536 := by
      intro x hx
      rw [← ht] at hx
      obtain ⟨y, hy, rfl⟩ := List.mem_map.1 hx
      have := h7 y hy; omega
    have ht0 : t ≠ [] := fun h => by rw [h] at htl; exact h1 (List.eq_nil_of_length_eq_zero htl.symm)
    obtain ⟨u', h2', q1, q2, q3, q4, q5⟩ := loopW (b0 := b0) (c1 := .bool t1) (c2 := .ptr p o) (c3 := .str sn sx) (c4 := .sl b4 o4 n4 z4 m4) hs (fun b hb hn => by omega) htc (by omega) t.length 0 h .nils [] (by omega) (Nat.zero_le _) (Nat.zero_le _) ⟨⟨by simp [Bs], .inl ⟨rfl, rfl⟩⟩, .inl rfl⟩ (Nat.le_refl _) hw (To.refl _ _)
    rw [List.drop_zero, List.nil_append] at q2
    obtain ⟨b1, B1, rfl, r0, r1, r2, r3, r4, r5, r6⟩ := gr_row (out_pos t ht0) (out_byt t htc) q2
    have hgr : ∀ i, i < h.nb → h2'.grp i = h.grp i := fun i hi => by unfold Hp.grp; rw [q3.gs i hi (by omega)]
    refine q1 R ⟨1, .th h (Nat.add h.nb 100) b1 B1 (rowB (outC t).length (pkN (outC t))) h.oc (fun N0 ρ w hi2 => ?_) ?_⟩
    · exact ⟨r1, r2, r4, by rw [q3.lo, hlo]; exact Nat.zero_le _, (by show h2'.nb ≤ h.nb + 100; omega), fun x C hx => by
          have hx2 := hi.nb x C hx
          refine ⟨(q3.get x hx2 (by omega)).trans hx, fun hf => ?_⟩
          have hx3 := (hi.gnb x C hx hf).1
          exact ⟨by omega, (hgr _ hx3).symm⟩,
        fun i q hq => (q3.gs i (hi.gs i q hq).1 (by have := (hi.gs i q hq).1; omega)).trans hq, fun x m hx => by rw [q3.ms]; exact hx, q3.lo.symm, r5, r6⟩
    · have n100 : Nat.add h.nb 100 = h.nb + 100 := rfl
      have hv : [AV.sl b 0 xs.length 1 c, .bool t1, .ptr p o, .str sn sx, .sl b4 o4 n4 z4 m4, .sl b1 0 (outC t).length 1 none, .int 63 (t.length : Int)].map (rn (alS b1 (Nat.add h.nb 100))) = [.sl b 0 xs.length 1 c, .bool t1, .ptr p o, .str sn sx, .sl b4 o4 n4 z4 m4, .sl (Nat.add h.nb 100) 0 (outC t).length 1 none, .int 63 (xs.length : Int)] := by
        simp only [List.map_cons, List.map_nil]
        rw [rn_sl (alS_id (by omega) (by rw [n100]; omega)), rn_ptr (alS_id (by omega) (by rw [n100]; omega)), rn_sl (alS_id (by omega) (by rw [n100]; omega)), rn_sl alS_1, htl]
        rfl
      rw [hv]
      have hst := stopW b 0 xs.length 1 c (.bool t1) (.ptr p o) (.str sn sx) (.sl b4 o4 n4 z4 m4) (.sl (Nat.add h.nb 100) 0 (outC t).length 1 none) (alH h (Nat.add h.nb 100) (rowB (outC t).length (pkN (outC t))) h.oc)
      refine .stop (fun vs' h' hh => ?_) ?_
      · rw [hst] at hh; cases hh
      · rw [hst]; exact g3
  · exact ⟨1, .iv fun N0 ρ w hi => absurd ⟨N0, ρ, w, hi⟩ hI⟩
theorem T.md_back {α:Type} {f g:α→α} {t:T α} {k:Nat} {a:α} (h:t.get k = some a) (hf:f (g a) = a):T.md f (T.md g t k) k = t:=by
 apply T.same
 ·rw [T.shp_md,T.shp_md]
 ·intro j
  rw [T.get_md,T.get_md,T.get_md,if_pos rfl,h]
  by_cases hj:j = k
  ·rw [if_pos hj,hj,h]; exact congrArg some hf
  ·rw [if_neg hj,if_neg hj]
theorem put1_back {p:Nat×Nat} {v z:AV} {h:Hp} (e:rd1 p h = some v):put1 p v (put1 p z h) = h:=by
 obtain ⟨nb,bs,gs,ms,lo,oc⟩:=h
 have e:Option.rec (motive:=fun _=>Option AV) none (fun B=>B.cs.get p.2) (bs.get p.1) = some v:=e
 cases hb:bs.get p.1 with
 | none=>rw [hb] at e; cases e
 | some B=>
  rw [hb] at e
  obtain ⟨fr,g,lim,df,cs⟩:=B
  have e:cs.get p.2 = some v:=e
  show (⟨nb,T.md _ (T.md _ bs p.1) p.1,gs,ms,lo,oc⟩:Hp) = _
  rw [T.md_back hb (by
   show (⟨fr,g,lim,df,T.md (fun _=>v) (T.md (fun _=>z) cs p.2) p.2⟩:Blk) = _
   rw [T.md_back e rfl])]
theorem puts_back:∀ (P:List (Nat×Nat)) (vs:List AV) (h:Hp),rdz P h = soL vs→puts P vs (putz P h) = h:=by
 intro P
 induction P with
 | nil=>intro vs h _; rfl
 | cons p P ih=>
  intro vs h e
  have e:rd1 p h :: rdz P (put1 p .nilf h) = soL vs:=e
  cases vs with
  | nil=>cases e
  | cons v vs=>
   have e:rd1 p h :: rdz P (put1 p .nilf h) = some v :: soL vs:=e
   injection e with e1 e2
   show put1 p v (puts P vs (putz P (put1 p .nilf h))) = h
   rw [ih vs _ e2,put1_back e1]
theorem lim0_back {L m:Nat} {h:Hp} (e:limB h = some L):lim0 L (lim0 m h) = h:=by
 obtain ⟨nb,bs,gs,ms,lo,oc⟩:=h
 have e:Option.rec (motive:=fun _=>Option Nat) none (fun B=>some B.lim) (bs.get 0) = some L:=e
 cases hb:bs.get 0 with
 | none=>rw [hb] at e; cases e
 | some B=>
  rw [hb] at e
  obtain ⟨fr,g,lim,df,cs⟩:=B
  have e:some lim = some L:=e
  injection e with e
  subst e
  show (⟨nb,T.md _ (T.md _ bs 0) 0,gs,ms,lo,oc⟩:Hp) = _
  rw [T.md_back hb rfl]
theorem put1_wo (p:Nat×Nat) (v:AV) (h:Hp) (o:Oc):put1 p v (h.wo o) = (put1 p v h).wo o:=by obtain ⟨nb,bs,gs,ms,lo,oc⟩:=h; rfl
theorem puts_wo (P:List (Nat×Nat)) (h:Hp) (o:Oc):∀ vs,puts P vs (h.wo o) = (puts P vs h).wo o:=by
 induction P with
 | nil=>intro vs; rfl
 | cons p P ih=>
  intro vs
  cases vs with
  | nil=>rfl
  | cons v vs=>
   show put1 p v (puts P vs (h.wo o)) = (put1 p v (puts P vs h)).wo o
   rw [ih,put1_wo]
theorem lim0_wo (L:Nat) (h:Hp) (o:Oc):lim0 L (h.wo o) = (lim0 L h).wo o:=by obtain ⟨nb,bs,gs,ms,lo,oc⟩:=h; rfl
theorem eqHp_wo {x y:Hp} (h:eqHp x y = true) (o:Oc):x.wo o = y.wo o:=by
 refine eqHp_eq ?_ ?_
 ·obtain ⟨nb,bs,gs,ms,lo,oc⟩:=x
  obtain ⟨nb',bs',gs',ms',lo',oc'⟩:=y
  exact h
 ·obtain ⟨nb,bs,gs,ms,lo,oc⟩:=x
  obtain ⟨nb',bs',gs',ms',lo',oc'⟩:=y
  rfl
theorem nxt_wo (vs:List AV) (h:Hp):(nxt vs h).wo oc0 = nxt vs h:=rfl
/-- Memory laid anew is that of the state. -/
theorem nxt_hS {L i d:Nat} {vs:List AV} {h:Hp} {vals:List AV} (h1:eqHp (putz (plc i d) (lim0 12 (nxt vs h))) (S0 i d) = true) (h2:rdz (plc i d) (lim0 12 (nxt vs h)) = soL vals) (h3:limB (nxt vs h) = some L):nxt vs h = hS L i d vals:=by
 have e1:=eqHp_wo h1 oc0
 have e2:=puts_back (plc i d) vals (lim0 12 (nxt vs h)) h2
 unfold hS
 rw [← lim0_wo,← puts_wo,← e1,puts_wo,e2,lim0_wo,lim0_back h3,nxt_wo]
theorem jnN_sm {a r:Res} {k:List AV→Hp→Res} (e:Sm (jnN a k) r) (hr:Fine r):∃ vs h,now a = .norm vs h∧Sm (k vs h) r:=by
 induction a with
 | norm vs h=>exact ⟨vs,h,rfl,e⟩
 | ask p q ih=>
  have e:Sm (.ask p (jnN q k)) r:=e
  obtain ⟨rfl,e⟩:=ask_inv e hr
  exact ih e
 | _=>exact absurd rfl (e.nf hr)
theorem vOf_now {r:Res} {vs:List AV} {h:Hp} (e:now r = .norm vs h):vOf r = vs∧hOf r = h:=by
 induction r with
 | norm v h'=>
  have e:Res.norm v h' = .norm vs h:=e
  injection e with e1 e2
  exact ⟨e1,e2⟩
 | ask p q ih=>
  cases p with
  | true=>exact ih e
  | false=>cases (show Res.fail = .norm vs h from e)
 | _=>cases e
theorem anL_t {z:Bool} {l:List Bool} (hz:z = true) (h:∀ p∈l,p = true):anL z l = true:=by
 induction l with
 | nil=>exact hz
 | cons p l ih=>
  have hp:=h p List.mem_cons_self
  subst hp
  exact ih fun q hq=>h q (List.mem_cons_of_mem _ hq)
/-- One round. -/
theorem goes_rnd {i d p L b0 m:Nat} {R:Res} (hq:FQ i d p) (hL:i < L) (hb:b0≤1) {x:Nat→Int} {k:Nat→Nat} {e:Nat→Nat→Int} {y:Nat→Nat} (ht:∀ q∈rqs d p (x i) k,q = true)
  (hg:Goes b0 body5 m (vS L (i + 1)) (hS L (i + 1) (dn d p) (valF (i + 1) (dn d p) x (upN d (kN (x i)) k) (fun c=>upN d (e4 c (x i)) (e c)) (upN i (Kn p) y))) R):Goes b0 body5 (m + 1) (vS L i) (hS L i d (valF i d x k e y)) R:=by
 have h0:=hq (L - (i + 1)) x k e y
 have eL:Nat.add (L - (i + 1)) (Nat.succ i) = L:=by show L - (i + 1) + (i + 1) = L; omega
 rw [eL] at h0
 injection h0 with h1 h2
 injection h2 with h2 h3
 injection h3 with h3 h4
 rw [anL_t rfl ht] at h1
 obtain ⟨h',er⟩:=isT_inv h1
 have hf:Fine (.ret (.bool true) h'):=by simp
 have er:Sm (okQ L i d p (valF i d x k e y)) (.ret (.bool true) h'):=er
 obtain ⟨vs,h,e1,e2⟩:=jnN_sm er hf
 obtain ⟨r1,r2⟩:=vOf_now e1
 rw [r1,r2] at h2 h3 h4
 obtain ⟨k1,e2⟩:=ifF_sm e2 hf
 obtain ⟨k2,e2⟩:=ifF_sm e2 hf
 obtain ⟨k3,e2⟩:=ifF_sm e2 hf
 have hh:=nxt_hS k3 h2 h4
 have hv:nxv vs h = vS L (i + 1):=by
  have k2:=eqLs_eq _ _ k2
  cases hn:nxv vs h with
  | nil=>rw [hn] at h3; cases h3
  | cons a t=>
   rw [hn] at h3 k2
   have h3:a = .sl 0 0 L 1 none:=h3
   have k2:t = tlL (vS 0 (i + 1)):=k2
   rw [h3,k2]; rfl
 refine .oc ⟨bits d p,.unk⟩ (.step e1 (.re 1 (nf vs h) 0 0 [0] [] oc0 k1 hb ?_))
 have hv:vs.map (rn (sg 1 (nf vs h))) = vS L (i + 1):=hv
 have hh:reH 1 (nf vs h) 0 0 [0] [] oc0 h = hS L (i + 1) (dn d p) (valF (i + 1) (dn d p) x (upN d (kN (x i)) k) (fun c=>upN d (e4 c (x i)) (e c)) (upN i (Kn p) y)):=hh
 rw [hv,hh]
 exact hg
theorem upL_eq {α:Type} (f:Nat→α):∀ (n:Nat) (m:List α),upL f n m = (List.range n).map f ++ m:=by
 intro n
 induction n with
 | zero=>intro m; rfl
 | succ n ih=>
  intro m
  show upL f n (f n :: m) = _
  rw [ih,List.range_succ,List.map_append,List.append_assoc]; rfl
theorem mapL_eq {α β:Type} (f:α→β) (l:List α) (t:List β):mapL' f l t = l.map f ++ t:=by
 induction l with
 | nil=>rfl
 | cons a l ih=>exact congrArg (f a :: ·) ih
theorem map_getD {α β:Type} (f:α→β) (d:α):∀ (l:List α),(List.range l.length).map (fun j=>f (l.getD j d)) = l.map f:=by
 intro l
 apply List.ext_getElem
 ·simp
 ·intro i h1 h2
  simp at h1
  simp [List.getD,h1]
theorem upL_congr {α:Type} {f g:Nat→α} {n:Nat} {m m':List α} (h:∀ j,j < n→f j = g j) (hm:m = m'):upL f n m = upL g n m':=by
 rw [upL_eq,upL_eq,hm]
 congr 1
 exact List.map_congr_left fun j hj=>h j (List.mem_range.1 hj)
theorem valF_congr {i d:Nat} {x x':Nat→Int} {k k':Nat→Nat} {e e':Nat→Nat→Int} {y y':Nat→Nat} (hx:∀ j,j < 12→x j = x' j) (hk:∀ j,j < d→k j = k' j) (he:∀ c j,j < d→e c j = e' c j) (hy:∀ j,j < i→y j = y' j):valF i d x k e y = valF i d x' k' e' y':=by
 unfold valF
 exact upL_congr (fun j hj=>by rw [hx j hj]) (upL_congr (fun j hj=>by rw [hk j hj]) (upL_congr (fun j hj=>by rw [he 0 j hj]) (upL_congr (fun j hj=>by rw [he 1 j hj]) (upL_congr (fun j hj=>by rw [he 2 j hj]) (upL_congr (fun j hj=>by rw [he 3 j hj]) (upL_congr (fun j hj=>by rw [hy j hj]) rfl))))))
theorem upN_ne {α:Type} {d j:Nat} {v:α} {k:Nat→α} (h:j ≠ d):upN d v k j = k j:=by
 unfold upN
 rw [show Nat.beq j d = false from by rw [Bool.eq_false_iff,ne_eq,beq_iff]; exact h]
theorem upN_eq {α:Type} {d:Nat} {v:α} {k:Nat→α}:upN d v k d = v:=by
 unfold upN
 rw [(beq_iff d d).2 rfl]
def kF (ws:List Nat) (j:Nat):Nat:=kN ((ws.getD j 0:Nat):Int)
def eF (ws:List Nat) (c j:Nat):Int:=e4 c ((ws.getD j 0:Nat):Int)
def yF (ys:List Nat) (j:Nat):Nat:=ys.getD j 0
theorem shr_n (a j:Nat):shrI (a:Int) j = ((a / 2 ^ j:Nat):Int):=rfl
theorem e4_vals (a:Nat) (ha:a < 65536):e4 0 (a:Int) = ((0:Nat):Int)∧e4 1 (a:Int) = ((0:Nat):Int)∧e4 2 (a:Int) = ((a / 256:Nat):Int)∧e4 3 (a:Int) = ((a % 256:Nat):Int):=by
 have e:wrapC 63 (a:Int) = (a:Int):=w63_in _ (by omega) (by omega)
 refine ⟨?_,?_,?_,?_⟩
 ·show wrapC 8 (shrI (wrapC 63 (a:Int)) 24) = _
  rw [e,shr_n,w8n,show a / 2 ^ 24 % 256 = 0 from by simp; omega]
 ·show wrapC 8 (shrI (wrapC 63 (a:Int)) 16) = _
  rw [e,shr_n,w8n,show a / 2 ^ 16 % 256 = 0 from by simp; omega]
 ·show wrapC 8 (shrI (wrapC 63 (a:Int)) 8) = _
  rw [e,shr_n,w8n,show a / 2 ^ 8 % 256 = a / 256 from by simp; omega]
 ·show wrapC 8 (wrapC 63 (a:Int)) = _
  rw [e,w8n]
theorem bsN_val (a:Nat) (ha:a < 65536):bsN (a:Int) = 65536 * (a / 256 + 256 * (a % 256)):=by
 obtain ⟨h1,h2,h3,h4⟩:=e4_vals a ha
 have e:bsN (a:Int) = (e4 0 (a:Int)).toNat + 256 * ((e4 1 (a:Int)).toNat + 256 * ((e4 2 (a:Int)).toNat + 256 * ((e4 3 (a:Int)).toNat + 0))):=rfl
 rw [e,h1,h2,h3,h4]
 simp only [Int.toNat_natCast]; omega
theorem kN_val (a:Nat) (ha:a < 65536):kN (a:Int) = 105 + 16777216 * (a / 256 + 256 * (a % 256)):=by
 have e:kN (a:Int) = 105 + (bsN (a:Int)) * 2 ^ 8:=by
  show 105 + Nat.shiftLeft (bsN (a:Int)) 8 = _
  rw [show Nat.shiftLeft (bsN (a:Int)) 8 = bsN (a:Int) * 2 ^ 8 from Nat.shiftLeft_eq _ _]
 rw [e,bsN_val a ha]; omega
theorem kN_inj {a b:Nat} (ha:a < 65536) (hb:b < 65536) (h:kN (a:Int) = kN (b:Int)):a = b:=by
 rw [kN_val a ha,kN_val b hb] at h; omega
theorem inB_n (a:Nat) (ha:a < 256):inB (a:Int) = true:=by
 show Nat.blt a 256 = true
 rw [blt_iff]; exact ha
theorem q4_t {a:Nat} (ha:a < 65536) {m:List Bool} (hm:∀ q∈m,q = true):∀ q∈q4 (a:Int) m,q = true:=by
 obtain ⟨h1,h2,h3,h4⟩:=e4_vals a ha
 intro q hq
 have hq:q∈inB (e4 0 (a:Int)) :: inB (e4 1 (a:Int)) :: inB (e4 2 (a:Int)) :: inB (e4 3 (a:Int)) :: m:=hq
 rw [h1,h2,h3,h4] at hq
 simp only [List.mem_cons] at hq
 rcases hq with rfl | rfl | rfl | rfl | hq
 ·exact inB_n _ (by omega)
 ·exact inB_n _ (by omega)
 ·exact inB_n _ (by omega)
 ·exact inB_n _ (by omega)
 ·exact hm q hq
theorem mem_upL {α:Type} {f:Nat→α} {n:Nat} {m:List α} {q:α} (h:q∈upL f n m):(∃ j,j < n∧q = f j)∨q∈m:=by
 rw [upL_eq,List.mem_append] at h
 rcases h with h | h
 ·obtain ⟨j,hj,rfl⟩:=List.mem_map.1 h
  exact .inl ⟨j,List.mem_range.1 hj,rfl⟩
 ·exact .inr h
theorem beq_f {a b:Nat} (h:a ≠ b):beqB (Nat.beq a b) false = true:=by
 rw [show Nat.beq a b = false from by rw [Bool.eq_false_iff,ne_eq,beq_iff]; exact h]; rfl
theorem beq_t {a b:Nat} (h:a = b):beqB (Nat.beq a b) true = true:=by rw [(beq_iff a b).2 h]; rfl
theorem rqs_t {d p a:Nat} {k:Nat→Nat} (ha:a < 65536) (h1:∀ j,j < p→j < d→k j ≠ kN (a:Int)) (h2:p < d→k p = kN (a:Int)) (h3:p≤d):∀ q∈rqs d p (a:Int) k,q = true:=by
 have bb:Nat.beq (bsN (a:Int)) (bsN (a:Int)) = true:=(beq_iff _ _).2 rfl
 have cons:∀ {b:Bool} {m:List Bool},b = true→(∀ q∈m,q = true)→∀ q∈b :: m,q = true:=fun hb hm q hq=>by
  rcases List.mem_cons.1 hq with rfl | hq
  ·exact hb
  ·exact hm q hq
 refine q4_t ha (q4_t ha (cons bb (q4_t ha (cons bb (q4_t ha (cons bb ?_))))))
 by_cases hp:p < d
 ·rw [(blt_iff p d).2 hp]
  intro q hq
  rcases mem_upL hq with ⟨j,hj,rfl⟩ | hq
  ·exact beq_f (h1 j hj (by omega))
  ·simp only [List.mem_singleton] at hq
   rw [hq]; exact beq_t (h2 hp)
 ·have e:Nat.blt p d = false:=by rw [Bool.eq_false_iff,ne_eq,blt_iff]; exact hp
  rw [e]
  intro q hq
  rcases mem_upL hq with ⟨j,hj,rfl⟩ | hq
  ·exact beq_f (h1 j (by omega) hj)
  ·cases hq
theorem idx_in {a:Nat}:∀ {ws:List Nat},a∈ws→idxN a ws < ws.length∧ws.getD (idxN a ws) 0 = a∧∀ j,j < idxN a ws→ws.getD j 0 ≠ a:=by
 intro ws
 induction ws with
 | nil=>intro h; cases h
 | cons y l ih=>
  intro h
  by_cases hy:y = a
  ·simp only [idxN,if_pos hy]
   exact ⟨by simp,by simpa using hy,fun j hj=>by omega⟩
  ·have h:a∈l:=by
    rcases List.mem_cons.1 h with rfl | h
    ·exact absurd rfl hy
    ·exact h
   obtain ⟨h1,h2,h3⟩:=ih h
   simp only [idxN,if_neg hy]
   refine ⟨by simp; omega,by simpa using h2,fun j hj=>?_⟩
   cases j with
   | zero=>simpa using hy
   | succ j=>simpa using h3 j (by omega)
theorem idx_out {a:Nat}:∀ {ws:List Nat},a ∉ ws→idxN a ws = ws.length:=by
 intro ws
 induction ws with
 | nil=>intro _; rfl
 | cons y l ih=>
  intro h
  have hy:¬ y = a:=fun e=>h (by rw [e]; exact List.mem_cons_self)
  simp only [idxN,if_neg hy,List.length_cons]
  rw [ih fun hm=>h (List.mem_cons_of_mem _ hm)]
theorem dn_lt {d p:Nat} (h:p < d):dn d p = d:=by unfold dn; rw [(blt_iff p d).2 h]
theorem dn_eq (d:Nat):dn d d = d + 1:=by
 unfold dn
 rw [show Nat.blt d d = false from by rw [Bool.eq_false_iff,ne_eq,blt_iff]; omega]
/-- Which rounds there are. -/
def Dom (i d p:Nat):Prop:=i < 12∧p≤d∧((i = 0∧d = 0)∨(0 < d∧d≤i))
theorem goes_all {L b0 : Nat} {R : Res} (hF : ∀ i d p, Dom i d p → FQ i d p) (hL : L ≤ 12) (hb : b0 ≤ 1) (xs : List Nat) (hxl : xs.length = L) (hx : ∀ a ∈ xs, a < 65536) (x : Nat → Int) (hxx : ∀ j (hj : j < xs.length), x j = (xs[j] : Int)) :
    ∀ (n i : Nat) (ws ys : List Nat), i + n = L → ys.length = i → ((i = 0 ∧ ws.length = 0) ∨ (0 < ws.length ∧ ws.length ≤ i)) → (∀ a ∈ ws, a < 65536) →
    (∃ m, Goes b0 body5 m (vS L L) (hS L L (ded (xs.drop i) ws ys).1.length (valF L (ded (xs.drop i) ws ys).1.length x (kF (ded (xs.drop i) ws ys).1) (eF (ded (xs.drop i) ws ys).1) (yF (ded (xs.drop i) ws ys).2))) R) →
    ∃ m, Goes b0 body5 m (vS L i) (hS L i ws.length (valF i ws.length x (kF ws) (eF ws) (yF ys))) R := by
  intro n
  induction n with
  | zero =>
    intro i ws ys hi hy _ _ hg
    have hi : i = L := by omega
    subst hi
    rw [List.drop_eq_nil_of_le (by omega)] at hg
    exact hg
  | succ n ih =>
    intro i ws ys hi hy hd hw hg
    have hlt : i < xs.length := by omega
    rw [List.drop_eq_getElem_cons hlt] at hg
    have ha := hx _ (List.getElem_mem hlt)
    have hxi := hxx i hlt
    generalize xs[i] = a at *
    have hgd : ∀ j, j < ws.length → ws.getD j 0 < 65536 := fun j hj => by
      rw [List.getD_eq_getElem?_getD, List.getElem?_eq_getElem hj]
      exact hw _ (List.getElem_mem hj)
    have yAdd : ∀ v j, j < i + 1 → upN i v (yF ys) j = yF (ys ++ [v]) j := fun v j hj => by
      by_cases h : j = i
      · subst h
        rw [upN_eq]
        simp [yF, List.getD, ← hy]
      · rw [upN_ne h]
        simp only [yF, List.getD_eq_getElem?_getD]
        rw [List.getElem?_append_left (by omega)]
    by_cases hm : a ∈ ws
    · obtain ⟨p1, p2, p3⟩ := idx_in hm
      have hg : ∃ m, Goes b0 body5 m (vS L L) (hS L L (ded (xs.drop (i + 1)) ws (ys ++ [kx (idxN a ws) + 1])).1.length (valF L (ded (xs.drop (i + 1)) ws (ys ++ [kx (idxN a ws) + 1])).1.length x (kF (ded (xs.drop (i + 1)) ws (ys ++ [kx (idxN a ws) + 1])).1) (eF (ded (xs.drop (i + 1)) ws (ys ++ [kx (idxN a ws) + 1])).1) (yF (ded (xs.drop (i + 1)) ws (ys ++ [kx (idxN a ws) + 1])).2))) R := by
        simpa only [ded, if_pos hm] using hg
      obtain ⟨m, hg⟩ := ih (i + 1) ws (ys ++ [kx (idxN a ws) + 1]) (by omega) (by simp; omega) (by
        rcases hd with ⟨-, h0⟩ | ⟨h1, h2⟩
        · rw [h0] at p1; omega
        · exact .inr ⟨h1, by omega⟩) hw hg
      refine ⟨m + 1, goes_rnd (hF i ws.length (idxN a ws) ⟨by omega, by omega, hd⟩) (by omega) hb ?_ ?_⟩
      · rw [hxi]
        exact rqs_t ha (fun j hj hjd he => p3 j hj (kN_inj (hgd j hjd) ha he)) (fun _ => by unfold kF; rw [p2]) (by omega)
      · rw [dn_lt p1, valF_congr (i := i + 1) (fun _ _ => rfl) (fun j hj => upN_ne (by omega)) (fun c j hj => upN_ne (by omega)) (fun j hj => yAdd _ j hj)]
        exact hg
    · have p1 := idx_out hm
      have hg : ∃ m, Goes b0 body5 m (vS L L) (hS L L (ded (xs.drop (i + 1)) (ws ++ [a]) (ys ++ [kx (idxN a ws) + 1])).1.length (valF L (ded (xs.drop (i + 1)) (ws ++ [a]) (ys ++ [kx (idxN a ws) + 1])).1.length x (kF (ded (xs.drop (i + 1)) (ws ++ [a]) (ys ++ [kx (idxN a ws) + 1])).1) (eF (ded (xs.drop (i + 1)) (ws ++ [a]) (ys ++ [kx (idxN a ws) + 1])).1) (yF (ded (xs.drop (i + 1)) (ws ++ [a]) (ys ++ [kx (idxN a ws) + 1])).2))) R := by
        simpa only [ded, if_neg hm] using hg
      have hl : (ws ++ [a]).length = ws.length + 1 := by simp
      obtain ⟨m, hg⟩ := ih (i + 1) (ws ++ [a]) (ys ++ [kx (idxN a ws) + 1]) (by omega) (by simp; omega) (.inr ⟨by omega, by rcases hd with ⟨h0, h1⟩ | ⟨h1, h2⟩ <;> omega⟩) (fun b hb => by
        rcases List.mem_append.1 hb with hb | hb
        · exact hw b hb
        · rw [List.mem_singleton.1 hb]; exact ha) hg
      have wAdd : ∀ j, j < ws.length + 1 → (j = ws.length ∧ (ws ++ [a]).getD j 0 = a) ∨ (j ≠ ws.length ∧ (ws ++ [a]).getD j 0 = ws.getD j 0) := fun j hj => by
        by_cases h : j = ws.length
        · refine .inl ⟨h, ?_⟩
          rw [h]; simp [List.getD]
        · refine .inr ⟨h, ?_⟩
          simp only [List.getD_eq_getElem?_getD]
          rw [List.getElem?_append_left (by omega)]
      refine ⟨m + 1, goes_rnd (hF i ws.length ws.length ⟨by omega, Nat.le_refl _, hd⟩) (by omega) hb ?_ ?_⟩
      · rw [hxi]
        refine rqs_t ha (fun j _ hjd he => hm ?_) (fun h => by omega) (Nat.le_refl _)
        have := kN_inj (hgd j hjd) ha he
        rw [← this, List.getD_eq_getElem?_getD, List.getElem?_eq_getElem hjd]
        exact List.getElem_mem hjd
      · rw [dn_eq, valF_congr (i := i + 1) (k' := kF (ws ++ [a])) (e' := eF (ws ++ [a])) (y' := yF (ys ++ [kx (idxN a ws) + 1])) (fun _ _ => rfl) (fun j hj => by
            rcases wAdd j hj with ⟨h1, h2⟩ | ⟨h1, h2⟩
            · rw [h1, upN_eq, hxi]; unfold kF; rw [← h1, h2]
            · rw [upN_ne h1]; unfold kF; rw [h2]) (fun c j hj => by
            rcases wAdd j hj with ⟨h1, h2⟩ | ⟨h1, h2⟩
            · rw [h1, upN_eq, hxi]; unfold eF; rw [← h1, h2]
            · rw [upN_ne h1]; unfold eF; rw [h2]) (fun j hj => by rw [← yAdd _ j hj, p1]; rfl), ← hl]
        exact hg
theorem intsO_sm {R:Res} (hR:Fine R):∀ (l:List (Option AV)) (k:List Int→Res),Sm (intsO l k) R→∃ xs:List Int,l = xs.map (fun x=>some (.int 16 x))∧Sm (k xs) R:=by
 intro l
 induction l with
 | nil=>intro k e; exact ⟨[],rfl,e⟩
 | cons o l ih=>
  intro k e
  have e:Sm (Option.rec (motive:=fun _=>Res) .fail (fun v=>cI v fun c x=>ifB (Nat.beq c 16) (intsO l fun l=>k (x :: l)) .fail) o) R:=e
  cases o with
  | none=>exact absurd rfl (e.nf hR)
  | some v=>
   have e:Sm (cI v fun c x=>ifB (Nat.beq c 16) (intsO l fun l=>k (x :: l)) .fail) R:=e
   obtain ⟨c,x,rfl,e1⟩:=cI_sm e hR
   obtain ⟨h1,e2⟩:=ifF_sm e1 hR
   rw [beq_iff] at h1
   subst h1
   obtain ⟨xs,hl,h2⟩:=ih _ e2
   exact ⟨x :: xs,by rw [hl]; rfl,h2⟩
theorem natI_sm {x:Int} {k:Nat→Res} {R:Res} (e:Sm (natI x k) R) (hR:Fine R):∃ n,Sm (k n) R:=by
 cases x with
 | ofNat n=>exact ⟨n,e⟩
 | negSucc n=>exact absurd rfl (e.nf hR)
theorem prsA_sm {R:Res} (hR:Fine R):∀ (l:AV) (k:List (Nat×Nat)→Res),Sm (prsA l k) R→∃ ws,Sm (k ws) R:=by
 intro l
 induction l with
 | nil=>intro k e; exact ⟨[],e⟩
 | cons v t _ ih=>
  intro k e
  have e:Sm (cC v fun a b=>cI a fun _ a=>natI a fun a=>cI b fun _ b=>natI b fun b=>prsA t fun l=>k ((a,b) :: l)) R:=e
  obtain ⟨a,b,-,e1⟩:=cC_sm e hR
  obtain ⟨_,a,-,e2⟩:=cI_sm e1 hR
  obtain ⟨a,e3⟩:=natI_sm e2 hR
  obtain ⟨_,b,-,e4⟩:=cI_sm e3 hR
  obtain ⟨b,e5⟩:=natI_sm e4 hR
  obtain ⟨ws,e6⟩:=ih _ e5
  exact ⟨_,e6⟩
 | _=>intro k e; exact absurd rfl (e.nf hR)
theorem natsA_sm {R:Res} (hR:Fine R):∀ (l:AV) (k:List Nat→Res),Sm (natsA l k) R→∃ ws,Sm (k ws) R:=by
 intro l
 induction l with
 | nil=>intro k e; exact ⟨[],e⟩
 | cons v t _ ih=>
  intro k e
  have e:Sm (cI v fun _ a=>natI a fun a=>natsA t fun l=>k (a :: l)) R:=e
  obtain ⟨_,a,-,e1⟩:=cI_sm e hR
  obtain ⟨a,e2⟩:=natI_sm e1 hR
  obtain ⟨ws,e3⟩:=ih _ e2
  exact ⟨_,e3⟩
 | _=>intro k e; exact absurd rfl (e.nf hR)
theorem soL_map (xs:List Int):xs.map (fun x=>some (AV.int 16 x)) = soL (xs.map (fun x=>.int 16 x)):=by
 induction xs with
 | nil=>rfl
 | cons x xs ih=>exact congrArg (some (AV.int 16 x) :: ·) ih
theorem rdz_len (P:List (Nat×Nat)):∀ h,(rdz P h).length = P.length:=by
 induction P with
 | nil=>intro h; rfl
 | cons p P ih=>intro h; exact congrArg Nat.succ (ih _)
theorem tk_eq {α:Type}:∀ (n:Nat) (l:List α),tkL' n l = l.take n:=by
 intro n
 induction n with
 | zero=>intro l; rfl
 | succ n ih=>
  intro l
  cases l with
  | nil=>rfl
  | cons a l=>exact congrArg (a :: ·) (ih l)
theorem len_eq {α:Type} (l:List α):lenL' l = l.length:=by
 induction l with
 | nil=>rfl
 | cons a l ih=>exact congrArg Nat.succ ih
theorem valW_eq {xs:List Int} {ws:List (Nat×Nat)} {ys:List Nat} (hx:xs.length = 12) (hw:∀ p∈ws,p.1 < 256∧p.2 < 256):valW xs ws ys = valF ys.length (ws.map wv).length (fun j=>xs.getD j 0) (kF (ws.map wv)) (eF (ws.map wv)) (yF ys):=by
 have hv:∀ p∈ws,wv p < 65536∧wv p / 256 = p.1∧wv p % 256 = p.2:=fun p hp=>by
  have:=hw p hp
  unfold wv; omega
 have m1:∀ {β:Type} (f:Nat→β),(List.range (ws.map wv).length).map (fun j=>f ((ws.map wv).getD j 0)) = ws.map (fun p=>f (wv p)):=fun f=>by
  rw [map_getD f 0 (ws.map wv),List.map_map]; rfl
 unfold valW valF
 simp only [mapL_eq,upL_eq]
 congr 1
 ·rw [← hx,map_getD (fun x=>AV.int 16 x) 0 xs]
 congr 1
 ·rw [show (List.range (ws.map wv).length).map (fun j=>AV.str 5 (kF (ws.map wv) j)) = ws.map (fun p=>AV.str 5 (kN (wv p:Nat))) from m1 fun a=>AV.str 5 (kN (a:Int))]
  refine List.map_congr_left fun p hp=>?_
  obtain ⟨h1,h2,h3⟩:=hv p hp
  rw [kN_val _ h1,h2,h3]; rfl
 congr 1
 ·rw [show (List.range (ws.map wv).length).map (fun j=>AV.int 8 (eF (ws.map wv) 0 j)) = ws.map (fun p=>AV.int 8 (e4 0 (wv p:Nat))) from m1 fun a=>AV.int 8 (e4 0 (a:Int))]
  refine List.map_congr_left fun p hp=>?_
  rw [(e4_vals _ (hv p hp).1).1]; rfl
 congr 1
 ·rw [show (List.range (ws.map wv).length).map (fun j=>AV.int 8 (eF (ws.map wv) 1 j)) = ws.map (fun p=>AV.int 8 (e4 1 (wv p:Nat))) from m1 fun a=>AV.int 8 (e4 1 (a:Int))]
  refine List.map_congr_left fun p hp=>?_
  rw [(e4_vals _ (hv p hp).1).2.1]; rfl
 congr 1
 ·rw [show (List.range (ws.map wv).length).map (fun j=>AV.int 8 (eF (ws.map wv) 2 j)) = ws.map (fun p=>AV.int 8 (e4 2 (wv p:Nat))) from m1 fun a=>AV.int 8 (e4 2 (a:Int))]
  refine List.map_congr_left fun p hp=>?_
  rw [(e4_vals _ (hv p hp).1).2.2.1,(hv p hp).2.1]; rfl
 congr 1
 ·rw [show (List.range (ws.map wv).length).map (fun j=>AV.int 8 (eF (ws.map wv) 3 j)) = ws.map (fun p=>AV.int 8 (e4 3 (wv p:Nat))) from m1 fun a=>AV.int 8 (e4 3 (a:Int))]
  refine List.map_congr_left fun p hp=>?_
  rw [(e4_vals _ (hv p hp).1).2.2.2,(hv p hp).2.2]; rfl
 congr 1
 exact (map_getD (fun y=>AV.int 8 (.ofNat y)) 0 ys).symm
theorem stop5 (L:Nat) (h:Hp):body5 (vS L L) h = .exit 0 (tkL' 6 (vS L L)) h:=by
 have e1:¬ (L:Int) < (L:Int):=by omega
 show body5 [.sl 0 0 L 1 none,.bool true,.ptr 1 0,sbT,.sl 5 0 (Nat.add 7 (Nat.mul 6 L)) 1 none,.nils,.int 63 (L:Int)] h = .exit 0 [.sl 0 0 L 1 none,.bool true,.ptr 1 0,sbT,.sl 5 0 (Nat.add 7 (Nat.mul 6 L)) 1 none,.nils] h
 simp only [↓body5,↓L5n0,↓lenL_l,e1,↓SA,SD,↓u1,↓u2,↓u3,↓u4,↓u5,↓u6,↓u7,↓u8,↓U1,↓U2,rk,Int.ofNat_eq_natCast,Int.cast_ofNat_Int,Int.reduceBEq,Int.reduceAdd,Int.reduceNeg,Int.reduceLT,Int.reduceLE,Int.reduceMul,Int.reduceSub,Bool.not_true,Bool.not_false,decide_true,decide_false,ne_eq,not_false_eq_true,Int.reduceEq,reduceCtorEq,gj,I,J,K]
theorem J1_goes (hF:∀ i d p,Dom i d p→FQ i d p) (b0:Nat) (vs:List AV) (h:Hp) (R:Res) (hR:Fine R) (e:Sm (J1 b0 vs h) R):∃ m,Goes b0 body5 m vs h R:=by
 obtain ⟨k1,f1⟩:=ifF_sm e hR
 obtain ⟨k2,f2⟩:=ifF_sm f1 hR
 obtain ⟨k3,f3⟩:=ifF_sm f2 hR
 obtain ⟨k4,f4⟩:=ifF_sm f3 hR
 obtain ⟨k5,f5⟩:=ifF_sm f4 hR
 obtain ⟨xs,hxs,f6⟩:=intsO_sm hR _ _ f5
 obtain ⟨ws,f7⟩:=prsA_sm hR _ _ f6
 obtain ⟨ys,f8⟩:=natsA_sm hR _ _ f7
 obtain ⟨n,N,-,f9⟩:=cS_sm f8 hR
 obtain ⟨k6,g1⟩:=ifF_sm f9 hR
 obtain ⟨k7,g2⟩:=ifF_sm g1 hR
 obtain ⟨k8,g3⟩:=ask_inv g2 hR
 clear e f1 f2 f3 f4 f5 f6 f7 f8 f9 g1 g2
 generalize hL:sln (nL vs 0) = L at *
 rw [ble_iff] at k1 k7
 rw [beq_iff,len_eq] at k6
 rw [tk_eq] at k8
 obtain ⟨p1,p2,p3⟩:=(of_decide_eq_true k8:(∀ x∈xs.take L,0≤x∧x < 65536)∧(∀ p∈ws,p.1 < 256∧p.2 < 256)∧ded ((xs.take L).map Int.toNat) [] [] = (ws.map wv,ys))
 have hx12:xs.length = 12:=by
  have h1:=rdz_len (plc 0 0) (lim0 12 (nxt vs h))
  rw [hxs,List.length_map] at h1
  exact h1
 have hlim:limB (nxt vs h) = some L:=by
  unfold limO at k4
  unfold limB
  cases hb:(nxt vs h).bs.get 0 with
  | none=>rw [hb] at k4; cases k4
  | some B=>rw [hb] at k4; exact congrArg some ((beq_iff _ _).1 k4)
 have hh:=nxt_hS k5 (hxs.trans (soL_map xs)) hlim
 have hvs:=eqLs_eq _ _ k3
 have e0:xs.map (fun x=>AV.int 16 x) = valF 0 0 (fun j=>xs.getD j 0) (kF []) (eF []) (yF []):=by
  unfold valF
  simp only [upL_eq]
  rw [← hx12,map_getD (fun x=>AV.int 16 x) 0 xs]
  simp
 have hlen:((xs.take L).map Int.toNat).length = L:=by rw [List.length_map,List.length_take]; omega
 obtain ⟨m,hg⟩:=goes_all (b0:=b0) (R:=R) hF k7 k1 ((xs.take L).map Int.toNat) hlen (fun a ha=>by
   obtain ⟨y,hy,rfl⟩:=List.mem_map.1 ha
   have:=p1 y hy; omega) (fun j=>xs.getD j 0) (fun j hj=>by
   have hj':j < xs.length:=by omega
   have hj2:j < (xs.take L).length:=by simpa using hj
   rw [List.getElem_map]
   have:=(p1 _ (List.getElem_mem hj2)).1
   rw [Int.toNat_of_nonneg this,List.getElem_take]
   simp [List.getD,hj']) L 0 [] [] (by omega) rfl (.inl ⟨rfl,rfl⟩) (fun a ha=>by cases ha) (by
  rw [List.drop_zero,p3]
  have hv:=valW_eq (ys:=ys) hx12 p2
  rw [k6] at hv
  show ∃ m,Goes b0 body5 m (vS L L) (hS L L (ws.map wv).length (valF L (ws.map wv).length (fun j=>xs.getD j 0) (kF (ws.map wv)) (eF (ws.map wv)) (yF ys))) R
  rw [← hv]
  refine ⟨1,.oc ⟨bitsL n N,ocS h⟩ (.stop (fun vs' h' hh=>?_) ?_)⟩
  ·rw [stop5] at hh; cases hh
  ·rw [stop5]
   rw [len_eq] at g3
   rw [List.length_map]
   exact g3)
 refine ⟨m,.re 1 (nf vs h) 0 0 [0] [] oc0 k2 k1 ?_⟩
 have hvs:vs.map (rn (sg 1 (nf vs h))) = vS L 0:=hvs
 have hh:reH 1 (nf vs h) 0 0 [0] [] oc0 h = hS L 0 0 (xs.map (fun x=>.int 16 x)):=hh
 rw [hvs,hh,e0]
 exact hg
/-- What is found in the pool at the p-th of d numbers. -/
def SelT (d p:Nat):Prop:=∀ hi lo:Nat→Nat,(memO (o0 (Kn p)) (CL d hi lo),selI (o0 (Kn p)) (CL d hi lo),memO (o2 (Kn p)) (CL d hi lo),selI (o2 (Kn p)) (CL d hi lo)) = (true,Int.ofNat 3,true,numE (hi p) (lo p))
theorem sel_1_0:SelT 1 0:=by intro hi lo; kernel_rfl
theorem sel_2_0:SelT 2 0:=by intro hi lo; kernel_rfl
theorem sel_2_1:SelT 2 1:=by intro hi lo; kernel_rfl
theorem sel_3_0:SelT 3 0:=by intro hi lo; kernel_rfl
theorem sel_3_1:SelT 3 1:=by intro hi lo; kernel_rfl
theorem sel_3_2:SelT 3 2:=by intro hi lo; kernel_rfl
theorem sel_4_0:SelT 4 0:=by intro hi lo; kernel_rfl
theorem sel_4_1:SelT 4 1:=by intro hi lo; kernel_rfl
theorem sel_4_2:SelT 4 2:=by intro hi lo; kernel_rfl
theorem sel_4_3:SelT 4 3:=by intro hi lo; kernel_rfl
theorem sel_5_0:SelT 5 0:=by intro hi lo; kernel_rfl
theorem sel_5_1:SelT 5 1:=by intro hi lo; kernel_rfl
theorem sel_5_2:SelT 5 2:=by intro hi lo; kernel_rfl
theorem sel_5_3:SelT 5 3:=by intro hi lo; kernel_rfl
theorem sel_5_4:SelT 5 4:=by intro hi lo; kernel_rfl
theorem sel_6_0:SelT 6 0:=by intro hi lo; kernel_rfl
theorem sel_6_1:SelT 6 1:=by intro hi lo; kernel_rfl
theorem sel_6_2:SelT 6 2:=by intro hi lo; kernel_rfl
theorem sel_6_3:SelT 6 3:=by intro hi lo; kernel_rfl
theorem sel_6_4:SelT 6 4:=by intro hi lo; kernel_rfl
theorem sel_6_5:SelT 6 5:=by intro hi lo; kernel_rfl
theorem sel_7_0:SelT 7 0:=by intro hi lo; kernel_rfl
theorem sel_7_1:SelT 7 1:=by intro hi lo; kernel_rfl
theorem sel_7_2:SelT 7 2:=by intro hi lo; kernel_rfl
theorem sel_7_3:SelT 7 3:=by intro hi lo; kernel_rfl
theorem sel_7_4:SelT 7 4:=by intro hi lo; kernel_rfl
theorem sel_7_5:SelT 7 5:=by intro hi lo; kernel_rfl
theorem sel_7_6:SelT 7 6:=by intro hi lo; kernel_rfl
theorem sel_8_0:SelT 8 0:=by intro hi lo; kernel_rfl
theorem sel_8_1:SelT 8 1:=by intro hi lo; kernel_rfl
theorem sel_8_2:SelT 8 2:=by intro hi lo; kernel_rfl
theorem sel_8_3:SelT 8 3:=by intro hi lo; kernel_rfl
theorem sel_8_4:SelT 8 4:=by intro hi lo; kernel_rfl
theorem sel_8_5:SelT 8 5:=by intro hi lo; kernel_rfl
theorem sel_8_6:SelT 8 6:=by intro hi lo; kernel_rfl
theorem sel_8_7:SelT 8 7:=by intro hi lo; kernel_rfl
theorem sel_9_0:SelT 9 0:=by intro hi lo; kernel_rfl
theorem sel_9_1:SelT 9 1:=by intro hi lo; kernel_rfl
theorem sel_9_2:SelT 9 2:=by intro hi lo; kernel_rfl
theorem sel_9_3:SelT 9 3:=by intro hi lo; kernel_rfl
theorem sel_9_4:SelT 9 4:=by intro hi lo; kernel_rfl
theorem sel_9_5:SelT 9 5:=by intro hi lo; kernel_rfl
theorem sel_9_6:SelT 9 6:=by intro hi lo; kernel_rfl
theorem sel_9_7:SelT 9 7:=by intro hi lo; kernel_rfl
theorem sel_9_8:SelT 9 8:=by intro hi lo; kernel_rfl
theorem sel_10_0:SelT 10 0:=by intro hi lo; kernel_rfl
theorem sel_10_1:SelT 10 1:=by intro hi lo; kernel_rfl
theorem sel_10_2:SelT 10 2:=by intro hi lo; kernel_rfl
theorem sel_10_3:SelT 10 3:=by intro hi lo; kernel_rfl
theorem sel_10_4:SelT 10 4:=by intro hi lo; kernel_rfl
theorem sel_10_5:SelT 10 5:=by intro hi lo; kernel_rfl
theorem sel_10_6:SelT 10 6:=by intro hi lo; kernel_rfl
theorem sel_10_7:SelT 10 7:=by intro hi lo; kernel_rfl
theorem sel_10_8:SelT 10 8:=by intro hi lo; kernel_rfl
theorem sel_10_9:SelT 10 9:=by intro hi lo; kernel_rfl
theorem sel_11_0:SelT 11 0:=by intro hi lo; kernel_rfl
theorem sel_11_1:SelT 11 1:=by intro hi lo; kernel_rfl
theorem sel_11_2:SelT 11 2:=by intro hi lo; kernel_rfl
theorem sel_11_3:SelT 11 3:=by intro hi lo; kernel_rfl
theorem sel_11_4:SelT 11 4:=by intro hi lo; kernel_rfl
theorem sel_11_5:SelT 11 5:=by intro hi lo; kernel_rfl
theorem sel_11_6:SelT 11 6:=by intro hi lo; kernel_rfl
theorem sel_11_7:SelT 11 7:=by intro hi lo; kernel_rfl
theorem sel_11_8:SelT 11 8:=by intro hi lo; kernel_rfl
theorem sel_11_9:SelT 11 9:=by intro hi lo; kernel_rfl
theorem sel_11_10:SelT 11 10:=by intro hi lo; kernel_rfl
theorem sel_12_0:SelT 12 0:=by intro hi lo; kernel_rfl
theorem sel_12_1:SelT 12 1:=by intro hi lo; kernel_rfl
theorem sel_12_2:SelT 12 2:=by intro hi lo; kernel_rfl
theorem sel_12_3:SelT 12 3:=by intro hi lo; kernel_rfl
theorem sel_12_4:SelT 12 4:=by intro hi lo; kernel_rfl
theorem sel_12_5:SelT 12 5:=by intro hi lo; kernel_rfl
theorem sel_12_6:SelT 12 6:=by intro hi lo; kernel_rfl
theorem sel_12_7:SelT 12 7:=by intro hi lo; kernel_rfl
theorem sel_12_8:SelT 12 8:=by intro hi lo; kernel_rfl
theorem sel_12_9:SelT 12 9:=by intro hi lo; kernel_rfl
theorem sel_12_10:SelT 12 10:=by intro hi lo; kernel_rfl
theorem sel_12_11:SelT 12 11:=by intro hi lo; kernel_rfl
theorem selAll:∀ d p,d≤12→p < d→SelT d p
 | 1,0,_,_=>sel_1_0
 | 2,0,_,_=>sel_2_0
 | 2,1,_,_=>sel_2_1
 | 3,0,_,_=>sel_3_0
 | 3,1,_,_=>sel_3_1
 | 3,2,_,_=>sel_3_2
 | 4,0,_,_=>sel_4_0
 | 4,1,_,_=>sel_4_1
 | 4,2,_,_=>sel_4_2
 | 4,3,_,_=>sel_4_3
 | 5,0,_,_=>sel_5_0
 | 5,1,_,_=>sel_5_1
 | 5,2,_,_=>sel_5_2
 | 5,3,_,_=>sel_5_3
 | 5,4,_,_=>sel_5_4
 | 6,0,_,_=>sel_6_0
 | 6,1,_,_=>sel_6_1
 | 6,2,_,_=>sel_6_2
 | 6,3,_,_=>sel_6_3
 | 6,4,_,_=>sel_6_4
 | 6,5,_,_=>sel_6_5
 | 7,0,_,_=>sel_7_0
 | 7,1,_,_=>sel_7_1
 | 7,2,_,_=>sel_7_2
 | 7,3,_,_=>sel_7_3
 | 7,4,_,_=>sel_7_4
 | 7,5,_,_=>sel_7_5
 | 7,6,_,_=>sel_7_6
 | 8,0,_,_=>sel_8_0
 | 8,1,_,_=>sel_8_1
 | 8,2,_,_=>sel_8_2
 | 8,3,_,_=>sel_8_3
 | 8,4,_,_=>sel_8_4
 | 8,5,_,_=>sel_8_5
 | 8,6,_,_=>sel_8_6
 | 8,7,_,_=>sel_8_7
 | 9,0,_,_=>sel_9_0
 | 9,1,_,_=>sel_9_1
 | 9,2,_,_=>sel_9_2
 | 9,3,_,_=>sel_9_3
 | 9,4,_,_=>sel_9_4
 | 9,5,_,_=>sel_9_5
 | 9,6,_,_=>sel_9_6
 | 9,7,_,_=>sel_9_7
 | 9,8,_,_=>sel_9_8
 | 10,0,_,_=>sel_10_0
 | 10,1,_,_=>sel_10_1
 | 10,2,_,_=>sel_10_2
 | 10,3,_,_=>sel_10_3
 | 10,4,_,_=>sel_10_4
 | 10,5,_,_=>sel_10_5
 | 10,6,_,_=>sel_10_6
 | 10,7,_,_=>sel_10_7
 | 10,8,_,_=>sel_10_8
 | 10,9,_,_=>sel_10_9
 | 11,0,_,_=>sel_11_0
 | 11,1,_,_=>sel_11_1
 | 11,2,_,_=>sel_11_2
 | 11,3,_,_=>sel_11_3
 | 11,4,_,_=>sel_11_4
 | 11,5,_,_=>sel_11_5
 | 11,6,_,_=>sel_11_6
 | 11,7,_,_=>sel_11_7
 | 11,8,_,_=>sel_11_8
 | 11,9,_,_=>sel_11_9
 | 11,10,_,_=>sel_11_10
 | 12,0,_,_=>sel_12_0
 | 12,1,_,_=>sel_12_1
 | 12,2,_,_=>sel_12_2
 | 12,3,_,_=>sel_12_3
 | 12,4,_,_=>sel_12_4
 | 12,5,_,_=>sel_12_5
 | 12,6,_,_=>sel_12_6
 | 12,7,_,_=>sel_12_7
 | 12,8,_,_=>sel_12_8
 | 12,9,_,_=>sel_12_9
 | 12,10,_,_=>sel_12_10
 | 12,11,_,_=>sel_12_11
 | 0,_,_,h=>absurd h (by omega)
 | 1,p + 1,_,h=>absurd h (by omega)
 | 2,p + 2,_,h=>absurd h (by omega)
 | 3,p + 3,_,h=>absurd h (by omega)
 | 4,p + 4,_,h=>absurd h (by omega)
 | 5,p + 5,_,h=>absurd h (by omega)
 | 6,p + 6,_,h=>absurd h (by omega)
 | 7,p + 7,_,h=>absurd h (by omega)
 | 8,p + 8,_,h=>absurd h (by omega)
 | 9,p + 9,_,h=>absurd h (by omega)
 | 10,p + 10,_,h=>absurd h (by omega)
 | 11,p + 11,_,h=>absurd h (by omega)
 | 12,p + 12,_,h=>absurd h (by omega)
 | d + 13,_,h,_=>absurd h (by omega)
theorem sel_cases (d p:Nat) (hd:d≤12) (hp:p < d) (hi lo:Nat→Nat):memO (o0 (Kn p)) (CL d hi lo) = true∧selI (o0 (Kn p)) (CL d hi lo) = .ofNat 3∧memO (o2 (Kn p)) (CL d hi lo) = true∧selI (o2 (Kn p)) (CL d hi lo) = numE (hi p) (lo p):=by
 have key:∀ d p,SelT d p→memO (o0 (Kn p)) (CL d hi lo) = true∧selI (o0 (Kn p)) (CL d hi lo) = .ofNat 3∧memO (o2 (Kn p)) (CL d hi lo) = true∧selI (o2 (Kn p)) (CL d hi lo) = numE (hi p) (lo p):=fun d p h=>by
  have h:=h hi lo
  injection h with h1 h2
  injection h2 with h2 h3
  injection h3 with h3 h4
  exact ⟨h1,h2,h3,h4⟩
 exact key d p (selAll d p hd hp)
theorem apL_eq {α:Type} (l m:List α):apL l m = l ++ m:=by
 induction l with
 | nil=>rfl
 | cons a l ih=>exact congrArg (a :: ·) ih
theorem mem_eachL {α:Type} {f:Nat→List α} {q:α}:∀ {n:Nat} {m:List α},q∈eachL f n m→(∃ j,j < n∧q∈f j)∨q∈m:=by
 intro n
 induction n with
 | zero=>intro m h; exact .inr h
 | succ n ih=>
  intro m h
  have h:q∈eachL f n (apL (f n) m):=h
  rcases ih h with ⟨j,hj,h1⟩ | h1
  ·exact .inl ⟨j,by omega,h1⟩
  ·rw [apL_eq,List.mem_append] at h1
   rcases h1 with h1 | h1
   ·exact .inl ⟨n,by omega,h1⟩
   ·exact .inr h1
theorem w64n (m:Nat) (h:m < 18446744073709551616):wrapC 64 (Int.ofNat m) = (m:Int):=by
 show wrapC 64 (m:Int) = _
 rw [w64]; omega
theorem u64n (m:Nat) (h:m < 18446744073709551616):toU 64 (m:Int) = m:=by
 have:(toU 64 (m:Int):Int) = (m:Int) % 18446744073709551616:=toU_mod .u64 (m:Int)
 omega
theorem w63n (m:Nat) (h:m < 9223372036854775808):wrapC 63 (m:Int) = (m:Int):=w63_in _ (by omega) (by omega)
theorem u63n (m:Nat) (h:m < 18446744073709551616):toU 63 (m:Int) = m:=by
 have:(toU 63 (m:Int):Int) = (m:Int) % 18446744073709551616:=toU_mod .i64 (m:Int)
 omega
theorem numE_val (hi lo:Nat) (h1:hi < 256) (h2:lo < 256):numE hi lo = ((256 * hi + lo:Nat):Int):=by
 have e1:wrapC 63 (Int.ofNat (Nat.lor 0 (toU 63 (wrapC 63 (Int.ofNat hi))))) = (hi:Int):=by
  show wrapC 63 (Int.ofNat (Nat.lor 0 (toU 63 (wrapC 63 (hi:Int))))) = _
  rw [w63n _ (by omega),u63n _ (by omega),show Nat.lor 0 hi = hi from Nat.zero_or hi]
  exact w63n _ (by omega)
 have e2:wrapC 63 (Int.mul (hi:Int) (Int.ofNat 256)) = ((hi * 256:Nat):Int):=by
  rw [show Int.mul (hi:Int) (Int.ofNat 256) = ((hi * 256:Nat):Int) from rfl]
  exact w63n _ (by omega)
 have e3:Nat.lor (hi * 256) lo = 256 * hi + lo:=by
  have:=Nat.two_pow_add_eq_or_of_lt (i:=8) (b:=lo) (by omega) hi
  show hi * 256 ||| lo = _
  rw [Nat.mul_comm hi 256]
  exact this.symm
 unfold numE
 rw [e1,e2,show (Int.ofNat lo) = (lo:Int) from rfl,w63n lo (by omega),u63n _ (by omega),u63n _ (by omega),e3]
 rw [show Int.ofNat (256 * hi + lo) = ((256 * hi + lo:Nat):Int) from rfl,w63n _ (by omega),w31n _ (by omega),w63n _ (by omega)]
theorem prt_val (a s:Nat) (ha:a < 65536) (hs:s≤48):prt (a:Int) s = a * 2 ^ s:=by
 have hp:2 ^ s≤281474976710656:=Nat.le_trans (Nat.pow_le_pow_right (by omega) hs) (by decide)
 have hb:a * 2 ^ s < 18446744073709551616:=by
  have:a * 2 ^ s≤65535 * 281474976710656:=Nat.mul_le_mul (by omega) hp
  omega
 unfold prt
 rw [w63n a (by omega),show wrapC 64 (a:Int) = (a:Int) from w64n a (by omega),show Int.mul (a:Int) (Int.ofNat (Nat.pow 2 s)) = ((a * 2 ^ s:Nat):Int) from rfl,
  show wrapC 64 ((a * 2 ^ s:Nat):Int) = ((a * 2 ^ s:Nat):Int) from w64n _ hb,u64n _ hb]
 have e:Nat.land (a * 2 ^ s) (Nat.mul 65535 (Nat.pow 2 s)) = a * 2 ^ s:=by
  show (a * 2 ^ s) &&& (65535 * 2 ^ s) = _
  rw [← Nat.shiftLeft_eq,← Nat.shiftLeft_eq,← Nat.shiftLeft_and_distrib,show (65535:Nat) = 2 ^ 16 - 1 from rfl,Nat.and_two_pow_sub_one_eq_mod,Nat.mod_eq_of_lt (show a < 2 ^ 16 by omega)]
 rw [e,show wrapC 64 (Int.ofNat (a * 2 ^ s)) = ((a * 2 ^ s:Nat):Int) from w64n _ hb,u64n _ hb]
theorem stepW (W a s nm:Nat) (ha:a < 65536) (hs:s≤48) (hW:W < 2 ^ s) (h1:nm % 2 ^ s = 2 ^ s - 1):wrapC 64 (.ofNat (Nat.lor (toU 64 (wrapC 64 (.ofNat (Nat.land (toU 64 (W:Int)) nm)))) (prt (a:Int) s))) = ((W + a * 2 ^ s:Nat):Int):=by
 have hp:2 ^ s≤281474976710656:=Nat.le_trans (Nat.pow_le_pow_right (by omega) hs) (by decide)
 have hb:W + a * 2 ^ s < 18446744073709551616:=by
  have:a * 2 ^ s≤65535 * 281474976710656:=Nat.mul_le_mul (by omega) hp
  omega
 have e1:Nat.land W nm = W:=by
  show W &&& nm = W
  have e2:(W &&& nm) % 2 ^ s = W:=by
   rw [Nat.and_mod_two_pow,h1,Nat.and_two_pow_sub_one_eq_mod,Nat.mod_mod,Nat.mod_eq_of_lt hW]
  have e3:W &&& nm≤W:=Nat.and_le_left
  rwa [Nat.mod_eq_of_lt (by omega)] at e2
 have e4:Nat.lor W (a * 2 ^ s) = W + a * 2 ^ s:=by
  have:=Nat.two_pow_add_eq_or_of_lt (i:=s) (b:=W) hW a
  show W ||| a * 2 ^ s = _
  rw [Nat.or_comm,Nat.mul_comm a,← this]; omega
 rw [u64n _ (by omega),e1,show wrapC 64 (Int.ofNat W) = (W:Int) from w64n _ (by omega),u64n _ (by omega),prt_val a s ha hs,e4]
 exact w64n _ hb
/-- A word of chars. -/
theorem wrd_val (c:Nat→Int) (a:Nat→Nat) (b:Nat):∀ r,r≤3→(∀ j,j≤r→c (b + j) = (a j:Int)∧a j < 65536)→∃ V:Nat,wrd c b r = (V:Int)∧V < 2 ^ (16 * (r + 1))∧∀ s,s≤r→V / 2 ^ (16 * s) % 65536 = a s:=by
 intro r
 induction r with
 | zero=>
  intro _ h
  obtain ⟨h1,h2⟩:=h 0 (Nat.le_refl _)
  have h1:c b = (a 0:Int):=h1
  refine ⟨a 0,?_,by simpa using h2,fun s hs=>?_⟩
  ·show wrapC 64 (.ofNat (Nat.lor 0 (prt (c b) 0))) = _
   rw [h1,prt_val _ 0 h2 (by omega),show Nat.lor 0 (a 0 * 2 ^ 0) = a 0 from by show 0 ||| a 0 * 2 ^ 0 = a 0; rw [Nat.zero_or]; simp]
   exact w64n _ (by omega)
  ·obtain rfl:s = 0:=by omega
   simp; omega
 | succ r ih=>
  intro hr h
  obtain ⟨V,h1,h2,h3⟩:=ih (by omega) (fun j hj=>h j (by omega))
  obtain ⟨h4,h5⟩:=h (r + 1) (Nat.le_refl _)
  refine ⟨V + a (r + 1) * 2 ^ (16 * (r + 1)),?_,?_,fun s hs=>?_⟩
  ·show wrapC 64 (.ofNat (Nat.lor (toU 64 (wrapC 64 (.ofNat (Nat.land (toU 64 (wrd c b r)) (18446744073709551615 - 65535 * 2 ^ (16 * (r + 1))))))) (prt (c (b + (r + 1))) (16 * (r + 1))))) = _
   rw [h1,h4]
   refine stepW V (a (r + 1)) (16 * (r + 1)) _ h5 (by omega) h2 ?_
   have hr3:r = 0∨r = 1∨r = 2:=by omega
   rcases hr3 with rfl | rfl | rfl <;> rfl
  ·have hr3:r = 0∨r = 1∨r = 2:=by omega
   rcases hr3 with rfl | rfl | rfl <;> simp at h2 h5 ⊢ <;> omega
  ·by_cases hs':s = r + 1
   ·subst hs'
    have hr3:r = 0∨r = 1∨r = 2:=by omega
    rcases hr3 with rfl | rfl | rfl <;> simp at h2 h5 ⊢ <;> omega
   ·rw [← h3 s (by omega)]
    have hr3:r = 0∨r = 1∨r = 2:=by omega
    have hs3:s = 0∨s = 1∨s = 2:=by omega
    rcases hr3 with rfl | rfl | rfl <;> rcases hs3 with rfl | rfl | rfl <;> first | (simp at h2 h5 ⊢; omega) | omega
theorem mn_eq (a b:Nat):mn a b = min a b:=by
 unfold mn
 by_cases h:a≤b
 ·rw [(ble_iff a b).2 h]; show a = _; omega
 ·rw [show Nat.ble a b = false from by rw [Bool.eq_false_iff,ne_eq,ble_iff]; exact h]; show b = _; omega
theorem qA_t:∀ p,p < 12→qA (Kn p) = true:=by decide +kernel
theorem lt1_t:∀ p,p < 12→beqB (ltI (.ofNat (Kn p)) (.ofNat 1)) false = true:=by decide +kernel
theorem ltd_t:∀ d,d < 13→∀ p,p < d→beqB (bnot (ltI (.ofNat (Kn p)) (.ofNat (Nat.add 33 d)))) false = true∧Nat.blt (Kn p) (Nat.add 33 d) = true:=by decide +kernel
theorem hq_t {L d:Nat} {x:Nat→Int} {hi lo y:Nat→Nat} (hd:d≤12) (hw:∀ p,p < d→hi p < 256∧lo p < 256) (hy:∀ j,j < L→∃ p,p < d∧y j = Kn p∧x j = ((256 * hi p + lo p:Nat):Int)) {m k:Nat} (hm:m≤L) (hk:k < m):hq d x hi lo y m k = true:=by
 have hx:∀ t,t < L→∃ a:Nat,a < 65536∧x t = (a:Int)∧wrapC 16 (selI (o2 (y t)) (CL d hi lo)) = (a:Int):=fun t ht=>by
  obtain ⟨p,hp,h1,h2⟩:=hy t ht
  obtain ⟨h3,h4⟩:=hw p hp
  refine ⟨256 * hi p + lo p,by omega,h2,?_⟩
  rw [h1,(sel_cases d p hd hp hi lo).2.2.2,numE_val _ _ h3 h4]
  exact w16_in _ (by omega) (by omega)
 have hc:∀ t,t < m→∃ a:Nat,a < 65536∧x t = (a:Int)∧chs d x hi lo y m t = (a:Int):=fun t ht=>by
  obtain ⟨a,h1,h2,h3⟩:=hx t (by omega)
  refine ⟨a,h1,h2,?_⟩
  unfold chs
  cases Nat.beq (Nat.succ t) m with
  | true=>exact h3
  | false=>exact h2
 have hq1:hq d x hi lo y m k = eqI (wrapC 16 (shrI (wrd (chs d x hi lo y m) (4 * (k / 4)) (mn 3 (m - 1 - 4 * (k / 4)))) (16 * (k % 4)))) (x k):=rfl
 rw [hq1,mn_eq]
 generalize hr:min 3 (m - 1 - 4 * (k / 4)) = r
 have hr3:r≤3:=by omega
 have hks:k % 4≤r:=by omega
 obtain ⟨V,h1,-,h3⟩:=wrd_val (chs d x hi lo y m) (fun j=>(x (4 * (k / 4) + j)).toNat) (4 * (k / 4)) r hr3 (fun j hj=>by
  obtain ⟨a,h1,h2,h3⟩:=hc (4 * (k / 4) + j) (by omega)
  rw [h3,h2]; exact ⟨rfl,h1⟩)
 have h4:=h3 (k % 4) hks
 have hk4:4 * (k / 4) + k % 4 = k:=by omega
 rw [hk4] at h4
 obtain ⟨a,a1,a2,-⟩:=hc k hk
 rw [h1,shr_n,w16,eqI_eq,a2]
 rw [a2] at h4
 have h4:V / 2 ^ (16 * (k % 4)) % 65536 = a:=h4
 rw [show ((V / 2 ^ (16 * (k % 4)):Nat):Int) % 65536 = ((V / 2 ^ (16 * (k % 4)) % 65536:Nat):Int) from by omega,h4]
 simp
theorem cq_t {L d:Nat} {x:Nat→Int} {hi lo y:Nat→Nat} (hd:d≤12) (hy:∀ j,j < L→∃ p,p < d∧y j = Kn p∧x j = ((256 * hi p + lo p:Nat):Int)) {j:Nat} (hj:j < L) {m:List Bool} (hm:∀ q∈m,q = true):∀ q∈cq d hi lo (y j) m,q = true:=by
 obtain ⟨p,hp,h1,-⟩:=hy j hj
 obtain ⟨s1,s2,s3,s4⟩:=sel_cases d p hd hp hi lo
 intro q hq
 unfold cq at hq
 rw [h1,s1,s2,(ltd_t d (by omega) p hp).2] at hq
 simp only [List.mem_cons] at hq
 rcases hq with rfl | rfl | rfl | hq
 ·rfl
 ·rfl
 ·rfl
 ·exact hm q hq
theorem qs_true {L d:Nat} {x:Nat→Int} {hi lo y:Nat→Nat} {n X:Nat} (hd:d≤12) (hw:∀ p,p < d→hi p < 256∧lo p < 256) (hy:∀ j,j < L→∃ p,p < d∧y j = Kn p∧x j = ((256 * hi p + lo p:Nat):Int)) (hL:L≤12) (hn:1≤n) (hn2:n≤48) (hX:X < 256 ^ n) (hp:patQ (upL (fun j=>x j) L []) (upL (fun j=>(hi j,lo j)) d []) (upL (fun j=>y j) L []) = true) (he:encQ (upL (fun j=>x j) L []) n X = true):∀ q∈qsL L d x hi lo y n X,q = true:=by
 have hA:∀ j,j < L→qA (y j) = true:=fun j hj=>by
  obtain ⟨p,hp,h1,-⟩:=hy j hj
  rw [h1]; exact qA_t p (by omega)
 have lqt:∀ {m:List Bool},(∀ q∈m,q = true)→∀ q∈lq n m,q = true:=fun hm q hq=>by
  unfold lq at hq
  simp only [List.mem_cons] at hq
  rcases hq with rfl | rfl | rfl | rfl | hq
  ·rw [ble_iff]; exact Nat.le_refl _
  ·rw [show Nat.beq n 0 = false from by rw [Bool.eq_false_iff,ne_eq,beq_iff]; omega]; rfl
  ·rw [ble_iff]; show n * 1≤_; omega
  ·rw [ble_iff]; omega
  ·exact hm q hq
 have last:∀ q∈[Nat.ble n n,Nat.blt X (Nat.pow 256 n),Nat.ble n n,Nat.blt X (Nat.pow 256 n)],q = true:=fun q hq=>by
  have e1:Nat.ble n n = true:=by rw [ble_iff]; exact Nat.le_refl _
  have e2:Nat.blt X (Nat.pow 256 n) = true:=by rw [blt_iff]; exact hX
  simp only [List.mem_cons,e1,e2,List.not_mem_nil,or_false] at hq
  rcases hq with h | h | h | h <;> exact h
 intro q hq
 unfold qsL at hq
 rcases List.mem_cons.1 hq with rfl | hq
 ·exact hp
 rcases List.mem_cons.1 hq with rfl | hq
 ·exact he
 rcases mem_upL hq with ⟨j,hj,rfl⟩ | hq
 ·refine beq_f ?_
  show 105 + 16777216 * (hi j + 256 * lo j) ≠ 435476710261
  omega
 rcases mem_upL hq with ⟨j,hj,rfl⟩ | hq
 ·exact hA j hj
 rcases mem_eachL hq with ⟨j,hj,hq⟩ | hq
 ·obtain ⟨p,hp,h1,-⟩:=hy j hj
  obtain ⟨s1,s2,s3,s4⟩:=sel_cases d p hd hp hi lo
  unfold tq at hq
  rw [h1,s1,s2,(ltd_t d (by omega) p hp).1,(ltd_t d (by omega) p hp).2,lt1_t p (by omega)] at hq
  simp only [List.mem_cons,List.not_mem_nil,or_false] at hq
  rcases hq with rfl | rfl | rfl | rfl | rfl <;> rfl
 rcases mem_upL hq with ⟨j,hj,rfl⟩ | hq
 ·exact hA j hj
 rcases mem_eachL hq with ⟨j,hj,hq⟩ | hq
 ·exact cq_t hd hy hj (fun q hq=>by cases hq) q hq
 rcases mem_eachL hq with ⟨j,hj,hq⟩ | hq
 ·unfold rq at hq
  rcases List.mem_cons.1 hq with rfl | hq
  ·exact hA j hj
  refine cq_t hd hy hj (fun q hq=>?_) q hq
  obtain ⟨p,hp,h1,-⟩:=hy j hj
  obtain ⟨s1,s2,s3,s4⟩:=sel_cases d p hd hp hi lo
  rcases List.mem_cons.1 hq with rfl | hq
  ·rw [h1]; exact (ltd_t d (by omega) p hp).2
  rcases List.mem_cons.1 hq with rfl | hq
  ·rw [h1]; exact s3
  rcases List.mem_cons.1 hq with rfl | hq
  ·exact hA j hj
  rcases mem_upL hq with ⟨k,hk,rfl⟩ | hq
  ·exact hq_t hd hw hy (by omega) hk
  ·cases hq
 rcases mem_upL hq with ⟨k,hk,rfl⟩ | hq
 ·exact hq_t hd hw hy (Nat.le_refl _) hk
 rcases List.mem_cons.1 hq with rfl | hq
 ·exact he
 rcases List.mem_cons.1 hq with rfl | hq
 ·rw [show wrapC 63 (Int.add (.ofNat 0) (.ofNat n)) = (n:Int) from by
   have e2:Int.add (.ofNat 0) (.ofNat n) = (n:Int):=by show (0:Int) + (n:Int) = n; omega
   rw [e2]; exact w63n _ (by omega)]
  rw [show ltI (Int.ofNat 4096) (n:Int) = false from by rw [ltI_eq,decide_eq_false_iff_not]; show ¬ (4096:Int) < (n:Int); omega]
  rfl
 exact lqt (lqt last) q hq
theorem ded_spec:∀ (l ws ys:List Nat),∃ W Y:List Nat,(ded l ws ys).1 = ws ++ W∧W.length≤l.length∧(∀ a∈W,a∈l)∧(ded l ws ys).2 = ys ++ Y∧Y.length = l.length ∧
  ∀ j,j < l.length→∃ p,p < (ws ++ W).length∧Y.getD j 0 = kx p + 1∧(ws ++ W).getD p 0 = l.getD j 0:=by
 intro l
 induction l with
 | nil=>intro ws ys; exact ⟨[],[],by simp [ded],Nat.le_refl _,fun a h=>(by cases h),by simp [ded],rfl,fun j hj=>by simp at hj⟩
 | cons a l ih=>
  intro ws ys
  by_cases hm:a∈ws
  ·obtain ⟨W,Y,h1,h2,h3,h4,h5,h6⟩:=ih ws (ys ++ [kx (idxN a ws) + 1])
   have e:ded (a :: l) ws ys = ded l ws (ys ++ [kx (idxN a ws) + 1]):=by simp only [ded,if_pos hm]
   refine ⟨W,(kx (idxN a ws) + 1) :: Y,by rw [e]; exact h1,by simp; omega,fun b hb=>List.mem_cons_of_mem _ (h3 b hb),by rw [e,h4]; simp,by simp [h5],fun j hj=>?_⟩
   cases j with
   | zero=>
    obtain ⟨p1,p2,-⟩:=idx_in hm
    refine ⟨idxN a ws,by rw [List.length_append]; omega,rfl,?_⟩
    rw [List.getD_eq_getElem?_getD,List.getElem?_append_left p1,← List.getD_eq_getElem?_getD,p2]; rfl
   | succ j=>
    obtain ⟨p,q1,q2,q3⟩:=h6 j (by simpa using hj)
    exact ⟨p,q1,q2,q3⟩
  ·obtain ⟨W,Y,h1,h2,h3,h4,h5,h6⟩:=ih (ws ++ [a]) (ys ++ [kx (idxN a ws) + 1])
   have e:ded (a :: l) ws ys = ded l (ws ++ [a]) (ys ++ [kx (idxN a ws) + 1]):=by simp only [ded,if_neg hm]
   have ew:ws ++ [a] ++ W = ws ++ (a :: W):=by simp
   rw [ew] at h1 h6
   refine ⟨a :: W,(kx (idxN a ws) + 1) :: Y,by rw [e]; exact h1,by simp; omega,fun b hb=>?_,by rw [e,h4]; simp,by simp [h5],fun j hj=>?_⟩
   ·rcases List.mem_cons.1 hb with rfl | hb
    ·exact List.mem_cons_self
    ·exact List.mem_cons_of_mem _ (h3 b hb)
   cases j with
   | zero=>
    refine ⟨ws.length,by simp,by rw [idx_out hm]; rfl,?_⟩
    rw [List.getD_eq_getElem?_getD,List.getElem?_append_right (Nat.le_refl _)]; simp
   | succ j=>
    obtain ⟨p,q1,q2,q3⟩:=h6 j (by simpa using hj)
    exact ⟨p,q1,q2,q3⟩
/-- The run of some chars answers true,when it is told what it comes to. -/
theorem run_true (hB:∀ L d,1≤d→d≤L→L≤12→BQ L d) (t:List Nat) (h1:1≤t.length) (h2:t.length≤12) (ht:∀ a∈t,a < 65536):
  ∃ s,isT (s5J [.sl 0 0 t.length 1 none] ((Hu t.length (upL (fun j=>.int 16 ((t.getD j 0:Nat):Int)) 12 [])).wo ⟨[],s⟩)) = true:=by
 obtain ⟨W,Y,e1,l1,m1,e2,l2,hp⟩:=ded_spec t [] []
 rw [List.nil_append] at e1 e2 hp
 have hW:∀ a∈W,a < 65536:=fun a ha=>ht a (m1 a ha)
 have hWg:∀ p,p < W.length→W.getD p 0 < 65536:=fun p hp=>by
  rw [List.getD_eq_getElem?_getD,List.getElem?_eq_getElem hp]
  exact hW _ (List.getElem_mem hp)
 have hd1:1≤W.length:=by
  obtain ⟨p,q1,-⟩:=hp 0 (by omega)
  omega
 have hne:t ≠ []:=fun h=>by rw [h] at h1; simp at h1
 have x1:(upL (fun j=>((t.getD j 0:Nat):Int)) t.length []).map Int.toNat = t:=by
  rw [upL_eq,List.append_nil,map_getD (fun a:Nat=>(a:Int)) 0 t,List.map_map]
  have:(Int.toNat ∘ fun a:Nat=>(a:Int)) = id:=by funext a; simp
  rw [this]; simp
 have x2:∀ a∈upL (fun j=>((t.getD j 0:Nat):Int)) t.length [],0≤a∧a < 65536:=fun a ha=>by
  rw [upL_eq,List.append_nil,map_getD (fun a:Nat=>(a:Int)) 0 t] at ha
  obtain ⟨b,hb,rfl⟩:=List.mem_map.1 ha
  have:=ht b hb; omega
 have x3:(upL (fun j=>(W.getD j 0 / 256,W.getD j 0 % 256)) W.length []).map wv = W:=by
  rw [upL_eq,List.append_nil,map_getD (fun a:Nat=>(a / 256,a % 256)) 0 W,List.map_map]
  have:(wv ∘ fun a:Nat=>(a / 256,a % 256)) = id:=by funext a; show 256 * (a / 256) + a % 256 = a; omega
  rw [this]; simp
 have x4:∀ p∈upL (fun j=>(W.getD j 0 / 256,W.getD j 0 % 256)) W.length [],p.1 < 256∧p.2 < 256:=fun p hp=>by
  rw [upL_eq,List.append_nil,map_getD (fun a:Nat=>(a / 256,a % 256)) 0 W] at hp
  obtain ⟨b,hb,rfl⟩:=List.mem_map.1 hp
  have:=hW b hb
  show b / 256 < 256∧b % 256 < 256; omega
 have x5:upL (fun j=>Y.getD j 0) t.length [] = Y:=by
  rw [upL_eq,List.append_nil,← l2,map_getD (fun a:Nat=>a) 0 Y]; simp
 have hq:=hB t.length W.length hd1 (by omega) h2 (fun j=>((t.getD j 0:Nat):Int)) (fun j=>W.getD j 0 / 256) (fun j=>W.getD j 0 % 256) (fun j=>Y.getD j 0) (outC t).length (pkN (outC t))
 refine ⟨_,hq.trans (anL_t ?_ (qs_true (by omega) (fun p hp=>?_) (fun j hj=>?_) h2 ?_ ?_ ?_ ?_ ?_))⟩
 ·show bAnd (Nat.beq (outC t).length (outC t).length) (Nat.beq (pkN (outC t)) (pkN (outC t))) = true
  rw [(beq_iff _ _).2 rfl,(beq_iff _ _).2 rfl]; rfl
 ·have:=hWg p hp; omega
 ·obtain ⟨p,q1,q2,q3⟩:=hp j hj
  refine ⟨p,q1,q2,?_⟩
  rw [← q3]
  have:=hWg p q1; omega
 ·exact out_pos t hne
 ·have:=out_len t; omega
 ·exact pk_lt _ (out_byt t ht)
 ·refine decide_eq_true ⟨x2,x4,?_⟩
  rw [x1,x3,x5,← e1,← e2]
 ·exact decide_eq_true ⟨x2,by rw [x1],by rw [x1]⟩
theorem long5 (M:Nat) (h:Hp):s5J [.sl 0 0 (Nat.add M 13) 1 none] h = t5K h.nb (.sl 0 0 12 1 none) (.bool true) h:=by kernel_rfl
theorem short5 (h:Hp):s5J [.sl 0 0 12 1 none] h = t5K h.nb (.sl 0 0 12 1 none) (.bool true) h:=by kernel_rfl
theorem args_cells {g:Option Nat} {ρ:Rho} {w:World} {m:Nat} {t t':T AV} {o:Oc} (A:Args g ρ (Ha m t) w) (h:∀ i,i < m→t'.get i = t.get i):Args g ρ ((Ha m t').wo o) w:=by
 have hget:∀ (t:T AV) (b:Nat) (B:Blk),(Ha m t).bs.get b = some B→b = 0∧B = ⟨false,0,m,.nil,t⟩:=fun t b B hb=>by
  have hb:(T.set (⟨false,0,m,.nil,t⟩:Blk) .e 0).get b = some B:=hb
  rw [T.get_set] at hb
  by_cases h0:b = 0
  ·rw [if_pos h0] at hb; exact ⟨h0,(Option.some.inj hb).symm⟩
  ·rw [if_neg h0] at hb; cases hb
 have hi:=A.inv
 have no:∀ {b:Nat} {B:Blk},(Ha m t').bs.get b = some B→B.fr = true→False:=fun hb hf=>by
  obtain ⟨-,rfl⟩:=hget _ _ _ hb; cases hf
 refine ⟨⟨fun b B hb=>?_,fun b B hb=>?_,fun b B hb hf=>(no hb hf).elim,fun g q hq=>(by cases hq),fun b1 b2 B1 B2 p1 p2 h1 h2 f1=>(no h1 f1).elim,fun b1 b2 B1 B2 p1 p2 h1 h2 f1=>(no h1 f1).elim,hi.free,hi.wsz,⟨fun b m hb=>(by cases hb),fun b1 b2 m1 m2 p1 p2 h1=>(by cases h1)⟩,hi.jj⟩,fun b B hb=>?_,rfl,rfl,rfl⟩
 ·obtain ⟨rfl,rfl⟩:=hget _ _ _ hb
  obtain ⟨p,h1,h2⟩:=hi.blk 0 ⟨false,0,m,.nil,t⟩ (by show (T.set (⟨false,0,m,.nil,t⟩:Blk) .e 0).get 0 = _; rw [T.get_set,if_pos rfl])
  obtain ⟨cs,e,fz,k1,k2,k3,k4⟩:=h2.obj
  refine ⟨p,h1,⟨cs,e,fz,k1,k2,fun hf=>(by cases hf),fun _ i hil=>?_⟩,h2.fit,h2.side⟩
  have hil:i < m:=hil
  obtain ⟨V,k5,k6⟩:=k4 (fun hf=>by cases hf) i hil
  refine ⟨V,k5,?_⟩
  have e1:(⟨false,0,m,.nil,t'⟩:Blk).at i = (⟨false,0,m,.nil,t⟩:Blk).at i:=by
   rw [at_in _ (show i < m from hil),at_in _ (show i < m from hil)]
   show (match t'.get i with | some v=>v | none=>_) = (match t.get i with | some v=>v | none=>_)
   rw [h i hil]
  rw [e1]
  exact k6
 ·obtain ⟨rfl,-⟩:=hget _ _ _ hb
  exact Nat.lt_succ_self _
 ·obtain ⟨-,rfl⟩:=hget _ _ _ hb; rfl
theorem u16_wf {n:Int} (h:(Lit.int .u16 n).wf = true):0≤n∧n < 65536:=by
 have e1:IntKind.u16.min = 0:=rfl
 have e2:IntKind.u16.max = 65535:=rfl
 have h:=h
 simp [Lit.wf,e1,e2] at h
 omega
theorem J1_norm (b0:Nat) (vs:List AV) (h:Hp) (vs':List AV) (h':Hp):now (J1 b0 vs h) ≠ .norm vs' h':=by
 intro e
 have hR:Fine (.norm vs' h'):=by simp
 have e:Sm (J1 b0 vs h) (.norm vs' h'):=e
 obtain ⟨-,f1⟩:=ifF_sm e hR
 obtain ⟨-,f2⟩:=ifF_sm f1 hR
 obtain ⟨-,f3⟩:=ifF_sm f2 hR
 obtain ⟨-,f4⟩:=ifF_sm f3 hR
 obtain ⟨-,f5⟩:=ifF_sm f4 hR
 obtain ⟨xs,-,f6⟩:=intsO_sm hR _ _ f5
 obtain ⟨ws,f7⟩:=prsA_sm hR _ _ f6
 obtain ⟨ys,f8⟩:=natsA_sm hR _ _ f7
 obtain ⟨n,N,-,f9⟩:=cS_sm f8 hR
 obtain ⟨-,g1⟩:=ifF_sm f9 hR
 obtain ⟨-,g2⟩:=ifF_sm g1 hR
 obtain ⟨-,g3⟩:=ask_inv g2 hR
 cases g3
theorem want_norm (b0:Nat) (vs:List AV) (h:Hp) (vs':List AV) (h':Hp):now (wantF b0 vs h) ≠ .norm vs' h':=by
 intro e
 have hR:Fine (.norm vs' h'):=by simp
 have e:Sm (wantF b0 vs h) (.norm vs' h'):=e
 obtain ⟨v,a1,rfl,f1⟩:=uc_sm e hR
 obtain ⟨c1,a2,rfl,f2⟩:=uc_sm f1 hR
 obtain ⟨c2,a3,rfl,f3⟩:=uc_sm f2 hR
 obtain ⟨c3,a4,rfl,f4⟩:=uc_sm f3 hR
 obtain ⟨c4,a5,rfl,f5⟩:=uc_sm f4 hR
 obtain ⟨w0,a6,rfl,f6⟩:=uc_sm f5 hR
 obtain ⟨i0,a7,rfl,f7⟩:=uc_sm f6 hR
 obtain ⟨rfl,f8⟩:=uz_sm f7 hR
 obtain ⟨rfl,f9⟩:=eqAV_sm f8 hR
 obtain ⟨rfl,g1⟩:=eqAV_sm f9 hR
 obtain ⟨-,g2⟩:=ifF_sm g1 hR
 obtain ⟨t1,rfl,k1⟩:=cB_sm g2 hR
 obtain ⟨p,o,rfl,k2⟩:=cP_sm k1 hR
 obtain ⟨sn,sx,rfl,k3⟩:=cS_sm k2 hR
 obtain ⟨b4,o4,n4,z4,m4,rfl,k4⟩:=cL_sm k3 hR
 obtain ⟨-,k5⟩:=ifF_sm k4 hR
 obtain ⟨-,k6⟩:=ifF_sm k5 hR
 obtain ⟨b,c,xs,n,X,B,rfl,-,-,-,-,-,-,-,g3⟩:=rowQ_sm hR k6
 cases g3
theorem e5J (s8 s10 s14 s16 s19 s20 s22 s24 s25 s26 s27:Fun) (j1 j2:Nat→Fun):b5J s8 s10 s14 s16 s19 s20 s22 s24 s25 s26 s27 j1 j2 = den2 Tryz.prog (gam [(8,s8),(10,s10),(14,s14),(16,s16),(19,s19),(20,s20),(22,s22),(24,s24),(25,s25),(26,s26),(27,s27),(1000000001,fun _ _=>.fail)]) Tryz.f5 j1 j2 .z .z (.s .z (.s .z .z)) (.s .z (.s .z .z)) [0,3] .z .z .z .z .z [0,3,4,5,6,7] [0,3,4,5,6,7,8] .z [3,4,5,6,7] [0,3,4,5,6,7,9] (.s .z (.s .z (.s .z (.s .z (.s .z .z))))):=by kernel_rfl
theorem l51 (s8 s10 s14 s16 s19 s20 s22 s24 s25 s26 s27:Fun):loop1 Tryz.prog (gam [(8,s8),(10,s10),(14,s14),(16,s16),(19,s19),(20,s20),(22,s22),(24,s24),(25,s25),(26,s26),(27,s27),(1000000001,fun _ _=>.fail)]) Tryz.f5 [0,3,4,5,6,7] [0,3,4,5,6,7,8] (.s (.s .z (.s .z .z)) (.s (.b [0,3,4,5,6,7,8] .z) .z)) = L5n0 s8 s10 s14 s16 s19 s20 s22 s24 s25 s26 s27:=by kernel_rfl
theorem l52 (s8 s10 s14 s16 s19 s20 s22 s24 s25 s26 s27:Fun):loop2 Tryz.prog (gam [(8,s8),(10,s10),(14,s14),(16,s16),(19,s19),(20,s20),(22,s22),(24,s24),(25,s25),(26,s26),(27,s27),(1000000001,fun _ _=>.fail)]) Tryz.f5 [3,4,5,6,7] [0,3,4,5,6,7,9] (.s (.s .z (.s .z .z)) (.s (.b [0,3,4,5,6,7,9] (.s .z (.j [0,3,4,5,6,7,9,10] (.s .z (.s (.s .z (.s (.s .z .z) .z)) .z)) .z))) .z)) = L5n1 s8 s10 s14 s16 s19 s20 s22 s24 s25 s26 s27:=by kernel_rfl
theorem F5J (hF:∀ i d p,Dom i d p→FQ i d p):Snd Tryz.prog 5 s5J:=by
 refine ⟨?_,F5.2⟩
 obtain ⟨c,hc⟩:=Option.isSome_iff_exists.1 (show Tryz.f5.body.isSome = true by kernel_rfl)
 have h:=den2_sound (J1:=J1) (J2:=wantF) (x0:=.z) (x1:=.z) (x2:=.s .z (.s .z .z)) (x3:=.s .z (.s .z .z)) (x4:=.z) (x5:=.z) (x6:=.z) (x7:=.z) (x8:=.z) (x9:=.z) (x10:=.s .z (.s .z (.s .z (.s .z (.s .z .z)))))
  (lj:=[0,3]) (l1:=[0,3,4,5,6,7]) (m1:=[0,3,4,5,6,7,8]) (l2:=[3,4,5,6,7]) (m2:=[0,3,4,5,6,7,9]) hmix (gcons F8 (gcons F10 (gcons F14 (gcons F16 (gcons F19 (gcons F20 (gcons F22 (gcons F24 (gcons F25 (gcons F26 (gcons F27 (gconsE efail gnil)))))))))))) (.s (.s .z (.s .z .z)) (.s (.b [0,3,4,5,6,7,8] .z) .z)) (.s (.s .z (.s .z .z)) (.s (.b [0,3,4,5,6,7,9] (.s .z (.j [0,3,4,5,6,7,9,10] (.s .z (.s (.s .z (.s (.s .z .z) .z)) .z)) .z))) .z)) Tryz.func5 hc
  (fun b0 vs h r hr e=>by rw [l51]; exact J1_goes hF b0 vs h r hr e) J1_norm (fun b0 vs h r hr e=>by rw [l52]; exact want_goes b0 b0 vs h r hr e) want_norm
 rw [← e5J] at h
 exact h

end
end Go.Proofs.YtbkkfmjofmfijaaGreatDoor
