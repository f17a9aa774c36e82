/-
  An abstract machine for the model's code, part 3: what it answers is what the model does.
-/
import Derived.Test.YtbkkfmjofmfijaaGreatDoorEb
import Derived.MapKept
import Derived.Laws.StructEq
import Derived.Laws.RangeString
import Derived.OrdersHeld
set_option linter.unusedVariables false
set_option linter.unusedSimpArgs false
namespace Go.AM
open Go
set_option autoImplicit false
section
variable {P:Program} {N0:Base} {ρ:Rho} {h:Hp} {w:World} {x y:AV} {X Y:Value} {r:Res}
theorem lenV_inv {k:AV→Res} (e:lenV y k = r) (hr:r ≠ .fail) (hy:VR ρ y Y):∃ m:Nat,k (.int 63 m) = r∧(∀ w,(Builtin.lenOf Y).run P w = .ok m w)∧(y = .nils∨y = .esl→m = 0):=by
 cases y with
 | str n a=>obtain ⟨s,rfl,rfl,rfl⟩:=hy; exact ⟨_,e,fun w=>rfl,fun h=>by rcases h with h | h <;> cases h⟩
 | nils=>have hy:Y = .slice none 0 0:=hy; subst hy; exact ⟨_,e,fun w=>rfl,fun _=>rfl⟩
 | sl b o n z c=>obtain ⟨p,c',hp,rfl,-⟩:=hy; exact ⟨_,e,fun w=>rfl,fun h=>by rcases h with h | h <;> cases h⟩
 | esl=>obtain ⟨a,c',rfl⟩:=hy; exact ⟨_,e,fun w=>rfl,fun _=>rfl⟩
 | _=>exact absurd e.symm hr
theorem cutN_ok (w:World) {z n m:Nat} {k:AV→Res} (e:cutN z n y k = r) (hr:r ≠ .fail) (hy:VR ρ y Y) (hlen:∀ w,(Builtin.lenOf Y).run P w = .ok m w) (hn:n≤m):
  ∃ y' Y',k y' = r∧VR ρ y' Y'∧(∀ w,(Builtin.lenOf Y').run P w = .ok n w)∧∀ w,(Builtin.firstCells z n Y').run P w = (Builtin.firstCells z n Y).run P w:=by
 cases y with
 | str nn a=>
  obtain ⟨s,rfl,rfl,rfl⟩:=hy
  have hm:=hlen w
  simp only [Builtin.lenOf,Sem.run_pure,Result.ok.injEq,and_true] at hm
  have hns:n≤s.size:=by omega
  have hsz:s.data.size = s.size:=rfl
  have hd:(s.extract 0 n).data.toList = s.data.toList.take n:=by
   rw [ByteArray.data_extract,Array.toList_extract]; simp [List.extract]
  have hsize:(s.extract 0 n).size = n:=by
   show (s.extract 0 n).data.size = n
   rw [← Array.length_toList,hd,List.length_take,Array.length_toList,hsz]; omega
  refine ⟨_,.string (s.extract 0 n),e,⟨_,rfl,hsize,?_⟩,fun w=>by simp [Builtin.lenOf,hsize],fun w=>?_⟩
  ·rw [hd,packB_take _ _ (by rw [Array.length_toList,hsz]; omega)]; rfl
  ·simp only [Builtin.firstCells]
   have:(s.extract 0 n).extract 0 n = s.extract 0 n:=by
    apply ByteArray.ext
    rw [ByteArray.data_extract,ByteArray.data_extract]; simp
   rw [this]
 | nils=>
  have hy:Y = .slice none 0 0:=hy
  subst hy
  have hm:=hlen w
  simp only [Builtin.lenOf,Sem.run_pure,Result.ok.injEq,and_true] at hm
  obtain rfl:n = 0:=by omega
  exact ⟨_,_,e,rfl,fun w=>rfl,fun w=>rfl⟩
 | esl=>
  obtain ⟨a,c',rfl⟩:=hy
  have hm:=hlen w
  simp only [Builtin.lenOf,Sem.run_pure,Result.ok.injEq,and_true] at hm
  obtain rfl:n = 0:=by omega
  exact ⟨_,_,e,⟨a,c',rfl⟩,fun w=>rfl,fun w=>rfl⟩
 | sl b o nn z' c=>
  obtain ⟨h1,h2⟩:=ifF_inv e hr
  rw [beq_iff] at h1
  subst h1
  obtain ⟨p,c',hp,rfl,hnc,hcc,hfit⟩:=hy
  have hm:=hlen w
  simp only [Builtin.lenOf,Sem.run_pure,Result.ok.injEq,and_true] at hm
  exact ⟨_,.slice (some ⟨p.r,p.base + o,none⟩) n c',h2,⟨p,c',hp,rfl,by omega,hcc,hfit⟩,fun w=>rfl,fun w=>rfl⟩
 | _=>exact absurd e.symm hr
theorem copy_run {t u ty e:TypeId} {base:Option Addr} {dLen dCap m n:Nat} {news:List Value} {w':World} (ht:P.underlying t = some (.slice e)) (hok:okT P e = true)
  (hlen:∀ w',(Builtin.lenOf Y).run P w' = .ok m w') (hn:n = min m dLen) (hnew:(Builtin.firstCells (szOf P e) n Y).run P w = .ok news.toArray w)
  (hst:(∃ a,base = some a∧(storeCells a news).run P w = .ok () w')∨(base = none∧w' = w)):
  (Builtin.copy_ #[t,u] ty #[.slice base dLen dCap,Y]).run P w = .ok (.int .i64 n) w':=by
 obtain ⟨i,hi⟩:=okT_info hok
 rw [szOf_info hi] at hnew
 have hn':Nat.min m dLen = n:=hn.symm
 rcases hst with ⟨a,rfl,hst⟩ | ⟨rfl,rfl⟩
 ·simp [Builtin.copy_,run_underlying ht,sizeOf,typeInfo,hi,hlen,hn',hnew,hst,goInt]
 ·simp [Builtin.copy_,run_underlying ht,sizeOf,typeInfo,hi,hlen,hn',hnew,goInt]
theorem cpy_ok {t u ty e:TypeId} {k:AV→Hp→Res} (hi:Inv N0 ρ h w) (ht:P.underlying t = some (.slice e)) (hok:okT P e = true) (ek:cpy h (szOf P e) x y k = r) (hr:r ≠ .fail) (hx:VR ρ x X) (hy:VR ρ y Y):
  Does P N0 ρ h w (Builtin.copy_ #[t,u] ty #[X,Y]) k r:=by
 have none0:∀ base c' m,(∀ w,(Builtin.lenOf Y).run P w = .ok m w)→(y = .nils∨y = .esl→m = 0)→(base = none∨∃ a,base = some a)→k (.int 63 (Int.ofNat 0)) h = r→X = .slice base 0 c'→Does P N0 ρ h w (Builtin.copy_ #[t,u] ty #[X,Y]) k r:=by
  intro base c' m hm hm0 hb hk hX
  subst hX
  refine Does.here hi hk (V:=.int .i64 ((0:Nat):Int)) ⟨.i64,rfl,rfl⟩ ?_
  refine copy_run (m:=m) (n:=0) (news:=[]) ht hok hm (by omega) ?_ ?_
  ·have hl:=hm w
   revert hl
   unfold Builtin.lenOf
   cases Y with
   | string s=>intro _; simp [Builtin.firstCells]
   | slice b n c=>intro _; cases b <;> simp [Builtin.firstCells,loadCells,loadCellsFrom]
   | _=>intro h; simp [stuck] at h
  ·rcases hb with rfl | ⟨a,rfl⟩
   ·exact .inr ⟨rfl,rfl⟩
   ·exact .inl ⟨a,rfl,rfl⟩
 cases x with
 | nils=>
  have hx:X = .slice none 0 0:=hx
  have ek:lenV y (fun _=>k (.int 63 (Int.ofNat 0)) h) = r:=ek
  obtain ⟨m,h1,h2,h3⟩:=lenV_inv (P:=P) ek hr hy
  exact none0 none 0 m h2 h3 (.inl rfl) h1 hx
 | esl=>
  obtain ⟨a,c',hx⟩:=hx
  have ek:lenV y (fun _=>k (.int 63 (Int.ofNat 0)) h) = r:=ek
  obtain ⟨m,h1,h2,h3⟩:=lenV_inv (P:=P) ek hr hy
  exact none0 (some a) c' m h2 h3 (.inr ⟨a,rfl⟩) h1 hx
 | sl b o n z' c=>
  obtain ⟨h1,h2⟩:=ifF_inv ek hr
  rw [beq_iff] at h1
  subst h1
  obtain ⟨m,h3,h4,-⟩:=lenV_inv (P:=P) h2 hr hy
  obtain ⟨cc,mm,hcc,h5⟩:=cI_inv h3 hr
  obtain ⟨rfl,rfl⟩:63 = cc∧(m:Int) = mm:=by cases hcc; exact ⟨rfl,rfl⟩
  have h6:=h5
  change cutN _ _ _ _ = r at h6
  have hmin:Bool.rec (motive:=fun _=>Nat) n m (Nat.ble m n) = min m n:=by
   rw [recB]; simp only [ble_iff]; split <;> omega
  rw [hmin] at h6
  obtain ⟨y',Y',h7,h8,h9,h10⟩:=cutN_ok (P:=P) w h6 hr hy h4 (Nat.min_le_left m n)
  obtain ⟨i,l,news,h11,hS,h12⟩:=src_ok (P:=P) hi h7 hr h8
  obtain rfl:min m n = i:=by have a:=h9 w; have b:=h12 w; rw [a] at b; simpa using b
  obtain ⟨p,c',hp,rfl,hnc,-,hfit⟩:=hx
  have hf:=hS.run w rfl
  rw [h10 w] at hf
  have hnl:=hS.length
  rcases ifB_inv h11 with ⟨h13,h14⟩ | ⟨h13,h14⟩
  ·rw [beq_iff] at h13
   refine Does.here hi h14 (V:=.int .i64 ((0:Nat):Int)) ⟨.i64,rfl,rfl⟩ ?_
   rw [h13] at hf hnl
   have hn0:news = []:=List.eq_nil_of_length_eq_zero (by omega)
   subst hn0
   exact copy_run (w':=w) ht hok h4 h13.symm hf (.inl ⟨_,rfl,rfl⟩)
  ·obtain ⟨B,gs,hb,hff,hn,hgs,h15,hlo⟩:=wb_inv h14 hr
   obtain ⟨h16,h17⟩:=ifF_inv h15 hr
   rw [ble_iff] at h16
   have h16:o + min m n * szOf P e≤B.lim:=h16
   obtain ⟨t',h18,h19,h20⟩:=lay_inv l _ _ h17 hr
   obtain ⟨h21,h22⟩:=ifF_inv h18 hr
   have hll:=LR_len l _ hS.rel
   obtain ⟨w',s1,i1,i2⟩:=storeN_ok (P:=P) (o:=o) (n:=min m n * szOf P e) hi hb hff hlo hp hn hgs hS.rel (by omega) h16 h19 (h20 ρ _ hS.rel)
   exact ⟨_,_,_,_,ρ,h22,copy_run ht hok h4 rfl hf (.inl ⟨_,rfl,s1⟩),⟨.i64,rfl,rfl⟩,i1,i2⟩
 | _=>exact absurd ek.symm hr
theorem conv_ok {s d:TypeId} {k:AV→Hp→Res} (hi:Inv N0 ρ h w) (e:dConv P s d x h k = r) (hr:r ≠ .fail) (hx:VR ρ x X):Does P N0 ρ h w (convert s d X) k r:=by
 unfold dConv at e
 split at e
 ·rename_i k1 c hs hd
  obtain ⟨c1,a,rfl,h1⟩:=cI_inv e hr
  obtain ⟨k2,rfl,rfl⟩:=hx
  refine Does.here hi h1 (V:=.int c (c.wrap a)) ⟨c,rfl,by rw [wrapC_eq]⟩ ?_
  unfold convert
  rw [Sem.run_bind,run_und hs]
  simp only [Result.andThen_ok]
  rw [Sem.run_bind,run_und hd]
  rfl
 ·rename_i hs hd
  obtain ⟨n,a,rfl,h1⟩:=cS_inv e hr
  obtain ⟨st,rfl,rfl,rfl⟩:=hx
  refine Does.here hi h1 (V:=.string st) ⟨st,rfl,rfl,rfl⟩ ?_
  unfold convert
  rw [Sem.run_bind,run_und hs]
  simp only [Result.andThen_ok]
  rw [Sem.run_bind,run_und hd]
  rfl
 ·rename_i u hs hd
  split at e
  ·rename_i hu
   exact Does.read hi (b2s_ok hi hs hd hu e hr hx)
  ·exact absurd e.symm hr
 ·rename_i u hs hd
  split at e
  ·rename_i hu
   exact s2b_ok hi hs hd hu e hr hx
  ·exact absurd e.symm hr
 ·exact absurd e.symm hr
theorem clr_ok {t ty e:TypeId} {k:AV→Hp→Res} (hi:Inv N0 ρ h w) (hT:AppE P e) (ht:P.underlying t = some (.slice e)) (ek:clr h (szOf P e) (cells (zeroV P e)) x k = r) (hr:r ≠ .fail) (hx:VR ρ x X):
  Does P N0 ρ h w (Builtin.clear_ #[t] ty #[X]) k r:=by
 cases x with
 | nils=>
  have hx:X = .slice none 0 0:=hx
  subst hx
  have ek:k (.tup .nil) h = r:=ek
  refine Does.here hi ek (V:=.tuple #[]) ⟨#[],rfl,rfl⟩ ?_
  simp [Builtin.clear_,run_underlying ht]
 | esl=>
  obtain ⟨a,c',rfl⟩:=hx
  have ek:k (.tup .nil) h = r:=ek
  refine Does.here hi ek (V:=.tuple #[]) ⟨#[],rfl,rfl⟩ ?_
  simp [Builtin.clear_,run_underlying ht]
 | sl b o n z' c=>
  obtain ⟨h1,h2⟩:=ifF_inv ek hr
  rw [beq_iff] at h1
  subst h1
  obtain ⟨p,c',hp,rfl,hnc,-,hfit⟩:=hx
  rcases ifB_inv h2 with ⟨h3,h4⟩ | ⟨h3,h4⟩
  ·rw [beq_iff] at h3
   subst h3
   refine Does.here hi h4 (V:=.tuple #[]) ⟨#[],rfl,rfl⟩ ?_
   simp [Builtin.clear_,run_underlying ht]
  ·have hn0:n ≠ 0:=fun h0=>by rw [h0] at h3; cases h3
   obtain ⟨B,gs,hb,hff,hn,hgs,h15,hlo⟩:=wb_inv h4 hr
   obtain ⟨h16,h17⟩:=ifF_inv h15 hr
   rw [ble_iff] at h16
   have h16:o + n * szOf P e≤B.lim:=h16
   obtain ⟨t',h18,h19,h20⟩:=lay_inv (repL (cells (zeroV P e)) n) _ _ h17 hr
   obtain ⟨h21,h22⟩:=ifF_inv h18 hr
   obtain ⟨i,z,hinf,hz,hzl⟩:=zero_info (P:=P) (ρ:=ρ) (t:=e) hT.ones
   have hzs:=LR_len _ _ hzl
   rw [hT.hlen,Array.length_toList] at hzs
   have hL:=repL_rel _ _ hzl n
   rw [← made_flat] at hL
   have hll:=LR_len _ _ hL
   rw [Array.length_toList,size_madeCells,← hzs] at hll
   obtain ⟨w',s1,i1,i2⟩:=storeN_ok (P:=P) (o:=o) (n:=n * szOf P e) hi hb hff hlo hp hn hgs hL hll (by omega) h19 (h20 ρ _ hL)
   refine ⟨_,_,.tuple #[],_,ρ,h22,?_,⟨#[],rfl,rfl⟩,i1,i2⟩
   have hzc:Builtin.zeroCells z.cells n = madeCells z.cells (n * z.cells.size):=rfl
   obtain ⟨n,rfl⟩:∃ k,n = k + 1:=⟨n - 1,by omega⟩
   rw [← hzc] at s1
   simp [Builtin.clear_,run_underlying ht,zeroValue,typeInfo,hinf,hz,s1]
 | _=>exact absurd ek.symm hr
end
end Go.AM
namespace Go.AM
open Go Go.MapKept
set_option autoImplicit false
section
variable {P:Program} {N0:Base} {ρ:Rho} {h:Hp} {w:World} {x y:AV} {X Y:Value} {r:Res}
theorem keyQ_inv {kt:TypeId} {q:KQ} (hq:keyQ P kt = some q):∃ d,P.underlying kt = some d ∧
  ∀ (x y:AV) (k:Bool→Res) (r:Res),q x y k = r→r ≠ .fail→∃ b,k b = r∧∀ (ρ:Rho) X Y,VR ρ x X→VR ρ y Y→IsKey d X∧IsKey d Y∧(b = true ↔ X = Y):=by
 unfold keyQ at hq
 split at hq
 ·rename_i c hu
  obtain rfl:=Option.some.inj hq
  refine ⟨_,hu,fun x y k r e hr=>?_⟩
  obtain ⟨c1,a,rfl,h1⟩:=cI_inv e hr
  obtain ⟨c2,b,rfl,h2⟩:=cI_inv h1 hr
  obtain ⟨h3,h4⟩:=ifF_inv h2 hr
  obtain ⟨h5,h6⟩:=ifF_inv h4 hr
  rw [beq_iff] at h3 h5
  refine ⟨_,h6,fun ρ X Y hx hy=>?_⟩
  obtain ⟨k1,e1,rfl⟩:=hx
  obtain ⟨k2,e2,rfl⟩:=hy
  have g1:k1 = c:=cOf_inj _ _ (e1.trans h3)
  have g2:k2 = c:=cOf_inj _ _ (e2.trans h5)
  subst g1
  subst g2
  refine ⟨rfl,rfl,?_⟩
  rw [eqI_eq]; simp
 ·rename_i hu
  obtain rfl:=Option.some.inj hq
  refine ⟨_,hu,fun x y k r e hr=>?_⟩
  obtain ⟨n,a,rfl,h1⟩:=cS_inv e hr
  obtain ⟨m,b,rfl,h2⟩:=cS_inv h1 hr
  refine ⟨_,h2,fun ρ X Y hx hy=>?_⟩
  obtain ⟨s1,rfl,rfl,rfl⟩:=hx
  obtain ⟨s2,rfl,rfl,rfl⟩:=hy
  refine ⟨trivial,trivial,?_⟩
  rw [sEq_eq]
  constructor
  ·intro h
   have h:s1.toList = s2.toList:=by simpa using h
   rw [ByteArray.toList_eq,ByteArray.toList_eq] at h
   have:s1 = s2:=by
    have hd:s1.data = s2.data:=Array.toList_inj.1 h
    cases s1; cases s2; simp_all
   rw [this]
  ·intro h
   cases h
   simp
 ·rename_i hu
  obtain rfl:=Option.some.inj hq
  refine ⟨_,hu,fun x y k r e hr=>?_⟩
  obtain ⟨a,rfl,h1⟩:=cB_inv e hr
  obtain ⟨b,rfl,h2⟩:=cB_inv h1 hr
  refine ⟨_,h2,fun ρ X Y hx hy=>?_⟩
  have hx:X = .bool a:=hx
  have hy:Y = .bool b:=hy
  subst hx
  subst hy
  refine ⟨trivial,trivial,?_⟩
  rw [beqB_eq]; simp
 ·cases hq
theorem cC_inv {k:AV→AV→Res} (e:cC x k = r) (hr:r ≠ .fail):∃ a b,x = .cons a b∧k a b = r:=by
 cases x <;> first | exact ⟨_,_,rfl,e⟩ | exact absurd e.symm hr
def KOk (q:KQ) (d:TypeDesc):Prop:=
 ∀ (x y:AV) (k:Bool→Res) (r:Res),q x y k = r→r ≠ .fail→∃ b,k b = r∧∀ (ρ:Rho) X Y,VR ρ x X→VR ρ y Y→IsKey d X∧IsKey d Y∧(b = true ↔ X = Y)
theorem KOk.now {q:KQ} {d:TypeDesc} (hq:KOk q d) {k:Bool→Res} (e:q x y k = r) (hr:r ≠ .fail) (hx:VR ρ x X) (hy:VR ρ y Y):∃ b,k b = r∧Instr.sameNow d X Y = some b∧(b = true ↔ X = Y):=by
 obtain ⟨b,h1,h2⟩:=hq x y k r e hr
 obtain ⟨h3,h4,h5⟩:=h2 ρ X Y hx hy
 obtain ⟨b',h6,h7⟩:=MapKept.sameNow_of_keys h3 h4
 refine ⟨b,h1,?_,h5⟩
 rw [h6]
 have:b' = b:=by
  rw [Bool.eq_iff_iff,h7,h5]
 rw [this]
theorem KOk.key {q:KQ} {d:TypeDesc} (hq:KOk q d) {k:Bool→Res} (e:q x x k = r) (hr:r ≠ .fail) (hx:VR ρ x X):IsKey d X∧∃ b,k b = r:=by
 obtain ⟨b,h1,h2⟩:=hq x x k r e hr
 exact ⟨(h2 ρ X X hx hx).1,b,h1⟩
theorem lkL_inv {q:KQ} {d:TypeDesc} (hq:KOk q d) {kf:AV→Res} {kn:Res} (hx:VR ρ x X) (hr:r ≠ .fail):∀ (m:AV) (l:List MapEntry) (i:Nat),ELR ρ m l→lkL q x kf kn m = r →
  (∃ j v V,Instr.findNow d X l i = some (some (j,V))∧VR ρ v V∧kf v = r)∨(Instr.findNow d X l i = some none∧kn = r):=by
 intro m
 induction m with
 | nil=>
  intro l i hl e
  have hl:l = []:=hl
  subst hl
  exact .inr ⟨rfl,e⟩
 | cons a t _ iht=>
  intro l i hl e
  have e:cC a (fun y v=>q x y fun b=>ifB b (kf v) (lkL q x kf kn t)) = r:=e
  obtain ⟨y,v,rfl,h1⟩:=cC_inv e hr
  obtain ⟨en,l',rfl,g1,g2,g3⟩:=hl
  obtain ⟨b,h2,h3,-⟩:=hq.now h1 hr hx g1
  cases b with
  | true=>exact .inl ⟨i,v,en.val,by simp [Instr.findNow,h3],g2,h2⟩
  | false=>
   rcases iht l' (i + 1) g3 h2 with ⟨j,v',V',k1,k2,k3⟩ | ⟨k1,k2⟩
   ·exact .inl ⟨j,v',V',by simp [Instr.findNow,h3,k1],k2,k3⟩
   ·exact .inr ⟨by simp [Instr.findNow,h3,k1],k2⟩
 | _=>intro l i hl; exact hl.elim
theorem upL_inv {q:KQ} {d:TypeDesc} (hq:KOk q d) {v:AV} {V:Value} (hx:VR ρ x X) (hv:VR ρ v V) (hr:r ≠ .fail):∀ (m:AV) (l:List MapEntry) (i:Nat) (k:AV→Res),ELR ρ m l→upL q x v m k = r →
  ∃ m',k m' = r∧((∃ j V',Instr.findNow d X l i = some (some (i + j,V'))∧((l[j]?).map (·.key)).getD X = X∧ELR ρ m' (l.modify j fun e=>{ e with key:=X,val:=V })) ∨
   (Instr.findNow d X l i = some none∧∀ born,ELR ρ m' (l ++ [{ key:=X,val:=V,born:=born }]))):=by
 intro m
 induction m with
 | nil=>
  intro l i k hl e
  have hl:l = []:=hl
  subst hl
  exact ⟨_,e,.inr ⟨rfl,fun born=>⟨_,[],rfl,hx,hv,rfl⟩⟩⟩
 | cons a t _ iht=>
  intro l i k hl e
  have e:cC a (fun y _=>q x y fun b=>ifB b (k (.cons (.cons x v) t)) (upL q x v t fun t=>k (.cons a t))) = r:=e
  obtain ⟨y,u,rfl,h1⟩:=cC_inv e hr
  obtain ⟨en,l',rfl,g1,g2,g3⟩:=hl
  obtain ⟨b,h2,h3,h4⟩:=hq.now h1 hr hx g1
  cases b with
  | true=>
   have hk:X = en.key:=h4.1 rfl
   exact ⟨_,h2,.inl ⟨0,en.val,by simp [Instr.findNow,h3],by simp [hk],⟨_,l',rfl,hx,hv,g3⟩⟩⟩
  | false=>
   obtain ⟨m',k1,k2⟩:=iht l' (i + 1) _ g3 h2
   refine ⟨_,k1,?_⟩
   rcases k2 with ⟨j,V',k2,k3,k4⟩ | ⟨k2,k3⟩
   ·refine .inl ⟨j + 1,V',?_,by simpa using k3,⟨en,_,rfl,g1,g2,k4⟩⟩
    have e1:i + 1 + j = i + (j + 1):=by omega
    simp [Instr.findNow,h3,k2,e1]
   ·exact .inr ⟨by simp [Instr.findNow,h3,k2],fun born=>⟨en,_,rfl,g1,g2,k3 born⟩⟩
 | _=>intro l i k hl; exact hl.elim
theorem found_inv {ok b:Bool} {v:AV} {V:Value} {k:AV→Res} (e:found ok v b k = r) (hr:r ≠ .fail) (hv:VR ρ v V):∃ v',k v' = r∧VR ρ v' (if ok then .tuple #[V,.bool b] else V):=by
 obtain ⟨h1,h2⟩:=cK_inv e hr
 cases ok with
 | false=>exact ⟨v,h2,hv⟩
 | true=>exact ⟨_,h2,⟨_,rfl,⟨V,[.bool b],rfl,hv,⟨.bool b,[],rfl,rfl,rfl⟩⟩⟩⟩
theorem zeroV_run {t:TypeId} (h:zeroV P t ≠ .unk) (w:World):∃ z,(zeroValue t).run P w = .ok z w∧VR ρ (zeroV P t) z:=by
 unfold zeroV at h ⊢
 cases hi:P.info? t with
 | none=>rw [hi] at h; exact absurd rfl h
 | some i=>
  rw [hi] at h
  simp only at h ⊢
  cases hz:i.zero with
  | none=>rw [hz] at h; exact absurd rfl h
  | some z=>
   rw [hz] at h
   exact ⟨z,by simp [zeroValue,typeInfo,hi,hz],ofV_rel z⟩
theorem lkp_ok {t kt et:TypeId} {q:KQ} {d:TypeDesc} {ok:Bool} {k:AV→Res} {i:AV} {I:Value} (hi:Inv N0 ρ h w) (ht:P.underlying t = some (.map kt et)) (hd:P.underlying kt = some d) (hq:KOk q d)
  (e:lkp q h ok (zeroV P et) x i k = r) (hr:r ≠ .fail) (hx:VR ρ x X) (hI:VR ρ i I):∃ v V,k v = r∧VR ρ v V∧(Instr.lookup t X I ok).run P w = .ok V w:=by
 have zero:∀ {k:AV→Res},found ok (zeroV P et) false k = r→∃ v V z,k v = r∧VR ρ v V∧(zeroValue et).run P w = .ok z w∧V = if ok then .tuple #[z,.bool false] else z:=by
  intro k e
  obtain ⟨h1,-⟩:=cK_inv e hr
  obtain ⟨z,h2,h3⟩:=zeroV_run (P:=P) (ρ:=ρ) (t:=et) h1 w
  obtain ⟨v',h4,h5⟩:=found_inv e hr h3
  exact ⟨v',_,z,h4,h5,h2,rfl⟩
 cases x with
 | nilm=>
  have hx:X = .map none:=hx
  subst hx
  obtain ⟨hk,b,h1⟩:=hq.key (k:=fun _=>found ok (zeroV P et) false k) e hr hI
  obtain ⟨v,V,z,h2,h3,h4,rfl⟩:=zero h1
  refine ⟨v,_,h2,h3,?_⟩
  have hf:(Instr.findKey kt I []).run P w = .ok none w:=run_findKey hd rfl
  have hc:=run_checkKey (P:=P) (w:=w) hd hk true 9999
  simp [Instr.lookup,run_underlying ht,Result.andThen,hc,hf,h4]
 | map b=>
  obtain ⟨p0,hp0,rfl⟩:=hx
  cases hg:h.ms.get b with
  | none=>
   have:Res.fail = r:=by
    rw [← e]; unfold lkp; simp [hg]
   exact absurd this.symm hr
  | some m=>
   have e:q i i (fun _=>lkL q i (fun v=>found ok v true k) (found ok (zeroV P et) false k) m) = r:=by
    rw [← e]; unfold lkp; simp [hg]
   obtain ⟨hk,b',h1⟩:=hq.key e hr hI
   obtain ⟨-,p,o,g1,-,g2,g3⟩:=hi.mp.ent b m hg
   obtain rfl:p = p0:=by rw [g1] at hp0; exact Option.some.inj hp0
   obtain ⟨es,c,rfl⟩:∃ es c,o = .map es c:=by
    cases o <;> first
     | exact g3.elim
     | exact ⟨_,_,rfl⟩
     | skip
    obtain ⟨-,rfl⟩:=g3
    exact absurd h1.symm hr
   have g3:ELR ρ m es.toList:=g3.1
   have hgo:=Go.MapKept.run_getObj_map (P:=P) (w:=w) g2
   have hc:=run_checkKey (P:=P) (w:=w) hd hk es.isEmpty 9999
   rcases lkL_inv hq hI hr m es.toList 0 g3 h1 with ⟨j,v,V,k1,k2,k3⟩ | ⟨k1,k2⟩
   ·obtain ⟨v',h4,h5⟩:=found_inv k3 hr k2
    have hf:=run_findKey (P:=P) (w:=w) hd k1
    refine ⟨v',_,h4,h5,?_⟩
    simp [Instr.lookup,run_underlying ht,Result.andThen,hgo,hc,hf]
   ·obtain ⟨v,V,z,h2,h3,h4,rfl⟩:=zero k2
    have hf:=run_findKey (P:=P) (w:=w) hd k1
    refine ⟨v,_,h2,h3,?_⟩
    simp [Instr.lookup,run_underlying ht,Result.andThen,hgo,hc,hf,h4]
 | _=>exact absurd e.symm hr
theorem ELR_len {ρ:Rho}:∀ (m:AV) (l:List MapEntry),ELR ρ m l→len m = l.length:=by
 intro m
 induction m with
 | nil=>intro l h; obtain rfl:l = []:=h; rfl
 | cons a t _ iht=>
  intro l h
  cases a with
  | cons k v=>
   obtain ⟨e,l',rfl,-,-,h3⟩:=h
   exact congrArg Nat.succ (iht l' h3)
  | _=>exact h.elim
 | _=>intro l h; exact h.elim
theorem lenM_ok {t ty kt et:TypeId} {k:AV→Res} (hi:Inv N0 ρ h w) (hu:P.underlying t = some (.map kt et)) (e:lenM h x k = r) (hr:r ≠ .fail) (hx:VR ρ x X):
  ∃ v V,k v = r∧VR ρ v V∧(Builtin.len_ #[t] ty #[X]).run P w = .ok V w:=by
 cases x with
 | nilm=>
  have hx:X = .map none:=hx
  subst hx
  exact ⟨_,_,e,⟨.i64,rfl,rfl⟩,by simp [Builtin.len_,run_underlying hu,goInt]⟩
 | map b=>
  obtain ⟨p0,hp0,rfl⟩:=hx
  cases hg:h.ms.get b with
  | none=>
   have:Res.fail = r:=by
    rw [← e]; unfold lenM; simp [hg]
   exact absurd this.symm hr
  | some m=>
   have e:lenE m k = r:=by
    rw [← e]; unfold lenM; simp [hg]
   obtain ⟨-,p,o,g1,-,g2,g3⟩:=hi.mp.ent b m hg
   obtain rfl:p = p0:=by rw [g1] at hp0; exact Option.some.inj hp0
   obtain ⟨es,c,rfl⟩:∃ es c,o = .map es c:=by
    cases o <;> first
     | exact g3.elim
     | exact ⟨_,_,rfl⟩
     | skip
    obtain ⟨-,rfl⟩:=g3
    exact absurd e.symm hr
   have g3:ELR ρ m es.toList:=g3.1
   have hgo:=Go.MapKept.run_getObj_map (P:=P) (w:=w) g2
   have hl:len m = es.size:=by rw [ELR_len m _ g3,Array.length_toList]
   refine ⟨.int 63 (Int.ofNat (len m)),.int .i64 es.size,?_,⟨.i64,rfl,by rw [hl]; rfl⟩,?_⟩
   ·cases m <;> first
     | exact e
     | exact g3.elim
   ·simp [Builtin.len_,run_underlying hu,hgo,goInt]
 | _=>exact absurd e.symm hr
end
end Go.AM
namespace Go.AM
open Go Go.MapKept
set_option autoImplicit false
section
variable {P:Program} {N0:Base} {ρ:Rho} {h:Hp} {w:World} {x y:AV} {X Y:Value} {r:Res}
theorem mkMap_ok {t:TypeId} {k:AV→Hp→Res} (hi:Inv N0 ρ h w) (e:mkMap h k = r):Does P N0 ρ h w (Instr.makeMap t none) k r:=by
 have hfree:ρ h.nb = none:=hi.free _ (Nat.le_refl _)
 have hext:=ups_ext ⟨w.heap.size,0,0,0⟩ hfree
 obtain ⟨ha1,ha2⟩:=heap_alloc w (.map #[] 0)
 have hsize:(w.alloc (.map #[] 0)).heap.size = w.heap.size + 1:=by show (w.heap.push _).size = _; simp
 have plc:∀ b2 B2 p2,h.bs.get b2 = some B2→ups ρ h.nb ⟨w.heap.size,0,0,0⟩ b2 = some p2→ρ b2 = some p2:=by
  intro b2 B2 p2 h2 hp2
  have:=hi.nb b2 B2 h2
  rwa [ups_ne _ _ (by omega)] at hp2
 have hmget:∀ b,(h.ms.set .nil h.nb).get b = if b = h.nb then some .nil else h.ms.get b:=fun b=>T.get_set _ _ _ _
 refine ⟨_,_,.map (some w.heap.size),w.alloc (.map #[] 0),ups ρ h.nb ⟨w.heap.size,0,0,0⟩,e,rfl,⟨_,ups_same _ _ _,rfl⟩,⟨?_,?_,?_,?_,?_,?_,?_,?_,⟨?_,?_⟩,Base.st hi.jj fun r hr=>ha2 r (by have:=hi.wsz; omega)⟩,⟨hext,Nat.le_succ _,?_,fun r hr _ _=>ha2 r hr,?_,?_,by rw [hsize]; omega,rfl,rfl,rfl,rfl⟩⟩
 ·intro b B hb
  obtain ⟨p,hp,hB⟩:=hi.blk b B hb
  exact ⟨p,hext _ _ hp,hB.later hext (ha2 _ hB.lt) (fun hrd=>hrd)⟩
 ·intro b B hb; exact Nat.lt_succ_of_lt (hi.nb b B hb)
 ·intro b B hb hf
  have:=hi.gnb b B hb hf
  exact ⟨Nat.lt_succ_of_lt this.1,this.2⟩
 ·intro g q hq
  have:=hi.gs g q hq
  exact ⟨Nat.lt_succ_of_lt this.1,Nat.lt_succ_of_lt this.2.1,this.2.2⟩
 ·intro b1 b2 B1 B2 p1 p2 h1 h2 f1 f2 e1 e2 er
  exact hi.als b1 b2 B1 B2 p1 p2 h1 h2 f1 f2 (plc _ _ _ h1 e1) (plc _ _ _ h2 e2) er
 ·intro b1 b2 B1 B2 p1 p2 h1 h2 f1 f2 e1 e2 eg r1 r2 hle
  exact hi.lim b1 b2 B1 B2 p1 p2 h1 h2 f1 f2 (plc _ _ _ h1 e1) (plc _ _ _ h2 e2) eg r1 r2 hle
 ·intro i hle
  have hle:h.nb + 1≤i:=hle
  rw [ups_ne _ _ (by omega)]
  exact hi.free i (by omega)
 ·rw [hsize]; have:=hi.wsz; omega
 ·intro b m hb
  have hb:(h.ms.set .nil h.nb).get b = some m:=hb
  rw [hmget] at hb
  by_cases e0:b = h.nb
  ·rw [if_pos e0] at hb
   obtain rfl:=Option.some.inj hb
   subst e0
   exact ⟨Nat.lt_succ_self _,_,.map #[] 0,ups_same _ _ _,hi.wsz,ha1,rfl,by simp,by simp⟩
  ·rw [if_neg e0] at hb
   obtain ⟨g1,p,o,g2,g3,g4,g5⟩:=hi.mp.ent b m hb
   exact ⟨Nat.lt_succ_of_lt g1,p,o,hext _ _ g2,g3,by rw [ha2 _ (Array.getElem?_eq_some_iff.1 g4).1]; exact g4,g5.ext hext⟩
 ·intro b1 b2 m1 m2 p1 p2 h1 h2 e1 e2 er
  have h1:(h.ms.set .nil h.nb).get b1 = some m1:=h1
  have h2:(h.ms.set .nil h.nb).get b2 = some m2:=h2
  rw [hmget] at h1 h2
  have old:∀ b m p,h.ms.get b = some m→b ≠ h.nb→ups ρ h.nb ⟨w.heap.size,0,0,0⟩ b = some p→ρ b = some p∧p.r < w.heap.size:=by
   intro b m p hb hne hp
   rw [ups_ne _ _ hne] at hp
   obtain ⟨-,q,o,g2,-,g4,-⟩:=hi.mp.ent b m hb
   rw [hp] at g2
   obtain rfl:=Option.some.inj g2
   exact ⟨hp,(Array.getElem?_eq_some_iff.1 g4).1⟩
  by_cases n1:b1 = h.nb <;> by_cases n2:b2 = h.nb
  ·rw [n1,n2]
  ·rw [if_neg n2] at h2
   subst n1
   rw [ups_same] at e1
   obtain rfl:=(Option.some.inj e1).symm
   have:=(old _ _ _ h2 n2 e2).2
   simp at er; omega
  ·rw [if_neg n1] at h1
   subst n2
   rw [ups_same] at e2
   obtain rfl:=(Option.some.inj e2).symm
   have:=(old _ _ _ h1 n1 e1).2
   simp at er; omega
  ·rw [if_neg n1] at h1
   rw [if_neg n2] at h2
   exact hi.mp.inj _ _ _ _ _ _ h1 h2 (old _ _ _ h1 n1 e1).1 (old _ _ _ h2 n2 e2).1 er
 ·intro b p hp
  by_cases e0:b = h.nb
  ·subst e0; exact .inr ⟨hfree,Nat.le_refl _,Nat.lt_succ_self _⟩
  ·rw [ups_ne _ _ e0] at hp; exact .inl hp
 ·intro l hll b B p hb hf hp
  exact .inr ⟨b,B,p,hb,hf,plc _ _ _ hb hp,rfl⟩
 ·intro l hll b m p hb hl hp
  have hb:(h.ms.set .nil h.nb).get b = some m:=hb
  rw [hmget] at hb
  by_cases e0:b = h.nb
  ·subst e0
   rw [ups_same] at hp
   obtain rfl:=(Option.some.inj hp).symm
   exact .inl (Nat.le_refl _)
  ·rw [if_neg e0] at hb
   rw [ups_ne _ _ e0] at hp
   exact .inr ⟨b,m,p,hb,hl,hp,rfl⟩
theorem set_inv {b:Nat} {m m':AV} {p:Pl} {o o':Obj} (hi:Inv N0 ρ h w) (hg:h.ms.get b = some m) (hlo:h.lo≤b) (hp:ρ b = some p) (hrow:w.heap[p.r]? = some o) (hno:∀ cs e fz,o ≠ .cells cs e fz) (hn:N0≤p.r) (hl:MR ρ p m' o'):
  Inv N0 ρ ⟨h.nb,h.bs,h.gs,h.ms.set m' b,h.lo,h.oc⟩ { w with heap:=w.heap.setIfInBounds p.r o' }∧Tr ρ h w ρ ⟨h.nb,h.bs,h.gs,h.ms.set m' b,h.lo,h.oc⟩ { w with heap:=w.heap.setIfInBounds p.r o' }:=by
 obtain ⟨hs1,hs2⟩:=heap_set (o':=o') hrow
 have hmget:∀ b2,(h.ms.set m' b).get b2 = if b2 = b then some m' else h.ms.get b2:=fun b2=>T.get_set _ _ _ _
 have hsome:∀ b2 m2,(h.ms.set m' b).get b2 = some m2→∃ m3,h.ms.get b2 = some m3:=by
  intro b2 m2 h2
  rw [hmget] at h2
  by_cases e0:b2 = b
  ·subst e0; exact ⟨m,hg⟩
  ·rw [if_neg e0] at h2; exact ⟨m2,h2⟩
 have hcell:∀ b2 B2 p2,BR N0 ρ h w b2 B2 p2→p2.r ≠ p.r:=by
  intro b2 B2 p2 hB e0
  obtain ⟨cs,e,fz,g1,-⟩:=hB.obj
  rw [e0,hrow] at g1
  exact hno _ _ _ (Option.some.inj g1)
 refine ⟨⟨?_,hi.nb,hi.gnb,hi.gs,hi.als,hi.lim,hi.free,by simpa using hi.wsz,⟨?_,?_⟩,Base.st hi.jj fun r hr=>hs2 r (by omega)⟩,⟨Ext.refl ρ,Nat.le_refl _,fun _ _ e=>.inl e,?_,fun _ _ b B p h1 h2 h3=>.inr ⟨b,B,p,h1,h2,h3,rfl⟩,?_,by simp,rfl,rfl,rfl,rfl⟩⟩
 ·intro b2 B2 h2
  obtain ⟨p2,hp2,hB⟩:=hi.blk b2 B2 h2
  exact ⟨p2,hp2,hB.later (Ext.refl ρ) (hs2 _ (hcell _ _ _ hB)) (fun hrd=>hrd)⟩
 ·intro b2 m2 h2
  have h2:(h.ms.set m' b).get b2 = some m2:=h2
  rw [hmget] at h2
  by_cases e0:b2 = b
  ·rw [if_pos e0] at h2
   obtain rfl:=Option.some.inj h2
   subst e0
   exact ⟨(hi.mp.ent _ _ hg).1,p,o',hp,hn,hs1,hl⟩
  ·rw [if_neg e0] at h2
   obtain ⟨g1,p2,o2,g2,g3,g4,g5⟩:=hi.mp.ent b2 m2 h2
   refine ⟨g1,p2,o2,g2,g3,?_,g5⟩
   rw [hs2 _ fun er=>e0 (hi.mp.inj _ _ _ _ _ _ h2 hg g2 hp er)]
   exact g4
 ·intro b1 b2 m1 m2 p1 p2 h1 h2 e1 e2 er
  obtain ⟨m3,h3⟩:=hsome b1 m1 h1
  obtain ⟨m4,h4⟩:=hsome b2 m2 h2
  exact hi.mp.inj _ _ _ _ _ _ h3 h4 e1 e2 er
 ·intro r hr hnb hm
  exact hs2 r (fun er=>hm b m p hg hlo hp er.symm)
 ·intro l hll b2 m2 p2 h2 hl2 hp2
  obtain ⟨m3,h3⟩:=hsome b2 m2 h2
  exact .inr ⟨b2,m3,p2,h3,hl2,hp2,rfl⟩
theorem map_modify {f:MapEntry→MapEntry}:∀ (l:List MapEntry) (j:Nat),(∀ e,(f e).born = e.born)→(l.modify j f).map (·.born) = l.map (·.born):=by
 intro l
 induction l with
 | nil=>intro j _; cases j <;> rfl
 | cons a l ih=>
  intro j hf
  cases j with
  | zero=>simp [hf a]
  | succ j=>simp [ih j hf]
theorem born_modify {f:MapEntry→MapEntry} {l:List MapEntry} {c:Nat} (h:∀ x∈l,x.born < c) (j:Nat) (hf:∀ e,(f e).born = e.born):∀ x∈l.modify j f,x.born < c:=by
 intro x hx
 have h1:x.born∈(l.modify j f).map (·.born):=List.mem_map_of_mem hx
 rw [map_modify l j hf] at h1
 obtain ⟨y,h2,h3⟩:=List.mem_map.1 h1
 rw [← h3]; exact h y h2
theorem born_push {l:List MapEntry} {c:Nat} {e:MapEntry} (h:∀ x∈l,x.born < c) (he:e.born = c):∀ x∈l ++ [e],x.born < c + 1:=by
 intro x hx
 rcases List.mem_append.1 hx with hx | hx
 ·exact Nat.lt_succ_of_lt (h x hx)
 ·obtain rfl:x = e:=by simpa using hx
  omega
theorem nodup_push {l:List MapEntry} {c:Nat} {e:MapEntry} (h:∀ x∈l,x.born < c) (hn:(l.map (·.born)).Nodup) (he:e.born = c):((l ++ [e]).map (·.born)).Nodup:=by
 rw [List.map_append,List.nodup_append]
 refine ⟨hn,by simp,fun a ha b hb=>?_⟩
 obtain ⟨x,h1,h2⟩:=List.mem_map.1 ha
 have:=h x h1
 obtain rfl:b = e.born:=by simpa using hb
 omega
theorem mup_ok {t kt et:TypeId} {q:KQ} {d:TypeDesc} {k:Hp→Res} {i v:AV} {I V:Value} (hi:Inv N0 ρ h w) (ht:P.underlying t = some (.map kt et)) (hd:P.underlying kt = some d) (hq:KOk q d)
  (e:mup q h x i v k = r) (hr:r ≠ .fail) (hx:VR ρ x X) (hI:VR ρ i I) (hv:VR ρ v V):∃ h' w',k h' = r∧(Instr.mapUpdate t X I V).run P w = .ok () w'∧Inv N0 ρ h' w'∧Tr ρ h w ρ h' w':=by
 obtain ⟨b,rfl,h1⟩:=cMap_inv e hr
 obtain ⟨hlo,h1⟩:=ifF_inv h1 hr
 rw [ble_iff] at hlo
 obtain ⟨p0,hp0,rfl⟩:=hx
 cases hg:h.ms.get b with
 | none=>rw [hg] at h1; exact absurd h1.symm hr
 | some m=>
  rw [hg] at h1
  have h1:q i i (fun _=>upL q i v m fun m=>k ⟨h.nb,h.bs,h.gs,h.ms.set m b,h.lo,h.oc⟩) = r:=h1
  obtain ⟨hk,b',h2⟩:=hq.key h1 hr hI
  obtain ⟨-,p,o,g1,gn,g2,g3⟩:=hi.mp.ent b m hg
  obtain rfl:p = p0:=by rw [g1] at hp0; exact Option.some.inj hp0
  obtain ⟨es,c,rfl⟩:∃ es c,o = .map es c:=by
   cases o <;> first
    | exact g3.elim
    | exact ⟨_,_,rfl⟩
    | skip
   obtain ⟨-,rfl⟩:=g3
   exact absurd h2.symm hr
  have gb:=g3.2
  have g3:ELR ρ m es.toList:=g3.1
  have hgo:=Go.MapKept.run_getObj_map (P:=P) (w:=w) g2
  have hc:=run_checkKey (P:=P) (w:=w) hd hk false 9999
  obtain ⟨m',h3,h4⟩:=upL_inv hq hI hv hr m es.toList 0 _ g3 h2
  rcases h4 with ⟨j,V',k1,k2,k3⟩ | ⟨k1,k2⟩
  ·have hf:=run_findKey (P:=P) (w:=w) hd k1
   have hst:((es[0 + j]?).map (·.key)).getD I = I:=by simpa using k2
   have hks:=run_keyThatStays (P:=P) (w:=w) hk
   have hso:=Go.MapKept.run_setObj_map (P:=P) (w:=w) (.map (es.modify (0 + j) fun e=>{ e with key:=I,val:=V }) c) g2
   obtain ⟨i1,i2⟩:=set_inv (m':=m') (o':=.map (es.modify (0 + j) fun e=>{ e with key:=I,val:=V }) c) hi hg hlo hp0 g2 (by simp) gn ⟨by rw [Array.toList_modify,Nat.zero_add]; exact k3,by
    rw [Array.toList_modify]; exact born_modify (f:=fun e=>{ e with key:=I,val:=V }) gb.1 _ (fun e=>rfl),by
    rw [Array.toList_modify,map_modify (f:=fun e=>{ e with key:=I,val:=V }) _ _ (fun e=>rfl)]; exact gb.2⟩
   refine ⟨_,_,h3,?_,i1,i2⟩
   simp [Instr.mapUpdate,run_underlying ht,Result.andThen,hgo,hc,hf] at hst hso ⊢
   rw [hst,hks]
   simpa using hso
  ·have hf:=run_findKey (P:=P) (w:=w) hd k1
   have hso:=Go.MapKept.run_setObj_map (P:=P) (w:=w) (.map (es.push { key:=I,val:=V,born:=c }) (c + 1)) g2
   obtain ⟨i1,i2⟩:=set_inv (m':=m') (o':=.map (es.push { key:=I,val:=V,born:=c }) (c + 1)) hi hg hlo hp0 g2 (by simp) gn ⟨by rw [Array.toList_push]; exact k2 c,by rw [Array.toList_push]; exact born_push gb.1 rfl,by rw [Array.toList_push]; exact nodup_push gb.1 gb.2 rfl⟩
   refine ⟨_,_,h3,?_,i1,i2⟩
   simp [Instr.mapUpdate,run_underlying ht,Result.andThen,hgo,hc,hf]
   exact hso
theorem dlL_inv {q:KQ} {d:TypeDesc} (hq:KOk q d) (hx:VR ρ x X) (hr:r ≠ .fail):∀ (m:AV) (l:List MapEntry) (i:Nat) (k:AV→Res),ELR ρ m l→dlL q x m k = r →
  ∃ m',k m' = r∧((∃ j V',Instr.findNow d X l i = some (some (i + j,V'))∧ELR ρ m' (l.eraseIdx j))∨(Instr.findNow d X l i = some none∧ELR ρ m' l)):=by
 intro m
 induction m with
 | nil=>
  intro l i k hl e
  have hl:l = []:=hl
  subst hl
  exact ⟨_,e,.inr ⟨rfl,rfl⟩⟩
 | cons a t _ iht=>
  intro l i k hl e
  have e:cC a (fun y _=>q x y fun b=>ifB b (k t) (dlL q x t fun t=>k (.cons a t))) = r:=e
  obtain ⟨y,u,rfl,h1⟩:=cC_inv e hr
  obtain ⟨en,l',rfl,g1,g2,g3⟩:=hl
  obtain ⟨b,h2,h3,h4⟩:=hq.now h1 hr hx g1
  cases b with
  | true=>exact ⟨_,h2,.inl ⟨0,en.val,by simp [Instr.findNow,h3],by simpa using g3⟩⟩
  | false=>
   obtain ⟨m',k1,k2⟩:=iht l' (i + 1) _ g3 h2
   refine ⟨_,k1,?_⟩
   rcases k2 with ⟨j,V',k2,k4⟩ | ⟨k2,k3⟩
   ·refine .inl ⟨j + 1,V',?_,⟨en,_,rfl,g1,g2,k4⟩⟩
    have e1:i + 1 + j = i + (j + 1):=by omega
    simp [Instr.findNow,h3,k2,e1]
   ·exact .inr ⟨by simp [Instr.findNow,h3,k2],⟨en,_,rfl,g1,g2,k3⟩⟩
 | _=>intro l i k hl; exact hl.elim
theorem mdl_ok {t u kt et ty:TypeId} {q:KQ} {d:TypeDesc} {k:Hp→Res} {i:AV} {I:Value} (hi:Inv N0 ρ h w) (ht:P.underlying t = some (.map kt et)) (hd:P.underlying kt = some d) (hq:KOk q d)
  (e:mdl q h x i k = r) (hr:r ≠ .fail) (hx:VR ρ x X) (hI:VR ρ i I) {kk:AV→Hp→Res} (hkk:∀ h,k h = kk (.tup .nil) h):Does P N0 ρ h w (Builtin.delete_ #[t,u] ty #[X,I]) kk r:=by
 obtain ⟨b,rfl,h1⟩:=cMap_inv e hr
 obtain ⟨hlo,h1⟩:=ifF_inv h1 hr
 rw [ble_iff] at hlo
 obtain ⟨p0,hp0,rfl⟩:=hx
 cases hg:h.ms.get b with
 | none=>rw [hg] at h1; exact absurd h1.symm hr
 | some m=>
  rw [hg] at h1
  have h1:q i i (fun _=>dlL q i m fun m=>k ⟨h.nb,h.bs,h.gs,h.ms.set m b,h.lo,h.oc⟩) = r:=h1
  obtain ⟨hk,b',h2⟩:=hq.key h1 hr hI
  obtain ⟨-,p,o,g1,gn,g2,g3⟩:=hi.mp.ent b m hg
  obtain rfl:p = p0:=by rw [g1] at hp0; exact Option.some.inj hp0
  obtain ⟨es,c,rfl⟩:∃ es c,o = .map es c:=by
   cases o <;> first
    | exact g3.elim
    | exact ⟨_,_,rfl⟩
    | skip
   obtain ⟨-,rfl⟩:=g3
   exact absurd h2.symm hr
  obtain ⟨g3,gb,gnd⟩:=g3
  have hgo:=Go.MapKept.run_getObj_map (P:=P) (w:=w) g2
  have hc:=run_checkKey (P:=P) (w:=w) hd hk es.isEmpty 9999
  obtain ⟨m',h3,h4⟩:=dlL_inv hq hI hr m es.toList 0 _ g3 h2
  rcases h4 with ⟨j,V',k1,k3⟩ | ⟨k1,k2⟩
  ·have hf:=run_findKey (P:=P) (w:=w) hd k1
   have hto:(es.eraseIdxIfInBounds (0 + j)).toList = es.toList.eraseIdx j:=by rw [Nat.zero_add,Array.toList_eraseIdxIfInBounds]
   have hso:=Go.MapKept.run_setObj_map (P:=P) (w:=w) (.map (es.eraseIdxIfInBounds (0 + j)) c) g2
   obtain ⟨i1,i2⟩:=set_inv (m':=m') (o':=.map (es.eraseIdxIfInBounds (0 + j)) c) hi hg hlo hp0 g2 (by simp) gn ⟨by rw [hto]; exact k3,by
    rw [hto]; exact fun x hx=>gb x (List.mem_of_mem_eraseIdx hx),by rw [hto]; exact gnd.sublist ((List.eraseIdx_sublist _ _).map _)⟩
   refine ⟨.tup .nil,_,.tuple #[],_,ρ,(hkk _).symm.trans h3,?_,⟨⟨#[],rfl,rfl⟩,i1,i2⟩⟩
   simp [Builtin.delete_,run_underlying ht,Result.andThen,hgo,hc,hf] at hso ⊢
   rw [hso]
  ·have hf:=run_findKey (P:=P) (w:=w) hd k1
   have hso:=Go.MapKept.run_setObj_map (P:=P) (w:=w) (.map es c) g2
   obtain ⟨i1,i2⟩:=set_inv (m':=m') (o':=.map es c) hi hg hlo hp0 g2 (by simp) gn ⟨k2,gb,gnd⟩
   refine ⟨.tup .nil,_,.tuple #[],_,ρ,(hkk _).symm.trans h3,?_,⟨⟨#[],rfl,rfl⟩,i1,i2⟩⟩
   simp [Builtin.delete_,run_underlying ht,Result.andThen,hgo,hc,hf] at hso ⊢
   rw [hso]
end
end Go.AM
namespace Go.AM
open Go
set_option autoImplicit false
section
variable {P:Program} {N0:Base} {ρ:Rho} {h:Hp} {w:World} {x y:AV} {X Y:Value} {r:Res}
theorem part1_run {t:TypeId} {d:TypeDesc} {xs:Array Value} {o:Nat} {V:Value} (hd:P.underlying t = some d) (ha:ag (some d) = false) (hx:xs[o]? = some V) (w:World):(Go.part t xs o).run P w = .ok V w:=by
 have hok:okT P t = true:=by unfold okT; rw [hd]
 have hag:agT P t = false:=by unfold agT; rw [hd]; exact ha
 unfold Go.part
 rw [Sem.run_bind,isAgg_run hok,hag]
 simp [hx]
theorem eqFs_inv {l m:AV} {xs ys:Array Value} (hx:LR ρ l xs.toList) (hy:LR ρ m ys.toList) (hr:r ≠ .fail):∀ (fs:List Field) (k:Bool→Res),eqFs P l m fs k = r →
  ∃ b,k b = r∧∀ d w,(Op.eqFields (d + 1) xs ys fs).run P w = .ok b w:=by
 intro fs
 induction fs with
 | nil=>intro k e; exact ⟨true,e,fun d w=>rfl⟩
 | cons f fs ih=>
  intro k e
  unfold eqFs at e
  obtain ⟨hn,e⟩:=sif_inv e hr
  have hn:f.name ≠ "_" := by simpa using hn
  have fin:∀ (td:TypeDesc) (b:Bool) (V W:Value),P.underlying f.type = some td→ag (some td) = false→VR ρ (nth l f.offset) V→VR ρ (nth m f.offset) W→nth l f.offset ≠ .unk→nth m f.offset ≠ .unk →
    (∀ X Y,VR ρ (nth l f.offset) X→VR ρ (nth m f.offset) Y→∀ d w,(Op.equalIn (d + 1) f.type X Y).run P w = .ok b w) →
    eqFs P l m fs (fun c=>k (bAn2 b c)) = r→∃ b,k b = r∧∀ d w,(Op.eqFields (d + 1) xs ys (f :: fs)).run P w = .ok b w:=by
   intro td b _ _ hu ha _ _ nx ny heq e
   obtain ⟨c,h1,h2⟩:=ih _ e
   obtain ⟨V,hV,hVR⟩:=LR_nth l _ f.offset hx nx
   obtain ⟨W,hW,hWR⟩:=LR_nth m _ f.offset hy ny
   refine ⟨_,h1,fun d w=>?_⟩
   have pV:=part1_run (P:=P) hu ha (by simpa using hV:xs[f.offset]? = some V) w
   have pW:=part1_run (P:=P) hu ha (by simpa using hW:ys[f.offset]? = some W) w
   unfold Op.eqFields
   rw [if_pos hn]
   simp only [Sem.run_bind,pV,pW,Result.andThen_ok,heq V W hVR hWR d w]
   cases b
   ·rfl
   ·exact h2 d w
  split at e
  ·rename_i hu
   obtain ⟨a,ea,e1⟩:=cB_inv e hr
   obtain ⟨b,eb,e2⟩:=cB_inv e1 hr
   refine fin _ (beqB a b) (.bool a) (.bool b) hu rfl (by rw [ea]; rfl) (by rw [eb]; rfl) (by rw [ea]; simp) (by rw [eb]; simp) (fun X Y hX hY d w=>?_) e2
   rw [ea] at hX
   rw [eb] at hY
   have hX:X = .bool a:=hX
   have hY:Y = .bool b:=hY
   rw [hX,hY,run_equalIn_bool' w d _ _ _ hu,beqB_eq]
  ·rename_i kk hu
   obtain ⟨c,a,b,ea,eb,e2⟩:=bin2_inv e hr
   obtain ⟨V,hV,hVR⟩:=LR_nth l _ f.offset hx (by rw [ea]; simp)
   obtain ⟨W,hW,hWR⟩:=LR_nth m _ f.offset hy (by rw [eb]; simp)
   refine fin _ (eqI a b) V W hu rfl hVR hWR (by rw [ea]; simp) (by rw [eb]; simp) (fun X Y hX hY d w=>?_) e2
   rw [ea] at hX
   rw [eb] at hY
   obtain ⟨kd,rfl,rfl,rfl⟩:=int2 hX hY
   rw [run_equalIn_int w d _ _ _ _ _ hu,eqI_eq]
  ·rename_i hu
   obtain ⟨n,a,ea,e1⟩:=cS_inv e hr
   obtain ⟨n',b,eb,e2⟩:=cS_inv e1 hr
   obtain ⟨V,hV,hVR⟩:=LR_nth l _ f.offset hx (by rw [ea]; simp)
   obtain ⟨W,hW,hWR⟩:=LR_nth m _ f.offset hy (by rw [eb]; simp)
   refine fin _ (sEq n a n' b) V W hu rfl hVR hWR (by rw [ea]; simp) (by rw [eb]; simp) (fun X Y hX hY d w=>?_) e2
   rw [ea] at hX
   rw [eb] at hY
   obtain ⟨s,rfl,rfl,rfl⟩:=hX
   obtain ⟨s',rfl,rfl,rfl⟩:=hY
   rw [run_equalIn_string w d _ _ _ hu,sEq_eq]
  ·exact absurd e.symm hr
theorem dBin2_pur {op:BinOp} {t:TypeId} {k:AV→Res} (xo yo:Operand) (e:dBin2 P op t x y k = r) (hr:r ≠ .fail) (hx:VR ρ x X) (hy:VR ρ y Y):
  ∃ v,k v = r∧Pur P ρ (do eqGuard op t xo yo X Y; binOp op t X Y) v:=by
 unfold dBin2 at e
 split at e
 ·rename_i fs hu
  obtain ⟨hc,e⟩:=sif_inv e hr
  simp only [Bool.and_eq_true,Bool.not_eq_true'] at hc
  have hfs:P.underlying t = some (.struct (P.fieldsOf t)):=by unfold Program.fieldsOf; rw [hu]
  have hfo:P.fieldsOf t = fs:=by unfold Program.fieldsOf; rw [hu]
  cases op with
  | eql=>
   obtain ⟨l,rfl,e1⟩:=cA_inv e hr
   obtain ⟨m,rfl,e2⟩:=cA_inv e1 hr
   obtain ⟨xs,rfl,hl⟩:=hx
   obtain ⟨ys,rfl,hm⟩:=hy
   obtain ⟨b,h1,h2⟩:=eqFs_inv hl hm hr fs.toList _ e2
   refine ⟨_,h1,.bool b,rfl,fun w=>?_⟩
   rw [Sem.run_bind,run_eqGuard_agg w _ t xo yo xs ys hc.1]
   simp only [Result.andThen_ok]
   rw [run_eql_struct,show (10000:Nat) = 9999 + 1 from rfl,run_equalIn_agg w 9999 t xs ys hfs hc.2,hfo,h2 9998 w]
   rfl
  | neq=>
   obtain ⟨l,rfl,e1⟩:=cA_inv e hr
   obtain ⟨m,rfl,e2⟩:=cA_inv e1 hr
   obtain ⟨xs,rfl,hl⟩:=hx
   obtain ⟨ys,rfl,hm⟩:=hy
   obtain ⟨b,h1,h2⟩:=eqFs_inv hl hm hr fs.toList _ e2
   refine ⟨_,h1,.bool (!b),(by rw [bnot_eq]; rfl),fun w=>?_⟩
   rw [Sem.run_bind,run_eqGuard_agg w _ t xo yo xs ys hc.1]
   simp only [Result.andThen_ok]
   rw [run_neq_struct,show (10000:Nat) = 9999 + 1 from rfl,run_equalIn_agg w 9999 t xs ys hfs hc.2,hfo,h2 9998 w]
   rfl
  | _=>exact absurd e.symm hr
 ·exact dBin_pur xo yo e hr hx hy
theorem iMin_ok {ts:Array TypeId} {t:TypeId} {k:AV→Res} (e:iMin x y k = r) (hr:r ≠ .fail) (hx:VR ρ x X) (hy:VR ρ y Y):∃ v,k v = r∧Pur P ρ (Builtin.min_ ts t #[X,Y]) v:=by
 obtain ⟨c,a,b,rfl,rfl,h1⟩:=bin2_inv e hr
 obtain ⟨kd,rfl,rfl,rfl⟩:=int2 hx hy
 refine ⟨_,h1,.int kd (if b < a then b else a),⟨kd,rfl,?_⟩,fun w=>rfl⟩
 rw [recB]; simp only [ltI_eq,decide_eq_true_eq]
theorem iMax_ok {ts:Array TypeId} {t:TypeId} {k:AV→Res} (e:iMax x y k = r) (hr:r ≠ .fail) (hx:VR ρ x X) (hy:VR ρ y Y):∃ v,k v = r∧Pur P ρ (Builtin.max_ ts t #[X,Y]) v:=by
 obtain ⟨c,a,b,rfl,rfl,h1⟩:=bin2_inv e hr
 obtain ⟨kd,rfl,rfl,rfl⟩:=int2 hx hy
 refine ⟨_,h1,.int kd (if b > a then b else a),⟨kd,rfl,?_⟩,fun w=>rfl⟩
 rw [recB]; simp only [ltI_eq,decide_eq_true_eq,gt_iff_lt]
set_option maxRecDepth 10000 in
theorem runeC_eq (n:Int):runeC n = if Utf8.valid n then n.toNat else Utf8.runeError:=by
 cases n with
 | ofNat m=>
  have e:runeC (Int.ofNat m) = Bool.rec (motive:=fun _=>Nat) (Bool.rec (motive:=fun _=>Nat) 65533 (Bool.rec (motive:=fun _=>Nat) 65533 m (Nat.ble m 1114111)) (Nat.ble 57344 m)) m (Nat.blt m 55296):=rfl
  have a1:=blt_iff m 55296
  have a2:=ble_iff 57344 m
  have a3:=ble_iff m 1114111
  have hv:Utf8.valid (Int.ofNat m) = true ↔ (m < 55296∨57344≤m∧m≤1114111):=by
   have e2:Int.ofNat m = (m:Int):=rfl
   rw [e2]
   simp only [Utf8.valid,Bool.or_eq_true,Bool.and_eq_true,decide_eq_true_eq]
   omega
  rw [e]
  generalize Nat.blt m 55296 = b1 at *
  generalize Nat.ble 57344 m = b2 at *
  generalize Nat.ble m 1114111 = b3 at *
  rw [recB,recB,recB]
  by_cases h1:m < 55296
  ·rw [if_pos (a1.2 h1),if_pos (hv.2 (.inl h1))]; rfl
  ·rw [if_neg (fun h=>h1 (a1.1 h))]
   by_cases h2:57344≤m
   ·rw [if_pos (a2.2 h2)]
    by_cases h3:m≤1114111
    ·rw [if_pos (a3.2 h3),if_pos (hv.2 (.inr ⟨h2,h3⟩))]; rfl
    ·rw [if_neg (fun h=>h3 (a3.1 h)),if_neg (fun h=>by rcases hv.1 h with h | h <;> omega)]; rfl
   ·rw [if_neg (fun h=>h2 (a2.1 h)),if_neg (fun h=>by rcases hv.1 h with h | h <;> omega)]; rfl
 | negSucc m=>
  have e:runeC (Int.negSucc m) = 65533:=rfl
  rw [e,if_neg]
  ·rfl
  ·simp only [Utf8.valid,Bool.or_eq_true,Bool.and_eq_true,decide_eq_true_eq]; omega
theorem u8n (n:Nat) (h:n < 256):(UInt8.ofNat n).toNat = n:=by simp [UInt8.toNat_ofNat']; omega
theorem runeC_lt (n:Int):runeC n≤1114111:=by
 rw [runeC_eq]
 split
 ·rename_i h
  simp only [Utf8.valid,Bool.or_eq_true,Bool.and_eq_true,decide_eq_true_eq] at h
  omega
 ·decide
theorem iStr_ok {k:AV→Res} (e:iStr x k = r) (hr:r ≠ .fail) (hx:VR ρ x X):∃ kd n v,X = .int kd n∧k v = r∧VR ρ v (.string (Utf8.encode n)):=by
 obtain ⟨c,n,rfl,h1⟩:=cI_inv e hr
 obtain ⟨kd,-,rfl⟩:=hx
 refine ⟨kd,n,?_⟩
 have hc:=runeC_lt n
 have he:Utf8.encode n = (let c:=runeC n; let b (n:Nat):UInt8:=UInt8.ofNat n
  if c < 0x80 then ⟨#[b c]⟩
  else if c < 0x800 then ⟨#[b (0xC0 + c / 64),b (0x80 + c % 64)]⟩
  else if c < 0x10000 then ⟨#[b (0xE0 + c / 4096),b (0x80 + c / 64 % 64),b (0x80 + c % 64)]⟩
  else ⟨#[b (0xF0 + c / 262144),b (0x80 + c / 4096 % 64),b (0x80 + c / 64 % 64),b (0x80 + c % 64)]⟩):=by
  rw [runeC_eq]; rfl
 rw [he]
 generalize runeC n = c at *
 simp only at h1
 have pk:∀ l:List UInt8,packB l = List.rec (motive:=fun _=>Nat) 0 (fun b _ ih=>Nat.add b.toNat (Nat.mul 256 ih)) l:=fun l=>rfl
 rcases ifB_inv h1 with ⟨q,h2⟩ | ⟨q,h2⟩
 ·rw [blt_iff] at q
  refine ⟨_,rfl,h2,_,rfl,?_⟩
  rw [if_pos q]
  exact ⟨by first | trivial | rfl,by rw [pk]; show (UInt8.ofNat c).toNat + 256 * 0 = c; rw [u8n _ (by omega)]; omega⟩
 ·have q:¬ c < 128:=fun h=>by rw [(blt_iff _ _).2 h] at q; cases q
  rcases ifB_inv h2 with ⟨q2,h3⟩ | ⟨q2,h3⟩
  ·rw [blt_iff] at q2
   refine ⟨_,rfl,h3,_,rfl,?_⟩
   rw [if_neg q,if_pos q2]
   refine ⟨by first | trivial | rfl,?_⟩
   rw [pk]
   show (UInt8.ofNat (0xC0 + c / 64)).toNat + 256 * ((UInt8.ofNat (0x80 + c % 64)).toNat + 256 * 0) = (192 + c / 64) + 256 * (128 + c % 64)
   rw [u8n _ (by omega),u8n _ (by omega)]; omega
  ·have q2:¬ c < 2048:=fun h=>by rw [(blt_iff _ _).2 h] at q2; cases q2
   rcases ifB_inv h3 with ⟨q3,h4⟩ | ⟨q3,h4⟩
   ·rw [blt_iff] at q3
    refine ⟨_,rfl,h4,_,rfl,?_⟩
    rw [if_neg q,if_neg q2,if_pos q3]
    refine ⟨by first | trivial | rfl,?_⟩
    rw [pk]
    show (UInt8.ofNat (0xE0 + c / 4096)).toNat + 256 * ((UInt8.ofNat (0x80 + c / 64 % 64)).toNat + 256 * ((UInt8.ofNat (0x80 + c % 64)).toNat + 256 * 0)) = (224 + c / 4096) + 256 * ((128 + c / 64 % 64) + 256 * (128 + c % 64))
    rw [u8n _ (by omega),u8n _ (by omega),u8n _ (by omega)]; omega
   ·have q3:¬ c < 65536:=fun h=>by rw [(blt_iff _ _).2 h] at q3; cases q3
    refine ⟨_,rfl,h4,_,rfl,?_⟩
    rw [if_neg q,if_neg q2,if_neg q3]
    refine ⟨by first | trivial | rfl,?_⟩
    rw [pk]
    show (UInt8.ofNat (0xF0 + c / 262144)).toNat + 256 * ((UInt8.ofNat (0x80 + c / 4096 % 64)).toNat + 256 * ((UInt8.ofNat (0x80 + c / 64 % 64)).toNat + 256 * ((UInt8.ofNat (0x80 + c % 64)).toNat + 256 * 0))) = (240 + c / 262144) + 256 * ((128 + c / 4096 % 64) + 256 * ((128 + c / 64 % 64) + 256 * (128 + c % 64)))
    rw [u8n _ (by omega),u8n _ (by omega),u8n _ (by omega),u8n _ (by omega)]; omega
theorem mark_inv {b:Nat} {B:Blk} {p:Pl} {cs:Array Value} {e:TypeId} {fz fz':Nat×Nat} {w':World} (hi:Inv N0 ρ h w) (hb:h.bs.get b = some B) (hf:B.fr = true) (hlo:h.lo≤b) (hp:ρ b = some p) (hrow:w.heap[p.r]? = some (.cells cs e fz))
  (hrow':w'.heap[p.r]? = some (.cells cs e fz')) (ho:∀ r,r ≠ p.r→w'.heap[r]? = w.heap[r]?) (hs:w'.heap.size = w.heap.size) (hu:Uf fz cs.size→Uf fz' cs.size) (h1:w'.tape = w.tape) (h2:w'.os = w.os) (h3:w'.output = w.output):
  Inv N0 ρ h w'∧Tr ρ h w ρ h w':=by
 obtain ⟨p',hp',hB⟩:=hi.blk b B hb
 obtain rfl:p = p':=by rw [hp] at hp'; exact Option.some.inj hp'
 have hn:=hB.side.1 hf
 refine ⟨⟨fun b2 B2 hb2=>?_,hi.nb,hi.gnb,hi.gs,hi.als,hi.lim,hi.free,by rw [hs]; exact hi.wsz,hi.mp.later (Ext.refl ρ) (Nat.le_refl _) fun r o hr hno=>ho r fun e0=>?_,Base.st hi.jj fun r hr=>ho r (by omega)⟩,
  ⟨Ext.refl ρ,Nat.le_refl _,fun _ _ e=>.inl e,fun r _ hn' _=>ho r fun e0=>hn' b B p hb ⟨hf,hlo⟩ hp e0.symm,fun _ _ b B p h1 h2 h3=>.inr ⟨b,B,p,h1,h2,h3,rfl⟩,fun _ _ b m p h1 h2 h3=>.inr ⟨b,m,p,h1,h2,h3,rfl⟩,by rw [hs]; exact Nat.le_refl _,h1,h2,h3,rfl⟩⟩
 ·obtain ⟨p2,hp2,hB2⟩:=hi.blk b2 B2 hb2
  by_cases e0:p2.r = p.r
  ·obtain ⟨cs2,e2,fz2,g1,g2,g3,g4⟩:=hB2.obj
   rw [e0,hrow] at g1
   cases g1
   exact ⟨p2,hp2,⟨cs,e,fz',by rw [e0]; exact hrow',g2,fun hf2=>by rw [← g2]; exact hu (by rw [g2]; exact g3 hf2),g4⟩,hB2.fit,hB2.side⟩
  ·exact ⟨p2,hp2,hB2.later (Ext.refl ρ) (ho _ e0) (fun h=>h)⟩
 ·rw [e0,hrow] at hr
  exact hno _ _ _ (Option.some.inj hr).symm
theorem mrk_ok {s u:TypeId} {k:AV→Hp→Res} (hi:Inv N0 ρ h w) (hs:P.underlying s = some (.slice u)) (hu:P.underlying u = some (.int .u8))
  (e:mrk h x k = r) (hr:r ≠ .fail) (hx:VR ρ x X):Does P N0 ρ h w (convert s s X) k r:=by
 obtain ⟨b,o,n,z,c,rfl,h1⟩:=cL_inv e hr
 obtain ⟨p,c',hp,rfl,hc1,hc2,hc3⟩:=id hx
 cases hb:h.bs.get b with
 | none=>rw [hb] at h1; exact absurd h1.symm hr
 | some B=>
  rw [hb] at h1
  obtain ⟨hf,h2⟩:=ifF_inv (b:=B.fr) h1 hr
  obtain ⟨hlo,h2⟩:=ifF_inv h2 hr
  rw [ble_iff] at hlo
  obtain ⟨p',hp',hB⟩:=hi.blk b B hb
  obtain rfl:p = p':=by rw [hp] at hp'; exact Option.some.inj hp'
  obtain ⟨cs,et,fz,g1,g2,g3,-⟩:=hB.obj
  have hlt:p.r < w.heap.size:=(Array.getElem?_eq_some_iff.1 g1).1
  have hget:w.heap[p.r] = .cells cs et fz:=(Array.getElem?_eq_some_iff.1 g1).2
  have hfz:(w.freeze ⟨p.r,cs.size,none⟩ 1).heap = w.heap.setIfInBounds p.r (.cells cs et (if fz.1 == fz.2 then (cs.size,cs.size + 1) else (min fz.1 cs.size,max fz.2 (cs.size + 1)))):=by
   unfold World.freeze
   simp only [Nat.one_ne_zero,if_false]
   apply Array.ext_getElem?
   intro i
   rw [Array.getElem?_modify,Array.getElem?_setIfInBounds]
   by_cases hi:p.r = i
   ·subst hi
    simp [hlt,hget]
   ·simp [hi]
  obtain ⟨i1,i2⟩:=mark_inv (w':=w.freeze ⟨p.r,cs.size,none⟩ 1) hi hb hf hlo hp g1 (fz':=if fz.1 == fz.2 then (cs.size,cs.size + 1) else (min fz.1 cs.size,max fz.2 (cs.size + 1))) (by rw [hfz]; simp [hlt]) (fun r hr=>by rw [hfz,Array.getElem?_setIfInBounds,if_neg (Ne.symm hr)]) (by rw [hfz]; simp) (fun hU=>by
   by_cases he:fz.1 = fz.2
   ·simp only [he,beq_self_eq_true,if_true]; exact .inr (Nat.le_refl _)
   ·have he':(fz.1 == fz.2) = false:=by simpa using he
    rcases hU with hU | hU
    ·exact absurd hU he
    ·simp only [he',Bool.false_eq_true,if_false]
     exact .inr (by show cs.size≤min fz.1 cs.size; omega)) rfl rfl rfl
  refine ⟨_,h,_,_,ρ,h2,?_,⟨hx,i1,i2⟩⟩
  unfold convert
  rw [Sem.run_bind,run_und hs]
  simp only [Result.andThen_ok]
  rw [Sem.run_bind,run_und hs]
  simp only [Result.andThen_ok]
  rw [Sem.run_bind,run_und hu]
  simp only [Result.andThen_ok,beq_self_eq_true]
  have hsh:w.shape? p.r = some (et,cs.size):=by
   unfold World.shape?
   rw [g1]
  have hm:(markStringish ⟨p.r,p.base + o,none⟩).run P w = .ok () (w.freeze ⟨p.r,cs.size,none⟩ 1):=by
   unfold markStringish
   rw [Sem.run_bind]
   have:(shape p.r).run P w = .ok (some (et,cs.size)) w:=by simp [shape,Sem.run,hsh]
   rw [this]
   rfl
  rw [Sem.run_bind,hm]
  rfl
theorem conv2_ok {s d:TypeId} {k:AV→Hp→Res} (hi:Inv N0 ρ h w) (e:dConv2 P s d x h k = r) (hr:r ≠ .fail) (hx:VR ρ x X):Does P N0 ρ h w (convert s d X) k r:=by
 unfold dConv2 at e
 split at e
 ·rename_i kk hs hd
  obtain ⟨kd,n,v,rfl,h1,h2⟩:=iStr_ok (k:=fun v=>k v h) e hr hx
  refine Does.here hi h1 h2 ?_
  unfold convert
  rw [Sem.run_bind,run_und hs]
  simp only [Result.andThen_ok]
  rw [Sem.run_bind,run_und hd]
  rfl
 ·rename_i u1 u hs hd
  split at e
  ·rename_i hu
   obtain ⟨he,e2⟩:=sif_inv e hr
   rw [beq_iff] at he
   subst he
   exact mrk_ok hi hd hu e2 hr hx
  ·exact absurd (sif_inv e hr).2.symm hr
 ·exact conv_ok hi e hr hx
theorem heap_alloc' (w:World) (o:Obj):(w.alloc o).heap[w.heap.size]? = some o∧∀ r,r < w.heap.size→(w.alloc o).heap[r]? = w.heap[r]?:=
 ⟨by rw [show (w.alloc o).heap = w.heap.push o from rfl]; simp,fun r hr=>by rw [show (w.alloc o).heap = w.heap.push o from rfl,Array.getElem?_push,if_neg (by omega)]⟩
theorem ent_new {m:AV} {o:Obj} (hi:Inv N0 ρ h w) (hno:∀ cs e fz,o ≠ .cells cs e fz) (hm:MR (ups ρ h.nb ⟨w.heap.size,0,0,0⟩) ⟨w.heap.size,0,0,0⟩ m o):
  Inv N0 (ups ρ h.nb ⟨w.heap.size,0,0,0⟩) ⟨Nat.succ h.nb,h.bs,h.gs,h.ms.set m h.nb,h.lo,h.oc⟩ (w.alloc o)∧Tr ρ h w (ups ρ h.nb ⟨w.heap.size,0,0,0⟩) ⟨Nat.succ h.nb,h.bs,h.gs,h.ms.set m h.nb,h.lo,h.oc⟩ (w.alloc o):=by
 have hfree:ρ h.nb = none:=hi.free _ (Nat.le_refl _)
 have hext:=ups_ext ⟨w.heap.size,0,0,0⟩ hfree
 obtain ⟨ha1,ha2⟩:=heap_alloc' w o
 have hsize:(w.alloc o).heap.size = w.heap.size + 1:=by show (w.heap.push _).size = _; simp
 have plc:∀ b2 B2 p2,h.bs.get b2 = some B2→ups ρ h.nb ⟨w.heap.size,0,0,0⟩ b2 = some p2→ρ b2 = some p2:=by
  intro b2 B2 p2 h2 hp2
  have:=hi.nb b2 B2 h2
  rwa [ups_ne _ _ (by omega)] at hp2
 have hmget:∀ b,(h.ms.set m h.nb).get b = if b = h.nb then some m else h.ms.get b:=fun b=>T.get_set _ _ _ _
 refine ⟨⟨?_,?_,?_,?_,?_,?_,?_,?_,⟨?_,?_⟩,Base.st hi.jj fun r hr=>ha2 r (by have:=hi.wsz; omega)⟩,⟨hext,Nat.le_succ _,?_,fun r hr _ _=>ha2 r hr,?_,?_,by rw [hsize]; omega,rfl,rfl,rfl,rfl⟩⟩
 ·intro b B hb
  obtain ⟨p,hp,hB⟩:=hi.blk b B hb
  exact ⟨p,hext _ _ hp,hB.later hext (ha2 _ hB.lt) (fun hrd=>hrd)⟩
 ·intro b B hb; exact Nat.lt_succ_of_lt (hi.nb b B hb)
 ·intro b B hb hf
  have:=hi.gnb b B hb hf
  exact ⟨Nat.lt_succ_of_lt this.1,this.2⟩
 ·intro g q hq
  have:=hi.gs g q hq
  exact ⟨Nat.lt_succ_of_lt this.1,Nat.lt_succ_of_lt this.2.1,this.2.2⟩
 ·intro b1 b2 B1 B2 p1 p2 h1 h2 f1 f2 e1 e2 er
  exact hi.als b1 b2 B1 B2 p1 p2 h1 h2 f1 f2 (plc _ _ _ h1 e1) (plc _ _ _ h2 e2) er
 ·intro b1 b2 B1 B2 p1 p2 h1 h2 f1 f2 e1 e2 eg r1 r2 hle
  exact hi.lim b1 b2 B1 B2 p1 p2 h1 h2 f1 f2 (plc _ _ _ h1 e1) (plc _ _ _ h2 e2) eg r1 r2 hle
 ·intro i hle
  have hle:h.nb + 1≤i:=hle
  rw [ups_ne _ _ (by omega)]
  exact hi.free i (by omega)
 ·rw [hsize]; have:=hi.wsz; omega
 ·intro b m2 hb
  have hb:(h.ms.set m h.nb).get b = some m2:=hb
  rw [hmget] at hb
  by_cases e0:b = h.nb
  ·rw [if_pos e0] at hb
   obtain rfl:=Option.some.inj hb
   subst e0
   exact ⟨Nat.lt_succ_self _,_,o,ups_same _ _ _,hi.wsz,ha1,hm⟩
  ·rw [if_neg e0] at hb
   obtain ⟨g1,p,o2,g2,g3,g4,g5⟩:=hi.mp.ent b m2 hb
   exact ⟨Nat.lt_succ_of_lt g1,p,o2,hext _ _ g2,g3,by rw [ha2 _ (Array.getElem?_eq_some_iff.1 g4).1]; exact g4,g5.ext hext⟩
 ·intro b1 b2 m1 m2 p1 p2 h1 h2 e1 e2 er
  have h1:(h.ms.set m h.nb).get b1 = some m1:=h1
  have h2:(h.ms.set m h.nb).get b2 = some m2:=h2
  rw [hmget] at h1 h2
  have old:∀ b m p,h.ms.get b = some m→b ≠ h.nb→ups ρ h.nb ⟨w.heap.size,0,0,0⟩ b = some p→ρ b = some p∧p.r < w.heap.size:=by
   intro b m p hb hne hp
   rw [ups_ne _ _ hne] at hp
   obtain ⟨-,q,o2,g2,-,g4,-⟩:=hi.mp.ent b m hb
   rw [hp] at g2
   obtain rfl:=Option.some.inj g2
   exact ⟨hp,(Array.getElem?_eq_some_iff.1 g4).1⟩
  by_cases n1:b1 = h.nb <;> by_cases n2:b2 = h.nb
  ·rw [n1,n2]
  ·rw [if_neg n2] at h2
   subst n1
   rw [ups_same] at e1
   obtain rfl:=(Option.some.inj e1).symm
   have:=(old _ _ _ h2 n2 e2).2
   simp at er; omega
  ·rw [if_neg n1] at h1
   subst n2
   rw [ups_same] at e2
   obtain rfl:=(Option.some.inj e2).symm
   have:=(old _ _ _ h1 n1 e1).2
   simp at er; omega
  ·rw [if_neg n1] at h1
   rw [if_neg n2] at h2
   exact hi.mp.inj _ _ _ _ _ _ h1 h2 (old _ _ _ h1 n1 e1).1 (old _ _ _ h2 n2 e2).1 er
 ·intro b p hp
  by_cases e0:b = h.nb
  ·subst e0; exact .inr ⟨hfree,Nat.le_refl _,Nat.lt_succ_self _⟩
  ·rw [ups_ne _ _ e0] at hp; exact .inl hp
 ·intro l hll b B p hb hf hp
  exact .inr ⟨b,B,p,hb,hf,plc _ _ _ hb hp,rfl⟩
 ·intro l hll b m2 p hb hl hp
  have hb:(h.ms.set m h.nb).get b = some m2:=hb
  rw [hmget] at hb
  by_cases e0:b = h.nb
  ·subst e0
   rw [ups_same] at hp
   obtain rfl:=(Option.some.inj hp).symm
   exact .inl (Nat.le_refl _)
  ·rw [if_neg e0] at hb
   rw [ups_ne _ _ e0] at hp
   exact .inr ⟨b,m2,p,hb,hl,hp,rfl⟩
theorem rng_ok {t:TypeId} {k:AV→Hp→Res} (hi:Inv N0 ρ h w) (hu:P.underlying t = some .string) (e:rng h x k = r) (hr:r ≠ .fail) (hx:VR ρ x X):Does P N0 ρ h w (Instr.range t X) k r:=by
 obtain ⟨n,a,rfl,h1⟩:=cS_inv e hr
 obtain ⟨s,rfl,rfl,rfl⟩:=hx
 obtain ⟨i1,i2⟩:=ent_new (m:=itr s.data.size (packB s.data.toList) 0) (o:=.stringIter s 0) hi (by simp) ⟨rfl,rfl⟩
 exact ⟨_,_,_,_,_,h1,run_range_string w t s hu,⟨⟨_,ups_same _ _ _,rfl⟩,i1,i2⟩⟩
theorem byteAt_out (l:List UInt8) (i:Nat) (h:l.length≤i):byteAt (packB l) i = 0:=by
 have hu:byteAt (packB l) i = (packB l >>> (8 * i)) % 256:=rfl
 have hlt:=packB_lt l
 have h1:packB l < 2 ^ (8 * i):=by
  refine Nat.lt_of_lt_of_le hlt ?_
  rw [Nat.pow_mul]
  exact Nat.pow_le_pow_right (by decide) h
 rw [hu,Nat.shiftRight_eq_div_pow,Nat.div_eq_of_lt h1]
theorem get_byte (s:ByteArray) (i:Nat):(s.get! i).toNat = byteAt (packB s.data.toList) i:=by
 by_cases h:i < s.data.size
 ·rw [byteAt_eq _ _ (by simpa using h)]
  have:s.get! i = s.data[i]'h:=by
   have e:s.get! i = s.data[i]!:=rfl
   rw [e]; exact getElem!_pos s.data i h
  rw [this]; simp
 ·rw [byteAt_out _ _ (by simpa using h)]
  have:s.get! i = 0:=by
   have e:s.get! i = s.data[i]!:=rfl
   rw [e]; exact getElem!_neg s.data i h
  rw [this]; rfl
theorem decA_eq (s:ByteArray) (p:Nat):decA s.data.size (packB s.data.toList) p = Utf8.decode s p:=by
 unfold decA Utf8.decode
 simp only [get_byte,Utf8.runeError]
 have hs:s.size = s.data.size:=rfl
 rw [hs]
 have hv:∀ c:Nat,(Utf8.valid (c:Int)) = (decide (c < 0xD800) || (decide (0xE000≤c) && decide (c≤0x10FFFF))):=by
  intro c
  rw [Bool.eq_iff_iff]
  simp only [Utf8.valid,Bool.or_eq_true,Bool.and_eq_true,decide_eq_true_eq]
  omega
 simp only [hv]
theorem nxt_ok {t:TypeId} {k:AV→Hp→Res} (hi:Inv N0 ρ h w) (e:nxt h x k = r) (hr:r ≠ .fail) (hx:VR ρ x X):Does P N0 ρ h w (Instr.next X true t) k r:=by
 obtain ⟨b,o,rfl,hA⟩:=cP_inv e hr
 obtain ⟨h0,hB⟩:=ifF_inv hA hr
 obtain ⟨hlo,h1⟩:=ifF_inv hB hr
 clear hA hB
 rw [beq_iff] at h0
 rw [ble_iff] at hlo
 subst h0
 obtain ⟨p0,hp0,rfl⟩:=hx
 cases hg:h.ms.get b with
 | none=>rw [hg] at h1; exact absurd h1.symm hr
 | some m=>
  rw [hg] at h1
  obtain ⟨l,rfl,h2⟩:=cT_inv h1 hr
  obtain ⟨-,p,ob,g1,gn,g2,g3⟩:=hi.mp.ent b _ hg
  obtain rfl:p = p0:=by rw [g1] at hp0; exact Option.some.inj hp0
  cases ob <;> first
   | exact g3.elim
   | exact g3.1.elim
   | skip
  ·rename_i s pos
   obtain ⟨hb,hm⟩:=g3
   obtain rfl:l = .cons (.str s.data.size (packB s.data.toList)) (.cons (.int 63 (Int.ofNat pos)) .nil):=by cases hm; rfl
   have hba:p.base + 0 = 0:=by omega
   have hgo:(getObj p.r).run P w = .ok (.stringIter s pos) w:=by simp [getObj,Sem.run,g2]
   have h2:ifB (Nat.blt pos s.data.size) (k (.tup (.cons (.bool true) (.cons (.int 63 (Int.ofNat pos)) (.cons (.int 31 (Int.ofNat (decA s.data.size (packB s.data.toList) pos).1)) .nil)))) ⟨h.nb,h.bs,h.gs,h.ms.set (itr s.data.size (packB s.data.toList) (Nat.add pos (decA s.data.size (packB s.data.toList) pos).2)) b,h.lo,h.oc⟩)
    (k (.tup (.cons (.bool false) .nil)) h) = r:=h2
   rw [decA_eq] at h2
   rcases ifB_inv h2 with ⟨q,h3⟩ | ⟨q,h3⟩
   ·rw [blt_iff] at q
    have q:pos < s.size:=q
    have hso:∀ o',(setObj p.r o').run P w = .ok () { w with heap:=w.heap.setIfInBounds p.r o' }:=fun o'=>by
     simp [setObj,Sem.run,g2]
    obtain ⟨i1,i2⟩:=set_inv (m':=itr s.data.size (packB s.data.toList) (Nat.add pos (Utf8.decode s pos).2)) (o':=.stringIter s (pos + (Utf8.decode s pos).2)) hi hg hlo g1 g2 (by simp) gn ⟨hb,rfl⟩
    refine ⟨_,_,.tuple #[.bool true,goInt pos,.int .i32 (Utf8.decode s pos).1],_,_,h3,?_,⟨⟨_,rfl,_,_,rfl,rfl,_,_,rfl,⟨.i64,rfl,rfl⟩,_,_,rfl,⟨.i32,rfl,rfl⟩,rfl⟩,i1,i2⟩⟩
    simp only [Instr.next,hba,Sem.run_bind,hgo,Result.andThen_ok,if_pos q,hso]
    rfl
   ·have q:¬ pos < s.size:=fun hq=>by
     have hq:pos < s.data.size:=hq
     rw [(blt_iff _ _).2 hq] at q; cases q
    refine Does.here hi h3 (V:=.tuple #[.bool false]) ⟨_,rfl,_,_,rfl,rfl,rfl⟩ ?_
    simp only [Instr.next,hba,Sem.run_bind,hgo,Result.andThen_ok,if_neg q]
    rfl
theorem quoN_sm {q:Bool} {k k':Res} {x:Res} (e:Sm (.ask (bnot q) k) r) (hr:Fine r) (h:x = ifB q .fail k):Sm x r:=by
 obtain ⟨h1,h2⟩:=now_ask (by rw [show now (.ask (bnot q) k) = now r from e]; exact hr.ok)
 have hq:q = false:=by cases q with | true=>cases h1 | false=>rfl
 rw [h,hq]
 exact h2.symm.trans e
theorem binA_sm {m:Bool} {op:BinOp} {t:TypeId} {k:AV→Res} (e:binA m P op t x y k = r) (hr:Fine r):Sm (dBin2 P op t x y k) r:=by
 unfold binA at e
 split at e
 ·rename_i kd hu
  obtain ⟨c,a,b,rfl,rfl,h1⟩:=bin2_inv e hr.nf
  have hd:dBin2 P .quo t (.int c a) (.int c b) k = iQuo (.int c a) (.int c b) k:=by unfold dBin2; rw [hu]; rfl
  rw [hd]
  refine quoN_sm (k':=.fail) (.eq h1) hr ?_
  have hc:Nat.beq c c = true:=by rw [beq_iff]
  show ifB (Nat.beq c c) _ _ = _
  rw [hc]; rfl
 ·rename_i kd hu
  obtain ⟨c,a,b,rfl,rfl,h1⟩:=bin2_inv e hr.nf
  have hd:dBin2 P .rem t (.int c a) (.int c b) k = iRem (.int c a) (.int c b) k:=by unfold dBin2; rw [hu]; rfl
  rw [hd]
  refine quoN_sm (k':=.fail) (.eq h1) hr ?_
  have hc:Nat.beq c c = true:=by rw [beq_iff]
  show ifB (Nat.beq c c) _ _ = _
  rw [hc]; rfl
 ·exact .eq e
theorem binA_pur {m:Bool} {op:BinOp} {t:TypeId} {k:AV→Res} (xo yo:Operand) (e:binA m P op t x y k = r) (hr:Fine r) (hx:VR ρ x X) (hy:VR ρ y Y):
  ∃ v,Sm (k v) r∧Pur P ρ (do eqGuard op t xo yo X Y; binOp op t X Y) v:=by
 have e1:=binA_sm e hr
 obtain ⟨v,h1,h2⟩:=dBin2_pur xo yo (Eq.refl (dBin2 P op t x y k)) (e1.nf hr) hx hy
 exact ⟨v,.of h1 e1,h2⟩
theorem binC_pur {c:Option Bool} {m:Bool} {op:BinOp} {t:TypeId} {k:AV→Res} (xo yo:Operand) (e:binC c m P op t x y k = r) (hr:Fine r) (hx:VR ρ x X) (hy:VR ρ y Y):
  ∃ v,Sm (k v) r∧Pur P ρ (do eqGuard op t xo yo X Y; binOp op t X Y) v:=by
 cases c with
 | none=>exact binA_pur xo yo e hr hx hy
 | some d=>
  obtain ⟨v,h1,h2⟩:=binA_pur xo yo e hr hx hy
  refine ⟨v,?_,h2⟩
  obtain ⟨b,rfl,h3⟩:=cB_inv rfl (h1.nf hr)
  have h4:=Sm.of h3 h1
  obtain ⟨h5,h6⟩:=now_ask (by rw [show now (.ask (beqB b d) (k (.bool d))) = now r from h4]; exact hr.ok)
  have hb:b = d:=by rw [beqB_eq] at h5; simpa using h5
  subst hb
  exact h6.symm.trans h4
theorem binT_pur {hp:Hp} {i:Nat} {m:Bool} {op:BinOp} {t:TypeId} {k:AV→Res} (xo yo:Operand) (e:binA m P op t x y (fun v=>tw hp i v k) = r) (hr:Fine r) (hx:VR ρ x X) (hy:VR ρ y Y):
  ∃ v,Sm (k v) r∧Pur P ρ (do eqGuard op t xo yo X Y; binOp op t X Y) v:=by
 obtain ⟨v,h1,h2⟩:=binA_pur xo yo e hr hx hy
 refine ⟨v,?_,h2⟩
 have h1:Sm (Option.rec (motive:=fun _=>Res) (k v) (fun d=>cB v fun b=>.ask (beqB b d) (k (.bool d))) (toldC hp i)) r:=h1
 cases hc:toldC hp i with
 | none=>rw [hc] at h1; exact h1
 | some d=>
  rw [hc] at h1
  have h1:Sm (cB v fun b=>.ask (beqB b d) (k (.bool d))) r:=h1
  obtain ⟨b,rfl,h3⟩:=cB_inv rfl (h1.nf hr)
  have h4:=Sm.of h3 h1
  obtain ⟨h5,h6⟩:=now_ask (by rw [show now (.ask (beqB b d) (k (.bool d))) = now r from h4]; exact hr.ok)
  have hb:b = d:=by rw [beqB_eq] at h5; simpa using h5
  subst hb
  exact h6.symm.trans h4
theorem kq_ans {t:TypeId} {q:KQ} (h:keyQ P t = some q):∀ x y,(∀ k,q x y k = .fail)∨∃ b,∀ k,q x y k = k b:=by
 unfold keyQ at h
 split at h
 ·rename_i c hu
  obtain rfl:=Option.some.inj h
  intro x y
  cases x <;> first
   | exact .inl fun _=>rfl
   | skip
  cases y <;> first
   | exact .inl fun _=>rfl
   | skip
  rename_i c1 a c2 b
  cases h1:Nat.beq c1 (cOf c) with
  | false=>exact .inl fun k=>by show ifB (Nat.beq c1 (cOf c)) _ _ = _; rw [h1]; rfl
  | true=>
   cases h2:Nat.beq c2 (cOf c) with
   | false=>exact .inl fun k=>by show ifB (Nat.beq c1 (cOf c)) (ifB (Nat.beq c2 (cOf c)) _ _) _ = _; rw [h1,h2]; rfl
   | true=>exact .inr ⟨eqI a b,fun k=>by show ifB (Nat.beq c1 (cOf c)) (ifB (Nat.beq c2 (cOf c)) _ _) _ = _; rw [h1,h2]; rfl⟩
 ·obtain rfl:=Option.some.inj h
  intro x y
  cases x <;> first
   | exact .inl fun _=>rfl
   | skip
  cases y <;> first
   | exact .inl fun _=>rfl
   | exact .inr ⟨_,fun _=>rfl⟩
 ·obtain rfl:=Option.some.inj h
  intro x y
  cases x <;> first
   | exact .inl fun _=>rfl
   | skip
  cases y <;> first
   | exact .inl fun _=>rfl
   | exact .inr ⟨_,fun _=>rfl⟩
 ·cases h
theorem lkL_sm {t:TypeId} {q:KQ} (h:keyQ P t = some q) (i:AV) (F:AV→Res) (Nn:Res) (hr:Fine r):∀ m,Sm (lkL (fun x y k=>q x y fun b=>.ask (bnot b) (k false)) i F Nn m) r→Sm (lkL q i F Nn m) r:=by
 intro m
 induction m with
 | nil=>intro e; exact e
 | cons c t _ iht=>
  intro e
  cases c with
  | cons y v=>
   have e:Sm (q i y fun b=>.ask (bnot b) (lkL (fun x y k=>q x y fun b=>.ask (bnot b) (k false)) i F Nn t)) r:=e
   rcases kq_ans h i y with h1 | ⟨b,h1⟩
   ·exact absurd (h1 _) (e.nf hr)
   ·rw [h1] at e
    obtain ⟨h2,h3⟩:=now_ask (by rw [show now (.ask (bnot b) _) = now r from e]; exact hr.ok)
    have hb:b = false:=by cases b with | true=>cases h2 | false=>rfl
    subst hb
    show Sm (q i y fun b=>ifB b (F v) (lkL q i F Nn t)) r
    rw [h1]
    exact iht (h3.symm.trans e)
  | _=>exact absurd rfl (e.nf hr)
 | _=>intro e; exact absurd rfl (e.nf hr)
theorem lkpM_sm {hp:Hp} {m:Bool} {t:TypeId} {q:KQ} {ok:Bool} {zero i:AV} {k:AV→Res} (h:keyQ P t = some q) (e:lkpM m q hp ok zero x i k = r) (hr:Fine r):Sm (lkp q hp ok zero x i k) r:=by
 cases m with
 | false=>exact .eq e
 | true=>
  have e:Sm (lkpN q hp ok zero x i k) r:=.eq e
  cases x with
  | nilm=>exact e
  | map b=>
   have e:Sm (Option.rec (motive:=fun _=>Res) .fail (fun m=>q i i fun _=>lkL (fun x y k=>q x y fun b=>.ask (bnot b) (k false)) i (fun v=>found ok v true k) (found ok zero false k) m) (hp.ms.get b)) r:=e
   show Sm (Option.rec (motive:=fun _=>Res) .fail (fun m=>q i i fun _=>lkL q i (fun v=>found ok v true k) (found ok zero false k) m) (hp.ms.get b)) r
   cases hg:hp.ms.get b with
   | none=>rw [hg] at e; exact absurd rfl (e.nf hr)
   | some m=>
    rw [hg] at e
    have e:Sm (q i i fun _=>lkL (fun x y k=>q x y fun b=>.ask (bnot b) (k false)) i (fun v=>found ok v true k) (found ok zero false k) m) r:=e
    show Sm (q i i fun _=>lkL q i (fun v=>found ok v true k) (found ok zero false k) m) r
    rcases kq_ans h i i with h1 | ⟨b',h1⟩
    ·exact absurd (h1 _) (e.nf hr)
    ·rw [h1] at e ⊢
     exact lkL_sm h i _ _ hr m e
  | _=>exact absurd rfl (e.nf hr)
def QW (q' q:KQ):Prop:=∀ x y (k' k:Bool→Res) (r:Res),Fine r→(∀ b,Sm (k' b) r→Sm (k b) r)→Sm (q' x y k') r→Sm (q x y k) r
theorem kqT_w:QW kqT kqS:=by
 intro x y k' k r hr hk e
 cases x with
 | str n a=>
  cases y with
  | str m b=>
   have e:Sm (Bool.rec (motive:=fun _=>Res) (k' false) (.ask (Nat.beq a b) (k' true)) (Nat.beq n m)) r:=e
   show Sm (k (Bool.rec (motive:=fun _=>Bool) false (Nat.beq a b) (Nat.beq n m))) r
   cases h:Nat.beq n m with
   | false=>rw [h] at e; exact hk _ e
   | true=>
    rw [h] at e
    have e:Sm (.ask (Nat.beq a b) (k' true)) r:=e
    obtain ⟨h2,h3⟩:=now_ask (by rw [show now (.ask (Nat.beq a b) _) = now r from e]; exact hr.ok)
    show Sm (k (Nat.beq a b)) r
    rw [h2]
    exact hk _ (h3.symm.trans e)
  | _=>exact absurd rfl (e.nf hr)
 | _=>exact absurd rfl (e.nf hr)
theorem QW.same {t:TypeId} {q:KQ} (h:keyQ P t = some q):QW q q:=by
 intro x y k' k r hr hk e
 rcases kq_ans h x y with h1 | ⟨b,h1⟩
 ·exact absurd (h1 _) (e.nf hr)
 ·rw [h1] at e ⊢; exact hk _ e
theorem qT_w {t:TypeId} {q:KQ} (h:keyQ P t = some q):QW (qT P t q) q:=by
 unfold qT
 split
 ·rename_i hu
  have:q = kqS:=by unfold keyQ at h; rw [hu] at h; exact (Option.some.inj h).symm
  rw [this]; exact kqT_w
 ·exact .same h
theorem aq_w {q' q:KQ} (t:Bool) (h:QW q' q) (h2:QW q q):QW (aq t q' q) q:=by cases t <;> assumption
theorem lkL_w {q' q:KQ} (hq:QW q' q) (i:AV) (F:AV→Res) (Nn:Res) (hr:Fine r):∀ m,Sm (lkL q' i F Nn m) r→Sm (lkL q i F Nn m) r:=by
 intro m
 induction m with
 | nil=>intro e; exact e
 | cons c t _ iht=>
  intro e
  cases c with
  | cons y v=>exact hq i y _ _ r hr (fun b hb=>by cases b with | true=>exact hb | false=>exact iht hb) e
  | _=>exact absurd rfl (e.nf hr)
 | _=>intro e; exact absurd rfl (e.nf hr)
theorem upL_w {q' q:KQ} (hq:QW q' q) (x v:AV) (hr:Fine r):∀ m (k' k:AV→Res),(∀ a,Sm (k' a) r→Sm (k a) r)→Sm (upL q' x v m k') r→Sm (upL q x v m k) r:=by
 intro m
 induction m with
 | nil=>intro k' k hk e; exact hk _ e
 | cons c t _ iht=>
  intro k' k hk e
  cases c with
  | cons y v'=>exact hq x y _ _ r hr (fun b hb=>by cases b with | true=>exact hk _ hb | false=>exact iht _ _ (fun a ha=>hk _ ha) hb) e
  | _=>exact absurd rfl (e.nf hr)
 | _=>intro k' k hk e; exact absurd rfl (e.nf hr)
theorem lkpX_sm {hp:Hp} {T m:Bool} {t:TypeId} {q:KQ} {ok:Bool} {zero i:AV} {k:AV→Res} (h:keyQ P t = some q) (e:lkpX T m (qT P t q) q hp ok zero x i k = r) (hr:Fine r):Sm (lkp q hp ok zero x i k) r:=by
 cases T with
 | false=>exact lkpM_sm h e hr
 | true=>
  have e:Sm (lkp2 (qT P t q) q hp ok zero x i k) r:=.eq e
  cases x with
  | nilm=>exact e
  | map b=>
   have e:Sm (Option.rec (motive:=fun _=>Res) .fail (fun m=>q i i fun _=>lkL (aq (told hp) (qT P t q) q) i (fun v=>found ok v true k) (found ok zero false k) m) (hp.ms.get b)) r:=e
   show Sm (Option.rec (motive:=fun _=>Res) .fail (fun m=>q i i fun _=>lkL q i (fun v=>found ok v true k) (found ok zero false k) m) (hp.ms.get b)) r
   cases hg:hp.ms.get b with
   | none=>rw [hg] at e; exact absurd rfl (e.nf hr)
   | some m=>
    rw [hg] at e
    exact QW.same h i i _ _ r hr (fun b hb=>lkL_w (aq_w (told hp) (qT_w h) (.same h)) i _ _ hr m hb) e
  | _=>exact absurd rfl (e.nf hr)
theorem mupX_sm {hp:Hp} {T:Bool} {t:TypeId} {q:KQ} {i v:AV} {k:Hp→Res} (h:keyQ P t = some q) (e:mupX T (qT P t q) q hp x i v k = r) (hr:Fine r):Sm (mup q hp x i v k) r:=by
 cases T with
 | false=>exact .eq e
 | true=>
  have e:mup2 (qT P t q) q hp x i v k = r:=e
  cases x with
  | map b=>
   have e:ifB (Nat.ble hp.lo b) (Option.rec (motive:=fun _=>Res) .fail (fun m=>q i i fun _=>upL (aq (told hp) (qT P t q) q) i v m fun m=>k (Hp.rec (motive:=fun _=>Hp) (fun nb' bs' gs' ms' lo' oc'=>⟨nb',bs',gs',ms'.set m b,lo',oc'⟩) hp)) (hp.ms.get b)) .fail = r:=e
   show Sm (ifB (Nat.ble hp.lo b) (Option.rec (motive:=fun _=>Res) .fail (fun m=>q i i fun _=>upL q i v m fun m=>k (Hp.rec (motive:=fun _=>Hp) (fun nb' bs' gs' ms' lo' oc'=>⟨nb',bs',gs',ms'.set m b,lo',oc'⟩) hp)) (hp.ms.get b)) .fail) r
   cases hb:Nat.ble hp.lo b with
   | false=>rw [hb] at e; exact absurd e.symm hr.nf
   | true=>
    rw [hb] at e
    have e:Option.rec (motive:=fun _=>Res) .fail (fun m=>q i i fun _=>upL (aq (told hp) (qT P t q) q) i v m fun m=>k (Hp.rec (motive:=fun _=>Hp) (fun nb' bs' gs' ms' lo' oc'=>⟨nb',bs',gs',ms'.set m b,lo',oc'⟩) hp)) (hp.ms.get b) = r:=e
    show Sm (Option.rec (motive:=fun _=>Res) .fail (fun m=>q i i fun _=>upL q i v m fun m=>k (Hp.rec (motive:=fun _=>Hp) (fun nb' bs' gs' ms' lo' oc'=>⟨nb',bs',gs',ms'.set m b,lo',oc'⟩) hp)) (hp.ms.get b)) r
    cases hg:hp.ms.get b with
    | none=>rw [hg] at e; exact absurd e.symm hr.nf
    | some m=>
     rw [hg] at e
     exact QW.same h i i _ _ r hr (fun b hb=>upL_w (aq_w (told hp) (qT_w h) (.same h)) i v hr m _ _ (fun _ ha=>ha) hb) (.eq e)
  | _=>exact absurd e.symm hr.nf
theorem gb_one (hp:Hp) (b:Nat):(∀ K,gb hp b K = .fail)∨∃ B,∀ K,gb hp b K = K B:=by
 unfold gb
 cases hp.bs.get b with
 | none=>exact .inl fun _=>rfl
 | some B=>
  cases hf:B.fr with
  | false=>exact .inr ⟨B,fun K=>by show ifB B.fr _ _ = _; rw [hf]; rfl⟩
  | true=>
   cases hb:Nat.ble (hp.grp B.g).2 b with
   | false=>exact .inl fun K=>by show ifB B.fr (ifB (Nat.ble (hp.grp B.g).2 b) _ _) _ = _; rw [hf,hb]; rfl
   | true=>exact .inr ⟨B,fun K=>by show ifB B.fr (ifB (Nat.ble (hp.grp B.g).2 b) _ _) _ = _; rw [hf,hb]; rfl⟩
theorem cK_one (v:AV):(∀ k,cK v k = .fail)∨∀ k,cK v k = k v:=by
 cases v <;> first
  | exact .inl fun _=>rfl
  | exact .inr fun _=>rfl
theorem rds_one (B:Blk):∀ n o,(∀ k,rds B n o k = .fail)∨∃ l,∀ k,rds B n o k = k l:=by
 intro n
 induction n with
 | zero=>intro o; exact .inr ⟨.nil,fun _=>rfl⟩
 | succ n ih=>
  intro o
  have e:∀ k,rds B (n + 1) o k = cK (B.at o) fun v=>rds B n (Nat.succ o) fun t=>k (.cons v t):=fun _=>rfl
  rcases cK_one (B.at o) with h1 | h1
  ·exact .inl fun k=>by rw [e,h1]
  ·rcases ih (Nat.succ o) with h2 | ⟨l,h2⟩
   ·exact .inl fun k=>by rw [e,h1,h2]
   ·exact .inr ⟨.cons (B.at o) l,fun k=>by rw [e,h1,h2]⟩
theorem src_w {hp:Hp} {z:Nat} {y:AV} {k' k:Nat→AV→Res} (hr:Fine r) (hk:∀ n l,Sm (k' n l) r→Sm (k n l) r) (e:Sm (src hp z y k') r):Sm (src hp z y k) r:=by
 cases y with
 | str n x=>
  have e:Sm (ifB (Nat.beq z 1) (k' n (bytesL n x)) .fail) r:=e
  show Sm (ifB (Nat.beq z 1) (k n (bytesL n x)) .fail) r
  cases h:Nat.beq z 1 with
  | false=>rw [h] at e; exact absurd rfl (e.nf hr)
  | true=>rw [h] at e; exact hk _ _ e
 | nils=>exact hk _ _ e
 | esl=>exact hk _ _ e
 | sl b o n z' c=>
  have e:Sm (ifB (Nat.beq z z') (gb hp b fun B=>rds B (Nat.mul n z) o fun l=>k' n l) .fail) r:=e
  show Sm (ifB (Nat.beq z z') (gb hp b fun B=>rds B (Nat.mul n z) o fun l=>k n l) .fail) r
  cases h:Nat.beq z z' with
  | false=>rw [h] at e; exact absurd rfl (e.nf hr)
  | true=>
   rw [h] at e
   have e:Sm (gb hp b fun B=>rds B (Nat.mul n z) o fun l=>k' n l) r:=e
   show Sm (gb hp b fun B=>rds B (Nat.mul n z) o fun l=>k n l) r
   rcases gb_one hp b with h1 | ⟨B,hg⟩
   ·exact absurd (h1 _) (e.nf hr)
   rw [hg] at e ⊢
   rcases rds_one B (Nat.mul n z) o with h1 | ⟨l,h1⟩
   ·exact absurd (h1 _) (e.nf hr)
   ·rw [h1] at e ⊢; exact hk _ _ e
 | _=>exact absurd rfl (e.nf hr)
theorem candL_inv {B:Blk} (hr:Fine r):∀ (O:AV) (k:List (Nat×Int)→Res),Sm (candL B O k) r→∃ L:List (Nat×Int),(∀ p∈L,B.at p.1 = .int 63 p.2)∧Sm (k L) r:=by
 intro O
 induction O with
 | nil=>intro k e; exact ⟨[],(fun p h=>by cases h),e⟩
 | cons v t _ iht=>
  intro k e
  have e:Sm (cI v fun _ j=>Int.rec (motive:=fun _=>Res) (fun o=>cI (B.at o) fun c x=>ifB (Nat.beq c 63) (candL B t fun l=>k ((o,x) :: l)) .fail) (fun _=>.fail) j) r:=e
  obtain ⟨c0,j,rfl,h1⟩:=cI_inv rfl (e.nf hr)
  replace e:=Sm.of h1 e
  obtain ⟨o,rfl,h2⟩:=natC_inv rfl (e.nf hr)
  replace e:=Sm.of h2 e
  obtain ⟨c,x,hx,h3⟩:=cI_inv rfl (e.nf hr)
  replace e:=Sm.of h3 e
  obtain ⟨h4,h5⟩:=ifF_inv rfl (e.nf hr)
  replace e:=Sm.of h5 e
  rw [beq_iff] at h4
  subst h4
  obtain ⟨L,g1,g2⟩:=iht _ e
  exact ⟨(o,x) :: L,fun p hp=>(by rcases List.mem_cons.1 hp with rfl | hp; exact hx; exact g1 p hp),g2⟩
 | _=>intro k e; exact absurd rfl (e.nf hr)
theorem sel_mem {B:Blk} {o:Nat}:∀ {L:List (Nat×Int)},(∀ p∈L,B.at p.1 = .int 63 p.2)→memO o L = true→B.at o = .int 63 (selI o L):=by
 intro L
 induction L with
 | nil=>intro _ h; cases h
 | cons p L ih=>
  intro hp h
  have h:Bool.rec (motive:=fun _=>Bool) (memO o L) true (Nat.beq o p.1) = true:=h
  show B.at o = .int 63 (Bool.rec (motive:=fun _=>Int) (selI o L) p.2 (Nat.beq o p.1))
  cases hb:Nat.beq o p.1 with
  | true=>
   rw [beq_iff] at hb
   rw [hb]
   exact hp p List.mem_cons_self
  | false=>
   rw [hb] at h
   exact ih (fun q hq=>hp q (List.mem_cons_of_mem _ hq)) h
theorem gb_eq {hp:Hp} {b:Nat} {B:Blk} {k:Blk→Res} (hb:hp.bs.get b = some B) (hrd:readable hp b B):gb hp b k = k B:=by
 unfold gb
 rw [hb]
 show ifB B.fr (ifB (Nat.ble (hp.grp B.g).2 b) (k B) .fail) (k B) = _
 cases hf:B.fr with
 | false=>rfl
 | true=>rw [(ble_iff _ _).2 (hrd hf)]; rfl
theorem ldX_sm {hp:Hp} {k:AV→Res} (e:Sm (ldX hp x k) r) (hr:Fine r):Sm (ld1 hp x k) r:=by
 unfold ldX at e
 cases hc:isCons (told1 hp) with
 | false=>rw [hc] at e; exact e
 | true=>
 rw [hc] at e
 obtain ⟨b,o,rfl,h1⟩:=cP_inv rfl (e.nf hr)
 replace e:=Sm.of h1 e
 obtain ⟨B,hb,hrd,h2⟩:=gb_inv rfl (e.nf hr)
 replace e:=Sm.of h2 e
 obtain ⟨L,g1,g2⟩:=candL_inv hr _ _ e
 obtain ⟨g3,g4⟩:=ask_inv g2 hr
 have g5:=sel_mem g1 g3
 have:ld1 hp (.ptr b o) k = k (.int 63 (selI o L)):=by
  show gb hp b (fun B=>cK (B.at o) k) = _
  rw [gb_eq hb hrd,g5]; rfl
 rw [this]
 exact g4
theorem ixX_sm {z:Nat} {y:AV} {k:AV→Res} (e:Sm (ixX z x y k) r) (hr:Fine r):Sm (ixA z x y k) r:=by
 obtain ⟨b,o,n,z',c,rfl,h1⟩:=cL_inv rfl (e.nf hr)
 replace e:=Sm.of h1 e
 obtain ⟨cc,j,rfl,h2⟩:=cI_inv rfl (e.nf hr)
 replace e:=Sm.of h2 e
 obtain ⟨m,rfl,h3⟩:=natC_inv rfl (e.nf hr)
 replace e:=Sm.of h3 e
 obtain ⟨h4,h5⟩:=ask_inv e hr
 show Sm (ifB (Nat.blt m n) (ifB (Nat.beq z z') (k (.ptr b (Nat.add o (Nat.mul m z)))) .fail) .fail) r
 rw [h4]
 exact h5
theorem dConvT_sm {hp:Hp} {m:Bool} {s d:TypeId} {k:AV→Hp→Res} (e:dConvT m P s d x hp k = r) (hr:Fine r):Sm (dConv2 P s d x hp k) r∨(∃ u,P.underlying s = some (.slice u)∧P.underlying d = some .string∧P.underlying u = some (.int .u8)∧Sm (b2sS hp x fun v=>k v hp) r):=by
 cases m with
 | false=>exact .inl (.eq e)
 | true=>
  unfold dConvT at e
  simp only at e
  split at e
  ·rename_i u hs hd
   split at e
   ·rename_i hu
    rcases ifB_inv e with ⟨-,e⟩ | ⟨-,e⟩
    ·exact .inr ⟨u,hs,hd,hu,.eq e⟩
    ·have e2:dConv2 P s d x hp k = b2s hp x fun v=>k v hp:=by unfold dConv2 dConv; rw [hs,hd]; simp only; rw [hu]
     rw [e2]
     have h:Sm (b2sN hp x fun v=>k v hp) r:=.eq e
     have hg:∀ (_:Sm (src hp 1 x fun n l=>packN l fun p=>k (.str n p) hp) r),Sm (src hp 1 x fun n l=>packL l fun p=>k (.str n p) hp) r:=
      src_w hr fun n l=>packN_sm hr l _
     left
     cases x with
     | nils=>exact hg h
     | esl=>exact hg h
     | sl b o n z c=>exact hg h
     | _=>exact absurd rfl (h.nf hr)
   ·exact absurd e.symm hr.nf
  ·exact .inl (.eq e)
theorem bytes_eq:∀ (n X Y:Nat),X < 256 ^ n→Y < 256 ^ n→(∀ j,j < n→byteAt X j = byteAt Y j)→X = Y:=by
 intro n
 induction n with
 | zero=>intro X Y hX hY _; rw [Nat.pow_zero] at hX hY; omega
 | succ n ih=>
  intro X Y hX hY h
  have h0:=h 0 (by omega)
  rw [byteAt_div,byteAt_div,Nat.pow_zero,Nat.div_one,Nat.div_one] at h0
  have h1:=ih (X / 256) (Y / 256) (by rw [Nat.div_lt_iff_lt_mul (by decide),← Nat.pow_succ]; exact hX) (by rw [Nat.div_lt_iff_lt_mul (by decide),← Nat.pow_succ]; exact hY) fun j hj=>by
   have:=h (j + 1) (by omega)
   rw [byteAt_div,byteAt_div,Nat.pow_succ,Nat.mul_comm,← Nat.div_div_eq_div_mul,← Nat.div_div_eq_div_mul] at this
   rw [byteAt_div,byteAt_div]; exact this
  omega
theorem b2sS_ok {N0:Base} {ρ:Rho} {h:Hp} {w:World} {X:Value} {s d u:TypeId} {k:AV→Res} (hi:Inv N0 ρ h w) (hs:P.underlying s = some (.slice u)) (hd:P.underlying d = some .string) (hu:P.underlying u = some (.int .u8))
  (e:Sm (b2sS h x k) r) (hr:Fine r) (hx:VR ρ x X):∃ v V,Sm (k v) r∧VR ρ v V∧(convert s d X).run P w = .ok V w:=by
 obtain ⟨b,o,n,z,c,rfl,h7⟩:=cL_inv rfl (e.nf hr)
 replace h7:=Sm.of h7 e
 obtain ⟨hz,h8⟩:=ifF_inv rfl (h7.nf hr)
 replace h7:=Sm.of h8 h7
 obtain ⟨ho,h8⟩:=ifF_inv rfl (h7.nf hr)
 replace h7:=Sm.of h8 h7
 rw [beq_iff] at hz ho
 subst hz ho
 obtain ⟨B,hb,hrd,h8⟩:=gb_inv rfl (h7.nf hr)
 replace h7:=Sm.of h8 h7
 obtain ⟨a0,X0,hdf,h8⟩:=cS_inv rfl (h7.nf hr)
 replace h7:=Sm.of h8 h7
 obtain ⟨hcs,h8⟩:=ifF_inv rfl (h7.nf hr)
 replace h7:=Sm.of h8 h7
 obtain ⟨hlim,h7⟩:=ask_inv h7 hr
 obtain ⟨hX,h7⟩:=ask_inv h7 hr
 rw [ble_iff] at hlim
 rw [blt_iff] at hX
 have hX:X0 < 256 ^ n:=hX
 have hcs:B.cs = .e:=by
  revert hcs
  cases B.cs with
  | e=>intro _; rfl
  | n=>intro h; exact Bool.noConfusion h
 obtain ⟨p,c2,hp,rfl,-⟩:=hx
 obtain ⟨p0,hp0,hB⟩:=hi.blk b B hb
 obtain rfl:p = p0:=by rw [hp] at hp0; exact Option.some.inj hp0
 obtain ⟨cs,et,fz,q1,q2,q3,q4⟩:=hB.obj
 have hget:∀ j,j < n→cs[p.base + 0 + j]? = some (.int .u8 (byteAt X0 j:Int)):=by
  intro j hj
  obtain ⟨V,hV,hvr⟩:=q4 hrd j (by omega)
  rw [at_eq,if_pos (by omega),hcs,hdf] at hvr
  have hmz:j % len (.str a0 X0) = j:=Nat.mod_zero j
  have hvr:VR ρ (nth (.str a0 X0) (j % len (.str a0 X0))) V:=hvr
  rw [hmz] at hvr
  obtain ⟨kd,hk,rfl⟩:=hvr
  obtain rfl:kd = .u8:=cOf_k hk rfl
  exact hV
 have hl:(loadCells ⟨p.r,p.base + 0,none⟩ n).run P w = .ok ((List.range n).map fun j=>Value.int .u8 (byteAt X0 j:Int)).toArray w:=by
  have:=run_firstCells_some (P:=P) w 1 n ⟨p.r,p.base + 0,none⟩ n c2 ((List.range n).map fun j=>Value.int .u8 (byteAt X0 j:Int)) (by simp) (fun j v hv=>by
   have hj:=(List.getElem?_eq_some_iff.1 hv).1
   simp at hj
   rw [addr_add,cell_of_row w p.r _ cs et fz q1,hget j hj]
   rw [List.getElem?_map,List.getElem?_range hj] at hv
   exact hv)
  simpa [Builtin.firstCells] using this
 have hbt:∀ j,byteAt X0 j < 256:=fun j=>Nat.mod_lt _ (by decide)
 have hof:∀ m,m < 256→(UInt8.ofNat m).toNat = m:=fun m hm=>by simp; omega
 generalize hbs:(List.range n).map (fun j=>UInt8.ofNat (byteAt X0 j)) = bs
 have hbl:bs.length = n:=by rw [← hbs]; simp
 have hmap:(List.range n).map (fun j=>Value.int .u8 (byteAt X0 j:Int)) = (bs.map fun b=>(b.toNat:Int)).map (Value.int .u8):=by
  rw [← hbs,List.map_map,List.map_map]
  apply List.map_congr_left
  intro j _
  show _ = Value.int .u8 (((UInt8.ofNat (byteAt X0 j)).toNat:Nat):Int)
  rw [hof _ (hbt j)]
 have hpk:packB bs = X0:=by
  refine bytes_eq n _ _ (by rw [← hbl]; exact packB_lt bs) hX fun j hj=>?_
  rw [byteAt_eq bs j (by omega)]
  simp only [← hbs,List.getElem_map,List.getElem_range]
  exact hof _ (hbt j)
 rw [hmap] at hl
 have hconv:(convert s d (.slice (some ⟨p.r,p.base + 0,none⟩) n c2)).run P w = (Conv.bytesToString (.slice (some ⟨p.r,p.base + 0,none⟩) n c2)).run P w:=by
  unfold convert
  rw [Sem.run_bind,run_und hs]
  simp only [Result.andThen_ok]
  rw [Sem.run_bind,run_und hd]
  simp only [Result.andThen_ok]
  rw [Sem.run_bind,run_und hu]
  rfl
 have hV:((bs.map fun b=>(b.toNat:Int)).foldl (fun r n=>r.push (UInt8.ofNat n.toNat)) ByteArray.empty).data.toList = bs:=by rw [push_bytes]; rfl
 refine ⟨_,_,h7,⟨(bs.map fun b=>(b.toNat:Int)).foldl (fun r n=>r.push (UInt8.ofNat n.toNat)) ByteArray.empty,rfl,by rw [← Array.length_toList,hV]; exact hbl,by rw [hV]; exact hpk⟩,?_⟩
 rw [hconv,run_bytesToString w _ _ c2 _ hl]
theorem dConvT_eq {hp:Hp} {m:Bool} {s d:TypeId} {k:AV→Hp→Res} (hs:∀ u,P.underlying s ≠ some (.slice u)) (e:dConvT m P s d x hp k = r):dConv2 P s d x hp k = r:=by
 cases m with
 | false=>exact e
 | true=>
  unfold dConvT at e
  simp only at e
  split at e
  ·rename_i u h1 h2; exact absurd h1 (hs u)
  ·exact e
end
end Go.AM
namespace Go.AM
open Go
set_option autoImplicit false
def ERel (ρ:Rho) (env:Env) (a:Act):Prop:=∀ t,VR ρ (env t) (a.tmps.getD t undef)
theorem cl_inv {q r:Res} {k:AV→Hp→Res} (e:Sm (cl q k) r) (hr:Fine r):∃ v h,now q = .ret v h∧Sm (k v h) r:=by
 induction q with
 | ret v h=>exact ⟨v,h,rfl,e⟩
 | ask p q ih=>
  have e:now (.ask p (cl q k)) = now r:=e
  obtain ⟨rfl,h2⟩:=now_ask (by rw [e]; exact hr.ok)
  exact ih (h2.symm.trans e)
 | _=>exact absurd rfl (e.nf hr)
def FSound (P:Program) (f:FuncId) (g:Fun):Prop:=
 ∀ (N0:Base),N0.fits P→∀ (ρ:Rho) (h:Hp) (w:World) (args:List AV) (Args:Array Value) (v:AV) (h':Hp),now (g args h) = .ret v h'→Inv N0 ρ h w→F2 (VR ρ) args Args.toList →
  Calls P f Args w fun e w'=>∃ V ρ',e = .returned V∧Out N0 ρ h w v h' V w' ρ'
def Enters (P:Program) (f:FuncId):Prop:=∀ args w,(callFunc f args).run P w = .ok (.enter f args) w
def ESound (P:Program) (f:FuncId) (g:Fun):Prop:=
 ∀ (N0:Base),N0.fits P→∀ (ρ:Rho) (h:Hp) (w:World) (args:List AV) (Args:Array Value) (v:AV) (h':Hp),now (g args h) = .ret v h'→Inv N0 ρ h w→F2 (VR ρ) args Args.toList →
  ∃ V w' ρ',(callFunc f Args).run P w = .ok (.value V) w'∧Out N0 ρ h w v h' V w' ρ'
def GSound (P:Program) (γ:FuncId→Option Fun):Prop:=∀ f g,γ f = some g→(FSound P f g∧Enters P f)∨ESound P f g
section
variable {P:Program} {N0:Base} {ρ:Rho} {h:Hp} {w:World} {x y:AV} {X Y:Value} {r:Res} {env:Env} {a:Act}
theorem ev_rel (he:ERel ρ env a) (o:Operand):VR ρ (ev env o) (a.eval o):=by
 cases o with
 | tmp t=>exact he t
 | const v=>exact ofV_rel v
 | global g=>exact trivial
 | func f=>exact ⟨#[],#[],rfl,rfl,rfl⟩
theorem or_rel (he:ERel ρ env a) (o:Option Operand):OR ρ (o.map (ev env)) (o.map a.eval):=by
 cases o with
 | none=>exact .inl ⟨rfl,rfl⟩
 | some o=>exact .inr ⟨_,_,rfl,rfl,ev_rel he o⟩
theorem lowered_rel (he:ERel ρ env a) (ps:List (Nat×Operand)):PRel ρ (lowered env ps) (ps.map fun p=>(p.1,a.eval p.2)):=by
 induction ps with
 | nil=>exact .nil
 | cons p ps ih=>exact .cons ⟨rfl,ev_rel he p.2⟩ ih
theorem F2_map (he:ERel ρ env a) (l:List Operand):F2 (VR ρ) (l.map (ev env)) (l.map a.eval):=by
 induction l with
 | nil=>exact .nil
 | cons x l ih=>exact .cons (ev_rel he x) ih
def Op1 (P:Program) (N0:Base) (ρ:Rho) (h:Hp) (w:World) (o:Oper) (a:Act) (k:AV→Hp→Res) (r:Res):Prop:=
 ∃ v h',Sm (k v h') r∧∀ (next:Act→World→Prop) (Q:Exit→Act→World→Prop),(∀ V w' ρ',Out N0 ρ h w v h' V w' ρ'→next (a.put o.dst V) w')→o.wp P a w next Q
theorem op_val {o:Oper} {k:AV→Hp→Res} {s:Sem Value} (ho:execOp a.eval o = (do pure (.value (← s)))) (hd:Does P N0 ρ h w s k r):Op1 P N0 ρ h w o a k r:=by
 obtain ⟨v,h',V,w',ρ',h1,h2,h3⟩:=hd
 refine ⟨v,h',.eq h1,fun next Q hn=>?_⟩
 unfold Oper.wp
 rw [ho,Sem.run_bind,h2]
 exact hn V w' ρ' h3
theorem op_pur {o:Oper} {k:AV→Hp→Res} {s:Sem Value} (hi:Inv N0 ρ h w) (ho:execOp a.eval o = (do pure (.value (← s)))) (hd:∃ v,k v h = r∧Pur P ρ s v):Op1 P N0 ρ h w o a k r:=
 op_val ho (Does.pur hi hd)
theorem op_purS {o:Oper} {k:AV→Hp→Res} {s:Sem Value} (hi:Inv N0 ρ h w) (ho:execOp a.eval o = (do pure (.value (← s)))) (hd:∃ v,Sm (k v h) r∧Pur P ρ s v):Op1 P N0 ρ h w o a k r:=by
 obtain ⟨v,h1,h2⟩:=hd
 obtain ⟨v',h',g1,g2⟩:=op_pur (k:=k) (r:=k v h) hi ho ⟨v,rfl,h2⟩
 exact ⟨v',h',Eq.trans g1 h1,g2⟩
theorem op_unit {o:Oper} {k:AV→Hp→Res} {s:Sem Unit} (ho:execOp a.eval o = (do s; pure .skip)) (hd:∃ h' w',k (.tup .nil) h' = r∧s.run P w = .ok () w'∧Inv N0 ρ h' w'∧Tr ρ h w ρ h' w'):Op1 P N0 ρ h w o a k r:=by
 obtain ⟨h',w',h1,h2,h3,h4⟩:=hd
 refine ⟨_,h',.eq h1,fun next Q hn=>?_⟩
 unfold Oper.wp
 rw [ho,Sem.run_bind,h2]
 exact hn undef w' ρ ⟨⟨#[],rfl,rfl⟩,h3,h4⟩
theorem op_here {o:Oper} {k:AV→Hp→Res} {v:AV} {V:Value} (hi:Inv N0 ρ h w) (ho:(execOp a.eval o).run P w = .ok (.value V) w) (hv:VR ρ v V) (e:k v h = r):Op1 P N0 ρ h w o a k r:=
 ⟨v,h,.eq e,fun next Q hn=>by unfold Oper.wp; rw [ho]; exact hn V w ρ ⟨hv,hi,Tr.refl ρ h w⟩⟩
theorem F2.append {α β:Type} {Q:α→β→Prop} {a b:List α} {c d:List β} (h1:F2 Q a c) (h2:F2 Q b d):F2 Q (a ++ b) (c ++ d):=by
 induction h1 with
 | nil=>exact h2
 | cons hq _ ih=>exact .cons hq ih
theorem lst_F2 {vs:List AV} {Vs:List Value} (h:F2 (VR ρ) vs Vs):LR ρ (lst vs) Vs:=by
 induction h with
 | nil=>rfl
 | cons h1 _ ih=>exact ⟨_,_,rfl,h1,ih⟩
theorem mkf_rel (he:ERel ρ env a) (f:Fn) (l m:Array Operand):VR ρ (.fn f (lst (l.toList.map (ev env))) (lst (m.toList.map (ev env)))) (.func f (l.map a.eval) (m.map a.eval)):=
 ⟨_,_,rfl,by rw [Array.toList_map]; exact lst_F2 (F2_map he _),by rw [Array.toList_map]; exact lst_F2 (F2_map he _)⟩
theorem unL_inv (hr:r ≠ .fail):∀ (l:AV) {k:List AV→Res},unL l k = r→∃ vs,k vs = r∧∀ L,LR ρ l L→F2 (VR ρ) vs L:=by
 intro l
 induction l with
 | nil=>intro k e; exact ⟨[],e,fun L hL=>by have hL:L = []:=hL; subst hL; exact .nil⟩
 | cons v t _ iht=>
  intro k e
  have e:unL t (fun t=>k (v :: t)) = r:=e
  obtain ⟨vs,h1,h2⟩:=iht e
  refine ⟨v :: vs,h1,fun L hL=>?_⟩
  obtain ⟨V,L',rfl,g1,g2⟩:=hL
  exact .cons g1 (h2 _ g2)
 | _=>intro k e; exact absurd e.symm hr
theorem dyn_inv {γ:FuncId→Option Fun} {v:AV} {V:Value} {args:List AV} (e:dyn γ v args h = r) (hr:r ≠ .fail) (hv:VR ρ v V):
  ∃ f g la lb LA LB,V = .func (.func f) LA LB∧γ f = some g∧F2 (VR ρ) la LA.toList∧F2 (VR ρ) lb LB.toList∧g (la ++ args ++ lb) h = r:=by
 obtain ⟨fn,a,b,rfl,h1⟩:=cFn_inv e hr
 obtain ⟨LA,LB,rfl,h2,h3⟩:=hv
 cases fn with
 | func f=>
  simp only at h1
  cases hg:γ f with
  | none=>rw [hg] at h1; exact absurd h1.symm hr
  | some g=>
   rw [hg] at h1
   simp only at h1
   obtain ⟨la,g1,g2⟩:=unL_inv (ρ:=ρ) hr a h1
   obtain ⟨lb,g3,g4⟩:=unL_inv (ρ:=ρ) hr b g1
   exact ⟨f,g,la,lb,LA,LB,rfl,hg,g2 _ h2,g4 _ h3,g3⟩
 | _=>exact absurd h1.symm hr
theorem dOp_sound {γ:FuncId→Option Fun} (hγ:GSound P γ∧N0.fits P) (o:Oper) {k:AV→Hp→Res} (hi:Inv N0 ρ h w) (he:ERel ρ env a) (e:dOp P γ env h o.op k = r) (hr:Fine r):Op1 P N0 ρ h w o a k r:=by
 generalize ho:o.op = op at e
 have hx:∀ v:Operand,VR ρ (ev env v) (a.eval v):=ev_rel he
 cases op with
 | move x=>exact op_here hi (by simp [execOp,ho]) (hx x) e
 | assign x=>exact op_here hi (by simp [execOp,ho]) (hx x) e
 | pick c x y=>
  obtain ⟨t,h1,h2⟩:=cB_inv e hr
  have h3:=hx c
  rw [h1] at h3
  have h3:a.eval c = .bool t:=h3
  refine op_here hi (V:=if t then a.eval x else a.eval y) (by simp [execOp,ho,h3,asBool]) ?_ h2
  cases t
  ·exact hx y
  ·exact hx x
 | alloc t=>exact op_val (by simp only [execOp,ho]) (alloc_ok hi e hr)
 | box t x=>exact op_val (by simp only [execOp,ho]) (box_ok (t:=t) hi e hr (hx x))
 | build t ps=>exact op_pur hi (by simp only [execOp,ho]) (build_ok (ps:=lowered env ps.toList) (pv:=ps.map fun (i,x)=>(i,a.eval x)) (by rw [Array.toList_map]; exact lowered_rel he ps.toList) e hr)
 | buildSlice t n ps=>
  simp only [dOp] at e
  split at e
  ·rename_i u hu
   obtain ⟨h1,h2⟩:=sif_inv e hr
   exact op_val (by simp only [execOp,ho]) (buildSlice_ok (ps:=lowered env ps.toList) (pv:=ps.map fun (i,x)=>(i,a.eval x)) hi (by rw [Array.toList_map]; exact lowered_rel he ps.toList) hu h1 h2 hr)
  ·exact absurd e.symm hr.nf
 | load t x=>
  simp only [dOp] at e
  obtain ⟨h1,h2⟩:=sif_inv e hr
  split at h2
  ·rename_i ht
   exact op_val (by simp only [execOp,ho]) (Does.read hi (ldN_ok hi ht h1 h2 hr (hx x)))
  ·rename_i ht
   rcases ifB_inv h2 with ⟨-,h2⟩ | ⟨-,h2⟩
   ·have e1:=ldX_sm (.eq h2) hr
    obtain ⟨v,h',g3,g4⟩:=op_val (a:=a) (o:=o) (k:=k) (by simp only [execOp,ho]) (Does.read hi (ld1_ok hi ht h1 rfl (e1.nf hr) (hx x)))
    exact ⟨v,h',Eq.trans g3 e1,g4⟩
   ·exact op_val (by simp only [execOp,ho]) (Does.read hi (ld1_ok hi ht h1 h2 hr (hx x)))
 | store t x y=>
  simp only [dOp] at e
  obtain ⟨h1,h2⟩:=sif_inv e hr
  split at h2
  ·exact op_unit (by simp only [execOp,ho]) (stN_ok (k:=fun h=>k (.tup .nil) h) hi h1 h2 hr (hx x) (hx y))
  ·obtain ⟨h3,h4⟩:=sif_inv h2 hr
   rw [beq_iff] at h3
   exact op_unit (by simp only [execOp,ho]) (st1_ok (k:=fun h=>k (.tup .nil) h) hi h1 h3 h4 hr (hx x) (hx y))
 | nilCheck x=>
  obtain ⟨h1,h2⟩:=nck_ok (P:=P) o (kk:=k) ho rfl e hr (hx x)
  exact op_here hi (h2 w) (hx x) h1
 | binOp op t x y z=>
  have e:sif (flagT γ op) (binA (askM γ) P op t (ev env x) (ev env y) fun v=>tw h (slotO x y) v fun v=>k v h) (binC (askC γ op x y) (askM γ) P op t (ev env x) (ev env y) (fun v=>k v h)) = r:=e
  rcases ifB_inv e with ⟨-,e⟩ | ⟨-,e⟩
  ·exact op_purS hi (by simp only [execOp,ho]) (binT_pur x y e hr (hx x) (hx y))
  ·exact op_purS hi (by simp only [execOp,ho]) (binC_pur x y e hr (hx x) (hx y))
 | unOp op t x=>
  simp only [dOp] at e
  split at e
  ·exact op_pur hi (by simp only [execOp,ho]) (iNeg_pur e hr (hx x))
  ·exact op_pur hi (by simp only [execOp,ho]) (iNot_pur e hr (hx x))
  ·exact op_pur hi (by simp only [execOp,ho]) (bNot_pur e hr (hx x))
  ·exact absurd e.symm hr.nf
 | convert s d x=>
  rcases dConvT_sm e hr with e1 | ⟨u,hs,hd,hu,e1⟩
  ·obtain ⟨v,h',g3,g4⟩:=op_val (a:=a) (o:=o) (k:=k) (by simp only [execOp,ho]) (conv2_ok hi rfl (e1.nf hr) (hx x))
   exact ⟨v,h',Eq.trans g3 e1,g4⟩
  ·obtain ⟨v,V,k1,k2,k3⟩:=b2sS_ok hi hs hd hu e1 hr (hx x)
   obtain ⟨v',h',g3,g4⟩:=op_val (a:=a) (o:=o) (k:=k) (by simp only [execOp,ho]) (Does.here hi rfl k2 k3)
   exact ⟨v',h',Eq.trans g3 k1,g4⟩
 | range t x=>
  simp only [dOp] at e
  split at e
  ·rename_i hu
   exact op_val (by simp only [execOp,ho]) (rng_ok hi hu e hr (hx x))
  ·exact absurd e.symm hr.nf
 | next x s=>
  simp only [dOp] at e
  obtain ⟨hs,e2⟩:=sif_inv e hr
  subst hs
  exact op_val (by simp only [execOp,ho]) (nxt_ok (t:=o.type) hi e2 hr (hx x))
 | makeMap t rs=>
  cases rs with
  | none=>exact op_val (by simp only [execOp,ho,Option.map_none]) (mkMap_ok (t:=t) hi e)
  | some x=>exact absurd e.symm hr.nf
 | lookup t x i ok=>
  simp only [dOp] at e
  split at e
  ·rename_i kt et ht
   split at e
   ·rename_i q hq
    obtain ⟨d,hd,hk⟩:=keyQ_inv hq
    have e1:=lkpX_sm hq e hr
    obtain ⟨v,h',g3,g4⟩:=op_val (a:=a) (o:=o) (k:=k) (by simp only [execOp,ho]) (Does.read hi (lkp_ok (k:=fun v=>k v h) hi ht hd hk rfl (e1.nf hr) (hx x) (hx i)))
    exact ⟨v,h',Eq.trans g3 e1,g4⟩
   ·exact absurd e.symm hr.nf
  ·exact absurd e.symm hr.nf
 | mapUpdate t m x v=>
  simp only [dOp] at e
  split at e
  ·rename_i kt et ht
   split at e
   ·rename_i q hq
    obtain ⟨d,hd,hk⟩:=keyQ_inv hq
    have e1:=mupX_sm hq e hr
    obtain ⟨v',h',g3,g4⟩:=op_unit (a:=a) (o:=o) (k:=k) (by simp only [execOp,ho]) (mup_ok (k:=fun h=>k (.tup .nil) h) hi ht hd hk rfl (e1.nf hr) (hx m) (hx x) (hx v))
    exact ⟨v',h',Eq.trans g3 e1,g4⟩
   ·exact absurd e.symm hr.nf
  ·exact absurd e.symm hr.nf
 | insert t m x v=>
  simp only [dOp] at e
  split at e
  ·rename_i kt et ht
   split at e
   ·rename_i q hq
    obtain ⟨d,hd,hk⟩:=keyQ_inv hq
    have e1:=mupX_sm hq e hr
    obtain ⟨v',h',g3,g4⟩:=op_unit (a:=a) (o:=o) (k:=k) (by simp only [execOp,ho]) (mup_ok (k:=fun h=>k (.tup .nil) h) hi ht hd hk rfl (e1.nf hr) (hx m) (hx x) (hx v))
    exact ⟨v',h',Eq.trans g3 e1,g4⟩
   ·exact absurd e.symm hr.nf
  ·exact absurd e.symm hr.nf
 | makeFunc f l m=>exact op_here hi (V:=.func f (l.map a.eval) (m.map a.eval)) (by simp [execOp,ho,Instr.makeFunc]) (mkf_rel he f l m) e
 | makeInterface t x=>
  simp only [dOp] at e
  split at e
  ·exact absurd e.symm hr.nf
  ·exact absurd e.symm hr.nf
  ·rename_i h1 h2
   cases hu:P.underlying t with
   | none=>exact absurd hu h2
   | some d=>exact op_pur hi (by simp only [execOp,ho]) ⟨_,e,ifc_ok hu (fun ms hms=>h1 ms (by rw [hu,hms])) (hx x)⟩
 | makeSlice t l c=>
  simp only [dOp] at e
  split at e
  ·rename_i u hu
   obtain ⟨h1,h2⟩:=sif_inv e hr
   exact op_val (by simp only [execOp,ho]) (mkM_ok hi hu h1 h2 hr (hx l) (hx c))
  ·exact absurd e.symm hr.nf
 | slice t x lo hi' mx=>
  simp only [dOp] at e
  obtain ⟨h0,e⟩:=sif_inv e hr
  have h0':((mx.map (ev env)).isNone || (hi'.map (ev env)).isSome) = true:=by simpa using h0
  split at e
  ·rename_i hu
   split at e
   ·exact op_pur hi (by simp only [execOp,ho,Option.map_none]) (cutT_ok hu e hr (hx x) (or_rel he lo) (or_rel he hi'))
   ·exact absurd e.symm hr.nf
  ·rename_i u hu
   obtain ⟨h1,h2⟩:=sif_inv e hr
   exact op_pur hi (by simp only [execOp,ho]) (cutS_ok hu h1 h0' h2 hr (hx x) (or_rel he lo) (or_rel he hi') (or_rel he mx))
  ·rename_i n u hu
   obtain ⟨h1,h2⟩:=sif_inv e hr
   exact op_pur hi (by simp only [execOp,ho]) (cutP_ok hi hu h1 h0' h2 hr (hx x) (or_rel he lo) (or_rel he hi') (or_rel he mx))
  ·exact absurd e.symm hr.nf
 | fieldAddr t x f=>
  simp only [dOp] at e
  split at e
  ·rename_i fs hu
   split at e
   ·rename_i fd hf
    obtain ⟨h1,h2⟩:=sifT_inv e hr
    exact op_pur hi (by simp only [execOp,ho]) (fieldAddr_ok (k:=fun v=>k v h) hu hf (fun h0=>by rw [← beq_iff,h1] at h0; cases h0) h2 hr (hx x))
   ·exact absurd e.symm hr.nf
  ·exact absurd e.symm hr.nf
 | field t x f=>
  simp only [dOp] at e
  split at e
  ·rename_i fs hu
   split at e
   ·rename_i fd hf
    obtain ⟨h1,h2⟩:=sif_inv e hr
    exact op_pur hi (by simp only [execOp,ho]) (field_ok hu hf h1 h2 hr (hx x))
   ·exact absurd e.symm hr.nf
  ·exact absurd e.symm hr.nf
 | indexAddr t x i=>
  simp only [dOp] at e
  split at e
  ·rename_i u hu
   obtain ⟨h1,h2⟩:=sif_inv e hr
   rcases ifB_inv h2 with ⟨-,h2⟩ | ⟨-,h2⟩
   ·have e1:=ixX_sm (.eq h2) hr
    obtain ⟨v,h',g3,g4⟩:=op_pur (a:=a) (o:=o) (k:=k) hi (by simp only [execOp,ho]) (ixA_ok hu h1 rfl (e1.nf hr) (hx x) (hx i))
    exact ⟨v,h',Eq.trans g3 e1,g4⟩
   ·exact op_pur hi (by simp only [execOp,ho]) (ixA_ok hu h1 h2 hr (hx x) (hx i))
  ·rename_i n u hu
   obtain ⟨h1,h2⟩:=sif_inv e hr
   exact op_pur hi (by simp only [execOp,ho]) (ixP_ok hu h1 h2 hr (hx x) (hx i))
  ·exact absurd e.symm hr.nf
 | index t x i=>
  simp only [dOp] at e
  split at e
  ·rename_i hu
   exact op_pur hi (by simp only [execOp,ho]) (sIdx_pur hu e hr (hx x) (hx i))
  ·rename_i n u hu
   obtain ⟨h1,h2⟩:=sif_inv e hr
   exact op_pur hi (by simp only [execOp,ho]) (ixV_ok hu h1 h2 hr (hx x) (hx i))
  ·exact absurd e.symm hr.nf
 | extract x i=>exact op_pur hi (by simp only [execOp,ho]) (extract_ok (k:=fun v=>k v h) e hr (hx x))
 | call c=>
  simp only [dOp] at e
  split at e
  ·rename_i f hc
   split at e
   ·rename_i g hg
    obtain ⟨v,h',hres,e⟩:=cl_inv (.eq e) hr
    ·rcases hγ.1 f g hg with ⟨hs,hen⟩ | hes
     rotate_left
     ·obtain ⟨V,w',ρ',h1,h2⟩:=hes N0 hγ.2 ρ h w _ (c.args.map a.eval) v h' hres hi (by rw [Array.toList_map]; exact F2_map he _)
      refine ⟨v,h',e,fun next Q hn=>?_⟩
      unfold Oper.wp
      have hrun:(execOp a.eval o).run P w = .ok (.value V) w':=by
       simp only [execOp,ho,resolve,hc,Act.eval,Deferred.ofValue,pure_bind,invoke]
       simpa using h1
      rw [hrun]
      exact hn V w' ρ' h2
     refine ⟨v,h',e,fun next Q hn=>?_⟩
     have hcalls:=hs N0 hγ.2 ρ h w _ (c.args.map a.eval) v h' hres hi (by rw [Array.toList_map]; exact F2_map he _)
     unfold Oper.wp
     have hrun:(execOp a.eval o).run P w = .ok (.enter f (c.args.map a.eval)) w:=by
      simp only [execOp,ho,resolve,hc,Act.eval,Deferred.ofValue,pure_bind,invoke]
      have:=hen (#[] ++ c.args.map a.eval ++ #[]) w
      simpa using this
     rw [hrun,Oper.upon_enter]
     refine hcalls.mono fun e' w' ⟨V,ρ',he',hout⟩=>?_
     subst he'
     exact hn V w' ρ' hout
   ·exact absurd e.symm hr.nf
  ·rename_i x _ hc
   obtain ⟨v,h',hres,e⟩:=cl_inv (.eq e) hr
   ·refine ⟨v,h',e,fun next Q hn=>?_⟩
    obtain ⟨f,g,ca,cb,LA,LB,hX,hg,ha,hb,hg2⟩:=dyn_inv (ρ:=ρ) rfl (fun h0=>by rw [h0] at hres; cases hres) (hx x)
    rw [← hg2] at hres
    replace hg2:=hres
    have hF2:F2 (VR ρ) (ca ++ c.args.toList.map (ev env) ++ cb) (LA ++ c.args.map a.eval ++ LB).toList:=by
     rw [Array.toList_append,Array.toList_append,Array.toList_map]
     exact (ha.append (F2_map he _)).append hb
    rcases hγ.1 f g hg with ⟨hs,hen⟩ | hes
    rotate_left
    ·obtain ⟨V,w',ρ',h1,h2⟩:=hes N0 hγ.2 ρ h w _ (LA ++ c.args.map a.eval ++ LB) v h' hg2 hi hF2
     unfold Oper.wp
     have hrun:(execOp a.eval o).run P w = .ok (.value V) w':=by
      simp only [execOp,ho,resolve,hc,hX,Deferred.ofValue,pure_bind,invoke]
      simpa using h1
     rw [hrun]
     exact hn V w' ρ' h2
    have hcalls:=hs N0 hγ.2 ρ h w _ (LA ++ c.args.map a.eval ++ LB) v h' hg2 hi hF2
    unfold Oper.wp
    have hrun:(execOp a.eval o).run P w = .ok (.enter f (LA ++ c.args.map a.eval ++ LB)) w:=by
     simp only [execOp,ho,resolve,hc,hX,Deferred.ofValue,pure_bind,invoke]
     exact hen _ w
    rw [hrun,Oper.upon_enter]
    refine hcalls.mono fun e' w' ⟨V,ρ',he',hout⟩=>?_
    subst he'
    exact hn V w' ρ' hout
  ·rename_i hc
   split at e
   ·rename_i x y hxl
    have hargs:c.args = #[x,y]:=by apply Array.toList_inj.1; rw [hxl]
    have hex:execOp a.eval o = (do pure (.value (← Builtin.min_ c.argTypes o.type #[a.eval x,a.eval y]))):=by
     simp [execOp,ho,resolve,hc,hargs,invoke,builtin]
    exact op_pur hi hex (iMin_ok e hr (hx x) (hx y))
   ·exact absurd e.symm hr.nf
  ·rename_i hc
   split at e
   ·rename_i x y hxl
    have hargs:c.args = #[x,y]:=by apply Array.toList_inj.1; rw [hxl]
    have hex:execOp a.eval o = (do pure (.value (← Builtin.max_ c.argTypes o.type #[a.eval x,a.eval y]))):=by
     simp [execOp,ho,resolve,hc,hargs,invoke,builtin]
    exact op_pur hi hex (iMax_ok e hr (hx x) (hx y))
   ·exact absurd e.symm hr.nf
  ·rename_i hc
   split at e
   ·rename_i x t hxl htl
    have hargs:c.args = #[x]:=by apply Array.toList_inj.1; rw [hxl]
    have htys:c.argTypes = #[t]:=by apply Array.toList_inj.1; rw [htl]
    have hex:execOp a.eval o = (do pure (.value (← Builtin.len_ #[t] o.type #[a.eval x]))):=by
     simp [execOp,ho,resolve,hc,hargs,htys,invoke,builtin]
    split at e
    ·rename_i hu
     exact op_pur hi hex (lenS_ok hu e hr (hx x))
    ·rename_i u hu
     exact op_pur hi hex (lenL_ok hu e hr (hx x))
    ·rename_i kt et hu
     exact op_val hex (Does.read hi (lenM_ok (k:=fun v=>k v h) hi hu e hr (hx x)))
    ·exact absurd e.symm hr.nf
   ·exact absurd e.symm hr.nf
  ·rename_i hc
   split at e
   ·rename_i x y t u hxl htl
    have hargs:c.args = #[x,y]:=by apply Array.toList_inj.1; rw [hxl]
    have htys:c.argTypes = #[t,u]:=by apply Array.toList_inj.1; rw [htl]
    have hex:execOp a.eval o = (do pure (.value (← Builtin.append_ #[t,u] o.type #[a.eval x,a.eval y]))):=by
     simp [execOp,ho,resolve,hc,hargs,htys,invoke,builtin]
    split at e
    ·rename_i el _ hu1 hu2
     obtain ⟨h1,h2⟩:=sif_inv e hr
     simp only [Bool.and_eq_true,beq_iff] at h1
     rcases ifB_inv h2 with ⟨-,h2⟩ | ⟨-,h2⟩
     ·obtain ⟨r',g1,g2⟩:=apdM_ok hi ⟨hu1,hu2,(by intro k h; cases h),h1.1,h1.2.1,h1.2.2⟩ h2 hr (hx x) (hx y)
      obtain ⟨v,h',g3,g4⟩:=op_val (a:=a) (r:=r') hex g1
      exact ⟨v,h',Eq.trans g3 g2,g4⟩
     ·exact op_val hex (apd_ok (d:=_) hi ⟨hu1,hu2,(by intro k h; cases h),h1.1,h1.2.1,h1.2.2⟩ h2 hr (hx x) (hx y))
    ·rename_i el hu1 hu2
     obtain ⟨h1,h2⟩:=sif_inv e hr
     simp only [Bool.and_eq_true,beq_iff] at h1
     exact op_val hex (apd_ok (d:=_) hi ⟨hu1,hu2,(by intro k h; cases h),h1.1,h1.2.1,h1.2.2⟩ h2 hr (hx x) (hx y))
    ·rename_i el _ hu1 hu2
     obtain ⟨h1,h2⟩:=sif_inv e hr
     simp only [Bool.and_eq_true,beq_iff] at h1
     rcases ifB_inv h2 with ⟨-,h2⟩ | ⟨-,h2⟩
     ·obtain ⟨r',g1,g2⟩:=apdZN_ok hi ⟨h1.1,h1.2.1,h1.2.2⟩ hu1 hu2 h2 hr (hx x) (hx y)
      obtain ⟨v,h',g3,g4⟩:=op_val (a:=a) (r:=r') hex g1
      exact ⟨v,h',Eq.trans g3 g2,g4⟩
     ·exact op_val hex (apdZ_ok hi ⟨h1.1,h1.2.1,h1.2.2⟩ hu1 hu2 h2 hr (hx x) (hx y))
    ·exact absurd e.symm hr.nf
   ·exact absurd e.symm hr.nf
  ·rename_i hc
   split at e
   ·rename_i x y t u hxl htl
    have hargs:c.args = #[x,y]:=by apply Array.toList_inj.1; rw [hxl]
    have htys:c.argTypes = #[t,u]:=by apply Array.toList_inj.1; rw [htl]
    have hex:execOp a.eval o = (do pure (.value (← Builtin.delete_ #[t,u] o.type #[a.eval x,a.eval y]))):=by
     simp [execOp,ho,resolve,hc,hargs,htys,invoke,builtin]
    split at e
    ·rename_i kt et ht
     split at e
     ·rename_i q hq
      obtain ⟨d,hd,hk⟩:=keyQ_inv hq
      exact op_val hex (mdl_ok (k:=fun h=>k (.tup .nil) h) hi ht hd hk e hr (hx x) (hx y) (fun _=>rfl))
     ·exact absurd e.symm hr.nf
    ·exact absurd e.symm hr.nf
   ·exact absurd e.symm hr.nf
  ·rename_i hc
   split at e
   ·rename_i x t hxl htl
    have hargs:c.args = #[x]:=by apply Array.toList_inj.1; rw [hxl]
    have htys:c.argTypes = #[t]:=by apply Array.toList_inj.1; rw [htl]
    have hex:execOp a.eval o = (do pure (.value (← Builtin.clear_ #[t] o.type #[a.eval x]))):=by
     simp [execOp,ho,resolve,hc,hargs,htys,invoke,builtin]
    split at e
    ·rename_i el hu
     obtain ⟨h1,h2⟩:=sif_inv e hr
     simp only [Bool.and_eq_true,beq_iff] at h1
     exact op_val hex (clr_ok hi ⟨h1.1,h1.2.1,h1.2.2⟩ hu h2 hr (hx x))
    ·exact absurd e.symm hr.nf
   ·exact absurd e.symm hr.nf
  ·rename_i hc
   split at e
   ·rename_i x y t u hxl htl
    have hargs:c.args = #[x,y]:=by apply Array.toList_inj.1; rw [hxl]
    have htys:c.argTypes = #[t,u]:=by apply Array.toList_inj.1; rw [htl]
    have hex:execOp a.eval o = (do pure (.value (← Builtin.copy_ #[t,u] o.type #[a.eval x,a.eval y]))):=by
     simp [execOp,ho,resolve,hc,hargs,htys,invoke,builtin]
    split at e
    ·rename_i el hu
     obtain ⟨h1,h2⟩:=sif_inv e hr
     exact op_val hex (cpy_ok hi hu h1 h2 hr (hx x) (hx y))
    ·exact absurd e.symm hr.nf
   ·exact absurd e.symm hr.nf
  ·exact absurd e.symm hr.nf
 | _=>exact absurd e.symm hr.nf
end
end Go.AM
namespace Go.AM
open Go
set_option autoImplicit false
structure St (N0:Base) (n:Nat) (ρ0:Rho) (h0:Hp) (w0:World) (ρ:Rho) (h:Hp) (w:World) (env:Env) (a:Act):Prop where
 inv:Inv N0 ρ h w
 tr:Tr ρ0 h0 w0 ρ h w
 er:ERel ρ env a
 sz:n≤a.tmps.size
 df:a.defers = []
section
variable {P:Program} {N0:Base} {n:Nat} {ρ0 ρ:Rho} {h0 h:Hp} {w0 w:World} {r:Res} {env:Env} {a:Act}
theorem ERel.ext {ρ':Rho} (he:ERel ρ env a) (hx:Ext ρ ρ'):ERel ρ' env a:=fun t=>(he t).ext hx
theorem put_tmps (d:Nat) (V:Value) (hd:d < a.tmps.size) (t:Nat):(a.put (some d) V).tmps.getD t undef = if t = d then V else a.tmps.getD t undef:=by
 simp only [Act.put,Array.getD_eq_getD_getElem?,Array.getElem?_setIfInBounds]
 by_cases h:t = d
 ·subst h; simp [hd]
 ·rw [if_neg (fun e=>h e.symm),if_neg h]
theorem put_st {d:Option Nat} {v:AV} {V:Value} {k:Env→Res} (e:Sm (put n d v env k) r) (hr:Fine r) (hs:St N0 n ρ0 h0 w0 ρ h w env a) (hv:VR ρ v V):
  ∃ env',Sm (k env') r∧St N0 n ρ0 h0 w0 ρ h w env' (a.put d V):=by
 cases d with
 | none=>exact ⟨env,e,hs⟩
 | some d=>
  obtain ⟨h1,h2⟩:=sif_inv rfl (e.nf hr)
  rw [blt_iff] at h1
  refine ⟨_,.of h2 e,hs.inv,hs.tr,fun t=>?_,by simpa [Act.put] using hs.sz,hs.df⟩
  have hd:d < a.tmps.size:=Nat.lt_of_lt_of_le h1 hs.sz
  rw [put_tmps d V hd]
  have hu:upd env d v t = Bool.rec (motive:=fun _=>AV) (env t) v (Nat.beq t d):=rfl
  rw [hu,recB]
  simp only [beq_iff]
  by_cases ht:t = d
  ·rw [if_pos ht,if_pos ht]; exact hv
  ·rw [if_neg ht,if_neg ht]; exact hs.er t
theorem St.next {ρ':Rho} {h':Hp} {w':World} {v:AV} {V:Value} (hs:St N0 n ρ0 h0 w0 ρ h w env a) (ho:Out N0 ρ h w v h' V w' ρ'):St N0 n ρ0 h0 w0 ρ' h' w' env a:=
 ⟨ho.inv,hs.tr.trans ho.tr,hs.er.ext ho.tr.ext,hs.sz,hs.df⟩
theorem jn_inv {r1:Res} {k:List AV→Hp→Res} (e:Sm (jn r1 k) r) (hr:Fine r):Fine r1∧((∃ vs h,now r1 = .norm vs h∧Sm (k vs h) r)∨(∃ i vs h,now r1 = .exit i vs h∧now r = .exit i vs h)∨(∃ v h,now r1 = .ret v h∧now r = .ret v h)):=by
 induction r1 with
 | fail=>exact absurd rfl (e.nf hr)
 | norm vs h=>exact ⟨by simp,.inl ⟨vs,h,rfl,e⟩⟩
 | exit i vs h=>exact ⟨by simp,.inr (.inl ⟨i,vs,h,rfl,e.symm⟩)⟩
 | ret v h=>exact ⟨by simp,.inr (.inr ⟨v,h,rfl,e.symm⟩)⟩
 | ask p q ih=>
  have e:now (.ask p (jn q k)) = now r:=e
  obtain ⟨rfl,h2⟩:=now_ask (by rw [e]; exact hr.ok)
  obtain ⟨h3,h4⟩:=ih (h2.symm.trans e)
  exact ⟨⟨h3.ok⟩,h4⟩
theorem yield_of {ops:Array Oper} {j t:Nat} (ht:(ops.toList[j]?).bind (·.dst) = some t):yielded ops a.tmps j = match a.tmps[t]? with | some (.bool b)=>some b | _=>none:=by
 unfold yielded
 rw [← Array.getElem?_toList,ht]
 rfl
theorem yield_bool {ops:Array Oper} {j t:Nat} {b:Bool} (ht:(ops.toList[j]?).bind (·.dst) = some t) (he:ERel ρ env a) (hb:env t = .bool b):yielded ops a.tmps j = some b:=by
 have h1:=he t
 rw [hb] at h1
 have h1:a.tmps.getD t undef = .bool b:=h1
 rw [yield_of ht]
 rw [Array.getD_eq_getD_getElem?] at h1
 cases hq:a.tmps[t]? with
 | none=>rw [hq] at h1; cases h1
 | some v=>rw [hq] at h1; have h1:v = .bool b:=h1; subst h1; rfl
theorem yield_tup {ops:Array Oper} {j t:Nat} {v:AV} (ht:(ops.toList[j]?).bind (·.dst) = some t) (he:ERel ρ env a) (hb:env t = .tup v):yielded ops a.tmps j = none:=by
 have h1:=he t
 rw [hb] at h1
 obtain ⟨l,h1,-⟩:=h1
 rw [yield_of ht]
 rw [Array.getD_eq_getD_getElem?] at h1
 cases hq:a.tmps[t]? with
 | none=>rfl
 | some v=>rw [hq] at h1; have h1:v = .tuple l:=h1; subst h1; rfl
theorem gsel_rel {ops:Array Oper} {j t:Nat} {want:Bool} {x:AV} {X:Value} (ht:(ops.toList[j]?).bind (·.dst) = some t) (he:ERel ρ env a) (hx:VR ρ x X):
  VR ρ (gsel (env t) want x) (if yielded ops a.tmps j == some want then X else undef):=by
 cases hg:env t with
 | bool b=>
  rw [yield_bool ht he hg]
  have e:gsel (.bool b) want x = sel (beqB b want) x (.tup .nil):=rfl
  rw [e]
  cases b <;> cases want <;> first
   | exact hx
   | exact ⟨#[],rfl,rfl⟩
 | tup v=>
  rw [yield_tup ht he hg]
  exact ⟨#[],rfl,rfl⟩
 | _=>exact trivial
theorem gd_inv {ops:Array Oper} {j t:Nat} {want:Bool} {x y:Res} (ht:(ops.toList[j]?).bind (·.dst) = some t) (he:ERel ρ env a) (e:Sm (gd (env t) want x y) r) (hr:Fine r):
  (yielded ops a.tmps j = some want∧Sm x r)∨((yielded ops a.tmps j == some want) = false∧Sm y r):=by
 cases hg:env t with
 | bool b=>
  rw [hg] at e
  rw [yield_bool ht he hg]
  have e:Sm (ifB (beqB b want) x y) r:=e
  cases b <;> cases want <;> first
   | exact .inl ⟨rfl,e⟩
   | exact .inr ⟨rfl,e⟩
 | tup v=>
  rw [hg] at e
  rw [yield_tup ht he hg]
  exact .inr ⟨rfl,e⟩
 | _=>rw [hg] at e; exact absurd rfl (e.nf hr)
theorem dOps_pre {γ:FuncId→Option Fun} (hγ:GSound P γ∧N0.fits P) {ops:Array Oper} {Q:Exit→Act→World→Prop} {k:Env→Hp→Res} {tail:List Oper} {j0:Nat} (hr:Fine r)
  (hQ:∀ ρ h w env a,St N0 n ρ0 h0 w0 ρ h w env a→Sm (k env h) r→wpOps P ops Q (List.range' j0 tail.length) a w):
  ∀ (rest:List Oper) (i:Nat) (ρ:Rho) (h:Hp) (w:World) (env:Env) (a:Act),ops.toList.drop i = rest ++ tail→i + rest.length = j0→St N0 n ρ0 h0 w0 ρ h w env a→Sm (dOps P γ n ops.toList rest env h k) r→wpOps P ops Q (List.range' i (rest.length + tail.length)) a w:=by
 intro rest
 induction rest with
 | nil=>
  intro i ρ h w env a _ hj hs e
  obtain rfl:i = j0:=hj
  rw [List.length_nil,Nat.zero_add]
  exact hQ ρ h w env a hs e
 | cons o rest ih=>
  intro i ρ h w env a hd hj hs e
  have hoi:ops[i]? = some o:=by
   rw [← Array.getElem?_toList]
   have:=congrArg (·[0]?) hd
   simpa using this
  have hd':ops.toList.drop (i + 1) = rest ++ tail:=by
   rw [← List.drop_drop,hd]; rfl
  have hj':i + 1 + rest.length = j0:=by rw [List.length_cons] at hj; omega
  rw [List.length_cons,show rest.length + 1 + tail.length = (rest.length + tail.length) + 1 from by omega,List.range'_succ]
  unfold wpOps
  rw [hoi]
  simp only
  simp only [dOps] at e
  split at e
  ·rename_i hg
   have hw:Region.wanted o (yielded ops a.tmps) = true:=by simp [Region.wanted,hg]
   rw [if_pos hw]
   obtain ⟨v,h',h1,h2⟩:=dOp_sound hγ o hs.inv hs.er rfl (e.fine hr)
   replace h1:=Eq.trans h1 e
   refine .inl (h2 _ _ fun V w' ρ' hout=>?_)
   obtain ⟨env',h3,h4⟩:=put_st h1 hr (hs.next hout) hout.val
   exact ih (i + 1) ρ' h' w' env' _ hd' hj' h4 h3
  ·rename_i j want hg
   split at e
   ·rename_i t ht
    have hw:Region.wanted o (yielded ops a.tmps) = (yielded ops a.tmps j == some want):=by simp [Region.wanted,hg]
    have mv:∀ x,Sm (ap (gsel (env t) want (ev env x)) (fun v=>put n o.dst v env fun env=>dOps P γ n ops.toList rest env h k)) r→(execOp a.eval o).run P w = .ok (.value (a.eval x)) w →
      (if Region.wanted o (yielded ops a.tmps) = true then o.wp P a w (wpOps P ops Q (List.range' (i + 1) (rest.length + tail.length))) Q∨(o.asks P a w∧LetsOut Q) else wpOps P ops Q (List.range' (i + 1) (rest.length + tail.length)) (a.put o.dst undef) w):=by
     intro x e hrun
     have hsel:=gsel_rel (ops:=ops) (want:=want) ht hs.er (ev_rel hs.er x)
     have e:Sm (put n o.dst (gsel (env t) want (ev env x)) env (fun env=>dOps P γ n ops.toList rest env h k)) r:=e
     obtain ⟨env',h3,h4⟩:=put_st e hr hs hsel
     rw [hw]
     split
     ·rename_i hy
      rw [if_pos hy] at h4
      refine .inl ?_
      unfold Oper.wp
      rw [hrun]
      exact ih (i + 1) ρ h w env' _ hd' hj' h4 h3
     ·rename_i hy
      rw [if_neg hy] at h4
      exact ih (i + 1) ρ h w env' _ hd' hj' h4 h3
    split at e
    ·rename_i x hop
     exact mv x e (by simp [execOp,hop])
    ·rename_i x hop
     exact mv x e (by simp [execOp,hop])
    ·obtain ⟨hne,hcase⟩:=jn_inv e hr
     rcases gd_inv (ops:=ops) ht hs.er (.eq rfl) hne with ⟨hy,hx⟩ | ⟨hy,hx⟩
     ·rw [hw,hy]
      simp only [beq_self_eq_true,if_true]
      obtain ⟨v,h',h1,h2⟩:=dOp_sound hγ o hs.inv hs.er rfl (hx.fine hne)
      replace h1:=Eq.trans h1 hx
      refine .inl (h2 _ _ fun V w' ρ' hout=>?_)
      rcases hcase with ⟨vs,hh,e1,e2⟩ | ⟨i',vs,hh,e1,e2⟩ | ⟨v',hh,e1,e2⟩
      ·obtain ⟨rfl,rfl⟩:[v] = vs∧h' = hh:=Sm.norm h1 e1
       have e2:Sm (put n o.dst v env (fun env=>dOps P γ n ops.toList rest env h' k)) r:=e2
       obtain ⟨env',h3,h4⟩:=put_st e2 hr (hs.next hout) hout.val
       exact ih (i + 1) ρ' h' w' env' _ hd' hj' h4 h3
      ·have h1:Res.norm [v] h' = _:=Eq.trans h1 e1; cases h1
      ·have h1:Res.norm [v] h' = _:=Eq.trans h1 e1; cases h1
     ·rw [hw,hy]
      simp only [Bool.false_eq_true,if_false]
      rcases hcase with ⟨vs,hh,e1,e2⟩ | ⟨i',vs,hh,e1,e2⟩ | ⟨v',hh,e1,e2⟩
      ·obtain ⟨rfl,rfl⟩:[AV.tup .nil] = vs∧h = hh:=Sm.norm hx e1
       have e2:Sm (put n o.dst (.tup .nil) env (fun env=>dOps P γ n ops.toList rest env h k)) r:=e2
       have hu:VR ρ (.tup .nil) undef:=⟨#[],rfl,rfl⟩
       obtain ⟨env',h3,h4⟩:=put_st e2 hr hs hu
       exact ih (i + 1) ρ h w env' _ hd' hj' h4 h3
      ·have hx:Res.norm [.tup .nil] h = _:=Eq.trans hx e1; cases hx
      ·have hx:Res.norm [.tup .nil] h = _:=Eq.trans hx e1; cases hx
   ·exact absurd rfl (e.nf hr)
theorem dOps_sound {γ:FuncId→Option Fun} (hγ:GSound P γ∧N0.fits P) {ops:Array Oper} {Q:Exit→Act→World→Prop} {k:Env→Hp→Res} (hr:Fine r)
  (hQ:∀ ρ h w env a,St N0 n ρ0 h0 w0 ρ h w env a→Sm (k env h) r→Q .normal a w) (rest:List Oper) (i:Nat) (ρ:Rho) (h:Hp) (w:World) (env:Env) (a:Act) (hd:ops.toList.drop i = rest)
  (hs:St N0 n ρ0 h0 w0 ρ h w env a) (e:Sm (dOps P γ n ops.toList rest env h k) r):wpOps P ops Q (List.range' i rest.length) a w:=by
 have:=dOps_pre (tail:=[]) (Q:=Q) (j0:=i + rest.length) hγ hr (fun ρ h w env a hs e=>hQ ρ h w env a hs e) rest i ρ h w env a (by rw [List.append_nil]; exact hd) rfl hs e
 simpa using this
end
end Go.AM
namespace Go.AM
open Go
set_option autoImplicit false
section
variable {ρ:Rho}
theorem packB_inj' {a b:ByteArray} (h1:a.data.size = b.data.size) (h2:packB a.data.toList = packB b.data.toList):a = b:=by
 have:=packB_inj a.data.toList b.data.toList (by simpa using h1) h2
 have hd:a.data = b.data:=Array.toList_inj.1 this
 cases a; cases b; simp_all
theorem eqAV_det:∀ (x y:AV),eqAV x y = true→(∀ V V',VR ρ x V→VR ρ y V'→V = V')∧(∀ l l',LR ρ x l→LR ρ y l'→l = l'):=by
 intro x
 induction x with
 | bool b=>
  intro y e
  cases y <;> first
   | exact Bool.noConfusion (show false = true from e)
   | skip
  rename_i b'
  replace e:beqB b b' = true:=e
  have:b = b':=by revert e; cases b <;> cases b' <;> decide
  subst this
  refine ⟨fun V V' h h'=>?_,fun l l' h=>h.elim⟩
  have h:V = .bool b:=h
  have h':V' = .bool b:=h'
  rw [h,h']
 | int c n=>
  intro y e
  cases y <;> first
   | exact Bool.noConfusion (show false = true from e)
   | skip
  rename_i c' n'
  replace e:bAnd (Nat.beq c c') (eqI n n') = true:=e
  rw [bAnd_iff,beq_iff,eqI_eq] at e
  have hn:n = n':=by simpa using e.2
  obtain ⟨rfl,-⟩:=e
  subst hn
  refine ⟨fun V V' h h'=>?_,fun l l' h=>h.elim⟩
  obtain ⟨k,e1,rfl⟩:=h
  obtain ⟨k',e2,rfl⟩:=h'
  rw [cOf_k e1 e2]
 | str n x=>
  intro y e
  cases y <;> first
   | exact Bool.noConfusion (show false = true from e)
   | skip
  rename_i n' x'
  replace e:sEq n x n' x' = true:=e
  replace e:Bool.rec (motive:=fun _=>Bool) false (Nat.beq x x') (Nat.beq n n') = true:=e
  rw [recB] at e
  simp only [beq_iff] at e
  have h1:n = n':=by
   by_cases h:n = n'
   ·exact h
   ·rw [if_neg h] at e; cases e
  rw [if_pos h1,beq_iff] at e
  subst h1
  subst e
  refine ⟨fun V V' h h'=>?_,fun l l' h=>h.elim⟩
  obtain ⟨s,rfl,h1,h2⟩:=h
  obtain ⟨s',rfl,h3,h4⟩:=h'
  rw [packB_inj' (h1.trans h3.symm) (h2.trans h4.symm)]
 | ptr b o=>
  intro y e
  cases y <;> first
   | exact Bool.noConfusion (show false = true from e)
   | skip
  rename_i b' o'
  replace e:bAnd (Nat.beq b b') (Nat.beq o o') = true:=e
  rw [bAnd_iff,beq_iff,beq_iff] at e
  obtain ⟨rfl,rfl⟩:=e
  refine ⟨fun V V' h h'=>?_,fun l l' h=>h.elim⟩
  obtain ⟨p,e1,rfl⟩:=h
  obtain ⟨p',e2,rfl⟩:=h'
  rw [e1] at e2
  obtain rfl:=Option.some.inj e2
  rfl
 | sl b o n z c=>
  intro y e
  cases y <;> first
   | exact Bool.noConfusion (show false = true from e)
   | skip
  rename_i b' o' n' z' c'
  replace e:bAnd (Nat.beq b b') (bAnd (Nat.beq o o') (bAnd (Nat.beq n n') (bAnd (Nat.beq z z') (optEq z c c')))) = true:=e
  rw [bAnd_iff,bAnd_iff,bAnd_iff,bAnd_iff,beq_iff,beq_iff,beq_iff,beq_iff] at e
  obtain ⟨rfl,rfl,rfl,rfl,e⟩:=e
  refine ⟨fun V V' h h'=>?_,fun l l' h=>h.elim⟩
  obtain ⟨p,d,e1,rfl,-,e2,-⟩:=h
  obtain ⟨p',d',e3,rfl,-,e4,-⟩:=h'
  rw [e1] at e3
  obtain rfl:=Option.some.inj e3
  have:d = d':=by
   cases c with
   | none=>
    cases c' with
    | none=>
     replace e:Nat.blt 0 z = true:=e
     rw [blt_iff] at e
     rcases e2 with ⟨-,e2⟩ | e2
     ·rcases e4 with ⟨-,e4⟩ | e4
      ·exact Nat.eq_of_mul_eq_mul_right e (by omega)
      ·cases e4
     ·cases e2
    | some m=>cases e
   | some m=>
    cases c' with
    | none=>cases e
    | some m'=>
     replace e:Nat.beq m m' = true:=e
     rw [beq_iff] at e
     subst e
     rcases e2 with ⟨e2,-⟩ | e2
     ·cases e2
     ·rcases e4 with ⟨e4,-⟩ | e4
      ·cases e4
      ·rw [e2] at e4; exact Option.some.inj e4
  rw [this]
 | ifc t v ih=>
  intro y e
  cases y <;> first
   | exact Bool.noConfusion (show false = true from e)
   | skip
  rename_i t' v'
  replace e:bAnd (Nat.beq t t') (eqAV v v') = true:=e
  rw [bAnd_iff,beq_iff] at e
  obtain ⟨rfl,e⟩:=e
  refine ⟨fun V V' h h'=>?_,fun l l' h=>h.elim⟩
  obtain ⟨W,rfl,h1⟩:=h
  obtain ⟨W',rfl,h2⟩:=h'
  rw [(ih v' e).1 W W' h1 h2]
 | fn f a b iha ihb=>
  intro y e
  cases y <;> first
   | exact Bool.noConfusion (show false = true from e)
   | skip
  rename_i f' a' b'
  replace e:bAnd (eqFn f f') (bAnd (eqAV a a') (eqAV b b')) = true:=e
  rw [bAnd_iff,bAnd_iff] at e
  obtain ⟨e0,e1,e2⟩:=e
  obtain rfl:=eqFn_eq e0
  refine ⟨fun V V' h h'=>?_,fun l l' h=>h.elim⟩
  obtain ⟨l,m,rfl,h1,h2⟩:=h
  obtain ⟨l',m',rfl,h3,h4⟩:=h'
  rw [Array.toList_inj.1 ((iha a' e1).2 _ _ h1 h3),Array.toList_inj.1 ((ihb b' e2).2 _ _ h2 h4)]
 | map b=>
  intro y e
  cases y <;> first
   | exact Bool.noConfusion (show false = true from e)
   | skip
  rename_i b'
  replace e:Nat.beq b b' = true:=e
  rw [beq_iff] at e
  subst e
  refine ⟨fun V V' h h'=>?_,fun l l' h=>h.elim⟩
  obtain ⟨p,e1,rfl⟩:=h
  obtain ⟨p',e2,rfl⟩:=h'
  rw [e1] at e2
  obtain rfl:=Option.some.inj e2
  rfl
 | agg v ih=>
  intro y e
  cases y <;> first
   | exact Bool.noConfusion (show false = true from e)
   | skip
  rename_i v'
  replace e:eqAV v v' = true:=e
  refine ⟨fun V V' h h'=>?_,fun l l' h=>h.elim⟩
  obtain ⟨W,rfl,h1⟩:=h
  obtain ⟨W',rfl,h2⟩:=h'
  rw [Array.toList_inj.1 ((ih v' e).2 _ _ h1 h2)]
 | tup v ih=>
  intro y e
  cases y <;> first
   | exact Bool.noConfusion (show false = true from e)
   | skip
  rename_i v'
  replace e:eqAV v v' = true:=e
  refine ⟨fun V V' h h'=>?_,fun l l' h=>h.elim⟩
  obtain ⟨W,rfl,h1⟩:=h
  obtain ⟨W',rfl,h2⟩:=h'
  rw [Array.toList_inj.1 ((ih v' e).2 _ _ h1 h2)]
 | cons h t ihh iht=>
  intro y e
  cases y <;> first
   | exact Bool.noConfusion (show false = true from e)
   | skip
  rename_i h' t'
  replace e:bAnd (eqAV h h') (eqAV t t') = true:=e
  rw [bAnd_iff] at e
  refine ⟨fun V V' h=>h.elim,fun l l' g g'=>?_⟩
  obtain ⟨V,m,rfl,g1,g2⟩:=g
  obtain ⟨V',m',rfl,g3,g4⟩:=g'
  rw [(ihh h' e.1).1 V V' g1 g3,(iht t' e.2).2 m m' g2 g4]
 | nil=>
  intro y e
  cases y <;> first
   | exact Bool.noConfusion (show false = true from e)
   | skip
  refine ⟨fun V V' h=>h.elim,fun l l' g g'=>?_⟩
  have g:l = []:=g
  have g':l' = []:=g'
  rw [g,g']
 | _=>
  intro y e
  cases y <;> first
   | exact Bool.noConfusion (show false = true from e)
   | exact ⟨fun V V' h h'=>(show V = _ from h).trans (show V' = _ from h').symm,fun l l' h=>h.elim⟩
end
end Go.AM
namespace Go.AM
open Go
set_option autoImplicit false
section
variable {P:Program} {N0:Base} {ρ:Rho} {h:Hp} {w:World} {r:Res} {env:Env} {a:Act}
theorem pure_val {o:Oper} {s:Sem Value} {k:AV→Hp→Res} (ho:execOp a.eval o = (do pure (.value (← s)))) (hd:∃ v,k v h = r∧Pur P ρ s v):
  ∃ v V,k v h = r∧VR ρ v V∧∀ w,(execOp a.eval o).run P w = .ok (.value V) w:=by
 obtain ⟨v,h1,V,h2,h3⟩:=hd
 exact ⟨v,V,h1,h2,fun w=>by rw [ho,Sem.run_bind,h3]; rfl⟩
theorem dOp_pureC0 {γ:FuncId→Option Fun} (o:Oper) {k:AV→Hp→Res} (hnb:∀ op t x y z,o.op ≠ .binOp op t x y z) (hni:∀ t x i,o.op ≠ .indexAddr t x i) (hi:isCutP P o.op = true→Inv N0 ρ h w) (he:ERel ρ env a) (hk:kindD P o.op = 0) (e:dOp P γ env h o.op k = r) (hr:r ≠ .fail):
  ∃ v V,k v h = r∧VR ρ v V∧∀ w,(execOp a.eval o).run P w = .ok (.value V) w:=by
 generalize ho:o.op = op at e hk hi hnb hni
 have hx:∀ v:Operand,VR ρ (ev env v) (a.eval v):=ev_rel he
 cases op with
 | move x=>exact ⟨_,_,e,hx x,fun w=>by simp [execOp,ho]⟩
 | assign x=>exact ⟨_,_,e,hx x,fun w=>by simp [execOp,ho]⟩
 | pick c x y=>
  obtain ⟨t,h1,h2⟩:=cB_inv e hr
  have h3:=hx c
  rw [h1] at h3
  have h3:a.eval c = .bool t:=h3
  refine ⟨_,if t then a.eval x else a.eval y,h2,?_,fun w=>by simp [execOp,ho,h3,asBool]⟩
  cases t
  ·exact hx y
  ·exact hx x
 | build t ps=>
  exact pure_val (by simp only [execOp,ho]) (build_ok (ps:=lowered env ps.toList) (pv:=ps.map fun (i,x)=>(i,a.eval x)) (by rw [Array.toList_map]; exact lowered_rel he ps.toList) e hr)
 | nilCheck x=>
  obtain ⟨h1,h2⟩:=nck_ok (P:=P) o (kk:=k) ho rfl e hr (hx x)
  exact ⟨_,_,h1,hx x,h2⟩
 | binOp op t x y z=>exact absurd rfl (hnb op t x y z)
 | unOp op t x=>
  simp only [dOp] at e
  split at e
  ·exact pure_val (by simp only [execOp,ho]) (iNeg_pur e hr (hx x))
  ·exact pure_val (by simp only [execOp,ho]) (iNot_pur e hr (hx x))
  ·exact pure_val (by simp only [execOp,ho]) (bNot_pur e hr (hx x))
  ·exact absurd e.symm hr
 | convert s d x=>
  simp only [dOp] at e
  simp only [kindD] at hk
  split at hk
  ·rename_i k1 c hs hd
   have e:=dConvT_eq (by rw [hs]; exact fun _ h=>nomatch h) e
   simp only [dConv2,dConv,hs,hd] at e
   obtain ⟨c1,y,h0,h1⟩:=cI_inv e hr
   have h3:=hx x
   rw [h0] at h3
   obtain ⟨k2,-,h3⟩:=h3
   refine ⟨_,.int c (c.wrap y),h1,⟨c,rfl,by rw [wrapC_eq]⟩,fun w=>?_⟩
   simp only [execOp,ho,h3]
   unfold convert
   simp [run_und hs,run_und hd,Conv.intToInt]
  ·rename_i hs hd
   have e:=dConvT_eq (by rw [hs]; exact fun _ h=>nomatch h) e
   simp only [dConv2,dConv,hs,hd] at e
   obtain ⟨n,y,h0,h1⟩:=cS_inv e hr
   have h3:=hx x
   rw [h0] at h3
   obtain ⟨st,h3,h4,h5⟩:=h3
   refine ⟨_,.string st,h1,⟨st,rfl,h4,h5⟩,fun w=>?_⟩
   simp only [execOp,ho,h3]
   unfold convert
   simp [run_und hs,run_und hd]
  ·cases hk
  ·cases hk
  ·cases hk
 | makeInterface t x=>
  simp only [dOp] at e
  split at e
  ·exact absurd e.symm hr
  ·exact absurd e.symm hr
  ·rename_i h1 h2
   cases hu:P.underlying t with
   | none=>exact absurd hu h2
   | some d=>exact pure_val (by simp only [execOp,ho]) ⟨_,e,ifc_ok hu (fun ms hms=>h1 ms (by rw [hu,hms])) (hx x)⟩
 | slice t x lo hi' mx=>
  simp only [dOp] at e
  obtain ⟨h0,e⟩:=sif_inv e hr
  have h0':((mx.map (ev env)).isNone || (hi'.map (ev env)).isSome) = true:=by simpa using h0
  split at e
  ·rename_i hu
   split at e
   ·exact pure_val (by simp only [execOp,ho,Option.map_none]) (cutT_ok hu e hr (hx x) (or_rel he lo) (or_rel he hi'))
   ·exact absurd e.symm hr
  ·rename_i u hu
   obtain ⟨h1,h2⟩:=sif_inv e hr
   exact pure_val (by simp only [execOp,ho]) (cutS_ok hu h1 h0' h2 hr (hx x) (or_rel he lo) (or_rel he hi') (or_rel he mx))
  ·rename_i n u hu
   obtain ⟨h1,h2⟩:=sif_inv e hr
   exact pure_val (by simp only [execOp,ho]) (cutP_ok (hi (by simp [isCutP,hu])) hu h1 h0' h2 hr (hx x) (or_rel he lo) (or_rel he hi') (or_rel he mx))
  ·exact absurd e.symm hr
 | fieldAddr t x f=>
  simp only [dOp] at e
  split at e
  ·rename_i fs hu
   split at e
   ·rename_i fd hf
    obtain ⟨h1,h2⟩:=sifT_inv e hr
    exact pure_val (by simp only [execOp,ho]) (fieldAddr_ok (k:=fun v=>k v h) hu hf (fun h0=>by rw [← beq_iff,h1] at h0; cases h0) h2 hr (hx x))
   ·exact absurd e.symm hr
  ·exact absurd e.symm hr
 | field t x f=>
  simp only [dOp] at e
  split at e
  ·rename_i fs hu
   split at e
   ·rename_i fd hf
    obtain ⟨h1,h2⟩:=sif_inv e hr
    exact pure_val (by simp only [execOp,ho]) (field_ok hu hf h1 h2 hr (hx x))
   ·exact absurd e.symm hr
  ·exact absurd e.symm hr
 | indexAddr t x i=>exact absurd rfl (hni t x i)
 | index t x i=>
  simp only [dOp] at e
  split at e
  ·rename_i hu
   exact pure_val (by simp only [execOp,ho]) (sIdx_pur hu e hr (hx x) (hx i))
  ·rename_i n u hu
   obtain ⟨h1,h2⟩:=sif_inv e hr
   exact pure_val (by simp only [execOp,ho]) (ixV_ok hu h1 h2 hr (hx x) (hx i))
  ·exact absurd e.symm hr
 | extract x i=>exact pure_val (by simp only [execOp,ho]) (extract_ok (k:=fun v=>k v h) e hr (hx x))
 | call c=>
  simp only [dOp] at e
  simp only [kindD] at hk
  split at hk
  ·rename_i hc
   rw [hc] at e
   simp only at e
   split at e
   ·rename_i x t hxl htl
    have hargs:c.args = #[x]:=by apply Array.toList_inj.1; rw [hxl]
    have htys:c.argTypes = #[t]:=by apply Array.toList_inj.1; rw [htl]
    have hex:execOp a.eval o = (do pure (.value (← Builtin.len_ #[t] o.type #[a.eval x]))):=by
     simp [execOp,ho,resolve,hc,hargs,htys,invoke,builtin]
    split at e
    ·rename_i hu
     exact pure_val hex (lenS_ok hu e hr (hx x))
    ·rename_i u hu
     exact pure_val hex (lenL_ok hu e hr (hx x))
    ·rename_i kt et hu
     rw [htl] at hk
     simp only [lenK,hu] at hk
     cases hk
    ·exact absurd e.symm hr
   ·exact absurd e.symm hr
  ·cases hk
 | makeFunc f l m=>exact ⟨_,.func f (l.map a.eval) (m.map a.eval),e,mkf_rel he f l m,fun w=>by simp [execOp,ho,Instr.makeFunc]⟩
 | makeMap t rs=>cases hk
 | lookup t x i ok=>cases hk
 | mapUpdate t m x v=>cases hk
 | insert t m x v=>cases hk
 | alloc t=>cases hk
 | box t x=>cases hk
 | buildSlice t n ps=>cases hk
 | makeSlice t l c=>cases hk
 | store t x y=>cases hk
 | load t x=>cases hk
 | range t x=>cases hk
 | next x s=>cases hk
 | _=>exact absurd e.symm hr
theorem dOp_pureC {γ:FuncId→Option Fun} (o:Oper) {k:AV→Hp→Res} (hi:isCutP P o.op = true→Inv N0 ρ h w) (he:ERel ρ env a) (hk:kindD P o.op = 0) (e:dOp P γ env h o.op k = r) (hr:Fine r):
  ∃ v V,Sm (k v h) r∧VR ρ v V∧∀ w,(execOp a.eval o).run P w = .ok (.value V) w:=by
 by_cases hb:∃ op t x y z,o.op = .binOp op t x y z
 ·obtain ⟨op,t,x,y,z,ho⟩:=hb
  have hx:∀ v:Operand,VR ρ (ev env v) (a.eval v):=ev_rel he
  rw [ho] at e
  have e:sif (flagT γ op) (binA (askM γ) P op t (ev env x) (ev env y) fun v=>tw h (slotO x y) v fun v=>k v h) (binC (askC γ op x y) (askM γ) P op t (ev env x) (ev env y) (fun v=>k v h)) = r:=e
  have hv:∃ v,Sm (k v h) r∧Pur P ρ (do eqGuard op t x y (a.eval x) (a.eval y); binOp op t (a.eval x) (a.eval y)) v:=by
   rcases ifB_inv e with ⟨-,e⟩ | ⟨-,e⟩
   ·exact binT_pur x y e hr (hx x) (hx y)
   ·exact binC_pur x y e hr (hx x) (hx y)
  obtain ⟨v,h1,h2⟩:=hv
  obtain ⟨V,h3,h4⟩:=h2
  exact ⟨v,V,h1,h3,fun w=>by simp only [execOp,ho]; rw [Sem.run_bind,h4]; rfl⟩
 ·by_cases hx:∃ t x i,o.op = .indexAddr t x i
  ·obtain ⟨t,x,i,ho⟩:=hx
   have hx:∀ v:Operand,VR ρ (ev env v) (a.eval v):=ev_rel he
   rw [ho] at e
   simp only [dOp] at e
   split at e
   ·rename_i u hu
    obtain ⟨h1,h2⟩:=sif_inv e hr.nf
    have h3:Sm (ixA (szOf P u) (ev env x) (ev env i) fun v=>k v h) r:=by
     rcases ifB_inv h2 with ⟨-,h2⟩ | ⟨-,h2⟩
     ·exact ixX_sm (.eq h2) hr
     ·exact .eq h2
    obtain ⟨v,V,g1,g2,g3⟩:=pure_val (a:=a) (o:=o) (k:=k) (h:=h) (by simp only [execOp,ho]) (ixA_ok hu h1 rfl (h3.nf hr) (hx x) (hx i))
    exact ⟨v,V,.of g1 h3,g2,g3⟩
   ·rename_i n u hu
    obtain ⟨h1,h2⟩:=sif_inv e hr.nf
    obtain ⟨v,V,g1,g2,g3⟩:=pure_val (a:=a) (o:=o) (k:=k) (h:=h) (by simp only [execOp,ho]) (ixP_ok hu h1 h2 hr.nf (hx x) (hx i))
    exact ⟨v,V,.eq g1,g2,g3⟩
   ·exact absurd e.symm hr.nf
  ·obtain ⟨v,V,h1,h2,h3⟩:=dOp_pureC0 o (fun op t x y z h=>hb ⟨op,t,x,y,z,h⟩) (fun t x i h=>hx ⟨t,x,i,h⟩) hi he hk e hr.nf
   exact ⟨v,V,.eq h1,h2,h3⟩
theorem dOp_pure {γ:FuncId→Option Fun} (o:Oper) {k:AV→Hp→Res} (hi:Inv N0 ρ h w) (he:ERel ρ env a) (hk:kindD P o.op = 0) (e:dOp P γ env h o.op k = r) (hr:Fine r):
  ∃ v V,Sm (k v h) r∧VR ρ v V∧∀ w,(execOp a.eval o).run P w = .ok (.value V) w:=dOp_pureC (N0:=N0) (w:=w) o (fun _=>hi) he hk e hr
theorem dOp_read {γ:FuncId→Option Fun} (o:Oper) {k:AV→Hp→Res} (hi:Inv N0 ρ h w) (he:ERel ρ env a) (hk:kindD P o.op = 1) (e:dOp P γ env h o.op k = r) (hr:Fine r):
  ∃ v V,Sm (k v h) r∧VR ρ v V∧(execOp a.eval o).run P w = .ok (.value V) w:=by
 generalize ho:o.op = op at e hk
 have hx:∀ v:Operand,VR ρ (ev env v) (a.eval v):=ev_rel he
 cases op with
 | load t x=>
  simp only [dOp] at e
  obtain ⟨h1,h2⟩:=sif_inv e hr
  split at h2
  ·rename_i ht
   obtain ⟨v,V,g1,g2,g3⟩:=ldN_ok hi ht h1 h2 hr (hx x)
   exact ⟨v,V,.eq g1,g2,by simp only [execOp,ho]; rw [Sem.run_bind,g3]; rfl⟩
  ·rename_i ht
   rcases ifB_inv h2 with ⟨-,h2⟩ | ⟨-,h2⟩
   ·have e1:=ldX_sm (.eq h2) hr
    obtain ⟨v,V,g1,g2,g3⟩:=ld1_ok hi ht h1 rfl (e1.nf hr) (hx x)
    exact ⟨v,V,.of g1 e1,g2,by simp only [execOp,ho]; rw [Sem.run_bind,g3]; rfl⟩
   ·obtain ⟨v,V,g1,g2,g3⟩:=ld1_ok hi ht h1 h2 hr (hx x)
    exact ⟨v,V,.eq g1,g2,by simp only [execOp,ho]; rw [Sem.run_bind,g3]; rfl⟩
 | convert s d x=>
  simp only [dOp] at e
  simp only [kindD] at hk
  rcases dConvT_sm e hr with e1 | ⟨u,hs,hd,hu,e1⟩
  case inr=>
   obtain ⟨v,V,k1,k2,k3⟩:=b2sS_ok hi hs hd hu e1 hr (hx x)
   exact ⟨v,V,k1,k2,by simp only [execOp,ho]; rw [Sem.run_bind,k3]; rfl⟩
  have hf:=e1.nf hr
  have ex:∃ r2,dConv2 P s d (ev env x) h k = r2:=⟨_,rfl⟩
  obtain ⟨r2,e⟩:=ex
  rw [e] at e1 hf
  unfold dConv2 at e
  split at e
  ·rename_i hs hd; rw [hs,hd] at hk; cases hk
  ·rename_i hs hd; rw [hs,hd] at hk; cases hk
  unfold dConv at e
  split at e
  ·rename_i hs hd; rw [hs,hd] at hk; cases hk
  ·rename_i hs hd; rw [hs,hd] at hk; cases hk
  ·rename_i u hs hd
   split at e
   ·rename_i hu
    obtain ⟨v,V,g1,g2,g3⟩:=b2s_ok hi hs hd hu e hf (hx x)
    exact ⟨v,V,.of g1 e1,g2,by simp only [execOp,ho]; rw [Sem.run_bind,g3]; rfl⟩
   ·exact absurd e.symm hf
  ·rename_i u hs hd; rw [hs,hd] at hk; cases hk
  ·exact absurd e.symm hf
 | call c=>
  simp only [dOp] at e
  simp only [kindD] at hk
  split at hk
  ·rename_i hc
   rw [hc] at e
   simp only at e
   split at e
   ·rename_i x t hxl htl
    have hargs:c.args = #[x]:=by apply Array.toList_inj.1; rw [hxl]
    have htys:c.argTypes = #[t]:=by apply Array.toList_inj.1; rw [htl]
    have hex:execOp a.eval o = (do pure (.value (← Builtin.len_ #[t] o.type #[a.eval x]))):=by
     simp [execOp,ho,resolve,hc,hargs,htys,invoke,builtin]
    rw [htl] at hk
    unfold lenK at hk
    simp only at hk
    split at hk
    ·rename_i kt et hu
     rw [hu] at e
     simp only at e
     obtain ⟨v,V,g1,g2,g3⟩:=lenM_ok (k:=fun v=>k v h) hi hu e hr (hx x)
     exact ⟨v,V,.eq g1,g2,by rw [hex,Sem.run_bind,g3]; rfl⟩
    ·cases hk
   ·exact absurd e.symm hr.nf
  ·cases hk
 | lookup t x i ok=>
  simp only [dOp] at e
  split at e
  ·rename_i kt et ht
   split at e
   ·rename_i q hq
    obtain ⟨d,hd,hkq⟩:=keyQ_inv hq
    have e1:=lkpX_sm hq e hr
    obtain ⟨v,V,g1,g2,g3⟩:=lkp_ok (k:=fun v=>k v h) hi ht hd hkq rfl (e1.nf hr) (hx x) (hx i)
    exact ⟨v,V,.of g1 e1,g2,by simp only [execOp,ho]; rw [Sem.run_bind,g3]; rfl⟩
   ·exact absurd e.symm hr.nf
  ·exact absurd e.symm hr.nf
 | makeMap t rs=>cases hk
 | mapUpdate t m x v=>cases hk
 | insert t m x v=>cases hk
 | alloc t=>cases hk
 | box t x=>cases hk
 | buildSlice t n ps=>cases hk
 | makeSlice t l c=>cases hk
 | store t x y=>cases hk
 | _=>cases hk
end
end Go.AM
namespace Go.AM
open Go
set_option autoImplicit false
section
variable {P:Program} {ops:Array Oper} {Q:Exit→Act→World→Prop}
def wpAnyI (P:Program) (ops:Array Oper) (Q:Exit→Act→World→Prop) (I:Array Bool→World→Prop):Nat→Array Bool→Act→World→Prop
 | 0,L,a,w=>Region.ready .any ops L = []∧Q .normal a w
 | fuel + 1,L,a,w=>(Region.ready .any ops L = []→Q .normal a w) ∧
  ∀ i∈Region.ready .any ops L,wpOp P ops Q i (fun a' w'=>I (L.setIfInBounds i true) w'∧wpAnyI P ops Q I fuel (L.setIfInBounds i true) a' w') a w
theorem wpAny_of_I {I:Array Bool→World→Prop}:∀ (fuel:Nat) (L:Array Bool) (a:Act) (w:World),wpAnyI P ops Q I fuel L a w→wpAny P .any ops Q fuel L a w
 | 0,_,_,_,h=>h
 | fuel + 1,_,_,_,h=>⟨h.1,fun i hi=>wpOp_mono (fun a' w' h'=>wpAny_of_I fuel _ a' w' h'.2) (h.2 i hi)⟩
theorem wpAnyI_mono {I J:Array Bool→World→Prop} (hIJ:∀ L w,I L w→J L w):∀ (fuel:Nat) (L:Array Bool) (a:Act) (w:World),wpAnyI P ops Q I fuel L a w→wpAnyI P ops Q J fuel L a w
 | 0,_,_,_,h=>h
 | fuel + 1,_,_,_,h=>⟨h.1,fun i hi=>wpOp_mono (fun a' w' h'=>⟨hIJ _ _ h'.1,wpAnyI_mono hIJ fuel _ a' w' h'.2⟩) (h.2 i hi)⟩
def Acts (P:Program) (o:Oper):Prop:=kindD P o.op ≠ 0∧kindD P o.op ≠ 1
def Closed (ops:Array Oper) (L:Array Bool):Prop:=∀ j oj,ops[j]? = some oj→L.getD j false = true→∀ e∈oj.after,Region.binds .any e = true→L.getD e.on false = true
def NoAct (P:Program) (ops:Array Oper) (L:Array Bool) (i:Nat):Prop:=∀ j oj,ops[j]? = some oj→Acts P oj→L.getD j false = true→waits ops.toList oj i = false
def IK (P:Program) (ops:Array Oper) (K:List (Nat×(World→Prop))) (L:Array Bool) (w:World):Prop:=∀ p∈K,NoAct P ops L p.1→p.2 w
theorem getD_set_inv {L:Array Bool} {i j:Nat} (h:(L.setIfInBounds i true).getD j false = true):j = i∨L.getD j false = true:=by
 by_cases hij:i = j
 ·exact .inl hij.symm
 ·rw [getD_set_ne false hij] at h; exact .inr h
theorem getD_set_self {L:Array Bool} {i:Nat} (h:L.getD i true = false):(L.setIfInBounds i true).getD i false = true:=by
 have hlt:i < L.size:=by
  rcases Nat.lt_or_ge i L.size with h' | h'
  ·exact h'
  ·simp [Array.getElem?_eq_none h'] at h
 simp [hlt]
theorem getD_both {L:Array Bool} {i:Nat} (h:L.getD i true = false):L.getD i false = false:=by
 rcases Nat.lt_or_ge i L.size with h' | h'
 ·simp [h'] at h ⊢; exact h
 ·simp [Array.getElem?_eq_none h'] at h
theorem edge_iff {o:Oper} {j:Nat}:edge o j = true ↔ ∃ e∈o.after,Region.binds .any e = true∧e.on = j:=by
 unfold edge
 rw [List.any_eq_true]
 constructor
 ·rintro ⟨e,h1,h2⟩
  rw [Bool.and_eq_true,beq_iff] at h2
  exact ⟨e,by simpa using h1,h2⟩
 ·rintro ⟨e,h1,h2⟩
  exact ⟨e,by simpa using h1,by rw [Bool.and_eq_true,beq_iff]; exact h2⟩
theorem reach_done {L:Array Bool} (hcl:Closed ops L):∀ (f:Nat) {o:Oper} {i:Nat},(∀ e∈o.after,Region.binds .any e = true→L.getD e.on false = true)→reach ops.toList f o i = true→L.getD i false = true:=by
 intro f
 induction f with
 | zero=>intro o i _ h; cases h
 | succ f ih=>
  intro o i hd h
  unfold reach at h
  rw [Bool.or_eq_true] at h
  rcases h with h | h
  ·obtain ⟨e,h1,h2,h3⟩:=edge_iff.1 h
   rw [← h3]; exact hd e h1 h2
  ·obtain ⟨e,h1,h2⟩:=List.any_eq_true.1 h
   rw [Bool.and_eq_true] at h2
   have h1:e∈o.after:=by simpa using h1
   have ht:ops.toList[e.on]? = ops[e.on]?:=Array.getElem?_toList
   rw [ht] at h2
   cases ho:ops[e.on]? with
   | none=>rw [ho] at h2; cases h2.2
   | some o'=>
    rw [ho] at h2
    exact ih (fun e' he' hb'=>hcl e.on o' ho (hd e h1 h2.1) e' he' hb') h2.2
theorem Closed.set {L:Array Bool} {i:Nat} (hc:Closed ops L) (hr:i∈Region.ready .any ops L):Closed ops (L.setIfInBounds i true):=by
 obtain ⟨h0,o,ho,hall⟩:=mem_ready.1 hr
 intro j oj hj hl e he hb
 rcases getD_set_inv hl with rfl | hl
 ·rw [ho] at hj
  obtain rfl:=Option.some.inj hj
  exact getD_set_true (hall e he hb)
 ·exact getD_set_true (hc j oj hj hl e he hb)
theorem Closed.noWait {L:Array Bool} {i:Nat} (hc:Closed ops L) (hr:i∈Region.ready .any ops L):∀ j oj,ops[j]? = some oj→L.getD j false = true→waits ops.toList oj i = false:=by
 obtain ⟨h0,o,ho,hall⟩:=mem_ready.1 hr
 intro j oj hj hl
 cases hw:waits ops.toList oj i with
 | false=>rfl
 | true=>
  have:=reach_done hc 4 (hc j oj hj hl) hw
  rw [getD_both h0] at this
  cases this
theorem NoAct.set {L:Array Bool} {i k:Nat} {oi:Oper} (hi:ops[i]? = some oi) (hna:¬ Acts P oi) (h:NoAct P ops L k):NoAct P ops (L.setIfInBounds i true) k:=by
 intro j oj hj ha hl
 rcases getD_set_inv hl with rfl | hl
 ·rw [hi] at hj
  obtain rfl:=Option.some.inj hj
  exact absurd ha hna
 ·exact h j oj hj ha hl
theorem IK.less {L:Array Bool} {i:Nat} {oi:Oper} {K:List (Nat×(World→Prop))} {w:World} (hi:ops[i]? = some oi) (hna:¬ Acts P oi) (h:IK P ops K (L.setIfInBounds i true) w):IK P ops K L w:=
 fun p hp hn=>h p hp (hn.set hi hna)
theorem hoist {i:Nat} {oi:Oper} {v:Value} {R:World→Prop} {K:List (Nat×(World→Prop))} (hi:ops[i]? = some oi) (hsel:∀ (j:Nat) (o:Oper) cs b,ops[j]? = some o→o.op ≠ .select cs b)
  (hQ:∀ c a w,¬ Q (.panic c) a w) (hna:¬ Acts P oi):
  ∀ (fuel:Nat) (L:Array Bool) (a:Act) (w:World),
   (∀ j oj,ops[j]? = some oj→j ≠ i→L.getD j true = false→(∀ e∈oj.after,Region.binds .any e = true→e.on ≠ i)→oi.apart ops oj = true) →
   i∈Region.ready .any ops L→Closed ops L→YieldsIf P ops R oi v a→R w→IK P ops K L w→IK P ops K (L.setIfInBounds i true) w →
   wpAnyI P ops Q (IK P ops ((i,R) :: K)) fuel (L.setIfInBounds i true) (a.put oi.dst v) w→wpAnyI P ops Q (IK P ops K) (fuel + 1) L a w:=by
 have weak:∀ L w,IK P ops ((i,R) :: K) L w→IK P ops K L w:=fun L w h p hp=>h p (by simp [hp])
 intro fuel
 induction fuel with
 | zero=>
  intro L a w _ hr _ hy hR _ hI H
  refine ⟨fun h=>(by rw [h] at hr; cases hr),fun j hj=>?_⟩
  by_cases hji:j = i
  ·subst hji; exact hy.wpOp hi hR ⟨hI,wpAnyI_mono weak 0 _ _ _ H⟩
  ·have:=ready_mono hj hji
   rw [H.1] at this
   cases this
 | succ fuel ih=>
  intro L a w hfree hr hc hy hR hI0 hI H
  refine ⟨fun h=>(by rw [h] at hr; cases hr),fun j hj=>?_⟩
  by_cases hji:j = i
  ·subst hji; exact hy.wpOp hi hR ⟨hI,wpAnyI_mono weak _ _ _ _ H⟩
  ·have h1:=H.2 j (ready_mono hj hji)
   obtain ⟨hjun,oj,hoj,hall⟩:=mem_ready.1 hj
   have hnot:∀ e∈oj.after,Region.binds .any e = true→e.on ≠ i:=fun e he hb heq=>by
    have h1:=hall e he hb
    rw [heq,getD_both (mem_ready.1 hr).1] at h1
    cases h1
   have h2:=wpOp_putIf hoj (hfree j oj hoj hji hjun hnot) (fun cs b=>hsel i oi cs b hi) (fun cs b=>hsel j oj cs b hoj) (fun c a w h=>absurd h (hQ c _ w)) hy h1
   have hfree':∀ k ok,ops[k]? = some ok→k ≠ i→(L.setIfInBounds j true).getD k true = false →
     (∀ e∈ok.after,Region.binds .any e = true→e.on ≠ i)→oi.apart ops ok = true:=fun k ok hk hki hun hno=>by
    refine hfree k ok hk hki ?_ hno
    by_cases hjk:j = k
    ·subst hjk; exact hjun
    ·rw [getD_set_ne true hjk] at hun; exact hun
   refine wpOp_mono (fun a' w' h3=>?_) h2
   obtain ⟨h4,h5,h6⟩:=h3
   rw [Array.setIfInBounds_comm _ _ (Ne.symm hji)] at h6
   have h5':IK P ops ((i,R) :: K) ((L.setIfInBounds j true).setIfInBounds i true) w':=by rw [Array.setIfInBounds_comm _ _ hji]; exact h5
   have hc':=hc.set hj
   have hr':=ready_mono hr (Ne.symm hji)
   have hRw:R w':=by
    refine h5' (i,R) (by simp) ?_
    intro k ok hk ha hl
    rcases getD_set_inv hl with rfl | hl
    ·rw [hi] at hk
     obtain rfl:=Option.some.inj hk
     exact absurd ha hna
    ·exact hc'.noWait hr' k ok hk hl
   have hK:=weak _ _ h5'
   exact ⟨hK.less hi hna,ih (L.setIfInBounds j true) a' w' hfree' hr' hc' h4 hRw (hK.less hi hna) hK h6⟩
end
end Go.AM
namespace Go.AM
open Go
set_option autoImplicit false
section
variable {P:Program} {ops:Array Oper} {Q:Exit→Act→World→Prop} {N0:Base} {n:Nat} {ρ0 ρ:Rho} {h0 h:Hp} {w0 w:World} {r:Res} {env:Env} {a:Act} {γ:FuncId→Option Fun}
theorem stepD_still {o:Oper} {k:AV→Env→Hp→Res} (hs:St N0 n ρ0 h0 w0 ρ h w env a) (hk:kindD P o.op = 0∨kindD P o.op = 1) (e:Sm (stepD P γ n ops.toList o env h k) r) (hr:Fine r):
  ∃ v V env',Sm (k v env' h) r∧VR ρ v V∧St N0 n ρ0 h0 w0 ρ h w env' (a.put o.dst V) ∧
   ((Region.wanted o (yielded ops a.tmps) = true∧(execOp a.eval o).run P w = .ok (.value V) w∧(kindD P o.op = 0→∀ w,(execOp a.eval o).run P w = .ok (.value V) w))∨(Region.wanted o (yielded ops a.tmps) = false∧V = undef)):=by
 have one:∀ {k:AV→Hp→Res} {r:Res},Sm (dOp P γ env h o.op k) r→Fine r→∃ v V,Sm (k v h) r∧VR ρ v V∧(execOp a.eval o).run P w = .ok (.value V) w∧(kindD P o.op = 0→∀ w,(execOp a.eval o).run P w = .ok (.value V) w):=by
  intro k r e hr
  rcases hk with hk | hk
  ·obtain ⟨v,V,h1,h2,h3⟩:=dOp_pure o hs.inv hs.er hk rfl (e.fine hr)
   exact ⟨v,V,Eq.trans h1 e,h2,h3 w,fun _=>h3⟩
  ·obtain ⟨v,V,h1,h2,h3⟩:=dOp_read o hs.inv hs.er hk rfl (e.fine hr)
   exact ⟨v,V,Eq.trans h1 e,h2,h3,fun h0=>by rw [hk] at h0; cases h0⟩
 unfold stepD at e
 split at e
 ·rename_i hg
  have hw:Region.wanted o (yielded ops a.tmps) = true:=by simp [Region.wanted,hg]
  obtain ⟨v,V,h1,h2,h3,h4⟩:=one e hr
  obtain ⟨env',h5,h6⟩:=put_st h1 hr hs h2
  exact ⟨v,V,env',h5,h2,h6,.inl ⟨hw,h3,h4⟩⟩
 ·rename_i j want hg
  split at e
  ·rename_i t ht
   have hw:Region.wanted o (yielded ops a.tmps) = (yielded ops a.tmps j == some want):=by simp [Region.wanted,hg]
   have mv:∀ x,Sm (ap (gsel (env t) want (ev env x)) (fun v=>put n o.dst v env fun env=>k v env h)) r→(∀ w,(execOp a.eval o).run P w = .ok (.value (a.eval x)) w) →
     ∃ v V env',Sm (k v env' h) r∧VR ρ v V∧St N0 n ρ0 h0 w0 ρ h w env' (a.put o.dst V) ∧
      ((Region.wanted o (yielded ops a.tmps) = true∧(execOp a.eval o).run P w = .ok (.value V) w∧(kindD P o.op = 0→∀ w,(execOp a.eval o).run P w = .ok (.value V) w))∨(Region.wanted o (yielded ops a.tmps) = false∧V = undef)):=by
    intro x e hrun
    have hsel:=gsel_rel (ops:=ops) (want:=want) ht hs.er (ev_rel hs.er x)
    generalize gsel (env t) want (ev env x) = g at e hsel
    have e:Sm (put n o.dst g env (fun env=>k g env h)) r:=e
    obtain ⟨env',h3,h4⟩:=put_st e hr hs hsel
    rw [hw]
    by_cases hy:(yielded ops a.tmps j == some want) = true
    ·rw [if_pos hy] at h4 hsel
     exact ⟨_,_,env',h3,hsel,h4,.inl ⟨hy,hrun w,fun _=>hrun⟩⟩
    ·rw [if_neg hy] at h4 hsel
     exact ⟨_,_,env',h3,hsel,h4,.inr ⟨by simpa using hy,rfl⟩⟩
   split at e
   ·rename_i x hop
    exact mv x e (fun w=>by simp [execOp,hop])
   ·rename_i x hop
    exact mv x e (fun w=>by simp [execOp,hop])
   ·obtain ⟨hne,hcase⟩:=jn_inv e hr
    rcases gd_inv (ops:=ops) ht hs.er (.eq rfl) hne with ⟨hy,hx⟩ | ⟨hy,hx⟩
    ·obtain ⟨v,V,h1,h2,h3,h4⟩:=one hx hne
     rcases hcase with ⟨vs,hh,e1,e2⟩ | ⟨i',vs,hh,e1,e2⟩ | ⟨v',hh,e1,e2⟩
     ·obtain ⟨rfl,rfl⟩:[v] = vs∧h = hh:=Sm.norm h1 e1
      have e2:Sm (put n o.dst v env (fun env=>k v env h)) r:=e2
      obtain ⟨env',h5,h6⟩:=put_st e2 hr hs h2
      exact ⟨v,V,env',h5,h2,h6,.inl ⟨by rw [hw,hy]; simp,h3,h4⟩⟩
     ·have h1:Res.norm [v] h = _:=Eq.trans h1 e1; cases h1
     ·have h1:Res.norm [v] h = _:=Eq.trans h1 e1; cases h1
    ·rcases hcase with ⟨vs,hh,e1,e2⟩ | ⟨i',vs,hh,e1,e2⟩ | ⟨v',hh,e1,e2⟩
     ·obtain ⟨rfl,rfl⟩:[AV.tup .nil] = vs∧h = hh:=Sm.norm hx e1
      have hu:VR ρ (.tup .nil) undef:=⟨#[],rfl,rfl⟩
      have e2:Sm (put n o.dst (.tup .nil) env (fun env=>k (.tup .nil) env h)) r:=e2
      obtain ⟨env',h5,h6⟩:=put_st e2 hr hs hu
      exact ⟨_,_,env',h5,hu,h6,.inr ⟨by rw [hw]; exact hy,rfl⟩⟩
     ·have hx:Res.norm [.tup .nil] h = _:=Eq.trans hx e1; cases hx
     ·have hx:Res.norm [.tup .nil] h = _:=Eq.trans hx e1; cases hx
  ·exact absurd rfl (e.nf hr)
def Recheck (N0:Base) (f:Hp→Res→Res) (R:World→Prop) (ρ:Rho):Prop:=∀ ρ' h' w' K r,Ext ρ ρ'→Inv N0 ρ' h' w'→Sm (f h' K) r→Fine r→Sm K r∧R w'
theorem Recheck.ext {f:Hp→Res→Res} {R:World→Prop} {ρ':Rho} (hx:Ext ρ ρ') (h:Recheck N0 f R ρ):Recheck N0 f R ρ':=
 fun ρ2 h' w' K r he hi e hr=>h ρ2 h' w' K r (hx.trans he) hi e hr
theorem same_inv {x y:AV} {k:Res} (e:Sm (same x y k) r) (hr:Fine r):eqAV x y = true∧Sm k r:=by
 obtain ⟨h1,h2⟩:=ifF_inv (b:=eqAV x y) (x:=k) rfl (e.nf hr)
 exact ⟨h1,.of h2 e⟩
theorem sameT_inv {T:Bool} {x y:AV} {k r:Res} (e:Sm (sameT T x y k) r) (hr:Fine r):eqAV x y = true∧Sm k r:=by
 cases T with
 | false=>exact same_inv e hr
 | true=>
  have e:Sm (.ask (eqAV x y) k) r:=e
  obtain ⟨h2,h3⟩:=now_ask (by rw [show now (.ask (eqAV x y) k) = now r from e]; exact hr.ok)
  exact ⟨h2,h3.symm.trans e⟩
theorem again_ok {o:Oper} {v:AV} {V:Value} (hk:kindD P o.op = 1) (he:ERel ρ env a) (hv:VR ρ v V):
  Recheck N0 (again P γ ops.toList o env v) (fun w=>Region.wanted o (yielded ops a.tmps) = true→(execOp a.eval o).run P w = .ok (.value V) w) ρ:=by
 intro ρ' h' w' K r hx hi e hr
 have he':=he.ext hx
 have one:∀ {k:Res} {r:Res},Sm (dOp P γ env h' o.op (fun v' _=>sameT (askT γ) v v' k)) r→Fine r→Sm k r∧(execOp a.eval o).run P w' = .ok (.value V) w':=by
  intro k r e hr
  obtain ⟨v',V',h1,h2,h3⟩:=dOp_read o hi he' hk rfl (e.fine hr)
  obtain ⟨h4,h5⟩:=sameT_inv (Eq.trans h1 e) hr
  have:=(eqAV_det (ρ:=ρ') v v' h4).1 V V' (hv.ext hx) h2
  subst this
  exact ⟨h5,h3⟩
 unfold again at e
 split at e
 ·obtain ⟨h1,h2⟩:=one e hr
  exact ⟨h1,fun _=>h2⟩
 ·rename_i j want hg
  split at e
  ·rename_i t ht
   have hw:Region.wanted o (yielded ops a.tmps) = (yielded ops a.tmps j == some want):=by simp [Region.wanted,hg]
   obtain ⟨hne,hcase⟩:=jn_inv e hr
   rcases gd_inv (ops:=ops) ht he' (.eq rfl) hne with ⟨hy,hx'⟩ | ⟨hy,hx'⟩
   ·obtain ⟨h1,h2⟩:=one hx' hne
    rcases hcase with ⟨vs,hh,e1,e2⟩ | ⟨i',vs,hh,e1,e2⟩ | ⟨v',hh,e1,e2⟩
    ·exact ⟨e2,fun _=>h2⟩
    ·have h1:Res.norm _ _ = _:=Eq.trans h1 e1; cases h1
    ·have h1:Res.norm _ _ = _:=Eq.trans h1 e1; cases h1
   ·rcases hcase with ⟨vs,hh,e1,e2⟩ | ⟨i',vs,hh,e1,e2⟩ | ⟨v',hh,e1,e2⟩
    ·exact ⟨e2,fun h=>by rw [hw,hy] at h; cases h⟩
    ·have hx':Res.norm _ _ = _:=Eq.trans hx' e1; cases hx'
    ·have hx':Res.norm _ _ = _:=Eq.trans hx' e1; cases hx'
  ·exact absurd rfl (e.nf hr)
theorem agains_inv:∀ (l:List (Nat×(Hp→Res→Res))) {ρ':Rho} {h':Hp} {w':World} {K:Res},(∀ q∈l,∃ R,Recheck N0 q.2 R ρ)→Ext ρ ρ'→Inv N0 ρ' h' w'→Sm (agains l h' K) r→Fine r →
  Sm K r∧∀ q∈l,∀ R,Recheck N0 q.2 R ρ→R w':=by
 intro l
 induction l with
 | nil=>intro ρ' h' w' K _ _ _ e _; exact ⟨e,fun q hq=>by cases hq⟩
 | cons p l ih=>
  intro ρ' h' w' K hl hx hi e hr
  have e:Sm (p.2 h' (agains l h' K)) r:=e
  obtain ⟨R,hR⟩:=hl p (by simp)
  obtain ⟨h1,-⟩:=hR ρ' h' w' _ r hx hi e hr
  obtain ⟨h2,h3⟩:=ih (fun q hq=>hl q (by simp [hq])) hx hi h1 hr
  refine ⟨h2,fun q hq R' hR'=>?_⟩
  rcases List.mem_cons.1 hq with rfl | hq
  ·exact (hR' ρ' h' w' _ r hx hi e hr).2
  ·exact h3 q hq R' hR'
theorem pends_mem {all:List Oper} {o:Oper}:∀ (l:List (Nat×(Hp→Res→Res))) (q:Nat×(Hp→Res→Res)),q∈pends all o l ↔ q∈l∧waits all o q.1 = false:=by
 intro l
 induction l with
 | nil=>intro q; simp [pends]
 | cons p l ih=>
  intro q
  unfold pends
  split
  ·rename_i ht
   rw [ih q]
   constructor
   ·rintro ⟨h1,h2⟩; exact ⟨by simp [h1],h2⟩
   ·rintro ⟨h1,h2⟩
    rcases List.mem_cons.1 h1 with rfl | h1
    ·rw [ht] at h2; cases h2
    ·exact ⟨h1,h2⟩
  ·rename_i ht
   rw [List.mem_cons,ih q]
   constructor
   ·rintro (rfl | ⟨h1,h2⟩)
    ·exact ⟨by simp,ht⟩
    ·exact ⟨by simp [h1],h2⟩
   ·rintro ⟨h1,h2⟩
    rcases List.mem_cons.1 h1 with rfl | h1
    ·exact .inl rfl
    ·exact .inr ⟨h1,h2⟩
end
end Go.AM
namespace Go.AM
open Go
set_option autoImplicit false
section
variable {P:Program} {ops:Array Oper} {Q:Exit→Act→World→Prop} {N0:Base} {n:Nat} {ρ0 ρ:Rho} {h0 h:Hp} {w0 w:World} {r:Res} {env:Env} {a:Act} {γ:FuncId→Option Fun}
theorem stepD_act {o:Oper} {i:Nat} {k:AV→Env→Hp→Res} (hγ:GSound P γ∧N0.fits P) (hi:ops[i]? = some o) (hs:St N0 n ρ0 h0 w0 ρ h w env a) (e:Sm (stepD P γ n ops.toList o env h k) r) (hr:Fine r)
  {K:Act→World→Prop} (hK:∀ v V ρ' h' w' env',Sm (k v env' h') r→Ext ρ ρ'→St N0 n ρ0 h0 w0 ρ' h' w' env' (a.put o.dst V)→K (a.put o.dst V) w'):wpOp P ops Q i K a w:=by
 unfold wpOp
 rw [hi]
 simp only
 unfold stepD at e
 split at e
 ·rename_i hg
  have hw:Region.wanted o (yielded ops a.tmps) = true:=by simp [Region.wanted,hg]
  rw [if_pos hw]
  obtain ⟨v,h',h1,h2⟩:=dOp_sound hγ o hs.inv hs.er rfl (e.fine hr)
  replace h1:=Eq.trans h1 e
  refine .inl (h2 _ _ fun V w' ρ' hout=>?_)
  obtain ⟨env',h3,h4⟩:=put_st h1 hr (hs.next hout) hout.val
  exact hK v V ρ' h' w' env' h3 hout.tr.ext h4
 ·rename_i j want hg
  split at e
  ·rename_i t ht
   have hw:Region.wanted o (yielded ops a.tmps) = (yielded ops a.tmps j == some want):=by simp [Region.wanted,hg]
   have mv:∀ x,Sm (ap (gsel (env t) want (ev env x)) (fun v=>put n o.dst v env fun env=>k v env h)) r→(execOp a.eval o).run P w = .ok (.value (a.eval x)) w →
     (if Region.wanted o (yielded ops a.tmps) = true then o.wp P a w K Q∨(o.asks P a w∧LetsOut Q) else K (a.put o.dst undef) w):=by
    intro x e hrun
    have hsel:=gsel_rel (ops:=ops) (want:=want) ht hs.er (ev_rel hs.er x)
    generalize gsel (env t) want (ev env x) = g at e hsel
    have e:Sm (put n o.dst g env (fun env=>k g env h)) r:=e
    obtain ⟨env',h3,h4⟩:=put_st e hr hs hsel
    rw [hw]
    split
    ·rename_i hy
     rw [if_pos hy] at h4
     refine .inl ?_
     unfold Oper.wp
     rw [hrun]
     exact hK _ _ ρ h w env' h3 (Ext.refl ρ) h4
    ·rename_i hy
     rw [if_neg hy] at h4
     exact hK _ _ ρ h w env' h3 (Ext.refl ρ) h4
   split at e
   ·rename_i x hop
    exact mv x e (by simp [execOp,hop])
   ·rename_i x hop
    exact mv x e (by simp [execOp,hop])
   ·obtain ⟨hne,hcase⟩:=jn_inv e hr
    rcases gd_inv (ops:=ops) ht hs.er (.eq rfl) hne with ⟨hy,hx⟩ | ⟨hy,hx⟩
    ·rw [hw,hy]
     simp only [beq_self_eq_true,if_true]
     obtain ⟨v,h',h1,h2⟩:=dOp_sound hγ o hs.inv hs.er rfl (hx.fine hne)
     replace h1:=Eq.trans h1 hx
     refine .inl (h2 _ _ fun V w' ρ' hout=>?_)
     rcases hcase with ⟨vs,hh,e1,e2⟩ | ⟨i',vs,hh,e1,e2⟩ | ⟨v',hh,e1,e2⟩
     ·obtain ⟨rfl,rfl⟩:[v] = vs∧h' = hh:=Sm.norm h1 e1
      have e2:Sm (put n o.dst v env (fun env=>k v env h')) r:=e2
      obtain ⟨env',h3,h4⟩:=put_st e2 hr (hs.next hout) hout.val
      exact hK v V ρ' h' w' env' h3 hout.tr.ext h4
     ·have h1:Res.norm [v] h' = _:=Eq.trans h1 e1; cases h1
     ·have h1:Res.norm [v] h' = _:=Eq.trans h1 e1; cases h1
    ·rw [hw,hy]
     simp only [Bool.false_eq_true,if_false]
     rcases hcase with ⟨vs,hh,e1,e2⟩ | ⟨i',vs,hh,e1,e2⟩ | ⟨v',hh,e1,e2⟩
     ·obtain ⟨rfl,rfl⟩:[AV.tup .nil] = vs∧h = hh:=Sm.norm hx e1
      have hu:VR ρ (.tup .nil) undef:=⟨#[],rfl,rfl⟩
      have e2:Sm (put n o.dst (.tup .nil) env (fun env=>k (.tup .nil) env h)) r:=e2
      obtain ⟨env',h3,h4⟩:=put_st e2 hr hs hu
      exact hK _ _ ρ h w env' h3 (Ext.refl ρ) h4
     ·have hx:Res.norm [.tup .nil] h = _:=Eq.trans hx e1; cases hx
     ·have hx:Res.norm [.tup .nil] h = _:=Eq.trans hx e1; cases hx
  ·exact absurd rfl (e.nf hr)
structure PendOK (P:Program) (ops:Array Oper) (N0:Base) (ρ:Rho) (L:Array Bool) (K:List (Nat×(World→Prop))) (pend:List (Nat×(Hp→Res→Res))):Prop where
 all:∀ q∈pend,∃ R,Recheck N0 q.2 R ρ
 has:∀ p∈K,NoAct P ops L p.1→∃ f,(p.1,f)∈pend∧Recheck N0 f p.2 ρ
theorem not_acts {o:Oper} (h:kindD P o.op = 0∨kindD P o.op = 1):¬ Acts P o:=fun ha=>h.elim ha.1 ha.2
theorem dDraw_sound (hγ:GSound P γ∧N0.fits P) {k:Env→Hp→Res} (hr:Fine r) (hsel:Region.noSelect ops = true) (hQp:∀ c a w,¬ Q (.panic c) a w)
  (hQ:∀ ρ h w env a,St N0 n ρ0 h0 w0 ρ h w env a→Sm (k env h) r→Q .normal a w):
  ∀ (rest:List Nat) (L:Array Bool) (K:List (Nat×(World→Prop))) (pend:List (Nat×(Hp→Res→Res))) (ρ:Rho) (h:Hp) (w:World) (env:Env) (a:Act),orderOk P ops rest L = true→Closed ops L →
   St N0 n ρ0 h0 w0 ρ h w env a→IK P ops K L w→PendOK P ops N0 ρ L K pend→Sm (dDraw P γ n ops.toList rest pend env h k) r→wpAnyI P ops Q (IK P ops K) rest.length L a w:=by
 intro rest
 induction rest with
 | nil=>
  intro L K pend ρ h w env a ho hc hs hI hp e
  have ho:(Region.ready .any ops L).isEmpty = true:=ho
  exact ⟨by simpa using ho,hQ ρ h w env a hs e⟩
 | cons i rest ih=>
  intro L K pend ρ h w env a ho hc hs hI hp e
  unfold orderOk at ho
  rw [Bool.and_eq_true] at ho
  obtain ⟨ho1,ho2⟩:=ho
  cases hoi:ops[i]? with
  | none=>rw [hoi] at ho1; cases ho1
  | some o=>
   rw [hoi] at ho1
   simp only at ho1
   have hli:ops.toList[i]? = some o:=by rw [Array.getElem?_toList]; exact hoi
   unfold dDraw at e
   rw [hli] at e
   simp only at e
   have sub:∀ p,NoAct P ops (L.setIfInBounds i true) p→NoAct P ops L p:=fun p hn j oj hj ha hl=>hn j oj hj ha (getD_set_true hl)
   have hI2:IK P ops K (L.setIfInBounds i true) w:=fun p hpk hn=>hI p hpk (sub _ hn)
   split at e
   ·rename_i hk
    rw [hk] at ho1
    simp only [Bool.and_eq_true] at ho1
    obtain ⟨v,V,env',e',hv,hs',hy⟩:=stepD_still hs (.inl hk) e hr
    have hrd:i∈Region.ready .any ops L:=by simpa using ho1.1
    refine hoist (v:=V) (R:=fun _=>True) hoi (Region.noSelect_spec hsel) hQp (not_acts (.inl hk)) rest.length L a w (Region.free_spec hoi ho1.2) hrd hc ?_ trivial hI hI2 ?_
    ·rcases hy with ⟨h1,-,h3⟩ | ⟨h1,h2⟩
     ·exact .inl ⟨h1,fun w _=>h3 hk w⟩
     ·exact .inr ⟨h1,h2⟩
    ·refine wpAnyI_mono ?_ _ _ _ _ (ih (L.setIfInBounds i true) K pend ρ h w env' _ ho2 (hc.set hrd) hs' hI2 ⟨hp.all,fun p hpk hn=>hp.has p hpk (sub _ hn)⟩ e')
     intro L' w' hIK p hpk
     rcases List.mem_cons.1 hpk with rfl | hpk
     ·exact fun _=>trivial
     ·exact hIK p hpk
   ·rename_i hk
    rw [hk] at ho1
    simp only [Bool.and_eq_true] at ho1
    obtain ⟨v,V,env',e',hv,hs',hy⟩:=stepD_still hs (.inr hk) e hr
    have hrd:i∈Region.ready .any ops L:=by simpa using ho1.1
    have hRw:Region.wanted o (yielded ops a.tmps) = true→(execOp a.eval o).run P w = .ok (.value V) w:=by
     rcases hy with ⟨-,h2,-⟩ | ⟨h1,-⟩
     ·exact fun _=>h2
     ·intro h; rw [h1] at h; cases h
    have hrc:=again_ok (P:=P) (ops:=ops) (N0:=N0) (γ:=γ) (V:=V) hk hs.er hv
    refine hoist (v:=V) (R:=fun w=>Region.wanted o (yielded ops a.tmps) = true→(execOp a.eval o).run P w = .ok (.value V) w) hoi (Region.noSelect_spec hsel) hQp (not_acts (.inr hk)) rest.length L a w (Region.free_spec hoi ho1.2) hrd hc ?_ hRw hI hI2 ?_
    ·rcases hy with ⟨h1,-,-⟩ | ⟨h1,h2⟩
     ·exact .inl ⟨h1,fun w hR=>hR h1⟩
     ·exact .inr ⟨h1,h2⟩
    ·refine ih (L.setIfInBounds i true) _ _ ρ h w env' _ ho2 (hc.set hrd) hs' ?_ ⟨?_,?_⟩ e'
     ·intro p hpk hn
      rcases List.mem_cons.1 hpk with rfl | hpk
      ·exact hRw
      ·exact hI2 p hpk hn
     ·intro q hq
      rcases List.mem_cons.1 hq with rfl | hq
      ·exact ⟨_,hrc⟩
      ·exact hp.all q hq
     ·intro p hpk hn
      rcases List.mem_cons.1 hpk with rfl | hpk
      ·exact ⟨_,by simp,hrc⟩
      ·obtain ⟨f,h1,h2⟩:=hp.has p hpk (sub _ hn)
       exact ⟨f,by simp [h1],h2⟩
   ·rename_i hk0 hk1
    have hact:Acts P o:=⟨hk0,hk1⟩
    have hrdy:Region.ready .any ops L = [i]:=by
     split at ho1
     ·exact absurd ‹_› hk0
     ·exact absurd ‹_› hk1
     ·split at ho1
      ·rename_i j hj
       rw [beq_iff] at ho1
       rw [hj,ho1]
      ·cases ho1
    have hrd:i∈Region.ready .any ops L:=by rw [hrdy]; simp
    refine ⟨fun h=>(by rw [hrdy] at h; cases h),fun j hj=>?_⟩
    obtain rfl:j = i:=by rw [hrdy] at hj; simpa using hj
    refine stepD_act hγ hoi hs e hr fun v V ρ' h' w' env' e' hx hs'=>?_
    have hall:∀ q∈pends ops.toList o pend,∃ R,Recheck N0 q.2 R ρ:=fun q hq=>hp.all q ((pends_mem pend q).1 hq).1
    obtain ⟨e2,hRs⟩:=agains_inv (pends ops.toList o pend) hall hx hs'.inv e' hr
    have hhas:∀ p∈K,NoAct P ops (L.setIfInBounds j true) p.1→∃ f,(p.1,f)∈pends ops.toList o pend∧Recheck N0 f p.2 ρ:=by
     intro p hpk hn
     obtain ⟨f,h1,h2⟩:=hp.has p hpk (sub _ hn)
     exact ⟨f,(pends_mem pend (p.1,f)).2 ⟨h1,hn j o hoi hact (getD_set_self (mem_ready.1 hrd).1)⟩,h2⟩
    have hI3:IK P ops K (L.setIfInBounds j true) w':=by
     intro p hpk hn
     obtain ⟨f,h1,h2⟩:=hhas p hpk hn
     exact hRs _ h1 p.2 h2
    refine ⟨hI3,ih (L.setIfInBounds j true) K (pends ops.toList o pend) ρ' h' w' env' _ ho2 (hc.set hrd) hs' hI3 ⟨?_,?_⟩ e2⟩
    ·intro q hq
     obtain ⟨R,hR⟩:=hall q hq
     exact ⟨R,hR.ext hx⟩
    ·intro p hpk hn
     obtain ⟨f,h1,h2⟩:=hhas p hpk hn
     exact ⟨f,h1,h2.ext hx⟩
end
end Go.AM
namespace Go.AM
open Go
set_option autoImplicit false
section
variable {P:Program} {ops:Array Oper} {Q:Exit→Act→World→Prop} {N0:Base} {ρ:Rho} {h h' hg:Hp} {w:World} {er:Env} {a:Act} {γ:FuncId→Option Fun} {o:Oper} {i:Nat} {v:AV}
theorem stepV_act (hγ:GSound P γ∧N0.fits P) (hi:ops[i]? = some o) (hinv:Inv N0 ρ h w) (he:ERel ρ er a) (e:Sm (stepV P γ ops.toList o er h) (.norm [v] h'))
  {K:Act→World→Prop} (hK:∀ V w' ρ',Out N0 ρ h w v h' V w' ρ'→K (a.put o.dst V) w'):wpOp P ops Q i K a w:=by
 unfold wpOp
 rw [hi]
 simp only
 unfold stepV at e
 split at e
 ·rename_i hgd
  have hw:Region.wanted o (yielded ops a.tmps) = true:=by simp [Region.wanted,hgd]
  rw [if_pos hw]
  obtain ⟨v1,h1,e1,h2⟩:=dOp_sound hγ o hinv he rfl (e.fine (by simp))
  obtain ⟨rfl,rfl⟩:v1 = v∧h1 = h':=by obtain ⟨k1,k2⟩:=Sm.norm (Eq.trans e1 e) rfl; cases k1; exact ⟨rfl,k2⟩
  exact .inl (h2 _ _ hK)
 ·rename_i j want hgd
  split at e
  ·rename_i t ht
   have hw:Region.wanted o (yielded ops a.tmps) = (yielded ops a.tmps j == some want):=by simp [Region.wanted,hgd]
   have mv:∀ x,Sm (Res.norm [gsel (er t) want (ev er x)] h) (.norm [v] h')→(execOp a.eval o).run P w = .ok (.value (a.eval x)) w →
     (if Region.wanted o (yielded ops a.tmps) = true then o.wp P a w K Q∨(o.asks P a w∧LetsOut Q) else K (a.put o.dst undef) w):=by
    intro x e hrun
    have hsel:=gsel_rel (ops:=ops) (want:=want) ht he (ev_rel he x)
    have ev1:gsel (er t) want (ev er x) = v:=by have k1:=(Sm.norm e rfl).1; cases k1; rfl
    have eh:h = h':=(Sm.norm e rfl).2
    subst eh
    rw [ev1] at hsel
    rw [hw]
    split
    ·rename_i hy
     rw [if_pos hy] at hsel
     refine .inl ?_
     unfold Oper.wp
     rw [hrun]
     exact hK _ w ρ ⟨hsel,hinv,Tr.refl ρ h w⟩
    ·rename_i hy
     rw [if_neg hy] at hsel
     exact hK _ w ρ ⟨hsel,hinv,Tr.refl ρ h w⟩
   split at e
   ·rename_i x hop
    exact mv x e (by simp [execOp,hop])
   ·rename_i x hop
    exact mv x e (by simp [execOp,hop])
   ·rcases gd_inv (ops:=ops) ht he e (by simp) with ⟨hy,hx⟩ | ⟨hy,hx⟩
    ·rw [hw,hy]
     simp only [beq_self_eq_true,if_true]
     obtain ⟨v1,h1,e1,h2⟩:=dOp_sound hγ o hinv he rfl (hx.fine (by simp))
     obtain ⟨rfl,rfl⟩:v1 = v∧h1 = h':=by obtain ⟨k1,k2⟩:=Sm.norm (Eq.trans e1 hx) rfl; cases k1; exact ⟨rfl,k2⟩
     exact .inl (h2 _ _ hK)
    ·rw [hw,hy]
     simp only [Bool.false_eq_true,if_false]
     obtain ⟨rfl,rfl⟩:AV.tup .nil = v∧h = h':=by obtain ⟨k1,k2⟩:=Sm.norm hx rfl; cases k1; exact ⟨rfl,k2⟩
     exact hK undef w ρ ⟨⟨#[],rfl,rfl⟩,hinv,Tr.refl ρ h w⟩
  ·exact absurd rfl (e.nf (by simp))
theorem stepV_still (hi:ops[i]? = some o) (he:ERel ρ er a) (hk:kindF P o.op = 0∨(kindF P o.op = 1∧Inv N0 ρ hg w)) (e:Sm (stepV P γ ops.toList o er hg) (.norm [v] h'))
  {K:Act→World→Prop} (hK:∀ V,VR ρ v V→K (a.put o.dst V) w):wpOp P ops Q i K a w:=by
 have one:∀ {k:AV→Hp→Res} {r:Res},Sm (dOp P γ er hg o.op k) r→Fine r→∃ v V,Sm (k v hg) r∧VR ρ v V∧(execOp a.eval o).run P w = .ok (.value V) w:=by
  intro k r e hr
  unfold kindF at hk
  cases hc:isCutP P o.op with
  | true=>
   rw [hc] at hk
   have hinv:Inv N0 ρ hg w:=by
    rcases hk with hk | hk
    ·cases hk
    ·exact hk.2
   have h0:kindD P o.op = 0:=by
    unfold isCutP at hc
    unfold kindD
    split at hc
    ·rename_i hop; rw [hop]
    ·cases hc
   obtain ⟨v,V,h1,h2,h3⟩:=dOp_pure o hinv he h0 rfl (e.fine hr)
   exact ⟨v,V,Eq.trans h1 e,h2,h3 w⟩
  | false=>
   rw [hc] at hk
   rcases hk with hk | hk
   ·obtain ⟨v,V,h1,h2,h3⟩:=dOp_pureC (N0:=N0) (w:=w) o (fun h=>by rw [hc] at h; cases h) he hk rfl (e.fine hr)
    exact ⟨v,V,Eq.trans h1 e,h2,h3 w⟩
   ·obtain ⟨v,V,h1,h2,h3⟩:=dOp_read o hk.2 he hk.1 rfl (e.fine hr)
    exact ⟨v,V,Eq.trans h1 e,h2,h3⟩
 unfold wpOp
 rw [hi]
 simp only
 unfold stepV at e
 split at e
 ·rename_i hgd
  have hw:Region.wanted o (yielded ops a.tmps) = true:=by simp [Region.wanted,hgd]
  rw [if_pos hw]
  obtain ⟨v1,V,e1,h2,h3⟩:=one e (by simp)
  obtain rfl:v1 = v:=by have k1:=(Sm.norm e1 rfl).1; cases k1; rfl
  refine .inl ?_
  unfold Oper.wp
  rw [h3]
  exact hK V h2
 ·rename_i j want hgd
  split at e
  ·rename_i t ht
   have hw:Region.wanted o (yielded ops a.tmps) = (yielded ops a.tmps j == some want):=by simp [Region.wanted,hgd]
   have mv:∀ x,Sm (Res.norm [gsel (er t) want (ev er x)] hg) (.norm [v] h')→(execOp a.eval o).run P w = .ok (.value (a.eval x)) w →
     (if Region.wanted o (yielded ops a.tmps) = true then o.wp P a w K Q∨(o.asks P a w∧LetsOut Q) else K (a.put o.dst undef) w):=by
    intro x e hrun
    have hsel:=gsel_rel (ops:=ops) (want:=want) ht he (ev_rel he x)
    have ev1:gsel (er t) want (ev er x) = v:=by have k1:=(Sm.norm e rfl).1; cases k1; rfl
    rw [ev1] at hsel
    rw [hw]
    split
    ·rename_i hy
     rw [if_pos hy] at hsel
     refine .inl ?_
     unfold Oper.wp
     rw [hrun]
     exact hK _ hsel
    ·rename_i hy
     rw [if_neg hy] at hsel
     exact hK _ hsel
   split at e
   ·rename_i x hop
    exact mv x e (by simp [execOp,hop])
   ·rename_i x hop
    exact mv x e (by simp [execOp,hop])
   ·rcases gd_inv (ops:=ops) ht he e (by simp) with ⟨hy,hx⟩ | ⟨hy,hx⟩
    ·rw [hw,hy]
     simp only [beq_self_eq_true,if_true]
     obtain ⟨v1,V,e1,h2,h3⟩:=one hx (by simp)
     obtain rfl:v1 = v:=by have k1:=(Sm.norm e1 rfl).1; cases k1; rfl
     refine .inl ?_
     unfold Oper.wp
     rw [h3]
     exact hK V h2
    ·rw [hw,hy]
     simp only [Bool.false_eq_true,if_false]
     obtain rfl:AV.tup .nil = v:=by have k1:=(Sm.norm hx rfl).1; cases k1; rfl
     exact hK undef ⟨#[],rfl,rfl⟩
  ·exact absurd rfl (e.nf (by simp))
theorem bld_goes:∀ (ps:List (Bool×Nat×AV)) {k:AV→Res},bld ps k ≠ .fail→∃ l,bld ps k = k l:=by
 intro ps
 induction ps with
 | nil=>intro k _; exact ⟨_,rfl⟩
 | cons p ps ih=>
  intro k hr
  obtain ⟨b,m,x⟩:=p
  cases b with
  | false=>
   obtain ⟨-,h2⟩:=ifF_inv (b:=one x) (x:=bld ps fun t=>k (.cons x t)) rfl hr
   obtain ⟨l,h3⟩:=ih (by rw [h2]; exact hr)
   exact ⟨_,h2.symm.trans h3⟩
  | true=>
   obtain ⟨l1,hx,h1⟩:=cA_inv (x:=x) (k:=fun l=>ifB (Nat.beq (len l) m) (bld ps fun t=>k (app l t)) .fail) rfl hr
   have h1:ifB (Nat.beq (len l1) m) (bld ps fun t=>k (app l1 t)) .fail = bld ((true,m,x) :: ps) k:=h1
   obtain ⟨-,h2⟩:=ifF_inv h1 hr
   obtain ⟨l,h3⟩:=ih (by rw [h2]; exact hr)
   exact ⟨_,h2.symm.trans h3⟩
theorem mkL_norm {h:Hp} {op:Op} (hr:mkL P er h op ≠ .fail):∃ l h',mkL P er h op = .norm [l] h':=by
 cases op with
 | alloc t=>exact ⟨_,_,rfl⟩
 | box t x=>exact ⟨_,_,rfl⟩
 | buildSlice t n ps=>
  simp only [mkL] at hr ⊢
  generalize P.underlying t = u at hr ⊢
  cases u with
  | none=>exact absurd rfl hr
  | some d=>
   cases d with
   | slice e=>
    simp only at hr ⊢
    obtain ⟨-,h2⟩:=sif_inv rfl hr
    rw [← h2]
    obtain ⟨l,h3⟩:=bld_goes _ (by rw [h2]; exact hr)
    exact ⟨_,_,h3⟩
   | _=>exact absurd rfl hr
 | _=>exact absurd rfl hr
theorem mkL_exec {l:AV} (he:ERel ρ er a) (e:mkL P er hg o.op = .norm [l] h') (hl:ones l = true) (hlen:lenF P o.op (len l) = true):
  ∃ (Vs:Array Value) (ty:TypeId) (V0:Value),LR ρ l Vs.toList∧(execOp a.eval o).run P w = .ok (.value V0) (w.alloc (.cells Vs ty)) ∧
   ∀ (ρ':Rho) (b:Nat) (p:Pl),ρ' b = some p→p.r = w.heap.size→p.base = 0→p.sz = Vs.size→VR ρ' (valF P o.op b) V0:=by
 generalize ho:o.op = op at e hlen
 have hx:∀ v:Operand,VR ρ (ev er v) (a.eval v):=ev_rel he
 cases op with
 | alloc t=>
  have e1:cells (zeroV P t) = l:=by cases e; rfl
  obtain ⟨z,hz,hlr⟩:=zero_rel (P:=P) (ρ:=ρ) (t:=t) (by rw [e1]; exact hl)
  rw [e1] at hlr
  refine ⟨z.cells,t,.pointer (some ⟨w.heap.size,0,none⟩),hlr,?_,fun ρ' b p hp h1 h2 _=>⟨p,hp,by rw [h1,h2]⟩⟩
  simp only [execOp,ho]
  unfold Instr.alloc
  rw [Sem.run_bind,Sem.run_bind,hz]
  simp [newVar,newRow]
 | box t x=>
  have e1:cells (ev er x) = l:=by cases e; rfl
  have hn:ev er x ≠ .unk:=ones_known (by rw [e1]; exact hl)
  have hlr:=cells_rel (hx x) hn
  rw [e1] at hlr
  refine ⟨(a.eval x).cells,t,.pointer (some ⟨w.heap.size,0,none⟩),hlr,?_,fun ρ' b p hp h1 h2 _=>⟨p,hp,by rw [h1,h2]⟩⟩
  simp [execOp,ho,Instr.box,newVar,newRow]
 | buildSlice t n ps=>
  simp only [mkL] at e
  simp only [lenF] at hlen
  simp only [valF]
  split at e
  ·rename_i u hu
   rw [hu] at hlen
   simp only [beq_iff] at hlen
   have hlen:len l = n * szOf P u:=hlen
   obtain ⟨hc,e⟩:=sif_inv e (by simp)
   simp only [Bool.and_eq_true,beq_iff,ble_iff] at hc
   obtain ⟨h1,h2,h3,h4,h5⟩:=hc
   have hok:okT P u = true:=by simp only [okS,Bool.and_eq_true] at h1; exact h1.1
   obtain ⟨z,hz,hzr⟩:=zero_rel (P:=P) (ρ:=ρ) (t:=u) h3
   have hzl:=LR_len _ _ hzr
   rw [h4,Array.length_toList] at hzl
   have hL:=repL_rel _ _ hzr n
   rw [← made_flat] at hL
   have hlen2:len (repL (cells (zeroV P u)) n) = sizes P (rep u n):=by
    rw [LR_len _ _ hL,Array.length_toList,size_madeCells,sizes_sum,rep_eq,List.map_replicate,List.sum_replicate_nat,hzl]
   obtain ⟨l1,cs,g1,g2,g3,g4⟩:=fill_ok (P:=P) (place:=fun i=>some (i * szOf P u,szOf P u)) (show PRel ρ (lowered er ps.toList) (ps.map fun (i,x)=>(i,a.eval x)).toList by rw [Array.toList_map]; exact lowered_rel he ps.toList) (by rw [rep_len]; exact h2) (by intro v hv; rw [rep_mem hv]; exact h1) hL hlen2 (rep_place u n) e (by simp)
   obtain rfl:l1 = l:=by cases g1; rfl
   refine ⟨cs,u,.slice (some ⟨w.heap.size,0,none⟩) n n,g3,?_,fun ρ' b p hp k1 k2 k3=>?_⟩
   ·simp only [execOp,ho]
    rw [Sem.run_bind]
    have hb:(Instr.buildSlice t n (ps.map fun (i,x)=>(i,a.eval x))).run P w = .ok (.slice (some ⟨w.heap.size,0,none⟩) n n) (w.alloc (.cells cs u)):=by
     rw [Array.toArray_toList] at g2
     have h5:n * szOf P u≤16777216:=h5
     unfold Instr.buildSlice
     rw [Sem.run_bind,run_und hu]
     simp only [Result.andThen_ok]
     rw [Sem.run_bind,sizeOf_run hok]
     simp only [Result.andThen_ok]
     have hbig:¬ n * szOf P u > 2 ^ 24:=by omega
     simp only [if_neg hbig,pure_bind]
     by_cases h0:n * szOf P u = 0
     ·rw [← hzl,h0] at g2
      have he:madeCells z.cells 0 = madeCells #[] 0:=by simp [madeCells]
      rw [he] at g2
      simp only [h0,if_true]
      have g2:Instr.fill (fun i=>some (i * szOf P u,szOf P u)) ((Array.range 0).map ((#[]:Array Value)[· % (#[]:Array Value).size]!)) (ps.map fun (i,x)=>(i,a.eval x)).toList = some cs:=g2
      rw [g2]
      simp [newRow]
     ·simp only [if_neg h0]
      rw [Sem.run_bind,hz]
      simp only [Result.andThen_ok]
      rw [← hzl] at g2
      have g2:Instr.fill (fun i=>some (i * szOf P u,szOf P u)) ((Array.range (n * szOf P u)).map (z.cells[· % z.cells.size]!)) (ps.map fun (i,x)=>(i,a.eval x)).toList = some cs:=g2
      rw [g2]
      simp [newRow]
    rw [hb]
    rfl
   ·refine ⟨p,n,hp,by rw [k1,k2],Nat.le_refl _,.inr rfl,?_⟩
    have hcl:=LR_len _ _ g3
    rw [Array.length_toList] at hcl
    rw [k2,k3]
    omega
  ·cases e
 | _=>cases e
end
end Go.AM
