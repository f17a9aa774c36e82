/-
  An abstract machine for the model's code, part 5: what it answers is what the model does.
-/
import Derived.Test.YtbkkfmjofmfijaaGreatDoorEd
import Derived.Shelf.Strings.Replace
import Derived.ChangeSlices
import Derived.OpenShut
set_option linter.unusedVariables false
set_option linter.unusedSimpArgs false
namespace Go.AM
open Go
set_option autoImplicit false
noncomputable section
structure Snap where
 k:Nat
 v:AV
 nb:Nat
 L:List (Nat×Blk×Option (Nat×Nat))
 M:List (Nat×AV)
def cellL (l:List AV):Nat→T AV:=List.rec (motive:=fun _=>Nat→T AV) (fun _=>.e) (fun v _ ih i=>T.set v (ih (Nat.succ i)) i) l
abbrev iN (n:Nat):AV:=.int 63 (.ofNat n)
abbrev sN (n x:Nat):AV:=.str n x
def Hs (k:Nat):Hp:=⟨k,.e,.e,.e,0,⟨[],.unk⟩⟩
def addB (l:List (Nat×Blk×Option (Nat×Nat))):T Blk→T Blk:=List.rec (motive:=fun _=>T Blk→T Blk) (fun t=>t) (fun p _ ih t=>ih (T.set p.2.1 t p.1)) l
def addG (l:List (Nat×Blk×Option (Nat×Nat))):T (Nat×Nat)→T (Nat×Nat):=
 List.rec (motive:=fun _=>T (Nat×Nat)→T (Nat×Nat)) (fun t=>t) (fun p _ ih t=>Option.rec (motive:=fun _=>T (Nat×Nat)) (ih t) (fun q=>ih (T.set q t p.2.1.g)) p.2.2) l
def addM (l:List (Nat×AV)):T AV→T AV:=List.rec (motive:=fun _=>T AV→T AV) (fun t=>t) (fun p _ ih t=>ih (T.set p.2 t p.1)) l
def Snap.lay (S:Snap) (h:Hp):Hp:=Hp.rec (motive:=fun _=>Hp) (fun _ bs gs ms lo oc=>⟨S.nb,addB S.L bs,addG S.L gs,addM S.M ms,lo,oc⟩) h
def Snap.fn (S:Snap):Fun:=fun args h=>List.rec (motive:=fun _=>Res) (ifB (Nat.ble h.nb S.k) (.ret S.v (S.lay h)) .fail) (fun _ _ _=>.fail) args
abbrev Seen:=Option (AV×Nat×List (Option Blk×Option (Nat×Nat))×List (Option AV))
def Snap.see (S:Snap) (r:Res):Seen:=
 Res.rec (motive:=fun _=>Seen) none (fun _ _=>none) (fun _ _ _=>none) (fun v h=>some (v,h.nb,S.L.map (fun p=>(h.bs.get p.1,h.gs.get p.2.1.g)),S.M.map (fun p=>h.ms.get p.1))) (fun p _ ih=>Bool.rec (motive:=fun _=>Seen) none ih p) r
def Snap.said (S:Snap):Seen:=some (S.v,S.nb,S.L.map (fun p=>(some p.2.1,p.2.2)),S.M.map (fun p=>some p.2))
def Snap.ok (S:Snap):Bool:=List.rec (motive:=fun _=>Bool) true (fun p _ ih=>Bool.rec (motive:=fun _=>Bool) false (Bool.rec (motive:=fun _=>Bool) false ih p.2.1.fr) (Nat.ble S.k p.2.1.g)) S.L
theorem addB_get (l:List (Nat×Blk×Option (Nat×Nat))):∀ (t:T Blk) (k:Nat) (B:Blk),(addB l t).get k = some B→(∃ p∈l,p.1 = k∧p.2.1 = B)∨t.get k = some B:=by
 induction l with
 | nil=>intro t k B h; exact .inr h
 | cons p l ih=>
  intro t k B h
  rcases ih _ k B h with ⟨q,h1,h2⟩ | h1
  ·exact .inl ⟨q,List.mem_cons_of_mem _ h1,h2⟩
  ·rw [T.get_set] at h1
   by_cases hk:k = p.1
   ·rw [if_pos hk] at h1
    exact .inl ⟨p,List.mem_cons_self,hk.symm,Option.some.inj h1⟩
   ·rw [if_neg hk] at h1; exact .inr h1
theorem addM_get (l:List (Nat×AV)):∀ (t:T AV) (k:Nat) (B:AV),(addM l t).get k = some B→(∃ p∈l,p.1 = k∧p.2 = B)∨t.get k = some B:=by
 induction l with
 | nil=>intro t k B h; exact .inr h
 | cons p l ih=>
  intro t k B h
  rcases ih _ k B h with ⟨q,h1,h2⟩ | h1
  ·exact .inl ⟨q,List.mem_cons_of_mem _ h1,h2⟩
  ·rw [T.get_set] at h1
   by_cases hk:k = p.1
   ·rw [if_pos hk] at h1
    exact .inl ⟨p,List.mem_cons_self,hk.symm,Option.some.inj h1⟩
   ·rw [if_neg hk] at h1; exact .inr h1
theorem addG_none {p:Nat×Blk×Option (Nat×Nat)} {l:List (Nat×Blk×Option (Nat×Nat))} {t:T (Nat×Nat)} (h:p.2.2 = none):addG (p :: l) t = addG l t:=by
 show Option.rec (motive:=fun _=>T (Nat×Nat)) (addG l t) (fun q=>addG l (T.set q t p.2.1.g)) p.2.2 = _
 rw [h]
theorem addG_some {p:Nat×Blk×Option (Nat×Nat)} {q:Nat×Nat} {l:List (Nat×Blk×Option (Nat×Nat))} {t:T (Nat×Nat)} (h:p.2.2 = some q):addG (p :: l) t = addG l (T.set q t p.2.1.g):=by
 show Option.rec (motive:=fun _=>T (Nat×Nat)) (addG l t) (fun q=>addG l (T.set q t p.2.1.g)) p.2.2 = _
 rw [h]
theorem addG_get (l:List (Nat×Blk×Option (Nat×Nat))):∀ (t:T (Nat×Nat)) (g:Nat) (q:Nat×Nat),(addG l t).get g = some q→(∃ p∈l,p.2.1.g = g∧p.2.2 = some q)∨t.get g = some q:=by
 induction l with
 | nil=>intro t k B h; exact .inr h
 | cons p l ih=>
  intro t g q h
  cases hp:p.2.2 with
  | none=>
   rw [addG_none hp] at h
   rcases ih _ g q h with ⟨q,h1,h2⟩ | h1
   ·exact .inl ⟨q,List.mem_cons_of_mem _ h1,h2⟩
   ·exact .inr h1
  | some q0=>
   rw [addG_some hp] at h
   rcases ih _ g q h with ⟨q,h1,h2⟩ | h1
   ·exact .inl ⟨q,List.mem_cons_of_mem _ h1,h2⟩
   ·rw [T.get_set] at h1
    by_cases hk:g = p.2.1.g
    ·rw [if_pos hk] at h1
     exact .inl ⟨p,List.mem_cons_self,hk.symm,hp.trans h1⟩
    ·rw [if_neg hk] at h1; exact .inr h1
theorem addG_keeps (l:List (Nat×Blk×Option (Nat×Nat))):∀ (t:T (Nat×Nat)) (g:Nat) (q:Nat×Nat),t.get g = some q→∃ q',(addG l t).get g = some q':=by
 induction l with
 | nil=>intro t g q h; exact ⟨q,h⟩
 | cons p l ih=>
  intro t g q h
  cases hp:p.2.2 with
  | none=>rw [addG_none hp]; exact ih t g q h
  | some q0=>
   rw [addG_some hp]
   by_cases hk:g = p.2.1.g
   ·exact ih _ g q0 (by rw [T.get_set,if_pos hk])
   ·exact ih _ g q (by rw [T.get_set,if_neg hk]; exact h)
theorem addG_has (l:List (Nat×Blk×Option (Nat×Nat))):∀ (t:T (Nat×Nat)) (p:Nat×Blk×Option (Nat×Nat)) (q:Nat×Nat),p∈l→p.2.2 = some q→∃ q',(addG l t).get p.2.1.g = some q':=by
 induction l with
 | nil=>intro t p q h; cases h
 | cons x l ih=>
  intro t p q h hq
  rcases List.mem_cons.1 h with rfl | h
  ·rw [addG_some hq]
   exact addG_keeps l _ _ q (by rw [T.get_set,if_pos rfl])
  ·cases hx:x.2.2 with
   | none=>rw [addG_none hx]; exact ih _ p q h hq
   | some q0=>rw [addG_some hx]; exact ih _ p q h hq
theorem addG_out (l:List (Nat×Blk×Option (Nat×Nat))):∀ (t:T (Nat×Nat)) (g:Nat),(∀ p∈l,p.2.1.g ≠ g)→(addG l t).get g = t.get g:=by
 induction l with
 | nil=>intro t g _; rfl
 | cons x l ih=>
  intro t g h
  have h1:∀ p∈l,p.2.1.g ≠ g:=fun p hp=>h p (List.mem_cons_of_mem _ hp)
  cases hx:x.2.2 with
  | none=>rw [addG_none hx]; exact ih _ g h1
  | some q0=>rw [addG_some hx,ih _ g h1,T.get_set,if_neg (fun e=>h x List.mem_cons_self e.symm)]
theorem map_eq_mem {α β:Type} {f g:α→β}:∀ {l:List α},l.map f = l.map g→∀ x∈l,f x = g x:=by
 intro l
 induction l with
 | nil=>intro _ x h; cases h
 | cons y l ih=>
  intro h x hx
  rw [List.map_cons,List.map_cons] at h
  obtain ⟨h1,h2⟩:=List.cons.inj h
  rcases List.mem_cons.1 hx with rfl | hx
  ·exact h1
  ·exact ih h2 x hx
theorem Snap.ok_inv {S:Snap} (h:S.ok = true):∀ p∈S.L,S.k≤p.2.1.g∧p.2.1.fr = true:=by
 unfold Snap.ok at h
 generalize S.L = l at h ⊢
 induction l with
 | nil=>intro p hp; cases hp
 | cons x l ih=>
  intro p hp
  have h:Bool.rec (motive:=fun _=>Bool) false (Bool.rec (motive:=fun _=>Bool) false (List.rec (motive:=fun _=>Bool) true (fun p _ ih=>Bool.rec (motive:=fun _=>Bool) false (Bool.rec (motive:=fun _=>Bool) false ih p.2.1.fr) (Nat.ble S.k p.2.1.g)) l) x.2.1.fr) (Nat.ble S.k x.2.1.g) = true:=h
  cases h1:Nat.ble S.k x.2.1.g with
  | false=>rw [h1] at h; cases h
  | true=>
   cases h2:x.2.1.fr with
   | false=>rw [h1,h2] at h; cases h
   | true=>
    rw [h1,h2] at h
    rcases List.mem_cons.1 hp with rfl | hp
    ·exact ⟨Nat.le_of_ble_eq_true h1,h2⟩
    ·exact ih h p hp
theorem Snap.see_inv {S:Snap} {r:Res} (h:S.see r = S.said):∃ h1,now r = .ret S.v h1∧h1.nb = S.nb∧(∀ p∈S.L,h1.bs.get p.1 = some p.2.1∧h1.gs.get p.2.1.g = p.2.2)∧∀ p∈S.M,h1.ms.get p.1 = some p.2:=by
 induction r with
 | ret v h1=>
  have h:some (v,h1.nb,S.L.map (fun p=>(h1.bs.get p.1,h1.gs.get p.2.1.g)),S.M.map (fun p=>h1.ms.get p.1)) = some (S.v,S.nb,S.L.map (fun p=>(some p.2.1,p.2.2)),S.M.map (fun p=>some p.2)):=h
  obtain h:=Option.some.inj h
  obtain ⟨e1,h⟩:=Prod.mk.inj h
  obtain ⟨e2,h⟩:=Prod.mk.inj h
  obtain ⟨e3,e4⟩:=Prod.mk.inj h
  subst e1
  exact ⟨h1,rfl,e2,fun p hp=>Prod.mk.inj (map_eq_mem e3 p hp),map_eq_mem e4⟩
 | ask p q ih=>
  cases p with
  | true=>exact ih h
  | false=>cases h
 | _=>cases h
theorem inv_Hs {w:World} {g:Option Nat} (k:Nat) (hj:(⟨w.heap.size,g⟩:Base).J w):Inv ⟨w.heap.size,g⟩ (fun _=>none) (Hs k) w where
 blk:=fun b B h=>by cases h
 nb:=fun b B h=>by cases h
 gnb:=fun b B h=>by cases h
 gs:=fun g q h=>by cases h
 als:=fun b1 b2 B1 B2 p1 p2 h=>by cases h
 lim:=fun b1 b2 B1 B2 p1 p2 h=>by cases h
 free:=fun _ _=>rfl
 wsz:=Nat.le_refl _
 mp:=⟨fun b m h=>(by cases h),fun b1 b2 m1 m2 p1 p2 h=>(by cases h)⟩
 jj:=hj
theorem grp_of {h:Hp} {g:Nat}:h.grp g = match h.gs.get g with | some q=>q | none=>(g,g):=by
 unfold Hp.grp
 cases h.gs.get g <;> rfl
theorem Snap.sound {P:Program} {f:FuncId} {g:Fun} (hF:FSound P f g) (S:Snap) (hs:S.see (g [] (Hs S.k)) = S.said) (hok:S.ok = true):FSound P f S.fn:=by
 intro N0 hN ρ h w args Args v h' e hi ha
 cases args with
 | cons x l=>exact absurd (show Res.fail = .ret v h' from e) (by simp)
 | nil=>
  have e:ifB (Nat.ble h.nb S.k) (.ret S.v (S.lay h)) .fail = Res.ret v h':=by
   have e:now (ifB (Nat.ble h.nb S.k) (.ret S.v (S.lay h)) .fail) = Res.ret v h':=e
   cases hb:Nat.ble h.nb S.k <;> (rw [hb] at e; exact e)
  obtain ⟨hk,e⟩:=ifF_inv e (by intro h; cases h)
  rw [ble_iff] at hk
  injection e with e1 e2
  subst e1
  subst e2
  obtain ⟨h1,er,hnb,hL,hM⟩:=S.see_inv hs
  have hO:=S.ok_inv hok
  have hj:(⟨w.heap.size,N0.g⟩:Base).J w:=fun g hg=>by
   obtain ⟨h1,m,h2⟩:=hi.jj g hg
   exact ⟨Nat.lt_of_lt_of_le h1 hi.wsz,m,h2⟩
  have hA:Args.toList = []:=by cases hA:Args.toList with
   | nil=>rfl
   | cons y m=>rw [hA] at ha; cases ha
  refine (hF ⟨w.heap.size,N0.g⟩ hN (fun _=>none) (Hs S.k) w [] Args S.v h1 er (inv_Hs S.k hj) (by rw [hA]; exact .nil)).mono fun e w' ⟨V,ρ1,h2,ho⟩=>⟨V,fun b=>if b < S.k then ρ b else ρ1 b,h2,?_⟩
    -- what was there, what is new
  have lo1:∀ b p,ρ1 b = some p→S.k≤b:=fun b p hb=>by
   rcases ho.tr.new b p hb with h | ⟨-,h,-⟩
   ·cases h
   ·exact h
  have lo0:∀ b p,ρ b = some p→b < S.k:=fun b p hb=>by
   by_cases hbn:h.nb≤b
   ·rw [hi.free b hbn] at hb; cases hb
   ·omega
  have ext1:Ext ρ1 (fun b=>if b < S.k then ρ b else ρ1 b):=fun b p hb=>by
   have:=lo1 b p hb
   show (if b < S.k then ρ b else ρ1 b) = some p
   rw [if_neg (by omega)]; exact hb
  have ext0:Ext ρ (fun b=>if b < S.k then ρ b else ρ1 b):=fun b p hb=>by
   have:=lo0 b p hb
   show (if b < S.k then ρ b else ρ1 b) = some p
   rw [if_pos this]; exact hb
  have hk1:S.k≤h1.nb:=ho.tr.nb
  have frame:∀ r,r < w.heap.size→w'.heap[r]? = w.heap[r]?:=fun r hr=>ho.tr.frame r hr (fun b B p hb=>by cases hb) (fun b m p hb=>by cases hb)
    -- the blocks
  have hbs:∀ b B,(S.lay h).bs.get b = some B→(b < S.k∧h.bs.get b = some B)∨(S.k≤b∧h1.bs.get b = some B∧∃ q,(b,B,q)∈S.L):=by
   intro b B hb
   have hb:(addB S.L h.bs).get b = some B:=hb
   rcases addB_get S.L h.bs b B hb with ⟨p,g1,g2,g3⟩ | g1
   ·have h3:=(hL p g1).1
    rw [g2,g3] at h3
    obtain ⟨q,h4,-⟩:=ho.inv.blk b B h3
    exact .inr ⟨lo1 b q h4,h3,p.2.2,by rw [← g2,← g3]; exact g1⟩
   ·exact .inl ⟨Nat.lt_of_lt_of_le (hi.nb b B g1) hk,g1⟩
    -- the groups
  have hg0:∀ g,g < S.k→(S.lay h).grp g = h.grp g:=by
   intro g hg
   rw [grp_of,grp_of]
   show (match (addG S.L h.gs).get g with | some q=>q | none=>(g,g)) = _
   rw [addG_out S.L h.gs g (fun p hp hpg=>by have:=(hO p hp).1; omega)]
  have hgn:∀ g,S.k≤g→h.gs.get g = none:=by
   intro g hg
   cases hq:h.gs.get g with
   | none=>rfl
   | some q=>have:=(hi.gs g q hq).1; omega
  have hgL:∀ p∈S.L,(addG S.L h.gs).get p.2.1.g = h1.gs.get p.2.1.g:=by
   intro p hp
   have hkp:=(hO p hp).1
   cases hq:p.2.2 with
   | none=>
    have h3:=(hL p hp).2
    rw [h3,hq]
    cases hx:(addG S.L h.gs).get p.2.1.g with
    | none=>rfl
    | some q=>
     rcases addG_get S.L h.gs _ q hx with ⟨p',k1,k2,k3⟩ | k1
     ·have h4:=(hL p' k1).2
      rw [k2,h3,hq,k3] at h4
      cases h4
     ·rw [hgn _ hkp] at k1; cases k1
   | some q=>
    obtain ⟨q',hx⟩:=addG_has S.L h.gs p q hp hq
    rw [hx]
    rcases addG_get S.L h.gs _ q' hx with ⟨p',k1,k2,k3⟩ | k1
    ·have h4:=(hL p' k1).2
     rw [k2,k3] at h4
     exact h4.symm
    ·rw [hgn _ hkp] at k1; cases k1
  have hg1:∀ p∈S.L,(S.lay h).grp p.2.1.g = h1.grp p.2.1.g:=by
   intro p hp
   rw [grp_of,grp_of]
   show (match (addG S.L h.gs).get p.2.1.g with | some q=>q | none=>(p.2.1.g,p.2.1.g)) = _
   rw [hgL p hp]
  have rd0:∀ b B,h.bs.get b = some B→readable (S.lay h) b B→readable h b B:=fun b B hb hr hf=>by
   have h3:=hr hf
   have h4:=(hi.gnb b B hb hf).1
   rw [hg0 B.g (by omega)] at h3
   exact h3
  have rd1:∀ b B q,(b,B,q)∈S.L→readable (S.lay h) b B→readable h1 b B:=fun b B q hb hr hf=>by
   have h3:=hr hf
   rw [hg1 _ hb] at h3
   exact h3
  have r0:∀ b B p,h.bs.get b = some B→ρ b = some p→p.r < w.heap.size:=fun b B p hb hp=>by
   obtain ⟨p',h3,h4⟩:=hi.blk b B hb
   rw [hp] at h3
   obtain rfl:=Option.some.inj h3
   exact h4.lt
  have r1:∀ b B p,h1.bs.get b = some B→B.fr = true→ρ1 b = some p→w.heap.size≤p.r:=fun b B p hb hf hp=>by
   rcases ho.tr.img 0 (Nat.zero_le _) b B p hb ⟨hf,Nat.zero_le _⟩ hp with h3 | ⟨b0,B0,p0,h3,-⟩
   ·exact h3
   ·cases h3
  have ρ0:∀ b,b < S.k→(if b < S.k then ρ b else ρ1 b) = ρ b:=fun b hb=>if_pos hb
  have ρ1':∀ b,S.k≤b→(if b < S.k then ρ b else ρ1 b) = ρ1 b:=fun b hb=>if_neg (by omega)
    -- the maps
  have hms:∀ b m,(S.lay h).ms.get b = some m→(b < S.k∧h.ms.get b = some m)∨(S.k≤b∧h1.ms.get b = some m):=by
   intro b m hb
   have hb:(addM S.M h.ms).get b = some m:=hb
   rcases addM_get S.M h.ms b m hb with ⟨p,g1,g2,g3⟩ | g1
   ·have h3:=hM p g1
    rw [g2,g3] at h3
    obtain ⟨-,q,o,h4,-⟩:=ho.inv.mp.ent b m h3
    exact .inr ⟨lo1 b q h4,h3⟩
   ·exact .inl ⟨Nat.lt_of_lt_of_le (hi.mp.ent b m g1).1 hk,g1⟩
  have m0:∀ b m p,h.ms.get b = some m→ρ b = some p→p.r < w.heap.size:=fun b m p hb hp=>by
   obtain ⟨-,p',o,h3,-,h4,-⟩:=hi.mp.ent b m hb
   rw [hp] at h3
   obtain rfl:=Option.some.inj h3
   exact (Array.getElem?_eq_some_iff.1 h4).1
  have m1:∀ b m p,h1.ms.get b = some m→ρ1 b = some p→w.heap.size≤p.r:=fun b m p hb hp=>by
   obtain ⟨-,p',o,h3,h5,h4,-⟩:=ho.inv.mp.ent b m hb
   rw [hp] at h3
   obtain rfl:=Option.some.inj h3
   exact h5
  refine ⟨ho.val.ext ext1,?_,?_⟩
  ·refine ⟨?_,?_,?_,?_,?_,?_,?_,?_,?_,?_⟩
   · -- blk
    intro b B hb
    rcases hbs b B hb with ⟨h3,h4⟩ | ⟨h3,h4,q,h5⟩
    ·obtain ⟨p,h6,h7⟩:=hi.blk b B h4
     exact ⟨p,ext0 b p h6,h7.later ext0 (frame _ h7.lt) (rd0 b B h4)⟩
    ·obtain ⟨p,h6,h7⟩:=ho.inv.blk b B h4
     obtain ⟨cs,e,fz,k1,k2,k3,k4⟩:=h7.obj
     refine ⟨p,ext1 b p h6,⟨⟨cs,e,fz,k1,k2,k3,fun hr i hi'=>?_⟩,h7.fit,?_,?_⟩⟩
     ·obtain ⟨V,k5,k6⟩:=k4 (rd1 b B q h5 hr) i hi'
      exact ⟨V,k5,k6.ext ext1⟩
     ·intro hf
      exact Nat.le_trans hi.wsz (r1 b B p h4 hf h6)
     ·intro hf
      have:=(hO _ h5).2
      rw [show B.fr = true from this] at hf
      cases hf
   ·intro b B hb
    show b < S.nb
    rcases hbs b B hb with ⟨h3,h4⟩ | ⟨h3,h4,q,h5⟩
    ·omega
    ·rw [← hnb]; exact ho.inv.nb b B h4
   ·intro b B hb hf
    show B.g < S.nb∧b≤((S.lay h).grp B.g).1
    rcases hbs b B hb with ⟨h3,h4⟩ | ⟨h3,h4,q,h5⟩
    ·obtain ⟨k1,k2⟩:=hi.gnb b B h4 hf
     rw [hg0 B.g (by omega)]
     exact ⟨by omega,k2⟩
    ·obtain ⟨k1,k2⟩:=ho.inv.gnb b B h4 hf
     rw [hg1 _ h5,← hnb]
     exact ⟨k1,k2⟩
   ·intro g q hq
    show g < S.nb∧q.1 < S.nb∧q.2≤q.1
    rcases addG_get S.L h.gs g q hq with ⟨p,k1,k2,k3⟩ | k1
    ·have h4:=(hL p k1).2
     rw [k2,k3] at h4
     rw [← hnb]
     exact ho.inv.gs g q h4
    ·obtain ⟨k2,k3,k4⟩:=hi.gs g q k1
     exact ⟨by omega,by omega,k4⟩
   ·intro b1 b2 B1 B2 p1 p2 g1 g2 f1 f2 q1 q2 er
    rcases hbs b1 B1 g1 with ⟨h3,h4⟩ | ⟨h3,h4,x,h5⟩ <;> rcases hbs b2 B2 g2 with ⟨k3,k4⟩ | ⟨k3,k4,y,k5⟩
    ·rw [ρ0 b1 h3] at q1; rw [ρ0 b2 k3] at q2
     exact hi.als b1 b2 B1 B2 p1 p2 h4 k4 f1 f2 q1 q2 er
    ·rw [ρ0 b1 h3] at q1; rw [ρ1' b2 k3] at q2
     have:=r0 b1 B1 p1 h4 q1
     have:=r1 b2 B2 p2 k4 f2 q2
     omega
    ·rw [ρ1' b1 h3] at q1; rw [ρ0 b2 k3] at q2
     have:=r1 b1 B1 p1 h4 f1 q1
     have:=r0 b2 B2 p2 k4 q2
     omega
    ·rw [ρ1' b1 h3] at q1; rw [ρ1' b2 k3] at q2
     exact ho.inv.als b1 b2 B1 B2 p1 p2 h4 k4 f1 f2 q1 q2 er
   ·intro b1 b2 B1 B2 p1 p2 g1 g2 f1 f2 q1 q2 eg rr1 rr2 hb
    rcases hbs b1 B1 g1 with ⟨h3,h4⟩ | ⟨h3,h4,x,h5⟩ <;> rcases hbs b2 B2 g2 with ⟨k3,k4⟩ | ⟨k3,k4,y,k5⟩
    ·rw [ρ0 b1 h3] at q1; rw [ρ0 b2 k3] at q2
     exact hi.lim b1 b2 B1 B2 p1 p2 h4 k4 f1 f2 q1 q2 eg (rd0 b1 B1 h4 rr1) (rd0 b2 B2 k4 rr2) hb
    ·have:=(hi.gnb b1 B1 h4 f1).1
     have:=(hO _ k5).1
     simp only at this
     omega
    ·have:=(hi.gnb b2 B2 k4 f2).1
     have:=(hO _ h5).1
     simp only at this
     omega
    ·rw [ρ1' b1 h3] at q1; rw [ρ1' b2 k3] at q2
     exact ho.inv.lim b1 b2 B1 B2 p1 p2 h4 k4 f1 f2 q1 q2 eg (rd1 b1 B1 x h5 rr1) (rd1 b2 B2 y k5 rr2) hb
   ·intro i hi'
    have hi':S.nb≤i:=hi'
    show (if i < S.k then ρ i else ρ1 i) = none
    rw [if_neg (by omega)]
    exact ho.inv.free i (by omega)
   ·exact Nat.le_trans hi.wsz ho.tr.size
   ·refine ⟨fun b m hb=>?_,fun b1 b2 x1 x2 p1 p2 g1 g2 q1 q2 er=>?_⟩
    ·show b < S.nb∧_
     rcases hms b m hb with ⟨h3,h4⟩ | ⟨h3,h4⟩
     ·obtain ⟨k1,p,o,k2,k3,k4,k5⟩:=hi.mp.ent b m h4
      exact ⟨by omega,p,o,ext0 b p k2,k3,by rw [frame _ (m0 b m p h4 k2)]; exact k4,k5.ext ext0⟩
     ·obtain ⟨k1,p,o,k2,k3,k4,k5⟩:=ho.inv.mp.ent b m h4
      exact ⟨by omega,p,o,ext1 b p k2,Nat.le_trans hi.wsz k3,k4,k5.ext ext1⟩
    ·rcases hms b1 x1 g1 with ⟨h3,h4⟩ | ⟨h3,h4⟩ <;> rcases hms b2 x2 g2 with ⟨k3,k4⟩ | ⟨k3,k4⟩
     ·rw [ρ0 b1 h3] at q1; rw [ρ0 b2 k3] at q2
      exact hi.mp.inj b1 b2 x1 x2 p1 p2 h4 k4 q1 q2 er
     ·rw [ρ0 b1 h3] at q1; rw [ρ1' b2 k3] at q2
      have:=m0 b1 x1 p1 h4 q1
      have:=m1 b2 x2 p2 k4 q2
      omega
     ·rw [ρ1' b1 h3] at q1; rw [ρ0 b2 k3] at q2
      have:=m1 b1 x1 p1 h4 q1
      have:=m0 b2 x2 p2 k4 q2
      omega
     ·rw [ρ1' b1 h3] at q1; rw [ρ1' b2 k3] at q2
      exact ho.inv.mp.inj b1 b2 x1 x2 p1 p2 h4 k4 q1 q2 er
   ·exact Base.st hi.jj fun r hr=>frame r (Nat.lt_of_lt_of_le hr hi.wsz)
  ·refine ⟨ext0,by show h.nb≤S.nb; omega,fun b p hb=>?_,fun r hr _ _=>frame r hr,fun l hl b B p hb hB hp=>?_,fun l hl b m p hb hl' hp=>?_,ho.tr.size,ho.tr.tape,ho.tr.os,ho.tr.output,rfl⟩
   ·by_cases hbk:b < S.k
    ·rw [ρ0 b hbk] at hb; exact .inl hb
    ·rw [ρ1' b (by omega)] at hb
     rcases ho.tr.new b p hb with h3 | ⟨-,h3,h4⟩
     ·cases h3
     ·exact .inr ⟨hi.free b (by omega),by omega,by show b < S.nb; omega⟩
   ·rcases hbs b B hb with ⟨h3,h4⟩ | ⟨h3,h4,x,h5⟩
    ·rw [ρ0 b h3] at hp
     exact .inr ⟨b,B,p,h4,hB,hp,rfl⟩
    ·rw [ρ1' b h3] at hp
     exact .inl (r1 b B p h4 hB.1 hp)
   ·rcases hms b m hb with ⟨h3,h4⟩ | ⟨h3,h4⟩
    ·rw [ρ0 b h3] at hp
     exact .inr ⟨b,m,p,h4,hl',hp,rfl⟩
    ·rw [ρ1' b h3] at hp
     exact .inl (m1 b m p h4 hp)
def truth:Fun:=fun args h=>List.rec (motive:=fun _=>Res) (.ret (.bool true) h) (fun _ _ _=>.fail) args
theorem truth_sound {P:Program} {f:FuncId} {g:Fun} (hF:FSound P f g) (hT:isT (g [] H0) = true):FSound P f truth:=by
 intro N0 hN ρ h w args Args v h' e hi ha
 cases args with
 | cons x l=>exact absurd (show Res.fail = .ret v h' from e) (by simp)
 | nil=>
  have e:Res.ret (.bool true) h = Res.ret v h':=e
  injection e with e1 e2
  subst e1
  subst e2
  obtain ⟨h1,er⟩:=isT_inv hT
  have hj:(⟨w.heap.size,N0.g⟩:Base).J w:=fun g hg=>by
   obtain ⟨h1,m,h2⟩:=hi.jj g hg
   exact ⟨Nat.lt_of_lt_of_le h1 hi.wsz,m,h2⟩
  have hA:Args.toList = []:=by cases hA:Args.toList with
   | nil=>rfl
   | cons y m=>rw [hA] at ha; cases ha
  refine (hF ⟨w.heap.size,N0.g⟩ hN (fun _=>none) H0 w [] Args (.bool true) h1 er (inv_Hs 0 hj) (by rw [hA]; exact .nil)).mono fun e w' ⟨V,ρ1,h2,ho⟩=>⟨V,ρ,h2,?_⟩
  have frame:∀ r,r < w.heap.size→w'.heap[r]? = w.heap[r]?:=fun r hr=>ho.tr.frame r hr (fun b B p hb=>by cases hb) (fun b m p hb=>by cases hb)
  refine ⟨ho.val,⟨fun b B hb=>?_,hi.nb,hi.gnb,hi.gs,hi.als,hi.lim,hi.free,Nat.le_trans hi.wsz ho.tr.size,?_,Base.st hi.jj fun r hr=>frame r (Nat.lt_of_lt_of_le hr hi.wsz)⟩,
   ⟨Ext.refl ρ,Nat.le_refl _,fun b p hb=>.inl hb,fun r hr _ _=>frame r hr,fun l hl b B p hb hB hp=>.inr ⟨b,B,p,hb,hB,hp,rfl⟩,fun l hl b m p hb hl' hp=>.inr ⟨b,m,p,hb,hl',hp,rfl⟩,ho.tr.size,ho.tr.tape,ho.tr.os,ho.tr.output,rfl⟩⟩
  ·obtain ⟨p,h6,h7⟩:=hi.blk b B hb
   exact ⟨p,h6,h7.later (Ext.refl ρ) (frame _ h7.lt) fun h=>h⟩
  ·exact hi.mp.later (Ext.refl ρ) (Nat.le_refl _) fun r o ho _=>frame r (Array.getElem?_eq_some_iff.1 ho).1
end
end Go.AM
namespace Go.AM
open Go
set_option autoImplicit false
noncomputable section
abbrev I (n:Nat):AV:=.int 63 (.ofNat n)
abbrev J (n:Nat):AV:=.int 8 (.ofNat n)
abbrev K (n:Nat):AV:=.int 31 (.ofNat n)
def fa (n:Nat) (x:AV) (k:AV→Res):Res:=cP x fun p o=>k (.ptr p (Nat.add o n))
def fl (n:Nat) (h:Hp) (x:AV) (k:AV→Res):Res:=cP x fun p o=>ld1 h (.ptr p (Nat.add o n)) k
def nl (n:Nat) (h:Hp) (x:AV) (k:AV→Res):Res:=nck x fun v=>fl n h v k
def na (n:Nat) (x:AV) (k:AV→Res):Res:=nck x fun v=>fa n v k
def gj (x:AV) (want:Bool) (r:Res) (h:Hp) (k:AV→Hp→Res):Res:=jn (gd x want r (.norm [.tup .nil] h)) fun w h=>uc w fun v _=>k v h
abbrev u1 (vs:List AV) (k:AV→Res):Res:=uc vs fun a _=>k a
abbrev U1 (vs:List AV) (k:AV→Res):Res:=uc vs fun a r=>uz r (k a)
abbrev u2 (vs:List AV) (k:AV→AV→Res):Res:=uc vs fun a r=>uc r fun b _=>k a b
abbrev U2 (vs:List AV) (k:AV→AV→Res):Res:=uc vs fun a r=>uc r fun b r=>uz r (k a b)
abbrev u3 (vs:List AV) (k:AV→AV→AV→Res):Res:=uc vs fun a r=>uc r fun b r=>uc r fun c _=>k a b c
abbrev U3 (vs:List AV) (k:AV→AV→AV→Res):Res:=uc vs fun a r=>uc r fun b r=>uc r fun c r=>uz r (k a b c)
abbrev u4 (vs:List AV) (k:AV→AV→AV→AV→Res):Res:=uc vs fun a r=>uc r fun b r=>uc r fun c r=>uc r fun d _=>k a b c d
abbrev U4 (vs:List AV) (k:AV→AV→AV→AV→Res):Res:=uc vs fun a r=>uc r fun b r=>uc r fun c r=>uc r fun d r=>uz r (k a b c d)
abbrev u5 (vs:List AV) (k:AV→AV→AV→AV→AV→Res):Res:=uc vs fun a r=>uc r fun b r=>uc r fun c r=>uc r fun d r=>uc r fun e _=>k a b c d e
abbrev U5 (vs:List AV) (k:AV→AV→AV→AV→AV→Res):Res:=uc vs fun a r=>uc r fun b r=>uc r fun c r=>uc r fun d r=>uc r fun e r=>uz r (k a b c d e)
abbrev u6 (vs:List AV) (k:AV→AV→AV→AV→AV→AV→Res):Res:=uc vs fun a r=>uc r fun b r=>uc r fun c r=>uc r fun d r=>uc r fun e r=>uc r fun f _=>k a b c d e f
abbrev U6 (vs:List AV) (k:AV→AV→AV→AV→AV→AV→Res):Res:=uc vs fun a r=>uc r fun b r=>uc r fun c r=>uc r fun d r=>uc r fun e r=>uc r fun f r=>uz r (k a b c d e f)
abbrev u7 (vs:List AV) (k:AV→AV→AV→AV→AV→AV→AV→Res):Res:=uc vs fun a r=>uc r fun b r=>uc r fun c r=>uc r fun d r=>uc r fun e r=>uc r fun f r=>uc r fun g _=>k a b c d e f g
abbrev u8 (vs:List AV) (k:AV→AV→AV→AV→AV→AV→AV→AV→Res):Res:=uc vs fun a r=>uc r fun b r=>uc r fun c r=>uc r fun d r=>uc r fun e r=>uc r fun f r=>uc r fun g r=>uc r fun h _=>k a b c d e f g h
abbrev u9 (vs:List AV) (k:AV→AV→AV→AV→AV→AV→AV→AV→AV→Res):Res:=uc vs fun a r=>uc r fun b r=>uc r fun c r=>uc r fun d r=>uc r fun e r=>uc r fun f r=>uc r fun g r=>uc r fun h r=>uc r fun i _=>k a b c d e f g h i
abbrev U9 (vs:List AV) (k:AV→AV→AV→AV→AV→AV→AV→AV→AV→Res):Res:=uc vs fun a r=>uc r fun b r=>uc r fun c r=>uc r fun d r=>uc r fun e r=>uc r fun f r=>uc r fun g r=>uc r fun h r=>uc r fun i r=>uz r (k a b c d e f g h i)
abbrev u10 (vs:List AV) (k:AV→AV→AV→AV→AV→AV→AV→AV→AV→AV→Res):Res:=uc vs fun a r=>uc r fun b r=>uc r fun c r=>uc r fun d r=>uc r fun e r=>uc r fun f r=>uc r fun g r=>uc r fun h r=>uc r fun i r=>uc r fun j _=>k a b c d e f g h i j
abbrev rk (x:AV) (h:Hp):Res:=cK x fun a=>.ret a h
end
end Go.AM
namespace Go.AM
open Go Go.RowKit
set_option autoImplicit false
end Go.AM
namespace Go.AM
open Go
set_option autoImplicit false
noncomputable section
def orF (f g:Fun):Fun:=fun a h=>Res.rec (motive:=fun _=>Res) (g a h) (fun _ _=>.fail) (fun _ _ _=>.fail) (fun v h'=>.ret v h') (fun p _ ih=>.ask p ih) (f a h)
theorem orF_sound {P:Program} {f:FuncId} {g1 g2:Fun} (h1:FSound P f g1) (h2:FSound P f g2):FSound P f (orF g1 g2):=by
 intro N0 hN ρ h w args Args v h' e hi ha
 have key:∀ q:Res,now (Res.rec (motive:=fun _=>Res) (g2 args h) (fun _ _=>.fail) (fun _ _ _=>.fail) (fun v h'=>.ret v h') (fun p _ ih=>.ask p ih) q) = .ret v h'→now q = .ret v h'∨now (g2 args h) = .ret v h':=by
  intro q
  induction q with
  | fail=>intro e; exact .inr e
  | norm x y=>intro e; exact absurd (show Res.fail = .ret v h' from e) (by simp)
  | exit i x y=>intro e; exact absurd (show Res.fail = .ret v h' from e) (by simp)
  | ret x y=>intro e; exact .inl e
  | ask p q ih=>
   intro e
   cases p with
   | true=>exact ih e
   | false=>exact absurd (show Res.fail = .ret v h' from e) (by simp)
 rcases key (g1 args h) e with h3 | h3
 ·exact h1 N0 hN ρ h w args Args v h' h3 hi ha
 ·exact h2 N0 hN ρ h w args Args v h' h3 hi ha
end
end Go.AM
namespace Go.AM
open Go
set_option autoImplicit false
def ArgS (k:IntKind) (w:World) (V:Value) (l:List Int):Prop:=
 (V = .slice none 0 0∧l = [])∨∃ (a:Addr) (len cap:Nat) (zs:List Int),V = .slice (some a) len cap∧len≤cap∧cap≤maxLen∧zs.length = cap∧l = zs.take len ∧
  (∀ i,i < zs.length→w.cell? (a.add i) = some (.int k (zs.getD i 0)))∧∀ n∈zs,(Lit.int k n).wf = true
theorem ArgS.wf {k:IntKind} {w:World} {V:Value} {l:List Int} (h:ArgS k w V l):∀ n∈l,(Lit.int k n).wf = true:=by
 rcases h with ⟨-,rfl⟩ | ⟨a,len,cap,zs,-,-,-,-,rfl,-,h⟩
 ·intro n hn; cases hn
 ·exact fun n hn=>h n (List.mem_of_mem_take hn)
section
variable {H:Type} {enc:TypeId×Value→H} {P:Program} {w:World}
open Go.ChangeShapes in
theorem open_arg {t e:TypeId} {k:IntKind} {v:Value} {d:DataW H} {p:List MemPlace} (ht:P.underlying t = some (.slice e)) (he:P.underlying e = some (.int k)) (hc:P.cellsOf e = 1)
  (hone:v.cells.toList = [v]) (h:DataW.Trod enc P w 0 (fun _=>true) true t v d p):
  ∃ l,ArgS k w v l∧∀ (w':World) (sp:Nat→Bool),(∀ r,r < w.heap.size→w'.heap[r]? = w.heap[r]?)→(∀ q∈p,sp q.block = true)→DataW.Trod enc P w' 0 sp true t v d p:=by
 obtain ⟨fuel,hf⟩:=h
 rcases open_ints ht he hc hf with ⟨hcs,hx⟩ | ⟨a,len,cap,zs,hcs,hb,hl,hm,hz,hx,hcell,hwf⟩
 ·rw [hone] at hcs
  obtain rfl:v = .slice none 0 0:=by simpa using hcs
  obtain ⟨rfl,rfl⟩:d = .nil∧p = []:=by simpa using hx
  exact ⟨[],.inl ⟨rfl,rfl⟩,fun w' sp _ _=>⟨1,by simp [DataW.trod,Value.cells,ht]⟩⟩
 ·rw [hone] at hcs
  obtain rfl:v = .slice (some a) len cap:=by simpa using hcs
  obtain ⟨rfl,rfl⟩:d = .slice (lits k (zs.take len)) (lits k (zs.drop len))∧p = MemPlace.row a zs.length:=by simpa using hx
  have hz':zs.length = cap:=by simpa using hz
  refine ⟨_,.inr ⟨a,len,cap,zs,rfl,hl,hm,hz',rfl,hcell,hwf⟩,fun w' sp hw hsp=>⟨2,?_⟩⟩
  have hlt:∀ i,i < zs.length→a.block < w.heap.size:=by
   intro i hi
   have:=hcell i hi
   unfold World.cell? at this
   rw [block_add] at this
   cases hr:w.heap[a.block]? with
   | none=>rw [hr] at this; cases this
   | some o=>exact (Array.getElem?_eq_some_iff.1 hr).1
  have hcell':∀ i,i < zs.length→w'.cell? (a.add i) = some (.int k (zs.getD i 0)):=by
   intro i hi
   have h1:=hcell i hi
   unfold World.cell? at h1 ⊢
   rw [block_add] at h1 ⊢
   rw [hw _ (hlt i hi)]
   exact h1
  have hzz:zs.length = if sp a.block then cap else len:=by
   by_cases hc0:zs.length = 0
   ·split <;> omega
   ·have:sp a.block = true:=by
     have:=hsp (.cell a.block a.off) (MemPlace.mem_row.2 ⟨0,by omega,by simp⟩)
     exact this
    rw [this]; simpa using hz'
  have:=shut_ints (enc:=enc) (w:=w') (base:=0) (spare:=sp) (held:=true) 0 ht he hc (Nat.zero_le _) hl hm hzz hcell' hwf
  rw [hone]
  exact this
end
structure Args (g:Option Nat) (ρ:Rho) (h:Hp) (w:World):Prop where
 inv:Inv (b0 w g) ρ h w
 fr:∀ b B,h.bs.get b = some B→B.fr = false
 gs:h.gs = .e
 ms:h.ms = .e
 lo:h.lo = 0
theorem Args.none {w:World} {g:Option Nat} (hj:(b0 w g).J w):Args g (fun _=>none) H0 w:=⟨inv_H0 hj,fun b B h=>(by cases h),rfl,rfl,rfl⟩
theorem cellL_get (l:List AV):∀ (i j:Nat),(cellL l i).get j = if h:i≤j∧j - i < l.length then some (l[j - i]'h.2) else none:=by
 induction l with
 | nil=>intro i j; rw [dif_neg (fun h=>absurd h.2 (Nat.not_lt_zero _))]; rfl
 | cons v l ih=>
  intro i j
  have e:cellL (v :: l) i = T.set v (cellL l (i + 1)) i:=rfl
  rw [e,T.get_set]
  by_cases hj:j = i
  ·subst hj
   rw [if_pos rfl,dif_pos ⟨Nat.le_refl _,by simp⟩]
   simp
  ·rw [if_neg hj,ih]
   by_cases h:i + 1≤j∧j - (i + 1) < l.length
   ·rw [dif_pos h,dif_pos ⟨by omega,by simp only [List.length_cons]; omega⟩]
    have e2:j - i = (j - (i + 1)) + 1:=by omega
    simp only [e2,List.getElem_cons_succ]
   ·rw [dif_neg h,dif_neg]
    intro h2
    simp only [List.length_cons] at h2
    exact h ⟨by omega,by omega⟩
noncomputable def Ha (m:Nat) (t:T AV):Hp:=⟨1,T.set ⟨false,0,m,.nil,t⟩ .e 0,.e,.e,0,⟨[],.unk⟩⟩
theorem at_cells (m:Nat) (t:T AV) {i:Nat} (hi:i < m) {v:AV} (hv:t.get i = some v):(⟨false,0,m,.nil,t⟩:Blk).at i = v:=by
 have e:(⟨false,0,m,.nil,t⟩:Blk).at i = Bool.rec (motive:=fun _=>AV) .unk (Option.rec (motive:=fun _=>AV) (nth .nil (Nat.mod i (len .nil))) (fun v=>v) (t.get i)) (Nat.blt i m):=rfl
 rw [e,(blt_iff i m).2 hi,hv]
theorem one_arg {w:World} {g:Option Nat} (hj:(b0 w g).J w) {k:IntKind} {V:Value} {l:List Int} (ha:ArgS k w V l) (m:Nat) (hm:m≤l.length):
  ∃ ρ h v,Args g ρ h w∧VR ρ v V∧((l = []∧h = H0∧(v = .nils∨v = .esl))∨v = .sl 0 0 l.length 1 none∧h = Ha m (cellL ((l.take m).map fun n=>AV.int (cOf k) n) 0)):=by
 have hF:=Args.none hj
 rcases ha with ⟨rfl,rfl⟩ | ⟨a,len,cap,zs,rfl,hl,hmx,hz,rfl,hcell,-⟩
 ·exact ⟨_,H0,.nils,hF,rfl,.inl ⟨rfl,rfl,.inl rfl⟩⟩
 ·by_cases h0:len = 0
  ·subst h0
   exact ⟨_,H0,.esl,hF,⟨a,cap,rfl⟩,.inl ⟨by simp,rfl,.inr rfl⟩⟩
  ·obtain ⟨b,off,rfl,hc⟩:=Go.ints_at hcell (by omega)
   have hll:(zs.take len).length = len:=by simp; omega
   rw [hll] at hm ⊢
   have hrow:∃ cs e fz,w.heap[b]? = some (.cells cs e fz)∧∀ j,j < zs.length→cs[off + j]? = some (.int k (zs.getD j 0)):=by
    have h1:=hc 0 (by omega)
    unfold World.cell? at h1
    simp only at h1
    cases hr:w.heap[b]? with
    | none=>rw [hr] at h1; cases h1
    | some o=>
     cases o with
     | cells cs e fz=>
      refine ⟨cs,e,fz,rfl,fun j hj=>?_⟩
      have h2:=hc j hj
      unfold World.cell? at h2
      simp only [hr] at h2
      simpa using h2
     | _=>rw [hr] at h1; cases h1
   obtain ⟨cs,e,fz,hr,hcs⟩:=hrow
   have hsz:off + cap≤cs.size:=by
    have:=hcs (cap - 1) (by omega)
    have:=(Array.getElem?_eq_some_iff.1 this).1
    omega
   have hlt:b < w.heap.size:=(Array.getElem?_eq_some_iff.1 hr).1
   have hi:=hF.inv
   generalize ht:cellL (((zs.take len).take m).map fun n=>AV.int (cOf k) n) 0 = t
   have hlen:(((zs.take len).take m).map fun n=>AV.int (cOf k) n).length = m:=by simp; omega
   have hget:∀ x,(T.set (⟨false,0,m,.nil,t⟩:Blk) .e 0).get x = if x = 0 then some ⟨false,0,m,.nil,t⟩ else Option.none:=fun x=>T.get_set _ _ _ _
   have hat:∀ i (hi':i < m),(⟨false,0,m,.nil,t⟩:Blk).at i = .int (cOf k) (zs.getD i 0):=by
    intro i hi'
    refine at_cells m t hi' ?_
    rw [← ht,cellL_get,dif_pos ⟨Nat.zero_le _,by rw [hlen]; omega⟩]
    simp [List.getD,show i < zs.length by omega]
   have look:∀ x B,(T.set (⟨false,0,m,.nil,t⟩:Blk) .e 0).get x = some B→B.fr = false:=by
    intro x B hx
    rw [hget] at hx
    by_cases e0:x = 0
    ·rw [if_pos e0] at hx
     obtain rfl:=Option.some.inj hx
     rfl
    ·rw [if_neg e0] at hx; cases hx
   refine ⟨ups (fun _=>none) 0 ⟨b,off,cs.size,cap⟩,Ha m t,.sl 0 0 len 1 none,⟨⟨?_,?_,?_,?_,?_,?_,?_,Nat.le_refl _,⟨?_,?_⟩,hi.jj⟩,look,rfl,rfl,rfl⟩,?_,.inr ⟨rfl,rfl⟩⟩
   ·intro x B hx
    have hx:(T.set (⟨false,0,m,.nil,t⟩:Blk) .e 0).get x = some B:=hx
    rw [hget] at hx
    by_cases e0:x = 0
    ·rw [if_pos e0] at hx
     obtain rfl:=Option.some.inj hx
     subst e0
     refine ⟨_,ups_same _ _ _,⟨cs,e,fz,hr,rfl,fun hf=>(by cases hf),fun _ i hi'=>?_⟩,(by show off + m≤cs.size; omega),fun hf=>(by cases hf),fun _=>hlt⟩
     exact ⟨_,hcs i (by have:i < m:=hi'; omega),by rw [hat i hi']; exact ⟨k,rfl,rfl⟩⟩
    ·rw [if_neg e0] at hx; cases hx
   ·intro x B hx
    have hx:(T.set (⟨false,0,m,.nil,t⟩:Blk) .e 0).get x = some B:=hx
    rw [hget] at hx
    by_cases e0:x = 0
    ·subst e0; exact Nat.lt_succ_self _
    ·rw [if_neg e0] at hx; cases hx
   ·intro x B hx hf; rw [look x B hx] at hf; cases hf
   ·intro g q hq; cases hq
   ·intro b1 b2 B1 B2 p1 p2 h1 h2 f1; rw [look b1 B1 h1] at f1; cases f1
   ·intro b1 b2 B1 B2 p1 p2 h1 h2 f1; rw [look b1 B1 h1] at f1; cases f1
   ·intro i hle
    have hle:1≤i:=hle
    rw [ups_ne _ _ (by omega)]
   ·intro x m hx; cases hx
   ·intro b1 b2 m1 m2 p1 p2 h1; cases h1
   ·exact ⟨⟨b,off,cs.size,cap⟩,cap,ups_same _ _ _,rfl,hl,.inl ⟨rfl,by show 0 + cap * 1 = cap; omega⟩,by show off + 0 + cap * 1≤cs.size; omega⟩
theorem law_walk2 {P:Program} {f:FuncId} {g:Fun} (hF:FSound P f g) {args:List AV} {As:Array Value} {ρ:Rho} {h h':Hp} {w:World} (hA:Args (P.globalNamed "internal/bytealg.MaxLen") ρ h w) (e:now (g args h) = .ret (.bool true) h') (ha:F2 (VR ρ) args As.toList):
  Calls P f As w fun e w'=>e = .returned (.bool true)∧Kept w w':=by
 refine (hF (b0 w _) rfl ρ h w args As (.bool true) h' e hA.inv ha).mono fun e w' ⟨V,ρ',h1,h2⟩=>?_
 have h3:V = .bool true:=h2.val
 subst h3
 exact ⟨h1,h2.tr.kept hA.fr hA.ms⟩
end Go.AM
namespace Go.AM
open Go
set_option autoImplicit false
section
variable {P:Program} {N0:Base} {ρ0:Rho} {h0:Hp} {w0:World}
end
end Go.AM
namespace Go.AM
open Go
set_option autoImplicit false
noncomputable section
theorem T.set_get {α:Type} (v:α) (t:T α):∀ k,t.get k = some v→T.set v t k = t:=by
 induction t with
 | e=>intro k h; cases h
 | n o a b c d iha ihb ihc ihd=>
  intro k h
  cases k with
  | zero=>have h:o = some v:=h; subst h; rfl
  | succ m=>
   rw [T.get_ns] at h
   rw [T.set_s]
   have hm:m % 4 = 0∨m % 4 = 1∨m % 4 = 2∨m % 4 = 3:=by omega
   rcases hm with h0 | h0 | h0 | h0 <;> rw [h0] at h ⊢
   ·have h:a.get (m / 4) = some v:=h
    show T.n o (T.set v a (m / 4)) b c d = _
    rw [iha _ h]
   ·have h:b.get (m / 4) = some v:=h
    show T.n o a (T.set v b (m / 4)) c d = _
    rw [ihb _ h]
   ·have h:c.get (m / 4) = some v:=h
    show T.n o a b (T.set v c (m / 4)) d = _
    rw [ihc _ h]
   ·have h:d.get (m / 4) = some v:=h
    show T.n o a b c (T.set v d (m / 4)) = _
    rw [ihd _ h]
def Hp.wo (h:Hp) (l:Oc):Hp:=Hp.rec (motive:=fun _=>Hp) (fun nb bs gs ms lo _=>⟨nb,bs,gs,ms,lo,l⟩) h
theorem Out.wo {N0:Base} {ρ ρ':Rho} {h h':Hp} {w w':World} {v:AV} {V:Value} (o:Out N0 ρ h w v h' V w' ρ') (l:Oc):Out N0 ρ h w v (h'.wo l) V w' ρ':=by
 obtain ⟨nb,bs,gs,ms,lo,oc⟩:=h'
 exact ⟨o.val,⟨fun b B hb=>(by obtain ⟨p,h1,h2⟩:=o.inv.blk b B hb; exact ⟨p,h1,⟨h2.obj,h2.fit,h2.side⟩⟩),o.inv.nb,o.inv.gnb,o.inv.gs,o.inv.als,o.inv.lim,o.inv.free,o.inv.wsz,o.inv.mp,o.inv.jj⟩,
  ⟨o.tr.ext,o.tr.nb,o.tr.new,o.tr.frame,o.tr.img,o.tr.mimg,o.tr.size,o.tr.tape,o.tr.os,o.tr.output,o.tr.lo⟩⟩
def post (f:AV→Hp→Res) (q:Res):Res:=Res.rec (motive:=fun _=>Res) .fail (fun _ _=>.fail) (fun _ _ _=>.fail) (fun v h=>f v h) (fun p _ ih=>.ask p ih) q
theorem post_inv {f:AV→Hp→Res} {v:AV} {h:Hp}:∀ {q:Res},now (post f q) = .ret v h→∃ v0 h0,now q = .ret v0 h0∧now (f v0 h0) = .ret v h:=by
 intro q
 induction q with
 | ret x y=>intro e; exact ⟨x,y,rfl,e⟩
 | ask p q ih=>
  intro e
  cases p with
  | true=>exact ih e
  | false=>exact absurd (show Res.fail = .ret v h from e) (by simp)
 | _=>intro e; exact absurd (show Res.fail = .ret v h from e) (by simp)
theorem post_sound {P:Program} {f:FuncId} {g:Fun} (F:AV→Hp→Res) (h1:FSound P f g) (hF:∀ v0 h0 v h,now (F v0 h0) = .ret v h→v = v0∧∃ l,h = h0.wo l):FSound P f (fun a h=>post F (g a h)):=by
 intro N0 hN ρ h w args Args v h' e hi ha
 obtain ⟨v0,h0,e1,e2⟩:=post_inv e
 obtain ⟨rfl,l,rfl⟩:=hF _ _ _ _ e2
 exact (h1 N0 hN ρ h w args Args v h0 e1 hi ha).mono fun e w' ⟨V,ρ',k1,k2⟩=>⟨V,ρ',k1,k2.wo l⟩
def setC (h:Hp) (b:Nat) (B:Blk) (t:T AV):Hp:=Hp.rec (motive:=fun _=>Hp) (fun nb bs gs ms lo oc=>⟨nb,bs.set ⟨B.fr,B.g,B.lim,B.df,t⟩ b,gs,ms,lo,oc⟩) h
end
end Go.AM
namespace Go.AM
open Go
set_option autoImplicit false
noncomputable section
def rn (σ:Nat→Option Nat) (v:AV):AV:=AV.rec (motive:=fun _=>AV) .unk (fun b=>.bool b) (fun c n=>.int c n) (fun n x=>.str n x) .nilp (fun b o=>Option.rec (motive:=fun _=>AV) .unk (fun c=>.ptr c o) (σ b)) .nils
 (fun b o n z c=>Option.rec (motive:=fun _=>AV) .unk (fun b'=>.sl b' o n z c) (σ b)) .esl .nili (fun t _ ih=>.ifc t ih) .nilf (fun f _ _ iha ihb=>.fn f iha ihb) .nilm (fun b=>Option.rec (motive:=fun _=>AV) .unk (fun c=>.map c) (σ b))
 (fun _ ih=>.agg ih) (fun _ ih=>.tup ih) .nil (fun _ _ iha ihb=>.cons iha ihb) v
section
variable {σ:Nat→Option Nat} {ρ1 ρ2:Rho}
theorem R_rn (h:∀ b c,σ b = some c→ρ2 c = ρ1 b) (v:AV):(∀ V,(R ρ1 v).1 V→(R ρ2 (rn σ v)).1 V)∧(∀ l,(R ρ1 v).2 l→(R ρ2 (rn σ v)).2 l):=by
 induction v with
 | ptr b o=>
  refine ⟨fun V ⟨p,hp,hv⟩=>?_,fun _ h=>h.elim⟩
  show (R ρ2 (Option.rec (motive:=fun _=>AV) .unk (fun c=>.ptr c o) (σ b))).1 V
  cases hs:σ b with
  | none=>exact trivial
  | some c=>exact ⟨p,(h b c hs).trans hp,hv⟩
 | sl b o n z c=>
  refine ⟨fun V ⟨p,c',hp,hv⟩=>?_,fun _ h=>h.elim⟩
  show (R ρ2 (Option.rec (motive:=fun _=>AV) .unk (fun b'=>.sl b' o n z c) (σ b))).1 V
  cases hs:σ b with
  | none=>exact trivial
  | some b'=>exact ⟨p,c',(h b b' hs).trans hp,hv⟩
 | map b=>
  refine ⟨fun V ⟨p,hp,hv⟩=>?_,fun _ h=>h.elim⟩
  show (R ρ2 (Option.rec (motive:=fun _=>AV) .unk (fun c=>.map c) (σ b))).1 V
  cases hs:σ b with
  | none=>exact trivial
  | some c=>exact ⟨p,(h b c hs).trans hp,hv⟩
 | ifc t v ih=>exact ⟨fun V ⟨W,hw,hv⟩=>⟨W,hw,ih.1 _ hv⟩,fun _ h=>h.elim⟩
 | fn f a b iha ihb=>exact ⟨fun V ⟨l,m,hv,h1,h2⟩=>⟨l,m,hv,iha.2 _ h1,ihb.2 _ h2⟩,fun _ h=>h.elim⟩
 | agg v ih=>exact ⟨fun V ⟨l,hv,h1⟩=>⟨l,hv,ih.2 _ h1⟩,fun _ h=>h.elim⟩
 | tup v ih=>exact ⟨fun V ⟨l,hv,h1⟩=>⟨l,hv,ih.2 _ h1⟩,fun _ h=>h.elim⟩
 | cons a t ihh iht=>exact ⟨fun _ h=>h.elim,fun l ⟨V,l',hl,h1,h2⟩=>⟨V,l',hl,ihh.1 _ h1,iht.2 _ h2⟩⟩
 | _=>exact ⟨fun _ h=>h,fun _ h=>h⟩
theorem VR.rn (h:∀ b c,σ b = some c→ρ2 c = ρ1 b) {v:AV} {V:Value} (hv:VR ρ1 v V):VR ρ2 (rn σ v) V:=(R_rn h v).1 V hv
theorem rn_len (l:AV):len (AM.rn σ l) = len l:=by
 induction l with
 | ptr b o=>show len (Option.rec (motive:=fun _=>AV) .unk (fun c=>.ptr c o) (σ b)) = 0; cases σ b <;> rfl
 | sl b o n z c=>show len (Option.rec (motive:=fun _=>AV) .unk (fun b'=>.sl b' o n z c) (σ b)) = 0; cases σ b <;> rfl
 | map b=>show len (Option.rec (motive:=fun _=>AV) .unk (fun c=>.map c) (σ b)) = 0; cases σ b <;> rfl
 | cons a t _ iht=>exact congrArg Nat.succ iht
 | _=>rfl
theorem rn_nth (l:AV):∀ i,nth (AM.rn σ l) i = AM.rn σ (nth l i):=by
 induction l with
 | ptr b o=>intro i; show nth (Option.rec (motive:=fun _=>AV) .unk (fun c=>.ptr c o) (σ b)) i = .unk; cases σ b <;> rfl
 | sl b o n z c=>intro i; show nth (Option.rec (motive:=fun _=>AV) .unk (fun b'=>.sl b' o n z c) (σ b)) i = .unk; cases σ b <;> rfl
 | map b=>intro i; show nth (Option.rec (motive:=fun _=>AV) .unk (fun c=>.map c) (σ b)) i = .unk; cases σ b <;> rfl
 | cons a t _ iht=>
  intro i
  cases i with
  | zero=>rfl
  | succ i=>exact iht i
 | _=>intro i; rfl
theorem ELR.rn (h:∀ b c,σ b = some c→ρ2 c = ρ1 b):∀ (x:AV) (l:List MapEntry),ELR ρ1 x l→ELR ρ2 (AM.rn σ x) l:=by
 intro x
 induction x with
 | nil=>intro l h; exact h
 | cons a t _ iht=>
  intro l hl
  cases a with
  | cons k v=>
   obtain ⟨e,l',rfl,h1,h2,h3⟩:=hl
   exact ⟨e,l',rfl,h1.rn h,h2.rn h,iht l' h3⟩
  | _=>exact hl.elim
 | _=>intro l h; exact h.elim
theorem MR.rn (h:∀ b c,σ b = some c→ρ2 c = ρ1 b) {p:Pl} {m:AV} {o:Obj} (hm:MR ρ1 p m o):MR ρ2 p (AM.rn σ m) o:=by
 cases o <;> first
  | exact hm.elim
  | skip
 ·rename_i es c
  exact ⟨ELR.rn h m es.toList hm.1,hm.2⟩
 ·obtain ⟨h1,h2⟩:=hm
  exact ⟨h1,by rw [h2]; rfl⟩
end
def tmap {α β:Type} (f:α→β) (t:T α):T β:=T.rec (motive:=fun _=>T β) .e (fun v _ _ _ _ a b c d=>.n (Option.rec (motive:=fun _=>Option β) none (fun v=>some (f v)) v) a b c d) t
theorem get_tmap {α β:Type} (f:α→β) (t:T α):∀ k,(tmap f t).get k = (t.get k).map f:=by
 induction t with
 | e=>intro k; rfl
 | n v a b c d iha ihb ihc ihd=>
  intro k
  cases k with
  | zero=>show Option.rec (motive:=fun _=>Option β) none (fun v=>some (f v)) v = v.map f; cases v <;> rfl
  | succ m=>
   show (T.n _ (tmap f a) (tmap f b) (tmap f c) (tmap f d)).get (m + 1) = _
   rw [T.get_ns,T.get_ns,iha,ihb,ihc,ihd]
   have hm:m % 4 = 0∨m % 4 = 1∨m % 4 = 2∨m % 4 = 3:=by omega
   rcases hm with h0 | h0 | h0 | h0 <;> rw [h0] <;> rfl
def unkB (v:AV):Bool:=AV.rec (motive:=fun _=>Bool) true (fun _=>false) (fun _ _=>false) (fun _ _=>false) false (fun _ _=>false) false (fun _ _ _ _ _=>false) false false (fun _ _ _=>false) false (fun _ _ _ _ _=>false) false (fun _=>false) (fun _ _=>false) (fun _ _=>false) false (fun _ _ _ _=>false) v
def eslB (v:AV):Bool:=AV.rec (motive:=fun _=>Bool) false (fun _=>false) (fun _ _=>false) (fun _ _=>false) false (fun _ _=>false) false (fun _ _ _ _ _=>false) true false (fun _ _ _=>false) false (fun _ _ _ _ _=>false) false (fun _=>false) (fun _ _=>false) (fun _ _=>false) false (fun _ _ _ _=>false) v
theorem unkB_eq {v:AV} (h:unkB v = true):v = .unk:=by cases v <;> first | rfl | exact Bool.noConfusion h
theorem eslB_eq {v:AV} (h:eslB v = true):v = .esl:=by cases v <;> first | rfl | exact Bool.noConfusion h
def eqU (x y:AV):Bool:=Bool.rec (motive:=fun _=>Bool) (Bool.rec (motive:=fun _=>Bool) (eqAV x y) (eslB y) (eslB x)) (unkB y) (unkB x)
theorem eqU_eq {x y:AV} (h:eqU x y = true):x = y:=by
 unfold eqU at h
 cases hx:unkB x with
 | true=>rw [hx] at h; rw [unkB_eq hx,unkB_eq h]
 | false=>
  rw [hx] at h
  have h:Bool.rec (motive:=fun _=>Bool) (eqAV x y) (eslB y) (eslB x) = true:=h
  cases hy:eslB x with
  | true=>rw [hy] at h; rw [eslB_eq hy,eslB_eq h]
  | false=>rw [hy] at h; exact eqAV_eq x y h
def upI (f:Nat→Bool) (n:Nat):Bool:=Nat.rec (motive:=fun _=>Bool) true (fun i ih=>Bool.rec (motive:=fun _=>Bool) false ih (f i)) n
theorem upI_inv {f:Nat→Bool}:∀ {n:Nat},upI f n = true→∀ i,i < n→f i = true:=by
 intro n
 induction n with
 | zero=>intro _ i h; omega
 | succ n ih=>
  intro h i hi
  have h:Bool.rec (motive:=fun _=>Bool) false (upI f n) (f n) = true:=h
  cases hf:f n with
  | false=>rw [hf] at h; cases h
  | true=>
   rw [hf] at h
   by_cases hin:i = n
   ·rw [hin]; exact hf
   ·exact ih h i (by omega)
def cellsN (σ:Nat→Option Nat) (B:Blk) (p:Nat):Nat→AV:=Nat.rec (motive:=fun _=>Nat→AV) (fun _=>.nil) (fun _ ih i=>.cons (rn σ (B.at i)) (ih (Nat.succ i))) p
def patD (σ:Nat→Option Nat) (p:Nat) (B:Blk):Option AV:=Bool.rec (motive:=fun _=>Option AV) (Bool.rec (motive:=fun _=>Option AV) none (some (cellsN σ B p 0)) (upI (fun i=>eqU (nth (cellsN σ B p 0) (Nat.mod i (len (cellsN σ B p 0)))) (rn σ (B.at i))) B.lim)) none (eB B.cs)
theorem patD_inv {σ:Nat→Option Nat} {p:Nat} {B:Blk} {d:AV} (h:patD σ p B = some d):∀ i,i < B.lim→nth d (i % len d) = rn σ (B.at i):=by
 unfold patD at h
 cases he:eB B.cs with
 | true=>rw [he] at h; cases h
 | false=>
  rw [he] at h
  have h:Bool.rec (motive:=fun _=>Option AV) none (some (cellsN σ B p 0)) (upI (fun i=>eqU (nth (cellsN σ B p 0) (Nat.mod i (len (cellsN σ B p 0)))) (rn σ (B.at i))) B.lim) = some d:=h
  cases hu:upI (fun i=>eqU (nth (cellsN σ B p 0) (Nat.mod i (len (cellsN σ B p 0)))) (rn σ (B.at i))) B.lim with
  | false=>rw [hu] at h; cases h
  | true=>
   rw [hu] at h
   obtain rfl:=Option.some.inj h
   exact fun i hi=>eqU_eq (upI_inv hu i hi)
def rnB (σ:Nat→Option Nat) (g:Nat) (D:Option AV) (B:Blk):Blk:=⟨B.fr,g,B.lim,Option.rec (motive:=fun _=>AV) (rn σ B.df) (fun d=>d) D,Option.rec (motive:=fun _=>T AV) (tmap (rn σ) B.cs) (fun _=>.e) D⟩
theorem rnB_at {σ:Nat→Option Nat} {g:Nat} {D:Option AV} {B:Blk} (hD:∀ d,D = some d→∀ i,i < B.lim→nth d (i % len d) = rn σ (B.at i)) (i:Nat):(rnB σ g D B).at i = .unk∨(rnB σ g D B).at i = rn σ (B.at i):=by
 rw [at_eq]
 show (if i < B.lim then _ else _) = _∨(if i < B.lim then _ else _) = _
 by_cases hi:i < B.lim
 ·rw [if_pos hi]
  refine .inr ?_
  cases D with
  | some d=>exact hD d rfl i hi
  | none=>
   rw [at_eq,if_pos hi]
   show (match (tmap (rn σ) B.cs).get i with | some v=>v | none=>nth (rn σ B.df) (i % len (rn σ B.df))) = _
   rw [get_tmap,rn_len,rn_nth]
   cases B.cs.get i <;> rfl
 ·rw [if_neg hi]; exact .inl rfl
end
end Go.AM
namespace Go.AM
open Go
set_option autoImplicit false
noncomputable section
def allL {α:Type} (p:α→Bool) (l:List α):Bool:=List.rec (motive:=fun _=>Bool) true (fun x _ ih=>Bool.rec (motive:=fun _=>Bool) false ih (p x)) l
theorem allL_inv {α:Type} {p:α→Bool}:∀ {l:List α},allL p l = true→∀ x∈l,p x = true:=by
 intro l
 induction l with
 | nil=>intro _ x h; cases h
 | cons y l ih=>
  intro h x hx
  have h:Bool.rec (motive:=fun _=>Bool) false (allL p l) (p y) = true:=h
  cases hy:p y with
  | false=>rw [hy] at h; cases h
  | true=>
   rw [hy] at h
   rcases List.mem_cons.1 hx with rfl | hx
   ·exact hy
   ·exact ih h x hx
def idx (N:List Nat) (b:Nat):Nat→Option Nat:=List.rec (motive:=fun _=>Nat→Option Nat) (fun _=>none) (fun x _ ih c=>Bool.rec (motive:=fun _=>Option Nat) (ih (Nat.succ c)) (some c) (Nat.beq x b)) N
theorem idx_inv {b:Nat}:∀ (N:List Nat) (c d:Nat),idx N b c = some d→∃ i,d = c + i∧N[i]? = some b:=by
 intro N
 induction N with
 | nil=>intro c d h; cases h
 | cons x N ih=>
  intro c d h
  have h:Bool.rec (motive:=fun _=>Option Nat) (idx N b (c + 1)) (some c) (Nat.beq x b) = some d:=h
  cases hx:Nat.beq x b with
  | true=>
   rw [hx] at h
   obtain rfl:=Option.some.inj h
   rw [beq_iff] at hx
   exact ⟨0,rfl,by rw [hx]; rfl⟩
  | false=>
   rw [hx] at h
   obtain ⟨i,h1,h2⟩:=ih (c + 1) d h
   exact ⟨i + 1,by omega,h2⟩
def sg (n:Nat) (N:List Nat) (b:Nat):Option Nat:=Option.rec (motive:=fun _=>Option Nat) (Bool.rec (motive:=fun _=>Option Nat) none (some b) (Nat.blt b n)) (fun c=>some c) (idx N b n)
def ro (n:Nat) (N:List Nat) (ρ:Rho):Rho:=fun c=>if c < n then ρ c else match N[c - n]? with
 | some b=>ρ b
 | none=>none
theorem ro_lt {n:Nat} {N:List Nat} {ρ:Rho} {c:Nat} (h:c < n):ro n N ρ c = ρ c:=if_pos h
theorem ro_new {n:Nat} {N:List Nat} {ρ:Rho} {i b:Nat} (h:N[i]? = some b):ro n N ρ (n + i) = ρ b:=by
 unfold ro
 rw [if_neg (by omega),show n + i - n = i from by omega,h]
theorem sg_ro {n:Nat} {N:List Nat} {ρ:Rho} (b c:Nat) (h:sg n N b = some c):ro n N ρ c = ρ b:=by
 unfold sg at h
 cases hx:idx N b n with
 | some d=>
  rw [hx] at h
  obtain rfl:=Option.some.inj h
  obtain ⟨i,rfl,h2⟩:=idx_inv N n d hx
  exact ro_new h2
 | none=>
  rw [hx] at h
  have h:Bool.rec (motive:=fun _=>Option Nat) none (some b) (Nat.blt b n) = some c:=h
  cases hb:Nat.blt b n with
  | false=>rw [hb] at h; cases h
  | true=>
   rw [hb] at h
   obtain rfl:=Option.some.inj h
   exact ro_lt ((blt_iff _ _).1 hb)
def oldB (σ:Nat→Option Nat) (h1:Hp) (K:List Nat):T Blk:=List.rec (motive:=fun _=>T Blk) .e (fun b _ ih=>Option.rec (motive:=fun _=>T Blk) ih (fun B=>T.set (rnB σ B.g none B) ih b) (h1.bs.get b)) K
theorem oldB_inv {σ:Nat→Option Nat} {h1:Hp}:∀ (K:List Nat) (c:Nat) (B':Blk),(oldB σ h1 K).get c = some B'→∃ B,c∈K∧h1.bs.get c = some B∧B' = rnB σ B.g none B:=by
 intro K
 induction K with
 | nil=>intro c B' h; cases h
 | cons b K ih=>
  intro c B' h
  have h:(Option.rec (motive:=fun _=>T Blk) (oldB σ h1 K) (fun B=>T.set (rnB σ B.g none B) (oldB σ h1 K) b) (h1.bs.get b)).get c = some B':=h
  cases hb:h1.bs.get b with
  | none=>
   rw [hb] at h
   obtain ⟨B,k1,k2,k3⟩:=ih c B' h
   exact ⟨B,List.mem_cons_of_mem _ k1,k2,k3⟩
  | some B=>
   rw [hb] at h
   have h:(T.set (rnB σ B.g none B) (oldB σ h1 K) b).get c = some B':=h
   rw [T.get_set] at h
   by_cases hc:c = b
   ·rw [if_pos hc] at h
    exact ⟨B,by rw [hc]; exact List.mem_cons_self,by rw [hc]; exact hb,(Option.some.inj h).symm⟩
   ·rw [if_neg hc] at h
    obtain ⟨B,k1,k2,k3⟩:=ih c B' h
    exact ⟨B,List.mem_cons_of_mem _ k1,k2,k3⟩
def newB (σ:Nat→Option Nat) (fg p:Nat) (h1:Hp) (t:T Blk) (N:List Nat):Nat→T Blk:=List.rec (motive:=fun _=>Nat→T Blk) (fun _=>t) (fun b _ ih c=>Option.rec (motive:=fun _=>T Blk) (ih (Nat.succ c)) (fun B=>T.set (rnB σ c (Bool.rec (motive:=fun _=>Option AV) none (patD σ p B) (Nat.beq c fg)) B) (ih (Nat.succ c)) c) (h1.bs.get b)) N
theorem newB_inv {σ:Nat→Option Nat} {fg p:Nat} {h1:Hp} {t:T Blk}:∀ (N:List Nat) (n c:Nat) (B':Blk),(newB σ fg p h1 t N n).get c = some B'→(∃ i b B,c = n + i∧N[i]? = some b∧h1.bs.get b = some B∧B' = rnB σ c (Bool.rec (motive:=fun _=>Option AV) none (patD σ p B) (Nat.beq c fg)) B)∨t.get c = some B':=by
 intro N
 induction N with
 | nil=>intro n c B' h; exact .inr h
 | cons b N ih=>
  intro n c B' h
  have up:(∃ i b' B,c = n + 1 + i∧N[i]? = some b'∧h1.bs.get b' = some B∧B' = rnB σ c (Bool.rec (motive:=fun _=>Option AV) none (patD σ p B) (Nat.beq c fg)) B)∨t.get c = some B'→(∃ i b' B,c = n + i∧(b :: N)[i]? = some b'∧h1.bs.get b' = some B∧B' = rnB σ c (Bool.rec (motive:=fun _=>Option AV) none (patD σ p B) (Nat.beq c fg)) B)∨t.get c = some B':=by
   rintro (⟨i,b',B,k1,k2,k3⟩ | k)
   ·exact .inl ⟨i + 1,b',B,by omega,k2,k3⟩
   ·exact .inr k
  have h:(Option.rec (motive:=fun _=>T Blk) (newB σ fg p h1 t N (n + 1)) (fun B=>T.set (rnB σ n (Bool.rec (motive:=fun _=>Option AV) none (patD σ p B) (Nat.beq n fg)) B) (newB σ fg p h1 t N (n + 1)) n) (h1.bs.get b)).get c = some B':=h
  cases hb:h1.bs.get b with
  | none=>rw [hb] at h; exact up (ih (n + 1) c B' h)
  | some B=>
   rw [hb] at h
   have h:(T.set (rnB σ n (Bool.rec (motive:=fun _=>Option AV) none (patD σ p B) (Nat.beq n fg)) B) (newB σ fg p h1 t N (n + 1)) n).get c = some B':=h
   rw [T.get_set] at h
   by_cases hc:c = n
   ·rw [if_pos hc] at h
    subst hc
    exact .inl ⟨0,b,B,rfl,rfl,hb,(Option.some.inj h).symm⟩
   ·rw [if_neg hc] at h; exact up (ih (n + 1) c B' h)
def oldG (h1:Hp) (K:List Nat):T (Nat×Nat):=List.rec (motive:=fun _=>T (Nat×Nat)) .e (fun b _ ih=>Option.rec (motive:=fun _=>T (Nat×Nat)) ih (fun B=>Option.rec (motive:=fun _=>T (Nat×Nat)) ih (fun q=>T.set q ih B.g) (h1.gs.get B.g)) (h1.bs.get b)) K
theorem oldG_get {h1:Hp}:∀ (K:List Nat) (g:Nat) (q:Nat×Nat),(oldG h1 K).get g = some q→h1.gs.get g = some q∧∃ b B,b∈K∧h1.bs.get b = some B∧B.g = g:=by
 intro K
 induction K with
 | nil=>intro g q h; cases h
 | cons b K ih=>
  intro g q h
  have up:(∃ b' B,b'∈K∧h1.bs.get b' = some B∧B.g = g)→∃ b' B,b'∈b :: K∧h1.bs.get b' = some B∧B.g = g:=fun ⟨b',B,k1,k2⟩=>⟨b',B,List.mem_cons_of_mem _ k1,k2⟩
  have h:(Option.rec (motive:=fun _=>T (Nat×Nat)) (oldG h1 K) (fun B=>Option.rec (motive:=fun _=>T (Nat×Nat)) (oldG h1 K) (fun q=>T.set q (oldG h1 K) B.g) (h1.gs.get B.g)) (h1.bs.get b)).get g = some q:=h
  cases hb:h1.bs.get b with
  | none=>rw [hb] at h; exact ⟨(ih g q h).1,up (ih g q h).2⟩
  | some B=>
   rw [hb] at h
   have h:(Option.rec (motive:=fun _=>T (Nat×Nat)) (oldG h1 K) (fun q=>T.set q (oldG h1 K) B.g) (h1.gs.get B.g)).get g = some q:=h
   cases hq:h1.gs.get B.g with
   | none=>rw [hq] at h; exact ⟨(ih g q h).1,up (ih g q h).2⟩
   | some q'=>
    rw [hq] at h
    have h:(T.set q' (oldG h1 K) B.g).get g = some q:=h
    rw [T.get_set] at h
    by_cases hg:g = B.g
    ·rw [if_pos hg] at h
     obtain rfl:=Option.some.inj h
     exact ⟨by rw [hg]; exact hq,b,B,List.mem_cons_self,hb,hg.symm⟩
    ·rw [if_neg hg] at h; exact ⟨(ih g q h).1,up (ih g q h).2⟩
theorem oldG_has {h1:Hp}:∀ (K:List Nat) (b:Nat) (B:Blk) (q:Nat×Nat),b∈K→h1.bs.get b = some B→h1.gs.get B.g = some q→∃ q',(oldG h1 K).get B.g = some q':=by
 intro K
 induction K with
 | nil=>intro b B q h; cases h
 | cons x K ih=>
  intro b B q hm hb hq
  have hd:oldG h1 (x :: K) = Option.rec (motive:=fun _=>T (Nat×Nat)) (oldG h1 K) (fun B=>Option.rec (motive:=fun _=>T (Nat×Nat)) (oldG h1 K) (fun q=>T.set q (oldG h1 K) B.g) (h1.gs.get B.g)) (h1.bs.get x):=rfl
  rw [hd]
  rcases List.mem_cons.1 hm with rfl | hm
  ·rw [hb]
   show ∃ q',(Option.rec (motive:=fun _=>T (Nat×Nat)) (oldG h1 K) (fun q=>T.set q (oldG h1 K) B.g) (h1.gs.get B.g)).get B.g = some q'
   rw [hq]
   exact ⟨q,by show (T.set q (oldG h1 K) B.g).get B.g = some q; rw [T.get_set,if_pos rfl]⟩
  ·obtain ⟨q',hq'⟩:=ih b B q hm hb hq
   cases hx:h1.bs.get x with
   | none=>exact ⟨q',hq'⟩
   | some X=>
    show ∃ q',(Option.rec (motive:=fun _=>T (Nat×Nat)) (oldG h1 K) (fun q=>T.set q (oldG h1 K) X.g) (h1.gs.get X.g)).get B.g = some q'
    cases hxq:h1.gs.get X.g with
    | none=>exact ⟨q',hq'⟩
    | some q2=>
     show ∃ q',(T.set q2 (oldG h1 K) X.g).get B.g = some q'
     rw [T.get_set]
     by_cases hg:B.g = X.g
     ·rw [if_pos hg]; exact ⟨q2,rfl⟩
     ·rw [if_neg hg]; exact ⟨q',hq'⟩
def oldM (σ:Nat→Option Nat) (h1:Hp) (K:List Nat):T AV:=List.rec (motive:=fun _=>T AV) .e (fun b _ ih=>Option.rec (motive:=fun _=>T AV) ih (fun m=>T.set (rn σ m) ih b) (h1.ms.get b)) K
theorem oldM_inv {σ:Nat→Option Nat} {h1:Hp}:∀ (K:List Nat) (c:Nat) (m':AV),(oldM σ h1 K).get c = some m'→∃ m,c∈K∧h1.ms.get c = some m∧m' = rn σ m:=by
 intro K
 induction K with
 | nil=>intro c B' h; cases h
 | cons b K ih=>
  intro c B' h
  have h:(Option.rec (motive:=fun _=>T AV) (oldM σ h1 K) (fun B=>T.set (rn σ B) (oldM σ h1 K) b) (h1.ms.get b)).get c = some B':=h
  cases hb:h1.ms.get b with
  | none=>
   rw [hb] at h
   obtain ⟨B,k1,k2,k3⟩:=ih c B' h
   exact ⟨B,List.mem_cons_of_mem _ k1,k2,k3⟩
  | some B=>
   rw [hb] at h
   have h:(T.set (rn σ B) (oldM σ h1 K) b).get c = some B':=h
   rw [T.get_set] at h
   by_cases hc:c = b
   ·rw [if_pos hc] at h
    exact ⟨B,by rw [hc]; exact List.mem_cons_self,by rw [hc]; exact hb,(Option.some.inj h).symm⟩
   ·rw [if_neg hc] at h
    obtain ⟨B,k1,k2,k3⟩:=ih c B' h
    exact ⟨B,List.mem_cons_of_mem _ k1,k2,k3⟩
def reH (n:Nat) (N:List Nat) (fg pt:Nat) (K M:List Nat) (oc:Oc) (h:Hp):Hp:=⟨Nat.add n N.length,newB (sg n N) fg pt h (oldB (sg n N) h K) N n,oldG h K,oldM (sg n N) h M,h.lo,oc⟩
def grN (h:Hp) (b n:Nat):Nat:=Option.rec (motive:=fun _=>Nat) n (fun B=>B.g) (h.bs.get b)
def distN (h:Hp) (n:Nat) (N:List Nat):Bool:=List.rec (motive:=fun _=>Bool) true (fun x l ih=>Bool.rec (motive:=fun _=>Bool) false ih (allL (fun y=>bnot (Nat.beq (grN h x n) (grN h y n))) l)) N
def reOk (n:Nat) (N K M:List Nat) (h:Hp):Bool:=
 allL (fun b=>Bool.rec (motive:=fun _=>Bool) false (Option.rec (motive:=fun _=>Bool) true (fun B=>Bool.rec (motive:=fun _=>Bool) false (Bool.rec (motive:=fun _=>Bool) false (allL (fun x=>bnot (Nat.beq B.g (grN h x n))) N) (Nat.blt (h.grp B.g).1 n)) (Nat.blt B.g n)) (h.bs.get b)) (Nat.blt b n)) K &&
 (allL (fun b=>Nat.blt b n) M && (allL (fun x=>Option.rec (motive:=fun _=>Bool) false (fun X=>Bool.rec (motive:=fun _=>Bool) false (Nat.ble (h.grp X.g).2 x) X.fr) (h.bs.get x)) N && (distN h n N && Nat.beq h.lo 0)))
theorem distN_inv {h:Hp} {n:Nat}:∀ {N:List Nat},distN h n N = true→∀ (i j a b:Nat),N[i]? = some a→N[j]? = some b→grN h a n = grN h b n→i = j:=by
 intro N
 induction N with
 | nil=>intro _ i j a b h1; simp at h1
 | cons x N ih=>
  intro hd i j a b h1 h2 hg
  have hd:Bool.rec (motive:=fun _=>Bool) false (distN h n N) (allL (fun y=>bnot (Nat.beq (grN h x n) (grN h y n))) N) = true:=hd
  cases ha:allL (fun y=>bnot (Nat.beq (grN h x n) (grN h y n))) N with
  | false=>rw [ha] at hd; cases hd
  | true=>
   rw [ha] at hd
   have hx:=allL_inv ha
   cases i with
   | zero=>
    cases j with
    | zero=>rfl
    | succ j=>
     simp at h1 h2
     subst h1
     have h3:=hx b (List.mem_of_getElem? h2)
     rw [(beq_iff _ _).2 hg] at h3; cases h3
   | succ i=>
    cases j with
    | zero=>
     simp at h1 h2
     subst h2
     have h3:=hx a (List.mem_of_getElem? h1)
     rw [(beq_iff _ _).2 hg.symm] at h3; cases h3
    | succ j=>
     simp at h1 h2
     rw [ih hd i j a b h1 h2 hg]
section
variable {n:Nat} {N K M:List Nat} {fg pt:Nat} {oc:Oc} {h:Hp}
structure ReOk (n:Nat) (N K M:List Nat) (h:Hp):Prop where
 k:∀ b,b∈K→b < n∧∀ B,h.bs.get b = some B→B.g < n∧(h.grp B.g).1 < n∧∀ x,x∈N→B.g ≠ grN h x n
 m:∀ b,b∈M→b < n
 x:∀ x,x∈N→∃ X,h.bs.get x = some X∧X.fr = true∧(h.grp X.g).2≤x
 d:∀ (i j a b:Nat),N[i]? = some a→N[j]? = some b→grN h a n = grN h b n→i = j
 lo:h.lo = 0
theorem reOk_inv (hk:reOk n N K M h = true):ReOk n N K M h:=by
 unfold reOk at hk
 rw [Bool.and_eq_true,Bool.and_eq_true,Bool.and_eq_true,Bool.and_eq_true] at hk
 obtain ⟨h1,h2,h3,h4,h5⟩:=hk
 refine ⟨fun b hb=>?_,fun b hb=>(blt_iff _ _).1 (allL_inv h2 b hb),fun x hx=>?_,distN_inv h4,(beq_iff _ _).1 h5⟩
 ·have h6:=allL_inv h1 b hb
  cases hbn:Nat.blt b n with
  | false=>rw [hbn] at h6; cases h6
  | true=>
   rw [hbn] at h6
   refine ⟨(blt_iff _ _).1 hbn,fun B hB=>?_⟩
   have h6:Option.rec (motive:=fun _=>Bool) true (fun B=>Bool.rec (motive:=fun _=>Bool) false (Bool.rec (motive:=fun _=>Bool) false (allL (fun x=>bnot (Nat.beq B.g (grN h x n))) N) (Nat.blt (h.grp B.g).1 n)) (Nat.blt B.g n)) (h.bs.get b) = true:=h6
   rw [hB] at h6
   have h6:Bool.rec (motive:=fun _=>Bool) false (Bool.rec (motive:=fun _=>Bool) false (allL (fun x=>bnot (Nat.beq B.g (grN h x n))) N) (Nat.blt (h.grp B.g).1 n)) (Nat.blt B.g n) = true:=h6
   cases hg:Nat.blt B.g n with
   | false=>rw [hg] at h6; cases h6
   | true=>
    rw [hg] at h6
    cases hq:Nat.blt (h.grp B.g).1 n with
    | false=>rw [hq] at h6; cases h6
    | true=>
     rw [hq] at h6
     refine ⟨(blt_iff _ _).1 hg,(blt_iff _ _).1 hq,fun x hx he=>?_⟩
     have h7:=allL_inv h6 x hx
     rw [(beq_iff _ _).2 he] at h7; cases h7
 ·have h6:=allL_inv h3 x hx
  cases hB:h.bs.get x with
  | none=>rw [hB] at h6; cases h6
  | some X=>
   rw [hB] at h6
   have h6:Bool.rec (motive:=fun _=>Bool) false (Nat.ble (h.grp X.g).2 x) X.fr = true:=h6
   cases hf:X.fr with
   | false=>rw [hf] at h6; cases h6
   | true=>
    rw [hf] at h6
    exact ⟨X,rfl,hf,(ble_iff _ _).1 h6⟩
theorem reH_blk {c:Nat} {B':Blk} (hb:(reH n N fg pt K M oc h).bs.get c = some B'):
  (∃ i b B,c = n + i∧N[i]? = some b∧h.bs.get b = some B∧B' = rnB (sg n N) c (Bool.rec (motive:=fun _=>Option AV) none (patD (sg n N) pt B) (Nat.beq c fg)) B)∨∃ B,c∈K∧h.bs.get c = some B∧B' = rnB (sg n N) B.g none B:=by
 rcases newB_inv N n c B' hb with h1 | h1
 ·exact .inl h1
 ·exact .inr (oldB_inv K c B' h1)
variable {N0:Base} {ρ:Rho} {w:World}
theorem grp_re {b:Nat} {B:Blk} (hb:b∈K) (hB:h.bs.get b = some B):(reH n N fg pt K M oc h).grp B.g = h.grp B.g:=by
 rw [grp_of,grp_of]
 show (match (oldG h K).get B.g with | some q=>q | none=>(B.g,B.g)) = _
 cases hq:h.gs.get B.g with
 | none=>
  cases hx:(oldG h K).get B.g with
  | none=>rfl
  | some q=>have:=(oldG_get K _ q hx).1; rw [hq] at this; cases this
 | some q=>
  obtain ⟨q',hx⟩:=oldG_has K b B q hb hB hq
  rw [hx]
  have:=(oldG_get K _ q' hx).1
  rw [hq] at this
  obtain rfl:=Option.some.inj this
  rfl
theorem grp_re_new (hk:ReOk n N K M h) {c:Nat} (hc:n≤c):(reH n N fg pt K M oc h).grp c = (c,c):=by
 rw [grp_of]
 show (match (oldG h K).get c with | some q=>q | none=>(c,c)) = _
 cases hx:(oldG h K).get c with
 | none=>rfl
 | some q=>
  obtain ⟨-,b,B,k1,k2,k3⟩:=oldG_get K c q hx
  have:=((hk.k b k1).2 B k2).1
  omega
theorem re_inv (hk:ReOk n N K M h) (hi:Inv N0 ρ h w):Inv N0 (ro n N ρ) (reH n N fg pt K M oc h) w:=by
 have hlen:∀ i b,N[i]? = some b→i < N.length:=fun i b hb=>(List.getElem?_eq_some_iff.1 hb).1
  -- a block's row
 have row:∀ (c b:Nat) (B:Blk) (g:Nat) (f:Option AV),(∀ d,f = some d→∀ i,i < B.lim→nth d (i % len d) = rn (sg n N) (B.at i))→h.bs.get b = some B→ro n N ρ c = ρ b→(readable (reH n N fg pt K M oc h) c (rnB (sg n N) g f B)→readable h b B)→∃ p,ro n N ρ c = some p∧BR N0 (ro n N ρ) (reH n N fg pt K M oc h) w c (rnB (sg n N) g f B) p:=by
  intro c b B g f hD hB hr hrd
  obtain ⟨p,h1,h2⟩:=hi.blk b B hB
  refine ⟨p,hr.trans h1,?_,h2.fit,h2.side⟩
  obtain ⟨cs,e,fz,k1,k2,k3,k4⟩:=h2.obj
  refine ⟨cs,e,fz,k1,k2,k3,fun hread i hil=>?_⟩
  obtain ⟨V,k5,k6⟩:=k4 (hrd hread) i hil
  refine ⟨V,k5,?_⟩
  rcases rnB_at (σ:=sg n N) (g:=g) (D:=f) (B:=B) hD i with h3 | h3
  ·rw [h3]; exact trivial
  ·rw [h3]; exact k6.rn sg_ro
 have rdOld:∀ (c:Nat) (B:Blk),c∈K→h.bs.get c = some B→readable (reH n N fg pt K M oc h) c (rnB (sg n N) B.g none B)→readable h c B:=by
  intro c B hc hB hr hf
  have this:((reH n N fg pt K M oc h).grp B.g).2≤c:=hr hf
  rw [grp_re hc hB] at this
  exact this
 have rdNew:∀ (i b:Nat) (B:Blk),N[i]? = some b→h.bs.get b = some B→readable h b B:=by
  intro i b B hb hB _
  obtain ⟨X,k1,-,k3⟩:=hk.x b (List.mem_of_getElem? hb)
  rw [hB] at k1
  obtain rfl:=Option.some.inj k1
  exact k3
 refine ⟨fun c B' hb=>?_,fun c B' hb=>?_,fun c B' hb hf=>?_,fun g q hq=>?_,fun c1 c2 B1 B2 p1 p2 hb1 hb2 hf1 hf2 hp1 hp2 hpr=>?_,fun c1 c2 B1 B2 p1 p2 hb1 hb2 hf1 hf2 hp1 hp2 hg hr1 hr2 hc=>?_,fun i hin=>?_,hi.wsz,⟨fun b m hb=>?_,fun b1 b2 m1 m2 p1 p2 hb1 hb2 hp1 hp2 hpr=>?_⟩,hi.jj⟩
 · -- blk
  rcases reH_blk hb with ⟨i,b,B,rfl,k1,k2,rfl⟩ | ⟨B,k1,k2,rfl⟩
  ·refine row _ b B _ _ (fun d hd=>?_) k2 (ro_new k1) fun _=>rdNew i b B k1 k2
   cases hq:Nat.beq (n + i) fg with
   | true=>rw [hq] at hd; exact patD_inv hd
   | false=>rw [hq] at hd; cases hd
  ·exact row _ c B _ _ (fun d hd=>by cases hd) k2 (ro_lt (hk.k c k1).1) (rdOld c B k1 k2)
 · -- nb
  show c < n + N.length
  rcases reH_blk hb with ⟨i,b,B,rfl,k1,k2,rfl⟩ | ⟨B,k1,k2,rfl⟩
  ·have:=hlen i b k1; omega
  ·have:=(hk.k c k1).1; omega
 · -- gnb
  rcases reH_blk hb with ⟨i,b,B,rfl,k1,k2,rfl⟩ | ⟨B,k1,k2,rfl⟩
  ·refine ⟨show n + i < n + N.length from by have:=hlen i b k1; omega,?_⟩
   show n + i≤((reH n N fg pt K M oc h).grp (n + i)).1
   rw [grp_re_new hk (by omega)]; exact Nat.le_refl _
  ·obtain ⟨k4,k5,-⟩:=(hk.k c k1).2 B k2
   refine ⟨show B.g < n + N.length from by omega,?_⟩
   show c≤((reH n N fg pt K M oc h).grp B.g).1
   rw [grp_re k1 k2]
   exact (hi.gnb c B k2 hf).2
 · -- gs
  obtain ⟨k1,b,B,k2,k3,rfl⟩:=oldG_get K g q hq
  obtain ⟨k5,k6,-⟩:=(hk.k b k2).2 B k3
  have k7:=hi.gs _ q k1
  have e:h.grp B.g = q:=by rw [grp_of,k1]
  rw [e] at k6
  exact ⟨show B.g < n + N.length from by omega,show q.1 < n + N.length from by omega,k7.2.2⟩
 · -- als
  rcases reH_blk hb1 with ⟨i,b,B,rfl,k1,k2,rfl⟩ | ⟨B,k1,k2,rfl⟩ <;> rcases reH_blk hb2 with ⟨i',b',B',rfl,k1',k2',rfl⟩ | ⟨B',k1',k2',rfl⟩
  ·rw [ro_new k1] at hp1; rw [ro_new k1'] at hp2
   have:=hi.als b b' B B' p1 p2 k2 k2' hf1 hf2 hp1 hp2 hpr
   have hii:=hk.d i i' b b' k1 k1' (by unfold grN; rw [k2,k2']; exact this)
   rw [hii]
   rfl
  ·rw [ro_new k1] at hp1; rw [ro_lt (hk.k _ k1').1] at hp2
   have:=hi.als b c2 B B' p1 p2 k2 k2' hf1 hf2 hp1 hp2 hpr
   exact absurd (by unfold grN; rw [k2]; exact this.symm) (((hk.k _ k1').2 B' k2').2.2 b (List.mem_of_getElem? k1))
  ·rw [ro_lt (hk.k _ k1).1] at hp1; rw [ro_new k1'] at hp2
   have:=hi.als c1 b' B B' p1 p2 k2 k2' hf1 hf2 hp1 hp2 hpr
   exact absurd (by unfold grN; rw [k2']; exact this) (((hk.k _ k1).2 B k2).2.2 b' (List.mem_of_getElem? k1'))
  ·rw [ro_lt (hk.k _ k1).1] at hp1; rw [ro_lt (hk.k _ k1').1] at hp2
   exact hi.als c1 c2 B B' p1 p2 k2 k2' hf1 hf2 hp1 hp2 hpr
 · -- lim
  rcases reH_blk hb1 with ⟨i,b,B,rfl,k1,k2,rfl⟩ | ⟨B,k1,k2,rfl⟩ <;> rcases reH_blk hb2 with ⟨i',b',B',rfl,k1',k2',rfl⟩ | ⟨B',k1',k2',rfl⟩
  ·have hii:n + i = n + i':=hg
   obtain rfl:i = i':=by omega
   rw [k1] at k1'
   obtain rfl:=Option.some.inj k1'
   rw [k2] at k2'
   obtain rfl:=Option.some.inj k2'
   rw [hp1] at hp2
   obtain rfl:=Option.some.inj hp2
   exact ⟨Nat.le_refl _,fun _=>rfl⟩
  ·have hii:n + i = B'.g:=hg
   have:=((hk.k _ k1').2 B' k2').1
   omega
  ·have hii:B.g = n + i':=hg
   have:=((hk.k _ k1).2 B k2).1
   omega
  ·rw [ro_lt (hk.k _ k1).1] at hp1; rw [ro_lt (hk.k _ k1').1] at hp2
   exact hi.lim c1 c2 B B' p1 p2 k2 k2' hf1 hf2 hp1 hp2 hg (rdOld c1 B k1 k2 hr1) (rdOld c2 B' k1' k2' hr2) hc
 · -- free
  have hin:n + N.length≤i:=hin
  unfold ro
  rw [if_neg (by omega)]
  have:N[i - n]? = none:=List.getElem?_eq_none_iff.2 (by omega)
  rw [this]
 · -- maps
  obtain ⟨m0,k1,k2,rfl⟩:=oldM_inv M b m hb
  have hbn:=hk.m b k1
  obtain ⟨-,p,o,k3,k4,k5,k6⟩:=hi.mp.ent b m0 k2
  exact ⟨show b < n + N.length from by omega,p,o,by rw [ro_lt hbn]; exact k3,k4,k5,k6.rn sg_ro⟩
 ·obtain ⟨m0,k1,k2,rfl⟩:=oldM_inv M b1 m1 hb1
  obtain ⟨m0',k1',k2',rfl⟩:=oldM_inv M b2 m2 hb2
  rw [ro_lt (hk.m _ k1)] at hp1
  rw [ro_lt (hk.m _ k1')] at hp2
  exact hi.mp.inj b1 b2 m0 m0' p1 p2 k2 k2' hp1 hp2 hpr
theorem re_tr {ρ0:Rho} {h0:Hp} {w0:World} (hk:ReOk n N K M h) (hn:h0.nb≤n) (hf:∀ i,h0.nb≤i→ρ0 i = none) (ht:Tr ρ0 h0 w0 ρ h w):Tr ρ0 h0 w0 (ro n N ρ) (reH n N fg pt K M oc h) w:=by
 have hlo:h0.lo = 0:=ht.lo.symm.trans hk.lo
 have low:∀ b p,ρ0 b = some p→b < n:=fun b p hb=>by
  by_cases h1:h0.nb≤b
  ·rw [hf b h1] at hb; cases hb
  ·omega
 refine ⟨fun b p hb=>?_,show h0.nb≤n + N.length from by omega,fun b p hb=>?_,ht.frame,fun l hl c B p hb hB hp=>?_,fun l hl b m p hb hlb hp=>?_,ht.size,ht.tape,ht.os,ht.output,ht.lo⟩
 ·rw [ro_lt (low b p hb)]; exact ht.ext b p hb
 ·by_cases hbn:b < n
  ·rw [ro_lt hbn] at hb
   rcases ht.new b p hb with h1 | ⟨h1,h2,-⟩
   ·exact .inl h1
   ·exact .inr ⟨h1,h2,show b < n + N.length from by omega⟩
  ·have hlt:b - n < N.length:=by
    by_cases h1:b - n < N.length
    ·exact h1
    ·unfold ro at hb
     rw [if_neg hbn,List.getElem?_eq_none_iff.2 (by omega)] at hb
     cases hb
   exact .inr ⟨hf b (by omega),by omega,show b < n + N.length from by omega⟩
 ·obtain rfl:l = 0:=by omega
  rcases reH_blk hb with ⟨i,b,B0,rfl,k1,k2,rfl⟩ | ⟨B0,k1,k2,rfl⟩
  ·rw [ro_new k1] at hp
   exact ht.img 0 (Nat.zero_le _) b B0 p k2 ⟨hB.1,Nat.zero_le _⟩ hp
  ·rw [ro_lt (hk.k c k1).1] at hp
   exact ht.img 0 (Nat.zero_le _) c B0 p k2 ⟨hB.1,Nat.zero_le _⟩ hp
 ·obtain ⟨m0,k1,k2,rfl⟩:=oldM_inv M b m hb
  rw [ro_lt (hk.m b k1)] at hp
  exact ht.mimg l hl b m0 p k2 hlb hp
end
end
end Go.AM
namespace Go.AM
open Go
set_option autoImplicit false
noncomputable section
def alH (g:Hp) (c:Nat) (B1:Blk) (oc:Oc):Hp:=Hp.rec (motive:=fun _=>Hp) (fun _ bs gs ms lo _=>⟨Nat.succ c,T.set (Blk.rec (motive:=fun _=>Blk) (fun _ _ lim df cs=>⟨true,c,lim,df,cs⟩) B1) bs c,gs,ms,lo,oc⟩) g
structure Al (h g:Hp) (c b1:Nat) (B1 B2:Blk):Prop where
 b:h.bs.get b1 = some B1
 f:B1.fr = true
 r:(h.grp B1.g).2≤b1
 lo:h.lo≤b1
 c:h.nb≤c
 k:∀ b B,g.bs.get b = some B→h.bs.get b = some B∧(B.fr = true→B.g ≠ B1.g∧g.grp B.g = h.grp B.g)
 gs:∀ i q,g.gs.get i = some q→h.gs.get i = some q
 ms:∀ b m,g.ms.get b = some m→h.ms.get b = some m
 gl:g.lo = h.lo
 a1:B2.lim≤B1.lim
 a2:∀ i,i < B2.lim→B2.at i = B1.at i
def alS (b1 c:Nat) (b:Nat):Option Nat:=Bool.rec (motive:=fun _=>Option Nat) (Bool.rec (motive:=fun _=>Option Nat) (some b) none (Nat.beq b c)) (some c) (Nat.beq b b1)
section
variable {N0:Base} {ρ:Rho} {h g:Hp} {w:World} {c b1:Nat} {B1 B2:Blk} {oc:Oc}
theorem alH_get {b:Nat} {B:Blk} (h:(alH g c B1 oc).bs.get b = some B):(b = c∧B = ⟨true,c,B1.lim,B1.df,B1.cs⟩)∨(b ≠ c∧g.bs.get b = some B):=by
 obtain ⟨nb,bs,gs,ms,lo,o⟩:=g
 obtain ⟨fr,g1,lim,df,cs⟩:=B1
 have h:(T.set (⟨true,c,lim,df,cs⟩:Blk) bs c).get b = some B:=h
 rw [T.get_set] at h
 by_cases hb:b = c
 ·rw [if_pos hb] at h; exact .inl ⟨hb,(Option.some.inj h).symm⟩
 ·rw [if_neg hb] at h; exact .inr ⟨hb,h⟩
theorem alH_gs:(alH g c B1 oc).gs = g.gs:=by obtain ⟨nb,bs,gs,ms,lo,o⟩:=g; rfl
theorem alH_ms:(alH g c B1 oc).ms = g.ms:=by obtain ⟨nb,bs,gs,ms,lo,o⟩:=g; rfl
theorem alH_lo:(alH g c B1 oc).lo = g.lo:=by obtain ⟨nb,bs,gs,ms,lo,o⟩:=g; rfl
theorem alH_nb:(alH g c B1 oc).nb = c + 1:=by obtain ⟨nb,bs,gs,ms,lo,o⟩:=g; rfl
theorem alH_grp (i:Nat):(alH g c B1 oc).grp i = g.grp i:=by unfold Hp.grp; rw [alH_gs]
theorem alS_ro {p1:Pl} (h1:ρ b1 = some p1) (b d:Nat) (h:alS b1 c b = some d):ups ρ c p1 d = ρ b:=by
 unfold alS at h
 cases hb:Nat.beq b b1 with
 | true=>
  rw [hb] at h
  obtain rfl:=Option.some.inj h
  rw [beq_iff] at hb
  rw [ups_same,hb,h1]
 | false=>
  rw [hb] at h
  have h:Bool.rec (motive:=fun _=>Option Nat) (some b) none (Nat.beq b c) = some d:=h
  cases hc:Nat.beq b c with
  | true=>rw [hc] at h; cases h
  | false=>
   rw [hc] at h
   obtain rfl:=Option.some.inj h
   have:b ≠ c:=fun h=>by rw [(beq_iff _ _).2 h] at hc; cases hc
   rw [ups_ne _ _ this]
theorem al_inv (hi:Inv N0 ρ h w) (A:Al h g c b1 B1 B2):∃ p1,ρ b1 = some p1∧Inv N0 (ups ρ c p1) (alH g c B2 oc) w:=by
 obtain ⟨p1,hp1,hB1⟩:=hi.blk b1 B1 A.b
 have hc:ρ c = none:=hi.free c A.c
 have hx:Ext ρ (ups ρ c p1):=ups_ext _ hc
 have old:∀ b,b < h.nb→ups ρ c p1 b = ρ b:=fun b hb=>ups_ne _ _ (by have:=A.c; omega)
 have hcn:g.gs.get c = none:=by
  cases hq:g.gs.get c with
  | none=>rfl
  | some q=>have:=(hi.gs c q (A.gs c q hq)).1; have:=A.c; omega
 have hgc:g.grp c = (c,c):=by unfold Hp.grp; rw [hcn]
 have kold:∀ b B,g.bs.get b = some B→b < h.nb:=fun b B hb=>hi.nb b B (A.k b B hb).1
 have hlt:=A.c
 refine ⟨p1,hp1,⟨fun b B hb=>?_,fun b B hb=>?_,fun b B hb hf=>?_,fun i q hq=>?_,fun c1 c2 C1 C2 p2 p3 hb1 hb2 hf1 hf2 hp2 hp3 hpr=>?_,fun c1 c2 C1 C2 p2 p3 hb1 hb2 hf1 hf2 hp2 hp3 hg hr1 hr2 hcc=>?_,fun i hin=>?_,hi.wsz,⟨fun b m hb=>?_,fun m1 m2 n1 n2 p2 p3 hb1 hb2 hp2 hp3 hpr=>?_⟩,hi.jj⟩⟩
 ·rcases alH_get hb with ⟨rfl,rfl⟩ | ⟨hne,hb⟩
  ·refine ⟨p1,ups_same _ _ _,?_,Nat.le_trans (Nat.add_le_add_left A.a1 _) hB1.fit,fun _=>hB1.side.1 A.f,fun h=>by cases h⟩
   obtain ⟨cs,e,fz,k1,k2,k3,k4⟩:=hB1.obj
   refine ⟨cs,e,fz,k1,k2,fun _=>k3 A.f,fun _ i hil=>?_⟩
   have hil:i < B2.lim:=hil
   obtain ⟨V,k5,k6⟩:=k4 (fun _=>A.r) i (Nat.lt_of_lt_of_le hil A.a1)
   refine ⟨V,k5,?_⟩
   have e1:(⟨true,b,B2.lim,B2.df,B2.cs⟩:Blk).at i = B2.at i:=rfl
   rw [e1,A.a2 i hil]
   exact k6.ext hx
  ·obtain ⟨hk,hk2⟩:=A.k b B hb
   obtain ⟨p,k1,k2⟩:=hi.blk b B hk
   refine ⟨p,hx _ _ k1,?_,k2.fit,k2.side⟩
   obtain ⟨cs,e,fz,q1,q2,q3,q4⟩:=k2.obj
   refine ⟨cs,e,fz,q1,q2,q3,fun hr i hil=>?_⟩
   obtain ⟨V,q5,q6⟩:=q4 (fun hf=>by
    have:=hr hf
    rw [alH_grp,(hk2 hf).2] at this
    exact this) i hil
   exact ⟨V,q5,q6.ext hx⟩
 ·rw [alH_nb]
  rcases alH_get hb with ⟨rfl,-⟩ | ⟨-,hb⟩
  ·omega
  ·have:=kold b B hb; omega
 ·rw [alH_nb,alH_grp]
  rcases alH_get hb with ⟨rfl,rfl⟩ | ⟨-,hb⟩
  ·refine ⟨by show b < b + 1; omega,?_⟩
   show b≤(g.grp b).1
   rw [hgc]; exact Nat.le_refl _
  ·obtain ⟨hk,hk2⟩:=A.k b B hb
   have:=hi.gnb b B hk hf
   rw [(hk2 hf).2]
   exact ⟨by omega,this.2⟩
 ·rw [alH_gs] at hq
  rw [alH_nb]
  have:=hi.gs i q (A.gs i q hq)
  exact ⟨by omega,by omega,this.2.2⟩
 ·rcases alH_get hb1 with ⟨rfl,rfl⟩ | ⟨hne1,kb1⟩ <;> rcases alH_get hb2 with ⟨h4,rfl⟩ | ⟨hne2,kb2⟩
  ·rfl
  ·rw [ups_same] at hp2
   obtain rfl:=Option.some.inj hp2
   rw [ups_ne _ _ hne2] at hp3
   obtain ⟨hk,hk2⟩:=A.k c2 C2 kb2
   exact absurd (hi.als b1 c2 B1 C2 p1 p3 A.b hk A.f hf2 hp1 hp3 hpr).symm (hk2 hf2).1
  ·subst h4
   rw [ups_same] at hp3
   obtain rfl:=Option.some.inj hp3
   rw [ups_ne _ _ hne1] at hp2
   obtain ⟨hk,hk2⟩:=A.k c1 C1 kb1
   exact absurd (hi.als c1 b1 C1 B1 p2 p1 hk A.b hf1 A.f hp2 hp1 hpr) (hk2 hf1).1
  ·rw [ups_ne _ _ hne1] at hp2
   rw [ups_ne _ _ hne2] at hp3
   exact hi.als c1 c2 C1 C2 p2 p3 (A.k c1 C1 kb1).1 (A.k c2 C2 kb2).1 hf1 hf2 hp2 hp3 hpr
 ·rcases alH_get hb1 with ⟨rfl,rfl⟩ | ⟨hne1,kb1⟩ <;> rcases alH_get hb2 with ⟨h4,rfl⟩ | ⟨hne2,kb2⟩
  ·rw [h4] at hp3
   rw [ups_same] at hp2 hp3
   obtain rfl:=Option.some.inj hp2
   obtain rfl:=Option.some.inj hp3
   exact ⟨Nat.le_refl _,fun _=>rfl⟩
  ·exfalso
   have h5:c1 = C2.g:=hg
   have:=(hi.gnb c2 C2 (A.k c2 C2 kb2).1 hf2).1
   omega
  ·exfalso
   subst h4
   have h5:C1.g = c2:=hg
   have:=(hi.gnb c1 C1 (A.k c1 C1 kb1).1 hf1).1
   omega
  ·rw [ups_ne _ _ hne1] at hp2
   rw [ups_ne _ _ hne2] at hp3
   obtain ⟨hk1,hj1⟩:=A.k c1 C1 kb1
   obtain ⟨hk2,hj2⟩:=A.k c2 C2 kb2
   refine hi.lim c1 c2 C1 C2 p2 p3 hk1 hk2 hf1 hf2 hp2 hp3 hg (fun hf=>?_) (fun hf=>?_) hcc
   ·have:=hr1 hf; rw [alH_grp,(hj1 hf).2] at this; exact this
   ·have:=hr2 hf; rw [alH_grp,(hj2 hf).2] at this; exact this
 ·rw [alH_nb] at hin
  rw [ups_ne _ _ (by omega)]
  exact hi.free i (by omega)
 ·rw [alH_ms] at hb
  rw [alH_nb]
  obtain ⟨k1,p,o,k2,k3,k4,k5⟩:=hi.mp.ent b m (A.ms b m hb)
  exact ⟨by omega,p,o,hx _ _ k2,k3,k4,k5.ext hx⟩
 ·rw [alH_ms] at hb1 hb2
  have q1:=(hi.mp.ent m1 n1 (A.ms _ _ hb1)).1
  have q2:=(hi.mp.ent m2 n2 (A.ms _ _ hb2)).1
  rw [old m1 q1] at hp2
  rw [old m2 q2] at hp3
  exact hi.mp.inj m1 m2 n1 n2 p2 p3 (A.ms _ _ hb1) (A.ms _ _ hb2) hp2 hp3 hpr
theorem al_tr {ρ0:Rho} {h0:Hp} {w0:World} {p1:Pl} (hi:Inv N0 ρ h w) (A:Al h g c b1 B1 B2) (h1:ρ b1 = some p1) (ht:Tr ρ0 h0 w0 ρ h w):Tr ρ0 h0 w0 (ups ρ c p1) (alH g c B2 oc) w:=by
 have hc:ρ c = none:=hi.free c A.c
 have hlt:=A.c
 have hnb:=ht.nb
 refine ⟨ht.ext.trans (ups_ext _ hc),by rw [alH_nb]; omega,fun b p hb=>?_,ht.frame,fun l hl b B p hb hB hp=>?_,fun l hl b m p hb hlb hp=>?_,ht.size,ht.tape,ht.os,ht.output,by rw [alH_lo,A.gl]; exact ht.lo⟩
 ·rw [alH_nb]
  by_cases hbc:b = c
  ·subst hbc
   refine .inr ⟨?_,by omega,by omega⟩
   cases h2:ρ0 b with
   | none=>rfl
   | some p2=>have:=ht.ext b p2 h2; rw [hc] at this; cases this
  ·rw [ups_ne _ _ hbc] at hb
   rcases ht.new b p hb with h2 | ⟨h2,h3,h4⟩
   ·exact .inl h2
   ·exact .inr ⟨h2,h3,by omega⟩
 ·rcases alH_get hb with ⟨rfl,rfl⟩ | ⟨hne,hb⟩
  ·rw [ups_same] at hp
   obtain rfl:=Option.some.inj hp
   exact ht.img l hl b1 B1 p1 A.b ⟨A.f,Nat.le_trans (by rw [ht.lo]; exact hl) A.lo⟩ h1
  ·rw [ups_ne _ _ hne] at hp
   exact ht.img l hl b B p (A.k b B hb).1 hB hp
 ·rw [alH_ms] at hb
  have hb:=A.ms b m hb
  have:=(hi.mp.ent b m hb).1
  rw [ups_ne _ _ (by omega)] at hp
  exact ht.mimg l hl b m p hb hlb hp
end
theorem pure_sound {P:Program} {f:FuncId} {s G:Fun} (hF:FSound P f s)
  (hG:∀ args h v h' (N0:Base) (ρ:Rho) (w:World),Inv N0 ρ h w→now (G args h) = .ret v h'→h.lo = 0∧∃ b1 B1 B2 n z c h1,now (s args h) = .ret (.sl b1 0 n z none) h1∧v = .sl c 0 n z none∧h' = alH h c B2 h.oc ∧
   h1.bs.get b1 = some B1∧B1.fr = true∧h.nb≤B1.g∧(h1.grp B1.g).2≤b1∧h1.nb≤c∧(∀ b,b < h.nb→h1.bs.get b = h.bs.get b)∧(∀ i,i < h.nb→h1.gs.get i = h.gs.get i)∧h1.ms = h.ms∧h1.lo = h.lo∧B2.lim≤B1.lim∧∀ i,i < B2.lim→B2.at i = B1.at i):FSound P f G:=by
 intro N0 hN ρ h w args Args v h' e hi ha
 obtain ⟨hlo,b1,B1,B2,n,z,c,h1,e1,rfl,rfl,k1,k2,k3,k4,k5,k6,k7,k8,k9,ka,kb⟩:=hG args h v h' N0 ρ w hi e
 refine (hF N0 hN ρ h w args Args _ h1 e1 hi ha).mono fun e w' ⟨V,ρ',q1,q2⟩=>?_
 have A:Al h1 h c b1 B1 B2:=⟨k1,k2,k4,by rw [k9,hlo]; exact Nat.zero_le _,k5,fun b B hb=>by
   have hb2:=hi.nb b B hb
   refine ⟨(k6 b hb2).trans hb,fun hf=>?_⟩
   have h3:=(hi.gnb b B hb hf).1
   exact ⟨by omega,by unfold Hp.grp; rw [k7 _ h3]⟩,
  fun i q hq=>(k7 i (hi.gs i q hq).1).trans hq,fun b m hb=>by rw [k8]; exact hb,k9.symm,ka,kb⟩
 obtain ⟨p1,hp1,hinv⟩:=al_inv (oc:=h.oc) q2.inv A
 refine ⟨V,ups ρ' c p1,q1,?_,hinv,al_tr q2.inv A hp1 q2.tr⟩
 obtain ⟨p,c',hp,hv⟩:=q2.val
 exact ⟨p,c',(by rw [ups_same]; rw [hp1] at hp; exact hp),hv⟩
end
end Go.AM
namespace Go.AM
open Go
set_option autoImplicit false
inductive Goes (b0:Nat) (F:List AV→Hp→Res):Nat→List AV→Hp→Res→Prop where
 | stop {vs:List AV} {h:Hp} {r:Res}:(∀ vs' h',now (F vs h) ≠ .norm vs' h')→now (F vs h) = now r→Goes b0 F 1 vs h r
 | step {m:Nat} {vs vs':List AV} {h h':Hp} {r:Res}:now (F vs h) = .norm vs' h'→Goes b0 F m vs' h' r→Goes b0 F (m + 1) vs h r
 | re {m:Nat} {vs:List AV} {h:Hp} {r:Res} (n:Nat) (N:List Nat) (fg pt:Nat) (K M:List Nat) (oc:Oc):reOk n N K M h = true→b0≤n→Goes b0 F m (vs.map (rn (sg n N))) (reH n N fg pt K M oc h) r→Goes b0 F m vs h r
 | oc {m:Nat} {vs:List AV} {h:Hp} {r:Res} (l:Oc):Goes b0 F m vs (h.wo l) r→Goes b0 F m vs h r
 | iv {m:Nat} {vs:List AV} {h:Hp} {r:Res}:(∀ (N0:Base) (ρ:Rho) (w:World),Inv N0 ρ h w→Goes b0 F m vs h r)→Goes b0 F m vs h r
 | th {m:Nat} {vs:List AV} {h:Hp} {r:Res} (g:Hp) (c b1:Nat) (B1 B2:Blk) (oc:Oc):(∀ (N0:Base) (ρ:Rho) (w:World),Inv N0 ρ h w→Al h g c b1 B1 B2)→Goes b0 F m (vs.map (rn (alS b1 c))) (alH g c B2 oc) r→Goes b0 F m vs h r
section
variable {P:Program} {N0:Base} {ρ0:Rho} {h0:Hp} {w0:World}
theorem goes_sound (hm:P.follows .mixedOrders = true) {γ:FuncId→Option Fun} (hγ:GSound P γ∧N0.fits P) (fn:Func) (p:Code) (l:List Nat) (x:Hint) (xs:List (Nat×List Nat)) (k:Env→Hp→Res) (hf:∀ i,h0.nb≤i→ρ0 i = none):
  ∀ {m:Nat} {vs:List AV} {h:Hp} {r:Res},Goes h0.nb (fun vs h=>un l vs fun env=>den P γ fn p x xs env h fun env h=>.norm (l.map env) h) m vs h r→Fine r→∀ (ρ:Rho) (w:World) (env:Env) (a:Act),l.map env = vs→St N0 fn.ntmps ρ0 h0 w0 ρ h w env a →
  Code.rounds P p (Post P fn N0 fn.ntmps ρ0 h0 w0 xs k r) m a w:=by
 intro m vs h r hg
 induction hg with
 | @stop vs h r hn e=>
  intro hr ρ w env a hv hs
  rw [rounds_succ]
  subst hv
  obtain ⟨env2,h3,h4⟩:=un_map env l rfl
  refine wp_mono (den_sound hm hγ fn p x xs ρ h w env2 a _ r hr (hs.less h4) ((Sm.eq h3).trans e)) fun ex a' w' hp=>?_
  cases ex with
  | normal=>
   obtain ⟨ρ',h',env',hs',e'⟩:=hp
   exact absurd (e.trans e'.symm) (hn _ _)
  | exit id=>exact hp
  | ret=>exact hp
  | _=>exact hp
 | @step m vs vs' h h' r e _ ih=>
  intro hr ρ w env a hv hs
  rw [rounds_succ]
  subst hv
  obtain ⟨env2,h3,h4⟩:=un_map env l rfl
  refine wp_mono (den_sound hm hγ fn p x xs ρ h w env2 a _ (.norm vs' h') (by simp) (hs.less h4) ((Sm.eq h3).trans e)) fun ex a' w' hp=>?_
  cases ex with
  | normal=>
   obtain ⟨ρ',h2,env',hs',e'⟩:=hp
   have e':Res.norm (l.map env') h2 = .norm vs' h':=e'
   injection e' with e1 e2
   subst e2
   exact ih hr ρ' w' env' a' e1 hs'
  | exit id=>
   obtain ⟨ρ',h2,env',l',hs',hf',e'⟩:=hp
   cases e'
  | ret=>
   obtain ⟨ρ',h2,env',hs',e'⟩:=hp
   obtain ⟨v2,h3,hv2⟩:=rt_not (P:=P) (fn:=fn) (env:=env') (h:=h2) (e'.nf (by simp))
   have e3:Res.ret v2 h3 = .norm vs' h':=Eq.trans (by rw [hv2]; rfl) e'
   cases e3
  | _=>exact hp
 | @re m vs h r n N fg pt K M oc hk hn _ ih=>
  intro hr ρ w env a hv hs
  have hk:=reOk_inv hk
  refine ih hr (ro n N ρ) w (fun t=>rn (sg n N) (env t)) a ?_ ⟨re_inv hk hs.inv,re_tr hk hn hf hs.tr,fun t=>(hs.er t).rn sg_ro,hs.sz,hs.df⟩
  rw [← hv,List.map_map]
  rfl
 | @iv m vs h r _ ih=>
  intro hr ρ w env a hv hs
  exact ih N0 ρ w hs.inv hr ρ w env a hv hs
 | @th m vs h r g c b1 B1 B2 oc hA _ ih=>
  intro hr ρ w env a hv hs
  have A:=hA N0 ρ w hs.inv
  obtain ⟨p1,k1,k2⟩:=al_inv (oc:=oc) hs.inv A
  refine ih hr (ups ρ c p1) w (fun t=>rn (alS b1 c) (env t)) a ?_ ⟨k2,al_tr hs.inv A k1 hs.tr,fun t=>(hs.er t).rn (alS_ro k1),hs.sz,hs.df⟩
  rw [← hv,List.map_map]
  rfl
 | @oc m vs h r l _ ih=>
  intro hr ρ w env a hv hs
  refine ih hr ρ w env a hv ?_
  obtain ⟨nb,bs,gs,ms,lo,oc⟩:=h
  exact hs.oc
end
end Go.AM
namespace Go.AM
open Go
set_option autoImplicit false
noncomputable section
def eqO {α:Type} (f:α→α→Bool) (x y:Option α):Bool:=Option.rec (motive:=fun _=>Bool) (Option.rec (motive:=fun _=>Bool) true (fun _=>false) y) (fun a=>Option.rec (motive:=fun _=>Bool) false (fun b=>f a b) y) x
theorem eqO_eq {α:Type} {f:α→α→Bool} (hf:∀ a b,f a b = true→a = b) {x y:Option α} (h:eqO f x y = true):x = y:=by
 cases x <;> cases y <;> first
  | rfl
  | exact Bool.noConfusion h
  | exact congrArg some (hf _ _ h)
def eqT {α:Type} (f:α→α→Bool) (t:T α):T α→Bool:=T.rec (motive:=fun _=>T α→Bool) (fun s=>T.rec (motive:=fun _=>Bool) true (fun _ _ _ _ _ _ _ _ _=>false) s)
 (fun v _ _ _ _ ia ib ic id s=>T.rec (motive:=fun _=>Bool) false (fun v' a b c d _ _ _ _=>bAnd (eqO f v v') (bAnd (ia a) (bAnd (ib b) (bAnd (ic c) (id d))))) s) t
theorem eqT_eq {α:Type} {f:α→α→Bool} (hf:∀ a b,f a b = true→a = b):∀ (t s:T α),eqT f t s = true→t = s:=by
 intro t
 induction t with
 | e=>intro s h; cases s with | e=>rfl | n=>exact Bool.noConfusion h
 | n v a b c d iha ihb ihc ihd=>
  intro s h
  cases s with
  | e=>exact Bool.noConfusion h
  | n v' a' b' c' d'=>
   have h:bAnd (eqO f v v') (bAnd (eqT f a a') (bAnd (eqT f b b') (bAnd (eqT f c c') (eqT f d d')))) = true:=h
   rw [bAnd_iff,bAnd_iff,bAnd_iff,bAnd_iff] at h
   rw [eqO_eq hf h.1,iha _ h.2.1,ihb _ h.2.2.1,ihc _ h.2.2.2.1,ihd _ h.2.2.2.2]
def eqBk (x y:Blk):Bool:=Blk.rec (motive:=fun _=>Bool) (fun fr g lim df cs=>Blk.rec (motive:=fun _=>Bool) (fun fr' g' lim' df' cs'=>bAnd (beqB fr fr') (bAnd (Nat.beq g g') (bAnd (Nat.beq lim lim') (bAnd (eqU df df') (eqT eqU cs cs'))))) y) x
theorem eqBk_eq (x y:Blk) (h:eqBk x y = true):x = y:=by
 obtain ⟨fr,g,lim,df,cs⟩:=x
 obtain ⟨fr',g',lim',df',cs'⟩:=y
 have h:bAnd (beqB fr fr') (bAnd (Nat.beq g g') (bAnd (Nat.beq lim lim') (bAnd (eqU df df') (eqT eqU cs cs')))) = true:=h
 rw [bAnd_iff,bAnd_iff,bAnd_iff,bAnd_iff,beqB_eq,beq_iff,beq_iff] at h
 obtain ⟨h1,h2,h3,h4,h5⟩:=h
 have h1:fr = fr':=by simpa using h1
 rw [h1,h2,h3,eqU_eq h4,eqT_eq (fun _ _=>eqU_eq) _ _ h5]
def eqPr (x y:Nat×Nat):Bool:=bAnd (Nat.beq x.1 y.1) (Nat.beq x.2 y.2)
theorem eqPr_eq (x y:Nat×Nat) (h:eqPr x y = true):x = y:=by
 unfold eqPr at h
 rw [bAnd_iff,beq_iff,beq_iff] at h
 exact Prod.ext h.1 h.2
def eqHp (x y:Hp):Bool:=bAnd (Nat.beq x.nb y.nb) (bAnd (Nat.beq x.lo y.lo) (bAnd (eqT eqPr x.gs y.gs) (bAnd (eqT eqU x.ms y.ms) (eqT eqBk x.bs y.bs))))
theorem eqHp_eq {x y:Hp} (h:eqHp x y = true) (ho:x.oc = y.oc):x = y:=by
 obtain ⟨nb,bs,gs,ms,lo,oc⟩:=x
 obtain ⟨nb',bs',gs',ms',lo',oc'⟩:=y
 have h:bAnd (Nat.beq nb nb') (bAnd (Nat.beq lo lo') (bAnd (eqT eqPr gs gs') (bAnd (eqT eqU ms ms') (eqT eqBk bs bs')))) = true:=h
 rw [bAnd_iff,bAnd_iff,bAnd_iff,bAnd_iff,beq_iff,beq_iff] at h
 obtain ⟨h1,h2,h3,h4,h5⟩:=h
 have ho:oc = oc':=ho
 rw [h1,h2,eqT_eq eqPr_eq _ _ h3,eqT_eq (fun _ _=>eqU_eq) _ _ h4,eqT_eq eqBk_eq _ _ h5,ho]
def eqLs (x:List AV):List AV→Bool:=List.rec (motive:=fun _=>List AV→Bool) (fun y=>List.rec (motive:=fun _=>Bool) true (fun _ _ _=>false) y) (fun a _ ih y=>List.rec (motive:=fun _=>Bool) false (fun b l _=>bAnd (eqU a b) (ih l)) y) x
theorem eqLs_eq:∀ (x y:List AV),eqLs x y = true→x = y:=by
 intro x
 induction x with
 | nil=>intro y h; cases y with | nil=>rfl | cons=>exact Bool.noConfusion h
 | cons a x ih=>
  intro y h
  cases y with
  | nil=>exact Bool.noConfusion h
  | cons b y=>
   have h:bAnd (eqU a b) (eqLs x y) = true:=h
   rw [bAnd_iff] at h
   rw [eqU_eq h.1,ih _ h.2]
def refs (v:AV):List Nat→List Nat:=AV.rec (motive:=fun _=>List Nat→List Nat) (fun l=>l) (fun _ l=>l) (fun _ _ l=>l) (fun _ _ l=>l) (fun l=>l) (fun b _ l=>b :: l) (fun l=>l) (fun b _ _ _ _ l=>b :: l) (fun l=>l) (fun l=>l) (fun _ _ ih l=>ih l) (fun l=>l) (fun _ _ _ iha ihb l=>iha (ihb l)) (fun l=>l) (fun b l=>b :: l) (fun _ ih l=>ih l) (fun _ ih l=>ih l) (fun l=>l) (fun _ _ iha ihb l=>iha (ihb l)) v
def refsT (t:T AV):List Nat→List Nat:=T.rec (motive:=fun _=>List Nat→List Nat) (fun l=>l) (fun v _ _ _ _ ia ib ic id l=>Option.rec (motive:=fun _=>List Nat) (ia (ib (ic (id l)))) (fun v=>refs v (ia (ib (ic (id l))))) v) t
def live (h:Hp) (f:Nat):List Nat→T Bool→List Nat→List Nat→List Nat×List Nat:=Nat.rec (motive:=fun _=>List Nat→T Bool→List Nat→List Nat→List Nat×List Nat) (fun _ _ K M=>(K,M))
 (fun _ ih todo seen K M=>List.rec (motive:=fun _=>List Nat×List Nat) (K,M) (fun b l _=>Option.rec (motive:=fun _=>List Nat×List Nat)
  (Option.rec (motive:=fun _=>List Nat×List Nat) (Option.rec (motive:=fun _=>List Nat×List Nat) (ih l (T.set true seen b) K M) (fun m=>ih (refs m l) (T.set true seen b) K (b :: M)) (h.ms.get b)) (fun B=>ih (refsT B.cs (refs B.df l)) (T.set true seen b) (b :: K) M) (h.bs.get b))
  (fun _=>ih l seen K M) (seen.get b)) todo) f
def it (F:List AV→Hp→Res) (k:Nat):List AV→Hp→Res:=Nat.rec (motive:=fun _=>List AV→Hp→Res) (fun vs h=>.norm vs h) (fun _ ih vs h=>jn (F vs h) ih) k
end
end Go.AM
namespace Go.AM
open Go
set_option autoImplicit false
noncomputable section
def shp {α:Type} (t:T α):T Unit:=tmap (fun _=>()) t
theorem shp_set {α:Type} (v w:α) (t:T α):∀ k,t.get k = some w→shp (T.set v t k) = shp t:=by
 induction t with
 | e=>intro k h; cases h
 | n o a b c d iha ihb ihc ihd=>
  intro k h
  cases k with
  | zero=>
   have h:o = some w:=h
   subst h
   rfl
  | succ m=>
   rw [T.get_ns] at h
   rw [T.set_s]
   have hm:m % 4 = 0∨m % 4 = 1∨m % 4 = 2∨m % 4 = 3:=by omega
   rcases hm with h0 | h0 | h0 | h0 <;> rw [h0] at h ⊢
   ·have h:a.get (m / 4) = some w:=h
    show T.n _ (shp (T.set v a (m / 4))) _ _ _ = T.n _ (shp a) _ _ _
    rw [iha _ h]
   ·have h:b.get (m / 4) = some w:=h
    show T.n _ _ (shp (T.set v b (m / 4))) _ _ = T.n _ _ (shp b) _ _
    rw [ihb _ h]
   ·have h:c.get (m / 4) = some w:=h
    show T.n _ _ _ (shp (T.set v c (m / 4))) _ = T.n _ _ _ (shp c) _
    rw [ihc _ h]
   ·have h:d.get (m / 4) = some w:=h
    show T.n _ _ _ _ (shp (T.set v d (m / 4))) = T.n _ _ _ _ (shp d)
    rw [ihd _ h]
theorem T.same {α:Type}:∀ (t s:T α),shp t = shp s→(∀ k,t.get k = s.get k)→t = s:=by
 intro t
 induction t with
 | e=>intro s h _; cases s with | e=>rfl | n=>cases h
 | n o a b c d iha ihb ihc ihd=>
  intro s h hg
  cases s with
  | e=>cases h
  | n o' a' b' c' d'=>
   have h:T.n _ (shp a) (shp b) (shp c) (shp d) = T.n _ (shp a') (shp b') (shp c') (shp d'):=h
   injection h with _ h1 h2 h3 h4
   have g0:o = o':=hg 0
   have ga:∀ k,a.get k = a'.get k:=fun k=>by
    have:=hg (4 * k + 1)
    rw [T.get_ns,T.get_ns,show 4 * k / 4 = k from by omega,show 4 * k % 4 = 0 from by omega] at this
    exact this
   have gb:∀ k,b.get k = b'.get k:=fun k=>by
    have:=hg (4 * k + 1 + 1)
    rw [T.get_ns,T.get_ns,show (4 * k + 1) / 4 = k from by omega,show (4 * k + 1) % 4 = 1 from by omega] at this
    exact this
   have gc:∀ k,c.get k = c'.get k:=fun k=>by
    have:=hg (4 * k + 2 + 1)
    rw [T.get_ns,T.get_ns,show (4 * k + 2) / 4 = k from by omega,show (4 * k + 2) % 4 = 2 from by omega] at this
    exact this
   have gd:∀ k,d.get k = d'.get k:=fun k=>by
    have:=hg (4 * k + 3 + 1)
    rw [T.get_ns,T.get_ns,show (4 * k + 3) / 4 = k from by omega,show (4 * k + 3) % 4 = 3 from by omega] at this
    exact this
   rw [g0,iha a' h1 ga,ihb b' h2 gb,ihc c' h3 gc,ihd d' h4 gd]
def T.md {α:Type} (f:α→α) (t:T α) (k:Nat):T α:=Option.rec (motive:=fun _=>T α) t (fun v=>T.set (f v) t k) (t.get k)
theorem T.get_md {α:Type} (f:α→α) (t:T α) (k j:Nat):(T.md f t k).get j = if j = k then (t.get k).map f else t.get j:=by
 unfold T.md
 cases h:t.get k with
 | none=>
  by_cases hj:j = k
  ·rw [if_pos hj,hj]; exact h
  ·rw [if_neg hj]
 | some v=>
  show (T.set (f v) t k).get j = _
  rw [T.get_set]
  rfl
theorem T.shp_md {α:Type} (f:α→α) (t:T α) (k:Nat):shp (T.md f t k) = shp t:=by
 unfold T.md
 cases h:t.get k with
 | none=>rfl
 | some v=>exact shp_set (f v) v t k h
end
end Go.AM
namespace Go.AM
open Go
set_option autoImplicit false
noncomputable section
def tl1 (s:AV):AV:=AV.rec (motive:=fun _=>AV) .unk (fun _=>.unk) (fun _ _=>.unk) (fun _ _=>.unk) .unk (fun _ _=>.unk) .unk (fun _ _ _ _ _=>.unk) .unk .unk (fun _ _ _=>.unk) .unk (fun _ _ _ _ _=>.unk) .unk (fun _=>.unk) (fun _ _=>.unk) (fun _ _=>.unk) .unk (fun _ t _ _=>t) s
def fs1 (s:AV):AV:=AV.rec (motive:=fun _=>AV) .unk (fun _=>.unk) (fun _ _=>.unk) (fun _ _=>.unk) .unk (fun _ _=>.unk) .unk (fun _ _ _ _ _=>.unk) .unk .unk (fun _ _ _=>.unk) .unk (fun _ _ _ _ _=>.unk) .unk (fun _=>.unk) (fun _ _=>.unk) (fun _ _=>.unk) .unk (fun a _ _ _=>a) s
def subW (l:AV):Nat→T AV→(T AV→Res)→Res:=AV.rec (motive:=fun _=>Nat→T AV→(T AV→Res)→Res)
 (fun _ _ _=>.fail) (fun _ _ _ _=>.fail) (fun _ _ _ _ _=>.fail) (fun _ _ _ _ _=>.fail) (fun _ _ _=>.fail) (fun _ _ _ _ _=>.fail) (fun _ _ _=>.fail) (fun _ _ _ _ _ _ _ _=>.fail) (fun _ _ _=>.fail) (fun _ _ _=>.fail) (fun _ _ _ _ _ _=>.fail) (fun _ _ _=>.fail) (fun _ _ _ _ _ _ _ _=>.fail) (fun _ _ _=>.fail) (fun _ _ _ _=>.fail) (fun _ _ _ _ _=>.fail) (fun _ _ _ _ _=>.fail)
 (fun _ t k=>k t) (fun u _ _ ih o t k=>Option.rec (motive:=fun _=>Res) .fail (fun v=>.ask (eqAV v u) (ih (Nat.succ o) (T.set u t o) k)) (t.get o)) l
theorem subW_inv {v':AV} {h':Hp}:∀ (l:AV) (o:Nat) (t:T AV) (k:T AV→Res),now (subW l o t k) = .ret v' h'→now (k t) = .ret v' h':=by
 intro l
 induction l with
 | nil=>intro o t k e; exact e
 | cons u l _ ih=>
  intro o t k e
  have e:now (Option.rec (motive:=fun _=>Res) .fail (fun v=>.ask (eqAV v u) (subW l (o + 1) (T.set u t o) k)) (t.get o)) = .ret v' h':=e
  cases hg:t.get o with
  | none=>rw [hg] at e; exact absurd (show Res.fail = .ret v' h' from e) (by simp)
  | some v=>
   rw [hg] at e
   have e:now (.ask (eqAV v u) (subW l (o + 1) (T.set u t o) k)) = .ret v' h':=e
   obtain ⟨h2,h3⟩:=now_ask (by rw [e]; simp)
   have e2:=h3.symm.trans e
   rw [← eqAV_eq _ _ h2,T.set_get _ _ _ hg] at e2
   exact ih _ _ _ e2
 | _=>intro o t k e; exact absurd (show Res.fail = .ret v' h' from e) (by simp)
def subLR (l:AV) (v:AV) (h:Hp) (k:Hp→Res):Res:=cL v fun b o n _ _=>ifB (Nat.beq n (len l)) (Option.rec (motive:=fun _=>Res) .fail (fun B=>subW l o B.cs fun t=>k (setC h b B t)) (h.bs.get b)) .fail
end
end Go.AM
namespace Go.AM
open Go
set_option autoImplicit false
noncomputable section
def nor:Nat→Option Nat:=fun _=>none
theorem F2.nor {ρ1 ρ2:Rho}:∀ {l:List AV} {L:List Value},F2 (VR ρ1) l L→F2 (VR ρ2) (l.map (rn AM.nor)) L:=by
 intro l L h
 induction h with
 | nil=>exact .nil
 | cons h1 _ ih=>exact .cons (h1.rn (fun b c hb=>by cases hb)) ih
def memo (a0:List AV) (v:AV):Fun:=fun args h=>ifB (eqLs args a0) (.ret (rn nor v) h) .fail
theorem memo_sound {P:Program} {f:FuncId} {g:Fun} (a0:List AV) (v:AV) (hF:FSound P f g) (hn:a0.map (rn nor) = a0) (hT:∃ h1,now (g a0 H0) = .ret v h1):FSound P f (memo a0 v):=by
 intro N0 hN ρ h w args Args v' h' e hi ha
 have e:now (ifB (eqLs args a0) (.ret (rn nor v) h) .fail) = .ret v' h':=e
 cases hq:eqLs args a0 with
 | false=>rw [hq] at e; exact absurd (show Res.fail = .ret v' h' from e) (by simp)
 | true=>
  rw [hq] at e
  have e:Res.ret (rn nor v) h = .ret v' h':=e
  injection e with e1 e2
  subst e1
  subst e2
  obtain rfl:=eqLs_eq _ _ hq
  obtain ⟨h1,er⟩:=hT
  have hj:(⟨w.heap.size,N0.g⟩:Base).J w:=fun g hg=>by
   obtain ⟨h1,m,h2⟩:=hi.jj g hg
   exact ⟨Nat.lt_of_lt_of_le h1 hi.wsz,m,h2⟩
  have hA:F2 (VR fun _=>none) args Args.toList:=by
   have:=F2.nor (ρ2:=fun _=>none) ha
   rw [hn] at this
   exact this
  refine (hF ⟨w.heap.size,N0.g⟩ hN (fun _=>none) H0 w args Args v h1 er (inv_Hs 0 hj) hA).mono fun e w' ⟨V,ρ1,h2,ho⟩=>⟨V,ρ,h2,?_⟩
  have frame:∀ r,r < w.heap.size→w'.heap[r]? = w.heap[r]?:=fun r hr=>ho.tr.frame r hr (fun b B p hb=>by cases hb) (fun b m p hb=>by cases hb)
  refine ⟨ho.val.rn (fun b c hb=>by cases hb),⟨fun b B hb=>?_,hi.nb,hi.gnb,hi.gs,hi.als,hi.lim,hi.free,Nat.le_trans hi.wsz ho.tr.size,?_,Base.st hi.jj fun r hr=>frame r (Nat.lt_of_lt_of_le hr hi.wsz)⟩,
   ⟨Ext.refl ρ,Nat.le_refl _,fun b p hb=>.inl hb,fun r hr _ _=>frame r hr,fun l hl b B p hb hB hp=>.inr ⟨b,B,p,hb,hB,hp,rfl⟩,fun l hl b m p hb hl' hp=>.inr ⟨b,m,p,hb,hl',hp,rfl⟩,ho.tr.size,ho.tr.tape,ho.tr.os,ho.tr.output,rfl⟩⟩
  ·obtain ⟨p,h6,h7⟩:=hi.blk b B hb
   exact ⟨p,h6,h7.later (Ext.refl ρ) (frame _ h7.lt) fun h=>h⟩
  ·exact hi.mp.later (Ext.refl ρ) (Nat.le_refl _) fun r o ho _=>frame r (Array.getElem?_eq_some_iff.1 ho).1
def isV (v:AV) (r:Res):Bool:=Res.rec (motive:=fun _=>Bool) false (fun _ _=>false) (fun _ _ _=>false) (fun u _=>eqAV u v) (fun p _ ih=>Bool.rec (motive:=fun _=>Bool) false ih p) r
theorem isV_inv {v:AV} {r:Res} (h:isV v r = true):∃ h1,now r = .ret v h1:=by
 induction r with
 | ret u h1=>rw [← eqAV_eq u v h]; exact ⟨h1,rfl⟩
 | ask p q ih=>
  cases p with
  | true=>exact ih h
  | false=>exact Bool.noConfusion (show false = true from h)
 | _=>exact Bool.noConfusion (show false = true from h)
end
end Go.AM
namespace Go.AM
open Go
set_option autoImplicit false
noncomputable section
abbrev Den:=Env→Hp→(Env→Hp→Res)→Res
def DS (P:Program) (fn:Func) (c:Code) (xs:List (Nat×List Nat)) (D:Nat→Den):Prop:=
 ∀ (N0:Base),N0.fits P→∀ (ρ0:Rho) (h0:Hp) (w0:World),(∀ i,h0.nb≤i→ρ0 i = none)→∀ (ρ:Rho) (h:Hp) (w:World) (env:Env) (a:Act) (k:Env→Hp→Res) (r:Res),Fine r →
  St N0 fn.ntmps ρ0 h0 w0 ρ h w env a→Sm (D h0.nb env h k) r→c.wp P (Post P fn N0 fn.ntmps ρ0 h0 w0 xs k r) a w
section
variable {P:Program} {fn:Func}
theorem DS.den (hm:P.follows .mixedOrders = true) {γ:FuncId→Option Fun} (hγ:GSound P γ) (c:Code) (x:Hint) (xs:List (Nat×List Nat)):DS P fn c xs (fun _=>AM.den P γ fn c x xs):=
 fun _ hN _ _ _ _ ρ h w env a k r hr hs e=>den_sound hm ⟨hγ,hN⟩ fn c x xs ρ h w env a k r hr hs e
theorem DS.seq {c1 c2:Code} {xs:List (Nat×List Nat)} {D1 D2:Nat→Den} (h1:DS P fn c1 xs D1) (h2:DS P fn c2 xs D2):DS P fn (.seq c1 c2) xs (fun b0 env h k=>D1 b0 env h fun env h=>D2 b0 env h k):=by
 intro N0 hN ρ0 h0 w0 hf ρ h w env a k r hr hs e
 refine wp_seq (wp_mono (h1 N0 hN ρ0 h0 w0 hf ρ h w env a _ r hr hs e) fun ex a' w' hp=>?_)
 cases ex with
 | normal=>
  obtain ⟨ρ',h',env',hs',e'⟩:=hp
  exact h2 N0 hN ρ0 h0 w0 hf ρ' h' w' env' a' k r hr hs' e'
 | _=>exact hp
theorem DS.loop (hm:P.follows .mixedOrders = true) {γ:FuncId→Option Fun} (hγ:GSound P γ) {id:Nat} {p:Code} {x:Hint} {l l2:List Nat} {xs:List (Nat×List Nat)} {J:Nat→Fun}
  (hJ:∀ b0 vs h r,Fine r→Sm (J b0 vs h) r→∃ m,Goes b0 (fun vs h=>un l2 vs fun env=>AM.den P γ fn p x ((id,l) :: xs) env h fun env h=>.norm (l2.map env) h) m vs h r)
  (hJn:∀ b0 vs h vs' h',now (J b0 vs h) ≠ .norm vs' h'):
  DS P fn (.block id (.loop p)) xs (fun b0 env h k=>blk id (J b0 (l2.map env) h) fun vs h=>un l vs fun env=>k env h):=by
 intro N0 hN ρ0 h0 w0 hf ρ h w' env a' k r hr hs e
 obtain ⟨hne,hcase⟩:=blk_inv e hr
 obtain ⟨m,hg⟩:=hJ h0.nb (l2.map env) h (J h0.nb (l2.map env) h) hne rfl
 have hl:=wp_loop_rounds m (goes_sound hm ⟨hγ,hN⟩ fn p l2 x ((id,l) :: xs) (fun env h=>.norm (l2.map env) h) hf hg hne ρ w' env a' rfl hs)
 refine wp_block (wp_mono hl fun ex a' w' hp=>?_)
 cases ex with
 | normal=>
  obtain ⟨ρ',h',env',hs',e'⟩:=hp
  rcases hcase with ⟨vs,hh,e1,e2⟩ | ⟨vs,hh,e1,e2⟩ | ⟨i,vs,hh,hi,e1,e2⟩ | ⟨v,hh,e1,e2⟩
  ·exact absurd e1 (hJn _ _ _ _ _)
  ·have e3:Res.norm (l2.map env') h' = _:=Eq.trans e' e1; cases e3
  ·have e3:Res.norm (l2.map env') h' = _:=Eq.trans e' e1; cases e3
  ·have e3:Res.norm (l2.map env') h' = _:=Eq.trans e' e1; cases e3
 | exit id'=>
  obtain ⟨ρ',h',env',l',hs',hf,e'⟩:=hp
  rcases hcase with ⟨vs,hh,e1,e2⟩ | ⟨vs,hh,e1,e2⟩ | ⟨i,vs,hh,hi,e1,e2⟩ | ⟨v,hh,e1,e2⟩
  ·rw [e1] at e'; cases e'
  ·rw [e1] at e'
   obtain ⟨rfl,rfl,rfl⟩:id = id'∧vs = l'.map env'∧hh = h':=by cases e'; exact ⟨rfl,rfl,rfl⟩
   have hll:l' = l:=by
    rw [List.find?_cons,(beq_iff id id).2 rfl] at hf
    cases hf; rfl
   subst hll
   obtain ⟨env2,h3,h4⟩:=un_map env' l' (Eq.refl _)
   replace h3:=Sm.of h3 e2
   show Exit.inBlock id _ (.exit id) _ _
   unfold Exit.inBlock
   simp only [if_true]
   exact ⟨ρ',hh,env2,hs'.less h4,h3⟩
  ·rw [e1] at e'
   obtain ⟨rfl,rfl,rfl⟩:i = id'∧vs = l'.map env'∧hh = h':=by cases e'; exact ⟨rfl,rfl,rfl⟩
   show Exit.inBlock id _ (.exit i) _ _
   unfold Exit.inBlock
   simp only [if_neg hi]
   refine ⟨ρ',hh,env',l',hs',?_,e2⟩
   have hb:Nat.beq id i = false:=by rw [Bool.eq_false_iff,ne_eq,beq_iff]; exact fun he=>hi he.symm
   rw [List.find?_cons,hb] at hf
   exact hf
  ·rw [e1] at e'; cases e'
 | ret=>
  obtain ⟨ρ',h',env',hs',e'⟩:=hp
  refine ⟨ρ',h',env',hs',?_⟩
  obtain ⟨v',h'',hv⟩:=rt_not (P:=P) (fn:=fn) (env:=env') (h:=h') (e'.nf hne)
  rcases hcase with ⟨vs,hh,e1,e2⟩ | ⟨vs,hh,e1,e2⟩ | ⟨i,vs,hh,hi,e1,e2⟩ | ⟨v,hh,e1,e2⟩
  ·have e3:Res.ret v' h'' = _:=Eq.trans (by rw [hv]; rfl) (Eq.trans e' e1); cases e3
  ·have e3:Res.ret v' h'' = _:=Eq.trans (by rw [hv]; rfl) (Eq.trans e' e1); cases e3
  ·have e3:Res.ret v' h'' = _:=Eq.trans (by rw [hv]; rfl) (Eq.trans e' e1); cases e3
  ·exact Eq.trans e' (e1.trans e2.symm)
 | _=>exact hp
theorem DS.join {c1 c2:Code} {xs:List (Nat×List Nat)} {D1 D2:Nat→Den} (l:List Nat) (h1:DS P fn c1 xs D1) (h2:DS P fn c2 xs D2):
  DS P fn (.seq c1 c2) xs (fun b0 env h k=>jn (D1 b0 env h fun env h=>.norm (l.map env) h) fun vs h=>un l vs fun env=>D2 b0 env h k):=by
 intro N0 hN ρ0 h0 w0 hf ρ h w env a k r hr hs e
 obtain ⟨hne,hcase⟩:=jn_inv e hr
 refine wp_seq (wp_mono (h1 N0 hN ρ0 h0 w0 hf ρ h w env a _ _ hne hs (.eq rfl)) fun ex a' w' hp=>?_)
 cases ex with
 | normal=>
  obtain ⟨ρ',h',env',hs',e'⟩:=hp
  rcases hcase with ⟨vs,hh,e1,e2⟩ | ⟨i,vs,hh,e1,e2⟩ | ⟨v,hh,e1,e2⟩
  ·obtain ⟨rfl,rfl⟩:l.map env' = vs∧h' = hh:=Sm.norm e' e1
   obtain ⟨env2,h3,h4⟩:=un_map env' l (Eq.refl _)
   exact h2 N0 hN ρ0 h0 w0 hf ρ' h' w' env2 a' k r hr (hs'.less h4) (.of h3 e2)
  ·have e3:Res.norm (l.map env') h' = _:=Eq.trans e' e1; cases e3
  ·have e3:Res.norm (l.map env') h' = _:=Eq.trans e' e1; cases e3
 | exit id=>
  obtain ⟨ρ',h',env',l',hs',hf,e'⟩:=hp
  refine ⟨ρ',h',env',l',hs',hf,?_⟩
  rcases hcase with ⟨vs,hh,e1,e2⟩ | ⟨i,vs,hh,e1,e2⟩ | ⟨v,hh,e1,e2⟩
  ·rw [e1] at e'; cases e'
  ·rw [e2,← e1,e']
  ·rw [e1] at e'; cases e'
 | ret=>
  obtain ⟨ρ',h',env',hs',e'⟩:=hp
  refine ⟨ρ',h',env',hs',?_⟩
  obtain ⟨v',h'',hv⟩:=rt_not (P:=P) (fn:=fn) (env:=env') (h:=h') (e'.nf hne)
  rcases hcase with ⟨vs,hh,e1,e2⟩ | ⟨i,vs,hh,e1,e2⟩ | ⟨v,hh,e1,e2⟩
  ·have e3:Res.ret v' h'' = _:=Eq.trans (by rw [hv]; rfl) (Eq.trans e' e1); cases e3
  ·have e3:Res.ret v' h'' = _:=Eq.trans (by rw [hv]; rfl) (Eq.trans e' e1); cases e3
  ·exact Eq.trans e' (e1.trans e2.symm)
 | _=>exact hp
theorem DS.fsound {f:FuncId} {c:Code} {D:Nat→Den} (hf:P.funcs[f]? = some fn) (hb:fn.body = some c) (hD:DS P fn c [] D):
  FSound P f (fun args h=>unX (List.range (Nat.add fn.params.size fn.nfree)) args fun env=>D h.nb env h fun env h=>rt P fn env h):=by
 intro N0 hN ρ h w args Args v h' e hi ha
 have e:now (unX (List.range (Nat.add fn.params.size fn.nfree)) args fun env=>D h.nb env h fun env h=>rt P fn env h) = .ret v h':=e
 obtain ⟨env,h1,h2⟩:=unX_inv _ _ (Eq.refl (unX (List.range (Nat.add fn.params.size fn.nfree)) args fun env=>D h.nb env h fun env h=>rt P fn env h)) (fun h0=>by rw [h0] at e; cases e)
 refine calls_of_wp hf hb ?_
 have hs:St N0 fn.ntmps ρ h w ρ h w env { tmps:=Args ++ Array.replicate (fn.ntmps - Args.size) undef,defers:=[] }:=by
  refine ⟨hi,Tr.refl ρ h w,fun t=>?_,by simp; omega,rfl⟩
  rcases h2 t with h3 | ⟨i,h3,h4⟩
  ·rw [h3]; exact trivial
  ·have hit:i = t:=by
    have:=(List.getElem?_eq_some_iff.1 h3)
    obtain ⟨h5,h6⟩:=this
    simpa using h6
   subst hit
   obtain ⟨V,h7,h8⟩:=ha.get' i _ h4
   rw [Array.getElem?_toList] at h7
   have hlt:=(Array.getElem?_eq_some_iff.1 h7).1
   have:(Args ++ Array.replicate (fn.ntmps - Args.size) undef).getD i undef = V:=by
    rw [Array.getD_eq_getD_getElem?,Array.getElem?_append_left hlt,h7]; rfl
   rw [this]; exact h8
 refine wp_mono (hD N0 hN ρ h w hi.free ρ h w env _ _ (.ret v h') (by simp) hs (Eq.trans (congrArg now h1) e)) fun ex a' w' hp=>?_
 have fin:∀ ρ1 h1 env1,St N0 fn.ntmps ρ h w ρ1 h1 w' env1 a'→Sm (rt P fn env1 h1) (.ret v h')→a'.defers = []∧∃ V,(results fn a'.tmps).run P w' = .ok V w'∧∃ V' ρ',Ending.returned V = .returned V'∧Out N0 ρ h w v h' V' w' ρ':=by
  intro ρ1 h1 env1 hs1 e1
  obtain ⟨v2,h2,hv2⟩:=rt_not (e1.nf (by simp))
  have e1:rt P fn env1 h1 = .ret v h':=by
   have e2:Res.ret v2 h2 = .ret v h':=Eq.trans (by rw [hv2]; rfl) e1
   rw [hv2,e2]
  obtain ⟨rfl,V,h3,h4⟩:=rt_ok hs1.inv hs1.er e1
  exact ⟨hs1.df,V,h3,V,ρ1,rfl,h4,hs1.inv,hs1.tr⟩
 cases ex with
 | normal=>obtain ⟨ρ1,h1,env1,hs1,e1⟩:=hp; exact fin _ _ _ hs1 e1
 | ret=>obtain ⟨ρ1,h1,env1,hs1,e1⟩:=hp; exact fin _ _ _ hs1 e1
 | exit id=>obtain ⟨ρ1,h1,env1,l,hs1,hx,e1⟩:=hp; simp at hx
 | _=>exact hp.elim
def den2 (P:Program) (γ:FuncId→Option Fun) (fn:Func) (J1 J2:Nat→Fun) (x0 x1 x2 x3:Hint) (lj:List Nat) (x4 x5 x6 x7 x8:Hint) (l1 m1:List Nat) (x9:Hint) (l2 m2:List Nat) (x10:Hint):Fun:=fun args h=>
 match fn.body with
 | some (.seq c0 (.seq c1 (.seq c2 (.seq c3 (.seq c4 (.seq c5 (.seq c6 (.seq c7 (.seq (.seq c8 (.block i1 (.loop _))) (.seq (.seq c9 (.block i2 (.loop _))) c10))))))))))=>
  unX (List.range (Nat.add fn.params.size fn.nfree)) args fun env=>den P γ fn c0 x0 [] env h fun env h1=>den P γ fn c1 x1 [] env h1 fun env h1=>den P γ fn c2 x2 [] env h1 fun env h1=>
   jn (den P γ fn c3 x3 [] env h1 fun env h=>.norm (lj.map env) h) fun vs h1=>un lj vs fun env=>den P γ fn c4 x4 [] env h1 fun env h1=>den P γ fn c5 x5 [] env h1 fun env h1=>den P γ fn c6 x6 [] env h1 fun env h1=>den P γ fn c7 x7 [] env h1 fun env h1=>
   den P γ fn c8 x8 [] env h1 fun env h1=>blk i1 (J1 h.nb (m1.map env) h1) fun vs h1=>un l1 vs fun env=>
   den P γ fn c9 x9 [] env h1 fun env h1=>blk i2 (J2 h.nb (m2.map env) h1) fun vs h1=>un l2 vs fun env=>
   den P γ fn c10 x10 [] env h1 fun env h1=>rt P fn env h1
 | _=>.fail
def loop1 (P:Program) (γ:FuncId→Option Fun) (fn:Func) (l m:List Nat) (x:Hint):List AV→Hp→Res:=
 match fn.body with
 | some (.seq _ (.seq _ (.seq _ (.seq _ (.seq _ (.seq _ (.seq _ (.seq _ (.seq (.seq _ (.block id (.loop p))) (.seq (.seq _ (.block _ (.loop _))) _))))))))))=>fun vs h=>un m vs fun env=>den P γ fn p x [(id,l)] env h fun env h=>.norm (m.map env) h
 | _=>fun _ _=>.fail
def loop2 (P:Program) (γ:FuncId→Option Fun) (fn:Func) (l m:List Nat) (x:Hint):List AV→Hp→Res:=
 match fn.body with
 | some (.seq _ (.seq _ (.seq _ (.seq _ (.seq _ (.seq _ (.seq _ (.seq _ (.seq (.seq _ (.block _ (.loop _))) (.seq (.seq _ (.block id (.loop p))) _))))))))))=>fun vs h=>un m vs fun env=>den P γ fn p x [(id,l)] env h fun env h=>.norm (m.map env) h
 | _=>fun _ _=>.fail
theorem den2_sound (hm:P.follows .mixedOrders = true) {γ:FuncId→Option Fun} (hγ:GSound P γ) {f:FuncId} {c:Code} {J1 J2:Nat→Fun} {x0 x1 x2 x3 x4 x5 x6 x7 x8 x9 x10:Hint} {lj l1 m1 l2 m2:List Nat} (y1 y2:Hint) (hf:P.funcs[f]? = some fn) (hb:fn.body = some c)
  (h1:∀ b0 vs h r,Fine r→Sm (J1 b0 vs h) r→∃ m,Goes b0 (loop1 P γ fn l1 m1 y1) m vs h r) (n1:∀ b0 vs h vs' h',now (J1 b0 vs h) ≠ .norm vs' h')
  (h2:∀ b0 vs h r,Fine r→Sm (J2 b0 vs h) r→∃ m,Goes b0 (loop2 P γ fn l2 m2 y2) m vs h r) (n2:∀ b0 vs h vs' h',now (J2 b0 vs h) ≠ .norm vs' h'):
  FSound P f (den2 P γ fn J1 J2 x0 x1 x2 x3 lj x4 x5 x6 x7 x8 l1 m1 x9 l2 m2 x10):=by
 have k1:loop1 P γ fn l1 m1 y1 = (match some c with
  | some (.seq _ (.seq _ (.seq _ (.seq _ (.seq _ (.seq _ (.seq _ (.seq _ (.seq (.seq _ (.block id (.loop p))) (.seq (.seq _ (.block _ (.loop _))) _))))))))))=>fun vs h=>un m1 vs fun env=>AM.den P γ fn p y1 [(id,l1)] env h fun env h=>.norm (m1.map env) h
  | _=>fun _ _=>.fail):=by unfold loop1; rw [hb]
 have k2:loop2 P γ fn l2 m2 y2 = (match some c with
  | some (.seq _ (.seq _ (.seq _ (.seq _ (.seq _ (.seq _ (.seq _ (.seq _ (.seq (.seq _ (.block _ (.loop _))) (.seq (.seq _ (.block id (.loop p))) _))))))))))=>fun vs h=>un m2 vs fun env=>AM.den P γ fn p y2 [(id,l2)] env h fun env h=>.norm (m2.map env) h
  | _=>fun _ _=>.fail):=by unfold loop2; rw [hb]
 rw [k1] at h1
 rw [k2] at h2
 intro N0 hN ρ h w args Args v h' e hi ha
 unfold den2 at e
 rw [hb] at e
 split at e
 ·rename_i c0 c1 c2 c3 c4 c5 c6 c7 c8 i1 p1 c9 i2 p2 c10 hc
  obtain rfl:c = _:=Option.some.inj hc
  have d:=fun c x=>DS.den (fn:=fn) hm hγ c x []
  have D:=((d c0 x0).seq ((d c1 x1).seq ((d c2 x2).seq (DS.join lj (d c3 x3) ((d c4 x4).seq ((d c5 x5).seq ((d c6 x6).seq ((d c7 x7).seq (((d c8 x8).seq (DS.loop hm hγ (xs:=[]) h1 n1)).seq (((d c9 x9).seq (DS.loop hm hγ (xs:=[]) h2 n2)).seq (d c10 x10)))))))))))
  exact D.fsound hf hb N0 hN ρ h w args Args v h' e hi ha
 ·exact absurd (show Res.fail = .ret v h' from e) (by simp)
end
end
end Go.AM
namespace Go.AM
open Go
set_option autoImplicit false
noncomputable section
def ocS (h:Hp):AV:=Hp.rec (motive:=fun _=>AV) (fun _ _ _ _ _ oc=>Oc.rec (motive:=fun _=>AV) (fun _ s=>s) oc) h
theorem wo_self (h:Hp):h.wo h.oc = h:=by obtain ⟨nb,bs,gs,ms,lo,oc⟩:=h; rfl
def lookV (i:Int) (t:AV):Option AV:=
 AV.rec (motive:=fun _=>Option AV) none (fun _=>none) (fun _ _=>none) (fun _ _=>none) none (fun _ _=>none) none (fun _ _ _ _ _=>none) none none (fun _ _ _=>none) none (fun _ _ _ _ _=>none) none (fun _=>none) (fun _ _=>none) (fun _ _=>none) none
  (fun e _ _ ih=>AV.rec (motive:=fun _=>Option AV) none (fun _=>none) (fun _ _=>none) (fun _ _=>none) none (fun _ _=>none) none (fun _ _ _ _ _=>none) none none (fun _ _ _=>none) none (fun _ _ _ _ _=>none) none (fun _=>none) (fun _ _=>none) (fun _ _=>none) none
   (fun a b _ _=>AV.rec (motive:=fun _=>Option AV) none (fun _=>none) (fun _ j=>Bool.rec (motive:=fun _=>Option AV) ih (some b) (eqI j i)) (fun _ _=>none) none (fun _ _=>none) none (fun _ _ _ _ _=>none) none none (fun _ _ _=>none) none (fun _ _ _ _ _=>none) none (fun _=>none) (fun _ _=>none) (fun _ _=>none) none (fun _ _ _ _=>none) a) e) t
def repA (h:Hp) (v:AV):Res:=cT v fun l=>cC l fun i t=>cA i fun c=>cC c fun c0 r0=>cC r0 fun c1 r1=>cC r1 fun c2 r2=>cC r2 fun c3 r3=>cC r3 fun a r=>cI c0 fun k0 at0=>
 Option.rec (motive:=fun _=>Res) (.ret v h) (fun y=>.ask (eqAV a y) (.ret (.tup (.cons (.agg (.cons (.int k0 at0) (.cons c1 (.cons c2 (.cons c3 (.cons y r)))))) t)) h)) (lookV at0 (fs1 (tl1 (tl1 (ocS h)))))
def subA (g:Fun):Fun:=fun a h=>post (fun v h=>repA h v) (g a h)
theorem repA_inv {h0:Hp} {v0:AV} {v:AV} {h:Hp} (e:now (repA h0 v0) = .ret v h):v = v0∧h = h0:=by
 have no:∀ {q:Res},now q = .ret v h→q ≠ .fail:=fun e h=>by rw [h] at e; cases e
 unfold repA at e
 obtain ⟨l,rfl,e1⟩:=cT_inv rfl (no e); rw [← e1] at e
 obtain ⟨i,t,rfl,e1⟩:=cC_inv rfl (no e); rw [← e1] at e
 obtain ⟨c,rfl,e1⟩:=cA_inv rfl (no e); rw [← e1] at e
 obtain ⟨c0,r0,rfl,e1⟩:=cC_inv rfl (no e); rw [← e1] at e
 obtain ⟨c1,r1,rfl,e1⟩:=cC_inv rfl (no e); rw [← e1] at e
 obtain ⟨c2,r2,rfl,e1⟩:=cC_inv rfl (no e); rw [← e1] at e
 obtain ⟨c3,r3,rfl,e1⟩:=cC_inv rfl (no e); rw [← e1] at e
 obtain ⟨a,r,rfl,e1⟩:=cC_inv rfl (no e); rw [← e1] at e
 obtain ⟨k0,at0,rfl,e1⟩:=cI_inv rfl (no e); rw [← e1] at e
 cases hl:lookV at0 (fs1 (tl1 (tl1 (ocS h0)))) with
 | none=>
  rw [hl] at e
  have e:Res.ret _ h0 = .ret v h:=e
  injection e with e2 e3
  exact ⟨e2.symm,e3.symm⟩
 | some y=>
  rw [hl] at e
  have e:now (.ask (eqAV a y) (.ret (.tup (.cons (.agg (.cons (.int k0 at0) (.cons c1 (.cons c2 (.cons c3 (.cons y r)))))) t)) h0)) = .ret v h:=e
  obtain ⟨h2,h3⟩:=now_ask (by rw [e]; simp)
  have e2:Res.ret _ h0 = .ret v h:=h3.symm.trans e
  injection e2 with e4 e5
  rw [eqAV_eq _ _ h2]
  exact ⟨e4.symm,e5.symm⟩
theorem subA_sound {P:Program} {f:FuncId} {g:Fun} (h1:FSound P f g):FSound P f (subA g):=by
 refine post_sound _ h1 fun v0 h0 v h e=>?_
 obtain ⟨rfl,rfl⟩:=repA_inv e
 exact ⟨rfl,_,(wo_self _).symm⟩
def subU (g:Fun):Fun:=fun a h=>post (fun v h=>AV.rec (motive:=fun _=>Res) (.ret v h) (fun _=>.ret v h) (fun _ _=>.ret v h) (fun _ _=>.ret v h) (.ret v h) (fun _ _=>.ret v h) (.ret v h)
 (fun _ _ n _ _=>Bool.rec (motive:=fun _=>Res) (.ret v h) (subLR (tkL n (fs1 (tl1 (tl1 (tl1 (ocS h)))))) v h fun h=>.ret v h) (Nat.beq n (len (tkL n (fs1 (tl1 (tl1 (tl1 (ocS h)))))))))
 (.ret v h) (.ret v h) (fun _ _ _=>.ret v h) (.ret v h) (fun _ _ _ _ _=>.ret v h) (.ret v h) (fun _=>.ret v h) (fun _ _=>.ret v h) (fun _ _=>.ret v h) (.ret v h) (fun _ _ _ _=>.ret v h) v) (g a h)
theorem subU_sound {P:Program} {f:FuncId} {g:Fun} (h1:FSound P f g):FSound P f (subU g):=by
 refine post_sound _ h1 fun v0 h0 v h e=>?_
 have dn:∀ {x:AV} {y:Hp},now (Res.ret x y) = .ret v h→v = x∧h = y:=fun e=>by
  have e:Res.ret _ _ = Res.ret v h:=e
  injection e with e1 e2
  exact ⟨e1.symm,e2.symm⟩
 have fin:now (Res.ret v0 h0) = .ret v h→v = v0∧∃ l,h = h0.wo l:=fun e=>by
  obtain ⟨rfl,rfl⟩:=dn e
  exact ⟨rfl,_,(wo_self _).symm⟩
 cases v0 with
 | sl b o n z c=>
  have e:now (Bool.rec (motive:=fun _=>Res) (.ret (.sl b o n z c) h0) (subLR (tkL n (fs1 (tl1 (tl1 (tl1 (ocS h0)))))) (.sl b o n z c) h0 fun h=>.ret (.sl b o n z c) h) (Nat.beq n (len (tkL n (fs1 (tl1 (tl1 (tl1 (ocS h0))))))))) = .ret v h:=e
  generalize tkL n (fs1 (tl1 (tl1 (tl1 (ocS h0))))) = u at e
  cases hb:Nat.beq n (len u) with
  | false=>rw [hb] at e; exact fin e
  | true=>
   rw [hb] at e
   have e1:now (ifB (Nat.beq n (len u)) (Option.rec (motive:=fun _=>Res) .fail (fun B=>subW u o B.cs fun t=>.ret (.sl b o n z c) (setC h0 b B t)) (h0.bs.get b)) .fail) = .ret v h:=e
   rw [hb] at e1
   have e1:now (Option.rec (motive:=fun _=>Res) .fail (fun B=>subW u o B.cs fun t=>.ret (.sl b o n z c) (setC h0 b B t)) (h0.bs.get b)) = .ret v h:=e1
   cases hg:h0.bs.get b with
   | none=>rw [hg] at e1; exact absurd (show Res.fail = .ret v h from e1) (by simp)
   | some B=>
    rw [hg] at e1
    have e3:=subW_inv u o B.cs (fun t=>.ret (.sl b o n z c) (setC h0 b B t)) e1
    have hs:setC h0 b B B.cs = h0:=by
     obtain ⟨nb,bs,gs,ms,lo,oc⟩:=h0
     show (⟨nb,bs.set B b,gs,ms,lo,oc⟩:Hp) = _
     rw [T.set_get B bs b hg]
    rw [hs] at e3
    exact fin e3
 | _=>exact fin e
end
end Go.AM
namespace Go.AM
open Go
set_option autoImplicit false
noncomputable section
def utfC (c:Nat):List Nat:=
 if c < 128 then [c] else if c < 2048 then [192 + c / 64,128 + c % 64]
 else if c < 65536 then [224 + c / 4096,128 + c / 64 % 64,128 + c % 64]
 else [240 + c / 262144,128 + c / 4096 % 64,128 + c / 64 % 64,128 + c % 64]
def loneC (c:Nat):List Nat:=if 55296≤c∧c < 57344 then [63] else utfC c
def outC:List Nat→List Nat
 | []=>[]
 | [c]=>loneC c
 | c :: d :: r=>if (55296≤c∧c < 56320)∧(56320≤d∧d < 57344) then utfC (65536 + (c - 55296) * 1024 + (d - 56320)) ++ outC r else loneC c ++ outC (d :: r)
def pkN:List Nat→Nat
 | []=>0
 | b :: l=>b + 256 * pkN l
def encQ (l:List Int) (n X:Nat):Bool:=decide ((∀ x∈l,0≤x∧x < 65536)∧(outC (l.map Int.toNat)).length = n∧pkN (outC (l.map Int.toNat)) = X)
def intsA (l:AV):(List Int→Res)→Res:=
 AV.rec (motive:=fun _=>(List Int→Res)→Res)
  (fun _=>.fail) (fun _ _=>.fail) (fun _ _ _=>.fail) (fun _ _ _=>.fail) (fun _=>.fail) (fun _ _ _=>.fail) (fun _=>.fail) (fun _ _ _ _ _ _=>.fail) (fun _=>.fail) (fun _=>.fail) (fun _ _ _ _=>.fail) (fun _=>.fail) (fun _ _ _ _ _ _=>.fail) (fun _=>.fail) (fun _ _=>.fail) (fun _ _ _=>.fail) (fun _ _ _=>.fail)
  (fun k=>k []) (fun v _ _ ih k=>cI v fun c x=>ifB (Nat.beq c 16) (ih fun l=>k (x :: l)) .fail) l
def rowQ (h:Hp) (v:AV) (k:Nat→Nat→Res):Res:=cL v fun b o L z c=>ifB (Option.rec (motive:=fun _=>Bool) true (fun m=>Nat.ble L m) c) (ifB (Nat.beq o 0) (ifB (Nat.beq z 1) (ifB (Nat.beq L 0) .fail (ifB (Nat.ble L 40) (gb h b fun B=>rds B L 0 fun l=>intsA l fun l=>cS (fs1 (tl1 (tl1 (tl1 (tl1 (ocS h)))))) fun n X=>.ask (encQ l n X) (k n X)) .fail)) .fail) .fail) .fail
def rowB (n X:Nat):Blk:=⟨true,0,n,.str 0 X,.e⟩
def outF:Fun:=fun a h=>uc a fun v a=>uz a (ifB (Nat.beq h.lo 0) (rowQ h v fun n X=>.ret (.sl (Nat.add h.nb 100) 0 n 1 none) (alH h (Nat.add h.nb 100) (rowB n X) h.oc)) .fail)
def wantF:Nat→Fun:=fun _ a h=>uc a fun v a=>uc a fun c1 a=>uc a fun c2 a=>uc a fun c3 a=>uc a fun c4 a=>uc a fun w a=>uc a fun i a=>uz a (ifB (eqAV w .nils) (ifB (eqAV i (.int 63 (.ofNat 0))) (ifB (Nat.beq h.lo 0)
 (cB c1 fun t=>cP c2 fun p o=>cS c3 fun sn sx=>cL c4 fun b4 o4 n4 z4 m4=>ifB (Nat.blt p h.nb) (ifB (Nat.blt b4 h.nb)
  (rowQ h v fun n X=>.exit 2 [.bool t,.ptr p o,.str sn sx,.sl b4 o4 n4 z4 m4,.sl (Nat.add h.nb 100) 0 n 1 none] (alH h (Nat.add h.nb 100) (rowB n X) h.oc)) .fail) .fail) .fail) .fail) .fail)
end
end Go.AM
