/-
  An abstract machine for the model's code, part 6: what it answers is what the model does.
-/
import Derived.Test.YtbkkfmjofmfijaaGreatDoorEe
set_option linter.unusedVariables false
set_option linter.unusedSimpArgs false
namespace Go.AM
open Go
set_option autoImplicit false
structure Rd (h:Hp) (b:Nat) (B:Blk):Prop where
 get:h.bs.get b = some B
 lt:b < h.nb
 grp:B.fr = true→B.g < h.nb∧(h.grp B.g).2≤b
structure Own (h:Hp) (b:Nat) (B:Blk):Prop where
 get:h.bs.get b = some B
 lt:b < h.nb
 fr:B.fr = true
 g:B.g = b
 gs:h.gs.get b = none
 lo:h.lo≤b
structure To (W:Nat→Prop) (h h':Hp):Prop where
 nb:h.nb≤h'.nb
 get:∀ b,b < h.nb→¬ W b→h'.bs.get b = h.bs.get b
 gs:∀ g,g < h.nb→¬ W g→h'.gs.get g = h.gs.get g
 new:(∀ g,h.nb≤g→h.gs.get g = none)→∀ g,h'.nb≤g→h'.gs.get g = none
 lo:h'.lo = h.lo
 ms:h'.ms = h.ms
def Wf (h:Hp):Prop:=(∀ g,h.nb≤g→h.gs.get g = none)∧h.lo≤h.nb
def No:Nat→Prop:=fun _=>False
def At (b:Nat):Nat→Prop:=fun x=>x = b
theorem To.refl (W:Nat→Prop) (h:Hp):To W h h:=⟨Nat.le_refl _,fun _ _ _=>rfl,fun _ _ _=>rfl,fun h=>h,rfl,rfl⟩
theorem To.trans {W:Nat→Prop} {a b c:Hp} (h1:To W a b) (h2:To W b c):To W a c where
 nb:=Nat.le_trans h1.nb h2.nb
 get:=fun x hx hw=>by rw [h2.get x (Nat.lt_of_lt_of_le hx h1.nb) hw,h1.get x hx hw]
 gs:=fun x hx hw=>by rw [h2.gs x (Nat.lt_of_lt_of_le hx h1.nb) hw,h1.gs x hx hw]
 new:=fun h=>h2.new (h1.new h)
 lo:=h2.lo.trans h1.lo
 ms:=h2.ms.trans h1.ms
theorem To.mono {W W':Nat→Prop} {a b:Hp} (h:To W a b) (hw:∀ x,x < a.nb→W x→W' x):To W' a b where
 nb:=h.nb
 get:=fun x hx hn=>h.get x hx fun q=>hn (hw x hx q)
 gs:=fun x hx hn=>h.gs x hx fun q=>hn (hw x hx q)
 new:=h.new
 lo:=h.lo
 ms:=h.ms
theorem To.wf {W:Nat→Prop} {a b:Hp} (h:To W a b) (hw:Wf a):Wf b:=⟨h.new hw.1,by rw [h.lo]; exact Nat.le_trans hw.2 h.nb⟩
theorem Own.rd {h:Hp} {b:Nat} {B:Blk} (ho:Own h b B):Rd h b B:=
 ⟨ho.get,ho.lt,fun _=>⟨by rw [ho.g]; exact ho.lt,by rw [ho.g]; simp [Hp.grp,ho.gs]⟩⟩
theorem Own.to {W:Nat→Prop} {h h':Hp} {b:Nat} {B:Blk} (ho:Own h b B) (ht:To W h h') (hw:¬ W b):Own h' b B:=
 ⟨by rw [ht.get b ho.lt hw]; exact ho.get,Nat.lt_of_lt_of_le ho.lt ht.nb,ho.fr,ho.g,by rw [ht.gs b ho.lt hw]; exact ho.gs,by rw [ht.lo]; exact ho.lo⟩
theorem Rd.to {W:Nat→Prop} {h h':Hp} {b:Nat} {B:Blk} (hr:Rd h b B) (ht:To W h h') (hw:¬ W b) (hg:B.fr = true→¬ W B.g):Rd h' b B:=
 ⟨by rw [ht.get b hr.lt hw]; exact hr.get,Nat.lt_of_lt_of_le hr.lt ht.nb,fun hf=>⟨Nat.lt_of_lt_of_le (hr.grp hf).1 ht.nb,by
  have:=(hr.grp hf).2
  unfold Hp.grp at this ⊢
  rw [ht.gs _ (hr.grp hf).1 (hg hf)]; exact this⟩⟩
theorem gb_rd {h:Hp} {b:Nat} {B:Blk} (hr:Rd h b B) (k:Blk→Res):gb h b k = k B:=by
 have e:gb h b k = ifB B.fr (ifB (Nat.ble (h.grp B.g).2 b) (k B) .fail) (k B):=by unfold gb; rw [hr.get]
 rw [e]
 cases hf:B.fr with
 | false=>rfl
 | true=>rw [ifB_t,(ble_iff _ _).2 (hr.grp hf).2]; rfl
theorem ld1_rd {h:Hp} {b o:Nat} {B:Blk} {v:AV} (hr:Rd h b B) (hv:B.at o = v) (k:AV→Res):ld1 h (.ptr b o) k = cK v k:=by
 have e:ld1 h (.ptr b o) k = gb h b fun B=>cK (B.at o) k:=rfl
 rw [e,gb_rd hr,hv]
theorem at_in (B:Blk) {i:Nat} (hi:i < B.lim):B.at i = (match B.cs.get i with | some v=>v | none=>nth B.df (i % len B.df)):=by
 rw [at_eq,if_pos hi]; cases B.cs.get i <;> rfl
theorem nw_own {h:Hp} (hw:Wf h) (lim:Nat) (df:AV) (t:T AV):Own (nw h lim df t) h.nb ⟨true,h.nb,lim,df,t⟩∧To No h (nw h lim df t):=by
 have hget:∀ x,(nw h lim df t).bs.get x = if x = h.nb then some ⟨true,h.nb,lim,df,t⟩ else h.bs.get x:=fun x=>T.get_set _ _ _ _
 refine ⟨⟨by rw [hget,if_pos rfl],Nat.lt_succ_self _,rfl,rfl,hw.1 _ (Nat.le_refl _),hw.2⟩,⟨Nat.le_succ _,fun x hx _=>by rw [hget,if_neg (by omega)],fun _ _ _=>rfl,fun hn g hg=>hn g (Nat.le_of_succ_le hg),rfl,rfl⟩⟩
def avL (l:List AV):AV:=l.foldr (fun v t=>.cons v t) .nil
theorem avL_cons (v:AV) (l:List AV):avL (v :: l) = .cons v (avL l):=rfl
theorem rds_list {B:Blk}:∀ (l:List AV) (o:Nat) (k:AV→Res),(∀ i (hi:i < l.length),B.at (o + i) = l[i])→(∀ v∈l,v ≠ .unk)→rds B l.length o k = k (avL l):=by
 intro l
 induction l with
 | nil=>intro o k _ _; rfl
 | cons v l ih=>
  intro o k h hk
  have e:rds B (l.length + 1) o k = cK (B.at o) fun v=>rds B l.length (o + 1) fun t=>k (.cons v t):=rfl
  have h0:B.at o = v:=by
   have:=h 0 (by simp)
   simpa only [Nat.add_zero,List.getElem_cons_zero] using this
  rw [List.length_cons,e,h0]
  have hc:∀ k:AV→Res,cK v k = k v:=by
   intro k
   have:=hk v (by simp)
   cases v <;> first | rfl | exact absurd rfl this
  rw [hc,ih (o + 1) _ (fun i hi=>by
   have:=h (i + 1) (by simpa using hi)
   rw [Nat.add_assoc,Nat.add_comm 1 i]
   simpa using this) (fun v hv=>hk v (by simp [hv]))]
  rfl
theorem lay_list:∀ (l:List AV) (t:T AV) (o:Nat),(∀ v∈l,one v = true)→∃ t',(∀ k:T AV→Nat→Res,lay (avL l) t o k = k t' (o + l.length))∧∀ j,t'.get j = if h:o≤j∧j < o + l.length then some (l[j - o]'(by omega)) else t.get j:=by
 intro l
 induction l with
 | nil=>intro t o _; exact ⟨t,fun k=>rfl,fun j=>by rw [dif_neg (by simp)]⟩
 | cons v l ih=>
  intro t o hl
  obtain ⟨t',h1,h2⟩:=ih (T.set v t o) (o + 1) (fun v hv=>hl v (by simp [hv]))
  refine ⟨t',fun k=>?_,fun j=>?_⟩
  ·have e:lay (.cons v (avL l)) t o k = ifB (one v) (lay (avL l) (T.set v t o) (o + 1) k) .fail:=rfl
   rw [avL_cons,e,hl v (by simp),ifB_t,h1,show o + 1 + l.length = o + (v :: l).length by simp; omega]
  ·rw [h2 j]
   by_cases c:o + 1≤j∧j < o + 1 + l.length
   ·rw [dif_pos c,dif_pos (by simp; omega)]
    have e:j - o = (j - (o + 1)) + 1:=by omega
    simp only [e,List.getElem_cons_succ]
   ·rw [dif_neg c,T.get_set]
    by_cases e:j = o
    ·subst e
     rw [if_pos rfl,dif_pos (by simp)]
     simp
    ·rw [if_neg e,dif_neg (by simp; omega)]
def Sl (h:Hp) (P:Nat→Prop) (v:AV) (l:List AV):Prop:=
 (∀ x∈l,one x = true)∧((v = .nils∧l = [])∨(v = .esl∧l = []) ∨
  ∃ b o c B,v = .sl b o l.length 1 c∧P b∧Rd h b B∧(B.fr = true→P B.g)∧(∀ cap,c = some cap→l.length≤cap)∧∀ i (hi:i < l.length),B.at (o + i) = l[i])
theorem Sl.to {h h':Hp} {P W:Nat→Prop} {v:AV} {l:List AV} (hs:Sl h P v l) (ht:To W h h') (hd:∀ b,P b→¬ W b):Sl h' P v l:=by
 obtain ⟨h1,h2⟩:=hs
 refine ⟨h1,?_⟩
 rcases h2 with h2 | h2 | ⟨b,o,c,B,h2,h3,h4,h5,hc,h6⟩
 ·exact .inl h2
 ·exact .inr (.inl h2)
 ·exact .inr (.inr ⟨b,o,c,B,h2,h3,h4.to ht (hd b h3) (fun hf=>hd _ (h5 hf)),h5,hc,h6⟩)
theorem Sl.mono {h:Hp} {P Q:Nat→Prop} {v:AV} {l:List AV} (hs:Sl h P v l) (hd:∀ b,P b→Q b):Sl h Q v l:=by
 obtain ⟨h1,h2⟩:=hs
 refine ⟨h1,?_⟩
 rcases h2 with h2 | h2 | ⟨b,o,c,B,h2,h3,h4,h5,hc,h6⟩
 ·exact .inl h2
 ·exact .inr (.inl h2)
 ·exact .inr (.inr ⟨b,o,c,B,h2,hd _ h3,h4,fun hf=>hd _ (h5 hf),hc,h6⟩)
theorem one_unk {x:AV} (h:one x = true):x ≠ .unk:=by intro e; subst e; exact Bool.noConfusion (show false = true from h)
theorem cK_onA {x:AV} (h:one x = true) (k:AV→Res):cK x k = k x:=by
 have:=one_unk h
 cases x <;> first | rfl | exact absurd rfl this
theorem cK_sl {h:Hp} {P:Nat→Prop} {v:AV} {l:List AV} (hs:Sl h P v l) (k:AV→Res):cK v k = k v:=by
 rcases hs.2 with ⟨rfl,-⟩ | ⟨rfl,-⟩ | ⟨b,o,c,B,rfl,-⟩ <;> rfl
theorem lenL_sl {h:Hp} {P:Nat→Prop} {v:AV} {l:List AV} (hs:Sl h P v l) (k:AV→Res):lenL v k = k (.int 63 (l.length:Int)):=by
 rcases hs.2 with ⟨rfl,rfl⟩ | ⟨rfl,rfl⟩ | ⟨b,o,c,B,rfl,-⟩ <;> rfl
theorem src_sl {h:Hp} {P:Nat→Prop} {v:AV} {l:List AV} (hs:Sl h P v l) (k:Nat→AV→Res):src h 1 v k = k l.length (avL l):=by
 rcases hs.2 with ⟨rfl,rfl⟩ | ⟨rfl,rfl⟩ | ⟨b,o,c,B,rfl,h3,h4,h5,hc,h6⟩
 ·rfl
 ·rfl
 ·have e:src h 1 (.sl b o l.length 1 c) k = ifB (Nat.beq 1 1) (gb h b fun B=>rds B (Nat.mul l.length 1) o fun t=>k l.length t) .fail:=rfl
  rw [e]
  show (gb h b fun B=>rds B (Nat.mul l.length 1) o fun t=>k l.length t) = _
  rw [gb_rd h4]
  have e2:Nat.mul l.length 1 = l.length:=Nat.mul_one _
  rw [e2,rds_list l o _ h6 (fun v hv=>one_unk (hs.1 v hv))]
def Gr (h:Hp) (N:Nat) (v:AV) (l:List AV):Prop:=
 Sl h (fun b=>N≤b) v l∧(v = .nils∨(∃ b,v = .sl b 0 0 1 (some 0)∧l = [])∨∃ b B,v = .sl b 0 l.length 1 none∧h.bs.get b = some B∧B.fr = true∧l.length≤B.lim∧h.lo≤b)
theorem new_sl {h:Hp} {N:Nat} (hN:N≤h.nb) (hw:Wf h) {m:List AV} (hm:∀ x∈m,one x = true):
  ∃ v' h',(∀ k:AV→Hp→Res,grown h 1 m.length (avL m) k = k v' h')∧Gr h' N v' m∧To No h h'∧h'.nb = h.nb + 1:=by
 obtain ⟨t,h1,h2⟩:=lay_list m .e 0 hm
 have e2:Nat.beq (0 + m.length) (Nat.mul m.length 1) = true:=by rw [beq_iff]; show 0 + m.length = m.length * 1; omega
 have hrun:∀ k:AV→Hp→Res,grown h 1 m.length (avL m) k = k (.sl h.nb 0 m.length 1 none) (nw h (0 + m.length) .nil t):=fun k=>by
  have e:grown h 1 m.length (avL m) k = lay (avL m) .e 0 fun t j=>ifB (Nat.beq j (Nat.mul m.length 1)) (k (.sl h.nb 0 m.length 1 none) (nw h j .nil t)) .fail:=rfl
  rw [e,h1,e2,ifB_t]
 obtain ⟨o1,o2⟩:=nw_own hw (0 + m.length) .nil t
 have hat:∀ i (hi:i < m.length),(⟨true,h.nb,0 + m.length,.nil,t⟩:Blk).at (0 + i) = m[i]:=by
  intro i hi
  rw [at_in _ (show 0 + i < 0 + m.length by omega)]
  simp only [h2 (0 + i)]
  rw [dif_pos ⟨by omega,by omega⟩]
  simp
 exact ⟨_,_,hrun,⟨⟨hm,.inr (.inr ⟨h.nb,0,none,_,rfl,hN,o1.rd,fun _=>hN,(fun c h=>by cases h),hat⟩)⟩,.inr (.inr ⟨_,_,rfl,o1.get,rfl,by show m.length≤0 + m.length; omega,hw.2⟩)⟩,o2,rfl⟩
theorem apd_grS {h:Hp} {N:Nat} {v y:AV} {l m:List AV} {by_:Nat} (hN:N≤h.nb) (hw:Wf h) (hv:Gr h N v l) (hy1:∀ x∈m,one x = true) (hsrc:∀ k:Nat→AV→Res,src h 1 y k = k m.length (avL m)) (hb:(l.length + m.length) * by_≤140737488355328) (hb2:l.length + m.length≤9223372036854775807)
  : ∃ v' h',(∀ k:AV→Hp→Res,apd h 1 by_ v y k = k v' h')∧Gr h' N v' (l ++ m)∧To (fun b=>N≤b) h h'∧h'.nb≤h.nb + 1:=by
 have noTo:∀ {h'},To No h h'→To (fun b=>N≤b) h h':=fun ht=>ht.mono fun _ _ f=>f.elim
 obtain ⟨hs,hform⟩:=hv
 by_cases hm0:m = []
 ·subst hm0
  refine ⟨v,h,fun k=>?_,by rw [List.append_nil]; exact ⟨hs,hform⟩,To.refl _ _,Nat.le_succ _⟩
  unfold apd
  rw [hsrc]
  rcases hform with rfl | ⟨b,rfl,-⟩ | ⟨b,B,rfl,-⟩ <;> rfl
 ·have hml:Nat.beq m.length 0 = false:=by
   rw [Bool.eq_false_iff,ne_eq,beq_iff]
   intro h0; exact hm0 (List.eq_nil_of_length_eq_zero h0)
  have g1:Nat.ble (Nat.mul m.length by_) 140737488355328 = true:=by
   rw [ble_iff]; refine Nat.le_trans ?_ hb; exact Nat.mul_le_mul_right _ (Nat.le_add_left _ _)
  have g2:Nat.ble m.length 9223372036854775807 = true:=by rw [ble_iff]; omega
  have fresh:l = []→(∀ k:AV→Hp→Res,apd h 1 by_ v y k = grown h 1 m.length (avL m) k)→∃ v' h',(∀ k:AV→Hp→Res,apd h 1 by_ v y k = k v' h')∧Gr h' N v' (l ++ m)∧To (fun b=>N≤b) h h'∧h'.nb≤h.nb + 1:=by
   intro hl hr
   obtain ⟨v',h',e1,e2,e3,e4⟩:=new_sl hN hw hy1
   exact ⟨v',h',fun k=>(hr k).trans (e1 k),by rw [hl]; exact e2,noTo e3,Nat.le_of_eq e4⟩
  rcases hform with rfl | ⟨b,rfl,rfl⟩ | ⟨b,B,rfl,hget,hfr,hlim,hlb0⟩
  ·have hl:l = []:=by rcases hs.2 with ⟨-,e⟩ | ⟨e,-⟩ | ⟨_,_,_,_,e,-⟩ <;> first | exact e | cases e
   refine fresh hl fun k=>?_
   unfold apd
   rw [hsrc]
   show ifB (Nat.beq m.length 0) _ (ifB (Nat.ble (Nat.mul m.length by_) 140737488355328) (ifB (Nat.ble m.length 9223372036854775807) (grown h 1 m.length (avL m) k) .fail) .fail) = _
   rw [hml,g1,g2]; rfl
  ·refine fresh rfl fun k=>?_
   unfold apd
   rw [hsrc]
   rcases hs.2 with ⟨e,-⟩ | ⟨e,-⟩ | ⟨b',o',c',B,e,h3,h4,h5,hc,h6⟩
   ·cases e
   ·cases e
   ·cases e
    show ifB (Nat.beq 1 1) (ifB (Nat.beq m.length 0) _ (ifB (Nat.ble (Nat.mul (Nat.add 0 m.length) by_) 140737488355328) (ifB (Nat.ble (Nat.add 0 m.length) 9223372036854775807) (ifB (Nat.ble (Nat.add 0 m.length) 0) _ (gb h b fun B=>rds B (Nat.mul 0 1) 0 fun old=>grown h 1 (Nat.add 0 m.length) (app old (avL m)) k)) .fail) .fail)) .fail = _
    have e0:Nat.add 0 m.length = m.length:=Nat.zero_add _
    have e1:Nat.ble m.length 0 = false:=by
     rw [Bool.eq_false_iff,ne_eq,ble_iff]
     intro h0; exact hm0 (List.eq_nil_of_length_eq_zero (by omega))
    rw [e0,hml,g1,g2,e1]
    show (gb h b fun B=>rds B (Nat.mul 0 1) 0 fun old=>grown h 1 m.length (app old (avL m)) k) = _
    rw [gb_rd h4]
    rfl
  ·rcases hs.2 with ⟨e,-⟩ | ⟨e,-⟩ | ⟨b',o',c',B',e,h3,h4,h5,hc,h6⟩
   ·cases e
   ·cases e
   ·cases e
    obtain rfl:B = B':=by rw [h4.get] at hget; exact (Option.some.inj hget).symm
    have hat:∀ i (hi:i < l.length),B.at i = l[i]:=fun i hi=>by have:=h6 i hi; rwa [Nat.zero_add] at this
    obtain ⟨t,t1,t2⟩:=lay_list m B.cs l.length hy1
    have hall:∀ x∈l ++ m,one x = true:=fun x hx=>by
     rcases List.mem_append.1 hx with hx | hx
     ·exact hs.1 x hx
     ·exact hy1 x hx
    generalize hold:ifN (h.grp B.g).1 b B.lim (Nat.mul l.length 1) (h.grp B.g).2 h.nb = old
    have hle:old≤h.nb:=by
     have q:=(h4.grp hfr).2
     have hlt:=h4.lt
     have e:ifN (h.grp B.g).1 b B.lim (Nat.mul l.length 1) (h.grp B.g).2 h.nb = Bool.rec (motive:=fun _=>Nat) h.nb (Bool.rec (motive:=fun _=>Nat) h.nb (h.grp B.g).2 (Nat.ble B.lim (Nat.mul l.length 1))) (Nat.beq (h.grp B.g).1 b):=rfl
     rw [← hold,e,recB,recB]
     split
     ·split
      ·omega
      ·exact Nat.le_refl _
     ·exact Nat.le_refl _
    have hrun:∀ k:AV→Hp→Res,apd h 1 by_ (.sl b 0 l.length 1 none) y k = k (.sl h.nb 0 (l.length + m.length) 1 none) ⟨Nat.succ h.nb,h.bs.set ⟨true,B.g,l.length + m.length,B.df,t⟩ h.nb,h.gs.set (h.nb,old) B.g,h.ms,h.lo,h.oc⟩:=fun k=>by
     unfold apd
     rw [hsrc]
     show ifB (Nat.beq 1 1) (ifB (Nat.beq m.length 0) _ (ifB (Nat.ble (Nat.mul (Nat.add l.length m.length) by_) 140737488355328) (ifB (Nat.ble (Nat.add l.length m.length) 9223372036854775807)
      (gb h b fun B=>ifB B.fr (ifB (Nat.ble h.lo b) (ifB (Nat.beq 0 0) (lay (avL m) B.cs (Nat.mul l.length 1) fun t e=>ifB (Nat.beq e (Nat.mul (Nat.add l.length m.length) 1)) (ifB (Nat.ble (Nat.mul l.length 1) B.lim)
       (k (.sl h.nb 0 (Nat.add l.length m.length) 1 none) ⟨Nat.succ h.nb,h.bs.set ⟨true,B.g,e,B.df,t⟩ h.nb,h.gs.set (h.nb,ifN (h.grp B.g).1 b B.lim (Nat.mul l.length 1) (h.grp B.g).2 h.nb) B.g,h.ms,h.lo,h.oc⟩) .fail) .fail) _) .fail) .fail) .fail) .fail)) .fail = _
     have e1:Nat.ble (Nat.mul (Nat.add l.length m.length) by_) 140737488355328 = true:=by rw [ble_iff]; exact hb
     have e2:Nat.ble (Nat.add l.length m.length) 9223372036854775807 = true:=by rw [ble_iff]; exact hb2
     rw [hml,e1,e2]
     show (gb h b fun B=>ifB B.fr (ifB (Nat.ble h.lo b) (ifB (Nat.beq 0 0) (lay (avL m) B.cs (Nat.mul l.length 1) fun t e=>ifB (Nat.beq e (Nat.mul (Nat.add l.length m.length) 1)) (ifB (Nat.ble (Nat.mul l.length 1) B.lim)
       (k (.sl h.nb 0 (Nat.add l.length m.length) 1 none) ⟨Nat.succ h.nb,h.bs.set ⟨true,B.g,e,B.df,t⟩ h.nb,h.gs.set (h.nb,ifN (h.grp B.g).1 b B.lim (Nat.mul l.length 1) (h.grp B.g).2 h.nb) B.g,h.ms,h.lo,h.oc⟩) .fail) .fail) _) .fail) .fail) = _
     have hlb:Nat.ble h.lo b = true:=(ble_iff _ _).2 hlb0
     rw [gb_rd h4,hfr,ifB_t,hlb,ifB_t]
     show (lay (avL m) B.cs (Nat.mul l.length 1) fun t e=>ifB (Nat.beq e (Nat.mul (Nat.add l.length m.length) 1)) (ifB (Nat.ble (Nat.mul l.length 1) B.lim)
       (k (.sl h.nb 0 (Nat.add l.length m.length) 1 none) ⟨Nat.succ h.nb,h.bs.set ⟨true,B.g,e,B.df,t⟩ h.nb,h.gs.set (h.nb,ifN (h.grp B.g).1 b B.lim (Nat.mul l.length 1) (h.grp B.g).2 h.nb) B.g,h.ms,h.lo,h.oc⟩) .fail) .fail) = _
     rw [hold]
     have e3:Nat.mul l.length 1 = l.length:=Nat.mul_one _
     have e4:Nat.mul (Nat.add l.length m.length) 1 = l.length + m.length:=Nat.mul_one _
     rw [e3,e4,t1,(beq_iff _ _).2 rfl,(ble_iff _ _).2 hlim]
     rfl
    have hget2:∀ x,(h.bs.set ⟨true,B.g,l.length + m.length,B.df,t⟩ h.nb).get x = if x = h.nb then some ⟨true,B.g,l.length + m.length,B.df,t⟩ else h.bs.get x:=fun x=>T.get_set _ _ _ _
    have hgs2:∀ x,(h.gs.set (h.nb,old) B.g).get x = if x = B.g then some (h.nb,old) else h.gs.get x:=fun x=>T.get_set _ _ _ _
    have hBg:=h4.grp hfr
    have hPg:N≤B.g:=h5 hfr
    refine ⟨_,_,hrun,⟨⟨hall,.inr (.inr ⟨h.nb,0,none,⟨true,B.g,l.length + m.length,B.df,t⟩,by rw [List.length_append],hN,⟨by rw [hget2,if_pos rfl],Nat.lt_succ_self _,fun _=>⟨Nat.lt_succ_of_lt hBg.1,?_⟩⟩,fun _=>hPg,(fun c h=>by cases h),fun i hi=>?_⟩)⟩,
     .inr (.inr ⟨h.nb,_,by rw [List.length_append],by rw [hget2,if_pos rfl],rfl,by rw [List.length_append]; exact Nat.le_refl _,hw.2⟩)⟩,⟨Nat.le_succ _,fun x hx hn=>?_,fun x hx hn=>?_,fun hn g hg=>?_,rfl,rfl⟩,Nat.le_refl _⟩
    ·show (Hp.grp ⟨_,_,h.gs.set (h.nb,old) B.g,_,_,h.oc⟩ B.g).2≤h.nb
     simp only [Hp.grp,hgs2,if_pos]
     exact hle
    ·rw [List.length_append] at hi
     rw [Nat.zero_add,at_in _ (show i < l.length + m.length from hi)]
     simp only [t2 i]
     by_cases c:l.length≤i
     ·rw [dif_pos ⟨c,by omega⟩,List.getElem_append_right c]
     ·rw [dif_neg (by omega),List.getElem_append_left (by omega)]
      have:=hat i (by omega)
      rw [at_in B (by omega)] at this
      exact this
    ·rw [hget2,if_neg (by omega)]
    ·show (h.gs.set (h.nb,old) B.g).get x = _
     rw [hgs2,if_neg (fun e=>hn (by rw [e]; exact hPg))]
    ·show (h.gs.set (h.nb,old) B.g).get g = none
     have hg:h.nb + 1≤g:=hg
     rw [hgs2,if_neg (by omega)]
     exact hn g (by omega)
theorem apd_gr {h:Hp} {N:Nat} {v y:AV} {l m:List AV} {P:Nat→Prop} {by_:Nat} (hN:N≤h.nb) (hw:Wf h) (hv:Gr h N v l) (hy:Sl h P y m) (hb:(l.length + m.length) * by_≤140737488355328) (hb2:l.length + m.length≤9223372036854775807)
  : ∃ v' h',(∀ k:AV→Hp→Res,apd h 1 by_ v y k = k v' h')∧Gr h' N v' (l ++ m)∧To (fun b=>N≤b) h h'∧h'.nb≤h.nb + 1:=
 apd_grS hN hw hv hy.1 (src_sl hy) hb hb2
end Go.AM
