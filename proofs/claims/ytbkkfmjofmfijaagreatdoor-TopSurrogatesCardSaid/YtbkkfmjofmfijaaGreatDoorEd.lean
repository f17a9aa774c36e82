/-
  An abstract machine for the model's code, part 4: what it answers is what the model does.
-/
import Derived.Test.YtbkkfmjofmfijaaGreatDoorEc
import Derived.LoopN
import Derived.Maps.RangeRun
import Derived.Scope
import Derived.ChangeSame
import Derived.RowKit3
import Derived.Laws.StandIn
import Derived.Lib.Bytealg
set_option linter.unusedVariables false
set_option linter.unusedSimpArgs false
namespace Go.AM
open Go
set_option autoImplicit false
section
variable {P:Program} {N0:Base} {ρ0 ρ:Rho} {h0 h:Hp} {w0 w w':World} {cs:Array Value} {e:TypeId} {fz:Nat×Nat} {b:Nat}
def rsvH (h:Hp):Hp:=⟨Nat.succ h.nb,h.bs,h.gs,h.ms,h.lo,h.oc⟩
theorem rsv_inv (hi:Inv N0 ρ h w):Inv N0 ρ (rsvH h) w:=by
 refine ⟨fun b B hb=>?_,fun b B hb=>Nat.lt_succ_of_lt (hi.nb b B hb),fun b B hb hf=>⟨Nat.lt_succ_of_lt (hi.gnb b B hb hf).1,(hi.gnb b B hb hf).2⟩,
  fun g q hq=>⟨Nat.lt_succ_of_lt (hi.gs g q hq).1,Nat.lt_succ_of_lt (hi.gs g q hq).2.1,(hi.gs g q hq).2.2⟩,hi.als,hi.lim,
  fun i hle=>hi.free i (Nat.le_of_succ_le hle),hi.wsz,hi.mp.later (Ext.refl ρ) (Nat.le_succ _) (fun _ _ _ _=>rfl),hi.jj⟩
 obtain ⟨p,h1,h2⟩:=hi.blk b B hb
 exact ⟨p,h1,h2.later (Ext.refl ρ) rfl (fun h=>h)⟩
theorem rsv_tr (ht:Tr ρ0 h0 w0 ρ h w):Tr ρ0 h0 w0 ρ (rsvH h) w:=
 ⟨ht.ext,Nat.le_succ_of_le ht.nb,fun b p hp=>by
  rcases ht.new b p hp with h1 | ⟨h1,h2,h3⟩
  ·exact .inl h1
  ·exact .inr ⟨h1,h2,Nat.lt_succ_of_lt h3⟩,ht.frame,ht.img,ht.mimg,ht.size,ht.tape,ht.os,ht.output,ht.lo⟩
theorem none_bs (hi:Inv N0 ρ h w) (hb:ρ b = none):h.bs.get b = none:=by
 cases hq:h.bs.get b with
 | none=>rfl
 | some B=>
  obtain ⟨p,h1,-⟩:=hi.blk b B hq
  rw [hb] at h1; cases h1
theorem none_ms (hi:Inv N0 ρ h w) (hb:ρ b = none):h.ms.get b = none:=by
 cases hq:h.ms.get b with
 | none=>rfl
 | some m=>
  obtain ⟨-,p,o,h1,-⟩:=hi.mp.ent b m hq
  rw [hb] at h1; cases h1
theorem place_inv (hi:Inv N0 ρ h w) (hb:ρ b = none) (hlt:b < h.nb) (hw:Nu w w' cs e fz):Inv N0 (ups ρ b ⟨w.heap.size,0,cs.size,0⟩) h w':=by
 have hext:=ups_ext ⟨w.heap.size,0,cs.size,0⟩ hb
 have hnb:=none_bs hi hb
 have ne:∀ b2 B2,h.bs.get b2 = some B2→b2 ≠ b:=fun b2 B2 h2 e0=>by rw [e0,hnb] at h2; cases h2
 have old:∀ b2 B2 p2,h.bs.get b2 = some B2→ups ρ b ⟨w.heap.size,0,cs.size,0⟩ b2 = some p2→ρ b2 = some p2:=fun b2 B2 p2 h2 hp=>by
  rw [ups_ne _ _ (ne b2 B2 h2)] at hp; exact hp
 refine ⟨fun b2 B2 h2=>?_,hi.nb,hi.gnb,hi.gs,fun b1 b2 B1 B2 p1 p2 h1 h2 f1 f2 e1 e2 er=>hi.als b1 b2 B1 B2 p1 p2 h1 h2 f1 f2 (old _ _ _ h1 e1) (old _ _ _ h2 e2) er,
  fun b1 b2 B1 B2 p1 p2 h1 h2 f1 f2 e1 e2 eg r1 r2 hle=>hi.lim b1 b2 B1 B2 p1 p2 h1 h2 f1 f2 (old _ _ _ h1 e1) (old _ _ _ h2 e2) eg r1 r2 hle,
  fun i hle=>?_,by rw [hw.size]; have:=hi.wsz; omega,hi.mp.later hext (Nat.le_refl _) (fun r o hr _=>hw.other r (Array.getElem?_eq_some_iff.1 hr).1),Base.st hi.jj fun r hr=>hw.other r (by have:=hi.wsz; omega)⟩
 ·obtain ⟨p2,hp2,hB⟩:=hi.blk b2 B2 h2
  exact ⟨p2,by rw [ups_ne _ _ (ne b2 B2 h2)]; exact hp2,hB.later hext (hw.other _ hB.lt) (fun hrd=>hrd)⟩
 ·rw [ups_ne _ _ (by omega)]; exact hi.free i hle
theorem place_tr (hi:Inv N0 ρ h w) (ht:Tr ρ0 h0 w0 ρ h w) (hb:ρ b = none) (hlt:b < h.nb) (hge:h0.nb≤b) (hw:Nu w w' cs e fz):Tr ρ0 h0 w0 (ups ρ b ⟨w.heap.size,0,cs.size,0⟩) h w':=by
 have hext:=ups_ext ⟨w.heap.size,0,cs.size,0⟩ hb
 have hnb:=none_bs hi hb
 have hnm:=none_ms hi hb
 refine ⟨ht.ext.trans hext,ht.nb,fun b2 p hp=>?_,fun r hr hn hm=>by rw [hw.other r (Nat.lt_of_lt_of_le hr ht.size)]; exact ht.frame r hr hn hm,fun l hll b2 B p h2 hf hp=>?_,fun l hll b2 m p h2 hl hp=>?_,
  by rw [hw.size]; have:=ht.size; omega,hw.tape.trans ht.tape,hw.os.trans ht.os,hw.output.trans ht.output,ht.lo⟩
 ·by_cases e0:b2 = b
  ·subst e0
   cases hq:ρ0 b2 with
   | none=>exact .inr ⟨rfl,hge,hlt⟩
   | some q=>have:=ht.ext b2 q hq; rw [hb] at this; cases this
  ·rw [ups_ne _ _ e0] at hp; exact ht.new b2 p hp
 ·have e0:b2 ≠ b:=fun e0=>by rw [e0,hnb] at h2; cases h2
  rw [ups_ne _ _ e0] at hp
  exact ht.img l hll b2 B p h2 hf hp
 ·have e0:b2 ≠ b:=fun e0=>by rw [e0,hnm] at h2; cases h2
  rw [ups_ne _ _ e0] at hp
  exact ht.mimg l hll b2 m p h2 hl hp
structure Row (N0:Base) (w0:World) (ρ:Rho) (h:Hp) (w:World) (p:Pl) (m:Nat) (t:T AV):Prop where
 base:p.base = 0
 new:w0.heap.size≤p.r
 side:N0≤p.r
 obj:∃ cs e fz,w.heap[p.r]? = some (.cells cs e fz)∧cs.size = p.sz∧(Uf fz p.sz)∧m≤cs.size∧∀ i,i < m→∃ V,cs[i]? = some V∧VR ρ ((⟨true,0,m,.nil,t⟩:Blk).at i) V
 nb:∀ b B q,h.bs.get b = some B→B.fr = true→ρ b = some q→q.r ≠ p.r
 nm:∀ b m q,h.ms.get b = some m→ρ b = some q→q.r ≠ p.r
theorem Row.lt {p:Pl} {m:Nat} {t:T AV} (hR:Row N0 w0 ρ h w p m t):p.r < w.heap.size:=by
 obtain ⟨cs,e,fz,g1,-⟩:=hR.obj
 exact (Array.getElem?_eq_some_iff.1 g1).1
theorem Row.step {p:Pl} {m:Nat} {t:T AV} {ρ':Rho} {h':Hp} (hR:Row N0 w0 ρ h w p m t) (ht:Tr ρ h w ρ' h' w'):Row N0 w0 ρ' h' w' p m t:=by
 have hlt:=hR.lt
 obtain ⟨cs,e,fz,g1,g2,g3,g4,g5⟩:=hR.obj
 refine ⟨hR.base,hR.new,hR.side,⟨cs,e,fz,by rw [ht.frame p.r hlt (fun b B q h1 h2 h3=>hR.nb b B q h1 h2.1 h3) (fun b m q h1 _ h2=>hR.nm b m q h1 h2)]; exact g1,g2,g3,g4,fun i hi=>?_⟩,fun b B q h1 h2 h3 e0=>?_,fun b m q h1 h2 e0=>?_⟩
 ·obtain ⟨V,k1,k2⟩:=g5 i hi
  exact ⟨V,k1,k2.ext ht.ext⟩
 ·rcases ht.img 0 (Nat.zero_le _) b B q h1 ⟨h2,Nat.zero_le _⟩ h3 with k | ⟨b1,B1,p1,k1,k2,k3,k4⟩
  ·omega
  ·exact hR.nb b1 B1 p1 k1 k2.1 k3 (k4.trans e0)
 ·rcases ht.mimg 0 (Nat.zero_le _) b m q h1 (Nat.zero_le _) h2 with k | ⟨b1,m1,p1,k1,k2,k3,k4⟩
  ·omega
  ·exact hR.nm b1 m1 p1 k1 k3 (k4.trans e0)
theorem Row.rsv {p:Pl} {m:Nat} {t:T AV} (hR:Row N0 w0 ρ h w p m t):Row N0 w0 ρ (rsvH h) w p m t:=⟨hR.base,hR.new,hR.side,hR.obj,hR.nb,hR.nm⟩
theorem Row.place {p:Pl} {m:Nat} {t:T AV} (hi:Inv N0 ρ h w) (hR:Row N0 w0 ρ h w p m t) (hb:ρ b = none) (hw:Nu w w' cs e fz):Row N0 w0 (ups ρ b ⟨w.heap.size,0,cs.size,0⟩) h w' p m t:=by
 have hlt:=hR.lt
 have hext:=ups_ext ⟨w.heap.size,0,cs.size,0⟩ hb
 obtain ⟨cs1,e1,fz1,g1,g2,g3,g4,g5⟩:=hR.obj
 refine ⟨hR.base,hR.new,hR.side,⟨cs1,e1,fz1,by rw [hw.other _ hlt]; exact g1,g2,g3,g4,fun i hi=>?_⟩,fun b2 B q h1 h2 h3=>?_,fun b2 m q h1 h2=>?_⟩
 ·obtain ⟨V,k1,k2⟩:=g5 i hi
  exact ⟨V,k1,k2.ext hext⟩
 ·have e0:b2 ≠ b:=fun e0=>by rw [e0,none_bs hi hb] at h1; cases h1
  rw [ups_ne _ _ e0] at h3
  exact hR.nb b2 B q h1 h2 h3
 ·have e0:b2 ≠ b:=fun e0=>by rw [e0,none_ms hi hb] at h1; cases h1
  rw [ups_ne _ _ e0] at h2
  exact hR.nm b2 m q h1 h2
theorem Row.made {m:Nat} {t:T AV} {l:AV} (hi:Inv N0 ρ h w) (hs:w0.heap.size≤w.heap.size) (hb:ρ b = none) (hw:Nu w w' cs e fz) (hz:Uf fz cs.size) (hl:LR ρ l cs.toList) (hm:m = len l)
  (ht:∀ j,t.get j = if 0≤j∧j < 0 + len l then some (nth l (j - 0)) else (T.e:T AV).get j):Row N0 w0 (ups ρ b ⟨w.heap.size,0,cs.size,0⟩) h w' ⟨w.heap.size,0,cs.size,0⟩ m t:=by
 have hext:=ups_ext ⟨w.heap.size,0,cs.size,0⟩ hb
 subst hm
 have hlen:=LR_len l _ hl
 rw [Array.length_toList] at hlen
 refine ⟨rfl,hs,hi.wsz,⟨cs,e,fz,hw.row,rfl,hz,by omega,fun i hlt=>?_⟩,fun b2 B q h1 h2 h3 e0=>?_,fun b2 m q h1 h2 e0=>?_⟩
 ·obtain ⟨V,k1,k2⟩:=lay_new hl ht 0 i hlt
  exact ⟨V,by simpa using k1,k2.ext hext⟩
 ·have e1:b2 ≠ b:=fun e1=>by rw [e1,none_bs hi hb] at h1; cases h1
  rw [ups_ne _ _ e1] at h3
  obtain ⟨p3,hp3,hB⟩:=hi.blk b2 B h1
  rw [h3] at hp3
  obtain rfl:=Option.some.inj hp3
  have:=hB.lt
  simp at e0; omega
 ·have e1:b2 ≠ b:=fun e1=>by rw [e1,none_ms hi hb] at h1; cases h1
  rw [ups_ne _ _ e1] at h2
  obtain ⟨-,p3,o3,hp3,-,k3,-⟩:=hi.mp.ent b2 m h1
  rw [h2] at hp3
  obtain rfl:=Option.some.inj hp3
  have:=(Array.getElem?_eq_some_iff.1 k3).1
  simp at e0; omega
theorem due_inv {p:Pl} {m:Nat} {t:T AV} (hi:Inv N0 ρ h w) (hp:ρ b = some p) (hlt:b < h.nb) (hR:Row N0 w0 ρ h w p m t):Inv N0 ρ (dueH h b m t) w:=by
 have hnb:h.bs.get b = none:=by
  cases hq:h.bs.get b with
  | none=>rfl
  | some B=>
   cases hf:B.fr with
   | true=>exact absurd rfl (hR.nb b B p hq hf hp)
   | false=>
    obtain ⟨p3,hp3,hB⟩:=hi.blk b B hq
    rw [hp] at hp3
    obtain rfl:=Option.some.inj hp3
    have:=hB.side.2 hf
    have:=hR.side
    omega
 have hget:∀ b2,(dueH h b m t).bs.get b2 = if b2 = b then some ⟨true,h.nb,m,.nil,t⟩ else h.bs.get b2:=fun b2=>by simp [dueH,T.get_set]
 have hgrp:∀ g,(dueH h b m t).grp g = if g = h.nb then (b,b) else h.grp g:=fun g=>by
  unfold Hp.grp
  simp only [dueH,T.get_set]
  split <;> rfl
 have look:∀ b2 B2,(dueH h b m t).bs.get b2 = some B2→(b2 = b∧B2 = ⟨true,h.nb,m,.nil,t⟩)∨(b2 ≠ b∧h.bs.get b2 = some B2∧b2 < h.nb):=by
  intro b2 B2 h2
  rw [hget] at h2
  by_cases e0:b2 = b
  ·rw [if_pos e0] at h2; exact .inl ⟨e0,(Option.some.inj h2).symm⟩
  ·rw [if_neg e0] at h2; exact .inr ⟨e0,h2,hi.nb _ _ h2⟩
 have rd:∀ b2 B2,h.bs.get b2 = some B2→(readable (dueH h b m t) b2 B2→readable h b2 B2):=by
  intro b2 B2 h2 hrd hf
  have h3:=hrd hf
  have h4:=(hi.gnb b2 B2 h2 hf).1
  rw [hgrp,if_neg (by omega)] at h3
  exact h3
 refine ⟨fun b2 B2 h2=>?_,fun b2 B2 h2=>?_,fun b2 B2 h2 hf=>?_,fun g q hq=>?_,?_,?_,fun i hle=>hi.free i (Nat.le_of_succ_le hle),hi.wsz,hi.mp.later (Ext.refl ρ) (Nat.le_succ _) (fun _ _ _ _=>rfl),hi.jj⟩
 ·rcases look b2 B2 h2 with ⟨rfl,rfl⟩ | ⟨hne,h2,-⟩
  ·obtain ⟨cs,e,fz,g1,g2,g3,g4,g5⟩:=hR.obj
   refine ⟨p,hp,⟨cs,e,fz,g1,g2,fun _=>g3,fun _ i hi=>?_⟩,by rw [hR.base]; show 0 + m≤p.sz; omega,fun _=>hR.side,fun h=>by cases h⟩
   obtain ⟨V,k1,k2⟩:=g5 i hi
   exact ⟨V,by rw [hR.base,Nat.zero_add]; exact k1,k2⟩
  ·obtain ⟨p2,hp2,hB⟩:=hi.blk b2 B2 h2
   exact ⟨p2,hp2,hB.later (Ext.refl ρ) rfl (rd b2 B2 h2)⟩
 ·rcases look b2 B2 h2 with ⟨rfl,rfl⟩ | ⟨-,-,h3⟩
  ·exact Nat.lt_succ_of_lt hlt
  ·exact Nat.lt_succ_of_lt h3
 ·rcases look b2 B2 h2 with ⟨rfl,rfl⟩ | ⟨-,h3,-⟩
  ·refine ⟨Nat.lt_succ_self _,?_⟩
   rw [hgrp]; show b2≤(if h.nb = h.nb then (b2,b2) else h.grp h.nb).1
   rw [if_pos rfl]; exact Nat.le_refl _
  ·have h4:=hi.gnb b2 B2 h3 hf
   refine ⟨Nat.lt_succ_of_lt h4.1,?_⟩
   rw [hgrp,if_neg (by omega)]; exact h4.2
 ·have hq:(h.gs.set (b,b) h.nb).get g = some q:=hq
  rw [T.get_set] at hq
  show g < h.nb + 1∧q.1 < h.nb + 1∧q.2≤q.1
  by_cases e0:g = h.nb
  ·rw [if_pos e0] at hq
   obtain rfl:=Option.some.inj hq
   exact ⟨by omega,by show b < h.nb + 1; omega,Nat.le_refl _⟩
  ·rw [if_neg e0] at hq
   have:=hi.gs g q hq
   exact ⟨by omega,by omega,this.2.2⟩
 ·intro b1 b2 B1 B2 p1 p2 h1 h2 f1 f2 e1 e2 er
  rcases look b1 B1 h1 with ⟨rfl,rfl⟩ | ⟨n1,k1,l1⟩ <;> rcases look b2 B2 h2 with ⟨rfl,rfl⟩ | ⟨n2,k2,l2⟩
  ·rfl
  ·rw [hp] at e1
   obtain rfl:=Option.some.inj e1
   exact absurd er.symm (hR.nb b2 B2 p2 k2 f2 e2)
  ·rw [hp] at e2
   obtain rfl:=Option.some.inj e2
   exact absurd er (hR.nb b1 B1 p1 k1 f1 e1)
  ·exact hi.als b1 b2 B1 B2 p1 p2 k1 k2 f1 f2 e1 e2 er
 ·intro b1 b2 B1 B2 p1 p2 h1 h2 f1 f2 e1 e2 eg r1 r2 hle
  rcases look b1 B1 h1 with ⟨rfl,rfl⟩ | ⟨n1,k1,l1⟩ <;> rcases look b2 B2 h2 with ⟨rfl,rfl⟩ | ⟨n2,k2,l2⟩
  ·rw [e1] at e2
   obtain rfl:=Option.some.inj e2
   exact ⟨Nat.le_refl _,fun _=>rfl⟩
  ·have:=(hi.gnb b2 B2 k2 f2).1
   have eg:h.nb = B2.g:=eg
   omega
  ·have:=(hi.gnb b1 B1 k1 f1).1
   have eg:B1.g = h.nb:=eg
   omega
  ·exact hi.lim b1 b2 B1 B2 p1 p2 k1 k2 f1 f2 e1 e2 eg (rd b1 B1 k1 r1) (rd b2 B2 k2 r2) hle
theorem due_tr {p:Pl} {m:Nat} {t:T AV} (ht:Tr ρ0 h0 w0 ρ h w) (hp:ρ b = some p) (hR:Row N0 w0 ρ h w p m t):Tr ρ0 h0 w0 ρ (dueH h b m t) w:=by
 refine ⟨ht.ext,Nat.le_succ_of_le ht.nb,fun b p hp=>?_,ht.frame,fun l hll b2 B q h2 hf hq=>?_,ht.mimg,ht.size,ht.tape,ht.os,ht.output,ht.lo⟩
 ·rcases ht.new b p hp with h1 | ⟨h1,h2,h3⟩
  ·exact .inl h1
  ·exact .inr ⟨h1,h2,Nat.lt_succ_of_lt h3⟩
 ·have h2:(h.bs.set ⟨true,h.nb,m,.nil,t⟩ b).get b2 = some B:=h2
  rw [T.get_set] at h2
  by_cases e0:b2 = b
  ·rw [e0,hp] at hq
   obtain rfl:=Option.some.inj hq
   exact .inl hR.new
  ·rw [if_neg e0] at h2
   exact ht.img l hll b2 B q h2 hf hq
theorem Row.due {p q:Pl} {m m2:Nat} {t t2:T AV} {b2:Nat} (hR:Row N0 w0 ρ h w p m t) (hq:ρ b2 = some q) (hne:q.r ≠ p.r):Row N0 w0 ρ (dueH h b2 m2 t2) w p m t:=by
 refine ⟨hR.base,hR.new,hR.side,hR.obj,fun b3 B q3 h1 h2 h3=>?_,hR.nm⟩
 have h1:(h.bs.set ⟨true,h.nb,m2,.nil,t2⟩ b2).get b3 = some B:=h1
 rw [T.get_set] at h1
 by_cases e0:b3 = b2
 ·rw [e0,hq] at h3
  obtain rfl:=Option.some.inj h3
  exact hne
 ·rw [if_neg e0] at h1
  exact hR.nb b3 B q3 h1 h2 h3
end
end Go.AM
namespace Go.AM
open Go
set_option autoImplicit false
theorem nm_inv {r1 r:Res} {k:AV→Hp→Res} (e:Sm (nm r1 k) r) (hr:Fine r):∃ v h,Sm r1 (.norm [v] h)∧Sm (k v h) r:=by
 induction r1 with
 | norm vs h=>
  have e:Sm (uc vs (fun v t=>uz t (k v h))) r:=e
  obtain ⟨v,t,rfl,e2⟩:=uc_inv rfl (e.nf hr)
  obtain ⟨rfl,e3⟩:=uz_inv e2 (e.nf hr)
  exact ⟨v,h,rfl,.of e3 e⟩
 | ask p q ih=>
  have e:now (.ask p (nm q k)) = now r:=e
  obtain ⟨rfl,h2⟩:=now_ask (by rw [e]; exact hr.ok)
  exact ih (h2.symm.trans e)
 | _=>exact absurd rfl (e.nf hr)
theorem put_inv {n:Nat} {d:Option Nat} {v:AV} {env:Env} {k:Env→Res} {r:Res} (e:Sm (put n d v env k) r) (hr:Fine r):
  ∃ env',Sm (k env') r∧(∀ t,d = some t→t < n∧env' t = v)∧∀ t,d ≠ some t→env' t = env t:=by
 cases d with
 | none=>exact ⟨env,e,(fun t h=>nomatch h),fun _ _=>rfl⟩
 | some d=>
  obtain ⟨h1,h2⟩:=sif_inv rfl (e.nf hr)
  rw [blt_iff] at h1
  have hu:∀ t,upd env d v t = if t = d then v else env t:=fun t=>by
   have hu:upd env d v t = Bool.rec (motive:=fun _=>AV) (env t) v (Nat.beq t d):=rfl
   rw [hu,recB]; simp only [beq_iff]
  refine ⟨_,.of h2 e,fun t ht=>?_,fun t ht=>?_⟩
  ·obtain rfl:=Option.some.inj ht
   exact ⟨h1,by rw [hu,if_pos rfl]⟩
  ·rw [hu,if_neg (fun e=>ht (by rw [e]))]
theorem isIn_iff {D:List Nat} {i:Nat}:isIn D i = true ↔ i∈D:=by
 unfold isIn
 rw [List.any_eq_true]
 constructor
 ·rintro ⟨x,h1,h2⟩; rw [beq_iff] at h2; rw [h2]; exact h1
 ·intro h; exact ⟨i,h,by rw [beq_iff]⟩
theorem depsIn_iff {o:Oper} {D:List Nat}:depsIn o D = true ↔ ∀ e∈o.after,Region.binds .any e = true→e.on∈D:=by
 unfold depsIn
 rw [List.all_eq_true]
 constructor
 ·intro h e he hb
  have:=h e (by simpa using he)
  rw [Bool.or_eq_true] at this
  rcases this with h1 | h1
  ·rw [hb] at h1; cases h1
  ·exact isIn_iff.1 h1
 ·intro h e he
  rw [Bool.or_eq_true]
  cases hb:Region.binds .any e with
  | false=>exact .inl rfl
  | true=>exact .inr (isIn_iff.2 (h e (by simpa using he) hb))
def Slots (ops:Array Oper):Prop:=∀ i j oi oj d,ops[i]? = some oi→ops[j]? = some oj→oj.dst = some d→(d∈looks ops.toList oi→edge oi j = true)∧(i ≠ j→oi.dst ≠ some d)
theorem slots_of {ops:Array Oper} (h:slotsOk ops = true):Slots ops:=by
 intro i j oi oj d hi hj hd
 unfold slotsOk at h
 rw [List.all_eq_true] at h
 have h1:=h i (List.mem_range.2 (Array.getElem?_eq_some_iff.1 hi).1)
 rw [List.all_eq_true] at h1
 have h2:=h1 j (List.mem_range.2 (Array.getElem?_eq_some_iff.1 hj).1)
 rw [hi,hj] at h2
 simp only [hd,Bool.and_eq_true,Bool.or_eq_true,beq_iff] at h2
 refine ⟨fun hm=>?_,fun hne he=>?_⟩
 ·rcases h2.1 with h3 | h3
  ·have:(looks ops.toList oi).any (Nat.beq d) = true:=List.any_eq_true.2 ⟨d,hm,by rw [beq_iff]⟩
   rw [this] at h3; cases h3
  ·exact h3
 ·rcases h2.2 with h3 | h3
  ·exact hne h3
  ·rw [he] at h3
   simp only at h3
   have:Nat.beq d d = true:=by rw [beq_iff]
   rw [this] at h3; cases h3
def OrdD (ops:Array Oper):List Nat→Prop
 | []=>True
 | i :: D=>(∃ o,ops[i]? = some o∧∀ e∈o.after,Region.binds .any e = true→e.on∈D)∧OrdD ops D
theorem OrdD.get {ops:Array Oper}:∀ {D:List Nat},OrdD ops D→∀ i∈D,∃ o,ops[i]? = some o∧∀ e∈o.after,Region.binds .any e = true→e.on∈D:=by
 intro D
 induction D with
 | nil=>intro _ i hi; cases hi
 | cons x D ih=>
  rintro ⟨⟨o,h1,h2⟩,h3⟩ i hi
  rcases List.mem_cons.1 hi with rfl | hi
  ·exact ⟨o,h1,fun e he hb=>List.mem_cons_of_mem _ (h2 e he hb)⟩
  ·obtain ⟨o,g1,g2⟩:=ih h3 i hi
   exact ⟨o,g1,fun e he hb=>List.mem_cons_of_mem _ (g2 e he hb)⟩
theorem getD_tt {L:Array Bool} {i:Nat} (hlt:i < L.size) (h:L.getD i false = false):L.getD i true = false:=by
 simp [hlt] at h ⊢; exact h
theorem lag_ready {ops:Array Oper} {L:Array Bool} (hsz:L.size = ops.size):∀ {D:List Nat},OrdD ops D→(∃ g∈D,L.getD g false = false)→∃ g∈D,g∈Region.ready .any ops L:=by
 intro D
 induction D with
 | nil=>rintro _ ⟨g,hg,-⟩; cases hg
 | cons x D ih=>
  rintro ⟨⟨o,h1,h2⟩,h3⟩ ⟨g,hg,hl⟩
  by_cases hex:∃ g∈D,L.getD g false = false
  ·obtain ⟨g,g1,g2⟩:=ih h3 hex
   exact ⟨g,List.mem_cons_of_mem _ g1,g2⟩
  ·have hx:g = x:=by
    rcases List.mem_cons.1 hg with h | h
    ·exact h
    ·exact absurd ⟨g,h,hl⟩ hex
   subst hx
   refine ⟨g,by simp,mem_ready.2 ⟨getD_tt (by rw [hsz]; exact (Array.getElem?_eq_some_iff.1 h1).1) hl,o,h1,fun e he hb=>?_⟩⟩
   cases hq:L.getD e.on false with
   | true=>rfl
   | false=>exact absurd ⟨e.on,h2 e he hb,hq⟩ hex
theorem count_set {L:Array Bool} {j:Nat} (h:L.getD j true = false):(L.setIfInBounds j true).count false + 1 = L.count false:=by
 have hlt:j < L.size:=by
  rcases Nat.lt_or_ge j L.size with h' | h'
  ·exact h'
  ·simp [Array.getElem?_eq_none h'] at h
 have hf:L[j] = false:=by simpa [hlt] using h
 have hpos:0 < L.count false:=Array.count_pos_iff.2 (Array.mem_of_getElem hf)
 have hs:L.setIfInBounds j true = L.set j true hlt:=by simp [Array.setIfInBounds,hlt]
 rw [hs,Array.count_set hlt,hf]
 simp
 omega
section
variable {P:Program} {γ:FuncId→Option Fun} {ops:Array Oper} {Q:Exit→Act→World→Prop} {N0:Base} {n:Nat} {ρ0 ρ:Rho} {h0 h:Hp} {w0 w:World} {r:Res} {env:Env} {a:Act} {D:List Nat} {L:Array Bool} {fl:FL} {pend:PF}
def Cert (P : Program) (γ : FuncId → Option Fun) (ops : Array Oper) (n : Nat) (fl : FL) (pend : PF) (h : Hp) (env : Env) (g : Nat) (o : Oper) : Prop :=
  ∃ er v, (∀ t, er t = .unk ∨ (t ∈ looks ops.toList o ∧ er t = env t)) ∧ (∀ d, o.dst = some d → d < n ∧ env d = v) ∧
    ((kindF P o.op = 0 ∧ ∃ hg h', Sm (stepV P γ ops.toList o er hg) (.norm [v] h')) ∨
     (kindF P o.op = 1 ∧ (∃ h', Sm (stepV P γ ops.toList o er (hview ops.toList o fl h)) (.norm [v] h')) ∧ (g, againF P γ ops.toList o er v) ∈ pend) ∨
     (kindF P o.op = 2 ∧ o.guard = none ∧ ∃ l hg h' b m t, mkL P er hg o.op = .norm [l] h' ∧ ones l = true ∧ m = len l ∧ lenF P o.op m = true ∧
       (∀ j, t.get j = if 0 ≤ j ∧ j < 0 + len l then some (nth l (j - 0)) else (T.e : T AV).get j) ∧ v = valF P o.op b ∧ (g, b, m, t) ∈ fl))
structure FlE (N0:Base) (h0:Hp) (w0:World) (L:Array Bool) (ρ:Rho) (h:Hp) (w:World) (e:Nat×Nat×Nat×T AV):Prop where
 lt:e.2.1 < h.nb
 ge:h0.nb≤e.2.1
 st:(L.getD e.1 false = false∧ρ e.2.1 = none)∨(L.getD e.1 false = true∧∃ p,ρ e.2.1 = some p∧Row N0 w0 ρ h w p e.2.2.1 e.2.2.2)
structure FlS (P:Program) (ops:Array Oper) (N0:Base) (h0:Hp) (w0:World) (D:List Nat) (L:Array Bool) (fl:FL) (ρ:Rho) (h:Hp) (w:World):Prop where
 ent:∀ e∈fl,FlE N0 h0 w0 L ρ h w e
 inD:∀ e∈fl,e.1∈D∧∃ o,ops[e.1]? = some o∧kindF P o.op = 2
 bid:∀ e1∈fl,∀ e2∈fl,e1.2.1 = e2.2.1→e1.1 = e2.1
 idb:∀ e1∈fl,∀ e2∈fl,e1.1 = e2.1→e1 = e2
 pl:∀ e1∈fl,∀ e2∈fl,∀ p1 p2,ρ e1.2.1 = some p1→ρ e2.2.1 = some p2→p1.r = p2.r→e1.1 = e2.1
 nd:(fl.map (·.1)).Nodup
structure Sim (P:Program) (γ:FuncId→Option Fun) (ops:Array Oper) (N0:Base) (n:Nat) (ρ0:Rho) (h0:Hp) (w0:World) (D:List Nat) (L:Array Bool) (fl:FL) (pend:PF) (ρ:Rho) (h:Hp) (w:World) (env:Env) (a:Act):Prop where
 inv:Inv N0 ρ h w
 tr:Tr ρ0 h0 w0 ρ h w
 sz:n≤a.tmps.size
 df:a.defers = []
 lsz:L.size = ops.size
 sub:∀ i,L.getD i false = true→i∈D
 cl:Closed ops L
 ord:OrdD ops D
 er:∀ t,VR ρ (env t) (a.tmps.getD t undef)∨∃ g o,g∈D∧L.getD g false = false∧ops[g]? = some o∧o.dst = some t
 cert:∀ g o,g∈D→L.getD g false = false→ops[g]? = some o→Cert P γ ops n fl pend h env g o
 fls:FlS P ops N0 h0 w0 D L fl ρ h w
theorem Sim.er_of (SO:Slots ops) (hs:Sim P γ ops N0 n ρ0 h0 w0 D L fl pend ρ h w env a) {j:Nat} {o:Oper} (ho:ops[j]? = some o) (hall:∀ e∈o.after,Region.binds .any e = true→L.getD e.on false = true)
  {er:Env} (he:∀ t,er t = .unk∨(t∈looks ops.toList o∧er t = env t)):ERel ρ er a:=by
 intro t
 rcases he t with h1 | ⟨h1,h2⟩
 ·rw [h1]; exact trivial
 ·rw [h2]
  rcases hs.er t with h3 | ⟨g,o',h3,h4,h5,h6⟩
  ·exact h3
  ·obtain ⟨e,k1,k2,k3⟩:=edge_iff.1 ((SO j g o o' t ho h5 h6).1 h1)
   have:=hall e k1 k2
   rw [k3,h4] at this; cases this
theorem rs_of (ops:Array Oper) (o:Oper) (env:Env):∀ t,rs ops.toList o env t = .unk∨(t∈looks ops.toList o∧rs ops.toList o env t = env t):=by
 intro t
 have h1:rs ops.toList o env t = Bool.rec (motive:=fun _=>AV) .unk (env t) ((looks ops.toList o).any (Nat.beq t)):=rfl
 cases hb:(looks ops.toList o).any (Nat.beq t) with
 | false=>rw [hb] at h1; exact .inl h1
 | true=>
  rw [hb] at h1
  obtain ⟨x,g1,g2⟩:=List.any_eq_true.1 hb
  rw [beq_iff] at g2
  exact .inr ⟨by rw [g2]; exact g1,h1⟩
theorem Sim.done (SO:Slots ops) (hs:Sim P γ ops N0 n ρ0 h0 w0 D L fl pend ρ h w env a) {j:Nat} {o:Oper} (ho:ops[j]? = some o) (hj:j∈Region.ready .any ops L) (hD:j∈D)
  {ρ':Rho} {w':World} {V:Value} (hext:Ext ρ ρ') (hd:∀ d,o.dst = some d→d < n∧VR ρ' (env d) V) (hinv:Inv N0 ρ' h w') (htr:Tr ρ0 h0 w0 ρ' h w')
  (hfl:FlS P ops N0 h0 w0 D (L.setIfInBounds j true) fl ρ' h w'):Sim P γ ops N0 n ρ0 h0 w0 D (L.setIfInBounds j true) fl pend ρ' h w' env (a.put o.dst V):=by
 refine ⟨hinv,htr,?_,?_,by simpa using hs.lsz,fun i hi=>?_,hs.cl.set hj,hs.ord,fun t=>?_,fun g o' h1 h2 h3=>?_,hfl⟩
 ·cases o.dst with
  | none=>exact hs.sz
  | some d=>simpa [Act.put] using hs.sz
 ·cases o.dst with
  | none=>exact hs.df
  | some d=>exact hs.df
 ·rcases getD_set_inv hi with rfl | hi
  ·exact hD
  ·exact hs.sub i hi
 ·have rest:(o.dst ≠ some t)→VR ρ' (env t) (a.tmps.getD t undef)∨∃ g o,g∈D∧(L.setIfInBounds j true).getD g false = false∧ops[g]? = some o∧o.dst = some t:=by
   intro hne
   rcases hs.er t with h3 | ⟨g,o',h3,h4,h5,h6⟩
   ·exact .inl (h3.ext hext)
   ·have hgj:j ≠ g:=fun e=>by
     subst e
     rw [ho] at h5
     obtain rfl:=Option.some.inj h5
     exact hne h6
    exact .inr ⟨g,o',h3,by rw [getD_set_ne false hgj]; exact h4,h5,h6⟩
  cases hdst:o.dst with
  | none=>exact rest (by rw [hdst]; simp)
  | some d=>
   obtain ⟨h1,h2⟩:=hd d hdst
   rw [put_tmps d V (Nat.lt_of_lt_of_le h1 hs.sz)]
   by_cases ht:t = d
   ·rw [if_pos ht,ht]; exact .inl h2
   ·rw [if_neg ht]; exact rest (by rw [hdst]; exact fun e=>ht (Option.some.inj e).symm)
 ·have h4:L.getD g false = false:=by
   cases hq:L.getD g false with
   | false=>rfl
   | true=>rw [getD_set_true hq] at h2; cases h2
  exact hs.cert g o' h1 h4 h3
theorem FlS.same {j:Nat} (hf:FlS P ops N0 h0 w0 D L fl ρ h w) (hne:∀ e∈fl,e.1 ≠ j):FlS P ops N0 h0 w0 D (L.setIfInBounds j true) fl ρ h w:=by
 refine ⟨fun e he=>?_,hf.inD,hf.bid,hf.idb,hf.pl,hf.nd⟩
 have hE:=hf.ent e he
 exact ⟨hE.lt,hE.ge,by rw [getD_set_ne false (Ne.symm (hne e he))]; exact hE.st⟩
theorem hview_inv (hcl:Closed ops L) {o:Oper} (hall:∀ e∈o.after,Region.binds .any e = true→L.getD e.on false = true):∀ (l:FL) (h:Hp),Inv N0 ρ h w→(∀ e∈l,FlE N0 h0 w0 L ρ h w e) →
  (∀ e1∈l,∀ e2∈l,∀ p1 p2,ρ e1.2.1 = some p1→ρ e2.2.1 = some p2→p1.r = p2.r→e1.1 = e2.1)→(l.map (·.1)).Nodup→Inv N0 ρ (hview ops.toList o l h) w:=by
 intro l
 induction l with
 | nil=>intro h hi _ _ _; exact hi
 | cons e l ih=>
  intro h hi hE hpl hnd
  unfold hview
  rw [List.map_cons,List.nodup_cons] at hnd
  split
  ·rename_i hre
   have hdone:=reach_done hcl 3 hall hre
   have hEe:=hE e (by simp)
   rcases hEe.st with ⟨k1,-⟩ | ⟨-,p,k2,k3⟩
   ·rw [k1] at hdone; cases hdone
   ·refine ih _ (due_inv hi k2 hEe.lt k3) (fun e2 he2=>?_) (fun e1 he1 e2 he2=>hpl e1 (by simp [he1]) e2 (by simp [he2])) hnd.2
    have hE2:=hE e2 (by simp [he2])
    refine ⟨Nat.lt_succ_of_lt hE2.lt,hE2.ge,?_⟩
    rcases hE2.st with x1 | ⟨x1,p2,x2,x3⟩
    ·exact .inl x1
    ·refine .inr ⟨x1,p2,x2,x3.due k2 fun hpr=>?_⟩
     have:=hpl e (by simp) e2 (by simp [he2]) p p2 k2 x2 hpr
     exact hnd.1 (by rw [this]; exact List.mem_map_of_mem he2)
  ·exact ih h hi (fun e2 he2=>hE e2 (by simp [he2])) (fun e1 he1 e2 he2=>hpl e1 (by simp [he1]) e2 (by simp [he2])) hnd.2
theorem lag_step (SO:Slots ops) (hs:Sim P γ ops N0 n ρ0 h0 w0 D L fl pend ρ h w env a) {j:Nat} (hj:j∈Region.ready .any ops L) (hD:j∈D) {K:Act→World→Prop}
  (hK:∀ ρ' w' a',Sim P γ ops N0 n ρ0 h0 w0 D (L.setIfInBounds j true) fl pend ρ' h w' env a'→K a' w'):wpOp P ops Q j K a w:=by
 obtain ⟨hl,o,ho,hall⟩:=mem_ready.1 hj
 have hlf:=getD_both hl
 have hjl:j < L.size:=by rw [hs.lsz]; exact (Array.getElem?_eq_some_iff.1 ho).1
 obtain ⟨er,v,he,hd,hc⟩:=hs.cert j o hD hlf ho
 have hER:=hs.er_of SO ho hall he
 have still:(kindF P o.op = 0∨kindF P o.op = 1)→∀ V,VR ρ v V→K (a.put o.dst V) w:=by
  intro hk V hV
  refine hK ρ w _ (hs.done SO ho hj hD (Ext.refl ρ) (fun d hdst=>⟨(hd d hdst).1,by rw [(hd d hdst).2]; exact hV⟩) hs.inv hs.tr (hs.fls.same fun e he hej=>?_))
  obtain ⟨-,o',g1,g2⟩:=hs.fls.inD e he
  rw [hej,ho] at g1
  obtain rfl:=Option.some.inj g1
  rcases hk with hk | hk <;> rw [hk] at g2 <;> cases g2
 rcases hc with ⟨k0,hg,h',e⟩ | ⟨k1,⟨h',e⟩,-⟩ | ⟨k2,hgd,l,hg,h',b,m,t,e,h1,h2,h3,h4,h5,h6⟩
 ·exact stepV_still ho hER (N0:=N0) (.inl k0) e (still (.inl k0))
 ·exact stepV_still ho hER (.inr ⟨k1,hview_inv hs.cl hall fl h hs.inv hs.fls.ent hs.fls.pl hs.fls.nd⟩) e (still (.inr k1))
 ·obtain ⟨Vs,ty,V0,g1,g2,g3⟩:=mkL_exec (w:=w) hER e h1 (h2 ▸ h3)
  unfold wpOp
  rw [ho]
  have hw:Region.wanted o (yielded ops a.tmps) = true:=by simp [Region.wanted,hgd]
  simp only [hw,if_true]
  refine .inl ?_
  unfold Oper.wp
  rw [g2]
  have hE:=hs.fls.ent _ h6
  have hb:ρ b = none:=by
   rcases hE.st with ⟨-,k⟩ | ⟨k,-⟩
   ·exact k
   ·rw [show L.getD j false = true from k] at hlf; cases hlf
  have hlt:b < h.nb:=hE.lt
  have hnu:=nu_alloc (w:=w) Vs ty
  have hinv:=place_inv hs.inv hb hlt hnu
  have htr:=place_tr hs.inv hs.tr hb hlt hE.ge hnu
  have hext:=ups_ext ⟨w.heap.size,0,Vs.size,0⟩ hb
  have hrow:Row N0 w0 (ups ρ b ⟨w.heap.size,0,Vs.size,0⟩) h (w.alloc (.cells Vs ty)) ⟨w.heap.size,0,Vs.size,0⟩ m t:=Row.made hs.inv hs.tr.size hb hnu (.inl rfl) g1 h2 h4
  refine hK _ _ _ (hs.done SO ho hj hD hext (fun d hdst=>⟨(hd d hdst).1,?_⟩) hinv htr ?_)
  ·rw [(hd d hdst).2,h5]
   exact g3 _ b _ (ups_same _ _ _) rfl rfl rfl
  ·have oth:∀ e2∈fl,e2.1 ≠ j→e2.2.1 ≠ b:=fun e2 he2 hne heq=>hne (hs.fls.bid e2 he2 _ h6 heq)
   have mine:∀ e2∈fl,e2.1 = j→e2 = (j,b,m,t):=fun e2 he2 heq=>hs.fls.idb e2 he2 _ h6 heq
   refine ⟨fun e2 he2=>?_,hs.fls.inD,hs.fls.bid,hs.fls.idb,fun e1 he1 e2 he2 p1 p2 hp1 hp2 hpr=>?_,hs.fls.nd⟩
   ·have hE2:=hs.fls.ent e2 he2
    by_cases hej:e2.1 = j
    ·obtain rfl:=mine e2 he2 hej
     exact ⟨hlt,hE2.ge,.inr ⟨getD_set_self hl,_,ups_same _ _ _,hrow⟩⟩
    ·refine ⟨hE2.lt,hE2.ge,?_⟩
     rw [getD_set_ne false (Ne.symm hej),ups_ne _ _ (oth e2 he2 hej)]
     rcases hE2.st with k | ⟨k1,p,k3,k4⟩
     ·exact .inl k
     ·exact .inr ⟨k1,p,k3,k4.place hs.inv hb hnu⟩
   ·have small:∀ e2∈fl,e2.1 ≠ j→∀ p,ups ρ b ⟨w.heap.size,0,Vs.size,0⟩ e2.2.1 = some p→ρ e2.2.1 = some p∧p.r < w.heap.size:=by
     intro e2 he2 hne p hp
     rw [ups_ne _ _ (oth e2 he2 hne)] at hp
     rcases (hs.fls.ent e2 he2).st with ⟨-,k⟩ | ⟨-,q,k3,k4⟩
     ·rw [hp] at k; cases k
     ·rw [hp] at k3
      obtain rfl:=Option.some.inj k3
      exact ⟨hp,k4.lt⟩
    by_cases hej1:e1.1 = j <;> by_cases hej2:e2.1 = j
    ·rw [hej1,hej2]
    ·obtain rfl:=mine e1 he1 hej1
     obtain ⟨-,k⟩:=small e2 he2 hej2 p2 hp2
     have hp1:ups ρ b ⟨w.heap.size,0,Vs.size,0⟩ b = some p1:=hp1
     rw [ups_same] at hp1
     obtain rfl:=Option.some.inj hp1
     simp at hpr; omega
    ·obtain rfl:=mine e2 he2 hej2
     obtain ⟨-,k⟩:=small e1 he1 hej1 p1 hp1
     have hp2:ups ρ b ⟨w.heap.size,0,Vs.size,0⟩ b = some p2:=hp2
     rw [ups_same] at hp2
     obtain rfl:=Option.some.inj hp2
     simp at hpr; omega
    ·exact hs.fls.pl e1 he1 e2 he2 p1 p2 (small e1 he1 hej1 p1 hp1).1 (small e2 he2 hej2 p2 hp2).1 hpr
theorem again_inv:∀ (l:PF) {K:Res},(∀ q∈l,∃ o er v,q.2 = againF P γ ops.toList o er v)→Sm (agF l fl h K) r→Fine r →
  Sm K r∧∀ q∈l,∀ o er v,q.2 = againF P γ ops.toList o er v→∃ h',Sm (stepV P γ ops.toList o er (hview ops.toList o fl h)) (.norm [v] h'):=by
 intro l
 induction l with
 | nil=>intro K _ e _; exact ⟨e,fun q hq=>by cases hq⟩
 | cons p l ih=>
  intro K hl e hr
  have e:Sm (p.2 fl h (agF l fl h K)) r:=e
  have look:∀ o er v,p.2 = againF P γ ops.toList o er v→Sm (agF l fl h K) r∧∃ h',Sm (stepV P γ ops.toList o er (hview ops.toList o fl h)) (.norm [v] h'):=by
   intro o er v hp
   rw [hp] at e
   obtain ⟨v',h',e1,e2⟩:=nm_inv e hr
   obtain ⟨e3,e4⟩:=sameT_inv e2 hr
   obtain rfl:=eqAV_eq v v' e3
   exact ⟨e4,h',e1⟩
  obtain ⟨o,er,v,hp⟩:=hl p (by simp)
  obtain ⟨h1,-⟩:=look o er v hp
  obtain ⟨h2,h3⟩:=ih (fun q hq=>hl q (by simp [hq])) h1 hr
  refine ⟨h2,fun q hq o er v hq2=>?_⟩
  rcases List.mem_cons.1 hq with rfl | hq
  ·exact (look o er v hq2).2
  ·exact h3 q hq o er v hq2
theorem pendF_mem {all:List Oper} {o:Oper}:∀ (l:PF) (q:Nat×(FL→Hp→Res→Res)),q∈pendF all o l ↔ q∈l∧waits all o q.1 = false:=by
 intro l
 induction l with
 | nil=>intro q; simp [pendF]
 | cons p l ih=>
  intro q
  unfold pendF
  split
  ·rename_i ht
   rw [ih q]
   constructor
   ·rintro ⟨h1,h2⟩; exact ⟨by simp [h1],h2⟩
   ·rintro ⟨h1,h2⟩
    rcases List.mem_cons.1 h1 with rfl | h1
    ·rw [ht] at h2; cases h2
    ·exact ⟨h1,h2⟩
  ·rename_i ht
   rw [List.mem_cons,ih q]
   constructor
   ·rintro (rfl | ⟨h1,h2⟩)
    ·exact ⟨by simp,ht⟩
    ·exact ⟨by simp [h1],h2⟩
   ·rintro ⟨h1,h2⟩
    rcases List.mem_cons.1 h1 with rfl | h1
    ·exact .inl rfl
    ·exact .inr ⟨h1,h2⟩
theorem Sim.later (SO:Slots ops) (hs:Sim P γ ops N0 n ρ0 h0 w0 D L fl pend ρ h w env a) {i:Nat} {o:Oper} (ho:ops[i]? = some o) (hi:i ∉ D) (hdp:∀ e∈o.after,Region.binds .any e = true→e.on∈D)
  {env':Env} {fl':FL} {pend':PF} {h':Hp} (henv:∀ t,o.dst ≠ some t→env' t = env t) (hfl:∀ e∈fl,e∈fl') (hpd:∀ q∈pend,q∈pend')
  (hag:∀ o er v,(∃ g,(g,againF P γ ops.toList o er v)∈pend)→(∃ h1,Sm (stepV P γ ops.toList o er (hview ops.toList o fl h)) (.norm [v] h1))→∃ h1,Sm (stepV P γ ops.toList o er (hview ops.toList o fl' h')) (.norm [v] h1))
  (hinv:Inv N0 ρ h' w) (htr:Tr ρ0 h0 w0 ρ h' w) (hf:FlS P ops N0 h0 w0 (i :: D) L fl' ρ h' w) (hc:Cert P γ ops n fl' pend' h' env' i o):Sim P γ ops N0 n ρ0 h0 w0 (i :: D) L fl' pend' ρ h' w env' a:=by
 have hli:L.getD i false = false:=by
  cases hq:L.getD i false with
  | false=>rfl
  | true=>exact absurd (hs.sub i hq) hi
 refine ⟨hinv,htr,hs.sz,hs.df,hs.lsz,fun x hx=>List.mem_cons_of_mem _ (hs.sub x hx),hs.cl,⟨⟨o,ho,hdp⟩,hs.ord⟩,fun t=>?_,fun g o' h1 h2 h3=>?_,hf⟩
 ·by_cases hd:o.dst = some t
  ·exact .inr ⟨i,o,by simp,hli,ho,hd⟩
  ·rw [henv t hd]
   rcases hs.er t with h3 | ⟨g,o',h3,h4,h5,h6⟩
   ·exact .inl h3
   ·exact .inr ⟨g,o',List.mem_cons_of_mem _ h3,h4,h5,h6⟩
 ·rcases List.mem_cons.1 h1 with rfl | h1
  ·rw [ho] at h3
   obtain rfl:=Option.some.inj h3
   exact hc
  ·have hgi:g ≠ i:=fun e=>hi (e ▸ h1)
   obtain ⟨er,v,k1,k2,k3⟩:=hs.cert g o' h1 h2 h3
   have hne:∀ t,t∈looks ops.toList o'→o.dst ≠ some t:=by
    intro t ht hd
    obtain ⟨e,g1,g2,g3⟩:=edge_iff.1 ((SO g i o' o t h3 ho hd).1 ht)
    obtain ⟨o2,g4,g5⟩:=hs.ord.get g h1
    rw [h3] at g4
    obtain rfl:=Option.some.inj g4
    exact hi (g3 ▸ g5 e g1 g2)
   refine ⟨er,v,fun t=>?_,fun d hd=>⟨(k2 d hd).1,?_⟩,?_⟩
   ·rcases k1 t with h4 | ⟨h4,h5⟩
    ·exact .inl h4
    ·exact .inr ⟨h4,by rw [henv t (hne t h4)]; exact h5⟩
   ·rw [henv d (fun hd2=>(SO g i o' o d h3 ho hd2).2 hgi hd)]
    exact (k2 d hd).2
   ·rcases k3 with k3 | ⟨k4,k5,k6⟩ | ⟨k4,k5,l,hg,h1',b,m,t,e1,e2,e3,e4,e5,e6,e7⟩
    ·exact .inl k3
    ·exact .inr (.inl ⟨k4,hag _ _ _ ⟨g,k6⟩ k5,hpd _ k6⟩)
    ·exact .inr (.inr ⟨k4,k5,l,hg,h1',b,m,t,e1,e2,e3,e4,e5,e6,hfl _ e7⟩)
theorem FlS.more {i:Nat} (hf:FlS P ops N0 h0 w0 D L fl ρ h w):FlS P ops N0 h0 w0 (i :: D) L fl ρ h w:=
 ⟨hf.ent,fun e he=>⟨List.mem_cons_of_mem _ (hf.inD e he).1,(hf.inD e he).2⟩,hf.bid,hf.idb,hf.pl,hf.nd⟩
theorem flGet_mem {i:Nat}:∀ {fl:FL} {q:Nat×Nat×T AV},flGet i fl = some q→(i,q)∈fl:=by
 intro fl
 induction fl with
 | nil=>intro q h; cases h
 | cons p l ih=>
  intro q h
  unfold flGet at h
  split at h
  ·rename_i hb
   rw [beq_iff] at hb
   obtain rfl:=Option.some.inj h
   rw [← hb]; simp
  ·exact List.mem_cons_of_mem _ (ih h)
theorem flDel_mem {i:Nat}:∀ {fl:FL} {e:Nat×Nat×Nat×T AV},e∈flDel i fl ↔ e∈fl∧e.1 ≠ i:=by
 intro fl
 induction fl with
 | nil=>intro e; simp [flDel]
 | cons p l ih=>
  intro e
  unfold flDel
  split
  ·rename_i hb
   rw [beq_iff] at hb
   rw [ih]
   constructor
   ·rintro ⟨h1,h2⟩; exact ⟨List.mem_cons_of_mem _ h1,h2⟩
   ·rintro ⟨h1,h2⟩
    rcases List.mem_cons.1 h1 with rfl | h1
    ·exact absurd hb h2
    ·exact ⟨h1,h2⟩
  ·rename_i hb
   have hb:p.1 ≠ i:=fun h=>by rw [← beq_iff,hb] at h; cases h
   rw [List.mem_cons,ih]
   constructor
   ·rintro (rfl | ⟨h1,h2⟩)
    ·exact ⟨by simp,hb⟩
    ·exact ⟨List.mem_cons_of_mem _ h1,h2⟩
   ·rintro ⟨h1,h2⟩
    rcases List.mem_cons.1 h1 with rfl | h1
    ·exact .inl rfl
    ·exact .inr ⟨h1,h2⟩
theorem wpAny_step (hne:Region.ready .any ops L ≠ []) (h:∀ j∈Region.ready .any ops L,wpOp P ops Q j (wpAny P .any ops Q ((L.setIfInBounds j true).count false) (L.setIfInBounds j true)) a w):wpAny P .any ops Q (L.count false) L a w:=by
 obtain ⟨j,hj⟩:=List.exists_mem_of_ne_nil _ hne
 have h1:=count_set (mem_ready.1 hj).1
 obtain ⟨c,hc⟩:∃ c,L.count false = c + 1:=⟨_,h1.symm⟩
 rw [hc]
 refine ⟨fun h0=>absurd h0 hne,fun i hi=>?_⟩
 have h2:=count_set (mem_ready.1 hi).1
 have h3:(L.setIfInBounds i true).count false = c:=by omega
 have:=h i hi
 rw [h3] at this
 exact this
theorem act_step (hγ:GSound P γ∧N0.fits P) (SO:Slots ops) (hs:Sim P γ ops N0 n ρ0 h0 w0 D L fl pend ρ h w env a) {i:Nat} {o:Oper} (ho:ops[i]? = some o) (hi:i ∉ D) (hrd:i∈Region.ready .any ops L) {v:AV} {h':Hp} {env':Env}
  (e:Sm (stepV P γ ops.toList o (rs ops.toList o env) h) (.norm [v] h')) (hd:∀ t,o.dst = some t→t < n∧env' t = v) (henv:∀ t,o.dst ≠ some t→env' t = env t)
  (hag2:∀ g o' er v,(g,againF P γ ops.toList o' er v)∈pendF ops.toList o pend→∃ h1,Sm (stepV P γ ops.toList o' er (hview ops.toList o' fl h')) (.norm [v] h1)) {K:Act→World→Prop}
  (hK:∀ ρ' w' a',Sim P γ ops N0 n ρ0 h0 w0 (i :: D) (L.setIfInBounds i true) fl (pendF ops.toList o pend) ρ' h' w' env' a'→K a' w'):wpOp P ops Q i K a w:=by
 obtain ⟨hl,o1,ho1,hall⟩:=mem_ready.1 hrd
 rw [ho] at ho1
 obtain rfl:=Option.some.inj ho1
 have hER:=hs.er_of SO ho hall (rs_of ops o env)
 have hdp:∀ e∈o.after,Region.binds .any e = true→e.on∈D:=fun e he hb=>hs.sub _ (hall e he hb)
 refine stepV_act hγ ho hs.inv hER e fun V w' ρ' hout=>hK ρ' w' _ ?_
 have hext:=hout.tr.ext
 refine ⟨hout.inv,hs.tr.trans hout.tr,?_,?_,by simpa using hs.lsz,fun x hx=>?_,hs.cl.set hrd,⟨⟨o,ho,hdp⟩,hs.ord⟩,fun t=>?_,fun g o' h1 h2 h3=>?_,?_⟩
 ·cases o.dst with
  | none=>exact hs.sz
  | some d=>simpa [Act.put] using hs.sz
 ·cases o.dst with
  | none=>exact hs.df
  | some d=>exact hs.df
 ·rcases getD_set_inv hx with rfl | hx
  ·simp
  ·exact List.mem_cons_of_mem _ (hs.sub x hx)
 ·have rest:(o.dst ≠ some t)→VR ρ' (env' t) (a.tmps.getD t undef)∨∃ g o,g∈i :: D∧(L.setIfInBounds i true).getD g false = false∧ops[g]? = some o∧o.dst = some t:=by
   intro hne
   rw [henv t hne]
   rcases hs.er t with h3 | ⟨g,o',h3,h4,h5,h6⟩
   ·exact .inl (h3.ext hext)
   ·have hgi:i ≠ g:=fun e=>hi (e ▸ h3)
    exact .inr ⟨g,o',List.mem_cons_of_mem _ h3,by rw [getD_set_ne false hgi]; exact h4,h5,h6⟩
  cases hdst:o.dst with
  | none=>exact rest (by rw [hdst]; simp)
  | some d=>
   obtain ⟨h1,h2⟩:=hd d hdst
   rw [put_tmps d V (Nat.lt_of_lt_of_le h1 hs.sz)]
   by_cases ht:t = d
   ·rw [if_pos ht,ht,h2]; exact .inl hout.val
   ·rw [if_neg ht]; exact rest (by rw [hdst]; exact fun e=>ht (Option.some.inj e).symm)
 ·rcases List.mem_cons.1 h1 with rfl | h1
  ·rw [getD_set_self hl] at h2; cases h2
  ·have hgi:g ≠ i:=fun e=>hi (e ▸ h1)
   have h4:L.getD g false = false:=by rw [getD_set_ne false (Ne.symm hgi)] at h2; exact h2
   obtain ⟨er,v1,k1,k2,k3⟩:=hs.cert g o' h1 h4 h3
   have hne:∀ t,t∈looks ops.toList o'→o.dst ≠ some t:=by
    intro t ht hd
    obtain ⟨e,g1,g2,g3⟩:=edge_iff.1 ((SO g i o' o t h3 ho hd).1 ht)
    obtain ⟨o2,g4,g5⟩:=hs.ord.get g h1
    rw [h3] at g4
    obtain rfl:=Option.some.inj g4
    exact hi (g3 ▸ g5 e g1 g2)
   refine ⟨er,v1,fun t=>?_,fun d hd=>⟨(k2 d hd).1,?_⟩,?_⟩
   ·rcases k1 t with h5 | ⟨h5,h6⟩
    ·exact .inl h5
    ·exact .inr ⟨h5,by rw [henv t (hne t h5)]; exact h6⟩
   ·rw [henv d (fun hd2=>(SO g i o' o d h3 ho hd2).2 hgi hd)]
    exact (k2 d hd).2
   ·rcases k3 with k3 | ⟨k4,k5,k6⟩ | k7
    ·exact .inl k3
    ·have hmem:(g,againF P γ ops.toList o' er v1)∈pendF ops.toList o pend:=(pendF_mem pend _).2 ⟨k6,by
      cases hw:waits ops.toList o g with
      | false=>rfl
      | true=>
       have:=reach_done hs.cl 4 hall hw
       rw [h4] at this; cases this⟩
     exact .inr (.inl ⟨k4,hag2 g _ _ _ hmem,hmem⟩)
    ·exact .inr (.inr k7)
 ·refine ⟨fun e2 he2=>?_,fun e2 he2=>⟨List.mem_cons_of_mem _ (hs.fls.inD e2 he2).1,(hs.fls.inD e2 he2).2⟩,hs.fls.bid,hs.fls.idb,fun e1 he1 e2 he2 p1 p2 hp1 hp2 hpr=>?_,hs.fls.nd⟩
  ·have hE:=hs.fls.ent e2 he2
   have hne:i ≠ e2.1:=fun h=>hi (h ▸ (hs.fls.inD e2 he2).1)
   refine ⟨Nat.lt_of_lt_of_le hE.lt hout.tr.nb,hE.ge,?_⟩
   rw [getD_set_ne false hne]
   rcases hE.st with ⟨k1,k2⟩ | ⟨k1,p,k2,k3⟩
   ·refine .inl ⟨k1,?_⟩
    cases hq:ρ' e2.2.1 with
    | none=>rfl
    | some q=>
     rcases hout.tr.new _ _ hq with k | ⟨-,k,-⟩
     ·rw [k2] at k; cases k
     ·have:=hE.lt; omega
   ·exact .inr ⟨k1,p,hext _ _ k2,k3.step hout.tr⟩
  ·have back:∀ e2∈fl,∀ p,ρ' e2.2.1 = some p→ρ e2.2.1 = some p:=by
    intro e2 he2 p hp
    rcases hout.tr.new _ _ hp with k | ⟨-,k,-⟩
    ·exact k
    ·have:=(hs.fls.ent e2 he2).lt; omega
   exact hs.fls.pl e1 he1 e2 he2 p1 p2 (back e1 he1 p1 hp1) (back e2 he2 p2 hp2) hpr
end
end Go.AM
namespace Go.AM
open Go
set_option autoImplicit false
section
variable {P:Program} {γ:FuncId→Option Fun} {ops:Array Oper} {Q:Exit→Act→World→Prop} {N0:Base} {n:Nat} {ρ0 ρ:Rho} {h0 h:Hp} {w0 w:World} {r:Res} {env:Env} {a:Act} {D:List Nat} {L:Array Bool} {fl:FL} {pend:PF}
def PForm (P:Program) (γ:FuncId→Option Fun) (ops:Array Oper) (pend:PF):Prop:=∀ q∈pend,∃ o er v,q.2 = againF P γ ops.toList o er v
theorem agains_ok (hp:PForm P γ ops pend) {K:Res} (e:Sm (agF pend fl h K) r) (hr:Fine r):Sm K r∧∀ g o er v,(g,againF P γ ops.toList o er v)∈pend→∃ h1,Sm (stepV P γ ops.toList o er (hview ops.toList o fl h)) (.norm [v] h1):=by
 obtain ⟨h1,h2⟩:=again_inv pend hp e hr
 exact ⟨h1,fun g o er v hm=>h2 _ hm o er v rfl⟩
theorem PForm.pendF (hp:PForm P γ ops pend) (o:Oper):PForm P γ ops (Go.AM.pendF ops.toList o pend):=fun q hq=>hp q ((pendF_mem pend q).1 hq).1
theorem kindF_mk {op:Op} (h:∃ er h l h',mkL P er h op = .norm [l] h'):kindF P op = 2:=by
 obtain ⟨er,h,l,h',e⟩:=h
 cases op <;> first
  | rfl
  | cases e
theorem flDel_nd {i:Nat}:∀ {fl:FL},(fl.map (·.1)).Nodup→((flDel i fl).map (·.1)).Nodup:=by
 intro fl
 induction fl with
 | nil=>intro h; exact h
 | cons p l ih=>
  intro h
  rw [List.map_cons,List.nodup_cons] at h
  unfold flDel
  split
  ·exact ih h.2
  ·rw [List.map_cons,List.nodup_cons]
   refine ⟨fun hm=>?_,ih h.2⟩
   obtain ⟨x,h1,h2⟩:=List.mem_map.1 hm
   exact h.1 (by rw [← h2]; exact List.mem_map_of_mem (flDel_mem.1 h1).1)
theorem dFl_sound (hγ:GSound P γ∧N0.fits P) {k:Env→Hp→Res} (hr:Fine r) (SO:Slots ops)
  (hQ:∀ ρ h w env a,St N0 n ρ0 h0 w0 ρ h w env a→Sm (k env h) r→Q .normal a w):
  ∀ (N:Nat) (rest:List (Nat×Nat)) (D:List Nat) (L:Array Bool) (fl:FL) (pend:PF) (ρ:Rho) (h:Hp) (w:World) (env:Env) (a:Act),rest.length + L.count false = N→flOk P ops rest D = true →
   PForm P γ ops pend→Sim P γ ops N0 n ρ0 h0 w0 D L fl pend ρ h w env a→Sm (dFl P γ n ops.toList rest fl pend env h k) r→wpAny P .any ops Q (L.count false) L a w:=by
 intro N
 induction N using Nat.strongRecOn with
 | ind N ih=>
  intro rest D L fl pend ρ h w env a hN hok hpf hs e
    -- the model does something that the machine has done
  have lag:∀ j∈Region.ready .any ops L,j∈D→wpOp P ops Q j (wpAny P .any ops Q ((L.setIfInBounds j true).count false) (L.setIfInBounds j true)) a w:=by
   intro j hj hD
   refine lag_step SO hs hj hD fun ρ' w' a' hs'=>?_
   have:=count_set (mem_ready.1 hj).1
   exact ih (rest.length + (L.setIfInBounds j true).count false) (by omega) rest D _ fl pend ρ' h w' env a' rfl hok hpf hs' e
  have undone:∀ i,i ∉ D→L.getD i false = false:=by
   intro i hi
   cases hq:L.getD i false with
   | false=>rfl
   | true=>exact absurd (hs.sub i hq) hi
  cases rest with
  | nil=>
   have hfl:fl = []∧Sm (k env h) r:=by
    unfold dFl at e
    cases fl with
    | nil=>exact ⟨rfl,e⟩
    | cons _ _=>exact absurd rfl (e.nf hr)
   have hall:∀ i,i < ops.size→i∈D:=by
    intro i hi
    unfold flOk at hok
    rw [List.all_eq_true] at hok
    exact isIn_iff.1 (hok i (List.mem_range.2 hi))
   by_cases hex:∃ g∈D,L.getD g false = false
   ·obtain ⟨g,-,hg⟩:=lag_ready hs.lsz hs.ord hex
    refine wpAny_step (fun h=>by rw [h] at hg; cases hg) fun j hj=>lag j hj (hall j ?_)
    obtain ⟨-,o,ho,-⟩:=mem_ready.1 hj
    exact (Array.getElem?_eq_some_iff.1 ho).1
   ·have hrd:Region.ready .any ops L = []:=by
     rw [List.eq_nil_iff_forall_not_mem]
     intro j hj
     obtain ⟨hl,o,ho,-⟩:=mem_ready.1 hj
     exact hex ⟨j,hall j (Array.getElem?_eq_some_iff.1 ho).1,getD_both hl⟩
    refine wpAny_done hrd (hQ ρ h w env a ⟨hs.inv,hs.tr,fun t=>?_,hs.sz,hs.df⟩ hfl.2) _
    rcases hs.er t with h1 | ⟨g,o,h1,h2,-,-⟩
    ·exact h1
    ·exact absurd ⟨g,h1,h2⟩ hex
  | cons s rest=>
   unfold flOk at hok
   unfold dFl at e
   cases ho:ops[s.2]? with
   | none=>rw [ho] at hok; cases hok
   | some o=>
    have hli:ops.toList[s.2]? = some o:=by rw [Array.getElem?_toList]; exact ho
    rw [ho] at hok
    rw [hli] at e
    simp only at hok e
    split at e
    · -- a maker gets its number
     rename_i hs1
     rw [hs1] at hok
     simp only [Bool.and_eq_true] at hok
     obtain ⟨hiD,hdp,hgd,hok⟩:=hok
     have hi:s.2 ∉ D:=fun h=>by rw [isIn_iff.2 h] at hiD; cases hiD
     have hgd:o.guard = none:=by simpa using hgd
     have hdp:=depsIn_iff.1 hdp
     obtain ⟨l,h1,e1,e2⟩:=nm_inv e hr
     obtain ⟨l',h1',e1'⟩:=mkL_norm (e1.nf (by simp))
     have e1:mkL P (rs ops.toList o env) h o.op = .norm [l] h1:=by
      obtain ⟨k1,k2⟩:=Sm.norm (Eq.trans (congrArg now e1'.symm) e1) rfl
      rw [e1',k1,k2]
     have hones:=lay_ones _ _ _ rfl (e2.nf hr)
     obtain ⟨t,e3,e4,-⟩:=lay_inv l .e 0 rfl (e2.nf hr)
     rw [Nat.zero_add] at e3
     obtain ⟨hlen,e5⟩:=ifF_inv e3 (e2.nf hr)
     have e5:=Sm.of e5 e2
     have e5:Sm (put n o.dst (valF P o.op h.nb) env (fun env=>agF pend ((s.2,h.nb,len l,t) :: fl) (rsvH h) (dFl P γ n ops.toList rest ((s.2,h.nb,len l,t) :: fl) pend env (rsvH h) k))) r:=e5
     obtain ⟨env',e6,e7,e8⟩:=put_inv e5 hr
     obtain ⟨e9,e10⟩:=agains_ok hpf e6 hr
     have hk2:kindF P o.op = 2:=kindF_mk ⟨_,_,_,_,e1⟩
     have hfr:ρ h.nb = none:=hs.inv.free _ (Nat.le_refl _)
     have hbl:∀ e2∈fl,e2.2.1 < h.nb:=fun e2 he2=>(hs.fls.ent e2 he2).lt
     have hs':Sim P γ ops N0 n ρ0 h0 w0 (s.2 :: D) L ((s.2,h.nb,len l,t) :: fl) pend ρ (rsvH h) w env' a:=by
      refine hs.later SO ho hi hdp (env':=env') e8 (fun e he=>List.mem_cons_of_mem _ he) (fun q hq=>hq) (fun o er v ⟨g,hm⟩ _=>e10 g o er v hm) (rsv_inv hs.inv) (rsv_tr hs.tr) ?_ ?_
      ·refine ⟨fun e he=>?_,fun e he=>?_,fun x hx y hy hxy=>?_,fun x hx y hy hxy=>?_,fun x hx y hy p1 p2 hp1 hp2 hpr=>?_,?_⟩
       ·rcases List.mem_cons.1 he with rfl | he
        ·exact ⟨Nat.lt_succ_self _,hs.tr.nb,.inl ⟨undone _ hi,hfr⟩⟩
        ·have hE:=hs.fls.ent e he
         refine ⟨Nat.lt_succ_of_lt hE.lt,hE.ge,?_⟩
         rcases hE.st with k1 | ⟨k1,p,k2,k3⟩
         ·exact .inl k1
         ·exact .inr ⟨k1,p,k2,k3.rsv⟩
       ·rcases List.mem_cons.1 he with rfl | he
        ·exact ⟨by simp,o,ho,hk2⟩
        ·exact ⟨List.mem_cons_of_mem _ (hs.fls.inD e he).1,(hs.fls.inD e he).2⟩
       ·rcases List.mem_cons.1 hx with rfl | hx <;> rcases List.mem_cons.1 hy with rfl | hy
        ·rfl
        ·have:=hbl y hy
         have hxy:h.nb = y.2.1:=hxy
         omega
        ·have:=hbl x hx
         have hxy:x.2.1 = h.nb:=hxy
         omega
        ·exact hs.fls.bid x hx y hy hxy
       ·rcases List.mem_cons.1 hx with rfl | hx <;> rcases List.mem_cons.1 hy with rfl | hy
        ·rfl
        ·exact absurd ((hs.fls.inD y hy).1) (fun h=>hi (by rw [show s.2 = y.1 from hxy]; exact h))
        ·exact absurd ((hs.fls.inD x hx).1) (fun h=>hi (by rw [show s.2 = x.1 from hxy.symm]; exact h))
        ·exact hs.fls.idb x hx y hy hxy
       ·rcases List.mem_cons.1 hx with rfl | hx <;> rcases List.mem_cons.1 hy with rfl | hy
        ·rfl
        ·have hp1:ρ h.nb = some p1:=hp1
         rw [hfr] at hp1; cases hp1
        ·have hp2:ρ h.nb = some p2:=hp2
         rw [hfr] at hp2; cases hp2
        ·exact hs.fls.pl x hx y hy p1 p2 hp1 hp2 hpr
       ·rw [List.map_cons,List.nodup_cons]
        refine ⟨fun hm=>?_,hs.fls.nd⟩
        obtain ⟨x,hx1,hx2⟩:=List.mem_map.1 hm
        exact hi (by rw [← show x.1 = s.2 from hx2]; exact (hs.fls.inD x hx1).1)
      ·exact ⟨rs ops.toList o env,valF P o.op h.nb,fun t=>by
        rcases rs_of ops o env t with k1 | ⟨k1,k2⟩
        ·exact .inl k1
        ·refine .inr ⟨k1,?_⟩
         rw [k2,e8 t]
         intro hd
         obtain ⟨e,g1,g2,g3⟩:=edge_iff.1 ((SO s.2 s.2 o o t ho ho hd).1 k1)
         exact hi (g3 ▸ hdp e g1 g2),e7,.inr (.inr ⟨hk2,hgd,l,h,h1,h.nb,len l,t,e1,hones,rfl,hlen,e4,rfl,by simp⟩)⟩
     exact ih (rest.length + L.count false) (by simp at hN; omega) rest (s.2 :: D) L _ pend ρ (rsvH h) w env' a rfl hok hpf hs' e9
    · -- its cells are there
     rename_i hs1
     rw [hs1] at hok
     simp only [Bool.and_eq_true] at hok
     obtain ⟨hck,hok⟩:=hok
     cases hq:flGet s.2 fl with
     | none=>rw [hq] at e; exact absurd rfl (e.nf hr)
     | some q=>
      rw [hq] at e
      have e:Sm (agF pend (flDel s.2 fl) (dueH h q.1 q.2.1 q.2.2) (dFl P γ n ops.toList rest (flDel s.2 fl) pend env (dueH h q.1 q.2.1 q.2.2) k)) r:=e
      have hmem:=flGet_mem hq
      have hE:=hs.fls.ent _ hmem
      rcases hE.st with ⟨k1,k2⟩ | ⟨k1,p,k2,k3⟩
      · -- the model has not made it yet
       have hD:s.2∈D:=(hs.fls.inD _ hmem).1
       obtain ⟨g,-,hg⟩:=lag_ready hs.lsz hs.ord ⟨s.2,hD,k1⟩
       refine wpAny_step (fun h=>by rw [h] at hg; cases hg) fun j hj=>lag j hj ?_
       obtain ⟨hl,oj,hoj,hall⟩:=mem_ready.1 hj
       rw [List.all_eq_true] at hck
       have h1:=hck j (List.mem_range.2 (Array.getElem?_eq_some_iff.1 hoj).1)
       rw [hoj] at h1
       simp only [Bool.or_eq_true] at h1
       rcases h1 with h1 | h1 | h1
       ·exact isIn_iff.1 h1
       ·have:depsIn oj D = true:=depsIn_iff.2 fun e he hb=>hs.sub _ (hall e he hb)
        rw [this] at h1; cases h1
       ·have:=reach_done hs.cl 3 hall h1
        rw [show L.getD s.2 false = false from k1] at this; cases this
      ·obtain ⟨e9,e10⟩:=agains_ok hpf e hr
       have k2:ρ q.1 = some p:=k2
       have k3:Row N0 w0 ρ h w p q.2.1 q.2.2:=k3
       have hlt:q.1 < h.nb:=hE.lt
       have hs':Sim P γ ops N0 n ρ0 h0 w0 D L (flDel s.2 fl) pend ρ (dueH h q.1 q.2.1 q.2.2) w env a:=by
        refine ⟨due_inv hs.inv k2 hlt k3,due_tr hs.tr k2 k3,hs.sz,hs.df,hs.lsz,hs.sub,hs.cl,hs.ord,hs.er,fun g o' h1 h2 h3=>?_,?_⟩
        ·obtain ⟨er,v,g1,g2,g3⟩:=hs.cert g o' h1 h2 h3
         refine ⟨er,v,g1,g2,?_⟩
         rcases g3 with g3 | ⟨g4,g5,g6⟩ | ⟨g4,g5,l,hg,h1',b,m,t,x1,x2,x3,x4,x5,x6,x7⟩
         ·exact .inl g3
         ·exact .inr (.inl ⟨g4,e10 g _ _ _ g6,g6⟩)
         ·have hgi:g ≠ s.2:=fun h=>by rw [h,show L.getD s.2 false = true from k1] at h2; cases h2
          exact .inr (.inr ⟨g4,g5,l,hg,h1',b,m,t,x1,x2,x3,x4,x5,x6,flDel_mem.2 ⟨x7,hgi⟩⟩)
        ·have sub:∀ e∈flDel s.2 fl,e∈fl:=fun e he=>(flDel_mem.1 he).1
         refine ⟨fun e he=>?_,fun e he=>hs.fls.inD e (sub e he),fun x hx y hy=>hs.fls.bid x (sub x hx) y (sub y hy),fun x hx y hy=>hs.fls.idb x (sub x hx) y (sub y hy),fun x hx y hy=>hs.fls.pl x (sub x hx) y (sub y hy),flDel_nd hs.fls.nd⟩
         have hE2:=hs.fls.ent e (sub e he)
         refine ⟨Nat.lt_succ_of_lt hE2.lt,hE2.ge,?_⟩
         rcases hE2.st with x1 | ⟨x1,p2,x2,x3⟩
         ·exact .inl x1
         ·refine .inr ⟨x1,p2,x2,x3.due k2 fun hpr=>?_⟩
          exact (flDel_mem.1 he).2 (hs.fls.pl e (sub e he) _ hmem p2 p x2 k2 hpr.symm)
       exact ih (rest.length + L.count false) (by simp at hN; omega) rest D L _ pend ρ _ w env a rfl hok hpf hs' e9
    ·rename_i hn1 hn2
     split at hok
     ·exact absurd ‹s.1 = 2› hn2
     ·exact absurd ‹s.1 = 1› hn1
     simp only [Bool.and_eq_true] at hok
     obtain ⟨hiD,hdp,hck,hok⟩:=hok
     have hi:s.2 ∉ D:=fun h=>by rw [isIn_iff.2 h] at hiD; cases hiD
     have hdp:=depsIn_iff.1 hdp
     have rsE:∀ env':Env,(∀ t,o.dst ≠ some t→env' t = env t)→∀ t,rs ops.toList o env t = .unk∨(t∈looks ops.toList o∧rs ops.toList o env t = env' t):=by
      intro env' e8 t
      rcases rs_of ops o env t with k1 | ⟨k1,k2⟩
      ·exact .inl k1
      ·refine .inr ⟨k1,?_⟩
       rw [k2,e8 t]
       intro hd
       obtain ⟨e,g1,g2,g3⟩:=edge_iff.1 ((SO s.2 s.2 o o t ho ho hd).1 k1)
       exact hi (g3 ▸ hdp e g1 g2)
     split at e
     · -- it only computes
      rename_i hk
      obtain ⟨v,h1,e1,e2⟩:=nm_inv e hr
      obtain ⟨env',e3,e7,e8⟩:=put_inv e2 hr
      have hs':Sim P γ ops N0 n ρ0 h0 w0 (s.2 :: D) L fl pend ρ h w env' a:=
       hs.later SO ho hi hdp (env':=env') e8 (fun e he=>he) (fun q hq=>hq) (fun o er v _ hx=>hx) hs.inv hs.tr hs.fls.more ⟨_,v,rsE env' e8,e7,.inl ⟨hk,h,h1,e1⟩⟩
      exact ih (rest.length + L.count false) (by simp at hN; omega) rest (s.2 :: D) L fl pend ρ h w env' a rfl hok hpf hs' e3
     · -- it looks at memory
      rename_i hk
      obtain ⟨v,h1,e1,e2⟩:=nm_inv e hr
      obtain ⟨env',e3,e7,e8⟩:=put_inv e2 hr
      have hs':Sim P γ ops N0 n ρ0 h0 w0 (s.2 :: D) L fl ((s.2,againF P γ ops.toList o (rs ops.toList o env) v) :: pend) ρ h w env' a:=
       hs.later SO ho hi hdp (env':=env') e8 (fun e he=>he) (fun q hq=>List.mem_cons_of_mem _ hq) (fun o er v _ hx=>hx) hs.inv hs.tr hs.fls.more ⟨_,v,rsE env' e8,e7,.inr (.inl ⟨hk,⟨h1,e1⟩,by simp⟩)⟩
      refine ih (rest.length + L.count false) (by simp at hN; omega) rest (s.2 :: D) L fl _ ρ h w env' a rfl hok (fun q hq=>?_) hs' e3
      rcases List.mem_cons.1 hq with rfl | hq
      ·exact ⟨_,_,_,rfl⟩
      ·exact hpf q hq
     · -- it may change memory
      rename_i hk0 hk1
      obtain ⟨v,h1,e1,e2⟩:=nm_inv e hr
      obtain ⟨env',e3,e7,e8⟩:=put_inv e2 hr
      obtain ⟨e9,e10⟩:=agains_ok (hpf.pendF o) e3 hr
      have hck:∀ j oj,ops[j]? = some oj→j ≠ s.2→j ∉ D→depsIn oj D = false:=by
       intro j oj hoj hne hjD
       split at hck
       ·exact absurd ‹kindF P o.op = 0› hk0
       ·exact absurd ‹kindF P o.op = 1› hk1
       ·rw [List.all_eq_true] at hck
        have h2:=hck j (List.mem_range.2 (Array.getElem?_eq_some_iff.1 hoj).1)
        rw [hoj] at h2
        simp only [Bool.or_eq_true,beq_iff] at h2
        rcases h2 with h2 | h2 | h2
        ·exact absurd h2 hne
        ·exact absurd (isIn_iff.1 h2) hjD
        ·simpa using h2
      have hne:Region.ready .any ops L ≠ []:=by
       by_cases hex:∃ g∈D,L.getD g false = false
       ·obtain ⟨g,-,hg⟩:=lag_ready hs.lsz hs.ord hex
        intro h; rw [h] at hg; cases hg
       ·have hrd:s.2∈Region.ready .any ops L:=mem_ready.2 ⟨getD_tt (by rw [hs.lsz]; exact (Array.getElem?_eq_some_iff.1 ho).1) (undone _ hi),o,ho,fun e he hb=>by
         cases hq:L.getD e.on false with
         | true=>rfl
         | false=>exact absurd ⟨_,hdp e he hb,hq⟩ hex⟩
        intro h; rw [h] at hrd; cases hrd
      refine wpAny_step hne fun j hj=>?_
      by_cases hji:j = s.2
      ·subst hji
       refine act_step hγ SO hs ho hi hj e1 e7 e8 e10 fun ρ' w' a' hs'=>?_
       have:=count_set (mem_ready.1 hj).1
       exact ih (rest.length + (L.setIfInBounds s.2 true).count false) (by simp at hN; omega) rest (s.2 :: D) _ fl _ ρ' h1 w' env' a' rfl hok (hpf.pendF o) hs' e9
      ·refine lag j hj ?_
       obtain ⟨hl,oj,hoj,hall⟩:=mem_ready.1 hj
       refine Classical.byContradiction fun hjD=>?_
       have h1:=hck j oj hoj hji hjD
       have:depsIn oj D = true:=depsIn_iff.2 fun e he hb=>hs.sub _ (hall e he hb)
       rw [this] at h1; cases h1
end
end Go.AM
namespace Go.AM
open Go
open Go.ChangeMaps (setBlock)
set_option autoImplicit false
section
variable {P:Program} {γ:FuncId→Option Fun} {N0:Base} {n:Nat} {ρ0 ρ:Rho} {h0 h:Hp} {w0 w w':World} {r:Res} {env:Env} {a a0:Act} {it:Nat} {cur:AV} {W:List Nat} {Vi E:Value}
def Keep (W:List Nat) (a0 a:Act):Prop:=∀ t,t ∉ W→a.tmps.getD t undef = a0.tmps.getD t undef
theorem Keep.put {d:Option Nat} {V:Value} (hk:Keep W a0 a) (hd:∀ x,d = some x→x∈W):Keep W a0 (a.put d V):=by
 intro t ht
 cases d with
 | none=>exact hk t ht
 | some d=>
  have hne:t ≠ d:=fun e=>ht (e ▸ hd d rfl)
  rw [← hk t ht]
  simp only [Act.put,Array.getD_eq_getD_getElem?,Array.getElem?_setIfInBounds]
  rw [if_neg (Ne.symm hne)]
theorem dOpsR_sound {ops:Array Oper} {Q:Exit→Act→World→Prop} {k:Env→Res} (hr:Fine r) (hE:VR ρ cur E) (hrun:(Instr.entry Vi).run P w = .ok E w) (hit:a0.tmps.getD it undef = Vi) (hW:it ∉ W)
  (hQ:∀ env a,St N0 n ρ h w ρ h w env a→Keep W a0 a→Sm (k env) r→Q .normal a w):
  ∀ (rest:List Oper) (i:Nat) (env:Env) (a:Act),ops.toList.drop i = rest→(∀ o∈rest,∀ d,o.dst = some d→d∈W)→St N0 n ρ h w ρ h w env a→Keep W a0 a→Sm (dOpsR P γ n it cur rest env h k) r→wpOps P ops Q (List.range' i rest.length) a w:=by
 intro rest
 induction rest with
 | nil=>intro i env a _ _ hs hk e; exact hQ env a hs hk e
 | cons o rest ih=>
  intro i env a hd hwr hs hk e
  have hoi:ops[i]? = some o:=by
   rw [← Array.getElem?_toList]
   have:=congrArg (·[0]?) hd
   simpa using this
  have hd':ops.toList.drop (i + 1) = rest:=by
   rw [← List.drop_drop,hd]; rfl
  have hwr':∀ o∈rest,∀ d,o.dst = some d→d∈W:=fun o ho=>hwr o (by simp [ho])
  have hdst:=hwr o (by simp)
  rw [List.length_cons,List.range'_succ]
  unfold wpOps
  rw [hoi]
  simp only
  simp only [dOpsR] at e
  split at e
  ·exact absurd rfl (e.nf hr)
  ·rename_i hg
   have hw:Region.wanted o (yielded ops a.tmps) = true:=by simp [Region.wanted,hg]
   rw [if_pos hw]
   refine .inl ?_
   unfold Oper.wp
   have fin:∀ {v:AV} {V:Value},Sm (put n o.dst v env (fun env=>dOpsR P γ n it cur rest env h k)) r→VR ρ v V→(execOp a.eval o).run P w = .ok (.value V) w →
     o.upon P a (wpOps P ops Q (List.range' (i + 1) rest.length)) Q ((execOp a.eval o).run P w):=by
    intro v V e hv hx
    rw [hx]
    obtain ⟨env',h3,h4⟩:=put_st e hr hs hv
    exact ih (i + 1) env' _ hd' hwr' h4 (hk.put hdst) h3
   split at e
   ·rename_i x hop
    split at e
    ·rename_i x
     obtain ⟨h1,h2⟩:=sif_inv rfl (e.nf hr)
     rw [beq_iff] at h1
     subst h1
     have hev:a.eval (.tmp x) = Vi:=by
      show a.tmps.getD x undef = Vi
      rw [hk x hW]; exact hit
     refine fin (.of h2 e) hE ?_
     simp only [execOp,hop,hev]
     rw [Sem.run_bind,hrun]; rfl
    ·exact absurd rfl (e.nf hr)
   ·split at e
    ·rename_i hk0
     obtain ⟨v,V,h1,h2,h3⟩:=dOp_pure o hs.inv hs.er hk0 rfl (e.fine hr)
     exact fin (Eq.trans h1 e) h2 (h3 w)
    ·rename_i hk1
     obtain ⟨v,V,h1,h2,h3⟩:=dOp_read o hs.inv hs.er hk1 rfl (e.fine hr)
     exact fin (Eq.trans h1 e) h2 h3
    ·exact absurd rfl (e.nf hr)
theorem denR_sound (hr:Fine r) (hE:VR ρ cur E) (hrun:(Instr.entry Vi).run P w = .ok E w) (hit:a0.tmps.getD it undef = Vi) (hW:it ∉ W):
  ∀ (c:Code) (env:Env) (a:Act) (k:Env→Res),(∀ d∈wrs c,d∈W)→St N0 n ρ h w ρ h w env a→Keep W a0 a→Sm (denR P γ n it cur c env h k) r →
   c.wp P (fun ex a' w'=>ex = .normal∧w' = w∧Keep W a0 a'∧∃ env',St N0 n ρ h w ρ h w env' a'∧Sm (k env') r) a w:=by
 intro c
 induction c with
 | skip=>intro env a k _ hs hk e; exact wp_skip ⟨rfl,rfl,hk,env,hs,e⟩
 | seq p q ihp ihq=>
  intro env a k hw hs hk e
  refine wp_seq (wp_mono (ihp env a _ (fun d hd=>hw d (by simp [wrs,hd])) hs hk e) fun ex a' w' hp=>?_)
  obtain ⟨rfl,rfl,hk',env',hs',e'⟩:=hp
  exact ihq env' a' k (fun d hd=>hw d (by simp [wrs,hd])) hs' hk' e'
 | region id ops d=>
  intro env a k hw hs hk e
  cases d with
  | true=>exact absurd rfl (e.nf hr)
  | false=>
   refine wp_region ?_
   have:=dOpsR_sound (P:=P) (γ:=γ) (ops:=ops) (Q:=fun ex a' w'=>ex = .normal∧w' = w∧Keep W a0 a'∧∃ env',St N0 n ρ h w ρ h w env' a'∧Sm (k env') r) hr hE hrun hit hW (fun env a hs hk e=>⟨rfl,rfl,hk,env,hs,e⟩) ops.toList 0 env a rfl
    (fun o ho d hd=>hw d (by simp only [wrs,List.mem_filterMap]; exact ⟨o,ho,hd⟩)) hs hk e
   rwa [Array.length_toList,← List.range_eq_range'] at this
 | cond c p q ihp ihq=>
  intro env a k hw hs hk e
  obtain ⟨t,h1,h2⟩:=cB_inv rfl (e.nf hr)
  have hc:=ev_rel hs.er c
  rw [h1] at hc
  have hc:a.eval c = .bool t:=hc
  refine wp_cond hc ?_
  cases t with
  | true=>exact ihp env a k (fun d hd=>hw d (by simp [wrs,hd])) hs hk (.of h2 e)
  | false=>exact ihq env a k (fun d hd=>hw d (by simp [wrs,hd])) hs hk (.of h2 e)
 | block id p ihp=>
  intro env a k hw hs hk e
  refine wp_block (wp_mono (ihp env a k hw hs hk e) fun ex a' w' hp=>?_)
  obtain ⟨rfl,h2⟩:=hp
  exact ⟨rfl,h2⟩
 | _=>intro env a k _ _ _ e; exact absurd rfl (e.nf hr)
theorem nm1_inv {q r k:Res} (e:Sm (nm1 q k) r) (hr:Fine r):∃ vs h,Sm q (.norm vs h)∧Sm k r:=by
 induction q with
 | norm vs h=>exact ⟨vs,h,rfl,e⟩
 | ask p q ih=>
  have e:now (.ask p (nm1 q k)) = now r:=e
  obtain ⟨rfl,h2⟩:=now_ask (by rw [e]; exact hr.ok)
  exact ih (h2.symm.trans e)
 | _=>exact absurd rfl (e.nf hr)
theorem allE_inv {f:AV→Res} {R:Res} (hr:Fine r):∀ (m:AV) (l:List MapEntry),ELR ρ m l→Sm (allE f R m) r→Sm R r∧∀ e∈l,∃ x v vs hh,VR ρ x e.key∧VR ρ v e.val∧Sm (f (.tup (.cons x (.cons v .nil)))) (.norm vs hh):=by
 intro m
 induction m with
 | nil=>
  intro l hl e
  have hl:l = []:=hl
  subst hl
  exact ⟨e,fun _ h=>by cases h⟩
 | cons c t _ iht=>
  intro l hl e
  have e:Sm (cC c (fun x v=>nm1 (f (.tup (.cons x (.cons v .nil)))) (allE f R t))) r:=e
  obtain ⟨x,v,rfl,h1⟩:=cC_inv rfl (e.nf hr)
  have h1:=Sm.of h1 e
  obtain ⟨en,l',rfl,g1,g2,g3⟩:=hl
  obtain ⟨vs,hh,hf,h1⟩:=nm1_inv h1 hr
  obtain ⟨h2,h3⟩:=iht l' g3 h1
  refine ⟨h2,fun e he=>?_⟩
  rcases List.mem_cons.1 he with rfl | he
  ·exact ⟨x,v,vs,hh,g1,g2,hf⟩
  ·exact h3 e he
 | _=>intro l hl; exact hl.elim
theorem Inv.more (hi:Inv N0 ρ h w) (ho:∀ i,i < w.heap.size→w'.heap[i]? = w.heap[i]?) (hs:w.heap.size≤w'.heap.size):Inv N0 ρ h w':=by
 refine ⟨fun b B hb=>?_,hi.nb,hi.gnb,hi.gs,hi.als,hi.lim,hi.free,Nat.le_trans hi.wsz hs,hi.mp.later (Ext.refl ρ) (Nat.le_refl _) fun r o hr _=>ho r (Array.getElem?_eq_some_iff.1 hr).1,Base.st hi.jj fun r hr=>ho r (by have:=hi.wsz; omega)⟩
 obtain ⟨p,h1,h2⟩:=hi.blk b B hb
 exact ⟨p,h1,h2.later (Ext.refl ρ) (ho _ h2.lt) (fun h=>h)⟩
theorem Tr.more (ht:Tr ρ0 h0 w0 ρ h w) (ho:∀ i,i < w.heap.size→w'.heap[i]? = w.heap[i]?) (hs:w.heap.size≤w'.heap.size) (h1:w'.tape = w.tape) (h2:w'.os = w.os) (h3:w'.output = w.output):Tr ρ0 h0 w0 ρ h w':=
 ⟨ht.ext,ht.nb,ht.new,fun r hr hn hm=>by rw [ho r (Nat.lt_of_lt_of_le hr ht.size)]; exact ht.frame r hr hn hm,ht.img,ht.mimg,Nat.le_trans ht.size hs,h1.trans ht.tape,h2.trans ht.os,h3.trans ht.output,ht.lo⟩
structure LI (W:List Nat) (n it:Nat) (w:World) (a:Act) (bm clock:Nat) (seen:Array Nat) (a':Act) (w':World):Prop where
 iter:w'.heap[w.heap.size]? = some (.mapIter (some bm) clock seen clock)
 old:∀ i,i < w.heap.size→w'.heap[i]? = w.heap[i]?
 size:w'.heap.size = w.heap.size + 1
 tape:w'.tape = w.tape
 os:w'.os = w.os
 output:w'.output = w.output
 sz:n≤a'.tmps.size
 df:a'.defers = []
 slot:a'.tmps.getD it undef = .pointer (some ⟨w.heap.size,0,none⟩)
 keep:Keep W a a'
theorem LI.st {bm clock:Nat} {seen:Array Nat} {a':Act} (hl:LI W n it w a bm clock seen a' w') (hs:St N0 n ρ0 h0 w0 ρ h w env a):St N0 n ρ0 h0 w0 ρ h w' (ers W env) a':=by
 refine ⟨hs.inv.more hl.old (by rw [hl.size]; omega),hs.tr.more hl.old (by rw [hl.size]; omega) hl.tape hl.os hl.output,fun t=>?_,hl.sz,hl.df⟩
 have he:ers W env t = Bool.rec (motive:=fun _=>AV) (env t) .unk (W.any (Nat.beq t)):=rfl
 cases hb:W.any (Nat.beq t) with
 | true=>rw [hb] at he; rw [he]; exact trivial
 | false=>
  rw [hb] at he
  have he:ers W env t = env t:=he
  rw [he,hl.keep t fun hm=>by
   have:W.any (Nat.beq t) = true:=List.any_eq_true.2 ⟨t,hm,by rw [beq_iff]⟩
   rw [hb] at this; cases this]
  exact hs.er t
theorem rngOf_inv {o:Oper} {q:Operand×Nat×TypeId} (h:rngOf o = some q):o.guard = none∧o.dst = some q.2.1∧o.op = .range q.2.2 q.1:=by
 unfold rngOf at h
 split at h
 ·split at h
  ·split at h
   ·obtain rfl:=Option.some.inj h
    exact ⟨by assumption,by assumption,by assumption⟩
   ·cases h
  ·cases h
 ·cases h
theorem headOk_inv {o1 o2:Oper} {c:Nat} (h:headOk o1 o2 it c n = true):
  ∃ d1,o1.guard = none∧o2.guard = none∧o1.dst = some d1∧o2.dst = some c∧o1.op = .next (.tmp it) false∧o2.op = .extract (.tmp d1) 0∧d1 < n∧c < n∧d1 ≠ it∧c ≠ it:=by
 unfold headOk at h
 split at h
 ·rename_i d1 d2 g1 g2 e1 e2
  simp only [Bool.and_eq_true,beq_iff,blt_iff] at h
  obtain ⟨h1,h2,h3,h4,h5,h6,h7⟩:=h
  split at h1
  ·rename_i i s ho1
   simp only [Bool.and_eq_true,beq_iff] at h1
   obtain ⟨rfl,hs⟩:=h1
   have hs:s = false:=by simpa using hs
   subst hs
   split at h2
   ·rename_i d i ho2
    simp only [Bool.and_eq_true,beq_iff] at h2
    obtain ⟨rfl,rfl⟩:=h2
    subst h3
    have ne:∀ x y:Nat,(!Nat.beq x y) = true→x ≠ y:=fun x y h e=>by
     have:Nat.beq x y = true:=by rw [beq_iff]; exact e
     rw [this] at h; cases h
    exact ⟨d,g1,g2,e1,e2,ho1,ho2,h4,h5,ne _ _ h6,ne _ _ h7⟩
   ·cases h2
  ·cases h1
 ·cases h
theorem isMapT_inv {t:TypeId} (h:isMapT P t = true):∃ k e,P.underlying t = some (.map k e):=by
 unfold isMapT at h
 split at h
 ·exact ⟨_,_,by assumption⟩
 ·cases h
theorem dRng_sound (hγ:GSound P γ∧N0.fits P) {x y:Code} {k:Env→Hp→Res} {Q:Exit→Act→World→Prop} (hr:Fine r) (hs:St N0 n ρ0 h0 w0 ρ h w env a) (e:dRng P γ n x y env h k = r)
  (hQ:∀ ρ h w env a,St N0 n ρ0 h0 w0 ρ h w env a→Sm (k env h) r→Q .normal a w):(Code.seq x y).wp P Q a w:=by
 unfold dRng at e
 split at e
 rotate_left
 ·exact absurd e.symm hr.nf
 rename_i id0 ops
 split at e
 rotate_left
 ·exact absurd e.symm hr.nf
 rename_i B id2 ops2 c B2 C body
 split at e
 rotate_left
 ·exact absurd e.symm hr.nf
 rename_i o hlast
 split at e
 rotate_left
 ·exact absurd e.symm hr.nf
 rename_i q hq
 split at e
 rotate_left
 ·exact absurd e.symm hr.nf
 rename_i o1 o2 hops2
 obtain ⟨hck,e2⟩:=sif_inv e hr
 clear e
 have e:=e2
 clear e2
 simp only [Bool.and_eq_true,beq_iff,blt_iff] at hck
 obtain ⟨hhead,hB,hitn,hmt,hitb⟩:=hck
 subst hB
 obtain ⟨x,it,t⟩:=q
 obtain ⟨hg,hdst,hop⟩:=rngOf_inv hq
 simp only at hhead hitn hmt hitb hdst hop e
 obtain ⟨d1,g1,g2,e1,e2,ho1,ho2,hd1,hc,hne1,hne2⟩:=headOk_inv hhead
 obtain ⟨kt,et,ht⟩:=isMapT_inv hmt
 obtain ⟨init,hl⟩:=List.getLast?_eq_some_iff.1 hlast
 have hinit:ops.toList.dropLast = init:=by rw [hl,List.dropLast_concat]
 rw [hinit] at e
 have hdsts:ops2.toList.filterMap (·.dst) = [d1,c]:=by rw [hops2]; simp [e1,e2]
 rw [hdsts] at e
 generalize hWd:it :: (wrs body ++ [d1,c]) = W at e
 have hitbody:it ∉ wrs body:=fun hm=>by
  have:(wrs body).any (Nat.beq it) = true:=List.any_eq_true.2 ⟨it,hm,by rw [beq_iff]⟩
  rw [this] at hitb; cases hitb
 refine wp_seq (wp_region ?_)
 have hsize:ops.size = init.length + [o].length:=by rw [← Array.length_toList,hl,List.length_append]
 rw [hsize,List.range_eq_range']
 refine dOps_pre (tail:=[o]) (j0:=init.length) hγ hr ?_ init 0 ρ h w env a (by rw [List.drop_zero]; exact hl) (by omega) hs (.eq e)
 clear hs e
 intro ρ h w env a hs e
 obtain ⟨b,hx,ee⟩:=cMap_inv rfl (e.nf hr)
 replace e:=Sm.of ee e
 clear ee
 cases hg1:h.ms.get b with
 | none=>rw [hg1] at e; exact absurd rfl (e.nf hr)
 | some m=>
 rw [hg1] at e
 have e:Sm (allE (fun cur=>denR P γ n it cur body (ers W env) h fun _=>.norm [] h) (k (ers W env) h) m) r:=e
 have hX:=ev_rel hs.er x
 rw [hx] at hX
 obtain ⟨p,hp,hX⟩:=hX
 obtain ⟨-,p2,ob,hp2,-,hrow,hmr⟩:=hs.inv.mp.ent b m hg1
 obtain rfl:p = p2:=by rw [hp] at hp2; exact Option.some.inj hp2
 obtain ⟨es,clock,rfl⟩:∃ es c,ob = .map es c:=by
  cases ob <;> first
   | exact hmr.elim
   | exact ⟨_,_,rfl⟩
   | skip
  obtain ⟨-,rfl⟩:=hmr
  exact absurd rfl (e.nf hr)
 obtain ⟨hel,hborn,hnd⟩:=hmr
 obtain ⟨hR,hall⟩:=allE_inv hr m es.toList hel e
 have hlt:p.r < w.heap.size:=(Array.getElem?_eq_some_iff.1 hrow).1
 show wpOps P ops _ [init.length] a w
 unfold wpOps
 have hoi:ops[init.length]? = some o:=by rw [← Array.getElem?_toList,hl]; simp
 rw [hoi]
 have hw:Region.wanted o (yielded ops a.tmps) = true:=by simp [Region.wanted,hg]
 simp only [hw,if_true]
 refine .inl ?_
 unfold Oper.wp
 have hrun:(execOp a.eval o).run P w = .ok (.value (.pointer (some ⟨w.heap.size,0,none⟩))) (w.alloc (.mapIter (some p.r) clock #[] clock)):=by
  simp only [execOp,hop,hX]
  rw [Sem.run_bind,run_range_map w t kt et p.r es clock ht hrow]; rfl
 rw [hrun]
 show (Code.block B _).wp P Q (a.put o.dst _) _
 rw [hdst]
 have hha:∀ o:Obj,(w.alloc o).heap = w.heap.push o:=fun _=>rfl
 have hitW:it∈W:=by rw [← hWd]; simp
 have h1W:d1∈W:=by rw [← hWd]; simp
 have hcW:c∈W:=by rw [← hWd]; simp
 have hbW:∀ d∈wrs body,d∈W:=fun d hd=>by rw [← hWd]; simp [hd]
 have start:LI W n it w a p.r clock #[] (a.put (some it) (.pointer (some ⟨w.heap.size,0,none⟩))) (w.alloc (.mapIter (some p.r) clock #[] clock)):=by
  refine ⟨by rw [hha]; simp,fun i hi=>by rw [hha,Array.getElem?_push,if_neg (by omega)],by rw [hha]; simp,rfl,rfl,rfl,by simpa [Act.put] using hs.sz,hs.df,?_,?_⟩
  ·rw [put_tmps it _ (Nat.lt_of_lt_of_le hitn hs.sz),if_pos rfl]
  ·exact Keep.put (fun t _=>rfl) (fun x hx=>by obtain rfl:=Option.some.inj hx; exact hitW)
 generalize a.put (some it) (.pointer (some ⟨w.heap.size,0,none⟩)) = a1 at start ⊢
 generalize w.alloc (.mapIter (some p.r) clock #[] clock) = w1 at start ⊢
 refine wp_block (wp_loop_rounds ((leftOf es #[]).size + 1) ?_)
 obtain rfl:ops2 = #[o1,o2]:=Array.toList_inj.1 (by rw [hops2])
 have key:∀ (m:Nat) (seen:Array Nat) (a':Act) (w':World),(leftOf es seen).size < m→LI W n it w a p.r clock seen a' w' →
   Code.rounds P (.seq (.region id2 #[o1,o2] false) (.seq (.cond (.tmp c) .skip (.exit B)) (.block C body))) (Exit.inBlock B Q) m a' w':=by
  intro m
  induction m with
  | zero=>intro seen a' w' h; omega
  | succ m ihm=>
   intro seen a' w' hm hl
   rw [rounds_succ]
   have hrow':w'.heap[p.r]? = some (.map es clock):=by rw [hl.old _ hlt]; exact hrow
   refine wp_seq (wp_region ?_)
   show wpOps P #[o1,o2] _ [0,1] a' w'
   have hw1:∀ a:Act,Region.wanted o1 (yielded #[o1,o2] a.tmps) = true:=fun a=>by simp [Region.wanted,g1]
   have hw2:∀ a:Act,Region.wanted o2 (yielded #[o1,o2] a.tmps) = true:=fun a=>by simp [Region.wanted,g2]
   have hi0:(#[o1,o2]:Array Oper)[0]? = some o1:=rfl
   have hi1:(#[o1,o2]:Array Oper)[1]? = some o2:=rfl
   unfold wpOps
   rw [hi0]
   simp only [hw1,if_true]
   refine .inl ?_
   unfold Oper.wp
   have hev:a'.eval (.tmp it) = .pointer (some ⟨w.heap.size,0,none⟩):=hl.slot
   have hx1:execOp a'.eval o1 = (do pure (.value (← Instr.next (a'.eval (.tmp it)) false o1.type))):=by simp only [execOp,ho1]
   have ext:∀ (a2:Act) (w2:World) (l:Array Value) (bb:Bool),a2.tmps.getD d1 undef = .tuple l→l[0]? = some (.bool bb)→(execOp a2.eval o2).run P w2 = .ok (.value (.bool bb)) w2:=by
    intro a2 w2 l bb h1 h2
    have h1:a2.eval (.tmp d1) = .tuple l:=h1
    simp only [execOp,ho2,h1]
    simp [Instr.extract,h2]
   rw [hx1,Sem.run_bind,hev]
   rcases run_next_at (P:=P) w' o1.type w.heap.size p.r clock clock seen es clock hl.iter hrow' hborn (Nat.le_refl _) with ⟨-,hn⟩ | ⟨en,hen,w2,hw2',hn⟩
   · -- nothing is left
    rw [hn]
    show wpOps P #[o1,o2] _ [1] (a'.put o1.dst _) w'
    rw [e1]
    unfold wpOps
    rw [hi1]
    simp only [hw2,if_true]
    refine .inl ?_
    unfold Oper.wp
    have hsz1:d1 < a'.tmps.size:=Nat.lt_of_lt_of_le hd1 hl.sz
    rw [ext _ w' #[.bool false] false (by rw [put_tmps d1 _ hsz1,if_pos rfl]) rfl]
    show (Code.seq (.cond (.tmp c) .skip (.exit B)) (.block C body)).wp P _ ((a'.put (some d1) (.tuple #[.bool false])).put o2.dst (.bool false)) w'
    rw [e2]
    have hsz2:c < (a'.put (some d1) (.tuple #[.bool false])).tmps.size:=by simpa [Act.put] using Nat.lt_of_lt_of_le hc hl.sz
    have hlast:LI W n it w a p.r clock seen ((a'.put (some d1) (.tuple #[.bool false])).put (some c) (.bool false)) w':=by
     refine ⟨hl.iter,hl.old,hl.size,hl.tape,hl.os,hl.output,by simpa [Act.put] using hl.sz,hl.df,?_,?_⟩
     ·rw [put_tmps c _ hsz2,if_neg (Ne.symm hne2),put_tmps d1 _ hsz1,if_neg (Ne.symm hne1)]; exact hl.slot
     ·exact (hl.keep.put (fun x hx=>by obtain rfl:=Option.some.inj hx; exact h1W)).put (fun x hx=>by obtain rfl:=Option.some.inj hx; exact hcW)
    refine wp_seq (wp_cond_false ?_ (wp_exit ?_))
    ·show ((a'.put (some d1) (.tuple #[.bool false])).put (some c) (.bool false)).tmps.getD c undef = .bool false
     rw [put_tmps c _ hsz2,if_pos rfl]
    ·show Exit.inBlock B Q (.exit B) _ w'
     unfold Exit.inBlock
     simp only [if_true]
     exact hQ ρ h w' (ers W env) _ (hlast.st hs) hR
   · -- one is left
    rw [hn]
    show wpOps P #[o1,o2] _ [1] (a'.put o1.dst _) _
    rw [e1]
    unfold wpOps
    rw [hi1]
    simp only [hw2,if_true]
    refine .inl ?_
    unfold Oper.wp
    obtain ⟨hmem,hseen⟩:=mem_left hen
    have hsz1:d1 < a'.tmps.size:=Nat.lt_of_lt_of_le hd1 hl.sz
    rw [ext _ _ #[.bool true,en.key,en.val] true (by rw [put_tmps d1 _ hsz1,if_pos rfl]) rfl]
    show (Code.seq (.cond (.tmp c) .skip (.exit B)) (.block C body)).wp P _ ((a'.put (some d1) (.tuple #[.bool true,en.key,en.val])).put o2.dst (.bool true)) _
    rw [e2]
    generalize hw3:setBlock w2 w.heap.size (.mapIter (some p.r) clock (seen.push en.born) clock) = w3
    show (Code.seq (.cond (.tmp c) .skip (.exit B)) (.block C body)).wp P _ _ w3
    have hsz2:c < (a'.put (some d1) (.tuple #[.bool true,en.key,en.val])).tmps.size:=by simpa [Act.put] using Nat.lt_of_lt_of_le hc hl.sz
    have hheap:w2.heap = w'.heap∧w2.tape = w'.tape∧w2.os = w'.os∧w2.output = w'.output:=by rcases hw2' with rfl | rfl <;> exact ⟨rfl,rfl,rfl,rfl⟩
    have hset:w3.heap = w'.heap.setIfInBounds w.heap.size (.mapIter (some p.r) clock (seen.push en.born) clock):=by rw [← hw3]; show w2.heap.setIfInBounds _ _ = _; rw [hheap.1]
    have hmid:LI W n it w a p.r clock (seen.push en.born) ((a'.put (some d1) (.tuple #[.bool true,en.key,en.val])).put (some c) (.bool true)) w3:=by
     refine ⟨?_,fun i hi=>?_,by rw [hset]; simpa using hl.size,by rw [← hw3]; exact hheap.2.1.trans hl.tape,by rw [← hw3]; exact hheap.2.2.1.trans hl.os,by rw [← hw3]; exact hheap.2.2.2.trans hl.output,by simpa [Act.put] using hl.sz,hl.df,?_,?_⟩
     ·rw [hset,Array.getElem?_setIfInBounds,if_pos rfl,if_pos (by rw [hl.size]; omega)]
     ·rw [hset,Array.getElem?_setIfInBounds,if_neg (by omega)]; exact hl.old i hi
     ·rw [put_tmps c _ hsz2,if_neg (Ne.symm hne2),put_tmps d1 _ hsz1,if_neg (Ne.symm hne1)]; exact hl.slot
     ·exact (hl.keep.put (fun x hx=>by obtain rfl:=Option.some.inj hx; exact h1W)).put (fun x hx=>by obtain rfl:=Option.some.inj hx; exact hcW)
    have hst:a'.put (some d1) (.tuple #[.bool true,en.key,en.val]) = a'.put (some d1) (.tuple #[.bool true,en.key,en.val]):=rfl
    have hct:((a'.put (some d1) (.tuple #[.bool true,en.key,en.val])).put (some c) (.bool true)).eval (.tmp c) = .bool true:=by
     show ((a'.put (some d1) (.tuple #[.bool true,en.key,en.val])).put (some c) (.bool true)).tmps.getD c undef = .bool true
     rw [put_tmps c _ hsz2,if_pos rfl]
    generalize (a'.put (some d1) (.tuple #[.bool true,en.key,en.val])).put (some c) (.bool true) = a3 at hmid hct ⊢
    refine wp_seq (wp_cond_true hct (wp_skip ?_))
    show (Code.block C body).wp P _ a3 w3
    obtain ⟨vx,vv,vs,hh,k1,k2,k3⟩:=hall en hmem
    have hrow3:w3.heap[p.r]? = some (.map es clock):=by rw [hmid.old _ hlt]; exact hrow
    have hentry:=run_entry_at (P:=P) w3 w.heap.size p.r clock seen es clock en hmid.iter hrow3 hmem hnd
    have hcur:VR ρ (.tup (.cons vx (.cons vv .nil))) (.tuple #[en.key,en.val]):=⟨_,rfl,_,_,rfl,k1,_,_,rfl,k2,rfl⟩
    have hst3:=hmid.st hs
    have hst4:St N0 n ρ h w3 ρ h w3 (ers W env) a3:=⟨hst3.inv,Tr.refl ρ h w3,hst3.er,hst3.sz,hst3.df⟩
    have hden:=denR_sound (P:=P) (γ:=γ) (N0:=N0) (n:=n) (h:=h) (a0:=a3) (it:=it) (W:=wrs body) (k:=fun _=>.norm [] h) (r:=.norm vs hh) (by simp) hcur hentry hmid.slot hitbody body (ers W env) a3 (fun d hd=>hd) hst4 (fun t _=>rfl) k3
    refine wp_block (wp_mono hden fun ex a4 w4 hp=>?_)
    obtain ⟨rfl,rfl,hk4,env',hs5,-⟩:=hp
    show Code.rounds P _ _ m a4 w4
    refine ihm (seen.push en.born) a4 w4 (by have:=left_shrinks es seen en hen; omega) ⟨hmid.iter,hmid.old,hmid.size,hmid.tape,hmid.os,hmid.output,hs5.sz,hs5.df,?_,fun t htW=>?_⟩
    ·rw [hk4 it hitbody]; exact hmid.slot
    ·rw [hk4 t fun hm=>htW (hbW t hm)]; exact hmid.keep t htW
 exact key _ #[] a1 w1 (Nat.lt_succ_self _) start
end
end Go.AM
namespace Go.AM
open Go
open Go.ChangeMaps (setBlock)
set_option autoImplicit false
theorem R_back {ρ ρ':Rho} (he:Ext ρ ρ') (x:AV):(∀ V0 V,(R ρ x).1 V0→(R ρ' x).1 V→(R ρ x).1 V)∧(∀ l0 l,(R ρ x).2 l0→(R ρ' x).2 l→(R ρ x).2 l):=by
 have pl:∀ b p q,ρ b = some p→ρ' b = some q→ρ b = some q:=fun b p q h h'=>by
  have:=he _ _ h
  rw [this] at h'
  rw [h,← h']
 induction x with
 | ptr b o=>exact ⟨fun V0 V ⟨p,hp,_⟩ ⟨q,hq,hv⟩=>⟨q,pl _ _ _ hp hq,hv⟩,fun _ _ _ h=>h⟩
 | sl b o n z c=>exact ⟨fun V0 V ⟨p,_,hp,_⟩ ⟨q,c',hq,hv⟩=>⟨q,c',pl _ _ _ hp hq,hv⟩,fun _ _ _ h=>h⟩
 | map b=>exact ⟨fun V0 V ⟨p,hp,_⟩ ⟨q,hq,hv⟩=>⟨q,pl _ _ _ hp hq,hv⟩,fun _ _ _ h=>h⟩
 | ifc t v ih=>exact ⟨fun V0 V ⟨W0,_,h0⟩ ⟨W,hw,hv⟩=>⟨W,hw,ih.1 _ _ h0 hv⟩,fun _ _ _ h=>h⟩
 | fn f a b iha ihb=>exact ⟨fun V0 V ⟨l0,m0,_,g1,g2⟩ ⟨l,m,hv,h1,h2⟩=>⟨l,m,hv,iha.2 _ _ g1 h1,ihb.2 _ _ g2 h2⟩,fun _ _ _ h=>h⟩
 | agg v ih=>exact ⟨fun V0 V ⟨l0,_,h0⟩ ⟨l,hv,h1⟩=>⟨l,hv,ih.2 _ _ h0 h1⟩,fun _ _ _ h=>h⟩
 | tup v ih=>exact ⟨fun V0 V ⟨l0,_,h0⟩ ⟨l,hv,h1⟩=>⟨l,hv,ih.2 _ _ h0 h1⟩,fun _ _ _ h=>h⟩
 | cons h t ihh iht=>exact ⟨fun _ _ _ h=>h,fun l0 l ⟨V0,m0,_,g1,g2⟩ ⟨V,l',hl,h1,h2⟩=>⟨V,l',hl,ihh.1 _ _ g1 h1,iht.2 _ _ g2 h2⟩⟩
 | _=>exact ⟨fun _ _ _ h=>h,fun _ _ _ h=>h⟩
theorem VR.back {ρ ρ':Rho} (he:Ext ρ ρ') {x:AV} {V0 V:Value} (h0:VR ρ x V0) (h:VR ρ' x V):VR ρ x V:=(R_back he x).1 V0 V h0 h
theorem isU_inv {x:AV} (h:isU x = true):x = .unk:=by
 cases x <;> first | rfl | exact Bool.noConfusion (show false = true from h)
theorem sameV_inv (f g:Nat→AV):∀ (l:List Nat),sameV (l.map f) (l.map g) = true→∀ t∈l,f t = .unk∨f t = g t:=by
 intro l
 induction l with
 | nil=>intro _ t ht; cases ht
 | cons d l ih=>
  intro e t ht
  have e:Bool.rec (motive:=fun _=>Bool) (Bool.rec (motive:=fun _=>Bool) false (sameV (l.map f) (l.map g)) (eqAV (f d) (g d))) (sameV (l.map f) (l.map g)) (isU (f d)) = true:=e
  have key:(f d = .unk∨f d = g d)∧sameV (l.map f) (l.map g) = true:=by
   cases hu:isU (f d) with
   | true=>rw [hu] at e; exact ⟨.inl (isU_inv hu),e⟩
   | false=>
    rw [hu] at e
    cases hq:eqAV (f d) (g d) with
    | true=>rw [hq] at e; exact ⟨.inr (eqAV_eq _ _ hq),e⟩
    | false=>rw [hq] at e; exact Bool.noConfusion (show false = true from e)
  rcases List.mem_cons.1 ht with rfl | ht
  ·exact key.1
  ·exact ih key.2 t ht
theorem any_mem {l:List Nat} {t:Nat}:l.any (Nat.beq t) = true ↔ t∈l:=by
 rw [List.any_eq_true]
 constructor
 ·rintro ⟨x,hx,h⟩
  rw [beq_iff] at h; subst h; exact hx
 ·intro h; exact ⟨t,h,by rw [beq_iff]⟩
theorem rst_eq (l:List Nat) (env:Env) (t:Nat):rst l env t = if t∈l then env t else .unk:=by
 have he:rst l env t = Bool.rec (motive:=fun _=>AV) .unk (env t) (l.any (Nat.beq t)):=rfl
 by_cases h:t∈l
 ·rw [he,any_mem.2 h,if_pos h]
 ·have hb:l.any (Nat.beq t) = false:=by rw [Bool.eq_false_iff,ne_eq,any_mem]; exact h
  rw [he,hb,if_neg h]
theorem ers_eq (l:List Nat) (env:Env) (t:Nat):ers l env t = if t∈l then .unk else env t:=by
 have he:ers l env t = Bool.rec (motive:=fun _=>AV) (env t) .unk (l.any (Nat.beq t)):=rfl
 by_cases h:t∈l
 ·rw [he,any_mem.2 h,if_pos h]
 ·have hb:l.any (Nat.beq t) = false:=by rw [Bool.eq_false_iff,ne_eq,any_mem]; exact h
  rw [he,hb,if_neg h]
theorem upd_eq' (env:Env) (d t:Nat) (v:AV):upd env d v t = if t = d then v else env t:=by
 have he:upd env d v t = Bool.rec (motive:=fun _=>AV) (env t) v (Nat.beq t d):=rfl
 by_cases h:t = d
 ·rw [he,(beq_iff t d).2 h,if_pos h]
 ·have hb:Nat.beq t d = false:=by rw [Bool.eq_false_iff,ne_eq,beq_iff]; exact h
  rw [he,hb,if_neg h]
section
variable {P:Program} {γ:FuncId→Option Fun} {N0:Base} {n:Nat} {ρ0 ρ:Rho} {h0 h:Hp} {w0 w w':World} {r:Res} {env e0:Env} {a a0:Act} {it:Nat} {cur:AV} {W:List Nat} {Vi E:Value}
theorem un_less (f:Env):∀ (l:List Nat) {k:Env→Res},un l (l.map f) k = r→∃ env',k env' = r∧∀ t,env' t = f t∨env' t = .unk:=by
 intro l
 induction l with
 | nil=>intro k e; exact ⟨_,e,fun t=>.inr rfl⟩
 | cons d l ih=>
  intro k e
  have e:un l (l.map f) (fun env=>k (upd env d (f d))) = r:=e
  obtain ⟨env',h1,h2⟩:=ih e
  refine ⟨_,h1,fun t=>?_⟩
  rw [upd_eq']
  by_cases ht:t = d
  ·rw [if_pos ht,ht]; exact .inl rfl
  ·rw [if_neg ht]; exact h2 t
theorem ERel.lss {env':Env} (he:ERel ρ env a) (h:∀ t,env' t = env t∨env' t = .unk):ERel ρ env' a:=fun t=>by
 rcases h t with h | h
 ·rw [h]; exact he t
 ·rw [h]; exact trivial
theorem ro_inv (hi:Inv N0 ρ h w) (ho:∀ i,i < w.heap.size→w'.heap[i]? = w.heap[i]?) (hs:w.heap.size≤w'.heap.size) (p:Pl):Inv N0 (ups ρ h.nb p) (roH h) w':=by
 have hi:=hi.more ho hs
 have hf:ρ h.nb = none:=hi.free _ (Nat.le_refl _)
 have hext:=ups_ext p hf
 have ne:∀ b2 B2,h.bs.get b2 = some B2→b2 ≠ h.nb:=fun b2 B2 h2 e0=>by have:=hi.nb b2 B2 h2; omega
 have old:∀ b2 B2 p2,h.bs.get b2 = some B2→ups ρ h.nb p b2 = some p2→ρ b2 = some p2:=fun b2 B2 p2 h2 hp=>by
  rw [ups_ne _ _ (ne b2 B2 h2)] at hp; exact hp
 refine ⟨fun b2 B2 h2=>?_,fun b B hb=>Nat.lt_succ_of_lt (hi.nb b B hb),fun b B hb hf=>⟨Nat.lt_succ_of_lt (hi.gnb b B hb hf).1,(hi.gnb b B hb hf).2⟩,
  fun g q hq=>⟨Nat.lt_succ_of_lt (hi.gs g q hq).1,Nat.lt_succ_of_lt (hi.gs g q hq).2.1,(hi.gs g q hq).2.2⟩,
  fun b1 b2 B1 B2 p1 p2 h1 h2 f1 f2 e1 e2 er=>hi.als b1 b2 B1 B2 p1 p2 h1 h2 f1 f2 (old _ _ _ h1 e1) (old _ _ _ h2 e2) er,
  fun b1 b2 B1 B2 p1 p2 h1 h2 f1 f2 e1 e2 eg r1 r2 hle=>hi.lim b1 b2 B1 B2 p1 p2 h1 h2 f1 f2 (old _ _ _ h1 e1) (old _ _ _ h2 e2) eg r1 r2 hle,
  fun i hle=>?_,hi.wsz,hi.mp.later hext (Nat.le_succ _) (fun _ _ _ _=>rfl),hi.jj⟩
 ·obtain ⟨p2,hp2,hB⟩:=hi.blk b2 B2 h2
  exact ⟨p2,by rw [ups_ne _ _ (ne b2 B2 h2)]; exact hp2,hB.later hext rfl (fun hrd=>hrd)⟩
 ·have hle:h.nb + 1≤i:=hle
  rw [ups_ne _ _ (by omega)]; exact hi.free i (by omega)
theorem ro_old (hi:Inv N0 ρ h w) {p:Pl} {ρ':Rho} {h':Hp} {w1 w2:World} (ht:Tr (ups ρ h.nb p) (roH h) w1 ρ' h' w2):∀ i,i < w1.heap.size→w2.heap[i]? = w1.heap[i]?:=fun i hlt=>
 ht.frame i hlt (fun b B q hb hf _=>by have:=hi.nb b B hb; have:=hf.2; have:h.nb + 1≤b:=this; omega) (fun b m q hb hl _=>by have:=(hi.mp.ent b m hb).1; have hl:h.nb + 1≤b:=hl; omega)
structure LW (ρ1:Rho) (e1:Env) (n:Nat) (w:World) (bm clock:Nat) (seen:Array Nat) (a':Act) (w':World):Prop where
 iter:w'.heap[w.heap.size]? = some (.mapIter (some bm) clock seen clock)
 old:∀ i,i < w.heap.size→w'.heap[i]? = w.heap[i]?
 size:w.heap.size < w'.heap.size
 tape:w'.tape = w.tape
 os:w'.os = w.os
 output:w'.output = w.output
 sz:n≤a'.tmps.size
 df:a'.defers = []
 er:ERel ρ1 e1 a'
theorem ERel.put_unk {ρ1:Rho} {e1:Env} {a':Act} {d:Nat} {V:Value} (he:ERel ρ1 e1 a') (hd:e1 d = .unk) (hlt:d < a'.tmps.size):ERel ρ1 e1 (a'.put (some d) V):=fun t=>by
 rw [put_tmps d V hlt]
 by_cases ht:t = d
 ·rw [ht,hd]; exact trivial
 ·rw [if_neg ht]; exact he t
theorem dRw_sound (hγ:GSound P γ∧N0.fits P) {x y:Code} {lb:List Nat} {D:Env→Hp→(Env→Hp→Res)→Res} {k:Env→Hp→Res} {Q:Exit→Act→World→Prop} (hr:Fine r) (hs:St N0 n ρ0 h0 w0 ρ h w env a)
  (hD:∀ B R2 CC C R3 rest,y = .block B (.loop (.seq R2 (.seq CC (.block C (.seq R3 rest)))))→∀ (ρ:Rho) (h:Hp) (w:World) (env:Env) (a:Act) (k:Env→Hp→Res) (r:Res),Fine r→St N0 n ρ h w ρ h w env a→Sm (D env h k) r →
   rest.wp P (fun ex a' w'=>(ex = .normal∧∃ ρ' h' env',St N0 n ρ h w ρ' h' w' env' a'∧Sm (k env' h') r)∨(∀ vs hh,now r ≠ .norm vs hh)) a w)
  (e:dRw P γ n x y lb D env h k = r)
  (hQ:∀ ρ h w env a,St N0 n ρ0 h0 w0 ρ h w env a→Sm (k env h) r→Q .normal a w):(Code.seq x y).wp P Q a w:=by
 unfold dRw at e
 split at e
 rotate_left
 ·exact absurd e.symm hr.nf
 rename_i id0 ops
 split at e
 rotate_left
 ·exact absurd e.symm hr.nf
 rename_i B id2 ops2 c B2 C id3 ops3 rest
 have hD2:=hD _ _ _ _ _ _ rfl
 clear hD
 split at e
 rotate_left
 ·exact absurd e.symm hr.nf
 rename_i o hlast
 split at e
 rotate_left
 ·exact absurd e.symm hr.nf
 rename_i q hq
 split at e
 rotate_left
 ·exact absurd e.symm hr.nf
 rename_i o1 o2 hops2
 obtain ⟨hck,e2⟩:=sif_inv e hr
 clear e
 have e:=e2
 clear e2
 simp only [Bool.and_eq_true,beq_iff,blt_iff] at hck
 obtain ⟨hhead,hB,hitn,hmt,hit3⟩:=hck
 subst hB
 obtain ⟨x,it,t⟩:=q
 obtain ⟨hg,hdst,hop⟩:=rngOf_inv hq
 simp only at hhead hitn hmt hit3 hdst hop e
 have hitW:it ∉ ops3.toList.filterMap (·.dst):=fun hm=>by
  rw [any_mem.2 hm] at hit3; cases hit3
 obtain ⟨d1,g1,g2,e1,e2,ho1,ho2,hd1,hc,hne1,hne2⟩:=headOk_inv hhead
 obtain ⟨kt,et,ht⟩:=isMapT_inv hmt
 obtain ⟨init,hl⟩:=List.getLast?_eq_some_iff.1 hlast
 have hinit:ops.toList.dropLast = init:=by rw [hl,List.dropLast_concat]
 rw [hinit] at e
 have hdsts:ops2.toList.filterMap (·.dst) = [d1,c]:=by rw [hops2]; simp [e1,e2]
 rw [hdsts] at e
 refine wp_seq (wp_region ?_)
 have hsize:ops.size = init.length + [o].length:=by rw [← Array.length_toList,hl,List.length_append]
 rw [hsize,List.range_eq_range']
 refine dOps_pre (tail:=[o]) (j0:=init.length) hγ hr ?_ init 0 ρ h w env a (by rw [List.drop_zero]; exact hl) (by omega) hs (.eq e)
 clear hs e
 intro ρ h w env a hs e
 obtain ⟨b,hx,ee⟩:=cMap_inv rfl (e.nf hr)
 replace e:=Sm.of ee e
 clear ee
 cases hg1:h.ms.get b with
 | none=>rw [hg1] at e; exact absurd rfl (e.nf hr)
 | some m=>
 rw [hg1] at e
 obtain ⟨e0,ee,hless⟩:=un_less env lb (Eq.refl _)
 replace e:=Sm.of ee e
 clear ee
 generalize hEA:ers [it,d1,c] (rst lb e0) = eA at e
 generalize hER:upd eA it (.ptr h.nb 0) = eR at e
 have hsub:∀ t,eA t = env t∨eA t = .unk:=fun t=>by
  rw [← hEA,ers_eq,rst_eq]
  split
  ·exact .inr rfl
  ·split
   ·exact hless t
   ·exact .inr rfl
 have hAu:∀ t,t ∉ lb→eA t = .unk:=fun t ht=>by
  rw [← hEA,ers_eq,rst_eq,if_neg ht]
  split <;> rfl
 have hAd:∀ t,t = it∨t = d1∨t = c→eA t = .unk:=fun t ht=>by
  rw [← hEA,ers_eq,if_pos (by simpa using ht)]
 have hRt:∀ t,eR t = if t = it then .ptr h.nb 0 else eA t:=fun t=>by rw [← hER,upd_eq']
 have hRit:eR it = .ptr h.nb 0:=by rw [hRt,if_pos rfl]
 have hX:=ev_rel hs.er x
 rw [hx] at hX
 obtain ⟨p,hp,hX⟩:=hX
 obtain ⟨-,p2,ob,hp2,-,hrow,hmr⟩:=hs.inv.mp.ent b m hg1
 obtain rfl:p = p2:=by rw [hp] at hp2; exact Option.some.inj hp2
 obtain ⟨es,clock,rfl⟩:∃ es c,ob = .map es c:=by
  cases ob <;> first
   | exact hmr.elim
   | exact ⟨_,_,rfl⟩
   | skip
  obtain ⟨-,rfl⟩:=hmr
  exact absurd rfl (e.nf hr)
 obtain ⟨hel,hborn,hnd⟩:=hmr
 obtain ⟨hR,hall⟩:=allE_inv hr m es.toList hel e
 have hlt:p.r < w.heap.size:=(Array.getElem?_eq_some_iff.1 hrow).1
 generalize hρ1:ups ρ h.nb ⟨w.heap.size,0,0,0⟩ = ρ1
 have hfree:ρ h.nb = none:=hs.inv.free _ (Nat.le_refl _)
 have hext:Ext ρ ρ1:=hρ1 ▸ ups_ext _ hfree
 have hρit:ρ1 h.nb = some ⟨w.heap.size,0,0,0⟩:=by rw [← hρ1,ups_same]
  -- what is behind the loop
 have fin:∀ {seen:Array Nat} {a':Act} {w':World},LW ρ1 eR n w p.r clock seen a' w'→St N0 n ρ0 h0 w0 ρ h w' eA a':=fun {seen a' w'} hl=>by
  refine ⟨hs.inv.more hl.old (Nat.le_of_lt hl.size),hs.tr.more hl.old (Nat.le_of_lt hl.size) hl.tape hl.os hl.output,fun t=>?_,hl.sz,hl.df⟩
  by_cases hti:t = it
  ·rw [hAd t (.inl hti)]; exact trivial
  ·have h1:=hl.er t
   rw [hRt,if_neg hti] at h1
   rcases hsub t with h2 | h2
   ·have h3:=hs.er t
    rw [← h2] at h3
    exact VR.back hext h3 h1
   ·rw [h2]; exact trivial
 show wpOps P ops _ [init.length] a w
 unfold wpOps
 have hoi:ops[init.length]? = some o:=by rw [← Array.getElem?_toList,hl]; simp
 rw [hoi]
 have hw:Region.wanted o (yielded ops a.tmps) = true:=by simp [Region.wanted,hg]
 simp only [hw,if_true]
 refine .inl ?_
 unfold Oper.wp
 have hrun:(execOp a.eval o).run P w = .ok (.value (.pointer (some ⟨w.heap.size,0,none⟩))) (w.alloc (.mapIter (some p.r) clock #[] clock)):=by
  simp only [execOp,hop,hX]
  rw [Sem.run_bind,run_range_map w t kt et p.r es clock ht hrow]; rfl
 rw [hrun]
 show (Code.block B _).wp P Q (a.put o.dst _) _
 rw [hdst]
 have hha:∀ o:Obj,(w.alloc o).heap = w.heap.push o:=fun _=>rfl
 have start:LW ρ1 eR n w p.r clock #[] (a.put (some it) (.pointer (some ⟨w.heap.size,0,none⟩))) (w.alloc (.mapIter (some p.r) clock #[] clock)):=by
  refine ⟨by rw [hha]; simp,fun i hi=>by rw [hha,Array.getElem?_push,if_neg (by omega)],by rw [hha]; simp,rfl,rfl,rfl,by simpa [Act.put] using hs.sz,hs.df,fun t=>?_⟩
  rw [put_tmps it _ (Nat.lt_of_lt_of_le hitn hs.sz),hRt]
  by_cases hti:t = it
  ·rw [if_pos hti,if_pos hti]; exact ⟨_,hρit,rfl⟩
  ·rw [if_neg hti,if_neg hti]
   rcases hsub t with h2 | h2
   ·rw [h2]; exact (hs.er t).ext hext
   ·rw [h2]; exact trivial
 generalize a.put (some it) (.pointer (some ⟨w.heap.size,0,none⟩)) = a1 at start ⊢
 generalize w.alloc (.mapIter (some p.r) clock #[] clock) = w1 at start ⊢
 refine wp_block (wp_loop_rounds ((leftOf es #[]).size + 1) ?_)
 obtain rfl:ops2 = #[o1,o2]:=Array.toList_inj.1 (by rw [hops2])
 have key:∀ (m:Nat) (seen:Array Nat) (a':Act) (w':World),(leftOf es seen).size < m→LW ρ1 eR n w p.r clock seen a' w' →
   Code.rounds P (.seq (.region id2 #[o1,o2] false) (.seq (.cond (.tmp c) .skip (.exit B)) (.block C (.seq (.region id3 ops3 false) rest)))) (Exit.inBlock B Q) m a' w':=by
  intro m
  induction m with
  | zero=>intro seen a' w' h; omega
  | succ m ihm=>
   intro seen a' w' hm hl
   rw [rounds_succ]
   have hrow':w'.heap[p.r]? = some (.map es clock):=by rw [hl.old _ hlt]; exact hrow
   refine wp_seq (wp_region ?_)
   show wpOps P #[o1,o2] _ [0,1] a' w'
   have hw1:∀ a:Act,Region.wanted o1 (yielded #[o1,o2] a.tmps) = true:=fun a=>by simp [Region.wanted,g1]
   have hw2:∀ a:Act,Region.wanted o2 (yielded #[o1,o2] a.tmps) = true:=fun a=>by simp [Region.wanted,g2]
   have hi0:(#[o1,o2]:Array Oper)[0]? = some o1:=rfl
   have hi1:(#[o1,o2]:Array Oper)[1]? = some o2:=rfl
   unfold wpOps
   rw [hi0]
   simp only [hw1,if_true]
   refine .inl ?_
   unfold Oper.wp
   have hslot:∀ {a':Act},ERel ρ1 eR a'→a'.tmps.getD it undef = .pointer (some ⟨w.heap.size,0,none⟩):=fun {a'} he=>by
    have h1:=he it
    rw [hRit] at h1
    obtain ⟨q,hq1,hq2⟩:=h1
    rw [hρit] at hq1
    obtain rfl:=Option.some.inj hq1
    exact hq2
   have hev:a'.eval (.tmp it) = .pointer (some ⟨w.heap.size,0,none⟩):=hslot hl.er
   have hx1:execOp a'.eval o1 = (do pure (.value (← Instr.next (a'.eval (.tmp it)) false o1.type))):=by simp only [execOp,ho1]
   have ext:∀ (a2:Act) (w2:World) (l:Array Value) (bb:Bool),a2.tmps.getD d1 undef = .tuple l→l[0]? = some (.bool bb)→(execOp a2.eval o2).run P w2 = .ok (.value (.bool bb)) w2:=by
    intro a2 w2 l bb h1 h2
    have h1:a2.eval (.tmp d1) = .tuple l:=h1
    simp only [execOp,ho2,h1]
    simp [Instr.extract,h2]
   rw [hx1,Sem.run_bind,hev]
   have hRd1:eR d1 = .unk:=by rw [hRt,if_neg hne1]; exact hAd d1 (.inr (.inl rfl))
   have hRc:eR c = .unk:=by rw [hRt,if_neg hne2]; exact hAd c (.inr (.inr rfl))
   have hsz1:d1 < a'.tmps.size:=Nat.lt_of_lt_of_le hd1 hl.sz
   rcases run_next_at (P:=P) w' o1.type w.heap.size p.r clock clock seen es clock hl.iter hrow' hborn (Nat.le_refl _) with ⟨-,hn⟩ | ⟨en,hen,w2,hw2',hn⟩
   · -- nothing is left
    rw [hn]
    show wpOps P #[o1,o2] _ [1] (a'.put o1.dst _) w'
    rw [e1]
    unfold wpOps
    rw [hi1]
    simp only [hw2,if_true]
    refine .inl ?_
    unfold Oper.wp
    rw [ext _ w' #[.bool false] false (by rw [put_tmps d1 _ hsz1,if_pos rfl]) rfl]
    show (Code.seq (.cond (.tmp c) .skip (.exit B)) (.block C (.seq (.region id3 ops3 false) rest))).wp P _ ((a'.put (some d1) (.tuple #[.bool false])).put o2.dst (.bool false)) w'
    rw [e2]
    have hsz2:c < (a'.put (some d1) (.tuple #[.bool false])).tmps.size:=by simpa [Act.put] using Nat.lt_of_lt_of_le hc hl.sz
    have hlast:LW ρ1 eR n w p.r clock seen ((a'.put (some d1) (.tuple #[.bool false])).put (some c) (.bool false)) w':=
     ⟨hl.iter,hl.old,hl.size,hl.tape,hl.os,hl.output,by simpa [Act.put] using hl.sz,hl.df,(hl.er.put_unk hRd1 hsz1).put_unk hRc hsz2⟩
    refine wp_seq (wp_cond_false ?_ (wp_exit ?_))
    ·show ((a'.put (some d1) (.tuple #[.bool false])).put (some c) (.bool false)).tmps.getD c undef = .bool false
     rw [put_tmps c _ hsz2,if_pos rfl]
    ·show Exit.inBlock B Q (.exit B) _ w'
     unfold Exit.inBlock
     simp only [if_true]
     exact hQ ρ h w' eA _ (fin hlast) hR
   · -- one is left
    rw [hn]
    show wpOps P #[o1,o2] _ [1] (a'.put o1.dst _) _
    rw [e1]
    unfold wpOps
    rw [hi1]
    simp only [hw2,if_true]
    refine .inl ?_
    unfold Oper.wp
    obtain ⟨hmem,hseen⟩:=mem_left hen
    rw [ext _ _ #[.bool true,en.key,en.val] true (by rw [put_tmps d1 _ hsz1,if_pos rfl]) rfl]
    show (Code.seq (.cond (.tmp c) .skip (.exit B)) (.block C (.seq (.region id3 ops3 false) rest))).wp P _ ((a'.put (some d1) (.tuple #[.bool true,en.key,en.val])).put o2.dst (.bool true)) _
    rw [e2]
    generalize hw3:setBlock w2 w.heap.size (.mapIter (some p.r) clock (seen.push en.born) clock) = w3
    show (Code.seq (.cond (.tmp c) .skip (.exit B)) (.block C (.seq (.region id3 ops3 false) rest))).wp P _ _ w3
    have hsz2:c < (a'.put (some d1) (.tuple #[.bool true,en.key,en.val])).tmps.size:=by simpa [Act.put] using Nat.lt_of_lt_of_le hc hl.sz
    have hheap:w2.heap = w'.heap∧w2.tape = w'.tape∧w2.os = w'.os∧w2.output = w'.output:=by rcases hw2' with rfl | rfl <;> exact ⟨rfl,rfl,rfl,rfl⟩
    have hset:w3.heap = w'.heap.setIfInBounds w.heap.size (.mapIter (some p.r) clock (seen.push en.born) clock):=by rw [← hw3]; show w2.heap.setIfInBounds _ _ = _; rw [hheap.1]
    have hmid:LW ρ1 eR n w p.r clock (seen.push en.born) ((a'.put (some d1) (.tuple #[.bool true,en.key,en.val])).put (some c) (.bool true)) w3:=by
     refine ⟨?_,fun i hi=>?_,by rw [hset]; simpa using hl.size,by rw [← hw3]; exact hheap.2.1.trans hl.tape,by rw [← hw3]; exact hheap.2.2.1.trans hl.os,by rw [← hw3]; exact hheap.2.2.2.trans hl.output,by simpa [Act.put] using hl.sz,hl.df,(hl.er.put_unk hRd1 hsz1).put_unk hRc hsz2⟩
     ·rw [hset,Array.getElem?_setIfInBounds,if_pos rfl,if_pos hl.size]
     ·rw [hset,Array.getElem?_setIfInBounds,if_neg (by omega)]; exact hl.old i hi
    have hct:((a'.put (some d1) (.tuple #[.bool true,en.key,en.val])).put (some c) (.bool true)).eval (.tmp c) = .bool true:=by
     show ((a'.put (some d1) (.tuple #[.bool true,en.key,en.val])).put (some c) (.bool true)).tmps.getD c undef = .bool true
     rw [put_tmps c _ hsz2,if_pos rfl]
    generalize (a'.put (some d1) (.tuple #[.bool true,en.key,en.val])).put (some c) (.bool true) = a3 at hmid hct ⊢
    refine wp_seq (wp_cond_true hct (wp_skip ?_))
    show (Code.block C (.seq (.region id3 ops3 false) rest)).wp P _ a3 w3
    obtain ⟨vx,vv,vs,hh,k1,k2,k3⟩:=hall en hmem
    have hrow3:w3.heap[p.r]? = some (.map es clock):=by rw [hmid.old _ hlt]; exact hrow
    have hentry:=run_entry_at (P:=P) w3 w.heap.size p.r clock seen es clock en hmid.iter hrow3 hmem hnd
    have hcur:VR ρ1 (.tup (.cons vx (.cons vv .nil))) (.tuple #[en.key,en.val]):=⟨_,rfl,_,_,rfl,k1.ext hext,_,_,rfl,k2.ext hext,rfl⟩
    have hinv3:Inv N0 ρ1 (roH h) w3:=hρ1 ▸ ro_inv hs.inv hmid.old (Nat.le_of_lt hmid.size) _
    have hst4:St N0 n ρ1 (roH h) w3 ρ1 (roH h) w3 eR a3:=⟨hinv3,Tr.refl ρ1 (roH h) w3,hmid.er,hmid.sz,hmid.df⟩
    refine wp_block (wp_seq (wp_region ?_))
    rw [← Array.length_toList,List.range_eq_range']
    refine dOpsR_sound (P:=P) (γ:=γ) (a0:=a3) (it:=it) (W:=ops3.toList.filterMap (·.dst)) (r:=.norm vs hh)
     (k:=fun e2=>D e2 (roH h) fun e3 _=>ifB (sameV ((it :: lb).map eR) ((it :: lb).map e3)) (.norm [] h) .fail)
     (by simp) hcur hentry (hslot hmid.er) hitW (fun env a hs4 _ e4=>?_) ops3.toList 0 eR a3 rfl
     (fun o ho d hd=>List.mem_filterMap.2 ⟨o,ho,hd⟩) hst4 (fun t _=>rfl) k3
    refine wp_mono (hD2 ρ1 (roH h) w3 env a _ (.norm vs hh) (by simp) hs4 e4) fun ex a4 w4 hp=>?_
    rcases hp with ⟨rfl,ρ',h',env',hs5,e5⟩ | hp
    rotate_left
    ·exact absurd rfl (hp vs hh)
    have e5:Sm (ifB (sameV ((it :: lb).map eR) ((it :: lb).map env')) (.norm [] h) .fail) (.norm vs hh):=e5
    obtain ⟨hsame,-⟩:=ifF_inv rfl (e5.nf (by simp))
    have hold:=ro_old hs.inv (hρ1 ▸ hs5.tr)
    show Code.rounds P _ _ m a4 w4
    refine ihm (seen.push en.born) a4 w4 (by have:=left_shrinks es seen en hen; omega) ⟨?_,fun i hi=>?_,Nat.lt_of_lt_of_le hmid.size hs5.tr.size,hs5.tr.tape.trans hmid.tape,hs5.tr.os.trans hmid.os,hs5.tr.output.trans hmid.output,hs5.sz,hs5.df,fun t=>?_⟩
    ·rw [hold _ hmid.size]; exact hmid.iter
    ·rw [hold _ (Nat.lt_trans hi hmid.size)]; exact hmid.old i hi
    ·by_cases htl:t∈it :: lb
     ·rcases sameV_inv eR env' _ hsame t htl with h1 | h1
      ·rw [h1]; exact trivial
      ·have h2:=hs5.er t
       rw [← h1] at h2
       exact VR.back hs5.tr.ext (hmid.er t) h2
     ·have h3:t ≠ it∧t ∉ lb:=by simpa using htl
      rw [hRt,if_neg h3.1,hAu t h3.2]; exact trivial
 exact key _ #[] a1 w1 (Nat.lt_succ_self _) start
end
end Go.AM
namespace Go.AM
open Go
set_option autoImplicit false
section
variable {P:Program} {N0:Base} {n:Nat} {ρ0 ρ:Rho} {h0 h:Hp} {w0 w:World} {r:Res} {env:Env} {a:Act}
theorem upd_eq (env:Env) (d t:Nat) (v:AV):upd env d v t = if t = d then v else env t:=by
 have hu:upd env d v t = Bool.rec (motive:=fun _=>AV) (env t) v (Nat.beq t d):=rfl
 rw [hu,recB]; simp only [beq_iff]
theorem un_map (f:Env):∀ (l:List Nat) {k:Env→Res},un l (l.map f) k = r→∃ env',k env' = r∧∀ t,env' t = f t∨env' t = .unk:=by
 intro l
 induction l with
 | nil=>intro k e; exact ⟨env0,e,fun t=>.inr rfl⟩
 | cons d l ih=>
  intro k e
  have e:un l (l.map f) (fun env=>k (upd env d (f d))) = r:=e
  obtain ⟨env',h1,h2⟩:=ih e
  refine ⟨_,h1,fun t=>?_⟩
  rw [upd_eq]
  by_cases ht:t = d
  ·rw [if_pos ht,ht]; exact .inl rfl
  ·rw [if_neg ht]; exact h2 t
theorem ERel.less {env':Env} (he:ERel ρ env a) (h:∀ t,env' t = env t∨env' t = .unk):ERel ρ env' a:=by
 intro t
 rcases h t with e | e
 ·rw [e]; exact he t
 ·rw [e]; exact trivial
theorem St.less {env':Env} (hs:St N0 n ρ0 h0 w0 ρ h w env a) (hl:∀ t,env' t = env t∨env' t = .unk):St N0 n ρ0 h0 w0 ρ h w env' a:=
 ⟨hs.inv,hs.tr,hs.er.less hl,hs.sz,hs.df⟩
def Post (P:Program) (fn:Func) (N0:Base) (n:Nat) (ρ0:Rho) (h0:Hp) (w0:World) (xs:List (Nat×List Nat)) (k:Env→Hp→Res) (r:Res):Exit→Act→World→Prop
 | .normal,a,w=>∃ ρ h env,St N0 n ρ0 h0 w0 ρ h w env a∧Sm (k env h) r
 | .exit id,a,w=>∃ ρ h env l,St N0 n ρ0 h0 w0 ρ h w env a∧xs.find? (fun p=>Nat.beq p.1 id) = some (id,l)∧now r = .exit id (l.map env) h
 | .ret,a,w=>∃ ρ h env,St N0 n ρ0 h0 w0 ρ h w env a∧Sm (rt P fn env h) r
 | _,_,_=>False
theorem exitL_inv:∀ (xs:List (Nat×List Nat)) {id:Nat} {k:List Nat→Res},exitL xs id k = r→r ≠ .fail→∃ l,xs.find? (fun p=>Nat.beq p.1 id) = some (id,l)∧k l = r:=by
 intro xs
 induction xs with
 | nil=>intro id k e hr; exact absurd e.symm hr
 | cons p xs ih=>
  intro id k e hr
  have e:ifB (Nat.beq p.1 id) (k p.2) (exitL xs id k) = r:=e
  rcases ifB_inv e with ⟨h1,h2⟩ | ⟨h1,h2⟩
  ·rw [List.find?_cons,h1]
   rw [beq_iff] at h1
   exact ⟨p.2,by rw [← h1],h2⟩
  ·rw [List.find?_cons,h1]
   exact ih h2 hr
theorem blk_inv {id:Nat} {r1:Res} {k:List AV→Hp→Res} (e:Sm (blk id r1 k) r) (hr:Fine r):
  Fine r1∧((∃ vs h,now r1 = .norm vs h∧Sm (k vs h) r)∨(∃ vs h,now r1 = .exit id vs h∧Sm (k vs h) r)∨(∃ i vs h,i ≠ id∧now r1 = .exit i vs h∧now r = .exit i vs h)∨(∃ v h,now r1 = .ret v h∧now r = .ret v h)):=by
 induction r1 with
 | fail=>exact absurd rfl (e.nf hr)
 | norm vs h=>exact ⟨by simp,.inl ⟨vs,h,rfl,e⟩⟩
 | exit i vs h=>
  refine ⟨by simp,.inr ?_⟩
  have e:Sm (ifB (Nat.beq i id) (k vs h) (.exit i vs h)) r:=e
  rcases ifB_inv (Eq.refl (ifB (Nat.beq i id) (k vs h) (.exit i vs h))) with ⟨h1,h2⟩ | ⟨h1,h2⟩
  ·have h3:=Sm.of h2 e
   rw [beq_iff] at h1; subst h1; exact .inl ⟨vs,h,rfl,h3⟩
  ·have h3:=Sm.of h2 e
   exact .inr (.inl ⟨i,vs,h,(fun he=>by rw [← beq_iff,h1] at he; cases he),rfl,h3.symm⟩)
 | ret v h=>exact ⟨by simp,.inr (.inr (.inr ⟨v,h,rfl,e.symm⟩))⟩
 | ask p q ih=>
  have e:now (.ask p (blk id q k)) = now r:=e
  obtain ⟨rfl,h2⟩:=now_ask (by rw [e]; exact hr.ok)
  obtain ⟨h3,h4⟩:=ih (h2.symm.trans e)
  exact ⟨⟨h3.ok⟩,h4⟩
theorem rt_not {fn:Func} (hr:rt P fn env h ≠ .fail):(∃ v h',rt P fn env h = .ret v h'):=by
 have key:∀ (l:List ResultVar) (k:List AV→Res),(∀ vs,k vs = .fail∨∃ v h',k vs = .ret v h')→rtV env h P l k = .fail∨∃ v h',rtV env h P l k = .ret v h':=by
  intro l
  induction l with
  | nil=>intro k hk; exact hk []
  | cons x l ih=>
   intro k hk
   cases x with
   | tmp t=>
    simp only [rtV]
    by_cases hf:cK (env t) (fun v=>rtV env h P l fun vs=>k (v :: vs)) = .fail
    ·exact .inl hf
    ·obtain ⟨h1,h2⟩:=cK_inv rfl hf
     rw [← h2]
     exact ih _ fun vs=>hk _
   | cell c t=>
    simp only [rtV]
    generalize hq:sif (okT P t) _ .fail = q
    by_cases hf:q = .fail
    ·exact .inl hf
    ·obtain ⟨h1,h2⟩:=sif_inv hq hf
     split at h2
     ·obtain ⟨b,o,-,h3⟩:=cP_inv h2 hf
      obtain ⟨B,-,-,h4⟩:=gb_inv h3 hf
      have rdl:∀ (m o:Nat) (kk:AV→Res),(∀ l,kk l = .fail∨∃ v h',kk l = .ret v h')→rds B m o kk = .fail∨∃ v h',rds B m o kk = .ret v h':=by
       intro m
       induction m with
       | zero=>intro o kk hkk; exact hkk _
       | succ m ihm=>
        intro o kk hkk
        by_cases hf2:rds B (m + 1) o kk = .fail
        ·exact .inl hf2
        ·obtain ⟨-,h5⟩:=cK_inv (x:=B.at o) (k:=fun v=>rds B m (o + 1) fun t=>kk (.cons v t)) rfl hf2
         have:rds B (m + 1) o kk = cK (B.at o) (fun v=>rds B m (o + 1) fun t=>kk (.cons v t)):=rfl
         rw [this,← h5]
         exact ihm _ _ fun l=>hkk _
      rw [← h4]
      exact rdl _ _ _ fun l=>ih _ fun vs=>hk _
     ·obtain ⟨b,o,-,h3⟩:=cP_inv h2 hf
      obtain ⟨B,-,-,h4⟩:=gb_inv h3 hf
      obtain ⟨-,h5⟩:=cK_inv h4 hf
      rw [← h5]
      exact ih _ fun vs=>hk _
 rcases key fn.results.toList (fun vs=>match vs with | [v]=>.ret v h | vs=>.ret (.tup (lst vs)) h) (fun vs=>by cases vs with
  | nil=>exact .inr ⟨_,_,rfl⟩
  | cons v l=>cases l <;> exact .inr ⟨_,_,rfl⟩) with h1 | h1
 ·exact absurd h1 hr
 ·exact h1
theorem Inv.drew {w':World} (hi:Inv N0 ρ h w) (hw:w'.heap = w.heap):Inv N0 ρ h w':=by
 refine ⟨fun b B hb=>?_,hi.nb,hi.gnb,hi.gs,hi.als,hi.lim,hi.free,by rw [hw]; exact hi.wsz,hi.mp.later (Ext.refl ρ) (Nat.le_refl _) fun r o _ _=>by rw [hw],Base.st hi.jj fun r _=>by rw [hw]⟩
 obtain ⟨p,h1,h2⟩:=hi.blk b B hb
 obtain ⟨cs,e,fz,g1,g2,g3,g4⟩:=h2.obj
 exact ⟨p,h1,⟨cs,e,fz,by rw [hw]; exact g1,g2,g3,g4⟩,h2.fit,h2.side⟩
theorem St.drew {w':World} (hs:St N0 n ρ0 h0 w0 ρ h w env a) (hw:w'.heap = w.heap) (h1:w'.tape = w.tape) (h2:w'.os = w.os) (h3:w'.output = w.output):St N0 n ρ0 h0 w0 ρ h w' env a:=
 ⟨hs.inv.drew hw,hs.tr.trans ⟨Ext.refl ρ,Nat.le_refl _,fun _ _ e=>.inl e,fun r _ _ _=>by rw [hw],fun _ _ b B p h1 h2 h3=>.inr ⟨b,B,p,h1,h2,h3,rfl⟩,fun _ _ b m p h1 h2 h3=>.inr ⟨b,m,p,h1,h2,h3,rfl⟩,by rw [hw]; exact Nat.le_refl _,h1,h2,h3,rfl⟩,hs.er,hs.sz,hs.df⟩
theorem St.oc {nb lo:Nat} {bs:T Blk} {gs:T (Nat×Nat)} {ms:T AV} {oc l:Oc} (hs:St N0 n ρ0 h0 w0 ρ ⟨nb,bs,gs,ms,lo,oc⟩ w env a):St N0 n ρ0 h0 w0 ρ ⟨nb,bs,gs,ms,lo,l⟩ w env a:=
 ⟨⟨fun b B hb=>(by obtain ⟨p,h1,h2⟩:=hs.inv.blk b B hb; exact ⟨p,h1,⟨h2.obj,h2.fit,h2.side⟩⟩),hs.inv.nb,hs.inv.gnb,hs.inv.gs,hs.inv.als,hs.inv.lim,hs.inv.free,hs.inv.wsz,hs.inv.mp,hs.inv.jj⟩,
  ⟨hs.tr.ext,hs.tr.nb,hs.tr.new,hs.tr.frame,hs.tr.img,hs.tr.mimg,hs.tr.size,hs.tr.tape,hs.tr.os,hs.tr.output,hs.tr.lo⟩,hs.er,hs.sz,hs.df⟩
theorem orc_inv {h:Hp} {t:Bool} {A B:Hp→Res} {r:Res} (e:Sm (orc h t A B) r) (hr:Fine r):∃ nb bs gs ms lo oc l,h = ⟨nb,bs,gs,ms,lo,oc⟩∧((t = true∧Sm (A ⟨nb,bs,gs,ms,lo,l⟩) r)∨(t = false∧Sm (B ⟨nb,bs,gs,ms,lo,l⟩) r)):=by
 obtain ⟨nb,bs,gs,ms,lo,⟨oc,s⟩⟩:=h
 cases oc with
 | nil=>
  have e:Sm (Bool.rec (motive:=fun _=>Res) (B ⟨nb,bs,gs,ms,lo,⟨[],s⟩⟩) (A ⟨nb,bs,gs,ms,lo,⟨[],s⟩⟩) t) r:=e
  refine ⟨nb,bs,gs,ms,lo,_,⟨[],s⟩,rfl,?_⟩
  cases t with
  | true=>exact .inl ⟨rfl,e⟩
  | false=>exact .inr ⟨rfl,e⟩
 | cons d l=>
  have e:now (.ask (beqB t d) (Bool.rec (motive:=fun _=>Res) (B ⟨nb,bs,gs,ms,lo,⟨l,s⟩⟩) (A ⟨nb,bs,gs,ms,lo,⟨l,s⟩⟩) d)) = now r:=e
  obtain ⟨h1,h2⟩:=now_ask (by rw [e]; exact hr.ok)
  refine ⟨nb,bs,gs,ms,lo,_,⟨l,s⟩,rfl,?_⟩
  have h3:=h2.symm.trans e
  have h4:t = d:=by cases t <;> cases d <;> first | rfl | cases h1
  subst h4
  cases t with
  | true=>exact .inl ⟨rfl,h3⟩
  | false=>exact .inr ⟨rfl,h3⟩
theorem den_sound_at (hm:P.follows .mixedOrders = true) {γ:FuncId→Option Fun} (hγ:GSound P γ∧N0.fits P) (fn:Func):∀ (S:Nat) (c:Code),SizeOf.sizeOf c < S→∀ (ρ0:Rho) (h0:Hp) (w0:World) (x:Hint) (xs:List (Nat×List Nat)) (ρ:Rho) (h:Hp) (w:World) (env:Env) (a:Act) (k:Env→Hp→Res) (r:Res),Fine r →
  St N0 fn.ntmps ρ0 h0 w0 ρ h w env a→Sm (den P γ fn c x xs env h k) r→c.wp P (Post P fn N0 fn.ntmps ρ0 h0 w0 xs k r) a w:=by
 intro S
 induction S with
 | zero=>intro c hS; omega
 | succ S IH=>
 intro c hS ρ0 h0 w0
 cases c with
 | skip=>
  intro x xs ρ h w env a k r hr hs e
  have e:Sm (k env h) r:=by cases x <;> exact e
  exact wp_skip ⟨ρ,h,env,hs,e⟩
 | region id ops d=>
  intro x xs ρ h w env a k r hr hs e
  cases d with
  | true=>
   cases x with
   | r o=>
    obtain ⟨h1,h2⟩:=sif_inv (b:=Region.noSelect ops && (Nat.beq o.length ops.size && orderOk P ops o (Array.replicate ops.size false))) rfl (e.nf hr)
    rw [Bool.and_eq_true,Bool.and_eq_true,beq_iff] at h1
    obtain ⟨h3,h4,h5⟩:=h1
    refine wp_region_any hm ?_
    have:=dDraw_sound (Q:=Post P fn N0 fn.ntmps ρ0 h0 w0 xs k r) (n:=fn.ntmps) hγ hr h3 (fun c a w h=>h) (fun ρ h w env a hs e=>⟨ρ,h,env,hs,e⟩) o (Array.replicate ops.size false) [] [] ρ h { w with drawn:=w.drawn + 1 } env a h5
     (fun j oj hj hl=>by rw [Array.getD_eq_getD_getElem?,Array.getElem?_replicate] at hl; split at hl <;> cases hl) (hs.drew rfl rfl rfl rfl) (fun p hp=>absurd hp (by simp)) ⟨fun q hq=>absurd hq (by simp),fun p hp=>absurd hp (by simp)⟩ (.of h2 e)
    rw [h4] at this
    exact wpAny_of_I _ _ _ _ this
   | f o=>
    obtain ⟨h1,h2⟩:=sif_inv (b:=Region.noSelect ops && (slotsOk ops && flOk P ops o [])) rfl (e.nf hr)
    rw [Bool.and_eq_true,Bool.and_eq_true] at h1
    obtain ⟨h3,h4,h5⟩:=h1
    refine wp_region_any hm ?_
    have hcount:(Array.replicate ops.size false).count false = ops.size:=by simp
    have hs':=hs.drew (w':={ w with drawn:=w.drawn + 1 }) rfl rfl rfl rfl
    have hnone:∀ i,(Array.replicate ops.size false).getD i false = true→False:=fun i hl=>by
     rw [Array.getD_eq_getD_getElem?,Array.getElem?_replicate] at hl; split at hl <;> cases hl
    have:=dFl_sound (Q:=Post P fn N0 fn.ntmps ρ0 h0 w0 xs k r) (n:=fn.ntmps) hγ hr (slots_of h4) (fun ρ h w env a hs e=>⟨ρ,h,env,hs,e⟩) _ o [] (Array.replicate ops.size false) [] [] ρ h { w with drawn:=w.drawn + 1 } env a rfl h5
     (fun q hq=>absurd hq (by simp)) ⟨hs'.inv,hs'.tr,hs'.sz,hs'.df,by simp,fun i hl=>(hnone i hl).elim,fun j oj hj hl=>(hnone j hl).elim,trivial,fun t=>.inl (hs'.er t),(fun g o h=>nomatch h),
      ⟨(fun e he=>nomatch he),(fun e he=>nomatch he),(fun e he=>nomatch he),(fun e he=>nomatch he),(fun e he=>nomatch he),by simp⟩⟩ (.of h2 e)
    rwa [hcount] at this
   | _=>exact absurd rfl (e.nf hr)
  | false=>
   have e:Sm (dOps P γ fn.ntmps ops.toList ops.toList env h k) r:=by cases x <;> exact e
   refine wp_region ?_
   have:=dOps_sound (ops:=ops) (Q:=Post P fn N0 fn.ntmps ρ0 h0 w0 xs k r) hγ hr (fun ρ h w env a hs e=>⟨ρ,h,env,hs,e⟩) ops.toList 0 ρ h w env a rfl hs e
   rwa [Array.length_toList,← List.range_eq_range'] at this
 | seq p q=>
  have ihp:=IH p (by simp only [Code.seq.sizeOf_spec] at hS; omega) ρ0 h0 w0
  have ihq:=IH q (by simp only [Code.seq.sizeOf_spec] at hS; omega) ρ0 h0 w0
  intro x xs ρ h w env a k r hr hs e
  cases x with
  | s x y=>
   have e:Sm (den P γ fn p x xs env h (fun env h=>den P γ fn q y xs env h k)) r:=e
   refine wp_seq (wp_mono (ihp x xs ρ h w env a _ r hr hs e) fun ex a' w' hp=>?_)
   cases ex with
   | normal=>
    obtain ⟨ρ',h',env',hs',e'⟩:=hp
    exact ihq y xs ρ' h' w' env' a' k r hr hs' e'
   | _=>exact hp
  | w x lb=>
   by_cases hq:∃ id a1 a2 id1 a3 rest,q = Code.block id (.loop (.seq a1 (.seq a2 (.block id1 (.seq a3 rest)))))
   ·obtain ⟨id,a1,a2,id1,a3,rest0,rfl⟩:=hq
    have e:Sm (dRw P γ fn.ntmps p _ lb (fun env h k=>den P γ fn rest0 x [] env h k) env h k) r:=e
    refine dRw_sound hγ (e.fine hr) hs (fun B R2 CC C R3 rest hq ρ h w env a k r hr hs e=>?_) rfl fun ρ h w env a hs e1=>⟨ρ,h,env,hs,Eq.trans e1 e⟩
    obtain rfl:rest0 = rest:=by injection hq with _ h1; injection h1 with h1; injection h1 with _ h1; injection h1 with _ h1; injection h1 with _ h1; injection h1
    have ih:=IH rest0 (by simp only [Code.seq.sizeOf_spec,Code.block.sizeOf_spec,Code.loop.sizeOf_spec] at hS; omega) ρ h w x [] ρ h w env a k r hr hs e
    refine wp_mono ih fun ex a' w' hp=>?_
    cases ex with
    | normal=>exact .inl ⟨rfl,hp⟩
    | exit id=>
     obtain ⟨ρ',h',env',l',hs',hf,e'⟩:=hp
     cases hf
    | ret=>
     obtain ⟨ρ',h',env',hs',e'⟩:=hp
     obtain ⟨v',h'',hv⟩:=rt_not (P:=P) (fn:=fn) (env:=env') (h:=h') (e'.nf hr)
     exact .inr fun vs hh e2=>by
      have e3:Res.ret v' h'' = .norm vs hh:=Eq.trans (by rw [hv]; rfl) (Eq.trans e' e2)
      cases e3
    | _=>exact hp.elim
   ·rw [den] at e
    ·exact dRw_sound hγ (e.fine hr) hs (fun B R2 CC C R3 rest h=>(hq ⟨_,_,_,_,_,_,h⟩).elim) rfl fun ρ h w env a hs e1=>⟨ρ,h,env,hs,Eq.trans e1 e⟩
    ·intro id a1 a2 id1 a3 rest h
     exact hq ⟨_,_,_,_,_,_,h⟩
  | m=>
   have e:Sm (dRng P γ fn.ntmps p q env h k) r:=e
   exact dRng_sound hγ (e.fine hr) hs rfl fun ρ h w env a hs e1=>⟨ρ,h,env,hs,Eq.trans e1 e⟩
  | j l x y=>
   have e:Sm (jn (den P γ fn p x xs env h fun env h=>.norm (l.map env) h) (fun vs h=>un l vs fun env=>den P γ fn q y xs env h k)) r:=e
   obtain ⟨hne,hcase⟩:=jn_inv e hr
   refine wp_seq (wp_mono (ihp x xs ρ h w env a _ _ hne hs (.eq rfl)) fun ex a' w' hp=>?_)
   cases ex with
   | normal=>
    obtain ⟨ρ',h',env',hs',e'⟩:=hp
    rcases hcase with ⟨vs,hh,e1,e2⟩ | ⟨i,vs,hh,e1,e2⟩ | ⟨v,hh,e1,e2⟩
    ·obtain ⟨rfl,rfl⟩:l.map env' = vs∧h' = hh:=Sm.norm e' e1
     obtain ⟨env2,h3,h4⟩:=un_map env' l (Eq.refl _)
     exact ihq y xs ρ' h' w' env2 a' k r hr (hs'.less h4) (.of h3 e2)
    ·have e3:Res.norm (l.map env') h' = _:=Eq.trans e' e1; cases e3
    ·have e3:Res.norm (l.map env') h' = _:=Eq.trans e' e1; cases e3
   | exit id=>
    obtain ⟨ρ',h',env',l',hs',hf,e'⟩:=hp
    refine ⟨ρ',h',env',l',hs',hf,?_⟩
    rcases hcase with ⟨vs,hh,e1,e2⟩ | ⟨i,vs,hh,e1,e2⟩ | ⟨v,hh,e1,e2⟩
    ·rw [e1] at e'; cases e'
    ·rw [e2,← e1,e']
    ·rw [e1] at e'; cases e'
   | ret=>
    obtain ⟨ρ',h',env',hs',e'⟩:=hp
    refine ⟨ρ',h',env',hs',?_⟩
    obtain ⟨v',h'',hv⟩:=rt_not (P:=P) (fn:=fn) (env:=env') (h:=h') (e'.nf hne)
    rcases hcase with ⟨vs,hh,e1,e2⟩ | ⟨i,vs,hh,e1,e2⟩ | ⟨v,hh,e1,e2⟩
    ·have e3:Res.ret v' h'' = _:=Eq.trans (by rw [hv]; rfl) (Eq.trans e' e1); cases e3
    ·have e3:Res.ret v' h'' = _:=Eq.trans (by rw [hv]; rfl) (Eq.trans e' e1); cases e3
    ·exact Eq.trans e' (e1.trans e2.symm)
   | _=>exact hp
  | _=>exact absurd rfl (e.nf hr)
 | cond c p q=>
  have ihp:=IH p (by simp only [Code.cond.sizeOf_spec] at hS; omega) ρ0 h0 w0
  have ihq:=IH q (by simp only [Code.cond.sizeOf_spec] at hS; omega) ρ0 h0 w0
  intro x xs ρ h w env a k r hr hs e
  cases x with
  | s x y=>
   have e:Sm (cB (ev env c) (fun t=>ifB t (den P γ fn p x xs env h k) (den P γ fn q y xs env h k))) r:=e
   obtain ⟨t,h1,h2⟩:=cB_inv rfl (e.nf hr)
   have h2:=Sm.of h2 e
   have hc:=ev_rel hs.er c
   rw [h1] at hc
   have hc:a.eval c = .bool t:=hc
   refine wp_cond hc ?_
   cases t with
   | true=>exact ihp x xs ρ h w env a k r hr hs h2
   | false=>exact ihq y xs ρ h w env a k r hr hs h2
  | q t x=>
   cases t with
   | true=>
    have e:Sm (cB (ev env c) (fun t=>.ask t (den P γ fn p x xs env h k))) r:=e
    obtain ⟨t,h1,h2⟩:=cB_inv rfl (e.nf hr)
    have h2:=Sm.of h2 e
    have hc:=ev_rel hs.er c
    rw [h1] at hc
    have hc:a.eval c = .bool t:=hc
    obtain ⟨rfl,h3⟩:=now_ask (by rw [show now (.ask t (den P γ fn p x xs env h k)) = now r from h2]; exact hr.ok)
    exact wp_cond hc (ihp x xs ρ h w env a k r hr hs (h3.symm.trans h2))
   | false=>
    have e:Sm (cB (ev env c) (fun t=>.ask (bnot t) (den P γ fn q x xs env h k))) r:=e
    obtain ⟨t,h1,h2⟩:=cB_inv rfl (e.nf hr)
    have h2:=Sm.of h2 e
    have hc:=ev_rel hs.er c
    rw [h1] at hc
    have hc:a.eval c = .bool t:=hc
    obtain ⟨h4,h3⟩:=now_ask (by rw [show now (.ask (bnot t) (den P γ fn q x xs env h k)) = now r from h2]; exact hr.ok)
    have ht:t = false:=by cases t with | true=>cases h4 | false=>rfl
    subst ht
    exact wp_cond hc (ihq x xs ρ h w env a k r hr hs (h3.symm.trans h2))
  | o x y=>
   have e:Sm (cB (ev env c) (fun t=>orc h t (fun h=>den P γ fn p x xs env h k) (fun h=>den P γ fn q y xs env h k))) r:=e
   obtain ⟨t,h1,h2⟩:=cB_inv rfl (e.nf hr)
   have h2:=Sm.of h2 e
   have hc:=ev_rel hs.er c
   rw [h1] at hc
   have hc:a.eval c = .bool t:=hc
   obtain ⟨nb,bs,gs,ms,lo,oc,l,rfl,h3⟩:=orc_inv h2 hr
   refine wp_cond hc ?_
   rcases h3 with ⟨rfl,h3⟩ | ⟨rfl,h3⟩
   ·exact ihp x xs ρ _ w env a k r hr hs.oc h3
   ·exact ihq y xs ρ _ w env a k r hr hs.oc h3
  | _=>exact absurd rfl (e.nf hr)
 | block id p=>
  have ihp:=IH p (by simp only [Code.block.sizeOf_spec] at hS; omega) ρ0 h0 w0
  intro x xs ρ h w env a k r hr hs e
  cases x with
  | b l x=>
   have e:Sm (blk id (den P γ fn p x ((id,l) :: xs) env h fun env h=>.norm (l.map env) h) (fun vs h=>un l vs fun env=>k env h)) r:=e
   obtain ⟨hne,hcase⟩:=blk_inv e hr
   refine wp_block (wp_mono (ihp x ((id,l) :: xs) ρ h w env a _ _ hne hs (.eq rfl)) fun ex a' w' hp=>?_)
   cases ex with
   | normal=>
    obtain ⟨ρ',h',env',hs',e'⟩:=hp
    rcases hcase with ⟨vs,hh,e1,e2⟩ | ⟨vs,hh,e1,e2⟩ | ⟨i,vs,hh,hi,e1,e2⟩ | ⟨v,hh,e1,e2⟩
    ·obtain ⟨rfl,rfl⟩:l.map env' = vs∧h' = hh:=Sm.norm e' e1
     obtain ⟨env2,h3,h4⟩:=un_map env' l (Eq.refl _)
     exact ⟨ρ',h',env2,hs'.less h4,.of h3 e2⟩
    ·have e3:Res.norm (l.map env') h' = _:=Eq.trans e' e1; cases e3
    ·have e3:Res.norm (l.map env') h' = _:=Eq.trans e' e1; cases e3
    ·have e3:Res.norm (l.map env') h' = _:=Eq.trans e' e1; cases e3
   | exit id'=>
    obtain ⟨ρ',h',env',l',hs',hf,e'⟩:=hp
    rcases hcase with ⟨vs,hh,e1,e2⟩ | ⟨vs,hh,e1,e2⟩ | ⟨i,vs,hh,hi,e1,e2⟩ | ⟨v,hh,e1,e2⟩
    ·rw [e1] at e'; cases e'
    ·rw [e1] at e'
     obtain ⟨rfl,rfl,rfl⟩:id = id'∧vs = l'.map env'∧hh = h':=by cases e'; exact ⟨rfl,rfl,rfl⟩
     have hll:l' = l:=by
      rw [List.find?_cons,(beq_iff id id).2 rfl] at hf
      cases hf; rfl
     subst hll
     obtain ⟨env2,h3,h4⟩:=un_map env' l' (Eq.refl _)
     replace h3:=Sm.of h3 e2
     show Exit.inBlock id _ (.exit id) a' w'
     unfold Exit.inBlock
     simp only [if_true]
     exact ⟨ρ',hh,env2,hs'.less h4,h3⟩
    ·rw [e1] at e'
     obtain ⟨rfl,rfl,rfl⟩:i = id'∧vs = l'.map env'∧hh = h':=by cases e'; exact ⟨rfl,rfl,rfl⟩
     show Exit.inBlock id _ (.exit i) a' w'
     unfold Exit.inBlock
     simp only [if_neg hi]
     refine ⟨ρ',hh,env',l',hs',?_,e2⟩
     have hb:Nat.beq id i = false:=by rw [Bool.eq_false_iff,ne_eq,beq_iff]; exact fun he=>hi he.symm
     rw [List.find?_cons,hb] at hf
     exact hf
    ·rw [e1] at e'; cases e'
   | ret=>
    obtain ⟨ρ',h',env',hs',e'⟩:=hp
    refine ⟨ρ',h',env',hs',?_⟩
    obtain ⟨v',h'',hv⟩:=rt_not (P:=P) (fn:=fn) (env:=env') (h:=h') (e'.nf hne)
    rcases hcase with ⟨vs,hh,e1,e2⟩ | ⟨vs,hh,e1,e2⟩ | ⟨i,vs,hh,hi,e1,e2⟩ | ⟨v,hh,e1,e2⟩
    ·have e3:Res.ret v' h'' = _:=Eq.trans (by rw [hv]; rfl) (Eq.trans e' e1); cases e3
    ·have e3:Res.ret v' h'' = _:=Eq.trans (by rw [hv]; rfl) (Eq.trans e' e1); cases e3
    ·have e3:Res.ret v' h'' = _:=Eq.trans (by rw [hv]; rfl) (Eq.trans e' e1); cases e3
    ·exact Eq.trans e' (e1.trans e2.symm)
   | _=>exact hp
  | _=>exact absurd rfl (e.nf hr)
 | loop p=>
  have ihp:=IH p (by simp only [Code.loop.sizeOf_spec] at hS; omega) ρ0 h0 w0
  intro x xs ρ h w env a k r hr hs e
  cases x with
  | l l x=>
   change Sm (lp (fun vs h=>un l vs fun env=>den P γ fn p x xs env h fun env h=>.norm (l.map env) h) most (l.map env) h) r at e
   refine wp_loop_rounds most ?_
   generalize most = m at e ⊢
   induction m generalizing ρ h w env a with
   | zero=>exact absurd rfl (e.nf hr)
   | succ m ihm=>
    rw [rounds_succ]
    generalize hF:(un l (l.map env) fun env=>den P γ fn p x xs env h fun env h=>.norm (l.map env) h) = r1
    have e:Sm (jn r1 (fun vs h=>lp (fun vs h=>un l vs fun env=>den P γ fn p x xs env h fun env h=>.norm (l.map env) h) m vs h)) r:=by
     rw [← hF]; exact e
    obtain ⟨hne,hcase⟩:=jn_inv e hr
    obtain ⟨env2,h3,h4⟩:=un_map env l hF
    refine wp_mono (ihp x xs ρ h w env2 a _ r1 hne (hs.less h4) (.eq h3)) fun ex a' w' hp=>?_
    cases ex with
    | normal=>
     obtain ⟨ρ',h',env',hs',e'⟩:=hp
     rcases hcase with ⟨vs,hh,e1,e2⟩ | ⟨i,vs,hh,e1,e2⟩ | ⟨v,hh,e1,e2⟩
     ·obtain ⟨rfl,rfl⟩:l.map env' = vs∧h' = hh:=Sm.norm e' e1
      exact ihm ρ' h' w' env' a' hs' e2
     ·have e3:Res.norm (l.map env') h' = _:=Eq.trans e' e1; cases e3
     ·have e3:Res.norm (l.map env') h' = _:=Eq.trans e' e1; cases e3
    | exit id=>
     obtain ⟨ρ',h',env',l',hs',hf,e'⟩:=hp
     refine ⟨ρ',h',env',l',hs',hf,?_⟩
     rcases hcase with ⟨vs,hh,e1,e2⟩ | ⟨i,vs,hh,e1,e2⟩ | ⟨v,hh,e1,e2⟩
     ·rw [e1] at e'; cases e'
     ·rw [e2,← e1,e']
     ·rw [e1] at e'; cases e'
    | ret=>
     obtain ⟨ρ',h',env',hs',e'⟩:=hp
     refine ⟨ρ',h',env',hs',?_⟩
     obtain ⟨v',h'',hv⟩:=rt_not (P:=P) (fn:=fn) (env:=env') (h:=h') (e'.nf hne)
     rcases hcase with ⟨vs,hh,e1,e2⟩ | ⟨i,vs,hh,e1,e2⟩ | ⟨v,hh,e1,e2⟩
     ·have e3:Res.ret v' h'' = _:=Eq.trans (by rw [hv]; rfl) (Eq.trans e' e1); cases e3
     ·have e3:Res.ret v' h'' = _:=Eq.trans (by rw [hv]; rfl) (Eq.trans e' e1); cases e3
     ·exact Eq.trans e' (e1.trans e2.symm)
    | _=>exact hp
  | _=>exact absurd rfl (e.nf hr)
 | scope p=>
  have ihp:=IH p (by simp only [Code.scope.sizeOf_spec] at hS; omega) ρ0 h0 w0
  intro x xs ρ h w env a k r hr hs e
  have e:Sm (den P γ fn p x xs env h k) r:=by cases x <;> exact e
  refine wp_scope_straight (wp_mono (ihp x xs ρ h w env a k r hr hs e) fun ex a' w' hp=>?_)
  cases ex <;> first
   | exact hp
   | exact hp.elim
 | label l=>
  intro x xs ρ h w env a k r hr hs e
  have e:Sm (k env h) r:=by cases x <;> exact e
  exact wp_label ⟨ρ,h,env,hs,e⟩
 | exit id=>
  intro x xs ρ h w env a k r hr hs e
  have e:Sm (exitL xs id (fun l=>.exit id (l.map env) h)) r:=by cases x <;> exact e
  obtain ⟨l,h1,h2⟩:=exitL_inv xs rfl (e.nf hr)
  exact wp_exit ⟨ρ,h,env,l,hs,h1,(Sm.of h2 e).symm⟩
 | ret=>
  intro x xs ρ h w env a k r hr hs e
  have e:Sm (rt P fn env h) r:=by cases x <;> exact e
  exact wp_ret ⟨ρ,h,env,hs,e⟩
 | _=>
  intro x xs ρ h w env a k r hr hs e
  have e:Sm Res.fail r:=by cases x <;> exact e
  exact absurd rfl (e.nf hr)
theorem den_sound (hm:P.follows .mixedOrders = true) {γ:FuncId→Option Fun} (hγ:GSound P γ∧N0.fits P) (fn:Func):∀ (c:Code) (x:Hint) (xs:List (Nat×List Nat)) (ρ:Rho) (h:Hp) (w:World) (env:Env) (a:Act) (k:Env→Hp→Res) (r:Res),Fine r →
  St N0 fn.ntmps ρ0 h0 w0 ρ h w env a→Sm (den P γ fn c x xs env h k) r→c.wp P (Post P fn N0 fn.ntmps ρ0 h0 w0 xs k r) a w:=fun c=>den_sound_at hm hγ fn (SizeOf.sizeOf c + 1) c (Nat.lt_succ_self _) ρ0 h0 w0
end
end Go.AM
namespace Go.AM
open Go
set_option autoImplicit false
section
variable {P:Program} {N0:Base} {n:Nat} {ρ0 ρ:Rho} {h0 h:Hp} {w0 w:World} {r:Res} {env:Env} {a:Act}
theorem F2_lst {vs:List AV} {Vs:List Value} (h:F2 (VR ρ) vs Vs):LR ρ (lst vs) Vs:=by
 induction h with
 | nil=>rfl
 | cons h1 _ ih=>exact ⟨_,_,rfl,h1,ih⟩
def resOf (tmps:Array Value):ResultVar→Sem Value
 | .tmp t=>pure (tmps.getD t undef)
 | .cell a t=>do loadVar t (← asAddr (tmps.getD a undef))
theorem sure_as {t:TypeId} {V X:Value} (h:(Instr.loadAt t X).run P w = .ok V w):(do loadVar t (← asAddr X):Sem Value).run P w = .ok V w:=by
 unfold Instr.loadAt at h
 cases X with
 | pointer a=>
  cases a with
  | none=>simp [Instr.sureAddr,stuck] at h
  | some a=>simpa [Instr.sureAddr,asAddr] using h
 | _=>simp [Instr.sureAddr,stuck] at h
theorem rtV_inv (hi:Inv N0 ρ h w) (he:ERel ρ env a):∀ (l:List ResultVar) {k:List AV→Res},rtV env h P l k = r→r ≠ .fail →
  ∃ vs Vs,k vs = r∧F2 (VR ρ) vs Vs∧(l.mapM (resOf a.tmps)).run P w = .ok Vs w:=by
 intro l
 induction l with
 | nil=>intro k e hr; exact ⟨[],[],e,.nil,rfl⟩
 | cons x l ih=>
  intro k e hr
  have go:∀ {v V},rtV env h P l (fun vs=>k (v :: vs)) = r→VR ρ v V→(resOf a.tmps x).run P w = .ok V w→∃ vs Vs,k vs = r∧F2 (VR ρ) vs Vs∧((x :: l).mapM (resOf a.tmps)).run P w = .ok Vs w:=by
   intro v V e hv hrun
   obtain ⟨vs,Vs,h1,h2,h3⟩:=ih e hr
   refine ⟨_,V :: Vs,h1,.cons hv h2,?_⟩
   rw [List.mapM_cons,Sem.run_bind,hrun]
   simp only [Result.andThen_ok]
   rw [Sem.run_bind,h3]
   rfl
  cases x with
  | tmp t=>
   obtain ⟨h1,h2⟩:=cK_inv e hr
   exact go h2 (he t) rfl
  | cell c t=>
   simp only [rtV] at e
   obtain ⟨h1,h2⟩:=sif_inv e hr
   split at h2
   ·rename_i ht
    obtain ⟨v,V,h3,h4,h5⟩:=ldN_ok hi ht h1 h2 hr (he c)
    exact go h3 h4 (sure_as h5)
   ·rename_i ht
    obtain ⟨v,V,h3,h4,h5⟩:=ld1_ok hi ht h1 h2 hr (he c)
    exact go h3 h4 (sure_as h5)
theorem rt_ok {fn:Func} {v:AV} {h':Hp} (hi:Inv N0 ρ h w) (he:ERel ρ env a) (e:rt P fn env h = .ret v h'):h' = h∧∃ V,(results fn a.tmps).run P w = .ok V w∧VR ρ v V:=by
 obtain ⟨vs,Vs,h1,h2,h3⟩:=rtV_inv hi he fn.results.toList e (by simp)
 have hm:(fn.results.mapM (resOf a.tmps)).run P w = .ok Vs.toArray w:=by
  rw [Array.mapM_eq_mapM_toList,map_eq_pure_bind,Sem.run_bind,h3]
  rfl
 have hres:(results fn a.tmps).run P w = .ok (if h:Vs.toArray.size = 1 then Vs.toArray[0] else .tuple Vs.toArray) w:=by
  have hd:results fn a.tmps = (do let vs ← fn.results.mapM (resOf a.tmps); pure (if h:vs.size = 1 then vs[0] else .tuple vs)):=rfl
  rw [hd,Sem.run_bind,hm]
  rfl
 cases h2 with
 | nil=>
  have h1:Res.ret (.tup (lst [])) h = .ret v h':=h1
  cases h1
  exact ⟨rfl,_,hres,⟨_,rfl,rfl⟩⟩
 | @cons v1 V1 vs Vs hv hrest=>
  cases hrest with
  | nil=>
   have h1:Res.ret v1 h = .ret v h':=h1
   cases h1
   exact ⟨rfl,_,hres,hv⟩
  | @cons v2 V2 vs Vs hv2 hrest=>
   have h1:Res.ret (.tup (lst (v1 :: v2 :: vs))) h = .ret v h':=h1
   cases h1
   refine ⟨rfl,_,hres,?_⟩
   rw [dif_neg (by simp)]
   exact ⟨_,rfl,F2_lst (.cons hv (.cons hv2 hrest))⟩
theorem unX_inv:∀ (l:List Nat) (args:List AV) {k:Env→Res},unX l args k = r→r ≠ .fail→∃ env',k env' = r∧∀ t,env' t = .unk∨∃ i:Nat,l[i]? = some t∧args[i]? = some (env' t):=by
 intro l
 induction l with
 | nil=>intro args k e hr; obtain ⟨-,h2⟩:=uz_inv e hr; exact ⟨env0,h2,fun t=>.inl rfl⟩
 | cons d l ih=>
  intro args k e hr
  have e:uc args (fun v vs=>unX l vs fun env=>k (upd env d v)) = r:=e
  obtain ⟨v,vs,rfl,h1⟩:=uc_inv e hr
  obtain ⟨env',h2,h3⟩:=ih vs h1 hr
  refine ⟨_,h2,fun t=>?_⟩
  rw [upd_eq]
  by_cases ht:t = d
  ·rw [if_pos ht]; exact .inr ⟨0,by simp [ht],rfl⟩
  ·rw [if_neg ht]
   rcases h3 t with h | ⟨i,h4,h5⟩
   ·exact .inl h
   ·exact .inr ⟨i + 1,by simpa using h4,by simpa using h5⟩
theorem F2.get' {α β:Type} {Q:α→β→Prop} {l:List α} {m:List β} (h:F2 Q l m):∀ (i:Nat) (a:α),l[i]? = some a→∃ b,m[i]? = some b∧Q a b:=by
 induction h with
 | nil=>intro i a h; simp at h
 | cons hq _ ih=>
  intro i a h1
  cases i with
  | zero=>simp at h1; subst h1; exact ⟨_,rfl,hq⟩
  | succ i=>exact ih i a (by simpa using h1)
theorem denF_sound (hm:P.follows .mixedOrders = true) {γ:FuncId→Option Fun} (hγ:GSound P γ) {f:FuncId} {fn:Func} {c:Code} (x:Hint) (hf:P.funcs[f]? = some fn) (hb:fn.body = some c):FSound P f (denF P γ fn x):=by
 intro N0 hN ρ h w args Args v h' e hi ha
 unfold denF at e
 rw [hb] at e
 simp only at e
 obtain ⟨env,h1,h2⟩:=unX_inv _ _ (Eq.refl (unX (List.range (Nat.add fn.params.size fn.nfree)) args fun env=>den P γ fn c x [] env h fun env h=>rt P fn env h)) (fun h0=>by rw [h0] at e; cases e)
 refine calls_of_wp hf hb ?_
 have hs:St N0 fn.ntmps ρ h w ρ h w env { tmps:=Args ++ Array.replicate (fn.ntmps - Args.size) undef,defers:=[] }:=by
  refine ⟨hi,Tr.refl ρ h w,fun t=>?_,by simp; omega,rfl⟩
  rcases h2 t with h3 | ⟨i,h3,h4⟩
  ·rw [h3]; exact trivial
  ·have hit:i = t:=by
    have:=(List.getElem?_eq_some_iff.1 h3)
    obtain ⟨h5,h6⟩:=this
    simpa using h6
   subst hit
   obtain ⟨V,h7,h8⟩:=ha.get' i _ h4
   rw [Array.getElem?_toList] at h7
   have hlt:=(Array.getElem?_eq_some_iff.1 h7).1
   have:(Args ++ Array.replicate (fn.ntmps - Args.size) undef).getD i undef = V:=by
    rw [Array.getD_eq_getD_getElem?,Array.getElem?_append_left hlt,h7]; rfl
   rw [this]; exact h8
 refine wp_mono (den_sound hm ⟨hγ,hN⟩ fn c x [] ρ h w env _ _ (.ret v h') (by simp) hs (Eq.trans (congrArg now h1) e)) fun ex a' w' hp=>?_
 have fin:∀ ρ1 h1 env1,St N0 fn.ntmps ρ h w ρ1 h1 w' env1 a'→Sm (rt P fn env1 h1) (.ret v h')→a'.defers = []∧∃ V,(results fn a'.tmps).run P w' = .ok V w'∧∃ V' ρ',Ending.returned V = .returned V'∧Out N0 ρ h w v h' V' w' ρ':=by
  intro ρ1 h1 env1 hs1 e1
  obtain ⟨v2,h2,hv2⟩:=rt_not (e1.nf (by simp))
  have e1:rt P fn env1 h1 = .ret v h':=by
   have e2:Res.ret v2 h2 = .ret v h':=Eq.trans (by rw [hv2]; rfl) e1
   rw [hv2,e2]
  obtain ⟨rfl,V,h3,h4⟩:=rt_ok hs1.inv hs1.er e1
  exact ⟨hs1.df,V,h3,V,ρ1,rfl,h4,hs1.inv,hs1.tr⟩
 cases ex with
 | normal=>obtain ⟨ρ1,h1,env1,hs1,e1⟩:=hp; exact fin _ _ _ hs1 e1
 | ret=>obtain ⟨ρ1,h1,env1,hs1,e1⟩:=hp; exact fin _ _ _ hs1 e1
 | exit id=>obtain ⟨ρ1,h1,env1,l,hs1,hx,e1⟩:=hp; simp at hx
 | _=>exact hp.elim
theorem enters_of {f:FuncId} {fn:Func} {c:Code} (hf:P.funcs[f]? = some fn) (hname:(fn.name == "runtime.NumGoroutine") = false) (hb:fn.body = some c):Enters P f:=
 fun args w=>by
  have h1:fn.name ≠ "runtime.NumGoroutine" := by simpa using hname
  simp [callFunc,hf,h1,hb]
theorem gam_nil:GSound P (gam []):=fun f g h=>by cases h
theorem gam_consO {f:FuncId} {g:Fun} {l:List (Nat×Fun)} (h1:(FSound P f g∧Enters P f)∨ESound P f g) (h3:GSound P (gam l)):GSound P (gam ((f,g) :: l)):=by
 intro f' g' h
 have h:Bool.rec (motive:=fun _=>Option Fun) (gam l f') (some g) (Nat.beq f f') = some g':=h
 rw [recB] at h
 simp only [beq_iff] at h
 by_cases he:f = f'
 ·rw [if_pos he] at h
  cases h; subst he; exact h1
 ·rw [if_neg he] at h
  exact h3 f' g' h
theorem gam_cons {f:FuncId} {g:Fun} {l:List (Nat×Fun)} (h1:FSound P f g) (h2:Enters P f) (h3:GSound P (gam l)):GSound P (gam ((f,g) :: l)):=gam_consO (.inl ⟨h1,h2⟩) h3
end
end Go.AM
namespace Go.AM
open Go
set_option autoImplicit false
noncomputable section
def H0:Hp:=⟨0,.e,.e,.e,0,⟨[],.unk⟩⟩
def b0 (w:World) (g:Option Nat):Base:=⟨w.heap.size,g⟩
theorem inv_H0 {w:World} {g:Option Nat} (hj:(b0 w g).J w):Inv (b0 w g) (fun _=>none) H0 w where
 blk:=fun b B h=>by cases h
 nb:=fun b B h=>by cases h
 gnb:=fun b B h=>by cases h
 gs:=fun g q h=>by cases h
 als:=fun b1 b2 B1 B2 p1 p2 h=>by cases h
 lim:=fun b1 b2 B1 B2 p1 p2 h=>by cases h
 free:=fun _ _=>rfl
 wsz:=Nat.le_refl _
 mp:=⟨fun b m h=>(by cases h),fun b1 b2 m1 m2 p1 p2 h=>(by cases h)⟩
 jj:=hj
def Kept (w w':World):Prop:=w.keptBut w' (fun _=>False)∧(∀ r,r < w.heap.size→w'.heap[r]? = w.heap[r]?)∧w.heap.size≤w'.heap.size
theorem Tr.kept {ρ ρ':Rho} {h h':Hp} {w w':World} (ht:Tr ρ h w ρ' h' w') (hf:∀ b B,h.bs.get b = some B→B.fr = false) (hm:h.ms = .e):Kept w w':=by
 have hfr:∀ r,r < w.heap.size→w'.heap[r]? = w.heap[r]?:=fun r hr=>ht.frame r hr (fun b B p hb hB=>by rw [hf b B hb] at hB; cases hB.1) (fun b m p hb=>by rw [hm] at hb; cases hb)
 refine ⟨⟨ht.os,ht.output,fun i hi=>?_⟩,hfr,ht.size⟩
 rw [hfr i hi]
 cases h1:w.heap[i]? with
 | none=>simp
 | some o=>cases o <;> simp
def isT (r:Res):Bool:=
 Res.rec (motive:=fun _=>Bool) false (fun _ _=>false) (fun _ _ _=>false)
  (fun v _=>AV.rec (motive:=fun _=>Bool) false (fun b=>b) (fun _ _=>false) (fun _ _=>false) false (fun _ _=>false) false (fun _ _ _ _ _=>false) false false (fun _ _ _=>false) false (fun _ _ _ _ _=>false) false (fun _=>false) (fun _ _=>false) (fun _ _=>false) false (fun _ _ _ _=>false) v) (fun p _ ih=>Bool.rec (motive:=fun _=>Bool) false ih p) r
theorem isT_inv {r:Res} (h:isT r = true):∃ h',now r = .ret (.bool true) h':=by
 induction r with
 | ret v h'=>
  cases v <;> first
   | (rename_i b; cases b <;> first | exact ⟨h',rfl⟩ | exact Bool.noConfusion (show false = true from h))
   | exact Bool.noConfusion (show false = true from h)
 | ask p q ih=>
  cases p with
  | true=>exact ih h
  | false=>exact Bool.noConfusion (show false = true from h)
 | _=>exact Bool.noConfusion (show false = true from h)
def bitsL (n:Nat):Nat→List Bool:=Nat.rec (motive:=fun _=>Nat→List Bool) (fun _=>[]) (fun _ ih x=>Nat.beq (Nat.mod x 2) 1 :: ih (Nat.div x 2)) n
end
end Go.AM
namespace Go
section
variable {H:Type} {enc:TypeId×Value→H} {P:Program}
theorem AM.post_kept {f:Func} {s:ChangeSpec} {apart fresh handsOn:Bool} {W W':World} {args:Array Value} {v:Value} {ds gs:List (DataW H)} {before pa pv:List MemPlace}
  (hW:DataW.Whole enc P f.params.toList s.vars apart W args.toList ds gs before)
  (hres:∀ (b:Nat) (sp:Nat→Bool) (hd:Bool),DataW.TrodAll enc P W' b sp hd f.resultTypes.toList (v.resultList f.resultTypes.size) (s.fn H (ds ++ gs)).results [])
  (hargs:∀ sp:Nat→Bool,(∀ p∈before,sp p.block = true)→DataW.TrodAll enc P W' 0 sp true f.params.toList args.toList (s.fn H (ds ++ gs)).args pa)
  (hvars:∀ sp:Nat→Bool,(∀ p∈before,sp p.block = true)→DataW.TrodVars enc P W' sp s.vars (s.fn H (ds ++ gs)).vars pv)
  (hk:W.keptBut W' (fun _=>False)):s.post enc P f apart fresh handsOn false W args v W':=by
 have hold:∀ p∈before,(fun b=>decide (b < W.heap.size)) p.block = true:=fun p hp=>by simpa using hW.lt p hp
 exact ⟨ds,gs,before,[],pa,pv,hW,hres _ _ _,hargs _ hold,hvars _ hold,World.keptBut_mono (fun p hp=>hp.elim) hk,fun h=>by cases h⟩
end
end Go
namespace Go.AM
open Go
set_option autoImplicit false
def Snd (P:Program) (f:FuncId) (g:Fun):Prop:=FSound P f g∧Enters P f
theorem denF_fsound {P:Program} (hm:P.follows .mixedOrders = true) {γ:FuncId→Option Fun} (hγ:GSound P γ) {f:FuncId} {fn:Func} (x:Hint) (hf:P.funcs[f]? = some fn):FSound P f (denF P γ fn x):=by
 cases hb:fn.body with
 | some c=>exact denF_sound hm hγ x hf hb
 | none=>
  intro N0 hN ρ h w args Args v h' e
  unfold denF at e
  rw [hb] at e
  have e:Res.fail = .ret v h':=e
  cases e
theorem snd_of {P:Program} (hm:P.follows .mixedOrders = true) {γ:FuncId→Option Fun} (hγ:GSound P γ) {f:FuncId} {fn:Func} {x:Hint} {g:Fun} (hf:P.funcs[f]? = some fn)
  (hn:(fn.name == "runtime.NumGoroutine") = false) (hb:fn.body.isSome = true) (e:g = denF P γ fn x):Snd P f g:=by
 obtain ⟨c,hc⟩:=Option.isSome_iff_exists.1 hb
 exact ⟨e ▸ denF_fsound hm hγ x hf,enters_of hf hn hc⟩
theorem snd_fail {P:Program} {f:FuncId} {fn:Func} (hf:P.funcs[f]? = some fn) (hn:(fn.name == "runtime.NumGoroutine") = false) (hb:fn.body.isSome = true):Snd P f (fun _ _=>.fail):=by
 obtain ⟨c,hc⟩:=Option.isSome_iff_exists.1 hb
 exact ⟨fun N0 hN ρ h w args Args v h' e=>(by have e:Res.fail = .ret v h':=e; cases e),enters_of hf hn hc⟩
theorem gcons {P:Program} {f:FuncId} {g:Fun} {l:List (Nat×Fun)} (h1:Snd P f g) (h3:GSound P (gam l)):GSound P (gam ((f,g) :: l)):=gam_cons h1.1 h1.2 h3
theorem gconsE {P:Program} {f:FuncId} {g:Fun} {l:List (Nat×Fun)} (h1:ESound P f g) (h3:GSound P (gam l)):GSound P (gam ((f,g) :: l)):=gam_consO (.inr h1) h3
theorem gnil {P:Program}:GSound P (gam []):=gam_nil
end Go.AM
namespace Go.AM
open Go
set_option autoImplicit false
section
variable (k:AV→Res) (kh:AV→Hp→Res) (h:Hp) (v w:AV) (vs:List AV) (r x y:Res) (b:Bool) (i:Nat)
theorem uc_c (k:AV→List AV→Res):uc (v :: vs) k = k v vs:=of_eq_true (eq_self _)
theorem uz_n:uz [] r = r:=of_eq_true (eq_self _)
theorem cI_i (c:Nat) (n:Int) (k:Nat→Int→Res):cI (.int c n) k = k c n:=of_eq_true (eq_self _)
theorem cB_b (k:Bool→Res):cB (.bool b) k = k b:=of_eq_true (eq_self _)
theorem cT_t:cT (.tup v) k = k v:=of_eq_true (eq_self _)
theorem nth_z (t:AV):nth (.cons v t) 0 = v:=of_eq_true (eq_self _)
theorem nth_1 (a t:AV):nth (.cons a (.cons v t)) 1 = v:=of_eq_true (eq_self _)
theorem cK_b:cK (.bool b) k = k (.bool b):=of_eq_true (eq_self _)
theorem cK_i (c:Nat) (n:Int):cK (.int c n) k = k (.int c n):=of_eq_true (eq_self _)
theorem ifB_t:ifB true x y = x:=of_eq_true (eq_self _)
theorem ifB_f:ifB false x y = y:=of_eq_true (eq_self _)
theorem ap_e:ap v k = k v:=of_eq_true (eq_self _)
theorem sel_t:sel true v w = v:=of_eq_true (eq_self _)
theorem sel_f:sel false v w = w:=of_eq_true (eq_self _)
theorem gsel_tt:gsel (.bool true) true v = v:=of_eq_true (eq_self _)
theorem gsel_tf:gsel (.bool true) false v = .tup .nil:=of_eq_true (eq_self _)
theorem gsel_ft:gsel (.bool false) true v = .tup .nil:=of_eq_true (eq_self _)
theorem gsel_ff:gsel (.bool false) false v = v:=of_eq_true (eq_self _)
theorem gd_tt:gd (.bool true) true x y = x:=of_eq_true (eq_self _)
theorem gd_tf:gd (.bool true) false x y = y:=of_eq_true (eq_self _)
theorem gd_ft:gd (.bool false) true x y = y:=of_eq_true (eq_self _)
theorem gd_ff:gd (.bool false) false x y = x:=of_eq_true (eq_self _)
theorem gd_u (t:AV) (want:Bool):gd (.tup t) want x y = y:=of_eq_true (eq_self _)
theorem gsel_u (t:AV) (want:Bool):gsel (.tup t) want v = .tup .nil:=of_eq_true (eq_self _)
theorem jn_n (k:List AV→Hp→Res):jn (.norm vs h) k = k vs h:=of_eq_true (eq_self _)
theorem jn_r (k:List AV→Hp→Res):jn (.ret v h) k = .ret v h:=of_eq_true (eq_self _)
theorem blk_n (id:Nat) (k:List AV→Hp→Res):blk id (.norm vs h) k = k vs h:=of_eq_true (eq_self _)
theorem blk_r (id:Nat) (k:List AV→Hp→Res):blk id (.ret v h) k = .ret v h:=of_eq_true (eq_self _)
theorem cl_r:cl (.ret v h) kh = kh v h:=of_eq_true (eq_self _)
variable (c:Nat) (m n:Int)
theorem bin2_i (k:Nat→Int→Int→Res):bin2 (.int c m) (.int c n) k = k c m n:=by
 have:bin2 (.int c m) (.int c n) k = ifB (Nat.beq c c) (k c m n) .fail:=of_eq_true (eq_self _)
 rw [this,(beq_iff c c).2 rfl]; rfl
theorem iAdd_i:iAdd (.int c m) (.int c n) k = k (.int c (wrapC c (m + n))):=bin2_i c m n _
theorem iSub_i:iSub (.int c m) (.int c n) k = k (.int c (wrapC c (m - n))):=bin2_i c m n _
theorem iMul_i:iMul (.int c m) (.int c n) k = k (.int c (wrapC c (m * n))):=bin2_i c m n _
theorem iAnd_i:iAnd (.int c m) (.int c n) k = k (.int c (wrapC c (Int.ofNat (Nat.land (toU c m) (toU c n))))):=bin2_i c m n _
theorem iOr_i:iOr (.int c m) (.int c n) k = k (.int c (wrapC c (Int.ofNat (Nat.lor (toU c m) (toU c n))))):=bin2_i c m n _
theorem iConv_i (d:Nat):iConv d (.int c m) k = k (.int d (wrapC d m)):=of_eq_true (eq_self _)
theorem bNot_b:bNot (.bool b) k = k (.bool (!b)):=by cases b <;> rfl
theorem eqN_i (k:Bool→Res):eqN (.int c m) (.int c n) k = k (m == n):=by
 have:eqN (.int c m) (.int c n) k = bin2 (.int c m) (.int c n) fun _ a b=>k (eqI a b):=of_eq_true (eq_self _)
 rw [this,bin2_i,eqI_eq]
theorem ltN_i (k:Bool→Res):ltN (.int c m) (.int c n) k = k (decide (m < n)):=by
 have:ltN (.int c m) (.int c n) k = bin2 (.int c m) (.int c n) fun _ a b=>k (ltI a b):=of_eq_true (eq_self _)
 rw [this,bin2_i,ltI_eq]
theorem bnot_e:bnot b = !b:=by cases b <;> rfl
theorem iShl_i (d j:Nat) (hj:j≤bitsC c):iShl (.int c m) (.int d (Int.ofNat j)) k = k (.int c (wrapC c (m * Int.ofNat (2 ^ j)))):=by
 have:iShl (.int c m) (.int d (Int.ofNat j)) k = k (.int c (wrapC c (m * Int.ofNat (2 ^ (Bool.rec (motive:=fun _=>Nat) (bitsC c) j (Nat.ble j (bitsC c))))))):=of_eq_true (eq_self _)
 rw [this,(ble_iff _ _).2 hj]
theorem iShr_i (d j:Nat) (hj:j≤bitsC c):iShr (.int c m) (.int d (Int.ofNat j)) k = k (.int c (shrI m j)):=by
 have:iShr (.int c m) (.int d (Int.ofNat j)) k = k (.int c (shrI m (Bool.rec (motive:=fun _=>Nat) (bitsC c) j (Nat.ble j (bitsC c))))):=of_eq_true (eq_self _)
 rw [this,(ble_iff _ _).2 hj]
end
@[congr] theorem ifB_cg {b b':Bool} (h:b = b') (x y:Res):ifB b x y = ifB b' x y:=by rw [h]
@[congr] theorem jn_cg {r r':Res} (h:r = r') (k:List AV→Hp→Res):jn r k = jn r' k:=by rw [h]
@[congr] theorem blk_cg {r r':Res} (h:r = r') (id:Nat) (k:List AV→Hp→Res):blk id r k = blk id r' k:=by rw [h]
@[congr] theorem cl_cg {r r':Res} (h:r = r') (k:AV→Hp→Res):cl r k = cl r' k:=by rw [h]
@[congr] theorem cK_cg {v v':AV} (h:v = v') (k:AV→Res):cK v k = cK v' k:=by rw [h]
@[congr] theorem cB_cg {v v':AV} (h:v = v') (k:Bool→Res):cB v k = cB v' k:=by rw [h]
@[congr] theorem cI_cg {v v':AV} (h:v = v') (k:Nat→Int→Res):cI v k = cI v' k:=by rw [h]
@[congr] theorem cT_cg {v v':AV} (h:v = v') (k:AV→Res):cT v k = cT v' k:=by rw [h]
@[congr] theorem gd_cg {v v':AV} (h:v = v') (w:Bool) (x y:Res):gd v w x y = gd v' w x y:=by rw [h]
@[congr] theorem ap_cg {v v':AV} (h:v = v') (k:AV→Res):ap v k = ap v' k:=by rw [h]
@[congr] theorem bNot_cg {v v':AV} (h:v = v') (k:AV→Res):bNot v k = bNot v' k:=by rw [h]
@[congr] theorem iConv_cg {v v':AV} (h:v = v') (c:Nat) (k:AV→Res):iConv c v k = iConv c v' k:=by rw [h]
@[congr] theorem uc_cg {v v':List AV} (h:v = v') (k:AV→List AV→Res):uc v k = uc v' k:=by rw [h]
@[congr] theorem eqN_cg {v v' w w':AV} (h:v = v') (h':w = w') (k:Bool→Res):eqN v w k = eqN v' w' k:=by rw [h,h']
@[congr] theorem ltN_cg {v v' w w':AV} (h:v = v') (h':w = w') (k:Bool→Res):ltN v w k = ltN v' w' k:=by rw [h,h']
@[congr] theorem eqB_cg {v v' w w':AV} (h:v = v') (h':w = w') (k:Bool→Res):eqB v w k = eqB v' w' k:=by rw [h,h']
@[congr] theorem iAdd_cg {v v' w w':AV} (h:v = v') (h':w = w') (k:AV→Res):iAdd v w k = iAdd v' w' k:=by rw [h,h']
@[congr] theorem iSub_cg {v v' w w':AV} (h:v = v') (h':w = w') (k:AV→Res):iSub v w k = iSub v' w' k:=by rw [h,h']
@[congr] theorem iMul_cg {v v' w w':AV} (h:v = v') (h':w = w') (k:AV→Res):iMul v w k = iMul v' w' k:=by rw [h,h']
@[congr] theorem iQuo_cg {v v' w w':AV} (h:v = v') (h':w = w') (k:AV→Res):iQuo v w k = iQuo v' w' k:=by rw [h,h']
@[congr] theorem iRem_cg {v v' w w':AV} (h:v = v') (h':w = w') (k:AV→Res):iRem v w k = iRem v' w' k:=by rw [h,h']
@[congr] theorem iAnd_cg {v v' w w':AV} (h:v = v') (h':w = w') (k:AV→Res):iAnd v w k = iAnd v' w' k:=by rw [h,h']
@[congr] theorem iOr_cg {v v' w w':AV} (h:v = v') (h':w = w') (k:AV→Res):iOr v w k = iOr v' w' k:=by rw [h,h']
@[congr] theorem iXor_cg {v v' w w':AV} (h:v = v') (h':w = w') (k:AV→Res):iXor v w k = iXor v' w' k:=by rw [h,h']
@[congr] theorem iShl_cg {v v' w w':AV} (h:v = v') (h':w = w') (k:AV→Res):iShl v w k = iShl v' w' k:=by rw [h,h']
@[congr] theorem iShr_cg {v v' w w':AV} (h:v = v') (h':w = w') (k:AV→Res):iShr v w k = iShr v' w' k:=by rw [h,h']
theorem wrap_bmod (k:IntKind) (h:k.signed = true) (n:Int):k.wrap n = Int.bmod n (2 ^ k.bits):=by
 unfold IntKind.wrap Int.bmod
 cases k <;> simp [IntKind.signed] at h <;> simp [IntKind.bits,IntKind.signed] <;> omega
theorem w63 (n:Int):wrapC 63 n = Int.bmod n 18446744073709551616:=(wrapC_eq .i64 n).trans (wrap_bmod .i64 rfl n)
theorem w31 (n:Int):wrapC 31 n = Int.bmod n 4294967296:=(wrapC_eq .i32 n).trans (wrap_bmod .i32 rfl n)
theorem wrap_umod (k:IntKind) (h:k.signed = false) (n:Int):k.wrap n = n % 2 ^ k.bits:=by
 unfold IntKind.wrap
 simp [h]
theorem w64 (n:Int):wrapC 64 n = n % 18446744073709551616:=(wrapC_eq .u64 n).trans (wrap_umod .u64 rfl n)
theorem w32 (n:Int):wrapC 32 n = n % 4294967296:=(wrapC_eq .u32 n).trans (wrap_umod .u32 rfl n)
theorem w16 (n:Int):wrapC 16 n = n % 65536:=(wrapC_eq .u16 n).trans (wrap_umod .u16 rfl n)
theorem w8 (n:Int):wrapC 8 n = n % 256:=(wrapC_eq .u8 n).trans (wrap_umod .u8 rfl n)
theorem w63_in (n:Int) (h1:-9223372036854775808≤n) (h2:n < 9223372036854775808):wrapC 63 n = n:=by rw [w63]; simp only [Int.bmod]; split <;> omega
theorem w31_in (n:Int) (h1:-2147483648≤n) (h2:n < 2147483648):wrapC 31 n = n:=by rw [w31]; simp only [Int.bmod]; split <;> omega
theorem w16_in (n:Int) (h1:0≤n) (h2:n < 65536):wrapC 16 n = n:=by rw [w16]; omega
end Go.AM
namespace Go.AM
open Go
set_option autoImplicit false
theorem efail {P:Program} {f:FuncId}:ESound P f (fun _ _=>.fail):=fun N0 hN ρ h w args Args v h' e=>by have e:Res.fail = .ret v h':=e; cases e
theorem idxB_eq (x:Nat) (c:UInt8):∀ (l:List UInt8) (i:Nat),(∀ j (hj:j < l.length),byteAt x (i + j) = l[j].toNat)→idxB x c.toNat l.length i = if Lib.indexByte l c = -1 then -1 else Lib.indexByte l c + i:=by
 intro l
 induction l with
 | nil=>intro i _; rfl
 | cons b l ih=>
  intro i h
  have e:idxB x c.toNat (l.length + 1) i = Bool.rec (motive:=fun _=>Int) (idxB x c.toNat l.length (i + 1)) (Int.ofNat i) (Nat.beq (byteAt x i) c.toNat):=rfl
  rw [List.length_cons,e,recB]
  have h0:=h 0 (by simp)
  simp only [Nat.add_zero,List.getElem_cons_zero] at h0
  rw [h0]
  simp only [beq_iff]
  have hge:=Lib.indexByte_ge l c
  unfold Lib.indexByte
  by_cases hb:b = c
  ·subst hb
   simp
  ·have hn:¬ b.toNat = c.toNat:=fun h=>hb (UInt8.toNat_inj.1 h)
   have hb':(b == c) = false:=by simpa using hb
   rw [if_neg hn,ih (i + 1) (fun j hj=>by
    have:=h (j + 1) (by simpa using hj)
    rw [show i + 1 + j = i + (j + 1) by omega]
    simpa using this),hb']
   simp only [Bool.false_eq_true,if_false,beq_iff_eq]
   split
   ·simp
   ·rw [if_neg (by omega)]; omega
theorem cntB_eq (x:Nat) (c:UInt8):∀ (l:List UInt8) (i:Nat),(∀ j (hj:j < l.length),byteAt x (i + j) = l[j].toNat)→cntB x c.toNat l.length i = Lib.countByte l c:=by
 intro l
 induction l with
 | nil=>intro i _; rfl
 | cons b l ih=>
  intro i h
  have e:cntB x c.toNat (l.length + 1) i = Bool.rec (motive:=fun _=>Nat) (cntB x c.toNat l.length (i + 1)) (Nat.succ (cntB x c.toNat l.length (i + 1))) (Nat.beq (byteAt x i) c.toNat):=rfl
  rw [List.length_cons,e,recB]
  have h0:=h 0 (by simp)
  simp only [Nat.add_zero,List.getElem_cons_zero] at h0
  rw [h0]
  simp only [beq_iff]
  rw [ih (i + 1) (fun j hj=>by
   have:=h (j + 1) (by simpa using hj)
   rw [show i + 1 + j = i + (j + 1) by omega]
   simpa using this)]
  unfold Lib.countByte
  rw [List.count_cons]
  by_cases hb:b = c
  ·subst hb; simp
  ·have hn:¬ b.toNat = c.toNat:=fun h=>hb (UInt8.toNat_inj.1 h)
   rw [if_neg hn]
   simp [hb]
section
variable {P:Program} {f:FuncId} {fn:Func}
theorem x2_inv {ρ:Rho} {args:List AV} {Args:Array Value} {h h':Hp} {v:AV} {r:Nat→Nat→Nat→Int}
  (e:now (List.rec (motive:=fun _=>Res) .fail (fun s t _=>List.rec (motive:=fun _=>Res) .fail (fun c t _=>List.rec (motive:=fun _=>Res)
   (cS s fun n x=>cI c fun d b=>ifB (Nat.beq d 8) (Int.rec (motive:=fun _=>Res) (fun b=>ifB (Nat.blt b 256) (.ret (.int 63 (r n x b)) h) .fail) (fun _=>.fail) b) .fail) (fun _ _ _=>.fail) t) t) args:Res) = .ret v h')
  (ha:F2 (VR ρ) args Args.toList):∃ (s:ByteArray) (c:UInt8),Args = #[.string s,.int .u8 c.toNat]∧v = .int 63 (r s.data.size (packB s.data.toList) c.toNat)∧h' = h:=by
 cases ha':Args.toList with
 | nil=>
  rw [ha'] at ha
  cases ha
  exact absurd (show Res.fail = .ret v h' from e) (by simp)
 | cons A L=>
  rw [ha'] at ha
  cases ha with
  | @cons a _ _ _ hA hL=>
   cases hL with
   | nil=>exact absurd (show Res.fail = .ret v h' from e) (by simp)
   | @cons b _ _ _ hB hL2=>
    cases hL2 with
    | cons hC hL3=>exact absurd (show Res.fail = .ret v h' from e) (by simp)
    | nil=>
     have e:(cS a fun n x=>cI b fun d c=>ifB (Nat.beq d 8) (Int.rec (motive:=fun _=>Res) (fun c=>ifB (Nat.blt c 256) (.ret (.int 63 (r n x c)) h) .fail) (fun _=>.fail) c) .fail) = .ret v h':=by
      rw [← e]
      refine Eq.symm ?_
      show now (cS a _) = _
      rw [now_cS]; refine congrArg _ (funext fun n=>funext fun x=>?_)
      rw [now_cI]; refine congrArg _ (funext fun d=>funext fun c=>?_)
      rw [now_ifB]; refine congrArg (fun z=>ifB (Nat.beq d 8) z .fail) ?_
      cases c with
      | ofNat m=>show now (ifB _ _ _) = _; rw [now_ifB]; rfl
      | negSucc m=>rfl
     obtain ⟨n,x,rfl,e1⟩:=cS_inv e (by simp)
     obtain ⟨d,c,rfl,e2⟩:=cI_inv e1 (by simp)
     obtain ⟨hd,e3⟩:=ifF_inv e2 (by simp)
     rw [beq_iff] at hd
     subst hd
     obtain ⟨m,rfl,e4⟩:=natC_inv e3 (by simp)
     obtain ⟨hm,e5⟩:=ifF_inv e4 (by simp)
     rw [blt_iff] at hm
     obtain ⟨s,rfl,rfl,rfl⟩:=hA
     obtain ⟨k,hk,rfl⟩:=hB
     obtain rfl:k = .u8:=cOf_inj _ _ hk
     cases e5
     refine ⟨s,UInt8.ofNat m,?_,?_,rfl⟩
     ·apply Array.toList_inj.1
      rw [ha']
      have:((UInt8.ofNat m).toNat:Int) = m:=by rw [u8n _ hm]
      rw [this]
     ·rw [u8n _ hm]
theorem xIdx_e (hf:P.funcs[f]? = some fn) (hn:(fn.name == "runtime.NumGoroutine") = false) (hb:fn.body.isNone = true) (hx:Extern.findNext fn = none) (he:Extern.find fn = some Extern.BytealgIndexByte.indexByte):ESound P f xIdx:=by
 intro N0 hN ρ h w args Args v h' e hi ha
 obtain ⟨s,c,rfl,rfl,rfl⟩:=x2_inv (r:=fun n x b=>idxB x b n 0) e ha
 refine ⟨.int .i64 (Lib.indexByte s.data.toList c),w,ρ,?_,⟨.i64,rfl,?_⟩,hi,Tr.refl _ _ _⟩
 ·rw [run_callFunc_extern hf hn hb hx he,Lib.run_indexByteString]
  simp
 ·have h1:=idxB_eq (packB s.data.toList) c s.data.toList 0 (fun j hj=>by rw [Nat.zero_add]; exact byteAt_eq _ _ hj)
  simp only [Array.length_toList] at h1
  rw [h1]
  have hge:=Lib.indexByte_ge s.data.toList c
  congr 1
  split
  ·rename_i h0; exact h0
  ·simp
theorem xCnt_e (hf:P.funcs[f]? = some fn) (hn:(fn.name == "runtime.NumGoroutine") = false) (hb:fn.body.isNone = true) (hx:Extern.findNext fn = none) (he:Extern.find fn = some Extern.BytealgCount.count):ESound P f xCnt:=by
 intro N0 hN ρ h w args Args v h' e hi ha
 obtain ⟨s,c,rfl,rfl,rfl⟩:=x2_inv (r:=fun n x b=>Int.ofNat (cntB x b n 0)) e ha
 refine ⟨.int .i64 (Lib.countByte s.data.toList c),w,ρ,?_,⟨.i64,rfl,?_⟩,hi,Tr.refl _ _ _⟩
 ·rw [run_callFunc_extern hf hn hb hx he,Lib.run_countString]
  simp
 ·have h1:=cntB_eq (packB s.data.toList) c s.data.toList 0 (fun j hj=>by rw [Nat.zero_add]; exact byteAt_eq _ _ hj)
  simp only [Array.length_toList] at h1
  rw [h1]; rfl
end
end Go.AM
