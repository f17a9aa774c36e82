/-
  An abstract machine for the model's code, part 2: what it answers is what the model does.
-/
import Derived.Test.YtbkkfmjofmfijaaGreatDoorEa
import Derived.Laws.MakeOwn
import Derived.Laws.BytesString
import Derived.Laws.Append
import Derived.Laws.IdiomStrings
set_option linter.unusedVariables false
set_option linter.unusedSimpArgs false
namespace Go.AM
open Go
set_option autoImplicit false
structure Base where
 n:Nat
 g:Option Nat
instance:Coe Base Nat:=⟨Base.n⟩
def Base.J (N0:Base) (w:World):Prop:=∀ g,N0.g = some g→g < N0.n∧∃ m,w.cell? ⟨g,0,none⟩ = some (.int .i64 m)
theorem Base.st {N0:Base} {w w':World} (h:N0.J w) (hw:∀ r,r < N0.n→w'.heap[r]? = w.heap[r]?):N0.J w':=by
 intro g hg
 obtain ⟨h1,m,h2⟩:=h g hg
 refine ⟨h1,m,?_⟩
 unfold World.cell? at h2 ⊢
 rw [show w'.heap[(⟨g,0,none⟩:Addr).block]? = w.heap[g]? from hw g h1]
 exact h2
def Base.fits (N0:Base) (P:Program):Prop:=N0.g = P.globalNamed "internal/bytealg.MaxLen"
def readable (h:Hp) (b:Nat) (B:Blk):Prop:=B.fr = true→(h.grp B.g).2≤b
def Uf (fz:Nat×Nat) (n:Nat):Prop:=fz.1 = fz.2∨n≤fz.1
theorem Uf.at {fz:Nat×Nat} {n j:Nat} (h:Uf fz n) (hj:j < n):¬ (fz.1≤j∧j < fz.2):=by rcases h with h | h <;> omega
structure BR (N0:Base) (ρ:Rho) (h:Hp) (w:World) (b:Nat) (B:Blk) (p:Pl):Prop where
 obj:∃ cs e fz,w.heap[p.r]? = some (.cells cs e fz)∧cs.size = p.sz∧(B.fr = true→Uf fz p.sz) ∧
  (readable h b B→∀ i,i < B.lim→∃ V,cs[p.base + i]? = some V∧VR ρ (B.at i) V)
 fit:p.base + B.lim≤p.sz
 side:(B.fr = true→N0≤p.r)∧(B.fr = false→p.r < N0)
def ELR (ρ:Rho):AV→List MapEntry→Prop
 | .nil,l=>l = []
 | .cons (.cons k v) t,l=>∃ e l',l = e :: l'∧VR ρ k e.key∧VR ρ v e.val∧ELR ρ t l'
 | _,_=>False
def MR (ρ:Rho) (p:Pl) (m:AV):Obj→Prop
 | .map es c=>ELR ρ m es.toList∧(∀ x∈es.toList,x.born < c)∧(es.toList.map (·.born)).Nodup
 | .stringIter s pos=>p.base = 0∧m = itr s.data.size (packB s.data.toList) pos
 | _=>False
structure MInv (N0:Base) (ρ:Rho) (ms:T AV) (nb:Nat) (w:World):Prop where
 ent:∀ b m,ms.get b = some m→b < nb∧∃ p o,ρ b = some p∧N0≤p.r∧w.heap[p.r]? = some o∧MR ρ p m o
 inj:∀ b1 b2 m1 m2 p1 p2,ms.get b1 = some m1→ms.get b2 = some m2→ρ b1 = some p1→ρ b2 = some p2→p1.r = p2.r→b1 = b2
theorem ELR.ext {ρ ρ':Rho} (he:Ext ρ ρ'):∀ (x:AV) (l:List MapEntry),ELR ρ x l→ELR ρ' x l:=by
 intro x
 induction x with
 | nil=>intro l h; exact h
 | cons a t _ iht=>
  intro l h
  cases a with
  | cons k v=>
   obtain ⟨e,l',rfl,h1,h2,h3⟩:=h
   exact ⟨e,l',rfl,h1.ext he,h2.ext he,iht l' h3⟩
  | _=>exact h.elim
 | _=>intro l h; exact h.elim
theorem MR.cells {ρ:Rho} {p:Pl} {m:AV} {o:Obj} (h:MR ρ p m o):∀ cs e fz,o ≠ .cells cs e fz:=by
 intro cs e fz ho
 rw [ho] at h
 exact h.elim
theorem MR.ext {ρ ρ':Rho} (he:Ext ρ ρ') {p:Pl} {m:AV} {o:Obj} (h:MR ρ p m o):MR ρ' p m o:=by
 cases o <;> first
  | exact h.elim
  | skip
 ·rename_i es c
  exact ⟨ELR.ext he m es.toList h.1,h.2⟩
 ·exact h
theorem MInv.later {N0:Base} {ρ ρ':Rho} {ms:T AV} {nb nb':Nat} {w w':World} (h:MInv N0 ρ ms nb w) (he:Ext ρ ρ') (hn:nb≤nb') (hw:∀ (r:Nat) (o:Obj),w.heap[r]? = some o→(∀ cs e fz,o ≠ .cells cs e fz)→w'.heap[r]? = w.heap[r]?):MInv N0 ρ' ms nb' w' where
 ent:=fun b m hb=>by
  obtain ⟨h1,p,o,h2,h3,h4,h5⟩:=h.ent b m hb
  exact ⟨Nat.lt_of_lt_of_le h1 hn,p,o,he _ _ h2,h3,by rw [hw _ _ h4 h5.cells]; exact h4,h5.ext he⟩
 inj:=fun b1 b2 m1 m2 p1 p2 h1 h2 e1 e2 er=>by
  obtain ⟨-,q1,-,k1,-⟩:=h.ent b1 m1 h1
  obtain ⟨-,q2,-,k2,-⟩:=h.ent b2 m2 h2
  have f1:=he _ _ k1
  have f2:=he _ _ k2
  rw [e1] at f1
  rw [e2] at f2
  obtain rfl:=Option.some.inj f1
  obtain rfl:=Option.some.inj f2
  exact h.inj b1 b2 m1 m2 _ _ h1 h2 k1 k2 er
structure Inv (N0:Base) (ρ:Rho) (h:Hp) (w:World):Prop where
 blk:∀ b B,h.bs.get b = some B→∃ p,ρ b = some p∧BR N0 ρ h w b B p
 nb:∀ b B,h.bs.get b = some B→b < h.nb
 gnb:∀ b B,h.bs.get b = some B→B.fr = true→B.g < h.nb∧b≤(h.grp B.g).1
 gs:∀ g q,h.gs.get g = some q→g < h.nb∧q.1 < h.nb∧q.2≤q.1
 als:∀ b1 b2 B1 B2 p1 p2,h.bs.get b1 = some B1→h.bs.get b2 = some B2→B1.fr = true→B2.fr = true→ρ b1 = some p1→ρ b2 = some p2→p1.r = p2.r→B1.g = B2.g
 lim:∀ b1 b2 B1 B2 p1 p2,h.bs.get b1 = some B1→h.bs.get b2 = some B2→B1.fr = true→B2.fr = true→ρ b1 = some p1→ρ b2 = some p2→B1.g = B2.g →
  readable h b1 B1→readable h b2 B2→b1≤b2→B1.lim≤B2.lim∧(p1.r = p2.r→p1.base = p2.base)
 free:∀ i,h.nb≤i→ρ i = none
 wsz:N0≤w.heap.size
 mp:MInv N0 ρ h.ms h.nb w
 jj:N0.J w
structure Tr (ρ:Rho) (h:Hp) (w:World) (ρ':Rho) (h':Hp) (w':World):Prop where
 ext:Ext ρ ρ'
 nb:h.nb≤h'.nb
 new:∀ b p,ρ' b = some p→ρ b = some p∨(ρ b = none∧h.nb≤b∧b < h'.nb)
 frame:∀ r,r < w.heap.size→(∀ b B p,h.bs.get b = some B→B.fr = true∧h.lo≤b→ρ b = some p→p.r ≠ r)→(∀ b m p,h.ms.get b = some m→h.lo≤b→ρ b = some p→p.r ≠ r)→w'.heap[r]? = w.heap[r]?
 img:∀ l,l≤h.lo→∀ b B p,h'.bs.get b = some B→B.fr = true∧l≤b→ρ' b = some p→w.heap.size≤p.r∨∃ b0 B0 p0,h.bs.get b0 = some B0∧(B0.fr = true∧l≤b0)∧ρ b0 = some p0∧p0.r = p.r
 mimg:∀ l,l≤h.lo→∀ b m p,h'.ms.get b = some m→l≤b→ρ' b = some p→w.heap.size≤p.r∨∃ b0 m0 p0,h.ms.get b0 = some m0∧l≤b0∧ρ b0 = some p0∧p0.r = p.r
 size:w.heap.size≤w'.heap.size
 tape:w'.tape = w.tape
 os:w'.os = w.os
 output:w'.output = w.output
 lo:h'.lo = h.lo
theorem MInv.same {N0:Base} {ρ ρ':Rho} {ms:T AV} {nb:Nat} {w:World} (h:MInv N0 ρ ms nb w) (he:Ext ρ ρ') (l0:Nat):∀ lo,lo≤l0→∀ b m p,ms.get b = some m→lo≤b→ρ' b = some p→w.heap.size≤p.r∨∃ b0 m0 p0,ms.get b0 = some m0∧lo≤b0∧ρ b0 = some p0∧p0.r = p.r:=by
 intro lo _ b m p hb hlo hp
 obtain ⟨-,q,-,k1,-⟩:=h.ent b m hb
 have f1:=he _ _ k1
 rw [hp] at f1
 obtain rfl:=Option.some.inj f1
 exact .inr ⟨b,m,_,hb,hlo,k1,rfl⟩
theorem Tr.refl (ρ:Rho) (h:Hp) (w:World):Tr ρ h w ρ h w:=
 ⟨Ext.refl ρ,Nat.le_refl _,fun _ _ e=>.inl e,fun _ _ _ _=>rfl,fun _ _ b B p h1 h2 h3=>.inr ⟨b,B,p,h1,h2,h3,rfl⟩,fun _ _ b m p h1 h2 h3=>.inr ⟨b,m,p,h1,h2,h3,rfl⟩,Nat.le_refl _,rfl,rfl,rfl,rfl⟩
theorem Tr.trans {ρ1 ρ2 ρ3:Rho} {h1 h2 h3:Hp} {w1 w2 w3:World} (a:Tr ρ1 h1 w1 ρ2 h2 w2) (b:Tr ρ2 h2 w2 ρ3 h3 w3):Tr ρ1 h1 w1 ρ3 h3 w3 where
 ext:=a.ext.trans b.ext
 nb:=Nat.le_trans a.nb b.nb
 new:=fun x p e=>by
  have ha:=a.nb
  have hb:=b.nb
  rcases b.new x p e with h | ⟨h,h',h''⟩
  ·rcases a.new x p h with h | ⟨h,h',h''⟩
   ·exact .inl h
   ·exact .inr ⟨h,h',by omega⟩
  ·cases hx:ρ1 x with
   | none=>exact .inr ⟨rfl,by omega,h''⟩
   | some q=>rw [a.ext x q hx] at h; cases h
 frame:=fun r hr hn hm=>by
  rw [b.frame r (Nat.lt_of_lt_of_le hr a.size) ?_ ?_,a.frame r hr hn hm]
  ·intro x B p hx hB hp e
   rcases a.img _ (Nat.le_refl _) x B p hx (by rw [← a.lo]; exact hB) hp with h | ⟨b0,B0,p0,g1,g2,g3,g4⟩
   ·omega
   ·exact hn b0 B0 p0 g1 g2 g3 (g4.trans e)
  ·intro x m p hx hl hp e
   rcases a.mimg _ (Nat.le_refl _) x m p hx (by rw [← a.lo]; exact hl) hp with h | ⟨b0,m0,p0,g1,g2,g3,g4⟩
   ·omega
   ·exact hm b0 m0 p0 g1 g2 g3 (g4.trans e)
 img:=fun l hll x B p hx hB hp=>by
  rcases b.img l (by rw [a.lo]; exact hll) x B p hx hB hp with h | ⟨b0,B0,p0,g1,g2,g3,g4⟩
  ·exact .inl (Nat.le_trans a.size h)
  ·rcases a.img l hll b0 B0 p0 g1 g2 g3 with h | ⟨b1,B1,p1,k1,k2,k3,k4⟩
   ·exact .inl (g4 ▸ h)
   ·exact .inr ⟨b1,B1,p1,k1,k2,k3,k4.trans g4⟩
 mimg:=fun l hll x m p hx hl hp=>by
  rcases b.mimg l (by rw [a.lo]; exact hll) x m p hx hl hp with h | ⟨b0,m0,p0,g1,g2,g3,g4⟩
  ·exact .inl (Nat.le_trans a.size h)
  ·rcases a.mimg l hll b0 m0 p0 g1 g2 g3 with h | ⟨b1,m1,p1,k1,k2,k3,k4⟩
   ·exact .inl (g4 ▸ h)
   ·exact .inr ⟨b1,m1,p1,k1,k2,k3,k4.trans g4⟩
 size:=Nat.le_trans a.size b.size
 tape:=b.tape.trans a.tape
 os:=b.os.trans a.os
 output:=b.output.trans a.output
 lo:=b.lo.trans a.lo
theorem at_eq (B:Blk) (i:Nat):B.at i = if i < B.lim then (match B.cs.get i with | some v=>v | none=>nth B.df (i % len B.df)) else .unk:=by
 have h:B.at i = Bool.rec (motive:=fun _=>AV) .unk (Option.rec (motive:=fun _=>AV) (nth B.df (Nat.mod i (len B.df))) (fun v=>v) (B.cs.get i)) (Nat.blt i B.lim):=rfl
 rw [h,recB]; simp only [blt_iff]
 by_cases hi:i < B.lim
 ·rw [if_pos hi,if_pos hi]; cases B.cs.get i <;> rfl
 ·rw [if_neg hi,if_neg hi]
theorem at_lt {B:Blk} {i:Nat} (h:B.at i ≠ .unk):i < B.lim:=by
 rw [at_eq] at h
 by_cases hi:i < B.lim
 ·exact hi
 ·rw [if_neg hi] at h; exact absurd rfl h
theorem gb_inv {h:Hp} {b:Nat} {k:Blk→Res} {r:Res} (e:gb h b k = r) (hr:r ≠ .fail):∃ B,h.bs.get b = some B∧readable h b B∧k B = r:=by
 unfold gb at e
 cases hb:h.bs.get b with
 | none=>rw [hb] at e; exact absurd e.symm hr
 | some B=>
  rw [hb] at e
  refine ⟨B,rfl,?_⟩
  have e:ifB B.fr (ifB (Nat.ble (h.grp B.g).2 b) (k B) .fail) (k B) = r:=e
  rcases ifB_inv e with ⟨h1,h2⟩ | ⟨h1,h2⟩
  ·obtain ⟨h3,h4⟩:=ifF_inv h2 hr
   rw [ble_iff] at h3
   exact ⟨fun _=>h3,h4⟩
  ·exact ⟨fun h=>(by rw [h1] at h; cases h),h2⟩
theorem wb_inv {h:Hp} {b:Nat} {k:Blk→T (Nat×Nat)→Res} {r:Res} (e:wb h b k = r) (hr:r ≠ .fail):
  ∃ B gs,h.bs.get b = some B∧B.fr = true∧(h.grp B.g).1 = b∧((gs = h.gs∧(h.grp B.g).2 = b)∨gs = h.gs.set (b,b) B.g)∧k B gs = r∧h.lo≤b:=by
 unfold wb at e
 obtain ⟨hlo,e⟩:=ifF_inv e hr
 rw [ble_iff] at hlo
 cases hb:h.bs.get b with
 | none=>rw [hb] at e; exact absurd e.symm hr
 | some B=>
  rw [hb] at e
  have e:ifB B.fr (ifB (Nat.beq (h.grp B.g).1 b) (ifB (Nat.beq (h.grp B.g).2 b) (k B h.gs) (k B (h.gs.set (b,b) B.g))) .fail) .fail = r:=e
  obtain ⟨h1,h2⟩:=ifF_inv e hr
  obtain ⟨h3,h4⟩:=ifF_inv h2 hr
  rw [beq_iff] at h3
  rcases ifB_inv h4 with ⟨h5,h6⟩ | ⟨h5,h6⟩
  ·rw [beq_iff] at h5; exact ⟨B,_,rfl,h1,h3,.inl ⟨rfl,h5⟩,h6,hlo⟩
  ·exact ⟨B,_,rfl,h1,h3,.inr rfl,h6,hlo⟩
section
variable {P:Program} {N0:Base} {ρ:Rho} {h:Hp} {w:World} {x y:AV} {X Y:Value} {r:Res}
theorem cell_at {b:Nat} {B:Blk} {p:Pl} (hB:BR N0 ρ h w b B p) (hrd:readable h b B) {i:Nat} (hi:i < B.lim):
  ∃ V,w.cell? ⟨p.r,p.base + i,none⟩ = some V∧VR ρ (B.at i) V:=by
 obtain ⟨cs,e,fz,hw,-,-,hc⟩:=hB.obj
 obtain ⟨V,h1,h2⟩:=hc hrd i hi
 exact ⟨V,by rw [cell_of_row w p.r _ cs e fz hw]; exact h1,h2⟩
theorem ld1_ok {t:TypeId} {k:AV→Res} (hi:Inv N0 ρ h w) (ht:ag (P.underlying t) = false) (hok:okT P t = true) (e:ld1 h x k = r) (hr:r ≠ .fail) (hx:VR ρ x X):
  ∃ v V,k v = r∧VR ρ v V∧(Instr.loadAt t X).run P w = .ok V w:=by
 obtain ⟨b,o,rfl,h1⟩:=cP_inv e hr
 obtain ⟨B,hb,hrd,h2⟩:=gb_inv h1 hr
 obtain ⟨h3,h4⟩:=cK_inv h2 hr
 obtain ⟨p,hp,rfl⟩:=hx
 obtain ⟨p',hp',hB⟩:=hi.blk b B hb
 obtain rfl:p = p':=by rw [hp] at hp'; exact Option.some.inj hp'
 obtain ⟨V,hc,hv⟩:=cell_at hB hrd (at_lt h3)
 refine ⟨_,V,h4,hv,?_⟩
 unfold okT at hok
 cases hu:P.underlying t with
 | none=>rw [hu] at hok; cases hok
 | some d=>
  rw [hu] at ht
  have hna:(isAgg t).run P w = .ok false w:=by
   unfold isAgg
   rw [Sem.run_bind,run_und hu]
   cases d <;> first | rfl | simp [ag] at ht
  simp only [Instr.loadAt,Instr.sureAddr,loadVar,pure_bind]
  rw [Sem.run_bind,hna]
  simp [hc]
end
end Go.AM
namespace Go.AM
open Go
set_option autoImplicit false
structure Wr (w w':World) (g:Nat) (cs:Array Value) (e:TypeId) (fz:Nat×Nat):Prop where
 row:w'.heap[g]? = some (.cells cs e fz)
 other:∀ r,r ≠ g→w'.heap[r]? = w.heap[r]?
 size:w'.heap.size = w.heap.size
 tape:w'.tape = w.tape
 os:w'.os = w.os
 output:w'.output = w.output
section
variable {P:Program} {N0:Base} {ρ:Rho} {h:Hp} {w:World} {x y:AV} {X Y:Value} {r:Res}
theorem store_run (g o:Nat) (v:Value) {cur:Array Value} {e:TypeId} {fz:Nat×Nat} (hg:w.heap[g]? = some (.cells cur e fz)) (hf:¬ (fz.1≤o∧o < fz.2)) (ho:o < cur.size) (hv:v.oneCell' = true):
  (store ⟨g,o,none⟩ v).run P w = .ok () (w.setCell ⟨g,o,none⟩ v)∧Wr w (w.setCell ⟨g,o,none⟩ v) g (cur.setIfInBounds o v) e fz:=by
 refine ⟨?_,?_⟩
 ·rw [run_store P w _ v _ hv]
  have hc:w.cell? ⟨g,o,none⟩ = some cur[o]:=by simp [World.cell?,hg,ho]
  have hz:w.frozen? ⟨g,o,none⟩ = false:=by
   simp only [World.frozen?,hg]
   simpa using hf
  rw [hc]; simp [hz]
 ·rw [setCell_eq_setRow w g o cur e fz v hg]
  refine ⟨setRow_heap w g cur _ e fz hg,fun r hr=>?_,by simp,rfl,rfl,rfl⟩
  simp only [World.setRow,Array.getElem?_modify]
  rw [if_neg (fun e=>hr e.symm)]
theorem storeCells_run (g o:Nat) {e:TypeId} {fz:Nat×Nat}:∀ (vs:List Value) (i:Nat) (cur:Array Value) (w:World),w.heap[g]? = some (.cells cur e fz)→(Uf fz cur.size) →
  o + i + vs.length≤cur.size→(∀ v∈vs,v.oneCell' = true) →
  ∃ w' cs,(storeCells ⟨g,o,none⟩ vs i).run P w = .ok () w'∧Wr w w' g cs e fz∧cs.size = cur.size ∧
   ∀ j,cs[j]? = if o + i≤j∧j < o + i + vs.length then vs[j - (o + i)]? else cur[j]?:=by
 intro vs
 induction vs with
 | nil=>
  intro i cur w hg hf hl h1
  refine ⟨w,cur,rfl,⟨hg,fun _ _=>rfl,rfl,rfl,rfl,rfl⟩,rfl,fun j=>?_⟩
  rw [if_neg (by simp)]
 | cons v rest ih=>
  intro i cur w hg hf hl h1
  simp only [List.length_cons] at hl
  obtain ⟨s1,s2⟩:=store_run (P:=P) (w:=w) g (o + i) v hg (hf.at (by omega)) (by omega) (h1 v (by simp))
  have hadd:(⟨g,o,none⟩:Addr).add i = ⟨g,o + i,none⟩:=by unfold Addr.add; split <;> simp_all
  obtain ⟨w',cs,g1,g2,g3,g4⟩:=ih (i + 1) _ _ s2.row (by simpa using hf) (by simp; omega) (fun u hu=>h1 u (by simp [hu]))
  refine ⟨w',cs,?_,⟨g2.row,fun r hr=>(g2.other r hr).trans (s2.other r hr),g2.size.trans s2.size,g2.tape.trans s2.tape,g2.os.trans s2.os,g2.output.trans s2.output⟩,by simpa using g3,fun j=>?_⟩
  ·simp only [storeCells,Sem.run_bind,hadd,s1,Result.andThen_ok,g1]
  ·rw [g4 j]
   by_cases hj:j = o + i
   ·subst hj
    rw [if_neg (by omega),if_pos (by simp)]
    simp [show o + i < cur.size from by omega]
   ·by_cases hr:o + (i + 1)≤j∧j < o + (i + 1) + rest.length
    ·rw [if_pos hr,if_pos (by simp; omega)]
     obtain ⟨m,rfl⟩:∃ m,j = o + i + 1 + m:=⟨j - (o + i + 1),by omega⟩
     rw [show o + i + 1 + m - (o + i) = m + 1 from by omega,show o + i + 1 + m - (o + (i + 1)) = m from by omega]; rfl
    ·rw [if_neg hr,if_neg (by simp; omega)]
     simp [show ¬ o + i = j from fun e=>hj e.symm]
theorem lay_inv:∀ (l:AV) (t:T AV) (o:Nat) {k:T AV→Nat→Res},lay l t o k = r→r ≠ .fail→∃ t',k t' (o + len l) = r ∧
  (∀ j,t'.get j = if o≤j∧j < o + len l then some (nth l (j - o)) else t.get j)∧∀ ρ Vs,LR ρ l Vs→∀ V∈Vs,V.oneCell' = true:=by
 intro l
 induction l with
 | nil=>
  intro t o k e hr
  exact ⟨t,e,fun j=>by rw [if_neg (by simp [len])],fun ρ Vs h=>by have h:Vs = []:=h; subst h; simp⟩
 | cons v l _ ih=>
  intro t o k e hr
  have e:ifB (one v) (lay l (T.set v t o) (o + 1) k) .fail = r:=e
  obtain ⟨h1,h2⟩:=ifF_inv e hr
  obtain ⟨t',h3,h4,h5⟩:=ih _ _ h2 hr
  have hl:len (.cons v l) = len l + 1:=rfl
  refine ⟨t',by rw [hl,show o + (len l + 1) = o + 1 + len l from by omega]; exact h3,fun j=>?_,fun ρ Vs hV=>?_⟩
  ·rw [h4 j,T.get_set,hl]
   by_cases hj:j = o
   ·subst hj; rw [if_neg (by omega),if_pos rfl,if_pos (by omega),Nat.sub_self]; rfl
   ·by_cases hc:o + 1≤j∧j < o + 1 + len l
    ·rw [if_pos hc,if_pos (by omega)]
     obtain ⟨m,rfl⟩:∃ m,j = o + 1 + m:=⟨j - (o + 1),by omega⟩
     rw [show o + 1 + m - (o + 1) = m from by omega,show o + 1 + m - o = m + 1 from by omega]; rfl
    ·rw [if_neg hc,if_neg hj,if_neg (by omega)]
  ·obtain ⟨V,Vs',rfl,g1,g2⟩:=hV
   intro U hU
   rcases List.mem_cons.1 hU with rfl | hU
   ·exact one_cell g1 h1
   ·exact h5 ρ Vs' g2 U hU
 | _=>intro t o k e hr; exact absurd e.symm hr
theorem LR_get {ρ:Rho}:∀ (l:AV) (Vs:List Value),LR ρ l Vs→∀ i V,Vs[i]? = some V→VR ρ (nth l i) V:=by
 intro l
 induction l with
 | nil=>intro Vs h i V e; have h:Vs = []:=h; subst h; simp at e
 | cons v l _ ih=>
  intro Vs h i V e
  obtain ⟨U,Us,rfl,g1,g2⟩:=h
  cases i with
  | zero=>simp at e; subst e; exact g1
  | succ i=>exact ih Us g2 i V (by simpa using e)
 | _=>intro Vs h; exact h.elim
theorem grp_putB {b:Nat} {B:Blk} {t:T AV} {gs:T (Nat×Nat)} (hi:(h.grp B.g).1 = b) (hgs:(gs = h.gs∧(h.grp B.g).2 = b)∨gs = h.gs.set (b,b) B.g):
  (∀ g,((putB h b B t gs).grp g).1 = (h.grp g).1)∧((putB h b B t gs).grp B.g).2 = b∧∀ g,g ≠ B.g→(putB h b B t gs).grp g = h.grp g:=by
 rcases hgs with ⟨rfl,h2⟩ | rfl
 ·exact ⟨fun _=>rfl,h2,fun _ _=>rfl⟩
 ·have hg:∀ g,(putB h b B t (h.gs.set (b,b) B.g)).grp g = if g = B.g then (b,b) else h.grp g:=by
   intro g
   simp only [Hp.grp,putB,T.get_set]
   by_cases e:g = B.g
   ·rw [if_pos e,if_pos e]
   ·rw [if_neg e,if_neg e]
  refine ⟨fun g=>?_,?_,fun g e=>?_⟩
  ·rw [hg]; by_cases e:g = B.g
   ·subst e; rw [if_pos rfl,hi]
   ·rw [if_neg e]
  ·rw [hg,if_pos rfl]
  ·rw [hg,if_neg e]
theorem write_inv {b:Nat} {B:Blk} {p:Pl} {gs:T (Nat×Nat)} {t:T AV} {w':World} {cs:Array Value} {e:TypeId} {fz:Nat×Nat} (hi:Inv N0 ρ h w) (hb:h.bs.get b = some B) (hf:B.fr = true) (hlo:h.lo≤b) (hp:ρ b = some p)
  (hn:(h.grp B.g).1 = b) (hgs:(gs = h.gs∧(h.grp B.g).2 = b)∨gs = h.gs.set (b,b) B.g) (hw:Wr w w' p.r cs e fz) (hs:cs.size = p.sz) (hz:Uf fz p.sz)
  (hc:∀ i,i < B.lim→∃ V,cs[p.base + i]? = some V∧VR ρ ((⟨B.fr,B.g,B.lim,B.df,t⟩:Blk).at i) V):
  Inv N0 ρ (putB h b B t gs) w'∧Tr ρ h w ρ (putB h b B t gs) w':=by
 obtain ⟨q1,q2,q3⟩:=grp_putB (t:=t) hn hgs
 obtain ⟨p',hp',hB⟩:=hi.blk b B hb
 obtain rfl:p = p':=by rw [hp] at hp'; exact Option.some.inj hp'
 have hget:∀ b2,(putB h b B t gs).bs.get b2 = if b2 = b then some ⟨B.fr,B.g,B.lim,B.df,t⟩ else h.bs.get b2:=fun b2=>by simp [putB,T.get_set]
  -- a block that is read as before
 have old:∀ b2 B2 p2,b2 ≠ b→h.bs.get b2 = some B2→ρ b2 = some p2→readable (putB h b B t gs) b2 B2→p2.r ≠ p.r:=by
  intro b2 B2 p2 hne hb2 hp2 hrd he
  cases hf2:B2.fr with
  | false=>
   obtain ⟨p3,hp3,hB2⟩:=hi.blk b2 B2 hb2
   obtain rfl:p2 = p3:=by rw [hp2] at hp3; exact Option.some.inj hp3
   have:=hB2.side.2 hf2
   have:=hB.side.1 hf
   omega
  | true=>
   have hg:=hi.als b2 b B2 B p2 p hb2 hb hf2 hf hp2 hp he
   have:=hrd hf2
   rw [hg,q2] at this
   have:=(hi.gnb b2 B2 hb2 hf2).2
   rw [hg,hn] at this
   omega
 have look:∀ b2 B2,(putB h b B t gs).bs.get b2 = some B2→∃ B2',h.bs.get b2 = some B2'∧B2'.fr = B2.fr∧B2'.g = B2.g∧B2'.lim = B2.lim∧(b2 ≠ b→B2' = B2)∧(b2 = b→B2 = ⟨B.fr,B.g,B.lim,B.df,t⟩):=by
  intro b2 B2 h2
  rw [hget] at h2
  by_cases e:b2 = b
  ·rw [if_pos e] at h2
   obtain rfl:=Option.some.inj h2
   exact ⟨B,by rw [e]; exact hb,rfl,rfl,rfl,fun h=>absurd e h,fun _=>rfl⟩
  ·rw [if_neg e] at h2
   exact ⟨B2,h2,rfl,rfl,rfl,fun _=>rfl,fun h=>absurd h e⟩
 have fl:(h.grp B.g).2≤b:=by
  have:(h.grp B.g).2≤(h.grp B.g).1:=by
   cases hq:h.gs.get B.g with
   | none=>simp [Hp.grp,hq]
   | some q=>have:=(hi.gs _ _ hq).2.2; simpa [Hp.grp,hq] using this
  omega
 have rdd:∀ b2 B2 B2',h.bs.get b2 = some B2'→B2'.fr = B2.fr→B2'.g = B2.g→readable (putB h b B t gs) b2 B2→readable h b2 B2':=by
  intro b2 B2 B2' hb2 e1 e2 hrd hf2
  have:=hrd (e1 ▸ hf2)
  by_cases e:B2.g = B.g
  ·rw [e,q2] at this
   rw [e2,e]; omega
  ·rw [q3 _ e] at this
   rw [e2]; exact this
 refine ⟨⟨?_,?_,?_,?_,?_,?_,hi.free,by rw [hw.size]; exact hi.wsz,hi.mp.later (Ext.refl ρ) (Nat.le_refl _) (fun r o hr ho=>hw.other r fun e0=>by obtain ⟨cs3,e3,fz3,m1,-⟩:=hB.obj; rw [e0,m1] at hr; exact ho _ _ _ (Option.some.inj hr).symm),Base.st hi.jj fun r hr=>hw.other r fun e0=>by have:=hB.side.1 hf; omega⟩,⟨Ext.refl ρ,Nat.le_refl _,fun _ _ e=>.inl e,?_,?_,hi.mp.same (Ext.refl ρ) h.lo,by rw [hw.size]; exact Nat.le_refl _,hw.tape,hw.os,hw.output,rfl⟩⟩
 ·intro b2 B2 h2
  obtain ⟨B2',k1,k2,k3,k4,k5,k6⟩:=look b2 B2 h2
  by_cases e0:b2 = b
  ·subst e0
   obtain rfl:=k6 rfl
   exact ⟨p,hp,⟨cs,_,fz,hw.row,hs,fun _=>hz,fun _ i hlt=>hc i hlt⟩,hB.fit,hB.side⟩
  ·obtain rfl:=k5 e0
   obtain ⟨p2,hp2,hB2⟩:=hi.blk b2 B2' k1
   refine ⟨p2,hp2,?_,hB2.fit,hB2.side⟩
   obtain ⟨cs2,e2,fz2,g1,g2,g3,g4⟩:=hB2.obj
   by_cases hr:p2.r = p.r
   ·obtain ⟨cs3,e3,fz3,m1,m2,-⟩:=hB.obj
    have hsz:p2.sz = p.sz:=by
     rw [hr,m1] at g1
     obtain ⟨rfl,-,-⟩:=Obj.cells.inj (Option.some.inj g1)
     rw [← g2,m2]
    exact ⟨cs,e,fz,by rw [hr]; exact hw.row,by rw [hsz]; exact hs,fun _=>by rw [hsz]; exact hz,fun hrd=>absurd hr (old b2 B2' p2 e0 k1 hp2 hrd)⟩
   ·exact ⟨cs2,e2,fz2,by rw [hw.other _ hr]; exact g1,g2,g3,fun hrd i hlt=>g4 (rdd b2 B2' B2' k1 rfl rfl hrd) i hlt⟩
 ·intro b2 B2 h2
  obtain ⟨B2',k1,-⟩:=look b2 B2 h2
  exact hi.nb b2 B2' k1
 ·intro b2 B2 h2 hf2
  obtain ⟨B2',k1,k2,k3,-⟩:=look b2 B2 h2
  rw [q1]
  rw [← k3]
  exact hi.gnb b2 B2' k1 (k2 ▸ hf2)
 ·intro g q hq
  rcases hgs with ⟨rfl,_⟩ | rfl
  ·exact hi.gs g q hq
  ·have hq:(h.gs.set (b,b) B.g).get g = some q:=hq
   rw [T.get_set] at hq
   by_cases e:g = B.g
   ·rw [if_pos e] at hq
    obtain rfl:=Option.some.inj hq
    have:=hi.gnb b B hb hf
    have:=hi.nb b B hb
    exact ⟨by rw [e]; show B.g < h.nb; omega,this,Nat.le_refl _⟩
   ·rw [if_neg e] at hq; exact hi.gs g q hq
 ·intro b1 b2 B1 B2 p1 p2 h1 h2 f1 f2 e1 e2 er
  obtain ⟨B1',k1,k2,k3,-⟩:=look b1 B1 h1
  obtain ⟨B2',l1,l2,l3,-⟩:=look b2 B2 h2
  rw [← k3,← l3]
  exact hi.als b1 b2 B1' B2' p1 p2 k1 l1 (k2 ▸ f1) (l2 ▸ f2) e1 e2 er
 ·intro b1 b2 B1 B2 p1 p2 h1 h2 f1 f2 e1 e2 eg r1 r2 hle
  obtain ⟨B1',k1,k2,k3,k4,-⟩:=look b1 B1 h1
  obtain ⟨B2',l1,l2,l3,l4,-⟩:=look b2 B2 h2
  rw [← k4,← l4]
  exact hi.lim b1 b2 B1' B2' p1 p2 k1 l1 (k2 ▸ f1) (l2 ▸ f2) e1 e2 (by rw [k3,l3]; exact eg) (rdd _ _ _ k1 k2 k3 r1) (rdd _ _ _ l1 l2 l3 r2) hle
 ·intro r hr hn'
  exact fun _=>hw.other r (fun e=>hn' b B p hb ⟨hf,hlo⟩ hp e.symm)
 ·intro l hll b2 B2 p2 h2 f2 hp2
  obtain ⟨B2',k1,k2,-⟩:=look b2 B2 h2
  exact .inr ⟨b2,B2',p2,k1,⟨k2 ▸ f2.1,f2.2⟩,hp2,rfl⟩
end
end Go.AM
namespace Go.AM
open Go
set_option autoImplicit false
structure Nu (w w':World) (cs:Array Value) (e:TypeId) (fz:Nat×Nat):Prop where
 row:w'.heap[w.heap.size]? = some (.cells cs e fz)
 other:∀ r,r < w.heap.size→w'.heap[r]? = w.heap[r]?
 size:w'.heap.size = w.heap.size + 1
 tape:w'.tape = w.tape
 os:w'.os = w.os
 output:w'.output = w.output
def ups (ρ:Rho) (b:Nat) (p:Pl):Rho:=fun i=>if i = b then some p else ρ i
theorem ups_same (ρ:Rho) (b:Nat) (p:Pl):ups ρ b p b = some p:=by simp [ups]
theorem ups_ne (ρ:Rho) {b i:Nat} (p:Pl) (h:i ≠ b):ups ρ b p i = ρ i:=by simp [ups,h]
theorem ups_ext {ρ:Rho} {b:Nat} (p:Pl) (h:ρ b = none):Ext ρ (ups ρ b p):=by
 intro i q hq
 by_cases e:i = b
 ·subst e; rw [h] at hq; cases hq
 ·rw [ups_ne ρ p e]; exact hq
theorem BR.later {N0:Base} {ρ ρ':Rho} {h h':Hp} {w w':World} {b:Nat} {B:Blk} {p:Pl} (hB:BR N0 ρ h w b B p) (he:Ext ρ ρ') (hw:w'.heap[p.r]? = w.heap[p.r]?) (hr:readable h' b B→readable h b B):BR N0 ρ' h' w' b B p:=by
 obtain ⟨cs,e,fz,g1,g2,g3,g4⟩:=hB.obj
 refine ⟨⟨cs,e,fz,by rw [hw]; exact g1,g2,g3,fun hrd i hi=>?_⟩,hB.fit,hB.side⟩
 obtain ⟨V,k1,k2⟩:=g4 (hr hrd) i hi
 exact ⟨V,k1,k2.ext he⟩
theorem BR.lt {N0:Base} {ρ:Rho} {h:Hp} {w:World} {b:Nat} {B:Blk} {p:Pl} (hB:BR N0 ρ h w b B p):p.r < w.heap.size:=by
 obtain ⟨cs,e,fz,g1,-⟩:=hB.obj
 exact (Array.getElem?_eq_some_iff.1 g1).1
section
variable {P:Program} {N0:Base} {ρ:Rho} {h:Hp} {w:World} {x y:AV} {X Y:Value} {r:Res}
theorem new_inv (tp:Nat) {lim:Nat} {df:AV} {t:T AV} {w':World} {cs:Array Value} {e:TypeId} {fz:Nat×Nat} (hi:Inv N0 ρ h w) (hw:Nu w w' cs e fz) (hz:Uf fz cs.size) (hl:lim≤cs.size)
  (hc:∀ i,i < lim→∃ V,cs[i]? = some V∧VR ρ ((⟨true,h.nb,lim,df,t⟩:Blk).at i) V):
  Inv N0 (ups ρ h.nb ⟨w.heap.size,0,cs.size,tp⟩) (nw h lim df t) w'∧Tr ρ h w (ups ρ h.nb ⟨w.heap.size,0,cs.size,tp⟩) (nw h lim df t) w':=by
 have hfree:ρ h.nb = none:=hi.free _ (Nat.le_refl _)
 have hext:=ups_ext ⟨w.heap.size,0,cs.size,tp⟩ hfree
 have hget:∀ b2,(nw h lim df t).bs.get b2 = if b2 = h.nb then some ⟨true,h.nb,lim,df,t⟩ else h.bs.get b2:=fun b2=>by simp [nw,T.get_set]
 have hgrp:∀ g,(nw h lim df t).grp g = h.grp g:=fun g=>rfl
 have hng:h.grp h.nb = (h.nb,h.nb):=by
  cases hq:h.gs.get h.nb with
  | none=>simp [Hp.grp,hq]
  | some q=>have:=(hi.gs _ _ hq).1; omega
 have look:∀ b2 B2,(nw h lim df t).bs.get b2 = some B2→(b2 = h.nb∧B2 = ⟨true,h.nb,lim,df,t⟩)∨(b2 ≠ h.nb∧h.bs.get b2 = some B2∧b2 < h.nb):=by
  intro b2 B2 h2
  rw [hget] at h2
  by_cases e0:b2 = h.nb
  ·rw [if_pos e0] at h2; exact .inl ⟨e0,(Option.some.inj h2).symm⟩
  ·rw [if_neg e0] at h2; exact .inr ⟨e0,h2,hi.nb _ _ h2⟩
 have plc:∀ b2 B2 p2,h.bs.get b2 = some B2→ups ρ h.nb ⟨w.heap.size,0,cs.size,tp⟩ b2 = some p2→b2 ≠ h.nb→ρ b2 = some p2∧BR N0 ρ h w b2 B2 p2:=by
  intro b2 B2 p2 h2 hp2 hne
  rw [ups_ne _ _ hne] at hp2
  obtain ⟨p3,hp3,hB⟩:=hi.blk b2 B2 h2
  obtain rfl:p2 = p3:=by rw [hp2] at hp3; exact Option.some.inj hp3
  exact ⟨hp2,hB⟩
 refine ⟨⟨?_,?_,?_,?_,?_,?_,?_,by rw [hw.size]; have:=hi.wsz; omega,hi.mp.later hext (Nat.le_succ _) (fun r o hr _=>hw.other r (Array.getElem?_eq_some_iff.1 hr).1),Base.st hi.jj fun r hr=>hw.other r (by have:=hi.wsz; omega)⟩,⟨hext,Nat.le_succ _,?_,fun r hr _ _=>hw.other r hr,?_,hi.mp.same hext h.lo,by rw [hw.size]; omega,hw.tape,hw.os,hw.output,rfl⟩⟩
 ·intro b2 B2 h2
  rcases look b2 B2 h2 with ⟨rfl,rfl⟩ | ⟨hne,h2,hlt⟩
  ·refine ⟨_,ups_same _ _ _,⟨cs,e,fz,hw.row,rfl,fun _=>hz,fun _ i hlt=>?_⟩,by show 0 + lim≤cs.size; omega,fun _=>hi.wsz,fun h=>by cases h⟩
   obtain ⟨V,k1,k2⟩:=hc i hlt
   exact ⟨V,by simpa using k1,k2.ext hext⟩
  ·obtain ⟨p2,hp2,hB⟩:=hi.blk b2 B2 h2
   exact ⟨p2,by rw [ups_ne _ _ hne]; exact hp2,hB.later hext (hw.other _ hB.lt) (fun hrd=>hrd)⟩
 ·intro b2 B2 h2
  rcases look b2 B2 h2 with ⟨rfl,rfl⟩ | ⟨hne,h2,hlt⟩
  ·exact Nat.lt_succ_self _
  ·exact Nat.lt_succ_of_lt hlt
 ·intro b2 B2 h2 hf
  rcases look b2 B2 h2 with ⟨rfl,rfl⟩ | ⟨hne,h2,hlt⟩
  ·refine ⟨Nat.lt_succ_self _,?_⟩
   rw [hgrp]; show h.nb≤(h.grp h.nb).1
   rw [hng]; exact Nat.le_refl _
  ·have:=hi.gnb b2 B2 h2 hf
   exact ⟨Nat.lt_succ_of_lt this.1,this.2⟩
 ·intro g q hq
  have:=hi.gs g q hq
  exact ⟨Nat.lt_succ_of_lt this.1,Nat.lt_succ_of_lt this.2.1,this.2.2⟩
 ·intro b1 b2 B1 B2 p1 p2 h1 h2 f1 f2 e1 e2 er
  rcases look b1 B1 h1 with ⟨rfl,rfl⟩ | ⟨n1,k1,l1⟩ <;> rcases look b2 B2 h2 with ⟨rfl,rfl⟩ | ⟨n2,k2,l2⟩
  ·rfl
  ·rw [ups_same] at e1
   obtain rfl:=(Option.some.inj e1).symm
   have:=(plc b2 B2 p2 k2 e2 n2).2.lt
   simp at er; omega
  ·rw [ups_same] at e2
   obtain rfl:=(Option.some.inj e2).symm
   have:=(plc b1 B1 p1 k1 e1 n1).2.lt
   simp at er; omega
  ·exact hi.als b1 b2 B1 B2 p1 p2 k1 k2 f1 f2 (plc b1 B1 p1 k1 e1 n1).1 (plc b2 B2 p2 k2 e2 n2).1 er
 ·intro b1 b2 B1 B2 p1 p2 h1 h2 f1 f2 e1 e2 eg r1 r2 hle
  rcases look b1 B1 h1 with ⟨rfl,rfl⟩ | ⟨n1,k1,l1⟩ <;> rcases look b2 B2 h2 with ⟨rfl,rfl⟩ | ⟨n2,k2,l2⟩
  ·rw [e1] at e2
   obtain rfl:=Option.some.inj e2
   exact ⟨Nat.le_refl _,fun _=>rfl⟩
  ·have:=(hi.gnb b2 B2 k2 f2).1
   have eg:h.nb = B2.g:=eg
   omega
  ·have:=(hi.gnb b1 B1 k1 f1).1
   have eg:B1.g = h.nb:=eg
   omega
  ·exact hi.lim b1 b2 B1 B2 p1 p2 k1 k2 f1 f2 (plc b1 B1 p1 k1 e1 n1).1 (plc b2 B2 p2 k2 e2 n2).1 eg r1 r2 hle
 ·intro i hle
  have hle:h.nb + 1≤i:=hle
  rw [ups_ne _ _ (by omega)]
  exact hi.free i (by omega)
 ·intro b p hp
  by_cases e0:b = h.nb
  ·subst e0; exact .inr ⟨hfree,Nat.le_refl _,Nat.lt_succ_self _⟩
  ·rw [ups_ne _ _ e0] at hp; exact .inl hp
 ·intro l hll b B p hb hf hp
  rcases look b B hb with ⟨rfl,rfl⟩ | ⟨hne,h2,hlt⟩
  ·rw [ups_same] at hp
   obtain rfl:=(Option.some.inj hp).symm
   exact .inl (Nat.le_refl _)
  ·exact .inr ⟨b,B,p,h2,hf,(plc b B p h2 hp hne).1,rfl⟩
theorem nu_alloc (cs:Array Value) (e:TypeId):Nu w (w.alloc (.cells cs e)) cs e (0,0):=
 ⟨by rw [show (w.alloc (.cells cs e)).heap = w.heap.push (.cells cs e) from rfl]; simp,fun r hr=>by rw [show (w.alloc (.cells cs e)).heap = w.heap.push (.cells cs e) from rfl,Array.getElem?_push]; rw [if_neg (by omega)],by simp,rfl,rfl,rfl⟩
theorem Nu.drew {cs:Array Value} {e:TypeId} {fz:Nat×Nat} {w':World} (hn:Nu w.drew w' cs e fz):Nu w w' cs e fz:=
 ⟨hn.row,hn.other,hn.size,hn.tape,hn.os,hn.output⟩
structure Out (N0:Base) (ρ:Rho) (h:Hp) (w:World) (v:AV) (h':Hp) (V:Value) (w':World) (ρ':Rho):Prop where
 val:VR ρ' v V
 inv:Inv N0 ρ' h' w'
 tr:Tr ρ h w ρ' h' w'
theorem lay_new {l:AV} {Vs:List Value} {t:T AV} (hl:LR ρ l Vs) (ht:∀ j,t.get j = if 0≤j∧j < 0 + len l then some (nth l (j - 0)) else (T.e:T AV).get j) (g:Nat):
  ∀ i,i < len l→∃ V,Vs.toArray[i]? = some V∧VR ρ ((⟨true,g,len l,.nil,t⟩:Blk).at i) V:=by
 intro i hi
 have hlen:=LR_len l Vs hl
 obtain ⟨V,hV⟩:∃ V,Vs[i]? = some V:=⟨Vs[i]'(by omega),by simp⟩
 refine ⟨V,by simpa using hV,?_⟩
 rw [at_eq,if_pos hi]
 simp only [ht i]
 rw [if_pos ⟨Nat.zero_le _,by omega⟩]
 exact LR_get l Vs hl i V hV
theorem mk_ok {l:AV} {Vs:Array Value} {k:AV→Hp→Res} (t:TypeId) (hi:Inv N0 ρ h w) (e:mk h l k = r) (hr:r ≠ .fail) (hl:LR ρ l Vs.toList):
  ∃ v h' ρ',k v h' = r∧Out N0 ρ h w v h' (.pointer (some ⟨w.heap.size,0,none⟩)) (w.alloc (.cells Vs t)) ρ':=by
 obtain ⟨t',h1,h2,h3⟩:=lay_inv l .e 0 e hr
 have hlen:=LR_len l _ hl
 rw [Nat.zero_add] at h1
 have hsz:len l = Vs.size:=by simpa using hlen
 obtain ⟨i1,i2⟩:=new_inv 0 (lim:=len l) (df:=.nil) (t:=t') hi (nu_alloc Vs t) (.inl rfl) (by omega) (by
  intro i hlt
  have:=lay_new hl h2 h.nb i hlt
  simpa using this)
 exact ⟨_,_,_,h1,⟨_,ups_same _ _ _,rfl⟩,i1,i2⟩
end
end Go.AM
namespace Go.AM
open Go
set_option autoImplicit false
section
variable {P:Program} {N0:Base} {ρ:Rho} {h:Hp} {w:World} {x y:AV} {X Y:Value} {r:Res}
theorem okT_und {t:TypeId} (h:okT P t = true):∃ d,P.underlying t = some d:=by
 unfold okT at h
 cases hu:P.underlying t with
 | none=>rw [hu] at h; cases h
 | some d=>exact ⟨d,rfl⟩
theorem okT_info {t:TypeId} (h:okT P t = true):∃ i,P.info? t = some i:=by
 obtain ⟨d,hd⟩:=okT_und h
 unfold Program.underlying at hd
 cases hi:P.info? t with
 | none=>rw [hi] at hd; cases hd
 | some i=>exact ⟨i,rfl⟩
theorem sizeOf_run {t:TypeId} (h:okT P t = true) (w:World):(sizeOf t).run P w = .ok (szOf P t) w:=by
 obtain ⟨i,hi⟩:=okT_info h
 simp [sizeOf,typeInfo,szOf,hi]
theorem isAgg_run {t:TypeId} (h:okT P t = true) (w:World):(isAgg t).run P w = .ok (agT P t) w:=by
 obtain ⟨d,hd⟩:=okT_und h
 unfold isAgg agT
 rw [Sem.run_bind,run_und hd,hd]
 cases d <;> rfl
theorem st1_ok {t:TypeId} {k:Hp→Res} (hi:Inv N0 ρ h w) (hok:okT P t = true) (hsz:szOf P t = 1) (e:st1 h x y k = r) (hr:r ≠ .fail) (hx:VR ρ x X) (hy:VR ρ y Y):
  ∃ h' w',k h' = r∧(Instr.storeAt t X Y).run P w = .ok () w'∧Inv N0 ρ h' w'∧Tr ρ h w ρ h' w':=by
 obtain ⟨b,o,rfl,h1⟩:=cP_inv e hr
 obtain ⟨B,gs,hb,hf,hn,hgs,h2,hlo⟩:=wb_inv h1 hr
 obtain ⟨h3,h4⟩:=ifF_inv h2 hr
 obtain ⟨h5,h6⟩:=ifF_inv h4 hr
 rw [blt_iff] at h5
 obtain ⟨p,hp,rfl⟩:=hx
 obtain ⟨p',hp',hB⟩:=hi.blk b B hb
 obtain rfl:p = p':=by rw [hp] at hp'; exact Option.some.inj hp'
 obtain ⟨cs,et,fz,g1,g2,g3,g4⟩:=hB.obj
 have hfit:=hB.fit
 have hone:=one_cell hy h3
 obtain ⟨s1,s2⟩:=store_run (P:=P) p.r (p.base + o) Y g1 ((g3 hf).at (by omega)) (by omega) hone
 have hrd:readable h b B:=fun _=>by
  have:(h.grp B.g).2≤(h.grp B.g).1:=by
   cases hq:h.gs.get B.g with
   | none=>simp [Hp.grp,hq]
   | some q=>have:=(hi.gs _ _ hq).2.2; simpa [Hp.grp,hq] using this
  omega
 obtain ⟨i1,i2⟩:=write_inv (t:=T.set y B.cs o) hi hb hf hlo hp hn hgs s2 (by simpa using g2) (g3 hf) (by
  intro i hlt
  obtain ⟨V,k1,k2⟩:=g4 hrd i hlt
  rw [at_eq] at k2 ⊢
  rw [if_pos hlt] at k2
  show ∃ V,(cs.setIfInBounds (p.base + o) Y)[p.base + i]? = some V∧VR ρ (if i < B.lim then (match (T.set y B.cs o).get i with | some v=>v | none=>nth B.df (i % len B.df)) else .unk) V
  rw [if_pos hlt,T.get_set]
  by_cases ei:i = o
  ·subst ei
   exact ⟨Y,by simp [show p.base + i < cs.size from by omega],by rw [if_pos rfl]; exact hy⟩
  ·exact ⟨V,by rw [Array.getElem?_setIfInBounds_ne (by omega)]; exact k1,by rw [if_neg ei]; exact k2⟩)
 refine ⟨_,_,h6,?_,i1,i2⟩
 have hcells:=cells_one hy h3
 simp only [Instr.storeAt,Instr.sureAddr,storeVar,pure_bind]
 rw [Sem.run_bind,sizeOf_run hok]
 simp only [Result.andThen_ok,hcells,hsz]
 simp [storeCells,s1,Addr.add]
theorem storeN_ok {b o n:Nat} {B:Blk} {gs:T (Nat×Nat)} {t':T AV} {l:AV} {Vs:List Value} {p:Pl} (hi:Inv N0 ρ h w) (hb:h.bs.get b = some B) (hf:B.fr = true) (hlo:h.lo≤b) (hp:ρ b = some p) (hn:(h.grp B.g).1 = b)
  (hgs:(gs = h.gs∧(h.grp B.g).2 = b)∨gs = h.gs.set (b,b) B.g) (hl:LR ρ l Vs) (hlen:len l = n) (hfit:o + n≤B.lim)
  (ht:∀ j,t'.get j = if o≤j∧j < o + len l then some (nth l (j - o)) else B.cs.get j) (h1:∀ V∈Vs,V.oneCell' = true):
  ∃ w',(storeCells ⟨p.r,p.base + o,none⟩ Vs).run P w = .ok () w'∧Inv N0 ρ (putB h b B t' gs) w'∧Tr ρ h w ρ (putB h b B t' gs) w':=by
 obtain ⟨p',hp',hB⟩:=hi.blk b B hb
 obtain rfl:p = p':=by rw [hp] at hp'; exact Option.some.inj hp'
 obtain ⟨cs,et,fz,g1,g2,g3,g4⟩:=hB.obj
 have hfit':=hB.fit
 have hVl:=LR_len l Vs hl
 obtain ⟨w',cs',s1,s2,s3,s4⟩:=storeCells_run (P:=P) p.r (p.base + o) Vs 0 cs w g1 (by rw [g2]; exact g3 hf) (by omega) h1
 have hrd:readable h b B:=fun _=>by
  have:(h.grp B.g).2≤(h.grp B.g).1:=by
   cases hq:h.gs.get B.g with
   | none=>simp [Hp.grp,hq]
   | some q=>have:=(hi.gs _ _ hq).2.2; simpa [Hp.grp,hq] using this
  omega
 obtain ⟨i1,i2⟩:=write_inv (t:=t') hi hb hf hlo hp hn hgs s2 (by omega) (g3 hf) (by
  intro i hlt
  obtain ⟨V,k1,k2⟩:=g4 hrd i hlt
  rw [at_eq,if_pos hlt] at k2
  rw [at_eq]
  show ∃ V,cs'[p.base + i]? = some V∧VR ρ (if i < B.lim then (match t'.get i with | some v=>v | none=>nth B.df (i % len B.df)) else .unk) V
  rw [if_pos hlt,ht i,s4]
  by_cases ei:o≤i∧i < o + len l
  ·rw [if_pos ei,if_pos (by omega)]
   obtain ⟨U,hU⟩:∃ U,Vs[i - o]? = some U:=⟨Vs[i - o]'(by omega),by simp⟩
   exact ⟨U,by rw [show p.base + i - (p.base + o + 0) = i - o from by omega]; exact hU,LR_get l Vs hl _ _ hU⟩
  ·rw [if_neg ei,if_neg (by omega)]
   exact ⟨V,k1,k2⟩)
 exact ⟨w',s1,i1,i2⟩
theorem stN_ok {t:TypeId} {k:Hp→Res} (hi:Inv N0 ρ h w) (hok:okT P t = true) (e:stN h (szOf P t) x y k = r) (hr:r ≠ .fail) (hx:VR ρ x X) (hy:VR ρ y Y):
  ∃ h' w',k h' = r∧(Instr.storeAt t X Y).run P w = .ok () w'∧Inv N0 ρ h' w'∧Tr ρ h w ρ h' w':=by
 obtain ⟨b,o,rfl,h1⟩:=cP_inv e hr
 obtain ⟨l,rfl,h2⟩:=cA_inv h1 hr
 obtain ⟨h3,h4⟩:=ifF_inv h2 hr
 rw [beq_iff] at h3
 obtain ⟨B,gs,hb,hf,hn,hgs,h5,hlo⟩:=wb_inv h4 hr
 obtain ⟨h6,h7⟩:=ifF_inv h5 hr
 rw [ble_iff] at h6
 obtain ⟨t',h8,h9,h10⟩:=lay_inv l _ _ h7 hr
 obtain ⟨p,hp,rfl⟩:=hx
 obtain ⟨Vs,rfl,hl⟩:=hy
 obtain ⟨w',s1,i1,i2⟩:=storeN_ok (P:=P) hi hb hf hlo hp hn hgs hl h3 h6 h9 (h10 ρ _ hl)
 refine ⟨_,w',h8,?_,i1,i2⟩
 have hVl:=LR_len l _ hl
 simp only [Instr.storeAt,Instr.sureAddr,storeVar,pure_bind]
 rw [Sem.run_bind,sizeOf_run hok]
 have hs:Vs.size = szOf P t:=by rw [← h3,hVl]; simp
 simp only [Result.andThen_ok,Value.cells,hs]
 simpa using s1
theorem rds_ok {b:Nat} {B:Blk} {p:Pl} (hB:BR N0 ρ h w b B p) (hrd:readable h b B):∀ (n o:Nat) {k:AV→Res},rds B n o k = r→r ≠ .fail →
  ∃ l Vs,k l = r∧Vs.length = n∧LR ρ l Vs∧o + n≤max B.lim o∧∀ i V,Vs[i]? = some V→w.cell? ⟨p.r,p.base + (o + i),none⟩ = some V:=by
 intro n
 induction n with
 | zero=>intro o k e hr; exact ⟨.nil,[],e,rfl,rfl,by omega,fun i V h=>by simp at h⟩
 | succ n ih=>
  intro o k e hr
  have e:cK (B.at o) (fun v=>rds B n (o + 1) fun t=>k (.cons v t)) = r:=e
  obtain ⟨h1,h2⟩:=cK_inv e hr
  have hlt:=at_lt h1
  obtain ⟨V,c1,c2⟩:=cell_at hB hrd hlt
  obtain ⟨l,Vs,g1,g2,g3,g4,g5⟩:=ih (o + 1) h2 hr
  refine ⟨_,V :: Vs,g1,by simp [g2],⟨V,Vs,rfl,c2,g3⟩,by omega,fun i U hU=>?_⟩
  cases i with
  | zero=>simp at hU; subst hU; simpa using c1
  | succ i=>have:=g5 i U (by simpa using hU); rw [show o + 1 + i = o + (i + 1) from by omega] at this; exact this
theorem addr_add (g o n:Nat):(⟨g,o,none⟩:Addr).add n = ⟨g,o + n,none⟩:=by unfold Addr.add; split <;> simp_all
theorem ldN_ok {t:TypeId} {k:AV→Res} (hi:Inv N0 ρ h w) (ht:agT P t = true) (hok:okT P t = true) (e:ldN h (szOf P t) x k = r) (hr:r ≠ .fail) (hx:VR ρ x X):
  ∃ v V,k v = r∧VR ρ v V∧(Instr.loadAt t X).run P w = .ok V w:=by
 obtain ⟨b,o,rfl,h1⟩:=cP_inv e hr
 obtain ⟨B,hb,hrd,h2⟩:=gb_inv h1 hr
 obtain ⟨p,hp,rfl⟩:=hx
 obtain ⟨p',hp',hB⟩:=hi.blk b B hb
 obtain rfl:p = p':=by rw [hp] at hp'; exact Option.some.inj hp'
 obtain ⟨l,Vs,g1,g2,g3,-,g5⟩:=rds_ok hB hrd _ _ h2 hr
 refine ⟨_,.agg Vs.toArray,g1,⟨_,rfl,by simpa using g3⟩,?_⟩
 have hl:=run_loadCells_list (P:=P) w ⟨p.r,p.base + o,none⟩ Vs (fun j v hv=>by rw [addr_add,Nat.add_assoc]; exact g5 j v hv)
 rw [g2] at hl
 simp only [Instr.loadAt,Instr.sureAddr,loadVar,pure_bind]
 rw [Sem.run_bind,isAgg_run hok,ht]
 simp only [Result.andThen_ok,if_true]
 rw [Sem.run_bind,sizeOf_run hok]
 simp [hl]
end
end Go.AM
namespace Go.AM
open Go
set_option autoImplicit false
inductive F2 {α β:Type} (Q:α→β→Prop):List α→List β→Prop where
 | nil:F2 Q [] []
 | cons {a:α} {b:β} {l:List α} {m:List β}:Q a b→F2 Q l m→F2 Q (a :: l) (b :: m)
section
variable {P:Program} {ρ:Rho}
theorem tkL_rel:∀ (n:Nat) (l:AV) (vs:List Value),LR ρ l vs→LR ρ (tkL n l) (vs.take n):=by
 intro n
 induction n with
 | zero=>intro l vs _; show LR ρ .nil _; simp [LR,R]
 | succ n ih=>
  intro l vs h
  cases l with
  | nil=>have h:vs = []:=h; subst h; rfl
  | cons v t=>obtain ⟨V,l',rfl,h1,h2⟩:=h; exact ⟨V,l'.take n,rfl,h1,ih t l' h2⟩
  | _=>exact h.elim
theorem dpL_rel:∀ (n:Nat) (l:AV) (vs:List Value),LR ρ l vs→LR ρ (dpL n l) (vs.drop n):=by
 intro n
 induction n with
 | zero=>intro l vs h; exact h
 | succ n ih=>
  intro l vs h
  cases l with
  | nil=>have h:vs = []:=h; subst h; rfl
  | cons v t=>obtain ⟨V,l',rfl,h1,h2⟩:=h; exact ih t l' h2
  | _=>exact h.elim
theorem repL_rel (l:AV) (vs:List Value) (h:LR ρ l vs):∀ n,LR ρ (repL l n) (List.replicate n vs).flatten:=by
 intro n
 induction n with
 | zero=>rfl
 | succ n ih=>rw [List.replicate_succ,List.flatten_cons]; exact LR_app l _ vs _ h ih
def SlotRel (ρ:Rho) (p:Bool×Nat×AV) (ch:List Value):Prop:=
 ∃ V,VR ρ p.2.2 V∧(p.1 = true→ch = V.cells.toList)∧(p.1 = false→one p.2.2 = true→ch = V.cells.toList)
theorem bld_ok {r:Res}:∀ (ps:List (Bool×Nat×AV)) (chs:List (List Value)) {k:AV→Res},F2 (SlotRel ρ) ps chs→bld ps k = r→r ≠ .fail →
  ∃ l,k l = r∧LR ρ l chs.flatten∧F2 (fun p ch=>(p.1 = true→p.2.1 = ch.length)∧(p.1 = false→ch.length = 1)) ps chs:=by
 intro ps
 induction ps with
 | nil=>
  intro chs k hc e hr
  cases hc
  exact ⟨.nil,e,rfl,.nil⟩
 | cons p ps ih=>
  intro chs k hc e hr
  cases hc with
  | cons h1 h2=>
   rename_i ch chs
   obtain ⟨V,hv,g1,g2⟩:=h1
   have e:Bool.rec (motive:=fun _=>Res) (ifB (one p.2.2) (bld ps fun t=>k (.cons p.2.2 t)) .fail) (cA p.2.2 fun l=>ifB (Nat.beq (len l) p.2.1) (bld ps fun t=>k (app l t)) .fail) p.1 = r:=e
   rw [recB] at e
   by_cases hp:p.1 = true
   ·rw [if_pos hp] at e
    obtain ⟨lv,e1,e2⟩:=cA_inv e hr
    obtain ⟨e3,e4⟩:=ifF_inv e2 hr
    rw [beq_iff] at e3
    obtain ⟨l,k1,k2,k3⟩:=ih chs h2 e4 hr
    rw [e1] at hv
    obtain ⟨arr,rfl,ha⟩:=hv
    have hch:=g1 hp
    refine ⟨_,k1,?_,.cons ⟨fun _=>?_,fun hf=>by rw [hp] at hf; cases hf⟩ k3⟩
    ·rw [List.flatten_cons,hch]; exact LR_app lv l _ _ ha k2
    ·rw [← e3,hch,LR_len lv _ ha]; rfl
   ·rw [if_neg hp] at e
    have hp':p.1 = false:=by simpa using hp
    obtain ⟨e3,e4⟩:=ifF_inv e hr
    obtain ⟨l,k1,k2,k3⟩:=ih chs h2 e4 hr
    have hch:=g2 hp' e3
    have hcell:=cells_one hv e3
    refine ⟨_,k1,?_,.cons ⟨fun ht=>absurd ht hp,fun _=>by rw [hch,hcell]; rfl⟩ k3⟩
    rw [List.flatten_cons,hch,hcell]
    exact ⟨V,_,rfl,hv,k2⟩
def chunks:List Nat→List Value→List (List Value)
 | [],_=>[]
 | s :: ss,zs=>zs.take s :: chunks ss (zs.drop s)
theorem chunks_flatten:∀ (ss:List Nat) (zs:List Value),ss.sum = zs.length→(chunks ss zs).flatten = zs:=by
 intro ss
 induction ss with
 | nil=>intro zs h; have:zs = []:=List.eq_nil_of_length_eq_zero h.symm; subst this; rfl
 | cons s ss ih=>
  intro zs h
  rw [chunks,List.flatten_cons,ih _ (by simp at h ⊢; omega),List.take_append_drop]
theorem chunks_len:∀ (ss:List Nat) (zs:List Value),ss.sum≤zs.length→(chunks ss zs).map List.length = ss:=by
 intro ss
 induction ss with
 | nil=>intro zs _; rfl
 | cons s ss ih=>intro zs h; simp only [List.sum_cons] at h; rw [chunks,List.map_cons,ih _ (by simp; omega),List.length_take,Nat.min_eq_left (by omega)]
theorem set_seg:∀ (vs:List Value) (o i:Nat) (arr:Array Value),o + i + vs.length≤arr.size →
  ((vs.zipIdx i).foldl (fun (cs:Array Value) (q:Value×Nat)=>cs.setIfInBounds (o + q.2) q.1) arr).toList = arr.toList.take (o + i) ++ vs ++ arr.toList.drop (o + i + vs.length):=by
 intro vs
 induction vs with
 | nil=>intro o i arr _; simp
 | cons v vs ih=>
  intro o i arr h
  simp only [List.length_cons] at h
  rw [List.zipIdx_cons,List.foldl_cons,ih o (i + 1) _ (by simp; omega),Array.toList_setIfInBounds]
  have:=list_seg_step arr.toList (o + i) v vs (by simp; omega)
  rw [show o + (i + 1) = o + i + 1 from by omega,this,List.length_cons]
theorem flatten_set:∀ (cs:List (List Value)) (i:Nat) (new old:List Value),cs[i]? = some old→new.length = old.length →
  (cs.set i new).flatten = cs.flatten.take ((cs.map List.length).take i).sum ++ new ++ cs.flatten.drop (((cs.map List.length).take i).sum + new.length):=by
 intro cs
 induction cs with
 | nil=>intro i new old h; simp at h
 | cons c cs ih=>
  intro i new old h hl
  cases i with
  | zero=>simp at h; subst h; simp [hl]
  | succ i=>
   simp only [List.getElem?_cons_succ] at h
   rw [List.set_cons_succ,List.flatten_cons,ih i new old h hl]
   simp only [List.flatten_cons,List.map_cons,List.take_succ_cons,List.sum_cons,Nat.add_assoc]
   rw [List.take_length_add_append,List.drop_length_add_append]; simp
theorem fill_chunks (place:Nat→Option (Nat×Nat)) (szs:List Nat) (hplace:∀ i s,szs[i]? = some s→place i = some ((szs.take i).sum,s)):
  ∀ (parts:List (Nat×Value)) (cs:List (List Value)),cs.map List.length = szs→(∀ p∈parts,szs[p.1]? = some p.2.cells.size) →
  Instr.fill place cs.flatten.toArray parts = some (parts.foldl (fun cs p=>cs.set p.1 p.2.cells.toList) cs).flatten.toArray:=by
 intro parts
 induction parts with
 | nil=>intro cs _ _; rfl
 | cons p parts ih=>
  intro cs hcs hp
  obtain ⟨i,v⟩:=p
  have hs:=hp (i,v) (by simp)
  simp only at hs
  have hpl:=hplace i _ hs
  have hi:i < szs.length:=(List.getElem?_eq_some_iff.1 hs).1
  obtain ⟨old,hold,hol⟩:∃ old,cs[i]? = some old∧old.length = v.cells.size:=by
   have hi':i < cs.length:=by rw [← hcs] at hi; simpa using hi
   refine ⟨cs[i],by simp,?_⟩
   rw [← hcs] at hs
   rw [List.getElem?_map,List.getElem?_eq_getElem hi'] at hs
   exact Option.some.inj hs
  have hbound:(szs.take i).sum + v.cells.size≤cs.flatten.length:=by
   have h1:cs.flatten.length = szs.sum:=by rw [List.length_flatten,hcs]
   have h2:szs.sum = (szs.take i).sum + (szs.drop i).sum:=by rw [← List.sum_append,List.take_append_drop]
   have h3:szs.drop i = v.cells.size :: szs.drop (i + 1):=by
    rw [List.drop_eq_getElem_cons hi]
    congr 1
    exact (List.getElem?_eq_some_iff.1 hs).2
   rw [h1,h2,h3,List.sum_cons]; omega
  have hseg:=set_seg v.cells.toList (szs.take i).sum 0 cs.flatten.toArray (by simpa using hbound)
  have hset:=flatten_set cs i v.cells.toList old hold (by simpa using hol.symm)
  rw [hcs] at hset
  have e:(v.cells.zipIdx.foldl (fun cs (x:Value×Nat)=>cs.setIfInBounds ((szs.take i).sum + x.2) x.1) cs.flatten.toArray) = (cs.set i v.cells.toList).flatten.toArray:=by
   apply Array.ext'
   rw [← Array.foldl_toList,Array.toList_zipIdx,hseg,hset]; simp
  simp only [Instr.fill,hpl]
  rw [if_neg (by simp; simpa using hbound)]
  rw [show (fun (cs:Array Value) (x:Value×Nat)=>match x with | (c,j)=>cs.setIfInBounds ((szs.take i).sum + j) c) = (fun cs (x:Value×Nat)=>cs.setIfInBounds ((szs.take i).sum + x.2) x.1) from rfl,e]
  rw [ih _ (by
   rw [List.map_set,hcs]
   apply List.ext_getElem?
   intro j
   by_cases hj:i = j
   ·subst hj; simp [hi]; simpa using (List.getElem?_eq_some_iff.1 hs).2.symm
   ·rw [List.getElem?_set_ne hj]) (fun q hq=>hp q (by simp [hq]))]
  rfl
theorem fold_set_get:∀ (parts:List (Nat×Value)) (cs:List (List Value)),(parts.map (·.1)).Nodup→∀ i,i < cs.length →
  (parts.foldl (fun cs p=>cs.set p.1 p.2.cells.toList) cs)[i]? = match parts.find? (fun p=>p.1 == i) with | some p=>some p.2.cells.toList | none=>cs[i]?:=by
 intro parts
 induction parts with
 | nil=>intro cs _ i _; rfl
 | cons p parts ih=>
  intro cs hn i hi
  simp only [List.map_cons,List.nodup_cons] at hn
  rw [List.foldl_cons,ih _ hn.2 i (by simpa using hi),List.find?_cons]
  by_cases e:p.1 = i
  ·subst e
   have hnone:parts.find? (fun q=>q.1 == p.1) = none:=by
    rw [List.find?_eq_none]
    intro q hq h
    exact hn.1 (by simp only [beq_iff_eq] at h; rw [← h]; exact List.mem_map_of_mem hq)
   rw [hnone]; simp [hi]
  ·have:(p.1 == i) = false:=by simpa using e
   rw [this]
   cases parts.find? (fun q=>q.1 == i) with
   | some q=>rfl
   | none=>simp [List.getElem?_set_ne e]
end
end Go.AM
namespace Go.AM
open Go
set_option autoImplicit false
section
variable {P:Program} {ρ:Rho} {r:Res}
theorem ofV1_rel (v:Value):VR ρ (ofV1 v) v:=by
 unfold ofV1
 split <;> first
  | rfl
  | exact ⟨_,rfl,rfl⟩
  | exact ⟨_,rfl,rfl,rfl⟩
  | trivial
theorem lst_rel:∀ vs:List Value,LR ρ (lst (vs.map ofV1)) vs:=by
 intro vs
 induction vs with
 | nil=>rfl
 | cons v vs ih=>exact ⟨v,vs,rfl,ofV1_rel v,ih⟩
theorem ofV_rel (v:Value):VR ρ (ofV v) v:=by
 unfold ofV
 split
 ·exact ⟨_,rfl,lst_rel _⟩
 ·exact ⟨_,rfl,lst_rel _⟩
 ·exact ofV1_rel v
theorem ones_known {x:AV} (h:ones (cells x) = true):x ≠ .unk:=by
 intro e; subst e; cases h
theorem zero_rel {t:TypeId} (h:ones (cells (zeroV P t)) = true):∃ z:Value,(∀ w,(zeroValue t).run P w = .ok z w)∧LR ρ (cells (zeroV P t)) z.cells.toList:=by
 have hk:=ones_known h
 unfold zeroV at hk ⊢
 cases hi:P.info? t with
 | none=>rw [hi] at hk; exact absurd rfl hk
 | some i=>
  rw [hi] at hk
  simp only at hk ⊢
  cases hz:i.zero with
  | none=>rw [hz] at hk; exact absurd rfl hk
  | some z=>
   rw [hz] at hk
   exact ⟨z,fun w=>by simp [zeroValue,typeInfo,hi,hz],cells_rel (ofV_rel z) hk⟩
def PRel (ρ:Rho):List (Nat×AV)→List (Nat×Value)→Prop:=F2 fun p q=>p.1 = q.1∧VR ρ p.2 q.2
theorem PRel.find {ps:List (Nat×AV)} {pv:List (Nat×Value)} (h:PRel ρ ps pv) (i:Nat):
  (ps.find? (fun p=>Nat.beq p.1 i) = none∧pv.find? (fun q=>q.1 == i) = none) ∨
  ∃ p q,ps.find? (fun p=>Nat.beq p.1 i) = some p∧pv.find? (fun q=>q.1 == i) = some q∧VR ρ p.2 q.2∧q∈pv:=by
 induction h with
 | nil=>exact .inl ⟨rfl,rfl⟩
 | @cons p q l m hpq _ ih=>
  rw [List.find?_cons,List.find?_cons]
  by_cases e:p.1 = i
  ·have e1:Nat.beq p.1 i = true:=by rw [beq_iff]; exact e
   have e2:(q.1 == i) = true:=by rw [← hpq.1]; simpa using e
   rw [e1,e2]
   exact .inr ⟨p,q,rfl,rfl,hpq.2,by simp⟩
  ·have e1:Nat.beq p.1 i = false:=by rw [Bool.eq_false_iff,ne_eq,beq_iff]; exact e
   have e2:(q.1 == i) = false:=by rw [← hpq.1]; simpa using e
   rw [e1,e2]
   rcases ih with h | ⟨p',q',h1,h2,h3,h4⟩
   ·exact .inl h
   ·exact .inr ⟨p',q',h1,h2,h3,by simp [h4]⟩
theorem PRel.distinct {n:Nat} {ps:List (Nat×AV)} {pv:List (Nat×Value)} (h:PRel ρ ps pv):distinct n ps = true→(pv.map (·.1)).Nodup∧∀ q∈pv,q.1 < n:=by
 induction h with
 | nil=>intro _; simp
 | @cons p q l m hpq hlm ih=>
  intro hd
  simp only [AM.distinct,Bool.and_eq_true,Bool.not_eq_true',blt_iff] at hd
  obtain ⟨h1,h2,h3⟩:=hd
  obtain ⟨i1,i2⟩:=ih h3
  refine ⟨?_,fun x hx=>?_⟩
  ·rw [List.map_cons,List.nodup_cons]
   refine ⟨fun hm=>?_,i1⟩
   obtain ⟨x,hx,hxe⟩:=List.mem_map.1 hm
   rcases PRel.find hlm q.1 with ⟨g1,g2⟩ | ⟨p',q',g1,g2,g3,g4⟩
   ·rw [List.find?_eq_none] at g2
    exact g2 x hx (by simpa using hxe)
   ·have:=List.find?_some g1
    have hp':=List.mem_of_find?_eq_some g1
    rw [List.any_eq_false] at h2
    exact h2 p' hp' (by rw [hpq.1]; exact this)
  ·rcases List.mem_cons.1 hx with rfl | hx
   ·rw [← hpq.1]; exact h1
   ·exact i2 x hx
def tgt (P:Program) (pv:List (Nat×Value)):List TypeId→Nat→List Value→List (List Value)
 | [],_,_=>[]
 | t :: ts,i,zs=>(match pv.find? (fun q=>q.1 == i) with | some q=>q.2.cells.toList | none=>zs.take (szOf P t)) :: tgt P pv ts (i + 1) (zs.drop (szOf P t))
theorem tgt_get (pv:List (Nat×Value)):∀ (ts:List TypeId) (i:Nat) (zs:List Value) (j:Nat),j < ts.length →
  (tgt P pv ts i zs)[j]? = match pv.find? (fun q=>q.1 == i + j) with | some q=>some q.2.cells.toList | none=>(chunks (ts.map (szOf P)) zs)[j]?:=by
 intro ts
 induction ts with
 | nil=>intro i zs j h; simp at h
 | cons t ts ih=>
  intro i zs j h
  cases j with
  | zero=>simp only [tgt,List.map_cons,chunks,List.getElem?_cons_zero,Nat.add_zero]; split <;> rfl
  | succ j=>
   simp only [tgt,List.map_cons,chunks,List.getElem?_cons_succ]
   rw [ih (i + 1) _ j (by simpa using h),show i + 1 + j = i + (j + 1) from by omega]
theorem tgt_len (pv:List (Nat×Value)):∀ (ts:List TypeId) (i:Nat) (zs:List Value),(tgt P pv ts i zs).length = ts.length:=by
 intro ts
 induction ts with
 | nil=>intro i zs; rfl
 | cons t ts ih=>intro i zs; simp [tgt,ih]
theorem slots_rel {ps:List (Nat×AV)} {pv:List (Nat×Value)} (hp:PRel ρ ps pv) {Z:AV} {zs:List Value} (hZ:LR ρ Z zs):∀ (ts:List TypeId) (i o:Nat),(∀ t∈ts,okS P t = true)→o + sizes P ts≤zs.length →
  F2 (SlotRel ρ) (slots P ts ps i o Z) (tgt P pv ts i (zs.drop o)):=by
 intro ts
 induction ts with
 | nil=>intro i o _ _; exact .nil
 | cons t ts ih=>
  intro i o hok hle
  simp only [sizes] at hle
  have hs:=hok t (by simp)
  simp only [okS,Bool.and_eq_true,Bool.or_eq_true,beq_iff] at hs
  refine .cons ?_ (by rw [List.drop_drop]; exact ih (i + 1) (o + szOf P t) (fun u hu=>hok u (by simp [hu])) (by omega))
  rcases hp.find i with ⟨h1,h2⟩ | ⟨p,q,h1,h2,h3,-⟩
  ·rw [h1,h2]
   simp only
   cases ha:agT P t with
   | true=>
    exact ⟨.agg ((zs.drop o).take (szOf P t)).toArray,⟨_,rfl,by simpa using tkL_rel _ _ _ (dpL_rel o Z zs hZ)⟩,fun _=>by simp [Value.cells],fun hf=>by cases hf⟩
   | false=>
    have h1:szOf P t = 1:=by rcases hs.2 with h | h; (rw [ha] at h; cases h); exact h
    have ho:o < zs.length:=by omega
    refine ⟨zs[o],LR_get Z zs hZ o _ (by simp),fun ht=>by simp at ht,fun _ hone=>?_⟩
    rw [cells_one (LR_get Z zs hZ o zs[o] (by simp)) hone,h1,List.drop_eq_getElem_cons ho]; rfl
  ·rw [h1,h2]
   exact ⟨q.2,h3,fun _=>rfl,fun _ _=>rfl⟩
theorem fold_lens:∀ (pv:List (Nat×Value)) (cs:List (List Value)),(∀ q∈pv,(cs.map List.length)[q.1]? = some q.2.cells.size)→(pv.foldl (fun cs p=>cs.set p.1 p.2.cells.toList) cs).map List.length = cs.map List.length:=by
 intro pv
 induction pv with
 | nil=>intro cs _; rfl
 | cons p pv ih=>
  intro cs h
  have h1:(cs.set p.1 p.2.cells.toList).map List.length = cs.map List.length:=by
   rw [List.map_set]
   apply List.ext_getElem?
   intro j
   rw [List.getElem?_set]
   split
   ·rename_i hj
    subst hj
    have:=h p (by simp)
    rw [this]
    have hl:=(List.getElem?_eq_some_iff.1 this).1
    rw [if_pos hl]; simp
   ·rfl
  rw [List.foldl_cons,ih _ (by rw [h1]; exact fun q hq=>h q (by simp [hq])),h1]
theorem sizes_sum (ts:List TypeId):sizes P ts = (ts.map (szOf P)).sum:=by
 induction ts with
 | nil=>rfl
 | cons t ts ih=>simp [sizes,ih]
theorem slots_sizes (ps:List (Nat×AV)) (Z:AV):∀ (ts:List TypeId) (i o:Nat),(slots P ts ps i o Z).map (fun p=>(p.1,p.2.1)) = ts.map fun t=>(agT P t,szOf P t):=by
 intro ts
 induction ts with
 | nil=>intro i o; rfl
 | cons t ts ih=>intro i o; simp [slots,ih]
theorem F2.get {α β:Type} {Q:α→β→Prop} {l:List α} {m:List β} (h:F2 Q l m):∀ (i:Nat) (a:α) (b:β),l[i]? = some a→m[i]? = some b→Q a b:=by
 induction h with
 | nil=>intro i a b h; simp at h
 | cons hq _ ih=>
  intro i a b h1 h2
  cases i with
  | zero=>simp at h1 h2; subst h1 h2; exact hq
  | succ i=>exact ih i a b (by simpa using h1) (by simpa using h2)
theorem fill_ok {place:Nat→Option (Nat×Nat)} {ps:List (Nat×AV)} {pv:List (Nat×Value)} {ts:List TypeId} {Z:AV} {zs:List Value} {k:AV→Res} (hp:PRel ρ ps pv) (hd:distinct ts.length ps = true) (hok:∀ t∈ts,okS P t = true)
  (hZ:LR ρ Z zs) (hlen:len Z = sizes P ts) (hpl:∀ i s,(ts.map (szOf P))[i]? = some s→place i = some (((ts.map (szOf P)).take i).sum,s)) (e:bld (slots P ts ps 0 0 Z) k = r) (hr:r ≠ .fail):
  ∃ l cells,k l = r∧Instr.fill place zs.toArray pv = some cells∧LR ρ l cells.toList∧cells.size = sizes P ts:=by
 have hzl:zs.length = sizes P ts:=by rw [← LR_len Z zs hZ,hlen]
 have hrel:=slots_rel (P:=P) hp hZ ts 0 0 hok (by omega)
 rw [List.drop_zero] at hrel
 obtain ⟨l,h1,h2,h3⟩:=bld_ok _ _ hrel e hr
 obtain ⟨n1,n2⟩:=hp.distinct hd
 have hch:(chunks (ts.map (szOf P)) zs).flatten = zs:=chunks_flatten _ _ (by rw [← sizes_sum,hzl])
 have hcl:(chunks (ts.map (szOf P)) zs).map List.length = ts.map (szOf P):=chunks_len _ _ (by rw [← sizes_sum,hzl]; exact Nat.le_refl _)
 have hsz:∀ q∈pv,(ts.map (szOf P))[q.1]? = some q.2.cells.size:=by
  intro q hq
  have hlt:=n2 q hq
  have hf:pv.find? (fun x=>x.1 == q.1) = some q:=by
   rcases hp.find q.1 with ⟨-,g2⟩ | ⟨p',q',-,g2,-,g4⟩
   ·rw [List.find?_eq_none] at g2; exact absurd (by simp) (g2 q hq)
   ·have he:=List.find?_some g2
    have hq':=List.mem_of_find?_eq_some g2
    rw [g2]
    congr 1
        -- the same place, the same part
    have:=List.pairwise_iff_getElem.1 (by simpa [List.Nodup] using n1:(pv.map (·.1)).Pairwise (· ≠ ·))
    obtain ⟨a,ha,rfl⟩:=List.getElem_of_mem hq
    obtain ⟨b,hb,rfl⟩:=List.getElem_of_mem hq'
    have he:pv[b].1 = pv[a].1:=by simpa using he
    have hal:a < (pv.map (·.1)).length:=by simpa using ha
    have hbl:b < (pv.map (·.1)).length:=by simpa using hb
    have hab:(pv.map (·.1))[a] = (pv.map (·.1))[b]:=by rw [List.getElem_map,List.getElem_map]; exact he.symm
    rcases Nat.lt_trichotomy a b with h | h | h
    ·exact absurd hab (this a b hal hbl h)
    ·subst h; rfl
    ·exact absurd hab.symm (this b a hbl hal h)
  have hg:=tgt_get (P:=P) pv ts 0 zs q.1 hlt
  rw [Nat.zero_add,hf] at hg
  simp only at hg
  have hs:(slots P ts ps 0 0 Z)[q.1]? = some ((slots P ts ps 0 0 Z)[q.1]'(by have:=congrArg List.length (slots_sizes (P:=P) ps Z ts 0 0); simp at this; omega)):=by simp
  have hq3:=h3.get q.1 _ _ hs hg
  have hmap:=congrArg (fun l=>l[q.1]?) (slots_sizes (P:=P) ps Z ts 0 0)
  simp only [List.getElem?_map,hs,Option.map_some,List.getElem?_eq_getElem hlt] at hmap
  have hm:=Option.some.inj hmap
  have hok1:=hok _ (List.getElem_mem hlt)
  simp only [okS,Bool.and_eq_true,Bool.or_eq_true,beq_iff] at hok1
  rw [List.getElem?_map,List.getElem?_eq_getElem hlt]
  simp only [Option.map_some]
  congr 1
  have hm1:=(Prod.ext_iff.1 hm).1
  have hm2:=(Prod.ext_iff.1 hm).2
  simp only at hm1 hm2
  cases hb:agT P ts[q.1] with
  | true=>rw [hb] at hm1; have:=hq3.1 hm1; rw [← hm2,this]; simp
  | false=>
   rw [hb] at hm1
   have:=hq3.2 hm1
   rcases hok1.2 with h | h
   ·rw [hb] at h; cases h
   ·rw [h]; simpa using this.symm
 have hfill:=fill_chunks place (ts.map (szOf P)) hpl pv _ hcl hsz
 rw [hch] at hfill
 have htgt:pv.foldl (fun cs p=>cs.set p.1 p.2.cells.toList) (chunks (ts.map (szOf P)) zs) = tgt P pv ts 0 zs:=by
  have hcn:(chunks (ts.map (szOf P)) zs).length = ts.length:=by have:=congrArg List.length hcl; simpa using this
  have hfl:∀ (ps:List (Nat×Value)) (cs:List (List Value)),(ps.foldl (fun cs p=>cs.set p.1 p.2.cells.toList) cs).length = cs.length:=by
   intro ps
   induction ps with
   | nil=>intro cs; rfl
   | cons p ps ih=>intro cs; rw [List.foldl_cons,ih]; simp
  apply List.ext_getElem?
  intro j
  by_cases hj:j < ts.length
  ·rw [fold_set_get pv _ n1 j (by omega),tgt_get pv ts 0 zs j hj,Nat.zero_add]
   all_goals (cases List.find? (fun q=>q.1 == j) pv <;> rfl)
  ·rw [List.getElem?_eq_none (by rw [hfl]; omega),List.getElem?_eq_none (by rw [tgt_len]; omega)]
 rw [htgt] at hfill
 refine ⟨l,_,h1,hfill,by simpa using h2,?_⟩
 rw [← htgt]
 have:=fold_lens pv (chunks (ts.map (szOf P)) zs) (by rw [hcl]; exact hsz)
 rw [hcl] at this
 rw [List.size_toArray,List.length_flatten,this,sizes_sum]
end
end Go.AM
namespace Go.AM
open Go
set_option autoImplicit false
def Does (P:Program) (N0:Base) (ρ:Rho) (h:Hp) (w:World) (s:Sem Value) (k:AV→Hp→Res) (r:Res):Prop:=
 ∃ v h' V w' ρ',k v h' = r∧s.run P w = .ok V w'∧Out N0 ρ h w v h' V w' ρ'
section
variable {P:Program} {N0:Base} {ρ:Rho} {h:Hp} {w:World} {x y:AV} {X Y:Value} {r:Res} {k:AV→Hp→Res}
theorem Does.here {s:Sem Value} {v:AV} {V:Value} (hi:Inv N0 ρ h w) (e:k v h = r) (hv:VR ρ v V) (hs:s.run P w = .ok V w):Does P N0 ρ h w s k r:=
 ⟨v,h,V,w,ρ,e,hs,hv,hi,Tr.refl ρ h w⟩
theorem Does.pur {s:Sem Value} (hi:Inv N0 ρ h w) (e:∃ v,k v h = r∧Pur P ρ s v):Does P N0 ρ h w s k r:=by
 obtain ⟨v,h1,V,h2,h3⟩:=e
 exact Does.here hi h1 h2 (h3 w)
theorem Does.read {s:Sem Value} (hi:Inv N0 ρ h w) (e:∃ v V,k v h = r∧VR ρ v V∧s.run P w = .ok V w):Does P N0 ρ h w s k r:=by
 obtain ⟨v,V,h1,h2,h3⟩:=e
 exact Does.here hi h1 h2 h3
theorem lay_ones:∀ (l:AV) (t:T AV) (o:Nat) {k:T AV→Nat→Res},lay l t o k = r→r ≠ .fail→ones l = true:=by
 intro l
 induction l with
 | nil=>intro t o k e hr; rfl
 | cons v l _ ih=>
  intro t o k e hr
  have e:ifB (one v) (lay l (T.set v t o) (o + 1) k) .fail = r:=e
  obtain ⟨h1,h2⟩:=ifF_inv e hr
  have h3:=ih _ _ h2 hr
  show (one v && ones l) = true
  rw [h1,h3]; rfl
 | _=>intro t o k e hr; exact absurd e.symm hr
theorem alloc_ok {t:TypeId} (hi:Inv N0 ρ h w) (e:mk h (cells (zeroV P t)) k = r) (hr:r ≠ .fail):Does P N0 ρ h w (Instr.alloc t true (.tuple #[])) k r:=by
 obtain ⟨z,hz,hl⟩:=zero_rel (P:=P) (ρ:=ρ) (t:=t) (lay_ones _ _ _ e hr)
 obtain ⟨v,h',ρ',h1,h2⟩:=mk_ok (Vs:=z.cells) t hi e hr hl
 refine ⟨v,h',_,_,ρ',h1,?_,h2⟩
 unfold Instr.alloc
 rw [Sem.run_bind,hz]
 simp [newVar,newRow]
theorem box_ok {t:TypeId} (hi:Inv N0 ρ h w) (e:mk h (cells x) k = r) (hr:r ≠ .fail) (hx:VR ρ x X):Does P N0 ρ h w (Instr.box t X) k r:=by
 have hn:x ≠ .unk:=ones_known (lay_ones _ _ _ e hr)
 obtain ⟨v,h',ρ',h1,h2⟩:=mk_ok (Vs:=X.cells) t hi e hr (cells_rel hx hn)
 refine ⟨v,h',_,_,ρ',h1,?_,h2⟩
 simp [Instr.box,newVar,newRow]
theorem run_places:∀ (fs:List Field) (w:World),(∀ f∈fs,okT P f.type = true) →
  (fs.mapM (fun f=>(do pure (f.offset,← sizeOf f.type):Sem (Nat×Nat)))).run P w = .ok (fs.map fun f=>(f.offset,szOf P f.type)) w:=by
 intro fs
 induction fs with
 | nil=>intro w _; rfl
 | cons f fs ih=>
  intro w h
  rw [List.mapM_cons,Sem.run_bind,Sem.run_bind,sizeOf_run (h f (by simp))]
  simp only [Result.andThen_ok,Sem.run_pure]
  rw [Sem.run_bind,ih w (fun g hg=>h g (by simp [hg]))]
  rfl
theorem tight_sum:∀ (fs:List Field) (o:Nat),tight P fs o = true→∀ i f,fs[i]? = some f→f.offset = o + ((fs.map fun f=>szOf P f.type).take i).sum:=by
 intro fs
 induction fs with
 | nil=>intro o _ i f h; simp at h
 | cons g fs ih=>
  intro o ht i f h
  simp only [tight,Bool.and_eq_true,beq_iff] at ht
  cases i with
  | zero=>simp at h; subst h; simp [ht.1]
  | succ i=>
   have:=ih _ ht.2 i f (by simpa using h)
   rw [this]; simp; omega
theorem rep_eq {α:Type} (x:α) (n:Nat):rep x n = List.replicate n x:=by
 induction n with
 | zero=>rfl
 | succ n ih=>rw [List.replicate_succ,← ih]; rfl
theorem rep_len {α:Type} (x:α) (n:Nat):(rep x n).length = n:=by rw [rep_eq,List.length_replicate]
theorem rep_mem {α:Type} {x u:α} {n:Nat} (h:u∈rep x n):u = x:=by rw [rep_eq] at h; exact List.eq_of_mem_replicate h
theorem rep_place (e:TypeId) (n:Nat):∀ i s,((rep e n).map (szOf P))[i]? = some s→some (i * szOf P e,szOf P e) = some ((((rep e n).map (szOf P)).take i).sum,s):=by
 intro i s hs
 rw [rep_eq,List.map_replicate] at hs ⊢
 obtain ⟨hi,he⟩:=List.getElem?_eq_some_iff.1 hs
 rw [List.getElem_replicate] at he
 rw [List.take_replicate,List.sum_replicate_nat,← he,Nat.min_eq_left (by simp at hi; omega)]
theorem build_ok {t:TypeId} {ps:List (Nat×AV)} {pv:Array (Nat×Value)} (hp:PRel ρ ps pv.toList)
  (e:(match P.underlying t with
   | some (.struct fs)=>sif ((fs.toList.all fun f=>okS P f.type) && (tight P fs.toList 0 && (distinct fs.size ps && (ones (cells (zeroV P t)) && Nat.beq (len (cells (zeroV P t))) (sizes P (fs.toList.map (·.type))))))) (bld (slots P (fs.toList.map (·.type)) ps 0 0 (cells (zeroV P t))) fun l=>k (.agg l) h) .fail
   | some (.array n e)=>sif (okS P e && (distinct n ps && (ones (cells (zeroV P t)) && Nat.beq (len (cells (zeroV P t))) (sizes P (rep e n))))) (bld (slots P (rep e n) ps 0 0 (cells (zeroV P t))) fun l=>k (.agg l) h) .fail
   | _=>.fail) = r) (hr:r ≠ .fail):∃ v,k v h = r∧Pur P ρ (Instr.build t pv) v:=by
 split at e
 ·rename_i fs hu
  obtain ⟨h1,h2⟩:=sif_inv e hr
  simp only [Bool.and_eq_true,List.all_eq_true,beq_iff] at h1
  obtain ⟨h3,h4,h5,h6,h7⟩:=h1
  obtain ⟨z,hz,hl⟩:=zero_rel (P:=P) (ρ:=ρ) (t:=t) h6
  have hok:∀ f∈fs.toList,okT P f.type = true:=fun f hf=>by have:=h3 f hf; simp only [okS,Bool.and_eq_true] at this; exact this.1
  obtain ⟨l,cs,g1,g2,g3,g4⟩:=fill_ok (P:=P) (place:=fun i=>(fs.toList.map fun f=>(f.offset,szOf P f.type)).toArray[i]?) hp (by simpa using h5) (by simpa using h3) hl h7 (by
   intro i s hs
   simp only [List.getElem?_map,Option.map_map] at hs
   simp only [List.getElem?_toArray,List.getElem?_map]
   cases hf:fs.toList[i]? with
   | none=>rw [hf] at hs; simp at hs
   | some f=>
    rw [hf] at hs
    simp only [Option.map_some,Option.some.injEq,Function.comp] at hs
    subst hs
    have:=tight_sum fs.toList 0 h4 i f hf
    simp only [Option.map_some,Option.some.injEq,Prod.mk.injEq]
    exact ⟨by rw [this,Nat.zero_add,List.map_map]; rfl,trivial⟩) h2 hr
  refine ⟨.agg l,g1,.agg cs,⟨cs,rfl,g3⟩,fun w=>?_⟩
  unfold Instr.build
  rw [Sem.run_bind,hz]
  simp only [Result.andThen_ok]
  rw [Sem.run_bind,run_und hu]
  simp only [Result.andThen_ok]
  rw [Sem.run_bind,Array.mapM_eq_mapM_toList]
  rw [map_eq_pure_bind,Sem.run_bind,run_places _ _ hok]
  simp only [Result.andThen_ok,Sem.run_pure]
  rw [Array.toArray_toList] at g2
  rw [g2]; rfl
 ·rename_i n e' hu
  obtain ⟨h1,h2⟩:=sif_inv e hr
  simp only [Bool.and_eq_true,beq_iff] at h1
  obtain ⟨h3,h5,h6,h7⟩:=h1
  obtain ⟨z,hz,hl⟩:=zero_rel (P:=P) (ρ:=ρ) (t:=t) h6
  obtain ⟨l,cs,g1,g2,g3,g4⟩:=fill_ok (P:=P) (place:=fun i=>some (i * szOf P e',szOf P e')) hp (by rw [rep_len]; exact h5) (by intro u hu; rw [rep_mem hu]; exact h3) hl h7 (rep_place e' n) h2 hr
  refine ⟨.agg l,g1,.agg cs,⟨cs,rfl,g3⟩,fun w=>?_⟩
  have hok:okT P e' = true:=by simp only [okS,Bool.and_eq_true] at h3; exact h3.1
  unfold Instr.build
  rw [Sem.run_bind,hz]
  simp only [Result.andThen_ok]
  rw [Sem.run_bind,run_und hu]
  simp only [Result.andThen_ok]
  rw [Sem.run_bind,sizeOf_run hok]
  simp only [Result.andThen_ok]
  rw [Array.toArray_toList] at g2
  rw [g2]; rfl
 ·exact absurd e.symm hr
end
end Go.AM
namespace Go.AM
open Go
set_option autoImplicit false
section
variable {P:Program} {N0:Base} {ρ:Rho} {h:Hp} {w:World} {x y:AV} {X Y:Value} {r:Res} {k:AV→Res}
theorem takeL_inv:∀ (n:Nat) (l:AV) {k:AV→AV→Res},takeL n l k = r→r ≠ .fail→∃ a b,k a b = r∧∀ ρ vs,LR ρ l vs→LR ρ a (vs.take n)∧LR ρ b (vs.drop n)∧n≤vs.length:=by
 intro n
 induction n with
 | zero=>intro l k e hr; exact ⟨.nil,l,e,fun ρ vs h=>⟨by rw [List.take_zero]; rfl,by simpa using h,Nat.zero_le _⟩⟩
 | succ n ih=>
  intro l k e hr
  cases l with
  | cons v t=>
   have e:takeL n t (fun a b=>k (.cons v a) b) = r:=e
   obtain ⟨a,b,h1,h2⟩:=ih t e hr
   refine ⟨_,_,h1,fun ρ vs h=>?_⟩
   obtain ⟨V,l',rfl,g1,g2⟩:=h
   obtain ⟨g3,g4,g5⟩:=h2 ρ l' g2
   exact ⟨⟨V,_,rfl,g1,g3⟩,g4,by simp; omega⟩
  | _=>exact absurd e.symm hr
theorem dropL_inv:∀ (n:Nat) (l:AV) {k:AV→Res},dropL n l k = r→r ≠ .fail→∃ b,k b = r∧∀ ρ vs,LR ρ l vs→LR ρ b (vs.drop n)∧n≤vs.length:=by
 intro n
 induction n with
 | zero=>intro l k e hr; exact ⟨l,e,fun ρ vs h=>⟨by simpa using h,Nat.zero_le _⟩⟩
 | succ n ih=>
  intro l k e hr
  cases l with
  | cons v t=>
   have e:dropL n t k = r:=e
   obtain ⟨b,h1,h2⟩:=ih t e hr
   refine ⟨_,h1,fun ρ vs h=>?_⟩
   obtain ⟨V,l',rfl,g1,g2⟩:=h
   obtain ⟨g3,g5⟩:=h2 ρ l' g2
   exact ⟨g3,by simp; omega⟩
  | _=>exact absurd e.symm hr
theorem part_ok {t:TypeId} {o:Nat} (hok:okT P t = true) (e:part (agT P t) o (szOf P t) x k = r) (hr:r ≠ .fail) (hx:VR ρ x X):
  ∃ v V cs,X = .agg cs∧k v = r∧VR ρ v V∧∀ w,(Go.part t cs o).run P w = .ok V w:=by
 obtain ⟨l,rfl,h1⟩:=cA_inv e hr
 obtain ⟨b,h2,h3⟩:=dropL_inv _ _ h1 hr
 obtain ⟨cs,rfl,hl⟩:=hx
 obtain ⟨h4,h5⟩:=h3 ρ _ hl
 cases ha:agT P t with
 | true=>
  rw [ha] at h2
  have h2:takeL (szOf P t) b (fun a _=>k (.agg a)) = r:=h2
  obtain ⟨a,b',h6,h7⟩:=takeL_inv _ _ h2 hr
  obtain ⟨h8,-,h9⟩:=h7 ρ _ h4
  refine ⟨_,.agg (cs.extract o (o + szOf P t)),cs,rfl,h6,⟨_,rfl,?_⟩,fun w=>?_⟩
  ·have:(cs.extract o (o + szOf P t)).toList = (cs.toList.drop o).take (szOf P t):=by simp [List.extract]
   rw [this]; exact h8
  ·unfold Go.part
   rw [Sem.run_bind,isAgg_run hok,ha]
   simp only [Result.andThen_ok,if_true]
   rw [Sem.run_bind,sizeOf_run hok]
   rfl
 | false=>
  rw [ha] at h2
  have h2:cK (nth b 0) k = r:=h2
  obtain ⟨h6,h7⟩:=cK_inv h2 hr
  obtain ⟨V,h8,h9⟩:=LR_nth b _ 0 h4 h6
  have h10:cs[o]? = some V:=by
   rw [List.getElem?_drop] at h8; simpa using h8
  refine ⟨_,V,cs,rfl,h7,h9,fun w=>?_⟩
  unfold Go.part
  rw [Sem.run_bind,isAgg_run hok,ha]
  simp [h10]
theorem field_ok {t:TypeId} {f:Nat} {fs:Array Field} {fd:Field} (hu:P.underlying t = some (.struct fs)) (hf:fs[f]? = some fd) (hok:okT P fd.type = true)
  (e:part (agT P fd.type) fd.offset (szOf P fd.type) x k = r) (hr:r ≠ .fail) (hx:VR ρ x X):∃ v,k v = r∧Pur P ρ (Instr.field t X f) v:=by
 obtain ⟨v,V,cs,rfl,h1,h2,h3⟩:=part_ok hok e hr hx
 refine ⟨v,h1,V,h2,fun w=>?_⟩
 unfold Instr.field
 rw [Sem.run_bind,run_und hu]
 simp only [Result.andThen_ok,hf]
 simp [asAgg,h3]
theorem ixV_ok {t u:TypeId} {n:Nat} (hu:P.underlying t = some (.array n u)) (hok:okT P u = true) (e:ixV (agT P u) n (szOf P u) x y k = r) (hr:r ≠ .fail) (hx:VR ρ x X) (hy:VR ρ y Y):
  ∃ v,k v = r∧Pur P ρ (Instr.index t X Y) v:=by
 obtain ⟨c,j,rfl,h1⟩:=cI_inv e hr
 obtain ⟨m,rfl,h2⟩:=natC_inv h1 hr
 obtain ⟨h3,h4⟩:=ifF_inv h2 hr
 rw [blt_iff] at h3
 obtain ⟨v,V,cs,rfl,h5,h6,h7⟩:=part_ok hok h4 hr hx
 obtain ⟨kd,rfl,rfl⟩:=hy
 refine ⟨v,h5,V,h6,fun w=>?_⟩
 unfold Instr.index
 simp only [asIntOf,pure_bind]
 rw [Sem.run_bind,run_und hu]
 simp only [Result.andThen_ok]
 rw [if_pos ⟨by omega,by omega⟩,Sem.run_bind,sizeOf_run hok]
 simp only [Result.andThen_ok]
 exact h7 w
theorem ixA_ok {t u:TypeId} (hu:P.underlying t = some (.slice u)) (hok:okT P u = true) (e:ixA (szOf P u) x y k = r) (hr:r ≠ .fail) (hx:VR ρ x X) (hy:VR ρ y Y):
  ∃ v,k v = r∧Pur P ρ (Instr.indexAt t X Y) v:=by
 obtain ⟨b,o,n,z',c,rfl,h1⟩:=cL_inv e hr
 obtain ⟨cc,j,rfl,h2⟩:=cI_inv h1 hr
 obtain ⟨m,rfl,h3⟩:=natC_inv h2 hr
 obtain ⟨h4,h5⟩:=ifF_inv h3 hr
 obtain ⟨h6,h7⟩:=ifF_inv h5 hr
 rw [blt_iff] at h4
 obtain ⟨p,c',hp,rfl,hn,hc,hs⟩:=hx
 obtain ⟨kd,rfl,rfl⟩:=hy
 refine ⟨_,h7,_,⟨p,hp,rfl⟩,fun w=>?_⟩
 simp [Instr.indexAt,run_und hu,asIntOf,sizeOf_run hok,h4,addr_add,Nat.add_assoc]
theorem ixP_ok {t u:TypeId} {n:Nat} (hu:P.underlying t = some (.array n u)) (hok:okT P u = true) (e:ixP n (szOf P u) x y k = r) (hr:r ≠ .fail) (hx:VR ρ x X) (hy:VR ρ y Y):
  ∃ v,k v = r∧Pur P ρ (Instr.indexAt t X Y) v:=by
 obtain ⟨b,o,rfl,h1⟩:=cP_inv e hr
 obtain ⟨cc,j,rfl,h2⟩:=cI_inv h1 hr
 obtain ⟨m,rfl,h3⟩:=natC_inv h2 hr
 obtain ⟨h4,h5⟩:=ifF_inv h3 hr
 rw [blt_iff] at h4
 obtain ⟨p,hp,rfl⟩:=hx
 obtain ⟨kd,rfl,rfl⟩:=hy
 refine ⟨_,h5,_,⟨p,hp,rfl⟩,fun w=>?_⟩
 simp [Instr.indexAt,Instr.sureAddr,run_und hu,asIntOf,sizeOf_run hok,h4,addr_add,Nat.add_assoc]
theorem nck_ok (op:Oper) {xo:Operand} {eval:Operand→Value} {kk:AV→Hp→Res} (ho:op.op = .nilCheck xo) (hX:eval xo = X) (e:nck x (fun v=>kk v h) = r) (hr:r ≠ .fail) (hx:VR ρ x X):
  kk x h = r∧∀ w,(execOp eval op).run P w = .ok (.value X) w:=by
 cases x with
 | ptr b o=>
  obtain ⟨p,-,rfl⟩:=hx
  exact ⟨e,fun w=>by simp [execOp,ho,hX]⟩
 | ifc t v=>
  obtain ⟨W,rfl,-⟩:=hx
  exact ⟨e,fun w=>by simp [execOp,ho,hX]⟩
 | _=>exact absurd e.symm hr
theorem ifc_ok {t:TypeId} {d:TypeDesc} (hu:P.underlying t = some d) (hd:∀ ms,d ≠ .interface ms) (hx:VR ρ x X):Pur P ρ (Instr.makeInterface t X) (.ifc t x):=by
 refine ⟨.iface t X,⟨X,rfl,hx⟩,fun w=>?_⟩
 unfold Instr.makeInterface
 rw [Sem.run_bind,run_und hu]
 cases d <;> first | rfl | exact absurd rfl (hd _)
theorem extract_ok {i:Nat} (e:cT x (fun l=>cK (nth l i) k) = r) (hr:r ≠ .fail) (hx:VR ρ x X):∃ v,k v = r∧Pur P ρ (Instr.extract X i) v:=by
 obtain ⟨l,rfl,h1⟩:=cT_inv e hr
 obtain ⟨h2,h3⟩:=cK_inv h1 hr
 obtain ⟨vs,rfl,hl⟩:=hx
 obtain ⟨V,h4,h5⟩:=LR_nth _ _ i hl h2
 exact ⟨_,h3,V,h5,fun w=>by simp [Instr.extract,show vs[i]? = some V from by simpa using h4]⟩
theorem fieldAddr_ok {t:TypeId} {f:Nat} {fs:Array Field} {fd:Field} (hu:P.underlying t = some (.struct fs)) (hf:fs[f]? = some fd) (hsz:szOf P fd.type ≠ 0)
  (e:cP x (fun b o=>k (.ptr b (Nat.add o fd.offset))) = r) (hr:r ≠ .fail) (hx:VR ρ x X):∃ v,k v = r∧Pur P ρ (Instr.fieldAt t X f) v:=by
 obtain ⟨b,o,rfl,h1⟩:=cP_inv e hr
 obtain ⟨p,hp,rfl⟩:=hx
 refine ⟨_,h1,_,⟨p,hp,rfl⟩,fun w=>?_⟩
 have hso:(sizeOf fd.type).run P w = .ok (szOf P fd.type) w:=by
  unfold szOf at hsz ⊢
  cases hi:P.info? fd.type with
  | none=>rw [hi] at hsz; exact absurd rfl hsz
  | some i=>simp [sizeOf,typeInfo,hi]
 simp [Instr.fieldAt,Instr.sureAddr,fieldPlace,run_und hu,hf,hso,hsz,addr_add,Nat.add_assoc]
theorem lenS_ok {t ty:TypeId} (hu:P.underlying t = some .string) (e:lenS x k = r) (hr:r ≠ .fail) (hx:VR ρ x X):∃ v,k v = r∧Pur P ρ (Builtin.len_ #[t] ty #[X]) v:=by
 obtain ⟨n,a,rfl,h1⟩:=cS_inv e hr
 obtain ⟨s,rfl,rfl,rfl⟩:=hx
 exact ⟨_,h1,_,⟨.i64,rfl,rfl⟩,fun w=>by simp [Builtin.len_,run_und hu,goInt]⟩
theorem lenL_ok {t ty u:TypeId} (hu:P.underlying t = some (.slice u)) (e:lenL x k = r) (hr:r ≠ .fail) (hx:VR ρ x X):∃ v,k v = r∧Pur P ρ (Builtin.len_ #[t] ty #[X]) v:=by
 cases x with
 | nils=>
  have hx:X = .slice none 0 0:=hx
  subst hx
  exact ⟨_,e,_,⟨.i64,rfl,rfl⟩,fun w=>by simp [Builtin.len_,run_und hu,goInt]⟩
 | sl b o n z c=>
  obtain ⟨p,c',hp,rfl,-⟩:=hx
  exact ⟨_,e,_,⟨.i64,rfl,rfl⟩,fun w=>by simp [Builtin.len_,run_und hu,goInt]⟩
 | esl=>
  obtain ⟨a,c',rfl⟩:=hx
  exact ⟨_,e,_,⟨.i64,rfl,rfl⟩,fun w=>by simp [Builtin.len_,run_und hu,goInt]⟩
 | _=>exact absurd e.symm hr
end
end Go.AM
namespace Go.AM
open Go
set_option autoImplicit false
def BV (d j:Nat) (x:Option Value):Prop:=(x = none∧j = d)∨∃ k,x = some (.int k j)
def OR (ρ:Rho) (x:Option AV) (X:Option Value):Prop:=(x = none∧X = none)∨∃ y Y,x = some y∧X = some Y∧VR ρ y Y
section
variable {P:Program} {N0:Base} {ρ:Rho} {h:Hp} {w:World} {x y:AV} {X Y:Value} {r:Res} {k:AV→Res} {lo hi mx:Option AV} {LO HI MX:Option Value}
theorem bnd_ok {d:Nat} {x:Option AV} {X:Option Value} {k:Nat→Res} (e:bnd d x k = r) (hr:r ≠ .fail) (hx:OR ρ x X):∃ j,k j = r∧BV d j X:=by
 rcases hx with ⟨rfl,rfl⟩ | ⟨y,Y,rfl,rfl,hy⟩
 ·exact ⟨d,e,.inl ⟨rfl,rfl⟩⟩
 ·have e:cI y (fun _ j=>Int.rec (motive:=fun _=>Res) k (fun _=>.fail) j) = r:=e
  obtain ⟨c,n,rfl,h1⟩:=cI_inv e hr
  obtain ⟨m,rfl,h2⟩:=natC_inv h1 hr
  obtain ⟨kd,rfl,rfl⟩:=hy
  exact ⟨m,h2,.inr ⟨kd,rfl⟩⟩
theorem sb {kd:IntKind} {j y:Nat} {code:BoundsCode} (hj:j≤y) (w:World):(Instr.sliceBound (.int kd (j:Int)) y code).run P w = .ok j w:=by
 rw [run_sliceBound w kd j y code (by omega) (by omega)]; rfl
theorem bounds_run {is:Bool} {len cap l m n:Nat} (hl:BV 0 l LO) (hm:BV len m HI) (hn:BV cap n MX) (c1:n≤cap) (c2:m≤n) (c3:l≤m) (hx:MX = none∨HI ≠ none) (w:World):
  (Instr.sliceBounds is len cap LO HI MX).run P w = .ok (l,m,n) w:=by
 unfold Instr.sliceBounds
 rcases hn with ⟨a1,b1⟩ | ⟨kn,a1⟩ <;> rcases hm with ⟨a2,b2⟩ | ⟨km,a2⟩ <;> rcases hl with ⟨a3,b3⟩ | ⟨kl,a3⟩ <;> subst a1 <;> subst a2 <;> subst a3 <;> (try subst b1) <;> (try subst b2) <;> (try subst b3) <;> first
  | (exfalso; simp at hx; done)
  | (simp [sb,c1,c2,c3]; done)
  | (simp [sb,c2,c3]; done)
  | (simp [sb,c3]; done)
  | (simp [sb,c1,c2]; done)
  | (simp [sb,c2]; done)
  | (simp [sb,c1]; done)
  | simp
theorem cutO_eq (o l z m:Nat):cutO o l z m = if m = l then o else o + l * z:=by
 have:cutO o l z m = Bool.rec (motive:=fun _=>Nat) (o + l * z) o (Nat.beq m l):=rfl
 rw [this,recB]; simp only [beq_iff]
theorem cut_fit {l c z:Nat} (h:l≤c):l * z + (c - l) * z = c * z:=by rw [← Nat.add_mul]; congr 1; omega
theorem slice_run {t u:TypeId} {a:Option Addr} {len cap l m n:Nat} (hu:P.underlying t = some (.slice u)) (hok:okT P u = true) (hl:BV 0 l LO) (hm:BV len m HI) (hn:BV cap n MX) (c1:n≤cap) (c2:m≤n) (c3:l≤m)
  (hx:MX = none∨HI ≠ none) (w:World):(Instr.sliceAt t (.slice a len cap) LO HI MX).run P w = .ok (.slice (if n = l then a else a.map (·.add (l * szOf P u))) (m - l) (n - l)) w:=by
 unfold Instr.sliceAt
 rw [Sem.run_bind,run_und hu]
 simp only [Result.andThen_ok]
 unfold Instr.slice
 rw [Sem.run_bind,run_und hu]
 simp only [Result.andThen_ok]
 rw [Sem.run_bind,bounds_run hl hm hn c1 c2 c3 hx]
 simp only [Result.andThen_ok]
 rw [Sem.run_bind,sizeOf_run hok]
 rfl
theorem cutS_ok {t u:TypeId} (hu:P.underlying t = some (.slice u)) (hok:okT P u = true) (hmh:(mx.isNone || hi.isSome) = true) (e:cutS (szOf P u) x lo hi mx k = r) (hr:r ≠ .fail) (hx:VR ρ x X)
  (hl:OR ρ lo LO) (hm:OR ρ hi HI) (hn:OR ρ mx MX):∃ v,k v = r∧Pur P ρ (Instr.sliceAt t X LO HI MX) v:=by
 have hxm:MX = none∨HI ≠ none:=by
  rcases hn with ⟨rfl,rfl⟩ | ⟨y,Y,rfl,rfl,-⟩
  ·exact .inl rfl
  ·rcases hm with ⟨rfl,rfl⟩ | ⟨y,Y,rfl,rfl,-⟩
   ·simp at hmh
   ·exact .inr (by simp)
 cases x with
 | nils=>
  have hx:X = .slice none 0 0:=hx
  subst hx
  have e:bnd 0 lo (fun l=>bnd 0 hi fun h=>bnd 0 mx fun m=>ifB (Nat.beq (Nat.add (Nat.add l h) m) 0) (k .nils) .fail) = r:=e
  obtain ⟨l,h1,g1⟩:=bnd_ok e hr hl
  obtain ⟨m,h2,g2⟩:=bnd_ok h1 hr hm
  obtain ⟨n,h3,g3⟩:=bnd_ok h2 hr hn
  obtain ⟨h4,h5⟩:=ifF_inv h3 hr
  rw [beq_iff] at h4
  have h4:l + m + n = 0:=h4
  refine ⟨_,h5,.slice none 0 0,rfl,fun w=>?_⟩
  rw [slice_run hu hok g1 g2 g3 (by omega) (by omega) (by omega) hxm w]
  have e1:l = 0:=by omega
  have e2:m = 0:=by omega
  have e3:n = 0:=by omega
  simp [e1,e2,e3]
 | esl=>
  obtain ⟨a,c',rfl⟩:=hx
  have e:bnd 0 lo (fun l=>bnd 0 hi fun h=>Option.rec (motive:=fun _=>Res) (ifB (Nat.beq (Nat.add l h) 0) (k .esl) .fail) (fun _=>.fail) mx) = r:=e
  obtain ⟨l,h1,g1⟩:=bnd_ok e hr hl
  obtain ⟨m,h2,g2⟩:=bnd_ok h1 hr hm
  cases mx with
  | some y=>exact absurd h2.symm hr
  | none=>
   have hMX:MX = none:=by
    rcases hn with ⟨-,h⟩ | ⟨y,Y,h,-⟩
    ·exact h
    ·cases h
   subst hMX
   obtain ⟨h4,h5⟩:=ifF_inv h2 hr
   rw [beq_iff] at h4
   have h4:l + m = 0:=h4
   have e1:l = 0:=by omega
   have e2:m = 0:=by omega
   subst e1 e2
   refine ⟨_,h5,_,?_,fun w=>slice_run hu hok g1 g2 (.inl ⟨rfl,rfl⟩) (Nat.le_refl _) (by omega) (by omega) hxm w⟩
   split
   ·exact ⟨_,_,rfl⟩
   ·exact ⟨_,_,rfl⟩
 | sl b o n z' c=>
  have e:ifB (Nat.beq (szOf P u) z') _ .fail = r:=e
  obtain ⟨h1,h2⟩:=ifF_inv e hr
  rw [beq_iff] at h1
  subst h1
  obtain ⟨p,c',hp,rfl,hnc,hcc,hfit⟩:=hx
  cases c with
  | some c=>
   obtain rfl:c = c':=by rcases hcc with ⟨h,-⟩ | h; (cases h); exact Option.some.inj h
   obtain ⟨l,h3,g1⟩:=bnd_ok h2 hr hl
   obtain ⟨m,h4,g2⟩:=bnd_ok h3 hr hm
   obtain ⟨nn,h5,g3⟩:=bnd_ok h4 hr hn
   obtain ⟨h6,h7⟩:=ifF_inv h5 hr
   obtain ⟨h8,h9⟩:=ifF_inv h7 hr
   obtain ⟨h10,h11⟩:=ifF_inv h9 hr
   rw [ble_iff] at h6 h8 h10
   refine ⟨_,h11,.slice (some ⟨p.r,p.base + cutO o l (szOf P u) nn,none⟩) (m - l) (nn - l),⟨p,nn - l,hp,rfl,Nat.sub_le_sub_right h8 l,.inr rfl,?_⟩,fun w=>?_⟩
   ·have:=cut_fit (z:=szOf P u) (show l≤nn from by omega)
    have h12:=Nat.mul_le_mul_right (szOf P u) h6
    rw [cutO_eq]; split
    ·rename_i he
     rw [he,Nat.sub_self,Nat.zero_mul]; omega
    ·omega
   ·rw [slice_run hu hok g1 g2 g3 h6 h8 h10 hxm w,cutO_eq]
    congr 2
    split
    ·rfl
    ·simp [addr_add,Nat.add_assoc]
  | none=>
   cases mx with
   | some mm=>
    obtain ⟨l,h3,g1⟩:=bnd_ok h2 hr hl
    obtain ⟨m,h4,g2⟩:=bnd_ok h3 hr hm
    obtain ⟨nn,h5,g3⟩:=bnd_ok h4 hr hn
    obtain ⟨h6,h7⟩:=ifF_inv h5 hr
    obtain ⟨h8,h9⟩:=ifF_inv h7 hr
    obtain ⟨h10,h11⟩:=ifF_inv h9 hr
    rw [ble_iff] at h6 h8 h10
    have g4:BV c' nn MX:=by
     rcases g3 with ⟨h,-⟩ | h
     ·rcases hn with ⟨h',-⟩ | ⟨y,Y,-,h',-⟩
      ·cases h'
      ·rw [h] at h'; cases h'
     ·exact .inr h
    refine ⟨_,h11,.slice (some ⟨p.r,p.base + cutO o l (szOf P u) nn,none⟩) (m - l) (nn - l),⟨p,nn - l,hp,rfl,Nat.sub_le_sub_right h8 l,.inr rfl,?_⟩,fun w=>?_⟩
    ·have:=cut_fit (z:=szOf P u) (show l≤nn from by omega)
     have h12:=Nat.mul_le_mul_right (szOf P u) (show nn≤c' from by omega)
     rw [cutO_eq]; split
     ·rename_i he
      rw [he,Nat.sub_self,Nat.zero_mul]; omega
     ·omega
    ·rw [slice_run hu hok g1 g2 g4 (by omega) h8 h10 hxm w,cutO_eq]
     congr 2
     split
     ·rfl
     ·simp [addr_add,Nat.add_assoc]
   | none=>
    have hMX:MX = none:=by
     rcases hn with ⟨-,h⟩ | ⟨y,Y,h,-⟩
     ·exact h
     ·cases h
    subst hMX
    obtain ⟨l,h3,g1⟩:=bnd_ok h2 hr hl
    obtain ⟨m,h4,g2⟩:=bnd_ok h3 hr hm
    obtain ⟨h6,h7⟩:=ifF_inv h4 hr
    obtain ⟨h8,h9⟩:=ifF_inv h7 hr
    rw [ble_iff] at h6 h8
    have hrun:=fun w=>slice_run (a:=some ⟨p.r,p.base + o,none⟩) hu hok g1 g2 (.inl ⟨rfl,rfl⟩:BV c' c' none) (Nat.le_refl _) (by omega) h8 (.inl rfl) w
    have htop:o + c' * szOf P u = p.top:=by
     rcases hcc with ⟨-,h⟩ | h
     ·exact h
     ·cases h
    rcases ifB_inv h9 with ⟨h10,h11⟩ | ⟨h10,h11⟩
    ·rw [beq_iff] at h10
     subst h10
     refine ⟨_,h11,.slice (some ⟨p.r,p.base + o,none⟩) m c',⟨p,c',hp,rfl,by omega,.inl ⟨rfl,htop⟩,hfit⟩,fun w=>?_⟩
     rw [hrun w]
     have ha:(if c' = 0 then some (⟨p.r,p.base + o,none⟩:Addr) else (some (⟨p.r,p.base + o,none⟩:Addr)).map (·.add (0 * szOf P u))) = some ⟨p.r,p.base + o,none⟩:=by
      split
      ·rfl
      ·simp [addr_add]
     rw [ha,Nat.sub_zero,Nat.sub_zero]
    ·rcases ifB_inv h11 with ⟨h12,h13⟩ | ⟨h12,h13⟩
     ·rw [blt_iff] at h12
      refine ⟨_,h13,.slice (some ⟨p.r,p.base + (o + l * szOf P u),none⟩) (m - l) (c' - l),⟨p,c' - l,hp,rfl,Nat.sub_le_sub_right (show m≤c' by omega) l,.inl ⟨rfl,by have:=cut_fit (z:=szOf P u) (show l≤c' from by omega); show o + l * szOf P u + (c' - l) * szOf P u = p.top; omega⟩,?_⟩,fun w=>?_⟩
      ·have:=cut_fit (z:=szOf P u) (show l≤c' from by omega)
       show p.base + (o + l * szOf P u) + (c' - l) * szOf P u≤p.sz
       omega
      ·rw [hrun w,if_neg (by omega)]
       simp [addr_add,Nat.add_assoc]
     ·have h12:¬ l < n:=fun h=>by rw [← blt_iff,h12] at h; cases h
      have hml:m - l = 0:=by omega
      refine ⟨_,h13,_,?_,hrun⟩
      rw [hml]
      split
      ·exact ⟨_,_,rfl⟩
      ·exact ⟨_,_,rfl⟩
 | _=>exact absurd e.symm hr
theorem cutP_ok {t u:TypeId} {n:Nat} (hi':Inv N0 ρ h w) (hu:P.underlying t = some (.array n u)) (hok:okT P u = true) (hmh:(mx.isNone || hi.isSome) = true) (e:cutP h n (szOf P u) x lo hi mx k = r) (hr:r ≠ .fail) (hx:VR ρ x X)
  (hl:OR ρ lo LO) (hm:OR ρ hi HI) (hn:OR ρ mx MX):∃ v,k v = r∧Pur P ρ (Instr.sliceAt t X LO HI MX) v:=by
 have hxm:MX = none∨HI ≠ none:=by
  rcases hn with ⟨rfl,rfl⟩ | ⟨y,Y,rfl,rfl,-⟩
  ·exact .inl rfl
  ·rcases hm with ⟨rfl,rfl⟩ | ⟨y,Y,rfl,rfl,-⟩
   ·simp at hmh
   ·exact .inr (by simp)
 obtain ⟨b,o,rfl,h1⟩:=cP_inv e hr
 cases hb:h.bs.get b with
 | none=>rw [hb] at h1; exact absurd h1.symm hr
 | some B=>
  rw [hb] at h1
  obtain ⟨h2,h3⟩:=ifF_inv h1 hr
  rw [ble_iff] at h2
  have h2:o + n * szOf P u≤B.lim:=h2
  obtain ⟨l,h4,g1⟩:=bnd_ok h3 hr hl
  obtain ⟨m,h5,g2⟩:=bnd_ok h4 hr hm
  obtain ⟨nn,h6,g3⟩:=bnd_ok h5 hr hn
  obtain ⟨h7,h8⟩:=ifF_inv h6 hr
  obtain ⟨h9,h10⟩:=ifF_inv h8 hr
  obtain ⟨h11,h12⟩:=ifF_inv h10 hr
  rw [ble_iff] at h7 h9 h11
  obtain ⟨p,hp,rfl⟩:=hx
  obtain ⟨p',hp',hB⟩:=hi'.blk b B hb
  obtain rfl:p = p':=by rw [hp] at hp'; exact Option.some.inj hp'
  have hfit:=hB.fit
  refine ⟨_,h12,.slice (some ⟨p.r,p.base + cutO o l (szOf P u) nn,none⟩) (m - l) (nn - l),⟨p,nn - l,hp,rfl,Nat.sub_le_sub_right h9 l,.inr rfl,?_⟩,fun w=>?_⟩
  ·have:=cut_fit (z:=szOf P u) (show l≤nn from by omega)
   have h12:=Nat.mul_le_mul_right (szOf P u) h7
   rw [cutO_eq]; split
   ·rename_i he
    rw [he,Nat.sub_self,Nat.zero_mul]; omega
   ·omega
  ·unfold Instr.sliceAt
   rw [Sem.run_bind,run_und hu]
   simp only [Result.andThen_ok,Instr.sureAddr,pure_bind]
   rw [Sem.run_bind,bounds_run g1 g2 g3 h7 h9 h11 hxm]
   simp only [Result.andThen_ok]
   rw [Sem.run_bind,sizeOf_run hok,cutO_eq]
   simp only [Result.andThen_ok,Sem.run_pure]
   congr 3
   split
   ·rfl
   ·simp [addr_add,Nat.add_assoc]
theorem cutT_ok {t:TypeId} (hu:P.underlying t = some .string) (e:cutT x lo hi k = r) (hr:r ≠ .fail) (hx:VR ρ x X) (hl:OR ρ lo LO) (hm:OR ρ hi HI):
  ∃ v,k v = r∧Pur P ρ (Instr.sliceAt t X LO HI none) v:=by
 obtain ⟨n,a,rfl,h1⟩:=cS_inv e hr
 obtain ⟨l,h2,g1⟩:=bnd_ok h1 hr hl
 obtain ⟨m,h3,g2⟩:=bnd_ok h2 hr hm
 obtain ⟨h4,h5⟩:=ifF_inv h3 hr
 obtain ⟨h6,h7⟩:=ifF_inv h5 hr
 rw [ble_iff] at h4 h6
 obtain ⟨s,rfl,rfl,rfl⟩:=hx
 have h4:m≤s.size:=h4
 have hsz:s.data.size = s.size:=rfl
 have hs:(s.extract l m).data.toList = (s.data.toList.drop l).take (m - l):=by
  rw [ByteArray.data_extract,Array.toList_extract]
 refine ⟨_,h7,.string (s.extract l m),⟨_,rfl,?_,?_⟩,fun w=>?_⟩
 ·rw [ByteArray.data_extract,Array.size_extract]
  show min m s.data.size - l = m - l
  rw [hsz,Nat.min_eq_left h4]
 ·rw [hs,packB_take _ _ (by rw [List.length_drop,Array.length_toList,hsz]; omega),packB_drop]
  show _ = Nat.shiftRight (packB s.data.toList) (8 * l) % 2 ^ (8 * (m - l))
  rw [← Nat.shiftRight_eq_div_pow]; rfl
 ·unfold Instr.sliceAt
  rw [Sem.run_bind,run_und hu]
  simp only [Result.andThen_ok]
  unfold Instr.slice
  rw [Sem.run_bind,run_und hu]
  simp only [Result.andThen_ok]
  have hb:=bounds_run (P:=P) (is:=false) (len:=s.size) (cap:=s.size) g1 g2 (.inl ⟨rfl,rfl⟩) (Nat.le_refl _) h4 h6 (.inl rfl) w
  simp [hb]
end
end Go.AM
namespace Go.AM
open Go
set_option autoImplicit false
section
variable {P:Program} {N0:Base} {ρ:Rho} {h:Hp} {w:World} {x y:AV} {X Y:Value} {r:Res} {k:AV→Hp→Res}
theorem made_get (z:Array Value) (n i:Nat) (hi:i < n):(madeCells z n)[i]? = some (z[i % z.size]!):=by
 unfold madeCells
 rw [Array.getElem?_map,Array.getElem?_eq_getElem (by simpa using hi)]
 simp
theorem rep_flat_get (zs:List Value):∀ (n i:Nat),i < n * zs.length→((List.replicate n zs).flatten)[i]? = zs[i % zs.length]?:=by
 intro n
 induction n with
 | zero=>intro i h; simp at h
 | succ n ih=>
  intro i h
  rw [List.replicate_succ,List.flatten_cons]
  have hz:0 < zs.length:=by
   rcases Nat.eq_zero_or_pos zs.length with h0 | h0
   ·rw [h0] at h; simp at h
   ·exact h0
  by_cases hi:i < zs.length
  ·rw [List.getElem?_append_left hi,Nat.mod_eq_of_lt hi]
  ·have h':(n + 1) * zs.length = n * zs.length + zs.length:=Nat.succ_mul _ _
   rw [List.getElem?_append_right (by omega),ih _ (by omega)]
   congr 1
   exact (Nat.mod_eq_sub_mod (by omega)).symm
theorem made_flat (z:Array Value) (n:Nat):(madeCells z (n * z.size)).toList = (List.replicate n z.toList).flatten:=by
 apply List.ext_getElem?
 intro i
 by_cases hi:i < n * z.size
 ·rw [rep_flat_get z.toList n i (by simpa using hi)]
  have:=made_get z _ i hi
  rw [Array.getElem?_toList,this]
  have hz:0 < z.size:=by
   rcases Nat.eq_zero_or_pos z.size with h0 | h0
   ·rw [h0] at hi; simp at hi
   ·exact h0
  have hm:=Nat.mod_lt i hz
  rw [show z.toList.length = z.size from by simp,Array.getElem?_toList,Array.getElem?_eq_getElem hm,getElem!_pos z _ hm]
 ·rw [List.getElem?_eq_none (by rw [Array.length_toList,size_madeCells]; omega),List.getElem?_eq_none (by simp; omega)]
theorem row_ok (tp:Nat) {l:AV} {Vs:List Value} {cs:Array Value} {et:TypeId} {w':World} {t':T AV} {fz:Nat×Nat} (hi:Inv N0 ρ h w) (hl:LR ρ l Vs) (hnu:Nu w w' cs et fz) (hz:Uf fz cs.size)
  (ht:∀ j,t'.get j = if 0≤j∧j < 0 + len l then some (nth l (j - 0)) else (T.e:T AV).get j) (hcs:∀ (i:Nat) (V:Value),Vs[i]? = some V→cs[i]? = some V):
  ∃ ρ',ρ' h.nb = some ⟨w.heap.size,0,cs.size,tp⟩∧Inv N0 ρ' (nw h (len l) .nil t') w'∧Tr ρ h w ρ' (nw h (len l) .nil t') w':=by
 have hlen:=LR_len l _ hl
 have hle:len l≤cs.size:=by
  rcases Nat.eq_zero_or_pos Vs.length with h0 | h0
  ·omega
  ·have:=hcs (Vs.length - 1) (Vs[Vs.length - 1]'(by omega)) (by simp)
   have:=(Array.getElem?_eq_some_iff.1 this).1
   omega
 obtain ⟨i1,i2⟩:=new_inv tp (lim:=len l) (df:=.nil) (t:=t') hi hnu hz hle (by
  intro i hlt
  obtain ⟨V,g1,g2⟩:=lay_new hl ht h.nb i hlt
  exact ⟨V,hcs i V (by simpa using g1),g2⟩)
 exact ⟨_,ups_same _ _ _,i1,i2⟩
theorem mkS_ok {u:TypeId} {n z:Nat} {l:AV} {cs:Array Value} (hi:Inv N0 ρ h w) (e:mkS h z n l k = r) (hr:r ≠ .fail) (hl:LR ρ l cs.toList):
  ∃ v h' ρ',k v h' = r∧Out N0 ρ h w v h' (.slice (some ⟨w.heap.size,0,none⟩) n n) (w.alloc (.cells cs u)) ρ':=by
 obtain ⟨t',h1,h2,h3⟩:=lay_inv l .e 0 e hr
 obtain ⟨h4,h5⟩:=ifF_inv h1 hr
 rw [beq_iff] at h4
 have h4:0 + len l = n * z:=h4
 rw [Nat.zero_add] at h4 h5
 have hlen:=LR_len l _ hl
 rw [Array.length_toList] at hlen
 obtain ⟨ρ',g1,g2,g3⟩:=row_ok 0 hi hl (nu_alloc cs u) (.inl rfl) h2 (fun i V hV=>by simpa using hV)
 refine ⟨_,_,ρ',h5,⟨_,n,g1,rfl,Nat.le_refl _,.inr rfl,?_⟩,g2,g3⟩
 show 0 + 0 + n * z≤cs.size
 omega
theorem buildSlice_ok {t u:TypeId} {n:Nat} {ps:List (Nat×AV)} {pv:Array (Nat×Value)} (hi:Inv N0 ρ h w) (hp:PRel ρ ps pv.toList) (hu:P.underlying t = some (.slice u))
  (hc:(okS P u && (distinct n ps && (ones (cells (zeroV P u)) && (Nat.beq (len (cells (zeroV P u))) (szOf P u) && Nat.ble (Nat.mul n (szOf P u)) 16777216)))) = true)
  (e:bld (slots P (rep u n) ps 0 0 (repL (cells (zeroV P u)) n)) (fun l=>mkS h (szOf P u) n l k) = r) (hr:r ≠ .fail):Does P N0 ρ h w (Instr.buildSlice t n pv) k r:=by
 simp only [Bool.and_eq_true,beq_iff,ble_iff] at hc
 obtain ⟨h1,h2,h3,h4,h5⟩:=hc
 have hok:okT P u = true:=by simp only [okS,Bool.and_eq_true] at h1; exact h1.1
 obtain ⟨z,hz,hl⟩:=zero_rel (P:=P) (ρ:=ρ) (t:=u) h3
 have hzl:=LR_len _ _ hl
 rw [h4,Array.length_toList] at hzl
 have hL:=repL_rel _ _ hl n
 rw [← made_flat] at hL
 have hlen:len (repL (cells (zeroV P u)) n) = sizes P (rep u n):=by
  rw [LR_len _ _ hL,Array.length_toList,size_madeCells,sizes_sum,rep_eq,List.map_replicate,List.sum_replicate_nat,hzl]
 obtain ⟨l,cs,g1,g2,g3,g4⟩:=fill_ok (P:=P) (place:=fun i=>some (i * szOf P u,szOf P u)) hp (by rw [rep_len]; exact h2) (by intro v hv; rw [rep_mem hv]; exact h1) hL hlen (rep_place u n) e hr
 obtain ⟨v,h',ρ',g5,g6⟩:=mkS_ok (u:=u) (cs:=cs) hi g1 hr g3
 refine ⟨v,h',_,_,ρ',g5,?_,g6⟩
 rw [Array.toArray_toList] at g2
 have h5:n * szOf P u≤16777216:=h5
 unfold Instr.buildSlice
 rw [Sem.run_bind,run_und hu]
 simp only [Result.andThen_ok]
 rw [Sem.run_bind,sizeOf_run hok]
 simp only [Result.andThen_ok]
 have hbig:¬ n * szOf P u > 2 ^ 24:=by omega
 simp only [if_neg hbig,pure_bind]
 by_cases h0:n * szOf P u = 0
 ·rw [← hzl,h0] at g2
  have he:madeCells z.cells 0 = madeCells #[] 0:=by simp [madeCells]
  rw [he] at g2
  simp only [h0,if_true]
  have g2:Instr.fill (fun i=>some (i * szOf P u,szOf P u)) ((Array.range 0).map ((#[]:Array Value)[· % (#[]:Array Value).size]!)) pv.toList = some cs:=g2
  rw [g2]
  simp [newRow]
 ·simp only [if_neg h0]
  rw [Sem.run_bind,hz]
  simp only [Result.andThen_ok]
  rw [← hzl] at g2
  have g2:Instr.fill (fun i=>some (i * szOf P u,szOf P u)) ((Array.range (n * szOf P u)).map (z.cells[· % z.cells.size]!)) pv.toList = some cs:=g2
  rw [g2]
  simp [newRow]
end
end Go.AM
namespace Go.AM
open Go
set_option autoImplicit false
section
variable {P:Program} {N0:Base} {ρ:Rho} {h:Hp} {w:World} {x y:AV} {X Y:Value} {r:Res}
theorem zero_info {t:TypeId} (h:ones (cells (zeroV P t)) = true):∃ i z,P.info? t = some i∧i.zero = some z∧LR ρ (cells (zeroV P t)) z.cells.toList:=by
 have hk:=ones_known h
 unfold zeroV at hk ⊢
 cases hi:P.info? t with
 | none=>rw [hi] at hk; exact absurd rfl hk
 | some i=>
  rw [hi] at hk
  simp only at hk ⊢
  cases hz:i.zero with
  | none=>rw [hz] at hk; exact absurd rfl hk
  | some z=>
   rw [hz] at hk
   exact ⟨i,z,rfl,hz,cells_rel (ofV_rel z) hk⟩
theorem szOf_info {t:TypeId} {i:TypeInfo} (h:P.info? t = some i):szOf P t = i.size:=by simp [szOf,h]
theorem byOf_info {t:TypeId} {i:TypeInfo} (h:P.info? t = some i):byOf P t = i.bytes:=by simp [byOf,h]
theorem mkM_ok {t u:TypeId} {k:AV→Hp→Res} (hi:Inv N0 ρ h w) (hu:P.underlying t = some (.slice u)) (hc:(ones (cells (zeroV P u)) && Nat.beq (len (cells (zeroV P u))) (szOf P u)) = true)
  (e:mkM h (cells (zeroV P u)) (byOf P u) x y k = r) (hr:r ≠ .fail) (hx:VR ρ x X) (hy:VR ρ y Y):Does P N0 ρ h w (Instr.makeSlice t X Y) k r:=by
 simp only [Bool.and_eq_true,beq_iff] at hc
 obtain ⟨h1,h2⟩:=hc
 obtain ⟨i,z,hinf,hz,hl⟩:=zero_info (P:=P) (ρ:=ρ) (t:=u) h1
 obtain ⟨c1,a,rfl,h3⟩:=cI_inv e hr
 obtain ⟨c2,b,rfl,h4⟩:=cI_inv h3 hr
 obtain ⟨l,rfl,h5⟩:=natC_inv h4 hr
 obtain ⟨c,rfl,h6⟩:=natC_inv h5 hr
 obtain ⟨h7,h8⟩:=ifF_inv h6 hr
 obtain ⟨h9,h10⟩:=ifF_inv h8 hr
 obtain ⟨h11,h12⟩:=ifF_inv h10 hr
 rw [ble_iff] at h7 h9 h11
 have h9:byOf P u * c≤140737488355328:=h9
 obtain ⟨k1,-,rfl⟩:=hx
 obtain ⟨k2,-,rfl⟩:=hy
 have hzl:=LR_len _ _ hl
 rw [Array.length_toList] at hzl
 rw [byOf_info hinf] at h9
 have hrun:=run_make (P:=P) w t u i z hu hinf hz k1 k2 l c (by omega) (by omega) (by rw [← Int.natCast_mul]; omega) (by omega)
 simp only [Int.toNat_natCast] at hrun
 rw [← szOf_info hinf,← h2,hzl] at hrun
 obtain ⟨i1,i2⟩:=new_inv 0 (lim:=c * z.cells.size) (df:=cells (zeroV P u)) (t:=.e) hi (nu_alloc (madeCells z.cells (c * z.cells.size)) u) (.inl rfl) (by rw [size_madeCells]; exact Nat.le_refl _) (by
  intro j hj
  have hzp:0 < z.cells.size:=by
   rcases Nat.eq_zero_or_pos z.cells.size with h0 | h0
   ·rw [h0] at hj; simp at hj
   ·exact h0
  have hm:=Nat.mod_lt j hzp
  refine ⟨_,made_get _ _ _ hj,?_⟩
  rw [at_eq,if_pos hj]
  show VR ρ (nth (cells (zeroV P u)) (j % len (cells (zeroV P u)))) _
  rw [hzl]
  refine LR_get _ _ hl _ _ ?_
  rw [Array.getElem?_toList,Array.getElem?_eq_getElem hm,getElem!_pos z.cells _ hm])
 refine ⟨_,_,_,_,ups ρ h.nb ⟨w.heap.size,0,(madeCells z.cells (c * z.cells.size)).size,0⟩,h12,hrun,⟨⟨w.heap.size,0,(madeCells z.cells (c * z.cells.size)).size,0⟩,c,ups_same _ _ _,rfl,h7,.inr rfl,?_⟩,?_,?_⟩
 ·show 0 + 0 + c * len (cells (zeroV P u))≤(madeCells z.cells (c * z.cells.size)).size
  rw [size_madeCells,hzl]; omega
 ·show Inv _ _ (nw h (c * len (cells (zeroV P u))) (cells (zeroV P u)) .e) _
  rw [hzl]; exact i1
 ·show Tr _ _ _ _ (nw h (c * len (cells (zeroV P u))) (cells (zeroV P u)) .e) _
  rw [hzl]; exact i2
theorem bytesL_rel:∀ (l:List UInt8),LR ρ (bytesL l.length (packB l)) (l.map fun b=>Value.int .u8 b.toNat):=by
 intro l
 induction l with
 | nil=>rfl
 | cons b l ih=>
  have h2:packB (b :: l) = b.toNat + 256 * packB l:=rfl
  have hb:=b.toNat_lt
  refine ⟨.int .u8 b.toNat,_,rfl,⟨.u8,rfl,?_⟩,?_⟩
  ·have:Nat.mod (packB (b :: l)) 256 = b.toNat:=by rw [h2]; show (b.toNat + 256 * packB l) % 256 = _; omega
   rw [this]; rfl
  ·have:Nat.div (packB (b :: l)) 256 = packB l:=by rw [h2]; show (b.toNat + 256 * packB l) / 256 = _; omega
   show LR ρ (bytesL l.length (Nat.div (packB (b :: l)) 256)) _
   rw [this]; exact ih
structure Src (P:Program) (ρ:Rho) (w:World) (z m:Nat) (Y:Value) (l:AV) (Vs:List Value):Prop where
 rel:LR ρ l Vs
 length:Vs.length = m * z
 run:∀ w',w'.heap = w.heap→(Builtin.firstCells z m Y).run P w' = .ok Vs.toArray w'
theorem src_ok {z:Nat} {k:Nat→AV→Res} (hi:Inv N0 ρ h w) (e:src h z y k = r) (hr:r ≠ .fail) (hy:VR ρ y Y):
  ∃ m l Vs,k m l = r∧Src P ρ w z m Y l Vs∧∀ w',(Builtin.lenOf Y).run P w' = .ok m w':=by
 cases y with
 | str n x=>
  obtain ⟨s,rfl,rfl,rfl⟩:=hy
  obtain ⟨h1,h2⟩:=ifF_inv e hr
  rw [beq_iff] at h1
  subst h1
  refine ⟨_,_,_,h2,⟨by simpa using bytesL_rel (ρ:=ρ) s.data.toList,by simp,fun w' _=>?_⟩,fun w'=>rfl⟩
  simp [Builtin.firstCells,← Array.toList_map]
 | nils=>
  have hy:Y = .slice none 0 0:=hy
  subst hy
  exact ⟨0,.nil,[],e,⟨rfl,by simp,fun w' _=>by simp [Builtin.firstCells]⟩,fun w'=>rfl⟩
 | esl=>
  obtain ⟨a,c',rfl⟩:=hy
  exact ⟨0,.nil,[],e,⟨rfl,by simp,fun w' _=>by simp [Builtin.firstCells,loadCells,loadCellsFrom]⟩,fun w'=>rfl⟩
 | sl b o n z' c=>
  obtain ⟨h1,h2⟩:=ifF_inv e hr
  rw [beq_iff] at h1
  subst h1
  obtain ⟨B,hb,hrd,h3⟩:=gb_inv h2 hr
  obtain ⟨p,c',hp,rfl,-⟩:=hy
  obtain ⟨p',hp',hB⟩:=hi.blk b B hb
  obtain rfl:p = p':=by rw [hp] at hp'; exact Option.some.inj hp'
  obtain ⟨l,Vs,g1,g2,g3,-,g5⟩:=rds_ok hB hrd _ _ h3 hr
  refine ⟨n,l,Vs,g1,⟨g3,g2,fun w' hw=>?_⟩,fun w'=>rfl⟩
  refine run_firstCells_some w' z n _ n c' Vs g2 (fun j v hv=>?_)
  have:=g5 j v hv
  rw [addr_add,Nat.add_assoc]
  simpa [World.cell?,hw] using this
 | _=>exact absurd e.symm hr
theorem packL_ok:∀ (l:AV) (Vs:List Value) {k:Nat→Res},LR ρ l Vs→packL l k = r→r ≠ .fail →
  ∃ bs:List UInt8,k (packB bs) = r∧Vs = bs.map fun b=>Value.int .u8 b.toNat:=by
 intro l
 induction l with
 | nil=>intro Vs k hl e hr; have hl:Vs = []:=hl; subst hl; exact ⟨[],e,rfl⟩
 | cons v l _ ih=>
  intro Vs k hl e hr
  obtain ⟨V,Vs',rfl,g1,g2⟩:=hl
  have e:cI v (fun c n=>ifB (Nat.beq c 8) (Int.rec (motive:=fun _=>Res) (fun m=>ifB (Nat.blt m 256) (packL l fun p=>k (Nat.add m (Nat.mul 256 p))) .fail) (fun _=>.fail) n) .fail) = r:=e
  obtain ⟨c,n,rfl,h1⟩:=cI_inv e hr
  obtain ⟨h2,h3⟩:=ifF_inv h1 hr
  obtain ⟨m,rfl,h4⟩:=natC_inv h3 hr
  obtain ⟨h5,h6⟩:=ifF_inv h4 hr
  rw [beq_iff] at h2
  rw [blt_iff] at h5
  obtain ⟨kd,hk,rfl⟩:=g1
  obtain rfl:kd = .u8:=cOf_k hk (by rw [h2]; rfl)
  obtain ⟨bs,h7,h8⟩:=ih Vs' g2 h6 hr
  have hm:(UInt8.ofNat m).toNat = m:=by simp; omega
  refine ⟨UInt8.ofNat m :: bs,?_,by rw [h8,List.map_cons,hm]⟩
  have:packB (UInt8.ofNat m :: bs) = (UInt8.ofNat m).toNat + 256 * packB bs:=rfl
  rw [this,hm]; exact h7
 | _=>intro Vs k hl e hr; exact absurd e.symm hr
theorem push_bytes:∀ (bs:List UInt8) (s:ByteArray),((bs.map fun b=>(b.toNat:Int)).foldl (fun r n=>r.push (UInt8.ofNat n.toNat)) s).data.toList = s.data.toList ++ bs:=by
 intro bs
 induction bs with
 | nil=>intro s; simp
 | cons b bs ih=>intro s; simp [ih]
theorem b2s_ok {s d u:TypeId} {k:AV→Res} (hi:Inv N0 ρ h w) (hs:P.underlying s = some (.slice u)) (hd:P.underlying d = some .string) (hu:P.underlying u = some (.int .u8))
  (e:b2s h x k = r) (hr:r ≠ .fail) (hx:VR ρ x X):∃ v V,k v = r∧VR ρ v V∧(convert s d X).run P w = .ok V w:=by
 have e0:noS x (src h 1 x fun n l=>packL l fun p=>k (.str n p)) = r:=e
 have hf:∀ n y,x ≠ .str n y:=fun n y hxs=>by subst hxs; exact hr e0.symm
 have e:src h 1 x (fun n l=>packL l fun p=>k (.str n p)) = r:=by
  cases x <;> first
   | exact absurd e0.symm hr
   | exact e0
 obtain ⟨m,l,Vs,h1,h2,h3⟩:=src_ok (P:=P) hi e hr hx
 obtain ⟨bs,h4,h5⟩:=packL_ok l Vs h2.rel h1 hr
 have hlen:=h2.length
 rw [Nat.mul_one,h5,List.length_map] at hlen
 have conv:∀ a n c,X = .slice a n c→(convert s d X).run P w = (Conv.bytesToString X).run P w:=by
  intro a n c hX
  subst hX
  unfold convert
  rw [Sem.run_bind,run_und hs]
  simp only [Result.andThen_ok]
  rw [Sem.run_bind,run_und hd]
  simp only [Result.andThen_ok]
  rw [Sem.run_bind,run_und hu]
  rfl
 have go:∀ (V:ByteArray),V.data.toList = bs→(convert s d X).run P w = .ok (.string V) w→∃ v V,k v = r∧VR ρ v V∧(convert s d X).run P w = .ok V w:=by
  intro V hV hrun
  refine ⟨_,_,h4,⟨V,rfl,?_,by rw [hV]⟩,hrun⟩
  rw [← Array.length_toList,hV]; exact hlen
 cases x with
 | str n y=>exact absurd rfl (hf n y)
 | nils=>
  have hx:X = .slice none 0 0:=hx
  subst hx
  have hm:=h3 w
  simp only [Builtin.lenOf,Sem.run_pure,Result.ok.injEq,and_true] at hm
  subst hm
  obtain rfl:bs = []:=List.eq_nil_of_length_eq_zero hlen
  exact go .empty rfl (by rw [conv _ _ _ rfl]; simp [Conv.bytesToString])
 | esl=>
  obtain ⟨a,c',rfl⟩:=hx
  have hm:=h3 w
  simp only [Builtin.lenOf,Sem.run_pure,Result.ok.injEq,and_true] at hm
  subst hm
  obtain rfl:bs = []:=List.eq_nil_of_length_eq_zero hlen
  exact go .empty rfl (by rw [conv _ _ _ rfl,run_bytesToString w a 0 c' [] (by simp [loadCells,loadCellsFrom])]; rfl)
 | sl b o n z c=>
  obtain ⟨p,c',hp,rfl,-⟩:=hx
  have hm:=h3 w
  simp only [Builtin.lenOf,Sem.run_pure,Result.ok.injEq,and_true] at hm
  subst hm
  have hl:=h2.run w rfl
  simp only [Builtin.firstCells,Nat.mul_one] at hl
  have hmap:bs.map (fun b=>Value.int .u8 (b.toNat:Int)) = (bs.map fun b=>(b.toNat:Int)).map (Value.int .u8):=by rw [List.map_map]; rfl
  rw [h5,hmap] at hl
  exact go ((bs.map fun b=>(b.toNat:Int)).foldl (fun r n=>r.push (UInt8.ofNat n.toNat)) ByteArray.empty) (by rw [push_bytes]; rfl) (by rw [conv _ _ _ rfl,run_bytesToString w _ _ c' _ hl])
 | _=>exact absurd e.symm hr
end
end Go.AM
namespace Go.AM
open Go
set_option autoImplicit false
section
variable {P:Program} {N0:Base} {ρ:Rho} {h:Hp} {w:World} {x y:AV} {X Y:Value} {r:Res}
theorem nu_mark (cs:Array Value) (e:TypeId) (fz:Nat×Nat):Nu w (w.drew.alloc (.cells cs e fz)) cs e fz:=by
 have hh:(w.drew.alloc (.cells cs e fz)).heap = w.heap.push (.cells cs e fz):=rfl
 exact ⟨by rw [hh]; simp,fun r hr=>by rw [hh,Array.getElem?_push,if_neg (by omega)],by rw [hh]; simp,rfl,rfl,rfl⟩
theorem s2b_ok {s d u:TypeId} {k:AV→Hp→Res} (hi:Inv N0 ρ h w) (hs:P.underlying s = some .string) (hd:P.underlying d = some (.slice u)) (hu:P.underlying u = some (.int .u8))
  (e:s2b h x k = r) (hr:r ≠ .fail) (hx:VR ρ x X):Does P N0 ρ h w (convert s d X) k r:=by
 obtain ⟨n,a,rfl,h1⟩:=cS_inv e hr
 obtain ⟨st,rfl,rfl,rfl⟩:=hx
 obtain ⟨t',h2,h3,-⟩:=lay_inv _ _ _ h1 hr
 have hrel:LR ρ (bytesL st.data.size (packB st.data.toList)) (st.data.toList.map fun b=>Value.int .u8 b.toNat):=by simpa using bytesL_rel (ρ:=ρ) st.data.toList
 have hlen:=LR_len _ _ hrel
 simp only [List.length_map,Array.length_toList] at hlen
 obtain ⟨ρ',g1,g2,g3⟩:=row_ok (grownCap w st.size 0 u * 1) hi hrel (nu_mark (bytesRow st (grownCap w st.size 0 u)) u ((bytesRow st (grownCap w st.size 0 u)).size,(bytesRow st (grownCap w st.size 0 u)).size + 1)) (.inr (Nat.le_refl _)) h3 (by
  intro i V hV
  have hi:i < st.data.size:=by
   have:=(List.getElem?_eq_some_iff.1 hV).1
   simpa using this
  rw [bytesRow_at st _ i hi]
  simp only [List.getElem?_map,Array.getElem?_toList,Array.getElem?_eq_getElem hi,Option.map_some] at hV
  exact hV)
 rw [hlen] at g2 g3
 have hge:=grownCap_ge w st.size 0 u
 refine ⟨_,_,_,_,ρ',h2,run_bytes_of_string w s d u st hs hd hu,⟨_,grownCap w st.size 0 u,g1,rfl,hge,.inl ⟨rfl,Nat.zero_add _⟩,?_⟩,g2,g3⟩
 show 0 + 0 + grownCap w st.size 0 u * 1≤(bytesRow st (grownCap w st.size 0 u)).size
 have hsz:st.data.size = st.size:=rfl
 unfold bytesRow
 rw [Array.size_append,Array.size_map,Array.size_replicate]
 omega
theorem grp_inv {b:Nat} {B:Blk} {p p':Pl} {lim' old:Nat} {df':AV} {t':T AV} {w':World} {cs':Array Value} {et:TypeId} {fz:Nat×Nat}
  (hi:Inv N0 ρ h w) (hb:h.bs.get b = some B) (hf:B.fr = true) (hlo:h.lo≤b) (hp:ρ b = some p)
  (hrow:w'.heap[p'.r]? = some (.cells cs' et fz)) (hsz:cs'.size = p'.sz) (hz:Uf fz p'.sz) (hlim:p'.base + lim'≤p'.sz)
  (hwhere:p'.r = p.r∨p'.r = w.heap.size)
  (hother:∀ r,r < w.heap.size→r ≠ p.r→w'.heap[r]? = w.heap[r]?) (hsize:w.heap.size≤w'.heap.size) (htape:w'.tape = w.tape) (hos:w'.os = w.os) (hout:w'.output = w.output)
  (hkeep:∀ cs e fz,w.heap[p.r]? = some (.cells cs e fz)→∃ cs2,w'.heap[p.r]? = some (.cells cs2 e fz)∧cs2.size = cs.size∧(old ≠ h.nb→∀ i,i < p.base + B.lim→cs2[i]? = cs[i]?))
  (hold:old = h.nb∨(old = (h.grp B.g).2∧(h.grp B.g).1 = b∧readable h b B∧B.lim≤lim'∧(p'.r = p.r→p'.base = p.base)))
  (hc:∀ i,i < lim'→∃ V,cs'[p'.base + i]? = some V∧VR ρ ((⟨true,B.g,lim',df',t'⟩:Blk).at i) V):
  Inv N0 (ups ρ h.nb p') ⟨Nat.succ h.nb,h.bs.set ⟨true,B.g,lim',df',t'⟩ h.nb,h.gs.set (h.nb,old) B.g,h.ms,h.lo,h.oc⟩ w' ∧
  Tr ρ h w (ups ρ h.nb p') ⟨Nat.succ h.nb,h.bs.set ⟨true,B.g,lim',df',t'⟩ h.nb,h.gs.set (h.nb,old) B.g,h.ms,h.lo,h.oc⟩ w':=by
 have hfree:ρ h.nb = none:=hi.free _ (Nat.le_refl _)
 have hext:=ups_ext p' hfree
 obtain ⟨p0,hp0,hB⟩:=hi.blk b B hb
 obtain rfl:p = p0:=by rw [hp] at hp0; exact Option.some.inj hp0
 have hplt:=hB.lt
 have hbnb:=hi.nb b B hb
 have hgb:=hi.gnb b B hb hf
 generalize hH:(⟨Nat.succ h.nb,h.bs.set ⟨true,B.g,lim',df',t'⟩ h.nb,h.gs.set (h.nb,old) B.g,h.ms,h.lo,h.oc⟩:Hp) = H
 have hget:∀ b2,H.bs.get b2 = if b2 = h.nb then some ⟨true,B.g,lim',df',t'⟩ else h.bs.get b2:=fun b2=>by subst hH; simp [T.get_set]
 have hgrp:∀ g,H.grp g = if g = B.g then (h.nb,old) else h.grp g:=fun g=>by
  subst hH
  simp only [Hp.grp,T.get_set]
  by_cases e:g = B.g
  ·rw [if_pos e,if_pos e]
  ·rw [if_neg e,if_neg e]
 have hHnb:H.nb = h.nb + 1:=by subst hH; rfl
 have hHms:H.ms = h.ms:=by subst hH; rfl
 have hmp:MInv N0 (ups ρ h.nb p') H.ms H.nb w':=by
  rw [hHms,hHnb]
  refine hi.mp.later hext (Nat.le_succ _) fun r o hr ho=>hother r (Array.getElem?_eq_some_iff.1 hr).1 fun e=>?_
  obtain ⟨cs,e',fz,g1,-⟩:=hB.obj
  rw [e,g1] at hr
  exact ho _ _ _ (Option.some.inj hr).symm
 have hHgs:∀ g,H.gs.get g = if g = B.g then some (h.nb,old) else h.gs.get g:=fun g=>by subst hH; simp [T.get_set]
 have look:∀ b2 B2,H.bs.get b2 = some B2→(b2 = h.nb∧B2 = ⟨true,B.g,lim',df',t'⟩)∨(b2 ≠ h.nb∧h.bs.get b2 = some B2∧b2 < h.nb):=by
  intro b2 B2 h2
  rw [hget] at h2
  by_cases e0:b2 = h.nb
  ·rw [if_pos e0] at h2; exact .inl ⟨e0,(Option.some.inj h2).symm⟩
  ·rw [if_neg e0] at h2; exact .inr ⟨e0,h2,hi.nb _ _ h2⟩
 have plc:∀ b2 B2 p2,h.bs.get b2 = some B2→ups ρ h.nb p' b2 = some p2→b2 ≠ h.nb→ρ b2 = some p2∧BR N0 ρ h w b2 B2 p2:=by
  intro b2 B2 p2 h2 hp2 hne
  rw [ups_ne _ _ hne] at hp2
  obtain ⟨p3,hp3,hB⟩:=hi.blk b2 B2 h2
  obtain rfl:p2 = p3:=by rw [hp2] at hp3; exact Option.some.inj hp3
  exact ⟨hp2,hB⟩
 have grpLe:(h.grp B.g).2≤(h.grp B.g).1:=by
  cases hq:h.gs.get B.g with
  | none=>simp [Hp.grp,hq]
  | some q=>have:=(hi.gs _ _ hq).2.2; simpa [Hp.grp,hq] using this
 have hnewlt:(h.grp B.g).1 < h.nb:=by
  cases hq:h.gs.get B.g with
  | none=>simp [Hp.grp,hq]; exact hgb.1
  | some q=>have:=(hi.gs _ _ hq).2.1; simpa [Hp.grp,hq] using this
  -- what may be read still of the old blocks could be read before
 have rd:∀ b2 B2,h.bs.get b2 = some B2→b2 < h.nb→readable H b2 B2→readable h b2 B2∧(B2.fr = true→B2.g = B.g→old ≠ h.nb):=by
  intro b2 B2 h2 hlt hrd
  refine ⟨fun hf2=>?_,fun hf2 hg he=>?_⟩
  ·have:=hrd hf2
   rw [hgrp] at this
   by_cases e:B2.g = B.g
   ·rw [if_pos e] at this
    rcases hold with h' | ⟨h',-⟩
    ·rw [h'] at this; simp only at this; omega
    ·rw [e]; rw [h'] at this; exact this
   ·rwa [if_neg e] at this
  ·have:=hrd hf2
   rw [hgrp,if_pos hg] at this
   simp only at this
   omega
  -- an old block still stands for its row
 have keep:∀ b2 B2 p2,h.bs.get b2 = some B2→ρ b2 = some p2→BR N0 ρ h w b2 B2 p2→b2 < h.nb→BR N0 (ups ρ h.nb p') H w' b2 B2 p2:=by
  intro b2 B2 p2 h2 hp2 hB2 hlt
  by_cases er:p2.r = p.r
  ·have hf2:B2.fr = true:=by
    cases hff:B2.fr with
    | true=>rfl
    | false=>have:=hB2.side.2 hff; have:=hB.side.1 hf; omega
   have hg2:=hi.als b2 b B2 B p2 p h2 hb hf2 hf hp2 hp er
   obtain ⟨cs,e,fz2,g1,g2,g3,g4⟩:=hB2.obj
   rw [er] at g1
   obtain ⟨cs2,k1,k2,k3⟩:=hkeep cs e fz2 g1
   refine ⟨⟨cs2,e,fz2,by rw [er]; exact k1,by omega,g3,fun hrd i hilt=>?_⟩,hB2.fit,hB2.side⟩
   obtain ⟨hrd',hne⟩:=rd b2 B2 h2 hlt hrd
   have hne:=hne hf2 hg2
   obtain ⟨V,v1,v2⟩:=g4 hrd' i hilt
   rcases hold with h' | ⟨h',hnew,hrb,hll,-⟩
   ·exact absurd h' hne
   ·have hle:b2≤b:=by
     have:=(hi.gnb b2 B2 h2 hf2).2
     rw [hg2,hnew] at this; exact this
    have hl:=hi.lim b2 b B2 B p2 p h2 hb hf2 hf hp2 hp hg2 hrd' hrb hle
    have hbase:=hl.2 er
    exact ⟨V,by rw [k3 hne _ (by omega)]; exact v1,v2.ext hext⟩
  ·exact hB2.later hext (hother _ hB2.lt er) (fun hrd=>(rd b2 B2 h2 hlt hrd).1)
 refine ⟨⟨?_,?_,?_,?_,?_,?_,?_,by have:=hi.wsz; omega,hmp,Base.st hi.jj fun r hr=>hother r (by have:=hi.wsz; omega) fun e=>by have:=hB.side.1 hf; omega⟩,⟨hext,by rw [hHnb]; exact Nat.le_succ _,?_,fun r hr hn _=>hother r hr (fun e=>hn b B p hb ⟨hf,hlo⟩ hp e.symm),?_,by rw [hHms]; exact hi.mp.same hext h.lo,hsize,htape,hos,hout,by subst hH; rfl⟩⟩
 ·intro b2 B2 h2
  rcases look b2 B2 h2 with ⟨rfl,rfl⟩ | ⟨hne,h2,hlt⟩
  ·refine ⟨_,ups_same _ _ _,⟨cs',et,fz,hrow,hsz,fun _=>hz,fun _ i hlt=>?_⟩,hlim,fun _=>?_,fun h=>by cases h⟩
   ·obtain ⟨V,k1,k2⟩:=hc i hlt
    exact ⟨V,k1,k2.ext hext⟩
   ·have:=hB.side.1 hf
    have:=hi.wsz
    rcases hwhere with e | e <;> omega
  ·obtain ⟨p2,hp2,hB2⟩:=hi.blk b2 B2 h2
   exact ⟨p2,by rw [ups_ne _ _ hne]; exact hp2,keep b2 B2 p2 h2 hp2 hB2 hlt⟩
 ·intro b2 B2 h2
  rw [hHnb]
  rcases look b2 B2 h2 with ⟨rfl,rfl⟩ | ⟨hne,h2,hlt⟩
  ·exact Nat.lt_succ_self _
  ·exact Nat.lt_succ_of_lt hlt
 ·intro b2 B2 h2 hf2
  rw [hHnb,hgrp]
  rcases look b2 B2 h2 with ⟨rfl,rfl⟩ | ⟨hne,h2,hlt⟩
  ·refine ⟨Nat.lt_succ_of_lt hgb.1,?_⟩
   rw [if_pos rfl]; exact Nat.le_refl _
  ·have:=hi.gnb b2 B2 h2 hf2
   refine ⟨Nat.lt_succ_of_lt this.1,?_⟩
   by_cases e:B2.g = B.g
   ·rw [if_pos e]; exact Nat.le_of_lt hlt
   ·rw [if_neg e]; exact this.2
 ·intro g q hq
  rw [hHgs] at hq
  rw [hHnb]
  by_cases e:g = B.g
  ·rw [if_pos e] at hq
   obtain rfl:=Option.some.inj hq
   refine ⟨by have:=hgb.1; omega,Nat.lt_succ_self _,?_⟩
   rcases hold with h' | ⟨h',-⟩
   ·rw [h']; exact Nat.le_refl _
   ·rw [h']; show (h.grp B.g).2≤h.nb; omega
  ·rw [if_neg e] at hq
   have:=hi.gs g q hq
   exact ⟨Nat.lt_succ_of_lt this.1,Nat.lt_succ_of_lt this.2.1,this.2.2⟩
 ·intro b1 b2 B1 B2 p1 p2 h1 h2 f1 f2 e1 e2 er
  rcases look b1 B1 h1 with ⟨rfl,rfl⟩ | ⟨n1,k1,l1⟩ <;> rcases look b2 B2 h2 with ⟨rfl,rfl⟩ | ⟨n2,k2,l2⟩
  ·rfl
  ·rw [ups_same] at e1
   obtain rfl:=(Option.some.inj e1).symm
   have hB2:=plc b2 B2 p2 k2 e2 n2
   rcases hwhere with hw | hw
   ·exact (hi.als b2 b B2 B p2 p k2 hb f2 hf hB2.1 hp (by rw [← er,hw])).symm
   ·have:=hB2.2.lt; omega
  ·rw [ups_same] at e2
   obtain rfl:=(Option.some.inj e2).symm
   have hB1:=plc b1 B1 p1 k1 e1 n1
   rcases hwhere with hw | hw
   ·exact hi.als b1 b B1 B p1 p k1 hb f1 hf hB1.1 hp (by rw [er,hw])
   ·have:=hB1.2.lt; omega
  ·exact hi.als b1 b2 B1 B2 p1 p2 k1 k2 f1 f2 (plc b1 B1 p1 k1 e1 n1).1 (plc b2 B2 p2 k2 e2 n2).1 er
 ·intro b1 b2 B1 B2 p1 p2 h1 h2 f1 f2 e1 e2 eg r1 r2 hle
  rcases look b1 B1 h1 with ⟨rfl,rfl⟩ | ⟨n1,k1,l1⟩ <;> rcases look b2 B2 h2 with ⟨rfl,rfl⟩ | ⟨n2,k2,l2⟩
  ·rw [e1] at e2
   obtain rfl:=Option.some.inj e2
   exact ⟨Nat.le_refl _,fun _=>rfl⟩
  ·omega
  ·rw [ups_same] at e2
   obtain rfl:=(Option.some.inj e2).symm
   have hB1:=plc b1 B1 p1 k1 e1 n1
   obtain ⟨hr1,hne⟩:=rd b1 B1 k1 l1 r1
   have hne:=hne f1 eg
   rcases hold with h' | ⟨h',hnew,hrb,hll,hbase⟩
   ·exact absurd h' hne
   ·have hle2:b1≤b:=by
     have:=(hi.gnb b1 B1 k1 f1).2
     rw [show B1.g = B.g from eg,hnew] at this; exact this
    have hl:=hi.lim b1 b B1 B p1 p k1 hb f1 hf hB1.1 hp eg hr1 hrb hle2
    refine ⟨Nat.le_trans hl.1 hll,fun er=>?_⟩
    rcases hwhere with hw | hw
    ·rw [hl.2 (by rw [er,hw]),hbase hw]
    ·have:=hB1.2.lt; omega
  ·exact hi.lim b1 b2 B1 B2 p1 p2 k1 k2 f1 f2 (plc b1 B1 p1 k1 e1 n1).1 (plc b2 B2 p2 k2 e2 n2).1 eg (rd b1 B1 k1 l1 r1).1 (rd b2 B2 k2 l2 r2).1 hle
 ·intro i hle
  rw [hHnb] at hle
  rw [ups_ne _ _ (by omega)]
  exact hi.free i (by omega)
 ·intro b2 p2 hp2
  rw [hHnb]
  by_cases e0:b2 = h.nb
  ·subst e0; exact .inr ⟨hfree,Nat.le_refl _,Nat.lt_succ_self _⟩
  ·rw [ups_ne _ _ e0] at hp2; exact .inl hp2
 ·intro l hll b2 B2 p2 h2 hf2 hp2
  rcases look b2 B2 h2 with ⟨rfl,rfl⟩ | ⟨hne,k2,hlt⟩
  ·rw [ups_same] at hp2
   obtain rfl:=(Option.some.inj hp2).symm
   rcases hwhere with hw | hw
   ·exact .inr ⟨b,B,p,hb,⟨hf,Nat.le_trans hll hlo⟩,hp,hw.symm⟩
   ·exact .inl (by omega)
  ·exact .inr ⟨b2,B2,p2,k2,hf2,(plc b2 B2 p2 k2 hp2 hne).1,rfl⟩
end
end Go.AM
namespace Go.AM
open Go
set_option autoImplicit false
section
variable {P:Program} {N0:Base} {ρ:Rho} {h:Hp} {w:World} {x y:AV} {X Y:Value} {r:Res}
theorem app_grow {t u ty e:TypeId} {d:TypeDesc} {i:TypeInfo} {z:Value} {base:Option Addr} {sLen sCap m:Nat} {olds news:List Value}
  (ht:P.underlying t = some (.slice e)) (hu:P.underlying u = some d) (hd:∀ k,d ≠ .int k) (hi:P.info? e = some i) (hz:i.zero = some z)
  (hlen:∀ w',(Builtin.lenOf Y).run P w' = .ok m w') (hold:∀ w',w'.heap = w.heap→(Builtin.firstCells i.size sLen (.slice base sLen sCap)).run P w' = .ok olds.toArray w')
  (hnew:∀ w',w'.heap = w.heap→(Builtin.firstCells i.size m Y).run P w' = .ok news.toArray w') (hg:sCap < sLen + m) (h63:sLen + m≤9223372036854775807) (hb:(sLen + m) * i.bytes≤140737488355328):
  (Builtin.append_ #[t,u] ty #[.slice base sLen sCap,Y]).run P w =
   .ok (.slice (some ⟨w.heap.size,0,none⟩) (sLen + m) (grownCap w (sLen + m) sCap e))
    (w.drew.alloc (.cells (olds.toArray ++ news.toArray ++ Builtin.zeroCells z.cells (grownCap w (sLen + m) sCap e - (sLen + m))) e)):=by
 have hn:¬ (sLen + m≤sCap):=by omega
 have h63':¬ (9223372036854775807 < ((sLen:Int) + (m:Int))):=by omega
 have h48':¬ (281474976710656 < Builtin.nextslicecap (sLen + m) sCap * i.bytes):=by
  have:=growslice_fits (old:=sCap) (by omega) hb; omega
 have hf:=hnew w.drew rfl
 have hfo:=hold w.drew rfl
 simp [Builtin.append_,run_underlying ht,run_underlying hu,sizeOf,typeInfo,zeroValue,hi,hz,hlen,hn,h63',h48',Question.forced,hf,hfo,newRow,grownCap]
 congr 2
 apply Array.ext'
 simp [List.append_assoc]
theorem app_room {t u ty e:TypeId} {d:TypeDesc} {base:Option Addr} {sLen sCap m:Nat} {news:List Value} {w':World}
  (ht:P.underlying t = some (.slice e)) (hu:P.underlying u = some d) (hd:∀ k,d ≠ .int k) (hok:okT P e = true)
  (hlen:∀ w',(Builtin.lenOf Y).run P w' = .ok m w')
  (hnew:∀ w',w'.heap = w.heap→(Builtin.firstCells (szOf P e) m Y).run P w' = .ok news.toArray w') (hroom:sLen + m≤sCap)
  (hst:(∃ a,base = some a∧(storeCells (a.add (sLen * szOf P e)) news).run P w = .ok () w')∨(base = none∧w' = w)):
  (Builtin.append_ #[t,u] ty #[.slice base sLen sCap,Y]).run P w = .ok (.slice base (sLen + m) sCap) w':=by
 have hf:=hnew w rfl
 obtain ⟨i,hi⟩:=okT_info hok
 rw [szOf_info hi] at hf hst
 rcases hst with ⟨a,rfl,hst⟩ | ⟨rfl,rfl⟩
 ·simp [Builtin.append_,run_underlying ht,run_underlying hu,sizeOf,typeInfo,hi,hlen,hroom,hf,hst]
 ·simp [Builtin.append_,run_underlying ht,run_underlying hu,sizeOf,typeInfo,hi,hlen,hroom,hf]
structure AppT (P:Program) (t u e:TypeId) (d:TypeDesc):Prop where
 ht:P.underlying t = some (.slice e)
 hu:P.underlying u = some d
 hd:∀ k,d ≠ .int k
 hok:okT P e = true
 ones:ones (cells (zeroV P e)) = true
 hlen:len (cells (zeroV P e)) = szOf P e
structure AppE (P:Program) (e:TypeId):Prop where
 hok:okT P e = true
 ones:ones (cells (zeroV P e)) = true
 hlen:len (cells (zeroV P e)) = szOf P e
theorem AppT.e {t u e:TypeId} {d:TypeDesc} (h:AppT P t u e d):AppE P e:=⟨h.hok,h.ones,h.hlen⟩
structure AppRun (P:Program) (w:World) (e:TypeId) (m:Nat) (news:List Value) (S:Value→Sem Value):Prop where
 room:∀ base sLen sCap w',sLen + m≤sCap→((∃ a,base = some a∧(storeCells (a.add (sLen * szOf P e)) news).run P w = .ok () w')∨(base = none∧w' = w)) →
  (S (.slice base sLen sCap)).run P w = .ok (.slice base (sLen + m) sCap) w'
 grow:∀ base sLen sCap olds i z,P.info? e = some i→i.zero = some z→(∀ w',w'.heap = w.heap→(Builtin.firstCells i.size sLen (.slice base sLen sCap)).run P w' = .ok (List.toArray olds) w') →
  sCap < sLen + m→sLen + m≤9223372036854775807→(sLen + m) * i.bytes≤140737488355328 →
  (S (.slice base sLen sCap)).run P w = .ok (.slice (some ⟨w.heap.size,0,none⟩) (sLen + m) (grownCap w (sLen + m) sCap e))
    (w.drew.alloc (.cells (olds.toArray ++ news.toArray ++ Builtin.zeroCells z.cells (grownCap w (sLen + m) sCap e - (sLen + m))) e))
theorem AppT.run {t u ty e:TypeId} {d:TypeDesc} {m:Nat} {l:AV} {news:List Value} (h:AppT P t u e d) (hlen:∀ w',(Builtin.lenOf Y).run P w' = .ok m w') (hS:Src P ρ w (szOf P e) m Y l news):
  AppRun P w e m news (fun X=>Builtin.append_ #[t,u] ty #[X,Y]) where
 room:=fun base sLen sCap w' hr hst=>app_room h.ht h.hu h.hd h.hok hlen hS.run hr hst
 grow:=fun base sLen sCap olds i z hi hz ho hg h63 hb=>app_grow h.ht h.hu h.hd hi hz hlen ho (by rw [← szOf_info hi]; exact hS.run) hg h63 hb
theorem app_zeros {t u ty e:TypeId} {kk kd:IntKind} {m:Nat} {i:TypeInfo} {z:Value} (h:AppE P e) (ht:P.underlying t = some (.slice e)) (hu:P.underlying u = some (.int kk)) (hi:P.info? e = some i) (hz:i.zero = some z)
  (hm:m≤9223372036854775807) (hby:m * i.bytes≤140737488355328) (hzs:z.cells.size = i.size):AppRun P w e m (madeCells z.cells (m * z.cells.size)).toList (fun X=>Builtin.append_ #[t,u] ty #[X,.int kd (m:Int)]) where
 room:=fun base sLen sCap w' hr hst=>by
  have hw:IntKind.i64.wrap (m:Int) = (m:Int):=by
   have:=wrapC_eq .i64 (m:Int)
   rw [← this]
   have e2:wrapC (cOf .i64) (Int.ofNat m) = Bool.rec (motive:=fun _=>Int) (finC (cOf .i64) (m % 2 ^ (bitsC (cOf .i64)))) (Int.ofNat m) (Nat.blt m (2 ^ (cOf .i64))):=rfl
   have h3:Nat.blt m (2 ^ (cOf .i64)) = true:=by rw [blt_iff]; show m < 2 ^ 63; omega
   rw [h3] at e2
   exact e2
  have hneg:¬ ((m:Int) < 0):=by omega
  have hbig:¬ (281474976710656 < (m:Int) * (i.bytes:Int)):=by
   have:((m:Int) * (i.bytes:Int)) = ((m * i.bytes:Nat):Int):=by simp
   rw [this]; omega
  rw [szOf_info hi] at hst
  have hzc:Builtin.zeroCells z.cells m = madeCells z.cells (m * z.cells.size):=rfl
  rcases hst with ⟨a,rfl,hst⟩ | ⟨rfl,rfl⟩
  ·by_cases h0:m * i.size = 0
   ·have hnil:(madeCells z.cells (m * z.cells.size)).toList = []:=by rw [hzs,h0]; simp [madeCells]
    rw [hnil] at hst
    simp [Builtin.append_,run_underlying ht,run_underlying hu,sizeOf,typeInfo,asInt,asIntOf,hi,hw,hneg,hbig,hr,h0] at hst ⊢
    rw [hst]
    rfl
   ·simp [Builtin.append_,run_underlying ht,run_underlying hu,sizeOf,typeInfo,asInt,asIntOf,zeroValue,hz,hi,hw,hneg,hbig,hr,h0,hzc] at hst ⊢
    rw [hst]
    rfl
  ·by_cases h0:m * i.size = 0
   ·simp [Builtin.append_,run_underlying ht,run_underlying hu,sizeOf,typeInfo,asInt,asIntOf,hi,hw,hneg,hbig,hr,h0]
   ·simp [Builtin.append_,run_underlying ht,run_underlying hu,sizeOf,typeInfo,asInt,asIntOf,zeroValue,hz,hi,hw,hneg,hbig,hr,h0,hzc]
 grow:=fun base sLen sCap olds i' z' hi' hz' ho hg h63 hb=>by
  obtain rfl:i = i':=by rw [hi] at hi'; exact Option.some.inj hi'
  obtain rfl:z = z':=by rw [hz] at hz'; exact Option.some.inj hz'
  have hw:IntKind.i64.wrap (m:Int) = (m:Int):=by
   have:=wrapC_eq .i64 (m:Int)
   rw [← this]
   have e2:wrapC (cOf .i64) (Int.ofNat m) = Bool.rec (motive:=fun _=>Int) (finC (cOf .i64) (m % 2 ^ (bitsC (cOf .i64)))) (Int.ofNat m) (Nat.blt m (2 ^ (cOf .i64))):=rfl
   have h3:Nat.blt m (2 ^ (cOf .i64)) = true:=by rw [blt_iff]; show m < 2 ^ 63; omega
   rw [h3] at e2
   exact e2
  have hneg:¬ ((m:Int) < 0):=by omega
  have hbig:¬ (281474976710656 < (m:Int) * (i.bytes:Int)):=by
   have:((m:Int) * (i.bytes:Int)) = ((m * i.bytes:Nat):Int):=by simp
   rw [this]; omega
  have hn:¬ (sLen + m≤sCap):=by omega
  have h63':¬ (9223372036854775807 < ((sLen:Int) + (m:Int))):=by omega
  have h48':¬ (281474976710656 < Builtin.nextslicecap (sLen + m) sCap * i.bytes):=by
   have:=growslice_fits (old:=sCap) (by omega) hb; omega
  have hfo:=ho w.drew rfl
  have hzc:Builtin.zeroCells z.cells m = madeCells z.cells (m * z.cells.size):=rfl
  by_cases h0:m * i.size = 0
  ·have hnil:(madeCells z.cells (m * z.cells.size)).toList = []:=by rw [hzs,h0]; simp [madeCells]
   rw [hnil]
   simp [Builtin.append_,run_underlying ht,run_underlying hu,sizeOf,typeInfo,zeroValue,asInt,asIntOf,hi,hz,hw,hneg,hbig,hn,h63',h48',h0,Question.forced,hfo,newRow,grownCap]
  ·simp [Builtin.append_,run_underlying ht,run_underlying hu,sizeOf,typeInfo,zeroValue,asInt,asIntOf,hi,hz,hw,hneg,hbig,hn,h63',h48',h0,Question.forced,hfo,newRow,grownCap,hzc]
theorem grown_ok {e:TypeId} {base:Option Addr} {sLen sCap m:Nat} {olds news:List Value} {l:AV} {S:Value→Sem Value} {k:AV→Hp→Res} (hi:Inv N0 ρ h w) (hT:AppE P e)
  (hA:AppRun P w e m news S) (hold:∀ w',w'.heap = w.heap→(Builtin.firstCells (szOf P e) sLen (.slice base sLen sCap)).run P w' = .ok olds.toArray w')
  (ho:olds.length = sLen * szOf P e) (hn:news.length = m * szOf P e)
  (hl:LR ρ l (olds ++ news)) (hg:sCap < sLen + m) (h63:sLen + m≤9223372036854775807) (hb:(sLen + m) * byOf P e≤140737488355328)
  (ek:grown h (szOf P e) (sLen + m) l k = r) (hr:r ≠ .fail):Does P N0 ρ h w (S (.slice base sLen sCap)) k r:=by
 obtain ⟨i,z,hinf,hz,hzl⟩:=zero_info (P:=P) (ρ:=ρ) (t:=e) hT.ones
 have hzs:=LR_len _ _ hzl
 rw [hT.hlen,Array.length_toList] at hzs
 obtain ⟨t',h1,h2,-⟩:=lay_inv l .e 0 ek hr
 obtain ⟨h3,h4⟩:=ifF_inv h1 hr
 rw [beq_iff] at h3
 have hll:=LR_len l _ hl
 have hge:=grownCap_ge w (sLen + m) sCap e
 have hsi:=szOf_info hinf
 have hrun:=hA.grow base sLen sCap olds _ _ hinf hz (by rw [← hsi]; exact hold) hg h63 (by rw [← byOf_info hinf]; exact hb)
 obtain ⟨ρ',g1,g2,g3⟩:=row_ok (grownCap w (sLen + m) sCap e * szOf P e) hi hl (nu_mark (olds.toArray ++ news.toArray ++ Builtin.zeroCells z.cells (grownCap w (sLen + m) sCap e - (sLen + m))) e (0,0)) (.inl rfl) h2 (fun i V hV=>by
  have hil:=(List.getElem?_eq_some_iff.1 hV).1
  rw [Array.getElem?_append_left (by simpa using hil)]
  simpa using hV)
 rw [Nat.zero_add] at h4
 refine ⟨_,_,_,_,ρ',h4,hrun,⟨_,grownCap w (sLen + m) sCap e,g1,rfl,hge,.inl ⟨rfl,Nat.zero_add _⟩,?_⟩,g2,g3⟩
 show 0 + 0 + grownCap w (sLen + m) sCap e * szOf P e≤_
 simp only [Array.size_append,List.size_toArray,size_zeroCells,ho,hn,← hzs,← Nat.add_mul]
 have hcap:sLen + m + (grownCap w (sLen + m) sCap e - (sLen + m)) = grownCap w (sLen + m) sCap e:=by omega
 rw [hcap]; omega
theorem apd_any {e:TypeId} {S:Value→Sem Value} {b o n m c' lim' old:Nat} {B:Blk} {p:Pl} {olds news:List Value} {df':AV} {t':T AV} {k:AV→Hp→Res} (hi:Inv N0 ρ h w) (hT:AppE P e)
  (hb:h.bs.get b = some B) (hf:B.fr = true) (hlo:h.lo≤b) (hp:ρ b = some p) (hfit:p.base + o + c' * szOf P e≤p.sz)
  (ho:olds.length = n * szOf P e) (hoc:∀ j v,olds[j]? = some v→w.cell? ⟨p.r,p.base + o + j,none⟩ = some v)
  (hA:AppRun P w e m news S) (hnl:news.length = m * szOf P e) (hone:∀ V∈news,V.oneCell' = true)
  (h63:n + m≤9223372036854775807) (hby:(n + m) * byOf P e≤140737488355328) (hlim:lim' = (n + m) * szOf P e)
  (hc:∀ i,i < lim'→∃ V,(olds ++ news)[i]? = some V∧VR ρ ((⟨true,B.g,lim',df',t'⟩:Blk).at i) V)
  (hold:old = h.nb∨(old = (h.grp B.g).2∧(h.grp B.g).1 = b∧readable h b B∧B.lim≤n * szOf P e∧o = 0))
  (ek:k (.sl h.nb 0 (n + m) (szOf P e) none) ⟨Nat.succ h.nb,h.bs.set ⟨true,B.g,lim',df',t'⟩ h.nb,h.gs.set (h.nb,old) B.g,h.ms,h.lo,h.oc⟩ = r):
  Does P N0 ρ h w (S (.slice (some ⟨p.r,p.base + o,none⟩) n c')) k r:=by
 obtain ⟨i,z,hinf,hz,hzl⟩:=zero_info (P:=P) (ρ:=ρ) (t:=e) hT.ones
 have hzs:=LR_len _ _ hzl
 rw [hT.hlen,Array.length_toList] at hzs
 obtain ⟨p0,hp0,hB⟩:=hi.blk b B hb
 obtain rfl:p = p0:=by rw [hp] at hp0; exact Option.some.inj hp0
 have hplt:=hB.lt
 have hsi:=szOf_info hinf
 obtain ⟨cs,et,fz,q1,q2,q3,q4⟩:=hB.obj
 have hsum:(n + m) * szOf P e = n * szOf P e + m * szOf P e:=Nat.add_mul _ _ _
 have hocs:∀ j v,olds[j]? = some v→cs[p.base + o + j]? = some v:=fun j v hv=>by
  have:=hoc j v hv
  rwa [cell_of_row w p.r _ cs et fz q1] at this
 by_cases hroom:n + m≤c'
 ·have hcm:=Nat.mul_le_mul_right (szOf P e) hroom
  obtain ⟨w',cs',s1,s2,s3,s4⟩:=storeCells_run (P:=P) p.r (p.base + o + n * szOf P e) news 0 cs w q1 (by rw [q2]; exact q3 hf) (by omega) hone
  have hrun:=hA.room (some ⟨p.r,p.base + o,none⟩) n c' w' hroom (.inl ⟨_,rfl,by rw [addr_add]; exact s1⟩)
  have hall:∀ (i:Nat) (V:Value),(olds ++ news)[i]? = some V→cs'[p.base + o + i]? = some V:=by
   intro i V hV
   rw [s4]
   by_cases hil:i < n * szOf P e
   ·rw [if_neg (by omega)]
    rw [List.getElem?_append_left (by omega)] at hV
    exact hocs i V hV
   ·have hi2:=(List.getElem?_eq_some_iff.1 hV).1
    rw [List.length_append] at hi2
    rw [if_pos (by omega)]
    rw [List.getElem?_append_right (by omega),ho] at hV
    rw [show p.base + o + i - (p.base + o + n * szOf P e + 0) = i - n * szOf P e from by omega]; exact hV
  obtain ⟨i1,i2⟩:=grp_inv (p':=⟨p.r,p.base + o,p.sz,c' * szOf P e⟩) (lim':=lim') (old:=old) (df':=df') (t':=t') hi hb hf hlo hp s2.row (by simp only; omega) (q3 hf) (by simp only; omega) (.inl rfl)
   (fun r _ hne=>s2.other r hne) (by rw [s2.size]; exact Nat.le_refl _) s2.tape s2.os s2.output (by
    intro cs0 e0 fz0 h0
    rw [q1] at h0
    simp only [Option.some.injEq,Obj.cells.injEq] at h0
    obtain ⟨rfl,rfl,rfl⟩:=h0
    refine ⟨cs',s2.row,s3,fun hne i hil=>?_⟩
    rcases hold with h' | ⟨-,-,-,h',h''⟩
    ·exact absurd h' hne
    ·rw [s4,if_neg (by omega)]) (by
    rcases hold with h' | ⟨h1,h2,h3,h4,h5⟩
    ·exact .inl h'
    ·exact .inr ⟨h1,h2,h3,by omega,fun _=>by simp only; omega⟩) (fun i hil=>by
    obtain ⟨V,v1,v2⟩:=hc i hil
    exact ⟨V,hall i V v1,v2⟩)
  exact ⟨_,_,_,_,_,ek,hrun,⟨⟨p.r,p.base + o,p.sz,c' * szOf P e⟩,c',ups_same _ _ _,rfl,hroom,.inl ⟨rfl,Nat.zero_add _⟩,by simp only; omega⟩,i1,i2⟩
 ·have hge:=grownCap_ge w (n + m) c' e
  have hrun:=hA.grow (some ⟨p.r,p.base + o,none⟩) n c' olds _ _ hinf hz (by
    intro w' hw
    refine run_firstCells_some w' _ n _ n c' olds (by rw [← hsi]; exact ho) (fun j v hv=>?_)
    rw [addr_add]
    have:=hoc j v hv
    simpa [World.cell?,hw] using this) (by omega) h63 (by rw [← byOf_info hinf]; exact hby)
  generalize hC:(olds.toArray ++ news.toArray ++ Builtin.zeroCells z.cells (grownCap w (n + m) c' e - (n + m))) = C at hrun
  have hCs:C.size = grownCap w (n + m) c' e * szOf P e:=by
   rw [← hC]
   simp only [Array.size_append,List.size_toArray,size_zeroCells,ho,hnl,← hzs,← Nat.add_mul]
   congr 1; omega
  have hmul:=Nat.mul_le_mul_right (szOf P e) hge
  have hnu:=nu_mark (w:=w) C e (0,0)
  have hall:∀ (i:Nat) (V:Value),(olds ++ news)[i]? = some V→C[i]? = some V:=by
   intro i V hV
   have hil:=(List.getElem?_eq_some_iff.1 hV).1
   rw [← hC,Array.getElem?_append_left (by simpa using hil)]
   simpa using hV
  obtain ⟨i1,i2⟩:=grp_inv (p':=⟨w.heap.size,0,C.size,grownCap w (n + m) c' e * szOf P e⟩) (lim':=lim') (old:=old) (df':=df') (t':=t') hi hb hf hlo hp hnu.row rfl (.inl rfl) (by simp only; omega) (.inr rfl)
   (fun r hr _=>hnu.other r hr) (by rw [hnu.size]; omega) hnu.tape hnu.os hnu.output (by
    intro cs0 e0 fz0 h0
    exact ⟨cs0,by rw [hnu.other _ hplt]; exact h0,rfl,fun _ _ _=>rfl⟩) (by
    rcases hold with h' | ⟨h1,h2,h3,h4,h5⟩
    ·exact .inl h'
    ·exact .inr ⟨h1,h2,h3,by omega,fun he=>by simp only at he; omega⟩) (fun i hil=>by
    obtain ⟨V,v1,v2⟩:=hc i hil
    exact ⟨V,by rw [Nat.zero_add]; exact hall i V v1,v2⟩)
  exact ⟨_,_,_,_,_,ek,hrun,⟨⟨w.heap.size,0,C.size,grownCap w (n + m) c' e * szOf P e⟩,grownCap w (n + m) c' e,ups_same _ _ _,rfl,hge,.inl ⟨rfl,Nat.zero_add _⟩,by simp only; omega⟩,i1,i2⟩
end
end Go.AM
namespace Go.AM
open Go
set_option autoImplicit false
section
variable {P:Program} {N0:Base} {ρ:Rho} {h:Hp} {w:World} {x y:AV} {X Y:Value} {r:Res}
theorem ifN_inv {newest b lim p fl nb:Nat}:ifN newest b lim p fl nb = nb∨(ifN newest b lim p fl nb = fl∧newest = b∧lim≤p):=by
 have e:ifN newest b lim p fl nb = Bool.rec (motive:=fun _=>Nat) nb (Bool.rec (motive:=fun _=>Nat) nb fl (Nat.ble lim p)) (Nat.beq newest b):=rfl
 rw [e,recB,recB]
 simp only [beq_iff,ble_iff]
 by_cases h1:newest = b
 ·by_cases h2:lim≤p
  ·rw [if_pos h1,if_pos h2]; exact .inr ⟨rfl,h1,h2⟩
  ·rw [if_pos h1,if_neg h2]; exact .inl rfl
 ·rw [if_neg h1]; exact .inl rfl
theorem apdC_ok {e:TypeId} {m:Nat} {l:AV} {news:List Value} {S:Value→Sem Value} {k:AV→Hp→Res} (hi:Inv N0 ρ h w) (hT:AppE P e) (hA:AppRun P w e m news S) (hnl:news.length = m * szOf P e) (hrel:LR ρ l news)
  (h1:apdC h (szOf P e) (byOf P e) m l x k = r) (hr:r ≠ .fail) (hx:VR ρ x X):Does P N0 ρ h w (S X) k r:=by
 have hll:=LR_len l _ hrel
 cases x with
 | nils=>
  have hx:X = .slice none 0 0:=hx
  subst hx
  rcases ifB_inv h1 with ⟨h2,h3⟩ | ⟨h2,h3⟩
  ·rw [beq_iff] at h2
   subst h2
   refine Does.here hi h3 (V:=.slice none 0 0) rfl ?_
   exact hA.room none 0 0 w (Nat.le_refl _) (.inr ⟨rfl,rfl⟩)
  ·have hm:m ≠ 0:=fun h=>by rw [← beq_iff,h2] at h; cases h
   obtain ⟨h4,h5⟩:=ifF_inv h3 hr
   obtain ⟨h6,h7⟩:=ifF_inv h5 hr
   rw [ble_iff] at h4 h6
   have hg:=grown_ok (base:=none) (sLen:=0) (sCap:=0) (olds:=[]) (news:=news) (l:=l) hi hT hA (fun w' _=>by simp [Builtin.firstCells]) (by simp) hnl (by simpa using hrel) (by omega) (by omega) (by rw [Nat.zero_add]; exact h4) (by rw [Nat.zero_add]; exact h7) hr
   exact hg
 | esl=>
  obtain ⟨a,c',rfl⟩:=hx
  obtain ⟨h2,h3⟩:=ifF_inv h1 hr
  rw [beq_iff] at h2
  subst h2
  refine Does.here hi h3 (V:=.slice (some a) 0 c') ⟨a,c',rfl⟩ ?_
  have hn:news = []:=List.eq_nil_of_length_eq_zero (by rw [hnl,Nat.zero_mul])
  subst hn
  exact hA.room _ 0 c' w (Nat.zero_le _) (.inl ⟨a,rfl,rfl⟩)
 | sl b o n z' c=>
  obtain ⟨h2,h3⟩:=ifF_inv h1 hr
  rw [beq_iff] at h2
  subst h2
  obtain ⟨p,c',hp,rfl,hnc,hcc,hfit⟩:=hx
  rcases ifB_inv h3 with ⟨h4,h5⟩ | ⟨h4,h5⟩
  ·rw [beq_iff] at h4
   subst h4
   refine Does.here hi h5 (V:=.slice (some ⟨p.r,p.base + o,none⟩) n c') ⟨p,c',hp,rfl,hnc,hcc,hfit⟩ ?_
   have hn:news = []:=List.eq_nil_of_length_eq_zero (by rw [hnl,Nat.zero_mul])
   subst hn
   exact hA.room _ n c' w hnc (.inl ⟨_,rfl,rfl⟩)
  ·obtain ⟨h6,h7⟩:=ifF_inv h5 hr
   obtain ⟨h8,h9⟩:=ifF_inv h7 hr
   rw [ble_iff] at h6 h8
   have h6:(n + m) * byOf P e≤140737488355328:=h6
   have h8:n + m≤9223372036854775807:=h8
   have hsum:(n + m) * szOf P e = n * szOf P e + m * szOf P e:=Nat.add_mul _ _ _
   cases c with
   | none=>
    obtain ⟨B,hb,hrd,h10⟩:=gb_inv h9 hr
    obtain ⟨hf,h11⟩:=ifF_inv h10 hr
    obtain ⟨hlo,h11⟩:=ifF_inv h11 hr
    rw [ble_iff] at hlo
    obtain ⟨p0,hp0,hB⟩:=hi.blk b B hb
    obtain rfl:p = p0:=by rw [hp] at hp0; exact Option.some.inj hp0
    rcases ifB_inv h11 with ⟨h12,h13⟩ | ⟨h12,h13⟩
    ·rw [beq_iff] at h12
     subst h12
     obtain ⟨t',h14,h15,h16⟩:=lay_inv l _ _ h13 hr
     obtain ⟨h17,h18⟩:=ifF_inv h14 hr
     obtain ⟨h19,h20⟩:=ifF_inv h18 hr
     rw [beq_iff] at h17
     rw [ble_iff] at h19
     have h17:n * szOf P e + len l = (n + m) * szOf P e:=h17
     have h19:n * szOf P e≤B.lim:=h19
     have h15:∀ j,t'.get j = if n * szOf P e≤j∧j < n * szOf P e + len l then some (nth l (j - n * szOf P e)) else B.cs.get j:=h15
     obtain ⟨cs,et,fz,q1,q2,q3,q4⟩:=hB.obj
     have hbf:=hB.fit
     have holen:((cs.toList.drop p.base).take (n * szOf P e)).length = n * szOf P e:=by
      rw [List.length_take,List.length_drop,Array.length_toList]; omega
     have hog:∀ j,j < n * szOf P e→((cs.toList.drop p.base).take (n * szOf P e))[j]? = cs[p.base + j]?:=by
      intro j hj
      rw [List.getElem?_take_of_lt hj,List.getElem?_drop,Array.getElem?_toList]
     refine apd_any (olds:=(cs.toList.drop p.base).take (n * szOf P e)) (news:=news) hi hT hb hf hlo hp hfit holen (fun j v hv=>?_) hA hnl (h16 ρ _ hrel) h8 h6 h17 ?_ ?_ h20
     ·have hj:=(List.getElem?_eq_some_iff.1 hv).1
      rw [holen] at hj
      rw [hog j hj] at hv
      rw [cell_of_row w p.r _ cs et fz q1,Nat.add_zero]; exact hv
     ·intro i hil
      have hil:i < n * szOf P e + len l:=hil
      rw [at_eq,if_pos hil]
      simp only [h15 i]
      by_cases hin:i < n * szOf P e
      ·obtain ⟨V,v1,v2⟩:=q4 hrd i (by omega)
       rw [at_eq,if_pos (by omega)] at v2
       rw [if_neg (by omega),List.getElem?_append_left (by omega),hog i hin]
       exact ⟨V,v1,v2⟩
      ·rw [if_pos (by omega),List.getElem?_append_right (by omega),holen]
       obtain ⟨V,hV⟩:∃ V,news[i - n * szOf P e]? = some V:=⟨news[i - n * szOf P e]'(by omega),by simp⟩
       exact ⟨V,hV,LR_get l _ hrel _ _ hV⟩
     ·rcases ifN_inv (newest:=(h.grp B.g).1) (b:=b) (lim:=B.lim) (p:=n * szOf P e) (fl:=(h.grp B.g).2) (nb:=h.nb) with e1 | ⟨e1,e2,e3⟩
      ·exact .inl e1
      ·exact .inr ⟨e1,e2,hrd,e3,rfl⟩
    ·obtain ⟨old,Vs,g1,g2,g3,g4,g5⟩:=rds_ok hB hrd _ _ h13 hr
     have happ:=LR_app _ _ _ _ g3 hrel
     obtain ⟨t',h14,h15,h16⟩:=lay_inv _ _ _ g1 hr
     obtain ⟨h17,h18⟩:=ifF_inv h14 hr
     rw [beq_iff] at h17
     have hone:=h16 ρ _ happ
     refine apd_any (olds:=Vs) (news:=news) hi hT hb hf hlo hp hfit g2 (fun j v hv=>?_) hA hnl (fun V hV=>hone V (by simp [hV])) h8 h6 h17 ?_ (.inl rfl) h18
     ·have:=g5 j v hv
      rw [Nat.add_assoc]; exact this
     ·intro i hil
      rw [at_eq,if_pos hil]
      simp only [h15 i]
      rw [if_pos ⟨Nat.zero_le _,hil⟩]
      have hil2:i < (Vs ++ news).length:=by
       have:=LR_len _ _ happ
       rw [← this]; have hil:i < 0 + len (app old l):=hil; omega
      exact ⟨(Vs ++ news)[i],by simp,LR_get _ _ happ _ _ (by simp)⟩
   | some c=>
    obtain rfl:c = c':=by rcases hcc with ⟨h,-⟩ | h; (cases h); exact Option.some.inj h
    rcases ifB_inv h9 with ⟨h10,h11⟩ | ⟨h10,h11⟩
    ·rw [ble_iff] at h10
     have h10:n + m≤c:=h10
     obtain ⟨B,gs,hb,hf,hn,hgs,h12,hlo⟩:=wb_inv h11 hr
     obtain ⟨h13,h14⟩:=ifF_inv h12 hr
     rw [ble_iff] at h13
     have h13:o + (n + m) * szOf P e≤B.lim:=h13
     obtain ⟨t',h15,h16,h17⟩:=lay_inv l _ _ h14 hr
     obtain ⟨h18,h19⟩:=ifF_inv h15 hr
     obtain ⟨w',s1,i1,i2⟩:=storeN_ok (P:=P) (o:=o + n * szOf P e) (n:=m * szOf P e) hi hb hf hlo hp hn hgs hrel (by omega) (by omega) h16 (h17 ρ _ hrel)
     have hrun:=hA.room (some ⟨p.r,p.base + o,none⟩) n c w' h10 (.inl ⟨_,rfl,by rw [addr_add,Nat.add_assoc]; exact s1⟩)
     exact ⟨_,_,_,_,ρ,h19,hrun,⟨p,c,hp,rfl,h10,.inr rfl,hfit⟩,i1,i2⟩
    ·have h10:¬ n + m≤c:=fun h=>by rw [← ble_iff] at h; exact absurd (h10.symm.trans h) (by simp)
     obtain ⟨B,hb,hrd,h12⟩:=gb_inv h11 hr
     obtain ⟨p0,hp0,hB⟩:=hi.blk b B hb
     obtain rfl:p = p0:=by rw [hp] at hp0; exact Option.some.inj hp0
     obtain ⟨old,Vs,g1,g2,g3,g4,g5⟩:=rds_ok hB hrd _ _ h12 hr
     exact grown_ok (base:=some ⟨p.r,p.base + o,none⟩) (sLen:=n) (sCap:=c) (olds:=Vs) (news:=news) hi hT hA (fun w' hw=>by
      refine run_firstCells_some w' _ n _ n c Vs g2 (fun j v hv=>?_)
      rw [addr_add,Nat.add_assoc]
      have:=g5 j v hv
      simpa [World.cell?,hw] using this) g2 hnl (LR_app _ _ _ _ g3 hrel) (by omega) h8 h6 g1 hr
 | _=>exact absurd h1.symm hr
theorem apd_ok {t u ty e:TypeId} {d:TypeDesc} {k:AV→Hp→Res} (hi:Inv N0 ρ h w) (hT:AppT P t u e d) (ek:apd h (szOf P e) (byOf P e) x y k = r) (hr:r ≠ .fail) (hx:VR ρ x X) (hy:VR ρ y Y):
  Does P N0 ρ h w (Builtin.append_ #[t,u] ty #[X,Y]) k r:=by
 obtain ⟨m,l,news,h1,hS,hlen⟩:=src_ok (P:=P) hi ek hr hy
 exact apdC_ok (S:=fun X=>Builtin.append_ #[t,u] ty #[X,Y]) hi hT.e (hT.run hlen hS) hS.length hS.rel h1 hr hx
theorem apdZ_ok {t u ty e:TypeId} {kk:IntKind} {k:AV→Hp→Res} (hi:Inv N0 ρ h w) (hT:AppE P e) (ht:P.underlying t = some (.slice e)) (hu:P.underlying u = some (.int kk)) (ek:apdZ h (szOf P e) (byOf P e) (cells (zeroV P e)) x y k = r) (hr:r ≠ .fail) (hx:VR ρ x X) (hy:VR ρ y Y):
  Does P N0 ρ h w (Builtin.append_ #[t,u] ty #[X,Y]) k r:=by
 obtain ⟨c,n,rfl,h1⟩:=cI_inv ek hr
 obtain ⟨kd,-,rfl⟩:=hy
 obtain ⟨m,rfl,h2⟩:=natC_inv h1 hr
 obtain ⟨h3,h4⟩:=ifF_inv h2 hr
 obtain ⟨h5,h6⟩:=ifF_inv h4 hr
 rw [ble_iff] at h3 h5
 obtain ⟨i,z,hinf,hz,hzl⟩:=zero_info (P:=P) (ρ:=ρ) (t:=e) hT.ones
 have hzs:=LR_len _ _ hzl
 rw [hT.hlen,Array.length_toList] at hzs
 have hL:=repL_rel _ _ hzl m
 rw [← made_flat] at hL
 refine apdC_ok (S:=fun X=>Builtin.append_ #[t,u] ty #[X,.int kd (m:Int)]) hi hT (app_zeros hT ht hu hinf hz h3 (by rw [← byOf_info hinf]; exact h5) (by rw [← hzs,szOf_info hinf])) ?_ hL h6 hr hx
 rw [Array.length_toList,size_madeCells,← hzs]
theorem ask_inv {p:Bool} {q r:Res} (e:Sm (.ask p q) r) (hr:Fine r):p = true∧Sm q r:=by
 obtain ⟨h1,h2⟩:=now_ask (by rw [show now (.ask p q) = now r from e]; exact hr.ok)
 exact ⟨h1,h2.symm.trans e⟩
theorem ones_all:∀ (l:AV) (Vs:List Value),ones l = true→LR ρ l Vs→∀ V∈Vs,V.oneCell' = true:=by
 intro l
 induction l with
 | nil=>intro Vs _ h V hV; have h:Vs = []:=h; subst h; cases hV
 | cons v t _ iht=>
  intro Vs ho h V hV
  obtain ⟨V1,L,rfl,g1,g2⟩:=h
  have ho:(one v && ones t) = true:=ho
  rw [Bool.and_eq_true] at ho
  rcases List.mem_cons.1 hV with rfl | hV
  ·exact one_cell g1 ho.1
  ·exact iht L ho.2 g2 V hV
 | _=>intro Vs ho; exact absurd ho (by simp [ones])
theorem apdZN_ok {t u ty e:TypeId} {kk:IntKind} {k:AV→Hp→Res} (hi:Inv N0 ρ h w) (hT:AppE P e) (ht:P.underlying t = some (.slice e)) (hu:P.underlying u = some (.int kk)) (ek:apdZN h (szOf P e) (byOf P e) (cells (zeroV P e)) x y k = r) (hr:Fine r) (hx:VR ρ x X) (hy:VR ρ y Y):
  ∃ r',Does P N0 ρ h w (Builtin.append_ #[t,u] ty #[X,Y]) k r'∧Sm r' r:=by
 obtain ⟨c,n,rfl,h1⟩:=cI_inv ek hr.nf
 obtain ⟨kd,-,rfl⟩:=hy
 obtain ⟨m,rfl,h2⟩:=natC_inv h1 hr.nf
 obtain ⟨h3,h4⟩:=ask_inv (.eq h2) hr
 obtain ⟨h5,h6⟩:=ask_inv h4 hr
 obtain ⟨b,o,n,z',c',rfl,h7⟩:=cL_inv rfl (h6.nf hr)
 replace h7:=Sm.of h7 h6
 rw [ble_iff] at h3 h5
 cases c' with
 | some c'=>exact absurd rfl (h7.nf hr)
 | none=>
  obtain ⟨h8,h9⟩:=ifF_inv rfl (h7.nf hr)
  rw [beq_iff] at h8
  subst h8
  replace h9:=Sm.of h9 h7
  obtain ⟨h10,h11⟩:=ifT_inv rfl (h9.nf hr)
  replace h11:=Sm.of h11 h9
  obtain ⟨h12,h13⟩:=ask_inv h11 hr
  obtain ⟨h14,h15⟩:=ask_inv h13 hr
  rw [ble_iff] at h12 h14
  have h12:(m + n) * byOf P e≤140737488355328:=h12
  have h14:m + n≤9223372036854775807:=h14
  obtain ⟨B,hb,hrd,h16⟩:=gb_inv rfl (h15.nf hr)
  replace h16:=Sm.of h16 h15
  obtain ⟨hf,h17⟩:=ifF_inv rfl (h16.nf hr)
  obtain ⟨hlo,h18⟩:=ifF_inv h17 (h16.nf hr)
  replace h18:=Sm.of h18 h16
  rw [ble_iff] at hlo
  obtain ⟨p,c2,hp,rfl,hnc,hcc,hfit⟩:=hx
  obtain ⟨p0,hp0,hB⟩:=hi.blk b B hb
  obtain rfl:p = p0:=by rw [hp] at hp0; exact Option.some.inj hp0
  obtain ⟨old,Vs,g1,g2,g3,g4,g5⟩:=rds_ok hB hrd _ _ rfl (h18.nf hr)
  replace g1:=Sm.of g1 h18
  obtain ⟨t',h19,h20,h21⟩:=lay_inv _ _ _ rfl (g1.nf hr)
  replace h19:=Sm.of h19 g1
  obtain ⟨h22,h23⟩:=ifF_inv rfl (h19.nf hr)
  replace h23:=Sm.of h23 h19
  obtain ⟨i,z,hinf,hz,hzl⟩:=zero_info (P:=P) (ρ:=ρ) (t:=e) hT.ones
  have hzs:=LR_len _ _ hzl
  rw [hT.hlen,Array.length_toList] at hzs
  have hL:=repL_rel _ _ hzl m
  rw [← made_flat] at hL
  have hnl:(madeCells z.cells (m * z.cells.size)).toList.length = m * szOf P e:=by rw [Array.length_toList,size_madeCells,← hzs]
  have hmn:Nat.add m n = n + m:=Nat.add_comm m n
  rw [hmn] at h23
  have hlen:=LR_len _ _ g3
  replace g2:Vs.length = n * szOf P e:=g2
  rw [g2] at hlen
  refine ⟨_,apd_any (S:=fun X=>Builtin.append_ #[t,u] ty #[X,.int kd (m:Int)]) (olds:=Vs) (news:=(madeCells z.cells (m * z.cells.size)).toList) hi hT hb hf hlo hp hfit g2 (fun j v hv=>?_)
   (app_zeros hT ht hu hinf hz h3 (by rw [← byOf_info hinf]; exact h5) (by rw [← hzs,szOf_info hinf])) hnl (fun V hV=>?_) (by omega) (by rw [Nat.add_comm n m]; exact h12) rfl (fun j hj=>?_) (.inl rfl) rfl,h23⟩
  ·have:=g5 j v hv
   rw [Nat.add_assoc]; exact this
  ·obtain ⟨j,hj⟩:=List.getElem?_of_mem hV
   have hjl:=(List.getElem?_eq_some_iff.1 hj).1
   rw [hnl] at hjl
   have hzp:0 < z.cells.size:=by
    rcases Nat.eq_zero_or_pos z.cells.size with h0 | h0
    ·rw [← hzs] at h0; rw [h0] at hjl; simp at hjl
    ·exact h0
   have hm:=Nat.mod_lt j hzp
   rw [Array.getElem?_toList,made_get _ _ _ (by rw [← hzs]; exact hjl),getElem!_pos z.cells _ hm] at hj
   obtain rfl:=Option.some.inj hj
   exact ones_all _ _ hT.ones hzl _ (by simp)
  ·have hsum:(n + m) * szOf P e = n * szOf P e + m * szOf P e:=Nat.add_mul _ _ _
   rw [at_eq,if_pos hj]
   simp only [h20 j]
   by_cases hjn:j < n * szOf P e
   ·rw [if_pos ⟨Nat.zero_le _,by omega⟩]
    exact ⟨Vs[j]'(by omega),by rw [List.getElem?_append_left (by omega)]; simp,LR_get _ _ g3 _ _ (by simp)⟩
   ·rw [if_neg (by omega)]
    have hzp:0 < z.cells.size:=by
     rcases Nat.eq_zero_or_pos z.cells.size with h0 | h0
     ·rw [← hzs] at h0; rw [h0] at hj; simp at hj
     ·exact h0
    have hm:=Nat.mod_lt (j - n * szOf P e) hzp
    refine ⟨_,by rw [List.getElem?_append_right (by omega),g2,Array.getElem?_toList,made_get _ _ _ (by rw [← hzs]; omega)],?_⟩
    show VR ρ (nth (cells (zeroV P e)) (j % len (cells (zeroV P e)))) _
    rw [hT.hlen,hzs]
    rw [hzs] at hm hjn
    have hmod:j % z.cells.size = (j - n * z.cells.size) % z.cells.size:=by
     have hj2:j = (j - n * z.cells.size) + z.cells.size * n:=by rw [Nat.mul_comm z.cells.size n]; omega
     conv=>lhs; rw [hj2]
     rw [Nat.add_mul_mod_self_left]
    rw [hmod]
    refine LR_get _ _ hzl _ _ ?_
    rw [Array.getElem?_toList,Array.getElem?_eq_getElem hm,getElem!_pos z.cells _ hm]
theorem bAnd_iff (a b:Bool):bAnd a b = true ↔ a = true∧b = true:=by cases a <;> cases b <;> decide
theorem eqFn_eq {f g:Fn} (e:eqFn f g = true):f = g:=by
 cases f with
 | func a=>
  cases g with
  | func b=>
   replace e:Nat.beq a b = true:=e
   rw [beq_iff] at e
   rw [e]
  | _=>exact Bool.noConfusion (show false = true from e)
 | _=>exact Bool.noConfusion (show false = true from e)
theorem eqAV_eq:∀ (x y:AV),eqAV x y = true→x = y:=by
 intro x
 induction x with
 | bool b=>
  intro y e
  cases y <;> first
   | exact Bool.noConfusion (show false = true from e)
   | skip
  rename_i b'
  replace e:beqB b b' = true:=e
  have:b = b':=by revert e; cases b <;> cases b' <;> decide
  rw [this]
 | int c n=>
  intro y e
  cases y <;> first
   | exact Bool.noConfusion (show false = true from e)
   | skip
  rename_i c' n'
  replace e:bAnd (Nat.beq c c') (eqI n n') = true:=e
  rw [bAnd_iff,beq_iff,eqI_eq] at e
  have hn:n = n':=by simpa using e.2
  rw [e.1,hn]
 | str n x=>
  intro y e
  cases y <;> first
   | exact Bool.noConfusion (show false = true from e)
   | skip
  rename_i n' x'
  replace e:sEq n x n' x' = true:=e
  replace e:Bool.rec (motive:=fun _=>Bool) false (Nat.beq x x') (Nat.beq n n') = true:=e
  rw [recB] at e
  simp only [beq_iff] at e
  have h1:n = n':=by
   by_cases h:n = n'
   ·exact h
   ·rw [if_neg h] at e; cases e
  rw [if_pos h1,beq_iff] at e
  rw [h1,e]
 | ptr b o=>
  intro y e
  cases y <;> first
   | exact Bool.noConfusion (show false = true from e)
   | skip
  rename_i b' o'
  replace e:bAnd (Nat.beq b b') (Nat.beq o o') = true:=e
  rw [bAnd_iff,beq_iff,beq_iff] at e
  rw [e.1,e.2]
 | sl b o n z c=>
  intro y e
  cases y <;> first
   | exact Bool.noConfusion (show false = true from e)
   | skip
  rename_i b' o' n' z' c'
  replace e:bAnd (Nat.beq b b') (bAnd (Nat.beq o o') (bAnd (Nat.beq n n') (bAnd (Nat.beq z z') (optEq z c c')))) = true:=e
  rw [bAnd_iff,bAnd_iff,bAnd_iff,bAnd_iff,beq_iff,beq_iff,beq_iff,beq_iff] at e
  obtain ⟨rfl,rfl,rfl,rfl,e⟩:=e
  cases c with
  | none=>
   cases c' with
   | none=>rfl
   | some m=>cases e
  | some m=>
   cases c' with
   | none=>cases e
   | some m'=>
    replace e:Nat.beq m m' = true:=e
    rw [beq_iff] at e
    rw [e]
 | ifc t v ih=>
  intro y e
  cases y <;> first
   | exact Bool.noConfusion (show false = true from e)
   | skip
  rename_i t' v'
  replace e:bAnd (Nat.beq t t') (eqAV v v') = true:=e
  rw [bAnd_iff,beq_iff] at e
  rw [e.1,ih v' e.2]
 | fn f a b iha ihb=>
  intro y e
  cases y <;> first
   | exact Bool.noConfusion (show false = true from e)
   | skip
  rename_i f' a' b'
  replace e:bAnd (eqFn f f') (bAnd (eqAV a a') (eqAV b b')) = true:=e
  rw [bAnd_iff,bAnd_iff] at e
  rw [eqFn_eq e.1,iha a' e.2.1,ihb b' e.2.2]
 | map b=>
  intro y e
  cases y <;> first
   | exact Bool.noConfusion (show false = true from e)
   | skip
  rename_i b'
  replace e:Nat.beq b b' = true:=e
  rw [beq_iff] at e
  rw [e]
 | agg v ih=>
  intro y e
  cases y <;> first
   | exact Bool.noConfusion (show false = true from e)
   | skip
  rename_i v'
  rw [ih v' e]
 | tup v ih=>
  intro y e
  cases y <;> first
   | exact Bool.noConfusion (show false = true from e)
   | skip
  rename_i v'
  rw [ih v' e]
 | cons h t ihh iht=>
  intro y e
  cases y <;> first
   | exact Bool.noConfusion (show false = true from e)
   | skip
  rename_i h' t'
  replace e:bAnd (eqAV h h') (eqAV t t') = true:=e
  rw [bAnd_iff] at e
  rw [ihh h' e.1,iht t' e.2]
 | _=>
  intro y e
  cases y <;> first
   | exact Bool.noConfusion (show false = true from e)
   | rfl
theorem packN_sm (hr:Fine r):∀ (l:AV) (k:Nat→Res),Sm (packN l k) r→Sm (packL l k) r:=by
 intro l
 induction l with
 | nil=>intro k e; exact e
 | cons v l _ ih=>
  intro k e
  cases v with
  | int c n=>
   have e:Sm (ifB (Nat.beq c 8) (.ask (inB n) (packN l fun p=>k (Nat.add (Int.toNat n) (Nat.mul 256 p)))) .fail) r:=e
   show Sm (ifB (Nat.beq c 8) (Int.rec (motive:=fun _=>Res) (fun m=>ifB (Nat.blt m 256) (packL l fun p=>k (Nat.add m (Nat.mul 256 p))) .fail) (fun _=>.fail) n) .fail) r
   cases hc:Nat.beq c 8 with
   | false=>rw [hc] at e; exact absurd rfl (e.nf hr)
   | true=>
    rw [hc] at e
    have e:Sm (.ask (inB n) (packN l fun p=>k (Nat.add (Int.toNat n) (Nat.mul 256 p)))) r:=e
    obtain ⟨h2,h3⟩:=now_ask (by rw [show now (.ask (inB n) _) = now r from e]; exact hr.ok)
    cases n with
    | negSucc m=>cases h2
    | ofNat m=>
     have h2:Nat.blt m 256 = true:=h2
     show Sm (ifB (Nat.blt m 256) (packL l fun p=>k (Nat.add m (Nat.mul 256 p))) .fail) r
     rw [h2]
     exact ih _ (h3.symm.trans e)
  | _=>exact absurd rfl (e.nf hr)
 | _=>intro k e; exact absurd rfl (e.nf hr)
theorem byteAt_div (x i:Nat):byteAt x i = x / 256 ^ i % 256:=by
 show Nat.mod (Nat.shiftRight x (Nat.mul 8 i)) 256 = _
 have e:Nat.shiftRight x (Nat.mul 8 i) = x / 2 ^ (8 * i):=Nat.shiftRight_eq_div_pow x (8 * i)
 rw [e,Nat.pow_mul]; rfl
theorem byteAt_low {X p n j:Nat} (hj:j < n):byteAt (X + 256 ^ n * p) j = byteAt X j:=by
 rw [byteAt_div,byteAt_div]
 obtain ⟨d,rfl⟩:∃ d,n = j + 1 + d:=⟨n - (j + 1),by omega⟩
 have e:256 ^ (j + 1 + d) * p = 256 ^ j * (256 * (256 ^ d * p)):=by rw [Nat.pow_add,Nat.pow_succ]; simp only [Nat.mul_assoc]
 rw [e,Nat.add_mul_div_left _ _ (Nat.pow_pos (by decide)),Nat.add_mul_mod_self_left]
theorem byteAt_high {X p n j:Nat} (hX:X < 256 ^ n):byteAt (X + 256 ^ n * p) (n + j) = byteAt p j:=by
 rw [byteAt_div,byteAt_div,Nat.pow_add,← Nat.div_div_eq_div_mul,Nat.add_mul_div_left _ _ (Nat.pow_pos (by decide)),Nat.div_eq_of_lt hX,Nat.zero_add]
theorem apdS_ok {t u ty e:TypeId} {d:TypeDesc} {k:AV→Hp→Res} (hi:Inv N0 ρ h w) (hT:AppT P t u e d) (ek:apdS h (szOf P e) (byOf P e) x y k = r) (hr:Fine r) (hx:VR ρ x X) (hy:VR ρ y Y):
  ∃ r',Does P N0 ρ h w (Builtin.append_ #[t,u] ty #[X,Y]) k r'∧Sm r' r:=by
 obtain ⟨m,l,news,h1,hS,hlen⟩:=src_ok (P:=P) hi ek hr.nf hy
 obtain ⟨b,o,n,z',c',rfl,h7⟩:=cL_inv h1 hr.nf
 replace h7:Sm _ r:=.eq h7
 cases c' with
 | some c'=>exact absurd rfl (h7.nf hr)
 | none=>
  obtain ⟨hz1,h8⟩:=ifF_inv rfl (h7.nf hr)
  replace h7:=Sm.of h8 h7
  obtain ⟨hz2,h8⟩:=ifF_inv rfl (h7.nf hr)
  replace h7:=Sm.of h8 h7
  rw [beq_iff] at hz1 hz2
  subst hz2
  obtain ⟨h10,h11⟩:=ifT_inv rfl (h7.nf hr)
  replace h11:=Sm.of h11 h7
  obtain ⟨hone,h11'⟩:=ifF_inv rfl (h11.nf hr)
  replace h11:=Sm.of h11' h11
  replace h11:=packN_sm hr l _ h11
  obtain ⟨bs,hbs,hnews⟩:=packL_ok l news hS.rel rfl (h11.nf hr)
  replace h11:=Sm.of hbs h11
  obtain ⟨h12,h13⟩:=ask_inv h11 hr
  obtain ⟨h14,h15⟩:=ask_inv h13 hr
  rw [ble_iff] at h12 h14
  have h12:(m + n) * byOf P e≤140737488355328:=h12
  have h14:m + n≤9223372036854775807:=h14
  obtain ⟨B,hb,hrd,h16⟩:=gb_inv rfl (h15.nf hr)
  replace h16:=Sm.of h16 h15
  obtain ⟨hf,h17⟩:=ifF_inv rfl (h16.nf hr)
  obtain ⟨hlo,h18⟩:=ifF_inv h17 (h16.nf hr)
  replace h18:=Sm.of h18 h16
  obtain ⟨ho0,h18'⟩:=ifF_inv rfl (h18.nf hr)
  replace h18:=Sm.of h18' h18
  obtain ⟨a0,X0,hdf,h18'⟩:=cS_inv rfl (h18.nf hr)
  replace h18:=Sm.of h18' h18
  obtain ⟨hcs,h18'⟩:=ifF_inv rfl (h18.nf hr)
  replace h18:=Sm.of h18' h18
  obtain ⟨h19,h23⟩:=ask_inv h18 hr
  obtain ⟨h24,h23⟩:=ask_inv h23 hr
  rw [beq_iff] at ho0
  rw [blt_iff] at h24
  have h24:X0 < 256 ^ n:=h24
  subst ho0
  have hcs:B.cs = .e:=by
   revert hcs
   cases B.cs with
   | e=>intro _; rfl
   | n=>intro h; exact Bool.noConfusion h
  rw [ble_iff] at hlo h19
  obtain ⟨p,c2,hp,rfl,hnc,hcc,hfit⟩:=hx
  obtain ⟨p0,hp0,hB⟩:=hi.blk b B hb
  obtain rfl:p = p0:=by rw [hp] at hp0; exact Option.some.inj hp0
  obtain ⟨cs,et,fz,q1,q2,q3,q4⟩:=hB.obj
  have hmn:Nat.add m n = n + m:=Nat.add_comm m n
  rw [hmn] at h23
  have hget:∀ j,j < n→∃ V,cs[p.base + 0 + j]? = some V∧cs.getD (p.base + 0 + j) undef = V∧VR ρ (.int 8 (.ofNat (byteAt X0 j))) V:=by
   intro j hj
   obtain ⟨V,hV,hvr⟩:=q4 hrd j (by omega)
   rw [at_eq,if_pos (by omega),hcs,hdf] at hvr
   have hm0:j % len (.str a0 X0) = j:=Nat.mod_zero j
   have hvr:VR ρ (nth (.str a0 X0) (j % len (.str a0 X0))) V:=hvr
   rw [hm0] at hvr
   exact ⟨V,hV,by rw [Array.getD_eq_getD_getElem?,show cs[p.base + 0 + j]? = some V from hV]; rfl,hvr⟩
  have hnl:news.length = m * szOf P e:=hS.length
  have hnm:news.length = m:=by rw [hnl,hz1,Nat.mul_one]
  have hbl:bs.length = m:=by rw [← hnm,hnews,List.length_map]
  refine ⟨_,apd_any (S:=fun X=>Builtin.append_ #[t,u] ty #[X,Y]) (olds:=(List.range n).map fun j=>cs.getD (p.base + 0 + j) undef) (news:=news) (lim':=n + m) (df':=.str 0 (Nat.add X0 (Nat.mul (Nat.pow 256 n) (packB bs)))) (t':=.e) hi hT.e hb hf hlo hp (by rw [hz1]; exact hfit) (by rw [hz1]; simp) (fun j v hv=>?_)
   (hT.run hlen hS) hnl (ones_all _ _ hone hS.rel) (by omega) (by rw [Nat.add_comm n m]; exact h12) (by rw [hz1,Nat.mul_one]) (fun j hj=>?_) (.inl rfl) rfl,by rw [hz1]; exact h23⟩
  ·have hj:=(List.getElem?_eq_some_iff.1 hv).1
   simp at hj
   obtain ⟨V,k1,k2,-⟩:=hget j hj
   rw [cell_of_row w p.r _ cs et fz q1,k1]
   rw [List.getElem?_map,List.getElem?_range hj] at hv
   rw [← k2]; exact hv
  ·rw [at_eq,if_pos hj]
   show ∃ V,_∧VR ρ (nth (.str 0 (Nat.add X0 (Nat.mul (Nat.pow 256 n) (packB bs)))) (j % len (.str 0 (Nat.add X0 (Nat.mul (Nat.pow 256 n) (packB bs)))))) V
   rw [show j % len (.str 0 (Nat.add X0 (Nat.mul (Nat.pow 256 n) (packB bs)))) = j from Nat.mod_zero j]
   show ∃ V,_∧VR ρ (.int 8 (.ofNat (byteAt (X0 + 256 ^ n * packB bs) j))) V
   by_cases hjn:j < n
   ·obtain ⟨V,-,k2,k3⟩:=hget j hjn
    refine ⟨V,?_,by rw [byteAt_low hjn]; exact k3⟩
    rw [List.getElem?_append_left (by simp; exact hjn),List.getElem?_map,List.getElem?_range hjn,← k2]; rfl
   ·have hlen2:((List.range n).map fun j=>cs.getD (p.base + 0 + j) undef).length = n:=by simp
    have hjm:j - n < bs.length:=by omega
    obtain ⟨i,rfl⟩:∃ i,j = n + i:=⟨j - n,by omega⟩
    rw [show n + i - n = i from by omega] at hjm
    refine ⟨.int .u8 bs[i].toNat,by rw [List.getElem?_append_right (by rw [hlen2]; omega),hlen2,show n + i - n = i from by omega,hnews,List.getElem?_map,List.getElem?_eq_getElem hjm]; rfl,?_⟩
    rw [byteAt_high h24,byteAt_eq bs i hjm]
    exact ⟨.u8,rfl,rfl⟩
theorem grown_any {e:TypeId} {base:Option Addr} {sCap m:Nat} {news:List Value} {S:Value→Sem Value} {k:AV→Hp→Res} {df:AV} {t:T AV} (hi:Inv N0 ρ h w) (hT:AppE P e)
  (hA:AppRun P w e m news S) (hold:∀ w',w'.heap = w.heap→(Builtin.firstCells (szOf P e) 0 (.slice base 0 sCap)).run P w' = .ok #[] w')
  (hn:news.length = m * szOf P e) (hc:∀ i,i < m * szOf P e→∃ V,news[i]? = some V∧VR ρ ((⟨true,h.nb,m * szOf P e,df,t⟩:Blk).at i) V) (hg:sCap < m) (h63:m≤9223372036854775807) (hb:m * byOf P e≤140737488355328):
  Does P N0 ρ h w (S (.slice base 0 sCap)) k (k (.sl h.nb 0 m (szOf P e) none) (nw h (m * szOf P e) df t)):=by
 obtain ⟨i,z,hinf,hz,hzl⟩:=zero_info (P:=P) (ρ:=ρ) (t:=e) hT.ones
 have hzs:=LR_len _ _ hzl
 rw [hT.hlen,Array.length_toList] at hzs
 have hge:=grownCap_ge w (0 + m) sCap e
 have hsi:=szOf_info hinf
 have hrun:=hA.grow base 0 sCap [] _ _ hinf hz (by rw [← hsi]; exact hold) (by omega) (by omega) (by rw [← byOf_info hinf,Nat.zero_add]; exact hb)
 have hsize:(([]:List Value).toArray ++ news.toArray ++ Builtin.zeroCells z.cells (grownCap w (0 + m) sCap e - (0 + m))).size = grownCap w (0 + m) sCap e * szOf P e:=by
  simp only [Array.size_append,List.size_toArray,size_zeroCells,hn,← hzs,List.length_nil,Nat.zero_add,← Nat.add_mul]
  have:m + (grownCap w m sCap e - m) = grownCap w m sCap e:=by rw [Nat.zero_add] at hge; omega
  rw [this]
 obtain ⟨i1,i2⟩:=new_inv (grownCap w (0 + m) sCap e * szOf P e) (lim:=m * szOf P e) (df:=df) (t:=t) hi (nu_mark (([]:List Value).toArray ++ news.toArray ++ Builtin.zeroCells z.cells (grownCap w (0 + m) sCap e - (0 + m))) e (0,0)) (.inl rfl) (by
  rw [hsize]; exact Nat.mul_le_mul_right _ (by omega)) (fun i hil=>by
  obtain ⟨V,hV,hvr⟩:=hc i hil
  refine ⟨V,?_,hvr⟩
  rw [Array.getElem?_append_left (by simp; omega)]
  simpa using hV)
 refine ⟨_,_,_,_,_,rfl,hrun,⟨_,grownCap w (0 + m) sCap e,ups_same _ _ _,by rw [Nat.zero_add],by omega,.inl ⟨rfl,Nat.zero_add _⟩,?_⟩,i1,i2⟩
 refine Nat.le_of_eq ?_
 simp only [Nat.zero_add] at hsize ⊢
 exact hsize.symm
theorem bytesL_LR {X:Nat}:∀ (m:Nat) (Y:Nat) (Vs:List Value),Vs.length = m→(∀ j V,Vs[j]? = some V→VR ρ (.int 8 (.ofNat (byteAt Y j))) V)→LR ρ (bytesL m Y) Vs:=by
 intro m
 induction m with
 | zero=>intro Y Vs hl _; exact List.length_eq_zero_iff.1 hl
 | succ m ih=>
  intro Y Vs hl hv
  cases Vs with
  | nil=>cases hl
  | cons V Vs=>
   refine ⟨V,Vs,rfl,?_,ih (Nat.div Y 256) Vs (by simpa using hl) fun j V' hV=>?_⟩
   ·have h0:=hv 0 V rfl
    rw [byteAt_div,Nat.pow_zero,Nat.div_one] at h0
    exact h0
   ·have h1:=hv (j + 1) V' (by simpa using hV)
    rw [byteAt_div,Nat.pow_succ,Nat.mul_comm,← Nat.div_div_eq_div_mul,← byteAt_div] at h1
    exact h1
theorem apdV_ok {t u ty e:TypeId} {d:TypeDesc} {k:AV→Hp→Res} (hi:Inv N0 ρ h w) (hT:AppT P t u e d) (ek:apdV h (szOf P e) (byOf P e) x y k = r) (hr:Fine r) (hx:VR ρ x X) (hy:VR ρ y Y):
  ∃ r',Does P N0 ρ h w (Builtin.append_ #[t,u] ty #[X,Y]) k r'∧Sm r' r:=by
 obtain ⟨b,o,m,z',c',rfl,h7⟩:=cL_inv ek hr.nf
 replace h7:Sm _ r:=.eq h7
 obtain ⟨hz1,h8⟩:=ifF_inv rfl (h7.nf hr)
 replace h7:=Sm.of h8 h7
 obtain ⟨hz2,h8⟩:=ifF_inv rfl (h7.nf hr)
 replace h7:=Sm.of h8 h7
 obtain ⟨ho0,h8⟩:=ifF_inv rfl (h7.nf hr)
 replace h7:=Sm.of h8 h7
 rw [beq_iff] at hz1 hz2 ho0
 subst hz2 ho0
 obtain ⟨B,hb,hrd,h8⟩:=gb_inv rfl (h7.nf hr)
 replace h7:=Sm.of h8 h7
 obtain ⟨a0,X0,hdf,h8⟩:=cS_inv rfl (h7.nf hr)
 replace h7:=Sm.of h8 h7
 obtain ⟨hcs,h8⟩:=ifF_inv rfl (h7.nf hr)
 replace h7:=Sm.of h8 h7
 obtain ⟨hlim,h7⟩:=ask_inv h7 hr
 obtain ⟨hm0,h7⟩:=ask_inv h7 hr
 obtain ⟨h12,h7⟩:=ask_inv h7 hr
 obtain ⟨h14,h7⟩:=ask_inv h7 hr
 rw [ble_iff] at hlim h12 h14
 have h12:m * byOf P e≤140737488355328:=h12
 have hm1:0 < m:=by
  rcases Nat.eq_zero_or_pos m with h0 | h0
  ·subst h0; cases hm0
  ·exact h0
 have hcs:B.cs = .e:=by
  revert hcs
  cases B.cs with
  | e=>intro _; rfl
  | n=>intro h; exact Bool.noConfusion h
 obtain ⟨p,c2,hp,rfl,-⟩:=hy
 obtain ⟨p0,hp0,hB⟩:=hi.blk b B hb
 obtain rfl:p = p0:=by rw [hp] at hp0; exact Option.some.inj hp0
 obtain ⟨cs,et,fz,q1,q2,q3,q4⟩:=hB.obj
 have hget:∀ j,j < m→∃ V,cs[p.base + 0 + j]? = some V∧cs.getD (p.base + 0 + j) undef = V∧VR ρ (.int 8 (.ofNat (byteAt X0 j))) V:=by
  intro j hj
  obtain ⟨V,hV,hvr⟩:=q4 hrd j (by omega)
  rw [at_eq,if_pos (by omega),hcs,hdf] at hvr
  have hmz:j % len (.str a0 X0) = j:=Nat.mod_zero j
  have hvr:VR ρ (nth (.str a0 X0) (j % len (.str a0 X0))) V:=hvr
  rw [hmz] at hvr
  exact ⟨V,hV,by rw [Array.getD_eq_getD_getElem?,show cs[p.base + 0 + j]? = some V from hV]; rfl,hvr⟩
 have hnews:∀ j V,((List.range m).map fun j=>cs.getD (p.base + 0 + j) undef)[j]? = some V→j < m∧cs[p.base + 0 + j]? = some V∧VR ρ (.int 8 (.ofNat (byteAt X0 j))) V:=by
  intro j V hV
  have hj:=(List.getElem?_eq_some_iff.1 hV).1
  simp at hj
  obtain ⟨V',k1,k2,k3⟩:=hget j hj
  rw [List.getElem?_map,List.getElem?_range hj] at hV
  obtain rfl:V' = V:=by rw [← k2]; exact Option.some.inj hV
  exact ⟨hj,k1,k3⟩
 have hlen:((List.range m).map fun j=>cs.getD (p.base + 0 + j) undef).length = m * szOf P e:=by rw [hz1]; simp
 have hS:Src P ρ w (szOf P e) m (.slice (some ⟨p.r,p.base + 0,none⟩) m c2) (bytesL m X0) ((List.range m).map fun j=>cs.getD (p.base + 0 + j) undef):=by
  refine ⟨bytesL_LR (X:=0) m X0 _ (by simp) fun j V hV=>(hnews j V hV).2.2,hlen,fun w' hw=>?_⟩
  refine run_firstCells_some w' (szOf P e) m _ m c2 _ hlen (fun j v hv=>?_)
  obtain ⟨hj,k1,-⟩:=hnews j v hv
  rw [addr_add]
  have hc2:w.cell? ⟨p.r,p.base + 0 + j,none⟩ = some v:=by rw [cell_of_row w p.r _ cs et fz q1]; exact k1
  simpa [World.cell?,hw] using hc2
 have hA:=hT.run (m:=m) (ty:=ty) (fun w'=>rfl) hS
 have hcc:∀ i,i < m * szOf P e→∃ V,((List.range m).map fun j=>cs.getD (p.base + 0 + j) undef)[i]? = some V∧VR ρ ((⟨true,h.nb,m * szOf P e,.str 0 X0,.e⟩:Blk).at i) V:=by
  intro i hil
  have hil':i < m:=by rw [hz1,Nat.mul_one] at hil; exact hil
  obtain ⟨V,k1,k2,k3⟩:=hget i hil'
  refine ⟨V,by rw [List.getElem?_map,List.getElem?_range hil',← k2]; rfl,?_⟩
  rw [at_eq,if_pos hil]
  show VR ρ (nth (.str 0 X0) (i % len (.str 0 X0))) V
  rw [show i % len (.str 0 X0) = i from Nat.mod_zero i]
  exact k3
 cases x with
 | nils=>
  have hx:X = .slice none 0 0:=hx
  subst hx
  have h7:Sm (k (.sl h.nb 0 m 1 none) (nw h m (.str 0 X0) .e)) r:=h7
  have:=grown_any (k:=k) (base:=none) (sCap:=0) hi hT.e hA (fun w' _=>by simp [Builtin.firstCells]) hlen hcc hm1 h14 h12
  rw [hz1,Nat.mul_one] at this
  exact ⟨_,this,h7⟩
 | sl b2 o2 n2 z2 cc=>
  have h7:Sm (ifB (Nat.beq n2 0) (Option.rec (motive:=fun _=>Res) .fail (fun c=>ifB (Nat.beq c 0) (k (.sl h.nb 0 m 1 none) (nw h m (.str 0 X0) .e)) .fail) cc) .fail) r:=h7
  obtain ⟨hn2,h8⟩:=ifF_inv rfl (h7.nf hr)
  replace h7:=Sm.of h8 h7
  rw [beq_iff] at hn2
  subst hn2
  cases cc with
  | none=>exact absurd rfl (h7.nf hr)
  | some c=>
   have h7:Sm (ifB (Nat.beq c 0) (k (.sl h.nb 0 m 1 none) (nw h m (.str 0 X0) .e)) .fail) r:=h7
   obtain ⟨hc0,h8⟩:=ifF_inv rfl (h7.nf hr)
   replace h7:=Sm.of h8 h7
   rw [beq_iff] at hc0
   subst hc0
   obtain ⟨p2,c3,hp2,rfl,-,hcc3,-⟩:=hx
   obtain rfl:c3 = 0:=by rcases hcc3 with ⟨h,-⟩ | h; (cases h); exact (Option.some.inj h).symm
   have:=grown_any (k:=k) (base:=some ⟨p2.r,p2.base + o2,none⟩) (sCap:=0) hi hT.e hA (fun w' _=>by simp [Builtin.firstCells,loadCells,loadCellsFrom]) hlen hcc hm1 h14 h12
   rw [hz1,Nat.mul_one] at this
   exact ⟨_,this,h7⟩
 | _=>exact absurd rfl (h7.nf hr)
theorem apdM_ok {t u ty e:TypeId} {d:TypeDesc} {k:AV→Hp→Res} (hi:Inv N0 ρ h w) (hT:AppT P t u e d) (ek:apdM h (szOf P e) (byOf P e) x y k = r) (hr:Fine r) (hx:VR ρ x X) (hy:VR ρ y Y):
  ∃ r',Does P N0 ρ h w (Builtin.append_ #[t,u] ty #[X,Y]) k r'∧Sm r' r:=by
 rcases ifB_inv ek with ⟨-,ek⟩ | ⟨-,ek⟩
 ·exact apdV_ok hi hT ek hr hx hy
 rcases ifB_inv ek with ⟨-,ek⟩ | ⟨-,ek⟩
 ·exact apdS_ok hi hT ek hr hx hy
 rcases ifB_inv ek with ⟨-,ek⟩ | ⟨-,ek⟩
 case inr=>exact ⟨r,apd_ok hi hT ek hr.nf hx hy,rfl⟩
 case inl=>
  obtain ⟨m,l,news,h1,hS,hlen⟩:=src_ok (P:=P) hi ek hr.nf hy
  obtain ⟨b,o,n,z',c',rfl,h7⟩:=cL_inv h1 hr.nf
  replace h7:Sm _ r:=.eq h7
  cases c' with
  | some c'=>exact absurd rfl (h7.nf hr)
  | none=>
   obtain ⟨h8,h9⟩:=ifF_inv rfl (h7.nf hr)
   rw [beq_iff] at h8
   subst h8
   replace h9:=Sm.of h9 h7
   obtain ⟨h10,h11⟩:=ifT_inv rfl (h9.nf hr)
   replace h11:=Sm.of h11 h9
   obtain ⟨hone,h11'⟩:=ifF_inv rfl (h11.nf hr)
   replace h11:=Sm.of h11' h11
   obtain ⟨h12,h13⟩:=ask_inv h11 hr
   obtain ⟨h14,h15⟩:=ask_inv h13 hr
   rw [ble_iff] at h12 h14
   have h12:(m + n) * byOf P e≤140737488355328:=h12
   have h14:m + n≤9223372036854775807:=h14
   obtain ⟨B,hb,hrd,h16⟩:=gb_inv rfl (h15.nf hr)
   replace h16:=Sm.of h16 h15
   obtain ⟨hf,h17⟩:=ifF_inv rfl (h16.nf hr)
   obtain ⟨hlo,h18⟩:=ifF_inv h17 (h16.nf hr)
   replace h18:=Sm.of h18 h16
   obtain ⟨ho0,h18'⟩:=ifF_inv rfl (h18.nf hr)
   replace h18:=Sm.of h18' h18
   obtain ⟨hdf,h18'⟩:=ifF_inv rfl (h18.nf hr)
   replace h18:=Sm.of h18' h18
   obtain ⟨hcs,h18'⟩:=ifF_inv rfl (h18.nf hr)
   replace h18:=Sm.of h18' h18
   obtain ⟨h19,h23⟩:=ask_inv h18 hr
   obtain ⟨h24,h23⟩:=ask_inv h23 hr
   rw [beq_iff] at ho0 h24
   subst ho0
   have hdf:=eqAV_eq l B.df hdf
   have hcs:B.cs = .e:=by
    revert hcs
    cases B.cs with
    | e=>intro _; rfl
    | n=>intro h; exact Bool.noConfusion h
   rw [ble_iff] at hlo h19
   have h19:n * szOf P e≤B.lim:=h19
   have h24:n * szOf P e % len B.df = 0:=h24
   obtain ⟨p,c2,hp,rfl,hnc,hcc,hfit⟩:=hx
   obtain ⟨p0,hp0,hB⟩:=hi.blk b B hb
   obtain rfl:p = p0:=by rw [hp] at hp0; exact Option.some.inj hp0
   obtain ⟨cs,et,fz,q1,q2,q3,q4⟩:=hB.obj
   have hmn:Nat.add m n = n + m:=Nat.add_comm m n
   rw [hmn] at h23
   have hget:∀ j,j < n * szOf P e→∃ V,cs[p.base + 0 + j]? = some V∧cs.getD (p.base + 0 + j) undef = V∧VR ρ (nth B.df (j % len B.df)) V:=by
    intro j hj
    obtain ⟨V,hV,hvr⟩:=q4 hrd j (by omega)
    rw [at_eq,if_pos (by omega),hcs] at hvr
    exact ⟨V,hV,by rw [Array.getD_eq_getD_getElem?,show cs[p.base + 0 + j]? = some V from hV]; rfl,hvr⟩
   have hnl:news.length = m * szOf P e:=hS.length
   have hll:len l = m * szOf P e:=(LR_len _ _ hS.rel).trans hnl
   have hsum:(n + m) * szOf P e = n * szOf P e + m * szOf P e:=Nat.add_mul _ _ _
   refine ⟨_,apd_any (S:=fun X=>Builtin.append_ #[t,u] ty #[X,Y]) (olds:=(List.range (n * szOf P e)).map fun j=>cs.getD (p.base + 0 + j) undef) (news:=news) hi hT.e hb hf hlo hp hfit (by simp) (fun j v hv=>?_)
    (hT.run hlen hS) hnl (ones_all _ _ hone hS.rel) (by omega) (by rw [Nat.add_comm n m]; exact h12) rfl (fun j hj=>?_) (.inl rfl) rfl,h23⟩
   ·have hj:=(List.getElem?_eq_some_iff.1 hv).1
    simp at hj
    obtain ⟨V,k1,k2,-⟩:=hget j hj
    rw [cell_of_row w p.r _ cs et fz q1,k1]
    rw [List.getElem?_map,List.getElem?_range hj] at hv
    rw [← k2]; exact hv
   ·rw [at_eq,if_pos hj]
    show ∃ V,_∧VR ρ (nth B.df (j % len B.df)) V
    by_cases hjn:j < n * szOf P e
    ·obtain ⟨V,-,k2,k3⟩:=hget j hjn
     refine ⟨V,?_,k3⟩
     rw [List.getElem?_append_left (by simp; exact hjn),List.getElem?_map,List.getElem?_range hjn,← k2]; rfl
    ·have hlen2:((List.range (n * szOf P e)).map fun j=>cs.getD (p.base + 0 + j) undef).length = n * szOf P e:=by simp
     have hjm:j - n * szOf P e < m * szOf P e:=by omega
     have hmod:j % len B.df = j - n * szOf P e:=by
      rw [← hdf,hll] at h24 ⊢
      have hj2:j = (j - n * szOf P e) + n * szOf P e:=by omega
      rw [hj2,Nat.add_mod,h24,Nat.add_zero,Nat.mod_mod,Nat.mod_eq_of_lt hjm]
      omega
     rw [hmod]
     obtain ⟨V,hV⟩:∃ V,news[j - n * szOf P e]? = some V:=⟨news[j - n * szOf P e]'(by omega),by simp⟩
     refine ⟨V,by rw [List.getElem?_append_right (by rw [hlen2]; omega),hlen2]; exact hV,?_⟩
     rw [← hdf]
     exact LR_get l _ hS.rel _ _ hV
end
end Go.AM
