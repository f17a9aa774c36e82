/-
  What functions of the program compute, in the abstract machine's words (printed by gen.lean): each is what its text denotes.
-/
import Derived.Test.YtbkkfmjofmfijaaGreatDoorFd
set_option linter.unusedVariables false
set_option linter.unusedSimpArgs false
namespace Go.Proofs.YtbkkfmjofmfijaaGreatDoor
open Go Go.AM
set_option autoImplicit false
set_option maxRecDepth 100000
set_option linter.unusedVariables false
noncomputable section
def Bs (t:List Nat):List AV:=t.map fun (x:Nat)=>AV.int 8 (x:Int)
def U (t:List Nat):List AV:=t.map fun (x:Nat)=>AV.int 16 (x:Int)
theorem SA:type_of% (And.intro @uc_c (And.intro @uz_n (And.intro @cI_i (And.intro @cB_b (And.intro @cT_t (And.intro @cK_b (And.intro @cK_i (And.intro @ap_e (And.intro @jn_n (And.intro @jn_r (And.intro @cl_r (And.intro @iAdd_i (And.intro @iSub_i (And.intro @iMul_i (And.intro @iAnd_i (And.intro @iOr_i (And.intro @iConv_i (And.intro @bNot_b (And.intro @eqN_i (@ltN_i)))))))))))))))))))):=And.intro @uc_c (And.intro @uz_n (And.intro @cI_i (And.intro @cB_b (And.intro @cT_t (And.intro @cK_b (And.intro @cK_i (And.intro @ap_e (And.intro @jn_n (And.intro @jn_r (And.intro @cl_r (And.intro @iAdd_i (And.intro @iSub_i (And.intro @iMul_i (And.intro @iAnd_i (And.intro @iOr_i (And.intro @iConv_i (And.intro @bNot_b (And.intro @eqN_i (@ltN_i)))))))))))))))))))
theorem SD:type_of% (And.intro @cB_b (And.intro @cT_t (And.intro @nth_z (And.intro @nth_1 (And.intro @cK_b (And.intro @cK_i (And.intro @ifB_t (And.intro @ifB_f (And.intro @sel_t (And.intro @sel_f (And.intro @gsel_tt (And.intro @gsel_tf (And.intro @gsel_ft (And.intro @gsel_ff (And.intro @gsel_u (And.intro @gd_tt (And.intro @gd_tf (And.intro @gd_ft (And.intro @gd_ff (And.intro @gd_u (And.intro @jn_n (And.intro @jn_r (And.intro @blk_n (And.intro @blk_r (And.intro @cl_r (And.intro @iConv_i (And.intro @bNot_b (@bnot_e)))))))))))))))))))))))))))):=And.intro @cB_b (And.intro @cT_t (And.intro @nth_z (And.intro @nth_1 (And.intro @cK_b (And.intro @cK_i (And.intro @ifB_t (And.intro @ifB_f (And.intro @sel_t (And.intro @sel_f (And.intro @gsel_tt (And.intro @gsel_tf (And.intro @gsel_ft (And.intro @gsel_ff (And.intro @gsel_u (And.intro @gd_tt (And.intro @gd_tf (And.intro @gd_ft (And.intro @gd_ff (And.intro @gd_u (And.intro @jn_n (And.intro @jn_r (And.intro @blk_n (And.intro @blk_r (And.intro @cl_r (And.intro @iConv_i (And.intro @bNot_b (@bnot_e)))))))))))))))))))))))))))
theorem U_len (t:List Nat):(U t).length = t.length:=by simp [U]
@[congr] theorem lenL_cg {v v':AV} (h:v = v') (k:AV→Res):lenL v k = lenL v' k:=by rw [h]
theorem Bs_len (t:List Nat):(Bs t).length = t.length:=by simp [Bs]
theorem Bs_one (t:List Nat):∀ x∈Bs t,one x = true:=by
  intro x hx
  obtain ⟨y,-,rfl⟩:=List.mem_map.1 hx
  rfl
theorem Bs_app (s t:List Nat):Bs (s ++ t) = Bs s ++ Bs t:=by simp [Bs]
theorem lpn {F:List AV→Hp→Res} {vs vs':List AV} {h h':Hp} (m:Nat) (e:F vs h = .norm vs' h'):lp F (m + 1) vs h = lp F m vs' h':=by
  have:lp F (m + 1) vs h = jn (F vs h) (fun vs h=>lp F m vs h):=rfl
  rw [this,e]; rfl
theorem lpx {F:List AV→Hp→Res} {vs vs':List AV} {h h':Hp} {i:Nat} (m:Nat) (e:F vs h = .exit i vs' h'):lp F (m + 1) vs h = .exit i vs' h':=by
  have:lp F (m + 1) vs h = jn (F vs h) (fun vs h=>lp F m vs h):=rfl
  rw [this,e]; rfl
theorem s1n (i:Nat) (hi:i < 1000000):wrapC 63 ((i:Int) + 1) = ((i + 1:Nat):Int):=by rw [w63_in _ (by omega) (by omega)]; omega
theorem toU_mod (k:IntKind) (y:Int):(toU (cOf k) y:Int) = y % 2 ^ k.bits:=by
  rw [toU_eq,BitVec.toNat_ofInt]
  have h:(0:Int) < 2 ^ k.bits:=Int.pow_pos (by decide)
  have:=Int.emod_nonneg y (Int.ne_of_gt h)
  rw [Int.toNat_of_nonneg (by simpa using this)]; simp
theorem toU8 (y:Int):(toU 8 y:Int) = y % 256:=toU_mod .u8 y
theorem toU16 (y:Int):(toU 16 y:Int) = y % 65536:=toU_mod .u16 y
theorem toU31 (y:Int):(toU 31 y:Int) = y % 4294967296:=toU_mod .i32 y
theorem toU8n (a:Nat):toU 8 (a:Int) = a % 256:=by have:=toU8 (a:Int); omega
theorem toU16n (a:Nat):toU 16 (a:Int) = a % 65536:=by have:=toU16 (a:Int); omega
theorem w8n (a:Nat):wrapC 8 (a:Int) = ((a % 256:Nat):Int):=by rw [w8]; omega
theorem land63 (x:Nat):Nat.land x 63 = x % 64:=Nat.and_two_pow_sub_one_eq_mod x 6
theorem bld1 (c:Nat) (m:Int) (k:AV→Res):bld [(false,1,.int c m)] k = k (avL [.int c m]):=of_eq_true (eq_self _)
theorem mkS_lit {h:Hp} (hw:Wf h) (l:List AV) (hl:∀ x∈l,one x = true):
    ∃ v h',(∀ k:AV→Hp→Res,mkS h 1 l.length (avL l) k = k v h')∧Sl h' (fun x=>h.nb≤x∧x < h'.nb) v l∧To No h h'∧Wf h'∧h'.nb = h.nb + 1:=by
  obtain ⟨t,h1,h2⟩:=lay_list l .e 0 hl
  have e2:Nat.beq (0 + l.length) (Nat.mul l.length 1) = true:=by rw [beq_iff]; show 0 + l.length = l.length * 1; omega
  obtain ⟨o1,o2⟩:=nw_own hw (0 + l.length) .nil t
  have hat:∀ i (hi:i < l.length),(⟨true,h.nb,0 + l.length,.nil,t⟩:Blk).at (0 + i) = l[i]:=by
    intro i hi
    rw [at_in _ (show 0 + i < 0 + l.length by omega)]
    simp only [h2 (0 + i)]
    rw [dif_pos ⟨by omega,by omega⟩]
    simp
  refine ⟨.sl h.nb 0 l.length 1 (some l.length),nw h (0 + l.length) .nil t,fun k=>?_,⟨hl,.inr (.inr ⟨h.nb,0,_,_,rfl,⟨Nat.le_refl _,Nat.lt_succ_self _⟩,o1.rd,fun _=>⟨Nat.le_refl _,Nat.lt_succ_self _⟩,(fun c h=>by cases h; exact Nat.le_refl _),hat⟩)⟩,o2,o2.wf hw,rfl⟩
  have e:mkS h 1 l.length (avL l) k = lay (avL l) .e 0 fun t m=>ifB (Nat.beq m (Nat.mul l.length 1)) (k (.sl h.nb 0 l.length 1 (some l.length)) (nw h m .nil t)) .fail:=rfl
  rw [e,h1,e2,ifB_t]
theorem Gr.to {h h':Hp} {N:Nat} {v:AV} {l:List AV} (hg:Gr h N v l) (ht:To No h h'):Gr h' N v l:=by
  obtain ⟨g1,g2⟩:=hg
  refine ⟨g1.to ht (fun _ _ f=>f),?_⟩
  rcases g2 with g2 | g2 | ⟨b,B,q1,q2,q3,q4,q5⟩
  · exact .inl g2
  · exact .inr (.inl g2)
  · refine .inr (.inr ⟨b,B,q1,?_,q3,q4,by rw [ht.lo]; exact q5⟩)
    rcases g1.2 with ⟨e,-⟩ | ⟨e,-⟩ | ⟨b',o',c',B',e,-,h4,-⟩
    · rw [q1] at e; cases e
    · rw [q1] at e; cases e
    · rw [q1] at e; cases e
      rw [ht.get _ h4.lt (fun f=>f)]; exact q2
theorem pushL {h:Hp} {N:Nat} {u:AV} {l:List AV} (hN:N≤h.nb) (hw:Wf h) (hu:Gr h N u l) (m:List AV) (n:Nat) (hn:n = m.length) (hm:∀ x∈m,one x = true) (hb:l.length + m.length≤100000):
    ∃ u' h',(∀ k:AV→Hp→Res,(mkS h 1 n (avL m) fun w h1=>apd h1 1 1 u w k) = k u' h')∧Gr h' N u' (l ++ m)∧To (fun b=>N≤b) h h'∧Wf h'∧N≤h'.nb∧h'.nb≤h.nb + 2:=by
  subst hn
  obtain ⟨v,h1,e1,s1,o1,w1,n1⟩:=mkS_lit hw m hm
  obtain ⟨u',h',e2,g2,t2,n2⟩:=apd_gr (by_:=1) (Nat.le_trans hN o1.nb) w1 (Gr.to hu o1) s1 (by omega) (by omega)
  exact ⟨u',h',fun k=>by rw [e1,e2],g2,(o1.mono fun _ _ f=>f.elim).trans t2,t2.wf w1,Nat.le_trans hN (Nat.le_trans o1.nb t2.nb),by omega⟩
theorem bld2 (a b:Nat) (m n:Int) (k:AV→Res):bld [(false,1,.int a m),(false,1,.int b n)] k = k (avL [.int a m,.int b n]):=of_eq_true (eq_self _)
theorem bld3 (a b c:Nat) (m n o:Int) (k:AV→Res):bld [(false,1,.int a m),(false,1,.int b n),(false,1,.int c o)] k = k (avL [.int a m,.int b n,.int c o]):=of_eq_true (eq_self _)
theorem bld4 (a b c d:Nat) (m n o p:Int) (k:AV→Res):bld [(false,1,.int a m),(false,1,.int b n),(false,1,.int c o),(false,1,.int d p)] k = k (avL [.int a m,.int b n,.int c o,.int d p]):=of_eq_true (eq_self _)
theorem kk:toU 8 192 = 192∧toU 8 128 = 128∧toU 8 224 = 224∧toU 8 240 = 240∧toU 16 63 = 63∧toU 32 63 = 63:=by decide +kernel
theorem l192:∀ x < 32,Nat.lor 192 x % 256 = 192 + x:=by decide +kernel
theorem l224:∀ x < 16,Nat.lor 224 x % 256 = 224 + x:=by decide +kernel
theorem l128:∀ x < 64,Nat.lor 128 x % 256 = 128 + x:=by decide +kernel
theorem utf_len (c:Nat):(utfC c).length≤4:=by unfold utfC; split <;> (try split) <;> (try split) <;> simp
theorem l240:∀ x < 8,Nat.lor 240 x % 256 = 240 + x:=by decide +kernel
theorem k863:toU 8 63 = 63:=by decide
theorem shr31_6 (c d:Nat) (k:AV→Res):iShr (.int 31 (c:Int)) (.int d 6) k = k (.int 31 ((c / 64:Nat):Int)):=iShr_i k 31 (c:Int) d 6 (by decide)
theorem shr31_12 (c d:Nat) (k:AV→Res):iShr (.int 31 (c:Int)) (.int d 12) k = k (.int 31 ((c / 4096:Nat):Int)):=iShr_i k 31 (c:Int) d 12 (by decide)
theorem shr31_18 (c d:Nat) (k:AV→Res):iShr (.int 31 (c:Int)) (.int d 18) k = k (.int 31 ((c / 262144:Nat):Int)):=iShr_i k 31 (c:Int) d 18 (by decide)
theorem cont_b (x y:Nat) (hy:y = 128 + x % 64):Nat.lor 128 (Nat.land (x % 256 % 256) 63 % 256 % 256) % 256 = y:=by
  rw [land63,show x % 256 % 256 % 64 % 256 % 256 = x % 64 by omega,hy]; exact l128 _ (by omega)
theorem t288 {h:Hp} {N:Nat} {u:AV} {acc:List Nat} (hN:N≤h.nb) (hw:Wf h) (hu:Gr h N u (Bs acc)) (ha:acc.length≤90000) (c:Nat) (hc:c < 1114112) (hs:c < 55296∨57343 < c):
    ∃ u' h',s288 [u,.int 31 (c:Int)] h = .ret u' h'∧Gr h' N u' (Bs (acc ++ utfC c))∧To (fun b=>N≤b) h h'∧Wf h'∧N≤h'.nb∧h'.nb≤h.nb + 2:=by
  have ul:=utf_len c
  obtain ⟨u',h',p1,p2,p3,p4,p5,p6⟩:=pushL hN hw hu (Bs (utfC c)) _ rfl (Bs_one _) (by rw [Bs_len,Bs_len]; omega)
  rw [← Bs_app] at p2
  refine ⟨u',h',?_,p2,p3,p4,p5,p6⟩
  have e32:wrapC 32 (c:Int) = (c:Int):=by rw [w32]; omega
  have cu:=fun k=>cK_sl p2.1 k
  by_cases c1:c < 128
  · have q:utfC c = [c]:=by unfold utfC; rw [if_pos c1]
    rw [q] at p1
    have p1:∀ k:AV→Hp→Res,(mkS h 1 1 (avL [.int 8 (c:Int)]) fun w h1=>apd h1 1 1 u w k) = k u' h':=p1
    have a1:¬ (127:Int) < (c:Int):=by omega
    have a3:c % 256 = c:=by omega
    simp only [↓s288,↓b288,e32,a1,w8n,a3,bld1,↓p1,↓cu,↓SA,SD,↓u1,↓u2,↓u3,↓u4,↓u5,↓u6,↓u7,↓u8,↓U1,↓U2,rk,Int.ofNat_eq_natCast,Int.cast_ofNat_Int,Int.reduceBEq,Int.reduceAdd,Int.reduceNeg,Int.reduceLT,Int.reduceLE,Int.reduceMul,Int.reduceSub,Bool.not_true,Bool.not_false,decide_true,decide_false,ne_eq,not_false_eq_true,Int.reduceEq,reduceCtorEq,gj,I,J,K]
  have a1:(127:Int) < (c:Int):=by omega
  have e0:s288 [u,.int 31 (c:Int)] h = cl (s361 [u,.int 31 (c:Int)] h) fun v14 h15=>cK v14 fun v16=>.ret v16 h15:=by
    simp only [↓s288,↓b288,e32,a1,↓SA,SD,↓u1,↓u2,↓u3,↓u4,↓u5,↓u6,↓u7,↓u8,↓U1,↓U2,rk,Int.ofNat_eq_natCast,Int.cast_ofNat_Int,Int.reduceBEq,Int.reduceAdd,Int.reduceNeg,Int.reduceLT,Int.reduceLE,Int.reduceMul,Int.reduceSub,Bool.not_true,Bool.not_false,decide_true,decide_false,ne_eq,not_false_eq_true,Int.reduceEq,reduceCtorEq,gj,I,J,K]
  have e98:s361 [u,.int 31 (c:Int)] h = .ret u' h':=by
    clear e0
    by_cases c2:c < 2048
    · have q:utfC c = [192 + c / 64,128 + c % 64]:=by unfold utfC; rw [if_neg c1,if_pos c2]
      rw [q] at p1
      have p1:∀ k:AV→Hp→Res,(mkS h 1 2 (avL [.int 8 ((192 + c / 64:Nat):Int),.int 8 ((128 + c % 64:Nat):Int)]) fun w h1=>apd h1 1 1 u w k) = k u' h':=p1
      have a2:¬ (2047:Int) < (c:Int):=by omega
      have b1:Nat.lor 192 (c / 64 % 256 % 256) % 256 = 192 + c / 64:=by rw [show c / 64 % 256 % 256 = c / 64 by omega]; exact l192 _ (by omega)
      have b2:=cont_b c (128 + c % 64) rfl
      simp only [↓s361,↓b361,e32,a2,shr31_6,w8n,toU8n,kk,k863,b1,b2,bld2,↓p1,↓cu,↓SA,SD,↓u1,↓u2,↓u3,↓u4,↓u5,↓u6,↓u7,↓u8,↓U1,↓U2,rk,Int.ofNat_eq_natCast,Int.cast_ofNat_Int,Int.reduceBEq,Int.reduceAdd,Int.reduceNeg,Int.reduceLT,Int.reduceLE,Int.reduceMul,Int.reduceSub,Bool.not_true,Bool.not_false,decide_true,decide_false,ne_eq,not_false_eq_true,Int.reduceEq,reduceCtorEq,gj,I,J,K]
    have a2:(2047:Int) < (c:Int):=by omega
    have b2:=cont_b c (128 + c % 64) rfl
    have b3:=cont_b (c / 64) (128 + c / 64 % 64) rfl
    by_cases c3:c < 65536
    · have q:utfC c = [224 + c / 4096,128 + c / 64 % 64,128 + c % 64]:=by unfold utfC; rw [if_neg c1,if_neg c2,if_pos c3]
      rw [q] at p1
      have p1:∀ k:AV→Hp→Res,(mkS h 1 3 (avL [.int 8 ((224 + c / 4096:Nat):Int),.int 8 ((128 + c / 64 % 64:Nat):Int),.int 8 ((128 + c % 64:Nat):Int)]) fun w h1=>apd h1 1 1 u w k) = k u' h':=p1
      have b1:Nat.lor 224 (c / 4096 % 256 % 256) % 256 = 224 + c / 4096:=by rw [show c / 4096 % 256 % 256 = c / 4096 by omega]; exact l224 _ (by omega)
      by_cases c4:c < 55296
      · have a3:(c:Int) < 55296:=by omega
        simp only [↓s361,↓b361,e32,a2,a3,shr31_6,shr31_12,w8n,toU8n,kk,k863,b1,b2,b3,bld3,↓p1,↓cu,↓SA,SD,↓u1,↓u2,↓u3,↓u4,↓u5,↓u6,↓u7,↓u8,↓U1,↓U2,rk,Int.ofNat_eq_natCast,Int.cast_ofNat_Int,Int.reduceBEq,Int.reduceAdd,Int.reduceNeg,Int.reduceLT,Int.reduceLE,Int.reduceMul,Int.reduceSub,Bool.not_true,Bool.not_false,decide_true,decide_false,ne_eq,not_false_eq_true,Int.reduceEq,reduceCtorEq,gj,I,J,K]
      · have a3:¬ (c:Int) < 55296:=by omega
        have a4:(57343:Int) < (c:Int):=by omega
        have a5:¬ (65535:Int) < (c:Int):=by omega
        simp only [↓s361,↓b361,e32,a2,a3,a4,a5,shr31_6,shr31_12,w8n,toU8n,kk,k863,b1,b2,b3,bld3,↓p1,↓cu,↓SA,SD,↓u1,↓u2,↓u3,↓u4,↓u5,↓u6,↓u7,↓u8,↓U1,↓U2,rk,Int.ofNat_eq_natCast,Int.cast_ofNat_Int,Int.reduceBEq,Int.reduceAdd,Int.reduceNeg,Int.reduceLT,Int.reduceLE,Int.reduceMul,Int.reduceSub,Bool.not_true,Bool.not_false,decide_true,decide_false,ne_eq,not_false_eq_true,Int.reduceEq,reduceCtorEq,gj,I,J,K]
    · have q:utfC c = [240 + c / 262144,128 + c / 4096 % 64,128 + c / 64 % 64,128 + c % 64]:=by unfold utfC; rw [if_neg c1,if_neg c2,if_neg c3]
      rw [q] at p1
      have p1:∀ k:AV→Hp→Res,(mkS h 1 4 (avL [.int 8 ((240 + c / 262144:Nat):Int),.int 8 ((128 + c / 4096 % 64:Nat):Int),.int 8 ((128 + c / 64 % 64:Nat):Int),.int 8 ((128 + c % 64:Nat):Int)]) fun w h1=>apd h1 1 1 u w k) = k u' h':=p1
      have b1:Nat.lor 240 (c / 262144 % 256 % 256) % 256 = 240 + c / 262144:=by rw [show c / 262144 % 256 % 256 = c / 262144 by omega]; exact l240 _ (by omega)
      have b4:=cont_b (c / 4096) (128 + c / 4096 % 64) rfl
      have a3:¬ (c:Int) < 55296:=by omega
      have a4:(57343:Int) < (c:Int):=by omega
      have a5:(65535:Int) < (c:Int):=by omega
      have a6:¬ (1114111:Int) < (c:Int):=by omega
      simp only [↓s361,↓b361,e32,a2,a3,a4,a5,a6,shr31_6,shr31_12,shr31_18,w8n,toU8n,kk,k863,b1,b2,b3,b4,bld4,↓p1,↓cu,↓SA,SD,↓u1,↓u2,↓u3,↓u4,↓u5,↓u6,↓u7,↓u8,↓U1,↓U2,rk,Int.ofNat_eq_natCast,Int.cast_ofNat_Int,Int.reduceBEq,Int.reduceAdd,Int.reduceNeg,Int.reduceLT,Int.reduceLE,Int.reduceMul,Int.reduceSub,Bool.not_true,Bool.not_false,decide_true,decide_false,ne_eq,not_false_eq_true,Int.reduceEq,reduceCtorEq,gj,I,J,K]
  simp only [e0,↓e98,↓cu,↓SA,SD,↓u1,↓u2,↓u3,↓u4,↓u5,↓u6,↓u7,↓u8,↓U1,↓U2,rk,Int.ofNat_eq_natCast,Int.cast_ofNat_Int,Int.reduceBEq,Int.reduceAdd,Int.reduceNeg,Int.reduceLT,Int.reduceLE,Int.reduceMul,Int.reduceSub,Bool.not_true,Bool.not_false,decide_true,decide_false,ne_eq,not_false_eq_true,Int.reduceEq,reduceCtorEq,gj,I,J,K]
theorem out_pair (c d:Nat) (r:List Nat) (h:(55296≤c∧c < 56320)∧(56320≤d∧d < 57344)):outC (c :: d :: r) = utfC (65536 + (c - 55296) * 1024 + (d - 56320)) ++ outC r:=by
  simp only [outC,if_pos h]
theorem out_lone (c:Nat) (r:List Nat) (h:∀ d s,r = d :: s→¬ ((55296≤c∧c < 56320)∧(56320≤d∧d < 57344))):outC (c :: r) = loneC c ++ outC r:=by
  cases r with
  | nil=>simp [outC]
  | cons d s=>simp only [outC,if_neg (h d s rfl)]
theorem land_top (c j m:Nat) (hc:c < 65536) (ha:∀ a < 65536 / 2 ^ j,Nat.land (2 ^ j * a) m = 2 ^ j * a) (hb:∀ b < 2 ^ j,Nat.land b m = 0) (hj:j = 10∨j = 11):Nat.land c m = 2 ^ j * (c / 2 ^ j):=by
  have hpos:0 < 2 ^ j:=Nat.two_pow_pos j
  have h1:c = (2 ^ j * (c / 2 ^ j)) ||| (c % 2 ^ j):=by
    rw [← Nat.two_pow_add_eq_or_of_lt (Nat.mod_lt _ hpos)]
    exact (Nat.div_add_mod c (2 ^ j)).symm
  have h2:c / 2 ^ j < 65536 / 2 ^ j:=by rcases hj with rfl | rfl <;> simp <;> omega
  have e:Nat.land c m = c &&& m:=rfl
  rw [e]
  conv=>lhs; rw [h1]
  rw [Nat.and_or_distrib_right]
  have ea:(2 ^ j * (c / 2 ^ j)) &&& m = 2 ^ j * (c / 2 ^ j):=ha _ h2
  have eb:(c % 2 ^ j) &&& m = 0:=hb _ (Nat.mod_lt _ hpos)
  rw [ea,eb,Nat.or_zero]
theorem land_a (c:Nat) (hc:c < 65536):Nat.land c 64512 = 1024 * (c / 1024):=land_top c 10 64512 hc (by decide +kernel) (by decide +kernel) (.inl rfl)
theorem land_b (c:Nat) (hc:c < 65536):Nat.land c 63488 = 2048 * (c / 2048):=land_top c 11 63488 hc (by decide +kernel) (by decide +kernel) (.inr rfl)
theorem land_c (c:Nat):Nat.land c 1023 = c % 1024:=Nat.and_two_pow_sub_one_eq_mod c 10
theorem toU31n (a:Nat) (ha:a < 4294967296):toU 31 (a:Int) = a:=by have:=toU31 (a:Int); omega
theorem k31:toU 31 64512 = 64512∧toU 31 63488 = 63488∧toU 31 1023 = 1023∧toU 16 64512 = 64512∧toU 16 1023 = 1023:=by decide +kernel
theorem w31n (a:Nat) (ha:a < 2147483648):wrapC 31 (a:Int) = (a:Int):=w31_in _ (by omega) (by omega)
theorem shl10 (m:Int) (d:Nat) (k:AV→Res):iShl (.int 31 m) (.int d 10) k = k (.int 31 (wrapC 31 (m * 1024))):=iShl_i k 31 m d 10 (by decide)
theorem hi_i (c:Nat) (hc:c < 65536):(((Nat.land c 64512:Nat):Int) == 55296) = decide (55296≤c∧c < 56320):=by
  rw [land_a c hc]
  by_cases h:55296≤c∧c < 56320
  · rw [decide_eq_true h]; rw [show 1024 * (c / 1024) = 55296 by omega]; rfl
  · rw [decide_eq_false h,beq_eq_false_iff_ne]
    omega
theorem lo_i (c:Nat) (hc:c < 65536):(((Nat.land c 64512:Nat):Int) == 56320) = decide (56320≤c∧c < 57344):=by
  rw [land_a c hc]
  by_cases h:56320≤c∧c < 57344
  · rw [decide_eq_true h]; rw [show 1024 * (c / 1024) = 56320 by omega]; rfl
  · rw [decide_eq_false h,beq_eq_false_iff_ne]
    omega
theorem su_i (c:Nat) (hc:c < 65536):(((Nat.land c 63488:Nat):Int) == 55296) = decide (55296≤c∧c < 57344):=by
  rw [land_b c hc]
  by_cases h:55296≤c∧c < 57344
  · rw [decide_eq_true h]; rw [show 2048 * (c / 2048) = 55296 by omega]; rfl
  · rw [decide_eq_false h,beq_eq_false_iff_ne]
    omega
theorem ix_sl2 {h:Hp} {P:Nat→Prop} {v:AV} {l:List AV} (hs:Sl h P v l) (j:Nat) (hj:j < l.length):∃ p,(∀ k:AV→Res,ixA 1 v (.int 63 (j:Int)) k = k p)∧∀ k:AV→Res,ld1 h p k = k l[j]:=by
  rcases hs.2 with ⟨-,rfl⟩ | ⟨-,rfl⟩ | ⟨b,o,cc,B,rfl,h3,h4,h5,hc,h6⟩
  · simp at hj
  · simp at hj
  · refine ⟨.ptr b (o + j),fun k=>?_,fun k=>(ld1_rd h4 (h6 j hj) k).trans (cK_onA (hs.1 _ (List.getElem_mem hj)) k)⟩
    have e:ixA 1 (.sl b o l.length 1 cc) (.int 63 (j:Int)) k = ifB (Nat.blt j l.length) (ifB (Nat.beq 1 1) (k (.ptr b (Nat.add o (Nat.mul j 1)))) .fail) .fail:=rfl
    rw [e,(blt_iff _ _).2 hj]
    have e2:Nat.add o (Nat.mul j 1) = o + j:=by show o + j * 1 = o + j; omega
    show k (.ptr b (Nat.add o (Nat.mul j 1))) = _
    rw [e2]
theorem bldq (k:AV→Res):bld [(false,1,.int 8 63)] k = k (avL (Bs [63])):=rfl
theorem cW31 (c:Nat) (hc:c < 65536):wrapC 31 ((Nat.land c 64512:Nat):Int) = ((Nat.land c 64512:Nat):Int)∧wrapC 31 ((Nat.land c 63488:Nat):Int) = ((Nat.land c 63488:Nat):Int)∧wrapC 16 ((Nat.land c 64512:Nat):Int) = ((Nat.land c 64512:Nat):Int):=by
  refine ⟨?_,?_,?_⟩
  · rw [land_a c hc]; exact w31n _ (by omega)
  · rw [land_b c hc]; exact w31n _ (by omega)
  · rw [land_a c hc]; exact w16_in _ (by omega) (by omega)
theorem loop211 {h0:Hp} {N:Nat} {P:Nat→Prop} {v:AV} {t:List Nat} (hv:Sl h0 P v (U t)) (hP:∀ b,P b→¬ N≤b) (hc:∀ x∈t,x < 65536) (hl:t.length≤1000):
    ∀ (f m i:Nat) (h:Hp) (u:AV) (acc:List Nat),t.length - i≤f→f < m→i≤t.length→acc.length≤4 * i→Gr h N u (Bs acc)→N≤h.nb→Wf h→To (fun b=>N≤b) h0 h →
    ∃ u' h',lp (L211n0 s288) m [v,u,.int 63 (i:Int)] h = .exit 0 [u'] h'∧Gr h' N u' (Bs (acc ++ outC (t.drop i)))∧To (fun b=>N≤b) h0 h'∧Wf h'∧h'.nb≤h.nb + 2 * (t.length - i):=by
  have stop:∀ (f m i:Nat) (h:Hp) (u:AV) (acc:List Nat),f < m→¬ i < t.length→Gr h N u (Bs acc)→Wf h→To (fun b=>N≤b) h0 h →
      ∃ u' h',lp (L211n0 s288) m [v,u,.int 63 (i:Int)] h = .exit 0 [u'] h'∧Gr h' N u' (Bs (acc ++ outC (t.drop i)))∧To (fun b=>N≤b) h0 h'∧Wf h'∧h'.nb≤h.nb + 2 * (t.length - i):=by
    intro f m i h u acc hm hi hu hw ht
    obtain ⟨m,rfl⟩:∃ k,m = k + 1:=⟨m - 1,by omega⟩
    have e1:¬ (i:Int) < (t.length:Int):=by omega
    have len:=fun k=>lenL_sl (hv.to ht hP) k
    rw [List.drop_eq_nil_of_le (by omega)]
    exact ⟨u,h,lpx m (by simp only [↓L211n0,↓len,U_len,e1,↓SA,SD,↓u1,↓u2,↓u3,↓u4,↓u5,↓u6,↓u7,↓u8,↓U1,↓U2,rk,Int.ofNat_eq_natCast,Int.cast_ofNat_Int,Int.reduceBEq,Int.reduceAdd,Int.reduceNeg,Int.reduceLT,Int.reduceLE,Int.reduceMul,Int.reduceSub,Bool.not_true,Bool.not_false,decide_true,decide_false,ne_eq,not_false_eq_true,Int.reduceEq,reduceCtorEq,gj,I,J,K]),by simpa [outC] using hu,ht,hw,Nat.le_add_right _ _⟩
  intro f
  induction f with
  | zero=>intro m i h u acc hf hm hi ha hu hN hw ht; exact stop 0 m i h u acc hm (by omega) hu hw ht
  | succ f ih=>
    intro m i h u acc hf hm hi ha hu hN hw ht
    by_cases hin:i < t.length
    · obtain ⟨m,rfl⟩:∃ k,m = k + 1:=⟨m - 1,by omega⟩
      have e1:(i:Int) < (t.length:Int):=by omega
      have e6:wrapC 63 ((i:Int) + 1) = ((i + 1:Nat):Int):=s1n i (by omega)
      have e7:wrapC 63 (((i + 1:Nat):Int) + 1) = ((i + 2:Nat):Int):=s1n (i + 1) (by omega)
      have hv':=hv.to ht hP
      have len:=fun k=>lenL_sl hv' k
      obtain ⟨p,ix,ld⟩:=ix_sl2 hv' i (by rw [U_len]; exact hin)
      have g:(U t)[i]'(by rw [U_len]; exact hin) = .int 16 (t[i]:Int):=by simp [U]
      rw [g] at ld
      have hci:=hc _ (List.getElem_mem hin)
      have hd:t.drop i = t[i] :: t.drop (i + 1):=List.drop_eq_getElem_cons hin
      generalize t[i] = c at *
      have hiB:=hi_i c hci
      have suB:=su_i c hci
      obtain ⟨w1,w2,w3⟩:=cW31 c hci
      have u31:=toU31n c (by omega)
      have c31:=w31n c (by omega)
      -- one char
      have single:∀ (u':AV) (h':Hp),L211n0 s288 [v,u,.int 63 (i:Int)] h = .norm [v,u',.int 63 ((i + 1:Nat):Int)] h'→Gr h' N u' (Bs (acc ++ loneC c))→To (fun b=>N≤b) h h'→Wf h'→N≤h'.nb→h'.nb≤h.nb + 2→outC (t.drop i) = loneC c ++ outC (t.drop (i + 1))→(loneC c).length≤4 →
          ∃ u' h',lp (L211n0 s288) (m + 1) [v,u,.int 63 (i:Int)] h = .exit 0 [u'] h'∧Gr h' N u' (Bs (acc ++ outC (t.drop i)))∧To (fun b=>N≤b) h0 h'∧Wf h'∧h'.nb≤h.nb + 2 * (t.length - i):=by
        intro u' h' e g1 g2 g3 g4 g5 ho hll
        rw [lpn m e]
        obtain ⟨u2,h2,q1,q2,q3,q4,q5⟩:=ih m (i + 1) h' u' (acc ++ loneC c) (by omega) (by omega) (by omega) (by rw [List.length_append]; omega) g1 g4 g3 (ht.trans g2)
        exact ⟨u2,h2,q1,by rw [ho,← List.append_assoc]; exact q2,q3,q4,by omega⟩
      have quest:(55296≤c∧c < 57344)→(∀ (u':AV) (h':Hp),(∀ k:AV→Hp→Res,(mkS h 1 1 (avL (Bs [63])) fun w h1=>apd h1 1 1 u w k) = k u' h')→L211n0 s288 [v,u,.int 63 (i:Int)] h = .norm [v,u',.int 63 ((i + 1:Nat):Int)] h')→outC (t.drop i) = loneC c ++ outC (t.drop (i + 1)) →
          ∃ u' h',lp (L211n0 s288) (m + 1) [v,u,.int 63 (i:Int)] h = .exit 0 [u'] h'∧Gr h' N u' (Bs (acc ++ outC (t.drop i)))∧To (fun b=>N≤b) h0 h'∧Wf h'∧h'.nb≤h.nb + 2 * (t.length - i):=by
        intro hs hrun ho
        obtain ⟨u',h',p1,p2,p3,p4,p5,p6⟩:=pushL hN hw hu (Bs [63]) 1 rfl (Bs_one _) (by rw [Bs_len,Bs_len]; simp only [List.length_cons,List.length_nil]; omega)
        have hlo:loneC c = [63]:=by unfold loneC; rw [if_pos hs]
        rw [← Bs_app,← hlo] at p2
        exact single u' h' (hrun u' h' p1) p2 p3 p4 p5 p6 ho (by rw [hlo]; simp)
      by_cases hhi:55296≤c∧c < 56320
      · rw [decide_eq_true hhi] at hiB
        have hsu:55296≤c∧c < 57344:=⟨hhi.1,by omega⟩
        rw [decide_eq_true hsu] at suB
        by_cases h1:i + 1 < t.length
        · have e2:((i + 1:Nat):Int) < (t.length:Int):=by omega
          obtain ⟨p',ix',ld'⟩:=ix_sl2 hv' (i + 1) (by rw [U_len]; exact h1)
          have g':(U t)[i + 1]'(by rw [U_len]; exact h1) = .int 16 (t[i + 1]:Int):=by simp [U]
          rw [g'] at ld'
          have hdi:=hc _ (List.getElem_mem h1)
          have hd':t.drop (i + 1) = t[i + 1] :: t.drop (i + 2):=List.drop_eq_getElem_cons h1
          generalize t[i + 1] = d at *
          have loB:=lo_i d hdi
          obtain ⟨x1,x2,x3⟩:=cW31 d hdi
          have u16:toU 16 (d:Int) = d:=by rw [toU16n]; omega
          by_cases hlo:56320≤d∧d < 57344
          · rw [decide_eq_true hlo] at loB
            have f1:wrapC 31 ((Nat.land c 1023:Nat):Int) = ((c % 1024:Nat):Int):=by rw [land_c]; exact w31n _ (by omega)
            have f2:wrapC 16 ((Nat.land d 1023:Nat):Int) = ((d % 1024:Nat):Int):=by rw [land_c]; exact w16_in _ (by omega) (by omega)
            have f3:wrapC 31 ((d % 1024:Nat):Int) = ((d % 1024:Nat):Int):=w31n _ (by omega)
            have g1:wrapC 31 (((c % 1024:Nat):Int) * 1024) = ((c % 1024 * 1024:Nat):Int):=by rw [w31_in _ (by omega) (by omega)]; omega
            have g2:wrapC 31 (65536 + ((c % 1024 * 1024:Nat):Int)) = ((65536 + c % 1024 * 1024:Nat):Int):=by rw [w31_in _ (by omega) (by omega)]; omega
            have g3:wrapC 31 (((65536 + c % 1024 * 1024:Nat):Int) + ((d % 1024:Nat):Int)) = ((65536 + (c - 55296) * 1024 + (d - 56320):Nat):Int):=by rw [w31_in _ (by omega) (by omega)]; omega
            obtain ⟨u',h',q1,q2,q3,q4,q5,q6⟩:=t288 hN hw hu (by omega) (65536 + (c - 55296) * 1024 + (d - 56320)) (by omega) (by omega)
            have e:L211n0 s288 [v,u,.int 63 (i:Int)] h = .norm [v,u',.int 63 ((i + 2:Nat):Int)] h':=by
              simp only [↓L211n0,↓len,U_len,e1,↓ix,↓ld,c31,u31,k31,w1,hiB,e6,e2,↓ix',↓ld',u16,x3,loB,f1,shl10,g1,g2,f2,f3,g3,↓q1,e7,↓SA,SD,↓u1,↓u2,↓u3,↓u4,↓u5,↓u6,↓u7,↓u8,↓U1,↓U2,rk,Int.ofNat_eq_natCast,Int.cast_ofNat_Int,Int.reduceBEq,Int.reduceAdd,Int.reduceNeg,Int.reduceLT,Int.reduceLE,Int.reduceMul,Int.reduceSub,Bool.not_true,Bool.not_false,decide_true,decide_false,ne_eq,not_false_eq_true,Int.reduceEq,reduceCtorEq,gj,I,J,K]
            rw [lpn m e,hd,hd',out_pair _ _ _ ⟨hhi,hlo⟩,← List.append_assoc]
            have ul:=utf_len (65536 + (c - 55296) * 1024 + (d - 56320))
            obtain ⟨u2,h2,z1,z2,z3,z4,z5⟩:=ih m (i + 2) h' u' _ (by omega) (by omega) (by omega) (by rw [List.length_append]; omega) q2 q5 q4 (ht.trans q3)
            exact ⟨u2,h2,z1,z2,z3,z4,by omega⟩
          · rw [decide_eq_false hlo] at loB
            refine quest hsu (fun u' h' q=>?_) ?_
            · simp only [↓L211n0,↓len,U_len,e1,↓ix,↓ld,c31,u31,k31,w1,w2,hiB,suB,e6,e2,↓ix',↓ld',u16,x3,loB,bldq,↓q,↓SA,SD,↓u1,↓u2,↓u3,↓u4,↓u5,↓u6,↓u7,↓u8,↓U1,↓U2,rk,Int.ofNat_eq_natCast,Int.cast_ofNat_Int,Int.reduceBEq,Int.reduceAdd,Int.reduceNeg,Int.reduceLT,Int.reduceLE,Int.reduceMul,Int.reduceSub,Bool.not_true,Bool.not_false,decide_true,decide_false,ne_eq,not_false_eq_true,Int.reduceEq,reduceCtorEq,gj,I,J,K]
            · rw [hd]
              exact out_lone _ _ (fun d' s' he hh=>by rw [hd'] at he; obtain ⟨rfl,-⟩:=List.cons.inj he; exact hlo hh.2)
        · have e2:¬ ((i + 1:Nat):Int) < (t.length:Int):=by omega
          refine quest hsu (fun u' h' q=>?_) ?_
          · simp only [↓L211n0,↓len,U_len,e1,↓ix,↓ld,c31,u31,k31,w1,w2,hiB,suB,e6,e2,bldq,↓q,↓SA,SD,↓u1,↓u2,↓u3,↓u4,↓u5,↓u6,↓u7,↓u8,↓U1,↓U2,rk,Int.ofNat_eq_natCast,Int.cast_ofNat_Int,Int.reduceBEq,Int.reduceAdd,Int.reduceNeg,Int.reduceLT,Int.reduceLE,Int.reduceMul,Int.reduceSub,Bool.not_true,Bool.not_false,decide_true,decide_false,ne_eq,not_false_eq_true,Int.reduceEq,reduceCtorEq,gj,I,J,K]
          · rw [hd]
            exact out_lone _ _ (fun d' s' he hh=>by rw [List.drop_eq_nil_of_le (by omega)] at he; cases he)
      · rw [decide_eq_false hhi] at hiB
        have ho:outC (t.drop i) = loneC c ++ outC (t.drop (i + 1)):=by
          rw [hd]; exact out_lone _ _ (fun d' s' he hh=>hhi hh.1)
        by_cases hsu:55296≤c∧c < 57344
        · rw [decide_eq_true hsu] at suB
          refine quest hsu (fun u' h' q=>?_) ho
          simp only [↓L211n0,↓len,U_len,e1,↓ix,↓ld,c31,u31,k31,w1,w2,hiB,suB,e6,bldq,↓q,↓SA,SD,↓u1,↓u2,↓u3,↓u4,↓u5,↓u6,↓u7,↓u8,↓U1,↓U2,rk,Int.ofNat_eq_natCast,Int.cast_ofNat_Int,Int.reduceBEq,Int.reduceAdd,Int.reduceNeg,Int.reduceLT,Int.reduceLE,Int.reduceMul,Int.reduceSub,Bool.not_true,Bool.not_false,decide_true,decide_false,ne_eq,not_false_eq_true,Int.reduceEq,reduceCtorEq,gj,I,J,K]
        · rw [decide_eq_false hsu] at suB
          have hlo:loneC c = utfC c:=by unfold loneC; rw [if_neg hsu]
          obtain ⟨u',h',q1,q2,q3,q4,q5,q6⟩:=t288 hN hw hu (by omega) c (by omega) (by omega)
          refine single u' h' ?_ (by rw [hlo]; exact q2) q3 q4 q5 q6 ho (by rw [hlo]; exact utf_len c)
          simp only [↓L211n0,↓len,U_len,e1,↓ix,↓ld,c31,u31,k31,w1,w2,hiB,suB,e6,↓q1,↓SA,SD,↓u1,↓u2,↓u3,↓u4,↓u5,↓u6,↓u7,↓u8,↓U1,↓U2,rk,Int.ofNat_eq_natCast,Int.cast_ofNat_Int,Int.reduceBEq,Int.reduceAdd,Int.reduceNeg,Int.reduceLT,Int.reduceLE,Int.reduceMul,Int.reduceSub,Bool.not_true,Bool.not_false,decide_true,decide_false,ne_eq,not_false_eq_true,Int.reduceEq,reduceCtorEq,gj,I,J,K]
    · exact stop (f + 1) m i h u acc hm hin hu hw ht
theorem cK_sm {x:AV} {k:AV→Res} {R:Res} (e:Sm (cK x k) R) (hR:Fine R):x ≠ .unk∧Sm (k x) R:=by
  cases x <;> first
    | exact ⟨by simp,e⟩
    | exact absurd rfl (e.nf hR)
theorem ifF_sm {b:Bool} {x r:Res} (e:Sm (ifB b x .fail) r) (hr:Fine r):b = true∧Sm x r:=by
  cases b with
  | true=>exact ⟨rfl,e⟩
  | false=>exact absurd rfl (e.nf hr)
theorem uc_sm {vs:List AV} {k:AV→List AV→Res} {r:Res} (e:Sm (uc vs k) r) (hr:Fine r):∃ v t,vs = v :: t∧Sm (k v t) r:=by
  cases vs with
  | nil=>exact absurd rfl (e.nf hr)
  | cons v t=>exact ⟨v,t,rfl,e⟩
theorem uz_sm {vs:List AV} {x r:Res} (e:Sm (uz vs x) r) (hr:Fine r):vs = []∧Sm x r:=by
  cases vs with
  | nil=>exact ⟨rfl,e⟩
  | cons v t=>exact absurd rfl (e.nf hr)
theorem cI_sm {x:AV} {k:Nat→Int→Res} {r:Res} (e:Sm (cI x k) r) (hr:Fine r):∃ c n,x = .int c n∧Sm (k c n) r:=by
  cases x <;> first | exact ⟨_,_,rfl,e⟩ | exact absurd rfl (e.nf hr)
theorem cS_sm {x:AV} {k:Nat→Nat→Res} {r:Res} (e:Sm (cS x k) r) (hr:Fine r):∃ c n,x = .str c n∧Sm (k c n) r:=by
  cases x <;> first | exact ⟨_,_,rfl,e⟩ | exact absurd rfl (e.nf hr)
theorem cL_sm {x:AV} {k:Nat→Nat→Nat→Nat→Option Nat→Res} {r:Res} (e:Sm (cL x k) r) (hr:Fine r):∃ b o n z c,x = .sl b o n z c∧Sm (k b o n z c) r:=by
  cases x <;> first | exact ⟨_,_,_,_,_,rfl,e⟩ | exact absurd rfl (e.nf hr)
theorem cC_sm {x:AV} {k:AV→AV→Res} {r:Res} (e:Sm (cC x k) r) (hr:Fine r):∃ a b,x = .cons a b∧Sm (k a b) r:=by
  cases x <;> first | exact ⟨_,_,rfl,e⟩ | exact absurd rfl (e.nf hr)
theorem gb_sm {h:Hp} {b:Nat} {k:Blk→Res} {R:Res} (e:Sm (gb h b k) R) (hR:Fine R):∃ B,h.bs.get b = some B∧readable h b B∧Sm (k B) R:=by
  obtain ⟨B,h1,h2,h3⟩:=gb_inv (Eq.refl (gb h b k)) (e.nf hR)
  exact ⟨B,h1,h2,.of h3 e⟩
theorem rds_sm {B:Blk} {R:Res} (hR:Fine R):∀ (n o:Nat) (k:AV→Res),Sm (rds B n o k) R→∃ l:List AV,l.length = n∧(∀ i (hi:i < l.length),B.at (o + i) = l[i])∧Sm (k (AM.avL l)) R:=by
  intro n
  induction n with
  | zero=>intro o k e; exact ⟨[],rfl,fun i hi=>by simp at hi,e⟩
  | succ n ih=>
    intro o k e
    have e:Sm (cK (B.at o) fun v=>rds B n (Nat.succ o) fun t=>k (.cons v t)) R:=e
    obtain ⟨h1,e⟩:=cK_sm e hR
    obtain ⟨l,h2,h3,h4⟩:=ih (o + 1) _ e
    refine ⟨B.at o :: l,by simp [h2],fun i hi=>?_,h4⟩
    cases i with
    | zero=>rfl
    | succ i=>
      have:=h3 i (by simpa using hi)
      rw [show o + (i + 1) = o + 1 + i from by omega,this]
      simp
theorem intsA_sm {R:Res} (hR:Fine R):∀ (l:List AV) (k:List Int→Res),Sm (intsA (AM.avL l) k) R→∃ xs:List Int,l = xs.map (fun x=>.int 16 x)∧Sm (k xs) R:=by
  intro l
  induction l with
  | nil=>intro k e; exact ⟨[],rfl,e⟩
  | cons v l ih=>
    intro k e
    have e:Sm (cI v fun c x=>ifB (Nat.beq c 16) (intsA (AM.avL l) fun l=>k (x :: l)) .fail) R:=e
    obtain ⟨c,x,rfl,e⟩:=cI_sm e hR
    obtain ⟨h1,e⟩:=ifF_sm e hR
    rw [beq_iff] at h1
    subst h1
    obtain ⟨xs,rfl,h2⟩:=ih _ e
    exact ⟨x :: xs,rfl,h2⟩
theorem rowQ_sm {h:Hp} {v:AV} {k:Nat→Nat→Res} {R:Res} (hR:Fine R) (e:Sm (rowQ h v k) R):∃ b c xs n X B,v = .sl b 0 xs.length 1 c∧xs ≠ []∧(∀ m,c = some m→xs.length≤m)∧xs.length≤40∧h.bs.get b = some B∧readable h b B∧(∀ i (hi:i < xs.length),B.at i = .int 16 xs[i])∧encQ xs n X = true∧Sm (k n X) R:=by
  obtain ⟨b,o,L,z,c,rfl,f0⟩:=cL_sm e hR
  obtain ⟨h0,f1⟩:=ifF_sm f0 hR
  obtain ⟨h1,f2⟩:=ifF_sm f1 hR
  obtain ⟨h2,f3⟩:=ifF_sm f2 hR
  clear e f0 f1 f2
  rw [beq_iff] at h1 h2
  subst h1 h2
  cases hL:Nat.beq L 0 with
  | true=>rw [hL] at f3; exact absurd rfl (f3.nf hR)
  | false=>
    rw [hL] at f3
    obtain ⟨h8,f4⟩:=ifF_sm f3 hR
    rw [ble_iff] at h8
    obtain ⟨B,h3,h4,f5⟩:=gb_sm f4 hR
    obtain ⟨l,h5,h6,f6⟩:=rds_sm hR _ _ _ f5
    obtain ⟨xs,hx,e3⟩:=intsA_sm hR _ _ f6
    obtain ⟨n,X,-,e4⟩:=cS_sm e3 hR
    obtain ⟨h7,e5⟩:=ask_inv e4 hR
    have h5:xs.length = L:=by rw [hx] at h5; simpa using h5
    subst h5
    refine ⟨b,c,xs,n,X,B,rfl,(fun h=>by rw [h] at hL; cases hL),fun m hm=>?_,h8,h3,h4,fun i hi=>?_,h7,e5⟩
    · rw [hm] at h0; exact (ble_iff _ _).1 h0
    · have:=h6 i (by rw [hx]; simpa using hi)
      rw [Nat.zero_add] at this
      rw [this]; simp [hx]
theorem encQ_inv {xs:List Int} {n X:Nat} (h:encQ xs n X = true):(∀ x∈xs,0≤x∧x < 65536)∧(outC (xs.map Int.toNat)).length = n∧pkN (outC (xs.map Int.toNat)) = X:=of_decide_eq_true h
theorem utf_byt (c:Nat) (hc:c < 1114112):∀ x∈utfC c,x < 256:=by
  intro x hx
  unfold utfC at hx
  split at hx
  · simp at hx; omega
  · split at hx
    · simp at hx; omega
    · split at hx
      · simp at hx; omega
      · simp at hx; omega
theorem utf_pos (c:Nat):0 < (utfC c).length:=by unfold utfC; split <;> (try split) <;> (try split) <;> simp
theorem lone_byt (c:Nat) (hc:c < 65536):∀ x∈loneC c,x < 256:=by
  intro x hx
  unfold loneC at hx
  split at hx
  · simp at hx; omega
  · exact utf_byt c (by omega) x hx
theorem lone_pos (c:Nat):0 < (loneC c).length:=by unfold loneC; split <;> first | exact utf_pos c | simp
theorem out_byt:∀ (l:List Nat),(∀ c∈l,c < 65536)→∀ x∈outC l,x < 256
  | [],_=>by intro x hx; simp [outC] at hx
  | [c],h=>fun x hx=>by simp only [outC] at hx; exact lone_byt c (h c (by simp)) x hx
  | c :: d :: r,h=>fun x hx=>by
    by_cases hp:(55296≤c∧c < 56320)∧(56320≤d∧d < 57344)
    · rw [out_pair c d r hp] at hx
      rcases List.mem_append.1 hx with hx | hx
      · exact utf_byt _ (by omega) x hx
      · exact out_byt r (fun c hc=>h c (by simp [hc])) x hx
    · simp only [outC,if_neg hp] at hx
      rcases List.mem_append.1 hx with hx | hx
      · exact lone_byt c (h c (by simp)) x hx
      · exact out_byt (d :: r) (fun c hc=>h c (by simp at hc ⊢; rcases hc with rfl | hc <;> simp [*])) x hx
theorem out_len:∀ (l:List Nat),(outC l).length≤4 * l.length
  | []=>by simp [outC]
  | [c]=>by
    have:=utf_len c
    simp only [outC]; unfold loneC; split <;> simp <;> omega
  | c :: d :: r=>by
    by_cases hp:(55296≤c∧c < 56320)∧(56320≤d∧d < 57344)
    · rw [out_pair c d r hp,List.length_append]
      have:=utf_len (65536 + (c - 55296) * 1024 + (d - 56320))
      have:=out_len r
      simp only [List.length_cons]; omega
    · simp only [outC,if_neg hp,List.length_append]
      have h1:=out_len (d :: r)
      have h2:(loneC c).length≤4:=by
        have:=utf_len c
        unfold loneC; split
        · simp
        · exact this
      simp only [List.length_cons] at h1 ⊢; omega
theorem out_pos (l:List Nat) (h:l ≠ []):0 < (outC l).length:=by
  cases l with
  | nil=>exact absurd rfl h
  | cons c r=>
    cases r with
    | nil=>simp only [outC]; exact lone_pos c
    | cons d r=>
      by_cases hp:(55296≤c∧c < 56320)∧(56320≤d∧d < 57344)
      · rw [out_pair c d r hp,List.length_append]; have:=utf_pos (65536 + (c - 55296) * 1024 + (d - 56320)); omega
      · simp only [outC,if_neg hp,List.length_append]; have:=lone_pos c; omega
theorem pk_lt:∀ (l:List Nat),(∀ x∈l,x < 256)→pkN l < 256 ^ l.length
  | [],_=>by simp [pkN]
  | b :: l,h=>by
    have h1:=pk_lt l (fun x hx=>h x (by simp [hx]))
    have h2:=h b (by simp)
    simp only [pkN,List.length_cons,Nat.pow_succ]; omega
theorem pk_at:∀ (l:List Nat),(∀ x∈l,x < 256)→∀ i (hi:i < l.length),byteAt (pkN l) i = l[i]
  | [],_=>by intro i hi; simp at hi
  | b :: l,h=>fun i hi=>by
    have h2:=h b (by simp)
    have e0:∀ x j,byteAt x j = x / 256 ^ j % 256:=fun x j=>by
      show Nat.mod (Nat.shiftRight x (Nat.mul 8 j)) 256 = _
      have e1:Nat.shiftRight x (Nat.mul 8 j) = x / 2 ^ (8 * j):=Nat.shiftRight_eq_div_pow x (8 * j)
      rw [e1,Nat.pow_mul]; rfl
    cases i with
    | zero=>rw [e0]; simp only [pkN,Nat.pow_zero,Nat.div_one,List.getElem_cons_zero]; omega
    | succ i=>
      have:=pk_at l (fun x hx=>h x (by simp [hx])) i (by simpa using hi)
      rw [e0] at this ⊢
      rw [Nat.pow_succ,Nat.mul_comm,← Nat.div_div_eq_div_mul]
      simp only [pkN,List.getElem_cons_succ]
      rw [show (b + 256 * pkN l) / 256 = pkN l from by omega]
      exact this
theorem rowB_at (n X i:Nat) (hi:i < n):(rowB n X).at i = .int 8 (Int.ofNat (byteAt X i)):=by
  rw [at_in _ (show i < (rowB n X).lim from hi)]
  show nth (.str 0 X) (i % 0) = _
  rw [Nat.mod_zero]
  rfl
theorem row_sl {h:Hp} {b:Nat} {c:Option Nat} {xs:List Int} {B:Blk} {N0:Base} {ρ:Rho} {w:World} (hi:Inv N0 ρ h w) (h1:∀ m,c = some m→xs.length≤m) (h2:h.bs.get b = some B) (h3:readable h b B) (h4:∀ i (hi:i < xs.length),B.at i = .int 16 xs[i]) (h5:∀ x∈xs,0≤x∧x < 65536):
    Sl h (fun x=>x < h.nb) (.sl b 0 xs.length 1 c) (U (xs.map Int.toNat)):=by
  refine ⟨fun x hx=>?_,.inr (.inr ⟨b,0,c,B,by simp [U],hi.nb b B h2,⟨h2,hi.nb b B h2,fun hf=>⟨(hi.gnb b B h2 hf).1,h3 hf⟩⟩,fun hf=>(hi.gnb b B h2 hf).1,by simpa [U] using h1,fun i hi'=>?_⟩)⟩
  · obtain ⟨y,-,rfl⟩:=List.mem_map.1 hx; rfl
  · have hi':i < xs.length:=by simpa [U] using hi'
    rw [Nat.zero_add,h4 i hi']
    have:=(h5 _ (List.getElem_mem hi')).1
    simp only [U,List.getElem_map]
    rw [Int.toNat_of_nonneg this]
theorem wf_inv {h:Hp} {N0:Base} {ρ:Rho} {w:World} (hi:Inv N0 ρ h w) (hlo:h.lo = 0):Wf h:=⟨fun g hg=>by
  cases hq:h.gs.get g with
  | none=>rfl
  | some q=>have:=(hi.gs g q hq).1; omega,by omega⟩
theorem gr_row {h h1:Hp} {v:AV} {l:List Nat} (hl:0 < l.length) (hb:∀ x∈l,x < 256) (hg:Gr h1 h.nb v (Bs l)):
    ∃ b1 B1,v = .sl b1 0 l.length 1 none∧h.nb≤b1∧h1.bs.get b1 = some B1∧B1.fr = true∧h.nb≤B1.g∧(h1.grp B1.g).2≤b1∧(rowB l.length (pkN l)).lim≤B1.lim∧∀ i,i < (rowB l.length (pkN l)).lim→(rowB l.length (pkN l)).at i = B1.at i:=by
  obtain ⟨⟨-,hs⟩,hf⟩:=hg
  have hne:Bs l ≠ []:=fun h=>by have:=Bs_len l; rw [h] at this; simp at this; omega
  rcases hs with ⟨-,h2⟩ | ⟨-,h2⟩ | ⟨b,o,c,B,h2,h3,h4,h5,-,h6⟩
  · exact absurd h2 hne
  · exact absurd h2 hne
  · rw [Bs_len] at h2
    rcases hf with rfl | ⟨b',rfl,h7⟩ | ⟨b',B',h7,h8,h9,h10,-⟩
    · cases h2
    · exact absurd h7 hne
    · rw [h7,Bs_len] at h2
      cases h2
      rw [h4.get] at h8
      obtain rfl:=Option.some.inj h8
      refine ⟨b,B,by rw [h7,Bs_len],h3,h4.get,h9,h5 h9,(h4.grp h9).2,by rw [Bs_len] at h10; exact h10,fun i hi=>?_⟩
      have hi:i < l.length:=hi
      rw [rowB_at _ _ _ hi,pk_at l hb i hi]
      have:=h6 i (by rw [Bs_len]; exact hi)
      rw [Nat.zero_add] at this
      rw [this]
      simp [Bs]
theorem outF_raw {args:List AV} {h:Hp} {v:AV} {h':Hp} {N0:Base} {ρ:Rho} {w:World} (hi:Inv N0 ρ h w) (e:now (outF args h) = .ret v h'):h.lo = 0∧∃ b1 B1 B2 n z c h1,now (b211 s288 args h) = .ret (.sl b1 0 n z none) h1∧v = .sl c 0 n z none∧h' = alH h c B2 h.oc ∧
      h1.bs.get b1 = some B1∧B1.fr = true∧h.nb≤B1.g∧(h1.grp B1.g).2≤b1∧h1.nb≤c∧(∀ b,b < h.nb→h1.bs.get b = h.bs.get b)∧(∀ i,i < h.nb→h1.gs.get i = h.gs.get i)∧h1.ms = h.ms∧h1.lo = h.lo∧B2.lim≤B1.lim∧∀ i,i < B2.lim→B2.at i = B1.at i:=by
  have hR:Fine (.ret v h'):=by simp
  have e:Sm (outF args h) (.ret v h'):=e
  obtain ⟨v0,t,rfl,e⟩:=uc_sm e hR
  obtain ⟨rfl,e⟩:=uz_sm e hR
  obtain ⟨hlo,e⟩:=ifF_sm e hR
  rw [beq_iff] at hlo
  obtain ⟨b,c,xs,n,X,B,rfl,h1,h2,h40,h3,h4,h5,h6,e⟩:=rowQ_sm hR e
  obtain ⟨h7,rfl,rfl⟩:=encQ_inv h6
  have e:Res.ret _ _ = Res.ret v h':=e
  injection e with e1 e2
  have hs:=row_sl hi h2 h3 h4 h5 h7
  have hw:=wf_inv hi hlo
  generalize ht:xs.map Int.toNat = t at *
  have htl:t.length = xs.length:=by rw [← ht]; simp
  have htc:∀ x∈t,x < 65536:=by
    intro x hx
    rw [← ht] at hx
    obtain ⟨y,hy,rfl⟩:=List.mem_map.1 hx
    have:=h7 y hy; omega
  have ht0:t ≠ []:=fun h=>by rw [h] at htl; exact h1 (List.eq_nil_of_length_eq_zero htl.symm)
  refine ⟨hlo,?_⟩
  · obtain ⟨u',h2',q1,q2,q3,q4,q5⟩:=loop211 hs (fun b hb hn=>by omega) htc (by omega) t.length most 0 h .nils [] (by omega) (by show t.length < 1000000; omega) (Nat.zero_le _) (Nat.zero_le _) ⟨⟨by simp [Bs],.inl ⟨rfl,rfl⟩⟩,.inl rfl⟩ (Nat.le_refl _) hw (To.refl _ _)
    rw [List.drop_zero,List.nil_append] at q2
    obtain ⟨b1,B1,rfl,-,r1,r2,r3,r4,r5,r6⟩:=gr_row (out_pos t ht0) (out_byt t htc) q2
    refine ⟨b1,B1,rowB (outC t).length (pkN (outC t)),(outC t).length,1,Nat.add h.nb 100,h2',?_,e1.symm,e2.symm,r1,r2,r3,r4,?_,fun b hb=>q3.get b hb (by omega),fun i hi=>q3.gs i hi (by omega),q3.ms,q3.lo,r5,r6⟩
    · have e0:b211 s288 [.sl b 0 xs.length 1 c] h = blk 0 (lp (L211n0 s288) most [.sl b 0 xs.length 1 c,.nils,.int 63 ((0:Nat):Int)] h) fun a b=>uc a fun a _=>cK a fun a=>.ret a b:=rfl
      rw [e0,q1]
      rfl
    · show h2'.nb≤h.nb + 100
      omega
theorem F211:Sd 211 s211:=⟨orF_sound (pure_sound R211.1 fun args h v h' N0 ρ w hi e=>outF_raw hi e) R211.1,R211.2⟩
def b132 (s211:Fun):Fun:=fun a b=>U3 a fun a c d=>(cl (s211 [c] b) fun b c=>jn (cB d fun d=>ifB d (bld [(false,1,(J 10))] fun d=>mkS c 1 1 d fun c d=>apdM d 1 1 b c fun b c=>.norm [a,b] c) (.norm [a,b] c)) fun a b=>u2 a fun a c=>nl 4 b a fun d=>lenL d fun d=>lenL c fun f=>iAdd d f fun d=>ltN (I 4096) d fun d=>tw b 23 (.bool d) fun d=>cB d fun d=>ifB d (.fail) (nl 4 b a fun d=>apdM b 1 1 d c fun b c=>na 4 a fun a=>st1 c a b fun a=>cK (I 0) fun b=>cK (.bool false) fun c=>cK (I 0) fun d=>.ret (.tup (.cons b (.cons c (.cons d .nil)))) a))
def s132:Fun:=b132 s211
theorem F132:Sd 132 s132:=so (F211.c (ge (ge gn))) Tryz.func132 ((fun a=>by kernel_rfl:∀ a,b132 a = D [(211,a),(1000000000,ff),(6000000000,ff)] Tryz.f132 (Gs (Gs (.j [0,9] G3 (.s G3 G3))))) s211)
def b131 (s121 s132:Fun):Fun:=fun a b=>U4 a fun a c d f=>(ld1 b d fun d=>sIdx d (I 0) fun d=>ixA 1 c (I 1) fun c=>ld1 b c fun c=>cl (s121 [a,d,c] b) fun b c=>cT b fun d=>cK (nth d 0) fun d=>cT b fun b=>cK (nth b 1) fun b=>bNot b fun b=>cB b fun b=>ifB b (.fail) (ld1 c f fun b=>cl (s132 [a,d,b] c) fun a b=>cT a fun c=>cK (nth c 0) fun c=>cT a fun d=>cK (nth d 1) fun d=>cT a fun a=>cK (nth a 2) fun a=>cK c fun c=>cK d fun d=>cK a fun a=>.ret (.tup (.cons c (.cons d (.cons a .nil)))) b))
def s131:Fun:=b131 s121 s132
theorem F131:Sd 131 s131:=so (F121.c (F132.c gn)) Tryz.func131 ((fun a b=>by kernel_rfl:∀ a b,b131 a b = D [(121,a),(132,b)] Tryz.f131 (Gs (.s (.r [0,1,2,3,4,5,6,7,8,9,10,11]) (.s G3 G2)))) s121 s132)
def b446 (s123 s124 s130 s131 s196:Fun):Fun:=fun a b=>U3 a fun a c d=>(eqP a .nilp fun f=>ifB f (.fail) (na 6 a fun f=>st1 b f (.bool false) fun b=>ltN (I 0) c fun f=>ap (gsel (.bool (bnot f)) false c) fun g=>ap (gsel (.bool (bnot f)) false a) fun h=>gj (.bool (bnot f)) false (nck h fun a=>.norm [a] b) b fun b h=>gj (.bool (bnot f)) false (fa 3 b fun a=>.norm [a] h) h fun b h=>gj (.bool (bnot f)) false (ld1 h b fun a=>.norm [a] h) h fun b h=>gj (.bool (bnot f)) false (lenL b fun a=>.norm [a] h) h fun b h=>gj (.bool (bnot f)) false (ltN g b fun a=>.norm [(.bool (bnot a))] h) h fun b g=>cB (.bool (bnot f)) fun f=>ap (sel f (.bool true) b) fun b=>ap (gsel b false a) fun f=>gj b false (nck f fun a=>.norm [a] g) g fun f g=>gj b false (fa 3 f fun a=>.norm [a] g) g fun f g=>gj b false (ld1 g f fun a=>.norm [a] g) g fun f g=>ap (gsel b false c) fun h=>gj b false (ixA 3 f h fun a=>.norm [a] g) g fun f g=>gj b false (fa 2 f fun a=>.norm [a] g) g fun f g=>gj b false (ld1 g f fun a=>.norm [a] g) g fun f g=>gj b false (eqF f .nilf fun a=>.norm [(.bool a)] g) g fun f g=>cB b fun b=>ap (sel b (.bool true) f) fun b=>ap (gsel b false d) fun f=>gj b false (lenL f fun a=>.norm [a] g) g fun f g=>ap (gsel b false a) fun h=>gj b false (nck h fun a=>.norm [a] g) g fun g h=>gj b false (fa 3 g fun a=>.norm [a] h) h fun g h=>gj b false (ld1 h g fun a=>.norm [a] h) h fun g h=>ap (gsel b false c) fun i=>gj b false (ixA 3 g i fun a=>.norm [a] h) h fun g h=>gj b false (fa 1 g fun a=>.norm [a] h) h fun g h=>gj b false (ld1 h g fun a=>.norm [a] h) h fun g h=>gj b false (ltN f g fun a=>.norm [(.bool a)] h) h fun f g=>cB b fun b=>ap (sel b (.bool true) f) fun b=>cB b fun b=>ifB b (.fail) (nl 3 g a fun b=>ixA 3 b c fun b=>ldN g 3 b fun b=>mk g (.cons (.str 0 0) (.cons (I 0) (.cons .nilf .nil))) fun c f=>stN f 3 c b fun b=>fl 0 b c fun f=>eqS f (.str 0 0) fun f=>ap (gsel (.bool (bnot f)) true d) fun g=>gj (.bool (bnot f)) true (ixA 1 g (I 0) fun a=>.norm [a] b) b fun b g=>gj (.bool (bnot f)) true (ld1 g b fun a=>.norm [a] g) g fun b g=>gj (.bool (bnot f)) true (eqN b (I 0) fun a=>.norm [(.bool a)] g) g fun b g=>cB (.bool (bnot f)) fun f=>ap (sel f b (.bool false)) fun b=>cB b fun b=>ifB b (.fail) (fl 0 g c fun b=>eqS b (.str 0 0) fun b=>ap (gsel (.bool (bnot b)) true a) fun f=>ap (gsel (.bool (bnot b)) true d) fun h=>gj (.bool (bnot b)) true (ixA 1 h (I 0) fun a=>.norm [a] g) g fun g h=>gj (.bool (bnot b)) true (ld1 h g fun a=>.norm [a] h) h fun g h=>gj (.bool (bnot b)) true (fa 0 c fun a=>.norm [a] h) h fun h i=>gj (.bool (bnot b)) true (ld1 i h fun a=>.norm [a] i) i fun h i=>gj (.bool (bnot b)) true (cl (s196 [f,g,h] i) fun a b=>.norm [a] b) i fun f g=>gj (.bool (bnot b)) true (bNot f fun a=>.norm [a] g) g fun f g=>cB (.bool (bnot b)) fun b=>ap (sel b f (.bool false)) fun b=>cB b fun b=>ifB b (.fail) (fl 2 g c fun b=>fl 1 g c fun c=>cutS 1 d none (some c) none fun c=>cl (dyn (gam [(123,s123),(124,s124),(130,s130),(131,s131),(196,s196)]) b [a,c] g) fun a b=>cT a fun c=>cK (nth c 0) fun c=>cT a fun d=>cK (nth d 1) fun d=>cT a fun a=>cK (nth a 2) fun a=>cK c fun c=>cK d fun d=>cK a fun a=>.ret (.tup (.cons c (.cons d (.cons a .nil)))) b)))))
def s446:Fun:=b446 s123 s124 s130 s131 s196
theorem F446:Sd 446 s446:=so (F123.c (F124.c (F130.c (F131.c (F196.c gn))))) Tryz.func446 ((fun a b c d e=>by kernel_rfl:∀ a b c d e,b446 a b c d e = D [(123,a),(124,b),(130,c),(131,d),(196,e)] Tryz.f446 (Gs (.s G3 (Gs (.s G3 (Gs (.s G3 (.s (.s (.r [0,1,2,3,4,5,6,7,8,9,10,11,12]) G2) (.s (.r [0,1,2,3,4,5,6,7,8,9,10,11,12,13]) .z))))))))) s123 s124 s130 s131 s196)
def b447:Fun:=fun a b=>U1 a fun a=>(eqP a .nilp fun c=>ap (gsel (.bool (bnot c)) true a) fun a=>gj (.bool (bnot c)) true (nck a fun a=>.norm [a] b) b fun a b=>gj (.bool (bnot c)) true (fa 5 a fun a=>.norm [a] b) b fun a b=>gj (.bool (bnot c)) true (ld1 b a fun a=>.norm [a] b) b fun a b=>cB (.bool (bnot c)) fun c=>ap (sel c a (.bool false)) fun a=>rk a b)
def s447:Fun:=b447
theorem F447:Sd 447 s447:=so gn Tryz.func447 (by kernel_rfl:b447 = D [] Tryz.f447 G3)
def L455n0 (s154 s302 s325:Fun):List AV→Hp→Res:=fun a b=>u6 a fun a c d f g h=>ltN h g fun i=>ifB i (blk 1 (ixA 4 f h fun i=>ldN b 4 i fun i=>mk b (.cons (J 0) (.cons (.str 0 0) (.cons (I 0) (.cons (J 0) .nil)))) fun b j=>stN j 4 b i fun i=>cl (s325 [a,d] i) fun i j=>bld [(false,1,i)] fun i=>mkS j 1 1 i fun i j=>apd j 1 8 c i fun c i=>ldN i 4 b fun b=>cl (s302 [b] i) fun b i=>iSub d b fun b=>.norm [a,c,b,f,g,h] i) fun a b=>u6 a fun a c d f g h=>iAdd h (I 1) fun h=>.norm [a,c,d,f,g,h] b) (.exit 0 [c] b)
def b455 (s154 s302 s325:Fun):Fun:=fun a b=>U4 a fun a c d f=>(iSub d (I 1) fun d=>jn (bNot f fun f=>cB f fun f=>ifB f (cl (s325 [a,d] b) fun b f=>bld [(false,1,b)] fun b=>mkS f 1 1 b fun b f=>apd f 1 8 .nils b fun b f=>iSub d (I 1) fun d=>.norm [a,c,b,d] f) (.norm [a,c,.nils,d] b)) fun a b=>u4 a fun a c d f=>cl (s154 [c] b) fun b c=>cT b fun g=>cK (nth g 0) fun g=>cT b fun h=>cK (nth h 1) fun h=>cT b fun b=>cK (nth b 2) fun _=>mk c (.cons (J 0) (.cons (.str 0 0) (.cons (I 0) (.cons (J 0) .nil)))) fun b c=>stN c 4 b h fun b=>lenL g fun c=>blk 0 (lp (L455n0 s154 s302 s325) most [a,d,f,g,c,(I 0)] b) fun a b=>u1 a fun a=>rk a b)
def s455:Fun:=b455 s154 s302 s325
theorem F455:Sd 455 s455:=so (F154.c (F302.c (F325.c gn))) Tryz.func455 ((fun a b c=>by kernel_rfl:∀ a b c,b455 a b c = D [(154,a),(302,b),(325,c)] Tryz.f455 (Gs (Gs (Gs (.j [0,1,9,10] (Gs (.s G2 .z)) (Gs (.s (Gs (.b [9] (.l [0,9,10,34,35,36] (Gs (.s G2 (.s (.b [0,9,10,34,35,36] G3) .z)))))) G2))))))) s154 s302 s325)
def b396 (s63 s82 s154 s164 s165 s192 s259 s302 s384 s446 s447 s455:Fun):Fun:=fun a b=>U5 a fun a c d f g=>(mk b (cells d) fun b d=>fl 3 d b fun h=>fl 1 d b fun i=>fl 2 d b fun j=>cl (s192 [h,i,j] d) fun d h=>fl 2 h b fun i=>cl (s455 [a,i,f,g] h) fun g h=>fa 3 b fun i=>ld1 h i fun j=>eqS j (.str 19 2439265639030268300842157990401791553877467498) fun k=>gj (.bool k) true (fa 2 b fun a=>.norm [a] h) h fun h l=>gj (.bool k) true (ld1 l h fun a=>.norm [a] l) l fun l m=>gj (.bool k) true (eqS l (.str 21 125924535314876068507128442038675530910546422025256) fun a=>.norm [(.bool a)] m) m fun m n=>cB (.bool k) fun o=>ap (sel o m (.bool false)) fun m=>ap (gsel m true g) fun o=>gj m true (ixA 1 o (I 1) fun a=>.norm [a] n) n fun n o=>gj m true (ld1 o n fun a=>.norm [a] o) o fun n o=>gj m true (eqN n (I 0) fun a=>.norm [(.bool (bnot a))] o) o fun n o=>cB m fun m=>ap (sel m n (.bool false)) fun m=>ap (gsel m true a) fun n=>gj m true (nck n fun a=>.norm [a] o) o fun n o=>gj m true (fa 2 n fun a=>.norm [a] o) o fun n o=>gj m true (ld1 o n fun a=>.norm [a] o) o fun n o=>ap (gsel m true g) fun p=>gj m true (ixA 1 p (I 1) fun a=>.norm [a] o) o fun o p=>gj m true (ld1 p o fun a=>.norm [a] p) p fun o p=>gj m true (cl (s164 [n,o] p) fun a b=>.norm [a] b) p fun n o=>jn (gd (.bool k) true (ld1 o h fun a=>same l a (.norm [] o)) (.norm [] o)) fun _ _=>ld1 o i fun h=>same j h (gj m true (eqS n (.str 16 137483774941304901841256615957136564586) fun a=>.norm [(.bool (bnot a))] o) o fun h i=>cB m fun j=>ap (sel j h (.bool false)) fun h=>cB h fun h=>ifB h (.fail) (nl 4 i a fun h=>cl (s446 [h,d,g] i) fun d g=>cT d fun h=>cK (nth h 0) fun h=>cT d fun i=>cK (nth i 1) fun _=>cT d fun d=>cK (nth d 2) fun d=>jn (eqN d (I 15) fun i=>ap (gsel (.bool i) true a) fun j=>gj (.bool i) true (nck j fun a=>.norm [a] g) g fun g j=>gj (.bool i) true (fa 4 g fun a=>.norm [a] j) j fun g j=>gj (.bool i) true (ld1 j g fun a=>.norm [a] j) j fun _ g=>gj (.bool i) true (.fail) g fun g j=>cB (.bool i) fun i=>ap (sel i g (.bool false)) fun g=>cB g fun g=>ifB g (.fail) (.norm [a,c,f,b,h,d] j)) fun a b=>u6 a fun a c d f g h=>blk 0 (nl 4 b a fun i=>cl (s447 [i] b) fun b i=>cB b fun b=>ifB b (.fail) (eqN h (I 0) fun b=>ifB (bnot b) (.fail) (.norm [a,c,d,f,g] i))) fun a b=>u5 a fun a c d f g=>nl 5 b a fun h=>cl (s165 [h,d] b) fun _ b=>fl 2 b f fun d=>cl (s154 [d] b) fun b d=>cT b fun f=>cK (nth f 0) fun _=>cT b fun f=>cK (nth f 1) fun f=>cT b fun b=>cK (nth b 2) fun _=>mk d (.cons (J 0) (.cons (.str 0 0) (.cons (I 0) (.cons (J 0) .nil)))) fun b d=>stN d 4 b f fun d=>fl 0 d b fun f=>eqN f (J 76) fun f=>gj (.bool f) false (fa 0 b fun a=>.norm [a] d) d fun d h=>gj (.bool f) false (ld1 h d fun a=>.norm [a] h) h fun h i=>gj (.bool f) false (eqN h (J 91) fun a=>.norm [(.bool a)] i) i fun i j=>cB (.bool f) fun k=>ap (sel k (.bool true) i) fun i=>ldN j 4 b fun b=>cl (s302 [b] j) fun b j=>jn (gd (.bool f) false (ld1 j d fun a=>same h a (.norm [] j)) (.norm [] j)) fun _ _=>cl (s384 [a,g,i,b] j) fun _ b=>cl (s259 [a,c] b) fun _ a=>.ret (.tup .nil) a)))
def s396:Fun:=b396 s63 s82 s154 s164 s165 s192 s259 s302 s384 s446 s447 s455
theorem F396:Sd 396 s396:=so (F63.c (F82.c (F154.c (F164.c (F165.c (F192.c (F259.c (F302.c (F384.c (F446.c (F447.c (F455.c gn)))))))))))) Tryz.func396 ((fun a b c d e f h i j k l m=>by kernel_rfl:∀ a b c d e f h i j k l m,b396 a b c d e f h i j k l m = D [(63,a),(82,b),(154,c),(164,d),(165,e),(192,f),(259,h),(302,i),(384,j),(446,k),(447,l),(455,m)] Tryz.f396 (Gs (Gs (Gs (.s (.s (.r [0,1,2,3,4,5,6,7,8,9,10,11,12,13,14,15,16,17,18,19,20,21,22,23,24]) G2) (Gs (.j [0,1,3,7,12,14] G3 (.s (.b [0,1,3,7,12] G5) (Gs (Gs (.s (.r [0,1,2,3,4,5,6,7,8,9,10,11,12]) .z))))))))))) s63 s82 s154 s164 s165 s192 s259 s302 s384 s446 s447 s455)
def L341n0 (s160 s161 s165 s228 s329 s339 s396:Fun):List AV→Hp→Res:=fun a b=>u7 a fun a c d f g h i=>ltN i h fun j=>ifB j (blk 1 (nl 5 b a fun j=>iSub f (I 1) fun k=>iSub k i fun k=>cl (s329 [j,k] b) fun b j=>cT b fun k=>cK (nth k 0) fun k=>cT b fun b=>cK (nth b 1) fun b=>ixA 2 g i fun l=>fa 0 l fun l=>st1 j l k fun j=>ixA 2 g i fun k=>fa 1 k fun k=>st1 j k b fun b=>.norm [a,c,d,f,g,h,i] b) fun a b=>u7 a fun a c d f g h i=>iAdd i (I 1) fun i=>.norm [a,c,d,f,g,h,i] b) (.exit 0 [a,c,d,f,g] b)
def L341n1 (s160 s161 s165 s228 s329 s339 s396:Fun):List AV→Hp→Res:=fun a b=>u5 a fun a c d f g=>ltN g f fun h=>ifB h (blk 3 (ixA 2 d g fun h=>ldN b 2 h fun h=>mk b (.cons (I 0) (.cons (.bool false) .nil)) fun b i=>stN i 2 b h fun h=>nl 5 h a fun i=>fl 0 h b fun j=>fl 1 h b fun b=>cl (s161 [i,g,j,b] h) fun _ b=>.norm [a,c,d,f,g] b) fun a b=>u5 a fun a c d f g=>iAdd g (I 1) fun g=>.norm [a,c,d,f,g] b) (.exit 2 [c] b)
def b341 (s160 s161 s165 s228 s329 s339 s396:Fun):Fun:=fun a b=>U4 a fun a c d f=>(mk b (cells d) fun b d=>fl 2 d b fun g=>cl (s228 [g] d) fun d g=>jn (bNot f fun h=>cB h fun h=>ifB h (iAdd d (I 1) fun d=>.norm [a,c,f,b,d] g) (.norm [a,c,f,b,d] g)) fun a b=>u5 a fun a c d f g=>ldN b 6 f fun h=>cl (s339 [a,h] b) fun b h=>AM.part false 3 1 b fun b=>bNot b fun b=>cB b fun b=>ifB b (ldN h 6 f fun b=>cl (s396 [a,c,b,g,d] h) fun _ a=>.ret (.tup .nil) a) (mkM h (.cons (I 0) (.cons (.bool false) .nil)) 16 g g fun b d=>lenL b fun h=>blk 0 (lp (L341n0 s160 s161 s165 s228 s329 s339 s396) most [a,c,f,g,b,h,(I 0)] d) fun a b=>u5 a fun a c d f g=>nl 5 b a fun h=>cl (s165 [h,f] b) fun _ b=>fl 3 b d fun f=>fl 4 b d fun d=>cl (s160 [a,(I 0),f,d,.nilp] b) fun b d=>bNot b fun b=>cB b fun b=>ifB b (.fail) (lenL g fun b=>blk 2 (lp (L341n1 s160 s161 s165 s228 s329 s339 s396) most [a,c,g,b,(I 0)] d) fun a b=>u1 a fun a=>na 1 a fun a=>st1 b a (I 2) fun a=>.ret (.tup .nil) a)))
def s341:Fun:=b341 s160 s161 s165 s228 s329 s339 s396
theorem F341:Sd 341 s341:=so (F160.c (F161.c (F165.c (F228.c (F329.c (F339.c (F396.c gn))))))) Tryz.func341 ((fun a b c d e f h=>by kernel_rfl:∀ a b c d e f h,b341 a b c d e f h = D [(160,a),(161,b),(165,c),(228,d),(329,e),(339,f),(396,h)] Tryz.f341 (Gs (Gs (.j [0,1,3,6,8] G3 (.s (Gs (.s G2 .z)) (Gs (.s (Gs (.b [0,1,6,8,9] (.l [0,1,6,8,9,34,35] (Gs (.s G2 (.s (.b [0,1,6,8,9,34,35] G2) .z)))))) (Gs (.s G3 (.s (Gs (.b [1] (.l [0,1,74,75,76] (Gs (.s G2 (.s (.b [0,1,74,75,76] (Gs (.r [0,1,2,3,4,5,6,7,8,9]))) .z)))))) .z)))))))))) s160 s161 s165 s228 s329 s339 s396)
def b267 (s86 s297 s338 s339 s340 s341:Fun):Fun:=fun a b=>U3 a fun a c d=>(mk b (cells d) fun b d=>na 2 c fun f=>ld1 d f fun g=>na 1 g fun h=>ld1 d h fun i=>fa 4 b fun j=>ld1 d j fun k=>ixA 5 i k fun l=>fa 0 l fun l=>ld1 d l fun m=>eqN m (I 11) fun n=>bld [(false,1,(.str 0 0)),(false,1,(.str 0 0)),(false,1,(.str 0 0)),(false,1,(.str 0 0)),(false,1,(I 0)),(false,1,(.bool n))] fun n=>mk d (.cons (.str 0 0) (.cons (.str 0 0) (.cons (.str 0 0) (.cons (.str 0 0) (.cons (I 0) (.cons (.bool false) .nil)))))) fun d o=>ld1 o l fun l=>same m l (ld1 o j fun j=>same k j (ld1 o h fun h=>same i h (ld1 o f fun f=>same g f (stN o 6 d (.agg n) fun f=>nl 2 f c fun g=>nl 1 f g fun g=>fl 4 f b fun h=>cl (s297 [g,h] f) fun f g=>cT f fun h=>cK (nth h 0) fun h=>cT f fun i=>cK (nth i 1) fun i=>cT f fun j=>cK (nth j 2) fun j=>cT f fun f=>cK (nth f 3) fun _=>fa 0 d fun f=>st1 g f h fun f=>fa 1 d fun g=>st1 f g i fun f=>fa 2 d fun g=>st1 f g j fun f=>nl 0 f a fun g=>nl 2 f c fun h=>nl 3 f h fun h=>fl 0 f d fun i=>fl 1 f d fun j=>fl 2 f d fun k=>fl 5 f d fun l=>cl (s338 [g,h,i,j,k,l] f) fun f g=>cT f fun h=>cK (nth h 0) fun h=>cT f fun i=>cK (nth i 1) fun i=>cT f fun f=>cK (nth f 2) fun f=>eqN f (I 0) fun f=>ifB (bnot f) (.fail) (fa 3 d fun f=>st1 g f h fun f=>fa 4 d fun g=>st1 f g i fun f=>ldN f 6 d fun g=>cl (s339 [a,g] f) fun f g=>AM.part false 0 1 f fun f=>fl 2 g b fun i=>eqN i (I 184) fun i=>blk 0 (fl 1 g d fun j=>eqS j (.str 6 68669705972028) fun j=>ap (gsel (.bool j) true h) fun k=>gj (.bool j) true (fa 0 d fun a=>.norm [a] g) g fun g l=>gj (.bool j) true (ld1 l g fun a=>.norm [a] l) l fun g l=>gj (.bool j) true (eqS k g fun a=>.norm [(.bool (bnot a))] l) l fun g k=>cB (.bool j) fun j=>ap (sel j g (.bool false)) fun g=>cB g fun g=>ifB g (.fail) (jn (iAnd f (I 8) fun g=>eqN g (I 0) fun g=>eqB (.bool i) (.bool (bnot g)) fun g=>ifB (bnot g) (.norm [a,c,b,d,h,(.bool i),(.bool (bnot g))] k) (fl 2 k b fun g=>eqN g (I 185) fun g=>ap (gsel (.bool g) true f) fun f=>gj (.bool g) true (iAnd f (I 2) fun a=>.norm [a] k) k fun f j=>gj (.bool g) true (eqN f (I 0) fun a=>.norm [(.bool (bnot a))] j) j fun f j=>cB (.bool g) fun g=>ap (sel g f (.bool false)) fun f=>.norm [a,c,b,d,h,(.bool i),f] j)) fun a b=>u7 a fun a c d f g h i=>cB i fun i=>ifB i (.fail) (ap (gsel h true a) fun i=>ap (gsel h true g) fun g=>gj h true (cl (s86 [i,g] b) fun a b=>.norm [a] b) b fun b g=>gj h true (eqN b (I 0) fun a=>.norm [(.bool (bnot a))] g) g fun b g=>cB h fun i=>ap (sel i b (.bool false)) fun b=>cB b fun b=>ifB b (.ret (.tup .nil) g) (.norm [a,c,d,f,h] g)))) fun a b=>u5 a fun a c d f g=>bNot g fun h=>ap (gsel h true a) fun i=>ap (gsel h true c) fun j=>gj h true (fa 2 d fun a=>.norm [a] b) b fun b d=>gj h true (ld1 d b fun a=>.norm [a] d) d fun b d=>gj h true (cl (s340 [i,j,b,f] d) fun a b=>.norm [a] b) d fun b d=>gj h true (bNot b fun a=>.norm [a] d) d fun b d=>cB h fun h=>ap (sel h b (.bool false)) fun b=>cB b fun b=>ifB b (.ret (.tup .nil) d) (ldN d 6 f fun b=>cl (s341 [a,c,b,g] d) fun _ a=>.ret (.tup .nil) a)))))))
def s267:Fun:=b267 s86 s297 s338 s339 s340 s341
theorem F267:Sd 267 s267:=so (F86.c (F297.c (F338.c (F339.c (F340.c (F341.c gn)))))) Tryz.func267 ((fun a b c d e f=>by kernel_rfl:∀ a b c d e f,b267 a b c d e f = D [(86,a),(297,b),(338,c),(339,d),(340,e),(341,f)] Tryz.f267 (Gs (.s (.r [0,1,2,3,4,5,6,7,8,9,10,11,12,13,14,15]) (.s (.r [0,1,2,3,4,5,6,7,8,9,10,11,12,13,14,15,16,17,18,19,20]) (.s (.r [0,1,2,3,4,5,6,7,8,9,10,11,12,13,14,15,16,17,18,19,20,21,22,23,24,25,26]) (.s G3 (Gs (Gs (Gs (.s (.b [0,1,5,6,11] (Gs (Gs (.j [0,1,5,6,7,11,96] G3 G4)))) (.s G3 .z))))))))))) s86 s297 s338 s339 s340 s341)
def b344 (s388:Fun):Fun:=fun a b=>U3 a fun a c d=>(nl 0 b a fun a=>nl 2 b c fun c=>nl 3 b c fun c=>cl (s388 [a,c,d] b) fun a b=>eqN a (I 0) fun a=>ifB (bnot a) (.fail) (cK (.bool true) fun a=>.ret a b))
def s344:Fun:=b344 s388
theorem F344:Sd 344 s344:=so (F388.c gn) Tryz.func344 ((fun a=>by kernel_rfl:∀ a,b344 a = D [(388,a)] Tryz.f344 (Gs (.s (.s (.r [0,1,2,3,4,5,6,7,8,9,10,11,12,13]) G3) G2))) s388)
def b398 (s55:Fun):Fun:=fun a b=>U2 a fun a c=>(ld1 b a fun a=>nl 2 b a fun a=>ld1 b c fun c=>cl (s55 [a,c] b) fun a b=>rk a b)
def s398:Fun:=b398 s55
theorem F398:Sd 398 s398:=so (F55.c gn) Tryz.func398 ((fun a=>by kernel_rfl:∀ a,b398 a = D [(55,a)] Tryz.f398 (Gs (.s (.r [0,1,2,3,4,5,6]) .z))) s55)
def b242 (s63 s398:Fun):Fun:=fun a b=>U2 a fun _ a=>(cl (dyn (gam [(63,s63),(398,s398)]) a [] b) fun a b=>jn (eqN a (I 0) fun c=>ifB c (.fail) (.norm [a] b)) fun a b=>u1 a fun a=>rk a b)
def s242:Fun:=b242 s63 s398
theorem F242:Sd 242 s242:=so (F63.c (F398.c gn)) Tryz.func242 ((fun a b=>by kernel_rfl:∀ a b,b242 a b = D [(63,a),(398,b)] Tryz.f242 (Gs (Gs (.j [5] G3 G2)))) s63 s398)
def b397 (s165 s167 s242 s259:Fun):Fun:=fun a b=>U4 a fun a c d f=>(cl (s242 [a,f] b) fun b f=>eqN b (I 0) fun g=>ifB g (.fail) (nl 5 f a fun g=>cl (s165 [g,d] f) fun _ d=>nl 5 d a fun f=>cl (s167 [f,b,(.bool true)] d) fun _ b=>cl (s259 [a,c] b) fun _ a=>.ret (.tup .nil) a))
def s397:Fun:=b397 s165 s167 s242 s259
theorem F397:Sd 397 s397:=so (F165.c (F167.c (F242.c (F259.c gn)))) Tryz.func397 ((fun a b c d=>by kernel_rfl:∀ a b c d,b397 a b c d = D [(165,a),(167,b),(242,c),(259,d)] Tryz.f397 (Gs (.s G3 G3))) s165 s167 s242 s259)
def b342 (s57 s86 s344 s397:Fun):Fun:=fun a b=>U3 a fun a c d=>(mk b (cells a) fun a b=>mk b (cells d) fun b d=>ld1 d a fun f=>ld1 d b fun g=>cl (s344 [f,c,g] d) fun d f=>bNot d fun d=>cB d fun d=>ifB d (.ret (.tup .nil) f) (ld1 f a fun d=>nl 0 f d fun d=>ld1 f b fun g=>cl (s57 [d,g] f) fun d f=>nl 2 f d fun d=>iAnd d (I 1536) fun d=>eqN d (I 0) fun d=>gj (.bool (bnot d)) false (ld1 f b fun a=>.norm [a] f) f fun f g=>gj (.bool (bnot d)) false (eqS f (.str 16 137483774941304901841256615957136564586) fun a=>.norm [(.bool a)] g) g fun f g=>cB (.bool (bnot d)) fun d=>ap (sel d (.bool true) f) fun d=>gj d false (ld1 g b fun a=>.norm [a] g) g fun f g=>gj d false (eqS f (.str 16 145412635431568811361768410208787652970) fun a=>.norm [(.bool a)] g) g fun f g=>cB d fun d=>ap (sel d (.bool true) f) fun d=>gj d false (ld1 g b fun a=>.norm [a] g) g fun f g=>gj d false (eqS f (.str 19 2439265639030268300842157990401791553877467498) fun a=>.norm [(.bool a)] g) g fun f g=>cB d fun d=>ap (sel d (.bool true) f) fun d=>cB d fun d=>ifB d (.fail) (ld1 g a fun d=>ld1 g b fun f=>cl (s86 [d,f] g) fun d f=>eqN d (I 0) fun d=>ifB (bnot d) (.ret (.tup .nil) f) (ld1 f a fun d=>cl (s397 [d,c,(I 0),(.fn (.func 398) .nil (.cons a (.cons b .nil)))] f) fun _ a=>.ret (.tup .nil) a))))
def s342:Fun:=b342 s57 s86 s344 s397
theorem F342:Sd 342 s342:=so (F57.c (F86.c (F344.c (F397.c gn)))) Tryz.func342 ((fun a b c d=>by kernel_rfl:∀ a b c d,b342 a b c d = D [(57,a),(86,b),(344,c),(397,d)] Tryz.f342 (Gs (.s G3 (.s (.r [0,1,2,3,4,5,6]) (.s G3 (.s G3 .z)))))) s57 s86 s344 s397)
def b268 (s252 s325 s342 s344:Fun):Fun:=fun a b=>U3 a fun a c d=>(mk b (cells d) fun b d=>nl 2 d c fun f=>nl 1 d f fun f=>fl 4 d b fun g=>cl (s252 [f,g] d) fun d f=>cT d fun g=>cK (nth g 0) fun g=>cT d fun d=>cK (nth d 1) fun _=>fl 2 f b fun b=>blk 0 (eqN b (I 187) fun b=>ifB b (cl (s342 [a,c,g] f) fun _ a=>.norm [] a) (.fail)) fun _ a=>.ret (.tup .nil) a)
def s268:Fun:=b268 s252 s325 s342 s344
theorem F268:Sd 268 s268:=so (F252.c (F325.c (F342.c (F344.c gn)))) Tryz.func268 ((fun a b c d=>by kernel_rfl:∀ a b c d,b268 a b c d = D [(252,a),(325,b),(342,c),(344,d)] Tryz.f268 (Gs (.s (.r [0,1,2,3,4,5,6,7,8,9,10,11,12,13,14]) (Gs (.b [] G3))))) s252 s325 s342 s344)
def b172 (s161 s257 s258 s259 s260 s262 s263 s265 s266 s267 s268:Fun):Fun:=fun a b=>U3 a fun a c d=>(mk b (cells d) fun b d=>fl 2 d b fun f=>cl (s257 [f] d) fun d g=>cT d fun h=>cK (nth h 0) fun h=>cT d fun d=>cK (nth d 1) fun d=>eqN h (J 0) fun i=>ifB (bnot i) (fl 4 g b fun b=>cl (s258 [a,b,h,d] g) fun _ b=>cl (s259 [a,c] b) fun _ a=>.ret (.tup .nil) a) (blk 0 (ltN (I 20) f fun d=>ifB (bnot d) (ldN g 8 b fun b=>cl (s260 [a,c,b] g) fun _ a=>.norm [] a) (ltN f (I 46) fun d=>ap (gsel (.bool (bnot d)) true f) fun h=>gj (.bool (bnot d)) true (ltN (I 53) h fun a=>.norm [(.bool (bnot a))] g) g fun g h=>cB (.bool (bnot d)) fun d=>ap (sel d g (.bool false)) fun d=>ap (gsel d false f) fun g=>gj d false (ltN g (I 79) fun a=>.norm [(.bool (bnot a))] h) h fun g h=>ap (gsel d false g) fun g=>ap (gsel g true f) fun i=>gj g true (ltN (I 86) i fun a=>.norm [(.bool (bnot a))] h) h fun h i=>gj d false (cB g fun a=>ap (sel a h (.bool false)) fun a=>.norm [a] i) i fun g h=>cB d fun d=>ap (sel d (.bool true) g) fun d=>cB d fun d=>ifB d (.fail) (ltN f (I 87) fun d=>ap (gsel (.bool (bnot d)) true f) fun g=>gj (.bool (bnot d)) true (ltN (I 95) g fun a=>.norm [(.bool (bnot a))] h) h fun g h=>cB (.bool (bnot d)) fun d=>ap (sel d g (.bool false)) fun d=>cB d fun d=>ifB d (cl (s262 [a,f] h) fun _ b=>cl (s259 [a,c] b) fun _ a=>.norm [] a) (eqN f (I 132) fun d=>ifB d (.fail) (ltN f (I 96) fun d=>ap (gsel (.bool (bnot d)) true f) fun g=>gj (.bool (bnot d)) true (ltN (I 148) g fun a=>.norm [(.bool (bnot a))] h) h fun g h=>cB (.bool (bnot d)) fun d=>ap (sel d g (.bool false)) fun d=>cB d fun d=>ifB d (.fail) (ltN f (I 172) fun d=>ap (gsel (.bool (bnot d)) true f) fun g=>gj (.bool (bnot d)) true (ltN (I 177) g fun a=>.norm [(.bool (bnot a))] h) h fun g h=>cB (.bool (bnot d)) fun d=>ap (sel d g (.bool false)) fun d=>cB d fun d=>ifB d (cl (s265 [a,f] h) fun _ a=>.norm [] a) (ltN f (I 178) fun d=>ap (gsel (.bool (bnot d)) true f) fun g=>gj (.bool (bnot d)) true (ltN (I 181) g fun a=>.norm [(.bool (bnot a))] h) h fun g h=>cB (.bool (bnot d)) fun d=>ap (sel d g (.bool false)) fun d=>cB d fun d=>ifB d (ldN h 8 b fun b=>cl (s266 [a,c,b] h) fun _ a=>.norm [] a) (ltN f (I 182) fun d=>ap (gsel (.bool (bnot d)) true f) fun g=>gj (.bool (bnot d)) true (ltN (I 185) g fun a=>.norm [(.bool (bnot a))] h) h fun g h=>cB (.bool (bnot d)) fun d=>ap (sel d g (.bool false)) fun d=>cB d fun d=>ifB d (ldN h 8 b fun b=>cl (s267 [a,c,b] h) fun _ a=>.norm [] a) (ltN f (I 187) fun d=>ap (gsel (.bool (bnot d)) true f) fun f=>gj (.bool (bnot d)) true (ltN (I 197) f fun a=>.norm [(.bool (bnot a))] h) h fun f g=>cB (.bool (bnot d)) fun d=>ap (sel d f (.bool false)) fun d=>cB d fun d=>ifB d (ldN g 8 b fun b=>cl (s268 [a,c,b] g) fun _ a=>.norm [] a) (ldN g 8 b fun _=>.fail)))))))))) fun _ a=>.ret (.tup .nil) a))
def s172:Fun:=b172 s161 s257 s258 s259 s260 s262 s263 s265 s266 s267 s268
theorem F172:Sd 172 s172:=so (F161.c (F257.c (F258.c (F259.c (F260.c (F262.c (F263.c (F265.c (F266.c (F267.c (F268.c gn))))))))))) Tryz.func172 ((fun a b c d e f h i j k l=>by kernel_rfl:∀ a b c d e f h i j k l,b172 a b c d e f h i j k l = D [(161,a),(257,b),(258,c),(259,d),(260,e),(262,f),(263,h),(265,i),(266,j),(267,k),(268,l)] Tryz.f172 (Gs (Gs (.s (Gs (Gs (.s G3 .z))) (.b [] (Gs (Gs (Gs (Gs (Gs (.s G2 (Gs (Gs G11))))))))))))) s161 s257 s258 s259 s260 s262 s263 s265 s266 s267 s268)
def b90 (s170 s171 s172:Fun):Fun:=fun a b=>U2 a fun a c=>(nm (.norm [c] b) fun d _=>nm (nck d fun a=>.norm [a] b) fun d _=>nm (fa 2 d fun a=>.norm [a] b) fun d _=>nm (ld1 b d fun a=>.norm [a] b) fun f _=>nm (nck f fun a=>.norm [a] b) fun g _=>nm (fa 7 g fun a=>.norm [a] b) fun g _=>nm (ld1 b g fun a=>.norm [a] b) fun h _=>nm (.norm [c] b) fun i _=>nm (nck i fun a=>.norm [a] b) fun i _=>nm (fa 3 i fun a=>.norm [a] b) fun i _=>nm (ld1 b i fun a=>.norm [a] b) fun j _=>nm (ixA 9 h j fun a=>.norm [a] b) fun k _=>nm (fa 4 k fun a=>.norm [a] b) fun k _=>nm (fa 2 k fun a=>.norm [a] b) fun k _=>nm (ld1 b k fun a=>.norm [a] b) fun l _=>nm (.norm [c] b) fun m _=>nm (nck m fun a=>.norm [a] b) fun m _=>nm (fa 4 m fun a=>.norm [a] b) fun m _=>nm (ld1 b m fun a=>.norm [a] b) fun n _=>nm (.norm [(.cons (I 0) (.cons (I 0) (.cons (I 0) (.cons (.bool false) (.cons (I 0) (.cons (I 0) (.cons .nils (.cons .nils .nil))))))))] b) fun o _=>lay o .e 0 fun o p=>ifB true (rsv b fun b q=>nm (ld1 q m fun a=>.norm [a] q) fun m _=>same n m (nm (ld1 q k fun a=>.norm [a] q) fun k _=>same l k (nm (ld1 q i fun a=>.norm [a] q) fun k _=>same j k (nm (ld1 q g fun a=>.norm [a] q) fun k _=>same h k (nm (ld1 q d fun a=>.norm [a] q) fun k _=>same f k (nm (cl (s170 [l,n] q) fun a b=>.norm [a] b) fun k l=>nm (ld1 l i fun a=>.norm [a] l) fun m _=>same j m (nm (ld1 l g fun a=>.norm [a] l) fun m _=>same h m (nm (ld1 l d fun a=>.norm [a] l) fun m _=>same f m (nm (.norm [k] l) fun k _=>nm (cT k fun a=>cK (nth a 0) fun a=>.norm [a] l) fun m _=>nm (cT k fun a=>cK (nth a 1) fun a=>.norm [a] l) fun k _=>dueK l b p o fun l=>nm (ld1 l i fun a=>.norm [a] l) fun i _=>same j i (nm (ld1 l g fun a=>.norm [a] l) fun g _=>same h g (nm (ld1 l d fun a=>.norm [a] l) fun d _=>same f d (nm (stN l 8 (.ptr b 0) m fun a=>.norm [(.tup .nil)] a) fun _ d=>nm (.norm [k] d) fun _ _=>nl 5 d a fun f=>nl 4 d c fun g=>cl (s171 [f,g] d) fun _ d=>na 9 a fun f=>st1 d f .nils fun d=>ldN d 8 (.ptr b 0) fun b=>cl (s172 [a,c,b] d) fun _ a=>.ret (.tup .nil) a)))))))))))) .fail)
def s90:Fun:=b90 s170 s171 s172
theorem F90:Sd 90 s90:=so (F170.c (F171.c (F172.c gn))) Tryz.func90 ((fun a b c=>by kernel_rfl:∀ a b c,b90 a b c = D [(170,a),(171,b),(172,c)] Tryz.f90 (.s (.f [(0,0),(0,1),(0,2),(0,3),(0,4),(0,5),(0,6),(0,7),(0,8),(0,9),(0,10),(0,11),(0,12),(0,13),(0,14),(0,15),(0,16),(0,17),(0,18),(1,23),(0,19),(0,20),(0,21),(0,22),(2,23),(0,24),(0,25)]) (.s (.r [0,1,2,3,4,5,6,7,8]) G2))) s170 s171 s172)
def b60 (s82 s88 s89 s90:Fun):Fun:=fun a b=>U1 a fun a=>(eqP a .nilp fun c=>ap (gsel (.bool c) false a) fun d=>gj (.bool c) false (nck d fun a=>.norm [a] b) b fun b d=>gj (.bool c) false (fa 15 b fun a=>.norm [a] d) d fun b d=>gj (.bool c) false (ld1 d b fun a=>.norm [a] d) d fun b d=>gj (.bool c) false (bNot b fun a=>.norm [a] d) d fun b d=>cB (.bool c) fun c=>ap (sel c (.bool true) b) fun b=>cB b fun b=>ifB b (.fail) (nl 17 d a fun b=>nl 16 d a fun c=>ltN b c fun b=>ifB (bnot b) (.fail) (nl 18 d a fun b=>iAdd b (I 1) fun b=>na 18 a fun c=>st1 d c b fun b=>nl 19 b a fun c=>nl 18 b a fun d=>iMax c d fun c=>na 19 a fun d=>st1 b d c fun b=>cl (s89 [a] b) fun b c=>nl 17 c a fun d=>iAdd d (I 1) fun d=>na 17 a fun f=>st1 c f d fun c=>na 2 b fun d=>ld1 c d fun f=>na 7 f fun g=>ld1 c g fun h=>na 3 b fun i=>ld1 c i fun j=>ixA 9 h j fun k=>ldN c 9 k fun l=>mk c (.cons (I 0) (.cons (.str 0 0) (.cons (.str 0 0) (.cons (.bool false) (.cons (I 0) (.cons (I 0) (.cons .nils (.cons .nils (.cons .nils .nil))))))))) fun c m=>ldN m 9 k fun k=>same l k (ld1 m i fun i=>same j i (ld1 m g fun g=>same h g (ld1 m d fun d=>same f d (stN m 9 c l fun d=>nl 31 d a fun f=>nl 2 d b fun g=>nl 3 d g fun g=>sCat g (.str 1 46) fun g=>fl 1 d c fun h=>sCat g h fun g=>sCat g (.str 1 58) fun g=>fl 2 d c fun c=>sCat g c fun c=>lkp kqS d false (I 0) f c fun g=>iAdd g (I 1) fun g=>mup kqS d f c g fun c=>na 1 b fun d=>st1 c d (I 1) fun c=>cl (s90 [a,b] c) fun _ b=>cl (s88 [a] b) fun _ b=>nl 18 b a fun c=>iSub c (I 1) fun c=>na 18 a fun d=>st1 b d c fun b=>nl 15 b a fun a=>rk a b)))))))
def s60:Fun:=b60 s82 s88 s89 s90
theorem F60:Sd 60 s60:=so (F82.c (F88.c (F89.c (F90.c gn)))) Tryz.func60 ((fun a b c d=>by kernel_rfl:∀ a b c d,b60 a b c d = D [(82,a),(88,b),(89,c),(90,d)] Tryz.f60 (Gs (.s G3 (.s (.s (.r [0,1,2,3,4,5,6,7,8]) G2) (Gs (.s (.r [0,1,2,3,4,5,6,7,8,9,10,11,12]) (Gs (Gs (.s (.r [0,1,2,3,4,5,6,7,8,9,10,11,12,13,14]) (.s (.r [0,1,2,3,4,5,6,7,8,9,10,11,12,13,14,15,16,17,18,19,20,21]) G6)))))))))) s82 s88 s89 s90)
def b61:Fun:=fun a b=>U1 a fun a=>(mk b (.cons (I 0) (.cons (I 0) (.cons (J 0) (.cons (I 0) (.cons (.str 0 0) (.cons (.str 0 0) (.cons (.bool false) (.cons (I 0) (.cons .nils (.cons (I 0) (.cons (I 0) .nil))))))))))) fun b c=>eqP a .nilp fun d=>ifB d (.fail) (na 20 a fun d=>ldN c 11 d fun d=>na 15 a fun a=>ld1 c a fun f=>bNot f fun g=>stN c 11 b d fun c=>ld1 c a fun a=>same f a (ldN c 11 b fun a=>cK g fun b=>.ret (.tup (.cons a (.cons b .nil))) c)))
def s61:Fun:=b61
theorem F61:Sd 61 s61:=so gn Tryz.func61 (by kernel_rfl:b61 = D [] Tryz.f61 (Gs (.s G3 (.s (.r [0,1,2,3,4,5,6,7,8,9,10]) .z))))
def L44n0 (s59 s60 s61:Fun):List AV→Hp→Res:=fun a b=>u2 a fun a c=>cl (s60 [a] b) fun b d=>cB b fun b=>ifB b (blk 1 (.norm [a,c] d) fun a b=>u2 a fun a c=>.norm [a,c] b) (.exit 0 [a,c] d)
def b44 (s59 s60 s61:Fun):Fun:=fun a b=>U5 a fun a c d f g=>(mk b (.cons (I 0) (.cons (I 0) (.cons (J 0) (.cons (I 0) (.cons (.str 0 0) (.cons (.str 0 0) (.cons (.bool false) (.cons (I 0) (.cons .nils (.cons (I 0) (.cons (I 0) .nil))))))))))) fun b h=>cl (s59 [a,c,d,f,g] h) fun c d=>mk d (.cons (I 0) (.cons (I 0) (.cons (J 0) (.cons (I 0) (.cons (.str 0 0) (.cons (.str 0 0) (.cons (.bool false) (.cons (I 0) (.cons .nils (.cons (I 0) (.cons (I 0) .nil))))))))))) fun d f=>stN f 11 d c fun c=>fl 1 c d fun d=>eqN d (I 5) fun d=>ifB d (.fail) (blk 0 (lp (L44n0 s59 s60 s61) most [a,b] c) fun a b=>u2 a fun a c=>cl (s61 [a] b) fun a b=>cT a fun d=>cK (nth d 0) fun d=>cT a fun a=>cK (nth a 1) fun _=>mk b (.cons (I 0) (.cons (I 0) (.cons (J 0) (.cons (I 0) (.cons (.str 0 0) (.cons (.str 0 0) (.cons (.bool false) (.cons (I 0) (.cons .nils (.cons (I 0) (.cons (I 0) .nil))))))))))) fun a b=>stN b 11 a d fun b=>ldN b 11 a fun a=>stN b 11 c a fun a=>ldN a 11 c fun b=>.ret b a))
def s44:Fun:=b44 s59 s60 s61
theorem F44:Sd 44 s44:=so (F59.c (F60.c (F61.c gn))) Tryz.func44 ((fun a b c=>by kernel_rfl:∀ a b c,b44 a b c = D [(59,a),(60,b),(61,c)] Tryz.f44 (Gs (.s G4 (.s (.b [0,10] (.l [0,10] (.s G3 (.b [0,10] .z)))) G3)))) s59 s60 s61)
def b45 (s62:Fun):Fun:=fun a b=>U1 a fun a=>(eqP a .nilp fun c=>ifB c (.fail) (nl 4 b a fun a=>cl (s62 [a] b) fun a b=>rk a b))
def s45:Fun:=b45 s62
theorem F45:Sd 45 s45:=so (F62.c gn) Tryz.func45 ((fun a=>by kernel_rfl:∀ a,b45 a = D [(62,a)] Tryz.f45 (Gs (.s G3 G2))) s62)
def b46 (s63:Fun):Fun:=fun a b=>U1 a fun a=>(eqP a .nilp fun c=>ifB c (.fail) (cl (s63 [a] b) fun a b=>rk a b))
def s46:Fun:=b46 s63
theorem F46:Sd 46 s46:=so (F63.c gn) Tryz.func46 ((fun a=>by kernel_rfl:∀ a,b46 a = D [(63,a)] Tryz.f46 (Gs (.s G3 G2))) s63)
def b47:Fun:=fun a b=>U1 a fun a=>(eqP a .nilp fun c=>ifB c (.fail) (nl 19 b a fun a=>rk a b))
def s47:Fun:=b47
theorem F47:Sd 47 s47:=so gn Tryz.func47 (by kernel_rfl:b47 = D [] Tryz.f47 (Gs (.s G3 G2)))
def b36 (s43 s44 s45 s46 s47:Fun):Fun:=fun a b=>U2 a fun a c=>(mk b (cells c) fun b c=>mk c (.cons (I 0) (.cons (I 0) (.cons (J 0) (.cons (I 0) (.cons (.str 0 0) (.cons (.str 0 0) (.cons (.bool false) (.cons (I 0) (.cons .nils (.cons (I 0) (.cons (I 0) .nil))))))))))) fun c d=>eqP a .nilp fun f=>ifB f (.fail) (fl 0 d b fun f=>blk 0 (eqN f (I 1) fun g=>ifB g (nl 0 d a fun a=>fl 1 d b fun f=>fl 2 d b fun b=>cl (s43 [a,f,b] d) fun a b=>bld [(false,1,a),(false,1,(I 0)),(false,1,(J 0)),(false,1,(I 0)),(false,1,(.str 0 0)),(false,1,(.str 0 0)),(false,1,(.bool false)),(false,1,(I 0)),(false,1,.nils),(false,1,(I 0)),(false,1,(I 0))] fun a=>stN b 11 c (.agg a) fun a=>ldN a 11 c fun b=>.ret b a) (eqN f (I 2) fun g=>ifB g (nl 1 d a fun a=>fl 1 d b fun f=>fl 3 d b fun g=>fl 4 d b fun h=>fl 5 d b fun b=>cl (s44 [a,f,g,h,b] d) fun a b=>stN b 11 c a fun a=>ldN a 11 c fun b=>.ret b a) (eqN f (I 3) fun b=>ifB b (nl 1 d a fun b=>na 1 a fun f=>ld1 d f fun g=>na 1 a fun a=>ld1 d a fun h=>cl (s45 [b] d) fun b d=>ld1 d a fun i=>same h i (ld1 d f fun f=>same g f (cl (s46 [g] d) fun d f=>ld1 f a fun a=>same h a (cl (s47 [h] f) fun a f=>bld [(false,1,(I 0)),(false,1,(I 0)),(false,1,(J 0)),(false,1,(I 0)),(false,1,(.str 0 0)),(false,1,(.str 0 0)),(false,1,(.bool false)),(false,1,(I 0)),(false,1,b),(false,1,d),(false,1,a)] fun a=>stN f 11 c (.agg a) fun a=>ldN a 11 c fun b=>.ret b a)))) (.norm [c] d)))) fun a b=>u1 a fun a=>bld [(false,1,(I 1)),(false,1,(I 5)),(false,1,(J 0)),(false,1,(I 0)),(false,1,(.str 0 0)),(false,1,(.str 0 0)),(false,1,(.bool false)),(false,1,(I 0)),(false,1,.nils),(false,1,(I 0)),(false,1,(I 0))] fun c=>stN b 11 a (.agg c) fun b=>ldN b 11 a fun a=>.ret a b))
def s36:Fun:=b36 s43 s44 s45 s46 s47
theorem F36:Sd 36 s36:=so (F43.c (F44.c (F45.c (F46.c (F47.c gn))))) Tryz.func36 ((fun a b c d e=>by kernel_rfl:∀ a b c d e,b36 a b c d e = D [(43,a),(44,b),(45,c),(46,d),(47,e)] Tryz.f36 (Gs (.s G3 (.s (Gs (.b [4] (Gs (.s (.s (.r [0,1,2,3,4,5,6,7,8,9,10]) .z) (Gs (.s (.s (.r [0,1,2,3,4,5,6,7,8,9,10,11,12,13]) .z) (Gs (.s (.s (.r [0,1,2,3,5,6,7,8,10,11,12,13,4,9,14,15,16]) .z) .z)))))))) G2)))) s43 s44 s45 s46 s47)
def L40n0 (s35 s36:Fun):List AV→Hp→Res:=fun a b=>u5 a fun a c d f g=>ltN g f fun h=>ifB h (blk 1 (ixA 6 d g fun h=>ldN b 6 h fun h=>mk b (.cons (I 0) (.cons (.str 0 0) (.cons .nils (.cons (.str 0 0) (.cons .nils (.cons (I 0) .nil)))))) fun b i=>stN i 6 b h fun h=>ldN h 6 b fun b=>cl (s36 [a,b] h) fun b h=>bld [(true,11,b)] fun b=>mkS h 11 1 b fun b h=>apd h 11 120 c b fun b c=>.norm [a,b,d,f,g] c) fun a b=>u5 a fun a c d f g=>iAdd g (I 1) fun g=>.norm [a,c,d,f,g] b) (.exit 0 [c] b)
def b40 (s35 s36:Fun):Fun:=fun a b=>U1 a fun a=>(cl (s35 [] b) fun b c=>lenL a fun d=>blk 0 (lp (L40n0 s35 s36) most [b,.nils,a,d,(I 0)] c) fun a b=>u1 a fun a=>rk a b)
def s40:Fun:=b40 s35 s36
theorem F40:Sd 40 s40:=so (F35.c (F36.c gn)) Tryz.func40 ((fun a b=>by kernel_rfl:∀ a b,b40 a b = D [(35,a),(36,b)] Tryz.f40 (Gs (Gs (Gs (.s (Gs (.b [4] (.l [3,4,8,9,10] (Gs (.s G2 (.s (.b [3,4,8,9,10] G2) .z)))))) G2))))) s35 s36)
def b32 (s40:Fun):Fun:=fun a b=>uz a (bld [(false,1,(I 1)),(false,1,(.str 1 97)),(false,1,.nils),(false,1,(.str 0 0)),(false,1,.nils),(false,1,(I 0))] fun a=>bld [(false,1,(I 3)),(false,1,(.str 0 0)),(false,1,.nils),(false,1,(.str 0 0)),(false,1,.nils),(false,1,(I 0))] fun c=>bld [(false,1,(I 9)),(false,1,(.str 0 0)),(false,1,.nils),(false,1,(.str 0 0)),(false,1,.nils),(false,1,(I 0))] fun d=>bld [(true,6,(.agg a)),(true,6,(.agg c)),(true,6,(.agg d))] fun a=>mkS b 6 3 a fun a b=>cl (s40 [a] b) fun a b=>lenL a fun c=>eqN c (I 3) fun c=>ap (gsel (.bool c) true a) fun d=>gj (.bool c) true (ixA 11 d (I 0) fun a=>.norm [a] b) b fun b d=>gj (.bool c) true (fa 0 b fun a=>.norm [a] d) d fun b d=>gj (.bool c) true (ld1 d b fun a=>.norm [a] d) d fun b d=>gj (.bool c) true (eqN b (I 1) fun a=>.norm [(.bool a)] d) d fun b d=>cB (.bool c) fun c=>ap (sel c b (.bool false)) fun b=>ap (gsel b true a) fun c=>gj b true (ixA 11 c (I 1) fun a=>.norm [a] d) d fun c d=>gj b true (fa 9 c fun a=>.norm [a] d) d fun c d=>gj b true (ld1 d c fun a=>.norm [a] d) d fun c d=>gj b true (eqN c (I 8) fun a=>.norm [(.bool a)] d) d fun c d=>cB b fun b=>ap (sel b c (.bool false)) fun b=>ap (gsel b true a) fun c=>gj b true (ixA 11 c (I 2) fun a=>.norm [a] d) d fun c d=>gj b true (fa 1 c fun a=>.norm [a] d) d fun c d=>gj b true (ld1 d c fun a=>.norm [a] d) d fun c d=>gj b true (eqN c (I 5) fun a=>.norm [(.bool a)] d) d fun c d=>cB b fun b=>ap (sel b c (.bool false)) fun b=>ap (gsel b true a) fun a=>gj b true (ixA 11 a (I 2) fun a=>.norm [a] d) d fun a c=>gj b true (fa 0 a fun a=>.norm [a] c) c fun a c=>gj b true (ld1 c a fun a=>.norm [a] c) c fun a c=>gj b true (eqN a (I 1) fun a=>.norm [(.bool a)] c) c fun a c=>cB b fun b=>ap (sel b a (.bool false)) fun a=>rk a c)
def s32:Fun:=b32 s40
theorem F32:Sd 32 s32:=so (F40.c gn) Tryz.func32 ((fun a=>by kernel_rfl:∀ a,b32 a = D [(40,a)] Tryz.f32 G4) s40)
def b8 (s32:Fun):Fun:=fun a b=>uz a (cl (s32 [] b) fun a b=>rk a b)
def r8:Fun:=b8 s32
theorem R8:Sd 8 r8:=so (F32.c gn) Tryz.func8 ((fun a=>by kernel_rfl:∀ a,b8 a = D [(32,a)] Tryz.f8 G3) s32)
theorem w8:isT (r8 [] H0) = true:=by kernel_rfl
def s8:Fun:=truth
theorem F8:Sd 8 s8:=⟨truth_sound R8.1 w8,R8.2⟩
def L10n0:List AV→Hp→Res:=fun a b=>u3 a fun a c d=>lenL a fun f=>ltN d f fun f=>ifB f (blk 1 (ixA 1 a d fun f=>ld1 b f fun f=>apd b 1 1 c f fun b c=>.norm [a,b,d] c) fun a b=>u3 a fun a c d=>iAdd d (I 1) fun d=>.norm [a,c,d] b) (.exit 0 [c] b)
def b10:Fun:=fun a b=>U1 a fun a=>(blk 0 (lp L10n0 most [a,.nils,(I 0)] b) fun a b=>u1 a fun a=>rk a b)
def s10:Fun:=b10
theorem F10:Sd 10 s10:=so gn Tryz.func10 (by kernel_rfl:b10 = D [] Tryz.f10 (Gs (Gs (.s (Gs (.b [3] (.l [0,3,4] (.s G3 (.s (.b [0,3,4] .z) .z))))) G2))))
def b13:Fun:=fun a b=>U1 a fun a=>(iShr a (.int 64 (.ofNat 24)) fun c=>iConv 8 c fun c=>iShr a (.int 64 (.ofNat 16)) fun d=>iConv 8 d fun d=>iShr a (.int 64 (.ofNat 8)) fun f=>iConv 8 f fun f=>iConv 8 a fun a=>bld [(false,1,c),(false,1,d),(false,1,f),(false,1,a)] fun a=>mkS b 1 4 a fun a b=>rk a b)
def s13:Fun:=b13
theorem F13:Sd 13 s13:=so gn Tryz.func13 (by kernel_rfl:b13 = D [] Tryz.f13 G3)
def L33n0:List AV→Hp→Res:=fun a b=>u5 a fun a c d f g=>nl 0 b a fun h=>lenL h fun h=>ltN g h fun h=>ifB h (blk 1 (nl 0 b a fun h=>ixA 1 h g fun h=>ld1 b h fun h=>eqS h c fun h=>cB (.bool h) fun h=>orc b h (fun b=>nl 2 b a fun a=>ixA 1 a g fun a=>ld1 b a fun a=>rk a b) (fun b=>.norm [a,c,d,f,g] b)) fun a b=>u5 a fun a c d f g=>iAdd g (I 1) fun g=>.norm [a,c,d,f,g] b) (.exit 0 [a,c,d,f] b)
def b33:Fun:=fun a b=>U4 a fun a c d f=>(blk 0 (lp L33n0 most [a,c,d,f,(I 0)] b) fun a b=>u4 a fun a c d f=>nl 0 b a fun g=>bld [(false,1,c)] fun c=>mkS b 1 1 c fun b c=>apd c 1 16 g b fun b c=>na 0 a fun g=>st1 c g b fun b=>nl 1 b a fun c=>bld [(false,1,d)] fun d=>mkS b 1 1 d fun b d=>apd d 1 24 c b fun b c=>na 1 a fun d=>st1 c d b fun b=>na 2 a fun c=>ld1 b c fun d=>nl 3 b a fun g=>bld [(false,1,g)] fun g=>mkS b 1 1 g fun b g=>ld1 g c fun c=>same d c (apd g 1 8 d b fun b c=>na 2 a fun d=>st1 c d b fun b=>nl 3 b a fun c=>iAdd c f fun c=>na 3 a fun d=>st1 b d c fun b=>nl 3 b a fun a=>iSub a f fun a=>rk a b))
def s33:Fun:=b33
theorem F33:Sd 33 s33:=so gn Tryz.func33 (by kernel_rfl:b33 = D [] Tryz.f33 (Gs (.s (Gs (.b [0,1,2,3] (.l [0,1,2,3,9] (.s G3 (.s (.b [0,1,2,3,9] (Gs (.o G2 .z))) .z))))) (Gs (Gs (.s (.r [0,1,2,3,4,5,6,7,8,9,10,11,12,13]) G3))))))
def b14 (s13 s33:Fun):Fun:=fun a b=>U2 a fun a c=>(nm (.norm [a] b) fun a _=>nm (.norm [c] b) fun d _=>nm (.norm [c] b) fun c _=>nm (bld [(false,1,(J 3))] fun a=>.norm [a] b) fun f _=>lay f .e 0 fun f g=>ifB (Nat.beq g (Nat.mul 1 1)) (rsv b fun b h=>nm (cl (s13 [d] h) fun a b=>.norm [a] b) fun d h=>nm (b2sT h d fun a=>.norm [a] h) fun i _=>nm (sCat (.str 1 105) i fun a=>.norm [a] h) fun j _=>nm (cl (s13 [c] h) fun a b=>.norm [a] b) fun c h=>nm (b2sT h d fun a=>.norm [a] h) fun k _=>.ask (eqAV i k) (dueK h b g f fun f=>nm (b2sT f d fun a=>.norm [a] f) fun g _=>.ask (eqAV i g) (nm (apd f 1 1 (.sl b 0 1 1 (some 1)) c fun a b=>.norm [a] b) fun b c=>nm (b2sT c d fun a=>.norm [a] c) fun d _=>.ask (eqAV i d) (nm (cl (s33 [a,j,b,(I 1)] c) fun a b=>.norm [a] b) fun a b=>nm (.norm [a] b) fun a _=>rk a b)))) .fail)
def s14:Fun:=b14 s13 s33
theorem F14:Sd 14 s14:=so (F13.c (F33.c (ge gn))) Tryz.func14 ((fun a b=>by kernel_rfl:∀ a b,b14 a b = D [(13,a),(33,b),(1000000001,ff)] Tryz.f14 (Gs (.s (.f [(0,0),(0,1),(0,6),(1,5),(0,2),(0,3),(0,4),(0,7),(2,5),(0,8),(0,9),(0,10)]) .z))) s13 s33)
def b11:Fun:=fun a b=>U1 a fun a=>(iShr a (.int 64 (.ofNat 8)) fun c=>iConv 8 c fun c=>iConv 8 a fun a=>bld [(false,1,c),(false,1,a)] fun a=>mkS b 1 2 a fun a b=>rk a b)
def s11:Fun:=b11
theorem F11:Sd 11 s11:=so gn Tryz.func11 (by kernel_rfl:b11 = D [] Tryz.f11 G3)
def b12 (s11 s33:Fun):Fun:=fun a b=>U2 a fun a c=>(bld [(false,1,(J 1))] fun d=>mkS b 1 1 d fun b d=>lenS c fun f=>cl (s11 [f] d) fun d f=>apd f 1 1 b d fun b d=>sCat (.str 1 117) c fun f=>apd d 1 1 b c fun b c=>cl (s33 [a,f,b,(I 1)] c) fun a b=>rk a b)
def s12:Fun:=b12 s11 s33
theorem F12:Sd 12 s12:=so (F11.c (F33.c gn)) Tryz.func12 ((fun a b=>by kernel_rfl:∀ a b,b12 a b = D [(11,a),(33,b)] Tryz.f12 G4) s11 s33)
def L16n0 (s11 s12 s13:Fun):List AV→Hp→Res:=fun a b=>u7 a fun a c d f g h i=>ltN i (I 4) fun j=>ifB j (blk 3 (ixA 4 c h fun j=>ixP 4 1 j i fun j=>ld1 b j fun j=>cl (s11 [j] b) fun b j=>apd j 1 1 g b fun b g=>.norm [a,c,d,f,b,h,i] g) fun a b=>u7 a fun a c d f g h i=>iAdd i (I 1) fun i=>.norm [a,c,d,f,g,h,i] b) (.exit 2 [a,c,d,f,g,h] b)
def L16n1 (s11 s12 s13:Fun):List AV→Hp→Res:=fun a b=>u6 a fun a c d f g h=>lenL c fun i=>ltN h i fun i=>ifB i (blk 1 (blk 2 (lp (L16n0 s11 s12 s13) most [a,c,d,f,g,h,(I 0)] b) fun a b=>u6 a fun a c d f g h=>.norm [a,c,d,f,g,h] b) fun a b=>u6 a fun a c d f g h=>iAdd h (I 1) fun h=>.norm [a,c,d,f,g,h] b) (.exit 0 [a,d,f,g] b)
def b16 (s11 s12 s13:Fun):Fun:=fun a b=>U9 a fun a c d f g h i j k=>(cl (s11 [c] b) fun b c=>cl (s12 [a,d] c) fun c d=>cl (s11 [c] d) fun c d=>apd d 1 1 b c fun b c=>cl (s12 [a,f] c) fun c d=>cl (s11 [c] d) fun c d=>apd d 1 1 b c fun b c=>jn (eqL i .nils fun d=>ifB d (bld [(false,1,(J 0)),(false,1,(J 0))] fun d=>mkS c 1 2 d fun c d=>apd d 1 1 b c fun b c=>.norm [a,b] c) (cl (s11 [g] c) fun c d=>cl (s11 [h] d) fun d f=>apd f 1 1 c d fun c d=>lenL i fun f=>cl (s13 [f] d) fun d f=>apd f 1 1 c d fun c d=>apd d 1 1 c i fun c d=>lenL j fun f=>cl (s11 [f] d) fun d f=>apd f 1 1 c d fun c d=>blk 0 (lp (L16n1 s11 s12 s13) most [a,j,k,b,c,(I 0)] d) fun a b=>u4 a fun a c d f=>jn (eqL c .nils fun c=>ifB c (bld [(false,1,(J 0)),(false,1,(J 0))] fun c=>mkS b 1 2 c fun b c=>apd c 1 1 f b fun b c=>.norm [a,d,b] c) (.fail)) fun a b=>u3 a fun a c d=>bld [(false,1,(J 0)),(false,1,(J 1))] fun f=>mkS b 1 2 f fun b f=>apd f 1 1 c b fun b c=>cl (s12 [a,(.str 4 1701080899)] c) fun c f=>cl (s11 [c] f) fun c f=>apd f 1 1 b c fun b c=>lenL d fun f=>cl (s13 [f] c) fun c f=>apd f 1 1 b c fun b c=>apd c 1 1 b d fun b c=>.norm [a,b] c)) fun a b=>u2 a fun a c=>nl 11 b a fun d=>apd b 1 1 d c fun b c=>na 11 a fun d=>st1 c d b fun b=>nl 12 b a fun c=>iAdd c (I 1) fun c=>na 12 a fun a=>st1 b a c fun a=>.ret (.tup .nil) a)
def s16:Fun:=b16 s11 s12 s13
theorem F16:Sd 16 s16:=so (F11.c (F12.c (F13.c gn))) Tryz.func16 ((fun a b c=>by kernel_rfl:∀ a b c,b16 a b c = D [(11,a),(12,b),(13,c)] Tryz.f16 (Gs (Gs (.j [0,18] (Gs (Gs (Gs (Gs (Gs (Gs (.s (Gs (.b [0,8,18,19] (.l [0,7,8,18,19,20] (.s G3 (.s (.b [0,7,8,18,19,20] (Gs (.b [0,7,8,18,19,20] (.l [0,7,8,18,19,20,21] (.s G3 (.s (.b [0,7,8,18,19,20,21] .z) .z)))))) .z))))) (.j [0,18,19] G3 G4)))))))) G2)))) s11 s12 s13)
def b9:Fun:=fun a b=>U3 a fun a c d=>(bld [(false,1,.nils),(false,1,.nils),(false,1,.nils),(false,1,(I 1)),(false,1,a),(false,1,c),(false,1,d),(false,1,(I 52)),(false,1,.nils),(false,1,.nils),(false,1,(I 0)),(false,1,.nils),(false,1,(I 0))] fun a=>mk b (cells (.agg a)) fun a b=>rk a b)
def s9:Fun:=b9
theorem F9:Sd 9 s9:=so gn Tryz.func9 (by kernel_rfl:b9 = D [] Tryz.f9 G3)
def b19 (s9:Fun):Fun:=fun a b=>uz a (cl (s9 [(.str 1 77),(.str 16 154706541852025644484233205990057992554),(I 33)] b) fun a b=>rk a b)
def s19:Fun:=b19 s9
theorem F19:Sd 19 s19:=so (F9.c gn) Tryz.func19 ((fun a=>by kernel_rfl:∀ a,b19 a = D [(9,a)] Tryz.f19 G3) s9)
def b38 (s11 s12 s33:Fun):Fun:=fun a b=>U2 a fun a c=>(cl (s12 [a,c] b) fun b d=>sCat (.str 1 99) c fun c=>bld [(false,1,(J 7))] fun f=>mkS d 1 1 f fun d f=>cl (s11 [b] f) fun b f=>apd f 1 1 d b fun b d=>cl (s33 [a,c,b,(I 1)] d) fun a b=>rk a b)
def s38:Fun:=b38 s11 s12 s33
theorem F38:Sd 38 s38:=so (F11.c (F12.c (F33.c gn))) Tryz.func38 ((fun a b c=>by kernel_rfl:∀ a b c,b38 a b c = D [(11,a),(12,b),(33,c)] Tryz.f38 G4) s11 s12 s33)
def L37n0 (s11 s38:Fun):List AV→Hp→Res:=fun a b=>u3 a fun a c d=>nl 8 b a fun f=>lenL f fun f=>ltN d f fun f=>ifB f (blk 1 (nl 8 b a fun f=>ixA 1 f d fun f=>ld1 b f fun f=>cl (s38 [a,f] b) fun b f=>cl (s11 [b] f) fun b f=>apd f 1 1 c b fun b c=>.norm [a,b,d] c) fun a b=>u3 a fun a c d=>iAdd d (I 1) fun d=>.norm [a,c,d] b) (.exit 0 [a,c] b)
def L37n1 (s11 s38:Fun):List AV→Hp→Res:=fun a b=>u4 a fun a c d f=>nl 1 b a fun g=>lenL g fun g=>ltN f g fun g=>ifB g (blk 3 (nl 1 b a fun g=>ixA 1 g f fun g=>ld1 b g fun g=>apd b 1 1 d g fun b d=>.norm [a,c,b,f] d) fun a b=>u4 a fun a c d f=>iAdd f (I 1) fun f=>.norm [a,c,d,f] b) (.exit 2 [c,d] b)
def b37 (s11 s38:Fun):Fun:=fun a b=>U1 a fun a=>(nl 4 b a fun c=>na 5 a fun d=>ld1 b d fun f=>cl (s38 [a,c] b) fun b c=>ld1 c d fun d=>same f d (cl (s38 [a,f] c) fun c d=>nl 6 d a fun f=>cl (s11 [f] d) fun d f=>cl (s11 [b] f) fun b f=>apd f 1 1 d b fun b d=>cl (s11 [c] d) fun c d=>apd d 1 1 b c fun b c=>nl 8 c a fun d=>lenL d fun d=>cl (s11 [d] c) fun c d=>apd d 1 1 b c fun b c=>blk 0 (lp (L37n0 s11 s38) most [a,b,(I 0)] c) fun a b=>u2 a fun a c=>nl 10 b a fun d=>cl (s11 [d] b) fun b d=>apd d 1 1 c b fun b c=>nl 9 c a fun d=>apd c 1 1 b d fun b c=>nl 12 c a fun d=>cl (s11 [d] c) fun c d=>apd d 1 1 b c fun b c=>nl 11 c a fun d=>apd c 1 1 b d fun b c=>bld [(false,1,(J 0)),(false,1,(J 0))] fun d=>mkS c 1 2 d fun c d=>apd d 1 1 b c fun b c=>nl 7 c a fun d=>iShr d (.int 64 (.ofNat 8)) fun d=>iConv 8 d fun d=>nl 7 c a fun f=>iConv 8 f fun f=>bld [(false,1,(J 202)),(false,1,(J 254)),(false,1,(J 186)),(false,1,(J 190)),(false,1,(J 0)),(false,1,(J 0)),(false,1,d),(false,1,f)] fun d=>mkS c 1 8 d fun c d=>nl 3 d a fun f=>cl (s11 [f] d) fun d f=>apd f 1 1 c d fun c d=>blk 2 (lp (L37n1 s11 s38) most [a,b,c,(I 0)] d) fun a b=>u2 a fun a c=>apd b 1 1 c a fun a b=>rk a b))
def s37:Fun:=b37 s11 s38
theorem F37:Sd 37 s37:=so (F11.c (F38.c gn)) Tryz.func37 ((fun a b=>by kernel_rfl:∀ a b,b37 a b = D [(11,a),(38,b)] Tryz.f37 (Gs (.s (.r [0,1,2,3,4,6,7,8,9,10,5,11,12,13]) (Gs (Gs (Gs (.s (Gs (.b [0,5] (.l [0,5,6] (.s G3 (.s (.b [0,5,6] .z) .z))))) (Gs (Gs (Gs (Gs (Gs (.s (.r [0,1,2,3,4,5,6,7,8,9,10,11,12]) (Gs (.s (Gs (.b [5,7] (.l [0,5,7,8] (.s G3 (.s (.b [0,5,7,8] .z) .z))))) G2))))))))))))))) s11 s38)
def L20n0 (s35 s36 s37:Fun):List AV→Hp→Res:=fun a b=>u3 a fun a c d=>lenL a fun f=>ltN d f fun f=>ap (gsel (.bool f) true c) fun g=>gj (.bool f) true (nck g fun a=>.norm [a] b) b fun b g=>gj (.bool f) true (fa 0 b fun a=>.norm [a] g) g fun b g=>gj (.bool f) true (ld1 g b fun a=>.norm [a] g) g fun b g=>gj (.bool f) true (eqP b .nilp fun a=>.norm [(.bool (bnot a))] g) g fun b g=>cB (.bool f) fun f=>ap (sel f b (.bool false)) fun b=>cB b fun b=>ifB b (blk 1 (nm (.norm [c] g) fun b _=>nm (nck b fun a=>.norm [a] g) fun b _=>nm (fa 0 b fun a=>.norm [a] g) fun b _=>nm (ld1 g b fun a=>.norm [a] g) fun f _=>nm (.norm [a] g) fun h _=>nm (.norm [d] g) fun i _=>nm (ixA 1 h i fun a=>.norm [a] g) fun h _=>nm (ld1 g h fun a=>.norm [a] g) fun i _=>nm (nck i fun a=>.norm [a] g) fun j _=>nm (fa 4 j fun a=>.norm [a] g) fun j _=>nm (ld1 g j fun a=>.norm [a] g) fun k _=>nm (.norm [a] g) fun l _=>nm (.norm [d] g) fun m _=>nm (ixA 1 l m fun a=>.norm [a] g) fun l _=>nm (ld1 g l fun a=>.norm [a] g) fun m _=>nm (.norm [(.cons (I 0) (.cons (I 0) (.cons (J 0) (.cons (I 0) (.cons (.str 0 0) (.cons (.str 0 0) (.cons (.bool false) (.cons (I 0) (.cons .nils (.cons (I 0) (.cons (I 0) .nil)))))))))))] g) fun n _=>lay n .e 0 fun n o=>ifB true (rsv g fun g p=>nm (ld1 p l fun a=>.norm [a] p) fun l _=>same m l (nm (ld1 p j fun a=>.norm [a] p) fun l _=>same k l (nm (ld1 p h fun a=>.norm [a] p) fun l _=>same i l (nm (ld1 p b fun a=>.norm [a] p) fun l _=>same f l (nm (cl (s37 [m] p) fun a b=>.norm [a] b) fun l m=>nm (ld1 m j fun a=>.norm [a] m) fun j _=>same k j (nm (ld1 m h fun a=>.norm [a] m) fun j _=>same i j (nm (ld1 m b fun a=>.norm [a] m) fun b _=>same f b (nm (bld [(false,1,(I 1)),(false,1,k),(false,1,l),(false,1,(.str 0 0)),(false,1,.nils),(false,1,(I 0))] fun a=>.norm [(.agg a)] m) fun b _=>nm (cl (s36 [f,b] m) fun a b=>.norm [a] b) fun b f=>nm (ld1 f h fun a=>.norm [a] f) fun j _=>same i j (dueK f g o n fun f=>nm (ld1 f h fun a=>.norm [a] f) fun h _=>same i h (nm (stN f 11 (.ptr g 0) b fun a=>.norm [(.tup .nil)] a) fun _ b=>nl 1 b c fun f=>gj f true (fa 0 (.ptr g 0) fun a=>.norm [a] b) b fun b g=>gj f true (ld1 g b fun a=>.norm [a] g) g fun b g=>gj f true (eqN b (I 0) fun a=>.norm [(.bool a)] g) g fun b g=>cB f fun f=>ap (sel f b (.bool false)) fun b=>na 1 c fun f=>st1 g f b fun b=>.norm [a,c,d] b)))))))))) .fail) fun a b=>u3 a fun a c d=>iAdd d (I 1) fun d=>.norm [a,c,d] b) (.exit 0 [c] g)
def b20 (s35 s36 s37:Fun):Fun:=fun a b=>U1 a fun a=>(cl (s35 [] b) fun b c=>bld [(false,1,b),(false,1,(.bool true))] fun b=>mk c (cells (.agg b)) fun b c=>blk 0 (lp (L20n0 s35 s36 s37) most [a,b,(I 0)] c) fun a b=>u1 a fun a=>nl 1 b a fun c=>ap (gsel c true a) fun d=>gj c true (nck d fun a=>.norm [a] b) b fun b d=>gj c true (fa 0 b fun a=>.norm [a] d) d fun b d=>gj c true (ld1 d b fun a=>.norm [a] d) d fun b d=>gj c true (eqP b .nilp fun a=>.norm [(.bool (bnot a))] d) d fun b d=>cB c fun c=>ap (sel c b (.bool false)) fun b=>na 1 a fun c=>st1 d c b fun b=>rk a b)
def s20:Fun:=b20 s35 s36 s37
theorem F20:Sd 20 s20:=so (F35.c (F36.c (F37.c gn))) Tryz.func20 ((fun a b c=>by kernel_rfl:∀ a b c,b20 a b c = D [(35,a),(36,b),(37,c)] Tryz.f20 (Gs (Gs (.s (Gs (.b [3] (.l [0,3,4] (.s G3 (.s (.b [0,3,4] (.s (.f [(0,0),(0,1),(0,2),(0,3),(0,4),(0,5),(0,6),(0,7),(0,8),(0,9),(0,10),(0,11),(0,12),(0,13),(0,14),(1,18),(0,15),(0,16),(0,17),(2,18),(0,19)]) .z)) .z))))) G3)))) s35 s36 s37)
def b22 (s36:Fun):Fun:=fun a b=>U4 a fun a c d f=>(mk b (.cons (I 0) (.cons (I 0) (.cons (J 0) (.cons (I 0) (.cons (.str 0 0) (.cons (.str 0 0) (.cons (.bool false) (.cons (I 0) (.cons .nils (.cons (I 0) (.cons (I 0) .nil))))))))))) fun b g=>nl 0 g a fun a=>bld [(false,1,(I 2)),(false,1,(.str 1 77)),(false,1,.nils),(false,1,c),(false,1,f),(false,1,d)] fun c=>cl (s36 [a,(.agg c)] g) fun a c=>stN c 11 b a fun a=>ldN a 11 b fun b=>.ret b a)
def s22:Fun:=b22 s36
theorem F22:Sd 22 s22:=so (F36.c gn) Tryz.func22 ((fun a=>by kernel_rfl:∀ a,b22 a = D [(36,a)] Tryz.f22 G3) s36)
def b25 (s11:Fun):Fun:=fun a b=>U2 a fun a c=>(iConv 8 a fun a=>bld [(false,1,a)] fun a=>mkS b 1 1 a fun a b=>cl (s11 [c] b) fun b c=>apd c 1 1 a b fun a b=>rk a b)
def s25:Fun:=b25 s11
theorem F25:Sd 25 s25:=so (F11.c gn) Tryz.func25 ((fun a=>by kernel_rfl:∀ a,b25 a = D [(11,a)] Tryz.f25 G3) s11)
def b34 (s11 s12 s33 s38:Fun):Fun:=fun a b=>U5 a fun a c d f g=>(cl (s38 [a,d] b) fun b h=>cl (s12 [a,f] h) fun h i=>cl (s12 [a,g] i) fun i j=>bld [(false,1,(J 12))] fun k=>mkS j 1 1 k fun j k=>cl (s11 [h] k) fun h k=>apd k 1 1 j h fun h j=>sCat (.str 1 110) f fun k=>sCat k (.str 1 58) fun k=>sCat k g fun k=>cl (s11 [i] j) fun i j=>apd j 1 1 h i fun h i=>cl (s33 [a,k,h,(I 1)] i) fun h i=>iConv 8 c fun j=>bld [(false,1,j)] fun j=>mkS i 1 1 j fun i j=>cl (s11 [b] j) fun b j=>apd j 1 1 i b fun b i=>nm (.norm [a] i) fun a _=>nm (.norm [c] i) fun c _=>nm (iAdd (I 48) c fun a=>.norm [a] i) fun c _=>nm (iConv 8 c fun a=>.norm [a] i) fun c _=>nm (.norm [d] i) fun d _=>nm (.norm [f] i) fun f _=>nm (.norm [g] i) fun g _=>nm (.norm [b] i) fun b _=>nm (.norm [h] i) fun h _=>nm (bld [(false,1,c)] fun a=>.norm [a] i) fun c _=>lay c .e 0 fun c j=>ifB (Nat.beq j (Nat.mul 1 1)) (rsv i fun i k=>nm (b2s (dueH k i j c) (.sl i 0 1 1 (some 1)) fun a=>.norm [a] (dueH k i j c)) fun l _=>nm (sCat l d fun a=>.norm [a] k) fun d _=>nm (sCat d (.str 1 46) fun a=>.norm [a] k) fun d _=>nm (sCat d f fun a=>.norm [a] k) fun d _=>nm (sCat d (.str 1 58) fun a=>.norm [a] k) fun d _=>nm (sCat d g fun a=>.norm [a] k) fun d _=>nm (cl (s11 [h] k) fun a b=>.norm [a] b) fun f g=>nm (b2s (dueH g i j c) (.sl i 0 1 1 (some 1)) fun a=>.norm [a] (dueH g i j c)) fun h _=>same l h (nm (apd g 1 1 b f fun a b=>.norm [a] b) fun b f=>nm (b2s (dueH f i j c) (.sl i 0 1 1 (some 1)) fun a=>.norm [a] (dueH f i j c)) fun g _=>same l g (nm (cl (s33 [a,d,b,(I 1)] f) fun a b=>.norm [a] b) fun a b=>nm (b2s (dueH b i j c) (.sl i 0 1 1 (some 1)) fun a=>.norm [a] (dueH b i j c)) fun d _=>same l d (nm (.norm [a] b) fun a _=>dueK b i j c fun b=>nm (b2s b (.sl i 0 1 1 (some 1)) fun a=>.norm [a] b) fun c _=>same l c (rk a b))))) .fail)
def s34:Fun:=b34 s11 s12 s33 s38
theorem F34:Sd 34 s34:=so (F11.c (F12.c (F33.c (F38.c gn)))) Tryz.func34 ((fun a b c d=>by kernel_rfl:∀ a b c d,b34 a b c d = D [(11,a),(12,b),(33,c),(38,d)] Tryz.f34 (Gs (Gs (Gs (Gs (Gs (Gs (Gs (.s (.f [(0,0),(0,1),(0,2),(0,3),(0,6),(0,9),(0,12),(0,14),(0,15),(1,4),(0,5),(0,7),(0,8),(0,10),(0,11),(0,13),(0,16),(0,17),(0,18),(0,19),(2,4)]) .z))))))))) s11 s12 s33 s38)
def b24 (s10 s25 s34 s38:Fun):Fun:=fun a b=>U2 a fun a c=>(cl (s38 [a,c] b) fun b d=>cl (s25 [(I 187),b] d) fun b d=>bld [(false,1,(J 89))] fun f=>mkS d 1 1 f fun d f=>cl (s34 [a,(I 10),c,(.str 6 68669705972028),(.str 3 5646632)] f) fun a c=>cl (s25 [(I 183),a] c) fun a c=>bld [(false,1,b),(false,1,d),(false,1,a)] fun a=>mkS c 1 3 a fun a b=>cl (s10 [a] b) fun a b=>rk a b)
def s24:Fun:=b24 s10 s25 s34 s38
theorem F24:Sd 24 s24:=so (F10.c (F25.c (F34.c (F38.c gn)))) Tryz.func24 ((fun a b c d=>by kernel_rfl:∀ a b c d,b24 a b c d = D [(10,a),(25,b),(34,c),(38,d)] Tryz.f24 G3) s10 s25 s34 s38)
def b26 (s25 s34:Fun):Fun:=fun a b=>U4 a fun a c d f=>(cl (s34 [a,(I 10),c,d,f] b) fun a b=>cl (s25 [(I 182),a] b) fun a b=>rk a b)
def s26:Fun:=b26 s25 s34
theorem F26:Sd 26 s26:=so (F25.c (F34.c gn)) Tryz.func26 ((fun a b=>by kernel_rfl:∀ a b,b26 a b = D [(25,a),(34,b)] Tryz.f26 G3) s25 s34)
def b17 (s25 s34:Fun):Fun:=fun a b=>U4 a fun a c d f=>(cl (s34 [a,(I 9),c,d,f] b) fun a b=>cl (s25 [(I 178),a] b) fun a b=>rk a b)
def s17:Fun:=b17 s25 s34
theorem F17:Sd 17 s17:=so (F25.c (F34.c gn)) Tryz.func17 ((fun a b=>by kernel_rfl:∀ a b,b17 a b = D [(25,a),(34,b)] Tryz.f17 G3) s25 s34)
def b27 (s17:Fun):Fun:=fun a b=>U1 a fun a=>(cl (s17 [a,(.str 16 145412635431568811361768410208787652970),(.str 3 7632239),(.str 21 86853048606115020859032997575803556797492651715148)] b) fun a b=>rk a b)
def s27:Fun:=b27 s17
theorem F27:Sd 27 s27:=so (F17.c gn) Tryz.func27 ((fun a=>by kernel_rfl:∀ a,b27 a = D [(17,a)] Tryz.f27 G3) s17)
def L5n0 (s8 s10 s14 s16 s19 s20 s22 s24 s25 s26 s27:Fun):List AV→Hp→Res:=fun a b=>u7 a fun a c d f g h i=>lenL a fun j=>ltN i j fun j=>ifB j (blk 1 (ixA 1 a i fun j=>ld1 b j fun j=>iConv 63 j fun j=>cl (s14 [d,j] b) fun b j=>cl (s25 [(I 19),b] j) fun b j=>cl (s26 [d,f,(.str 6 110425311047777),(.str 28 6260485019439425252614312435813236600861718953314767591699208815400)] j) fun j k=>bld [(false,1,g),(false,1,b),(false,1,j)] fun b=>mkS k 1 3 b fun b g=>cl (s10 [b] g) fun b g=>.norm [a,c,d,f,b,h,i] g) fun a b=>u7 a fun a c d f g h i=>iAdd i (I 1) fun i=>.norm [a,c,d,f,g,h,i] b) (.exit 0 [a,c,d,f,g,h] b)
def L5n1 (s8 s10 s14 s16 s19 s20 s22 s24 s25 s26 s27:Fun):List AV→Hp→Res:=fun a b=>u7 a fun a c d f g h i=>lenL a fun j=>ltN i j fun j=>ifB j (blk 3 (ixA 1 a i fun j=>ld1 b j fun j=>iConv 31 j fun j=>jn (ltN j (K 55296) fun k=>ap (gsel (.bool (bnot k)) true j) fun l=>gj (.bool (bnot k)) true (ltN (K 57343) l fun a=>.norm [(.bool (bnot a))] b) b fun b l=>cB (.bool (bnot k)) fun k=>ap (sel k b (.bool false)) fun b=>cB b fun b=>ifB b (ltN j (K 56320) fun b=>ap (gsel (.bool b) true i) fun k=>gj (.bool b) true (iAdd k (I 1) fun a=>.norm [a] l) l fun k l=>ap (gsel (.bool b) true a) fun m=>gj (.bool b) true (lenL m fun a=>.norm [a] l) l fun l m=>gj (.bool b) true (ltN k l fun a=>.norm [(.bool a)] m) m fun k l=>cB (.bool b) fun b=>ap (sel b k (.bool false)) fun b=>ap (gsel b true a) fun k=>ap (gsel b true i) fun m=>gj b true (iAdd m (I 1) fun a=>.norm [a] l) l fun l m=>gj b true (ixA 1 k l fun a=>.norm [a] m) m fun k l=>gj b true (ld1 l k fun a=>.norm [a] l) l fun k l=>gj b true (ltN k (.int 16 (.ofNat 56320)) fun a=>.norm [(.bool (bnot a))] l) l fun k l=>cB b fun b=>ap (sel b k (.bool false)) fun b=>ap (gsel b true a) fun k=>ap (gsel b true i) fun m=>gj b true (iAdd m (I 1) fun a=>.norm [a] l) l fun l m=>gj b true (ixA 1 k l fun a=>.norm [a] m) m fun k l=>gj b true (ld1 l k fun a=>.norm [a] l) l fun k l=>gj b true (ltN (.int 16 (.ofNat 57343)) k fun a=>.norm [(.bool (bnot a))] l) l fun k l=>cB b fun b=>ap (sel b k (.bool false)) fun b=>cB b fun b=>ifB b (iSub j (K 55296) fun b=>iMul b (K 1024) fun b=>iAdd (K 65536) b fun b=>iAdd i (I 1) fun j=>ixA 1 a j fun j=>ld1 l j fun j=>iConv 31 j fun j=>iAdd b j fun b=>iSub b (K 56320) fun b=>iAdd i (I 1) fun i=>.norm [a,c,d,f,g,h,i,b] l) (.norm [a,c,d,f,g,h,i,(K 63)] l)) (.norm [a,c,d,f,g,h,i,j] l)) fun a b=>u8 a fun a c d f g h i j=>iStr j fun j=>apd b 1 1 h j fun b h=>.norm [a,c,d,f,g,b,i] h) fun a b=>u7 a fun a c d f g h i=>iAdd i (I 1) fun i=>.norm [a,c,d,f,g,h,i] b) (.exit 2 [c,d,f,g,h] b)
def b5K (s8 s10 s14 s16 s19 s20 s22 s24 s25 s26 s27:Fun) (j1 j2:Nat→Fun) (b0:Nat) (a c:AV) (b:Hp):Res:=cl (s19 [] b) fun b d=>cl (s24 [b,(.str 23 10956966084090815260342509131105871416374185281426186602)] d) fun d f=>blk 0 (j1 b0 [a,c,b,(.str 23 10956966084090815260342509131105871416374185281426186602),d,.nils,(I 0)] f) fun a b=>u6 a fun a c d f g h=>blk 2 (j2 b0 [a,c,d,f,g,h,(I 0)] b) fun a b=>u5 a fun a c d f g=>bld [] fun h=>mkS b 1 0 h fun b h=>cl (s26 [c,d,(.str 8 7453010373643562868),(.str 20 339137050467292191589805048747422779071890467112)] h) fun d h=>bld [(false,1,(J 75))] fun i=>mkS h 1 1 i fun h i=>cl (s27 [c] i) fun i j=>bld [(false,1,(J 42))] fun k=>mkS j 1 1 k fun j k=>cl (s26 [c,(.str 19 2439265639030268300842157990401791553877467498),(.str 5 500068610672),(.str 21 125924534186164816246133852188561726513007718714408)] k) fun k l=>bld [(false,1,(J 177))] fun m=>mkS l 1 1 m fun l m=>bld [(false,1,b),(false,1,f),(false,1,d),(false,1,h),(false,1,i),(false,1,j),(false,1,k),(false,1,l)] fun b=>mkS m 1 8 b fun b d=>cl (s10 [b] d) fun b d=>cl (s16 [c,(I 9),(.str 2 28519),(.str 3 5646632),(I 3),(I 1),b,.nils,.nils] d) fun _ b=>bld [(false,1,c)] fun c=>mkS b 1 1 c fun b c=>cl (s20 [b] c) fun b c=>cl (s22 [b,(.str 2 28519),(I 200),.nils] c) fun c d=>mk d (.cons (I 0) (.cons (I 0) (.cons (J 0) (.cons (I 0) (.cons (.str 0 0) (.cons (.str 0 0) (.cons (.bool false) (.cons (I 0) (.cons .nils (.cons (I 0) (.cons (I 0) .nil))))))))))) fun d f=>stN f 11 d c fun c=>ap (gsel a true b) fun b=>gj a true (nck b fun a=>.norm [a] c) c fun b c=>gj a true (fa 1 b fun a=>.norm [a] c) c fun b c=>gj a true (ld1 c b fun a=>.norm [a] c) c fun b c=>cB a fun a=>ap (sel a b (.bool false)) fun a=>gj a true (fa 1 d fun a=>.norm [a] c) c fun b c=>gj a true (ld1 c b fun a=>.norm [a] c) c fun b c=>gj a true (eqN b (I 1) fun a=>.norm [(.bool a)] c) c fun b c=>cB a fun a=>ap (sel a b (.bool false)) fun a=>gj a true (fa 8 d fun a=>.norm [a] c) c fun b c=>gj a true (ld1 c b fun a=>.norm [a] c) c fun b c=>gj a true (b2sT c b fun a=>.norm [a] c) c fun b c=>ap (gsel a true g) fun d=>gj a true (b2sT c d fun a=>.norm [a] c) c fun c d=>gj a true (eqS b c fun a=>.norm [(.bool a)] d) d fun b c=>cB a fun a=>ap (sel a b (.bool false)) fun a=>rk a c
def b5J (s8 s10 s14 s16 s19 s20 s22 s24 s25 s26 s27:Fun) (j1 j2:Nat→Fun):Fun:=fun a b=>(fun b0=>U1 a fun a=>(cl (s8 [] b) fun b c=>bNot b fun d=>cB d fun d=>ifB d (.fail) (jn (lenL a fun d=>ltN (I 12) d fun d=>ifB d (cutS 1 a none (some (I 12)) none fun a=>.norm [a,b] c) (.norm [a,b] c)) fun a b=>u2 a fun a c=>b5K s8 s10 s14 s16 s19 s20 s22 s24 s25 s26 s27 j1 j2 b0 a c b))) b.nb
def b5 (s8 s10 s14 s16 s19 s20 s22 s24 s25 s26 s27:Fun):Fun:=b5J s8 s10 s14 s16 s19 s20 s22 s24 s25 s26 s27 (fun _=>lp (L5n0 s8 s10 s14 s16 s19 s20 s22 s24 s25 s26 s27) most) (fun _=>lp (L5n1 s8 s10 s14 s16 s19 s20 s22 s24 s25 s26 s27) most)
def s5:Fun:=b5 s8 s10 s14 s16 s19 s20 s22 s24 s25 s26 s27
theorem F5:Sd 5 s5:=so (F8.c (F10.c (F14.c (F16.c (F19.c (F20.c (F22.c (F24.c (F25.c (F26.c (F27.c (ge gn)))))))))))) Tryz.func5 ((fun a b c d e f h i j k l=>by kernel_rfl:∀ a b c d e f h i j k l,b5 a b c d e f h i j k l = D [(8,a),(10,b),(14,c),(16,d),(19,e),(20,f),(22,h),(24,i),(25,j),(26,k),(27,l),(1000000001,ff)] Tryz.f5 (Gs (Gs (.s G3 (.j [0,3] G3 (Gs (Gs (Gs (Gs (.s (Gs (.b [0,3,4,5,6,7] (.l [0,3,4,5,6,7,8] (.s G3 (.s (.b [0,3,4,5,6,7,8] .z) .z))))) (.s (Gs (.b [3,4,5,6,7] (.l [0,3,4,5,6,7,9] (.s G3 (.s (.b [0,3,4,5,6,7,9] (Gs (.j [0,3,4,5,6,7,9,10] (Gs (.s (Gs (.s G2 .z)) .z)) .z))) .z))))) G6))))))))))) s8 s10 s14 s16 s19 s20 s22 s24 s25 s26 s27)
end
end Go.Proofs.YtbkkfmjofmfijaaGreatDoor
