/-
  The reader of stated frames, and what they mean: what each function answers (part Nc).
-/
import Derived.Test.YtnpfppddongbhaaNb
set_option linter.unusedVariables false
set_option linter.unusedSimpArgs false
section
namespace Go.Proofs.Ytnpfppddongbhaa
open Go Go.AM
set_option autoImplicit false
/-! ### the reference's round: what is behind the locals -/
noncomputable def Z65 : List AV → Hp → Res := fun w147 h148 => uc w147 fun v149 w150 => uc w150 fun v151 w152 => uc w152 fun v153 w154 => uc w154 fun v155 w156 => uc w156 fun v157 w158 => uc w158 fun v159 w160 => uc w160 fun v161 w162 => uc w162 fun v163 w164 => uc w164 fun v165 w166 => uc w166 fun v167 _ => cl (s91 [v161, (.int 63 (.ofNat 0))] h148) fun v168 h169 => cP v167 fun b170 o171 => ld1 h169 (.ptr b170 (Nat.add o171 3)) fun v172 => cl (s90 [v172, v151] h169) fun v173 h174 => cl (s91 [v173, (.int 63 (.ofNat 99))] h174) fun v175 h176 => lenL v168 fun v177 => ltN v153 v177 fun b178 => ap (gsel (.bool b178) false v175) fun v179 => jn (gd (.bool b178) false (lenL v179 fun v180 => .norm [v180] h176) (.norm [.tup .nil] h176)) fun w182 h181 => uc w182 fun v183 _ => ap (gsel (.bool b178) false v155) fun v184 => jn (gd (.bool b178) false (ltN v184 v183 fun b185 => .norm [(.bool b185)] h181) (.norm [.tup .nil] h181)) fun w187 h186 => uc w187 fun v188 _ => cB (.bool b178) fun b189 => ap (sel b189 (.bool true) v188) fun v190 => cB v190 fun b191 => ifB b191 (cK .nils fun v192 => cK .nils fun v193 => cK (.bool false) fun v194 => .ret (.tup (.cons v192 (.cons v193 (.cons v194 .nil)))) h186) (cl (s92 [v168, v153] h186) fun v195 h196 => bld [(false, 1, v195), (false, 1, v175)] fun l197 => bld [(true, 2, (.agg l197))] fun l198 => mkS h196 2 1 l198 fun v199 h200 => apd h200 2 48 v157 v199 fun v201 h202 => bld [(false, 1, v163)] fun l203 => mkS h202 1 1 l203 fun v204 h205 => apd h205 1 8 v159 v204 fun v206 h207 => .norm [v149, v151, v153, v155, v201, v206, v161, v163, v165] h207)
theorem bF {a b : AV} (h1 : one a = true) (h2 : one b = true) (k : AV → Res) : (bld [(false, 1, a), (false, 1, b)] fun l => bld [(true, 2, (.agg l))] k) = k (avL [a, b]) := by
  have e : (bld [(false, 1, a), (false, 1, b)] fun l => bld [(true, 2, (.agg l))] k) = ifB (one a) (ifB (one b) (bld [(true, 2, (.agg (avL [a, b])))] k) .fail) .fail := rfl
  rw [e, h1, h2, ifB_t, ifB_t]; rfl
theorem bA1 (a : Nat) (k : AV → Res) : bld [(false, 1, .int 63 (a : Int))] k = k (avL (aR a)) := of_eq_true (eq_self _)
def KK (F A : Nat → Prop) (x : Nat) : Prop := ¬ F x ∧ ¬ A x
noncomputable def no3 : AV := .tup (.cons .nils (.cons .nils (.cons (.bool false) .nil)))
theorem z65 {h : Hp} {N0 N S pb mb pl tag delta : Nat} {F A : Nat → Prop} {fs at_ v vl vs maps i : AV} {fv : List Fv} {ats : List Nat} {l st : List Vt}
    (hw : Wf h) (hN0 : N0 ≤ h.nb) (hF : ∀ x, F x → N0 ≤ x ∧ x < h.nb) (hA : ∀ x, A x → N0 ≤ x ∧ x < h.nb) (hFA : ∀ x, F x → ¬ A x)
    (rf : PF h F (KK F A) fs fv) (ra : Rws h A 1 at_ (ats.map aR)) (rl : Rwc h (KK F A) 3 v (l.map vR)) (hm : Ce h mb (mL tag delta vl vs)) (hmF : KK F A mb)
    (rs : Rws h (KK F A) 3 vs (st.map vR)) (hp : Pool h pb) (hpb : pb < N0) (hl : l.length ≤ 100000) (hst : st.length ≤ 90000) (hN : N ≤ 100000) (hfv : fv.length ≤ 90000) (hats : ats.length ≤ 90000) :
    ∃ h', To (fun x => N0 ≤ x) h h' ∧ Wf h' ∧
      ((N < (l.flatMap (wid 0)).length ∨ S < ((st.map nmd).flatMap (wid 99)).length) ∧ Z65 [maps, plv pb, .int 63 (N : Int), .int 63 (S : Int), fs, at_, v, .int 63 (pl : Int), i, .ptr mb 0] h = .ret no3 h' ∨
       ¬ (N < (l.flatMap (wid 0)).length ∨ S < ((st.map nmd).flatMap (wid 99)).length) ∧ ∃ fs' at' F' A', Z65 [maps, plv pb, .int 63 (N : Int), .int 63 (S : Int), fs, at_, v, .int 63 (pl : Int), i, .ptr mb 0] h = .norm [maps, plv pb, .int 63 (N : Int), .int 63 (S : Int), fs', at', v, .int 63 (pl : Int), i] h' ∧
         (∀ x, F' x → N0 ≤ x ∧ x < h'.nb) ∧ (∀ x, A' x → N0 ≤ x ∧ x < h'.nb) ∧ (∀ x, F' x → ¬ A' x) ∧ PF h' F' (KK F' A') fs' (fv ++ [⟨pl, fil (l.flatMap (wid 0)) N, st.map nmd⟩]) ∧ Rws h' A' 1 at' ((ats ++ [pl]).map aR) ∧ Rwc h' (KK F' A') 3 v (l.map vR)) := by
  obtain ⟨o1, h1, e1, r1, t1, w1⟩ := t91c rl hw hl 0
  have e1 : s91 [v, .int 63 0] h = .ret o1 h1 := e1
  have hm1 := hm.to t1 (fun f => f)
  have y3 : ∀ kk : AV → Res, ld1 h1 (.ptr mb (Nat.add 0 3)) kk = kk vs := fun kk => Ce.l hm1 3 (by simp [mL]) kk
  have y3' : ∀ kk : AV → Res, ld1 h1 (.ptr mb 3) kk = kk vs := y3
  have hp1 := hp.to t1 (fun f => f)
  obtain ⟨o2, h2, e2, r2, t2, w2⟩ := t90 (rs.to t1 (fun _ _ _ f => f)) w1 hp1 (by omega)
  obtain ⟨o3, h3, e3, r3, t3, w3⟩ := t91 r2 w2 (by simp; omega) 99
  have e3 : s91 [o2, .int 63 99] h2 = .ret o3 h3 := e3
  have T3 : To No h h3 := (t1.trans t2).trans t3
  have r1' := (r1.to t2 (fun _ _ _ f => f)).to t3 (fun _ _ _ f => f)
  have ln1 := fun kk => vR_len r1' kk
  have ln1' := fun kk => vR_len r1 kk
  have ln3 := fun kk => vR_len r3 kk
  have hL := wid_len 0 l
  have hS := wid_len 99 (st.map nmd)
  have n1 := t1.nb
  have n2 := t2.nb
  have n3 := t3.nb
  have gs : ∀ x : AV, gsel (.bool false) false x = x := fun x => rfl
  by_cases cN : N < (l.flatMap (wid 0)).length
  · have c1 : (N : Int) < ((l.flatMap (wid 0)).length : Int) := by omega
    exact ⟨h3, T3.mono fun _ _ f => f.elim, w3, .inl ⟨.inl cN, by
      simp only [↓Z65, ↓e1, ↓cP_p, ↓y3, ↓y3', ↓e2, ↓e3, ↓ln1, ↓ln1', c1, ↓cK_nils, ↓SD, SA, Int.ofNat_eq_natCast, Int.cast_ofNat_Int, Int.reduceBEq, Int.reduceAdd, Int.reduceNeg, Int.reduceNegSucc, Int.reduceLT, Int.reduceLE, Int.reduceMul, Int.reduceTMod, Int.reduceSub, Int.reduceBNe, Bool.not_true, Bool.not_false, decide_true, decide_false, ne_eq, not_false_eq_true, Int.reduceEq, reduceCtorEq]; rfl⟩⟩
  have c1 : ¬ (N : Int) < ((l.flatMap (wid 0)).length : Int) := by omega
  by_cases cS : S < ((st.map nmd).flatMap (wid 99)).length
  · have c2 : (S : Int) < (((st.map nmd).flatMap (wid 99)).length : Int) := by omega
    exact ⟨h3, T3.mono fun _ _ f => f.elim, w3, .inl ⟨.inr cS, by
      simp only [↓Z65, ↓e1, ↓cP_p, ↓y3, ↓y3', ↓e2, ↓e3, ↓ln1, ↓ln1', c1, ↓gs, ↓ln3, c2, ↓cK_nils, ↓SD, SA, Int.ofNat_eq_natCast, Int.cast_ofNat_Int, Int.reduceBEq, Int.reduceAdd, Int.reduceNeg, Int.reduceNegSucc, Int.reduceLT, Int.reduceLE, Int.reduceMul, Int.reduceTMod, Int.reduceSub, Int.reduceBNe, Bool.not_true, Bool.not_false, decide_true, decide_false, ne_eq, not_false_eq_true, Int.reduceEq, reduceCtorEq]; rfl⟩⟩
  have c2 : ¬ (S : Int) < (((st.map nmd).flatMap (wid 99)).length : Int) := by omega
  obtain ⟨o4, h4, e4, r4, t4, w4⟩ := t92 r1' w3 (by omega) N hN
  have T4 : To No h h4 := T3.trans t4
  have n4 := t4.nb
  have rf4 : PF h4 F (KK F A) fs fv := rf.to T4 (fun _ _ _ f => f) (fun _ _ _ f => f)
  have kn : ∀ x, h.nb ≤ x → KK F A x := fun x hx => ⟨fun f => by have := hF x f; omega, fun f => by have := hA x f; omega⟩
  obtain ⟨fs', h5, h6, g1, g2, g3, g4, g5⟩ := PX.app (mk := fR) (p := fun f => f.loc.map vR) (q := fun f => (f.stk.flatMap (wid 99)).map vR) w4 rf4 (fun x hx => hx.1) (⟨pl, fil (l.flatMap (wid 0)) N, st.map nmd⟩ : Fv) (vl := o4) (vs := o3)
    (r4.mono fun x hx _ => kn x (by have : h3.nb ≤ x := hx; omega)) ((r3.to t4 (fun _ _ _ f => f)).mono fun x hx _ => kn x (by have : h2.nb ≤ x := hx; omega)) (by omega) 48 (by decide) (by decide) rfl (by
      intro x hx; simp only [fR, List.mem_cons, List.not_mem_nil, or_false] at hx; rcases hx with rfl | rfl; exact r4.one; exact r3.one)
  have n6 := g4.nb
  have ra6 := (ra.to T4 (fun _ _ _ f => f)).to g4 (fun x hx _ f => hFA x f hx)
  obtain ⟨at', h7, h8, q1, q2, q3, q4, q5⟩ := apd_rows (by_ := 8) g5 ra6 (by decide) (aR pl) rfl (by simp [aR, one]) (by simp; omega) (by simp; omega)
  have n8 := q4.nb
  have hbF := fun k => bF r4.one r3.one k
  have g1 : ∀ k : AV → Hp → Res, mkS h4 2 1 (avL [o4, o3]) k = k (.sl h4.nb 0 1 2 (some 1)) h5 := g1
  have rf6 : PF h6 (fun x => F x ∨ (h4.nb ≤ x ∧ x < h6.nb)) (KK (fun x => F x ∨ (h4.nb ≤ x ∧ x < h6.nb)) (fun x => A x ∨ (h6.nb ≤ x ∧ x < h8.nb))) fs' (fv ++ [⟨pl, fil (l.flatMap (wid 0)) N, st.map nmd⟩]) :=
    PX.mono g3 (fun x hx hlt => hx.elim .inl fun e => .inr ⟨e, hlt⟩) (fun x hx _ => ⟨fun f => f.elim hx.1.1 (fun e => by have := hx.2; omega), fun f => f.elim hx.1.2 (fun e => by have := hx.2; omega)⟩)
  refine ⟨h8, ((T4.mono fun _ _ f => f.elim).trans (g4.mono fun x _ f => (hF x f).1)).trans (q4.mono fun x _ f => (hA x f).1), q5, .inr ⟨by omega, fs', at', fun x => F x ∨ (h4.nb ≤ x ∧ x < h6.nb), fun x => A x ∨ (h6.nb ≤ x ∧ x < h8.nb), ?_, ?_, ?_, ?_, ?_, ?_, ?_⟩⟩
  · simp only [↓Z65, ↓e1, ↓cP_p, ↓y3, ↓y3', ↓e2, ↓e3, ↓ln1, ↓ln1', c1, ↓gs, ↓ln3, c2, ↓e4, ↓hbF, ↓bA1, ↓g1, ↓g2, ↓q1, ↓q2, ↓SD, SA, Int.ofNat_eq_natCast, Int.cast_ofNat_Int, Int.reduceBEq, Int.reduceAdd, Int.reduceNeg, Int.reduceNegSucc, Int.reduceLT, Int.reduceLE, Int.reduceMul, Int.reduceTMod, Int.reduceSub, Int.reduceBNe, Bool.not_true, Bool.not_false, decide_true, decide_false, ne_eq, not_false_eq_true, Int.reduceEq, reduceCtorEq]
  · intro x hx; rcases hx with hx | hx
    · have := hF x hx; omega
    · omega
  · intro x hx; rcases hx with hx | hx
    · have := hA x hx; omega
    · omega
  · intro x hx f
    rcases hx with hx | hx <;> rcases f with f | f
    · exact hFA x hx f
    · have := hF x hx; omega
    · have := hA x f; omega
    · omega
  · refine PX.to rf6 q4 (fun x hx _ f => ?_) (fun x hx _ f => hx.2 (.inl f))
    rcases hx with hx | hx
    · exact hFA x hx f
    · have := hA x f; omega
  · rw [List.map_append]
    exact q3.mono fun x hx hlt => hx.elim .inl fun e => .inr ⟨e, hlt⟩
  · refine ((((rl.mono (Q := fun x => KK F A x ∧ x < h.nb) fun x hx hlt => ⟨hx, hlt⟩).to T4 (fun _ _ _ f => f)).to g4 (fun x hx _ f => hx.1.1 f)).to q4 (fun x hx _ f => hx.1.2 f)).mono fun x hx _ => ⟨fun f => f.elim hx.1.1 (fun e => by have := hx.2; omega), fun f => f.elim hx.1.2 (fun e => by have := hx.2; omega)⟩
end Go.Proofs.Ytnpfppddongbhaa
end

section
namespace Go.Proofs.Ytnpfppddongbhaa
open Go Go.AM
set_option autoImplicit false
/-! ### the reference's round -/
noncomputable def Y65 : List AV → Hp → Res := fun w17 h18 => uc w17 fun v19 w20 => uc w20 fun v21 w22 => uc w22 fun v23 w24 => uc w24 fun v25 w26 => uc w26 fun v27 w28 => uc w28 fun v29 w30 => uc w30 fun v31 w32 => uc w32 fun v33 w34 => uc w34 fun v35 _ => lenL v19 fun v36 => ltN v35 v36 fun b37 => cB (.bool b37) fun b38 => ifB b38 (blk 1 (ixA 4 v19 v35 fun v39 => ldN h18 4 v39 fun v40 => mk h18 (.cons (.int 63 (.ofNat 0)) (.cons (.int 63 (.ofNat 0)) (.cons .nils (.cons .nils .nil)))) fun v41 h42 => stN h42 4 v41 v40 fun h43 => jn (eqN v35 (.int 63 (.ofNat 0)) fun b44 => cB (.bool b44) fun b45 => ifB b45 (cP v41 fun b46 o47 => ld1 h43 (.ptr b46 (Nat.add o47 1)) fun v48 => .norm [v19, v21, v23, v25, v27, v29, v31, v48, v35, v41] h43) (cP v41 fun b49 o50 => ld1 h43 (.ptr b49 (Nat.add o50 1)) fun v51 => iAdd v51 (.int 63 (.ofNat 1)) fun v52 => iAdd v33 v52 fun v53 => .norm [v19, v21, v23, v25, v27, v29, v31, v53, v35, v41] h43)) fun w54 h55 => uc w54 fun v56 w57 => uc w57 fun v58 w59 => uc w59 fun v60 w61 => uc w61 fun v62 w63 => uc w63 fun v64 w65 => uc w65 fun v66 w67 => uc w67 fun v68 w69 => uc w69 fun v70 w71 => uc w71 fun v72 w73 => uc w73 fun v74 _ => blk 2 (cP v74 fun b75 o76 => ld1 h55 (.ptr b75 (Nat.add o76 0)) fun v77 => ltN v77 (.int 63 (.ofNat 248)) fun b78 => jn (gd (.bool (bnot b78)) true (cP v74 fun b79 o80 => .norm [(.ptr b79 (Nat.add o80 0))] h55) (.norm [.tup .nil] h55)) fun w82 h81 => uc w82 fun v83 _ => jn (gd (.bool (bnot b78)) true (ld1 h81 v83 fun v84 => .norm [v84] h81) (.norm [.tup .nil] h81)) fun w86 h85 => uc w86 fun v87 _ => jn (gd (.bool (bnot b78)) true (ltN (.int 63 (.ofNat 250)) v87 fun b88 => .norm [(.bool (bnot b88))] h85) (.norm [.tup .nil] h85)) fun w90 h89 => uc w90 fun v91 _ => cB (.bool (bnot b78)) fun b92 => ap (sel b92 v91 (.bool false)) fun v93 => cB v93 fun b94 => ifB b94 (lenL v68 fun v95 => cP v74 fun b96 o97 => ld1 h89 (.ptr b96 (Nat.add o97 0)) fun v98 => iSub (.int 63 (.ofNat 251)) v98 fun v99 => iSub v95 v99 fun v100 => ltN v100 (.int 63 (.ofNat 0)) fun b101 => cB (.bool b101) fun b102 => ifB b102 (cK .nils fun v103 => cK .nils fun v104 => cK (.bool false) fun v105 => .ret (.tup (.cons v103 (.cons v104 (.cons v105 .nil)))) h89) (cutS 3 v68 none (some v100) (some v100) fun v106 => .norm [v56, v58, v60, v62, v64, v66, v106, v70, v72, v74] h89)) (cP v74 fun b107 o108 => ld1 h89 (.ptr b107 (Nat.add o108 0)) fun v109 => ltN v109 (.int 63 (.ofNat 252)) fun b110 => jn (gd (.bool (bnot b110)) true (cP v74 fun b111 o112 => .norm [(.ptr b111 (Nat.add o112 0))] h89) (.norm [.tup .nil] h89)) fun w114 h113 => uc w114 fun v115 _ => jn (gd (.bool (bnot b110)) true (ld1 h113 v115 fun v116 => .norm [v116] h113) (.norm [.tup .nil] h113)) fun w118 h117 => uc w118 fun v119 _ => jn (gd (.bool (bnot b110)) true (ltN (.int 63 (.ofNat 254)) v119 fun b120 => .norm [(.bool (bnot b120))] h117) (.norm [.tup .nil] h117)) fun w122 h121 => uc w122 fun v123 _ => cB (.bool (bnot b110)) fun b124 => ap (sel b124 v123 (.bool false)) fun v125 => cB v125 fun b126 => ifB b126 (cP v74 fun b127 o128 => ld1 h121 (.ptr b127 (Nat.add o128 2)) fun v129 => apd h121 3 32 .nils v68 fun v130 h131 => ld1 h131 (.ptr b127 (Nat.add o128 2)) fun v132 => same v129 v132 (cl (s90 [v129, v58] h131) fun v133 h134 => apd h134 3 32 v130 v133 fun v135 h136 => .norm [v56, v58, v60, v62, v64, v66, v135, v70, v72, v74] h136)) (cP v74 fun b137 o138 => ld1 h121 (.ptr b137 (Nat.add o138 0)) fun v139 => eqN v139 (.int 63 (.ofNat 255)) fun b140 => cB (.bool b140) fun b141 => ifB b141 (cP v74 fun b142 o143 => ld1 h121 (.ptr b142 (Nat.add o143 2)) fun v144 => cl (s90 [v144, v58] h121) fun v145 h146 => .norm [v56, v58, v60, v62, v64, v66, v145, v70, v72, v74] h146) (.norm [v56, v58, v60, v62, v64, v66, v68, v70, v72, v74] h121)))) fun w147 h148 => Z65 w147 h148) fun w208 h209 => uc w208 fun v210 w211 => uc w211 fun v212 w213 => uc w213 fun v214 w215 => uc w215 fun v216 w217 => uc w217 fun v218 w219 => uc w219 fun v220 w221 => uc w221 fun v222 w223 => uc w223 fun v224 w225 => uc w225 fun v226 _ => iAdd v226 (.int 63 (.ofNat 1)) fun v227 => .norm [v210, v212, v214, v216, v218, v220, v222, v224, v227] h209) (.exit 0 [v27, v29] h18)
theorem L65Y : L65n0 = Y65 := rfl
theorem MK.pt {h : Hp} {N M K : Nat} {v : AV} {ms : List Mv} (hm : MK h N M K v ms) (i : Nat) (hi : i < ms.length) :
    ∃ b o vl vs, (∀ k : AV → Res, ixA 4 v (.int 63 (i : Int)) k = k (.ptr b o)) ∧ (∀ k : AV → Res, ldN h 4 (.ptr b o) k = k (.agg (avL (mL ms[i].tag ms[i].delta vl vs)))) ∧
      Rws h (fun x => x < K) 3 vl ((ms[i].loc.map raw).map vR) ∧ Rws h (fun x => x < K) 3 vs ((ms[i].stk.map raw).map vR) := by
  obtain ⟨P, rs, r, hP, hl, hx⟩ := hm
  have hi' : i < rs.length := by omega
  obtain ⟨vl, vs, e, r1, r2⟩ := hx i hi hi'
  obtain ⟨b, o, e1, e2, -⟩ := r.pt i hi'
  rw [e] at e2
  rw [vP_raw] at r1 r2
  exact ⟨b, o, vl, vs, e1, e2, r1.mono fun x hx _ => hx.2, r2.mono fun x hx _ => hx.2⟩
/-- The variable of a round, with what it reads. -/
theorem Ce.rM {h : Hp} {b g d : Nat} {vl vs : AV} (hc : Ce h b (mL g d vl vs)) : (∀ kk : AV → Res, ld1 h (.ptr b (Nat.add 0 0)) kk = kk (.int 63 (g : Int))) ∧ (∀ kk : AV → Res, ld1 h (.ptr b 0) kk = kk (.int 63 (g : Int))) ∧
    (∀ kk : AV → Res, ld1 h (.ptr b (Nat.add 0 1)) kk = kk (.int 63 (d : Int))) ∧ (∀ kk : AV → Res, ld1 h (.ptr b 1) kk = kk (.int 63 (d : Int))) ∧ (∀ kk : AV → Res, ld1 h (.ptr b (Nat.add 0 2)) kk = kk vl) ∧ (∀ kk : AV → Res, ld1 h (.ptr b 2) kk = kk vl) :=
  ⟨fun kk => Ce.l hc 0 (by simp [mL]) kk, fun kk => Ce.l hc 0 (by simp [mL]) kk, fun kk => Ce.l hc 1 (by simp [mL]) kk, fun kk => Ce.l hc 1 (by simp [mL]) kk, fun kk => Ce.l hc 2 (by simp [mL]) kk, fun kk => Ce.l hc 2 (by simp [mL]) kk⟩
end Go.Proofs.Ytnpfppddongbhaa
end

section
namespace Go.Proofs.Ytnpfppddongbhaa
open Go Go.AM
set_option autoImplicit false
/-! ### a round of the reference: to the locals -/
theorem reg65 {h : Hp} {N1 M Kb N S pb p i : Nat} {C : Nat → Prop} {maps fs at_ v : AV} {ms : List Mv} {l : List Vt} (hw : Wf h) (hm : MK h N1 M Kb maps ms) (hi : i < ms.length) (rl : Rwc h C 3 v (l.map vR)) (hp : Pool h pb)
    (hl : l.length ≤ 100000) (hloc : ms[i].loc.length ≤ 65536) (hC : ∀ x, h.nb ≤ x → C x) (hK : Kb ≤ h.nb) (h0 : i = 0 → p = 0) (hpp : p ≤ 500000000) (hd : ms[i].delta ≤ 65535) (ht : ms[i].tag ≤ 255) (hi2 : ms.length ≤ 100000) :
    ∃ h' v' vl vs, To No h h' ∧ Wf h' ∧ h.nb < h'.nb ∧ Ce h' h.nb (mL ms[i].tag ms[i].delta vl vs) ∧ Rws h' (fun x => x < Kb) 3 vs ((ms[i].stk.map raw).map vR) ∧
      ((nxt ms[i] l = none ∧ Y65 [maps, plv pb, .int 63 (N : Int), .int 63 (S : Int), fs, at_, v, .int 63 ((p : Int) - 1), .int 63 (i : Int)] h = .ret no3 h') ∨
       ∃ l', nxt ms[i] l = some l' ∧ Rwc h' C 3 v' (l'.map vR) ∧
        (∀ h2, Z65 [maps, plv pb, .int 63 (N : Int), .int 63 (S : Int), fs, at_, v', .int 63 ((p + ms[i].delta : Nat) : Int), .int 63 (i : Int), .ptr h.nb 0] h' = .ret no3 h2 → Y65 [maps, plv pb, .int 63 (N : Int), .int 63 (S : Int), fs, at_, v, .int 63 ((p : Int) - 1), .int 63 (i : Int)] h = .ret no3 h2) ∧
        (∀ fs' at' h2, Z65 [maps, plv pb, .int 63 (N : Int), .int 63 (S : Int), fs, at_, v', .int 63 ((p + ms[i].delta : Nat) : Int), .int 63 (i : Int), .ptr h.nb 0] h' = .norm [maps, plv pb, .int 63 (N : Int), .int 63 (S : Int), fs', at', v', .int 63 ((p + ms[i].delta : Nat) : Int), .int 63 (i : Int)] h2 →
          Y65 [maps, plv pb, .int 63 (N : Int), .int 63 (S : Int), fs, at_, v, .int 63 ((p : Int) - 1), .int 63 (i : Int)] h = .norm [maps, plv pb, .int 63 (N : Int), .int 63 (S : Int), fs', at', v', .int 63 ((p + ms[i].delta : Nat) : Int), .int 63 ((i + 1 : Nat) : Int)] h2)) := by
  have ln := fun kk => hm.mr.len kk
  have ci : (i : Int) < (ms.length : Int) := by omega
  have i1 := s1n i (by omega)
  obtain ⟨b1, q1, vl, vs, x1, x2, rL, rS⟩ := hm.pt i hi
  obtain ⟨h2, k1, k1', c2, t2, w2, n2⟩ := mkM0 hw
  obtain ⟨h3, s3, c3, t3, w3, n3⟩ := Ce.stM w2 c2 ms[i].tag ms[i].delta rL.one rS.one
  have T3 : To No h h3 := ((t2.mono fun _ _ f => f.elim).trans t3).mono fun x hx e => by have : x = h.nb := e; omega
  obtain ⟨f0, f0', f1, f1', f2, f2'⟩ := Ce.rM c3
  have lnv := fun kk => vC_len rl kk
  have rl3 := rl.to T3 (fun _ _ _ f => f)
  have rL3 := rL.to T3 (fun _ _ _ f => f)
  have rS3 := rS.to T3 (fun _ _ _ f => f)
  have hp3 := hp.to T3 (fun f => f)
  generalize hg : ms[i].tag = tag at *
  generalize hq : p + ms[i].delta = q at *
  generalize hdd : ms[i].delta = delta at *
  by_cases hz : i = 0
  · have j0 : ((i : Int) == 0) = true := by have e : (i : Int) = 0 := (by omega); simpa using e
    have hqd : delta = q := by have := h0 hz; omega
    rw [hqd] at f1 f1'
    by_cases a1 : 248 ≤ tag ∧ tag ≤ 250
    · have b1 : ¬ (tag : Int) < 248 := by omega
      have b2 : ¬ (250 : Int) < (tag : Int) := by omega
      have w1 : wrapC 63 (251 - (tag : Int)) = ((251 - tag : Nat) : Int) := by rw [w63_in _ (by omega) (by omega)]; omega
      by_cases a2 : l.length < 251 - tag
      · have w2 : wrapC 63 ((l.length : Int) - ((251 - tag : Nat) : Int)) = (l.length : Int) - ((251 - tag : Nat) : Int) := by rw [w63_in _ (by omega) (by omega)]
        have b3 : (l.length : Int) - ((251 - tag : Nat) : Int) < 0 := by omega
        refine ⟨h3, v, vl, vs, T3, w3, by omega, c3, rS3, .inl ⟨by unfold nxt; rw [hg, if_pos a1, if_pos a2], ?_⟩⟩
        simp only [↓Y65, ↓ln, ci, ↓x1, ↓x2, ↓k1, ↓k1', ↓s3, ↓cP_p, ↓f0, ↓f0', ↓f1, ↓f1', ↓f2, ↓f2', j0, ↓lnv, b1, b2, w1, w2, b3, ↓cK_nils, ↓SD, SA, Int.ofNat_eq_natCast, Int.cast_ofNat_Int, Int.reduceBEq, Int.reduceAdd, Int.reduceNeg, Int.reduceNegSucc, Int.reduceLT, Int.reduceLE, Int.reduceMul, Int.reduceTMod, Int.reduceSub, Int.reduceBNe, Bool.not_true, Bool.not_false, decide_true, decide_false, ne_eq, not_false_eq_true, Int.reduceEq, reduceCtorEq]; rfl
      · have w2 : wrapC 63 ((l.length : Int) - ((251 - tag : Nat) : Int)) = ((l.length - (251 - tag) : Nat) : Int) := by rw [w63_in _ (by omega) (by omega)]; omega
        have b3 : ¬ ((l.length - (251 - tag) : Nat) : Int) < 0 := by omega
        obtain ⟨v2, e2, r2⟩ := vC_cut rl3 (l.length - (251 - tag)) (by omega)
        refine ⟨h3, v2, vl, vs, T3, w3, by omega, c3, rS3, .inr ⟨_, by unfold nxt; rw [hg, if_pos a1, if_neg a2], r2, ?_⟩⟩
        refine ⟨fun h2 zn => ?_, fun fs' at' h2 zn => ?_⟩
        · simp only [↓Y65, ↓ln, ci, ↓x1, ↓x2, ↓k1, ↓k1', ↓s3, ↓cP_p, ↓f0, ↓f0', ↓f1, ↓f1', ↓f2, ↓f2', j0, ↓lnv, b1, b2, w1, w2, b3, ↓e2, ↓zn, ↓SD, SA, Int.ofNat_eq_natCast, Int.cast_ofNat_Int, Int.reduceBEq, Int.reduceAdd, Int.reduceNeg, Int.reduceNegSucc, Int.reduceLT, Int.reduceLE, Int.reduceMul, Int.reduceTMod, Int.reduceSub, Int.reduceBNe, Bool.not_true, Bool.not_false, decide_true, decide_false, ne_eq, not_false_eq_true, Int.reduceEq, reduceCtorEq]
        · simp only [↓Y65, ↓ln, ci, ↓x1, ↓x2, ↓k1, ↓k1', ↓s3, ↓cP_p, ↓f0, ↓f0', ↓f1, ↓f1', ↓f2, ↓f2', j0, ↓lnv, b1, b2, w1, w2, b3, ↓e2, ↓zn, i1, ↓SD, SA, Int.ofNat_eq_natCast, Int.cast_ofNat_Int, Int.reduceBEq, Int.reduceAdd, Int.reduceNeg, Int.reduceNegSucc, Int.reduceLT, Int.reduceLE, Int.reduceMul, Int.reduceTMod, Int.reduceSub, Int.reduceBNe, Bool.not_true, Bool.not_false, decide_true, decide_false, ne_eq, not_false_eq_true, Int.reduceEq, reduceCtorEq]
    by_cases a3 : 252 ≤ tag ∧ tag ≤ 254
    · have b1 : ¬ (tag : Int) < 248 := by omega
      have b2 : (250 : Int) < (tag : Int) := by omega
      have b3 : ¬ (tag : Int) < 252 := by omega
      have b4 : ¬ (254 : Int) < (tag : Int) := by omega
      obtain ⟨u1, g1, e1, r1, y1, z1⟩ := vC_appN (l := []) (P := No) w3 (Rws.nil h3 No 3) rl3 (by simp) (by omega)
      have c4 := c3.to y1 (fun f => f)
      obtain ⟨-, -, -, -, p2, p2'⟩ := Ce.rM c4
      have sv := fun kk => Rws.same rL (by decide) kk
      obtain ⟨u2, g2, e3, r3, y2, z2⟩ := t90 (rL3.to y1 (fun _ _ _ f => f)) z1 (hp3.to y1 (fun f => f)) (by simp; omega)
      have r1' : Rws g2 (fun x => h3.nb ≤ x) 3 u1 (l.map vR) := ((r1.mono (Q := fun x => h3.nb ≤ x) fun x hx _ => hx.elim (fun f => f.elim) id).to y2 (fun _ _ _ f => f))
      obtain ⟨u3, g3, e4, r4, y3, z3⟩ := vR_appN z2 r1' r3 (by omega) (by simp; omega)
      have nn1 := y1.nb
      have nn2 := y2.nb
      have nn3 := y3.nb
      have T6 : To No h g3 := ((((T3.trans y1).trans y2).mono (W' := fun x => h3.nb ≤ x) fun _ _ f => f.elim).trans y3).mono fun x hx e => by have : h3.nb ≤ x := e; omega
      refine ⟨g3, u3, vl, vs, T6, z3, by omega, (c4.to y2 (fun f => f)).to y3 (fun f => by have : h3.nb ≤ h.nb := f; omega), rS.to T6 (fun _ _ _ f => f), .inr ⟨_, by unfold nxt; rw [hg, if_neg a1, if_pos a3], Rws.c (r4.mono fun x hx _ => hC x (by rcases hx with hx | hx; have : h3.nb ≤ x := hx; omega; omega)), ?_⟩⟩
      refine ⟨fun h2 zn => ?_, fun fs' at' h2 zn => ?_⟩
      · simp only [↓Y65, ↓ln, ci, ↓x1, ↓x2, ↓k1, ↓k1', ↓s3, ↓cP_p, ↓f0, ↓f0', ↓f1, ↓f1', ↓f2, ↓f2', j0, b1, b2, b3, b4, ↓e1, ↓p2, ↓p2', ↓sv, ↓e3, ↓e4, ↓zn, ↓SD, SA, Int.ofNat_eq_natCast, Int.cast_ofNat_Int, Int.reduceBEq, Int.reduceAdd, Int.reduceNeg, Int.reduceNegSucc, Int.reduceLT, Int.reduceLE, Int.reduceMul, Int.reduceTMod, Int.reduceSub, Int.reduceBNe, Bool.not_true, Bool.not_false, decide_true, decide_false, ne_eq, not_false_eq_true, Int.reduceEq, reduceCtorEq]
      · simp only [↓Y65, ↓ln, ci, ↓x1, ↓x2, ↓k1, ↓k1', ↓s3, ↓cP_p, ↓f0, ↓f0', ↓f1, ↓f1', ↓f2, ↓f2', j0, b1, b2, b3, b4, ↓e1, ↓p2, ↓p2', ↓sv, ↓e3, ↓e4, ↓zn, i1, ↓SD, SA, Int.ofNat_eq_natCast, Int.cast_ofNat_Int, Int.reduceBEq, Int.reduceAdd, Int.reduceNeg, Int.reduceNegSucc, Int.reduceLT, Int.reduceLE, Int.reduceMul, Int.reduceTMod, Int.reduceSub, Int.reduceBNe, Bool.not_true, Bool.not_false, decide_true, decide_false, ne_eq, not_false_eq_true, Int.reduceEq, reduceCtorEq]
    have b1 : ((tag : Int) < 248) ∨ (¬ (tag : Int) < 248 ∧ (250 : Int) < (tag : Int)) := by omega
    by_cases a5 : tag = 255
    · have b1 : ¬ (tag : Int) < 248 := by omega
      have b2 : (250 : Int) < (tag : Int) := by omega
      have b3 : ¬ (tag : Int) < 252 := by omega
      have b4 : (254 : Int) < (tag : Int) := by omega
      have b5 : ((tag : Int) == 255) = true := by have e : (tag : Int) = 255 := (by omega); simpa using e
      obtain ⟨u2, g2, e3, r3, y2, z2⟩ := t90 rL3 w3 hp3 (by simp; omega)
      have nn2 := y2.nb
      refine ⟨g2, u2, vl, vs, T3.trans y2, z2, by omega, c3.to y2 (fun f => f), rS3.to y2 (fun _ _ _ f => f), .inr ⟨_, by unfold nxt; rw [hg, if_neg a1, if_neg a3, if_pos a5], Rws.c (r3.mono fun x hx _ => hC x (by have : h3.nb ≤ x := hx; omega)), ?_⟩⟩
      refine ⟨fun h2 zn => ?_, fun fs' at' h2 zn => ?_⟩
      · simp only [↓Y65, ↓ln, ci, ↓x1, ↓x2, ↓k1, ↓k1', ↓s3, ↓cP_p, ↓f0, ↓f0', ↓f1, ↓f1', ↓f2, ↓f2', j0, b1, b2, b3, b4, b5, ↓e3, ↓zn, ↓SD, SA, Int.ofNat_eq_natCast, Int.cast_ofNat_Int, Int.reduceBEq, Int.reduceAdd, Int.reduceNeg, Int.reduceNegSucc, Int.reduceLT, Int.reduceLE, Int.reduceMul, Int.reduceTMod, Int.reduceSub, Int.reduceBNe, Bool.not_true, Bool.not_false, decide_true, decide_false, ne_eq, not_false_eq_true, Int.reduceEq, reduceCtorEq]
      · simp only [↓Y65, ↓ln, ci, ↓x1, ↓x2, ↓k1, ↓k1', ↓s3, ↓cP_p, ↓f0, ↓f0', ↓f1, ↓f1', ↓f2, ↓f2', j0, b1, b2, b3, b4, b5, ↓e3, ↓zn, i1, ↓SD, SA, Int.ofNat_eq_natCast, Int.cast_ofNat_Int, Int.reduceBEq, Int.reduceAdd, Int.reduceNeg, Int.reduceNegSucc, Int.reduceLT, Int.reduceLE, Int.reduceMul, Int.reduceTMod, Int.reduceSub, Int.reduceBNe, Bool.not_true, Bool.not_false, decide_true, decide_false, ne_eq, not_false_eq_true, Int.reduceEq, reduceCtorEq]
    have b5 : ((tag : Int) == 255) = false := by have e : ¬ (tag : Int) = 255 := (by omega); simpa using e
    have b3 : ((tag : Int) < 252) := by omega
    refine ⟨h3, v, vl, vs, T3, w3, by omega, c3, rS3, .inr ⟨_, by unfold nxt; rw [hg, if_neg a1, if_neg a3, if_neg a5], rl3, ?_⟩⟩
    rcases b1 with b1 | ⟨b1, b2⟩
    · refine ⟨fun h2 zn => ?_, fun fs' at' h2 zn => ?_⟩
      · simp only [↓Y65, ↓ln, ci, ↓x1, ↓x2, ↓k1, ↓k1', ↓s3, ↓cP_p, ↓f0, ↓f0', ↓f1, ↓f1', ↓f2, ↓f2', j0, b1, b3, b5, ↓zn, ↓SD, SA, Int.ofNat_eq_natCast, Int.cast_ofNat_Int, Int.reduceBEq, Int.reduceAdd, Int.reduceNeg, Int.reduceNegSucc, Int.reduceLT, Int.reduceLE, Int.reduceMul, Int.reduceTMod, Int.reduceSub, Int.reduceBNe, Bool.not_true, Bool.not_false, decide_true, decide_false, ne_eq, not_false_eq_true, Int.reduceEq, reduceCtorEq]
      · simp only [↓Y65, ↓ln, ci, ↓x1, ↓x2, ↓k1, ↓k1', ↓s3, ↓cP_p, ↓f0, ↓f0', ↓f1, ↓f1', ↓f2, ↓f2', j0, b1, b3, b5, ↓zn, i1, ↓SD, SA, Int.ofNat_eq_natCast, Int.cast_ofNat_Int, Int.reduceBEq, Int.reduceAdd, Int.reduceNeg, Int.reduceNegSucc, Int.reduceLT, Int.reduceLE, Int.reduceMul, Int.reduceTMod, Int.reduceSub, Int.reduceBNe, Bool.not_true, Bool.not_false, decide_true, decide_false, ne_eq, not_false_eq_true, Int.reduceEq, reduceCtorEq]
    · refine ⟨fun h2 zn => ?_, fun fs' at' h2 zn => ?_⟩
      · simp only [↓Y65, ↓ln, ci, ↓x1, ↓x2, ↓k1, ↓k1', ↓s3, ↓cP_p, ↓f0, ↓f0', ↓f1, ↓f1', ↓f2, ↓f2', j0, b1, b2, b3, b5, ↓zn, ↓SD, SA, Int.ofNat_eq_natCast, Int.cast_ofNat_Int, Int.reduceBEq, Int.reduceAdd, Int.reduceNeg, Int.reduceNegSucc, Int.reduceLT, Int.reduceLE, Int.reduceMul, Int.reduceTMod, Int.reduceSub, Int.reduceBNe, Bool.not_true, Bool.not_false, decide_true, decide_false, ne_eq, not_false_eq_true, Int.reduceEq, reduceCtorEq]
      · simp only [↓Y65, ↓ln, ci, ↓x1, ↓x2, ↓k1, ↓k1', ↓s3, ↓cP_p, ↓f0, ↓f0', ↓f1, ↓f1', ↓f2, ↓f2', j0, b1, b2, b3, b5, ↓zn, i1, ↓SD, SA, Int.ofNat_eq_natCast, Int.cast_ofNat_Int, Int.reduceBEq, Int.reduceAdd, Int.reduceNeg, Int.reduceNegSucc, Int.reduceLT, Int.reduceLE, Int.reduceMul, Int.reduceTMod, Int.reduceSub, Int.reduceBNe, Bool.not_true, Bool.not_false, decide_true, decide_false, ne_eq, not_false_eq_true, Int.reduceEq, reduceCtorEq]
  · have j0 : ((i : Int) == 0) = false := by have e : ¬ (i : Int) = 0 := (by omega); simpa using e
    have j1 : wrapC 63 ((delta : Int) + 1) = ((delta + 1 : Nat) : Int) := s1n delta (by omega)
    have j2 : wrapC 63 ((p : Int) - 1 + ((delta + 1 : Nat) : Int)) = (q : Int) := by rw [w63_in _ (by omega) (by omega)]; omega
    by_cases a1 : 248 ≤ tag ∧ tag ≤ 250
    · have b1 : ¬ (tag : Int) < 248 := by omega
      have b2 : ¬ (250 : Int) < (tag : Int) := by omega
      have w1 : wrapC 63 (251 - (tag : Int)) = ((251 - tag : Nat) : Int) := by rw [w63_in _ (by omega) (by omega)]; omega
      by_cases a2 : l.length < 251 - tag
      · have w2 : wrapC 63 ((l.length : Int) - ((251 - tag : Nat) : Int)) = (l.length : Int) - ((251 - tag : Nat) : Int) := by rw [w63_in _ (by omega) (by omega)]
        have b3 : (l.length : Int) - ((251 - tag : Nat) : Int) < 0 := by omega
        refine ⟨h3, v, vl, vs, T3, w3, by omega, c3, rS3, .inl ⟨by unfold nxt; rw [hg, if_pos a1, if_pos a2], ?_⟩⟩
        simp only [↓Y65, ↓ln, ci, ↓x1, ↓x2, ↓k1, ↓k1', ↓s3, ↓cP_p, ↓f0, ↓f0', ↓f1, ↓f1', ↓f2, ↓f2', j0, j1, j2, ↓lnv, b1, b2, w1, w2, b3, ↓cK_nils, ↓SD, SA, Int.ofNat_eq_natCast, Int.cast_ofNat_Int, Int.reduceBEq, Int.reduceAdd, Int.reduceNeg, Int.reduceNegSucc, Int.reduceLT, Int.reduceLE, Int.reduceMul, Int.reduceTMod, Int.reduceSub, Int.reduceBNe, Bool.not_true, Bool.not_false, decide_true, decide_false, ne_eq, not_false_eq_true, Int.reduceEq, reduceCtorEq]; rfl
      · have w2 : wrapC 63 ((l.length : Int) - ((251 - tag : Nat) : Int)) = ((l.length - (251 - tag) : Nat) : Int) := by rw [w63_in _ (by omega) (by omega)]; omega
        have b3 : ¬ ((l.length - (251 - tag) : Nat) : Int) < 0 := by omega
        obtain ⟨v2, e2, r2⟩ := vC_cut rl3 (l.length - (251 - tag)) (by omega)
        refine ⟨h3, v2, vl, vs, T3, w3, by omega, c3, rS3, .inr ⟨_, by unfold nxt; rw [hg, if_pos a1, if_neg a2], r2, ?_⟩⟩
        refine ⟨fun h2 zn => ?_, fun fs' at' h2 zn => ?_⟩
        · simp only [↓Y65, ↓ln, ci, ↓x1, ↓x2, ↓k1, ↓k1', ↓s3, ↓cP_p, ↓f0, ↓f0', ↓f1, ↓f1', ↓f2, ↓f2', j0, j1, j2, ↓lnv, b1, b2, w1, w2, b3, ↓e2, ↓zn, ↓SD, SA, Int.ofNat_eq_natCast, Int.cast_ofNat_Int, Int.reduceBEq, Int.reduceAdd, Int.reduceNeg, Int.reduceNegSucc, Int.reduceLT, Int.reduceLE, Int.reduceMul, Int.reduceTMod, Int.reduceSub, Int.reduceBNe, Bool.not_true, Bool.not_false, decide_true, decide_false, ne_eq, not_false_eq_true, Int.reduceEq, reduceCtorEq]
        · simp only [↓Y65, ↓ln, ci, ↓x1, ↓x2, ↓k1, ↓k1', ↓s3, ↓cP_p, ↓f0, ↓f0', ↓f1, ↓f1', ↓f2, ↓f2', j0, j1, j2, ↓lnv, b1, b2, w1, w2, b3, ↓e2, ↓zn, i1, ↓SD, SA, Int.ofNat_eq_natCast, Int.cast_ofNat_Int, Int.reduceBEq, Int.reduceAdd, Int.reduceNeg, Int.reduceNegSucc, Int.reduceLT, Int.reduceLE, Int.reduceMul, Int.reduceTMod, Int.reduceSub, Int.reduceBNe, Bool.not_true, Bool.not_false, decide_true, decide_false, ne_eq, not_false_eq_true, Int.reduceEq, reduceCtorEq]
    by_cases a3 : 252 ≤ tag ∧ tag ≤ 254
    · have b1 : ¬ (tag : Int) < 248 := by omega
      have b2 : (250 : Int) < (tag : Int) := by omega
      have b3 : ¬ (tag : Int) < 252 := by omega
      have b4 : ¬ (254 : Int) < (tag : Int) := by omega
      obtain ⟨u1, g1, e1, r1, y1, z1⟩ := vC_appN (l := []) (P := No) w3 (Rws.nil h3 No 3) rl3 (by simp) (by omega)
      have c4 := c3.to y1 (fun f => f)
      obtain ⟨-, -, -, -, p2, p2'⟩ := Ce.rM c4
      have sv := fun kk => Rws.same rL (by decide) kk
      obtain ⟨u2, g2, e3, r3, y2, z2⟩ := t90 (rL3.to y1 (fun _ _ _ f => f)) z1 (hp3.to y1 (fun f => f)) (by simp; omega)
      have r1' : Rws g2 (fun x => h3.nb ≤ x) 3 u1 (l.map vR) := ((r1.mono (Q := fun x => h3.nb ≤ x) fun x hx _ => hx.elim (fun f => f.elim) id).to y2 (fun _ _ _ f => f))
      obtain ⟨u3, g3, e4, r4, y3, z3⟩ := vR_appN z2 r1' r3 (by omega) (by simp; omega)
      have nn1 := y1.nb
      have nn2 := y2.nb
      have nn3 := y3.nb
      have T6 : To No h g3 := ((((T3.trans y1).trans y2).mono (W' := fun x => h3.nb ≤ x) fun _ _ f => f.elim).trans y3).mono fun x hx e => by have : h3.nb ≤ x := e; omega
      refine ⟨g3, u3, vl, vs, T6, z3, by omega, (c4.to y2 (fun f => f)).to y3 (fun f => by have : h3.nb ≤ h.nb := f; omega), rS.to T6 (fun _ _ _ f => f), .inr ⟨_, by unfold nxt; rw [hg, if_neg a1, if_pos a3], Rws.c (r4.mono fun x hx _ => hC x (by rcases hx with hx | hx; have : h3.nb ≤ x := hx; omega; omega)), ?_⟩⟩
      refine ⟨fun h2 zn => ?_, fun fs' at' h2 zn => ?_⟩
      · simp only [↓Y65, ↓ln, ci, ↓x1, ↓x2, ↓k1, ↓k1', ↓s3, ↓cP_p, ↓f0, ↓f0', ↓f1, ↓f1', ↓f2, ↓f2', j0, j1, j2, b1, b2, b3, b4, ↓e1, ↓p2, ↓p2', ↓sv, ↓e3, ↓e4, ↓zn, ↓SD, SA, Int.ofNat_eq_natCast, Int.cast_ofNat_Int, Int.reduceBEq, Int.reduceAdd, Int.reduceNeg, Int.reduceNegSucc, Int.reduceLT, Int.reduceLE, Int.reduceMul, Int.reduceTMod, Int.reduceSub, Int.reduceBNe, Bool.not_true, Bool.not_false, decide_true, decide_false, ne_eq, not_false_eq_true, Int.reduceEq, reduceCtorEq]
      · simp only [↓Y65, ↓ln, ci, ↓x1, ↓x2, ↓k1, ↓k1', ↓s3, ↓cP_p, ↓f0, ↓f0', ↓f1, ↓f1', ↓f2, ↓f2', j0, j1, j2, b1, b2, b3, b4, ↓e1, ↓p2, ↓p2', ↓sv, ↓e3, ↓e4, ↓zn, i1, ↓SD, SA, Int.ofNat_eq_natCast, Int.cast_ofNat_Int, Int.reduceBEq, Int.reduceAdd, Int.reduceNeg, Int.reduceNegSucc, Int.reduceLT, Int.reduceLE, Int.reduceMul, Int.reduceTMod, Int.reduceSub, Int.reduceBNe, Bool.not_true, Bool.not_false, decide_true, decide_false, ne_eq, not_false_eq_true, Int.reduceEq, reduceCtorEq]
    have b1 : ((tag : Int) < 248) ∨ (¬ (tag : Int) < 248 ∧ (250 : Int) < (tag : Int)) := by omega
    by_cases a5 : tag = 255
    · have b1 : ¬ (tag : Int) < 248 := by omega
      have b2 : (250 : Int) < (tag : Int) := by omega
      have b3 : ¬ (tag : Int) < 252 := by omega
      have b4 : (254 : Int) < (tag : Int) := by omega
      have b5 : ((tag : Int) == 255) = true := by have e : (tag : Int) = 255 := (by omega); simpa using e
      obtain ⟨u2, g2, e3, r3, y2, z2⟩ := t90 rL3 w3 hp3 (by simp; omega)
      have nn2 := y2.nb
      refine ⟨g2, u2, vl, vs, T3.trans y2, z2, by omega, c3.to y2 (fun f => f), rS3.to y2 (fun _ _ _ f => f), .inr ⟨_, by unfold nxt; rw [hg, if_neg a1, if_neg a3, if_pos a5], Rws.c (r3.mono fun x hx _ => hC x (by have : h3.nb ≤ x := hx; omega)), ?_⟩⟩
      refine ⟨fun h2 zn => ?_, fun fs' at' h2 zn => ?_⟩
      · simp only [↓Y65, ↓ln, ci, ↓x1, ↓x2, ↓k1, ↓k1', ↓s3, ↓cP_p, ↓f0, ↓f0', ↓f1, ↓f1', ↓f2, ↓f2', j0, j1, j2, b1, b2, b3, b4, b5, ↓e3, ↓zn, ↓SD, SA, Int.ofNat_eq_natCast, Int.cast_ofNat_Int, Int.reduceBEq, Int.reduceAdd, Int.reduceNeg, Int.reduceNegSucc, Int.reduceLT, Int.reduceLE, Int.reduceMul, Int.reduceTMod, Int.reduceSub, Int.reduceBNe, Bool.not_true, Bool.not_false, decide_true, decide_false, ne_eq, not_false_eq_true, Int.reduceEq, reduceCtorEq]
      · simp only [↓Y65, ↓ln, ci, ↓x1, ↓x2, ↓k1, ↓k1', ↓s3, ↓cP_p, ↓f0, ↓f0', ↓f1, ↓f1', ↓f2, ↓f2', j0, j1, j2, b1, b2, b3, b4, b5, ↓e3, ↓zn, i1, ↓SD, SA, Int.ofNat_eq_natCast, Int.cast_ofNat_Int, Int.reduceBEq, Int.reduceAdd, Int.reduceNeg, Int.reduceNegSucc, Int.reduceLT, Int.reduceLE, Int.reduceMul, Int.reduceTMod, Int.reduceSub, Int.reduceBNe, Bool.not_true, Bool.not_false, decide_true, decide_false, ne_eq, not_false_eq_true, Int.reduceEq, reduceCtorEq]
    have b5 : ((tag : Int) == 255) = false := by have e : ¬ (tag : Int) = 255 := (by omega); simpa using e
    have b3 : ((tag : Int) < 252) := by omega
    refine ⟨h3, v, vl, vs, T3, w3, by omega, c3, rS3, .inr ⟨_, by unfold nxt; rw [hg, if_neg a1, if_neg a3, if_neg a5], rl3, ?_⟩⟩
    rcases b1 with b1 | ⟨b1, b2⟩
    · refine ⟨fun h2 zn => ?_, fun fs' at' h2 zn => ?_⟩
      · simp only [↓Y65, ↓ln, ci, ↓x1, ↓x2, ↓k1, ↓k1', ↓s3, ↓cP_p, ↓f0, ↓f0', ↓f1, ↓f1', ↓f2, ↓f2', j0, j1, j2, b1, b3, b5, ↓zn, ↓SD, SA, Int.ofNat_eq_natCast, Int.cast_ofNat_Int, Int.reduceBEq, Int.reduceAdd, Int.reduceNeg, Int.reduceNegSucc, Int.reduceLT, Int.reduceLE, Int.reduceMul, Int.reduceTMod, Int.reduceSub, Int.reduceBNe, Bool.not_true, Bool.not_false, decide_true, decide_false, ne_eq, not_false_eq_true, Int.reduceEq, reduceCtorEq]
      · simp only [↓Y65, ↓ln, ci, ↓x1, ↓x2, ↓k1, ↓k1', ↓s3, ↓cP_p, ↓f0, ↓f0', ↓f1, ↓f1', ↓f2, ↓f2', j0, j1, j2, b1, b3, b5, ↓zn, i1, ↓SD, SA, Int.ofNat_eq_natCast, Int.cast_ofNat_Int, Int.reduceBEq, Int.reduceAdd, Int.reduceNeg, Int.reduceNegSucc, Int.reduceLT, Int.reduceLE, Int.reduceMul, Int.reduceTMod, Int.reduceSub, Int.reduceBNe, Bool.not_true, Bool.not_false, decide_true, decide_false, ne_eq, not_false_eq_true, Int.reduceEq, reduceCtorEq]
    · refine ⟨fun h2 zn => ?_, fun fs' at' h2 zn => ?_⟩
      · simp only [↓Y65, ↓ln, ci, ↓x1, ↓x2, ↓k1, ↓k1', ↓s3, ↓cP_p, ↓f0, ↓f0', ↓f1, ↓f1', ↓f2, ↓f2', j0, j1, j2, b1, b2, b3, b5, ↓zn, ↓SD, SA, Int.ofNat_eq_natCast, Int.cast_ofNat_Int, Int.reduceBEq, Int.reduceAdd, Int.reduceNeg, Int.reduceNegSucc, Int.reduceLT, Int.reduceLE, Int.reduceMul, Int.reduceTMod, Int.reduceSub, Int.reduceBNe, Bool.not_true, Bool.not_false, decide_true, decide_false, ne_eq, not_false_eq_true, Int.reduceEq, reduceCtorEq]
      · simp only [↓Y65, ↓ln, ci, ↓x1, ↓x2, ↓k1, ↓k1', ↓s3, ↓cP_p, ↓f0, ↓f0', ↓f1, ↓f1', ↓f2, ↓f2', j0, j1, j2, b1, b2, b3, b5, ↓zn, i1, ↓SD, SA, Int.ofNat_eq_natCast, Int.cast_ofNat_Int, Int.reduceBEq, Int.reduceAdd, Int.reduceNeg, Int.reduceNegSucc, Int.reduceLT, Int.reduceLE, Int.reduceMul, Int.reduceTMod, Int.reduceSub, Int.reduceBNe, Bool.not_true, Bool.not_false, decide_true, decide_false, ne_eq, not_false_eq_true, Int.reduceEq, reduceCtorEq]
end Go.Proofs.Ytnpfppddongbhaa
end

section
namespace Go.Proofs.Ytnpfppddongbhaa
open Go Go.AM
set_option autoImplicit false
/-! ### the reference's frames -/
theorem wid_ge (s : Nat) (l : List Vt) : l.length ≤ (l.flatMap (wid s)).length := by
  induction l with
  | nil => simp
  | cons v l ih =>
    rw [List.flatMap_cons, List.length_append, List.length_cons]
    have : 1 ≤ (wid s v).length := by unfold wid; split <;> simp
    omega
theorem nxt_len {m : Mv} {l l' : List Vt} (h : nxt m l = some l') : l'.length ≤ l.length + m.loc.length := by
  unfold nxt at h
  split at h
  · split at h
    · cases h
    · cases h; simp; omega
  · split at h
    · cases h; simp
    · split at h
      · cases h; simp
      · cases h; omega
theorem lpr2 {F : List AV → Hp → Res} {vs : List AV} {v : AV} {h h' : Hp} (m : Nat) (e : F vs h = .ret v h') : lp F (m + 1) vs h = .ret v h' := lpr m e
/-- What a list of entries may hold. -/
def Ok2 (m : Mv) : Prop := m.loc.length ≤ 65536 ∧ m.stk.length ≤ 65536 ∧ m.delta ≤ 65535 ∧ m.tag ≤ 255
theorem loop65 {N0 N1 M Kb N S pb : Nat} {maps : AV} {ms : List Mv} (hK : Kb ≤ N0) (hpb : pb < N0) (hN : N ≤ 1000) (hms : ∀ m ∈ ms, Ok2 m) (hlen : ms.length ≤ 4096) (hN1 : True) :
    ∀ (n i m p : Nat) (h : Hp) (fs at_ v : AV) (fv : List Fv) (l : List Vt) (F A : Nat → Prop), n < m → i + n = ms.length → N0 ≤ h.nb → Wf h → MK h N1 M Kb maps ms → Pool h pb →
      (∀ x, F x → N0 ≤ x ∧ x < h.nb) → (∀ x, A x → N0 ≤ x ∧ x < h.nb) → (∀ x, F x → ¬ A x) → PF h F (KK F A) fs fv → Rws h A 1 at_ ((fv.map (·.at_)).map aR) → Rwc h (KK F A) 3 v (l.map vR) →
      l.length ≤ 1000 → fv.length = i → (i = 0 → p = 0) → p ≤ i * 65536 →
      ∃ h', To (fun x => N0 ≤ x) h h' ∧ Wf h' ∧ ((frs N S (ms.drop i) l p fv = none ∧ lp L65n0 m [maps, plv pb, .int 63 (N : Int), .int 63 (S : Int), fs, at_, v, .int 63 ((p : Int) - 1), .int 63 (i : Int)] h = .ret no3 h') ∨
        ∃ r fs' at' F' A', frs N S (ms.drop i) l p fv = some r ∧ lp L65n0 m [maps, plv pb, .int 63 (N : Int), .int 63 (S : Int), fs, at_, v, .int 63 ((p : Int) - 1), .int 63 (i : Int)] h = .exit 0 [fs', at'] h' ∧
          (∀ x, F' x → N0 ≤ x ∧ x < h'.nb) ∧ (∀ x, A' x → N0 ≤ x ∧ x < h'.nb) ∧ PF h' F' (KK F' A') fs' r ∧ Rws h' A' 1 at' ((r.map (·.at_)).map aR)) := by
  intro n
  induction n with
  | zero =>
    intro i m p h fs at_ v fv l F A hm hi hnb hw hmk hp hF hA hFA rf ra rl hl hfv h0 hpp
    obtain ⟨m, rfl⟩ : ∃ k, m = k + 1 := ⟨m - 1, by omega⟩
    have c1 : ¬ (i : Int) < (ms.length : Int) := by omega
    have ln := fun kk => hmk.mr.len kk
    refine ⟨h, To.refl _ _, hw, .inr ⟨fv, fs, at_, F, A, by rw [List.drop_eq_nil_of_le (by omega), frs], lpx m (by rw [L65Y]; simp only [↓Y65, ↓ln, c1, ↓SD, SA, Int.ofNat_eq_natCast, Int.cast_ofNat_Int, Int.reduceBEq, Int.reduceAdd, Int.reduceNeg, Int.reduceNegSucc, Int.reduceLT, Int.reduceLE, Int.reduceMul, Int.reduceTMod, Int.reduceSub, Int.reduceBNe, Bool.not_true, Bool.not_false, decide_true, decide_false, ne_eq, not_false_eq_true, Int.reduceEq, reduceCtorEq]), hF, hA, rf, ra⟩⟩
  | succ n ih =>
    intro i m p h fs at_ v fv l F A hm hi hnb hw hmk hp hF hA hFA rf ra rl hl hfv h0 hpp
    obtain ⟨m, rfl⟩ : ∃ k, m = k + 1 := ⟨m - 1, by omega⟩
    have hi' : i < ms.length := by omega
    obtain ⟨k1, k2, k3, k4⟩ := hms _ (List.getElem_mem hi')
    have kn : ∀ x, h.nb ≤ x → KK F A x := fun x hx => ⟨fun f => by have := hF x f; omega, fun f => by have := hA x f; omega⟩
    obtain ⟨h1, v1, vl, vs, t1, w1, n1, c1, rS, hc⟩ := reg65 (N := N) (S := S) (p := p) (fs := fs) (at_ := at_) hw hmk hi' rl hp (by omega) k1 kn (by omega) h0 (by omega) k3 k4 (by omega)
    rw [List.drop_eq_getElem_cons hi', frs]
    rcases hc with ⟨e1, e2⟩ | ⟨l', e1, rl1, e2, e3⟩
    · exact ⟨h1, t1.mono fun _ _ f => f.elim, w1, .inl ⟨by rw [e1], lpr2 m (by rw [L65Y]; exact e2)⟩⟩
    have hl' := nxt_len e1
    have lo : ∀ x, x < Kb → KK F A x := fun x hx => ⟨fun f => by have := hF x f; omega, fun f => by have := hA x f; omega⟩
    obtain ⟨h2, t2, w2, hz⟩ := z65 (N0 := N0) (N := N) (S := S) (pb := pb) (mb := h.nb) (pl := p + ms[i].delta) (maps := maps) (i := .int 63 (i : Int)) (fv := fv) (ats := fv.map (·.at_)) w1 (by omega)
      (fun x f => by have := hF x f; omega) (fun x f => by have := hA x f; omega) hFA (rf.to t1 (fun _ _ _ f => f) (fun _ _ _ f => f)) (ra.to t1 (fun _ _ _ f => f)) rl1 c1 (kn _ (Nat.le_refl _)) (rS.mono fun x hx _ => lo x hx) (hp.to t1 (fun f => f)) hpb (by omega) (by simp; omega) (by omega) (by omega) (by simp; omega)
    have T2 : To (fun x => N0 ≤ x) h h2 := (t1.mono fun _ _ f => f.elim).trans t2
    rcases hz with ⟨hb, ez⟩ | ⟨hb, fs', at', F', A', ez, q1, q2, q3, q4, q5, q6⟩
    · exact ⟨h2, T2, w2, .inl ⟨by rw [e1]; simp only; rw [if_pos hb], lpr2 m (by rw [L65Y]; exact e2 _ ez)⟩⟩
    have hge := wid_ge 0 l'
    have e4 := e3 _ _ _ ez
    have hpl : (((p + ms[i].delta : Nat) : Int)) = ((p + ms[i].delta + 1 : Nat) : Int) - 1 := by omega
    rw [hpl] at e4
    obtain ⟨h3, t3, w3, hr⟩ := ih (i + 1) m (p + ms[i].delta + 1) h2 fs' at' v1 _ l' F' A' (by omega) (by omega) (by have := T2.nb; omega) w2 (hmk.to T2 (fun x _ hx f => by have : N0 ≤ x := f; omega)) (hp.to T2 (fun f => by have : N0 ≤ pb := f; omega)) q1 q2 q3 q4 (by rw [List.map_append]; exact q5) q6 (by omega) (by simp; omega) (by omega) (by omega)
    refine ⟨h3, T2.trans t3, w3, ?_⟩
    rw [e1]
    simp only
    rw [if_neg hb, lpn m (show L65n0 _ _ = _ by rw [L65Y]; exact e4)]
    exact hr
end Go.Proofs.Ytnpfppddongbhaa
end

section
namespace Go.Proofs.Ytnpfppddongbhaa
open Go Go.AM
set_option autoImplicit false
theorem t65 {h : Hp} {N1 M Kb N S pb : Nat} {P : Nat → Prop} {maps v : AV} {ms : List Mv} {l c : List Vt} (hw : Wf h) (hmk : MK h N1 M Kb maps ms) (hK : Kb ≤ h.nb) (hp : Pool h pb) (hN : N ≤ 1000) (hms : ∀ m ∈ ms, Ok2 m) (hlen : ms.length ≤ 4096)
    (rl : Rws h P 3 v (l.map vR)) (hl : l.length ≤ 1000) (hcl : c.length ≤ 1000) (h89 : ∀ {g : Hp} {Q : Nat → Prop}, Rws g Q 3 v (l.map vR) → Wf g → ∃ o g', s89 [v] g = .ret o g' ∧ Rws g' (fun x => g.nb ≤ x) 3 o (c.map vR) ∧ To No g g' ∧ Wf g') :
    ∃ h', To No h h' ∧ Wf h' ∧ ((frs N S ms c 0 [] = none ∧ s65 [.agg (avL [v, .nils]), maps, plv pb, .int 63 (N : Int), .int 63 (S : Int)] h = .ret no3 h') ∨
        ∃ r fs' at' F' A', frs N S ms c 0 [] = some r ∧ s65 [.agg (avL [v, .nils]), maps, plv pb, .int 63 (N : Int), .int 63 (S : Int)] h = .ret (.tup (.cons fs' (.cons at' (.cons (.bool true) .nil)))) h' ∧
          (∀ x, F' x → h.nb ≤ x) ∧ (∀ x, A' x → h.nb ≤ x) ∧ PF h' F' (KK F' A') fs' r ∧ Rws h' A' 1 at' ((r.map (·.at_)).map aR)) := by
  obtain ⟨h1, m1, c1, t1, w1, n1⟩ := ce_mk hw [v, .nils] (by intro x hx; simp only [List.mem_cons, List.not_mem_nil, or_false] at hx; rcases hx with rfl | rfl; exact rl.one; rfl)
  have m1 : ∀ k : AV → Hp → Res, mk h (cells (.agg (avL [v, .nils]))) k = k (.ptr h.nb 0) h1 := m1
  have y0 : ∀ kk : AV → Res, ld1 h1 (.ptr h.nb (Nat.add 0 0)) kk = kk v := fun kk => Ce.l c1 0 (by simp) kk
  have y0' : ∀ kk : AV → Res, ld1 h1 (.ptr h.nb 0) kk = kk v := y0
  obtain ⟨o, h2, e2, r2, t2, w2⟩ := h89 (rl.to t1 (fun _ _ _ f => f)) w1
  have T2 := t1.trans t2
  have n2 := T2.nb
  have n2' := t2.nb
  have hp2 := hp.to T2 (fun f => f)
  obtain ⟨h3, t3, w3, hr⟩ := loop65 (N0 := h.nb) (N := N) (S := S) hK (Ce.lt hp) hN hms hlen trivial ms.length 0 most 0 h2 .nils .nils o [] c (fun _ => False) (fun _ => False) (by unfold most; omega) (by omega) n2 w2 (hmk.to T2 (fun _ _ _ f => f)) hp2 (fun _ f => f.elim) (fun _ f => f.elim) (fun _ f => f.elim) PX.nil (Rws.nil _ _ _) (Rws.c (r2.mono fun x _ _ => ⟨fun f => f, fun f => f⟩)) hcl rfl (fun _ => rfl) (by omega)
  have T3 : To No h h3 := ((T2.mono fun _ _ f => f.elim).trans t3).mono fun x hx e => by have : h.nb ≤ x := e; omega
  refine ⟨h3, T3, w3, ?_⟩
  rw [List.drop_zero] at hr
  rcases hr with ⟨q1, q2⟩ | ⟨r, fs', at', F', A', q1, q2, q3, q4, q5, q6⟩
  · have q2 : lp L65n0 most [maps, plv pb, .int 63 (N : Int), .int 63 (S : Int), .nils, .nils, o, .int 63 (.negSucc 0), .int 63 0] h2 = .ret no3 h3 := q2
    have q2' : lp L65n0 most [maps, plv pb, .int 63 (N : Int), .int 63 (S : Int), .nils, .nils, o, .int 63 (-1), .int 63 0] h2 = .ret no3 h3 := q2
    exact .inl ⟨q1, by simp only [↓s65, ↓m1, ↓cP_p, ↓y0, ↓y0', ↓e2, ↓q2, ↓q2', ↓SD, SA, Int.ofNat_eq_natCast, Int.cast_ofNat_Int, Int.reduceBEq, Int.reduceAdd, Int.reduceNeg, Int.reduceNegSucc, Int.reduceLT, Int.reduceLE, Int.reduceMul, Int.reduceTMod, Int.reduceSub, Int.reduceBNe, Bool.not_true, Bool.not_false, decide_true, decide_false, ne_eq, not_false_eq_true, Int.reduceEq, reduceCtorEq]⟩
  · have q2 : lp L65n0 most [maps, plv pb, .int 63 (N : Int), .int 63 (S : Int), .nils, .nils, o, .int 63 (.negSucc 0), .int 63 0] h2 = .exit 0 [fs', at'] h3 := q2
    have q2' : lp L65n0 most [maps, plv pb, .int 63 (N : Int), .int 63 (S : Int), .nils, .nils, o, .int 63 (-1), .int 63 0] h2 = .exit 0 [fs', at'] h3 := q2
    have k1 := fun kk => PX.cK q5 kk
    have k2 := fun kk => Rws.cK q6 kk
    exact .inr ⟨r, fs', at', F', A', q1, by simp only [↓s65, ↓m1, ↓cP_p, ↓y0, ↓y0', ↓e2, ↓q2, ↓q2', ↓k1, ↓k2, blk_x0, ↓SD, SA, Int.ofNat_eq_natCast, Int.cast_ofNat_Int, Int.reduceBEq, Int.reduceAdd, Int.reduceNeg, Int.reduceNegSucc, Int.reduceLT, Int.reduceLE, Int.reduceMul, Int.reduceTMod, Int.reduceSub, Int.reduceBNe, Bool.not_true, Bool.not_false, decide_true, decide_false, ne_eq, not_false_eq_true, Int.reduceEq, reduceCtorEq], fun x f => (q3 x f).1, fun x f => (q4 x f).1, q5, q6⟩
end Go.Proofs.Ytnpfppddongbhaa
end

section
namespace Go.Proofs.Ytnpfppddongbhaa
open Go Go.AM
set_option autoImplicit false
/-! ### a variable whose number is drawn ahead of it -/
def rsq (h : Hp) : Hp := ⟨Nat.succ h.nb, h.bs, h.gs, h.ms⟩
theorem rsv_q (h : Hp) (k : Nat → Hp → Res) : rsv h k = k h.nb (rsq h) := rfl
theorem rsq_to (h : Hp) : To No h (rsq h) := ⟨Nat.le_succ _, fun _ _ _ => rfl, fun _ _ _ => rfl, fun hn g hg => hn g (Nat.le_of_succ_le hg)⟩
/-- The block b is there, alone in the group g. -/
structure OwD (h : Hp) (b g : Nat) (B : Blk) : Prop where
  get : h.bs.get b = some B
  lt : b < h.nb
  fr : B.fr = true
  gg : B.g = g
  glt : g < h.nb
  gs : h.gs.get g = some (b, b)
def CeD (h : Hp) (b g : Nat) (r : List AV) : Prop := (∀ x ∈ r, one x = true) ∧ ∃ B, OwD h b g B ∧ B.lim = r.length ∧ ∀ i (hi : i < r.length), B.at i = r[i]
section
variable {h h' : Hp} {b g : Nat} {r : List AV} {B : Blk}
theorem OwD.grp (ho : OwD h b g B) : h.grp B.g = (b, b) := by rw [ho.gg]; simp [Hp.grp, ho.gs]
theorem OwD.rd (ho : OwD h b g B) : Rd h b B := ⟨ho.get, ho.lt, fun _ => ⟨by rw [ho.gg]; exact ho.glt, by rw [ho.grp]; exact Nat.le_refl _⟩⟩
theorem OwD.to {W : Nat → Prop} (ho : OwD h b g B) (ht : To W h h') (h1 : ¬ W b) (h2 : ¬ W g) : OwD h' b g B :=
  ⟨by rw [ht.get b ho.lt h1]; exact ho.get, Nat.lt_of_lt_of_le ho.lt ht.nb, ho.fr, ho.gg, Nat.lt_of_lt_of_le ho.glt ht.nb, by rw [ht.gs g ho.glt h2]; exact ho.gs⟩
theorem OwD.wb (ho : OwD h b g B) (k : Blk → T (Nat × Nat) → Res) : wb h b k = k B h.gs := by
  have e : AM.wb h b k = ifB B.fr (ifB (Nat.beq (h.grp B.g).1 b) (ifB (Nat.beq (h.grp B.g).2 b) (k B h.gs) (k B (h.gs.set (b, b) B.g))) .fail) .fail := by unfold AM.wb; rw [ho.get]
  rw [e, ho.fr, ho.grp, (beq_iff b b).2 rfl]; rfl
theorem CeD.to {W : Nat → Prop} (hc : CeD h b g r) (ht : To W h h') (h1 : ¬ W b) (h2 : ¬ W g) : CeD h' b g r := by
  obtain ⟨h0, B, o, q⟩ := hc
  exact ⟨h0, B, o.to ht h1 h2, q⟩
theorem CeD.ld (hc : CeD h b g r) (k : AV → Res) : ldN h r.length (.ptr b 0) k = k (.agg (avL r)) := by
  obtain ⟨h1, B, o, hl1, q⟩ := hc
  exact ldN_rd (l := r) (OwD.rd o) (fun i hi => by rw [Nat.zero_add]; exact q i hi) (fun v hv => one_unk (h1 v hv)) k
theorem CeD.l (hc : CeD h b g r) (j : Nat) (hj : j < r.length) (k : AV → Res) : ld1 h (.ptr b (Nat.add 0 j)) k = k r[j] := by
  obtain ⟨h1, B, o, hl1, q⟩ := hc
  exact (ld1_rd (OwD.rd o) (by rw [show Nat.add 0 j = j from Nat.zero_add j]; exact q j hj) k).trans (cK_one (h1 _ (List.getElem_mem hj)) k)
theorem CeD.s (hw : Wf h) (hc : CeD h b g r) (j : Nat) (hj : j < r.length) (v : AV) (hv : one v = true) : ∃ h', (∀ k : Hp → Res, st1 h (.ptr b (Nat.add 0 j)) v k = k h') ∧ CeD h' b g (r.set j v) ∧ To (At b) h h' ∧ Wf h' ∧ h'.nb = h.nb := by
  obtain ⟨h1, B, o, hl1, q⟩ := hc
  have e : ∀ k : Hp → Res, st1 h (.ptr b j) v k = AM.wb h b fun B gs => ifB (one v) (ifB (Nat.blt j B.lim) (k (putB h b B (T.set v B.cs j) gs)) .fail) .fail := fun k => rfl
  have hget : ∀ x, (putB h b B (T.set v B.cs j) h.gs).bs.get x = if x = b then some (setC B j v) else h.bs.get x := fun x => T.get_set _ _ _ _
  have ht : To (At b) h (putB h b B (T.set v B.cs j) h.gs) := ⟨Nat.le_refl _, fun x _ hx => by rw [hget, if_neg (show ¬ x = b from hx)], fun _ _ _ => rfl, fun hn => hn⟩
  refine ⟨putB h b B (T.set v B.cs j) h.gs, fun k => ?_, ⟨fun x hx => ?_, setC B j v, ⟨by rw [hget, if_pos rfl], o.lt, o.fr, o.gg, o.glt, o.gs⟩, by rw [List.length_set]; exact hl1, fun i hi => ?_⟩, ht, ht.wf hw, rfl⟩
  · rw [show Nat.add 0 j = j from Nat.zero_add j, e, OwD.wb o, hv, (blt_iff _ _).2 (by omega)]; rfl
  · rcases List.mem_or_eq_of_mem_set hx with hx | rfl
    · exact h1 x hx
    · exact hv
  · rw [List.length_set] at hi
    rw [setC_at (by omega), List.getElem_set]
    by_cases e : j = i
    · rw [if_pos e, if_pos e.symm]
    · rw [if_neg e, if_neg (Ne.symm e)]; exact q i hi
theorem CeD.st (hw : Wf h) (hc : CeD h b g r) (r' : List AV) (hl : r'.length = r.length) (ho : ∀ x ∈ r', one x = true) : ∃ h', (∀ k : Hp → Res, stN h r'.length (.ptr b 0) (.agg (avL r')) k = k h') ∧ CeD h' b g r' ∧ To (At b) h h' ∧ Wf h' ∧ h'.nb = h.nb := by
  obtain ⟨h1, B, o, hl1, q⟩ := hc
  obtain ⟨t, t1, t2⟩ := lay_list r' B.cs 0 ho
  have e : ∀ k : Hp → Res, stN h r'.length (.ptr b 0) (.agg (avL r')) k = ifB (Nat.beq (len (avL r')) r'.length) (AM.wb h b fun B gs => ifB (Nat.ble (Nat.add 0 r'.length) B.lim) (lay (avL r') B.cs 0 fun t _ => k (putB h b B t gs)) .fail) .fail := fun k => rfl
  have hget : ∀ x, (putB h b B t h.gs).bs.get x = if x = b then some ⟨B.fr, B.g, B.lim, B.df, t⟩ else h.bs.get x := fun x => T.get_set _ _ _ _
  have ht : To (At b) h (putB h b B t h.gs) := ⟨Nat.le_refl _, fun x _ hx => by rw [hget, if_neg (show ¬ x = b from hx)], fun _ _ _ => rfl, fun hn => hn⟩
  refine ⟨putB h b B t h.gs, fun k => ?_, ⟨ho, ⟨B.fr, B.g, B.lim, B.df, t⟩, ⟨by rw [hget, if_pos rfl], o.lt, o.fr, o.gg, o.glt, o.gs⟩, by show B.lim = _; omega, fun i hi => ?_⟩, ht, ht.wf hw, rfl⟩
  · rw [e, len_avL, (beq_iff _ _).2 rfl, ifB_t, OwD.wb o, (ble_iff _ _).2 (show Nat.add 0 r'.length ≤ B.lim by have e0 : Nat.add 0 r'.length = r'.length := Nat.zero_add _; rw [e0]; omega), ifB_t, t1]
  · rw [at_in (⟨B.fr, B.g, B.lim, B.df, t⟩ : Blk) (show i < B.lim by omega)]
    simp only [t2 i]
    rw [dif_pos ⟨by omega, by omega⟩]; rfl
/-- The drawn variable is made: noughts r laid at b. -/
theorem due_mk (hw : Wf h) (hb : b < h.nb) (hr : ∀ x ∈ r, one x = true) : ∃ t, (∀ k : T AV → Nat → Res, lay (avL r) .e 0 k = k t r.length) ∧ CeD (dueH h b r.length t) b h.nb r ∧ To (At b) h (dueH h b r.length t) ∧ Wf (dueH h b r.length t) ∧ (dueH h b r.length t).nb = h.nb + 1 := by
  obtain ⟨t, h1, h2⟩ := lay_list r .e 0 hr
  have hget : ∀ x, (dueH h b r.length t).bs.get x = if x = b then some ⟨true, h.nb, r.length, .nil, t⟩ else h.bs.get x := fun x => T.get_set _ _ _ _
  have hgs : ∀ x, (dueH h b r.length t).gs.get x = if x = h.nb then some (b, b) else h.gs.get x := fun x => T.get_set _ _ _ _
  have ht : To (At b) h (dueH h b r.length t) := ⟨Nat.le_succ _, fun x _ hx => by rw [hget, if_neg (show ¬ x = b from hx)], fun x hx _ => by rw [hgs, if_neg (by omega)], fun hn x hx => by
    have hx : h.nb + 1 ≤ x := hx
    rw [hgs, if_neg (by omega)]; exact hn x (by omega)⟩
  refine ⟨t, fun k => by rw [h1, Nat.zero_add], ⟨hr, _, ⟨by rw [hget, if_pos rfl], Nat.lt_succ_of_lt hb, rfl, rfl, Nat.lt_succ_self _, by rw [hgs, if_pos rfl]⟩, rfl, fun i hi => ?_⟩, ht, ht.wf hw, rfl⟩
  rw [at_in _ (show i < r.length by omega)]
  simp only [h2 i]
  rw [dif_pos ⟨by omega, by omega⟩]; rfl
end
end Go.Proofs.Ytnpfppddongbhaa
end

section
namespace Go.AM
open Go
set_option autoImplicit false
/-! ### rows put behind rows -/
theorem apdC_rows {h : Hp} {P : Nat → Prop} {n by_ : Nat} {v : AV} {rs ss : List (List AV)} (hw : Wf h) (hv : Rws h P n v rs) (hs : ∀ r ∈ ss, r.length = n ∧ ∀ x ∈ r, AM.one x = true) (hb : (rs.length + ss.length) * by_ ≤ 140737488355328) (hb2 : rs.length + ss.length ≤ 9223372036854775807) :
    ∃ v' h', (∀ k : AV → Hp → Res, apdC h n by_ ss.length (avL ss.flatten) v k = k v' h') ∧ Rws h' (fun x => P x ∨ h.nb ≤ x) n v' (rs ++ ss) ∧ To P h h' ∧ Wf h' := by
  have hone := fl_one hs
  have hr := fl_len ss (fun r hr => (hs r hr).1)
  have nn : Nat.beq n n = true := (beq_iff n n).2 rfl
  have hrs' : ∀ x ∈ rs ++ ss, x.length = n ∧ ∀ y ∈ x, AM.one y = true := fun x hx => by
    rcases List.mem_append.1 hx with hx | hx
    · exact hv.1 x hx
    · exact hs x hx
  by_cases hM : ss = []
  · subst hM
    refine ⟨v, h, fun k => ?_, by rw [List.append_nil]; exact hv.mono fun x hx _ => .inl hx, To.refl _ _, hw⟩
    unfold apdC
    obtain ⟨h00, ⟨rfl, rfl⟩ | ⟨b, B, rfl, -⟩⟩ := hv
    · rfl
    · show ifB (Nat.beq n n) _ _ = _
      rw [nn]; rfl
  · have hM0 : 0 < ss.length := List.length_pos_iff.2 hM
    have nM : Nat.beq ss.length 0 = false := by rw [Bool.eq_false_iff, ne_eq, beq_iff]; omega
    generalize hfl : ss.flatten = r at *
    rcases hv with ⟨h00, ⟨rfl, rfl⟩ | ⟨b, B, rfl, g1, g2, g3, g4, g5, g6⟩⟩
    · obtain ⟨t0, l1, l2⟩ := lay_list r .e 0 hone
      have hat0 : ∀ i (hi : i < r.length), (⟨true, h.nb, 0 + r.length, .nil, t0⟩ : Blk).at i = r[i] := by
        intro i hi
        rw [at_in _ (show i < 0 + r.length by omega)]
        simp only [l2 i]
        rw [dif_pos ⟨by omega, by omega⟩]
        simp
      obtain ⟨p1, p2⟩ := nw_own hw (0 + r.length) .nil t0
      have mul1 : Nat.beq (0 + r.length) (Nat.mul ss.length n) = true := by rw [beq_iff, Nat.zero_add]; exact hr
      refine ⟨.sl h.nb 0 ss.length n none, nw h (0 + r.length) .nil t0, fun k => ?_, ⟨hrs', .inr ⟨h.nb, _, by rw [List.nil_append], .inr (Nat.le_refl _), p1.rd, rfl, .inr (Nat.le_refl _), by rw [List.nil_append]; show ss.length * n ≤ 0 + r.length; rw [hr, Nat.zero_add]; exact Nat.le_refl _, fun i hi => ?_⟩⟩, p2.mono fun _ _ f => f.elim, p2.wf hw⟩
      · unfold apdC
        show ifB (Nat.beq ss.length 0) (k AV.nils h) (ifB (Nat.ble (Nat.mul ss.length by_) 140737488355328) (ifB (Nat.ble ss.length 9223372036854775807) (grown h n ss.length (avL r) k) .fail) .fail) = _
        have e1 : Nat.ble (Nat.mul ss.length by_) 140737488355328 = true := by rw [ble_iff]; show ss.length * by_ ≤ _; have : (0 + ss.length) * by_ ≤ 140737488355328 := hb; rwa [Nat.zero_add] at this
        have e2 : Nat.ble ss.length 9223372036854775807 = true := by rw [ble_iff]; have : 0 + ss.length ≤ 9223372036854775807 := hb2; omega
        rw [nM, e1, e2]
        show grown h n ss.length (avL r) k = _
        have e : grown h n ss.length (avL r) k = lay (avL r) .e 0 fun t m => ifB (Nat.beq m (Nat.mul ss.length n)) (k (.sl h.nb 0 ss.length n none) (nw h m .nil t)) .fail := rfl
        rw [e, l1, mul1]; rfl
      · simp only [List.nil_append, hfl] at hi ⊢
        exact hat0 i hi
    · obtain ⟨t, t1', t2⟩ := lay_list r B.cs (rs.length * n) hone
      generalize hold : ifN (h.grp B.g).1 b B.lim (rs.length * n) (h.grp B.g).2 h.nb = old
      have hle : old ≤ h.nb := by
        have q := (g2.grp g3).2
        have hlt := g2.lt
        have e : ifN (h.grp B.g).1 b B.lim (rs.length * n) (h.grp B.g).2 h.nb = Bool.rec (motive := fun _ => Nat) h.nb (Bool.rec (motive := fun _ => Nat) h.nb (h.grp B.g).2 (Nat.ble B.lim (rs.length * n))) (Nat.beq (h.grp B.g).1 b) := rfl
        rw [← hold, e, recB, recB]
        split
        · split
          · omega
          · exact Nat.le_refl _
        · exact Nat.le_refl _
      have mul2 : Nat.mul (Nat.add rs.length ss.length) n = rs.length * n + r.length := by rw [hr]; exact Nat.add_mul _ _ _
      have hrun : ∀ k : AV → Hp → Res, apdC h n by_ ss.length (avL r) (.sl b 0 rs.length n none) k = k (.sl h.nb 0 (rs.length + ss.length) n none) ⟨Nat.succ h.nb, h.bs.set ⟨true, B.g, rs.length * n + r.length, B.df, t⟩ h.nb, h.gs.set (h.nb, old) B.g, h.ms⟩ := fun k => by
        unfold apdC
        show ifB (Nat.beq n n) (ifB (Nat.beq ss.length 0) _ (ifB (Nat.ble (Nat.mul (Nat.add rs.length ss.length) by_) 140737488355328) (ifB (Nat.ble (Nat.add rs.length ss.length) 9223372036854775807)
          (gb h b fun B => ifB B.fr (ifB (Nat.beq 0 0) (lay (avL r) B.cs (Nat.mul rs.length n) fun t e => ifB (Nat.beq e (Nat.mul (Nat.add rs.length ss.length) n)) (ifB (Nat.ble (Nat.mul rs.length n) B.lim)
            (k (.sl h.nb 0 (Nat.add rs.length ss.length) n none) ⟨Nat.succ h.nb, h.bs.set ⟨true, B.g, e, B.df, t⟩ h.nb, h.gs.set (h.nb, ifN (h.grp B.g).1 b B.lim (Nat.mul rs.length n) (h.grp B.g).2 h.nb) B.g, h.ms⟩) .fail) .fail) _) .fail) .fail) .fail)) .fail = _
        have e1 : Nat.ble (Nat.mul (Nat.add rs.length ss.length) by_) 140737488355328 = true := by rw [ble_iff]; exact hb
        have e2 : Nat.ble (Nat.add rs.length ss.length) 9223372036854775807 = true := by rw [ble_iff]; exact hb2
        rw [e1, e2, nn, nM]
        show (gb h b fun B => ifB B.fr (ifB (Nat.beq 0 0) (lay (avL r) B.cs (Nat.mul rs.length n) fun t e => ifB (Nat.beq e (Nat.mul (Nat.add rs.length ss.length) n)) (ifB (Nat.ble (Nat.mul rs.length n) B.lim)
            (k (.sl h.nb 0 (Nat.add rs.length ss.length) n none) ⟨Nat.succ h.nb, h.bs.set ⟨true, B.g, e, B.df, t⟩ h.nb, h.gs.set (h.nb, ifN (h.grp B.g).1 b B.lim (Nat.mul rs.length n) (h.grp B.g).2 h.nb) B.g, h.ms⟩) .fail) .fail) _) .fail) = _
        rw [gb_rd g2, g3, ifB_t]
        have e3 : Nat.mul rs.length n = rs.length * n := rfl
        show (lay (avL r) B.cs (Nat.mul rs.length n) fun t e => ifB (Nat.beq e (Nat.mul (Nat.add rs.length ss.length) n)) (ifB (Nat.ble (Nat.mul rs.length n) B.lim)
            (k (.sl h.nb 0 (Nat.add rs.length ss.length) n none) ⟨Nat.succ h.nb, h.bs.set ⟨true, B.g, e, B.df, t⟩ h.nb, h.gs.set (h.nb, ifN (h.grp B.g).1 b B.lim (Nat.mul rs.length n) (h.grp B.g).2 h.nb) B.g, h.ms⟩) .fail) .fail) = _
        rw [e3, hold, mul2, t1', (beq_iff _ _).2 rfl, (ble_iff _ _).2 g5]
        rfl
      have hget2 : ∀ x, (h.bs.set ⟨true, B.g, rs.length * n + r.length, B.df, t⟩ h.nb).get x = if x = h.nb then some ⟨true, B.g, rs.length * n + r.length, B.df, t⟩ else h.bs.get x := fun x => T.get_set _ _ _ _
      have hgs2 : ∀ x, (h.gs.set (h.nb, old) B.g).get x = if x = B.g then some (h.nb, old) else h.gs.get x := fun x => T.get_set _ _ _ _
      have hBg := g2.grp g3
      have tfin : To P h ⟨Nat.succ h.nb, h.bs.set ⟨true, B.g, rs.length * n + r.length, B.df, t⟩ h.nb, h.gs.set (h.nb, old) B.g, h.ms⟩ := by
        refine ⟨Nat.le_succ _, fun x hx hn => ?_, fun x hx hn => ?_, fun hn g hg => ?_⟩
        · show (h.bs.set _ h.nb).get x = _
          rw [hget2, if_neg (by omega)]
        · show (h.gs.set (h.nb, old) B.g).get x = _
          rw [hgs2, if_neg (fun e => hn (by rw [e]; exact g4))]
        · show (h.gs.set (h.nb, old) B.g).get g = none
          have hg : h.nb + 1 ≤ g := hg
          rw [hgs2, if_neg (by omega)]
          exact hn g (by omega)
      have hcat : (rs ++ ss).flatten = rs.flatten ++ r := by rw [List.flatten_append, hfl]
      have hfl2 := fl_len rs (fun r hr => (h00 r hr).1)
      refine ⟨_, _, hrun, ⟨hrs', .inr ⟨h.nb, ⟨true, B.g, rs.length * n + r.length, B.df, t⟩, by rw [List.length_append], .inr (Nat.le_refl _), ⟨by show (h.bs.set _ h.nb).get h.nb = _; rw [hget2, if_pos rfl], Nat.lt_succ_self _, fun _ => ⟨Nat.lt_succ_of_lt hBg.1, ?_⟩⟩, rfl, .inl g4, by rw [List.length_append, Nat.add_mul, ← hr]; exact Nat.le_refl _, fun i hi => ?_⟩⟩, tfin, tfin.wf hw⟩
      · show (Hp.grp ⟨_, _, h.gs.set (h.nb, old) B.g, _⟩ B.g).2 ≤ h.nb
        simp only [Hp.grp, hgs2, if_pos]
        exact hle
      · simp only [hcat] at hi ⊢
        rw [List.length_append] at hi
        rw [at_in _ (show i < rs.length * n + r.length by omega)]
        simp only [t2 i]
        by_cases c : rs.length * n ≤ i
        · rw [dif_pos ⟨c, by omega⟩, List.getElem_append_right (by omega)]
          simp only [hfl2]
        · rw [dif_neg (by omega), List.getElem_append_left (by omega)]
          have := g6 i (by omega)
          rw [at_in B (by omega)] at this
          exact this
end Go.AM
end

section
namespace Go.Proofs.Ytnpfppddongbhaa
open Go Go.AM
set_option autoImplicit false
/-! ### noughts put behind -/
theorem repL_avL (r : List AV) : ∀ n, repL (avL r) n = avL (List.replicate n r).flatten
  | 0 => rfl
  | n + 1 => by
    have e : repL (avL r) (n + 1) = app (avL r) (repL (avL r) n) := rfl
    rw [e, repL_avL r n, app_avL, List.replicate_succ, List.flatten_cons]
theorem vR_apdZ {h : Hp} {P : Nat → Prop} {v : AV} {l : List Vt} (hw : Wf h) (hv : Rws h P 3 v (l.map vR)) (hl : l.length ≤ 100000) (n : Nat) (hn : n ≤ 100000) :
    ∃ v' h', (∀ k : AV → Hp → Res, apdZ h 3 32 (.cons (.int 63 (.ofNat 0)) (.cons (.str 0 0) (.cons (.int 63 (.ofNat 0)) .nil))) v (.int 63 (n : Int)) k = k v' h') ∧
      Rws h' (fun x => P x ∨ h.nb ≤ x) 3 v' ((l ++ List.replicate n (⟨0, 0, 0, 0⟩ : Vt)).map vR) ∧ To P h h' ∧ Wf h' := by
  obtain ⟨v', h', e, r, t, w⟩ := apdC_rows (by_ := 32) (ss := List.replicate n (vR ⟨0, 0, 0, 0⟩)) hw hv (fun r hr => by rw [List.eq_of_mem_replicate hr]; exact ⟨rfl, vR_one _⟩) (by rw [List.length_map, List.length_replicate]; omega) (by rw [List.length_map, List.length_replicate]; omega)
  rw [List.length_replicate] at e
  refine ⟨v', h', fun k => ?_, by rw [List.map_append, List.map_replicate]; exact r, t, w⟩
  rw [← e k, ← repL_avL]
  have e2 : apdZ h 3 32 (.cons (.int 63 (.ofNat 0)) (.cons (.str 0 0) (.cons (.int 63 (.ofNat 0)) .nil))) v (.int 63 (n : Int)) k = ifB (Nat.ble n 9223372036854775807) (ifB (Nat.ble (Nat.mul n 32) 140737488355328) (apdC h 3 32 n (repL (avL (vR ⟨0, 0, 0, 0⟩)) n) v k) .fail) .fail := rfl
  rw [e2, (ble_iff _ _).2 (by omega), (ble_iff (Nat.mul n 32) _).2 (show n * 32 ≤ 140737488355328 by omega)]; rfl
end Go.Proofs.Ytnpfppddongbhaa
end

section
namespace Go.AM
open Go
set_option autoImplicit false
/-! ### rows put behind a cut whose capacity is its length -/
theorem nm_n {v : AV} {h : Hp} (k : AV → Hp → Res) : nm (.norm [v] h) k = k v h := of_eq_true (eq_self _)
theorem grown_rows {h : Hp} {n : Nat} {rs : List (List AV)} (hw : Wf h) (hs : ∀ r ∈ rs, r.length = n ∧ ∀ x ∈ r, AM.one x = true) :
    ∃ v' h', (∀ k : AV → Hp → Res, grown h n rs.length (avL rs.flatten) k = k v' h') ∧ Rws h' (fun x => h.nb ≤ x) n v' rs ∧ To No h h' ∧ Wf h' := by
  have hone := fl_one hs
  have hr := fl_len rs (fun r hr => (hs r hr).1)
  obtain ⟨t0, l1, l2⟩ := lay_list rs.flatten .e 0 hone
  have hat0 : ∀ i (hi : i < rs.flatten.length), (⟨true, h.nb, 0 + rs.flatten.length, .nil, t0⟩ : Blk).at i = rs.flatten[i] := by
    intro i hi
    rw [at_in _ (show i < 0 + rs.flatten.length by omega)]
    simp only [l2 i]
    rw [dif_pos ⟨by omega, by omega⟩]
    simp
  obtain ⟨p1, p2⟩ := nw_own hw (0 + rs.flatten.length) .nil t0
  have mul1 : Nat.beq (0 + rs.flatten.length) (Nat.mul rs.length n) = true := by rw [beq_iff, Nat.zero_add]; exact hr
  refine ⟨.sl h.nb 0 rs.length n none, nw h (0 + rs.flatten.length) .nil t0, fun k => ?_, ⟨hs, .inr ⟨h.nb, _, rfl, (Nat.le_refl _), p1.rd, rfl, (Nat.le_refl _), by show rs.length * n ≤ 0 + rs.flatten.length; rw [hr, Nat.zero_add]; exact Nat.le_refl _, fun i hi => hat0 i hi⟩⟩, p2.mono fun _ _ f => f.elim, p2.wf hw⟩
  have e : grown h n rs.length (avL rs.flatten) k = lay (avL rs.flatten) .e 0 fun t m => ifB (Nat.beq m (Nat.mul rs.length n)) (k (.sl h.nb 0 rs.length n none) (nw h m .nil t)) .fail := rfl
  rw [e, l1, mul1]; rfl
theorem apd_cut {h : Hp} {P Q : Nat → Prop} {n by_ : Nat} {v w : AV} {rs ss : List (List AV)} (hw : Wf h) (hv : Rws h P n v rs) (hs : Rws h Q n w ss) (hM : ss ≠ []) (hb : (rs.length + ss.length) * by_ ≤ 140737488355328) (hb2 : rs.length + ss.length ≤ 9223372036854775807) :
    ∃ u v' h', (∀ f : AV → Res, cutS n v none (some (.int 63 (rs.length : Int))) (some (.int 63 (rs.length : Int))) f = f u) ∧ (∀ k : AV → Hp → Res, apd h n by_ u w k = k v' h') ∧ Rws h' (fun x => h.nb ≤ x) n v' (rs ++ ss) ∧ To No h h' ∧ Wf h' := by
  have src0 := fun k => hv.src k
  have src1 := fun k => hs.src k
  have nn : Nat.beq n n = true := (beq_iff n n).2 rfl
  have hM0 : 0 < ss.length := List.length_pos_iff.2 hM
  have nM : Nat.beq ss.length 0 = false := by rw [Bool.eq_false_iff, ne_eq, beq_iff]; omega
  have hrs' : ∀ x ∈ rs ++ ss, x.length = n ∧ ∀ y ∈ x, AM.one y = true := fun x hx => by
    rcases List.mem_append.1 hx with hx | hx
    · exact hv.1 x hx
    · exact hs.1 x hx
  obtain ⟨v', h', g1, g2, g3, g4⟩ := grown_rows hw hrs'
  rw [List.flatten_append, ← app_avL, List.length_append] at g1
  have e1 : Nat.ble (Nat.mul (Nat.add rs.length ss.length) by_) 140737488355328 = true := by rw [ble_iff]; exact hb
  have e2 : Nat.ble (Nat.add rs.length ss.length) 9223372036854775807 = true := by rw [ble_iff]; exact hb2
  have hv' := hv
  rcases hv' with ⟨h00, ⟨rfl, rfl⟩ | ⟨b, B, rfl, q1, q2, q3, q4, q5, q6⟩⟩
  · have e1' : Nat.ble (Nat.mul ss.length by_) 140737488355328 = true := by rw [ble_iff]; show ss.length * by_ ≤ _; have : (0 + ss.length) * by_ ≤ 140737488355328 := hb; rwa [Nat.zero_add] at this
    have e2' : Nat.ble ss.length 9223372036854775807 = true := by rw [ble_iff]; have : 0 + ss.length ≤ 9223372036854775807 := hb2; omega
    refine ⟨.nils, v', h', fun f => rfl, fun k => ?_, g2, g3, g4⟩
    unfold apd
    rw [src1]
    show ifB (Nat.beq ss.length 0) (k AV.nils h) (ifB (Nat.ble (Nat.mul ss.length by_) 140737488355328) (ifB (Nat.ble ss.length 9223372036854775807) (grown h n ss.length (avL ss.flatten) k) .fail) .fail) = _
    rw [nM, e1', e2']
    have := g1 k
    rw [show ([] : List (List AV)).length + ss.length = ss.length from Nat.zero_add _] at this
    exact this
  · have o0 : cutO 0 0 n rs.length = 0 := by
      have e : cutO 0 0 n rs.length = Bool.rec (motive := fun _ => Nat) (Nat.add 0 (Nat.mul 0 n)) 0 (Nat.beq rs.length 0) := rfl
      rw [e]; cases Nat.beq rs.length 0
      · show Nat.add 0 (0 * n) = 0; rw [Nat.zero_mul]
      · rfl
    refine ⟨.sl b 0 rs.length n (some rs.length), v', h', fun f => ?_, fun k => ?_, g2, g3, g4⟩
    · have e : cutS n (.sl b 0 rs.length n none) none (some (.int 63 (rs.length : Int))) (some (.int 63 (rs.length : Int))) f = ifB (Nat.beq n n) (ifB (Nat.ble rs.length rs.length) (ifB (Nat.ble rs.length rs.length) (ifB (Nat.ble 0 rs.length) (f (.sl b (cutO 0 0 n rs.length) (Nat.sub rs.length 0) n (some (Nat.sub rs.length 0)))) .fail) .fail) .fail) .fail := rfl
      rw [e, nn, (ble_iff _ _).2 (Nat.le_refl rs.length), o0]; rfl
    · unfold apd
      rw [src1]
      have nc : Nat.ble (Nat.add rs.length ss.length) rs.length = false := by rw [Bool.eq_false_iff, ne_eq, ble_iff]; show ¬ rs.length + ss.length ≤ rs.length; omega
      have s0 := src0 (fun _ old => grown h n (Nat.add rs.length ss.length) (app old (avL ss.flatten)) k)
      have s1 : src h n (.sl b 0 rs.length n none) (fun _ old => grown h n (Nat.add rs.length ss.length) (app old (avL ss.flatten)) k) = ifB (Nat.beq n n) (gb h b fun B => rds B (Nat.mul rs.length n) 0 fun old => grown h n (Nat.add rs.length ss.length) (app old (avL ss.flatten)) k) .fail := rfl
      rw [s1, nn, ifB_t] at s0
      show ifB (Nat.beq n n) (ifB (Nat.beq ss.length 0) _ (ifB (Nat.ble (Nat.mul (Nat.add rs.length ss.length) by_) 140737488355328) (ifB (Nat.ble (Nat.add rs.length ss.length) 9223372036854775807)
        (ifB (Nat.ble (Nat.add rs.length ss.length) rs.length) _ (gb h b fun B => rds B (Nat.mul rs.length n) 0 fun old => grown h n (Nat.add rs.length ss.length) (app old (avL ss.flatten)) k)) .fail) .fail)) .fail = _
      rw [e1, e2, nn, nM, nc]
      show (gb h b fun B => rds B (Nat.mul rs.length n) 0 fun old => grown h n (Nat.add rs.length ss.length) (app old (avL ss.flatten)) k) = _
      rw [s0]; exact g1 k
end Go.AM
namespace Go.Proofs.Ytnpfppddongbhaa
open Go Go.AM
theorem vR_appC {h : Hp} {P Q : Nat → Prop} {v w : AV} {l m : List Vt} (hw : Wf h) (hv : Rws h P 3 v (l.map vR)) (hs : Rws h Q 3 w (m.map vR)) (hM : m ≠ []) (hl : l.length ≤ 300000) (hm : m.length ≤ 300000) :
    ∃ u v' h', (∀ f : AV → Res, cutS 3 v none (some (.int 63 (l.length : Int))) (some (.int 63 (l.length : Int))) f = f u) ∧ (∀ k : AV → Hp → Res, apd h 3 32 u w k = k v' h') ∧ Rws h' (fun x => h.nb ≤ x) 3 v' ((l ++ m).map vR) ∧ To No h h' ∧ Wf h' := by
  obtain ⟨u, v', h', e1, e2, r, t, w⟩ := apd_cut (by_ := 32) hw hv hs (by simpa using hM) (by rw [List.length_map, List.length_map]; omega) (by rw [List.length_map, List.length_map]; omega)
  rw [List.length_map] at e1
  exact ⟨u, v', h', e1, e2, by rw [List.map_append]; exact r, t, w⟩
end Go.Proofs.Ytnpfppddongbhaa
end

section
namespace Go.Proofs.Ytnpfppddongbhaa
open Go Go.AM
set_option autoImplicit false
/-! ### the program's round: what is behind the locals -/
noncomputable def Z66 : List AV → Hp → Res := fun w123 h124 => uc w123 fun v125 w126 => uc w126 fun v127 w128 => uc w128 fun v129 w130 => uc w130 fun v131 w132 => uc w132 fun v133 w134 => uc w134 fun v135 w136 => uc w136 fun v137 w138 => uc w138 fun v139 w140 => uc w140 fun v141 w142 => uc w142 fun v143 _ => nm (.norm [v135] h124) fun v144 h145 => nm (.norm [v131] h124) fun v146 h147 => nm (cP v137 fun b148 o149 => .norm [(.ptr b148 (Nat.add o149 3))] h124) fun v150 h151 => nm (ld1 h124 v150 fun v152 => .norm [v152] h124) fun v153 h154 => nm (.norm [v125] h124) fun v155 h156 => nm (.norm [(.cons (.int 63 (.ofNat 0)) (.cons .nils (.cons .nils .nil)))] h124) fun l157 _ => lay l157 .e 0 fun t158 m159 => ifB true (rsv h124 fun b160 h161 => nm (ld1 h161 v150 fun v162 => .norm [v162] h161) fun v153q _ => same v153 v153q (nm (cl (s96 [v146] h161) fun v163 h164 => .norm [v163] h164) fun v165 h166 => nm (ld1 h166 v150 fun v167 => .norm [v167] h166) fun v153q _ => same v153 v153q (nm (cl (s95 [v153, v155] h166) fun v168 h169 => .norm [v168] h169) fun v170 h171 => nm (bld [(false, 1, v144), (false, 1, v165), (false, 1, v170)] fun l172 => .norm [(.agg l172)] h171) fun v173 h174 => dueK h171 b160 m159 t158 fun h175 => nm (stN h175 3 (.ptr b160 0) v173 fun h176 => .norm [(.tup .nil)] h176) fun v177 h178 => cP (.ptr b160 0) fun b179 o180 => ld1 h178 (.ptr b179 (Nat.add o180 1)) fun v181 => lenL v181 fun v182 => ltN v127 v182 fun b183 => jn (gd (.bool b183) false (cP (.ptr b160 0) fun b184 o185 => .norm [(.ptr b184 (Nat.add o185 2))] h178) (.norm [.tup .nil] h178)) fun w187 h186 => uc w187 fun v188 _ => jn (gd (.bool b183) false (ld1 h186 v188 fun v189 => .norm [v189] h186) (.norm [.tup .nil] h186)) fun w191 h190 => uc w191 fun v192 _ => jn (gd (.bool b183) false (cl (s97 [v192] h190) fun v193 h194 => .norm [v193] h194) (.norm [.tup .nil] h190)) fun w196 h195 => uc w196 fun v197 _ => ap (gsel (.bool b183) false v129) fun v198 => jn (gd (.bool b183) false (ltN v198 v197 fun b199 => .norm [(.bool b199)] h195) (.norm [.tup .nil] h195)) fun w201 h200 => uc w201 fun v202 _ => cB (.bool b183) fun b203 => ap (sel b203 (.bool true) v202) fun v204 => cB v204 fun b205 => ifB b205 (cK .nils fun v206 => cK (.bool false) fun v207 => .ret (.tup (.cons v206 (.cons v207 .nil))) h200) (cP (.ptr b160 0) fun b208 o209 => ld1 h200 (.ptr b208 (Nat.add o209 1)) fun v210 => cP (.ptr b160 0) fun b211 o212 => ld1 h200 (.ptr b211 (Nat.add o212 1)) fun v213 => lenL v213 fun v214 => iSub v127 v214 fun v215 => apdZ h200 3 32 (.cons (.int 63 (.ofNat 0)) (.cons (.str 0 0) (.cons (.int 63 (.ofNat 0)) .nil))) v210 v215 fun v216 h217 => cP (.ptr b160 0) fun b218 o219 => st1 h217 (.ptr b218 (Nat.add o219 1)) v216 fun h220 => ldN h220 3 (.ptr b160 0) fun v221 => bld [(true, 3, v221)] fun l222 => mkS h220 3 1 l222 fun v223 h224 => apd h224 3 56 v133 v223 fun v225 h226 => .norm [v125, v127, v129, v131, v225, v135, v139, v141, v143] h226)))) .fail
noncomputable def no2 : AV := .tup (.cons .nils (.cons (.bool false) .nil))
theorem bG {a b : AV} {p : Nat} (h1 : one a = true) (h2 : one b = true) (k : AV → Res) : bld [(false, 1, .int 63 (p : Int)), (false, 1, a), (false, 1, b)] k = k (avL [.int 63 (p : Int), a, b]) := by
  have e : bld [(false, 1, .int 63 (p : Int)), (false, 1, a), (false, 1, b)] k = ifB (one a) (ifB (one b) (k (avL [.int 63 (p : Int), a, b])) .fail) .fail := rfl
  rw [e, h1, h2]; rfl
theorem bG3 {l : AV} (h : len l = 3) (k : AV → Res) : bld [(true, 3, .agg l)] k = k (app l .nil) := by
  have e : bld [(true, 3, .agg l)] k = ifB (Nat.beq (len l) 3) (k (app l .nil)) .fail := rfl
  rw [e, h]; rfl
theorem lay3 (a b c : AV) (h1 : one a = true) (h2 : one b = true) (h3 : one c = true) (t : T AV) (k : T AV → Nat → Res) : True := trivial
theorem z66 {h : Hp} {N0 N S pb mb pl tag delta : Nat} {F : Nat → Prop} {fs v vl vs maps i ln : AV} {fv : List Fv} {l st : List Vt}
    (hw : Wf h) (hN0 : N0 ≤ h.nb) (hF : ∀ x, F x → N0 ≤ x ∧ x < h.nb)
    (rf : PG h F (fun x => ¬ F x) fs fv) (rl : Rws h (fun x => ¬ F x) 3 v (l.map vR)) (hm : Ce h mb (mL tag delta vl vs)) (hmF : ¬ F mb)
    (rs : Rws h (fun x => ¬ F x) 3 vs (st.map vR)) (hp : Pool h pb) (hpb : pb < N0) (hl : l.length ≤ 90000) (hst : st.length ≤ 90000) (hN : N ≤ 1000) (hfv : fv.length ≤ 90000) :
    ∃ h', To (fun x => N0 ≤ x) h h' ∧ Wf h' ∧
      ((N < (l.flatMap (wid 0)).length ∨ S < ((st.map nmd).flatMap (wid 0)).length) ∧ Z66 [plv pb, .int 63 (N : Int), .int 63 (S : Int), v, fs, .int 63 (pl : Int), .ptr mb 0, maps, ln, i] h = .ret no2 h' ∨
       ¬ (N < (l.flatMap (wid 0)).length ∨ S < ((st.map nmd).flatMap (wid 0)).length) ∧ ∃ fs' F', Z66 [plv pb, .int 63 (N : Int), .int 63 (S : Int), v, fs, .int 63 (pl : Int), .ptr mb 0, maps, ln, i] h = .norm [plv pb, .int 63 (N : Int), .int 63 (S : Int), v, fs', .int 63 (pl : Int), maps, ln, i] h' ∧
         (∀ x, F' x → N0 ≤ x ∧ x < h'.nb) ∧ PG h' F' (fun x => ¬ F' x) fs' (fv ++ [⟨pl, fil (l.flatMap (wid 0)) N, st.map nmd⟩]) ∧ Rws h' (fun x => ¬ F' x) 3 v (l.map vR)) := by
  have y3 : ∀ kk : AV → Res, ld1 h (.ptr mb (Nat.add 0 3)) kk = kk vs := fun kk => Ce.l hm 3 (by simp [mL]) kk
  have y3' : ∀ kk : AV → Res, ld1 h (.ptr mb 3) kk = kk vs := y3
  have t0 := rsq_to h
  have w0 : Wf (rsq h) := t0.wf hw
  have nq : (rsq h).nb = h.nb + 1 := rfl
  have hm0 := hm.to t0 (fun f => f)
  have z3 : ∀ kk : AV → Res, ld1 (rsq h) (.ptr mb (Nat.add 0 3)) kk = kk vs := fun kk => Ce.l hm0 3 (by simp [mL]) kk
  have z3' : ∀ kk : AV → Res, ld1 (rsq h) (.ptr mb 3) kk = kk vs := z3
  obtain ⟨o1, h2, e1, r1, t1, w1⟩ := t96 (rl.to t0 (fun _ _ _ f => f)) w0 (by omega)
  have hm1 := hm0.to t1 (fun f => f)
  have u3 : ∀ kk : AV → Res, ld1 h2 (.ptr mb (Nat.add 0 3)) kk = kk vs := fun kk => Ce.l hm1 3 (by simp [mL]) kk
  have u3' : ∀ kk : AV → Res, ld1 h2 (.ptr mb 3) kk = kk vs := u3
  have sm := fun kk => Rws.same rs (by decide) kk
  obtain ⟨o2, h3, e2, r2, t2, w2⟩ := t95 ((rs.to t0 (fun _ _ _ f => f)).to t1 (fun _ _ _ f => f)) w1 ((hp.to t0 (fun f => f)).to t1 (fun f => f)) (by omega)
  have n1 := t1.nb
  have n2 := t2.nb
  obtain ⟨tt, l1, d1, t3, w3, n3⟩ := due_mk (b := h.nb) (r := [.int 63 (.ofNat 0), .nils, .nils]) w2 (by omega) (by intro x hx; simp only [List.mem_cons, List.not_mem_nil, or_false] at hx; rcases hx with rfl | rfl | rfl <;> rfl)
  have l1 : ∀ k : T AV → Nat → Res, lay (.cons (.int 63 (.ofNat 0)) (.cons .nils (.cons .nils .nil))) .e 0 k = k tt 3 := l1
  have l1' : ∀ k : T AV → Nat → Res, lay (.cons (.int 63 0) (.cons .nils (.cons .nils .nil))) .e 0 k = k tt 3 := l1
  obtain ⟨h5, s5, d5, t5, w5, n5⟩ := CeD.st w3 d1 [.int 63 (pl : Int), o1, o2] rfl (by intro x hx; simp only [List.mem_cons, List.not_mem_nil, or_false] at hx; rcases hx with rfl | rfl | rfl; rfl; exact r1.one; exact r2.one)
  have s5 : ∀ k : Hp → Res, stN (dueH h3 h.nb 3 tt) 3 (.ptr h.nb 0) (.agg (avL [.int 63 (pl : Int), o1, o2])) k = k h5 := s5
  have dk : ∀ k : Hp → Res, dueK h3 h.nb 3 tt k = k (dueH h3 h.nb 3 tt) := fun k => rfl
  have T5 : To (At h.nb) h3 h5 := t3.trans t5
  -- o1, o2 behind the variable
  have r1a : Rws h2 (fun x => h.nb + 1 ≤ x ∧ x < h2.nb) 3 o1 ((l.flatMap (wid 0)).map vR) := r1.mono fun x hx hlt => ⟨hx, hlt⟩
  have r1b := (r1a.to t2 (fun _ _ _ f => f)).to T5 (fun x hx _ f => by have : x = h.nb := f; omega)
  have r2a : Rws h3 (fun x => h2.nb ≤ x ∧ x < h3.nb) 3 o2 ((st.map nmd).map vR) := r2.mono fun x hx hlt => ⟨hx, hlt⟩
  have r2b := r2a.to T5 (fun x hx _ f => by have : x = h.nb := f; omega)
  have f1 : ∀ kk : AV → Res, ld1 h5 (.ptr h.nb (Nat.add 0 1)) kk = kk o1 := fun kk => CeD.l d5 1 (by simp) kk
  have f1' : ∀ kk : AV → Res, ld1 h5 (.ptr h.nb 1) kk = kk o1 := f1
  have f2 : ∀ kk : AV → Res, ld1 h5 (.ptr h.nb (Nat.add 0 2)) kk = kk o2 := fun kk => CeD.l d5 2 (by simp) kk
  have f2' : ∀ kk : AV → Res, ld1 h5 (.ptr h.nb 2) kk = kk o2 := f2
  have ln1 := fun kk => vR_len r1b kk
  have hL := wid_len 0 l
  have hS := wid_len 0 (st.map nmd)
  have hbG := fun k => bG (p := pl) r1.one r2.one k
  have gs : ∀ x : AV, gsel (.bool false) false x = x := fun x => rfl
  have T05 : To (fun x => h.nb ≤ x) h h5 := ((t0.trans (t1.trans t2)).mono fun _ _ f => f.elim).trans (T5.mono fun x _ f => by have : x = h.nb := f; omega)
  have n05 := T05.nb
  by_cases cN : N < (l.flatMap (wid 0)).length
  · have c1 : (N : Int) < ((l.flatMap (wid 0)).length : Int) := by omega
    exact ⟨h5, T05.mono fun x _ f => by have : h.nb ≤ x := f; omega, w5, .inl ⟨.inl cN, by
      simp only [↓Z66, ↓nm_n, ↓cP_p, ↓y3, ↓y3', ↓rsv_q, ↓l1, ↓l1', ↓z3, ↓z3', ↓sm, ↓e1, ↓u3, ↓u3', ↓e2, ↓hbG, ↓dk, ↓s5, ↓f1, ↓f1', ↓ln1, c1, ↓cK_nils, ↓SD, SA, Int.ofNat_eq_natCast, Int.cast_ofNat_Int, Int.reduceBEq, Int.reduceAdd, Int.reduceNeg, Int.reduceNegSucc, Int.reduceLT, Int.reduceLE, Int.reduceMul, Int.reduceTMod, Int.reduceSub, Int.reduceBNe, Bool.not_true, Bool.not_false, decide_true, decide_false, ne_eq, not_false_eq_true, Int.reduceEq, reduceCtorEq]; rfl⟩⟩
  have c1 : ¬ (N : Int) < ((l.flatMap (wid 0)).length : Int) := by omega
  obtain ⟨h6, e6, t6, w6⟩ := t97 r2b w5 (by simp; omega)
  have T06 : To (fun x => h.nb ≤ x) h h6 := T05.trans (t6.mono fun _ _ f => f.elim)
  by_cases cS : S < ((st.map nmd).flatMap (wid 0)).length
  · have c2 : (S : Int) < (((st.map nmd).flatMap (wid 0)).length : Int) := by omega
    exact ⟨h6, T06.mono fun x _ f => by have : h.nb ≤ x := f; omega, w6, .inl ⟨.inr cS, by
      simp only [↓Z66, ↓nm_n, ↓cP_p, ↓y3, ↓y3', ↓rsv_q, ↓l1, ↓l1', ↓z3, ↓z3', ↓sm, ↓e1, ↓u3, ↓u3', ↓e2, ↓hbG, ↓dk, ↓s5, ↓f1, ↓f1', ↓ln1, c1, ↓gs, ↓f2, ↓f2', ↓e6, c2, ↓cK_nils, ↓SD, SA, Int.ofNat_eq_natCast, Int.cast_ofNat_Int, Int.reduceBEq, Int.reduceAdd, Int.reduceNeg, Int.reduceNegSucc, Int.reduceLT, Int.reduceLE, Int.reduceMul, Int.reduceTMod, Int.reduceSub, Int.reduceBNe, Bool.not_true, Bool.not_false, decide_true, decide_false, ne_eq, not_false_eq_true, Int.reduceEq, reduceCtorEq]; rfl⟩⟩
  have c2 : ¬ (S : Int) < (((st.map nmd).flatMap (wid 0)).length : Int) := by omega
  have d6 := d5.to t6 (fun f => f) (fun f => f)
  have g1 : ∀ kk : AV → Res, ld1 h6 (.ptr h.nb (Nat.add 0 1)) kk = kk o1 := fun kk => CeD.l d6 1 (by simp) kk
  have g1' : ∀ kk : AV → Res, ld1 h6 (.ptr h.nb 1) kk = kk o1 := g1
  have r1c := r1b.to t6 (fun _ _ _ f => f)
  have r2c := r2b.to t6 (fun _ _ _ f => f)
  have n6 := t6.nb
  have c3 : wrapC 63 ((N : Int) - ((l.flatMap (wid 0)).length : Int)) = ((N - (l.flatMap (wid 0)).length : Nat) : Int) := by rw [w63_in _ (by omega) (by omega)]; omega
  obtain ⟨v7, h7, e7, r7, t7, w7⟩ := vR_apdZ w6 r1c (by omega) (N - (l.flatMap (wid 0)).length) (by omega)
  have e7' : ∀ k : AV → Hp → Res, apdZ h6 3 32 (.cons (.int 63 0) (.cons (.str 0 0) (.cons (.int 63 0) .nil))) o1 (.int 63 ((N - (l.flatMap (wid 0)).length : Nat) : Int)) k = k v7 h7 := e7
  have n7 := t7.nb
  have d7 := d6.to t7 (by omega) (by omega)
  have r7a : Rws h7 (fun x => (h.nb + 1 ≤ x ∧ x < h2.nb) ∨ (h6.nb ≤ x ∧ x < h7.nb)) 3 v7 ((fil (l.flatMap (wid 0)) N).map vR) := r7.mono fun x hx hlt => hx.elim .inl fun e => .inr ⟨e, hlt⟩
  have r2d := r2c.to t7 (fun x hx _ f => by omega)
  obtain ⟨h8, s8, d8, t8, w8, n8⟩ := CeD.s w7 d7 1 (by simp) v7 r7.one
  have s8' : ∀ k : Hp → Res, st1 h7 (.ptr h.nb 1) v7 k = k h8 := s8
  have r7b := r7a.to t8 (fun x hx _ f => by have : x = h.nb := f; omega)
  have r2e := r2d.to t8 (fun x hx _ f => by have : x = h.nb := f; omega)
  have e9 : ∀ kk : AV → Res, ldN h8 3 (.ptr h.nb 0) kk = kk (.agg (avL [.int 63 (pl : Int), v7, o2])) := fun kk => CeD.ld d8 kk
  have b9 : ∀ kk : AV → Res, bld [(true, 3, .agg (avL [.int 63 (pl : Int), v7, o2]))] kk = kk (avL [.int 63 (pl : Int), v7, o2]) := fun kk => bG3 rfl kk
  have T08 : To (fun x => h.nb ≤ x) h h8 := (T06.trans (t7.mono fun x _ f => by omega)).trans (t8.mono fun x _ f => by have : x = h.nb := f; omega)
  have rf8 : PG h8 F (fun x => ¬ F x) fs fv := PX.to (PX.mono (K' := fun x => ¬ F x ∧ x < h.nb) rf (fun x hx _ => hx) (fun x hx hlt => ⟨hx, hlt⟩)) T08 (fun x hx hlt f => by have : h.nb ≤ x := f; omega) (fun x hx hlt f => by have : h.nb ≤ x := f; omega) |>.mono (fun x hx _ => hx) (fun x hx _ => hx.1)
  have nF : ∀ x, h.nb ≤ x → ¬ F x := fun x hx f => by have := hF x f; omega
  obtain ⟨fs', h9, h10, q1, q2, q3, q4, q5⟩ := PX.app (mk := gR) (p := fun f => f.loc.map vR) (q := fun f => f.stk.map vR) w8 rf8 (fun x hx => hx) (⟨pl, fil (l.flatMap (wid 0)) N, st.map nmd⟩ : Fv) (vl := v7) (vs := o2)
    (r7b.mono fun x hx _ => nF x (by omega)) (r2e.mono fun x hx _ => nF x (by omega)) (by omega) 56 (by decide) (by decide) rfl (by
      intro x hx; simp only [gR, List.mem_cons, List.not_mem_nil, or_false] at hx; rcases hx with rfl | rfl | rfl; rfl; exact r7.one; exact r2.one)
  have q1 : ∀ k : AV → Hp → Res, mkS h8 3 1 (avL [.int 63 (pl : Int), v7, o2]) k = k (.sl h8.nb 0 1 3 (some 1)) h9 := q1
  have n10 := q4.nb
  have n08 := T08.nb
  refine ⟨h10, (T08.mono fun x _ f => by have : h.nb ≤ x := f; omega).trans (q4.mono fun x _ f => (hF x f).1), q5, .inr ⟨by omega, fs', fun x => F x ∨ (h8.nb ≤ x ∧ x < h10.nb), ?_, ?_, ?_, ?_⟩⟩
  · simp only [↓Z66, ↓nm_n, ↓cP_p, ↓y3, ↓y3', ↓rsv_q, ↓l1, ↓l1', ↓z3, ↓z3', ↓sm, ↓e1, ↓u3, ↓u3', ↓e2, ↓hbG, ↓dk, ↓s5, ↓f1, ↓f1', ↓ln1, c1, ↓gs, ↓f2, ↓f2', ↓e6, c2, ↓g1, ↓g1', c3, ↓e7, ↓e7', ↓s8, ↓s8', ↓e9, ↓b9, ↓q1, ↓q2, ↓SD, SA, Int.ofNat_eq_natCast, Int.cast_ofNat_Int, Int.reduceBEq, Int.reduceAdd, Int.reduceNeg, Int.reduceNegSucc, Int.reduceLT, Int.reduceLE, Int.reduceMul, Int.reduceTMod, Int.reduceSub, Int.reduceBNe, Bool.not_true, Bool.not_false, decide_true, decide_false, ne_eq, not_false_eq_true, Int.reduceEq, reduceCtorEq]
  · intro x hx; rcases hx with hx | hx
    · have := hF x hx; omega
    · omega
  · exact PX.mono q3 (fun x hx hlt => hx.elim .inl fun e => .inr ⟨e, hlt⟩) (fun x hx _ => fun f => f.elim hx.1 (fun e => by have := hx.2; omega))
  · exact (((rl.mono (Q := fun x => ¬ F x ∧ x < h.nb) fun x hx hlt => ⟨hx, hlt⟩).to T08 (fun x hx hlt f => by have : h.nb ≤ x := f; omega)).to q4 (fun x hx _ f => hx.1 f)).mono fun x hx _ => fun f => f.elim hx.1 (fun e => by have := hx.2; omega)
end Go.Proofs.Ytnpfppddongbhaa
end

section
namespace Go.Proofs.Ytnpfppddongbhaa
open Go Go.AM
set_option autoImplicit false
/-! ### a round of the program: to the locals -/
noncomputable def Y66 : List AV → Hp → Res := fun w20 h21 => uc w20 fun v22 w23 => uc w23 fun v24 w25 => uc w25 fun v26 w27 => uc w27 fun v28 w29 => uc w29 fun v30 w31 => uc w31 fun v32 w33 => uc w33 fun v34 w35 => uc w35 fun v36 w37 => uc w37 fun v38 _ => ltN v38 v36 fun b39 => cB (.bool b39) fun b40 => ifB b40 (blk 1 (ixA 4 v34 v38 fun v41 => ldN h21 4 v41 fun v42 => mk h21 (.cons (.int 63 (.ofNat 0)) (.cons (.int 63 (.ofNat 0)) (.cons .nils (.cons .nils .nil)))) fun v43 h44 => stN h44 4 v43 v42 fun h45 => cP v43 fun b46 o47 => ld1 h45 (.ptr b46 (Nat.add o47 1)) fun v48 => iAdd v48 (.int 63 (.ofNat 1)) fun v49 => iAdd v32 v49 fun v50 => blk 2 (cP v43 fun b51 o52 => ld1 h45 (.ptr b51 (Nat.add o52 0)) fun v53 => ltN v53 (.int 63 (.ofNat 248)) fun b54 => jn (gd (.bool (bnot b54)) true (cP v43 fun b55 o56 => .norm [(.ptr b55 (Nat.add o56 0))] h45) (.norm [.tup .nil] h45)) fun w58 h57 => uc w58 fun v59 _ => jn (gd (.bool (bnot b54)) true (ld1 h57 v59 fun v60 => .norm [v60] h57) (.norm [.tup .nil] h57)) fun w62 h61 => uc w62 fun v63 _ => jn (gd (.bool (bnot b54)) true (ltN v63 (.int 63 (.ofNat 251)) fun b64 => .norm [(.bool b64)] h61) (.norm [.tup .nil] h61)) fun w66 h65 => uc w66 fun v67 _ => cB (.bool (bnot b54)) fun b68 => ap (sel b68 v67 (.bool false)) fun v69 => cB v69 fun b70 => ifB b70 (cP v43 fun b71 o72 => ld1 h65 (.ptr b71 (Nat.add o72 0)) fun v73 => iSub (.int 63 (.ofNat 251)) v73 fun v74 => lenL v28 fun v75 => ltN v75 v74 fun b76 => cB (.bool b76) fun b77 => ifB b77 (cK .nils fun v78 => cK (.bool false) fun v79 => .ret (.tup (.cons v78 (.cons v79 .nil))) h65) (lenL v28 fun v80 => iSub v80 v74 fun v81 => cutS 3 v28 none (some v81) none fun v82 => .norm [v22, v24, v26, v82, v30, v50, v43, v34, v36, v38] h65)) (cP v43 fun b83 o84 => ld1 h65 (.ptr b83 (Nat.add o84 0)) fun v85 => ltN (.int 63 (.ofNat 251)) v85 fun b86 => jn (gd (.bool b86) true (cP v43 fun b87 o88 => .norm [(.ptr b87 (Nat.add o88 0))] h65) (.norm [.tup .nil] h65)) fun w90 h89 => uc w90 fun v91 _ => jn (gd (.bool b86) true (ld1 h89 v91 fun v92 => .norm [v92] h89) (.norm [.tup .nil] h89)) fun w94 h93 => uc w94 fun v95 _ => jn (gd (.bool b86) true (ltN v95 (.int 63 (.ofNat 255)) fun b96 => .norm [(.bool b96)] h93) (.norm [.tup .nil] h93)) fun w98 h97 => uc w98 fun v99 _ => cB (.bool b86) fun b100 => ap (sel b100 v99 (.bool false)) fun v101 => cB v101 fun b102 => ifB b102 (lenL v28 fun v103 => lenL v28 fun v104 => cutS 3 v28 none (some v103) (some v104) fun v105 => cP v43 fun b106 o107 => ld1 h97 (.ptr b106 (Nat.add o107 2)) fun v108 => cl (s95 [v108, v22] h97) fun v109 h110 => apd h110 3 32 v105 v109 fun v111 h112 => .norm [v22, v24, v26, v111, v30, v50, v43, v34, v36, v38] h112) (cP v43 fun b113 o114 => ld1 h97 (.ptr b113 (Nat.add o114 0)) fun v115 => eqN v115 (.int 63 (.ofNat 255)) fun b116 => cB (.bool b116) fun b117 => ifB b117 (cP v43 fun b118 o119 => ld1 h97 (.ptr b118 (Nat.add o119 2)) fun v120 => cl (s95 [v120, v22] h97) fun v121 h122 => .norm [v22, v24, v26, v121, v30, v50, v43, v34, v36, v38] h122) (.norm [v22, v24, v26, v28, v30, v50, v43, v34, v36, v38] h97)))) fun w123 h124 => Z66 w123 h124) fun w227 h228 => uc w227 fun v229 w230 => uc w230 fun v231 w232 => uc w232 fun v233 w234 => uc w234 fun v235 w236 => uc w236 fun v237 w238 => uc w238 fun v239 w240 => uc w240 fun v241 w242 => uc w242 fun v243 w244 => uc w244 fun v245 _ => iAdd v245 (.int 63 (.ofNat 1)) fun v246 => .norm [v229, v231, v233, v235, v237, v239, v241, v243, v246] h228) (.exit 0 [v30] h21)
theorem L66Y : L66n0 = Y66 := rfl
theorem reg66 {h : Hp} {N1 M Kb N S pb p i : Nat} {C : Nat → Prop} {maps fs v : AV} {ms : List Mv} {l : List Vt} (hw : Wf h) (hm : MK h N1 M Kb maps ms) (hi : i < ms.length) (rl : Rws h C 3 v (l.map vR)) (hp : Pool h pb)
    (hl : l.length ≤ 100000) (hloc : ms[i].loc.length ≤ 65536) (hne : 252 ≤ ms[i].tag → ms[i].tag ≤ 254 → ms[i].loc ≠ []) (hC : ∀ x, h.nb ≤ x → C x) (hK : Kb ≤ h.nb) (hpp : p ≤ 500000000) (hd : ms[i].delta ≤ 65535) (ht : ms[i].tag ≤ 255) (hi2 : ms.length ≤ 100000) :
    ∃ h' v' vl vs, To No h h' ∧ Wf h' ∧ h.nb < h'.nb ∧ Ce h' h.nb (mL ms[i].tag ms[i].delta vl vs) ∧ Rws h' (fun x => x < Kb) 3 vs ((ms[i].stk.map raw).map vR) ∧
      ((nxt ms[i] l = none ∧ Y66 [plv pb, .int 63 (N : Int), .int 63 (S : Int), v, fs, .int 63 ((p : Int) - 1), maps, .int 63 (ms.length : Int), .int 63 (i : Int)] h = .ret no2 h') ∨
       ∃ l', nxt ms[i] l = some l' ∧ Rws h' C 3 v' (l'.map vR) ∧
        (∀ h2, Z66 [plv pb, .int 63 (N : Int), .int 63 (S : Int), v', fs, .int 63 ((p + ms[i].delta : Nat) : Int), .ptr h.nb 0, maps, .int 63 (ms.length : Int), .int 63 (i : Int)] h' = .ret no2 h2 → Y66 [plv pb, .int 63 (N : Int), .int 63 (S : Int), v, fs, .int 63 ((p : Int) - 1), maps, .int 63 (ms.length : Int), .int 63 (i : Int)] h = .ret no2 h2) ∧
        (∀ fs' h2, Z66 [plv pb, .int 63 (N : Int), .int 63 (S : Int), v', fs, .int 63 ((p + ms[i].delta : Nat) : Int), .ptr h.nb 0, maps, .int 63 (ms.length : Int), .int 63 (i : Int)] h' = .norm [plv pb, .int 63 (N : Int), .int 63 (S : Int), v', fs', .int 63 ((p + ms[i].delta : Nat) : Int), maps, .int 63 (ms.length : Int), .int 63 (i : Int)] h2 →
          Y66 [plv pb, .int 63 (N : Int), .int 63 (S : Int), v, fs, .int 63 ((p : Int) - 1), maps, .int 63 (ms.length : Int), .int 63 (i : Int)] h = .norm [plv pb, .int 63 (N : Int), .int 63 (S : Int), v', fs', .int 63 ((p + ms[i].delta : Nat) : Int), maps, .int 63 (ms.length : Int), .int 63 ((i + 1 : Nat) : Int)] h2)) := by
  have ci : (i : Int) < (ms.length : Int) := by omega
  have i1 := s1n i (by omega)
  obtain ⟨b1, q1, vl, vs, x1, x2, rL, rS⟩ := hm.pt i hi
  obtain ⟨h2, k1, k1', c2, t2, w2, n2⟩ := mkM0 hw
  obtain ⟨h3, s3, c3, t3, w3, n3⟩ := Ce.stM w2 c2 ms[i].tag ms[i].delta rL.one rS.one
  have T3 : To No h h3 := ((t2.mono fun _ _ f => f.elim).trans t3).mono fun x hx e => by have : x = h.nb := e; omega
  obtain ⟨f0, f0', f1, f1', f2, f2'⟩ := Ce.rM c3
  have lnv := fun kk => vR_len rl kk
  have rl3 := rl.to T3 (fun _ _ _ f => f)
  have rL3 := rL.to T3 (fun _ _ _ f => f)
  have rS3 := rS.to T3 (fun _ _ _ f => f)
  have hp3 := hp.to T3 (fun f => f)
  generalize hg : ms[i].tag = tag at *
  generalize hq : p + ms[i].delta = q at *
  generalize hdd : ms[i].delta = delta at *
  have j1 : wrapC 63 ((delta : Int) + 1) = ((delta + 1 : Nat) : Int) := s1n delta (by omega)
  have j2 : wrapC 63 ((p : Int) - 1 + ((delta + 1 : Nat) : Int)) = (q : Int) := by rw [w63_in _ (by omega) (by omega)]; omega
  by_cases a1 : 248 ≤ tag ∧ tag ≤ 250
  · have b1 : ¬ (tag : Int) < 248 := by omega
    have b2 : (tag : Int) < 251 := by omega
    have w1 : wrapC 63 (251 - (tag : Int)) = ((251 - tag : Nat) : Int) := by rw [w63_in _ (by omega) (by omega)]; omega
    by_cases a2 : l.length < 251 - tag
    · have b3 : (l.length : Int) < ((251 - tag : Nat) : Int) := by omega
      refine ⟨h3, v, vl, vs, T3, w3, by omega, c3, rS3, .inl ⟨by unfold nxt; rw [hg, if_pos a1, if_pos a2], ?_⟩⟩
      simp only [↓Y66, ci, ↓x1, ↓x2, ↓k1, ↓k1', ↓s3, ↓cP_p, ↓f0, ↓f0', ↓f1, ↓f1', j1, j2, ↓lnv, b1, b2, w1, b3, ↓cK_nils, ↓SD, SA, Int.ofNat_eq_natCast, Int.cast_ofNat_Int, Int.reduceBEq, Int.reduceAdd, Int.reduceNeg, Int.reduceNegSucc, Int.reduceLT, Int.reduceLE, Int.reduceMul, Int.reduceTMod, Int.reduceSub, Int.reduceBNe, Bool.not_true, Bool.not_false, decide_true, decide_false, ne_eq, not_false_eq_true, Int.reduceEq, reduceCtorEq]; rfl
    · have w2 : wrapC 63 ((l.length : Int) - ((251 - tag : Nat) : Int)) = ((l.length - (251 - tag) : Nat) : Int) := by rw [w63_in _ (by omega) (by omega)]; omega
      have b3 : ¬ (l.length : Int) < ((251 - tag : Nat) : Int) := by omega
      obtain ⟨v2, e2, r2⟩ := vR_cut rl3 (l.length - (251 - tag)) (by omega)
      refine ⟨h3, v2, vl, vs, T3, w3, by omega, c3, rS3, .inr ⟨_, by unfold nxt; rw [hg, if_pos a1, if_neg a2], r2, ?_⟩⟩
      refine ⟨fun h2 zn => ?_, fun fs' h2 zn => ?_⟩
      · simp only [↓Y66, ci, ↓x1, ↓x2, ↓k1, ↓k1', ↓s3, ↓cP_p, ↓f0, ↓f0', ↓f1, ↓f1', j1, j2, ↓lnv, b1, b2, w1, w2, b3, ↓e2, ↓zn, ↓SD, SA, Int.ofNat_eq_natCast, Int.cast_ofNat_Int, Int.reduceBEq, Int.reduceAdd, Int.reduceNeg, Int.reduceNegSucc, Int.reduceLT, Int.reduceLE, Int.reduceMul, Int.reduceTMod, Int.reduceSub, Int.reduceBNe, Bool.not_true, Bool.not_false, decide_true, decide_false, ne_eq, not_false_eq_true, Int.reduceEq, reduceCtorEq]
      · simp only [↓Y66, ci, ↓x1, ↓x2, ↓k1, ↓k1', ↓s3, ↓cP_p, ↓f0, ↓f0', ↓f1, ↓f1', j1, j2, ↓lnv, b1, b2, w1, w2, b3, ↓e2, ↓zn, i1, ↓SD, SA, Int.ofNat_eq_natCast, Int.cast_ofNat_Int, Int.reduceBEq, Int.reduceAdd, Int.reduceNeg, Int.reduceNegSucc, Int.reduceLT, Int.reduceLE, Int.reduceMul, Int.reduceTMod, Int.reduceSub, Int.reduceBNe, Bool.not_true, Bool.not_false, decide_true, decide_false, ne_eq, not_false_eq_true, Int.reduceEq, reduceCtorEq]
  by_cases a3 : 252 ≤ tag ∧ tag ≤ 254
  · have b1 : ¬ (tag : Int) < 248 := by omega
    have b2 : ¬ (tag : Int) < 251 := by omega
    have b3 : (251 : Int) < (tag : Int) := by omega
    have b4 : (tag : Int) < 255 := by omega
    obtain ⟨u2, g2, e3, r3, y2, z2⟩ := t95 rL3 w3 hp3 (by simp; omega)
    obtain ⟨u1, u3, g3, e1, e4, r4, y3, z3⟩ := vR_appC z2 (rl3.to y2 (fun _ _ _ f => f)) r3 (by have := hne a3.1 a3.2; simpa using this) (by omega) (by simp; omega)
    have nn2 := y2.nb
    have nn3 := y3.nb
    have T6 : To No h g3 := (T3.trans y2).trans y3
    refine ⟨g3, u3, vl, vs, T6, z3, by omega, (c3.to y2 (fun f => f)).to y3 (fun f => f), rS.to T6 (fun _ _ _ f => f), .inr ⟨_, by unfold nxt; rw [hg, if_neg a1, if_pos a3], r4.mono fun x hx _ => hC x (by omega), ?_⟩⟩
    refine ⟨fun h2 zn => ?_, fun fs' h2 zn => ?_⟩
    · simp only [↓Y66, ci, ↓x1, ↓x2, ↓k1, ↓k1', ↓s3, ↓cP_p, ↓f0, ↓f0', ↓f1, ↓f1', j1, j2, b1, b2, b3, b4, ↓lnv, ↓e1, ↓f2, ↓f2', ↓e3, ↓e4, ↓zn, ↓SD, SA, Int.ofNat_eq_natCast, Int.cast_ofNat_Int, Int.reduceBEq, Int.reduceAdd, Int.reduceNeg, Int.reduceNegSucc, Int.reduceLT, Int.reduceLE, Int.reduceMul, Int.reduceTMod, Int.reduceSub, Int.reduceBNe, Bool.not_true, Bool.not_false, decide_true, decide_false, ne_eq, not_false_eq_true, Int.reduceEq, reduceCtorEq]
    · simp only [↓Y66, ci, ↓x1, ↓x2, ↓k1, ↓k1', ↓s3, ↓cP_p, ↓f0, ↓f0', ↓f1, ↓f1', j1, j2, b1, b2, b3, b4, ↓lnv, ↓e1, ↓f2, ↓f2', ↓e3, ↓e4, ↓zn, i1, ↓SD, SA, Int.ofNat_eq_natCast, Int.cast_ofNat_Int, Int.reduceBEq, Int.reduceAdd, Int.reduceNeg, Int.reduceNegSucc, Int.reduceLT, Int.reduceLE, Int.reduceMul, Int.reduceTMod, Int.reduceSub, Int.reduceBNe, Bool.not_true, Bool.not_false, decide_true, decide_false, ne_eq, not_false_eq_true, Int.reduceEq, reduceCtorEq]
  by_cases a5 : tag = 255
  · have b1 : ¬ (tag : Int) < 248 := by omega
    have b2 : ¬ (tag : Int) < 251 := by omega
    have b3 : (251 : Int) < (tag : Int) := by omega
    have b4 : ¬ (tag : Int) < 255 := by omega
    have b5 : ((tag : Int) == 255) = true := by have e : (tag : Int) = 255 := (by omega); simpa using e
    obtain ⟨u2, g2, e3, r3, y2, z2⟩ := t95 rL3 w3 hp3 (by simp; omega)
    have nn2 := y2.nb
    refine ⟨g2, u2, vl, vs, T3.trans y2, z2, by omega, c3.to y2 (fun f => f), rS3.to y2 (fun _ _ _ f => f), .inr ⟨_, by unfold nxt; rw [hg, if_neg a1, if_neg a3, if_pos a5], r3.mono fun x hx _ => hC x (by have : h3.nb ≤ x := hx; omega), ?_⟩⟩
    refine ⟨fun h2 zn => ?_, fun fs' h2 zn => ?_⟩
    · simp only [↓Y66, ci, ↓x1, ↓x2, ↓k1, ↓k1', ↓s3, ↓cP_p, ↓f0, ↓f0', ↓f1, ↓f1', j1, j2, b1, b2, b3, b4, b5, ↓f2, ↓f2', ↓e3, ↓zn, ↓SD, SA, Int.ofNat_eq_natCast, Int.cast_ofNat_Int, Int.reduceBEq, Int.reduceAdd, Int.reduceNeg, Int.reduceNegSucc, Int.reduceLT, Int.reduceLE, Int.reduceMul, Int.reduceTMod, Int.reduceSub, Int.reduceBNe, Bool.not_true, Bool.not_false, decide_true, decide_false, ne_eq, not_false_eq_true, Int.reduceEq, reduceCtorEq]
    · simp only [↓Y66, ci, ↓x1, ↓x2, ↓k1, ↓k1', ↓s3, ↓cP_p, ↓f0, ↓f0', ↓f1, ↓f1', j1, j2, b1, b2, b3, b4, b5, ↓f2, ↓f2', ↓e3, ↓zn, i1, ↓SD, SA, Int.ofNat_eq_natCast, Int.cast_ofNat_Int, Int.reduceBEq, Int.reduceAdd, Int.reduceNeg, Int.reduceNegSucc, Int.reduceLT, Int.reduceLE, Int.reduceMul, Int.reduceTMod, Int.reduceSub, Int.reduceBNe, Bool.not_true, Bool.not_false, decide_true, decide_false, ne_eq, not_false_eq_true, Int.reduceEq, reduceCtorEq]
  have b5 : ((tag : Int) == 255) = false := by have e : ¬ (tag : Int) = 255 := (by omega); simpa using e
  have b3 : ¬ (251 : Int) < (tag : Int) := by omega
  have b1 : ((tag : Int) < 248) ∨ (¬ (tag : Int) < 248 ∧ ¬ (tag : Int) < 251) := by omega
  refine ⟨h3, v, vl, vs, T3, w3, by omega, c3, rS3, .inr ⟨_, by unfold nxt; rw [hg, if_neg a1, if_neg a3, if_neg a5], rl3, ?_⟩⟩
  rcases b1 with b1 | ⟨b1, b2⟩
  · refine ⟨fun h2 zn => ?_, fun fs' h2 zn => ?_⟩
    · simp only [↓Y66, ci, ↓x1, ↓x2, ↓k1, ↓k1', ↓s3, ↓cP_p, ↓f0, ↓f0', ↓f1, ↓f1', j1, j2, b1, b3, b5, ↓zn, ↓SD, SA, Int.ofNat_eq_natCast, Int.cast_ofNat_Int, Int.reduceBEq, Int.reduceAdd, Int.reduceNeg, Int.reduceNegSucc, Int.reduceLT, Int.reduceLE, Int.reduceMul, Int.reduceTMod, Int.reduceSub, Int.reduceBNe, Bool.not_true, Bool.not_false, decide_true, decide_false, ne_eq, not_false_eq_true, Int.reduceEq, reduceCtorEq]
    · simp only [↓Y66, ci, ↓x1, ↓x2, ↓k1, ↓k1', ↓s3, ↓cP_p, ↓f0, ↓f0', ↓f1, ↓f1', j1, j2, b1, b3, b5, ↓zn, i1, ↓SD, SA, Int.ofNat_eq_natCast, Int.cast_ofNat_Int, Int.reduceBEq, Int.reduceAdd, Int.reduceNeg, Int.reduceNegSucc, Int.reduceLT, Int.reduceLE, Int.reduceMul, Int.reduceTMod, Int.reduceSub, Int.reduceBNe, Bool.not_true, Bool.not_false, decide_true, decide_false, ne_eq, not_false_eq_true, Int.reduceEq, reduceCtorEq]
  · refine ⟨fun h2 zn => ?_, fun fs' h2 zn => ?_⟩
    · simp only [↓Y66, ci, ↓x1, ↓x2, ↓k1, ↓k1', ↓s3, ↓cP_p, ↓f0, ↓f0', ↓f1, ↓f1', j1, j2, b1, b2, b3, b5, ↓zn, ↓SD, SA, Int.ofNat_eq_natCast, Int.cast_ofNat_Int, Int.reduceBEq, Int.reduceAdd, Int.reduceNeg, Int.reduceNegSucc, Int.reduceLT, Int.reduceLE, Int.reduceMul, Int.reduceTMod, Int.reduceSub, Int.reduceBNe, Bool.not_true, Bool.not_false, decide_true, decide_false, ne_eq, not_false_eq_true, Int.reduceEq, reduceCtorEq]
    · simp only [↓Y66, ci, ↓x1, ↓x2, ↓k1, ↓k1', ↓s3, ↓cP_p, ↓f0, ↓f0', ↓f1, ↓f1', j1, j2, b1, b2, b3, b5, ↓zn, i1, ↓SD, SA, Int.ofNat_eq_natCast, Int.cast_ofNat_Int, Int.reduceBEq, Int.reduceAdd, Int.reduceNeg, Int.reduceNegSucc, Int.reduceLT, Int.reduceLE, Int.reduceMul, Int.reduceTMod, Int.reduceSub, Int.reduceBNe, Bool.not_true, Bool.not_false, decide_true, decide_false, ne_eq, not_false_eq_true, Int.reduceEq, reduceCtorEq]
end Go.Proofs.Ytnpfppddongbhaa
end

section
namespace Go.Proofs.Ytnpfppddongbhaa
open Go Go.AM
set_option autoImplicit false
/-! ### the program's frames -/
theorem wid_eq (s t : Nat) (l : List Vt) : (l.flatMap (wid s)).length = (l.flatMap (wid t)).length := by
  induction l with
  | nil => rfl
  | cons v l ih =>
    rw [List.flatMap_cons, List.flatMap_cons, List.length_append, List.length_append, ih]
    have : (wid s v).length = (wid t v).length := by unfold wid; split <;> rfl
    omega
def Ok3 (m : Mv) : Prop := Ok2 m ∧ (252 ≤ m.tag → m.tag ≤ 254 → m.loc ≠ [])
theorem loop66 {N0 N1 M Kb N S pb : Nat} {maps : AV} {ms : List Mv} (hK : Kb ≤ N0) (hpb : pb < N0) (hN : N ≤ 1000) (hms : ∀ m ∈ ms, Ok3 m) (hlen : ms.length ≤ 4096) :
    ∀ (n i m p : Nat) (h : Hp) (fs v : AV) (fv : List Fv) (l : List Vt) (F : Nat → Prop), n < m → i + n = ms.length → N0 ≤ h.nb → Wf h → MK h N1 M Kb maps ms → Pool h pb →
      (∀ x, F x → N0 ≤ x ∧ x < h.nb) → PG h F (fun x => ¬ F x) fs fv → Rws h (fun x => ¬ F x) 3 v (l.map vR) →
      l.length ≤ 1000 → fv.length = i → p ≤ i * 65536 →
      ∃ h', To (fun x => N0 ≤ x) h h' ∧ Wf h' ∧ ((frs N S (ms.drop i) l p fv = none ∧ lp L66n0 m [plv pb, .int 63 (N : Int), .int 63 (S : Int), v, fs, .int 63 ((p : Int) - 1), maps, .int 63 (ms.length : Int), .int 63 (i : Int)] h = .ret no2 h') ∨
        ∃ r fs' F', frs N S (ms.drop i) l p fv = some r ∧ lp L66n0 m [plv pb, .int 63 (N : Int), .int 63 (S : Int), v, fs, .int 63 ((p : Int) - 1), maps, .int 63 (ms.length : Int), .int 63 (i : Int)] h = .exit 0 [fs'] h' ∧
          (∀ x, F' x → N0 ≤ x ∧ x < h'.nb) ∧ PG h' F' (fun x => ¬ F' x) fs' r) := by
  intro n
  induction n with
  | zero =>
    intro i m p h fs v fv l F hm hi hnb hw hmk hp hF rf rl hl hfv hpp
    obtain ⟨m, rfl⟩ : ∃ k, m = k + 1 := ⟨m - 1, by omega⟩
    have c1 : ¬ (i : Int) < (ms.length : Int) := by omega
    refine ⟨h, To.refl _ _, hw, .inr ⟨fv, fs, F, by rw [List.drop_eq_nil_of_le (by omega), frs], lpx m (by rw [L66Y]; simp only [↓Y66, c1, ↓SD, SA, Int.ofNat_eq_natCast, Int.cast_ofNat_Int, Int.reduceBEq, Int.reduceAdd, Int.reduceNeg, Int.reduceNegSucc, Int.reduceLT, Int.reduceLE, Int.reduceMul, Int.reduceTMod, Int.reduceSub, Int.reduceBNe, Bool.not_true, Bool.not_false, decide_true, decide_false, ne_eq, not_false_eq_true, Int.reduceEq, reduceCtorEq]), hF, rf⟩⟩
  | succ n ih =>
    intro i m p h fs v fv l F hm hi hnb hw hmk hp hF rf rl hl hfv hpp
    obtain ⟨m, rfl⟩ : ∃ k, m = k + 1 := ⟨m - 1, by omega⟩
    have hi' : i < ms.length := by omega
    obtain ⟨⟨k1, k2, k3, k4⟩, k5⟩ := hms _ (List.getElem_mem hi')
    have kn : ∀ x, h.nb ≤ x → ¬ F x := fun x hx f => by have := hF x f; omega
    obtain ⟨h1, v1, vl, vs, t1, w1, n1, c1, rS, hc⟩ := reg66 (N := N) (S := S) (p := p) (fs := fs) hw hmk hi' rl hp (by omega) k1 k5 kn (by omega) (by omega) k3 k4 (by omega)
    rw [List.drop_eq_getElem_cons hi', frs]
    rcases hc with ⟨e1, e2⟩ | ⟨l', e1, rl1, e2, e3⟩
    · exact ⟨h1, t1.mono fun _ _ f => f.elim, w1, .inl ⟨by rw [e1], lpr2 m (by rw [L66Y]; exact e2)⟩⟩
    have hl' := nxt_len e1
    have lo : ∀ x, x < Kb → ¬ F x := fun x hx f => by have := hF x f; omega
    obtain ⟨h2, t2, w2, hz⟩ := z66 (N0 := N0) (N := N) (S := S) (pb := pb) (mb := h.nb) (pl := p + ms[i].delta) (maps := maps) (ln := .int 63 (ms.length : Int)) (i := .int 63 (i : Int)) (fv := fv) w1 (by omega)
      (fun x f => by have := hF x f; omega) (rf.to t1 (fun _ _ _ f => f) (fun _ _ _ f => f)) rl1 c1 (kn _ (Nat.le_refl _)) (rS.mono fun x hx _ => lo x hx) (hp.to t1 (fun f => f)) hpb (by omega) (by simp; omega) (by omega) (by omega)
    rw [wid_eq 0 99 ((ms[i].stk.map raw).map nmd)] at hz
    have T2 : To (fun x => N0 ≤ x) h h2 := (t1.mono fun _ _ f => f.elim).trans t2
    rcases hz with ⟨hb, ez⟩ | ⟨hb, fs', F', ez, q1, q4, q6⟩
    · exact ⟨h2, T2, w2, .inl ⟨by rw [e1]; simp only; rw [if_pos hb], lpr2 m (by rw [L66Y]; exact e2 _ ez)⟩⟩
    have hge := wid_ge 0 l'
    have e4 := e3 _ _ ez
    have hpl : (((p + ms[i].delta : Nat) : Int)) = ((p + ms[i].delta + 1 : Nat) : Int) - 1 := by omega
    rw [hpl] at e4
    obtain ⟨h3, t3, w3, hr⟩ := ih (i + 1) m (p + ms[i].delta + 1) h2 fs' v1 _ l' F' (by omega) (by omega) (by have := T2.nb; omega) w2 (hmk.to T2 (fun x _ hx f => by have : N0 ≤ x := f; omega)) (hp.to T2 (fun f => by have : N0 ≤ pb := f; omega)) q1 q4 q6 (by omega) (by simp; omega) (by omega)
    refine ⟨h3, T2.trans t3, w3, ?_⟩
    rw [e1]
    simp only
    rw [if_neg hb, lpn m (show L66n0 _ _ = _ by rw [L66Y]; exact e4)]
    exact hr
theorem t66 {h : Hp} {N1 M Kb N S pb : Nat} {P : Nat → Prop} {maps v : AV} {ms : List Mv} {l : List Vt} (hw : Wf h) (hmk : MK h N1 M Kb maps ms) (hK : Kb ≤ h.nb) (hp : Pool h pb) (hN : N ≤ 1000) (hms : ∀ m ∈ ms, Ok3 m) (hlen : ms.length ≤ 4096)
    (rl : Rws h P 3 v (l.map vR)) (hl : l.length ≤ 1000) :
    ∃ h', To No h h' ∧ Wf h' ∧ ((frs N S ms (tgt (strip l)) 0 [] = none ∧ s66 [.agg (avL [.int 63 0, v, .nils]), maps, plv pb, .int 63 (N : Int), .int 63 (S : Int)] h = .ret no2 h') ∨
        ∃ r fs' F', frs N S ms (tgt (strip l)) 0 [] = some r ∧ s66 [.agg (avL [.int 63 0, v, .nils]), maps, plv pb, .int 63 (N : Int), .int 63 (S : Int)] h = .ret (.tup (.cons fs' (.cons (.bool true) .nil))) h' ∧
          (∀ x, F' x → h.nb ≤ x) ∧ PG h' F' (fun x => ¬ F' x) fs' r) := by
  obtain ⟨h1, m1, c1, t1, w1, n1⟩ := ce_mk hw [.int 63 0, v, .nils] (by intro x hx; simp only [List.mem_cons, List.not_mem_nil, or_false] at hx; rcases hx with rfl | rfl | rfl; rfl; exact rl.one; rfl)
  have m1 : ∀ k : AV → Hp → Res, mk h (cells (.agg (avL [.int 63 0, v, .nils]))) k = k (.ptr h.nb 0) h1 := m1
  have y0 : ∀ kk : AV → Res, ld1 h1 (.ptr h.nb (Nat.add 0 1)) kk = kk v := fun kk => Ce.l c1 1 (by simp) kk
  have y0' : ∀ kk : AV → Res, ld1 h1 (.ptr h.nb 1) kk = kk v := y0
  obtain ⟨o1, e1, r1⟩ := t94 (rl.to t1 (fun _ _ _ f => f)) (by omega)
  have hs := strip_le l
  obtain ⟨o, h2, e2, r2, t2, w2⟩ := t93 r1 w1 (by omega)
  have htl := tgt_len (strip l).length (strip l) (Nat.le_refl _)
  have T2 := t1.trans t2
  have n2 := T2.nb
  have n2' := t2.nb
  have hp2 := hp.to T2 (fun f => f)
  have ln := fun kk => (hmk.mr).len kk
  have ln : ∀ kk : AV → Res, lenL maps kk = kk (.int 63 (ms.length : Int)) := ln
  obtain ⟨h3, t3, w3, hr⟩ := loop66 (N0 := h.nb) (N := N) (S := S) hK (Ce.lt hp) hN hms hlen ms.length 0 most 0 h2 .nils o [] (tgt (strip l)) (fun _ => False) (by unfold most; omega) (by omega) n2 w2 (hmk.to T2 (fun _ _ _ f => f)) hp2 (fun _ f => f.elim) PX.nil (r2.mono fun x _ _ => fun f => f) (by omega) rfl (by omega)
  have T3 : To No h h3 := ((T2.mono fun _ _ f => f.elim).trans t3).mono fun x hx e => by have : h.nb ≤ x := e; omega
  refine ⟨h3, T3, w3, ?_⟩
  rw [List.drop_zero] at hr
  rcases hr with ⟨q1, q2⟩ | ⟨r, fs', F', q1, q2, q3, q5⟩
  · have q2 : lp L66n0 most [plv pb, .int 63 (N : Int), .int 63 (S : Int), o, .nils, .int 63 (.negSucc 0), maps, .int 63 (ms.length : Int), .int 63 0] h2 = .ret no2 h3 := q2
    have q2' : lp L66n0 most [plv pb, .int 63 (N : Int), .int 63 (S : Int), o, .nils, .int 63 (-1), maps, .int 63 (ms.length : Int), .int 63 0] h2 = .ret no2 h3 := q2
    exact .inl ⟨q1, by simp only [↓s66, ↓m1, ↓cP_p, ↓y0, ↓y0', ↓e1, ↓e2, ↓ln, ↓q2, ↓q2', ↓SD, SA, Int.ofNat_eq_natCast, Int.cast_ofNat_Int, Int.reduceBEq, Int.reduceAdd, Int.reduceNeg, Int.reduceNegSucc, Int.reduceLT, Int.reduceLE, Int.reduceMul, Int.reduceTMod, Int.reduceSub, Int.reduceBNe, Bool.not_true, Bool.not_false, decide_true, decide_false, ne_eq, not_false_eq_true, Int.reduceEq, reduceCtorEq]⟩
  · have q2 : lp L66n0 most [plv pb, .int 63 (N : Int), .int 63 (S : Int), o, .nils, .int 63 (.negSucc 0), maps, .int 63 (ms.length : Int), .int 63 0] h2 = .exit 0 [fs'] h3 := q2
    have q2' : lp L66n0 most [plv pb, .int 63 (N : Int), .int 63 (S : Int), o, .nils, .int 63 (-1), maps, .int 63 (ms.length : Int), .int 63 0] h2 = .exit 0 [fs'] h3 := q2
    have k1 := fun kk => PX.cK q5 kk
    exact .inr ⟨r, fs', F', q1, by simp only [↓s66, ↓m1, ↓cP_p, ↓y0, ↓y0', ↓e1, ↓e2, ↓ln, ↓q2, ↓q2', ↓k1, blk_x0, ↓SD, SA, Int.ofNat_eq_natCast, Int.cast_ofNat_Int, Int.reduceBEq, Int.reduceAdd, Int.reduceNeg, Int.reduceNegSucc, Int.reduceLT, Int.reduceLE, Int.reduceMul, Int.reduceTMod, Int.reduceSub, Int.reduceBNe, Bool.not_true, Bool.not_false, decide_true, decide_false, ne_eq, not_false_eq_true, Int.reduceEq, reduceCtorEq], fun x f => (q3 x f).1, q5⟩
end Go.Proofs.Ytnpfppddongbhaa
end

section
namespace Go.Proofs.Ytnpfppddongbhaa
open Go Go.AM
set_option autoImplicit false
/-! ### what entries that are read may hold -/
def Kd (l : List (Nat × Nat)) : Prop := ∀ p ∈ l, p.1 ≠ 99
def Ok4 (m : Mv) : Prop := Ok3 m ∧ Kd m.stk
theorem kd_k {t : List Nat} {q : Sq} (h : (kd t q).2.1 = true) : (kd t q).1.1 ≠ 99 := by
  unfold kd at h ⊢
  split
  · rename_i h1
    intro e
    simp only at e
    rw [e] at h1
    exact absurd h1 (by decide)
  · rename_i h1
    rw [if_neg h1] at h
    split
    · exact (show (7 : Nat) ≠ 99 by decide)
    · rename_i h2
      rw [if_neg h2] at h
      split
      · exact (show (8 : Nat) ≠ 99 by decide)
      · rename_i h3
        rw [if_neg h3] at h
        cases h
theorem kds_kd {t : List Nat} : ∀ (n : Nat) (q : Sq) (l : List (Nat × Nat)) (r : List (Nat × Nat) × Sq), kds t n q l = some r → Kd l → Kd r.1 := by
  intro n
  induction n with
  | zero => intro q l r h hl; have h : some (l, q) = some r := h; cases h; exact hl
  | succ n ih =>
    intro q l r h hl
    have h : (if (kd t q).2.1 = true ∧ (kd t q).2.2.2 = false then kds t n (kd t q).2.2 (l ++ [(kd t q).1]) else none) = some r := h
    split at h
    · rename_i hc
      refine ih _ _ _ h (fun p hp => ?_)
      rcases List.mem_append.1 hp with hp | hp
      · exact hl p hp
      · rw [List.mem_singleton.1 hp]; exact kd_k hc.1
    · cases h
theorem kd_nil : Kd [] := fun p hp => by cases hp
theorem en_ok4 {t : List Nat} (hb : ∀ x ∈ t, x < 256) {q : Sq} {r : Mv × Sq} (h : en t q = some r) : Ok4 r.1 := by
  have v1 : val t q 1 < 256 := val_lt hb q 1
  have v2 : ∀ q, val t q 2 < 65536 := fun q => val_lt hb q 2
  have v3 := v2 (adv t q 1)
  have hs := en_small hb h
  refine ⟨⟨⟨hs.1, hs.2, ?_⟩, ?_⟩, ?_⟩
  · clear hs
    unfold en at h
    split at h
    · rw [fn_eq h]; exact ⟨by simp only; omega, by simp only; omega⟩
    split at h
    · split at h
      · cases h
      · rw [fn_eq h]; exact ⟨by simp only; omega, by simp only; omega⟩
    split at h
    · cases h
    split at h
    · split at h
      · cases h
      · rw [fn_eq h]; exact ⟨by simp only; omega, by simp only; omega⟩
    split at h
    · rw [fn_eq h]; exact ⟨by simp only; omega, by simp only; omega⟩
    split at h
    · split at h
      · cases h
      · rw [fn_eq h]; exact ⟨by simp only; omega, by simp only; omega⟩
    · split at h
      · cases h
      · split at h
        · cases h
        · rw [fn_eq h]; exact ⟨by simp only; omega, by simp only; omega⟩
  · clear hs
    intro g1 g2
    unfold en at h
    split at h
    · rw [fn_eq h] at g1; simp only at g1; omega
    split at h
    · split at h
      · cases h
      · rw [fn_eq h] at g1; simp only at g1; omega
    split at h
    · cases h
    split at h
    · split at h
      · cases h
      · rw [fn_eq h] at g1; simp only at g1; omega
    split at h
    · rw [fn_eq h] at g1; simp only at g1; omega
    split at h
    · split at h
      · cases h
      · rename_i e
        have k1 := kds_len _ _ _ _ e
        rw [fn_eq h] at g1 ⊢
        simp only at g1 ⊢
        intro hn
        rw [hn] at k1
        simp at k1
        omega
    · rename_i hv
      have : val t q 1 = 255 := by omega
      split at h
      · cases h
      · split at h
        · cases h
        · rw [fn_eq h] at g2; simp only at g2; omega
  · clear hs
    unfold en at h
    split at h
    · rw [fn_eq h]; exact kd_nil
    split at h
    · split at h
      · cases h
      · rename_i e; have := kds_kd _ _ _ _ e kd_nil; rw [fn_eq h]; exact this
    split at h
    · cases h
    split at h
    · split at h
      · cases h
      · rename_i e; have := kds_kd _ _ _ _ e kd_nil; rw [fn_eq h]; exact this
    split at h
    · rw [fn_eq h]; exact kd_nil
    split at h
    · split at h
      · cases h
      · rw [fn_eq h]; exact kd_nil
    · split at h
      · cases h
      · split at h
        · cases h
        · rename_i e2; have := kds_kd _ _ _ _ e2 kd_nil; rw [fn_eq h]; exact this
theorem ens_ok4 {t : List Nat} (hb : ∀ x ∈ t, x < 256) : ∀ (n : Nat) (q : Sq) (l : List Mv) (r : List Mv × Sq), ens t n q l = some r → (∀ m ∈ l, Ok4 m) → ∀ m ∈ r.1, Ok4 m := by
  intro n
  induction n with
  | zero => intro q l r h hl; have h : some (l, q) = some r := h; cases h; exact hl
  | succ n ih =>
    intro q l r h hl
    have h : (match en t q with | none => none | some r => ens t n r.2 (l ++ [r.1])) = some r := h
    split at h
    · cases h
    · rename_i e
      exact ih _ _ _ h (fun m hm => by
        rcases List.mem_append.1 hm with hm | hm
        · exact hl m hm
        · rw [List.mem_singleton.1 hm]; exact en_ok4 hb e)
theorem rdm_ok4 {t : List Nat} (hb : ∀ x ∈ t, x < 256) {ms : List Mv} (h : rdm t = some ms) : ∀ m ∈ ms, Ok4 m := by
  unfold rdm at h
  split at h
  · cases h
  split at h
  · cases h
  split at h
  · cases h
  · rename_i e
    split at h
    · cases h
    · cases h
      exact ens_ok4 hb _ _ _ _ e (fun m hm => by cases hm)
/-! ### what frames may hold -/
def Fok (f : Fv) : Prop := f.loc.length ≤ 100000 ∧ f.stk.length ≤ 100000 ∧ ∀ v ∈ f.stk, v.k ≠ 99
theorem nmd_k (v : Vt) : (nmd v).k = v.k := by unfold nmd; split; rename_i h; exact h.symm; rfl
theorem fil_len (l : List Vt) (N : Nat) (h : l.length ≤ N) : (fil l N).length = N := by unfold fil; simp; omega
theorem frs_ok {N S : Nat} (hN : N ≤ 1000) : ∀ (ms : List Mv) (l : List Vt) (p : Nat) (a r : List Fv), (∀ m ∈ ms, Ok4 m) → frs N S ms l p a = some r → (∀ f ∈ a, Fok f) → (∀ f ∈ r, Fok f) ∧ r.length = a.length + ms.length := by
  intro ms
  induction ms with
  | nil => intro l p a r _ h ha; simp only [frs, Option.some.injEq] at h; subst h; exact ⟨ha, rfl⟩
  | cons m ms ih =>
    intro l p a r hm h ha
    rw [frs] at h
    split at h
    · cases h
    · split at h
      · cases h
      · rename_i hc
        have hm0 := hm m List.mem_cons_self
        have := ih _ _ _ _ (fun x hx => hm x (List.mem_cons_of_mem _ hx)) h (fun f hf => by
          rcases List.mem_append.1 hf with hf | hf
          · exact ha f hf
          · rw [List.mem_singleton] at hf; subst hf
            refine ⟨by rw [fil_len _ _ (by omega)]; omega, by simp; have := hm0.1.1.2.1; omega, fun v hv => ?_⟩
            obtain ⟨x, hx, rfl⟩ := List.mem_map.1 hv
            obtain ⟨y, hy, rfl⟩ := List.mem_map.1 hx
            rw [nmd_k]
            exact hm0.2 y hy)
        exact ⟨this.1, by rw [this.2]; simp; omega⟩
/-! ### the law's first locals -/
theorem Lt.app {l m : List Vt} (h1 : Lt l) (h2 : Lt m) : Lt (l ++ m) := by
  induction h1 with
  | nil => exact h2
  | one v l hv _ ih => exact .one v _ hv ih
  | two v w l hv hw _ ih => exact .two v w _ hv hw ih
theorem Lt.bq (x : Int) : Lt (bq x) := by
  unfold Ytnpfppddongbhaa.bq
  split
  · rename_i h; exact .two _ _ _ (by rw [gq_k]; exact h) rfl .nil
  · rename_i h; exact .one _ _ (by rw [gq_k]; exact h) .nil
theorem Lt.fill : ∀ n, Lt (List.replicate n (⟨0, 0, 0, 0⟩ : Vt))
  | 0 => .nil
  | n + 1 => .one _ _ (by decide) (Lt.fill n)
theorem Lt.fsq : ∀ (fl : List Int) (n : Nat) (l : List Vt), Lt l → Lt (fsq fl n l)
  | [], _, _, h => h
  | x :: xs, n, l, h => by
    unfold Ytnpfppddongbhaa.fsq
    split
    · exact Lt.fsq xs n _ (h.app (Lt.bq x))
    · exact h
theorem fsq_le : ∀ (fl : List Int) (n : Nat) (l : List Vt), l.length ≤ n + 1 → (fsq fl n l).length ≤ n + 1
  | [], _, _, h => h
  | x :: xs, n, l, h => by
    unfold Ytnpfppddongbhaa.fsq
    split
    · exact fsq_le xs n _ (by have := bq_len x; simp; omega)
    · exact h
theorem Lt.fil {l : List Vt} (h : Lt l) (n : Nat) : Lt (fil l n) := h.app (Lt.fill _)
end Go.Proofs.Ytnpfppddongbhaa
end

section
namespace Go.Proofs.Ytnpfppddongbhaa
open Go Go.AM
set_option autoImplicit false
/-! ### the law -/
theorem bS1 {a : AV} (h1 : one a = true) (k : AV → Res) : bld [(false, 1, a), (false, 1, .nils)] k = k (avL [a, .nils]) := by
  have e : bld [(false, 1, a), (false, 1, .nils)] k = ifB (one a) (k (avL [a, .nils])) .fail := rfl
  rw [e, h1, ifB_t]
theorem bS2 {a : AV} (h1 : one a = true) (k : AV → Res) : bld [(false, 1, .int 63 (.ofNat 0)), (false, 1, a), (false, 1, .nils)] k = k (avL [.int 63 0, a, .nils]) := by
  have e : bld [(false, 1, .int 63 (.ofNat 0)), (false, 1, a), (false, 1, .nils)] k = ifB (one a) (k (avL [.int 63 0, a, .nils])) .fail := rfl
  rw [e, h1, ifB_t]
theorem bS2' {a : AV} (h1 : one a = true) (k : AV → Res) : bld [(false, 1, .int 63 0), (false, 1, a), (false, 1, .nils)] k = k (avL [.int 63 0, a, .nils]) := bS2 h1 k
theorem blk_x4 {vs : List AV} {h : Hp} (k : List AV → Hp → Res) : blk 4 (.exit 4 vs h) k = k vs h := of_eq_true (eq_self _)
theorem blk_x6 {vs : List AV} {h : Hp} (k : List AV → Hp → Res) : blk 6 (.exit 6 vs h) k = k vs h := of_eq_true (eq_self _)
theorem nth2 (a b c : AV) : nth (.cons a (.cons b (.cons c .nil))) 2 = c := of_eq_true (eq_self _)
theorem nth1 (a b c : AV) : nth (.cons a (.cons b (.cons c .nil))) 1 = b := of_eq_true (eq_self _)
theorem nth0 (a b : AV) : nth (.cons a b) 0 = a := of_eq_true (eq_self _)
theorem nth1' (a b : AV) : nth (.cons a (.cons b .nil)) 1 = b := of_eq_true (eq_self _)
/-- Behind the entries: the first locals, the frames by both, compared. -/
theorem lawFrames {h : Hp} {v vb : AV} {fl : List Int} {t : List Nat} {Ni Si : Int} (hv : Sl h (fun b => b < h.nb) v (Is fl)) (hs : Sl h (fun b => b < h.nb) vb (Bs t)) (hw : Wf h) (hb : ∀ x ∈ t, x < 256) (ht : t.length ≤ 9223372036854775807) :
    ∃ h', s22 [v, vb, .int 63 Ni, .int 63 Si] h = .ret (.bool true) h' := by
  have e1 := t60 h
  have gb : ∀ x : AV, gsel (.bool false) false x = x := fun x => rfl
  by_cases a1 : Ni < 0
  · exact ⟨h, by simp only [↓s22, ↓e1, a1, ↓SD, SA, Int.ofNat_eq_natCast, Int.cast_ofNat_Int, Int.reduceBEq, Int.reduceAdd, Int.reduceNeg, Int.reduceNegSucc, Int.reduceLT, Int.reduceLE, Int.reduceMul, Int.reduceTMod, Int.reduceSub, Int.reduceBNe, Bool.not_true, Bool.not_false, decide_true, decide_false, ne_eq, not_false_eq_true, Int.reduceEq, reduceCtorEq]⟩
  by_cases a2 : 12 < Ni
  · exact ⟨h, by simp only [↓s22, ↓e1, a1, a2, ↓gb, ↓SD, SA, Int.ofNat_eq_natCast, Int.cast_ofNat_Int, Int.reduceBEq, Int.reduceAdd, Int.reduceNeg, Int.reduceNegSucc, Int.reduceLT, Int.reduceLE, Int.reduceMul, Int.reduceTMod, Int.reduceSub, Int.reduceBNe, Bool.not_true, Bool.not_false, decide_true, decide_false, ne_eq, not_false_eq_true, Int.reduceEq, reduceCtorEq]⟩
  by_cases a3 : Si < 0
  · exact ⟨h, by simp only [↓s22, ↓e1, a1, a2, a3, ↓gb, ↓SD, SA, Int.ofNat_eq_natCast, Int.cast_ofNat_Int, Int.reduceBEq, Int.reduceAdd, Int.reduceNeg, Int.reduceNegSucc, Int.reduceLT, Int.reduceLE, Int.reduceMul, Int.reduceTMod, Int.reduceSub, Int.reduceBNe, Bool.not_true, Bool.not_false, decide_true, decide_false, ne_eq, not_false_eq_true, Int.reduceEq, reduceCtorEq]⟩
  by_cases a4 : 8 < Si
  · exact ⟨h, by simp only [↓s22, ↓e1, a1, a2, a3, a4, ↓gb, ↓SD, SA, Int.ofNat_eq_natCast, Int.cast_ofNat_Int, Int.reduceBEq, Int.reduceAdd, Int.reduceNeg, Int.reduceNegSucc, Int.reduceLT, Int.reduceLE, Int.reduceMul, Int.reduceTMod, Int.reduceSub, Int.reduceBNe, Bool.not_true, Bool.not_false, decide_true, decide_false, ne_eq, not_false_eq_true, Int.reduceEq, reduceCtorEq]⟩
  obtain ⟨N, rfl⟩ : ∃ k : Nat, Ni = (k : Int) := ⟨Ni.toNat, by omega⟩
  obtain ⟨S, rfl⟩ : ∃ k : Nat, Si = (k : Int) := ⟨Si.toNat, by omega⟩
  obtain ⟨v2, e2, s2⟩ := t24 hs 300 ht
  have z300 : ((300 : Nat) : Int) = 300 := rfl
  rw [z300] at e2
  have hb2 : ∀ x ∈ t.take 300, x < 256 := fun x hx => hb x (List.mem_of_mem_take hx)
  have hl2 : (t.take 300).length ≤ 100000 := by simp; omega
  generalize t.take 300 = t2 at *
  obtain ⟨h1, e3, p1, o1, w1, n1⟩ := t62 hw
  have s3 := s2.to o1 (fun _ _ f => f)
  rcases t63 s3 w1 hl2 hb2 p1 with ⟨k1, h2, e4, o2, w2⟩ | ⟨ms, v4, h2, k1, e4, m4, o2, w2⟩
  · exact ⟨h2, by simp only [↓s22, ↓e1, a1, a2, a3, a4, ↓gb, ↓e2, ↓e3, ↓e4, ↓cK_nils, nth0, nth1', ↓SD, SA, Int.ofNat_eq_natCast, Int.cast_ofNat_Int, Int.reduceBEq, Int.reduceAdd, Int.reduceNeg, Int.reduceNegSucc, Int.reduceLT, Int.reduceLE, Int.reduceMul, Int.reduceTMod, Int.reduceSub, Int.reduceBNe, Bool.not_true, Bool.not_false, decide_true, decide_false, ne_eq, not_false_eq_true, Int.reduceEq, reduceCtorEq]⟩
  have n2 := o2.nb
  have mk2 := m4.mk (Nat.le_refl _)
  have hok := rdm_ok4 hb2 k1
  have hln := (rdm_small hb2 k1).2
  have c4 := fun kk => m4.cK kk
  obtain ⟨v5, h3, e5, r5, o3, w3⟩ := loop22a (N := h2.nb) (n := N) (.int 63 (S : Int)) (.bool true) v4 (fun x hx => (hx : x < h2.nb)) (by omega) (N + 1) 0 most .nils [] h2 (by simp) (by unfold most; omega) (by simp) (by simp) (Nat.le_refl _) w2 (((hv.mono fun x hx => (show x < h2.nb by omega)).to o1 (fun _ _ f => f)).to o2 (fun _ _ f => f)) (Rws.nil _ _ _)
  have e5 : lp L22n0 most [v, .int 63 (N : Int), .int 63 (S : Int), .bool true, v4, .nils, .int 63 0] h2 = .exit 0 [.int 63 (N : Int), .int 63 (S : Int), .bool true, v4, v5] h3 := e5
  rw [List.drop_zero] at r5
  have lt5 := Lt.fsq fl N [] .nil
  have ln5 := fsq_le fl N [] (by simp)
  generalize fsq fl N [] = l5 at *
  have l5' := fun kk => vR_len r5 kk
  have n3 := o3.nb
  by_cases a5 : N < l5.length
  · have b5 : (N : Int) < (l5.length : Int) := by omega
    exact ⟨h3, by simp only [↓s22, ↓e1, a1, a2, a3, a4, ↓gb, ↓e2, ↓e3, ↓e4, ↓c4, nth0, nth1', ↓e5, blk_x0, ↓l5', b5, ↓SD, SA, Int.ofNat_eq_natCast, Int.cast_ofNat_Int, Int.reduceBEq, Int.reduceAdd, Int.reduceNeg, Int.reduceNegSucc, Int.reduceLT, Int.reduceLE, Int.reduceMul, Int.reduceTMod, Int.reduceSub, Int.reduceBNe, Bool.not_true, Bool.not_false, decide_true, decide_false, ne_eq, not_false_eq_true, Int.reduceEq, reduceCtorEq]⟩
  have b5 : ¬ (N : Int) < (l5.length : Int) := by omega
  obtain ⟨v6, h4, e6, r6, o4, w4⟩ := loop22b (N := h2.nb) (n := N) (.int 63 (S : Int)) (.bool true) v4 (by omega) (N - l5.length) most v5 l5 h3 rfl (by unfold most; omega) n3 w3 (by omega) r5
  have n4 := o4.nb
  have lt6 := lt5.fil N
  have ln6 := fil_len l5 N (by omega)
  generalize fil l5 N = l6 at *
  have r6a : Rws h4 (fun x => h2.nb ≤ x ∧ x < h4.nb) 3 v6 (l6.map vR) := r6.mono fun x hx hlt => ⟨hx, hlt⟩
  have q1 := fun k => bS1 r6.one k
  have q2 := fun k => bS2 r6.one k
  have q2' := fun k => bS2' r6.one k
  obtain ⟨h5, e7, p5, o5, w5, n5⟩ := t62 w4
  have T5 : To (fun x => h2.nb ≤ x) h2 h5 := (o3.trans o4).trans (o5.mono fun _ _ f => f.elim)
  have mk5 := mk2.to T5 (fun x _ hx f => by have : h2.nb ≤ x := f; omega)
  have r6b := r6a.to o5 (fun _ _ _ f => f)
  have hce := cut_eq lt6
  have ltl := tgt_len l6.length l6 (Nat.le_refl _)
  have lst := strip_le (tgt l6)
  obtain ⟨h6, o6, w6, hr⟩ := t65 (N := N) (S := S) w5 mk5 (by omega) p5 (by omega) (fun m hm => (hok m hm).1.1) hln r6b (by omega) (by omega) (fun {g Q} rg wg => t89 rg wg (by omega))
  obtain ⟨h7, e8, p7, o7, w7, n7⟩ := t62 w6
  have mk7 := (mk5.to o6 (fun _ _ _ f => f)).to o7 (fun _ _ _ f => f)
  have r7 := (r6b.to o6 (fun _ _ _ f => f)).to o7 (fun _ _ _ f => f)
  have n6 := o6.nb
  obtain ⟨h8, o8, w8, hg⟩ := t66 (N := N) (S := S) w7 mk7 (by omega) p7 (by omega) (fun m hm => (hok m hm).1) hln r7 (by omega)
  rw [hce] at hg
  rcases hr with ⟨x1, x2⟩ | ⟨r, fs, at_, F, A, x1, x2, x3, x4, x5, x6⟩
  · rcases hg with ⟨y1, y2⟩ | ⟨r', gs, G, y1, y2, y3, y4⟩
    · have x2 : s65 [.agg (avL [v6, .nils]), v4, plv h4.nb, .int 63 (N : Int), .int 63 (S : Int)] h5 = .ret (.tup (.cons .nils (.cons .nils (.cons (.bool false) .nil)))) h6 := x2
      have y2 : s66 [.agg (avL [.int 63 0, v6, .nils]), v4, plv h6.nb, .int 63 (N : Int), .int 63 (S : Int)] h7 = .ret (.tup (.cons .nils (.cons (.bool false) .nil))) h8 := y2
      have lc := loop22c0 (h := h6) (.int 63 (N : Int)) (.int 63 (S : Int)) (.bool true) v4 v6 .nils false
      refine ⟨h8, ?_⟩
      simp only [↓s22, ↓e1, a1, a2, a3, a4, ↓gb, ↓e2, ↓e3, ↓e4, ↓c4, nth0, nth1', ↓e5, blk_x0, ↓l5', b5, ↓e6, blk_x2, ↓q1, ↓e7, ↓x2, nth1, nth2, ↓cK_nils, ↓lc, blk_x4, ↓q2, ↓q2', ↓e8, ↓y2, beq_self_eq_true, ↓SD, SA, Int.ofNat_eq_natCast, Int.cast_ofNat_Int, Int.reduceBEq, Int.reduceAdd, Int.reduceNeg, Int.reduceNegSucc, Int.reduceLT, Int.reduceLE, Int.reduceMul, Int.reduceTMod, Int.reduceSub, Int.reduceBNe, Bool.not_true, Bool.not_false, decide_true, decide_false, ne_eq, not_false_eq_true, Int.reduceEq, reduceCtorEq]
    · rw [x1] at y1; cases y1
  · rcases hg with ⟨y1, y2⟩ | ⟨r', gs, G, y1, y2, y3, y4⟩
    · rw [x1] at y1; cases y1
    · rw [x1] at y1
      obtain rfl := Option.some.inj y1
      obtain ⟨hfo, hrl⟩ := frs_ok (by omega) ms _ 0 [] r hok x1 (fun f hf => by cases hf)
      have hrise := frs_rise N S ms _ 0 [] r x1 (fun f hf => by cases hf) (by simp)
      simp only [List.length_nil, Nat.zero_add] at hrl
      have lc := loop22c (h := h6) (.int 63 (N : Int)) (.int 63 (S : Int)) (.bool true) v4 v6 fs x6 (fun j hj => by
        rw [List.pairwise_iff_getElem] at hrise
        exact hrise j (j + 1) (by omega) hj (by omega)) (by simp; omega) (r.map (·.at_)).length 0 most (by simp; unfold most; omega) (by omega)
      have lc : lp L22n2 most [.int 63 (N : Int), .int 63 (S : Int), .bool true, v4, v6, fs, at_, .bool true, .int 63 1] h6 = .exit 4 [.int 63 (N : Int), .int 63 (S : Int), .bool true, v4, v6, fs, at_, .bool true] h6 := lc
      have pf := (x5.to o7 (fun _ _ _ f => f) (fun _ _ _ f => f)).to o8 (fun _ _ _ f => f) (fun _ _ _ f => f)
      have pa := (x6.to o7 (fun _ _ _ f => f)).to o8 (fun _ _ _ f => f)
      have lf := fun kk => pf.len kk
      have lg := fun kk => y4.len kk
      have cf := fun kk => x5.cK kk
      have ca := fun kk => Rws.cK x6 kk
      have cg := fun kk => y4.cK kk
      obtain ⟨h9, ld⟩ := loop22d (by omega) hfo r.length 0 most h8 (by unfold most; omega) (by omega) w8 pf pa y4
      have ld : lp L22n3 most [.bool true, fs, at_, gs, .int 63 0] h8 = .exit 6 [.bool true] h9 := ld
      refine ⟨h9, ?_⟩
      simp only [↓s22, ↓e1, a1, a2, a3, a4, ↓gb, ↓e2, ↓e3, ↓e4, ↓c4, nth0, nth1', ↓e5, blk_x0, ↓l5', b5, ↓e6, blk_x2, ↓q1, ↓e7, ↓x2, nth1, nth2, ↓cf, ↓ca, ↓cg, ↓lc, blk_x4, ↓q2, ↓q2', ↓e8, ↓y2, ↓lf, ↓lg, ↓ld, blk_x6, beq_self_eq_true, ↓SD, SA, Int.ofNat_eq_natCast, Int.cast_ofNat_Int, Int.reduceBEq, Int.reduceAdd, Int.reduceNeg, Int.reduceNegSucc, Int.reduceLT, Int.reduceLE, Int.reduceMul, Int.reduceTMod, Int.reduceSub, Int.reduceBNe, Bool.not_true, Bool.not_false, decide_true, decide_false, ne_eq, not_false_eq_true, Int.reduceEq, reduceCtorEq]
end Go.Proofs.Ytnpfppddongbhaa
end
