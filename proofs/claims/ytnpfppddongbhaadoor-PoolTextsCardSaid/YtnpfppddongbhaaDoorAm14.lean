/-
  The abstract machine, part 14: parts of aggregates, places of elements, cuts, lengths.
-/
import Derived.Test.YtnpfppddongbhaaDoorAm13
namespace Go.AM
open Go
set_option autoImplicit false

section
variable {P : Program} {N0 : Base} {ρ : Rho} {h : Hp} {w : World} {x y : AV} {X Y : Value} {r : Res} {k : AV → Res}

theorem takeL_inv : ∀ (n : Nat) (l : AV) {k : AV → AV → Res}, takeL n l k = r → r ≠ .fail → ∃ a b, k a b = r ∧ ∀ ρ vs, LR ρ l vs → LR ρ a (vs.take n) ∧ LR ρ b (vs.drop n) ∧ n ≤ vs.length := by
  intro n
  induction n with
  | zero => intro l k e hr; exact ⟨.nil, l, e, fun ρ vs h => ⟨by rw [List.take_zero]; rfl, by simpa using h, Nat.zero_le _⟩⟩
  | succ n ih =>
    intro l k e hr
    cases l with
    | cons v t =>
      have e : takeL n t (fun a b => k (.cons v a) b) = r := e
      obtain ⟨a, b, h1, h2⟩ := ih t e hr
      refine ⟨_, _, h1, fun ρ vs h => ?_⟩
      obtain ⟨V, l', rfl, g1, g2⟩ := h
      obtain ⟨g3, g4, g5⟩ := h2 ρ l' g2
      exact ⟨⟨V, _, rfl, g1, g3⟩, g4, by simp; omega⟩
    | _ => exact absurd e.symm hr

theorem dropL_inv : ∀ (n : Nat) (l : AV) {k : AV → Res}, dropL n l k = r → r ≠ .fail → ∃ b, k b = r ∧ ∀ ρ vs, LR ρ l vs → LR ρ b (vs.drop n) ∧ n ≤ vs.length := by
  intro n
  induction n with
  | zero => intro l k e hr; exact ⟨l, e, fun ρ vs h => ⟨by simpa using h, Nat.zero_le _⟩⟩
  | succ n ih =>
    intro l k e hr
    cases l with
    | cons v t =>
      have e : dropL n t k = r := e
      obtain ⟨b, h1, h2⟩ := ih t e hr
      refine ⟨_, h1, fun ρ vs h => ?_⟩
      obtain ⟨V, l', rfl, g1, g2⟩ := h
      obtain ⟨g3, g5⟩ := h2 ρ l' g2
      exact ⟨g3, by simp; omega⟩
    | _ => exact absurd e.symm hr

theorem part_ok {t : TypeId} {o : Nat} (hok : okT P t = true) (e : part (agT P t) o (szOf P t) x k = r) (hr : r ≠ .fail) (hx : VR ρ x X) :
    ∃ v V cs, X = .agg cs ∧ k v = r ∧ VR ρ v V ∧ ∀ w, (Go.part t cs o).run P w = .ok V w := by
  obtain ⟨l, rfl, h1⟩ := cA_inv e hr
  obtain ⟨b, h2, h3⟩ := dropL_inv _ _ h1 hr
  obtain ⟨cs, rfl, hl⟩ := hx
  obtain ⟨h4, h5⟩ := h3 ρ _ hl
  cases ha : agT P t with
  | true =>
    rw [ha] at h2
    have h2 : takeL (szOf P t) b (fun a _ => k (.agg a)) = r := h2
    obtain ⟨a, b', h6, h7⟩ := takeL_inv _ _ h2 hr
    obtain ⟨h8, -, h9⟩ := h7 ρ _ h4
    refine ⟨_, .agg (cs.extract o (o + szOf P t)), cs, rfl, h6, ⟨_, rfl, ?_⟩, fun w => ?_⟩
    · have : (cs.extract o (o + szOf P t)).toList = (cs.toList.drop o).take (szOf P t) := by simp [List.extract]
      rw [this]; exact h8
    · unfold Go.part
      rw [Sem.run_bind, isAgg_run hok, ha]
      simp only [Result.andThen_ok, if_true]
      rw [Sem.run_bind, sizeOf_run hok]
      rfl
  | false =>
    rw [ha] at h2
    have h2 : cK (nth b 0) k = r := h2
    obtain ⟨h6, h7⟩ := cK_inv h2 hr
    obtain ⟨V, h8, h9⟩ := LR_nth b _ 0 h4 h6
    have h10 : cs[o]? = some V := by
      rw [List.getElem?_drop] at h8; simpa using h8
    refine ⟨_, V, cs, rfl, h7, h9, fun w => ?_⟩
    unfold Go.part
    rw [Sem.run_bind, isAgg_run hok, ha]
    simp [h10]

theorem field_ok {t : TypeId} {f : Nat} {fs : Array Field} {fd : Field} (hu : P.underlying t = some (.struct fs)) (hf : fs[f]? = some fd) (hok : okT P fd.type = true)
    (e : part (agT P fd.type) fd.offset (szOf P fd.type) x k = r) (hr : r ≠ .fail) (hx : VR ρ x X) : ∃ v, k v = r ∧ Pur P ρ (Instr.field t X f) v := by
  obtain ⟨v, V, cs, rfl, h1, h2, h3⟩ := part_ok hok e hr hx
  refine ⟨v, h1, V, h2, fun w => ?_⟩
  unfold Instr.field
  rw [Sem.run_bind, run_und hu]
  simp only [Result.andThen_ok, hf]
  simp [asAgg, h3]

theorem nat_int {n : Int} {m : Nat} (h : n = (m : Int)) : n.toNat = m := by omega

theorem ixV_ok {t u : TypeId} {n : Nat} (hu : P.underlying t = some (.array n u)) (hok : okT P u = true) (e : ixV (agT P u) n (szOf P u) x y k = r) (hr : r ≠ .fail) (hx : VR ρ x X) (hy : VR ρ y Y) :
    ∃ v, k v = r ∧ Pur P ρ (Instr.index t X Y) v := by
  obtain ⟨c, j, rfl, h1⟩ := cI_inv e hr
  obtain ⟨m, rfl, h2⟩ := natC_inv h1 hr
  obtain ⟨h3, h4⟩ := ifF_inv h2 hr
  rw [blt_iff] at h3
  obtain ⟨v, V, cs, rfl, h5, h6, h7⟩ := part_ok hok h4 hr hx
  obtain ⟨kd, rfl, rfl⟩ := hy
  refine ⟨v, h5, V, h6, fun w => ?_⟩
  unfold Instr.index
  simp only [asIntOf, pure_bind]
  rw [Sem.run_bind, run_und hu]
  simp only [Result.andThen_ok]
  rw [if_pos ⟨by omega, by omega⟩, Sem.run_bind, sizeOf_run hok]
  simp only [Result.andThen_ok]
  exact h7 w

theorem ixA_ok {t u : TypeId} (hu : P.underlying t = some (.slice u)) (hok : okT P u = true) (e : ixA (szOf P u) x y k = r) (hr : r ≠ .fail) (hx : VR ρ x X) (hy : VR ρ y Y) :
    ∃ v, k v = r ∧ Pur P ρ (Instr.indexAt t X Y) v := by
  obtain ⟨b, o, n, z', c, rfl, h1⟩ := cL_inv e hr
  obtain ⟨cc, j, rfl, h2⟩ := cI_inv h1 hr
  obtain ⟨m, rfl, h3⟩ := natC_inv h2 hr
  obtain ⟨h4, h5⟩ := ifF_inv h3 hr
  obtain ⟨h6, h7⟩ := ifF_inv h5 hr
  rw [blt_iff] at h4
  obtain ⟨p, c', hp, rfl, hn, hc, hs⟩ := hx
  obtain ⟨kd, rfl, rfl⟩ := hy
  refine ⟨_, h7, _, ⟨p, hp, rfl⟩, fun w => ?_⟩
  simp [Instr.indexAt, run_und hu, asIntOf, sizeOf_run hok, h4, addr_add, Nat.add_assoc]

theorem ixP_ok {t u : TypeId} {n : Nat} (hu : P.underlying t = some (.array n u)) (hok : okT P u = true) (e : ixP n (szOf P u) x y k = r) (hr : r ≠ .fail) (hx : VR ρ x X) (hy : VR ρ y Y) :
    ∃ v, k v = r ∧ Pur P ρ (Instr.indexAt t X Y) v := by
  obtain ⟨b, o, rfl, h1⟩ := cP_inv e hr
  obtain ⟨cc, j, rfl, h2⟩ := cI_inv h1 hr
  obtain ⟨m, rfl, h3⟩ := natC_inv h2 hr
  obtain ⟨h4, h5⟩ := ifF_inv h3 hr
  rw [blt_iff] at h4
  obtain ⟨p, hp, rfl⟩ := hx
  obtain ⟨kd, rfl, rfl⟩ := hy
  refine ⟨_, h5, _, ⟨p, hp, rfl⟩, fun w => ?_⟩
  simp [Instr.indexAt, Instr.sureAddr, run_und hu, asIntOf, sizeOf_run hok, h4, addr_add, Nat.add_assoc]

theorem nck_ok (op : Oper) {xo : Operand} {eval : Operand → Value} {kk : AV → Hp → Res} (ho : op.op = .nilCheck xo) (hX : eval xo = X) (e : nck x (fun v => kk v h) = r) (hr : r ≠ .fail) (hx : VR ρ x X) :
    kk x h = r ∧ ∀ w, (execOp eval op).run P w = .ok (.value X) w := by
  cases x with
  | ptr b o =>
    obtain ⟨p, -, rfl⟩ := hx
    exact ⟨e, fun w => by simp [execOp, ho, hX]⟩
  | ifc t v =>
    obtain ⟨W, rfl, -⟩ := hx
    exact ⟨e, fun w => by simp [execOp, ho, hX]⟩
  | _ => exact absurd e.symm hr

theorem ifc_ok {t : TypeId} {d : TypeDesc} (hu : P.underlying t = some d) (hd : ∀ ms, d ≠ .interface ms) (hx : VR ρ x X) : Pur P ρ (Instr.makeInterface t X) (.ifc t x) := by
  refine ⟨.iface t X, ⟨X, rfl, hx⟩, fun w => ?_⟩
  unfold Instr.makeInterface
  rw [Sem.run_bind, run_und hu]
  cases d <;> first | rfl | exact absurd rfl (hd _)

theorem extract_ok {i : Nat} (e : cT x (fun l => cK (nth l i) k) = r) (hr : r ≠ .fail) (hx : VR ρ x X) : ∃ v, k v = r ∧ Pur P ρ (Instr.extract X i) v := by
  obtain ⟨l, rfl, h1⟩ := cT_inv e hr
  obtain ⟨h2, h3⟩ := cK_inv h1 hr
  obtain ⟨vs, rfl, hl⟩ := hx
  obtain ⟨V, h4, h5⟩ := LR_nth _ _ i hl h2
  exact ⟨_, h3, V, h5, fun w => by simp [Instr.extract, show vs[i]? = some V from by simpa using h4]⟩

theorem fieldAddr_ok {t : TypeId} {f : Nat} {fs : Array Field} {fd : Field} (hu : P.underlying t = some (.struct fs)) (hf : fs[f]? = some fd) (hsz : szOf P fd.type ≠ 0)
    (e : cP x (fun b o => k (.ptr b (Nat.add o fd.offset))) = r) (hr : r ≠ .fail) (hx : VR ρ x X) : ∃ v, k v = r ∧ Pur P ρ (Instr.fieldAt t X f) v := by
  obtain ⟨b, o, rfl, h1⟩ := cP_inv e hr
  obtain ⟨p, hp, rfl⟩ := hx
  refine ⟨_, h1, _, ⟨p, hp, rfl⟩, fun w => ?_⟩
  have hso : (sizeOf fd.type).run P w = .ok (szOf P fd.type) w := by
    unfold szOf at hsz ⊢
    cases hi : P.info? fd.type with
    | none => rw [hi] at hsz; exact absurd rfl hsz
    | some i => simp [sizeOf, typeInfo, hi]
  simp [Instr.fieldAt, Instr.sureAddr, fieldPlace, run_und hu, hf, hso, hsz, addr_add, Nat.add_assoc]

theorem lenS_ok {t ty : TypeId} (hu : P.underlying t = some .string) (e : lenS x k = r) (hr : r ≠ .fail) (hx : VR ρ x X) : ∃ v, k v = r ∧ Pur P ρ (Builtin.len_ #[t] ty #[X]) v := by
  obtain ⟨n, a, rfl, h1⟩ := cS_inv e hr
  obtain ⟨s, rfl, rfl, rfl⟩ := hx
  exact ⟨_, h1, _, ⟨.i64, rfl, rfl⟩, fun w => by simp [Builtin.len_, run_und hu, goInt]⟩
theorem lenL_ok {t ty u : TypeId} (hu : P.underlying t = some (.slice u)) (e : lenL x k = r) (hr : r ≠ .fail) (hx : VR ρ x X) : ∃ v, k v = r ∧ Pur P ρ (Builtin.len_ #[t] ty #[X]) v := by
  cases x with
  | nils =>
    have hx : X = .slice none 0 0 := hx
    subst hx
    exact ⟨_, e, _, ⟨.i64, rfl, rfl⟩, fun w => by simp [Builtin.len_, run_und hu, goInt]⟩
  | sl b o n z c =>
    obtain ⟨p, c', hp, rfl, -⟩ := hx
    exact ⟨_, e, _, ⟨.i64, rfl, rfl⟩, fun w => by simp [Builtin.len_, run_und hu, goInt]⟩
  | esl =>
    obtain ⟨a, c', rfl⟩ := hx
    exact ⟨_, e, _, ⟨.i64, rfl, rfl⟩, fun w => by simp [Builtin.len_, run_und hu, goInt]⟩
  | _ => exact absurd e.symm hr
end
end Go.AM
