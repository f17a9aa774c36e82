/-
  The abstract machine, part 42 (between 36 and 22): equality of structs; runes; ranges over texts; the smaller and the greater.
-/
import Derived.Test.YtnpfppddongbhaaDoorAm36
import Derived.Laws.StructEq
import Derived.Laws.RangeString
namespace Go.AM
open Go
set_option autoImplicit false

section
variable {P : Program} {N0 : Base} {ρ : Rho} {h : Hp} {w : World} {x y : AV} {X Y : Value} {r : Res}

theorem part1_run {t : TypeId} {d : TypeDesc} {xs : Array Value} {o : Nat} {V : Value} (hd : P.underlying t = some d) (ha : ag (some d) = false) (hx : xs[o]? = some V) (w : World) : (Go.part t xs o).run P w = .ok V w := by
  have hok : okT P t = true := by unfold okT; rw [hd]
  have hag : agT P t = false := by unfold agT; rw [hd]; exact ha
  unfold Go.part
  rw [Sem.run_bind, isAgg_run hok, hag]
  simp [hx]

theorem eqFs_inv {l m : AV} {xs ys : Array Value} (hx : LR ρ l xs.toList) (hy : LR ρ m ys.toList) (hr : r ≠ .fail) : ∀ (fs : List Field) (k : Bool → Res), eqFs P l m fs k = r →
    ∃ b, k b = r ∧ ∀ d w, (Op.eqFields (d + 1) xs ys fs).run P w = .ok b w := by
  intro fs
  induction fs with
  | nil => intro k e; exact ⟨true, e, fun d w => rfl⟩
  | cons f fs ih =>
    intro k e
    unfold eqFs at e
    obtain ⟨hn, e⟩ := sif_inv e hr
    have hn : f.name ≠ "_" := by simpa using hn
    have fin : ∀ (td : TypeDesc) (b : Bool) (V W : Value), P.underlying f.type = some td → ag (some td) = false → VR ρ (nth l f.offset) V → VR ρ (nth m f.offset) W → nth l f.offset ≠ .unk → nth m f.offset ≠ .unk →
        (∀ X Y, VR ρ (nth l f.offset) X → VR ρ (nth m f.offset) Y → ∀ d w, (Op.equalIn (d + 1) f.type X Y).run P w = .ok b w) →
        eqFs P l m fs (fun c => k (bAn2 b c)) = r → ∃ b, k b = r ∧ ∀ d w, (Op.eqFields (d + 1) xs ys (f :: fs)).run P w = .ok b w := by
      intro td b _ _ hu ha _ _ nx ny heq e
      obtain ⟨c, h1, h2⟩ := ih _ e
      obtain ⟨V, hV, hVR⟩ := LR_nth l _ f.offset hx nx
      obtain ⟨W, hW, hWR⟩ := LR_nth m _ f.offset hy ny
      refine ⟨_, h1, fun d w => ?_⟩
      have pV := part1_run (P := P) hu ha (by simpa using hV : xs[f.offset]? = some V) w
      have pW := part1_run (P := P) hu ha (by simpa using hW : ys[f.offset]? = some W) w
      unfold Op.eqFields
      rw [if_pos hn]
      simp only [Sem.run_bind, pV, pW, Result.andThen_ok, heq V W hVR hWR d w]
      cases b
      · rfl
      · exact h2 d w
    split at e
    · rename_i hu
      obtain ⟨a, ea, e1⟩ := cB_inv e hr
      obtain ⟨b, eb, e2⟩ := cB_inv e1 hr
      refine fin _ (beqB a b) (.bool a) (.bool b) hu rfl (by rw [ea]; rfl) (by rw [eb]; rfl) (by rw [ea]; simp) (by rw [eb]; simp) (fun X Y hX hY d w => ?_) e2
      rw [ea] at hX
      rw [eb] at hY
      have hX : X = .bool a := hX
      have hY : Y = .bool b := hY
      rw [hX, hY, run_equalIn_bool' w d _ _ _ hu, beqB_eq]
    · rename_i kk hu
      obtain ⟨c, a, b, ea, eb, e2⟩ := bin2_inv e hr
      obtain ⟨V, hV, hVR⟩ := LR_nth l _ f.offset hx (by rw [ea]; simp)
      obtain ⟨W, hW, hWR⟩ := LR_nth m _ f.offset hy (by rw [eb]; simp)
      refine fin _ (eqI a b) V W hu rfl hVR hWR (by rw [ea]; simp) (by rw [eb]; simp) (fun X Y hX hY d w => ?_) e2
      rw [ea] at hX
      rw [eb] at hY
      obtain ⟨kd, rfl, rfl, rfl⟩ := int2 hX hY
      rw [run_equalIn_int w d _ _ _ _ _ hu, eqI_eq]
    · rename_i hu
      obtain ⟨n, a, ea, e1⟩ := cS_inv e hr
      obtain ⟨n', b, eb, e2⟩ := cS_inv e1 hr
      obtain ⟨V, hV, hVR⟩ := LR_nth l _ f.offset hx (by rw [ea]; simp)
      obtain ⟨W, hW, hWR⟩ := LR_nth m _ f.offset hy (by rw [eb]; simp)
      refine fin _ (sEq n a n' b) V W hu rfl hVR hWR (by rw [ea]; simp) (by rw [eb]; simp) (fun X Y hX hY d w => ?_) e2
      rw [ea] at hX
      rw [eb] at hY
      obtain ⟨s, rfl, rfl, rfl⟩ := hX
      obtain ⟨s', rfl, rfl, rfl⟩ := hY
      rw [run_equalIn_string w d _ _ _ hu, sEq_eq]
    · exact absurd e.symm hr

theorem dBin2_pur {op : BinOp} {t : TypeId} {k : AV → Res} (xo yo : Operand) (e : dBin2 P op t x y k = r) (hr : r ≠ .fail) (hx : VR ρ x X) (hy : VR ρ y Y) :
    ∃ v, k v = r ∧ Pur P ρ (do eqGuard op t xo yo X Y; binOp op t X Y) v := by
  unfold dBin2 at e
  split at e
  · rename_i fs hu
    obtain ⟨hc, e⟩ := sif_inv e hr
    simp only [Bool.and_eq_true, Bool.not_eq_true'] at hc
    have hfs : P.underlying t = some (.struct (P.fieldsOf t)) := by unfold Program.fieldsOf; rw [hu]
    have hfo : P.fieldsOf t = fs := by unfold Program.fieldsOf; rw [hu]
    cases op with
    | eql =>
      obtain ⟨l, rfl, e1⟩ := cA_inv e hr
      obtain ⟨m, rfl, e2⟩ := cA_inv e1 hr
      obtain ⟨xs, rfl, hl⟩ := hx
      obtain ⟨ys, rfl, hm⟩ := hy
      obtain ⟨b, h1, h2⟩ := eqFs_inv hl hm hr fs.toList _ e2
      refine ⟨_, h1, .bool b, rfl, fun w => ?_⟩
      rw [Sem.run_bind, run_eqGuard_agg w _ t xo yo xs ys hc.1]
      simp only [Result.andThen_ok]
      rw [run_eql_struct, show (10000 : Nat) = 9999 + 1 from rfl, run_equalIn_agg w 9999 t xs ys hfs hc.2, hfo, h2 9998 w]
      rfl
    | neq =>
      obtain ⟨l, rfl, e1⟩ := cA_inv e hr
      obtain ⟨m, rfl, e2⟩ := cA_inv e1 hr
      obtain ⟨xs, rfl, hl⟩ := hx
      obtain ⟨ys, rfl, hm⟩ := hy
      obtain ⟨b, h1, h2⟩ := eqFs_inv hl hm hr fs.toList _ e2
      refine ⟨_, h1, .bool (!b), (by rw [bnot_eq]; rfl), fun w => ?_⟩
      rw [Sem.run_bind, run_eqGuard_agg w _ t xo yo xs ys hc.1]
      simp only [Result.andThen_ok]
      rw [run_neq_struct, show (10000 : Nat) = 9999 + 1 from rfl, run_equalIn_agg w 9999 t xs ys hfs hc.2, hfo, h2 9998 w]
      rfl
    | _ => exact absurd e.symm hr
  · exact dBin_pur xo yo e hr hx hy

theorem iMin_ok {ts : Array TypeId} {t : TypeId} {k : AV → Res} (e : iMin x y k = r) (hr : r ≠ .fail) (hx : VR ρ x X) (hy : VR ρ y Y) : ∃ v, k v = r ∧ Pur P ρ (Builtin.min_ ts t #[X, Y]) v := by
  obtain ⟨c, a, b, rfl, rfl, h1⟩ := bin2_inv e hr
  obtain ⟨kd, rfl, rfl, rfl⟩ := int2 hx hy
  refine ⟨_, h1, .int kd (if b < a then b else a), ⟨kd, rfl, ?_⟩, fun w => rfl⟩
  rw [recB]; simp only [ltI_eq, decide_eq_true_eq]
theorem iMax_ok {ts : Array TypeId} {t : TypeId} {k : AV → Res} (e : iMax x y k = r) (hr : r ≠ .fail) (hx : VR ρ x X) (hy : VR ρ y Y) : ∃ v, k v = r ∧ Pur P ρ (Builtin.max_ ts t #[X, Y]) v := by
  obtain ⟨c, a, b, rfl, rfl, h1⟩ := bin2_inv e hr
  obtain ⟨kd, rfl, rfl, rfl⟩ := int2 hx hy
  refine ⟨_, h1, .int kd (if b > a then b else a), ⟨kd, rfl, ?_⟩, fun w => rfl⟩
  rw [recB]; simp only [ltI_eq, decide_eq_true_eq, gt_iff_lt]

set_option maxRecDepth 10000 in
theorem runeC_eq (n : Int) : runeC n = if Utf8.valid n then n.toNat else Utf8.runeError := by
  cases n with
  | ofNat m =>
    have e : runeC (Int.ofNat m) = Bool.rec (motive := fun _ => Nat) (Bool.rec (motive := fun _ => Nat) 65533 (Bool.rec (motive := fun _ => Nat) 65533 m (Nat.ble m 1114111)) (Nat.ble 57344 m)) m (Nat.blt m 55296) := rfl
    have a1 := blt_iff m 55296
    have a2 := ble_iff 57344 m
    have a3 := ble_iff m 1114111
    have hv : Utf8.valid (Int.ofNat m) = true ↔ (m < 55296 ∨ 57344 ≤ m ∧ m ≤ 1114111) := by
      have e2 : Int.ofNat m = (m : Int) := rfl
      rw [e2]
      simp only [Utf8.valid, Bool.or_eq_true, Bool.and_eq_true, decide_eq_true_eq]
      omega
    rw [e]
    generalize Nat.blt m 55296 = b1 at *
    generalize Nat.ble 57344 m = b2 at *
    generalize Nat.ble m 1114111 = b3 at *
    rw [recB, recB, recB]
    by_cases h1 : m < 55296
    · rw [if_pos (a1.2 h1), if_pos (hv.2 (.inl h1))]; rfl
    · rw [if_neg (fun h => h1 (a1.1 h))]
      by_cases h2 : 57344 ≤ m
      · rw [if_pos (a2.2 h2)]
        by_cases h3 : m ≤ 1114111
        · rw [if_pos (a3.2 h3), if_pos (hv.2 (.inr ⟨h2, h3⟩))]; rfl
        · rw [if_neg (fun h => h3 (a3.1 h)), if_neg (fun h => by rcases hv.1 h with h | h <;> omega)]; rfl
      · rw [if_neg (fun h => h2 (a2.1 h)), if_neg (fun h => by rcases hv.1 h with h | h <;> omega)]; rfl
  | negSucc m =>
    have e : runeC (Int.negSucc m) = 65533 := rfl
    rw [e, if_neg]
    · rfl
    · simp only [Utf8.valid, Bool.or_eq_true, Bool.and_eq_true, decide_eq_true_eq]; omega

theorem u8n (n : Nat) (h : n < 256) : (UInt8.ofNat n).toNat = n := by simp [UInt8.toNat_ofNat']; omega

theorem runeC_lt (n : Int) : runeC n ≤ 1114111 := by
  rw [runeC_eq]
  split
  · rename_i h
    simp only [Utf8.valid, Bool.or_eq_true, Bool.and_eq_true, decide_eq_true_eq] at h
    omega
  · decide

theorem iStr_ok {k : AV → Res} (e : iStr x k = r) (hr : r ≠ .fail) (hx : VR ρ x X) : ∃ kd n v, X = .int kd n ∧ k v = r ∧ VR ρ v (.string (Utf8.encode n)) := by
  obtain ⟨c, n, rfl, h1⟩ := cI_inv e hr
  obtain ⟨kd, -, rfl⟩ := hx
  refine ⟨kd, n, ?_⟩
  have hc := runeC_lt n
  have he : Utf8.encode n = (let c := runeC n; let b (n : Nat) : UInt8 := UInt8.ofNat n
    if c < 0x80 then ⟨#[b c]⟩
    else if c < 0x800 then ⟨#[b (0xC0 + c / 64), b (0x80 + c % 64)]⟩
    else if c < 0x10000 then ⟨#[b (0xE0 + c / 4096), b (0x80 + c / 64 % 64), b (0x80 + c % 64)]⟩
    else ⟨#[b (0xF0 + c / 262144), b (0x80 + c / 4096 % 64), b (0x80 + c / 64 % 64), b (0x80 + c % 64)]⟩) := by
    rw [runeC_eq]; rfl
  rw [he]
  generalize runeC n = c at *
  simp only at h1
  have pk : ∀ l : List UInt8, packB l = List.rec (motive := fun _ => Nat) 0 (fun b _ ih => Nat.add b.toNat (Nat.mul 256 ih)) l := fun l => rfl
  rcases ifB_inv h1 with ⟨q, h2⟩ | ⟨q, h2⟩
  · rw [blt_iff] at q
    refine ⟨_, rfl, h2, _, rfl, ?_⟩
    rw [if_pos q]
    exact ⟨by first | trivial | rfl, by rw [pk]; show (UInt8.ofNat c).toNat + 256 * 0 = c; rw [u8n _ (by omega)]; omega⟩
  · have q : ¬ c < 128 := fun h => by rw [(blt_iff _ _).2 h] at q; cases q
    rcases ifB_inv h2 with ⟨q2, h3⟩ | ⟨q2, h3⟩
    · rw [blt_iff] at q2
      refine ⟨_, rfl, h3, _, rfl, ?_⟩
      rw [if_neg q, if_pos q2]
      refine ⟨by first | trivial | rfl, ?_⟩
      rw [pk]
      show (UInt8.ofNat (0xC0 + c / 64)).toNat + 256 * ((UInt8.ofNat (0x80 + c % 64)).toNat + 256 * 0) = (192 + c / 64) + 256 * (128 + c % 64)
      rw [u8n _ (by omega), u8n _ (by omega)]; omega
    · have q2 : ¬ c < 2048 := fun h => by rw [(blt_iff _ _).2 h] at q2; cases q2
      rcases ifB_inv h3 with ⟨q3, h4⟩ | ⟨q3, h4⟩
      · rw [blt_iff] at q3
        refine ⟨_, rfl, h4, _, rfl, ?_⟩
        rw [if_neg q, if_neg q2, if_pos q3]
        refine ⟨by first | trivial | rfl, ?_⟩
        rw [pk]
        show (UInt8.ofNat (0xE0 + c / 4096)).toNat + 256 * ((UInt8.ofNat (0x80 + c / 64 % 64)).toNat + 256 * ((UInt8.ofNat (0x80 + c % 64)).toNat + 256 * 0)) = (224 + c / 4096) + 256 * ((128 + c / 64 % 64) + 256 * (128 + c % 64))
        rw [u8n _ (by omega), u8n _ (by omega), u8n _ (by omega)]; omega
      · have q3 : ¬ c < 65536 := fun h => by rw [(blt_iff _ _).2 h] at q3; cases q3
        refine ⟨_, rfl, h4, _, rfl, ?_⟩
        rw [if_neg q, if_neg q2, if_neg q3]
        refine ⟨by first | trivial | rfl, ?_⟩
        rw [pk]
        show (UInt8.ofNat (0xF0 + c / 262144)).toNat + 256 * ((UInt8.ofNat (0x80 + c / 4096 % 64)).toNat + 256 * ((UInt8.ofNat (0x80 + c / 64 % 64)).toNat + 256 * ((UInt8.ofNat (0x80 + c % 64)).toNat + 256 * 0))) = (240 + c / 262144) + 256 * ((128 + c / 4096 % 64) + 256 * ((128 + c / 64 % 64) + 256 * (128 + c % 64)))
        rw [u8n _ (by omega), u8n _ (by omega), u8n _ (by omega), u8n _ (by omega)]; omega

theorem conv2_ok {s d : TypeId} {k : AV → Hp → Res} (hi : Inv N0 ρ h w) (e : dConv2 P s d x h k = r) (hr : r ≠ .fail) (hx : VR ρ x X) : Does P N0 ρ h w (convert s d X) k r := by
  unfold dConv2 at e
  split at e
  · rename_i kk hs hd
    obtain ⟨kd, n, v, rfl, h1, h2⟩ := iStr_ok (k := fun v => k v h) e hr hx
    refine Does.here hi h1 h2 ?_
    unfold convert
    rw [Sem.run_bind, run_und hs]
    simp only [Result.andThen_ok]
    rw [Sem.run_bind, run_und hd]
    rfl
  · exact conv_ok hi e hr hx

theorem heap_alloc' (w : World) (o : Obj) : (w.alloc o).heap[w.heap.size]? = some o ∧ ∀ r, r < w.heap.size → (w.alloc o).heap[r]? = w.heap[r]? :=
  ⟨by rw [show (w.alloc o).heap = w.heap.push o from rfl]; simp, fun r hr => by rw [show (w.alloc o).heap = w.heap.push o from rfl, Array.getElem?_push, if_neg (by omega)]⟩

/-- An entry of the machine's more. -/
theorem ent_new {m : AV} {o : Obj} (hi : Inv N0 ρ h w) (hno : ∀ cs e fz, o ≠ .cells cs e fz) (hm : MR (ups ρ h.nb ⟨w.heap.size, 0, 0, 0⟩) ⟨w.heap.size, 0, 0, 0⟩ m o) :
    Inv N0 (ups ρ h.nb ⟨w.heap.size, 0, 0, 0⟩) ⟨Nat.succ h.nb, h.bs, h.gs, h.ms.set m h.nb⟩ (w.alloc o) ∧ Tr ρ h w (ups ρ h.nb ⟨w.heap.size, 0, 0, 0⟩) ⟨Nat.succ h.nb, h.bs, h.gs, h.ms.set m h.nb⟩ (w.alloc o) := by
  have hfree : ρ h.nb = none := hi.free _ (Nat.le_refl _)
  have hext := ups_ext ⟨w.heap.size, 0, 0, 0⟩ hfree
  obtain ⟨ha1, ha2⟩ := heap_alloc' w o
  have hsize : (w.alloc o).heap.size = w.heap.size + 1 := by show (w.heap.push _).size = _; simp
  have plc : ∀ b2 B2 p2, h.bs.get b2 = some B2 → ups ρ h.nb ⟨w.heap.size, 0, 0, 0⟩ b2 = some p2 → ρ b2 = some p2 := by
    intro b2 B2 p2 h2 hp2
    have := hi.nb b2 B2 h2
    rwa [ups_ne _ _ (by omega)] at hp2
  have hmget : ∀ b, (h.ms.set m h.nb).get b = if b = h.nb then some m else h.ms.get b := fun b => T.get_set _ _ _ _
  refine ⟨⟨?_, ?_, ?_, ?_, ?_, ?_, ?_, ?_, ⟨?_, ?_⟩, Base.st hi.jj fun r hr => ha2 r (by have := hi.wsz; omega)⟩, ⟨hext, Nat.le_succ _, ?_, fun r hr _ _ => ha2 r hr, ?_, ?_, by rw [hsize]; omega, rfl, rfl, rfl⟩⟩
  · intro b B hb
    obtain ⟨p, hp, hB⟩ := hi.blk b B hb
    exact ⟨p, hext _ _ hp, hB.later hext (ha2 _ hB.lt) (fun hrd => hrd)⟩
  · intro b B hb; exact Nat.lt_succ_of_lt (hi.nb b B hb)
  · intro b B hb hf
    have := hi.gnb b B hb hf
    exact ⟨Nat.lt_succ_of_lt this.1, this.2⟩
  · intro g q hq
    have := hi.gs g q hq
    exact ⟨Nat.lt_succ_of_lt this.1, Nat.lt_succ_of_lt this.2.1, this.2.2⟩
  · intro b1 b2 B1 B2 p1 p2 h1 h2 f1 f2 e1 e2 er
    exact hi.als b1 b2 B1 B2 p1 p2 h1 h2 f1 f2 (plc _ _ _ h1 e1) (plc _ _ _ h2 e2) er
  · intro b1 b2 B1 B2 p1 p2 h1 h2 f1 f2 e1 e2 eg r1 r2 hle
    exact hi.lim b1 b2 B1 B2 p1 p2 h1 h2 f1 f2 (plc _ _ _ h1 e1) (plc _ _ _ h2 e2) eg r1 r2 hle
  · intro i hle
    have hle : h.nb + 1 ≤ i := hle
    rw [ups_ne _ _ (by omega)]
    exact hi.free i (by omega)
  · rw [hsize]; have := hi.wsz; omega
  · intro b m2 hb
    have hb : (h.ms.set m h.nb).get b = some m2 := hb
    rw [hmget] at hb
    by_cases e0 : b = h.nb
    · rw [if_pos e0] at hb
      obtain rfl := Option.some.inj hb
      subst e0
      exact ⟨Nat.lt_succ_self _, _, o, ups_same _ _ _, hi.wsz, ha1, hm⟩
    · rw [if_neg e0] at hb
      obtain ⟨g1, p, o2, g2, g3, g4, g5⟩ := hi.mp.ent b m2 hb
      exact ⟨Nat.lt_succ_of_lt g1, p, o2, hext _ _ g2, g3, by rw [ha2 _ (Array.getElem?_eq_some_iff.1 g4).1]; exact g4, g5.ext hext⟩
  · intro b1 b2 m1 m2 p1 p2 h1 h2 e1 e2 er
    have h1 : (h.ms.set m h.nb).get b1 = some m1 := h1
    have h2 : (h.ms.set m h.nb).get b2 = some m2 := h2
    rw [hmget] at h1 h2
    have old : ∀ b m p, h.ms.get b = some m → b ≠ h.nb → ups ρ h.nb ⟨w.heap.size, 0, 0, 0⟩ b = some p → ρ b = some p ∧ p.r < w.heap.size := by
      intro b m p hb hne hp
      rw [ups_ne _ _ hne] at hp
      obtain ⟨-, q, o2, g2, -, g4, -⟩ := hi.mp.ent b m hb
      rw [hp] at g2
      obtain rfl := Option.some.inj g2
      exact ⟨hp, (Array.getElem?_eq_some_iff.1 g4).1⟩
    by_cases n1 : b1 = h.nb <;> by_cases n2 : b2 = h.nb
    · rw [n1, n2]
    · rw [if_neg n2] at h2
      subst n1
      rw [ups_same] at e1
      obtain rfl := (Option.some.inj e1).symm
      have := (old _ _ _ h2 n2 e2).2
      simp at er; omega
    · rw [if_neg n1] at h1
      subst n2
      rw [ups_same] at e2
      obtain rfl := (Option.some.inj e2).symm
      have := (old _ _ _ h1 n1 e1).2
      simp at er; omega
    · rw [if_neg n1] at h1
      rw [if_neg n2] at h2
      exact hi.mp.inj _ _ _ _ _ _ h1 h2 (old _ _ _ h1 n1 e1).1 (old _ _ _ h2 n2 e2).1 er
  · intro b p hp
    by_cases e0 : b = h.nb
    · subst e0; exact .inr ⟨hfree, Nat.le_refl _, Nat.lt_succ_self _⟩
    · rw [ups_ne _ _ e0] at hp; exact .inl hp
  · intro b B p hb hf hp
    exact .inr ⟨b, B, p, hb, hf, plc _ _ _ hb hp, rfl⟩
  · intro b m2 p hb hp
    have hb : (h.ms.set m h.nb).get b = some m2 := hb
    rw [hmget] at hb
    by_cases e0 : b = h.nb
    · subst e0
      rw [ups_same] at hp
      obtain rfl := (Option.some.inj hp).symm
      exact .inl (Nat.le_refl _)
    · rw [if_neg e0] at hb
      rw [ups_ne _ _ e0] at hp
      exact .inr ⟨b, m2, p, hb, hp, rfl⟩

theorem rng_ok {t : TypeId} {k : AV → Hp → Res} (hi : Inv N0 ρ h w) (hu : P.underlying t = some .string) (e : rng h x k = r) (hr : r ≠ .fail) (hx : VR ρ x X) : Does P N0 ρ h w (Instr.range t X) k r := by
  obtain ⟨n, a, rfl, h1⟩ := cS_inv e hr
  obtain ⟨s, rfl, rfl, rfl⟩ := hx
  obtain ⟨i1, i2⟩ := ent_new (m := itr s.data.size (packB s.data.toList) 0) (o := .stringIter s 0) hi (by simp) ⟨rfl, rfl⟩
  exact ⟨_, _, _, _, _, h1, run_range_string w t s hu, ⟨⟨_, ups_same _ _ _, rfl⟩, i1, i2⟩⟩

theorem byteAt_out (l : List UInt8) (i : Nat) (h : l.length ≤ i) : byteAt (packB l) i = 0 := by
  have hu : byteAt (packB l) i = (packB l >>> (8 * i)) % 256 := rfl
  have hlt := packB_lt l
  have h1 : packB l < 2 ^ (8 * i) := by
    refine Nat.lt_of_lt_of_le hlt ?_
    rw [Nat.pow_mul]
    exact Nat.pow_le_pow_right (by decide) h
  rw [hu, Nat.shiftRight_eq_div_pow, Nat.div_eq_of_lt h1]

theorem get_byte (s : ByteArray) (i : Nat) : (s.get! i).toNat = byteAt (packB s.data.toList) i := by
  by_cases h : i < s.data.size
  · rw [byteAt_eq _ _ (by simpa using h)]
    have : s.get! i = s.data[i]'h := by
      have e : s.get! i = s.data[i]! := rfl
      rw [e]; exact getElem!_pos s.data i h
    rw [this]; simp
  · rw [byteAt_out _ _ (by simpa using h)]
    have : s.get! i = 0 := by
      have e : s.get! i = s.data[i]! := rfl
      rw [e]; exact getElem!_neg s.data i h
    rw [this]; rfl

theorem decA_eq (s : ByteArray) (p : Nat) : decA s.data.size (packB s.data.toList) p = Utf8.decode s p := by
  unfold decA Utf8.decode
  simp only [get_byte, Utf8.runeError]
  have hs : s.size = s.data.size := rfl
  rw [hs]
  have hv : ∀ c : Nat, (Utf8.valid (c : Int)) = (decide (c < 0xD800) || (decide (0xE000 ≤ c) && decide (c ≤ 0x10FFFF))) := by
    intro c
    rw [Bool.eq_iff_iff]
    simp only [Utf8.valid, Bool.or_eq_true, Bool.and_eq_true, decide_eq_true_eq]
    omega
  simp only [hv]

theorem nxt_ok {t : TypeId} {k : AV → Hp → Res} (hi : Inv N0 ρ h w) (e : nxt h x k = r) (hr : r ≠ .fail) (hx : VR ρ x X) : Does P N0 ρ h w (Instr.next X true t) k r := by
  obtain ⟨b, o, rfl, h1⟩ := cP_inv e hr
  obtain ⟨h0, h1⟩ := ifF_inv h1 hr
  rw [beq_iff] at h0
  subst h0
  obtain ⟨p0, hp0, rfl⟩ := hx
  cases hg : h.ms.get b with
  | none => rw [hg] at h1; exact absurd h1.symm hr
  | some m =>
    rw [hg] at h1
    obtain ⟨l, rfl, h2⟩ := cT_inv h1 hr
    obtain ⟨-, p, ob, g1, gn, g2, g3⟩ := hi.mp.ent b _ hg
    obtain rfl : p = p0 := by rw [g1] at hp0; exact Option.some.inj hp0
    cases ob <;> first
      | exact g3.elim
      | skip
    · rename_i s pos
      obtain ⟨hb, hm⟩ := g3
      obtain rfl : l = .cons (.str s.data.size (packB s.data.toList)) (.cons (.int 63 (Int.ofNat pos)) .nil) := by cases hm; rfl
      have hba : p.base + 0 = 0 := by omega
      have hgo : (getObj p.r).run P w = .ok (.stringIter s pos) w := by simp [getObj, Sem.run, g2]
      have h2 : ifB (Nat.blt pos s.data.size) (k (.tup (.cons (.bool true) (.cons (.int 63 (Int.ofNat pos)) (.cons (.int 31 (Int.ofNat (decA s.data.size (packB s.data.toList) pos).1)) .nil)))) ⟨h.nb, h.bs, h.gs, h.ms.set (itr s.data.size (packB s.data.toList) (Nat.add pos (decA s.data.size (packB s.data.toList) pos).2)) b⟩)
        (k (.tup (.cons (.bool false) .nil)) h) = r := h2
      rw [decA_eq] at h2
      rcases ifB_inv h2 with ⟨q, h3⟩ | ⟨q, h3⟩
      · rw [blt_iff] at q
        have q : pos < s.size := q
        have hso : ∀ o', (setObj p.r o').run P w = .ok () { w with heap := w.heap.setIfInBounds p.r o' } := fun o' => by
          simp [setObj, Sem.run, g2]
        obtain ⟨i1, i2⟩ := set_inv (m' := itr s.data.size (packB s.data.toList) (Nat.add pos (Utf8.decode s pos).2)) (o' := .stringIter s (pos + (Utf8.decode s pos).2)) hi hg g1 g2 (by simp) gn ⟨hb, rfl⟩
        refine ⟨_, _, .tuple #[.bool true, goInt pos, .int .i32 (Utf8.decode s pos).1], _, _, h3, ?_, ⟨⟨_, rfl, _, _, rfl, rfl, _, _, rfl, ⟨.i64, rfl, rfl⟩, _, _, rfl, ⟨.i32, rfl, rfl⟩, rfl⟩, i1, i2⟩⟩
        simp only [Instr.next, hba, Sem.run_bind, hgo, Result.andThen_ok, if_pos q, hso]
        rfl
      · have q : ¬ pos < s.size := fun hq => by
          have hq : pos < s.data.size := hq
          rw [(blt_iff _ _).2 hq] at q; cases q
        refine Does.here hi h3 (V := .tuple #[.bool false]) ⟨_, rfl, _, _, rfl, rfl, rfl⟩ ?_
        simp only [Instr.next, hba, Sem.run_bind, hgo, Result.andThen_ok, if_neg q]
        rfl
end
end Go.AM
