/-
  The abstract machine, part 21: 'copy'; conversions.
-/
import Derived.Test.YtnpfppddongbhaaDoorAm20
namespace Go.AM
open Go
set_option autoImplicit false

section
variable {P : Program} {N0 : Base} {ρ : Rho} {h : Hp} {w : World} {x y : AV} {X Y : Value} {r : Res}

theorem lenV_inv {k : AV → Res} (e : lenV y k = r) (hr : r ≠ .fail) (hy : VR ρ y Y) : ∃ m : Nat, k (.int 63 m) = r ∧ (∀ w, (Builtin.lenOf Y).run P w = .ok m w) ∧ (y = .nils ∨ y = .esl → m = 0) := by
  cases y with
  | str n a => obtain ⟨s, rfl, rfl, rfl⟩ := hy; exact ⟨_, e, fun w => rfl, fun h => by rcases h with h | h <;> cases h⟩
  | nils => have hy : Y = .slice none 0 0 := hy; subst hy; exact ⟨_, e, fun w => rfl, fun _ => rfl⟩
  | sl b o n z c => obtain ⟨p, c', hp, rfl, -⟩ := hy; exact ⟨_, e, fun w => rfl, fun h => by rcases h with h | h <;> cases h⟩
  | esl => obtain ⟨a, c', rfl⟩ := hy; exact ⟨_, e, fun w => rfl, fun _ => rfl⟩
  | _ => exact absurd e.symm hr

/-- The first elements of what is copied. -/
theorem cutN_ok (w : World) {z n m : Nat} {k : AV → Res} (e : cutN z n y k = r) (hr : r ≠ .fail) (hy : VR ρ y Y) (hlen : ∀ w, (Builtin.lenOf Y).run P w = .ok m w) (hn : n ≤ m) :
    ∃ y' Y', k y' = r ∧ VR ρ y' Y' ∧ (∀ w, (Builtin.lenOf Y').run P w = .ok n w) ∧ ∀ w, (Builtin.firstCells z n Y').run P w = (Builtin.firstCells z n Y).run P w := by
  cases y with
  | str nn a =>
    obtain ⟨s, rfl, rfl, rfl⟩ := hy
    have hm := hlen w
    simp only [Builtin.lenOf, Sem.run_pure, Result.ok.injEq, and_true] at hm
    have hns : n ≤ s.size := by omega
    have hsz : s.data.size = s.size := rfl
    have hd : (s.extract 0 n).data.toList = s.data.toList.take n := by
      rw [ByteArray.data_extract, Array.toList_extract]; simp [List.extract]
    have hsize : (s.extract 0 n).size = n := by
      show (s.extract 0 n).data.size = n
      rw [← Array.length_toList, hd, List.length_take, Array.length_toList, hsz]; omega
    refine ⟨_, .string (s.extract 0 n), e, ⟨_, rfl, hsize, ?_⟩, fun w => by simp [Builtin.lenOf, hsize], fun w => ?_⟩
    · rw [hd, packB_take _ _ (by rw [Array.length_toList, hsz]; omega)]; rfl
    · simp only [Builtin.firstCells]
      have : (s.extract 0 n).extract 0 n = s.extract 0 n := by
        apply ByteArray.ext
        rw [ByteArray.data_extract, ByteArray.data_extract]; simp
      rw [this]
  | nils =>
    have hy : Y = .slice none 0 0 := hy
    subst hy
    have hm := hlen w
    simp only [Builtin.lenOf, Sem.run_pure, Result.ok.injEq, and_true] at hm
    obtain rfl : n = 0 := by omega
    exact ⟨_, _, e, rfl, fun w => rfl, fun w => rfl⟩
  | esl =>
    obtain ⟨a, c', rfl⟩ := hy
    have hm := hlen w
    simp only [Builtin.lenOf, Sem.run_pure, Result.ok.injEq, and_true] at hm
    obtain rfl : n = 0 := by omega
    exact ⟨_, _, e, ⟨a, c', rfl⟩, fun w => rfl, fun w => rfl⟩
  | sl b o nn z' c =>
    obtain ⟨h1, h2⟩ := ifF_inv e hr
    rw [beq_iff] at h1
    subst h1
    obtain ⟨p, c', hp, rfl, hnc, hcc, hfit⟩ := hy
    have hm := hlen w
    simp only [Builtin.lenOf, Sem.run_pure, Result.ok.injEq, and_true] at hm
    exact ⟨_, .slice (some ⟨p.r, p.base + o, none⟩) n c', h2, ⟨p, c', hp, rfl, by omega, hcc, hfit⟩, fun w => rfl, fun w => rfl⟩
  | _ => exact absurd e.symm hr

theorem copy_run {t u ty e : TypeId} {base : Option Addr} {dLen dCap m n : Nat} {news : List Value} {w' : World} (ht : P.underlying t = some (.slice e)) (hok : okT P e = true)
    (hlen : ∀ w', (Builtin.lenOf Y).run P w' = .ok m w') (hn : n = min m dLen) (hnew : (Builtin.firstCells (szOf P e) n Y).run P w = .ok news.toArray w)
    (hst : (∃ a, base = some a ∧ (storeCells a news).run P w = .ok () w') ∨ (base = none ∧ w' = w)) :
    (Builtin.copy_ #[t, u] ty #[.slice base dLen dCap, Y]).run P w = .ok (.int .i64 n) w' := by
  obtain ⟨i, hi⟩ := okT_info hok
  rw [szOf_info hi] at hnew
  have hn' : Nat.min m dLen = n := hn.symm
  rcases hst with ⟨a, rfl, hst⟩ | ⟨rfl, rfl⟩
  · simp [Builtin.copy_, run_underlying ht, sizeOf, typeInfo, hi, hlen, hn', hnew, hst, goInt]
  · simp [Builtin.copy_, run_underlying ht, sizeOf, typeInfo, hi, hlen, hn', hnew, goInt]

theorem cpy_ok {t u ty e : TypeId} {k : AV → Hp → Res} (hi : Inv N0 ρ h w) (ht : P.underlying t = some (.slice e)) (hok : okT P e = true) (ek : cpy h (szOf P e) x y k = r) (hr : r ≠ .fail) (hx : VR ρ x X) (hy : VR ρ y Y) :
    Does P N0 ρ h w (Builtin.copy_ #[t, u] ty #[X, Y]) k r := by
  have none0 : ∀ base c' m, (∀ w, (Builtin.lenOf Y).run P w = .ok m w) → (y = .nils ∨ y = .esl → m = 0) → (base = none ∨ ∃ a, base = some a) → k (.int 63 (Int.ofNat 0)) h = r → X = .slice base 0 c' → Does P N0 ρ h w (Builtin.copy_ #[t, u] ty #[X, Y]) k r := by
    intro base c' m hm hm0 hb hk hX
    subst hX
    refine Does.here hi hk (V := .int .i64 ((0 : Nat) : Int)) ⟨.i64, rfl, rfl⟩ ?_
    refine copy_run (m := m) (n := 0) (news := []) ht hok hm (by omega) ?_ ?_
    · have hl := hm w
      revert hl
      unfold Builtin.lenOf
      cases Y with
      | string s => intro _; simp [Builtin.firstCells]
      | slice b n c => intro _; cases b <;> simp [Builtin.firstCells, loadCells, loadCellsFrom]
      | _ => intro h; simp [stuck] at h
    · rcases hb with rfl | ⟨a, rfl⟩
      · exact .inr ⟨rfl, rfl⟩
      · exact .inl ⟨a, rfl, rfl⟩
  cases x with
  | nils =>
    have hx : X = .slice none 0 0 := hx
    have ek : lenV y (fun _ => k (.int 63 (Int.ofNat 0)) h) = r := ek
    obtain ⟨m, h1, h2, h3⟩ := lenV_inv (P := P) ek hr hy
    exact none0 none 0 m h2 h3 (.inl rfl) h1 hx
  | esl =>
    obtain ⟨a, c', hx⟩ := hx
    have ek : lenV y (fun _ => k (.int 63 (Int.ofNat 0)) h) = r := ek
    obtain ⟨m, h1, h2, h3⟩ := lenV_inv (P := P) ek hr hy
    exact none0 (some a) c' m h2 h3 (.inr ⟨a, rfl⟩) h1 hx
  | sl b o n z' c =>
    obtain ⟨h1, h2⟩ := ifF_inv ek hr
    rw [beq_iff] at h1
    subst h1
    obtain ⟨m, h3, h4, -⟩ := lenV_inv (P := P) h2 hr hy
    obtain ⟨cc, mm, hcc, h5⟩ := cI_inv h3 hr
    obtain ⟨rfl, rfl⟩ : 63 = cc ∧ (m : Int) = mm := by cases hcc; exact ⟨rfl, rfl⟩
    have h6 := h5
    change cutN _ _ _ _ = r at h6
    have hmin : Bool.rec (motive := fun _ => Nat) n m (Nat.ble m n) = min m n := by
      rw [recB]; simp only [ble_iff]; split <;> omega
    rw [hmin] at h6
    obtain ⟨y', Y', h7, h8, h9, h10⟩ := cutN_ok (P := P) w h6 hr hy h4 (Nat.min_le_left m n)
    obtain ⟨i, l, news, h11, hS, h12⟩ := src_ok (P := P) hi h7 hr h8
    obtain rfl : min m n = i := by have a := h9 w; have b := h12 w; rw [a] at b; simpa using b
    obtain ⟨p, c', hp, rfl, hnc, -, hfit⟩ := hx
    have hf := hS.run w rfl
    rw [h10 w] at hf
    have hnl := hS.length
    rcases ifB_inv h11 with ⟨h13, h14⟩ | ⟨h13, h14⟩
    · rw [beq_iff] at h13
      refine Does.here hi h14 (V := .int .i64 ((0 : Nat) : Int)) ⟨.i64, rfl, rfl⟩ ?_
      rw [h13] at hf hnl
      have hn0 : news = [] := List.eq_nil_of_length_eq_zero (by omega)
      subst hn0
      exact copy_run (w' := w) ht hok h4 h13.symm hf (.inl ⟨_, rfl, rfl⟩)
    · obtain ⟨B, gs, hb, hff, hn, hgs, h15⟩ := wb_inv h14 hr
      obtain ⟨h16, h17⟩ := ifF_inv h15 hr
      rw [ble_iff] at h16
      have h16 : o + min m n * szOf P e ≤ B.lim := h16
      obtain ⟨t', h18, h19, h20⟩ := lay_inv l _ _ h17 hr
      obtain ⟨h21, h22⟩ := ifF_inv h18 hr
      have hll := LR_len l _ hS.rel
      obtain ⟨w', s1, i1, i2⟩ := storeN_ok (P := P) (o := o) (n := min m n * szOf P e) hi hb hff hp hn hgs hS.rel (by omega) h16 h19 (h20 ρ _ hS.rel)
      exact ⟨_, _, _, _, ρ, h22, copy_run ht hok h4 rfl hf (.inl ⟨_, rfl, s1⟩), ⟨.i64, rfl, rfl⟩, i1, i2⟩
  | _ => exact absurd ek.symm hr

theorem conv_ok {s d : TypeId} {k : AV → Hp → Res} (hi : Inv N0 ρ h w) (e : dConv P s d x h k = r) (hr : r ≠ .fail) (hx : VR ρ x X) : Does P N0 ρ h w (convert s d X) k r := by
  unfold dConv at e
  split at e
  · rename_i k1 c hs hd
    obtain ⟨c1, a, rfl, h1⟩ := cI_inv e hr
    obtain ⟨k2, rfl, rfl⟩ := hx
    refine Does.here hi h1 (V := .int c (c.wrap a)) ⟨c, rfl, by rw [wrapC_eq]⟩ ?_
    unfold convert
    rw [Sem.run_bind, run_und hs]
    simp only [Result.andThen_ok]
    rw [Sem.run_bind, run_und hd]
    rfl
  · rename_i hs hd
    obtain ⟨n, a, rfl, h1⟩ := cS_inv e hr
    obtain ⟨st, rfl, rfl, rfl⟩ := hx
    refine Does.here hi h1 (V := .string st) ⟨st, rfl, rfl, rfl⟩ ?_
    unfold convert
    rw [Sem.run_bind, run_und hs]
    simp only [Result.andThen_ok]
    rw [Sem.run_bind, run_und hd]
    rfl
  · rename_i u hs hd
    split at e
    · rename_i hu
      exact Does.read hi (b2s_ok hi hs hd hu e hr hx)
    · exact absurd e.symm hr
  · rename_i u hs hd
    split at e
    · rename_i hu
      exact s2b_ok hi hs hd hu e hr hx
    · exact absurd e.symm hr
  · exact absurd e.symm hr
end
end Go.AM
