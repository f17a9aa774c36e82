/-
  The abstract machine, part 6: binary operations as a whole; texts; addresses, aggregates and slices where memory is left alone.
-/
import Derived.Test.YtnpfppddongbhaaDoorAm5
namespace Go.AM
open Go
set_option autoImplicit false

section
variable {P : Program} {ρ : Rho} {x y : AV} {X Y : Value} {k : AV → Res} {r : Res}

theorem eqG_other {op : BinOp} (h : op ≠ .eql ∧ op ≠ .neq) (t : TypeId) (xo yo : Operand) (w : World) : (eqGuard op t xo yo X Y).run P w = .ok () w := by
  unfold eqGuard
  cases op <;> first | rfl | exact absurd rfl h.1 | exact absurd rfl h.2

theorem pur_guard {op : BinOp} {t : TypeId} {xo yo : Operand} {v : AV} (hg : ∀ w, (eqGuard op t xo yo X Y).run P w = .ok () w) (h : Pur P ρ (binOp op t X Y) v) :
    Pur P ρ (do eqGuard op t xo yo X Y; binOp op t X Y) v := by
  obtain ⟨V, hv, hw⟩ := h
  exact ⟨V, hv, fun w => by rw [Sem.run_bind, hg w]; exact hw w⟩

theorem sCat_pur (t : TypeId) (h : sCat x y k = r) (hr : r ≠ .fail) (hx : VR ρ x X) (hy : VR ρ y Y) : ∃ v, k v = r ∧ Pur P ρ (binOp .add t X Y) v := by
  obtain ⟨n, a, rfl, h1⟩ := cS_inv h hr
  obtain ⟨m, b, rfl, h2⟩ := cS_inv h1 hr
  obtain ⟨hle, h3⟩ := ifF_inv h2 hr
  rw [ble_iff] at hle
  obtain ⟨s, rfl, rfl, rfl⟩ := hx
  obtain ⟨s', rfl, rfl, rfl⟩ := hy
  refine ⟨_, h3, .string (s ++ s'), ⟨s ++ s', rfl, ?_, ?_⟩, fun w => ?_⟩
  · rw [ByteArray.data_append]; simp
  · rw [ByteArray.data_append, Array.toList_append, packB_append]
    show _ = packB s.data.toList + packB s'.data.toList <<< (8 * s.data.size)
    rw [Nat.shiftLeft_eq]; simp
  · rw [binOp_string_add]
    have hn : ¬ (((s.size + s'.size : Nat) : Int) > IntKind.i64.max) := by
      have : s.size = s.data.size := rfl
      have : s'.size = s'.data.size := rfl
      have e : IntKind.i64.max = 9223372036854775807 := rfl
      have hle' : s.data.size + s'.data.size ≤ 9223372036854775807 := hle
      rw [e]; omega
    unfold Op.stringOp
    simp only [if_neg hn]
    rfl

theorem bytesLess_swap : ∀ l m : List UInt8, Op.bytesLess m l = !(Op.bytesLess l m || l == m) := by
  intro l
  induction l with
  | nil => intro m; cases m <;> rfl
  | cons a l ih =>
    intro m
    cases m with
    | nil => rfl
    | cons b m =>
      have e : (a :: l == b :: m) = (a == b && l == m) := rfl
      rw [e]
      simp only [Op.bytesLess, ih m]
      rcases Nat.lt_trichotomy a.toNat b.toNat with h | h | h
      · have h1 : a < b := UInt8.lt_iff_toNat_lt.2 h
        have h2 : ¬ b < a := fun h' => by have := UInt8.lt_iff_toNat_lt.1 h'; omega
        have h3 : ¬ a = b := fun h' => by rw [h'] at h; omega
        have h4 : ¬ b = a := fun h' => h3 h'.symm
        simp [h1, h2, h4]
      · have h1 : a = b := UInt8.toNat_inj.1 h
        subst h1
        have h2 : ¬ a < a := fun h' => by have := UInt8.lt_iff_toNat_lt.1 h'; omega
        simp [h2]
      · have h1 : b < a := UInt8.lt_iff_toNat_lt.2 h
        have h2 : ¬ a < b := fun h' => by have := UInt8.lt_iff_toNat_lt.1 h'; omega
        have h3 : ¬ a = b := fun h' => by rw [h'] at h; omega
        simp [h1, h2, h3]

theorem dBin_pur {op : BinOp} {t : TypeId} (xo yo : Operand) (h : dBin P op t x y k = r) (hr : r ≠ .fail) (hx : VR ρ x X) (hy : VR ρ y Y) :
    ∃ v, k v = r ∧ Pur P ρ (do eqGuard op t xo yo X Y; binOp op t X Y) v := by
  have arith : ∀ o : BinOp, o ≠ .eql ∧ o ≠ .neq → (∃ v, k v = r ∧ Pur P ρ (binOp o t X Y) v) → ∃ v, k v = r ∧ Pur P ρ (do eqGuard o t xo yo X Y; binOp o t X Y) v :=
    fun o ho ⟨v, hv, hp⟩ => ⟨v, hv, pur_guard (fun w => eqG_other ho t xo yo w) hp⟩
  cases op with
  | add =>
    refine arith _ (by simp) ?_
    simp only [dBin] at h
    split at h
    · exact iAdd_pur t h hr hx hy
    · exact sCat_pur t h hr hx hy
    · exact absurd h.symm hr
  | sub => exact arith _ (by simp) (iSub_pur t h hr hx hy)
  | mul => exact arith _ (by simp) (iMul_pur t h hr hx hy)
  | quo => exact arith _ (by simp) (iQuo_pur t h hr hx hy)
  | rem => exact arith _ (by simp) (iRem_pur t h hr hx hy)
  | and => exact arith _ (by simp) (iAnd_pur t h hr hx hy)
  | or => exact arith _ (by simp) (iOr_pur t h hr hx hy)
  | xor => exact arith _ (by simp) (iXor_pur t h hr hx hy)
  | shl => exact arith _ (by simp) (iShl_pur t h hr hx hy)
  | shr => exact arith _ (by simp) (iShr_pur t h hr hx hy)
  | andNot => exact arith _ (by simp) (iAndNot_pur t h hr hx hy)
  | eql =>
    obtain ⟨b, hb, he⟩ := eqAt_inv h hr hx hy
    exact ⟨_, hb, pur_guard (fun w => eqG_run _ t xo yo w he.agg he.nili) ⟨.bool b, rfl, he.eql⟩⟩
  | neq =>
    obtain ⟨b, hb, he⟩ := eqAt_inv h hr hx hy
    exact ⟨_, hb, pur_guard (fun w => eqG_run _ t xo yo w he.agg he.nili) ⟨.bool (!b), (by rw [bnot_eq]; rfl), he.neq⟩⟩
  | lss =>
    refine arith _ (by simp) ?_
    rcases ltAt_inv h hr hx hy with ⟨c, a, b, kd, -, rfl, rfl, hb⟩ | ⟨s, s', rfl, rfl, hb⟩
    · exact ⟨_, hb, pur_of rfl (by rw [binOp_lss])⟩
    · exact ⟨_, hb, pur_of rfl (by rw [binOp_string_lss])⟩
  | gtr =>
    refine arith _ (by simp) ?_
    rcases ltAt_inv h hr hy hx with ⟨c, a, b, kd, -, rfl, rfl, hb⟩ | ⟨s, s', rfl, rfl, hb⟩
    · exact ⟨_, hb, pur_of rfl (by rw [binOp_gtr])⟩
    · exact ⟨_, hb, pur_of rfl (by rw [binOp_string_gtr, bytesLess_swap s'.toList s.toList])⟩
  | leq =>
    refine arith _ (by simp) ?_
    rcases ltAt_inv h hr hy hx with ⟨c, a, b, kd, -, rfl, rfl, hb⟩ | ⟨s, s', rfl, rfl, hb⟩
    · exact ⟨_, hb, pur_of rfl (by rw [binOp_leq, bnot_eq]; congr 2; rw [Bool.eq_iff_iff]; simp)⟩
    · exact ⟨_, hb, pur_of rfl (by rw [binOp_string_leq, bnot_eq, bytesLess_swap s'.toList s.toList, Bool.not_not])⟩
  | geq =>
    refine arith _ (by simp) ?_
    rcases ltAt_inv h hr hx hy with ⟨c, a, b, kd, -, rfl, rfl, hb⟩ | ⟨s, s', rfl, rfl, hb⟩
    · exact ⟨_, hb, pur_of rfl (by rw [binOp_geq, bnot_eq]; congr 2; rw [Bool.eq_iff_iff]; simp)⟩
    · exact ⟨_, hb, pur_of rfl (by rw [binOp_string_geq, bnot_eq])⟩

theorem sIdx_pur {t : TypeId} (hu : P.underlying t = some .string) (h : sIdx x y k = r) (hr : r ≠ .fail) (hx : VR ρ x X) (hy : VR ρ y Y) : ∃ v, k v = r ∧ Pur P ρ (Instr.index t X Y) v := by
  obtain ⟨n, a, rfl, h1⟩ := cS_inv h hr
  obtain ⟨c, j, rfl, h2⟩ := cI_inv h1 hr
  obtain ⟨m, rfl, h3⟩ := natC_inv h2 hr
  obtain ⟨hlt, h4⟩ := ifF_inv h3 hr
  rw [blt_iff] at hlt
  obtain ⟨s, rfl, rfl, rfl⟩ := hx
  obtain ⟨kd, rfl, rfl⟩ := hy
  have hlt' : m < s.size := hlt
  refine ⟨_, h4, .int .u8 (s[m]'hlt').toNat, ⟨.u8, rfl, ?_⟩, fun w => ?_⟩
  · rw [byteAt_eq _ _ (by simpa using hlt)]
    rfl
  · rw [run_index_string w t s kd m hu, dif_pos ⟨by omega, by omega⟩]
    rfl
end
end Go.AM
