/-
  The law of equal texts: runs at texts of some lengths, each evaluated once for all texts of that length.
-/
import Derived.Test.YtbkkfmjofmfijaaGreatDoorX0
import Derived.KernelRfl
set_option linter.unusedVariables false
set_option linter.unusedSimpArgs false
namespace Go.Proofs.YtbkkfmjofmfijaaGreatDoor
open Go Go.AM
set_option autoImplicit false
set_option maxRecDepth 100000
noncomputable section
theorem c14q (x : Nat) : isT (t6 (.str 14 x) (.bool true) (Ho (bitsL 697 61642374360975141856670592622992838973140985452307022652160630525861381422843460747852979967286322194630057312711026853641287103813678707443234667172362994393768758987217811078598644762587780003596443083505664) (.str 14 x))) = an ([kq x 117 115 false, kq x 117 117 true, kq x 117 115 false, kq x 115 115 true, kq x 117 117 true, kq x 117 115 false, kq x 115 115 true, kq x 117 117 true, kq x 117 115 false, kq x 115 115 true, kq x 117 117 true, kq x 117 115 false, kq x 115 115 true, kq x 117 117 true, kq x 117 115 false, kq x 115 115 true] ++ tails 14 x) := by kernel_rfl
theorem c14 {x : Nat} (hx : x < 256 ^ 14) (hb : ∀ i, i < 14 → 0 < byteAt x i ∧ byteAt x i < 128) : isT (t6 (.str 14 x) (.bool true) (Ho (bitsL 697 61642374360975141856670592622992838973140985452307022652160630525861381422843460747852979967286322194630057312711026853641287103813678707443234667172362994393768758987217811078598644762587780003596443083505664) (.str 14 x))) = true := by
  rw [c14q]
  exact an_and (an_c (key_q (by decide)) (an_c key_s (an_c (key_q (by decide)) (an_c key_s (an_c key_s (an_c (key_q (by decide)) (an_c key_s (an_c key_s (an_c (key_q (by decide)) (an_c key_s (an_c key_s (an_c (key_q (by decide)) (an_c key_s (an_c key_s (an_c (key_q (by decide)) (an_c key_s (rfl))))))))))))))))) (an_tails hx hb)

theorem c13q (x : Nat) : isT (t6 (.str 13 x) (.bool true) (Ho (bitsL 697 61642374360975141856670592622992838973140985452278904440944735548468815557170423361235044360296935215673177590382202868762090304624184703155085349315175988702309253392697759415751805389531476783716035809411072) (.str 13 x))) = an ([kq x 117 115 false, kq x 117 117 true, kq x 117 115 false, kq x 115 115 true, kc x 117 2057110458715878086990115235976053 false, kc x 115 2057110458715878086990115235976053 false, kq x 117 117 true, kq x 117 115 false, kq x 115 115 true, kq x 117 117 true, kq x 117 115 false, kq x 115 115 true, kc x 117 2057110458715878086990115235976053 false, kc x 115 2057110458715878086990115235976053 false, kq x 117 117 true, kq x 117 115 false, kq x 115 115 true, kq x 117 117 true, kq x 117 115 false, kq x 115 115 true, kc x 117 2057110458715878086990115235976053 false, kc x 115 2057110458715878086990115235976053 false] ++ tails 13 x) := by kernel_rfl
theorem c13 {x : Nat} (hx : x < 256 ^ 13) (hb : ∀ i, i < 13 → 0 < byteAt x i ∧ byteAt x i < 128) (h0 : x ≠ 8035587729358898777305137640531) : isT (t6 (.str 13 x) (.bool true) (Ho (bitsL 697 61642374360975141856670592622992838973140985452278904440944735548468815557170423361235044360296935215673177590382202868762090304624184703155085349315175988702309253392697759415751805389531476783716035809411072) (.str 13 x))) = true := by
  rw [c13q]
  exact an_and (an_c (key_q (by decide)) (an_c key_s (an_c (key_q (by decide)) (an_c key_s (an_c (key_c (.inr h0)) (an_c (key_c (.inl (by decide))) (an_c key_s (an_c (key_q (by decide)) (an_c key_s (an_c key_s (an_c (key_q (by decide)) (an_c key_s (an_c (key_c (.inr h0)) (an_c (key_c (.inl (by decide))) (an_c key_s (an_c (key_q (by decide)) (an_c key_s (an_c key_s (an_c (key_q (by decide)) (an_c key_s (an_c (key_c (.inr h0)) (an_c (key_c (.inl (by decide))) (rfl))))))))))))))))))))))) (an_tails hx hb)

theorem d10 : isT (t6 (.str 16 137483774941304901841256615957136564586) (.bool true) H0) = true := by kernel_rfl

theorem d11 : isT (t6 (.str 16 154706541852025644484233205990057992554) (.bool true) H0) = true := by kernel_rfl

theorem d12 : isT (t6 (.str 20 339137050467292191589805048747422779071890467112) (.bool true) H0) = true := by kernel_rfl

theorem c4q (x : Nat) : isT (t6 (.str 4 x) (.bool true) (Ho (bitsL 697 61642374360975141856670592622992838973140985450894082538561907911884946672773332070301715716069626502046851265687621613461647944541604991963731444848715958397928602862585215020544966266508543204605977560252416) (.str 4 x))) = an ([kq x 117 115 false, kq x 117 117 true, kq x 117 115 false, kq x 115 115 true, kc x 117 465726042229 false, kc x 115 465726042229 false, kc x 117 435476710261 false, kc x 115 435476710261 false, kq x 117 117 true, kq x 117 115 false, kq x 115 115 true, kq x 117 117 true, kq x 117 115 false, kq x 115 115 true, kc x 117 435475803509 false, kc x 115 435475803509 false, kc x 117 435476710261 false, kc x 115 435476710261 false, kq x 117 117 true, kq x 117 115 false, kq x 115 115 true, kq x 117 117 true, kq x 117 115 false, kq x 115 115 true, kc x 117 461228827253 false, kc x 115 461228827253 false, kc x 117 435476710261 false, kc x 115 435476710261 false] ++ tails 4 x) := by kernel_rfl
theorem c4 {x : Nat} (hx : x < 256 ^ 4) (hb : ∀ i, i < 4 → 0 < byteAt x i ∧ byteAt x i < 128) (h0 : x ≠ 1819242352) (h1 : x ≠ 1701080899) (h2 : x ≠ 1701077357) (h3 : x ≠ 1801675106) : isT (t6 (.str 4 x) (.bool true) (Ho (bitsL 697 61642374360975141856670592622992838973140985450894082538561907911884946672773332070301715716069626502046851265687621613461647944541604991963731444848715958397928602862585215020544966266508543204605977560252416) (.str 4 x))) = true := by
  rw [c4q]
  exact an_and (an_c (key_q (by decide)) (an_c key_s (an_c (key_q (by decide)) (an_c key_s (an_c (key_c (.inr h0)) (an_c (key_c (.inl (by decide))) (an_c (key_c (.inr h1)) (an_c (key_c (.inl (by decide))) (an_c key_s (an_c (key_q (by decide)) (an_c key_s (an_c key_s (an_c (key_q (by decide)) (an_c key_s (an_c (key_c (.inr h2)) (an_c (key_c (.inl (by decide))) (an_c (key_c (.inr h1)) (an_c (key_c (.inl (by decide))) (an_c key_s (an_c (key_q (by decide)) (an_c key_s (an_c key_s (an_c (key_q (by decide)) (an_c key_s (an_c (key_c (.inr h3)) (an_c (key_c (.inl (by decide))) (an_c (key_c (.inr h1)) (an_c (key_c (.inl (by decide))) (rfl))))))))))))))))))))))))))))) (an_tails hx hb)

end
end Go.Proofs.YtbkkfmjofmfijaaGreatDoor
