/-
  The law of equal texts: runs at texts of some lengths, each evaluated once for all texts of that length.
-/
import Derived.Test.YtbkkfmjofmfijaaGreatDoorX0
import Derived.KernelRfl
set_option linter.unusedVariables false
set_option linter.unusedSimpArgs false
namespace Go.Proofs.YtbkkfmjofmfijaaGreatDoor
open Go Go.AM
set_option autoImplicit false
set_option maxRecDepth 100000
noncomputable section
theorem c18q (x : Nat) : isT (t6 (.str 18 x) (.bool true) (Ho (bitsL 697 61642374360975141856670592622992838973140985452307022652160630525861381422843460747852979967286322194630057312711026853641287103813678707443234667172362994393768758987217811078598644762587780003596443083505664) (.str 18 x))) = an ([kq x 117 115 false, kq x 117 117 true, kq x 117 115 false, kq x 115 115 true, kq x 117 117 true, kq x 117 115 false, kq x 115 115 true, kq x 117 117 true, kq x 117 115 false, kq x 115 115 true, kq x 117 117 true, kq x 117 115 false, kq x 115 115 true, kq x 117 117 true, kq x 117 115 false, kq x 115 115 true] ++ tails 18 x) := by kernel_rfl
theorem c18 {x : Nat} (hx : x < 256 ^ 18) (hb : ∀ i, i < 18 → 0 < byteAt x i ∧ byteAt x i < 128) : isT (t6 (.str 18 x) (.bool true) (Ho (bitsL 697 61642374360975141856670592622992838973140985452307022652160630525861381422843460747852979967286322194630057312711026853641287103813678707443234667172362994393768758987217811078598644762587780003596443083505664) (.str 18 x))) = true := by
  rw [c18q]
  exact an_and (an_c (key_q (by decide)) (an_c key_s (an_c (key_q (by decide)) (an_c key_s (an_c key_s (an_c (key_q (by decide)) (an_c key_s (an_c key_s (an_c (key_q (by decide)) (an_c key_s (an_c key_s (an_c (key_q (by decide)) (an_c key_s (an_c key_s (an_c (key_q (by decide)) (an_c key_s (rfl))))))))))))))))) (an_tails hx hb)

theorem c17q (x : Nat) : isT (t6 (.str 17 x) (.bool true) (Ho (bitsL 697 61642374360975141856670592622992838973140985452307022652160630525861381422843460747852979967286322194630057312711026853641287103813678707443234667172362994393768758987217811078598644762587780003596443083505664) (.str 17 x))) = an ([kq x 117 115 false, kq x 117 117 true, kq x 117 115 false, kq x 115 115 true, kq x 117 117 true, kq x 117 115 false, kq x 115 115 true, kq x 117 117 true, kq x 117 115 false, kq x 115 115 true, kq x 117 117 true, kq x 117 115 false, kq x 115 115 true, kq x 117 117 true, kq x 117 115 false, kq x 115 115 true] ++ tails 17 x) := by kernel_rfl
theorem c17 {x : Nat} (hx : x < 256 ^ 17) (hb : ∀ i, i < 17 → 0 < byteAt x i ∧ byteAt x i < 128) : isT (t6 (.str 17 x) (.bool true) (Ho (bitsL 697 61642374360975141856670592622992838973140985452307022652160630525861381422843460747852979967286322194630057312711026853641287103813678707443234667172362994393768758987217811078598644762587780003596443083505664) (.str 17 x))) = true := by
  rw [c17q]
  exact an_and (an_c (key_q (by decide)) (an_c key_s (an_c (key_q (by decide)) (an_c key_s (an_c key_s (an_c (key_q (by decide)) (an_c key_s (an_c key_s (an_c (key_q (by decide)) (an_c key_s (an_c key_s (an_c (key_q (by decide)) (an_c key_s (an_c key_s (an_c (key_q (by decide)) (an_c key_s (rfl))))))))))))))))) (an_tails hx hb)

theorem d4 : isT (t6 (.str 4 1701080899) (.bool true) H0) = true := by kernel_rfl

theorem d5 : isT (t6 (.str 4 1701077357) (.bool true) H0) = true := by kernel_rfl

theorem d6 : isT (t6 (.str 4 1801675106) (.bool true) H0) = true := by kernel_rfl

theorem c2q (x : Nat) : isT (t6 (.str 2 x) (.bool true) (Ho (bitsL 697 61642374360975141856670592622992838973140985452307022652160630525861381422843460747852979967286322194630057312711026853641287103813678707443234667172362994393768758987217811078598644762587780003596443083505664) (.str 2 x))) = an ([kq x 117 115 false, kq x 117 117 true, kq x 117 115 false, kq x 115 115 true, kq x 117 117 true, kq x 117 115 false, kq x 115 115 true, kq x 117 117 true, kq x 117 115 false, kq x 115 115 true, kq x 117 117 true, kq x 117 115 false, kq x 115 115 true, kq x 117 117 true, kq x 117 115 false, kq x 115 115 true] ++ tails 2 x) := by kernel_rfl
theorem c2 {x : Nat} (hx : x < 256 ^ 2) (hb : ∀ i, i < 2 → 0 < byteAt x i ∧ byteAt x i < 128) : isT (t6 (.str 2 x) (.bool true) (Ho (bitsL 697 61642374360975141856670592622992838973140985452307022652160630525861381422843460747852979967286322194630057312711026853641287103813678707443234667172362994393768758987217811078598644762587780003596443083505664) (.str 2 x))) = true := by
  rw [c2q]
  exact an_and (an_c (key_q (by decide)) (an_c key_s (an_c (key_q (by decide)) (an_c key_s (an_c key_s (an_c (key_q (by decide)) (an_c key_s (an_c key_s (an_c (key_q (by decide)) (an_c key_s (an_c key_s (an_c (key_q (by decide)) (an_c key_s (an_c key_s (an_c (key_q (by decide)) (an_c key_s (rfl))))))))))))))))) (an_tails hx hb)

end
end Go.Proofs.YtbkkfmjofmfijaaGreatDoor
