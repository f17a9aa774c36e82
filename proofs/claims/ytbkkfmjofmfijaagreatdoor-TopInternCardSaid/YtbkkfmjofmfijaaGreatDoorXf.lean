/-
  The law of equal texts: runs at texts of some lengths, each evaluated once for all texts of that length.
-/
import Derived.Test.YtbkkfmjofmfijaaGreatDoorX0
import Derived.KernelRfl
set_option linter.unusedVariables false
set_option linter.unusedSimpArgs false
namespace Go.Proofs.YtbkkfmjofmfijaaGreatDoor
open Go Go.AM
set_option autoImplicit false
set_option maxRecDepth 100000
noncomputable section
theorem c10q (x : Nat) : isT (t6 (.str 10 x) (.bool true) (Ho (bitsL 697 61642374360975141856670592622992838973140985452307022652160630525861381422843460747852979967286322194630057312711026853641287103813678707443234667172362994393768758987217811078598644762587780003596443083505664) (.str 10 x))) = an ([kq x 117 115 false, kq x 117 117 true, kq x 117 115 false, kq x 115 115 true, kq x 117 117 true, kq x 117 115 false, kq x 115 115 true, kq x 117 117 true, kq x 117 115 false, kq x 115 115 true, kq x 117 117 true, kq x 117 115 false, kq x 115 115 true, kq x 117 117 true, kq x 117 115 false, kq x 115 115 true] ++ tails 10 x) := by kernel_rfl
theorem c10 {x : Nat} (hx : x < 256 ^ 10) (hb : ∀ i, i < 10 → 0 < byteAt x i ∧ byteAt x i < 128) : isT (t6 (.str 10 x) (.bool true) (Ho (bitsL 697 61642374360975141856670592622992838973140985452307022652160630525861381422843460747852979967286322194630057312711026853641287103813678707443234667172362994393768758987217811078598644762587780003596443083505664) (.str 10 x))) = true := by
  rw [c10q]
  exact an_and (an_c (key_q (by decide)) (an_c key_s (an_c (key_q (by decide)) (an_c key_s (an_c key_s (an_c (key_q (by decide)) (an_c key_s (an_c key_s (an_c (key_q (by decide)) (an_c key_s (an_c key_s (an_c (key_q (by decide)) (an_c key_s (an_c key_s (an_c (key_q (by decide)) (an_c key_s (rfl))))))))))))))))) (an_tails hx hb)

theorem c9q (x : Nat) : isT (t6 (.str 9 x) (.bool true) (Ho (bitsL 697 61642374360975141856670592622992838973140985452307022652160630525861381422843460747852979967286322194630057312711026853641287103813678707443234667172362994393768758987217811078598644762587780003596443083505664) (.str 9 x))) = an ([kq x 117 115 false, kq x 117 117 true, kq x 117 115 false, kq x 115 115 true, kq x 117 117 true, kq x 117 115 false, kq x 115 115 true, kq x 117 117 true, kq x 117 115 false, kq x 115 115 true, kq x 117 117 true, kq x 117 115 false, kq x 115 115 true, kq x 117 117 true, kq x 117 115 false, kq x 115 115 true] ++ tails 9 x) := by kernel_rfl
theorem c9 {x : Nat} (hx : x < 256 ^ 9) (hb : ∀ i, i < 9 → 0 < byteAt x i ∧ byteAt x i < 128) : isT (t6 (.str 9 x) (.bool true) (Ho (bitsL 697 61642374360975141856670592622992838973140985452307022652160630525861381422843460747852979967286322194630057312711026853641287103813678707443234667172362994393768758987217811078598644762587780003596443083505664) (.str 9 x))) = true := by
  rw [c9q]
  exact an_and (an_c (key_q (by decide)) (an_c key_s (an_c (key_q (by decide)) (an_c key_s (an_c key_s (an_c (key_q (by decide)) (an_c key_s (an_c key_s (an_c (key_q (by decide)) (an_c key_s (an_c key_s (an_c (key_q (by decide)) (an_c key_s (an_c key_s (an_c (key_q (by decide)) (an_c key_s (rfl))))))))))))))))) (an_tails hx hb)

theorem c8q (x : Nat) : isT (t6 (.str 8 x) (.bool true) (Ho (bitsL 697 61642374360975141856670592622992838973140985452307022652160630525861381422843460747852979967286322194630057312711026853641287103813678707443234667172362994393768758987217811078598644762587780003596443083505664) (.str 8 x))) = an ([kq x 117 115 false, kq x 117 117 true, kq x 117 115 false, kq x 115 115 true, kq x 117 117 true, kq x 117 115 false, kq x 115 115 true, kq x 117 117 true, kq x 117 115 false, kq x 115 115 true, kq x 117 117 true, kq x 117 115 false, kq x 115 115 true, kq x 117 117 true, kq x 117 115 false, kq x 115 115 true] ++ tails 8 x) := by kernel_rfl
theorem c8 {x : Nat} (hx : x < 256 ^ 8) (hb : ∀ i, i < 8 → 0 < byteAt x i ∧ byteAt x i < 128) : isT (t6 (.str 8 x) (.bool true) (Ho (bitsL 697 61642374360975141856670592622992838973140985452307022652160630525861381422843460747852979967286322194630057312711026853641287103813678707443234667172362994393768758987217811078598644762587780003596443083505664) (.str 8 x))) = true := by
  rw [c8q]
  exact an_and (an_c (key_q (by decide)) (an_c key_s (an_c (key_q (by decide)) (an_c key_s (an_c key_s (an_c (key_q (by decide)) (an_c key_s (an_c key_s (an_c (key_q (by decide)) (an_c key_s (an_c key_s (an_c (key_q (by decide)) (an_c key_s (an_c key_s (an_c (key_q (by decide)) (an_c key_s (rfl))))))))))))))))) (an_tails hx hb)

theorem c7q (x : Nat) : isT (t6 (.str 7 x) (.bool true) (Ho (bitsL 697 61642374360975141856670592622992838973140985452307022652160630525861381422843460747852979967286322194630057312711026853641287103813678707443234667172362994393768758987217811078598644762587780003596443083505664) (.str 7 x))) = an ([kq x 117 115 false, kq x 117 117 true, kq x 117 115 false, kq x 115 115 true, kq x 117 117 true, kq x 117 115 false, kq x 115 115 true, kq x 117 117 true, kq x 117 115 false, kq x 115 115 true, kq x 117 117 true, kq x 117 115 false, kq x 115 115 true, kq x 117 117 true, kq x 117 115 false, kq x 115 115 true] ++ tails 7 x) := by kernel_rfl
theorem c7 {x : Nat} (hx : x < 256 ^ 7) (hb : ∀ i, i < 7 → 0 < byteAt x i ∧ byteAt x i < 128) : isT (t6 (.str 7 x) (.bool true) (Ho (bitsL 697 61642374360975141856670592622992838973140985452307022652160630525861381422843460747852979967286322194630057312711026853641287103813678707443234667172362994393768758987217811078598644762587780003596443083505664) (.str 7 x))) = true := by
  rw [c7q]
  exact an_and (an_c (key_q (by decide)) (an_c key_s (an_c (key_q (by decide)) (an_c key_s (an_c key_s (an_c (key_q (by decide)) (an_c key_s (an_c key_s (an_c (key_q (by decide)) (an_c key_s (an_c key_s (an_c (key_q (by decide)) (an_c key_s (an_c key_s (an_c (key_q (by decide)) (an_c key_s (rfl))))))))))))))))) (an_tails hx hb)

end
end Go.Proofs.YtbkkfmjofmfijaaGreatDoor
