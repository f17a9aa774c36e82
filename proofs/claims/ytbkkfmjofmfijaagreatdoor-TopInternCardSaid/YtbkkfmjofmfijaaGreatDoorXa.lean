/-
  The law of equal texts: runs at texts of some lengths, each evaluated once for all texts of that length.
-/
import Derived.Test.YtbkkfmjofmfijaaGreatDoorX0
import Derived.KernelRfl
set_option linter.unusedVariables false
set_option linter.unusedSimpArgs false
namespace Go.Proofs.YtbkkfmjofmfijaaGreatDoor
open Go Go.AM
set_option autoImplicit false
set_option maxRecDepth 100000
noncomputable section
theorem c20q (x : Nat) : isT (t6 (.str 20 x) (.bool true) (Ho (bitsL 697 61642374360975141856670592622992838973140985452306802978635506346350502002017890143270027345356717608856956689880332916259418378820010785534733500626603720911804231599760623174982653829985777634691127401676800) (.str 20 x))) = an ([kd x 117 86819084919626801046990092479340231442403959580789 false, kd x 115 86819084919626801046990092479340231442403959580789 false, kq x 117 115 false, kd x 117 86819084919626801046990092479340231442403959580789 false, kq x 117 117 true, kd x 115 86819084919626801046990092479340231442403959580789 false, kq x 117 115 false, kq x 115 115 true, kd x 117 86819084919626801046990092479340231442403959580789 false, kq x 117 117 true, kd x 115 86819084919626801046990092479340231442403959580789 false, kq x 117 115 false, kq x 115 115 true, kd x 117 86819084919626801046990092479340231442403959580789 false, kq x 117 117 true, kd x 115 86819084919626801046990092479340231442403959580789 false, kq x 117 115 false, kq x 115 115 true, kd x 117 86819084919626801046990092479340231442403959580789 false, kq x 117 117 true, kd x 115 86819084919626801046990092479340231442403959580789 false, kq x 117 115 false, kq x 115 115 true, kd x 117 86819084919626801046990092479340231442403959580789 false, kq x 117 117 true, kd x 115 86819084919626801046990092479340231442403959580789 false, kq x 117 115 false, kq x 115 115 true] ++ tails 20 x) := by kernel_rfl
theorem c20 {x : Nat} (hx : x < 256 ^ 20) (hb : ∀ i, i < 20 → 0 < byteAt x i ∧ byteAt x i < 128) (h0 : x ≠ 339137050467292191589805048747422779071890467112) : isT (t6 (.str 20 x) (.bool true) (Ho (bitsL 697 61642374360975141856670592622992838973140985452306802978635506346350502002017890143270027345356717608856956689880332916259418378820010785534733500626603720911804231599760623174982653829985777634691127401676800) (.str 20 x))) = true := by
  rw [c20q]
  exact an_and (an_c (key_d (.inr h0)) (an_c (key_d (.inl (by decide))) (an_c (key_q (by decide)) (an_c (key_d (.inr h0)) (an_c key_s (an_c (key_d (.inl (by decide))) (an_c (key_q (by decide)) (an_c key_s (an_c (key_d (.inr h0)) (an_c key_s (an_c (key_d (.inl (by decide))) (an_c (key_q (by decide)) (an_c key_s (an_c (key_d (.inr h0)) (an_c key_s (an_c (key_d (.inl (by decide))) (an_c (key_q (by decide)) (an_c key_s (an_c (key_d (.inr h0)) (an_c key_s (an_c (key_d (.inl (by decide))) (an_c (key_q (by decide)) (an_c key_s (an_c (key_d (.inr h0)) (an_c key_s (an_c (key_d (.inl (by decide))) (an_c (key_q (by decide)) (an_c key_s (rfl))))))))))))))))))))))))))))) (an_tails hx hb)

theorem c19q (x : Nat) : isT (t6 (.str 19 x) (.bool true) (Ho (bitsL 697 61642374360975141856670592622992838973140985452307022652160630525861381422843460747852979967286322194630057312711026853641287103813678707443234667172362994393768758987217811078598644762587780003596443083505664) (.str 19 x))) = an ([kq x 117 115 false, kq x 117 117 true, kq x 117 115 false, kq x 115 115 true, kq x 117 117 true, kq x 117 115 false, kq x 115 115 true, kq x 117 117 true, kq x 117 115 false, kq x 115 115 true, kq x 117 117 true, kq x 117 115 false, kq x 115 115 true, kq x 117 117 true, kq x 117 115 false, kq x 115 115 true] ++ tails 19 x) := by kernel_rfl
theorem c19 {x : Nat} (hx : x < 256 ^ 19) (hb : ∀ i, i < 19 → 0 < byteAt x i ∧ byteAt x i < 128) : isT (t6 (.str 19 x) (.bool true) (Ho (bitsL 697 61642374360975141856670592622992838973140985452307022652160630525861381422843460747852979967286322194630057312711026853641287103813678707443234667172362994393768758987217811078598644762587780003596443083505664) (.str 19 x))) = true := by
  rw [c19q]
  exact an_and (an_c (key_q (by decide)) (an_c key_s (an_c (key_q (by decide)) (an_c key_s (an_c key_s (an_c (key_q (by decide)) (an_c key_s (an_c key_s (an_c (key_q (by decide)) (an_c key_s (an_c key_s (an_c (key_q (by decide)) (an_c key_s (an_c key_s (an_c (key_q (by decide)) (an_c key_s (rfl))))))))))))))))) (an_tails hx hb)

theorem d1 : isT (t6 (.str 1 77) (.bool true) H0) = true := by kernel_rfl

theorem d2 : isT (t6 (.str 3 4794664) (.bool true) H0) = true := by kernel_rfl

theorem d3 : isT (t6 (.str 4 1819242352) (.bool true) H0) = true := by kernel_rfl

theorem c1q (x : Nat) : isT (t6 (.str 1 x) (.bool true) (Ho (bitsL 697 61642374360975141856670592622992838973140985450507457134343351972737166019769068004305101119965555541389755083666291821372691955686062433001678324312394630140360400937934504656400924886984373931250377541451776) (.str 1 x))) = an ([kq x 117 115 false, kq x 117 117 true, kq x 117 115 false, kq x 115 115 true, kq x 117 117 true, kq x 117 115 false, kq x 115 115 true, kq x 117 117 true, kq x 117 115 false, kq x 115 115 true, kq x 117 117 true, kq x 117 115 false, kq x 115 115 true, kq x 117 117 true, kq x 117 115 false, kq x 115 115 true, kc x 117 19829 false, kc x 115 19829 false, kc x 117 19811 false, kc x 115 19811 false] ++ tails 1 x) := by kernel_rfl
theorem c1 {x : Nat} (hx : x < 256 ^ 1) (hb : ∀ i, i < 1 → 0 < byteAt x i ∧ byteAt x i < 128) (h0 : x ≠ 77) : isT (t6 (.str 1 x) (.bool true) (Ho (bitsL 697 61642374360975141856670592622992838973140985450507457134343351972737166019769068004305101119965555541389755083666291821372691955686062433001678324312394630140360400937934504656400924886984373931250377541451776) (.str 1 x))) = true := by
  rw [c1q]
  exact an_and (an_c (key_q (by decide)) (an_c key_s (an_c (key_q (by decide)) (an_c key_s (an_c key_s (an_c (key_q (by decide)) (an_c key_s (an_c key_s (an_c (key_q (by decide)) (an_c key_s (an_c key_s (an_c (key_q (by decide)) (an_c key_s (an_c key_s (an_c (key_q (by decide)) (an_c key_s (an_c (key_c (.inr h0)) (an_c (key_c (.inl (by decide))) (an_c (key_c (.inl (by decide))) (an_c (key_c (.inl (by decide))) (rfl))))))))))))))))))))) (an_tails hx hb)

end
end Go.Proofs.YtbkkfmjofmfijaaGreatDoor
