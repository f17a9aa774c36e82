/-
  Some cases of the law TopCatchOrder.
-/
import Derived.Test.YtmoojalmefnmnaaGreatDoorFg
import Derived.KernelRfl
set_option linter.unusedVariables false
set_option linter.unusedSimpArgs false
namespace Go.Proofs.YtmoojalmefnmnaaGreatDoor.LTopCatchOrder
open Go Go.AM
noncomputable def pv (r : Res) (i : Nat) : AV := Res.rec (motive := fun _ => AV) .unk (fun _ _ => .unk) (fun _ _ _ => .unk) (fun v _ => nth v i) r
noncomputable def hO (r : Res) : Hp := Res.rec (motive := fun _ => Hp) H0 (fun _ _ => H0) (fun _ _ _ => H0) (fun _ h => h) r
noncomputable def qb3R1 (s9 s10 s11 s12 s13 s14 s15 s16 s17 s18 s19 s20 s21 s22 : Fun) : Fun := fun a b => uc a fun a c => uc c fun c d => uz d (cl (s9 [] b) fun b d => bNot b fun e => cB e fun e => ifB e (.fail) (bld [(false, 1, (.str 29 2977327179366744475310567174670984700336777289692309623825572795146602)), (false, 1, (.str 15 594182256714433171583859471190221162)), (false, 1, (.str 30 762195757917886585679527096405151622096281774544538073876077408773628266)), (false, 1, (.str 19 2261816869159440624969593107871851903301607786))] fun e => mkS d 1 4 e fun d e => .ret (.cons c (.cons d (.cons b .nil))) e))
noncomputable def qb3R0 (s11 s12 s10 s13 s15 s14 s9 s16 s17 s18 s19 s20 s21 s22 : Fun) (a : AV) (b : AV) (c : AV) (d : AV) (e : Hp) : Res := cl (s11 [] e) fun e f => cl (s12 [e, .nils] f) fun f g => bld [(false, 1, (.str 26 177462528906270532328520934635542489792491443287338843928682858)), (false, 1, (.str 29 2977327179366744475310567174670984700336777289692309623825572795146602)), (false, 1, (.str 15 594182256714433171583859471190221162)), (false, 1, (.str 19 2261816869159440624969593107871851903301607786))] fun h => mkS g 1 4 h fun g h => .ret (.cons f (.cons b (.cons d (.cons e (.cons c (.cons g .nil)))))) h
noncomputable def P_0 (a0 a1 : Int) : Res := qb3R1 s9 s10 s11 s12 s13 s14 s15 s16 s17 s18 s19 s20 s21 s22 [(.int 63 a0), (.int 63 a1)] H0
noncomputable def D_0 (a0 a1 : Int) (r0 : Nat) : Res := b3R1 s11 s12 s10 s13 s15 s14 s9 s16 s17 s18 s19 s20 s21 s22 (.int 63 a1) (pv (P_0 a0 a1) 1) (.bool true) (I r0) (hO (P_0 a0 a1))
noncomputable def P_1 (a0 a1 : Int) (r0 : Nat) : Res := qb3R0 s11 s12 s10 s13 s15 s14 s9 s16 s17 s18 s19 s20 s21 s22 (.int 63 a1) (pv (P_0 a0 a1) 1) (.bool true) (I r0) (hO (P_0 a0 a1))
noncomputable def D_1 (a0 a1 : Int) (r0 r1 : Nat) : Res := b3R0 s13 s15 s14 s9 s10 s11 s12 s16 s17 s18 s19 s20 s21 s22 (pv (P_1 a0 a1 r0) 0) (pv (P_1 a0 a1 r0) 1) (I r0) (pv (P_1 a0 a1 r0) 3) (.bool true) (pv (P_1 a0 a1 r0) 5) (I r1) (hO (P_1 a0 a1 r0))
end Go.Proofs.YtmoojalmefnmnaaGreatDoor.LTopCatchOrder
