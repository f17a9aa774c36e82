/-
  The law TopVerify in parts.
-/
import Derived.Test.YtdjgkjjgcbgniaaGreatDoorFg
import Derived.KernelRfl
set_option linter.unusedVariables false
set_option linter.unusedSimpArgs false
namespace Go.Proofs.YtdjgkjjgcbgniaaGreatDoor.LTopVerify
open Go Go.AM
set_option maxRecDepth 100000
noncomputable def isN (r : Res) : Bool := Res.rec (motive := fun _ => Bool) false (fun vs _ => List.rec (motive := fun _ => Bool) false (fun v t _ => List.rec (motive := fun _ => Bool) (AV.rec (motive := fun _ => Bool) (false) (fun b => b) (fun _ _ => false) (fun _ _ => false) (false) (fun _ _ => false) (false) (fun _ _ _ _ _ => false) (false) (false) (fun _ _ _ => false) (false) (fun _ _ _ _ _ => false) (false) (fun _ => false) (fun _ _ => false) (fun _ _ => false) (false) (fun _ _ _ _ => false) v) (fun _ _ _ => false) t) vs) (fun _ _ _ => false) (fun _ _ => false) r
noncomputable def hN (r : Res) : Hp := Res.rec (motive := fun _ => Hp) H0 (fun _ h => h) (fun _ _ _ => H0) (fun _ _ => H0) r
theorem norm_of {r : Res} (h : isN r = true) : r = .norm [.bool true] (hN r) := by
  cases r with
  | norm vs h' =>
    cases vs with
    | nil => exact nomatch (show false = true from h)
    | cons v t =>
      cases t with
      | cons a b => exact nomatch (show false = true from h)
      | nil =>
        cases v with
        | bool b => obtain rfl : b = true := h; rfl
        | _ => exact nomatch (show false = true from h)
  | _ => exact nomatch (show false = true from h)
noncomputable def pre5 (s9 s10 s11 s12 s13 : Fun) (b : Hp) : Res := cl (s9 [] b) fun a b => bld [(false, 1, (J 1)), (false, 1, (J 172))] fun c => mkS b 1 2 c fun b c => bld [(false, 1, (J 3)), (false, 1, (J 176))] fun d => mkS c 1 2 d fun c d => bld [(false, 1, (J 3))] fun e => mkS d 1 1 e fun d e => bld [(false, 1, (J 172))] fun f => mkS e 1 1 f fun e f => bld [(false, 1, (J 3)), (false, 1, (J 3)), (false, 1, (J 3)), (false, 1, (J 3)), (false, 1, (J 172))] fun g => mkS f 1 5 g fun f g => bld [(false, 1, (J 26)), (false, 1, (J 172))] fun h => mkS g 1 2 h fun g h => bld [(false, 1, (J 3)), (false, 1, (J 59)), (false, 1, (J 30)), (false, 1, (J 136)), (false, 1, (J 172))] fun i => mkS h 1 5 i fun h i => bld [(false, 1, (J 9)), (false, 1, (J 87)), (false, 1, (J 3)), (false, 1, (J 172))] fun j => mkS i 1 4 j fun i j => bld [(false, 1, (J 9)), (false, 1, (J 10)), (false, 1, (J 91)), (false, 1, (J 88)), (false, 1, (J 88)), (false, 1, (J 88)), (false, 1, (J 3)), (false, 1, (J 172))] fun k => mkS j 1 8 k fun j k => bld [(false, 1, (J 3)), (false, 1, (J 153)), (false, 1, (J 0)), (false, 1, (J 3)), (false, 1, (J 3)), (false, 1, (J 172))] fun l => mkS k 1 6 l fun k l => bld [(false, 1, (J 167)), (false, 1, (J 0)), (false, 1, (J 3)), (false, 1, (J 3)), (false, 1, (J 172))] fun m => mkS l 1 5 m fun l m => bld [(false, 1, (J 3)), (false, 1, (J 190)), (false, 1, (J 172))] fun n => mkS m 1 3 n fun m n => bld [(false, 1, (J 3)), (false, 1, (J 191))] fun o => mkS n 1 2 o fun n o => bld [(false, 1, (J 1)), (false, 1, (J 3)), (false, 1, (J 83)), (false, 1, (J 3)), (false, 1, (J 172))] fun p => mkS o 1 5 p fun o p => bld [(false, 1, (J 177))] fun q => mkS p 1 1 q fun p q => bld [(false, 1, (J 3)), (false, 1, (J 173))] fun r => mkS q 1 2 r fun q r => bld [(false, 1, (J 9)), (false, 1, (J 59)), (false, 1, (J 3)), (false, 1, (J 172))] fun s => mkS r 1 4 s fun r s => bld [(false, 1, b), (false, 1, c), (false, 1, d), (false, 1, e), (false, 1, f), (false, 1, g), (false, 1, h), (false, 1, i), (false, 1, j), (false, 1, k), (false, 1, l), (false, 1, m), (false, 1, n), (false, 1, o), (false, 1, p), (false, 1, q), (false, 1, r)] fun b => mkS s 1 17 b fun b c => blk 0 (lp (L5n0 s9 s10 s11 s12 s13) most [a, b, (I 0)] c) fun a b => uc a fun a _ => .norm [a] b
noncomputable def suf5 (s9 s10 s11 s12 s13 : Fun) (a : AV) (b : Hp) : Res := bld [(false, 1, (J 3)), (false, 1, (J 172))] fun c => mkS b 1 2 c fun b c => bld [(false, 1, (J 1)), (false, 1, (J 190)), (false, 1, (J 172))] fun d => mkS c 1 3 d fun c d => bld [(false, 1, (J 1)), (false, 1, (J 191))] fun e => mkS d 1 2 e fun d e => bld [(false, 1, (J 3)), (false, 1, (J 59)), (false, 1, (J 26)), (false, 1, (J 172))] fun f => mkS e 1 4 f fun e f => bld [(false, 1, (J 9)), (false, 1, (J 63)), (false, 1, (J 30)), (false, 1, (J 136)), (false, 1, (J 172))] fun g => mkS f 1 5 g fun f g => bld [(false, 1, (J 9)), (false, 1, (J 88)), (false, 1, (J 3)), (false, 1, (J 172))] fun h => mkS g 1 4 h fun g h => bld [(false, 1, (J 3)), (false, 1, (J 3)), (false, 1, (J 95)), (false, 1, (J 96)), (false, 1, (J 172))] fun i => mkS h 1 5 i fun h i => bld [(false, 1, (J 1)), (false, 1, (J 3)), (false, 1, (J 50)), (false, 1, (J 87)), (false, 1, (J 3)), (false, 1, (J 172))] fun j => mkS i 1 6 j fun i j => bld [(false, 1, (J 1)), (false, 1, (J 87)), (false, 1, (J 4)), (false, 1, (J 172))] fun k => mkS j 1 4 k fun j k => bld [(false, 1, b), (false, 1, c), (false, 1, d), (false, 1, e), (false, 1, f), (false, 1, g), (false, 1, h), (false, 1, i), (false, 1, j)] fun b => mkS k 1 9 b fun b c => blk 2 (lp (L5n1 s9 s10 s11 s12 s13) most [a, b, (I 0)] c) fun a b => uc a fun a _ => cK a fun a => .ret a b
end Go.Proofs.YtdjgkjjgcbgniaaGreatDoor.LTopVerify
