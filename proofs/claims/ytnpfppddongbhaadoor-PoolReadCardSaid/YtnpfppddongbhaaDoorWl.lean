/-
  The world in which the library's two tables hold what they hold: a start for the witness of each row; and where internal/bytealg.MaxLen lies.
-/
import Derived.Test.YtnpfppddongbhaaDoorCards
import Derived.Test.YtnpfppddongbhaaDoorTie
import Derived.Test.YtnpfppddongbhaaDoorEd
import Derived.WalkKit
import Derived.ProofKit
import Derived.OpenShut
import Derived.Deep.DeepHandedRow
import Derived.Deep.DeepLaidRun
import Derived.Shelf.Vars
set_option linter.unusedVariables false
set_option linter.unusedSimpArgs false
namespace Go.Proofs.YtnpfppddongbhaaDoor
open Go.ChangeShapes Go.WideShapes Go.ChangeAt Go.RowKit Go.AM
set_option maxRecDepth 100000

theorem own : ownKnob Tryd.prog.godebug = none := by kernel_rfl
noncomputable def ranges : Array Value := #[.int .u8 128, .int .u8 191, .int .u8 160, .int .u8 191, .int .u8 128, .int .u8 159, .int .u8 144, .int .u8 191, .int .u8 128, .int .u8 143] ++ Array.replicate 22 (.int .u8 0)
noncomputable def firsts : Array Value := (Go.Pinned.utf8FirstZ.map fun (n : Nat) => Value.int .u8 (n : Int)).toArray
def row (cs : Array Value) : Obj → Obj
  | .cells _ t frozen => .cells cs t frozen
  | o => o
noncomputable def laidWorld (os : Os) (args : Array Value) : World :=
  { World.holding Tryd.prog os ⟨#[], args, []⟩ with heap := ((World.holding Tryd.prog os ⟨#[], args, []⟩).heap.modify 2 (row ranges)).modify 1 (row firsts) }
theorem maxLen_at : Tryd.prog.globalNamed "internal/bytealg.MaxLen" = some 0 := by kernel_rfl
theorem maxLen_J {W : World} (h : W.ShapedOpen Tryd.prog) : (b0 W (Tryd.prog.globalNamed "internal/bytealg.MaxLen")).J W := by
  intro g hg
  have hg : Tryd.prog.globalNamed "internal/bytealg.MaxLen" = some g := hg
  rw [maxLen_at] at hg
  obtain rfl := Option.some.inj hg
  obtain ⟨m, hm⟩ := Go.Proofs.cell_of_shapedOpen_int (t := 3) (zero := #[.int .i64 0]) (k := .i64) h (show 0 < Tryd.prog.globals.size from of_decide_eq_true (by kernel_rfl)) (by kernel_rfl) rfl (by kernel_rfl) (by kernel_rfl) Tryd.underlying3
  refine ⟨?_, m, hm⟩
  unfold World.cell? at hm
  show 0 < W.heap.size
  cases hr : W.heap[0]? with
  | none => simp [hr] at hm
  | some o => exact (Array.getElem?_eq_some_iff.1 hr).1
theorem laid_met (os : Os) : laidMet Tryd.prog Rows.poolWitnessRow.laid ((laidWorld os #[]).forCall (fun _ _ => 0) ⟨#[], #[], []⟩).memory :=
  laidMet_of_run3 12 (by kernel_rfl) (by kernel_rfl) (by kernel_rfl)
end Go.Proofs.YtnpfppddongbhaaDoor
