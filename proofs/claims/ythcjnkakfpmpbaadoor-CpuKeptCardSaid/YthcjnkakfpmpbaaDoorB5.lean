/- The walks of the reference's Ops. -/
import Derived.Test.YthcjnkakfpmpbaaDoorRows
import Derived.Test.YthcjnkakfpmpbaaDoorP5
import Derived.WalkLawsBesides
namespace Go.Proofs.YthcjnkakfpmpbaaDoor
open Go.RowKit
set_option linter.unusedVariables false

set_option maxRecDepth 100000 in
set_option maxHeartbeats 4000000 in
theorem refOps_any (w : World) : Calls Tryd.prog 67 #[] w fun e w' => e = .returned (.slice (some ⟨w.heap.size, 0, none⟩) 43 43) ∧ w' = w.alloc (.cells tabCells.toArray 125) := by
  go_enter Tryd.func67, Tryd.ntmps67
  go_wp2
  go_ret
  exact ⟨rfl, rfl⟩
end Go.Proofs.YthcjnkakfpmpbaaDoor
