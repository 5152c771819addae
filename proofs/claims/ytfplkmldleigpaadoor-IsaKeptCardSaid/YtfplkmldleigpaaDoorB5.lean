/- The walks of the reference's Ops. -/
import Derived.Test.YtfplkmldleigpaaDoorRows
import Derived.Test.YtfplkmldleigpaaDoorP5
import Derived.WalkLawsBesides
namespace Go.Proofs.YtfplkmldleigpaaDoor
open Go.RowKit
set_option linter.unusedVariables false

set_option maxRecDepth 100000 in
set_option maxHeartbeats 4000000 in
theorem refOps_any (w : World) : Calls Tryd.prog 29 #[] w fun e w' => e = .returned (.slice (some ⟨w.heap.size, 0, none⟩) 43 43) ∧ w' = w.alloc (.cells tabCells.toArray 46) := by
  go_enter Tryd.func29, Tryd.ntmps29
  go_wp2
  go_ret
  exact ⟨rfl, rfl⟩
end Go.Proofs.YtfplkmldleigpaaDoor
