/- The walk of octet's legal. No condition. -/
import Derived.Test.YtfplkmldleigpaaDoorRows
import Derived.Test.YtfplkmldleigpaaDoorP1
import Derived.Outline
import Derived.Lib.Hide
namespace Go.Proofs.YtfplkmldleigpaaDoor
open Go.RowKit
set_option linter.unusedVariables false

theorem legal_any (width : Int) (w : World) :
    Calls Tryd.prog 55 #[.int .i64 width] w fun e w' => e = .returned (.bool (legalB width)) ∧ w = w' := by
  by_cases h1 : width = 1
  · subst h1
    go_enter Tryd.func55, Tryd.ntmps55
    go_wp2
    go_ret
    exact ⟨rfl, rfl⟩
  · have e1 : (width == 1) = false := by simpa using h1
    by_cases h2 : width = 2
    · subst h2
      go_enter Tryd.func55, Tryd.ntmps55
      go_wp2
      go_ret
      exact ⟨rfl, rfl⟩
    · have e2 : (width == 2) = false := by simpa using h2
      have e3 : legalB width = (width == 4) := by simp [legalB, e1, e2]
      rw [e3]
      clear e3
      go_enter Tryd.func55, Tryd.ntmps55
      go_wp2
      go_ret
      exact ⟨rfl, rfl⟩
end Go.Proofs.YtfplkmldleigpaaDoor
