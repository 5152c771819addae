/- The walk of a text's conversion. Conditions: none. -/
import Derived.Test.YthcjnkakfpmpbaaDoorE1d
import Derived.Test.YthcjnkakfpmpbaaDoorP9
import Derived.Test.YthcjnkakfpmpbaaDoorP3
namespace Go.Proofs.YthcjnkakfpmpbaaDoor
open Go.RowKit
set_option linter.unusedVariables false
set_option linter.unusedSimpArgs false

theorem str_lit {w : World} {A : Option Addr} {n c : Nat} {l : List UInt8} (hs : Sl w w.heap.size 1 A n (bs l)) (hA : A = none → n = 0) : ∀ (W : World), W = w → (convert 22 9 (.slice A n c)).run Tryd.prog W = .ok (.string ⟨l.toArray⟩) W := by
  rintro W rfl
  exact run_str _ _ 5 Tryd.underlying22 Tryd.underlying5 Tryd.underlying9 hs hA
end Go.Proofs.YthcjnkakfpmpbaaDoor
