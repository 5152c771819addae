/- The walk of the laws' Within. -/
import Derived.Test.YthcjnkakfpmpbaaDoorRows
import Derived.Test.YthcjnkakfpmpbaaDoorM2
namespace Go.Proofs.YthcjnkakfpmpbaaDoor
open Go.RowKit
set_option linter.unusedVariables false

theorem within_val (n m : Int) (h0 : -9223372036854775808 ≤ n) (h1 : n ≤ 9223372036854775807) (hm0 : 0 ≤ m) (hm : m < 1000) :
    ∃ r : Int, 0 ≤ r ∧ r ≤ m ∧ ∀ w, Calls Tryd.prog 21 #[.int .i64 n, .int .i64 0, .int .i64 m] w fun e w' => e = .returned (.int .i64 r) ∧ w = w' := by
  have hq1 : n.tmod (m + 1) < m + 1 := Int.tmod_lt_of_pos _ (by omega)
  have hq0 : -(m + 1) < n.tmod (m + 1) := by have := Int.lt_tmod_of_pos n (show 0 < m + 1 by omega); omega
  have hne : (m + 1 == 0) = false := by simp; omega
  have hne' : (m + 1 = 0) = False := by simp; omega
  by_cases h : n.tmod (m + 1) < 0
  · refine ⟨n.tmod (m + 1) + m + 1, by omega, by omega, fun w => ?_⟩
    go_enter Tryd.func21, Tryd.ntmps21
    go_wp2
    go_ret
    exact ⟨rfl, rfl⟩
  · refine ⟨n.tmod (m + 1), by omega, by omega, fun w => ?_⟩
    go_enter Tryd.func21, Tryd.ntmps21
    go_wp2
    go_ret
    exact ⟨rfl, rfl⟩
end Go.Proofs.YthcjnkakfpmpbaaDoor
