/- The walks of isa's registers, number, Check, Len. -/
import Derived.Test.YtfplkmldleigpaaDoorB1
namespace Go.Proofs.YtfplkmldleigpaaDoor
open Go.RowKit
set_option linter.unusedVariables false

set_option maxHeartbeats 4000000 in
theorem registers_any (op a b n f s : Int) (w : World) (hs : 1 ≤ s ∧ s ≤ 13) :
    Calls Tryd.prog 45 #[.agg #[.int .i64 op, .int .i64 a, .int .i64 b, .int .i32 n, .int .i64 f], .int .i64 s] w fun e w' => e = .returned (.bool (regB s a b n)) ∧ Below w.heap.size w w' := by
  rcases thirteen hs with rfl | rfl | rfl | rfl | rfl | rfl | rfl | rfl | rfl | rfl | rfl | rfl | rfl
  all_goals
    clear hs
    go_enter Tryd.func45, Tryd.ntmps45
    go_wp2_with (go_at_call 54; refine (below_any _ _ _).mono ?_; rintro e w' ⟨rfl, rfl⟩)
    all_goals
      go_ret
      exact ⟨ret_bool (by rw [Bool.eq_iff_iff]; simp [regB, limA, limB, okLim] at *; omega), (Below.refl _ _).alloc (Nat.le_refl _) _⟩

set_option maxHeartbeats 4000000 in
theorem number_any (op a b n f s : Int) (w : World) (hs : 1 ≤ s ∧ s ≤ 13) (hn : -2147483648 ≤ n ∧ n ≤ 2147483647) :
    Calls Tryd.prog 46 #[.agg #[.int .i64 op, .int .i64 a, .int .i64 b, .int .i32 n, .int .i64 f], .int .i64 s] w fun e w' => e = .returned (.bool (numB s n f)) ∧ Below w.heap.size w w' := by
  have h0 := hn.1
  have h1 := hn.2
  clear hn
  rcases thirteen hs with rfl | rfl | rfl | rfl | rfl | rfl | rfl | rfl | rfl | rfl | rfl | rfl | rfl
  all_goals
    clear hs
    go_enter Tryd.func46, Tryd.ntmps46
    go_wp2_with (go_at_call 21; refine (reaches_any _ _ _ h0 h1).mono ?_; rintro e w' ⟨rfl, rfl⟩)
    all_goals
      go_ret
      exact ⟨ret_bool (by first | rfl | (rw [Bool.eq_iff_iff]; simp [numB] at *; done) | (rw [Bool.eq_iff_iff]; simp [numB] at *; omega)), (Below.refl _ _).alloc (Nat.le_refl _) _⟩

end Go.Proofs.YtfplkmldleigpaaDoor
