/- The walks of the reference's registers and Check. -/
import Derived.Test.YtfplkmldleigpaaDoorB7
namespace Go.Proofs.YtfplkmldleigpaaDoor
open Go.RowKit
set_option linter.unusedVariables false

theorem refFits5_any (n width : Int) (w : World) (h0 : -2147483648 ≤ n) (h1 : n ≤ 2147483647) :
    Calls Tryd.prog 22 #[.int .i32 n, .int .i64 width] w fun e w' => e = .returned (.bool (fitsB n width)) ∧ w = w' := by
  rcases width_cases width with rfl | rfl | rfl | h
  · by_cases a : -128 ≤ n
    · by_cases b : n ≤ 127
      all_goals
        go_enter Tryd.func22, Tryd.ntmps22
        go_wp2
        go_ret
        exact ⟨ret_bool (by simp [fitsB]; omega), rfl⟩
    · go_enter Tryd.func22, Tryd.ntmps22
      go_wp2
      go_ret
      exact ⟨ret_bool (by simp [fitsB]; omega), rfl⟩
  · by_cases a : -32768 ≤ n
    · by_cases b : n ≤ 32767
      all_goals
        go_enter Tryd.func22, Tryd.ntmps22
        go_wp2
        go_ret
        exact ⟨ret_bool (by simp [fitsB]; omega), rfl⟩
    · go_enter Tryd.func22, Tryd.ntmps22
      go_wp2
      go_ret
      exact ⟨ret_bool (by simp [fitsB]; omega), rfl⟩
  · go_enter Tryd.func22, Tryd.ntmps22
    go_wp2
    go_ret
    exact ⟨rfl, rfl⟩
  · rw [fitsB_not h]
    obtain ⟨a, b, c⟩ := h
    have e1 : (width == 1) = false := by simpa using a
    have e2 : (width == 2) = false := by simpa using b
    have e3 : (width == 4) = false := by simpa using c
    clear a b c
    go_enter Tryd.func22, Tryd.ntmps22
    go_wp2
    go_ret
    exact ⟨rfl, rfl⟩

set_option maxHeartbeats 4000000 in
theorem refRegisters_fin (op a b n f s : Int) (w : World) (hs : 1 ≤ s ∧ s ≤ 13)
    (H : Hid (∀ w, Calls Tryd.prog 18 #[.int .i64 op] w fun e w' => e = .returned (.int .i64 s) ∧ Below w.heap.size w w')) :
    Calls Tryd.prog 44 #[.agg #[.int .i64 op, .int .i64 a, .int .i64 b, .int .i32 n, .int .i64 f]] w fun e w' => e = .returned (.bool (regB s a b n)) ∧ Below w.heap.size w w' := by
  rcases thirteen hs with rfl | rfl | rfl | rfl | rfl | rfl | rfl | rfl | rfl | rfl | rfl | rfl | rfl
  all_goals
    clear hs
    go_enter Tryd.func44, Tryd.ntmps44
    go_wp2_with (go_at_call 18; refine (H.out _).mono ?_; rintro e w1 ⟨rfl, hb1⟩; obtain ⟨hc1, hf1⟩ := bcell hb1; have hz1 : w.heap.size < w1.heap.size := (by have := hb1.size; simp at this; omega))
    all_goals
      go_ret
      exact ⟨ret_bool (by rw [Bool.eq_iff_iff]; simp [regB, limA, limB, okLim] at *; omega), ((Below.refl w.heap.size w).alloc (Nat.le_refl _) _).trans (hb1.mono (by simp))⟩
theorem refRegisters_any (op a b n f : Int) (w : World) (hop : isOp op = true) :
    Calls Tryd.prog 44 #[.agg #[.int .i64 op, .int .i64 a, .int .i64 b, .int .i32 n, .int .i64 f]] w fun e w' => e = .returned (.bool (regB (opShape op) a b n)) ∧ Below w.heap.size w w' :=
  refRegisters_fin op a b n f _ w ((shape_bounds op).1 hop) (Lib.hid fun w => refShape_any op w)
end Go.Proofs.YtfplkmldleigpaaDoor
