/- The walk of isa's Len. -/
import Derived.Test.YtfplkmldleigpaaDoorB3
namespace Go.Proofs.YtfplkmldleigpaaDoor
open Go.RowKit
set_option linter.unusedVariables false

theorem checkR_op {op a b n f : Int} (h : checkR op a b n f = 0) : isOp op = true := by
  unfold checkR at h
  split at h
  · cases h
  · rename_i h1
    simpa using h1

set_option maxHeartbeats 4000000 in
theorem len_fin (op a b n f s v1 : Int) (v0 : Array UInt8) (w : World) (hT : TabIs 0 w) (hs : 1 ≤ s ∧ s ≤ 13) (hf : 0 ≤ f ∧ f ≤ 4)
    (Hch : Hid (∀ w, TabIs 0 w → Calls Tryd.prog 26 #[.agg #[.int .i64 op, .int .i64 a, .int .i64 b, .int .i32 n, .int .i64 f]] w fun e w' => e = .returned (.int .i64 0) ∧ Below w.heap.size w w'))
    (Hat : Hid (∀ w, TabIs 0 w → Calls Tryd.prog 16 #[.int .i64 op] w fun e w' => e = .returned (.tuple #[.agg #[.string ⟨v0⟩, .int .u8 v1, .int .i64 s], .bool true]) ∧ Below w.heap.size w w')) :
    Calls Tryd.prog 27 #[.agg #[.int .i64 op, .int .i64 a, .int .i64 b, .int .i32 n, .int .i64 f]] w fun e w' => e = .returned (.int .i64 (sizeR s f)) ∧ Below w.heap.size w w' := by
  have f0 := hf.1
  have f1 := hf.2
  clear hf
  rcases thirteen hs with rfl | rfl | rfl | rfl | rfl | rfl | rfl | rfl | rfl | rfl | rfl | rfl | rfl
  all_goals
    clear hs
    go_enter Tryd.func27, Tryd.ntmps27
    go_wp2_with (first
      | (go_at_call 26; refine (Hch.out _ (hT.alloc _)).mono ?_; rintro e w1 ⟨rfl, hb1⟩; obtain ⟨hc1, hf1⟩ := bcell hb1; have hz1 : w.heap.size < w1.heap.size := (by have := hb1.size; simp at this; omega))
      | (go_at_call 16; refine (Hat.out _ ((hT.alloc _).grow hb1)).mono ?_; rintro e w2 ⟨rfl, hb2⟩; obtain ⟨hc2, hf2⟩ := bcell hb2; have hz2 : w.heap.size < w2.heap.size := Nat.lt_of_lt_of_le hz1 hb2.size; have hx2 := hb2.size))
    go_ret
    exact ⟨by first | rfl | exact ret_int (by simp [sizeR]), ((((Below.refl w.heap.size w).alloc (Nat.le_refl _) _).trans (hb1.mono (by simp))).trans (hb2.mono (by omega))).alloc (by omega) _⟩

theorem len_bad (op a b n f C : Int) (w : World) (hT : TabIs 0 w) (hC : (C != 0) = true)
    (Hch : Hid (∀ w, TabIs 0 w → Calls Tryd.prog 26 #[.agg #[.int .i64 op, .int .i64 a, .int .i64 b, .int .i32 n, .int .i64 f]] w fun e w' => e = .returned (.int .i64 C) ∧ Below w.heap.size w w')) :
    Calls Tryd.prog 27 #[.agg #[.int .i64 op, .int .i64 a, .int .i64 b, .int .i32 n, .int .i64 f]] w fun e w' => e = .returned (.int .i64 0) ∧ Below w.heap.size w w' := by
  go_enter Tryd.func27, Tryd.ntmps27
  go_wp2_with (first
    | (go_at_call 26; refine (Hch.out _ (hT.alloc _)).mono ?_; rintro e w1 ⟨rfl, hb1⟩))
  go_ret
  exact ⟨rfl, ((Below.refl w.heap.size w).alloc (Nat.le_refl _) _).trans (hb1.mono (by simp))⟩

theorem len_any (op a b n f : Int) (w : World) (hn : -2147483648 ≤ n ∧ n ≤ 2147483647) (hT : TabIs 0 w) :
    Calls Tryd.prog 27 #[.agg #[.int .i64 op, .int .i64 a, .int .i64 b, .int .i32 n, .int .i64 f]] w fun e w' => e = .returned (.int .i64 (lenR op a b n f)) ∧ Below w.heap.size w w' := by
  unfold lenR
  have hch : ∀ w, TabIs 0 w → Calls Tryd.prog 26 #[.agg #[.int .i64 op, .int .i64 a, .int .i64 b, .int .i32 n, .int .i64 f]] w fun e w' => e = .returned (.int .i64 (checkR op a b n f)) ∧ Below w.heap.size w w' := fun w h => check_any op a b n f w hn h
  by_cases hC : checkR op a b n f = 0
  · rw [if_pos hC]
    have hop := checkR_op hC
    have hform := checkR_form hC
    rw [hC] at hch
    have hat : ∀ w, TabIs 0 w → Calls Tryd.prog 16 #[.int .i64 op] w fun e w' => e = .returned (.tuple #[.agg #[.string ⟨(opName op).toArray⟩, .int .u8 (opByte op), .int .i64 (opShape op)], .bool true]) ∧ Below w.heap.size w w' := by
      intro w h
      have := at_any op w h
      rwa [hop] at this
    exact len_fin op a b n f _ _ _ w hT ((shape_bounds op).1 hop) (by omega) (Lib.hid hch) (Lib.hid hat)
  · rw [if_neg hC]
    exact len_bad op a b n f _ w hT (by simpa using hC) (Lib.hid hch)
end Go.Proofs.YtfplkmldleigpaaDoor
