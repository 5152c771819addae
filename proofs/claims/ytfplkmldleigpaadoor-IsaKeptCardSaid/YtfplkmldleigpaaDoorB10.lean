/- The reference's Check, of any instruction; the walk of law 5's known. -/
import Derived.Test.YtfplkmldleigpaaDoorB9
import Derived.Test.YtfplkmldleigpaaDoorB4
import Derived.Test.YtfplkmldleigpaaDoorB6
namespace Go.Proofs.YtfplkmldleigpaaDoor
open Go.RowKit
set_option linter.unusedVariables false

theorem refCheck_no (op a b n f : Int) (w : World)
    (H : Hid (∀ w, Calls Tryd.prog 18 #[.int .i64 op] w fun e w' => e = .returned (.int .i64 0) ∧ Below w.heap.size w w')) :
    Calls Tryd.prog 24 #[.agg #[.int .i64 op, .int .i64 a, .int .i64 b, .int .i32 n, .int .i64 f]] w fun e w' => e = .returned (.int .i64 11) ∧ Below w.heap.size w w' := by
  go_enter Tryd.func24, Tryd.ntmps24
  go_wp2_with (first
    | (go_at_call 18; refine (H.out _).mono ?_; rintro e w1 ⟨rfl, hb1⟩))
  go_ret
  exact ⟨rfl, ((Below.refl w.heap.size w).alloc (Nat.le_refl _) _).trans (hb1.mono (by simp))⟩
theorem refCheck_reg (op a b n f s : Int) (w : World) (hs : (s == 0) = false)
    (H : Hid (∀ w, Calls Tryd.prog 18 #[.int .i64 op] w fun e w' => e = .returned (.int .i64 s) ∧ Below w.heap.size w w'))
    (Hre : Hid (∀ w, Calls Tryd.prog 44 #[.agg #[.int .i64 op, .int .i64 a, .int .i64 b, .int .i32 n, .int .i64 f]] w fun e w' => e = .returned (.bool false) ∧ Below w.heap.size w w')) :
    Calls Tryd.prog 24 #[.agg #[.int .i64 op, .int .i64 a, .int .i64 b, .int .i32 n, .int .i64 f]] w fun e w' => e = .returned (.int .i64 12) ∧ Below w.heap.size w w' := by
  go_enter Tryd.func24, Tryd.ntmps24
  go_wp2_with (first
    | (go_at_call 18; refine (H.out _).mono ?_; rintro e w1 ⟨rfl, hb1⟩; obtain ⟨hc1, hf1⟩ := bcell hb1; have hz1 : w.heap.size < w1.heap.size := (by have := hb1.size; simp at this; omega))
    | (go_at_call 44; refine (Hre.out _).mono ?_; rintro e w2 ⟨rfl, hb2⟩))
  go_ret
  exact ⟨rfl, (((Below.refl w.heap.size w).alloc (Nat.le_refl _) _).trans (hb1.mono (by simp))).trans (hb2.mono (by omega))⟩

theorem refCheck_any (op a b n f : Int) (w : World) (hn : -2147483648 ≤ n ∧ n ≤ 2147483647) :
    Calls Tryd.prog 24 #[.agg #[.int .i64 op, .int .i64 a, .int .i64 b, .int .i32 n, .int .i64 f]] w fun e w' => e = .returned (.int .i64 (checkR op a b n f)) ∧ Below w.heap.size w w' := by
  have hsh := fun w => refShape_any op w
  unfold checkR
  by_cases hop : isOp op = false
  · rw [if_pos hop]
    have h0 := (shape_bounds op).2 hop
    rw [h0] at hsh
    exact refCheck_no op a b n f w (Lib.hid hsh)
  · have hop2 : isOp op = true := by simpa using hop
    have hs := (shape_bounds op).1 hop2
    rw [if_neg hop]
    have hre := fun w => refRegisters_any op a b n f w hop2
    by_cases hr : regB (opShape op) a b n = false
    · rw [if_pos hr]
      rw [hr] at hre
      exact refCheck_reg op a b n f (opShape op) w (by simp; omega) (Lib.hid hsh) (Lib.hid hre)
    · have hr2 : regB (opShape op) a b n = true := by simpa using hr
      rw [if_neg hr]
      rw [hr2] at hre
      by_cases hj : opShape op = 12 ∨ opShape op = 13
      · have := refCheck_jump op a b n f (opShape op) w hj hn (Lib.hid hsh) (Lib.hid hre)
        have e1 : ((spansB op = false ∧ f ≠ 0) ∨ numB (opShape op) n f = false) ↔ fitsB n f = false := by
          have hsp : spansB op = true := by unfold spansB; rcases hj with e | e <;> simp [e]
          have hnb : numB (opShape op) n f = fitsB n f := by unfold numB; rcases hj with e | e <;> simp [e]
          rw [hsp, hnb]
          simp
        simp only [e1]
        exact this
      · have := refCheck_plain op a b n f (opShape op) w (by omega) hn (Lib.hid hsh) (Lib.hid hre)
        have e1 : ((spansB op = false ∧ f ≠ 0) ∨ numB (opShape op) n f = false) ↔ (f ≠ 0 ∨ numB (opShape op) n f = false) := by
          have hsp : spansB op = false := by
            unfold spansB
            have h1 : opShape op ≠ 12 := fun h => hj (.inl h)
            have h2 : opShape op ≠ 13 := fun h => hj (.inr h)
            simp [h1, h2]
          rw [hsp]
          simp
        simp only [e1]
        exact this

/-! ### known -/
theorem k5_find (w : World) (hT : TabIs 0 w) : Calls Tryd.prog 15 #[.string ⟨#[106, 109, 112]⟩] w fun e w' => e = .returned (.tuple #[.int .i64 40, .bool true]) ∧ Below w.heap.size w w' := by
  have := find_any ⟨#[106, 109, 112]⟩ w hT
  rw [show findR (ByteArray.mk #[106, 109, 112]).toList = 40 from by rw [ByteArray.toList_eq]; decide +kernel] at this
  exact this
theorem k5_at (w : World) (hT : TabIs 0 w) : Calls Tryd.prog 16 #[.int .i64 40] w fun e w' => e = .returned (.tuple #[.agg #[.string ⟨#[106, 109, 112]⟩, .int .u8 64, .int .i64 12], .bool true]) ∧ Below w.heap.size w w' := at_any 40 w hT
theorem k5_len (w : World) (hT : TabIs 0 w) : Calls Tryd.prog 27 #[.agg #[.int .i64 1, .int .i64 0, .int .i64 0, .int .i32 0, .int .i64 0]] w fun e w' => e = .returned (.int .i64 1) ∧ Below w.heap.size w w' := by
  have := len_any 1 0 0 0 0 w (by omega) hT
  rw [show lenR 1 0 0 0 0 = 1 from by decide +kernel] at this
  exact this
theorem known5_any (w : World) (hT : TabIs 0 w) : Calls Tryd.prog 23 #[] w fun e w' => e = .returned (.bool true) ∧ Below w.heap.size w w' := by
  go_enter Tryd.func23, Tryd.ntmps23
  go_wp2_with (first
    | (go_at_call 15; refine (k5_find _ hT).mono ?_; rintro e w1 ⟨rfl, hb1⟩)
    | (go_at_call 16; refine (k5_at _ (hT.grow hb1)).mono ?_; rintro e w2 ⟨rfl, hb2⟩; have hz1 := hb1.size; have hz2 := hb2.size)
    | (go_at_call 27; refine (k5_len _ (((hT.grow hb1).grow hb2).alloc _)).mono ?_; rintro e w3 ⟨rfl, hb3⟩))
  go_ret
  exact ⟨rfl, ((hb1.trans (hb2.mono hz1)).alloc (by omega) _).trans (hb3.mono (by simp; omega))⟩
end Go.Proofs.YtfplkmldleigpaaDoor
