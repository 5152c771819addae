/- The reference's Check, of any instruction; the walk of law 5's known. -/
import Derived.Test.YthcjnkakfpmpbaaDoorB9
namespace Go.Proofs.YthcjnkakfpmpbaaDoor
open Go.RowKit
set_option linter.unusedVariables false

theorem refCheck_no (op a b n f : Int) (w : World)
    (H : Hid (∀ w, Calls Tryd.prog 49 #[.int .i64 op] w fun e w' => e = .returned (.int .i64 0) ∧ Below w.heap.size w w')) :
    Calls Tryd.prog 51 #[.agg #[.int .i64 op, .int .i64 a, .int .i64 b, .int .i32 n, .int .i64 f]] w fun e w' => e = .returned (.int .i64 11) ∧ Below w.heap.size w w' := by
  go_enter Tryd.func51, Tryd.ntmps51
  go_wp2_with (first
    | (go_at_call 49; refine (H.out _).mono ?_; rintro e w1 ⟨rfl, hb1⟩))
  go_ret
  exact ⟨rfl, ((Below.refl w.heap.size w).alloc (Nat.le_refl _) _).trans (hb1.mono (by simp))⟩
theorem refCheck_reg (op a b n f s : Int) (w : World) (hs : (s == 0) = false)
    (H : Hid (∀ w, Calls Tryd.prog 49 #[.int .i64 op] w fun e w' => e = .returned (.int .i64 s) ∧ Below w.heap.size w w'))
    (Hre : Hid (∀ w, Calls Tryd.prog 79 #[.agg #[.int .i64 op, .int .i64 a, .int .i64 b, .int .i32 n, .int .i64 f]] w fun e w' => e = .returned (.bool false) ∧ Below w.heap.size w w')) :
    Calls Tryd.prog 51 #[.agg #[.int .i64 op, .int .i64 a, .int .i64 b, .int .i32 n, .int .i64 f]] w fun e w' => e = .returned (.int .i64 12) ∧ Below w.heap.size w w' := by
  go_enter Tryd.func51, Tryd.ntmps51
  go_wp2_with (first
    | (go_at_call 49; refine (H.out _).mono ?_; rintro e w1 ⟨rfl, hb1⟩; obtain ⟨hc1, hf1⟩ := bcell hb1; have hz1 : w.heap.size < w1.heap.size := (by have := hb1.size; simp at this; omega))
    | (go_at_call 79; refine (Hre.out _).mono ?_; rintro e w2 ⟨rfl, hb2⟩))
  go_ret
  exact ⟨rfl, (((Below.refl w.heap.size w).alloc (Nat.le_refl _) _).trans (hb1.mono (by simp))).trans (hb2.mono (by omega))⟩

theorem refCheck_any (op a b n f : Int) (w : World) (hn : -2147483648 ≤ n ∧ n ≤ 2147483647) :
    Calls Tryd.prog 51 #[.agg #[.int .i64 op, .int .i64 a, .int .i64 b, .int .i32 n, .int .i64 f]] w fun e w' => e = .returned (.int .i64 (checkR op a b n f)) ∧ Below w.heap.size w w' := by
  have hsh := fun w => refShape_any op w
  unfold checkR
  by_cases hop : isOp op = false
  · rw [if_pos hop]
    have h0 := (shape_bounds op).2 hop
    rw [h0] at hsh
    exact refCheck_no op a b n f w (Lib.hid hsh)
  · have hop2 : isOp op = true := by simpa using hop
    have hs := (shape_bounds op).1 hop2
    rw [if_neg hop]
    have hre := fun w => refRegisters_any op a b n f w hop2
    by_cases hr : regB (opShape op) a b n = false
    · rw [if_pos hr]
      rw [hr] at hre
      exact refCheck_reg op a b n f (opShape op) w (by simp; omega) (Lib.hid hsh) (Lib.hid hre)
    · have hr2 : regB (opShape op) a b n = true := by simpa using hr
      rw [if_neg hr]
      rw [hr2] at hre
      by_cases hj : opShape op = 12 ∨ opShape op = 13
      · have := refCheck_jump op a b n f (opShape op) w hj hn (Lib.hid hsh) (Lib.hid hre)
        have e1 : ((spansB op = false ∧ f ≠ 0) ∨ numB (opShape op) n f = false) ↔ fitsB n f = false := by
          have hsp : spansB op = true := by unfold spansB; rcases hj with e | e <;> simp [e]
          have hnb : numB (opShape op) n f = fitsB n f := by unfold numB; rcases hj with e | e <;> simp [e]
          rw [hsp, hnb]
          simp
        simp only [e1]
        exact this
      · have := refCheck_plain op a b n f (opShape op) w (by omega) hn (Lib.hid hsh) (Lib.hid hre)
        have e1 : ((spansB op = false ∧ f ≠ 0) ∨ numB (opShape op) n f = false) ↔ (f ≠ 0 ∨ numB (opShape op) n f = false) := by
          have hsp : spansB op = false := by
            unfold spansB
            have h1 : opShape op ≠ 12 := fun h => hj (.inl h)
            have h2 : opShape op ≠ 13 := fun h => hj (.inr h)
            simp [h1, h2]
          rw [hsp]
          simp
        simp only [e1]
        exact this
end Go.Proofs.YthcjnkakfpmpbaaDoor
