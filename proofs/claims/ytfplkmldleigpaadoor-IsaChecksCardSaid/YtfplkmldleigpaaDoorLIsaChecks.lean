/- Law IsaChecks: what is wrong with any instruction, and how long it is. Conditions: none. -/
import Derived.Test.YtfplkmldleigpaaDoorB10
import Derived.Test.YtfplkmldleigpaaDoorO3
namespace Go.Proofs.YtfplkmldleigpaaDoor.isaChecks
open Go.RowKit
set_option linter.unusedVariables false

theorem walk_ok (op a b n f S : Int) (w : World) (hT : TabIs 0 w)
    (Hrc : Hid (∀ w, Calls Tryd.prog 24 #[.agg #[.int .i64 op, .int .i64 a, .int .i64 b, .int .i32 n, .int .i64 f]] w fun e w' => e = .returned (.int .i64 0) ∧ Below w.heap.size w w'))
    (Hsz : Hid (∀ w, Calls Tryd.prog 25 #[.int .i64 op, .int .i64 f] w fun e w' => e = .returned (.int .i64 S) ∧ Below w.heap.size w w'))
    (Hch : Hid (∀ w, TabIs 0 w → Calls Tryd.prog 26 #[.agg #[.int .i64 op, .int .i64 a, .int .i64 b, .int .i32 n, .int .i64 f]] w fun e w' => e = .returned (.int .i64 0) ∧ Below w.heap.size w w'))
    (Hle : Hid (∀ w, TabIs 0 w → Calls Tryd.prog 27 #[.agg #[.int .i64 op, .int .i64 a, .int .i64 b, .int .i32 n, .int .i64 f]] w fun e w' => e = .returned (.int .i64 S) ∧ Below w.heap.size w w')) :
    Calls Tryd.prog 4 #[.agg #[.int .i64 op, .int .i64 a, .int .i64 b, .int .i32 n, .int .i64 f]] w fun e w' => e = .returned (.bool true) ∧ Below w.heap.size w w' := by
  go_enter Tryd.func4, Tryd.ntmps4
  go_wp2_with (first
    | (go_at_call 24; refine (Hrc.out _).mono ?_; rintro e w1 ⟨rfl, hb1⟩; obtain ⟨hc1, hf1⟩ := bcell hb1; have hz1 : w.heap.size < w1.heap.size := (by have := hb1.size; simp at this; omega); have hT1 := ((hT.alloc _).grow hb1))
    | (go_at_call 25; refine (Hsz.out _).mono ?_; rintro e w2 ⟨rfl, hb2⟩; obtain ⟨hc2, hf2⟩ := bcell hb2; have hz2 : w.heap.size < w2.heap.size := Nat.lt_of_lt_of_le hz1 hb2.size; have hT2 := hT1.grow hb2)
    | (go_at_call 26; refine (Hch.out _ hT2).mono ?_; rintro e w3 ⟨rfl, hb3⟩; obtain ⟨hc3, hf3⟩ := bcell hb3; have hz3 : w.heap.size < w3.heap.size := Nat.lt_of_lt_of_le hz2 hb3.size; have hT3 := hT2.grow hb3)
    | (go_at_call 27; refine (Hle.out _ hT3).mono ?_; rintro e w4 ⟨rfl, hb4⟩; have hz4 : w.heap.size < w4.heap.size := Nat.lt_of_lt_of_le hz3 hb4.size; have hT4 := hT3.grow hb4)
    | (go_at_call 23; refine (known5_any _ hT4).mono ?_; rintro e w5 ⟨rfl, hb5⟩))
  go_ret
  exact ⟨rfl, (((((Below.refl w.heap.size w).alloc (Nat.le_refl _) _).trans (hb1.mono (by simp))).trans (hb2.mono (by omega))).trans (hb3.mono (by omega))).trans (hb4.mono (by omega)) |>.trans (hb5.mono (by omega))⟩

theorem walk_bad (op a b n f C : Int) (w : World) (hT : TabIs 0 w) (hC : (C == 0) = false)
    (Hrc : Hid (∀ w, Calls Tryd.prog 24 #[.agg #[.int .i64 op, .int .i64 a, .int .i64 b, .int .i32 n, .int .i64 f]] w fun e w' => e = .returned (.int .i64 C) ∧ Below w.heap.size w w'))
    (Hch : Hid (∀ w, TabIs 0 w → Calls Tryd.prog 26 #[.agg #[.int .i64 op, .int .i64 a, .int .i64 b, .int .i32 n, .int .i64 f]] w fun e w' => e = .returned (.int .i64 C) ∧ Below w.heap.size w w'))
    (Hle : Hid (∀ w, TabIs 0 w → Calls Tryd.prog 27 #[.agg #[.int .i64 op, .int .i64 a, .int .i64 b, .int .i32 n, .int .i64 f]] w fun e w' => e = .returned (.int .i64 0) ∧ Below w.heap.size w w')) :
    Calls Tryd.prog 4 #[.agg #[.int .i64 op, .int .i64 a, .int .i64 b, .int .i32 n, .int .i64 f]] w fun e w' => e = .returned (.bool true) ∧ Below w.heap.size w w' := by
  go_enter Tryd.func4, Tryd.ntmps4
  go_wp2_with (first
    | (go_at_call 24; refine (Hrc.out _).mono ?_; rintro e w1 ⟨rfl, hb1⟩; obtain ⟨hc1, hf1⟩ := bcell hb1; have hz1 : w.heap.size < w1.heap.size := (by have := hb1.size; simp at this; omega); have hT1 := ((hT.alloc _).grow hb1))
    | (go_at_call 26; refine (Hch.out _ hT1).mono ?_; rintro e w3 ⟨rfl, hb3⟩; obtain ⟨hc3, hf3⟩ := bcell hb3; have hz3 : w.heap.size < w3.heap.size := Nat.lt_of_lt_of_le hz1 hb3.size; have hT3 := hT1.grow hb3)
    | (go_at_call 27; refine (Hle.out _ hT3).mono ?_; rintro e w4 ⟨rfl, hb4⟩; have hz4 : w.heap.size < w4.heap.size := Nat.lt_of_lt_of_le hz3 hb4.size; have hT4 := hT3.grow hb4)
    | (go_at_call 23; refine (known5_any _ hT4).mono ?_; rintro e w5 ⟨rfl, hb5⟩))
  go_ret
  exact ⟨rfl, ((((Below.refl w.heap.size w).alloc (Nat.le_refl _) _).trans (hb1.mono (by simp))).trans (hb3.mono (by omega))).trans (hb4.mono (by omega)) |>.trans (hb5.mono (by omega))⟩

theorem walk (w : World) (i : Ins) (hi : i.Ok) (hT : TabIs 0 w) :
    Calls Tryd.prog 4 #[i.val] w fun e w' => e = .returned (.bool true) ∧ Below w.heap.size w w' := by
  obtain ⟨op, a, b, n, f⟩ := i
  obtain ⟨_, _, _, hn, _⟩ := hi
  have hrc := fun w => refCheck_any op a b n f w hn
  have hch := fun w hT => check_any op a b n f w hn hT
  have hle := fun w hT => len_any op a b n f w hn hT
  by_cases hC : checkR op a b n f = 0
  · have hform := checkR_form hC
    have hsz := fun w => refSize_any op f w (checkR_op hC) (by omega)
    have hl : lenR op a b n f = sizeR (opShape op) f := by unfold lenR; rw [if_pos hC]
    rw [hC] at hrc hch
    rw [hl] at hle
    exact walk_ok op a b n f _ w hT (Lib.hid hrc) (Lib.hid hsz) (Lib.hid hch) (Lib.hid hle)
  · have hl : lenR op a b n f = 0 := by unfold lenR; rw [if_neg hC]
    rw [hl] at hle
    exact walk_bad op a b n f _ w hT (by simpa using hC) (Lib.hid hrc) (Lib.hid hch) (Lib.hid hle)
end Go.Proofs.YtfplkmldleigpaaDoor.isaChecks
