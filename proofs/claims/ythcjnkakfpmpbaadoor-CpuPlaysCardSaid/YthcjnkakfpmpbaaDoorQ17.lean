import Derived.Test.YthcjnkakfpmpbaaDoorQ16
namespace Go.Proofs.YthcjnkakfpmpbaaDoor
open Go.RowKit
set_option linter.unusedVariables false
set_option maxHeartbeats 8000000 in
theorem refCheck_plain (op a b n f s : Int) (w : World) (hs : s = 1 ∨ s = 2 ∨ s = 3 ∨ s = 4 ∨ s = 5 ∨ s = 6 ∨ s = 7 ∨ s = 8 ∨ s = 9 ∨ s = 10 ∨ s = 11) (hn : -2147483648 ≤ n ∧ n ≤ 2147483647)
    (H : Hid (∀ w,Calls Tryd.prog 49 #[.int .i64 op] w fun e w' => e = .returned (.int .i64 s) ∧ Below w.heap.size w w'))
    (Hre : Hid (∀ w,Calls Tryd.prog 79 #[.agg #[.int .i64 op,.int .i64 a,.int .i64 b,.int .i32 n,.int .i64 f]] w fun e w' => e = .returned (.bool true) ∧ Below w.heap.size w w')) :
    Calls Tryd.prog 51 #[.agg #[.int .i64 op,.int .i64 a,.int .i64 b,.int .i32 n,.int .i64 f]] w fun e w' => e = .returned (.int .i64 (if f ≠ 0 ∨ numB s n f = false then 13 else 0)) ∧ Below w.heap.size w w' := by
  have h0 := hn.1
  have h1 := hn.2
  clear hn
  rcases hs with rfl | rfl | rfl | rfl | rfl | rfl | rfl | rfl | rfl | rfl | rfl
  all_goals
    go_enter Tryd.func51,Tryd.ntmps51
    go_wp2_with (first
      | (go_at_call 49; refine (H.out _).mono ?_; rintro e w1 ⟨rfl,hb1⟩; obtain ⟨hc1,hf1⟩ := bcell hb1; have hz1 : w.heap.size < w1.heap.size := (by have := hb1.size; simp at this; omega))
      | (go_at_call 79; refine (Hre.out _).mono ?_; rintro e w2 ⟨rfl,hb2⟩; obtain ⟨hc2,hf2⟩ := bcell hb2; have hz2 : w.heap.size < w2.heap.size := Nat.lt_of_lt_of_le hz1 hb2.size)
      | (go_at_call 80; refine (refFits5_any _ _ _ h0 h1).mono ?_; rintro e w' ⟨rfl,rfl⟩))
    all_goals
      go_ret
      refine ⟨?_,(((Below.refl w.heap.size w).alloc (Nat.le_refl _) _).trans (hb1.mono (by simp))).trans (hb2.mono (by omega))⟩
      refine ret_int ?_
      first
        | (simp [numB] at *; done)
        | (simp [numB] at *; omega)
set_option maxHeartbeats 8000000 in
theorem refCheck_jump (op a b n f s : Int) (w : World) (hs : s = 12 ∨ s = 13) (hn : -2147483648 ≤ n ∧ n ≤ 2147483647)
    (H : Hid (∀ w,Calls Tryd.prog 49 #[.int .i64 op] w fun e w' => e = .returned (.int .i64 s) ∧ Below w.heap.size w w'))
    (Hre : Hid (∀ w,Calls Tryd.prog 79 #[.agg #[.int .i64 op,.int .i64 a,.int .i64 b,.int .i32 n,.int .i64 f]] w fun e w' => e = .returned (.bool true) ∧ Below w.heap.size w w')) :
    Calls Tryd.prog 51 #[.agg #[.int .i64 op,.int .i64 a,.int .i64 b,.int .i32 n,.int .i64 f]] w fun e w' => e = .returned (.int .i64 (if fitsB n f = false then 13 else 0)) ∧ Below w.heap.size w w' := by
  have h0 := hn.1
  have h1 := hn.2
  clear hn
  rcases hs with rfl | rfl
  all_goals
    obtain ⟨FB,hFB⟩ : ∃ FB,FB = fitsB n f := ⟨_,rfl⟩
    have hfit : ∀ w,Calls Tryd.prog 80 #[.int .i32 n,.int .i64 f] w fun e w' => e = .returned (.bool FB) ∧ w = w' := by
      intro w
      rw [hFB]
      exact refFits5_any n f w h0 h1
    rw [← hFB]
    have key : (f != 1) = false ∨ ((f != 1) = true ∧ (f != 2) = false) ∨ ((f != 1) = true ∧ (f != 2) = true ∧ (f != 4) = false) ∨ ((f != 1) = true ∧ (f != 2) = true ∧ (f != 4) = true ∧ FB = false) := by
      rcases width_cases f with h | h | h | h
      · left; simp [h]
      · right; left; simp [h]
      · right; right; left; simp [h]
      · right; right; right; exact ⟨by simp [h.1],by simp [h.2.1],by simp [h.2.2],by rw [hFB]; exact fitsB_not h⟩
    have Hfit := Lib.hid hfit
    clear hfit hFB
    rcases key with e1 | ⟨e1,e2⟩ | ⟨e1,e2,e3⟩ | ⟨e1,e2,e3,rfl⟩
    all_goals
      (try cases FB)
      all_goals
        go_enter Tryd.func51,Tryd.ntmps51
        go_wp2_with (first
          | (go_at_call 49; refine (H.out _).mono ?_; rintro e w1 ⟨rfl,hb1⟩; obtain ⟨hc1,hf1⟩ := bcell hb1; have hz1 : w.heap.size < w1.heap.size := (by have := hb1.size; simp at this; omega))
          | (go_at_call 79; refine (Hre.out _).mono ?_; rintro e w2 ⟨rfl,hb2⟩; obtain ⟨hc2,hf2⟩ := bcell hb2; have hz2 : w.heap.size < w2.heap.size := Nat.lt_of_lt_of_le hz1 hb2.size)
          | (go_at_call 80; refine (Hfit.out _).mono ?_; rintro e w' ⟨rfl,rfl⟩))
        all_goals
          go_ret
          refine ⟨?_,(((Below.refl w.heap.size w).alloc (Nat.le_refl _) _).trans (hb1.mono (by simp))).trans (hb2.mono (by omega))⟩
          refine ret_int ?_
          simp
end Go.Proofs.YthcjnkakfpmpbaaDoor
namespace Go.Proofs.YthcjnkakfpmpbaaDoor
open Go.RowKit
set_option linter.unusedVariables false
theorem refCheck_no (op a b n f : Int) (w : World)
    (H : Hid (∀ w,Calls Tryd.prog 49 #[.int .i64 op] w fun e w' => e = .returned (.int .i64 0) ∧ Below w.heap.size w w')) :
    Calls Tryd.prog 51 #[.agg #[.int .i64 op,.int .i64 a,.int .i64 b,.int .i32 n,.int .i64 f]] w fun e w' => e = .returned (.int .i64 11) ∧ Below w.heap.size w w' := by
  go_enter Tryd.func51,Tryd.ntmps51
  go_wp2_with (first
    | (go_at_call 49; refine (H.out _).mono ?_; rintro e w1 ⟨rfl,hb1⟩))
  go_ret
  exact ⟨rfl,((Below.refl w.heap.size w).alloc (Nat.le_refl _) _).trans (hb1.mono (by simp))⟩
theorem refCheck_reg (op a b n f s : Int) (w : World) (hs : (s == 0) = false)
    (H : Hid (∀ w,Calls Tryd.prog 49 #[.int .i64 op] w fun e w' => e = .returned (.int .i64 s) ∧ Below w.heap.size w w'))
    (Hre : Hid (∀ w,Calls Tryd.prog 79 #[.agg #[.int .i64 op,.int .i64 a,.int .i64 b,.int .i32 n,.int .i64 f]] w fun e w' => e = .returned (.bool false) ∧ Below w.heap.size w w')) :
    Calls Tryd.prog 51 #[.agg #[.int .i64 op,.int .i64 a,.int .i64 b,.int .i32 n,.int .i64 f]] w fun e w' => e = .returned (.int .i64 12) ∧ Below w.heap.size w w' := by
  go_enter Tryd.func51,Tryd.ntmps51
  go_wp2_with (first
    | (go_at_call 49; refine (H.out _).mono ?_; rintro e w1 ⟨rfl,hb1⟩; obtain ⟨hc1,hf1⟩ := bcell hb1; have hz1 : w.heap.size < w1.heap.size := (by have := hb1.size; simp at this; omega))
    | (go_at_call 79; refine (Hre.out _).mono ?_; rintro e w2 ⟨rfl,hb2⟩))
  go_ret
  exact ⟨rfl,(((Below.refl w.heap.size w).alloc (Nat.le_refl _) _).trans (hb1.mono (by simp))).trans (hb2.mono (by omega))⟩
theorem refCheck_any (op a b n f : Int) (w : World) (hn : -2147483648 ≤ n ∧ n ≤ 2147483647) :
    Calls Tryd.prog 51 #[.agg #[.int .i64 op,.int .i64 a,.int .i64 b,.int .i32 n,.int .i64 f]] w fun e w' => e = .returned (.int .i64 (checkR op a b n f)) ∧ Below w.heap.size w w' := by
  have hsh := fun w => refShape_any op w
  unfold checkR
  by_cases hop : isOp op = false
  · rw [if_pos hop]
    have h0 := (shape_bounds op).2 hop
    rw [h0] at hsh
    exact refCheck_no op a b n f w (Lib.hid hsh)
  · have hop2 : isOp op = true := by simpa using hop
    have hs := (shape_bounds op).1 hop2
    rw [if_neg hop]
    have hre := fun w => refRegisters_any op a b n f w hop2
    by_cases hr : regB (opShape op) a b n = false
    · rw [if_pos hr]
      rw [hr] at hre
      exact refCheck_reg op a b n f (opShape op) w (by simp; omega) (Lib.hid hsh) (Lib.hid hre)
    · have hr2 : regB (opShape op) a b n = true := by simpa using hr
      rw [if_neg hr]
      rw [hr2] at hre
      by_cases hj : opShape op = 12 ∨ opShape op = 13
      · have := refCheck_jump op a b n f (opShape op) w hj hn (Lib.hid hsh) (Lib.hid hre)
        have e1 : ((spansB op = false ∧ f ≠ 0) ∨ numB (opShape op) n f = false) ↔ fitsB n f = false := by
          have hsp : spansB op = true := by unfold spansB; rcases hj with e | e <;> simp [e]
          have hnb : numB (opShape op) n f = fitsB n f := by unfold numB; rcases hj with e | e <;> simp [e]
          rw [hsp,hnb]
          simp
        simp only [e1]
        exact this
      · have := refCheck_plain op a b n f (opShape op) w (by omega) hn (Lib.hid hsh) (Lib.hid hre)
        have e1 : ((spansB op = false ∧ f ≠ 0) ∨ numB (opShape op) n f = false) ↔ (f ≠ 0 ∨ numB (opShape op) n f = false) := by
          have hsp : spansB op = false := by
            unfold spansB
            have h1 : opShape op ≠ 12 := fun h => hj (.inl h)
            have h2 : opShape op ≠ 13 := fun h => hj (.inr h)
            simp [h1,h2]
          rw [hsp]
          simp
        simp only [e1]
        exact this
end Go.Proofs.YthcjnkakfpmpbaaDoor
