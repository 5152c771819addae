/- The walks of isa's Check and Len. -/
import Derived.Test.YtfplkmldleigpaaDoorB2
namespace Go.Proofs.YtfplkmldleigpaaDoor
open Go.RowKit
set_option linter.unusedVariables false

/-- Check, where the registers are right -/
theorem check_fin (op a b n f s v1 : Int) (v0 : Array UInt8) (SB NB F0 : Bool) (R : Int) (w : World) (hT : TabIs 0 w) (ef : (f != 0) = F0) (hR : R = if (SB = false ∧ F0 = true) ∨ NB = false then 13 else 0)
    (Hat : Hid (∀ w, TabIs 0 w → Calls Tryd.prog 16 #[.int .i64 op] w fun e w' => e = .returned (.tuple #[.agg #[.string ⟨v0⟩, .int .u8 v1, .int .i64 s], .bool true]) ∧ Below w.heap.size w w'))
    (Hre : Hid (∀ w, Calls Tryd.prog 45 #[.agg #[.int .i64 op, .int .i64 a, .int .i64 b, .int .i32 n, .int .i64 f], .int .i64 s] w fun e w' => e = .returned (.bool true) ∧ Below w.heap.size w w'))
    (Hsp : Hid (∀ w, TabIs 0 w → Calls Tryd.prog 19 #[.int .i64 op] w fun e w' => e = .returned (.bool SB) ∧ Below w.heap.size w w'))
    (Hnu : Hid (∀ w, Calls Tryd.prog 46 #[.agg #[.int .i64 op, .int .i64 a, .int .i64 b, .int .i32 n, .int .i64 f], .int .i64 s] w fun e w' => e = .returned (.bool NB) ∧ Below w.heap.size w w')) :
    Calls Tryd.prog 26 #[.agg #[.int .i64 op, .int .i64 a, .int .i64 b, .int .i32 n, .int .i64 f]] w fun e w' => e = .returned (.int .i64 R) ∧ Below w.heap.size w w' := by
  cases SB <;> cases NB <;> cases F0 <;> simp at hR <;> subst hR
  all_goals
    go_enter Tryd.func26, Tryd.ntmps26
    go_wp2_with (first
      | (go_at_call 16; refine (Hat.out _ (hT.alloc _)).mono ?_; rintro e w1 ⟨rfl, hb1⟩; obtain ⟨hc1, hf1⟩ := bcell hb1; have hz1 : w.heap.size < w1.heap.size := (by have := hb1.size; simp at this; omega))
      | (go_at_call 45; refine (Hre.out _).mono ?_; rintro e w2 ⟨rfl, hb2⟩; obtain ⟨hc2, hf2⟩ := bcell hb2; have hz2 : w1.heap.size < w2.heap.size := (by have := hb2.size; simp at this; omega); have hy2 : w.heap.size < w2.heap.size := (by omega))
      | (go_at_call 19; refine (Hsp.out _ ((((hT.alloc _).grow hb1).alloc _).grow hb2)).mono ?_; rintro e w3 ⟨rfl, hb3⟩; obtain ⟨hc3, hf3⟩ := bcell hb3; have hz3 : w1.heap.size < w3.heap.size := Nat.lt_of_lt_of_le hz2 hb3.size; have hy3 : w.heap.size < w3.heap.size := (by omega); have hx3 := hb3.size)
      | (go_at_call 46; refine (Hnu.out _).mono ?_; rintro e w4 ⟨rfl, hb4⟩; have hz4 := hb4.size))
  all_goals
    go_ret
    first
      | exact ⟨rfl, ((((((Below.refl w.heap.size w).alloc (Nat.le_refl _) _).trans (hb1.mono (by simp))).alloc (by omega) _).trans (hb2.mono (by simp; omega))).trans (hb3.mono (by omega))).trans (hb4.mono (by omega))⟩
      | exact ⟨rfl, (((((Below.refl w.heap.size w).alloc (Nat.le_refl _) _).trans (hb1.mono (by simp))).alloc (by omega) _).trans (hb2.mono (by simp; omega))).trans (hb3.mono (by omega))⟩

set_option maxHeartbeats 4000000 in
theorem check_any (op a b n f : Int) (w : World) (hn : -2147483648 ≤ n ∧ n ≤ 2147483647) (hT : TabIs 0 w) :
    Calls Tryd.prog 26 #[.agg #[.int .i64 op, .int .i64 a, .int .i64 b, .int .i32 n, .int .i64 f]] w fun e w' => e = .returned (.int .i64 (checkR op a b n f)) ∧ Below w.heap.size w w' := by
  have hsh := shape_bounds op
  have hat : ∀ w, TabIs 0 w → Calls Tryd.prog 16 #[.int .i64 op] w fun e w' => e = .returned (.tuple #[.agg #[.string ⟨(opName op).toArray⟩, .int .u8 (opByte op), .int .i64 (opShape op)], .bool (isOp op)]) ∧ Below w.heap.size w w' := fun w h => at_any op w h
  have hsp : ∀ w, TabIs 0 w → Calls Tryd.prog 19 #[.int .i64 op] w fun e w' => e = .returned (.bool (spansB op)) ∧ Below w.heap.size w w' := fun w h => spans_any op w h
  have hre : isOp op = true → ∀ w, Calls Tryd.prog 45 #[.agg #[.int .i64 op, .int .i64 a, .int .i64 b, .int .i32 n, .int .i64 f], .int .i64 (opShape op)] w fun e w' => e = .returned (.bool (regB (opShape op) a b n)) ∧ Below w.heap.size w w' := fun h w => registers_any op a b n f _ w (hsh.1 h)
  have hnu : isOp op = true → ∀ w, Calls Tryd.prog 46 #[.agg #[.int .i64 op, .int .i64 a, .int .i64 b, .int .i32 n, .int .i64 f], .int .i64 (opShape op)] w fun e w' => e = .returned (.bool (numB (opShape op) n f)) ∧ Below w.heap.size w w' := fun h w => number_any op a b n f _ w (hsh.1 h) hn
  unfold checkR
  generalize (opName op).toArray = v0 at hat
  generalize opByte op = v1 at hat
  generalize numB (opShape op) n f = NB at hnu ⊢
  generalize regB (opShape op) a b n = RB at hre ⊢
  generalize opShape op = s at hat hre hnu
  generalize spansB op = SB at hsp ⊢
  generalize isOp op = OK at hat hre hnu ⊢
  have Hat := Lib.hid hat
  have Hsp := Lib.hid hsp
  have Hre := Lib.hid hre
  have Hnu := Lib.hid hnu
  clear hat hsp hre hnu hsh hn
  cases OK
  · rw [if_pos rfl]
    go_enter Tryd.func26, Tryd.ntmps26
    go_wp2_with (first
      | (go_at_call 16; refine (Hat.out _ (hT.alloc _)).mono ?_; rintro e w1 ⟨rfl, hb1⟩))
    go_ret
    exact ⟨rfl, (((Below.refl w.heap.size w).alloc (Nat.le_refl _) _).trans (hb1.mono (by simp))).alloc (by have := hb1.size; simp at this; omega) _⟩
  · rw [if_neg (by simp)]
    have Hre2 := Lib.hid (Hre.out (by trivial))
    have Hnu2 := Lib.hid (Hnu.out (by trivial))
    clear Hre Hnu
    cases RB
    · rw [if_pos rfl]
      go_enter Tryd.func26, Tryd.ntmps26
      go_wp2_with (first
        | (go_at_call 16; refine (Hat.out _ (hT.alloc _)).mono ?_; rintro e w1 ⟨rfl, hb1⟩; obtain ⟨hc1, hf1⟩ := bcell hb1; have hz1 : w.heap.size < w1.heap.size := (by have := hb1.size; simp at this; omega))
        | (go_at_call 45; refine (Hre2.out _).mono ?_; rintro e w2 ⟨rfl, hb2⟩))
      go_ret
      exact ⟨rfl, (((((Below.refl w.heap.size w).alloc (Nat.le_refl _) _).trans (hb1.mono (by simp))).alloc (by omega) _).trans (hb2.mono (by simp; omega)))⟩
    · rw [if_neg (by simp)]
      by_cases hf : f = 0
      · refine check_fin op a b n f s v1 v0 SB NB false _ w hT (by simpa using hf) ?_ Hat Hre2 Hsp Hnu2
        simp [hf]
      · refine check_fin op a b n f s v1 v0 SB NB true _ w hT (by simpa using hf) ?_ Hat Hre2 Hsp Hnu2
        simp [hf]
end Go.Proofs.YtfplkmldleigpaaDoor
