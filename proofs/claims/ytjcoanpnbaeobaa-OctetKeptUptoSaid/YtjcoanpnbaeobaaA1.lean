/- The walks of octet's functions that only compute: legal, Signed, Fits, and the reference's. No condition. -/
import Derived.Test.YtjcoanpnbaeobaaRows
import Derived.Test.YtjcoanpnbaeobaaA0
import Derived.Test.YtjcoanpnbaeobaaP1
import Derived.Outline
import Derived.Lib.Hide
namespace Go.Proofs.Ytjcoanpnbaeobaa
open Go.RowKit
set_option linter.unusedVariables false

theorem signed_any (n width : Int) (w : World) (h0 : 0 ≤ n) (h1 : n < 4294967296) :
    Calls Try.prog 9 #[.int .u32 n, .int .i64 width] w fun e w' => e = .returned (.int .i32 (sgn n width)) ∧ w = w' := by
  rcases width_cases width with rfl | rfl | rfl | h
  · go_enter Try.func9, Try.ntmps9
    go_wp2_with (go_at_call 28; refine (legal_any _ _).mono ?_; rintro e w' ⟨rfl, rfl⟩)
    go_ret
    exact ⟨ret_int (by show wrap32 (n * 16777216 % 4294967296) / 16777216 = _; simp [sgn, wrap32]; omega), rfl⟩
  · go_enter Try.func9, Try.ntmps9
    go_wp2_with (go_at_call 28; refine (legal_any _ _).mono ?_; rintro e w' ⟨rfl, rfl⟩)
    go_ret
    exact ⟨ret_int (by show wrap32 (n * 65536 % 4294967296) / 65536 = _; simp [sgn, wrap32]; omega), rfl⟩
  · go_enter Try.func9, Try.ntmps9
    go_wp2_with (go_at_call 28; refine (legal_any _ _).mono ?_; rintro e w' ⟨rfl, rfl⟩)
    go_ret
    exact ⟨ret_int (by show wrap32 n = _; simp [sgn, wrap32]), rfl⟩
  · have hl := legalB_not h
    rw [sgn_not h]
    clear h
    go_enter Try.func9, Try.ntmps9
    go_wp2_with (go_at_call 28; refine (legal_any _ _).mono ?_; rintro e w' ⟨rfl, rfl⟩)
    go_ret
    exact ⟨rfl, rfl⟩

theorem refSigned_any (n width : Int) (w : World) (h0 : 0 ≤ n) (h1 : n < 4294967296) :
    Calls Try.prog 10 #[.int .u32 n, .int .i64 width] w fun e w' => e = .returned (.int .i32 (sgn n width)) ∧ w = w' := by
  rcases width_cases width with rfl | rfl | rfl | h
  · go_enter Try.func10, Try.ntmps10
    go_wp2
    go_ret
    exact ⟨ret_int (by show wrap32 (IntKind.i8.wrap n) = _; rw [wrap_i8]; simp [sgn, wrap32]; omega), rfl⟩
  · go_enter Try.func10, Try.ntmps10
    go_wp2
    go_ret
    exact ⟨ret_int (by show wrap32 (IntKind.i16.wrap n) = _; rw [wrap_i16]; simp [sgn, wrap32]; omega), rfl⟩
  · go_enter Try.func10, Try.ntmps10
    go_wp2
    go_ret
    exact ⟨ret_int (by show wrap32 n = _; simp [sgn, wrap32]), rfl⟩
  · rw [sgn_not h]
    obtain ⟨a, b, c⟩ := h
    have e1 : (width == 1) = false := by simpa using a
    have e2 : (width == 2) = false := by simpa using b
    have e3 : (width == 4) = false := by simpa using c
    clear a b c
    go_enter Try.func10, Try.ntmps10
    go_wp2
    go_ret
    exact ⟨rfl, rfl⟩

theorem fits_any (n width : Int) (w : World) (h0 : -2147483648 ≤ n) (h1 : n ≤ 2147483647) :
    Calls Try.prog 11 #[.int .i32 n, .int .i64 width] w fun e w' => e = .returned (.bool (fitsB n width)) ∧ w = w' := by
  rcases width_cases width with rfl | rfl | rfl | h
  · have H := fits_sgn (w := 1) h0 h1 rfl
    rw [← H]; clear H
    go_enter Try.func11, Try.ntmps11
    go_wp2_with (first | (go_at_call 28; refine (legal_any _ _).mono ?_; rintro e w' ⟨rfl, rfl⟩) | (go_at_call 9; refine (signed_any _ _ _ (by omega) (by omega)).mono ?_; rintro e w' ⟨rfl, rfl⟩))
    go_ret
    exact ⟨rfl, rfl⟩
  · have H := fits_sgn (w := 2) h0 h1 rfl
    rw [← H]; clear H
    go_enter Try.func11, Try.ntmps11
    go_wp2_with (first | (go_at_call 28; refine (legal_any _ _).mono ?_; rintro e w' ⟨rfl, rfl⟩) | (go_at_call 9; refine (signed_any _ _ _ (by omega) (by omega)).mono ?_; rintro e w' ⟨rfl, rfl⟩))
    go_ret
    exact ⟨rfl, rfl⟩
  · have H := fits_sgn (w := 4) h0 h1 rfl
    rw [← H]; clear H
    go_enter Try.func11, Try.ntmps11
    go_wp2_with (first | (go_at_call 28; refine (legal_any _ _).mono ?_; rintro e w' ⟨rfl, rfl⟩) | (go_at_call 9; refine (signed_any _ _ _ (by omega) (by omega)).mono ?_; rintro e w' ⟨rfl, rfl⟩))
    go_ret
    exact ⟨rfl, rfl⟩
  · have hl := legalB_not h
    rw [fitsB_not h]
    clear h
    go_enter Try.func11, Try.ntmps11
    go_wp2_with (first | (go_at_call 28; refine (legal_any _ _).mono ?_; rintro e w' ⟨rfl, rfl⟩))
    go_ret
    exact ⟨rfl, rfl⟩

theorem refFits_any (n width : Int) (w : World) (h0 : -2147483648 ≤ n) (h1 : n ≤ 2147483647) :
    Calls Try.prog 12 #[.int .i32 n, .int .i64 width] w fun e w' => e = .returned (.bool (fitsB n width)) ∧ w = w' := by
  rcases width_cases width with rfl | rfl | rfl | h
  · by_cases a : -128 ≤ n
    · by_cases b : n ≤ 127
      all_goals
        go_enter Try.func12, Try.ntmps12
        go_wp2
        go_ret
        exact ⟨ret_bool (by simp [fitsB]; omega), rfl⟩
    · go_enter Try.func12, Try.ntmps12
      go_wp2
      go_ret
      exact ⟨ret_bool (by simp [fitsB]; omega), rfl⟩
  · by_cases a : -32768 ≤ n
    · by_cases b : n ≤ 32767
      all_goals
        go_enter Try.func12, Try.ntmps12
        go_wp2
        go_ret
        exact ⟨ret_bool (by simp [fitsB]; omega), rfl⟩
    · go_enter Try.func12, Try.ntmps12
      go_wp2
      go_ret
      exact ⟨ret_bool (by simp [fitsB]; omega), rfl⟩
  · go_enter Try.func12, Try.ntmps12
    go_wp2
    go_ret
    exact ⟨rfl, rfl⟩
  · rw [fitsB_not h]
    obtain ⟨a, b, c⟩ := h
    have e1 : (width == 1) = false := by simpa using a
    have e2 : (width == 2) = false := by simpa using b
    have e3 : (width == 4) = false := by simpa using c
    clear a b c
    go_enter Try.func12, Try.ntmps12
    go_wp2
    go_ret
    exact ⟨rfl, rfl⟩
end Go.Proofs.Ytjcoanpnbaeobaa
