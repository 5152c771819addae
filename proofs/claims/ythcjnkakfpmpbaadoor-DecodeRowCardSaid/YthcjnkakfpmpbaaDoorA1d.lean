/- The walks of octet's functions that only compute: legal, Signed, Fits, and the reference's. No condition. -/
import Derived.Test.YthcjnkakfpmpbaaDoorRows
import Derived.Test.YthcjnkakfpmpbaaDoorA0
import Derived.Test.YthcjnkakfpmpbaaDoorP1
import Derived.Outline
import Derived.Lib.Hide
namespace Go.Proofs.YthcjnkakfpmpbaaDoor
open Go.RowKit
set_option linter.unusedVariables false

theorem signed_any (n width : Int) (w : World) (h0 : 0 ≤ n) (h1 : n < 4294967296) :
    Calls Tryd.prog 73 #[.int .u32 n, .int .i64 width] w fun e w' => e = .returned (.int .i32 (sgn n width)) ∧ w = w' := by
  rcases width_cases width with rfl | rfl | rfl | h
  · go_enter Tryd.func73, Tryd.ntmps73
    go_wp2_with (go_at_call 81; refine (legal_any _ _).mono ?_; rintro e w' ⟨rfl, rfl⟩)
    go_ret
    exact ⟨ret_int (by show wrap32 (n * 16777216 % 4294967296) / 16777216 = _; simp [sgn, wrap32]; omega), rfl⟩
  · go_enter Tryd.func73, Tryd.ntmps73
    go_wp2_with (go_at_call 81; refine (legal_any _ _).mono ?_; rintro e w' ⟨rfl, rfl⟩)
    go_ret
    exact ⟨ret_int (by show wrap32 (n * 65536 % 4294967296) / 65536 = _; simp [sgn, wrap32]; omega), rfl⟩
  · go_enter Tryd.func73, Tryd.ntmps73
    go_wp2_with (go_at_call 81; refine (legal_any _ _).mono ?_; rintro e w' ⟨rfl, rfl⟩)
    go_ret
    exact ⟨ret_int (by show wrap32 n = _; simp [sgn, wrap32]), rfl⟩
  · have hl := legalB_not h
    rw [sgn_not h]
    clear h
    go_enter Tryd.func73, Tryd.ntmps73
    go_wp2_with (go_at_call 81; refine (legal_any _ _).mono ?_; rintro e w' ⟨rfl, rfl⟩)
    go_ret
    exact ⟨rfl, rfl⟩

theorem refSigned_any (n width : Int) (w : World) (h0 : 0 ≤ n) (h1 : n < 4294967296) :
    Calls Tryd.prog 78 #[.int .u32 n, .int .i64 width] w fun e w' => e = .returned (.int .i32 (sgn n width)) ∧ w = w' := by
  rcases width_cases width with rfl | rfl | rfl | h
  · go_enter Tryd.func78, Tryd.ntmps78
    go_wp2
    go_ret
    exact ⟨ret_int (by show wrap32 (IntKind.i8.wrap n) = _; rw [wrap_i8]; simp [sgn, wrap32]; omega), rfl⟩
  · go_enter Tryd.func78, Tryd.ntmps78
    go_wp2
    go_ret
    exact ⟨ret_int (by show wrap32 (IntKind.i16.wrap n) = _; rw [wrap_i16]; simp [sgn, wrap32]; omega), rfl⟩
  · go_enter Tryd.func78, Tryd.ntmps78
    go_wp2
    go_ret
    exact ⟨ret_int (by show wrap32 n = _; simp [sgn, wrap32]), rfl⟩
  · rw [sgn_not h]
    obtain ⟨a, b, c⟩ := h
    have e1 : (width == 1) = false := by simpa using a
    have e2 : (width == 2) = false := by simpa using b
    have e3 : (width == 4) = false := by simpa using c
    clear a b c
    go_enter Tryd.func78, Tryd.ntmps78
    go_wp2
    go_ret
    exact ⟨rfl, rfl⟩
end Go.Proofs.YthcjnkakfpmpbaaDoor
